/-
  strings.Builder over this program.
-/
import Derived.Test.YthkkllmmbefedaaGreatDoorQGA8
import Derived.Test.YthkkllmmbefedaaGreatDoorQGA2
import Derived.Test.YthkkllmmbefedaaGreatDoorQGA6
import Derived.Test.YthkkllmmbefedaaGreatDoorQGA1
import Derived.Test.YthkkllmmbefedaaGreatDoorShelf
import Derived.Test.YthkkllmmbefedaaGreatDoorShelfB
import Derived.Test.YthkkllmmbefedaaGreatDoorQGA7
import Derived.Lib.AppendIntMem
import Derived.Shelf.Strings.BuilderK
import Derived.Deep.DeepCutAuto
namespace Go.Proofs.YthkkllmmbefedaaGreatDoor
open Go.RowKit
set_option maxHeartbeats 16000000
set_option maxRecDepth 100000
def Wi:List Int->Int
 | []=>0
 | x::r=>if x≠0 then x else Wi r
theorem oK (l:List Int) (hl:l.length<=100) (g o c:Nat) (w:World) (hc:∀k x,l[k]? = some x->w.cell? ⟨g,o+k,none⟩=some (.int .i64 x)) :
  Calls Tryz.prog 151 #[.slice (some ⟨g,o,none⟩) l.length c] w fun e w'=>e = .returned (.int .i64 (Wi l))/\w=w':=by
 have HC:=zh hc;clear hc
 go_enter Tryz.func151,Tryz.ntmps151
 go_wp2
 go_loop [8] (fun i=>∃k:Nat,k<=l.length/\i = .int .i64 k/\Hid (Wi l=Wi (l.drop k))) (fun i=>l.length - (intOf i).toNat)
 case atStart=>exact ⟨0,by omega,rfl,rfl⟩
 case round =>
  obtain ⟨k,hk,rfl,hh⟩:=hrel
  by_cases hlt:k<l.length
  ·have c0:w.cell? ⟨g,o+k,none⟩=some (.int .i64 l[k]):=HC.out k _ (zl hlt)
   have HD:=zh (AAv hlt)
   by_cases h0:l[k]=0
   ·have hb:(l[k] != 0)=false:=by simp[h0]
    have HN:Hid (Wi l=Wi (l.drop (k+1))):=by
     show _=_
     rw[hh.out,HD.out,Wi,Pd (by simp[h0])]
    clear h0;go_wp2
    go_round
    case rel=>exact ⟨k+1,by omega,by go_num,HN.out⟩
    case measure=>simp[intOf];omega
   ·have hb:(l[k] != 0)=true:=by simp[h0]
    have HN:Hid (Wi l=l[k]):=by
     show _=_
     rw[hh.out,HD.out,Wi,AAG h0]
    clear h0;go_wp2;go_ret;exact ⟨by rw[HN.out];rfl,rfl⟩
  ·have HN:Hid (Wi l=0):=by
    show _=_
    rw[hh.out,List.drop_of_length_le (by omega)];rfl
   go_wp2
   go_ret
   exact ⟨by rw[HN.out];rfl,rfl⟩
theorem RP (a b:Val) (hk:a.kind=b.kind) (pG:1<=a.kind/\a.kind<=4) (hi:a.kind=2->In64 a.int/\In64 b.int) (_hz:a.str.size<=9223372036854775807/\b.str.size<=9223372036854775807) (A1:zo) (c1:Nat) (A2:zo) (c2:Nat) (A3:zo) (c3:Nat) (B1:zo) (d1:Nat) (B2:zo) (d2:Nat) (B3:zo) (d3:Nat) (w:World) :
  Calls Tryz.prog 99 #[a.v A1 c1 A2 c2 A3 c3,b.v B1 d1 B2 d2 B3 d3] w fun e w'=>e = .returned (.int .i64 (BS a b))/\Below w.heap.size w w':=by
 have QZ:=zh (fun o1 o2=>zI w o1 o2)
 have q0:(a.kind != b.kind)=false:=by simp[hk]
 have HC:Hid (a.kind≠b.kind->False):=fun h=>h hk
 have hk4:a.kind=1\/a.kind=2\/a.kind=3\/a.kind=4:=by omega
 rcases hk4 with e|e|e|e
 ·have hkb:b.kind=1:=by omega
  clear pG hi _hz q0
  cases ha:a.bool with
  | true =>
   cases hb:b.bool with
   | true =>
    have HD:Hid (BS a b=0):=by show _=_;unfold BS;rw[Pd (by simp[hk]),AAG e,ha,hb];rfl
    clear hk
    go_enter Tryz.func99,Tryz.ntmps99
    go_wp2
    go_ret
    exact ⟨by rw[HD.out];rfl,QZ.out _ _⟩
   | false =>
    have HD:Hid (BS a b=1):=by show _=_;unfold BS;rw[Pd (by simp[hk]),AAG e,ha,hb];rfl
    clear hk
    go_enter Tryz.func99,Tryz.ntmps99
    go_wp2
    go_ret
    exact ⟨by rw[HD.out];rfl,QZ.out _ _⟩
  | false =>
   cases hb:b.bool with
   | true =>
    have HD:Hid (BS a b = -1):=by show _=_;unfold BS;rw[Pd (by simp[hk]),AAG e,ha,hb];rfl
    clear hk
    go_enter Tryz.func99,Tryz.ntmps99
    go_wp2
    go_ret
    exact ⟨by rw[HD.out];rfl,QZ.out _ _⟩
   | false =>
    have HD:Hid (BS a b=0):=by show _=_;unfold BS;rw[Pd (by simp[hk]),AAG e,ha,hb];rfl
    clear hk
    go_enter Tryz.func99,Tryz.ntmps99
    go_wp2
    go_ret
    exact ⟨by rw[HD.out];rfl,QZ.out _ _⟩
 ·have hkb:b.kind=2:=by omega
  have HD:Hid (BS a b=DZ (O6 a.int) (O6 b.int)):=by show _=_;unfold BS;rw[Pd (by simp[hk]),Pd (by omega),AAG e]
  have HI:=zh (hi e);clear pG hi hk _hz
  go_enter Tryz.func99,Tryz.ntmps99
  go_upto_region 11 with fail
  refine wp_region_held_drew (S:=(fun w'=>w'.cell? ⟨w.heap.size,2,none⟩=some (.int .i64 a.int)/\w'.cell? ⟨w.heap.size+1,2,none⟩=some (.int .i64 b.int))) (by kernel_rfl) ?_ (fun AO=>?_)
  ·(try dsimp only);go_simp
  refine tL 0 ?_;refine tL 1 ?_;refine tL 3 ?_;refine tL 4 ?_;refine tR 2 (fun K hK=>?_)
  go_simp
  (refine (V4 a.int HI.out.1 _).mono ?_;rintro e w3 ⟨rfl,rfl⟩)
  refine hK.out _ _ ?_ (fun AO=>?_)
  ·(try dsimp only);exact AO
  clear hK K;refine tR 5 (fun K hK=>?_)
  go_simp
  (refine (V4 b.int HI.out.2 _).mono ?_;rintro e w3 ⟨rfl,rfl⟩)
  refine hK.out _ _ ?_ (fun AO=>?_)
  ·(try dsimp only);exact AO
  clear hK K;try simp only[ps]
  refine tR 6 (fun K hK=>?_)
  go_simp
  (refine (RN _ _ _).mono ?_;rintro e w3 ⟨rfl,rfl⟩)
  refine hK.out _ _ ?_ (fun AO=>?_)
  ·(try dsimp only);exact AO
  clear hK K;refine tL 7 ?_;refine wpAnyH_done (by kernel_rfl) ?_ _
  clear AO;go_wp2;go_ret;exact ⟨by rw[HD.out];rfl,zC (QZ.out _ _) 1⟩
 ·have hkb:b.kind=3:=by omega
  have HD:Hid (BS a b=Wi [DZ a.str.size b.str.size,M4 a.str b.str]):=by
   show _=_;unfold BS Wi Wi Wi;rw[Pd (by simp[hk]),Pd (by omega),Pd (by omega),AAG e]
   split
   ·rfl
   ·split
    ·rfl
    ·rename_i h;exact Decidable.not_not.1 h
  clear pG hi hk
  go_enter Tryz.func99,Tryz.ntmps99
  go_upto_region 13 with fail
  refine wp_region_held_drew (S:=(fun w'=>(w'.cell? ⟨w.heap.size,3,none⟩=some (.string a.str)/\w'.cell? ⟨w.heap.size+1,3,none⟩=some (.string b.str))/\Hid (Below w.heap.size w w'))) (by kernel_rfl) ?_ (fun AO=>?_)
  ·(try dsimp only);exact ⟨by go_simp,zC (QZ.out _ _) 1⟩
  refine tL 0 ?_;refine tL 1 ?_;refine tL 2 ?_;refine tL 3 ?_;try simp only[ps]
  refine tL 4 ?_;refine tL 5 ?_;refine tL 7 ?_;refine tL 8 ?_;refine tL 9 ?_;refine tL 10 ?_;try simp only[ps]
  refine tR 6 (fun K hK=>?_)
  go_simp
  (refine (LB _ _ _).mono ?_;rintro e w3 ⟨rfl,rfl⟩)
  refine hK.out _ _ ?_ (fun AO=>?_)
  ·(try dsimp only);exact AO
  clear hK K;refine tR 11 (fun K hK=>?_)
  go_simp
  (refine (RO _ _ _).mono ?_;rintro e w3 ⟨rfl,rfl⟩)
  refine hK.out _ _ ?_ (fun AO=>?_)
  ·(try dsimp only);exact AO
  clear hK K;refine tR 12 (fun K hK=>?_)
  go_simp
  refine hK.out _ _ ?_ (fun AO=>?_)
  ·(try dsimp only);exact ⟨⟨zA (zD _ _) AO.1.1,zA (zD _ _) AO.1.2⟩,zB AO.2.out (zD _ _)⟩
  clear hK K;refine tR 13 (fun K hK=>?_)
  go_simp
  (refine (oK [DZ a.str.size b.str.size,M4 a.str b.str] (by simp) _ 0 2 _ ?AAD).mono ?_;(case AAD=>(intro k x hx;match k,hx with|0,hx=>(obtain rfl:=AAm hx;go_simp)|1,hx=>(obtain rfl:=AAm hx;go_simp)|k+2,hx=>cases hx));rintro e w3 ⟨rfl,rfl⟩)
  refine hK.out _ _ ?_ (fun AO=>?_)
  ·(try dsimp only);exact AO
  clear hK K;refine tL 14 ?_;refine wpAnyH_done (by kernel_rfl) ?_ _
  have mD:=zh AO.2.out;clear AO;go_wp2;go_ret;exact ⟨by rw[HD.out];rfl,mD.out⟩
 ·have hkb:b.kind=4:=by omega
  have HD:Hid (BS a b=DZ a.id b.id):=by show _=_;unfold BS;rw[Pd (by simp[hk]),Pd (by omega),Pd (by omega),Pd (by omega),AAG e]
  clear pG hi hk _hz
  go_enter Tryz.func99,Tryz.ntmps99
  go_wp2_with fail
  refine (LB _ _ _).mono ?_;rintro e w3 ⟨rfl,rfl⟩;go_wp2;go_ret;exact ⟨by rw[HD.out];rfl,QZ.out _ _⟩
theorem NP:∀ (l:List Val),(∀j (h:j+1<l.length),BS l[j] l[j+1]<0)->F8 l=true
 | [],_=>rfl
 | [_],_=>rfl
 | a::b::r,h=>by
  unfold F8;rw[NP (b::r) fun j hj=>h (j+1) (by simpa using hj),Bool.and_true]
  exact AAX (h 0 (by simp))
theorem RX:∀ (l:List Val) (j:Nat) (h:j+1<l.length),¬ BS l[j] l[j+1]<0->F8 l=false
 | [],_,h,_=>by cases h
 | [_],j,h,_=>by simp at h
 | a::b::r,0,_,hn=>by
  unfold F8;have hn':¬ BS a b<0:=hn;rw[AAU hn',Bool.false_and]
 | a::b::r,j+1,h,hn=>by
  unfold F8;rw[RX (b::r) j (by simpa using h) hn,Bool.and_false]
variable {s:List Ae}
theorem RI {plain:Bool} (hv:zQ s=0) (kG:Bq s) {x:Ae} (hx:x∈s) (hk:x.kind=8):∀ (n:Nat) (y:Val),AU s plain n x.key y=true->(1<=y.kind/\y.kind<=4)/\y.kind=(AB s x.key).kind/\(y.kind=2->In64 y.int)
 | 0,_,h=>by simp[AU] at h
 | n+1,y,h=>by
  have hkk:=PD hv hx hk;unfold AU at h
  split at h
  ·cases h
  ·rename_i h1
   split at h
   ·cases h
   ·rename_i h2
    have hkd:y.kind=(AB s x.key).kind:=Decidable.not_not.1 fun h3=>h2 (.inl h3)
    have hmem:AB s x.key∈s:=FX ⟨by omega,by omega⟩
    unfold Bc at hkk;simp only[AAJ,AAd] at hkk;refine ⟨by rw[hkd];exact hkk,hkd,fun h3=>?_⟩
    unfold AY at h;rw[AAG (hkd▸h3)] at h;simp only[AAJ,AAd] at h;obtain ⟨⟨l1,_⟩,⟨_,l2⟩⟩:=kG _ hmem;unfold In64
    omega
theorem PZ (v:Val):0<SizeOf.sizeOf v:=by
 obtain ⟨k,b,i,st,id,ks,is,r⟩:=v;simp only[Val.mk.sizeOf_spec]
 omega
theorem dx {α:Type} {l:List α} {p:α->Bool} (h:∀j (h:j<l.length),p l[j]=false):l.any p=false:=by
 rw[List.any_eq_false]
 intro x hx
 obtain ⟨j,hj,rfl⟩:=AAw hx;simp[h j hj]
theorem XM {α:Type} {l:List α} {p:α->Bool} {j:Nat} (hj:j<l.length) (h:p l[j]=true):l.any p=true:=ABO.2 ⟨_,AAK hj,h⟩
def eH (w : World) : Prop := Lib.TabIs Tryz.prog w "internal/strconv.uint64pow10" .u64 Lib.pow10Tab
variable {w:World}
theorem eH.below {w':World} (h:eH w) (hb:Below w.heap.size w w'):eH w':=Lib.tabBelow_of_tabIs h w' hb
theorem N8 (n:Int) (hn:In64 n) (w:World) (ht:eH w) :
  Calls Tryz.prog 59 #[.int .i64 n] w fun e w'=>e = .returned (.string (D5 n))/\Below w.heap.size w w' :=
 (Tryz.strconv_Itoa n hn.1 hn.2 w ht).mono fun e w' ⟨he,k,os,hw⟩=>⟨he,by subst hw;exact Lib.below_grow _ _ (AAH _) _ _⟩
section
variable {α:Type} {f:α->α}
end
section
variable {E k:Nat} {base g n c:Nat} {css:List (List Value)}
end
section
variable {α:Type} {E k:Nat} {at_:World->α->List Value->Prop} {wr:World} {base H3 H:Nat} {A:zo} {c:Nat} {l:List α} {i:Nat}
end
theorem Bu.at_one {x:Bu} {cs:List Value} (h:x.At cs):cs.length=2/\∀u∈cs,u.oneCell'=true:=by
 obtain ⟨_,rfl⟩:=h;refine ⟨rfl,?_⟩
 intro u hu
 simp only[AAr,List.mem_nil_iff,or_false] at hu
 rcases hu with rfl|rfl <;> rfl
theorem AZ.at_one {x:AZ} {cs:List Value} (h:x.At w cs):cs.length=13/\∀u∈cs,u.oneCell'=true:=by
 obtain ⟨A1,c1,A2,c2,A3,c3,rfl,_⟩:=h;refine ⟨rfl,?_⟩
 intro u hu
 simp only[AAr,List.mem_nil_iff,or_false] at hu
 rcases hu with rfl|rfl|rfl|rfl|rfl|rfl|rfl|rfl|rfl|rfl|rfl|rfl|rfl <;> rfl
theorem kU (n:Int) (hn:In64 n) (w:World) (ht:eH w) :
  Calls Tryz.prog 55 #[.int .i64 n,.int .i64 10] w fun e w'=>e = .returned (.string (D5 n))/\Below w.heap.size w w' :=
 (Tryz.strconv_FormatInt_10 n hn.1 hn.2 w ht).mono fun e w' ⟨he,k,os,hw⟩=>⟨he,by subst hw;exact Lib.below_grow _ _ (AAH _) _ _⟩
theorem QA {W:World} {b:Nat} {m:AZ} {A1:zo} {c1:Nat} {A2:zo} {c2:Nat} {A3:zo} {c3:Nat} (h:W.heap[b]? = some (m.box A1 c1 A2 c2 A3 c3)) :
  W.cell? ⟨b,0,none⟩=some (.int .i64 m.id)/\W.cell? ⟨b,1,none⟩=some (.string m.name)/\W.cell? ⟨b,2,none⟩=some (.int .i64 m.type)/\W.cell? ⟨b,3,none⟩=some (.bool m.critical)/\W.cell? ⟨b,4,none⟩=some (.bool m.ED)/\W.cell? ⟨b,5,none⟩=some (.int .i64 m.dflt.kind)/\W.cell? ⟨b,6,none⟩=some (.bool m.dflt.bool)/\W.cell? ⟨b,7,none⟩=some (.int .i64 m.dflt.int)/\W.cell? ⟨b,8,none⟩=some (.string m.dflt.str)/\W.cell? ⟨b,9,none⟩=some (.int .i64 m.dflt.id)/\W.cell? ⟨b,10,none⟩=some (.slice A1 m.dflt.keys.length c1)/\W.cell? ⟨b,11,none⟩=some (.slice A2 m.dflt.items.length c2)/\W.cell? ⟨b,12,none⟩=some (.slice A3 m.dflt.rest.length c3):=by
 refine ⟨?_,?_,?_,?_,?_,?_,?_,?_,?_,?_,?_,?_,?_⟩ <;> (rw[AAE _ _ _ _ _ _ h];rfl)
theorem NH (hv:zQ s=0):eX s:=⟨fun t h5 h6=>by
 rcases Qe s t with h|h
 ·rw[h];rfl
 ·have hf:=(DV hv h).1
  unfold Fx at hf;simp only[AAJ,AAd] at hf;obtain ⟨⟨⟨⟨hk1,hk2⟩,hp⟩,_⟩,hc⟩:=hf;have h1:(FB (AB s t)).AA=[]:=by
   unfold FB;rw[Pd h5,Pd h6]
   repeat' split
   all_goals rfl
  rw[hp];exact h1⟩
section
variable {s:List Ae} {t:Int} {x:Val} {p:Int} {q:List Int}
theorem au (hM:eX s) (hf:BH s false t x=true) (ha:(CO s t x (p::q)).isSome=true) {k:Nat} (hi:BD (fun m:AZ=>decide (m.id=p)) (AB s t).AA=(k:Int)) (hk:k<(AB s t).AA.length) :
  (∃y,BH s false ((AB s t).AA[k]).type y=true/\(CO s ((AB s t).AA[k]).type y q).isSome=true)/\BL s t (p::q)=⟨#[46]⟩++((AB s t).AA[k]).name++BL s ((AB s t).AA[k]).type q:=by
 have mQ:(AB s t).AA.find? (fun m=>decide (m.id=p))=some (AB s t).AA[k]:=by
  rw[Gu,hi,Pd (by omega),show ((k:Nat):Int).toNat=k by omega,zl hk]
 refine ⟨?_,by rw[BL,mQ]⟩
 by_cases h5:(AB s t).kind=5
 ·obtain ⟨g1,_,g3⟩:=F7 hf h5 p q
  obtain ⟨g4,g5⟩:=g3 k hi hk (by rw[g1];exact hk)
  exact ⟨_,g5,by rw[<-g4];exact ha⟩
 ·by_cases h6:(AB s t).kind=6
  ·obtain ⟨_,g2,g3⟩:=JD hf h6 p q
   by_cases hp:p=x.id
   ·obtain ⟨g4,g5,g6,g7⟩:=g3 k hi hp
    exact ⟨_,g7,by rw[<-g6];exact ha⟩
   ·rw[g2 hp] at ha;cases ha
  ·rw[hM.no t h5 h6] at hk
   cases hk
theorem av (hv:zQ s=0) (hf:BH s false t x=true) (ha:(CO s t x (p::q)).isSome=true) (hi:BD (fun m:AZ=>decide (m.id=p)) (AB s t).AA<0) :
  (∃y,BH s false (AB s t).elem y=true/\(CO s (AB s t).elem y q).isSome=true)/\BL s t (p::q)=⟨#[91]⟩++D5 p++⟨#[93]⟩++BL s (AB s t).elem q/\In64 p:=by
 have mQ:(AB s t).AA.find? (fun m=>decide (m.id=p))=none:=by rw[Gu,AAG hi]
 have h5:(AB s t).kind≠5:=fun h5=>by rw[(F7 hf h5 p q).2.1 hi] at ha;cases ha
 have h6:(AB s t).kind≠6:=fun h6=>by rw[(JD hf h6 p q).1 hi] at ha;cases ha
 obtain ⟨g1,g2,g3⟩:=J6 hf h5 h6 p q
 by_cases hp0:p<0
 ·rw[g1 hp0] at ha;cases ha
 by_cases hpl:(x.items.length:Int)<=p
 ·rw[g2 hpl] at ha;cases ha
 obtain ⟨hc,g4,g5⟩:=g3 p.toNat (by omega) (by omega)
 refine ⟨⟨_,g5,by rw[<-g4];exact ha⟩,by rw[BL,mQ],?_⟩
 obtain ⟨r0,r1,_⟩:=Kz hf;have hmx:=om hv ⟨r0,r1⟩;obtain ⟨n,hf⟩:=Ho hf;obtain ⟨_,_,_,hb⟩:=DL hf;unfold AY at hb;unfold In64 at hmx ⊢;have hil:(x.items.length:Int)<=9223372036854775807:=by
  rcases hc with hc|hc|hc
  ·rw[Pd (by omega),Pd (by omega),Pd (by omega),Pd h5,Pd h6,AAG hc] at hb
   simp only[AAJ,AAd] at hb
   omega
  ·rw[Pd (by omega),Pd (by omega),Pd (by omega),Pd h5,Pd h6,Pd (by omega),AAG hc] at hb
   simp only[AAJ,AAd] at hb;have:=hb.1.1.1.1;have:=hb.1.1.1.2
   omega
  ·rw[Pd (by omega),Pd (by omega),Pd (by omega),Pd h5,Pd h6,Pd (by omega),Pd (by omega),AAG hc] at hb
   simp only[AAJ,AAd] at hb
   omega
 omega
end
def Ew (s:List Ae) (t:Int) (p:List Int) (n:Nat) (tn:Int) (o:ByteArray):Prop :=
 (∃y,BH s false tn y=true/\(CO s tn y (p.drop n)).isSome=true)/\o++BL s tn (p.drop n)=BL s t p/\o.size<=30 * n
variable {t:Int} {p:List Int}
theorem Ew.start {v:Val} (hf:BH s false t v=true) (ha:(CO s t v p).isSome=true):Ew s t p 0 t ⟨#[]⟩ :=
 ⟨⟨v,hf,ha⟩,by show ByteArray.empty++_=_;rw[ByteArray.empty_append];rfl,AAH _⟩
variable {o:ByteArray} {tn:Int} {n:Nat}
theorem Ew.idx (h:Ew s t p n tn o) (hv:zQ s=0) (hs:QU s) (hn:n<p.length) {k:Nat} (hi:BD (fun m:AZ=>decide (m.id=p[n])) (AB s tn).AA=(k:Int)) (hk:k<(AB s tn).AA.length):
  Ew s t p (n+1) ((AB s tn).AA[k]).type (o++(⟨#[46]⟩++((AB s tn).AA[k]).name))/\((AB s tn).AA[k]).name.size<=24:=by
 obtain ⟨⟨y,h1,h2⟩,h3,h4⟩:=h;rw[AAv hn] at h2 h3;obtain ⟨g1,g2⟩:=au (NH hv) h1 h2 hi hk;have hz:=YJ ((hs.nam tn).AA _ (AAK hk));refine ⟨⟨g1,?_,?_⟩,hz⟩
 ·rw[<-h3,g2];simp only[AA8]
 ·rw[AAa,AAa]
  have:(⟨#[46]⟩:ByteArray).size=1:=rfl
  omega
theorem Ew.els (h:Ew s t p n tn o) (hv:zQ s=0) (hn:n<p.length) (hi:BD (fun m:AZ=>decide (m.id=p[n])) (AB s tn).AA<0):
  Ew s t p (n+1) (AB s tn).elem (o++(⟨#[91]⟩++D5 p[n]++⟨#[93]⟩))/\In64 p[n]/\(D5 p[n]).size<=21:=by
 obtain ⟨⟨y,h1,h2⟩,h3,h4⟩:=h;rw[AAv hn] at h2 h3;obtain ⟨g1,g2,g3⟩:=av hv h1 h2 hi;have hz:=ku g3;refine ⟨⟨g1,?_,?_⟩,g3,hz⟩
 ·rw[<-h3,g2];simp only[AA8]
 ·rw[AAa,AAa,AAa]
  have e1:(⟨#[91]⟩:ByteArray).size=1:=rfl;have e2:(⟨#[93]⟩:ByteArray).size=1:=rfl
  omega
theorem Ew.end_ (h:Ew s t p n tn o) (hn:p.length<=n):o=BL s t p:=by
 obtain ⟨_,h3,_⟩:=h;rw[AA7 hn,BL] at h3;rw[<-h3]
 show o=o++ByteArray.empty
 rw[ByteArray.append_empty]
theorem Ew.rng (h:Ew s t p n tn o):0<=tn/\tn<(s.length:Int):=by
 obtain ⟨⟨y,h1,_⟩,_⟩:=h;have:=Kz h1;exact ⟨this.1,this.2.1⟩
def Us:Go.Shelf.Ren:=⟨fun|166=>23|167=>69|240=>54|276=>88|n=>n,fun|70=>55|72=>57|37=>40|75=>61|76=>62|80=>66|127=>113|164=>148|n=>n,fun|n=>n⟩
theorem Ws:Go.Proofs.Lays.n166 Tryz.prog Us:={
 mixed:=by kernel_rfl
 f166:=Tryz.func23.trans (congrArg some (by kernel_rfl))
 f240:=Tryz.func54.trans (congrArg some (by kernel_rfl))
 f276:=Tryz.func88.trans (congrArg some (by kernel_rfl))
 t0:=Tryz.underlying0
 a0:=Tryz.isAgg0
 z0:=Tryz.sizeOf0
 v0:=Tryz.zeroValue0
 t3:=Tryz.underlying3
 a3:=Tryz.isAgg3
 z3:=Tryz.sizeOf3
 v3:=Tryz.zeroValue3
 t4:=Tryz.underlying4
 a4:=Tryz.isAgg4
 z4:=Tryz.sizeOf4
 v4:=Tryz.zeroValue4
 t9:=Tryz.underlying9
 a9:=Tryz.isAgg9
 z9:=Tryz.sizeOf9
 v9:=Tryz.zeroValue9
 t20:=Tryz.underlying20
 a20:=Tryz.isAgg20
 z20:=Tryz.sizeOf20
 v20:=Tryz.zeroValue20
 t37:=Tryz.underlying40
 a37:=Tryz.isAgg40
 z37:=Tryz.sizeOf40
 v37:=Tryz.zeroValue40
 t70:=Tryz.underlying55
 a70:=Tryz.isAgg55
 z70:=Tryz.sizeOf55
 v70:=Tryz.zeroValue55
 t72:=Tryz.underlying57
 a72:=Tryz.isAgg57
 z72:=Tryz.sizeOf57
 v72:=Tryz.zeroValue57
 t75:=Tryz.underlying61
 a75:=Tryz.isAgg61
 z75:=Tryz.sizeOf61
 v75:=Tryz.zeroValue61
 t164:=Tryz.underlying148
 a164:=Tryz.isAgg148
 z164:=Tryz.sizeOf148
 v164:=Tryz.zeroValue148 }
theorem Tp:Builder.Extra Tryz.prog Us:={
 sizeBuilder:=by kernel_rfl
 liesBuilder:=by kernel_rfl
 t5:=Tryz.underlying5
 a5:=Tryz.isAgg5
 z5:=Tryz.sizeOf5
 v5:=Tryz.zeroValue5
 infoByte:=by kernel_rfl
 cellsByte:=by kernel_rfl
 sizeByte:=by kernel_rfl
 neB5:=by decide }
theorem Mx {B b:Nat} {bs:List Value} {w':World} (h:Lib.IsBuilder 57 5 B b bs w) (hb:Below w.heap.size w w'):Lib.IsBuilder 57 5 B b bs w':=by
 have hg:w.grownBy w' none:=⟨hb.os,hb.tape,hb.output,hb.size,fun k hk _=>hb.block k hk⟩
 have step:∀p,Lib.BuilderAt 57 5 B b p bs w->Lib.BuilderAt 57 5 B b p bs w':=fun p h=>by
  have hlt:=h.lt;obtain ⟨hB,v,hbk,hown,hne⟩:=h;refine ⟨hB,v,(hb.block b hlt).trans hbk,?_,hne⟩
  rcases hv:v.ownBlock with _|g
  ·exact hown.kept hg (Or.inl hv)
  ·exact hown.kept hg (Or.inr (by rw[hv];simp))
 exact h.imp (step _) (step _)
def Qb (w:World) (B b:Nat) (s:ByteArray):Prop:=Lib.IsBuilder 57 5 B b (Lib.strCells s) w
section
variable {w w':World} {B b:Nat} {s:ByteArray}
theorem Qb.below (h:Qb w B b s) (hb:Below w.heap.size w w'):Qb w' B b s:=Mx h hb
theorem Qb.new (w:World) (hB:B<=w.heap.size):Qb (w.alloc (.cells #[.pointer none,.slice none 0 0] 57)) B w.heap.size ⟨#[]⟩:=Or.inl ⟨hB,.slice none 0 0,AAC w _,World.ownsRow_nil _ _ _ _,by simp[Value.ownBlock]⟩
theorem Ke (a b:ByteArray):Lib.strCells a++Lib.strCells b=Lib.strCells (a++b):=by
 unfold Lib.strCells;rw[ByteArray.data_append,Array.toList_append,List.map_append]
end
end Go.Proofs.YthkkllmmbefedaaGreatDoor



