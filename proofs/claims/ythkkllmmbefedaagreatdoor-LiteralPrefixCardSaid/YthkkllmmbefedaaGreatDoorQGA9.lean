/-
  strings.Builder over this program.
-/
import Derived.Test.YthkkllmmbefedaaGreatDoorQGA8
import Derived.Test.YthkkllmmbefedaaGreatDoorShelf
import Derived.Test.YthkkllmmbefedaaGreatDoorShelfB
import Derived.Lib.AppendIntMem
namespace Go.Proofs.YthkkllmmbefedaaGreatDoor
open Go.RowKit Tryz
set_option maxHeartbeats 16000000
set_option maxRecDepth 100000
def ZC:List Int->Int
 | []=>0
 | x::r=>if x≠0 then x else ZC r
theorem vP (l:List Int) (hl:l.length<=100) (g o c:Nat) (w:World) (hc:∀k x,l[k]? = some x->w.cell? ⟨g,o+k,none⟩=some (.int .i64 x)) :
  Calls prog 151 #[.slice (some ⟨g,o,none⟩) l.length c] w fun e w'=>e = .returned (.int .i64 (ZC l))/\w=w':=by
 have HC:=zh hc;clear hc
 go_enter func151,ntmps151
 go_wp2
 go_loop [8] (fun i=>∃k:Nat,k<=l.length/\i = .int .i64 k/\Hid (ZC l=ZC (l.drop k))) (fun i=>l.length - (intOf i).toNat)
 case atStart=>exact ⟨0,by omega,rfl,rfl⟩
 case round =>
  obtain ⟨k,hk,rfl,hh⟩:=hrel
  by_cases hlt:k<l.length
  ·have c0:w.cell? ⟨g,o+k,none⟩=some (.int .i64 l[k]):=HC.O k _ (zl hlt)
   have HD:=zh (ABf hlt)
   by_cases h0:l[k]=0
   ·have hb:(l[k] != 0)=false:=by simp[h0]
    have HN:Hid (ZC l=ZC (l.drop (k+1))):=by
     show _=_
     rw[hh.O,HD.O,ZC,Pd (by simp[h0])]
    clear h0;go_wp2
    go_round
    case rel=>exact ⟨k+1,by omega,by go_num,HN.O⟩
    case measure=>simp[intOf];omega
   ·have hb:(l[k] != 0)=true:=by simp[h0]
    have HN:Hid (ZC l=l[k]):=by
     show _=_
     rw[hh.O,HD.O,ZC,AAB h0]
    clear h0;go_wp2;go_ret;exact ⟨by rw[HN.O];rfl,rfl⟩
  ·have HN:Hid (ZC l=0):=by
    show _=_
    rw[hh.O,List.drop_of_length_le (by omega)];rfl
   go_wp2
   go_ret
   exact ⟨by rw[HN.O];rfl,rfl⟩
theorem Tg (a b:Val) (hk:a.kind=b.kind) (wN:1<=a.kind/\a.kind<=4) (hi:a.kind=2->In64 a.int/\In64 b.int) (_hz:a.str.size<=9223372036854775807/\b.str.size<=9223372036854775807) (A1:zo) (c1:Nat) (A2:zo) (c2:Nat) (A3:zo) (c3:Nat) (B1:zo) (d1:Nat) (B2:zo) (d2:Nat) (B3:zo) (d3:Nat) (w:World) :
  Calls prog 99 #[a.v A1 c1 A2 c2 A3 c3,b.v B1 d1 B2 d2 B3 d3] w fun e w'=>e = .returned (.int .i64 (BZ a b))/\Below w.heap.size w w':=by
 have SC:=zh (fun o1 o2=>zI w o1 o2)
 have q0:(a.kind != b.kind)=false:=by simp[hk]
 have HC:Hid (a.kind≠b.kind->False):=fun h=>h hk
 have hk4:a.kind=1\/a.kind=2\/a.kind=3\/a.kind=4:=by omega
 rcases hk4 with e|e|e|e
 ·have hkb:b.kind=1:=by omega
  clear wN hi _hz q0
  cases ha:a.bool with
  | true =>
   cases hb:b.bool with
   | true =>
    have HD:Hid (BZ a b=0):=by show _=_;unfold BZ;rw[Pd (by simp[hk]),AAB e,ha,hb];rfl
    clear hk
    go_enter func99,ntmps99
    go_wp2
    go_ret
    exact ⟨by rw[HD.O];rfl,SC.O _ _⟩
   | false =>
    have HD:Hid (BZ a b=1):=by show _=_;unfold BZ;rw[Pd (by simp[hk]),AAB e,ha,hb];rfl
    clear hk
    go_enter func99,ntmps99
    go_wp2
    go_ret
    exact ⟨by rw[HD.O];rfl,SC.O _ _⟩
  | false =>
   cases hb:b.bool with
   | true =>
    have HD:Hid (BZ a b = -1):=by show _=_;unfold BZ;rw[Pd (by simp[hk]),AAB e,ha,hb];rfl
    clear hk
    go_enter func99,ntmps99
    go_wp2
    go_ret
    exact ⟨by rw[HD.O];rfl,SC.O _ _⟩
   | false =>
    have HD:Hid (BZ a b=0):=by show _=_;unfold BZ;rw[Pd (by simp[hk]),AAB e,ha,hb];rfl
    clear hk
    go_enter func99,ntmps99
    go_wp2
    go_ret
    exact ⟨by rw[HD.O];rfl,SC.O _ _⟩
 ·have hkb:b.kind=2:=by omega
  have HD:Hid (BZ a b=Dz (Qy a.int) (Qy b.int)):=by show _=_;unfold BZ;rw[Pd (by simp[hk]),Pd (by omega),AAB e]
  have HI:=zh (hi e);clear wN hi hk _hz
  go_enter func99,ntmps99
  go_upto_region 11 with fail
  refine wp_region_held_drew (S:=(fun w'=>w'.cell? ⟨w.heap.size,2,none⟩=some (.int .i64 a.int)/\w'.cell? ⟨w.heap.size+1,2,none⟩=some (.int .i64 b.int))) (by kernel_rfl) ?_ (fun AQ=>?_)
  ·(try dsimp only);go_simp
  refine tL 0 ?_;refine tL 1 ?_;refine tL 3 ?_;refine tL 4 ?_;refine tR 2 (fun K hK=>?_)
  go_simp
  (refine (Yd a.int HI.O.1 _).mono ?_;rintro e w3 ⟨rfl,rfl⟩)
  refine hK.out _ _ ?_ (fun AQ=>?_)
  ·(try dsimp only);exact AQ
  clear hK K;refine tR 5 (fun K hK=>?_)
  go_simp
  (refine (Yd b.int HI.O.2 _).mono ?_;rintro e w3 ⟨rfl,rfl⟩)
  refine hK.out _ _ ?_ (fun AQ=>?_)
  ·(try dsimp only);exact AQ
  clear hK K;try simp only[ps]
  refine tR 6 (fun K hK=>?_)
  go_simp
  (refine (Te _ _ _).mono ?_;rintro e w3 ⟨rfl,rfl⟩)
  refine hK.out _ _ ?_ (fun AQ=>?_)
  ·(try dsimp only);exact AQ
  clear hK K;refine tL 7 ?_;refine wpAnyH_done (by kernel_rfl) ?_ _
  clear AQ;go_wp2;go_ret;exact ⟨by rw[HD.O];rfl,zC (SC.O _ _) 1⟩
 ·have hkb:b.kind=3:=by omega
  have HD:Hid (BZ a b=ZC [Dz a.str.size b.str.size,Ot a.str b.str]):=by
   show _=_;unfold BZ ZC ZC ZC;rw[Pd (by simp[hk]),Pd (by omega),Pd (by omega),AAB e]
   split
   ·rfl
   ·split
    ·rfl
    ·rename_i h;exact Decidable.not_not.1 h
  clear wN hi hk
  go_enter func99,ntmps99
  go_upto_region 13 with fail
  refine wp_region_held_drew (S:=(fun w'=>(w'.cell? ⟨w.heap.size,3,none⟩=some (.string a.str)/\w'.cell? ⟨w.heap.size+1,3,none⟩=some (.string b.str))/\Hid (Below w.heap.size w w'))) (by kernel_rfl) ?_ (fun AQ=>?_)
  ·(try dsimp only);exact ⟨by go_simp,zC (SC.O _ _) 1⟩
  refine tL 0 ?_;refine tL 1 ?_;refine tL 2 ?_;refine tL 3 ?_;try simp only[ps]
  refine tL 4 ?_;refine tL 5 ?_;refine tL 7 ?_;refine tL 8 ?_;refine tL 9 ?_;refine tL 10 ?_;try simp only[ps]
  refine tR 6 (fun K hK=>?_)
  go_simp
  (refine (Mg _ _ _).mono ?_;rintro e w3 ⟨rfl,rfl⟩)
  refine hK.out _ _ ?_ (fun AQ=>?_)
  ·(try dsimp only);exact AQ
  clear hK K;refine tR 11 (fun K hK=>?_)
  go_simp
  (refine (Tf _ _ _).mono ?_;rintro e w3 ⟨rfl,rfl⟩)
  refine hK.out _ _ ?_ (fun AQ=>?_)
  ·(try dsimp only);exact AQ
  clear hK K;refine tR 12 (fun K hK=>?_)
  go_simp
  refine hK.out _ _ ?_ (fun AQ=>?_)
  ·(try dsimp only);exact ⟨⟨zA (zD _ _) AQ.1.1,zA (zD _ _) AQ.1.2⟩,zB AQ.2.O (zD _ _)⟩
  clear hK K;refine tR 13 (fun K hK=>?_)
  go_simp
  (refine (vP [Dz a.str.size b.str.size,Ot a.str b.str] (by simp) _ 0 2 _ ?ADQ).mono ?_;(case ADQ=>(intro k x hx;match k,hx with|0,hx=>(obtain rfl:=ABW hx;go_simp)|1,hx=>(obtain rfl:=ABW hx;go_simp)|k+2,hx=>cases hx));rintro e w3 ⟨rfl,rfl⟩)
  refine hK.out _ _ ?_ (fun AQ=>?_)
  ·(try dsimp only);exact AQ
  clear hK K;refine tL 14 ?_;refine wpAnyH_done (by kernel_rfl) ?_ _
  have sN:=zh AQ.2.O;clear AQ;go_wp2;go_ret;exact ⟨by rw[HD.O];rfl,sN.O⟩
 ·have hkb:b.kind=4:=by omega
  have HD:Hid (BZ a b=Dz a.id b.id):=by show _=_;unfold BZ;rw[Pd (by simp[hk]),Pd (by omega),Pd (by omega),Pd (by omega),AAB e]
  clear wN hi hk _hz
  go_enter func99,ntmps99
  go_wp2_with fail
  refine (Mg _ _ _).mono ?_;rintro e w3 ⟨rfl,rfl⟩;go_wp2;go_ret;exact ⟨by rw[HD.O];rfl,SC.O _ _⟩
theorem Tk:∀ (l:List Val),(∀j (h:j+1<l.length),BZ l[j] l[j+1]<0)->I9 l=true
 | [],_=>rfl
 | [_],_=>rfl
 | a::b::r,h=>by
  unfold I9;rw[Tk (b::r) fun j hj=>h (j+1) (by simpa using hj),Bool.and_true]
  exact AAJ (h 0 (by simp))
theorem Zj:∀ (l:List Val) (j:Nat) (h:j+1<l.length),¬ BZ l[j] l[j+1]<0->I9 l=false
 | [],_,h,_=>by cases h
 | [_],j,h,_=>by simp at h
 | a::b::r,0,_,hn=>by
  unfold I9;have hn':¬ BZ a b<0:=hn;rw[AAP hn',Bool.false_and]
 | a::b::r,j+1,h,hn=>by
  unfold I9;rw[Zj (b::r) j (by simpa using h) hn,Bool.and_false]
variable {s:List Aa}
theorem Zc {plain:Bool} (hv:zQ s=0) (qg:DW s) {x:Aa} (hx:x∈s) (hk:x.kind=8):∀ (n:Nat) (y:Val),Ad s plain n x.key y=true->(1<=y.kind/\y.kind<=4)/\y.kind=(AO s x.key).kind/\(y.kind=2->In64 y.int)
 | 0,_,h=>by simp[Ad] at h
 | n+1,y,h=>by
  have hkk:=Q6 hv hx hk;unfold Ad at h
  split at h
  ·cases h
  ·rename_i h1
   split at h
   ·cases h
   ·rename_i h2
    have hkd:y.kind=(AO s x.key).kind:=Decidable.not_not.1 fun h3=>h2 (.inl h3)
    have hmem:AO s x.key∈s:=GX ⟨by omega,by omega⟩
    unfold BV at hkk;simp only[AAD,AAV] at hkk;refine ⟨by rw[hkd];exact hkk,hkd,fun h3=>?_⟩
    unfold Ak at h;rw[AAB (hkd▸h3)] at h;simp only[AAD,AAV] at h;obtain ⟨⟨l1,_⟩,⟨_,l2⟩⟩:=qg _ hmem;unfold In64
    omega
theorem aU (v:Val):0<SizeOf.sizeOf v:=by
 obtain ⟨k,b,i,st,id,ks,is,r⟩:=v;simp only[Val.mk.sizeOf_spec]
 omega
theorem mQ {α:Type} {l:List α} {p:α->Bool} (h:∀j (h:j<l.length),p l[j]=false):l.any p=false:=by
 rw[List.any_eq_false]
 intro x hx
 obtain ⟨j,hj,rfl⟩:=ABi hx;simp[h j hj]
theorem Zm {α:Type} {l:List α} {p:α->Bool} {j:Nat} (hj:j<l.length) (h:p l[j]=true):l.any p=true:=ABx.2 ⟨_,AAL hj,h⟩
def nQ (w : World) : Prop := Lib.TabIs prog w "internal/strconv.uint64pow10" .u64 Lib.pow10Tab
variable {w:World}
theorem nQ.below {w':World} (h:nQ w) (hb:Below w.heap.size w w'):nQ w':=Lib.tabBelow_of_tabIs h w' hb
theorem MS (n:Int) (hn:In64 n) (w:World) (ht:nQ w) :
  Calls prog 59 #[.int .i64 n] w fun e w'=>e = .returned (.string (Ch n))/\Below w.heap.size w w' :=
 (strconv_Itoa n hn.1 hn.2 w ht).mono fun e w' ⟨he,k,os,hw⟩=>⟨he,by subst hw;exact Lib.below_grow _ _ (AAF _) _ _⟩
section
variable {α:Type} {f:α->α}
end
section
variable {E k:Nat} {base g n c:Nat} {css:List (List Value)}
end
section
variable {α:Type} {E k:Nat} {at_:World->α->List Value->Prop} {wr:World} {base H3 H:Nat} {A:zo} {c:Nat} {l:List α} {i:Nat}
end
theorem Bu.at_one {x:Bu} {cs:List Value} (h:x.At cs):cs.length=2/\∀u∈cs,u.oneCell'=true:=by
 obtain ⟨_,rfl⟩:=h;refine ⟨rfl,?_⟩
 intro u hu
 simp only[ABP,List.mem_nil_iff,or_false] at hu
 rcases hu with rfl|rfl <;> rfl
theorem Ac.at_one {x:Ac} {cs:List Value} (h:x.At w cs):cs.length=13/\∀u∈cs,u.oneCell'=true:=by
 obtain ⟨A1,c1,A2,c2,A3,c3,rfl,_⟩:=h;refine ⟨rfl,?_⟩
 intro u hu
 simp only[ABP,List.mem_nil_iff,or_false] at hu
 rcases hu with rfl|rfl|rfl|rfl|rfl|rfl|rfl|rfl|rfl|rfl|rfl|rfl|rfl <;> rfl
theorem qw (n:Int) (hn:In64 n) (w:World) (ht:nQ w) :
  Calls prog 55 #[.int .i64 n,.int .i64 10] w fun e w'=>e = .returned (.string (Ch n))/\Below w.heap.size w w' :=
 (strconv_FormatInt_10 n hn.1 hn.2 w ht).mono fun e w' ⟨he,k,os,hw⟩=>⟨he,by subst hw;exact Lib.below_grow _ _ (AAF _) _ _⟩
theorem Rk {W:World} {b:Nat} {m:Ac} {A1:zo} {c1:Nat} {A2:zo} {c2:Nat} {A3:zo} {c3:Nat} (h:W.heap[b]? = some (m.box A1 c1 A2 c2 A3 c3)) :
  W.cell? ⟨b,0,none⟩=some (.int .i64 m.id)/\W.cell? ⟨b,1,none⟩=some (.string m.name)/\W.cell? ⟨b,2,none⟩=some (.int .i64 m.type)/\W.cell? ⟨b,3,none⟩=some (.bool m.critical)/\W.cell? ⟨b,4,none⟩=some (.bool m.Et)/\W.cell? ⟨b,5,none⟩=some (.int .i64 m.dflt.kind)/\W.cell? ⟨b,6,none⟩=some (.bool m.dflt.bool)/\W.cell? ⟨b,7,none⟩=some (.int .i64 m.dflt.int)/\W.cell? ⟨b,8,none⟩=some (.string m.dflt.str)/\W.cell? ⟨b,9,none⟩=some (.int .i64 m.dflt.id)/\W.cell? ⟨b,10,none⟩=some (.slice A1 m.dflt.keys.length c1)/\W.cell? ⟨b,11,none⟩=some (.slice A2 m.dflt.items.length c2)/\W.cell? ⟨b,12,none⟩=some (.slice A3 m.dflt.rest.length c3):=by
 refine ⟨?_,?_,?_,?_,?_,?_,?_,?_,?_,?_,?_,?_,?_⟩ <;> (rw[AAC _ _ _ _ _ _ h];rfl)
theorem qN (hv:zQ s=0):ABM s:=⟨fun t h5 h6=>by
 rcases SI s t with h|h
 ·rw[h];rfl
 ·have hf:=(Dx hv h).1
  unfold Gm at hf;simp only[AAD,AAV] at hf;obtain ⟨⟨⟨⟨hk1,hk2⟩,hp⟩,_⟩,hc⟩:=hf;have h1:(F6 (AO s t)).AA=[]:=by
   unfold F6;rw[Pd h5,Pd h6]
   repeat' split
   all_goals rfl
  rw[hp];exact h1⟩
section
variable {s:List Aa} {t:Int} {x:Val} {p:Int} {q:List Int}
theorem jb (hM:ABM s) (hf:BX s false t x=true) (ha:(Ia s t x (p::q)).isSome=true) {k:Nat} (hi:Bt (fun m:Ac=>decide (m.id=p)) (AO s t).AA=(k:Int)) (hk:k<(AO s t).AA.length) :
  (∃y,BX s false ((AO s t).AA[k]).type y=true/\(Ia s ((AO s t).AA[k]).type y q).isSome=true)/\Gb s t (p::q)=⟨#[46]⟩++((AO s t).AA[k]).name++Gb s ((AO s t).AA[k]).type q:=by
 have tT:(AO s t).AA.find? (fun m=>decide (m.id=p))=some (AO s t).AA[k]:=by
  rw[IY,hi,Pd (by omega),show ((k:Nat):Int).toNat=k by omega,zl hk]
 refine ⟨?_,by rw[Gb,tT]⟩
 by_cases h5:(AO s t).kind=5
 ·obtain ⟨g1,_,g3⟩:=YI hf h5 p q
  obtain ⟨g4,g5⟩:=g3 k hi hk (by rw[g1];exact hk)
  exact ⟨_,g5,by rw[<-g4];exact ha⟩
 ·by_cases h6:(AO s t).kind=6
  ·obtain ⟨_,g2,g3⟩:=mM hf h6 p q
   by_cases hp:p=x.id
   ·obtain ⟨g4,g5,g6,g7⟩:=g3 k hi hp
    exact ⟨_,g7,by rw[<-g6];exact ha⟩
   ·rw[g2 hp] at ha;cases ha
  ·rw[hM.no t h5 h6] at hk
   cases hk
theorem jc (hv:zQ s=0) (hf:BX s false t x=true) (ha:(Ia s t x (p::q)).isSome=true) (hi:Bt (fun m:Ac=>decide (m.id=p)) (AO s t).AA<0) :
  (∃y,BX s false (AO s t).elem y=true/\(Ia s (AO s t).elem y q).isSome=true)/\Gb s t (p::q)=⟨#[91]⟩++Ch p++⟨#[93]⟩++Gb s (AO s t).elem q/\In64 p:=by
 have tT:(AO s t).AA.find? (fun m=>decide (m.id=p))=none:=by rw[IY,AAB hi]
 have h5:(AO s t).kind≠5:=fun h5=>by rw[(YI hf h5 p q).2.1 hi] at ha;cases ha
 have h6:(AO s t).kind≠6:=fun h6=>by rw[(mM hf h6 p q).1 hi] at ha;cases ha
 obtain ⟨g1,g2,g3⟩:=mO hf h5 h6 p q
 by_cases hp0:p<0
 ·rw[g1 hp0] at ha;cases ha
 by_cases hpl:(x.items.length:Int)<=p
 ·rw[g2 hpl] at ha;cases ha
 obtain ⟨hc,g4,g5⟩:=g3 p.toNat (by omega) (by omega)
 refine ⟨⟨_,g5,by rw[<-g4];exact ha⟩,by rw[Gb,tT],?_⟩
 obtain ⟨r0,r1,_⟩:=Ta hf;have hmx:=vo hv ⟨r0,r1⟩;obtain ⟨n,hf⟩:=Ke hf;obtain ⟨_,_,_,hb⟩:=CF hf;unfold Ak at hb;unfold In64 at hmx ⊢;have hil:(x.items.length:Int)<=9223372036854775807:=by
  rcases hc with hc|hc|hc
  ·rw[Pd (by omega),Pd (by omega),Pd (by omega),Pd h5,Pd h6,AAB hc] at hb
   simp only[AAD,AAV] at hb
   omega
  ·rw[Pd (by omega),Pd (by omega),Pd (by omega),Pd h5,Pd h6,Pd (by omega),AAB hc] at hb
   simp only[AAD,AAV] at hb;have:=hb.1.1.1.1;have:=hb.1.1.1.2
   omega
  ·rw[Pd (by omega),Pd (by omega),Pd (by omega),Pd h5,Pd h6,Pd (by omega),Pd (by omega),AAB hc] at hb
   simp only[AAD,AAV] at hb
   omega
 omega
end
def Gt (s:List Aa) (t:Int) (p:List Int) (n:Nat) (tn:Int) (o:ByteArray):Prop :=
 (∃y,BX s false tn y=true/\(Ia s tn y (p.drop n)).isSome=true)/\o++Gb s tn (p.drop n)=Gb s t p/\o.size<=30 * n
variable {t:Int} {p:List Int}
theorem Gt.start {v:Val} (hf:BX s false t v=true) (ha:(Ia s t v p).isSome=true):Gt s t p 0 t ⟨#[]⟩ :=
 ⟨⟨v,hf,ha⟩,by show ByteArray.empty++_=_;rw[ByteArray.empty_append];rfl,AAF _⟩
variable {o:ByteArray} {tn:Int} {n:Nat}
theorem Gt.idx (h:Gt s t p n tn o) (hv:zQ s=0) (hs:R4 s) (hn:n<p.length) {k:Nat} (hi:Bt (fun m:Ac=>decide (m.id=p[n])) (AO s tn).AA=(k:Int)) (hk:k<(AO s tn).AA.length):
  Gt s t p (n+1) ((AO s tn).AA[k]).type (o++(⟨#[46]⟩++((AO s tn).AA[k]).name))/\((AO s tn).AA[k]).name.size<=24:=by
 obtain ⟨⟨y,h1,h2⟩,h3,h4⟩:=h;rw[ABf hn] at h2 h3;obtain ⟨g1,g2⟩:=jb (qN hv) h1 h2 hi hk;have hz:=KU ((hs.nam tn).AA _ (AAL hk));refine ⟨⟨g1,?_,?_⟩,hz⟩
 ·rw[<-h3,g2];simp only[ABX]
 ·rw[AAH,AAH]
  have:(⟨#[46]⟩:ByteArray).size=1:=rfl
  omega
theorem Gt.els (h:Gt s t p n tn o) (hv:zQ s=0) (hn:n<p.length) (hi:Bt (fun m:Ac=>decide (m.id=p[n])) (AO s tn).AA<0):
  Gt s t p (n+1) (AO s tn).elem (o++(⟨#[91]⟩++Ch p[n]++⟨#[93]⟩))/\In64 p[n]/\(Ch p[n]).size<=21:=by
 obtain ⟨⟨y,h1,h2⟩,h3,h4⟩:=h;rw[ABf hn] at h2 h3;obtain ⟨g1,g2,g3⟩:=jc hv h1 h2 hi;have hz:=Td g3;refine ⟨⟨g1,?_,?_⟩,g3,hz⟩
 ·rw[<-h3,g2];simp only[ABX]
 ·rw[AAH,AAH,AAH]
  have e1:(⟨#[91]⟩:ByteArray).size=1:=rfl;have e2:(⟨#[93]⟩:ByteArray).size=1:=rfl
  omega
theorem Gt.end_ (h:Gt s t p n tn o) (hn:p.length<=n):o=Gb s t p:=by
 obtain ⟨_,h3,_⟩:=h;rw[ABg hn,Gb] at h3;rw[<-h3]
 show o=o++ByteArray.empty
 rw[ByteArray.append_empty]
theorem Gt.rng (h:Gt s t p n tn o):0<=tn/\tn<(s.length:Int):=by
 obtain ⟨⟨y,h1,_⟩,_⟩:=h;have:=Ta h1;exact ⟨this.1,this.2.1⟩
def XO:Go.Shelf.Ren:=⟨fun|166=>23|167=>69|240=>54|276=>88|n=>n,fun|70=>55|72=>57|37=>40|75=>61|76=>62|80=>66|127=>113|164=>148|n=>n,fun|n=>n⟩
theorem ZQ:Go.Proofs.Lays.n166 prog XO:={
 mixed:=by kernel_rfl
 f166:=func23.trans (congrArg some (by kernel_rfl))
 f240:=func54.trans (congrArg some (by kernel_rfl))
 f276:=func88.trans (congrArg some (by kernel_rfl))
 t0:=underlying0
 a0:=isAgg0
 z0:=sizeOf0
 v0:=zeroValue0
 t3:=underlying3
 a3:=isAgg3
 z3:=sizeOf3
 v3:=zeroValue3
 t4:=underlying4
 a4:=isAgg4
 z4:=sizeOf4
 v4:=zeroValue4
 t9:=underlying9
 a9:=isAgg9
 z9:=sizeOf9
 v9:=zeroValue9
 t20:=underlying20
 a20:=isAgg20
 z20:=sizeOf20
 v20:=zeroValue20
 t37:=underlying40
 a37:=isAgg40
 z37:=sizeOf40
 v37:=zeroValue40
 t70:=underlying55
 a70:=isAgg55
 z70:=sizeOf55
 v70:=zeroValue55
 t72:=underlying57
 a72:=isAgg57
 z72:=sizeOf57
 v72:=zeroValue57
 t75:=underlying61
 a75:=isAgg61
 z75:=sizeOf61
 v75:=zeroValue61
 t164:=underlying148
 a164:=isAgg148
 z164:=sizeOf148
 v164:=zeroValue148 }
theorem Vm:Builder.Extra prog XO:={
 sizeBuilder:=by kernel_rfl
 liesBuilder:=by kernel_rfl
 t5:=underlying5
 a5:=isAgg5
 z5:=sizeOf5
 v5:=zeroValue5
 infoByte:=by kernel_rfl
 cellsByte:=by kernel_rfl
 sizeByte:=by kernel_rfl
 neB5:=by decide }
theorem Oq {B b:Nat} {bs:List Value} {w':World} (h:Lib.IsBuilder 57 5 B b bs w) (hb:Below w.heap.size w w'):Lib.IsBuilder 57 5 B b bs w':=by
 have hg:w.grownBy w' none:=⟨hb.os,hb.tape,hb.output,hb.size,fun k hk _=>hb.block k hk⟩
 have step:∀p,Lib.BuilderAt 57 5 B b p bs w->Lib.BuilderAt 57 5 B b p bs w':=fun p h=>by
  have hlt:=h.lt;obtain ⟨hB,v,hbk,hown,hne⟩:=h;refine ⟨hB,v,(hb.block b hlt).trans hbk,?_,hne⟩
  rcases hv:v.ownBlock with _|g
  ·exact hown.kept hg (Or.inl hv)
  ·exact hown.kept hg (Or.inr (by rw[hv];simp))
 exact h.imp (step _) (step _)
def SG (w:World) (B b:Nat) (s:ByteArray):Prop:=Lib.IsBuilder 57 5 B b (Lib.strCells s) w
section
variable {w w':World} {B b:Nat} {s:ByteArray}
theorem SG.below (h:SG w B b s) (hb:Below w.heap.size w w'):SG w' B b s:=Oq h hb
theorem SG.new (w:World) (hB:B<=w.heap.size):SG (w.alloc (.cells #[.pointer none,.slice none 0 0] 57)) B w.heap.size ⟨#[]⟩:=Or.inl ⟨hB,.slice none 0 0,AAA w _,World.ownsRow_nil _ _ _ _,by simp[Value.ownBlock]⟩
theorem MF (a b:ByteArray):Lib.strCells a++Lib.strCells b=Lib.strCells (a++b):=by
 unfold Lib.strCells;rw[ByteArray.data_append,Array.toList_append,List.map_append]
end
