/-
  strings.Builder over this program.
-/
import Derived.Test.YthkkllmmbefedaaGreatDoorQGA8
import Derived.Test.YthkkllmmbefedaaGreatDoorQGA2
import Derived.Test.YthkkllmmbefedaaGreatDoorQGA6
import Derived.Test.YthkkllmmbefedaaGreatDoorQGA1
import Derived.Test.YthkkllmmbefedaaGreatDoorShelf
import Derived.Test.YthkkllmmbefedaaGreatDoorShelfB
import Derived.Test.YthkkllmmbefedaaGreatDoorQGA7
import Derived.Lib.AppendIntMem
import Derived.Shelf.Strings.BuilderK
import Derived.Deep.DeepCutAuto
namespace Go.Proofs.YthkkllmmbefedaaGreatDoor
open Go.RowKit
set_option maxHeartbeats 16000000
set_option maxRecDepth 100000
def orI:List Int→Int
 | []=>0
 | x::r=>if x≠0 then x else orI r
theorem or_any (l:List Int) (hl:l.length≤100) (g o c:Nat) (w:World) (hc:∀k x,l[k]? = some x→w.cell? ⟨g,o+k,none⟩=some (.int .i64 x)) :
  Calls Tryz.prog 151 #[.slice (some ⟨g,o,none⟩) l.length c] w fun e w'=>e = .returned (.int .i64 (orI l))∧w=w':=by
 have HC:=zh hc;clear hc
 go_enter Tryz.func151,Tryz.ntmps151
 go_wp2
 go_loop [8] (fun i=>∃k:Nat,k≤l.length∧i = .int .i64 k∧Hid (orI l=orI (l.drop k))) (fun i=>l.length - (intOf i).toNat)
 case atStart=>exact ⟨0,by omega,rfl,rfl⟩
 case round =>
  obtain ⟨k,hk,rfl,hh⟩:=hrel
  by_cases hlt:k<l.length
  ·have c0:w.cell? ⟨g,o+k,none⟩=some (.int .i64 l[k]):=HC.out k _ (zl hlt)
   have HD:=zh (List.drop_eq_getElem_cons hlt)
   by_cases h0:l[k]=0
   ·have hb:(l[k] != 0)=false:=by simp[h0]
    have HN:Hid (orI l=orI (l.drop (k+1))):=by
     show _=_
     rw[hh.out,HD.out,orI,if_neg (by simp[h0])]
    clear h0;go_wp2
    go_round
    case rel=>exact ⟨k+1,by omega,by go_num,HN.out⟩
    case measure=>simp[intOf];omega
   ·have hb:(l[k] != 0)=true:=by simp[h0]
    have HN:Hid (orI l=l[k]):=by
     show _=_
     rw[hh.out,HD.out,orI,if_pos h0]
    clear h0;go_wp2;go_ret;exact ⟨by rw[HN.out];rfl,rfl⟩
  ·have HN:Hid (orI l=0):=by
    show _=_
    rw[hh.out,List.drop_of_length_le (by omega)];rfl
   go_wp2
   go_ret
   exact ⟨by rw[HN.out];rfl,rfl⟩
theorem compareV_any (a b:Val) (hk:a.kind=b.kind) (h14:1≤a.kind∧a.kind≤4) (hi:a.kind=2→In64 a.int∧In64 b.int) (_hz:a.str.size≤9223372036854775807∧b.str.size≤9223372036854775807) (A1:zo) (c1:Nat) (A2:zo) (c2:Nat) (A3:zo) (c3:Nat) (B1:zo) (d1:Nat) (B2:zo) (d2:Nat) (B3:zo) (d3:Nat) (w:World) :
  Calls Tryz.prog 99 #[a.v A1 c1 A2 c2 A3 c3,b.v B1 d1 B2 d2 B3 d3] w fun e w'=>e = .returned (.int .i64 (cmpV a b))∧Below w.heap.size w w':=by
 have HBN:=zh (fun o1 o2=>zI w o1 o2)
 have q0:(a.kind != b.kind)=false:=by simp[hk]
 have HC:Hid (a.kind≠b.kind→False):=fun h=>h hk
 have hk4:a.kind=1∨a.kind=2∨a.kind=3∨a.kind=4:=by omega
 rcases hk4 with e|e|e|e
 ·have hkb:b.kind=1:=by omega
  clear h14 hi _hz q0
  cases ha:a.bool with
  | true =>
   cases hb:b.bool with
   | true =>
    have HD:Hid (cmpV a b=0):=by show _=_;unfold cmpV;rw[if_neg (by simp[hk]),if_pos e,ha,hb];rfl
    clear hk
    go_enter Tryz.func99,Tryz.ntmps99
    go_wp2
    go_ret
    exact ⟨by rw[HD.out];rfl,HBN.out _ _⟩
   | false =>
    have HD:Hid (cmpV a b=1):=by show _=_;unfold cmpV;rw[if_neg (by simp[hk]),if_pos e,ha,hb];rfl
    clear hk
    go_enter Tryz.func99,Tryz.ntmps99
    go_wp2
    go_ret
    exact ⟨by rw[HD.out];rfl,HBN.out _ _⟩
  | false =>
   cases hb:b.bool with
   | true =>
    have HD:Hid (cmpV a b = -1):=by show _=_;unfold cmpV;rw[if_neg (by simp[hk]),if_pos e,ha,hb];rfl
    clear hk
    go_enter Tryz.func99,Tryz.ntmps99
    go_wp2
    go_ret
    exact ⟨by rw[HD.out];rfl,HBN.out _ _⟩
   | false =>
    have HD:Hid (cmpV a b=0):=by show _=_;unfold cmpV;rw[if_neg (by simp[hk]),if_pos e,ha,hb];rfl
    clear hk
    go_enter Tryz.func99,Tryz.ntmps99
    go_wp2
    go_ret
    exact ⟨by rw[HD.out];rfl,HBN.out _ _⟩
 ·have hkb:b.kind=2:=by omega
  have HD:Hid (cmpV a b=cmpI (zzD a.int) (zzD b.int)):=by show _=_;unfold cmpV;rw[if_neg (by simp[hk]),if_neg (by omega),if_pos e]
  have HI:=zh (hi e);clear h14 hi hk _hz
  go_enter Tryz.func99,Tryz.ntmps99
  go_upto_region 11 with fail
  refine wp_region_held_drew (S:=(fun w'=>w'.cell? ⟨w.heap.size,2,none⟩=some (.int .i64 a.int)∧w'.cell? ⟨w.heap.size+1,2,none⟩=some (.int .i64 b.int))) (by kernel_rfl) ?_ (fun zH_=>?_)
  ·(try dsimp only);go_simp
  refine tL 0 ?_;refine tL 1 ?_;refine tL 3 ?_;refine tL 4 ?_;refine tR 2 (fun K hK=>?_)
  go_simp
  (refine (zig_any a.int HI.out.1 _).mono ?_;rintro e w3 ⟨rfl,rfl⟩)
  refine hK.out _ _ ?_ (fun zH_=>?_)
  ·(try dsimp only);exact zH_
  clear hK K;refine tR 5 (fun K hK=>?_)
  go_simp
  (refine (zig_any b.int HI.out.2 _).mono ?_;rintro e w3 ⟨rfl,rfl⟩)
  refine hK.out _ _ ?_ (fun zH_=>?_)
  ·(try dsimp only);exact zH_
  clear hK K;try simp only[ps]
  refine tR 6 (fun K hK=>?_)
  go_simp
  (refine (compareu_any _ _ _).mono ?_;rintro e w3 ⟨rfl,rfl⟩)
  refine hK.out _ _ ?_ (fun zH_=>?_)
  ·(try dsimp only);exact zH_
  clear hK K;refine tL 7 ?_;refine wpAnyH_done (by kernel_rfl) ?_ _
  clear zH_;go_wp2;go_ret;exact ⟨by rw[HD.out];rfl,zC (HBN.out _ _) 1⟩
 ·have hkb:b.kind=3:=by omega
  have HD:Hid (cmpV a b=orI [cmpI a.str.size b.str.size,cmpS a.str b.str]):=by
   show _=_;unfold cmpV orI orI orI;rw[if_neg (by simp[hk]),if_neg (by omega),if_neg (by omega),if_pos e]
   split
   ·rfl
   ·split
    ·rfl
    ·rename_i h;exact Decidable.not_not.1 h
  clear h14 hi hk
  go_enter Tryz.func99,Tryz.ntmps99
  go_upto_region 13 with fail
  refine wp_region_held_drew (S:=(fun w'=>(w'.cell? ⟨w.heap.size,3,none⟩=some (.string a.str)∧w'.cell? ⟨w.heap.size+1,3,none⟩=some (.string b.str))∧Hid (Below w.heap.size w w'))) (by kernel_rfl) ?_ (fun zH_=>?_)
  ·(try dsimp only);exact ⟨by go_simp,zC (HBN.out _ _) 1⟩
  refine tL 0 ?_;refine tL 1 ?_;refine tL 2 ?_;refine tL 3 ?_;try simp only[ps]
  refine tL 4 ?_;refine tL 5 ?_;refine tL 7 ?_;refine tL 8 ?_;refine tL 9 ?_;refine tL 10 ?_;try simp only[ps]
  refine tR 6 (fun K hK=>?_)
  go_simp
  (refine (comparei_any _ _ _).mono ?_;rintro e w3 ⟨rfl,rfl⟩)
  refine hK.out _ _ ?_ (fun zH_=>?_)
  ·(try dsimp only);exact zH_
  clear hK K;refine tR 11 (fun K hK=>?_)
  go_simp
  (refine (compares_any _ _ _).mono ?_;rintro e w3 ⟨rfl,rfl⟩)
  refine hK.out _ _ ?_ (fun zH_=>?_)
  ·(try dsimp only);exact zH_
  clear hK K;refine tR 12 (fun K hK=>?_)
  go_simp
  refine hK.out _ _ ?_ (fun zH_=>?_)
  ·(try dsimp only);exact ⟨⟨zA (zD _ _) zH_.1.1,zA (zD _ _) zH_.1.2⟩,zB zH_.2.out (zD _ _)⟩
  clear hK K;refine tR 13 (fun K hK=>?_)
  go_simp
  (refine (or_any [cmpI a.str.size b.str.size,cmpS a.str b.str] (by simp) _ 0 2 _ ?hc13).mono ?_;(case hc13=>(intro k x hx;match k,hx with|0,hx=>(obtain rfl:=Option.some.inj hx;go_simp)|1,hx=>(obtain rfl:=Option.some.inj hx;go_simp)|k+2,hx=>cases hx));rintro e w3 ⟨rfl,rfl⟩)
  refine hK.out _ _ ?_ (fun zH_=>?_)
  ·(try dsimp only);exact zH_
  clear hK K;refine tL 14 ?_;refine wpAnyH_done (by kernel_rfl) ?_ _
  have HBF:=zh zH_.2.out;clear zH_;go_wp2;go_ret;exact ⟨by rw[HD.out];rfl,HBF.out⟩
 ·have hkb:b.kind=4:=by omega
  have HD:Hid (cmpV a b=cmpI a.id b.id):=by show _=_;unfold cmpV;rw[if_neg (by simp[hk]),if_neg (by omega),if_neg (by omega),if_neg (by omega),if_pos e]
  clear h14 hi hk _hz
  go_enter Tryz.func99,Tryz.ntmps99
  go_wp2_with fail
  refine (comparei_any _ _ _).mono ?_;rintro e w3 ⟨rfl,rfl⟩;go_wp2;go_ret;exact ⟨by rw[HD.out];rfl,HBN.out _ _⟩
theorem asc_all:∀ (l:List Val),(∀j (h:j+1<l.length),cmpV l[j] l[j+1]<0)→ascV l=true
 | [],_=>rfl
 | [_],_=>rfl
 | a::b::r,h=>by
  unfold ascV;rw[asc_all (b::r) fun j hj=>h (j+1) (by simpa using hj),Bool.and_true]
  exact decide_eq_true (h 0 (by simp))
theorem asc_not:∀ (l:List Val) (j:Nat) (h:j+1<l.length),¬ cmpV l[j] l[j+1]<0→ascV l=false
 | [],_,h,_=>by cases h
 | [_],j,h,_=>by simp at h
 | a::b::r,0,_,hn=>by
  unfold ascV;have hn':¬ cmpV a b<0:=hn;rw[decide_eq_false hn',Bool.false_and]
 | a::b::r,j+1,h,hn=>by
  unfold ascV;rw[asc_not (b::r) j (by simpa using h) hn,Bool.and_false]
theorem fit_key {s:List TyD} {plain:Bool} (hv:zQ s=0) (hn64:Num64 s) {x:TyD} (hx:x∈s) (hk:x.kind=8):∀ (n:Nat) (y:Val),fitF s plain n x.key y=true→(1≤y.kind∧y.kind≤4)∧y.kind=(tyAt s x.key).kind∧(y.kind=2→In64 y.int)
 | 0,_,h=>by simp[fitF] at h
 | n+1,y,h=>by
  have hkk:=valid_key hv hx hk;unfold fitF at h
  split at h
  ·cases h
  ·rename_i h1
   split at h
   ·cases h
   ·rename_i h2
    have hkd:y.kind=(tyAt s x.key).kind:=Decidable.not_not.1 fun h3=>h2 (.inl h3)
    have hmem:tyAt s x.key∈s:=tyAt_mem ⟨by omega,by omega⟩
    unfold keyKind at hkk;simp only[Bool.and_eq_true,decide_eq_true_eq] at hkk;refine ⟨by rw[hkd];exact hkk,hkd,fun h3=>?_⟩
    unfold fitB at h;rw[if_pos (hkd▸h3)] at h;simp only[Bool.and_eq_true,decide_eq_true_eq] at h;obtain ⟨⟨l1,_⟩,⟨_,l2⟩⟩:=hn64 _ hmem;unfold In64
    omega
theorem sizeV_pos (v:Val):0<SizeOf.sizeOf v:=by
 obtain ⟨k,b,i,st,id,ks,is,r⟩:=v;simp only[Val.mk.sizeOf_spec]
 omega
theorem any_no {α:Type} {l:List α} {p:α→Bool} (h:∀j (h:j<l.length),p l[j]=false):l.any p=false:=by
 rw[List.any_eq_false]
 intro x hx
 obtain ⟨j,hj,rfl⟩:=List.getElem_of_mem hx;simp[h j hj]
theorem any_yes {α:Type} {l:List α} {p:α→Bool} {j:Nat} (hj:j<l.length) (h:p l[j]=true):l.any p=true:=List.any_eq_true.2 ⟨_,List.getElem_mem hj,h⟩
def Tab (w : World) : Prop := Lib.TabIs Tryz.prog w "internal/strconv.uint64pow10" .u64 Lib.pow10Tab
theorem Tab.below {w w':World} (h:Tab w) (hb:Below w.heap.size w w'):Tab w':=Lib.tabBelow_of_tabIs h w' hb
theorem itoa_any (n:Int) (hn:In64 n) (w:World) (ht:Tab w) :
  Calls Tryz.prog 59 #[.int .i64 n] w fun e w'=>e = .returned (.string (decB n))∧Below w.heap.size w w' :=
 (Tryz.strconv_Itoa n hn.1 hn.2 w ht).mono fun e w' ⟨he,k,os,hw⟩=>⟨he,by subst hw;exact Lib.below_grow _ _ (Nat.le_refl _) _ _⟩
section
variable {α:Type} {f:α→α}
end
section
variable {E k:Nat} {base g n c:Nat} {css:List (List Value)}
end
section
variable {α:Type} {E k:Nat} {at_:World→α→List Value→Prop} {wr:World} {base H3 H:Nat} {A:zo} {c:Nat} {l:List α} {i:Nat}
end
theorem SymD.at_one {x:SymD} {cs:List Value} (h:x.At cs):cs.length=2∧∀u∈cs,u.oneCell'=true:=by
 obtain ⟨_,rfl⟩:=h;refine ⟨rfl,?_⟩
 intro u hu
 simp only[List.mem_cons,List.mem_nil_iff,or_false] at hu
 rcases hu with rfl|rfl <;> rfl
theorem MemD.at_one {w:World} {x:MemD} {cs:List Value} (h:x.At w cs):cs.length=13∧∀u∈cs,u.oneCell'=true:=by
 obtain ⟨A1,c1,A2,c2,A3,c3,rfl,_⟩:=h;refine ⟨rfl,?_⟩
 intro u hu
 simp only[List.mem_cons,List.mem_nil_iff,or_false] at hu
 rcases hu with rfl|rfl|rfl|rfl|rfl|rfl|rfl|rfl|rfl|rfl|rfl|rfl|rfl <;> rfl
theorem fmt_any (n:Int) (hn:In64 n) (w:World) (ht:Tab w) :
  Calls Tryz.prog 55 #[.int .i64 n,.int .i64 10] w fun e w'=>e = .returned (.string (decB n))∧Below w.heap.size w w' :=
 (Tryz.strconv_FormatInt_10 n hn.1 hn.2 w ht).mono fun e w' ⟨he,k,os,hw⟩=>⟨he,by subst hw;exact Lib.below_grow _ _ (Nat.le_refl _) _ _⟩
theorem mbx_cells {W:World} {b:Nat} {m:MemD} {A1:zo} {c1:Nat} {A2:zo} {c2:Nat} {A3:zo} {c3:Nat} (h:W.heap[b]? = some (m.box A1 c1 A2 c2 A3 c3)) :
  W.cell? ⟨b,0,none⟩=some (.int .i64 m.id)∧W.cell? ⟨b,1,none⟩=some (.string m.name)∧W.cell? ⟨b,2,none⟩=some (.int .i64 m.type)∧W.cell? ⟨b,3,none⟩=some (.bool m.critical)∧W.cell? ⟨b,4,none⟩=some (.bool m.hasDef)∧W.cell? ⟨b,5,none⟩=some (.int .i64 m.dflt.kind)∧W.cell? ⟨b,6,none⟩=some (.bool m.dflt.bool)∧W.cell? ⟨b,7,none⟩=some (.int .i64 m.dflt.int)∧W.cell? ⟨b,8,none⟩=some (.string m.dflt.str)∧W.cell? ⟨b,9,none⟩=some (.int .i64 m.dflt.id)∧W.cell? ⟨b,10,none⟩=some (.slice A1 m.dflt.keys.length c1)∧W.cell? ⟨b,11,none⟩=some (.slice A2 m.dflt.items.length c2)∧W.cell? ⟨b,12,none⟩=some (.slice A3 m.dflt.rest.length c3):=by
 refine ⟨?_,?_,?_,?_,?_,?_,?_,?_,?_,?_,?_,?_,?_⟩ <;> (rw[cell_of_row _ _ _ _ _ _ h];rfl)
theorem memK_of {s:List TyD} (hv:zQ s=0):MemK s:=⟨fun t h5 h6=>by
 rcases tyAt_or s t with h|h
 ·rw[h];rfl
 ·have hf:=(valid_tys hv h).1
  unfold formD at hf;simp only[Bool.and_eq_true,decide_eq_true_eq] at hf;obtain ⟨⟨⟨⟨hk1,hk2⟩,hp⟩,_⟩,hc⟩:=hf;have h1:(plainD (tyAt s t)).mems=[]:=by
   unfold plainD;rw[if_neg h5,if_neg h6]
   repeat' split
   all_goals rfl
  rw[hp];exact h1⟩
section
variable {s:List TyD} {t:Int} {x:Val} {p:Int} {q:List Int}
theorem path_idx (hM:MemK s) (hf:fitV s false t x=true) (ha:(atV s t x (p::q)).isSome=true) {k:Nat} (hi:idxD (fun m:MemD=>decide (m.id=p)) (tyAt s t).mems=(k:Int)) (hk:k<(tyAt s t).mems.length) :
  (∃y,fitV s false ((tyAt s t).mems[k]).type y=true∧(atV s ((tyAt s t).mems[k]).type y q).isSome=true)∧pathT s t (p::q)=⟨#[46]⟩++((tyAt s t).mems[k]).name++pathT s ((tyAt s t).mems[k]).type q:=by
 have hfd:(tyAt s t).mems.find? (fun m=>decide (m.id=p))=some (tyAt s t).mems[k]:=by
  rw[find_idxD,hi,if_neg (by omega),show ((k:Nat):Int).toNat=k by omega,zl hk]
 refine ⟨?_,by rw[pathT,hfd]⟩
 by_cases h5:(tyAt s t).kind=5
 ·obtain ⟨g1,_,g3⟩:=at_rec hf h5 p q
  obtain ⟨g4,g5⟩:=g3 k hi hk (by rw[g1];exact hk)
  exact ⟨_,g5,by rw[←g4];exact ha⟩
 ·by_cases h6:(tyAt s t).kind=6
  ·obtain ⟨_,g2,g3⟩:=at_uni hf h6 p q
   by_cases hp:p=x.id
   ·obtain ⟨g4,g5,g6,g7⟩:=g3 k hi hp
    exact ⟨_,g7,by rw[←g6];exact ha⟩
   ·rw[g2 hp] at ha;cases ha
  ·rw[hM.no t h5 h6] at hk
   cases hk
theorem path_els (hv:zQ s=0) (hf:fitV s false t x=true) (ha:(atV s t x (p::q)).isSome=true) (hi:idxD (fun m:MemD=>decide (m.id=p)) (tyAt s t).mems<0) :
  (∃y,fitV s false (tyAt s t).elem y=true∧(atV s (tyAt s t).elem y q).isSome=true)∧pathT s t (p::q)=⟨#[91]⟩++decB p++⟨#[93]⟩++pathT s (tyAt s t).elem q∧In64 p:=by
 have hfd:(tyAt s t).mems.find? (fun m=>decide (m.id=p))=none:=by rw[find_idxD,if_pos hi]
 have h5:(tyAt s t).kind≠5:=fun h5=>by rw[(at_rec hf h5 p q).2.1 hi] at ha;cases ha
 have h6:(tyAt s t).kind≠6:=fun h6=>by rw[(at_uni hf h6 p q).1 hi] at ha;cases ha
 obtain ⟨g1,g2,g3⟩:=at_oth hf h5 h6 p q
 by_cases hp0:p<0
 ·rw[g1 hp0] at ha;cases ha
 by_cases hpl:(x.items.length:Int)≤p
 ·rw[g2 hpl] at ha;cases ha
 obtain ⟨hc,g4,g5⟩:=g3 p.toNat (by omega) (by omega)
 refine ⟨⟨_,g5,by rw[←g4];exact ha⟩,by rw[pathT,hfd],?_⟩
 obtain ⟨r0,r1,_⟩:=fit_rng hf;have hmx:=max_in hv ⟨r0,r1⟩;obtain ⟨n,hf⟩:=fit_out hf;obtain ⟨_,_,_,hb⟩:=fitF_out hf;unfold fitB at hb;unfold In64 at hmx ⊢;have hil:(x.items.length:Int)≤9223372036854775807:=by
  rcases hc with hc|hc|hc
  ·rw[if_neg (by omega),if_neg (by omega),if_neg (by omega),if_neg h5,if_neg h6,if_pos hc] at hb
   simp only[Bool.and_eq_true,decide_eq_true_eq] at hb
   omega
  ·rw[if_neg (by omega),if_neg (by omega),if_neg (by omega),if_neg h5,if_neg h6,if_neg (by omega),if_pos hc] at hb
   simp only[Bool.and_eq_true,decide_eq_true_eq] at hb;have:=hb.1.1.1.1;have:=hb.1.1.1.2
   omega
  ·rw[if_neg (by omega),if_neg (by omega),if_neg (by omega),if_neg h5,if_neg h6,if_neg (by omega),if_neg (by omega),if_pos hc] at hb
   simp only[Bool.and_eq_true,decide_eq_true_eq] at hb
   omega
 omega
end
def PthAt (s:List TyD) (t:Int) (p:List Int) (n:Nat) (tn:Int) (o:ByteArray):Prop :=
 (∃y,fitV s false tn y=true∧(atV s tn y (p.drop n)).isSome=true)∧o++pathT s tn (p.drop n)=pathT s t p∧o.size≤30 * n
theorem PthAt.start {s:List TyD} {t:Int} {v:Val} {p:List Int} (hf:fitV s false t v=true) (ha:(atV s t v p).isSome=true):PthAt s t p 0 t ⟨#[]⟩ :=
 ⟨⟨v,hf,ha⟩,by show ByteArray.empty++_=_;rw[ByteArray.empty_append];rfl,Nat.le_refl _⟩
theorem PthAt.idx {s:List TyD} {t:Int} {p:List Int} {n:Nat} {tn:Int} {o:ByteArray} (h:PthAt s t p n tn o) (hv:zQ s=0) (hs:SchOk s) (hn:n<p.length) {k:Nat} (hi:idxD (fun m:MemD=>decide (m.id=p[n])) (tyAt s tn).mems=(k:Int)) (hk:k<(tyAt s tn).mems.length) :
  PthAt s t p (n+1) ((tyAt s tn).mems[k]).type (o++(⟨#[46]⟩++((tyAt s tn).mems[k]).name))∧((tyAt s tn).mems[k]).name.size≤24:=by
 obtain ⟨⟨y,h1,h2⟩,h3,h4⟩:=h;rw[List.drop_eq_getElem_cons hn] at h2 h3;obtain ⟨g1,g2⟩:=path_idx (memK_of hv) h1 h2 hi hk;have hz:=name_size ((hs.nam tn).mems _ (List.getElem_mem hk));refine ⟨⟨g1,?_,?_⟩,hz⟩
 ·rw[←h3,g2];simp only[ByteArray.append_assoc]
 ·rw[ByteArray.size_append,ByteArray.size_append]
  have:(⟨#[46]⟩:ByteArray).size=1:=rfl
  omega
theorem PthAt.els {s:List TyD} {t:Int} {p:List Int} {n:Nat} {tn:Int} {o:ByteArray} (h:PthAt s t p n tn o) (hv:zQ s=0) (hn:n<p.length) (hi:idxD (fun m:MemD=>decide (m.id=p[n])) (tyAt s tn).mems<0) :
  PthAt s t p (n+1) (tyAt s tn).elem (o++(⟨#[91]⟩++decB p[n]++⟨#[93]⟩))∧In64 p[n]∧(decB p[n]).size≤21:=by
 obtain ⟨⟨y,h1,h2⟩,h3,h4⟩:=h;rw[List.drop_eq_getElem_cons hn] at h2 h3;obtain ⟨g1,g2,g3⟩:=path_els hv h1 h2 hi;have hz:=decB_le g3;refine ⟨⟨g1,?_,?_⟩,g3,hz⟩
 ·rw[←h3,g2];simp only[ByteArray.append_assoc]
 ·rw[ByteArray.size_append,ByteArray.size_append,ByteArray.size_append]
  have e1:(⟨#[91]⟩:ByteArray).size=1:=rfl;have e2:(⟨#[93]⟩:ByteArray).size=1:=rfl
  omega
theorem PthAt.end_ {s:List TyD} {t:Int} {p:List Int} {n:Nat} {tn:Int} {o:ByteArray} (h:PthAt s t p n tn o) (hn:p.length≤n):o=pathT s t p:=by
 obtain ⟨_,h3,_⟩:=h;rw[List.drop_eq_nil_of_le hn,pathT] at h3;rw[←h3]
 show o=o++ByteArray.empty
 rw[ByteArray.append_empty]
theorem PthAt.rng {s:List TyD} {t:Int} {p:List Int} {n:Nat} {tn:Int} {o:ByteArray} (h:PthAt s t p n tn o):0≤tn∧tn<(s.length:Int):=by
 obtain ⟨⟨y,h1,_⟩,_⟩:=h;have:=fit_rng h1;exact ⟨this.1,this.2.1⟩
def ren166:Go.Shelf.Ren:=⟨fun|166=>23|167=>69|240=>54|276=>88|n=>n,fun|70=>55|72=>57|37=>40|75=>61|76=>62|80=>66|127=>113|164=>148|n=>n,fun|n=>n⟩
theorem lays166:Go.Proofs.Lays.n166 Tryz.prog ren166:={
 mixed:=by kernel_rfl
 f166:=Tryz.func23.trans (congrArg some (by kernel_rfl))
 f240:=Tryz.func54.trans (congrArg some (by kernel_rfl))
 f276:=Tryz.func88.trans (congrArg some (by kernel_rfl))
 t0:=Tryz.underlying0
 a0:=Tryz.isAgg0
 z0:=Tryz.sizeOf0
 v0:=Tryz.zeroValue0
 t3:=Tryz.underlying3
 a3:=Tryz.isAgg3
 z3:=Tryz.sizeOf3
 v3:=Tryz.zeroValue3
 t4:=Tryz.underlying4
 a4:=Tryz.isAgg4
 z4:=Tryz.sizeOf4
 v4:=Tryz.zeroValue4
 t9:=Tryz.underlying9
 a9:=Tryz.isAgg9
 z9:=Tryz.sizeOf9
 v9:=Tryz.zeroValue9
 t20:=Tryz.underlying20
 a20:=Tryz.isAgg20
 z20:=Tryz.sizeOf20
 v20:=Tryz.zeroValue20
 t37:=Tryz.underlying40
 a37:=Tryz.isAgg40
 z37:=Tryz.sizeOf40
 v37:=Tryz.zeroValue40
 t70:=Tryz.underlying55
 a70:=Tryz.isAgg55
 z70:=Tryz.sizeOf55
 v70:=Tryz.zeroValue55
 t72:=Tryz.underlying57
 a72:=Tryz.isAgg57
 z72:=Tryz.sizeOf57
 v72:=Tryz.zeroValue57
 t75:=Tryz.underlying61
 a75:=Tryz.isAgg61
 z75:=Tryz.sizeOf61
 v75:=Tryz.zeroValue61
 t164:=Tryz.underlying148
 a164:=Tryz.isAgg148
 z164:=Tryz.sizeOf148
 v164:=Tryz.zeroValue148 }
theorem extra166:Builder.Extra Tryz.prog ren166:={
 sizeBuilder:=by kernel_rfl
 liesBuilder:=by kernel_rfl
 t5:=Tryz.underlying5
 a5:=Tryz.isAgg5
 z5:=Tryz.sizeOf5
 v5:=Tryz.zeroValue5
 infoByte:=by kernel_rfl
 cellsByte:=by kernel_rfl
 sizeByte:=by kernel_rfl
 neB5:=by decide }
theorem isBuilder_below {B b:Nat} {bs:List Value} {w w':World} (h:Lib.IsBuilder 57 5 B b bs w) (hb:Below w.heap.size w w'):Lib.IsBuilder 57 5 B b bs w':=by
 have hg:w.grownBy w' none:=⟨hb.os,hb.tape,hb.output,hb.size,fun k hk _=>hb.block k hk⟩
 have step:∀p,Lib.BuilderAt 57 5 B b p bs w→Lib.BuilderAt 57 5 B b p bs w':=fun p h=>by
  have hlt:=h.lt;obtain ⟨hB,v,hbk,hown,hne⟩:=h;refine ⟨hB,v,(hb.block b hlt).trans hbk,?_,hne⟩
  rcases hv:v.ownBlock with _|g
  ·exact hown.kept hg (Or.inl hv)
  ·exact hown.kept hg (Or.inr (by rw[hv];simp))
 exact h.imp (step _) (step _)
def BldAt (w:World) (B b:Nat) (s:ByteArray):Prop:=Lib.IsBuilder 57 5 B b (Lib.strCells s) w
section
variable {w w':World} {B b:Nat} {s:ByteArray}
theorem BldAt.below (h:BldAt w B b s) (hb:Below w.heap.size w w'):BldAt w' B b s:=isBuilder_below h hb
theorem BldAt.new (w:World) (hB:B≤w.heap.size):BldAt (w.alloc (.cells #[.pointer none,.slice none 0 0] 57)) B w.heap.size ⟨#[]⟩:=Or.inl ⟨hB,.slice none 0 0,heap_alloc_new w _,World.ownsRow_nil _ _ _ _,by simp[Value.ownBlock]⟩
theorem strCells_app (a b:ByteArray):Lib.strCells a++Lib.strCells b=Lib.strCells (a++b):=by
 unfold Lib.strCells;rw[ByteArray.data_append,Array.toList_append,List.map_append]
end
end Go.Proofs.YthkkllmmbefedaaGreatDoor


