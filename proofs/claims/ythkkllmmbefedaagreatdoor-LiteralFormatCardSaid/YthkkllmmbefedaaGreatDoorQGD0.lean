/-
  The reference's text of all values; its Format.
-/
import Derived.Test.YthkkllmmbefedaaGreatDoorQNRH
import Derived.Test.YthkkllmmbefedaaGreatDoorQRF7
import Derived.Test.YthkkllmmbefedaaGreatDoorQRF8
import Derived.Test.YthkkllmmbefedaaGreatDoorQRF9
import Derived.Test.YthkkllmmbefedaaGreatDoorQRG0
import Derived.Test.YthkkllmmbefedaaGreatDoorQRG1
import Derived.Test.YthkkllmmbefedaaGreatDoorQRT4
import Derived.Test.YthkkllmmbefedaaGreatDoorQRT5
import Derived.Test.YthkkllmmbefedaaGreatDoorQRT6
import Derived.Test.YthkkllmmbefedaaGreatDoorQRT7
import Derived.Test.YthkkllmmbefedaaGreatDoorQRT8
import Derived.Test.YthkkllmmbefedaaGreatDoorQGB0
namespace Go.Proofs.YthkkllmmbefedaaGreatDoor
open Go.RowKit
set_option maxHeartbeats 16000000
set_option maxRecDepth 100000
def listV (kd:Int) (P:PR (List Val)):PR Val:=P.bind fun p => .ok (.mk kd false 0 ⟨#[]⟩ 0 [] p.1 [],p.2)
def listQ (f:Int→List TokD→Bool→PR Val) (x:TyD) (l1:List TokD) (k:Bool):PR (List Val) :=
 if isP ⟨#[93]⟩ l1=true then .ok ([],l1.tail,k) else (sepR (f x.elem) l1 k).bind fun p=>(syP ⟨#[93]⟩ p.2.1).bind fun l2 => .ok (p.1,l2,p.2.2)
theorem listP_q (f:Int→List TokD→Bool→PR Val) (x:TyD) (l:List TokD) (k:Bool):listP f x l k=(syP ⟨#[91]⟩ l).bind fun l1=>listQ f x l1 k:=rfl
section
variable {C:RCx} {V:Vx}
def LiI (C:RCx) (V:Vx) (Rt:PR (List Val)) (n0:Nat) (W:World) (r:List TokD) (k:Bool):Prop:=∃vi I,VfS C V W r k 0 0 nilS vi nilS [] I []∧(I.length+r.length≤C.l.length∧r.length≤n0)∧SepI (valR false C.s V.x.elem) Rt (I.map (·.v)) r k
def LiJ (C:RCx) (V:Vx) (Rt:PR (List Val)) (n0:Nat) (W:World) (r:List TokD) (k:Bool):Prop:=∃vi I,VfS C V W r k 0 0 nilS vi nilS [] I []∧(I.length+r.length≤C.l.length∧r.length≤n0)∧(isP ⟨#[44]⟩ r=true→SepI (valR false C.s V.x.elem) Rt (I.map (·.v)) r.tail k)∧(isP ⟨#[44]⟩ r=false→Rt = .ok (I.map (·.v),r,k))
def LiF (C:RCx) (V:Vx) (P:PR (List Val)) (n0:Nat) (W:World) (r:List TokD) (k:Bool):Prop:=∃vi I,VfS C V W r k 0 0 nilS vi nilS [] I []∧(I.length≤2000000∧r.length≤n0)∧P = .ok (I.map (·.v),r,k)
def LiE (C:RCx) (V:Vx) (P:PR (List Val)) (n0:Nat) (W:World) (e:Int):Prop:=∃vi I r k,VfS C V W r k e 0 nilS vi nilS [] I []∧(I.length≤2000000∧r.length≤n0)∧P = .error e
theorem liC {n:Nat} (ih:ReadAt C n) (_hpv:V.pv=V.p) (he:0≤V.x.elem∧V.x.elem<(C.s.length:Int)) {n0:Nat} (hn:n0<n) {Rt P:PR (List Val)} (hP:P=Rt.bind fun p=>(syP ⟨#[93]⟩ p.2.1).bind fun l2 => .ok (p.1,l2,p.2.2)) :
  ListC C ⟨#[93]⟩ 128 [.pointer (some ⟨V.p,0,none⟩),.pointer (some ⟨V.pr,0,none⟩),.pointer (some ⟨V.px,0,none⟩)] (LiI C V Rt n0) (LiJ C V Rt n0) (LiF C V P n0) (LiE C V P n0) where
 iS:=fun W r k h=>by obtain ⟨_,_,h,_⟩:=h;exact h.rd
 jS:=fun W r k h=>by obtain ⟨_,_,h,_⟩:=h;exact h.rd
 part:=fun W r k ⟨vi,I,h,⟨h1,h2⟩,h3⟩=>by
  have hl6:=h.rd.ok.len;refine (value1_any ih h (by omega) he (by omega)).mono ?_
  rintro y W' ⟨rfl,x,vi',r',k',e',g1,g2,g3,g4⟩;refine ⟨rfl,r',k',e',g1.rd,g2,fun e=>?_,fun hne=>?_⟩
  ·subst e
   have g5:=g4 rfl
   cases hp:valR false C.s V.x.elem r k with
   | error e1=>rw[hp] at g5;exact absurd (g5▸hp) (valR_nz false _ _ _ _)
   | ok q =>
    obtain ⟨a,r1,k1⟩:=q;rw[hp] at g5;obtain ⟨rfl,rfl,rfl,_⟩:=g5;have hlt:=(valR_dec false C.s V.x.elem _ _ _ _ _ hp).2;refine ⟨vi',I++[x],g1,⟨by simp;omega,by omega⟩,fun hc=>?_,fun hc=>?_⟩
    ·rw[List.map_append];exact h3.comma (valR_dec false C.s V.x.elem) hp hc
    ·rw[List.map_append];exact h3.fin (valR_dec false C.s V.x.elem) hp hc
  ·have g5:=g4 rfl
   cases hp:valR false C.s V.x.elem r k with
   | error e1 =>
    rw[hp] at g5;obtain rfl:e'=e1:=g5;exact ⟨vi',_,r',k',g1,⟨by simp;omega,by omega⟩,by rw[hP,h3.bad (valR_dec false C.s V.x.elem) hp];rfl⟩
   | ok q =>
    rw[hp] at g5;exact absurd g5.2.2.2 hne
 comma:=fun W r k W' ⟨vi,I,h,⟨h1,h2⟩,h3,h4⟩ hc hb hr=>by
  have:=isP_sz hc;exact ⟨vi,I,h.bsd hb hr,⟨by omega,by omega⟩,h3 hc⟩
 fin:=fun W r k W' ⟨vi,I,h,⟨h1,h2⟩,h3,h4⟩ hc ht hb hr=>by
  have:=isP_sz ht;have hl6:=h.rd.ok.len;refine ⟨vi,I,h.bsd hb hr,⟨by omega,by omega⟩,?_⟩
  rw[hP,h4 hc,zM];unfold syP;simp only;rw[if_pos ht]
  rfl
 bad:=fun W r k W' ⟨vi,I,h,⟨h1,h2⟩,h3,h4⟩ hc ht hb hr=>by
  have hl6:=h.rd.ok.len;refine ⟨vi,I,r,k,h.bsd hb hr,⟨by omega,by omega⟩,?_⟩
  rw[hP,h4 hc,zM];unfold syP;simp only;rw[if_neg (by rw[ht];simp)]
  rfl
theorem listB_any {n:Nat} (ih:ReadAt C n) (hpv:V.pv=V.p) (he:0≤V.x.elem∧V.x.elem<(C.s.length:Int)) {W:World} {r:List TokD} {k:Bool} (h:VfS C V W r k 0 0 nilS nilS nilS [] [] []) (hn:r.length<n) :
  Calls Tryz.prog 127 #[.pointer (some ⟨C.b,0,none⟩),.string ⟨#[93]⟩,.func (.func 128) #[] #[.pointer (some ⟨V.p,0,none⟩),.pointer (some ⟨V.pr,0,none⟩),.pointer (some ⟨V.px,0,none⟩)]] W fun y W'=>y = .returned (.tuple #[]) ∧
   FillP C V.W0 V.p V.x.kind r (listV V.x.kind (listQ (valR false C.s) V.x r k)) W':=by
 have hl1:=h.rd.sfx.length_le;have hl6:=h.rd.ok.len
 by_cases hi:isP ⟨#[93]⟩ r=true
 ·have hQ:listQ (valR false C.s) V.x r k = .ok ([],r.tail,k):=by unfold listQ;rw[if_pos hi]
  have hc:=liC (V:=V) (C:=C) ih hpv he (n0:=r.length) hn (Rt := .error 0) (P := .error 0) rfl
  refine (list_value1 (F:=fun W' r' k'=>FillP C V.W0 V.p V.x.kind r (listV V.x.kind (listQ (valR false C.s) V.x r k)) W') (Er:=fun _ _=>False) { iS:=fun _ _ _ (h:False)=>h.elim,jS:=fun _ _ _ (h:False)=>h.elim,part:=fun _ _ _ (h:False)=>h.elim,comma:=fun _ _ _ _ (h:False)=>h.elim,fin:=fun _ _ _ _ (h:False)=>h.elim,bad:=fun _ _ _ _ (h:False)=>h.elim } h.rd (fun _ W' g1 g2=>?_) (fun g=>by rw[hi] at g;cases g)).mono ?_
  ·have:=isP_sz hi
   exact fill_ok (h.bsd g1 g2).fl (by omega) ⟨by simp,by simp,by simp⟩ rfl (by rw[hQ];rfl)
  ·rintro y w6 ⟨rfl,r6,k6,e6,g1,g2,g3⟩
   refine ⟨rfl,?_⟩
   by_cases hz:e6=0
   ·exact g2 hz
   ·exact (g3 hz).elim
 ·have hi':isP ⟨#[93]⟩ r=false:=by simpa using hi
  have hc:=liC (V:=V) (C:=C) ih hpv he (n0:=r.length) hn (Rt:=sepR (valR false C.s V.x.elem) r k) rfl;have hQ:listQ (valR false C.s) V.x r k=(sepR (valR false C.s V.x.elem) r k).bind fun p=>(syP ⟨#[93]⟩ p.2.1).bind fun l2 => .ok (p.1,l2,p.2.2):=by unfold listQ;rw[if_neg hi]
  refine (list_value1 hc h.rd (fun g=>absurd g hi) (fun _ W' g1 g2=>⟨nilS,[],h.bsd g1 g2,⟨by simp;omega,Nat.le_refl _⟩,SepI.start _ _ _⟩)).mono ?_
  rintro y w6 ⟨rfl,r6,k6,e6,g1,g2,g3⟩;refine ⟨rfl,?_⟩
  by_cases hz:e6=0
  ·subst hz
   obtain ⟨vi,I,j1,⟨j2,j3⟩,j4⟩:=g2 rfl;exact fill_ok j1.fl j3 ⟨by simp,j2,by simp⟩ rfl (by rw[hQ,j4];rfl)
  ·obtain ⟨vi,I,r7,k7,j1,⟨j2,j3⟩,j4⟩:=g3 hz
   exact fill_err j1.fl j3 ⟨by simp,j2,by simp⟩ (by rw[hQ,j4];rfl)
end
def VaP (C:RCx) (W0:World) (p:Nat) (kd:Int) (r:List TokD) (P:PR Val) (W':World):Prop:=∃bo it st di vk vi vr K I R r' k' e',RdS C W' r' k' e'∧VbS p W' kd bo it st di vk vi vr K I R∧Bsd C.b W0 W'∧r'.length≤r.length∧(K.length≤2000000∧I.length≤2000000∧R.length≤2000000) ∧
 match P with
 | .ok (v,r1,k1)=>v = .mk kd bo it st di (K.map (·.v)) (I.map (·.v)) R∧r'=r1∧k'=k1∧e'=0
 | .error e1=>e'=e1
theorem FillP.va {C:RCx} {W0:World} {p:Nat} {kd:Int} {r:List TokD} {P:PR Val} {W':World} (h:FillP C W0 p kd r P W'):VaP C W0 p kd r P W':=by
 obtain ⟨di,vk,vi,vr,K,I,R,r',k',e',h1,h2,h3,h4⟩:=h;exact ⟨false,0,⟨#[]⟩,di,vk,vi,vr,K,I,R,r',k',e',h1.rd,h1.vb,h1.fr,h2,h3,h4⟩
abbrev set8 (w:World) (p:Nat) (v0 v1 v2 v3 v4 v5 v6 v7:Value):World:=(((set5 w p v0 v1 v2 v3 v4).setCell ⟨p,5,none⟩ v5).setCell ⟨p,6,none⟩ v6).setCell ⟨p,7,none⟩ v7
theorem box8 {w:World} {p:Nat} {a0 a1 a2 a3 a4 a5 a6 a7:Value} {T:TypeId} (h:w.heap[p]? = some (.cells #[a0,a1,a2,a3,a4,a5,a6,a7] T)) (v0 v1 v2 v3 v4 v5 v6 v7:Value):(set8 w p v0 v1 v2 v3 v4 v5 v6 v7).heap[p]? = some (.cells #[v0,v1,v2,v3,v4,v5,v6,v7] T):=by
 have h0:=heap_setCell_same _ _ 0 _ _ v0 h;simp only[List.setIfInBounds_toArray,List.set_cons_zero] at h0;have h1:=heap_setCell_same _ _ 1 _ _ v1 h0;simp only[List.setIfInBounds_toArray,List.set_cons_zero,List.set_cons_succ] at h1;have h2:=heap_setCell_same _ _ 2 _ _ v2 h1;simp only[List.setIfInBounds_toArray,List.set_cons_zero,List.set_cons_succ] at h2;have h3:=heap_setCell_same _ _ 3 _ _ v3 h2
 simp only[List.setIfInBounds_toArray,List.set_cons_zero,List.set_cons_succ] at h3;have h4:=heap_setCell_same _ _ 4 _ _ v4 h3;simp only[List.setIfInBounds_toArray,List.set_cons_zero,List.set_cons_succ] at h4;have h5:=heap_setCell_same _ _ 5 _ _ v5 h4;simp only[List.setIfInBounds_toArray,List.set_cons_zero,List.set_cons_succ] at h5;have h6:=heap_setCell_same _ _ 6 _ _ v6 h5
 simp only[List.setIfInBounds_toArray,List.set_cons_zero,List.set_cons_succ] at h6;have h7:=heap_setCell_same _ _ 7 _ _ v7 h6;simp only[List.setIfInBounds_toArray,List.set_cons_zero,List.set_cons_succ] at h7;exact h7
theorem Bsd.eight {b B:Nat} {w w':World} (h:Bsd b w w') (v0 v1 v2 v3 v4 v5 v6 v7:Value) (hB:w.heap.size≤B) (hb:b<w.heap.size):Bsd b w (set8 w' B v0 v1 v2 v3 v4 v5 v6 v7) :=
 (((h.five v0 v1 v2 v3 v4 hB hb).two 5 v5 hB hb).two 6 v6 hB hb).two 7 v7 hB hb
theorem RdS.set8 {C:RCx} {w:World} {r:List TokD} {k:Bool} {e:Int} (h:RdS C w r k e) {B:Nat} (hB:C.b<B) (v0 v1 v2 v3 v4 v5 v6 v7:Value):RdS C (set8 w B v0 v1 v2 v3 v4 v5 v6 v7) r k e:=by
 have hz:C.w0.heap.size≤B:=by have:=h.ok.ge;omega
 exact (((h.set5 hB v0 v1 v2 v3 v4).oth (by omega) hz 5 v5).oth (by omega) hz 6 v6).oth (by omega) hz 7 v7
theorem off_set8 {S:Nat→Prop} {w:World} {P:World→Prop} (h:Off S w P) {B:Nat} (hB:S B) (v0 v1 v2 v3 v4 v5 v6 v7:Value):Off S (set8 w B v0 v1 v2 v3 v4 v5 v6 v7) P :=
 (((((((h.set v0 hB).set v1 hB).set v2 hB).set v3 hB).set v4 hB).set v5 hB).set v6 hB).set v7 hB
theorem zK {w:World} {p:Nat} {a0 a1 a2 a3 a4 a5 a6 a7:Value} {T:TypeId} (h:w.heap[p]? = some (.cells #[a0,a1,a2,a3,a4,a5,a6,a7] T)):(w.cell? ⟨p,0,none⟩=some a0∧w.cell? ⟨p,1,none⟩=some a1∧w.cell? ⟨p,2,none⟩=some a2∧w.cell? ⟨p,3,none⟩=some a3∧w.cell? ⟨p,4,none⟩=some a4∧w.cell? ⟨p,5,none⟩=some a5∧w.cell? ⟨p,6,none⟩=some a6∧w.cell? ⟨p,7,none⟩=some a7) ∧
  (w.frozen? ⟨p,0,none⟩=false∧w.frozen? ⟨p,1,none⟩=false∧w.frozen? ⟨p,2,none⟩=false∧w.frozen? ⟨p,3,none⟩=false∧w.frozen? ⟨p,4,none⟩=false∧w.frozen? ⟨p,5,none⟩=false∧w.frozen? ⟨p,6,none⟩=false∧w.frozen? ⟨p,7,none⟩=false):=by
 refine ⟨⟨?_,?_,?_,?_,?_,?_,?_,?_⟩,frozen_of_row _ _ _ _ _ h,frozen_of_row _ _ _ _ _ h,frozen_of_row _ _ _ _ _ h,frozen_of_row _ _ _ _ _ h,frozen_of_row _ _ _ _ _ h,frozen_of_row _ _ _ _ _ h,frozen_of_row _ _ _ _ _ h,frozen_of_row _ _ _ _ _ h⟩ <;> (rw[cell_of_row _ _ _ _ _ _ h];rfl)
theorem rfit_out_false {s : List TyD} {A : zo} {c : Nat} (hv : zQ s = 0) (t : Int) (v : Val) (A1 : zo) (c1 : Nat) (A2 : zo) (c2 : Nat) (A3 : zo) (c3 : Nat) (w : World) (hs : TysR w A s)
    (ho : (t < 0 ∨ (s.length : Int) ≤ t) ∨ (0 ≤ t ∧ t < (s.length : Int) ∧ v.kind ≠ (tyAt s t).kind) ∨ (0 ≤ t ∧ t < (s.length : Int) ∧ v.kind = (tyAt s t).kind ∧ (zJ v = false ∨ (zJ v = true ∧ false = true ∧ 0 < v.rest.length)))) :
    Calls Tryz.prog 71 #[.agg #[.slice A s.length c], .int .i64 t, v.v A1 c1 A2 c2 A3 c3, .bool false] w fun e w' => e = .returned (.bool false) ∧ Below w.heap.size w w' := by
  have hln := hs.1.lt (by omega)
  have HB0 := zh (zI w (.cells #[.slice A s.length c] 31) (v.box A1 c1 A2 c2 A3 c3));have H5 : Hid (((w.alloc (.cells #[.slice A s.length c] 31)).alloc (v.box A1 c1 A2 c2 A3 c3)).heap[w.heap.size]? = some (.cells #[.slice A s.length c] 31)) := zE (heap_alloc_new w _) (zD _ _)
  have H7 : Hid (((w.alloc (.cells #[.slice A s.length c] 31)).alloc (v.box A1 c1 A2 c2 A3 c3)).heap[w.heap.size + 1]? = some (v.box A1 c1 A2 c2 A3 c3)) := by
    show _ = _
    have := heap_alloc_new (w.alloc (.cells #[.slice A s.length c] 31)) (v.box A1 c1 A2 c2 A3 c3)
    simpa using this
  by_cases r1 : t < 0
  · clear ho hs
    go_enter Tryz.func71, Tryz.ntmps71
    go_upto_region 1 with fail
    generalize (w.alloc (.cells #[.slice A s.length c] 31)).alloc (v.box A1 c1 A2 c2 A3 c3) = W2 at *;go_wp2;go_ret;exact ⟨rfl, HB0.out⟩
  by_cases r2 : (s.length : Int) ≤ t
  · clear ho hs
    go_enter Tryz.func71, Tryz.ntmps71
    go_upto_region 1 with fail
    generalize (w.alloc (.cells #[.slice A s.length c] 31)).alloc (v.box A1 c1 A2 c2 A3 c3) = W2 at *;have x0 : W2.cell? ⟨w.heap.size, 0, none⟩ = some (.slice A s.length c) := by rw [cell_of_row _ _ _ _ _ _ H5.out]; rfl
    go_wp2
    go_ret
    exact ⟨rfl, HB0.out⟩
  obtain ⟨tn, rfl⟩ := Int.eq_ofNat_of_zero_le (show 0 ≤ t by omega)
  have htn : tn < s.length := by omega
  have hkr := kind_rng (t := (tn : Int)) hv (by omega)
  rw [zT htn] at ho hkr;obtain ⟨b, o, As, cs, Am, cm, hA, htr, t0, t1, t2, t3, t4, t5, t6, t7, t8, t9⟩ := (hs.below HB0.out).at10 htn;subst hA;have ho2 : v.kind ≠ (s[tn]).kind ∨ (v.kind = (s[tn]).kind ∧ (zJ v = false ∨ (zJ v = true ∧ false = true ∧ 0 < v.rest.length))) := by
    rcases ho with h | ⟨_, _, h⟩ | ⟨_, _, h⟩
    · exact absurd h (by omega)
    · exact .inl h
    · exact .inr h
  generalize s[tn] = x at *;have h1 : (0 : Int) ≤ (tn : Int) := by omega
  have h2 : (tn : Int) < (s.length : Int) := by omega
  have HO := zh ho2;have HKR := zh hkr;clear ho ho2 hkr htr hs
  go_enter Tryz.func71, Tryz.ntmps71
  go_upto_region 1 with fail
  generalize (w.alloc (.cells #[.slice (some ⟨b, o, none⟩) s.length c] 31)).alloc (v.box A1 c1 A2 c2 A3 c3) = W2 at *;have x0 : W2.cell? ⟨w.heap.size, 0, none⟩ = some (.slice (some ⟨b, o, none⟩) s.length c) := by rw [cell_of_row _ _ _ _ _ _ H5.out]; rfl
  go_upto_region 4 with fail
  clear t0 t1 t2 t3 t4 t5 t6 t7 t8 t9 x0 r1 r2;have HBX := zh (zD W2 (x.box As cs Am cm));have HXT : Hid (TBox (W2.alloc (x.box As cs Am cm)) W2.heap.size x As cs Am cm) := heap_alloc_new W2 _;have HX7 := zh (zE H7.out HBX.out);have HB3 := zh (zB HB0.out HBX.out);generalize W2.alloc (x.box As cs Am cm) = W3 at *;generalize W2.heap.size = p9 at *;clear H5 H7 HBX HB0
  obtain ⟨v0, v1, v2, v3, v4, v5, v6, v7⟩ := zF HX7.out;obtain ⟨b0, b1, b2, b3, b4, b5, b6, b7, b8, b9⟩ := zG HXT.out
  by_cases hk : v.kind = x.kind
  case neg =>
    have q0 : (v.kind != x.kind) = true := by simp [hk]
    clear hk;go_wp2;go_ret;exact ⟨rfl, HB3.out⟩
  have q0 : (v.kind != x.kind) = false := by simp [hk]
  have HO2 : Hid (zJ v = false ∨ (zJ v = true ∧ false = true ∧ 0 < v.rest.length)) := by
    rcases HO.out with h | ⟨_, h⟩
    · exact absurd hk h
    · exact h
  have HKV : Hid (1 ≤ v.kind ∧ v.kind ≤ 9) := by show _ ∧ _; rw [hk]; exact HKR.out
  clear hk HO;go_wp2_with fail;refine (yJ v HKV.out A1 c1 A2 c2 A3 c3 W3).mono ?_;rintro e w4 ⟨rfl, hb4⟩;have HB4 := zh (zB HB3.out hb4);have HX7a := zh (zE HX7.out hb4);clear hb4 v0 v1 v2 v3 v4 v5 v6 v7 b0 b1 b2 b3 b4 b5 b6 b7 b8 b9;obtain ⟨v0, v1, v2, v3, v4, v5, v6, v7⟩ := zF HX7a.out
  cases hp : zJ v with
  | false =>
    clear HO2 hp;go_wp2;go_ret;exact ⟨rfl, HB4.out⟩
  | true =>
    have HR0 : Hid (false = true ∧ 0 < v.rest.length) := by
      rcases HO2.out with h | ⟨_, h⟩
      · rw [hp] at h; cases h
      · exact ⟨by first | rfl | exact h.1, h.2⟩
    clear HO2 hp
    first
      | exact absurd HR0.out.1 (by decide)
      | (have z0 : (0 : Int) < (v.rest.length : Int) := by have := HR0.out.2; omega
         clear HR0;go_wp2;go_ret;exact ⟨rfl, HB4.out⟩)
theorem rfit_step_false {s:List TyD} {A:zo} {c n:Nat} (hv:zQ s=0) (hn:Num64 s) (ih:RFitAt s A c false n):RFitAt s A c false (n+1):=by
 intro t v A1 c1 A2 c2 A3 c3 w hsz0 hs hr
 have hsz:∀y,y∈v.keys∨y∈v.items→SizeOf.sizeOf y≤n:=fun y hy=>by have:=val_size v y hy;omega
 have hE:fitF s false (n+1) t v=if t<0∨(s.length:Int)≤t then false else if v.kind≠(tyAt s t).kind∨zJ v=false then false else fitB (fitF s false n) false (tyAt s t) v:=by rw[fitF]
 by_cases h1:t<0∨(s.length:Int)≤t
 ·rw[hE,if_pos h1]
  exact rfit_out_false hv t v A1 c1 A2 c2 A3 c3 w hs (.inl h1)
 rw[if_neg h1] at hE
 by_cases hk:v.kind=(tyAt s t).kind
 case neg =>
  rw[hE,if_pos (.inl hk)];exact rfit_out_false hv t v A1 c1 A2 c2 A3 c3 w hs (.inr (.inl ⟨by omega,by omega,hk⟩))
 cases hp:zJ v with
 | false =>
  rw[hE,if_pos (.inr hp)];exact rfit_out_false hv t v A1 c1 A2 c2 A3 c3 w hs (.inr (.inr ⟨by omega,by omega,hk,.inl hp⟩))
 | true =>
  rw[if_neg (by rw[hp];simp[hk])] at hE
  rw[hE]
  by_cases hr0:false=true∧0<v.rest.length
  ·have hF:fitB (fitF s false n) false (tyAt s t) v=false:=by
    first
     | exact absurd hr0.1 (by decide)
     | exact fit_rest hp hk hr0.2
   rw[hF];exact rfit_out_false hv t v A1 c1 A2 c2 A3 c3 w hs (.inr (.inr ⟨by omega,by omega,hk,.inr ⟨hp,hr0⟩⟩))
  have hre:false=true→v.rest.length=0:=fun h=>Nat.eq_zero_of_not_pos fun g=>hr0 ⟨h,g⟩
  have hkr:=kind_rng hv (t:=t) (by omega)
  obtain ⟨tn,rfl⟩:=Int.eq_ofNat_of_zero_le (show 0≤t by omega)
  have htn:tn<s.length:=by omega
  rw[zT htn] at hkr hk ⊢;have hkx:(s[tn]).kind=1∨(s[tn]).kind=2∨(s[tn]).kind=3∨(s[tn]).kind=4∨(s[tn]).kind=5∨(s[tn]).kind=6∨(s[tn]).kind=7∨(s[tn]).kind=8∨(s[tn]).kind=9:=by omega
  rcases hkx with e|e|e|e|e|e|e|e|e
  ·exact rfit_1 false hv hn ih tn htn v A1 c1 A2 c2 A3 c3 w hsz hs hr e hk hp hre
  ·exact rfit_2 false hv hn ih tn htn v A1 c1 A2 c2 A3 c3 w hsz hs hr e hk hp hre
  ·exact rfit_3 false hv hn ih tn htn v A1 c1 A2 c2 A3 c3 w hsz hs hr e hk hp hre
  ·exact rfit_4_false hv hn ih tn htn v A1 c1 A2 c2 A3 c3 w hsz hs hr e hk hp hre
  ·exact rfit_5 false hv hn ih tn htn v A1 c1 A2 c2 A3 c3 w hsz hs hr e hk hp hre
  ·exact rfit_6_false hv hn ih tn htn v A1 c1 A2 c2 A3 c3 w hsz hs hr e hk hp hre
  ·exact rfit_7 false hv hn ih tn htn v A1 c1 A2 c2 A3 c3 w hsz hs hr e hk hp hre
  ·exact rfit_8 false hv hn ih tn htn v A1 c1 A2 c2 A3 c3 w hsz hs hr e hk hp hre
  ·exact rfit_9 false hv hn ih tn htn v A1 c1 A2 c2 A3 c3 w hsz hs hr e hk hp hre
theorem rfit_all_false {s:List TyD} {A:zo} {c:Nat} (hv:zQ s=0) (hn:Num64 s):∀n,RFitAt s A c false n
 | 0=>fun _ v _ _ _ _ _ _ _ h=>absurd h (by have:=sizeV_pos v;omega)
 | n+1=>rfit_step_false hv hn (rfit_all_false hv hn n)
theorem r08_Fits_any {s:List TyD} (A:zo) (c:Nat) (hv:zQ s=0) (hn:Num64 s) (t:Int) (v:Val) (A1:zo) (c1:Nat) (A2:zo) (c2:Nat) (A3:zo) (c3:Nat) (w:World) (hs:TysR w A s) (hr:ValR w v A1 A2 A3) :
  Calls Tryz.prog 45 #[.agg #[.slice A s.length c],.int .i64 t,v.v A1 c1 A2 c2 A3 c3] w fun e w'=>e = .returned (.bool (fitV s false t v))∧Below w.heap.size w w':=by
 have HS:=zh hs;have HR:=zh hr;have HF:=zh (rfit_all_false (A:=A) (c:=c) hv hn (SizeOf.sizeOf v));have HB0:=zh (zI w (.cells #[.slice A s.length c] 31) (v.box A1 c1 A2 c2 A3 c3));have HX0:=zh (tmp_al (heap_alloc_new w (.cells #[.slice A s.length c] 31)) (v.box A1 c1 A2 c2 A3 c3))
 have HY0:Hid (((w.alloc (.cells #[.slice A s.length c] 31)).alloc (v.box A1 c1 A2 c2 A3 c3)).heap[w.heap.size+1]? = some (v.box A1 c1 A2 c2 A3 c3)):=by
  have:=heap_alloc_new (w.alloc (.cells #[.slice A s.length c] 31)) (v.box A1 c1 A2 c2 A3 c3);rw[show (w.alloc (.cells #[.slice A s.length c] 31)).heap.size=w.heap.size+1 by simp] at this
  exact this
 clear hs hr hv hn
 go_enter Tryz.func45,Tryz.ntmps45
 go_upto_region 1 with fail
 generalize (w.alloc (.cells #[.slice A s.length c] 31)).alloc (v.box A1 c1 A2 c2 A3 c3)=W1 at *;obtain ⟨v0,v1,v2,v3,v4,v5,v6,v7⟩:=zF HY0.out;have x0:=zb HX0.out;go_wp2_with fail;refine (HF.out t v A1 c1 A2 c2 A3 c3 _ (Nat.le_refl _) (HS.out.below HB0.out) (HR.out.below HB0.out)).mono ?_;rintro e w1 ⟨rfl,hb1⟩;have HB1:=zh (zB HB0.out hb1);clear hb1;go_wp2;go_ret;exact ⟨rfl,HB1.out⟩
theorem text_step {s:List TyD} {A:zo} {c n:Nat} (hv:zQ s=0) (hn:Num64 s) (ih:TextAt s A c n):TextAt s A c (n+1):=by
 intro t v A1 c1 A2 c2 A3 c3 w hf hs hr htb hz
 obtain ⟨i0,i1,_,hfb⟩:=fitF_out hf;obtain ⟨tn,rfl⟩:=Int.eq_ofNat_of_zero_le i0;have htn:tn<s.length:=by omega
 have hk:=kind_rng hv ⟨i0,i1⟩;rw[zT htn] at hfb hk;have hl:litF s (n+1) (tn:Int) v=litB (litF s n) s[tn] v:=by rw[litF,zT htn]
 rw[hl] at hz ⊢;have hkx:(s[tn]).kind=1∨(s[tn]).kind=2∨(s[tn]).kind=3∨(s[tn]).kind=4∨(s[tn]).kind=5∨(s[tn]).kind=6∨(s[tn]).kind=7∨(s[tn]).kind=8∨(s[tn]).kind=9:=by omega
 rcases hkx with e|e|e|e|e|e|e|e|e
 ·exact rtext_1 hn ih tn htn v A1 c1 A2 c2 A3 c3 w e hfb hs hr htb hz
 ·exact rtext_2 hn ih tn htn v A1 c1 A2 c2 A3 c3 w e hfb hs hr htb hz
 ·exact rtext_3 hn ih tn htn v A1 c1 A2 c2 A3 c3 w e hfb hs hr htb hz
 ·exact rtext_4 hn ih tn htn v A1 c1 A2 c2 A3 c3 w e hfb hs hr htb hz
 ·exact rtext_5 hn ih tn htn v A1 c1 A2 c2 A3 c3 w e hfb hs hr htb hz
 ·exact rtext_6 hn ih tn htn v A1 c1 A2 c2 A3 c3 w e hfb hs hr htb hz
 ·exact rtext_7 hn ih tn htn v A1 c1 A2 c2 A3 c3 w e hfb hs hr htb hz
 ·exact rtext_8 hn ih tn htn v A1 c1 A2 c2 A3 c3 w e hfb hs hr htb hz
 ·exact rtext_9 hn ih tn htn v A1 c1 A2 c2 A3 c3 w e hfb hs hr htb hz
theorem text_all {s:List TyD} {A:zo} {c:Nat} (hv:zQ s=0) (hn:Num64 s):∀n,TextAt s A c n
 | 0=>fun _ _ _ _ _ _ _ _ _ hf=>by cases hf
 | n+1=>text_step hv hn (text_all hv hn n)
theorem rFormat_any {s:List TyD} (A:zo) (c:Nat) (hv:zQ s=0) (hn:Num64 s) (t:Int) (v:Val) (hz:(fmtT s t v).size≤1073741824) (A1:zo) (c1:Nat) (A2:zo) (c2:Nat) (A3:zo) (c3:Nat) (w:World) (hs:TysR w A s) (hr:ValR w v A1 A2 A3) (htb:Tab w) :
  Calls Tryz.prog 15 #[.agg #[.slice A s.length c],.int .i64 t,v.v A1 c1 A2 c2 A3 c3] w fun e w'=>e = .returned (.tuple #[.string (fmtT s t v),.int .i64 (if fitV s false t v then 0 else 1)])∧Below w.heap.size w w':=by
 have HS:=zh hs;have HR:=zh hr;have HTB:=zh htb;have HF:=zh (r08_Fits_any (s:=s) A c hv hn t v A1 c1 A2 c2 A3 c3);have HW:=zh (text_all (A:=A) (c:=c) hv hn (SizeOf.sizeOf v));have HZ:Hid (fmtT s t v=if fitV s false t v then litV s t v else ⟨#[]⟩):=rfl
 have HLV:Hid (litV s t v=litF s (SizeOf.sizeOf v) t v):=rfl;have HFV:Hid (fitV s false t v=fitF s false (SizeOf.sizeOf v) t v):=rfl;have HZ2:=zh hz;have HB0:=zh (zI w (.cells #[.slice A s.length c] 31) (v.box A1 c1 A2 c2 A3 c3));have HX0:=zh (tmp_al (heap_alloc_new w (.cells #[.slice A s.length c] 31)) (v.box A1 c1 A2 c2 A3 c3))
 have HY0:Hid (((w.alloc (.cells #[.slice A s.length c] 31)).alloc (v.box A1 c1 A2 c2 A3 c3)).heap[w.heap.size+1]? = some (v.box A1 c1 A2 c2 A3 c3)):=by
  have:=heap_alloc_new (w.alloc (.cells #[.slice A s.length c] 31)) (v.box A1 c1 A2 c2 A3 c3);rw[show (w.alloc (.cells #[.slice A s.length c] 31)).heap.size=w.heap.size+1 by simp] at this
  exact this
 generalize fmtT s t v=FT at *;generalize hER:(if fitV s false t v then (0:Int) else 1)=ER
 replace hER:=zh hER;clear hs hr hv hn htb hz
 go_enter Tryz.func15,Tryz.ntmps15
 go_upto_region 1 with fail
 generalize (w.alloc (.cells #[.slice A s.length c] 31)).alloc (v.box A1 c1 A2 c2 A3 c3)=W1 at *;obtain ⟨v0,v1,v2,v3,v4,v5,v6,v7⟩:=zF HY0.out;have x0:=zb HX0.out;go_wp2_with fail;refine (HF.out _ (HS.out.below HB0.out) (HR.out.below HB0.out)).mono ?_;rintro e w1 ⟨rfl,hb1⟩;have HB1:=zh (zB HB0.out hb1);have HX1:=zh (zE HX0.out hb1);have HY1:=zh (zE HY0.out hb1);clear hb1 v0 v1 v2 v3 v4 v5 v6 v7 x0
 cases hf:fitV s false t v with
 | false =>
  have HE:Hid (FT=⟨#[]⟩):=by show _=_;rw[HZ.out,hf];rfl
  have HR0:Hid (ER=1):=by show _=_;rw[←hER.out,hf];rfl
  clear hf;go_wp2;go_ret2;exact ⟨by rw[HE.out,HR0.out];rfl,HB1.out⟩
 | true =>
  have HE:Hid (FT=litF s (SizeOf.sizeOf v) t v):=by show _=_;rw[HZ.out,hf,←HLV.out];rfl
  have HR0:Hid (ER=0):=by show _=_;rw[←hER.out,hf];rfl
  have HFT:Hid (fitF s false (SizeOf.sizeOf v) t v=true):=HFV.out.symm.trans hf;clear hf;obtain ⟨v0,v1,v2,v3,v4,v5,v6,v7⟩:=zF HY1.out;have x0:=zb HX1.out;go_wp2_with fail;refine (HW.out t v A1 c1 A2 c2 A3 c3 _ HFT.out (HS.out.below HB1.out) (HR.out.below HB1.out) (HTB.out.below HB1.out) (by rw[←HE.out];exact HZ2.out)).mono ?_
  rintro e w2 ⟨rfl,hb2⟩;rw[←HE.out];have HB2:=zh (zB HB1.out hb2);clear hb2 v0 v1 v2 v3 v4 v5 v6 v7 x0;go_wp2;go_ret2;exact ⟨by rw[HR0.out];rfl,HB2.out⟩
end Go.Proofs.YthkkllmmbefedaaGreatDoor


