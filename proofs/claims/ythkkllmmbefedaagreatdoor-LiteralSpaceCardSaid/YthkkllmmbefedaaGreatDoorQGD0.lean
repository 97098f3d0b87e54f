/-
  The literal's reader: lists; the value's end.
-/
import Derived.Test.YthkkllmmbefedaaGreatDoorQNRH
namespace Go.Proofs.YthkkllmmbefedaaGreatDoor
open Go.RowKit
set_option maxHeartbeats 16000000
set_option maxRecDepth 100000
def listV (kd:Int) (P:PR (List Val)):PR Val:=P.bind fun p => .ok (.mk kd false 0 ⟨#[]⟩ 0 [] p.1 [],p.2)
def listQ (f:Int→List TokD→Bool→PR Val) (x:TyD) (l1:List TokD) (k:Bool):PR (List Val) :=
 if isP ⟨#[93]⟩ l1=true then .ok ([],l1.tail,k) else (sepR (f x.elem) l1 k).bind fun p=>(syP ⟨#[93]⟩ p.2.1).bind fun l2 => .ok (p.1,l2,p.2.2)
theorem listP_q (f:Int→List TokD→Bool→PR Val) (x:TyD) (l:List TokD) (k:Bool):listP f x l k=(syP ⟨#[91]⟩ l).bind fun l1=>listQ f x l1 k:=rfl
section
variable {C:RCx} {V:Vx}
def LiI (C:RCx) (V:Vx) (Rt:PR (List Val)) (n0:Nat) (W:World) (r:List TokD) (k:Bool):Prop:=∃vi I,VfS C V W r k 0 0 nilS vi nilS [] I []∧(I.length+r.length≤C.l.length∧r.length≤n0)∧SepI (valR false C.s V.x.elem) Rt (I.map (·.v)) r k
def LiJ (C:RCx) (V:Vx) (Rt:PR (List Val)) (n0:Nat) (W:World) (r:List TokD) (k:Bool):Prop:=∃vi I,VfS C V W r k 0 0 nilS vi nilS [] I []∧(I.length+r.length≤C.l.length∧r.length≤n0)∧(isP ⟨#[44]⟩ r=true→SepI (valR false C.s V.x.elem) Rt (I.map (·.v)) r.tail k)∧(isP ⟨#[44]⟩ r=false→Rt = .ok (I.map (·.v),r,k))
def LiF (C:RCx) (V:Vx) (P:PR (List Val)) (n0:Nat) (W:World) (r:List TokD) (k:Bool):Prop:=∃vi I,VfS C V W r k 0 0 nilS vi nilS [] I []∧(I.length≤2000000∧r.length≤n0)∧P = .ok (I.map (·.v),r,k)
def LiE (C:RCx) (V:Vx) (P:PR (List Val)) (n0:Nat) (W:World) (e:Int):Prop:=∃vi I r k,VfS C V W r k e 0 nilS vi nilS [] I []∧(I.length≤2000000∧r.length≤n0)∧P = .error e
theorem liC {n:Nat} (ih:ReadAt C n) (_hpv:V.pv=V.p) (he:0≤V.x.elem∧V.x.elem<(C.s.length:Int)) {n0:Nat} (hn:n0<n) {Rt P:PR (List Val)} (hP:P=Rt.bind fun p=>(syP ⟨#[93]⟩ p.2.1).bind fun l2 => .ok (p.1,l2,p.2.2)) :
  ListC C ⟨#[93]⟩ 128 [.pointer (some ⟨V.p,0,none⟩),.pointer (some ⟨V.pr,0,none⟩),.pointer (some ⟨V.px,0,none⟩)] (LiI C V Rt n0) (LiJ C V Rt n0) (LiF C V P n0) (LiE C V P n0) where
 iS:=fun W r k h=>by obtain ⟨_,_,h,_⟩:=h;exact h.rd
 jS:=fun W r k h=>by obtain ⟨_,_,h,_⟩:=h;exact h.rd
 part:=fun W r k ⟨vi,I,h,⟨h1,h2⟩,h3⟩=>by
  have hl6:=h.rd.ok.len;refine (value1_any ih h (by omega) he (by omega)).mono ?_
  rintro y W' ⟨rfl,x,vi',r',k',e',g1,g2,g3,g4⟩;refine ⟨rfl,r',k',e',g1.rd,g2,fun e=>?_,fun hne=>?_⟩
  ·subst e
   have g5:=g4 rfl
   cases hp:valR false C.s V.x.elem r k with
   | error e1=>rw[hp] at g5;exact absurd (g5▸hp) (valR_nz false _ _ _ _)
   | ok q =>
    obtain ⟨a,r1,k1⟩:=q;rw[hp] at g5;obtain ⟨rfl,rfl,rfl,_⟩:=g5;have hlt:=(valR_dec false C.s V.x.elem _ _ _ _ _ hp).2;refine ⟨vi',I++[x],g1,⟨by simp;omega,by omega⟩,fun hc=>?_,fun hc=>?_⟩
    ·rw[List.map_append];exact h3.comma (valR_dec false C.s V.x.elem) hp hc
    ·rw[List.map_append];exact h3.fin (valR_dec false C.s V.x.elem) hp hc
  ·have g5:=g4 rfl
   cases hp:valR false C.s V.x.elem r k with
   | error e1 =>
    rw[hp] at g5;obtain rfl:e'=e1:=g5;exact ⟨vi',_,r',k',g1,⟨by simp;omega,by omega⟩,by rw[hP,h3.bad (valR_dec false C.s V.x.elem) hp];rfl⟩
   | ok q =>
    rw[hp] at g5;exact absurd g5.2.2.2 hne
 comma:=fun W r k W' ⟨vi,I,h,⟨h1,h2⟩,h3,h4⟩ hc hb hr=>by
  have:=isP_sz hc;exact ⟨vi,I,h.bsd hb hr,⟨by omega,by omega⟩,h3 hc⟩
 fin:=fun W r k W' ⟨vi,I,h,⟨h1,h2⟩,h3,h4⟩ hc ht hb hr=>by
  have:=isP_sz ht;have hl6:=h.rd.ok.len;refine ⟨vi,I,h.bsd hb hr,⟨by omega,by omega⟩,?_⟩
  rw[hP,h4 hc,zM];unfold syP;simp only;rw[if_pos ht]
  rfl
 bad:=fun W r k W' ⟨vi,I,h,⟨h1,h2⟩,h3,h4⟩ hc ht hb hr=>by
  have hl6:=h.rd.ok.len;refine ⟨vi,I,r,k,h.bsd hb hr,⟨by omega,by omega⟩,?_⟩
  rw[hP,h4 hc,zM];unfold syP;simp only;rw[if_neg (by rw[ht];simp)]
  rfl
theorem listB_any {n:Nat} (ih:ReadAt C n) (hpv:V.pv=V.p) (he:0≤V.x.elem∧V.x.elem<(C.s.length:Int)) {W:World} {r:List TokD} {k:Bool} (h:VfS C V W r k 0 0 nilS nilS nilS [] [] []) (hn:r.length<n) :
  Calls Tryz.prog 127 #[.pointer (some ⟨C.b,0,none⟩),.string ⟨#[93]⟩,.func (.func 128) #[] #[.pointer (some ⟨V.p,0,none⟩),.pointer (some ⟨V.pr,0,none⟩),.pointer (some ⟨V.px,0,none⟩)]] W fun y W'=>y = .returned (.tuple #[]) ∧
   FillP C V.W0 V.p V.x.kind r (listV V.x.kind (listQ (valR false C.s) V.x r k)) W':=by
 have hl1:=h.rd.sfx.length_le;have hl6:=h.rd.ok.len
 by_cases hi:isP ⟨#[93]⟩ r=true
 ·have hQ:listQ (valR false C.s) V.x r k = .ok ([],r.tail,k):=by unfold listQ;rw[if_pos hi]
  have hc:=liC (V:=V) (C:=C) ih hpv he (n0:=r.length) hn (Rt := .error 0) (P := .error 0) rfl
  refine (list_value1 (F:=fun W' r' k'=>FillP C V.W0 V.p V.x.kind r (listV V.x.kind (listQ (valR false C.s) V.x r k)) W') (Er:=fun _ _=>False) { iS:=fun _ _ _ (h:False)=>h.elim,jS:=fun _ _ _ (h:False)=>h.elim,part:=fun _ _ _ (h:False)=>h.elim,comma:=fun _ _ _ _ (h:False)=>h.elim,fin:=fun _ _ _ _ (h:False)=>h.elim,bad:=fun _ _ _ _ (h:False)=>h.elim } h.rd (fun _ W' g1 g2=>?_) (fun g=>by rw[hi] at g;cases g)).mono ?_
  ·have:=isP_sz hi
   exact fill_ok (h.bsd g1 g2).fl (by omega) ⟨by simp,by simp,by simp⟩ rfl (by rw[hQ];rfl)
  ·rintro y w6 ⟨rfl,r6,k6,e6,g1,g2,g3⟩
   refine ⟨rfl,?_⟩
   by_cases hz:e6=0
   ·exact g2 hz
   ·exact (g3 hz).elim
 ·have hi':isP ⟨#[93]⟩ r=false:=by simpa using hi
  have hc:=liC (V:=V) (C:=C) ih hpv he (n0:=r.length) hn (Rt:=sepR (valR false C.s V.x.elem) r k) rfl;have hQ:listQ (valR false C.s) V.x r k=(sepR (valR false C.s V.x.elem) r k).bind fun p=>(syP ⟨#[93]⟩ p.2.1).bind fun l2 => .ok (p.1,l2,p.2.2):=by unfold listQ;rw[if_neg hi]
  refine (list_value1 hc h.rd (fun g=>absurd g hi) (fun _ W' g1 g2=>⟨nilS,[],h.bsd g1 g2,⟨by simp;omega,Nat.le_refl _⟩,SepI.start _ _ _⟩)).mono ?_
  rintro y w6 ⟨rfl,r6,k6,e6,g1,g2,g3⟩;refine ⟨rfl,?_⟩
  by_cases hz:e6=0
  ·subst hz
   obtain ⟨vi,I,j1,⟨j2,j3⟩,j4⟩:=g2 rfl;exact fill_ok j1.fl j3 ⟨by simp,j2,by simp⟩ rfl (by rw[hQ,j4];rfl)
  ·obtain ⟨vi,I,r7,k7,j1,⟨j2,j3⟩,j4⟩:=g3 hz
   exact fill_err j1.fl j3 ⟨by simp,j2,by simp⟩ (by rw[hQ,j4];rfl)
end
def VaP (C:RCx) (W0:World) (p:Nat) (kd:Int) (r:List TokD) (P:PR Val) (W':World):Prop:=∃bo it st di vk vi vr K I R r' k' e',RdS C W' r' k' e'∧VbS p W' kd bo it st di vk vi vr K I R∧Bsd C.b W0 W'∧r'.length≤r.length∧(K.length≤2000000∧I.length≤2000000∧R.length≤2000000) ∧
 match P with
 | .ok (v,r1,k1)=>v = .mk kd bo it st di (K.map (·.v)) (I.map (·.v)) R∧r'=r1∧k'=k1∧e'=0
 | .error e1=>e'=e1
theorem FillP.va {C:RCx} {W0:World} {p:Nat} {kd:Int} {r:List TokD} {P:PR Val} {W':World} (h:FillP C W0 p kd r P W'):VaP C W0 p kd r P W':=by
 obtain ⟨di,vk,vi,vr,K,I,R,r',k',e',h1,h2,h3,h4⟩:=h;exact ⟨false,0,⟨#[]⟩,di,vk,vi,vr,K,I,R,r',k',e',h1.rd,h1.vb,h1.fr,h2,h3,h4⟩
abbrev set8 (w:World) (p:Nat) (v0 v1 v2 v3 v4 v5 v6 v7:Value):World:=(((set5 w p v0 v1 v2 v3 v4).setCell ⟨p,5,none⟩ v5).setCell ⟨p,6,none⟩ v6).setCell ⟨p,7,none⟩ v7
theorem box8 {w:World} {p:Nat} {a0 a1 a2 a3 a4 a5 a6 a7:Value} {T:TypeId} (h:w.heap[p]? = some (.cells #[a0,a1,a2,a3,a4,a5,a6,a7] T)) (v0 v1 v2 v3 v4 v5 v6 v7:Value):(set8 w p v0 v1 v2 v3 v4 v5 v6 v7).heap[p]? = some (.cells #[v0,v1,v2,v3,v4,v5,v6,v7] T):=by
 have h0:=heap_setCell_same _ _ 0 _ _ v0 h;simp only[List.setIfInBounds_toArray,List.set_cons_zero] at h0;have h1:=heap_setCell_same _ _ 1 _ _ v1 h0;simp only[List.setIfInBounds_toArray,List.set_cons_zero,List.set_cons_succ] at h1;have h2:=heap_setCell_same _ _ 2 _ _ v2 h1;simp only[List.setIfInBounds_toArray,List.set_cons_zero,List.set_cons_succ] at h2;have h3:=heap_setCell_same _ _ 3 _ _ v3 h2
 simp only[List.setIfInBounds_toArray,List.set_cons_zero,List.set_cons_succ] at h3;have h4:=heap_setCell_same _ _ 4 _ _ v4 h3;simp only[List.setIfInBounds_toArray,List.set_cons_zero,List.set_cons_succ] at h4;have h5:=heap_setCell_same _ _ 5 _ _ v5 h4;simp only[List.setIfInBounds_toArray,List.set_cons_zero,List.set_cons_succ] at h5;have h6:=heap_setCell_same _ _ 6 _ _ v6 h5
 simp only[List.setIfInBounds_toArray,List.set_cons_zero,List.set_cons_succ] at h6;have h7:=heap_setCell_same _ _ 7 _ _ v7 h6;simp only[List.setIfInBounds_toArray,List.set_cons_zero,List.set_cons_succ] at h7;exact h7
theorem Bsd.eight {b B:Nat} {w w':World} (h:Bsd b w w') (v0 v1 v2 v3 v4 v5 v6 v7:Value) (hB:w.heap.size≤B) (hb:b<w.heap.size):Bsd b w (set8 w' B v0 v1 v2 v3 v4 v5 v6 v7) :=
 (((h.five v0 v1 v2 v3 v4 hB hb).two 5 v5 hB hb).two 6 v6 hB hb).two 7 v7 hB hb
theorem RdS.set8 {C:RCx} {w:World} {r:List TokD} {k:Bool} {e:Int} (h:RdS C w r k e) {B:Nat} (hB:C.b<B) (v0 v1 v2 v3 v4 v5 v6 v7:Value):RdS C (set8 w B v0 v1 v2 v3 v4 v5 v6 v7) r k e:=by
 have hz:C.w0.heap.size≤B:=by have:=h.ok.ge;omega
 exact (((h.set5 hB v0 v1 v2 v3 v4).oth (by omega) hz 5 v5).oth (by omega) hz 6 v6).oth (by omega) hz 7 v7
theorem off_set8 {S:Nat→Prop} {w:World} {P:World→Prop} (h:Off S w P) {B:Nat} (hB:S B) (v0 v1 v2 v3 v4 v5 v6 v7:Value):Off S (set8 w B v0 v1 v2 v3 v4 v5 v6 v7) P :=
 (((((((h.set v0 hB).set v1 hB).set v2 hB).set v3 hB).set v4 hB).set v5 hB).set v6 hB).set v7 hB
theorem zK {w:World} {p:Nat} {a0 a1 a2 a3 a4 a5 a6 a7:Value} {T:TypeId} (h:w.heap[p]? = some (.cells #[a0,a1,a2,a3,a4,a5,a6,a7] T)):(w.cell? ⟨p,0,none⟩=some a0∧w.cell? ⟨p,1,none⟩=some a1∧w.cell? ⟨p,2,none⟩=some a2∧w.cell? ⟨p,3,none⟩=some a3∧w.cell? ⟨p,4,none⟩=some a4∧w.cell? ⟨p,5,none⟩=some a5∧w.cell? ⟨p,6,none⟩=some a6∧w.cell? ⟨p,7,none⟩=some a7) ∧
  (w.frozen? ⟨p,0,none⟩=false∧w.frozen? ⟨p,1,none⟩=false∧w.frozen? ⟨p,2,none⟩=false∧w.frozen? ⟨p,3,none⟩=false∧w.frozen? ⟨p,4,none⟩=false∧w.frozen? ⟨p,5,none⟩=false∧w.frozen? ⟨p,6,none⟩=false∧w.frozen? ⟨p,7,none⟩=false):=by
 refine ⟨⟨?_,?_,?_,?_,?_,?_,?_,?_⟩,frozen_of_row _ _ _ _ _ h,frozen_of_row _ _ _ _ _ h,frozen_of_row _ _ _ _ _ h,frozen_of_row _ _ _ _ _ h,frozen_of_row _ _ _ _ _ h,frozen_of_row _ _ _ _ _ h,frozen_of_row _ _ _ _ _ h,frozen_of_row _ _ _ _ _ h⟩ <;> (rw[cell_of_row _ _ _ _ _ _ h];rfl)
end Go.Proofs.YthkkllmmbefedaaGreatDoor


