/-
  Walks: the walker's visit.
-/
import Derived.Test.YtdfolgmcggdjdaaGreatDoorQYW5
import Derived.Test.YtdfolgmcggdjdaaGreatDoorQSC7
import Derived.Deep.CutBlock
namespace Go.Proofs.YtdfolgmcggdjdaaGreatDoor
open Go.RowKit
set_option maxHeartbeats 16000000
set_option maxRecDepth 100000
theorem cntF_le:∀ (l:List Bool) (i:Nat),cntF (l.set i true)≤cntF l
 | [],_=>Nat.le_refl _
 | x::l,0=>by
  unfold cntF;rw[List.set_cons_zero]
  cases x <;> simp
 | x::l,i+1=>by
  have:=cntF_le l i;unfold cntF at this ⊢;rw[List.set_cons_succ]
  cases x
  ·simp only[List.filter_cons,beq_self_eq_true,if_true,List.length_cons];omega
  ·simp only[List.filter_cons,Bool.true_eq_false,beq_iff_eq,if_false];exact this
def VL (n:Nat) (v:VS):Prop:=v.opn.length=n∧v.don.length=n
theorem visit_keep (s:List TyD) (n:Nat):∀ (f:Nat) (v:VS) (t:Int),VL n v→VL n (zU s f v t)∧cntF (zU s f v t).don≤cntF v.don
 | 0,_,_,h=>⟨h,Nat.le_refl _⟩
 | f+1,v,t,h=>by
  unfold zU
  split
  ·exact ⟨h,Nat.le_refl _⟩
  split
  ·exact ⟨h,Nat.le_refl _⟩
  split
  ·exact ⟨h,Nat.le_refl _⟩
  have key:∀ (l:List Int) (u:VS),VL n u→VL n (l.foldl (zU s f) u)∧cntF (l.foldl (zU s f) u).don≤cntF u.don:=by
   intro l
   induction l with
   | nil=>intro u hu;exact ⟨hu,Nat.le_refl _⟩
   | cons a l ih =>
    intro u hu
    obtain ⟨k1,k2⟩:=visit_keep s n f u a hu;obtain ⟨k3,k4⟩:=ih _ k1;exact ⟨k3,Nat.le_trans k4 k2⟩
  have hm:VL n (v.mark t):=⟨by simp[VS.mark,h.1],by simp[VS.mark,h.2]⟩
  obtain ⟨k1,k2⟩:=key (yD (tyAt s t)) _ hm;refine ⟨⟨by simp[VS.shut,k1.1],k1.2⟩,Nat.le_trans k2 (cntF_le _ _)⟩
structure WkAt (A:zo) (n c p go gd:Nat) (v:VS) (W:World):Prop where
 box:W.heap[p]? = some (.cells #[.slice A n c,.slice (some ⟨go,0,none⟩) n n,.slice (some ⟨gd,0,none⟩) n n,.bool v.word,.bool v.loop] 133 (0,0))
 opn:W.heap[go]? = some (.cells (v.opn.map Value.bool).toArray 4 (0,0))
 don:W.heap[gd]? = some (.cells (v.don.map Value.bool).toArray 4 (0,0))
 n1:p≠go
 n2:p≠gd
 n3:go≠gd
structure WkB (p go gd:Nat) (w w':World):Prop where
 z:Below 0 w w'
 blk:∀q,q<w.heap.size→q≠p→q≠go→q≠gd→w'.heap[q]? = w.heap[q]?
section
variable {A:zo} {n c p go gd:Nat} {v:VS} {w W W' W'':World}
theorem WkB.refl (p go gd:Nat) (w:World):WkB p go gd w w:=⟨Below.refl _ _,fun _ _ _ _ _=>rfl⟩
theorem WkB.trans (h:WkB p go gd w W) (k:WkB p go gd W W'):WkB p go gd w W' :=
 ⟨h.z.trans k.z,fun q hq a b d=>(k.blk q (Nat.lt_of_lt_of_le hq h.z.size) a b d).trans (h.blk q hq a b d)⟩
theorem WkB.of (h:Below w.heap.size w W):WkB p go gd w W:=⟨h.mono (Nat.zero_le _),fun q hq _ _ _=>h.block q hq⟩
theorem WkB.set (h:WkB p go gd w W) {a:Addr} (ha:a.block=p∨a.block=go∨a.block=gd) (x:Value):WkB p go gd w (W.setCell a x) :=
 ⟨h.z.setCell (Nat.zero_le _) x,fun q hq k1 k2 k3=>(heap_setCell_other _ _ _ _ (by rcases ha with e|e|e <;> rw[e] <;> assumption)).trans (h.blk q hq k1 k2 k3)⟩
theorem WkB.below {w0:World} (h:WkB p go gd W W') (hb:Below w0.heap.size w0 W) (hp:w0.heap.size≤p∧w0.heap.size≤go∧w0.heap.size≤gd):Below w0.heap.size w0 W' :=
 hb.trans ⟨h.z.os,h.z.tape,h.z.output,h.z.size,fun q hq=>h.blk q (Nat.lt_of_lt_of_le hq hb.size) (by omega) (by omega) (by omega)⟩
theorem WkAt.below (h:WkAt A n c p go gd v W) (hb:Below W.heap.size W W'):WkAt A n c p go gd v W' :=
 ⟨(hb.block _ (zg.1 h.box).1).trans h.box,(hb.block _ (zg.1 h.opn).1).trans h.opn,(hb.block _ (zg.1 h.don).1).trans h.don,h.n1,h.n2,h.n3⟩
theorem WkAt.cells (h:WkAt A n c p go gd v W):W.cell? ⟨p,0,none⟩=some (.slice A n c)∧W.cell? ⟨p,1,none⟩=some (.slice (some ⟨go,0,none⟩) n n)∧W.cell? ⟨p,2,none⟩=some (.slice (some ⟨gd,0,none⟩) n n)∧W.cell? ⟨p,3,none⟩=some (.bool v.word)∧W.cell? ⟨p,4,none⟩=some (.bool v.loop):=by
 refine ⟨?_,?_,?_,?_,?_⟩ <;> (rw[cell_of_row _ _ _ _ _ _ h.box];rfl)
theorem getL_nat {l:List Bool} {t:Nat} (ht:t<l.length):getL l (t:Int)=l[t]:=by
 unfold getL;rw[Int.toNat_natCast,List.getD_eq_getElem?_getD,zl ht];rfl
theorem WkAt.opnAt (h:WkAt A n c p go gd v W) {t:Nat} (ht:t<v.opn.length):W.cell? ⟨go,t,none⟩=some (.bool (getL v.opn (t:Int))):=by
 rw[cell_of_row _ _ _ _ _ _ h.opn,getL_nat ht];simp[ht]
theorem WkAt.donAt (h:WkAt A n c p go gd v W) {t:Nat} (ht:t<v.don.length):W.cell? ⟨gd,t,none⟩=some (.bool (getL v.don (t:Int))):=by
 rw[cell_of_row _ _ _ _ _ _ h.don,getL_nat ht];simp[ht]
theorem WkAt.frz (h:WkAt A n c p go gd v W) (j:Nat):W.frozen? ⟨p,j,none⟩=false∧W.frozen? ⟨go,j,none⟩=false∧W.frozen? ⟨gd,j,none⟩=false :=
 ⟨frozen_of_row _ _ _ _ _ h.box,frozen_of_row _ _ _ _ _ h.opn,frozen_of_row _ _ _ _ _ h.don⟩
theorem WkAt.lt (h:WkAt A n c p go gd v W):p<W.heap.size∧go<W.heap.size∧gd<W.heap.size :=
 ⟨(zg.1 h.box).1,(zg.1 h.opn).1,(zg.1 h.don).1⟩
theorem WkAt.int_ne (h:WkAt A n c p go gd v W) {b j:Nat} {z:Int} (hc:W.cell? ⟨b,j,none⟩=some (.int .i64 z)):b≠p∧b≠go∧b≠gd:=by
 refine ⟨fun e=>?_,fun e=>?_,fun e=>?_⟩
 ·subst e
  rw[cell_of_row _ _ _ _ _ _ h.box] at hc
  match j,hc with
  | 0,hc=>cases hc
  | 1,hc=>cases hc
  | 2,hc=>cases hc
  | 3,hc=>cases hc
  | 4,hc=>cases hc
  | j+5,hc=>simp at hc
 ·subst e
  rw[cell_of_row _ _ _ _ _ _ h.opn] at hc;simp only[List.getElem?_toArray,List.getElem?_map] at hc
  cases hv:v.opn[j]? <;> rw[hv] at hc <;> simp at hc
 ·subst e
  rw[cell_of_row _ _ _ _ _ _ h.don] at hc;simp only[List.getElem?_toArray,List.getElem?_map] at hc
  cases hv:v.don[j]? <;> rw[hv] at hc <;> simp at hc
theorem WkAt.setW (h:WkAt A n c p go gd v W) (x:Bool):WkAt A n c p go gd { v with word:=x } (W.setCell ⟨p,3,none⟩ (.bool x)) :=
 ⟨heap_setCell_same _ _ 3 _ _ _ h.box,(heap_setCell_other _ _ _ _ (by simpa using h.n1.symm)).trans h.opn,(heap_setCell_other _ _ _ _ (by simpa using h.n2.symm)).trans h.don,h.n1,h.n2,h.n3⟩
theorem WkAt.setL (h:WkAt A n c p go gd v W) (x:Bool):WkAt A n c p go gd { v with loop:=x } (W.setCell ⟨p,4,none⟩ (.bool x)) :=
 ⟨heap_setCell_same _ _ 4 _ _ _ h.box,(heap_setCell_other _ _ _ _ (by simpa using h.n1.symm)).trans h.opn,(heap_setCell_other _ _ _ _ (by simpa using h.n2.symm)).trans h.don,h.n1,h.n2,h.n3⟩
theorem map_set (l:List Bool) (i:Nat) (x:Bool):(l.map Value.bool).toArray.setIfInBounds i (.bool x)=((l.set i x).map Value.bool).toArray:=by
 rw[List.setIfInBounds_toArray,List.map_set]
theorem WkAt.setO (h:WkAt A n c p go gd v W) (t:Nat) (x:Bool):WkAt A n c p go gd { v with opn:=v.opn.set t x } (W.setCell ⟨go,t,none⟩ (.bool x)) :=
 ⟨(heap_setCell_other _ _ _ _ (by simpa using h.n1)).trans h.box,(heap_setCell_same _ _ t _ _ _ h.opn).trans (by rw[map_set]),(heap_setCell_other _ _ _ _ (by simpa using h.n3.symm)).trans h.don,h.n1,h.n2,h.n3⟩
theorem WkAt.setD (h:WkAt A n c p go gd v W) (t:Nat) (x:Bool):WkAt A n c p go gd { v with don:=v.don.set t x } (W.setCell ⟨gd,t,none⟩ (.bool x)) :=
 ⟨(heap_setCell_other _ _ _ _ (by simpa using h.n2)).trans h.box,(heap_setCell_other _ _ _ _ (by simpa using h.n3)).trans h.opn,(heap_setCell_same _ _ t _ _ _ h.don).trans (by rw[map_set]),h.n1,h.n2,h.n3⟩
end
theorem visits_keep (s:List TyD) (n f:Nat):∀ (l:List Int) (u:VS),VL n u→VL n (l.foldl (zU s f) u)∧cntF (l.foldl (zU s f) u).don≤cntF u.don
 | [],_,h=>⟨h,Nat.le_refl _⟩
 | a::l,u,h=>by
  obtain ⟨k1,k2⟩:=visit_keep s n f u a h;obtain ⟨k3,k4⟩:=visits_keep s n f l _ k1;exact ⟨k3,Nat.le_trans k4 k2⟩
theorem inner_rng {s:List TyD} {t:Int} (hv:zJ s=0) (hr:0≤t∧t<(s.length:Int)):∀u∈yD (tyAt s t),0≤u∧u<(s.length:Int):=by
 intro u hu
 unfold yD at hu
 split at hu
 ·rename_i h
  obtain rfl:u=(tyAt s t).elem:=by simpa using hu
  exact yP hv hr (by unfold compK;omega)
 ·split at hu
  ·rename_i h1 h
   rcases List.mem_cons.1 hu with e|e
   ·subst e;exact (key_rng hv hr h).1
   ·obtain rfl:u=(tyAt s t).elem:=by simpa using e
    exact yP hv hr (.inr (.inl h))
  ·cases hu
theorem inner_len (x:TyD):(yD x).length≤2:=by
 unfold yD
 split
 ·simp
 ·split <;> simp
def VisPost (s:List TyD) (f:Nat) (v:VS) (t:Int) (A:zo) (c p go gd:Nat) (w:World) (e:Ending) (w':World):Prop :=
 e = .returned (.tuple #[])∧WkAt A s.length c p go gd (zU s f v t) w'∧WkB p go gd w w'
theorem visit_any (s:List TyD) (A:zo) (c:Nat) (hv:zJ s=0) (w0:World) (hs:TysR w0 A s) (p go gd:Nat) (hp:w0.heap.size≤p∧w0.heap.size≤go∧w0.heap.size≤gd):∀ (f:Nat) (t:Int) (v:VS) (w:World),(0≤t∧t<(s.length:Int))→VL s.length v→cntF v.don<f→WkAt A s.length c p go gd v w→Below w0.heap.size w0 w →
  Calls Tryz.prog 83 #[.pointer (some ⟨p,0,none⟩),.int .i64 t] w (VisPost s f v t A c p go gd w):=by
 intro f
 induction f with
 | zero=>intro t v w _ _ h;omega
 | succ f ih =>
 intro t v w hr hl hc hw hb
 obtain ⟨tn,rfl⟩:=Int.eq_ofNat_of_zero_le hr.1;have htn:tn<s.length:=by omega
 have HTA:=zh (zP htn);have HS:=zh hs;have HV:=zh hv;have HR:=zh hr;have HP:=zh hp;have HL:=zh hl;have HCN:=zh hc;have HW:=zh hw;have HB:=zh hb;have HIH:=zh ih;obtain ⟨b,o,As,cs,Am,cm,rfl,htr,t0,t1,t2,t3,t4,t5,t6,t7,t8,t9⟩:=(hs.below hb).at10 htn;obtain ⟨p0,p1,p2,p3,p4⟩:=hw.cells;have h1:(0:Int)≤(tn:Int):=by omega
 have h2:(tn:Int)<(s.length:Int):=by omega
 have HSO:=zh htr.name;clear htr hs ih hr hv hp hl hc hw hb;generalize hx:s[tn]=x at *;have HTX:Hid (tyAt s (tn:Int)=x):=HTA.out;clear HTA hx
 go_enter Tryz.func83,Tryz.ntmps83
 go_wp2_with fail
 have HX1:=zh (heap_alloc_new w (x.box As cs Am cm));have HB1:=zh (zD w (x.box As cs Am cm));have hz1:w.heap.size<(w.alloc (x.box As cs Am cm)).heap.size:=by simp
 have HW1:=zh (HW.out.below HB1.out);clear t0 t1 t2 t3 t4 t5 t6 t7 t8 t9 p0 p1 p2 p3 p4;generalize w.alloc (x.box As cs Am cm)=W1 at *;refine (prNamed_any x.kind W1).mono ?_;rintro e w1 ⟨rfl,rfl⟩;obtain ⟨p0,p1,p2,p3,p4⟩:=HW1.out.cells;have f3:=(HW1.out.frz 3).1;have f4:=(HW1.out.frz 4).1;have hpl:=HW1.out.lt
 by_cases hnm:zL x.kind=true
 ·have HVE:Hid (zU s (f+1) v (tn:Int)={ v with word:=v.word||wordD x.name }):=by
   show _=_
   rw[zU,HTX.out,if_pos hnm]
  rw[hnm];clear hnm;have b1:=(bx_cells HX1.out).2.1
  cases hwd:v.word with
  | true =>
   have HVE2:Hid (zU s (f+1) v (tn:Int)={ v with word:=true }):=by rw[hwd,Bool.true_or] at HVE;exact HVE
   rw[hwd] at p3;clear HVE hwd;go_wp2;refine bodyPost_ret (v := .tuple #[]) (by simp[results,Tryz.results83,go_sem]) rfl ⟨rfl,by rw[HVE2.out];exact HW1.out.setW true,(WkB.of HB1.out).set (a:=⟨p,3,none⟩) (.inl rfl) _⟩
  | false =>
   have HVE2:Hid (zU s (f+1) v (tn:Int)={ v with word:=wordD x.name }):=by rw[hwd,Bool.false_or] at HVE;exact HVE
   rw[hwd] at p3;clear HVE hwd;go_wp2_with fail;refine (word_any x.name _).mono ?_;rintro e w2 ⟨rfl,hb2⟩;have HW2:=zh (HW1.out.below hb2);have HB2:=zh (zB HB1.out hb2);clear p0 p1 p2 p3 p4 f3 f4 hpl b1 hb2;obtain ⟨p0,p1,p2,p3,p4⟩:=HW2.out.cells;have f3:=(HW2.out.frz 3).1;have hpl:=HW2.out.lt;go_wp2
   refine bodyPost_ret (v := .tuple #[]) (by simp[results,Tryz.results83,go_sem]) rfl ⟨rfl,by rw[HVE2.out];exact HW2.out.setW _,(WkB.of HB2.out).set (a:=⟨p,3,none⟩) (.inl rfl) _⟩
 have hnf:zL x.kind=false:=by simpa using hnm
 rw[hnf];have hto:tn<v.opn.length:=by rw[HL.out.1];exact htn
 have htd:tn<v.don.length:=by rw[HL.out.2];exact htn
 have c1:=HW1.out.opnAt hto;have c2:=HW1.out.donAt htd;have HVE:Hid (zU s (f+1) v (tn:Int)=if getL v.opn (tn:Int) then { v with loop:=true } else if getL v.don (tn:Int) then v else ((yD x).foldl (zU s f) (v.mark (tn:Int))).shut (tn:Int)):=by
  show _=_
  rw[zU,HTX.out,if_neg hnm]
 have HDN:Hid (getL v.don (tn:Int)=false→cntF (v.mark (tn:Int)).don+1=cntF v.don):=fun h=>cntF_set (getL_false ⟨by omega,by omega⟩ h)
 obtain ⟨ob,hob⟩:∃ob,ob=getL v.opn (tn:Int):=⟨_,rfl⟩;obtain ⟨db,hdb⟩:∃db,db=getL v.don (tn:Int):=⟨_,rfl⟩;rw[←hob] at c1 HVE;rw[←hdb] at c2 HVE HDN;clear hob hdb hnm hnf;have fo:=(HW1.out.frz tn).2.1;have fd:=(HW1.out.frz tn).2.2
 cases ob with
 | true =>
  go_wp2
  refine bodyPost_ret (v := .tuple #[]) (by simp[results,Tryz.results83,go_sem]) rfl ⟨rfl,by rw[HVE.out];exact HW1.out.setL true,(WkB.of HB1.out).set (a:=⟨p,4,none⟩) (.inl rfl) _⟩
 | false =>
 cases db with
 | true =>
  go_wp2
  refine bodyPost_ret (v := .tuple #[]) (by simp[results,Tryz.results83,go_sem]) rfl ⟨rfl,by rw[HVE.out];exact HW1.out,WkB.of HB1.out⟩
 | false =>
 have HCM:Hid (cntF (v.mark (tn:Int)).don<f):=by have:=HDN.out rfl;have:=HCN.out;show _<_;omega
 have hne:go≠gd:=HW1.out.n3;go_upto_region 6 with fail
 go_region
 have HW2:Hid (WkAt (some ⟨b,o,none⟩) s.length c p go gd (v.mark (tn:Int)) (((W1.setCell ⟨go,tn,none⟩ (.bool true)).setCell ⟨gd,tn,none⟩ (.bool true)).drew)):=by
  have h:=(HW1.out.setO tn true).setD tn true;exact ⟨h.box,h.opn,h.don,h.n1,h.n2,h.n3⟩
 have HB2:Hid (WkB p go gd w (((W1.setCell ⟨go,tn,none⟩ (.bool true)).setCell ⟨gd,tn,none⟩ (.bool true)).drew)):=by
  have h:=((WkB.of (p:=p) (go:=go) (gd:=gd) HB1.out).set (a:=⟨go,tn,none⟩) (.inr (.inl rfl)) (.bool true)).set (a:=⟨gd,tn,none⟩) (.inr (.inr rfl)) (.bool true);exact ⟨h.z.drew,h.blk⟩
 have HX2:Hid (TBox (((W1.setCell ⟨go,tn,none⟩ (.bool true)).setCell ⟨gd,tn,none⟩ (.bool true)).drew) w.heap.size x As cs Am cm):=by
  have h3:=HW.out.lt;have h:=((heap_setCell_other (W1.setCell ⟨go,tn,none⟩ (.bool true)) ⟨gd,tn,none⟩ w.heap.size (.bool true) (by simp only;omega)).trans (heap_setCell_other W1 ⟨go,tn,none⟩ w.heap.size (.bool true) (by simp only;omega))).trans HX1.out
  exact h
 have HVM:Hid (VL s.length (v.mark (tn:Int))):=⟨by simp[VS.mark,HL.out.1],by simp[VS.mark,HL.out.2]⟩
 clear c1 c2 fo fd p0 p1 p2 p3 p4 f3 f4;generalize ((W1.setCell ⟨go,tn,none⟩ (.bool true)).setCell ⟨gd,tn,none⟩ (.bool true)).drew=W2 at *;have b0:=HX2.out.cell 0;have b1:=HX2.out.cell 1;have b2:=HX2.out.cell 2;have b3:=HX2.out.cell 3;have b4:=HX2.out.cell 4;have b5:=HX2.out.cell 5;have b6:=HX2.out.cell 6;have b7:=HX2.out.cell 7;have b8:=HX2.out.cell 8;have b9:=HX2.out.cell 9
 have HIR:Hid (∀u∈yD x,0≤u∧u<(s.length:Int)):=by
  have:=inner_rng HV.out HR.out;rw[HTX.out] at this;exact this
 have hil:=inner_len x;go_wp2_with fail;refine (inner_any x As cs Am cm _).mono ?_;rintro e w3 ⟨Ai,ci,rfl,hi3,hb3⟩;have HI3:=zh hi3;have HW3:=zh (HW2.out.below hb3);have HB3:=zh (HB2.out.trans (WkB.of hb3));clear b0 b1 b2 b3 b4 b5 b6 b7 b8 b9 hi3 hb3;go_wp2_with fail
 go_loopw [65] (fun j wr=>∃k:Nat,k≤(yD x).length∧j = .int .i64 (k:Int)∧Hid (WkAt (some ⟨b,o,none⟩) s.length c p go gd (((yD x).take k).foldl (zU s f) (v.mark (tn:Int))) wr∧WkB p go gd w3 wr)) (fun j _=>(yD x).length - (intOf j).toNat)
 case atStart=>exact ⟨0,by omega,rfl,HW3.out,WkB.refl _ _ _ _⟩
 case round =>
  obtain ⟨k,hk,rfl,hh⟩:=hrel;obtain ⟨wk,rfl⟩:∃wk:World,wk=wr:=⟨_,rfl⟩;have HWK:=zh hh.out.1;have HBK:=zh hh.out.2;clear hh
  by_cases hlt:k<(yD x).length
  ·obtain ⟨bi,oi,rfl,ci0⟩:=HI3.out.at1 hlt
   have hnb:=HW3.out.int_ne ci0;have HBL:=zh (HBK.out.blk bi (by have:=zN ci0;simpa using this) hnb.1 hnb.2.1 hnb.2.2)
   have ci1:wk.cell? ⟨bi,oi+k,none⟩=some (.int .i64 (yD x)[k]):=(World.cell?_of_block (w:=w3) (w':=wk) (a:=⟨bi,oi+k,none⟩) HBL.out).trans ci0;have g1:(0:Int)≤(k:Int):=by omega
   have g2:(k:Int)<((yD x).length:Int):=by omega
   have HUR:=zh (HIR.out _ (List.getElem_mem hlt));have HVK:=zh (visits_keep s s.length f ((yD x).take k) (v.mark (tn:Int)) HVM.out);have HNX:Hid (((yD x).take (k+1)).foldl (zU s f) (v.mark (tn:Int))=zU s f (((yD x).take k).foldl (zU s f) (v.mark (tn:Int))) (yD x)[k]):=by
    show _=_
    rw[List.take_succ_eq_append_getElem hlt,List.foldl_append];rfl
   have HBW:=zh (HB3.out.trans HBK.out);clear ci0;generalize (yD x)[k]=u at *;go_wp2_with fail;refine (HIH.out u _ wk HUR.out HVK.out.1 (by have:=HVK.out.2;have:=HCM.out;omega) HWK.out (HBW.out.below HB.out HP.out)).mono ?_
   rintro e w4 ⟨rfl,hw4,hb4⟩;have HW4:=zh hw4;have HB4:=zh (HBK.out.trans hb4);clear hw4 hb4;go_wp2;go_roundw
   case rel=>exact ⟨k+1,by omega,by go_num,by rw[HNX.out];exact HW4.out,HB4.out⟩
   case measure=>simp[intOf];omega
  ·obtain rfl:k=(yD x).length:=by omega
   have HWF:Hid (WkAt (some ⟨b,o,none⟩) s.length c p go gd ((yD x).foldl (zU s f) (v.mark (tn:Int))) wk):=by have:=HWK.out;rwa [List.take_length] at this
   have HVF:=zh (visits_keep s s.length f (yD x) (v.mark (tn:Int)) HVM.out);obtain ⟨p0,p1,p2,p3,p4⟩:=HWF.out.cells;have fo:=(HWF.out.frz tn).2.1;have c1:=HWF.out.opnAt (t:=tn) (by rw[HVF.out.1.1];exact htn)
   have hpk:=HWF.out.lt;have HBW:=zh (HB3.out.trans HBK.out);go_wp2;refine bodyPost_ret (v := .tuple #[]) (by simp[results,Tryz.results83,go_sem]) rfl ⟨rfl,?_,HBW.out.set (a:=⟨go,tn,none⟩) (.inr (.inl rfl)) _⟩
   rw[HVE.out];exact HWF.out.setO tn false
end Go.Proofs.YtdfolgmcggdjdaaGreatDoor


