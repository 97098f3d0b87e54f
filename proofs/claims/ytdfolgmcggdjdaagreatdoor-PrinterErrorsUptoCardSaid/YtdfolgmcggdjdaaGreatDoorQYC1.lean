/-
  Walks: Tidy.
-/
import Derived.Test.YtdfolgmcggdjdaaGreatDoorQGF1
namespace Go.Proofs.YtdfolgmcggdjdaaGreatDoor
open Go.RowKit
set_option maxHeartbeats 16000000
set_option maxRecDepth 100000
def tidyE (s:List TyD) (d:Int):Int:=if yN s d≠0 then yN s d else if 32<(tidyL s).length then 3 else 0
def tidyT (s:List TyD) (d:Int):List TyD:=if tidyE s d=0 then tidyL s else []
def tidyI (s:List TyD) (d:Int):List Int:=if tidyE s d=0 then (t1D s s.length).1 else []
def TidyPost (s:List TyD) (d:Int) (w:World) (e:Ending) (w':World):Prop :=
 ∃A' c' B c2,e = .returned (.tuple #[.agg #[.slice A' (tidyT s d).length c'],.slice B (tidyI s d).length c2,.int .i64 (tidyE s d)])∧TysR w' A' (tidyT s d)∧IntsR w' B (tidyI s d)∧Below w.heap.size w w'
theorem tidy_bad {s:List TyD} {d:Int} (h:tidyE s d≠0) {w w':World} (hb:Below w.heap.size w w'):TidyPost s d w (.returned (.tuple #[.agg #[.slice none 0 0],.slice none 0 0,.int .i64 (tidyE s d)])) w' :=
 ⟨none,0,none,0,by unfold tidyT tidyI;rw[if_neg h,if_neg h];rfl,by unfold tidyT;rw[if_neg h];exact RowsR.nil _ _ _ _ _,by unfold tidyI;rw[if_neg h];exact RowsR.nil _ _ _ _ _,hb⟩
def OldX (w:World) (s:List TyD) (x:TyA):Prop:=x.t∈s∧TyR w x.t x.As x.Am
theorem zF {w w':World} {g:Nat} {o:Obj} (h:w.heap[g]? = some o) (hb:Below w.heap.size w w'):w'.heap[g]? = some o:=(hb.block _ (zg.1 h).1).trans h
theorem tys_map {w:World} {A:zo} {L:List TyA} (h:RowsR 10 120 (fun x cs=>TyD.At w x.t cs) w A L):TysR w A (L.map (·.t)):=by
 refine ⟨by rw[List.length_map];exact h.1,fun hn=>?_⟩
 obtain ⟨b,o,e,hi⟩:=h.2 (fun e=>hn (by rw[e];rfl))
 refine ⟨b,o,e,fun i x hx=>?_⟩
 rw[List.getElem?_map] at hx;obtain ⟨y,hy,rfl⟩:=Option.map_eq_some_iff.1 hx;exact hi i y hy
theorem off_old {w W:World} {x:TyD} {As Am:zo} {S:Nat→Prop} (h:TyR w x As Am) (hb:Below w.heap.size w W) (hS:∀q,q<w.heap.size→¬ S q):Off S W fun u=>TyR u x As Am:=fun u hu =>
 h.low fun q hq=>(hu q (hS q hq) (by have:=hb.size;omega)).trans (hb.block q hq)
theorem tidy_any (s:List TyD) (d:Int) (A:zo) (c:Nat) (hd:DefSaid s A c d) (w:World) (hs:TysR w A s) :
  Calls Tryz.prog 8 #[.agg #[.slice A s.length c]] w (TidyPost s d w):=by
 have hln:=hs.1.lt (by omega)
 have HS:=zh hs;have HD:=zh hd;have HB0:=zh (zB (zD w (.cells #[.slice A s.length c] 27)) (zD _ (.cells #[.slice none 0 0] 27)));have HX0:=zh (zw w (.cells #[.slice A s.length c] 27) (.cells #[.slice none 0 0] 27));have HR0:Hid (((w.alloc (.cells #[.slice A s.length c] 27)).alloc (.cells #[.slice none 0 0] 27)).heap[w.heap.size+1]? = some (.cells #[.slice none 0 0] 27)):=by
  have:=heap_alloc_new (w.alloc (.cells #[.slice A s.length c] 27)) (.cells #[.slice none 0 0] 27)
  show _=_
  simpa using this
 clear hs hd
 go_enter Tryz.func8,Tryz.ntmps8
 go_wp2_with fail
 generalize (w.alloc (.cells #[.slice A s.length c] 27)).alloc (.cells #[.slice none 0 0] 27)=W1 at *;refine (checked_any s d A c HD.out W1 (HS.out.below HB0.out)).mono ?_;rintro e w1 ⟨rfl,hb1⟩;have HB1:=zh (zB HB0.out hb1);have HX1:=zh (zF HX0.out hb1);have HR1:=zh (zF HR0.out hb1);have x0:=zb HX1.out;have rr:=zb HR1.out
 have rf:w1.frozen? ⟨w.heap.size+1,0,none⟩=false:=frozen_of_row _ _ _ _ _ HR1.out;clear hb1 HX0 HR0
 by_cases hc:yN s d=0
 case neg =>
  have q1:(yN s d != 0)=true:=by simp[hc]
  have HT:Hid (tidyE s d=yN s d):=by show _=_;unfold tidyE;rw[if_pos hc]
  have HNZ:Hid (tidyE s d≠0):=by rw[HT.out];exact hc
  clear hc;go_wp2_with fail;have r0:=World.cell?_setCell_same w1 ⟨w.heap.size+1,0,none⟩ (.slice none 0 0) rr;have HEN:=zh (tidy_bad HNZ.out (HB1.out.setCell (p:=⟨w.heap.size+1,0,none⟩) (Nat.le_succ _) (.slice none 0 0)));rw[HT.out] at HEN;refine bodyPost_ret (v := .tuple #[.agg #[.slice none 0 0],.slice none 0 0,.int .i64 (yN s d)]) (by simp[results,Tryz.results8,go_sem,r0]) rfl HEN.out
 obtain ⟨hv,hd0,_,_⟩:=check_parts hc;have HV:=zh hv;have hls:=zZ hv;have HFN:=zh (fun (t:TyD) (ht:t∈s) (m:MemD) (hm:m∈t.mems)=>check_fin hc ht hm)
 have HTE:Hid (tidyE s d=if 32<(tidyL s).length then 3 else 0):=by show _=_;unfold tidyE;rw[if_neg (by simp[hc])]
 rw[hc];clear hc hv hd0 HD;go_upto_region 4 with fail
 have HP4:=zh (fun w' (hb:Below w1.heap.size w1 w')=>(show w'.cell? ⟨w.heap.size,0,none⟩=some (.slice A s.length c)∧Hid (Below w1.heap.size w1 w') from ⟨zA hb x0,hb⟩))
 refine wp_region_held_drew (S:=(fun w'=>w'.cell? ⟨w.heap.size,0,none⟩=some (.slice A s.length c)∧Hid (Below w1.heap.size w1 w'))) (by kernel_rfl) ?_ (fun zH_=>?_)
 ·(try dsimp only);exact HP4.out _ (zC (Below.refl _ _) 1)
 refine tL 0 ?_;try simp only[ps]
 refine tL 2 ?_;try simp only[ps]
 refine tL 3 ?_;try simp only[ps]
 refine tL 4 ?_;try simp only[ps]
 refine tR 1 (fun K hK=>?_)
 go_simp
 refine hK.out _ _ ?_ (fun zH_=>?_)
 ·(try dsimp only);exact HP4.out _ (zB zH_.2.out (zD _ _))
 clear hK K;try simp only[ps]
 refine tR 5 (fun K hK=>?_)
 go_simp
 (refine (repeat_any s.length (by omega) w1.heap.size _ (zT (w1.drewN 1) [Value.int .i64 (-1)] 3 0 _ rfl)).mono ?_;rintro e w6 ⟨rfl,hg6,hb6⟩;have HG6:=zh hg6;have HB6:=zh (zB zH_.2.out hb6);clear hg6 hb6)
 refine hK.out _ _ ?_ (fun zH_=>?_)
 ·(try dsimp only);exact HP4.out _ HB6.out
 clear hK K;try simp only[ps]
 refine tL 6 ?_;try simp only[ps]
 refine tR 7 (fun K hK=>?_)
 go_simp
 refine hK.out _ _ ?_ (fun zH_=>?_)
 ·(try dsimp only);exact HP4.out _ (zB zH_.2.out (zD _ _))
 clear hK K;try simp only[ps]
 refine tL 8 ?_;try simp only[ps]
 refine wpAnyH_done (by kernel_rfl) ?_ _
 have HB7:=zh zH_.2.out;have HLT:Hid (w.heap.size+1<w1.heap.size):=(zg.1 HR1.out).1;have HGI:Hid (w6.heap[w1.heap.size+1]? = some (ixO (List.replicate s.length (-1)))):=by
  show _=_
  have h:=HG6.out;rw[show ((w1.drewN 1).alloc (.cells #[.int .i64 (-1)] 3)).heap.size=w1.heap.size+1 by simp] at h
  rw[h];unfold ixO RK;simp
 have HGL:Hid (w1.heap.size+1<w6.heap.size):=(zg.1 HGI.out).1;have HTD:Hid (TdS A s.length c w6.heap.size (w1.heap.size+1) (t1D s 0).1 (fun q=>w.heap.size≤q) (w6.alloc (tdO A s.length c (w1.heap.size+1) (.slice none 0 0))) (.slice none 0 0) []) :=
  ⟨heap_alloc_new _ _,zF HGI.out (zD _ _),HGL.out,by have:=HGL.out;have:=HLT.out;show _≤_;omega,by simp[t1D_zero],OwnL.nil _ _,fun x hx=>by cases hx⟩
 have HX7:=zh (zF HX1.out HB7.out);have HR7:=zh (zF HR1.out HB7.out);unfold tdO at HTD;clear zH_ HP4 HG6 HB6 HGI x0 rr rf;generalize w6.alloc _=W7 at *;generalize w6.heap.size=p at *;have HB77:=zh (zB HB1.out HB7.out);obtain ⟨gi,hgi⟩:∃gi,gi=w1.heap.size+1:=⟨_,rfl⟩;rw[←hgi] at HTD HGL;rw[←hgi];have HLG:Hid (w.heap.size+2<gi):=by show _<_;have:=HLT.out;omega
 clear hgi HLT HX1 HR1 HB7 HB1;have x7:=zb HX7.out;go_wp2_with fail
 go_loopw [29] (fun k wr=>∃ (t:Nat) (v:Value) (L:List TyA),t≤s.length∧k = .int .i64 (t:Int)∧Hid (TdS A s.length c p gi (t1D s t).1 (fun q=>w.heap.size≤q) wr v L∧L.map (·.t)=(t1D s t).2∧(∀x∈L,OldX w s x)∧Below gi W7 wr)) (fun k _=>s.length - (intOf k).toNat)
 case atStart=>exact ⟨0,_,[],Nat.zero_le _,rfl,HTD.out,rfl,(fun x hx=>by cases hx),Below.refl _ _⟩
 case round =>
  obtain ⟨t,v,L,htl,rfl,hh⟩:=hrel;have HT:=zh hh.out.1;have HM:=zh hh.out.2.1;have HO:=zh hh.out.2.2.1;have HBR:=zh hh.out.2.2.2;clear hh x7;have HBW:=zh (HB77.out.trans (HBR.out.mono (by have:=HLG.out;omega)))
  by_cases hlt:t<s.length
  ·obtain ⟨b,o,As,cs,Am,cm,rfl,htr,t0,t1,t2,t3,t4,t5,t6,t7,t8,t9⟩:=HS.out.at10 hlt
   have HTR:=zh htr;replace t0:=zA HBW.out t0;replace t1:=zA HBW.out t1;replace t2:=zA HBW.out t2;replace t3:=zA HBW.out t3;replace t4:=zA HBW.out t4;replace t5:=zA HBW.out t5;replace t6:=zA HBW.out t6;replace t7:=zA HBW.out t7;replace t8:=zA HBW.out t8;replace t9:=zA HBW.out t9;have h1:(0:Int)≤(t:Int):=by omega
   have h2:(t:Int)<(s.length:Int):=by omega
   have HMH:=zh (List.getElem_mem hlt);have HNX:=zh (t1D_succ (s:=s) t);rw[zP hlt] at HNX;generalize s[t]=x at *;have HLM:Hid (L.length=(t1D s t).2.length∧L.length≤t):=by
    have h:=congrArg List.length HM.out;rw[List.length_map] at h;have:=(t1D_len (s:=s) t).2;exact ⟨h,by omega⟩
   have HN1:Hid ((t1D s (t+1)).1=if zL x.kind then (t1D s t).1.set t ((t1D s t).2.length:Int) else (t1D s t).1):=by show _=_;rw[HNX.out];split <;> rfl
   have HN2:Hid ((t1D s (t+1)).2=if zL x.kind then (t1D s t).2++[x] else (t1D s t).2):=by show _=_;rw[HNX.out];split <;> rfl
   clear HNX;generalize (t1D s t).1=I2 at *;generalize (t1D s t).2=O2 at *;obtain ⟨Av,cv,rfl⟩:=HT.out.val;clear htr;have HBX:=zh (zD wr (x.box As cs Am cm));have HXX:Hid (TBox (wr.alloc (x.box As cs Am cm)) wr.heap.size x As cs Am cm):=heap_alloc_new wr (x.box As cs Am cm);have HTX:=zh (HT.out.below HBX.out);have HZX:Hid (wr.heap.size<(wr.alloc (x.box As cs Am cm)).heap.size):=by show _<_;simp
   have HPX:=zh HT.out.plt;have HOX:=zh (fun q hq=>(HT.out.ownlt (q:=q) hq).2)
   go_upto_region 8 with fail
   clear t0 t1 t2 t3 t4 t5 t6 t7 t8 t9;generalize wr.alloc (x.box As cs Am cm)=W6 at *;obtain ⟨b0,b1,b2,b3,b4,b5,b6,b7,b8,b9⟩:=zI HXX.out;go_wp2_with fail;refine (prNamed_any x.kind W6).mono ?_;rintro e w7 ⟨rfl,rfl⟩
   cases hkn:zL x.kind with
   | false =>
    rw[hkn,if_neg (by simp)] at HN1 HN2
    clear hkn;go_wp2;go_roundw
    case rel=>exact ⟨t+1,_,L,by omega,by go_num,by rw[HN1.out];exact HTX.out,by rw[HN2.out];exact HM.out,HO.out,HBR.out.trans (HBX.out.mono (by have:=HPX.out;have:=HGL.out;omega))⟩
    case measure=>simp[intOf];omega
   | true =>
    rw[hkn,if_pos rfl] at HN1 HN2;clear hkn b0 b1 b2 b3 b4 b5 b6 b7 b8 b9;have HC9:Hid (W6.cell? ⟨p,1,none⟩=some (.slice (some ⟨gi,0,none⟩) s.length s.length)∧W6.cell? ⟨p,2,none⟩=some (.slice Av L.length cv)):=⟨HTX.out.cells.1.2.1,HTX.out.cells.1.2.2⟩;obtain ⟨i9,f9⟩:=HTX.out.ixc hlt;go_wp2_with fail
    refine yK (S:=(fun w'=>(w'.cell? ⟨p,1,none⟩=some (.slice (some ⟨gi,0,none⟩) s.length s.length)∧w'.cell? ⟨p,2,none⟩=some (.slice Av L.length cv)))) 12 (by kernel_rfl) ?_ (fun zH_=>?_)
    ·(try dsimp only);exact HC9.out
    refine tC 0 ?_;try simp only[ps]
    refine tC 1 ?_;try simp only[ps]
    refine tC 2 ?_;try simp only[ps]
    refine tB 3 ?_;try simp only[ps]
    refine tC 4 ?_;try simp only[ps]
    refine tC 5 ?_;try simp only[ps]
    refine tC 6 ?_;try simp only[ps]
    refine tC 7 ?_;try simp only[ps]
    refine tC 8 ?_;try simp only[ps]
    refine tB 9 ?_;try simp only[ps]
    refine tC 10 ?_;try simp only[ps]
    refine tC 11 ?_;try simp only[ps]
    refine yQ (rs:=[12]) (by kernel_rfl) (by simp) ?_
    refine AllReadyB.last rfl (by kernel_rfl) (fun K hK=>?_) AllReadyB.nil
    go_simp
    refine hK.out _ _ ?_;clear hK K
    (try clear zH_)
    try simp only[ps]
    refine wpAny_done (by kernel_rfl) ?_ _
    have HT9:Hid (TdS (some ⟨b,o,none⟩) s.length c p gi (I2.set t (L.length:Int)) (fun q=>w.heap.size≤q) (W6.setCell ⟨gi,t,none⟩ (.int .i64 (L.length:Int))).drew (.slice Av L.length cv) L):=(HTX.out.setI (show w.heap.size≤gi by have:=HLG.out;omega) t (L.length:Int)).below (zC (Below.refl _ _) 1)
    have HB9:Hid (Below gi W6 (W6.setCell ⟨gi,t,none⟩ (.int .i64 (L.length:Int))).drew):=zC ((Below.refl gi W6).setCell (p:=⟨gi,t,none⟩) (Nat.le_refl _) _) 1;have HXB:Hid (TBox (W6.setCell ⟨gi,t,none⟩ (.int .i64 (L.length:Int))).drew wr.heap.size x As cs Am cm):=(heap_setCell_other _ _ _ _ (by have:=HPX.out;have:=HGL.out;simp only;omega)).trans HXX.out
    have HZ9:Hid (wr.heap.size<(W6.setCell ⟨gi,t,none⟩ (.int .i64 (L.length:Int))).drew.heap.size):=HXB.out.blt;clear i9 f9 HC9 HXX HZX;generalize (W6.setCell ⟨gi,t,none⟩ (.int .i64 (L.length:Int))).drew=W9 at *;have HBG:=zh ((HBR.out.trans (HBX.out.mono (by have:=HPX.out;have:=HGL.out;omega))).trans HB9.out)
    have HOV:Hid ((Value.slice Av L.length cv).ownBlock≠some wr.heap.size):=fun e=>by have:=HOX.out _ e;omega
    have HAP:=zh (fun w' (k:Kp (Value.slice Av L.length cv) W9 w')=>ap_hold HT9.out HXB.out HOV.out k)
    have HOF:Hid (Off (fun q=>w.heap.size≤q∨(Value.slice Av L.length cv).ownBlock=some q) W9 fun u=>TyR u x As Am):=off_old HTR.out (HB77.out.trans (HBG.out.mono (by have:=HLG.out;omega))) fun q hq h=>by
     rcases h with h|h
     ·omega
     ·have:=(HT9.out.ownlt h).1;have:=HGL.out;have:=HLG.out;omega
    obtain ⟨b0,b1,b2,b3,b4,b5,b6,b7,b8,b9⟩:=zI HXB.out;go_wp2_with fail;clear b0 b1 b2 b3 b4 b5 b6 b7 b8 b9
    refine yK (S:=(fun w'=>((w'.cell? ⟨p,2,none⟩=some (.slice Av L.length cv)∧w'.frozen? ⟨p,2,none⟩=false)∧(w'.cell? ⟨wr.heap.size,0,none⟩=some (.int .i64 x.kind)∧w'.cell? ⟨wr.heap.size,1,none⟩=some (.string x.name)∧w'.cell? ⟨wr.heap.size,2,none⟩=some (.int .i64 x.low)∧w'.cell? ⟨wr.heap.size,3,none⟩=some (.int .i64 x.high)∧w'.cell? ⟨wr.heap.size,4,none⟩=some (.int .i64 x.max)∧w'.cell? ⟨wr.heap.size,5,none⟩=some (.slice As x.syms.length cs)∧w'.cell? ⟨wr.heap.size,6,none⟩=some (.slice Am x.mems.length cm)∧w'.cell? ⟨wr.heap.size,7,none⟩=some (.int .i64 x.key)∧w'.cell? ⟨wr.heap.size,8,none⟩=some (.int .i64 x.elem)∧w'.cell? ⟨wr.heap.size,9,none⟩=some (.bool x.open_)))∧Hid (Kp (.slice Av L.length cv) W9 w'))) 12 (by kernel_rfl) ?_ (fun zH_=>?_)
    ·(try dsimp only);exact HAP.out _ (Kp.of (zC (Below.refl _ _) 1))
    refine tC 0 ?_;try simp only[ps]
    refine tC 1 ?_;try simp only[ps]
    refine tC 2 ?_;try simp only[ps]
    refine tC 3 ?_;try simp only[ps]
    refine tC 4 ?_;try simp only[ps]
    refine tB 5 ?_;try simp only[ps]
    refine tB 6 ?_;try simp only[ps]
    refine tS 7 (fun K hK=>?_)
    go_simp
    refine hK.out _ _ ?_ (fun zH_=>?_)
    ·(try dsimp only);exact HAP.out _ (zH_.2.out.below (zD _ _))
    clear hK K;try simp only[ps]
    refine tS 8 (fun K hK=>?_)
    (have HW6:=zh (HT9.out.own.below (zB (zC (Below.refl W9.heap.size W9) 1) (zD _ (x.box As cs Am cm))));have HZ6:Hid (p+1≤((W9.drewN 1).alloc (x.box As cs Am cm)).heap.size):=(by show _≤_;have:=HZ9.out;have:=HPX.out;simp;omega);have hll:=HLM.out.2;refine step_append_o elem_ty (by rfl) (.tmp 54) (.tmp 56) (by rfl) (p+1) (.slice Av L.length cv) L.length (L.flatMap TyA.cells) (by rfl) HW6.out W9.heap.size 0 1 1 (⟨x,As,cs,Am,cm⟩:TyA).cells (by rfl) rfl (zT (W9.drewN 1) (⟨x,As,cs,Am,cm⟩:TyA).cells 50) (tyA_one _) (by omega) (by omega) HZ6.out ?_;intro v8 w8 ho8 hg8 hv8;obtain ⟨A8,c8,rfl,_⟩:=OwnL.reads (OwnL.snoc (enc:=TyA.cells) (x:=(⟨x,As,cs,Am,cm⟩:TyA)) ho8);have HN8:=zh (HT9.out.next (x:=(⟨x,As,cs,Am,cm⟩:TyA)) HOF.out (zB (zC (Below.refl W9.heap.size W9) 1) (zD _ (x.box As cs Am cm))) ho8 hg8 hv8);have HG8:=zh hg8;clear ho8 hg8 hv8)
    refine hK.out _ _ ?_ (fun zH_=>?_)
    ·(try dsimp only);exact HAP.out _ (zH_.2.out.grown HG8.out)
    clear hK K;try simp only[ps]
    refine tC 9 ?_;try simp only[ps]
    refine tC 10 ?_;try simp only[ps]
    refine tC 11 ?_;try simp only[ps]
    refine yQ (rs:=[12]) (by kernel_rfl) (by simp) ?_
    refine AllReadyB.last rfl (by kernel_rfl) (fun K hK=>?_) AllReadyB.nil
    (obtain ⟨⟨⟨hc2,hf2⟩,_⟩,_⟩:=zH_;go_simp)
    refine hK.out _ _ ?_;clear hK K
    (try clear zH_)
    try simp only[ps]
    refine wpAny_done (by kernel_rfl) ?_ _
    have he8:(L++[(⟨x,As,cs,Am,cm⟩:TyA)]).length=L.length+1:=by simp
    have HN9:=HN8.out;rw[he8] at HN9;have HTN:=zh HN9.1;have HCN:=zh HN9.2;clear hc2 hf2 HN8 HN9 HG8 HAP;generalize w8.setCell ⟨p,2,none⟩ (.slice A8 (L.length+1) c8)=W10 at *;go_wp2;go_roundw
    case rel =>
     refine ⟨t+1,.slice A8 (L.length+1) c8,L++[⟨x,As,cs,Am,cm⟩],by omega,by go_num,?_,?_,fun y hy=>?_,HBG.out.trans (HCN.out.bel.mono (by have:=HGL.out;omega))⟩
     ·rw[HN1.out,←HLM.out.1];exact HTN.out
     ·rw[HN2.out,List.map_append,HM.out];rfl
     ·rcases List.mem_append.1 hy with k|k
      ·exact HO.out y k
      ·obtain rfl:y=⟨x,As,cs,Am,cm⟩:=by simpa using k
       exact ⟨HMH.out,HTR.out⟩
    case measure=>simp[intOf];omega
  ·obtain rfl:t=s.length:=by omega
   obtain ⟨W8,rfl⟩:∃W8:World,W8=wr:=⟨_,rfl⟩;obtain ⟨v0,hv0⟩:∃v0,v0=v:=⟨_,rfl⟩;obtain ⟨Av,cv,rfl⟩:=HT.out.val;have x7:=HT.out.cells.1.2.2;have HRB:=zh (fun W (hb:Below gi W7 W)=>(hb.block _ (by have:=HLG.out;omega)).trans HR7.out)
   go_wp2_with fail
   rw[←hv0] at HT;clear x7;have HT8:Hid (TdS A s.length c p gi (t1D s s.length).1 (fun q=>q=p∨q=w.heap.size+1) W8 v0 L):=HT.out.mono (fun q h=>by have:=HGL.out;have:=HLG.out;rcases h with h|h <;> omega) (.inl rfl)
   have HLN:Hid (L.length=(t1D s s.length).2.length∧L.length≤32):=by
    have h:=congrArg List.length HM.out;rw[List.length_map] at h;have:=(t1D_len (s:=s) s.length).2;exact ⟨h,by omega⟩
   have HTL:Hid (tidyL s=t2D s (t1D s s.length).1 (t1D s s.length).2 L.length):=by show _=_;rw[HLN.out.1];rfl
   obtain ⟨ix,hix⟩:∃ix,ix=(t1D s s.length).1:=⟨_,rfl⟩;obtain ⟨out0,ho0⟩:∃o0,o0=(t1D s s.length).2:=⟨_,rfl⟩;have HIX:=zh hix;rw[←hix] at HT8;rw[←ho0] at HM;rw[←hix,←ho0] at HTL;clear hix ho0 HT
   go_loopw [68] (fun k wr=>∃ (t:Nat) (v:Value) (M:List TyA),t≤L.length∧k = .int .i64 (t:Int)∧Hid (TdS A s.length c p gi ix (fun q=>q=p∨q=w.heap.size+1) wr v M∧M.map (·.t)=t2D s ix out0 t∧(∀j x,t≤j→j<L.length→M[j]? = some x→OldX w s x)∧(L.length≤M.length∧M.length≤32+t * 1056)∧Below gi W7 wr)) (fun k _=>L.length - (intOf k).toNat)
   case atStart=>exact ⟨0,v0,L,Nat.zero_le _,rfl,HT8.out,HM.out,(fun j x _ _ hx=>HO.out x (List.mem_of_getElem? hx)),⟨Nat.le_refl _,by have:=HLN.out.2;omega⟩,HBR.out⟩
   case round =>
    obtain ⟨t,v,M,htl,rfl,hh⟩:=hrel;have HT:=zh hh.out.1;have HMM:=zh hh.out.2.1;have HOO:=zh hh.out.2.2.1;have HLL:=zh hh.out.2.2.2.1;have HBB:=zh hh.out.2.2.2.2;have HBW':=zh (HB77.out.trans (HBB.out.mono (by have:=HLG.out;omega)))
    clear hh
    by_cases hlt:t<L.length
    ·have hlm:t<M.length:=by have:=HLL.out.1;omega
     have h1:(0:Int)≤(t:Int):=by omega
     have h2:(t:Int)<(L.length:Int):=by omega
     have h3:(t:Int)<(M.length:Int):=by omega
     obtain ⟨g,cm0,rfl,hgl,hrg,hth⟩:=HT.out.at_ hlm;have HOX:=zh (HOO.out t _ (Nat.le_refl _) hlt (zl hlm));obtain ⟨x,hx⟩:∃x,M[t]=x:=⟨_,rfl⟩;have HXE:=zh hx;rw[hx] at HOX hrg;clear hx;have HRG:=zh hrg;have HTH:=zh hth;clear hrg hth
     have HC15:Hid ((wr.cell? ⟨p,2,none⟩=some (.slice (some ⟨g,0,none⟩) M.length cm0)∧wr.cell? ⟨g,t * 10+5,none⟩=some (.slice x.As x.t.syms.length x.cs))∧wr.frozen? ⟨g,t * 10+5,none⟩=false):=⟨⟨HT.out.cells.1.2.2,HRG.out 5 _ rfl⟩,(HTH.out 5 (by omega)).2⟩
     have HBO:=zh (fun q (hq:(Value.slice (some ⟨g,0,none⟩) M.length cm0).ownBlock=some q)=>HT.out.ownlt hq)
     have HSO:Hid (∀q,q<w.heap.size→¬ ((q=p∨q=w.heap.size+1)∨(Value.slice (some ⟨g,0,none⟩) M.length cm0).ownBlock=some q)):=by
      intro q hq h
      have:=HGL.out;have:=HLG.out
      rcases h with (h|h)|h
      ·omega
      ·omega
      ·have:=(HBO.out q h).1;omega
     have HPL:=zh HT.out.plt;have HA15:=zh (fun w' (hb:Below wr.heap.size wr w')=>(show (w'.cell? ⟨p,2,none⟩=some (.slice (some ⟨g,0,none⟩) M.length cm0)∧w'.cell? ⟨g,t * 10+5,none⟩=some (.slice x.As x.t.syms.length x.cs))∧Hid (Below wr.heap.size wr w') from ⟨⟨zA hb HC15.out.1.1,zA hb HC15.out.1.2⟩,hb⟩))
     go_wp2_with fail
     refine yK (S:=(fun w'=>(w'.cell? ⟨p,2,none⟩=some (.slice (some ⟨g,0,none⟩) M.length cm0)∧w'.cell? ⟨g,t * 10+5,none⟩=some (.slice x.As x.t.syms.length x.cs))∧Hid (Below wr.heap.size wr w'))) 18 (by kernel_rfl) ?_ (fun zH_=>?_)
     ·(try dsimp only);exact HA15.out _ (zC (Below.refl _ _) 1)
     refine tC 0 ?_;try simp only[ps]
     refine tC 1 ?_;try simp only[ps]
     refine tC 2 ?_;try simp only[ps]
     refine tC 3 ?_;try simp only[ps]
     refine tB 4 ?_;try simp only[ps]
     refine tC 5 ?_;try simp only[ps]
     refine tC 6 ?_;try simp only[ps]
     refine tC 7 ?_;try simp only[ps]
     refine tC 8 ?_;try simp only[ps]
     refine tC 9 ?_;try simp only[ps]
     refine tB 10 ?_;try simp only[ps]
     refine tC 11 ?_;try simp only[ps]
     refine tC 12 ?_;try simp only[ps]
     refine tC 13 ?_;try simp only[ps]
     refine tB 14 ?_;try simp only[ps]
     refine tS 15 (fun K hK=>?_)
     go_simp
     (refine (cloneSX HOX.out.2.syms (zB HBW'.out zH_.2.out)).mono ?_;rintro e w5 ⟨B,d',rfl,hb5,hr5⟩;have HR5:=zh hr5;have HB5:=zh (zB zH_.2.out hb5);have HLE:=zh zH_.2.out.size;clear hb5 hr5)
     refine hK.out _ _ ?_ (fun zH_=>?_)
     ·(try dsimp only);exact HA15.out _ HB5.out
     clear hK K;try simp only[ps]
     refine tC 16 ?_;try simp only[ps]
     refine tC 17 ?_;try simp only[ps]
     refine yQ (rs:=[18]) (by kernel_rfl) (by simp) ?_
     refine AllReadyB.last rfl (by kernel_rfl) (fun K hK=>?_) AllReadyB.nil
     (have f5:w5.frozen? ⟨g,t * 10+5,none⟩=false:=(((HT.out.below HB5.out).atv hlm rfl).2.2 5 (by omega)).2;obtain ⟨⟨hc2,hc5⟩,_⟩:=zH_;go_simp)
     refine hK.out _ _ ?_;clear hK K
     (try clear zH_)
     try simp only[ps]
     refine wpAny_done (by kernel_rfl) ?_ _
     have HTC:Hid (TdS A s.length c p gi ix (fun q=>q=p∨q=w.heap.size+1) (w5.setCell ⟨g,t * 10+5,none⟩ (.slice B x.t.syms.length d')) (.slice (some ⟨g,0,none⟩) M.length cm0) (M.set t ⟨x.t,B,d',x.Am,x.cm⟩)∧Chg p (.slice (some ⟨g,0,none⟩) M.length cm0) (.slice (some ⟨g,0,none⟩) M.length cm0) w5 (w5.setCell ⟨g,t * 10+5,none⟩ (.slice B x.t.syms.length d'))):=by
      refine (HT.out.below HB5.out).setC hlm rfl (by omega) (by rw[HXE.out];rfl) ?_
      refine off_syms HOX.out.2 (zB HBW'.out HB5.out) HSO.out HR5.out fun q hq=>?_
      have:=HPL.out;have:=HLE.out;have:=HGL.out;have:=HLG.out
      rcases hq with (h|h)|h
      ·omega
      ·omega
      ·have:=(HBO.out q h).2;omega
     have HT6:=zh HTC.out.1;have HB6:=zh (HBB.out.trans ((HB5.out.mono (by have:=HPL.out;have:=HGL.out;omega)).trans (HTC.out.2.bel.mono (Nat.le_of_lt HGL.out))))
     have HBW6:=zh (HB77.out.trans (HB6.out.mono (by have:=HLG.out;omega)))
     clear HTC HC15 HA15 zH_;generalize w5.setCell ⟨g,t * 10+5,none⟩ (.slice B x.t.syms.length d')=W6 at *;obtain ⟨M1,hM1⟩:∃M1,M1=M.set t (⟨x.t,B,d',x.Am,x.cm⟩:TyA):=⟨_,rfl⟩;have HM1l:Hid (M1.length=M.length):=by show _=_;rw[hM1,List.length_set]
     have HM1t:Hid (M1[t]? = some (⟨x.t,B,d',x.Am,x.cm⟩:TyA)):=by show _=_;rw[hM1,List.getElem?_set_self hlm]
     have HM1o:Hid (∀j,j≠t→M1[j]? = M[j]?):=fun j hj=>by rw[hM1,List.getElem?_set_ne (fun e=>hj e.symm)]
     have HM1m:Hid (M1.map (·.t)=M.map (·.t)):=by
      show _=_
      rw[hM1,List.map_set]
      apply List.ext_getElem?
      intro j
      by_cases hj:t=j
      ·subst hj
       rw[List.getElem?_set_self (by rw[List.length_map];exact hlm),List.getElem?_map,zl hlm,HXE.out];rfl
      ·rw[List.getElem?_set_ne hj]
     rw[←hM1] at HT6;clear hM1;have ht1:t<M1.length:=by rw[HM1l.out];exact hlm
     have HR6:Hid (W6.rangeAt g (t * 10) (⟨x.t,B,d',x.Am,x.cm⟩:TyA).cells):=by
      have h:=(HT6.out.atv ht1 (by rw[HM1l.out])).2.1
      have e:M1[t]=(⟨x.t,B,d',x.Am,x.cm⟩:TyA):=Option.some.inj ((zl ht1).symm.trans HM1t.out)
      rwa [e] at h
     have x16:=HT6.out.cells.1.2.2;have c16:W6.cell? ⟨g,t * 10+6,none⟩=some (.slice x.Am x.t.mems.length x.cm):=HR6.out 6 _ rfl;have HP6:=zh HT6.out.plt;have HO6:=zh (fun q (hq:(Value.slice (some ⟨g,0,none⟩) M.length cm0).ownBlock=some q)=>HT6.out.ownlt hq)
     go_wp2_with fail
     refine (cloneMX HOX.out.2.mems HBW6.out).mono ?_;rintro e w7 ⟨Bm,dm,rfl,hb7,hr7⟩;have HR7m:=zh hr7;have HB7:=zh (HB6.out.trans (hb7.mono (by have:=HP6.out;have:=HGL.out;omega)))
     have HT7:Hid (TdS A s.length c p gi ix (fun q=>(q=p∨q=w.heap.size+1)∨(Value.slice Bm x.t.mems.length dm).ownBlock=some q) w7 (.slice (some ⟨g,0,none⟩) M.length cm0) M1) :=
      HT6.out.sets hb7 (fun q hq h=>h.elim id fun e=>by have:=(hr7.lt e).1;omega) (.inl (.inl rfl))
     have HSP:Hid (∀q,(Value.slice Bm x.t.mems.length dm).ownBlock=some q→(W6.heap.size≤q)∧(Value.slice (some ⟨g,0,none⟩) M.length cm0).ownBlock≠some q):=fun q hq=>⟨(hr7.lt hq).1,fun e=>by have:=(HO6.out q e).2;have:=(hr7.lt hq).1;omega⟩
     clear hb7 hr7 x16 c16;have HMS:Hid (x.t.mems.length≤16∧(∀m∈x.t.mems,0≤m.type∧m.type<(s.length:Int))∧∀m∈x.t.mems,finD s (s.length+1) m.type) :=
      ⟨mems_le HV.out HOX.out.1,fun m hm=>(mem_rng HV.out HOX.out.1 hm).2,fun m hm=>HFN.out _ HOX.out.1 m hm⟩
     obtain ⟨O1,hO1⟩:∃O1,O1=M1.map (·.t):=⟨_,rfl⟩;have HO1:=zh hO1;have HO2:Hid (O1=t2D s ix out0 t):=hO1.trans (HM1m.out.trans HMM.out);have HOG:Hid (O1.getD t zeroT=x.t):=by
      show _=_
      rw[hO1,List.getD_eq_getElem?_getD,List.getElem?_map,HM1t.out];rfl
     have HOL:Hid (O1.length=M.length):=by show _=_;rw[hO1,List.length_map];exact HM1l.out
     have HS3:Hid (∀q,q<w.heap.size→¬ ((q=p∨q=w.heap.size+1)∨(Value.slice Bm x.t.mems.length dm).ownBlock=some q)):=by
      intro q hq h
      rcases h with h|h
      ·exact HSO.out q hq (.inl h)
      ·have:=(HSP.out q h).1;have:=HBW6.out.size;omega
     clear hO1;go_wp2_with fail
     go_loopw [101] (fun k wr=>∃ (i:Nat) (v':Value) (L':List TyA),i≤x.t.mems.length∧k = .int .i64 (i:Int)∧Hid (TdS A s.length c p gi ix (fun q=>(q=p∨q=w.heap.size+1)∨(Value.slice Bm x.t.mems.length dm).ownBlock=some q) wr v' L'∧Below gi W7 wr∧RowX 71 13 (MatL w) wr W6.heap.size Bm dm (midM s ix x.t.mems O1 i)∧(∀q,(Value.slice Bm x.t.mems.length dm).ownBlock=some q→v'.ownBlock≠some q)∧L'.map (·.t)=(yB s ix (x.t.mems.take i) O1).2∧∀j,j<M1.length→L'[j]? = M1[j]?)) (fun k _=>x.t.mems.length - (intOf k).toNat)
     case atStart=>exact ⟨0,_,M1,Nat.zero_le _,rfl,HT7.out,HB7.out,by rw[midM_zero];exact HR7m.out,fun q hq=>(HSP.out q hq).2,by rw[placeMs_zero];exact HO1.out.symm,fun _ _=>rfl⟩
     case round =>
      obtain ⟨i,v',L',hil,rfl,hh⟩:=hrel;have HTd:=zh hh.out.1;have HBd:=zh hh.out.2.1;have HRX:=zh hh.out.2.2.1;have HSV:=zh hh.out.2.2.2.1;have HMP:=zh hh.out.2.2.2.2.1;have HPR:=zh hh.out.2.2.2.2.2;have HBWd:=zh (HB77.out.trans (HBd.out.mono (by have:=HLG.out;omega)))
      have HLd:Hid (L'.length≤M.length+i * 66∧M.length≤L'.length):=by
       have h:=congrArg List.length HMP.out;rw[List.length_map] at h;have:=placeMs_len2 (ix:=ix) (out:=O1) HV.out HMS.out.2.1 i hil;rw[HOL.out] at this;exact ⟨by omega,by omega⟩
      clear hh
      by_cases hli:i<x.t.mems.length
      ·have hlm2:i<(midM s ix x.t.mems O1 i).length:=by rw[midM_len hil];exact hli
       obtain ⟨gl,cs,rfl,hbl,hgw,hcl,hat,hrg,hfr⟩:=HRX.out.at_ hlm2;rw[midM_get hli] at hat;obtain ⟨A1,c1,A2,c2,A3,c3,rfl,_⟩:=hat.parts;have d2:wr.cell? ⟨gl,i * 13+2,none⟩=some (.int .i64 (x.t.mems[i]).type):=hrg 2 _ rfl;have HFR:=zh (hfr (i * 13+2));have HMI:=zh (List.getElem_mem hli);have HMG:=zh (midM_get (s:=s) (ix:=ix) (out:=O1) hli hlm2);have HSU:=zh (midM_succ (s:=s) (ix:=ix) (out:=O1) hli)
       have HPU:=zh (placeMs_succ (s:=s) (ix:=ix) (out:=O1) hli);generalize x.t.mems[i]=m at *;have HPm:=zh (And.intro (HMS.out.2.1 m HMI.out) (HMS.out.2.2 m HMI.out));clear hat hrg hfr hcl;have HGL2:Hid (W6.heap.size≤gl∧gl<wr.heap.size):=⟨hbl,hgw⟩;have HSVg:=zh (HSV.out gl rfl);have hms16:=HMS.out.1;have i1:(0:Int)≤(i:Int):=by omega
       have i2:(i:Int)<(x.t.mems.length:Int):=by omega
       have HD2:=zh d2;have HTdd:Hid (TdS A s.length c p gi ix (fun q=>(q=p∨q=w.heap.size+1)∨(Value.slice (some ⟨gl,0,none⟩) x.t.mems.length dm).ownBlock=some q) wr.drew v' L'):=HTd.out.below (zC (Below.refl _ _) 1)
       have HBdd:Hid (Below w.heap.size w wr.drew):=zC HBWd.out 1;have HLz:Hid (L'.length+2 * (s.length+1)≤100000):=by
        show _≤_
        have:=HLd.out.1;have:=HLL.out.2;have:=HMS.out.1;have:=HLN.out.2;have h3:=Nat.mul_le_mul_right 1056 (show t≤31 by omega)
        have h4:=Nat.mul_le_mul_right 66 (show i≤16 by omega)
        omega
       obtain ⟨z,hz⟩:∃z,z=(zY s ix (s.length+1) m.type (yB s ix (x.t.mems.take i) O1).2).1:=⟨_,rfl⟩;have HZ:=zh hz;clear hz;go_wp2_with fail;refine (place_any s A c HV.out w HS.out p gi ix (by have:=HLG.out;omega) (s.length+1) m.type _ v' L' _ HPm.out.1 HPm.out.2 HS3.out HLz.out HTd.out HBWd.out).mono ?_
       rintro e w8 ⟨v8,L8,rfl,hm8,ht8,hc8,hp8⟩;rw[HMP.out,←HZ.out];rw[HMP.out] at hm8;have HM8:=zh hm8;have HT8d:=zh ht8;have HC8:=zh hc8;have HP8:=zh hp8;have HK8:Hid (w8.heap[gl]? = wr.heap[gl]?):=hc8.oth gl (by have:=HGL2.out.1;have:=HP6.out;omega) HGL2.out.2 HSVg.out
       have HV8:Hid (v8.ownBlock≠some gl):=fun e=>(hc8.own _ e).elim HSVg.out fun h=>by have:=HGL2.out.2;omega
       clear hm8 ht8 hc8 hp8 d2;have d8:w8.cell? ⟨gl,i * 13+2,none⟩=some (.int .i64 m.type):=(World.cell?_of_block (w:=wr) (w':=w8) (a:=⟨gl,i * 13+2,none⟩) HK8.out).trans HD2.out;have f8:w8.frozen? ⟨gl,i * 13+2,none⟩=false:=(World.frozen?_of_block (w:=wr) (w':=w8) (a:=⟨gl,i * 13+2,none⟩) HK8.out).trans HFR.out;go_wp2;go_roundw
       case rel =>
        refine ⟨i+1,v8,L8,by omega,by go_num,HT8d.out.other (g:=gl) (.inr rfl) (by have:=HGL2.out.1;have:=HP6.out;omega) (by have:=HGL2.out.1;have:=HP6.out;have:=HGL.out;omega) HV8.out _ _,?_,?_,fun q hq e=>?_,?_,fun j hj=>?_⟩
        ·exact (HBd.out.trans (HC8.out.bel.mono (Nat.le_of_lt HGL.out))).setCell (p:=⟨gl,i * 13+2,none⟩) (by have:=HGL2.out.1;have:=HP6.out;have:=HGL.out;simp only;omega) _
        ·have hk:RowX 71 13 (MatL w) w8 W6.heap.size (some ⟨gl,0,none⟩) dm (midM s ix x.t.mems O1 i):=HRX.out.keep fun q _ _ hq=>by
          have:gl=q:=by simpa[Value.ownBlock] using hq
          rw[←this];exact HK8.out
         have hs:=hk.set (i:=i) hlm2 rfl (j:=2) (by omega) (.int .i64 z) (x:={ m with type:=z }) fun cs hc=>by
          rw[HMG.out] at hc;exact hc.type z
         rw[HZ.out,HSU.out] at hs;rw[HZ.out];exact hs
        ·have:gl=q:=by simpa[Value.ownBlock] using hq
         exact HV8.out (by rw[this];exact e)
        ·rw[HPU.out];exact HM8.out
        ·exact (HP8.out j (by have:=HLd.out.2;rw[HM1l.out] at hj;omega)).trans (HPR.out j hj)
       case measure=>simp[intOf];omega
      ·obtain rfl:i=x.t.mems.length:=by omega
       rw[midM_all] at HRX;rw[List.take_length] at HMP;have HNL:Hid ((yB s ix x.t.mems O1).1.length=x.t.mems.length):=by
        have:=placeMs_len1 (s:=s) (ix:=ix) (ms:=x.t.mems) (out:=O1) x.t.mems.length (Nat.le_refl _)
        rwa [List.take_length] at this
       have htL:t<L'.length:=by have:=HLd.out.2;omega
       have HET:Hid (L'[t]? = some (⟨x.t,B,d',x.Am,x.cm⟩:TyA)):=(HPR.out t ht1).trans HM1t.out;have hET:L'[t]=(⟨x.t,B,d',x.Am,x.cm⟩:TyA):=Option.some.inj ((zl htL).symm.trans HET.out);have HEG:=zh hET;obtain ⟨g2,cv2,rfl,hgl2,hrg2,hth2⟩:=HTd.out.at_ htL;rw[hET] at hrg2;clear hET;have ht31:t≤31:=by have:=HLN.out.2;omega
       have j1:(0:Int)≤(t:Int):=by omega
       have j2:(t:Int)<(L'.length:Int):=by omega
       have y7:=HTd.out.cells.1.2.2;have y6:wr.cell? ⟨g2,t * 10+6,none⟩=some (.slice x.Am x.t.mems.length x.cm):=hrg2 6 _ rfl;have yf:wr.frozen? ⟨g2,t * 10+6,none⟩=false:=(hth2 6 (by omega)).2
       have HSO2:Hid (∀q,q<w.heap.size→¬ ((q=p∨q=w.heap.size+1)∨(Value.slice (some ⟨g2,0,none⟩) L'.length cv2).ownBlock=some q)):=by
        intro q hq h
        have:=HGL.out;have:=HLG.out
        rcases h with (h|h)|h
        ·omega
        ·omega
        ·have:=(HTd.out.ownlt h).1;omega
       have HOF:Hid (Off (fun q=>(q=p∨q=w.heap.size+1)∨(Value.slice (some ⟨g2,0,none⟩) L'.length cv2).ownBlock=some q) wr fun u=>TyR u { x.t with mems:=(yB s ix x.t.mems O1).1 } B Bm):=by
        refine off_mems (x:=x.t) (HTd.out.mem HET.out) HBWd.out HSO2.out (fun q h=>h.elim (fun h => .inl (.inl h)) .inr) HRX.out (fun q hq h=>?_) (by rw[HNL.out];have:=HMS.out.1;unfold Lim;omega) rfl rfl rfl
        rw[HNL.out] at hq;have hge:=(HSP.out q hq).1;have:=HP6.out;have:=HGL.out;have:=HLG.out
        rcases h with (h|h)|h
        ·omega
        ·omega
        ·exact HSV.out q hq h
       clear hrg2 hth2;go_wp2;go_roundw
       case rel =>
        have HS9:=(HTd.out.mono (S':=fun q=>q=p∨q=w.heap.size+1) (fun q h => .inl h) (.inl rfl)).setC (i:=t) htL rfl (j:=6) (by omega) (u := .slice Bm x.t.mems.length dm) (x:=⟨{ x.t with mems:=(yB s ix x.t.mems O1).1 },B,d',Bm,dm⟩) (by rw[HEG.out];unfold TyA.cells;simp only[TyD.cs,HNL.out];rfl) HOF.out
        refine ⟨t+1,.slice (some ⟨g2,0,none⟩) L'.length cv2,L'.set t ⟨{ x.t with mems:=(yB s ix x.t.mems O1).1 },B,d',Bm,dm⟩,by omega,by go_num,HS9.1,?_,fun j y h1 h2 hy=>?_,⟨?_,?_⟩,HBd.out.trans (HS9.2.bel.mono (Nat.le_of_lt HGL.out))⟩
        ·rw[t2D_succ,←HO2.out,HOG.out,List.map_set,HMP.out]
        ·rw[List.getElem?_set_ne (by omega),HPR.out j (by rw[HM1l.out];have:=HLL.out.1;omega),HM1o.out j (by omega)] at hy
         exact HOO.out j y (by omega) h2 hy
        ·rw[List.length_set];have:=HLd.out.2;have:=HLL.out.1;omega
        ·rw[List.length_set]
         have:=HLd.out.1;have:=HLL.out.2;have:=HMS.out.1;have h4:=Nat.mul_le_mul_right 66 (show x.t.mems.length≤16 from HMS.out.1)
         omega
       case measure=>simp[intOf];omega
    ·obtain rfl:t=L.length:=by omega
     obtain ⟨Av2,cv2,rfl⟩:=HT.out.val;have x7:=HT.out.cells.1.2.2;have HTM:Hid (M.map (·.t)=tidyL s):=HMM.out.trans HTL.out.symm;have HML:Hid (M.length=(tidyL s).length):=by have h:=congrArg List.length HTM.out;rw[List.length_map] at h;exact h
     have rr:=zb (HRB.out _ HBB.out);have rf:wr.frozen? ⟨w.heap.size+1,0,none⟩=false:=frozen_of_row _ _ _ _ _ (HRB.out _ HBB.out);clear HOO HLL HLN HO HM HRB HFN
     by_cases hbig:32<M.length
     ·have q1:(32:Int)<(M.length:Int):=by omega
      have HT3:Hid (tidyE s d=3):=by rw[HTE.out,←HML.out];exact if_pos hbig
      clear hbig;go_wp2_with fail;have r0:=World.cell?_setCell_same wr ⟨w.heap.size+1,0,none⟩ (.slice none 0 0) rr;have HEN:=zh (tidy_bad (s:=s) (d:=d) (by rw[HT3.out];decide) (HBW'.out.setCell (p:=⟨w.heap.size+1,0,none⟩) (Nat.le_succ _) (.slice none 0 0)))
      rw[HT3.out] at HEN;refine bodyPost_ret (v := .tuple #[.agg #[.slice none 0 0],.slice none 0 0,.int .i64 3]) (by simp[results,Tryz.results8,go_sem,r0]) rfl HEN.out
     ·have q1:¬ (32:Int)<(M.length:Int):=by omega
      have HT3:Hid (tidyE s d=0):=by rw[HTE.out,←HML.out];exact if_neg hbig
      have HMB:Hid (M.length≤32):=by show _≤_;omega
      have HC26:Hid (wr.cell? ⟨p,1,none⟩=some (.slice (some ⟨gi,0,none⟩) s.length s.length)∧wr.cell? ⟨p,2,none⟩=some (.slice Av2 M.length cv2)):=⟨HT.out.cells.1.2.1,HT.out.cells.1.2.2⟩;have HPW:=zh HT.out.plt;have HPN:Hid (w.heap.size+1≠p):=by show _≠_;have:=HGL.out;have:=HLG.out;omega
      clear hbig;go_wp2_with fail;clear x7;refine wp_region_held_drew (S:=(fun w'=>(w'.cell? ⟨p,1,none⟩=some (.slice (some ⟨gi,0,none⟩) s.length s.length)∧w'.cell? ⟨p,2,none⟩=some (.slice Av2 M.length cv2)))) (by kernel_rfl) ?_ (fun zH_=>?_)
      ·(try dsimp only);exact HC26.out
      refine tL 0 ?_;try simp only[ps]
      refine tL 1 ?_;try simp only[ps]
      refine tL 2 ?_;try simp only[ps]
      refine tL 3 ?_;try simp only[ps]
      refine tL 4 ?_;try simp only[ps]
      refine tL 5 ?_;try simp only[ps]
      refine tL 6 ?_;try simp only[ps]
      refine tL 7 ?_;try simp only[ps]
      refine tR 8 (fun K hK=>?_)
      go_simp
      refine hK.out _ _ ?_ (fun zH_=>?_)
      ·(try dsimp only);exact ⟨(World.cell?_setCell_other _ _ _ _ (by simp only[ne_eq,Addr.mk.injEq,not_and];intro h;exact absurd h HPN.out)).trans zH_.1,(World.cell?_setCell_other _ _ _ _ (by simp only[ne_eq,Addr.mk.injEq,not_and];intro h;exact absurd h HPN.out)).trans zH_.2⟩
      clear hK K;try simp only[ps]
      refine tL 9 ?_;try simp only[ps]
      refine tL 10 ?_;try simp only[ps]
      refine wpAnyH_done (by kernel_rfl) ?_ _
      have HTF:Hid (TdS A s.length c p gi ix (fun q=>q=p∨q=w.heap.size+1) (wr.setCell ⟨w.heap.size+1,0,none⟩ (.slice Av2 M.length cv2)).drew (.slice Av2 M.length cv2) M) :=
       (HT.out.other (g:=w.heap.size+1) (.inr rfl) HPN.out (by have:=HLG.out;omega) (fun e=>by have:=(HT.out.ownlt e).1;have:=HGL.out;have:=HLG.out;omega) 0 _).below (zC (Below.refl _ _) 1)
      have HBF:Hid (Below w.heap.size w (wr.setCell ⟨w.heap.size+1,0,none⟩ (.slice Av2 M.length cv2)).drew):=zC (HBW'.out.setCell (p:=⟨w.heap.size+1,0,none⟩) (Nat.le_succ _) _) 1;have r0:(wr.setCell ⟨w.heap.size+1,0,none⟩ (.slice Av2 M.length cv2)).drew.cell? ⟨w.heap.size+1,0,none⟩=some (.slice Av2 M.length cv2):=World.cell?_setCell_same wr ⟨w.heap.size+1,0,none⟩ (.slice Av2 M.length cv2) rr
      clear zH_ rr rf;generalize (wr.setCell ⟨w.heap.size+1,0,none⟩ (.slice Av2 M.length cv2)).drew=W9 at *;go_wp2;have HIL:Hid ((t1D s s.length).1.length=s.length):=(t1D_len s.length).1;have HRW:=zh (OwnL.rows (bytes:=120) HTF.out.own (fun _=>rfl) (by have:=HMB.out;unfold Lim;omega) (at_:=fun x cs=>TyD.At W9 x.t cs) (fun x hx=>⟨x.As,x.cs,x.Am,x.cm,rfl,(HTF.out.off x hx).out⟩))
      refine bodyPost_ret (v := .tuple #[.agg #[.slice Av2 M.length cv2],.slice (some ⟨gi,0,none⟩) s.length s.length,.int .i64 0]) (by simp[results,Tryz.results8,go_sem,r0]) rfl ⟨Av2,cv2,some ⟨gi,0,none⟩,s.length,?_,?_,?_,HBF.out⟩
      ·unfold tidyT tidyI;rw[HT3.out,if_pos rfl,if_pos rfl,HIL.out,←HML.out]
      ·unfold tidyT;rw[HT3.out,if_pos rfl,←HTM.out]
       obtain ⟨A',c',e,hr⟩:=HRW.out
       injection e with e
       rw[e];exact tys_map hr
      ·unfold tidyI;rw[HT3.out,if_pos rfl,←HIX.out]
       exact ints_at HTF.out.ixb (by rw[HIX.out,HIL.out];omega)
end Go.Proofs.YtdfolgmcggdjdaaGreatDoor


