/-
  Walks: members, in package schema (written by gen_sc4.py).
-/
import Derived.Test.YtdfolgmcggdjdaaGreatDoorQGA3
namespace Go.Proofs.YtdfolgmcggdjdaaGreatDoor
open Go.RowKit
set_option maxHeartbeats 16000000
set_option maxRecDepth 100000
theorem valR_zero (w:World):ValR w zeroV none none none:=⟨by simp[SOk,zeroV,Val.str];exact Nat.zero_le _,RowsR.nil _ _ _ _ _,RowsR.nil _ _ _ _ _,RowsR.nil _ _ _ _ _⟩
theorem blank_any (x:Val) (A1:zo) (c1:Nat) (A2:zo) (c2:Nat) (A3:zo) (c3:Nat) (w:World) (hx:ValR w x A1 A2 A3) :
  Calls Tryz.prog 126 #[x.v A1 c1 A2 c2 A3 c3] w (SamePost (decide (x=zeroV)) w):=by
 have HX:=zh hx;clear hx
 go_enter Tryz.func126,Tryz.ntmps126
 go_wp2_with fail
 refine (same_all x zeroV A1 c1 A2 c2 A3 c3 none 0 none 0 none 0 _ (HX.out.below (zD _ _)) (valR_zero _)).mono ?_;rintro e w2 ⟨rfl,hb2⟩;go_wp2;go_ret;exact ⟨rfl,below_alloc hb2⟩
theorem mems_stop {rec:Bool} {l:List MemD} {k:Nat} (hk:k<l.length) (h:memOk rec l[k]=false):memsD rec l=false:=by
 have:l.all (memOk rec)=false:=by
  rw[List.all_eq_false];exact ⟨l[k],List.getElem_mem hk,by simp[h]⟩
 unfold memsD;rw[this];rfl
theorem mems_all {rec:Bool} {l:List MemD} (h:∀j (hj:j<l.length),memOk rec l[j]=true):memsD rec l=(idsD (l.map fun m=>(m.id,m.name))&&(rec||decide (l≠[]))):=by
 have:l.all (memOk rec)=true:=by
  rw[List.all_eq_true]
  intro m hm
  obtain ⟨j,hj,rfl⟩:=List.getElem_of_mem hm;exact h j hj
 unfold memsD;rw[this];rfl
theorem mems5_any (t:TyD) (hkind:t.kind=5) (As:zo) (cs:Nat) (Am:zo) (cm:Nat) (w:World) (ht:TyR w t As Am) :
  Calls Tryz.prog 105 #[t.v As cs Am cm] w (SamePost (memsD true t.mems) w):=by
 have hn:=ht.mems.1.lt (by omega)
 have HLM:=zh ht.mems.1;have HV:Hid (t.v As cs Am cm = .agg #[.int .i64 5,.string t.name,.int .i64 t.low,.int .i64 t.high,.int .i64 t.max,.slice As t.syms.length cs,.slice Am t.mems.length cm,.int .i64 t.key,.int .i64 t.elem,.bool t.open_]):=by show _=_;rw[←hkind]
 rw[HV.out];generalize hl:t.mems=l at *;have HM:Hid (MemsR w Am l):=by rw[←hl];exact ht.mems
 clear ht hkind hl HV
 go_enter Tryz.func105,Tryz.ntmps105
 go_wp2
 have HM1:=zh (HM.out.below (zD w (.cells #[.int .i64 5,.string t.name,.int .i64 t.low,.int .i64 t.high,.int .i64 t.max,.slice As t.syms.length cs,.slice Am l.length cm,.int .i64 t.key,.int .i64 t.elem,.bool t.open_] 50)))
 have HB1:=zh (zD w (.cells #[.int .i64 5,.string t.name,.int .i64 t.low,.int .i64 t.high,.int .i64 t.max,.slice As t.syms.length cs,.slice Am l.length cm,.int .i64 t.key,.int .i64 t.elem,.bool t.open_] 50))
 have HK1:Hid ((w.alloc (.cells #[.int .i64 5,.string t.name,.int .i64 t.low,.int .i64 t.high,.int .i64 t.max,.slice As t.syms.length cs,.slice Am l.length cm,.int .i64 t.key,.int .i64 t.elem,.bool t.open_] 50)).cell? ⟨w.heap.size,0,none⟩=some (.int .i64 5)):=by show _=_;rw[cell_of_row _ _ _ _ _ _ (heap_alloc_new w _)];rfl
 generalize (w.alloc (.cells #[.int .i64 5,.string t.name,.int .i64 t.low,.int .i64 t.high,.int .i64 t.max,.slice As t.syms.length cs,.slice Am l.length cm,.int .i64 t.key,.int .i64 t.elem,.bool t.open_] 50))=w1 at *
 go_loopw [10,3,4] (fun i a b wr=>∃k:Nat,k≤l.length∧i = .int .i64 k∧Hid (RwSt ((l.take k).map fun s=>s.id) ((l.take k).map fun s=>s.name) w1 a b wr∧∀j (hj:j<l.length),j<k→memOk true l[j]=true)) (fun i _ _ _=>l.length - (intOf i).toNat)
 case atStart=>exact ⟨0,by omega,rfl,⟨OwnL.nil _ _,OwnL.nil _ _,Below.refl _ _⟩,fun j _ h=>absurd h (by omega)⟩
 case round =>
  obtain ⟨k,hk,rfl,hh0⟩:=hrel;obtain ⟨wo,rfl⟩:∃wo:World,wo=wr:=⟨_,rfl⟩;have HAL:=zh hh0.out.2;have hh:=zh hh0.out.1;clear hh0
  by_cases hlt:k<l.length
  ·obtain ⟨b,o,A1,c1,A2,c2,A3,c3,rfl,hr1,a0,a1,a2,a3,a4,a5,a6,a7,a8,a9,a10,a11,a12⟩:=HM1.out.at13 hlt
   have HR:=zh hr1;clear hr1;have hbl:=hh.out.bel;replace a0:=zA hbl a0;replace a1:=zA hbl a1;replace a2:=zA hbl a2;replace a3:=zA hbl a3;replace a4:=zA hbl a4;replace a5:=zA hbl a5;replace a6:=zA hbl a6;replace a7:=zA hbl a7;replace a8:=zA hbl a8;replace a9:=zA hbl a9;replace a10:=zA hbl a10;replace a11:=zA hbl a11;replace a12:=zA hbl a12
   have HT1:Hid ((l.take (k+1)).map (fun s=>s.id)=(l.take k).map (fun s=>s.id)++[(l[k]).id]):=by
    show _=_;rw[List.take_succ_eq_append_getElem hlt,List.map_append];rfl
   have HT2:Hid ((l.take (k+1)).map (fun s=>s.name)=(l.take k).map (fun s=>s.name)++[(l[k]).name]):=by
    show _=_;rw[List.take_succ_eq_append_getElem hlt,List.map_append];rfl
   have HLN:Hid (k+1≤879609302220):=by have:=HLM.out;unfold Lim at this;show _≤_;omega
   have HST:=zh (fun h=>mems_stop (rec:=true) hlt h)
   have h1:(0:Int)≤(k:Int):=by omega
   have h2:(k:Int)<(l.length:Int):=by omega
   have hz1:=zN a0;simp only at hz1;have HOA1:=zh (OwnL.alloc hh.out.o1 ((l[k]).box A1 c1 A2 c2 A3 c3));have HOA2:=zh (OwnL.alloc hh.out.o2 ((l[k]).box A1 c1 A2 c2 A3 c3));have HBA:=zh (hh.out.bel.alloc hh.out.bel.size ((l[k]).box A1 c1 A2 c2 A3 c3));have HBS:Hid (w1.heap.size≤(wo.alloc ((l[k]).box A1 c1 A2 c2 A3 c3)).heap.size):=by have:=hh.out.bel.size;show _≤_;simp;omega
   have HX:Hid (MBox (wo.alloc ((l[k]).box A1 c1 A2 c2 A3 c3)) wo.heap.size l[k] A1 c1 A2 c2 A3 c3):=heap_alloc_new wo ((l[k]).box A1 c1 A2 c2 A3 c3);clear hbl;go_upto_region 6 with fail
   go_cut [3,4] (fun s3 s4 wx=>Hid (OwnI wx w1.heap.size s3 ((l.take k).map (fun s=>s.id)++[(l[k]).id])∧OwnS wx w1.heap.size s4 ((l.take k).map (fun s=>s.name)++[(l[k]).name])∧Below w1.heap.size w1 wx∧MBox wx wo.heap.size l[k] A1 c1 A2 c2 A3 c3))
   case first =>
    generalize wo.alloc ((l[k]).box A1 c1 A2 c2 A3 c3)=wc at *;clear a0 a1 a2 a3 a4 a5 a6 a7 a8 a9 a10 a11 a12;refine wp_region_held_drew (S:=(fun w'=>(w'.cell? ⟨wo.heap.size,0,none⟩=some (.int .i64 (l[k]).id)∧w'.cell? ⟨wo.heap.size,1,none⟩=some (.string (l[k]).name))∧Hid (MBox w' wo.heap.size l[k] A1 c1 A2 c2 A3 c3))) (by kernel_rfl) ?_ (fun zH_=>?_)
    ·(try dsimp only);exact yI (W:=wc.drew) HX.out
    (have HO1:Hid (OwnI wc.drew w1.heap.size u3 ((l.take k).map fun s=>s.id)):=OwnL.below HOA1.out (zC (Below.refl _ _) 1);have HO2:Hid (OwnS wc.drew w1.heap.size u4 ((l.take k).map fun s=>s.name)):=OwnL.below HOA2.out (zC (Below.refl _ _) 1);have HBB:Hid (Below w1.heap.size w1 wc.drew∧w1.heap.size≤wc.drew.heap.size):=And.intro (zC HBA.out 1) HBS.out;clear HOA1 HOA2 HBA HBS HX;generalize wc.drew=wd at *)
    refine tL 0 ?_;refine tL 1 ?_;refine tL 2 ?_;refine tL 5 ?_;refine tL 6 ?_;refine tL 7 ?_;try simp only[ps]
    refine wpAnyH_ready (rs:=[3,8]) (by kernel_rfl) (by simp) ?_
    refine (AllReadyH.cons rfl (fun K hK=>?_) (AllReadyH.cons rfl (fun K hK=>?_) AllReadyH.nil))
    ·
     go_simp
     refine hK.out _ _ ?_ (fun zH_=>?_)
     ·(try dsimp only);exact yI (yG zH_.2.out _)
     clear hK K;refine wpAnyH_ready (rs:=[4,8]) (by kernel_rfl) (by simp) ?_
     refine (AllReadyH.cons rfl (fun K hK=>?_) (AllReadyH.cons rfl (fun K hK=>?_) AllReadyH.nil))
     ·
      (refine zQ yF (by rfl) (.tmp 14) (.tmp 17) (by rfl) w1.heap.size u3 _ _ (by rfl) (OwnL.alloc HO1.out (.cells #[.int .i64 (l[k]).id] 3)) wd.heap.size 0 1 1 [.int .i64 (l[k]).id] (by rfl) rfl (yR (tmp_sz (heap_alloc_new wd (.cells #[.int .i64 (l[k]).id] 3)) (by simp))) (by simp[Value.oneCell']) (by have:=HLN.out;simp;omega) (by have:=HLN.out;simp;omega) (zM HBB.out (.cells #[.int .i64 (l[k]).id] 3)).2 ?_;intro vq1 wq1 ho1 hg1)
      refine hK.out _ _ ?_ (fun zH_=>?_)
      ·(try dsimp only);exact yI (yA zH_.2.out (OwnL.alloc HO1.out _) (by decide) hg1)
      clear hK K;refine tR 8 (fun K hK=>?_)
      go_simp
      refine hK.out _ _ ?_ (fun zH_=>?_)
      ·(try dsimp only);exact yI (yG zH_.2.out _)
      clear hK K;refine tR 9 (fun K hK=>?_)
      (refine zQ elem_str (by rfl) (.tmp 19) (.tmp 22) (by rfl) w1.heap.size u4 _ _ (by rfl) (OwnL.alloc (OwnL.other (OwnL.alloc HO2.out (.cells #[.int .i64 (l[k]).id] 3)) (OwnL.alloc HO1.out (.cells #[.int .i64 (l[k]).id] 3)) (by decide) hg1) (.cells #[.string (l[k]).name] 9)) wq1.heap.size 0 1 1 [.string (l[k]).name] (by rfl) rfl (yR (tmp_sz (heap_alloc_new wq1 (.cells #[.string (l[k]).name] 9)) (by simp))) (by simp[Value.oneCell']) (by have:=HLN.out;simp;omega) (by have:=HLN.out;simp;omega) (zM (zX (zM HBB.out (.cells #[.int .i64 (l[k]).id] 3)) (OwnL.alloc HO1.out (.cells #[.int .i64 (l[k]).id] 3)) hg1) (.cells #[.string (l[k]).name] 9)).2 ?_;intro vq2 wq2 ho2 hg2)
      refine hK.out _ _ ?_ (fun zH_=>?_)
      ·(try dsimp only);exact yI (yA zH_.2.out (OwnL.alloc (OwnL.other (OwnL.alloc HO2.out _) (OwnL.alloc HO1.out _) (by decide) hg1) _) (by decide) hg2)
      clear hK K;refine tL 10 ?_;refine tL 11 ?_;try simp only[ps]
      refine wpAnyH_done (by kernel_rfl) ?_ _
      (have HE1:=zh (OwnL.other (OwnL.alloc (OwnL.snoc (x:=(l[k]).id) ho1) (.cells #[.string (l[k]).name] 9)) (OwnL.alloc (OwnL.other (OwnL.alloc HO2.out (.cells #[.int .i64 (l[k]).id] 3)) (OwnL.alloc HO1.out (.cells #[.int .i64 (l[k]).id] 3)) (by decide) hg1) (.cells #[.string (l[k]).name] 9)) (by decide) hg2);have HE2:=zh (OwnL.snoc (x:=(l[k]).name) ho2);have HEB:=zh (zX (zM (zX (zM HBB.out (.cells #[.int .i64 (l[k]).id] 3)) (OwnL.alloc HO1.out (.cells #[.int .i64 (l[k]).id] 3)) hg1) (.cells #[.string (l[k]).name] 9)) (OwnL.alloc (OwnL.other (OwnL.alloc HO2.out (.cells #[.int .i64 (l[k]).id] 3)) (OwnL.alloc HO1.out (.cells #[.int .i64 (l[k]).id] 3)) (by decide) hg1) (.cells #[.string (l[k]).name] 9)) hg2).1;(go_wp2_with fail;go_meet;exact ⟨HE1.out,HE2.out,HEB.out,zH_.2.out⟩))
     ·
      go_simp
      refine hK.out _ _ ?_ (fun zH_=>?_)
      ·(try dsimp only);exact yI (yG zH_.2.out _)
      clear hK K;refine tR 4 (fun K hK=>?_)
      (refine zQ yF (by rfl) (.tmp 14) (.tmp 17) (by rfl) w1.heap.size u3 _ _ (by rfl) (OwnL.alloc (OwnL.alloc HO1.out (.cells #[.int .i64 (l[k]).id] 3)) (.cells #[.string (l[k]).name] 9)) wd.heap.size 0 1 1 [.int .i64 (l[k]).id] (by rfl) rfl (yR (tmp_sz (yG (heap_alloc_new wd (.cells #[.int .i64 (l[k]).id] 3)) (.cells #[.string (l[k]).name] 9)) (by simp))) (by simp[Value.oneCell']) (by have:=HLN.out;simp;omega) (by have:=HLN.out;simp;omega) (zM (zM HBB.out (.cells #[.int .i64 (l[k]).id] 3)) (.cells #[.string (l[k]).name] 9)).2 ?_;intro vq1 wq1 ho1 hg1)
      refine hK.out _ _ ?_ (fun zH_=>?_)
      ·(try dsimp only);exact yI (yA zH_.2.out (OwnL.alloc (OwnL.alloc HO1.out _) _) (by decide) hg1)
      clear hK K;refine tR 9 (fun K hK=>?_)
      (refine zQ elem_str (by rfl) (.tmp 19) (.tmp 22) (by rfl) w1.heap.size u4 _ _ (by rfl) (OwnL.other (OwnL.alloc (OwnL.alloc HO2.out (.cells #[.int .i64 (l[k]).id] 3)) (.cells #[.string (l[k]).name] 9)) (OwnL.alloc (OwnL.alloc HO1.out (.cells #[.int .i64 (l[k]).id] 3)) (.cells #[.string (l[k]).name] 9)) (by decide) hg1) (wd.heap.size+1) 0 1 1 [.string (l[k]).name] (by rfl) rfl (yR (tmp_sz (yA (heap_alloc_new (World.alloc wd (.cells #[.int .i64 (l[k]).id] 3)) (.cells #[.string (l[k]).name] 9)) (OwnL.alloc (OwnL.alloc HO1.out (.cells #[.int .i64 (l[k]).id] 3)) (.cells #[.string (l[k]).name] 9)) (by decide) hg1) (by simp))) (by simp[Value.oneCell']) (by have:=HLN.out;simp;omega) (by have:=HLN.out;simp;omega) (zX (zM (zM HBB.out (.cells #[.int .i64 (l[k]).id] 3)) (.cells #[.string (l[k]).name] 9)) (OwnL.alloc (OwnL.alloc HO1.out (.cells #[.int .i64 (l[k]).id] 3)) (.cells #[.string (l[k]).name] 9)) hg1).2 ?_;intro vq2 wq2 ho2 hg2)
      refine hK.out _ _ ?_ (fun zH_=>?_)
      ·(try dsimp only);exact yI (yA zH_.2.out (OwnL.other (OwnL.alloc (OwnL.alloc HO2.out _) _) (OwnL.alloc (OwnL.alloc HO1.out _) _) (by decide) hg1) (by decide) hg2)
      clear hK K;refine tL 10 ?_;refine tL 11 ?_;refine wpAnyH_done (by kernel_rfl) ?_ _
      (have HE1:=zh (OwnL.other (OwnL.snoc (x:=(l[k]).id) ho1) (OwnL.other (OwnL.alloc (OwnL.alloc HO2.out (.cells #[.int .i64 (l[k]).id] 3)) (.cells #[.string (l[k]).name] 9)) (OwnL.alloc (OwnL.alloc HO1.out (.cells #[.int .i64 (l[k]).id] 3)) (.cells #[.string (l[k]).name] 9)) (by decide) hg1) (by decide) hg2);have HE2:=zh (OwnL.snoc (x:=(l[k]).name) ho2);have HEB:=zh (zX (zX (zM (zM HBB.out (.cells #[.int .i64 (l[k]).id] 3)) (.cells #[.string (l[k]).name] 9)) (OwnL.alloc (OwnL.alloc HO1.out (.cells #[.int .i64 (l[k]).id] 3)) (.cells #[.string (l[k]).name] 9)) hg1) (OwnL.other (OwnL.alloc (OwnL.alloc HO2.out (.cells #[.int .i64 (l[k]).id] 3)) (.cells #[.string (l[k]).name] 9)) (OwnL.alloc (OwnL.alloc HO1.out (.cells #[.int .i64 (l[k]).id] 3)) (.cells #[.string (l[k]).name] 9)) (by decide) hg1) hg2).1;(go_wp2_with fail;go_meet;exact ⟨HE1.out,HE2.out,HEB.out,zH_.2.out⟩))
    ·
     go_simp
     refine hK.out _ _ ?_ (fun zH_=>?_)
     ·(try dsimp only);exact yI (yG zH_.2.out _)
     clear hK K;try simp only[ps]
     refine tR 3 (fun K hK=>?_)
     go_simp
     refine hK.out _ _ ?_ (fun zH_=>?_)
     ·(try dsimp only);exact yI (yG zH_.2.out _)
     clear hK K;refine tR 4 (fun K hK=>?_)
     (refine zQ yF (by rfl) (.tmp 14) (.tmp 17) (by rfl) w1.heap.size u3 _ _ (by rfl) (OwnL.alloc (OwnL.alloc HO1.out (.cells #[.string (l[k]).name] 9)) (.cells #[.int .i64 (l[k]).id] 3)) (wd.heap.size+1) 0 1 1 [.int .i64 (l[k]).id] (by rfl) rfl (yR (tmp_sz (heap_alloc_new (World.alloc wd (.cells #[.string (l[k]).name] 9)) (.cells #[.int .i64 (l[k]).id] 3)) (by simp))) (by simp[Value.oneCell']) (by have:=HLN.out;simp;omega) (by have:=HLN.out;simp;omega) (zM (zM HBB.out (.cells #[.string (l[k]).name] 9)) (.cells #[.int .i64 (l[k]).id] 3)).2 ?_;intro vq1 wq1 ho1 hg1)
     refine hK.out _ _ ?_ (fun zH_=>?_)
     ·(try dsimp only);exact yI (yA zH_.2.out (OwnL.alloc (OwnL.alloc HO1.out _) _) (by decide) hg1)
     clear hK K;refine tR 9 (fun K hK=>?_)
     (refine zQ elem_str (by rfl) (.tmp 19) (.tmp 22) (by rfl) w1.heap.size u4 _ _ (by rfl) (OwnL.other (OwnL.alloc (OwnL.alloc HO2.out (.cells #[.string (l[k]).name] 9)) (.cells #[.int .i64 (l[k]).id] 3)) (OwnL.alloc (OwnL.alloc HO1.out (.cells #[.string (l[k]).name] 9)) (.cells #[.int .i64 (l[k]).id] 3)) (by decide) hg1) wd.heap.size 0 1 1 [.string (l[k]).name] (by rfl) rfl (yR (tmp_sz (yA (yG (heap_alloc_new wd (.cells #[.string (l[k]).name] 9)) (.cells #[.int .i64 (l[k]).id] 3)) (OwnL.alloc (OwnL.alloc HO1.out (.cells #[.string (l[k]).name] 9)) (.cells #[.int .i64 (l[k]).id] 3)) (by decide) hg1) (by simp))) (by simp[Value.oneCell']) (by have:=HLN.out;simp;omega) (by have:=HLN.out;simp;omega) (zX (zM (zM HBB.out (.cells #[.string (l[k]).name] 9)) (.cells #[.int .i64 (l[k]).id] 3)) (OwnL.alloc (OwnL.alloc HO1.out (.cells #[.string (l[k]).name] 9)) (.cells #[.int .i64 (l[k]).id] 3)) hg1).2 ?_;intro vq2 wq2 ho2 hg2)
     refine hK.out _ _ ?_ (fun zH_=>?_)
     ·(try dsimp only);exact yI (yA zH_.2.out (OwnL.other (OwnL.alloc (OwnL.alloc HO2.out _) _) (OwnL.alloc (OwnL.alloc HO1.out _) _) (by decide) hg1) (by decide) hg2)
     clear hK K;refine tL 10 ?_;refine tL 11 ?_;refine wpAnyH_done (by kernel_rfl) ?_ _
     (have HE1:=zh (OwnL.other (OwnL.snoc (x:=(l[k]).id) ho1) (OwnL.other (OwnL.alloc (OwnL.alloc HO2.out (.cells #[.string (l[k]).name] 9)) (.cells #[.int .i64 (l[k]).id] 3)) (OwnL.alloc (OwnL.alloc HO1.out (.cells #[.string (l[k]).name] 9)) (.cells #[.int .i64 (l[k]).id] 3)) (by decide) hg1) (by decide) hg2);have HE2:=zh (OwnL.snoc (x:=(l[k]).name) ho2);have HEB:=zh (zX (zX (zM (zM HBB.out (.cells #[.string (l[k]).name] 9)) (.cells #[.int .i64 (l[k]).id] 3)) (OwnL.alloc (OwnL.alloc HO1.out (.cells #[.string (l[k]).name] 9)) (.cells #[.int .i64 (l[k]).id] 3)) hg1) (OwnL.other (OwnL.alloc (OwnL.alloc HO2.out (.cells #[.string (l[k]).name] 9)) (.cells #[.int .i64 (l[k]).id] 3)) (OwnL.alloc (OwnL.alloc HO1.out (.cells #[.string (l[k]).name] 9)) (.cells #[.int .i64 (l[k]).id] 3)) (by decide) hg1) hg2).1;(go_wp2_with fail;go_meet;exact ⟨HE1.out,HE2.out,HEB.out,zH_.2.out⟩))
   case rest =>
    obtain ⟨HE1,HE2,HEB,HEX⟩:=hcut.out;have HE1:=zh HE1;have HE2:=zh HE2;have m3:=HEX.cell 3;have m4:=HEX.cell 4;have m5:=HEX.cell 5;have m6:=HEX.cell 6;have m7:=HEX.cell 7;have m8:=HEX.cell 8;have m9:=HEX.cell 9;have m10:=HEX.cell 10;have m11:=HEX.cell 11;have m12:=HEX.cell 12;simp only[List.getElem?_toArray,List.getElem?_cons_succ,List.getElem?_cons_zero] at m3 m4 m5 m6 m7 m8 m9 m10 m11 m12
    have kc:=zA HEB HK1.out;have HEB:=zh HEB;have HRX:=zh (HR.out.below HEB.out);have HMO:=zh (show memOk true l[k]=((true || !((l[k]).critical||(l[k]).hasDef)) && !((l[k]).critical&&(l[k]).hasDef)&&((l[k]).hasDef||decide ((l[k]).dflt=zeroV))) from rfl);clear hcut HEX a0 a1 a2 a3 a4 a5 a6 a7 a8 a9 a10 a11 a12 HOA1 HOA2 HBA HBS HX;generalize (l[k]).critical=cr at *;generalize (l[k]).hasDef=hd at *
    cases cr <;> cases hd
    ·by_cases hb:(l[k]).dflt=zeroV
     ·have HOK:Hid (memOk true l[k]=true):=by show _=_;rw[HMO.out,decide_eq_true hb];simp
      have HD:=zh (decide_eq_true hb);clear HST HMO hb;go_wp2_with fail;refine (blank_any (l[k]).dflt A1 c1 A2 c2 A3 c3 _ HRX.out.dflt).mono ?_;rintro e w7 ⟨rfl,hb7⟩;rw[HD.out];have HB7:=zh hb7;clear hb7;go_wp2;go_roundw
      case rel =>
       refine ⟨k+1,by omega,by go_num,⟨(by rw[HT1.out];exact (HE1.out.below HB7.out)),(by rw[HT2.out];exact (HE2.out.below HB7.out)),(zB HEB.out HB7.out)⟩,fun j hj hjk=>?_⟩
       by_cases e:j=k
       ·subst e;exact HOK.out
       ·exact HAL.out j hj (by omega)
      case measure=>simp[intOf];omega
     ·have HF:=zh (HST.out (by rw[HMO.out,decide_eq_false hb];simp))
      have HD:=zh (decide_eq_false hb);clear HST HMO hb;go_wp2_with fail;refine (blank_any (l[k]).dflt A1 c1 A2 c2 A3 c3 _ HRX.out.dflt).mono ?_;rintro e w7 ⟨rfl,hb7⟩;rw[HD.out];go_wp2;go_ret;exact ⟨by rw[HF.out];rfl,zB (zB HB1.out HEB.out) hb7⟩
    ·have HOK:Hid (memOk true l[k]=true):=by show _=_;rw[HMO.out];simp
     clear HST HMO;go_wp2;go_roundw
     case rel =>
      refine ⟨k+1,by omega,by go_num,⟨(by rw[HT1.out];exact HE1.out),(by rw[HT2.out];exact HE2.out),HEB.out⟩,fun j hj hjk=>?_⟩
      by_cases e:j=k
      ·subst e;exact HOK.out
      ·exact HAL.out j hj (by omega)
     case measure=>simp[intOf];omega
    ·by_cases hb:(l[k]).dflt=zeroV
     ·have HOK:Hid (memOk true l[k]=true):=by show _=_;rw[HMO.out,decide_eq_true hb];simp
      have HD:=zh (decide_eq_true hb);clear HST HMO hb;go_wp2_with fail;refine (blank_any (l[k]).dflt A1 c1 A2 c2 A3 c3 _ HRX.out.dflt).mono ?_;rintro e w7 ⟨rfl,hb7⟩;rw[HD.out];have HB7:=zh hb7;clear hb7;go_wp2;go_roundw
      case rel =>
       refine ⟨k+1,by omega,by go_num,⟨(by rw[HT1.out];exact (HE1.out.below HB7.out)),(by rw[HT2.out];exact (HE2.out.below HB7.out)),(zB HEB.out HB7.out)⟩,fun j hj hjk=>?_⟩
       by_cases e:j=k
       ·subst e;exact HOK.out
       ·exact HAL.out j hj (by omega)
      case measure=>simp[intOf];omega
     ·have HF:=zh (HST.out (by rw[HMO.out,decide_eq_false hb];simp))
      have HD:=zh (decide_eq_false hb);clear HST HMO hb;go_wp2_with fail;refine (blank_any (l[k]).dflt A1 c1 A2 c2 A3 c3 _ HRX.out.dflt).mono ?_;rintro e w7 ⟨rfl,hb7⟩;rw[HD.out];go_wp2;go_ret;exact ⟨by rw[HF.out];rfl,zB (zB HB1.out HEB.out) hb7⟩
    ·have HD:=zh (HST.out (by rw[HMO.out];simp))
     clear HST HMO;go_wp2;go_ret;exact ⟨by rw[HD.out];rfl,zB HB1.out HEB.out⟩
  ·have hh':=hh.out
   rw[List.take_of_length_le (by omega)] at hh'
   have HS:=zh hh';have HD0:=zh (mems_all (rec:=true) fun j hj=>HAL.out j hj (by omega))
   have kc:=zA hh'.bel HK1.out;obtain ⟨A3,c3,e3,hn3,_⟩:=hh'.o1.reads;rw[List.length_map] at e3 hn3;subst e3;obtain ⟨A4,c4,e4,hn4,_⟩:=hh'.o2.reads;rw[List.length_map] at e4 hn4;subst e4;clear hh';have HD:=zh (show memsD true l=idsD (l.map fun s=>(s.id,s.name)) by rw[HD0.out];simp)
   go_wp2_with fail
   refine (ids_own (l:=l.map fun s=>(s.id,s.name)) (by simp) (by simp) HS.out (by have:=HLM.out;unfold Lim at *;rw[List.length_map];omega) (by intro s hs;obtain ⟨x,hx,rfl⟩:=List.mem_map.1 hs;exact HM1.out.name_ok x hx)).mono ?_
   rintro e w2 ⟨rfl,hb2⟩;go_wp2;go_ret;exact ⟨by rw[HD.out];rfl,zB (zB HB1.out HS.out.bel) hb2⟩
theorem mems6_any (t:TyD) (hkind:t.kind=6) (As:zo) (cs:Nat) (Am:zo) (cm:Nat) (w:World) (ht:TyR w t As Am) :
  Calls Tryz.prog 105 #[t.v As cs Am cm] w (SamePost (memsD false t.mems) w):=by
 have hn:=ht.mems.1.lt (by omega)
 have HLM:=zh ht.mems.1;have HV:Hid (t.v As cs Am cm = .agg #[.int .i64 6,.string t.name,.int .i64 t.low,.int .i64 t.high,.int .i64 t.max,.slice As t.syms.length cs,.slice Am t.mems.length cm,.int .i64 t.key,.int .i64 t.elem,.bool t.open_]):=by show _=_;rw[←hkind]
 rw[HV.out];generalize hl:t.mems=l at *;have HM:Hid (MemsR w Am l):=by rw[←hl];exact ht.mems
 clear ht hkind hl HV
 go_enter Tryz.func105,Tryz.ntmps105
 go_wp2
 have HM1:=zh (HM.out.below (zD w (.cells #[.int .i64 6,.string t.name,.int .i64 t.low,.int .i64 t.high,.int .i64 t.max,.slice As t.syms.length cs,.slice Am l.length cm,.int .i64 t.key,.int .i64 t.elem,.bool t.open_] 50)))
 have HB1:=zh (zD w (.cells #[.int .i64 6,.string t.name,.int .i64 t.low,.int .i64 t.high,.int .i64 t.max,.slice As t.syms.length cs,.slice Am l.length cm,.int .i64 t.key,.int .i64 t.elem,.bool t.open_] 50))
 have HK1:Hid ((w.alloc (.cells #[.int .i64 6,.string t.name,.int .i64 t.low,.int .i64 t.high,.int .i64 t.max,.slice As t.syms.length cs,.slice Am l.length cm,.int .i64 t.key,.int .i64 t.elem,.bool t.open_] 50)).cell? ⟨w.heap.size,0,none⟩=some (.int .i64 6)):=by show _=_;rw[cell_of_row _ _ _ _ _ _ (heap_alloc_new w _)];rfl
 generalize (w.alloc (.cells #[.int .i64 6,.string t.name,.int .i64 t.low,.int .i64 t.high,.int .i64 t.max,.slice As t.syms.length cs,.slice Am l.length cm,.int .i64 t.key,.int .i64 t.elem,.bool t.open_] 50))=w1 at *
 go_loopw [10,3,4] (fun i a b wr=>∃k:Nat,k≤l.length∧i = .int .i64 k∧Hid (RwSt ((l.take k).map fun s=>s.id) ((l.take k).map fun s=>s.name) w1 a b wr∧∀j (hj:j<l.length),j<k→memOk false l[j]=true)) (fun i _ _ _=>l.length - (intOf i).toNat)
 case atStart=>exact ⟨0,by omega,rfl,⟨OwnL.nil _ _,OwnL.nil _ _,Below.refl _ _⟩,fun j _ h=>absurd h (by omega)⟩
 case round =>
  obtain ⟨k,hk,rfl,hh0⟩:=hrel;obtain ⟨wo,rfl⟩:∃wo:World,wo=wr:=⟨_,rfl⟩;have HAL:=zh hh0.out.2;have hh:=zh hh0.out.1;clear hh0
  by_cases hlt:k<l.length
  ·obtain ⟨b,o,A1,c1,A2,c2,A3,c3,rfl,hr1,a0,a1,a2,a3,a4,a5,a6,a7,a8,a9,a10,a11,a12⟩:=HM1.out.at13 hlt
   have HR:=zh hr1;clear hr1;have hbl:=hh.out.bel;replace a0:=zA hbl a0;replace a1:=zA hbl a1;replace a2:=zA hbl a2;replace a3:=zA hbl a3;replace a4:=zA hbl a4;replace a5:=zA hbl a5;replace a6:=zA hbl a6;replace a7:=zA hbl a7;replace a8:=zA hbl a8;replace a9:=zA hbl a9;replace a10:=zA hbl a10;replace a11:=zA hbl a11;replace a12:=zA hbl a12
   have HT1:Hid ((l.take (k+1)).map (fun s=>s.id)=(l.take k).map (fun s=>s.id)++[(l[k]).id]):=by
    show _=_;rw[List.take_succ_eq_append_getElem hlt,List.map_append];rfl
   have HT2:Hid ((l.take (k+1)).map (fun s=>s.name)=(l.take k).map (fun s=>s.name)++[(l[k]).name]):=by
    show _=_;rw[List.take_succ_eq_append_getElem hlt,List.map_append];rfl
   have HLN:Hid (k+1≤879609302220):=by have:=HLM.out;unfold Lim at this;show _≤_;omega
   have HST:=zh (fun h=>mems_stop (rec:=false) hlt h)
   have h1:(0:Int)≤(k:Int):=by omega
   have h2:(k:Int)<(l.length:Int):=by omega
   have hz1:=zN a0;simp only at hz1;have HOA1:=zh (OwnL.alloc hh.out.o1 ((l[k]).box A1 c1 A2 c2 A3 c3));have HOA2:=zh (OwnL.alloc hh.out.o2 ((l[k]).box A1 c1 A2 c2 A3 c3));have HBA:=zh (hh.out.bel.alloc hh.out.bel.size ((l[k]).box A1 c1 A2 c2 A3 c3));have HBS:Hid (w1.heap.size≤(wo.alloc ((l[k]).box A1 c1 A2 c2 A3 c3)).heap.size):=by have:=hh.out.bel.size;show _≤_;simp;omega
   have HX:Hid (MBox (wo.alloc ((l[k]).box A1 c1 A2 c2 A3 c3)) wo.heap.size l[k] A1 c1 A2 c2 A3 c3):=heap_alloc_new wo ((l[k]).box A1 c1 A2 c2 A3 c3);clear hbl;go_upto_region 6 with fail
   go_cut [3,4] (fun s3 s4 wx=>Hid (OwnI wx w1.heap.size s3 ((l.take k).map (fun s=>s.id)++[(l[k]).id])∧OwnS wx w1.heap.size s4 ((l.take k).map (fun s=>s.name)++[(l[k]).name])∧Below w1.heap.size w1 wx∧MBox wx wo.heap.size l[k] A1 c1 A2 c2 A3 c3))
   case first =>
    generalize wo.alloc ((l[k]).box A1 c1 A2 c2 A3 c3)=wc at *;clear a0 a1 a2 a3 a4 a5 a6 a7 a8 a9 a10 a11 a12;refine wp_region_held_drew (S:=(fun w'=>(w'.cell? ⟨wo.heap.size,0,none⟩=some (.int .i64 (l[k]).id)∧w'.cell? ⟨wo.heap.size,1,none⟩=some (.string (l[k]).name))∧Hid (MBox w' wo.heap.size l[k] A1 c1 A2 c2 A3 c3))) (by kernel_rfl) ?_ (fun zH_=>?_)
    ·(try dsimp only);exact yI (W:=wc.drew) HX.out
    (have HO1:Hid (OwnI wc.drew w1.heap.size u3 ((l.take k).map fun s=>s.id)):=OwnL.below HOA1.out (zC (Below.refl _ _) 1);have HO2:Hid (OwnS wc.drew w1.heap.size u4 ((l.take k).map fun s=>s.name)):=OwnL.below HOA2.out (zC (Below.refl _ _) 1);have HBB:Hid (Below w1.heap.size w1 wc.drew∧w1.heap.size≤wc.drew.heap.size):=And.intro (zC HBA.out 1) HBS.out;clear HOA1 HOA2 HBA HBS HX;generalize wc.drew=wd at *)
    refine tL 0 ?_;refine tL 1 ?_;refine tL 2 ?_;refine tL 5 ?_;refine tL 6 ?_;refine tL 7 ?_;try simp only[ps]
    refine wpAnyH_ready (rs:=[3,8]) (by kernel_rfl) (by simp) ?_
    refine (AllReadyH.cons rfl (fun K hK=>?_) (AllReadyH.cons rfl (fun K hK=>?_) AllReadyH.nil))
    ·
     go_simp
     refine hK.out _ _ ?_ (fun zH_=>?_)
     ·(try dsimp only);exact yI (yG zH_.2.out _)
     clear hK K;refine wpAnyH_ready (rs:=[4,8]) (by kernel_rfl) (by simp) ?_
     refine (AllReadyH.cons rfl (fun K hK=>?_) (AllReadyH.cons rfl (fun K hK=>?_) AllReadyH.nil))
     ·
      (refine zQ yF (by rfl) (.tmp 14) (.tmp 17) (by rfl) w1.heap.size u3 _ _ (by rfl) (OwnL.alloc HO1.out (.cells #[.int .i64 (l[k]).id] 3)) wd.heap.size 0 1 1 [.int .i64 (l[k]).id] (by rfl) rfl (yR (tmp_sz (heap_alloc_new wd (.cells #[.int .i64 (l[k]).id] 3)) (by simp))) (by simp[Value.oneCell']) (by have:=HLN.out;simp;omega) (by have:=HLN.out;simp;omega) (zM HBB.out (.cells #[.int .i64 (l[k]).id] 3)).2 ?_;intro vq1 wq1 ho1 hg1)
      refine hK.out _ _ ?_ (fun zH_=>?_)
      ·(try dsimp only);exact yI (yA zH_.2.out (OwnL.alloc HO1.out _) (by decide) hg1)
      clear hK K;refine tR 8 (fun K hK=>?_)
      go_simp
      refine hK.out _ _ ?_ (fun zH_=>?_)
      ·(try dsimp only);exact yI (yG zH_.2.out _)
      clear hK K;refine tR 9 (fun K hK=>?_)
      (refine zQ elem_str (by rfl) (.tmp 19) (.tmp 22) (by rfl) w1.heap.size u4 _ _ (by rfl) (OwnL.alloc (OwnL.other (OwnL.alloc HO2.out (.cells #[.int .i64 (l[k]).id] 3)) (OwnL.alloc HO1.out (.cells #[.int .i64 (l[k]).id] 3)) (by decide) hg1) (.cells #[.string (l[k]).name] 9)) wq1.heap.size 0 1 1 [.string (l[k]).name] (by rfl) rfl (yR (tmp_sz (heap_alloc_new wq1 (.cells #[.string (l[k]).name] 9)) (by simp))) (by simp[Value.oneCell']) (by have:=HLN.out;simp;omega) (by have:=HLN.out;simp;omega) (zM (zX (zM HBB.out (.cells #[.int .i64 (l[k]).id] 3)) (OwnL.alloc HO1.out (.cells #[.int .i64 (l[k]).id] 3)) hg1) (.cells #[.string (l[k]).name] 9)).2 ?_;intro vq2 wq2 ho2 hg2)
      refine hK.out _ _ ?_ (fun zH_=>?_)
      ·(try dsimp only);exact yI (yA zH_.2.out (OwnL.alloc (OwnL.other (OwnL.alloc HO2.out _) (OwnL.alloc HO1.out _) (by decide) hg1) _) (by decide) hg2)
      clear hK K;refine tL 10 ?_;refine tL 11 ?_;try simp only[ps]
      refine wpAnyH_done (by kernel_rfl) ?_ _
      (have HE1:=zh (OwnL.other (OwnL.alloc (OwnL.snoc (x:=(l[k]).id) ho1) (.cells #[.string (l[k]).name] 9)) (OwnL.alloc (OwnL.other (OwnL.alloc HO2.out (.cells #[.int .i64 (l[k]).id] 3)) (OwnL.alloc HO1.out (.cells #[.int .i64 (l[k]).id] 3)) (by decide) hg1) (.cells #[.string (l[k]).name] 9)) (by decide) hg2);have HE2:=zh (OwnL.snoc (x:=(l[k]).name) ho2);have HEB:=zh (zX (zM (zX (zM HBB.out (.cells #[.int .i64 (l[k]).id] 3)) (OwnL.alloc HO1.out (.cells #[.int .i64 (l[k]).id] 3)) hg1) (.cells #[.string (l[k]).name] 9)) (OwnL.alloc (OwnL.other (OwnL.alloc HO2.out (.cells #[.int .i64 (l[k]).id] 3)) (OwnL.alloc HO1.out (.cells #[.int .i64 (l[k]).id] 3)) (by decide) hg1) (.cells #[.string (l[k]).name] 9)) hg2).1;(go_wp2_with fail;go_meet;exact ⟨HE1.out,HE2.out,HEB.out,zH_.2.out⟩))
     ·
      go_simp
      refine hK.out _ _ ?_ (fun zH_=>?_)
      ·(try dsimp only);exact yI (yG zH_.2.out _)
      clear hK K;refine tR 4 (fun K hK=>?_)
      (refine zQ yF (by rfl) (.tmp 14) (.tmp 17) (by rfl) w1.heap.size u3 _ _ (by rfl) (OwnL.alloc (OwnL.alloc HO1.out (.cells #[.int .i64 (l[k]).id] 3)) (.cells #[.string (l[k]).name] 9)) wd.heap.size 0 1 1 [.int .i64 (l[k]).id] (by rfl) rfl (yR (tmp_sz (yG (heap_alloc_new wd (.cells #[.int .i64 (l[k]).id] 3)) (.cells #[.string (l[k]).name] 9)) (by simp))) (by simp[Value.oneCell']) (by have:=HLN.out;simp;omega) (by have:=HLN.out;simp;omega) (zM (zM HBB.out (.cells #[.int .i64 (l[k]).id] 3)) (.cells #[.string (l[k]).name] 9)).2 ?_;intro vq1 wq1 ho1 hg1)
      refine hK.out _ _ ?_ (fun zH_=>?_)
      ·(try dsimp only);exact yI (yA zH_.2.out (OwnL.alloc (OwnL.alloc HO1.out _) _) (by decide) hg1)
      clear hK K;refine tR 9 (fun K hK=>?_)
      (refine zQ elem_str (by rfl) (.tmp 19) (.tmp 22) (by rfl) w1.heap.size u4 _ _ (by rfl) (OwnL.other (OwnL.alloc (OwnL.alloc HO2.out (.cells #[.int .i64 (l[k]).id] 3)) (.cells #[.string (l[k]).name] 9)) (OwnL.alloc (OwnL.alloc HO1.out (.cells #[.int .i64 (l[k]).id] 3)) (.cells #[.string (l[k]).name] 9)) (by decide) hg1) (wd.heap.size+1) 0 1 1 [.string (l[k]).name] (by rfl) rfl (yR (tmp_sz (yA (heap_alloc_new (World.alloc wd (.cells #[.int .i64 (l[k]).id] 3)) (.cells #[.string (l[k]).name] 9)) (OwnL.alloc (OwnL.alloc HO1.out (.cells #[.int .i64 (l[k]).id] 3)) (.cells #[.string (l[k]).name] 9)) (by decide) hg1) (by simp))) (by simp[Value.oneCell']) (by have:=HLN.out;simp;omega) (by have:=HLN.out;simp;omega) (zX (zM (zM HBB.out (.cells #[.int .i64 (l[k]).id] 3)) (.cells #[.string (l[k]).name] 9)) (OwnL.alloc (OwnL.alloc HO1.out (.cells #[.int .i64 (l[k]).id] 3)) (.cells #[.string (l[k]).name] 9)) hg1).2 ?_;intro vq2 wq2 ho2 hg2)
      refine hK.out _ _ ?_ (fun zH_=>?_)
      ·(try dsimp only);exact yI (yA zH_.2.out (OwnL.other (OwnL.alloc (OwnL.alloc HO2.out _) _) (OwnL.alloc (OwnL.alloc HO1.out _) _) (by decide) hg1) (by decide) hg2)
      clear hK K;refine tL 10 ?_;refine tL 11 ?_;refine wpAnyH_done (by kernel_rfl) ?_ _
      (have HE1:=zh (OwnL.other (OwnL.snoc (x:=(l[k]).id) ho1) (OwnL.other (OwnL.alloc (OwnL.alloc HO2.out (.cells #[.int .i64 (l[k]).id] 3)) (.cells #[.string (l[k]).name] 9)) (OwnL.alloc (OwnL.alloc HO1.out (.cells #[.int .i64 (l[k]).id] 3)) (.cells #[.string (l[k]).name] 9)) (by decide) hg1) (by decide) hg2);have HE2:=zh (OwnL.snoc (x:=(l[k]).name) ho2);have HEB:=zh (zX (zX (zM (zM HBB.out (.cells #[.int .i64 (l[k]).id] 3)) (.cells #[.string (l[k]).name] 9)) (OwnL.alloc (OwnL.alloc HO1.out (.cells #[.int .i64 (l[k]).id] 3)) (.cells #[.string (l[k]).name] 9)) hg1) (OwnL.other (OwnL.alloc (OwnL.alloc HO2.out (.cells #[.int .i64 (l[k]).id] 3)) (.cells #[.string (l[k]).name] 9)) (OwnL.alloc (OwnL.alloc HO1.out (.cells #[.int .i64 (l[k]).id] 3)) (.cells #[.string (l[k]).name] 9)) (by decide) hg1) hg2).1;(go_wp2_with fail;go_meet;exact ⟨HE1.out,HE2.out,HEB.out,zH_.2.out⟩))
    ·
     go_simp
     refine hK.out _ _ ?_ (fun zH_=>?_)
     ·(try dsimp only);exact yI (yG zH_.2.out _)
     clear hK K;try simp only[ps]
     refine tR 3 (fun K hK=>?_)
     go_simp
     refine hK.out _ _ ?_ (fun zH_=>?_)
     ·(try dsimp only);exact yI (yG zH_.2.out _)
     clear hK K;refine tR 4 (fun K hK=>?_)
     (refine zQ yF (by rfl) (.tmp 14) (.tmp 17) (by rfl) w1.heap.size u3 _ _ (by rfl) (OwnL.alloc (OwnL.alloc HO1.out (.cells #[.string (l[k]).name] 9)) (.cells #[.int .i64 (l[k]).id] 3)) (wd.heap.size+1) 0 1 1 [.int .i64 (l[k]).id] (by rfl) rfl (yR (tmp_sz (heap_alloc_new (World.alloc wd (.cells #[.string (l[k]).name] 9)) (.cells #[.int .i64 (l[k]).id] 3)) (by simp))) (by simp[Value.oneCell']) (by have:=HLN.out;simp;omega) (by have:=HLN.out;simp;omega) (zM (zM HBB.out (.cells #[.string (l[k]).name] 9)) (.cells #[.int .i64 (l[k]).id] 3)).2 ?_;intro vq1 wq1 ho1 hg1)
     refine hK.out _ _ ?_ (fun zH_=>?_)
     ·(try dsimp only);exact yI (yA zH_.2.out (OwnL.alloc (OwnL.alloc HO1.out _) _) (by decide) hg1)
     clear hK K;refine tR 9 (fun K hK=>?_)
     (refine zQ elem_str (by rfl) (.tmp 19) (.tmp 22) (by rfl) w1.heap.size u4 _ _ (by rfl) (OwnL.other (OwnL.alloc (OwnL.alloc HO2.out (.cells #[.string (l[k]).name] 9)) (.cells #[.int .i64 (l[k]).id] 3)) (OwnL.alloc (OwnL.alloc HO1.out (.cells #[.string (l[k]).name] 9)) (.cells #[.int .i64 (l[k]).id] 3)) (by decide) hg1) wd.heap.size 0 1 1 [.string (l[k]).name] (by rfl) rfl (yR (tmp_sz (yA (yG (heap_alloc_new wd (.cells #[.string (l[k]).name] 9)) (.cells #[.int .i64 (l[k]).id] 3)) (OwnL.alloc (OwnL.alloc HO1.out (.cells #[.string (l[k]).name] 9)) (.cells #[.int .i64 (l[k]).id] 3)) (by decide) hg1) (by simp))) (by simp[Value.oneCell']) (by have:=HLN.out;simp;omega) (by have:=HLN.out;simp;omega) (zX (zM (zM HBB.out (.cells #[.string (l[k]).name] 9)) (.cells #[.int .i64 (l[k]).id] 3)) (OwnL.alloc (OwnL.alloc HO1.out (.cells #[.string (l[k]).name] 9)) (.cells #[.int .i64 (l[k]).id] 3)) hg1).2 ?_;intro vq2 wq2 ho2 hg2)
     refine hK.out _ _ ?_ (fun zH_=>?_)
     ·(try dsimp only);exact yI (yA zH_.2.out (OwnL.other (OwnL.alloc (OwnL.alloc HO2.out _) _) (OwnL.alloc (OwnL.alloc HO1.out _) _) (by decide) hg1) (by decide) hg2)
     clear hK K;refine tL 10 ?_;refine tL 11 ?_;refine wpAnyH_done (by kernel_rfl) ?_ _
     (have HE1:=zh (OwnL.other (OwnL.snoc (x:=(l[k]).id) ho1) (OwnL.other (OwnL.alloc (OwnL.alloc HO2.out (.cells #[.string (l[k]).name] 9)) (.cells #[.int .i64 (l[k]).id] 3)) (OwnL.alloc (OwnL.alloc HO1.out (.cells #[.string (l[k]).name] 9)) (.cells #[.int .i64 (l[k]).id] 3)) (by decide) hg1) (by decide) hg2);have HE2:=zh (OwnL.snoc (x:=(l[k]).name) ho2);have HEB:=zh (zX (zX (zM (zM HBB.out (.cells #[.string (l[k]).name] 9)) (.cells #[.int .i64 (l[k]).id] 3)) (OwnL.alloc (OwnL.alloc HO1.out (.cells #[.string (l[k]).name] 9)) (.cells #[.int .i64 (l[k]).id] 3)) hg1) (OwnL.other (OwnL.alloc (OwnL.alloc HO2.out (.cells #[.string (l[k]).name] 9)) (.cells #[.int .i64 (l[k]).id] 3)) (OwnL.alloc (OwnL.alloc HO1.out (.cells #[.string (l[k]).name] 9)) (.cells #[.int .i64 (l[k]).id] 3)) (by decide) hg1) hg2).1;(go_wp2_with fail;go_meet;exact ⟨HE1.out,HE2.out,HEB.out,zH_.2.out⟩))
   case rest =>
    obtain ⟨HE1,HE2,HEB,HEX⟩:=hcut.out;have HE1:=zh HE1;have HE2:=zh HE2;have m3:=HEX.cell 3;have m4:=HEX.cell 4;have m5:=HEX.cell 5;have m6:=HEX.cell 6;have m7:=HEX.cell 7;have m8:=HEX.cell 8;have m9:=HEX.cell 9;have m10:=HEX.cell 10;have m11:=HEX.cell 11;have m12:=HEX.cell 12;simp only[List.getElem?_toArray,List.getElem?_cons_succ,List.getElem?_cons_zero] at m3 m4 m5 m6 m7 m8 m9 m10 m11 m12
    have kc:=zA HEB HK1.out;have HEB:=zh HEB;have HRX:=zh (HR.out.below HEB.out);have HMO:=zh (show memOk false l[k]=((false || !((l[k]).critical||(l[k]).hasDef)) && !((l[k]).critical&&(l[k]).hasDef)&&((l[k]).hasDef||decide ((l[k]).dflt=zeroV))) from rfl);clear hcut HEX a0 a1 a2 a3 a4 a5 a6 a7 a8 a9 a10 a11 a12 HOA1 HOA2 HBA HBS HX;generalize (l[k]).critical=cr at *;generalize (l[k]).hasDef=hd at *
    cases cr <;> cases hd
    ·by_cases hb:(l[k]).dflt=zeroV
     ·have HOK:Hid (memOk false l[k]=true):=by show _=_;rw[HMO.out,decide_eq_true hb];simp
      have HD:=zh (decide_eq_true hb);clear HST HMO hb;go_wp2_with fail;refine (blank_any (l[k]).dflt A1 c1 A2 c2 A3 c3 _ HRX.out.dflt).mono ?_;rintro e w7 ⟨rfl,hb7⟩;rw[HD.out];have HB7:=zh hb7;clear hb7;go_wp2;go_roundw
      case rel =>
       refine ⟨k+1,by omega,by go_num,⟨(by rw[HT1.out];exact (HE1.out.below HB7.out)),(by rw[HT2.out];exact (HE2.out.below HB7.out)),(zB HEB.out HB7.out)⟩,fun j hj hjk=>?_⟩
       by_cases e:j=k
       ·subst e;exact HOK.out
       ·exact HAL.out j hj (by omega)
      case measure=>simp[intOf];omega
     ·have HF:=zh (HST.out (by rw[HMO.out,decide_eq_false hb];simp))
      have HD:=zh (decide_eq_false hb);clear HST HMO hb;go_wp2_with fail;refine (blank_any (l[k]).dflt A1 c1 A2 c2 A3 c3 _ HRX.out.dflt).mono ?_;rintro e w7 ⟨rfl,hb7⟩;rw[HD.out];go_wp2;go_ret;exact ⟨by rw[HF.out];rfl,zB (zB HB1.out HEB.out) hb7⟩
    ·have HD:=zh (HST.out (by rw[HMO.out];simp))
     clear HST HMO;go_wp2;go_ret;exact ⟨by rw[HD.out];rfl,zB HB1.out HEB.out⟩
    ·have HD:=zh (HST.out (by rw[HMO.out];simp))
     clear HST HMO;go_wp2;go_ret;exact ⟨by rw[HD.out];rfl,zB HB1.out HEB.out⟩
    ·have HD:=zh (HST.out (by rw[HMO.out];simp))
     clear HST HMO;go_wp2;go_ret;exact ⟨by rw[HD.out];rfl,zB HB1.out HEB.out⟩
  ·have hh':=hh.out
   rw[List.take_of_length_le (by omega)] at hh'
   have HS:=zh hh';have HD0:=zh (mems_all (rec:=false) fun j hj=>HAL.out j hj (by omega))
   have kc:=zA hh'.bel HK1.out;obtain ⟨A3,c3,e3,hn3,_⟩:=hh'.o1.reads;rw[List.length_map] at e3 hn3;subst e3;obtain ⟨A4,c4,e4,hn4,_⟩:=hh'.o2.reads;rw[List.length_map] at e4 hn4;subst e4;clear hh'
   by_cases h0:l=[]
   ·subst h0
    have HD:=zh (show memsD false []=false by rfl)
    go_wp2
    go_ret
    exact ⟨by rw[HD.out];rfl,zB HB1.out HS.out.bel⟩
   have hpos:0<l.length:=List.length_pos_iff.2 h0;have HD:=zh (show memsD false l=idsD (l.map fun s=>(s.id,s.name)) by rw[HD0.out];simp[h0])
   clear h0;go_wp2_with fail;refine (ids_own (l:=l.map fun s=>(s.id,s.name)) (by simp) (by simp) HS.out (by have:=HLM.out;unfold Lim at *;rw[List.length_map];omega) (by intro s hs;obtain ⟨x,hx,rfl⟩:=List.mem_map.1 hs;exact HM1.out.name_ok x hx)).mono ?_
   rintro e w2 ⟨rfl,hb2⟩;go_wp2;go_ret;exact ⟨by rw[HD.out];rfl,zB (zB HB1.out HS.out.bel) hb2⟩
end Go.Proofs.YtdfolgmcggdjdaaGreatDoor


