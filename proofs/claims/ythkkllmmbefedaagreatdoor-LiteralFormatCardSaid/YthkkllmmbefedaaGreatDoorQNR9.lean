/-
  Walks: the literal's reader: a raw part of a record; the closure of record.
-/
import Derived.Test.YthkkllmmbefedaaGreatDoorQNR8
namespace Go.Proofs.YthkkllmmbefedaaGreatDoor
open Go.RowKit
set_option maxHeartbeats 16000000
set_option maxRecDepth 100000
theorem v8_sliceR {w8:World} {base n:Nat} {v8:Value} {xs:List Value} (ho:w8.ownsRow base 97 2 v8 (n+1) xs):∃g c,v8 = .slice (some ⟨g,0,none⟩) (n+1) c∧base≤g:=by
 rcases ho.2 with ⟨_,h0⟩|⟨g,cap,cur,hv,hg0,_⟩
 ·omega
 ·exact ⟨g,cap,hv,hg0⟩
theorem two_cells {w:World} {p:Nat} {a0 a1:Value} {T:TypeId} (h:w.heap[p]? = some (.cells #[a0,a1] T)):w.cell? ⟨p,0,none⟩=some a0∧w.cell? ⟨p,1,none⟩=some a1∧w.frozen? ⟨p,0,none⟩=false∧w.frozen? ⟨p,1,none⟩=false:=by
 refine ⟨?_,?_,frozen_of_row _ _ _ _ _ h,frozen_of_row _ _ _ _ _ h⟩ <;> (rw[cell_of_row _ _ _ _ _ _ h];rfl)
theorem fld_tok2 (a c e:Int) (b d:ByteArray) (w:World):(Instr.field 59 (.agg #[.int .i64 a,.string b,.int .i64 c,.string d,.int .i64 e]) 2).run Tryz.prog w = .ok (.int .i64 c) w:=by kernel_rfl
theorem fld_tok3 (a c e:Int) (b d:ByteArray) (w:World):(Instr.field 59 (.agg #[.int .i64 a,.string b,.int .i64 c,.string d,.int .i64 e]) 3).run Tryz.prog w = .ok (.string d) w:=by kernel_rfl
theorem RdS.oth {C:RCx} {w:World} {r:List TokD} {k:Bool} {e:Int} (h:RdS C w r k e) {q:Nat} (hq:q≠C.b) (hz:C.w0.heap.size≤q) (j:Nat) (u:Value):RdS C (w.setCell ⟨q,j,none⟩ u) r k e :=
 ⟨h.ok,(heap_setCell_other _ _ _ _ (by simpa using hq.symm)).trans h.blk,h.sfx,h.up.setCell (p:=⟨q,j,none⟩) hz u⟩
theorem record1_raw {C:RCx} {V:Vx} {W:World} {r:List TokD} {k:Bool} {vk vi vr:Value} {KL I:List VaA} {R:List RawD} (h:VfS C V W r k 0 0 vk vi vr KL I R) (hpv:V.pv≠V.p)
  {Rt:RecT} (hR:RecI (valR false C.s) Rt (I.map (·.v)) R (V.x.mems.drop I.length) r k) (hl:I.length+R.length≤1000000) (hi:I.length=V.x.mems.length) :
  Calls Tryz.prog 161 #[.pointer (some ⟨V.pv,0,none⟩),.pointer (some ⟨V.px,0,none⟩),.pointer (some ⟨V.pr,0,none⟩)] W fun y W'=>y = .returned (.tuple #[])∧RcP C V Rt r vk KL I R W':=by
 obtain ⟨A2,c2,rfl,_,_,_⟩:=h.vb.oi.reads;obtain ⟨A3,c3,rfl,_,_,_⟩:=h.vb.or_.reads;rw[List.drop_eq_nil_of_le (Nat.le_of_eq hi.symm)] at hR;have HRI:=zh hR;have HV:=zh h;have HPV:=zh hpv;have HLL:=zh hl;have HI:=zh hi;have fd2:=fld_tok2;have fd3:=fld_tok3;have i1:¬ (I.length:Int)<(V.x.mems.length:Int):=by omega
 clear h hl hpv hR hi;obtain ⟨⟨r5,r6,r7,rr,rm,rk,re⟩,_⟩:=HV.out.reads (Bsd.refl _ _);have rv:=HV.out.readV HPV.out (Bsd.refl _ _)
 go_enter Tryz.func161,Tryz.ntmps161
 go_upto_region 13 with fail
 clear r5 r6 r7 rm rk re rv;have HLW:Hid (C.b<W.heap.size):=HV.out.rd.lt
 go_cut [5] (fun s wx=>∃rb t0 r1 e1,s = .pointer (some ⟨rb,0,none⟩)∧Hid (W.heap.size≤rb∧Bsd C.b W wx∧RdS C wx r1 k e1∧wx.heap[rb]? = some (rwO ⟨t0.int,⟨#[]⟩⟩)∧TkQ 2 r t0 r1 e1))
 case first =>
  go_wp2_with (go_at_call 122;refine (nrTake_any 2 HV.out.rd).mono ?_;intro y w3 h3;obtain ⟨t0,r1,e1,rfl,g1,g2,g3⟩:=tkQ_of h3;have HW3:=zh g1;have HR3:=zh g2;have HQ3:=zh g3;clear h3 g1 g2 g3)
  go_meet
  exact ⟨_,t0,r1,e1,rfl,HW3.out.size,HW3.out.below (zD _ _) HLW.out,HR3.out.below (zD _ _),heap_alloc_new _ _,HQ3.out⟩
 case rest =>
 obtain ⟨W3,rfl⟩:∃W:World,W=wc:=⟨_,rfl⟩;obtain ⟨rb,t0,r1,e1,rfl,h3⟩:=hcut;have HZB:=zh h3.out.1;have HW3:=zh h3.out.2.1;have HR3:=zh h3.out.2.2.1;have HB3:=zh h3.out.2.2.2.1;have HQ3:=zh h3.out.2.2.2.2;clear h3 rr;have HRB:Hid (rb≠C.b):=by have:=HZB.out;have:=HLW.out;show _≠_;omega
 have HBB:Hid (∀ (w w':World) (o:Obj),w.heap[rb]? = some o→Bsd C.b w w'→w'.heap[rb]? = some o):=fun w w' o h1 h2=>(h2.oth _ HRB.out (zg.1 h1).1).trans h1
 have rr:=(HV.out.reads HW3.out).1.2.2.2.1;have rz:=HR3.out.zero
 go_upto_if 108 with fail
 go_cut [] (fun wx=>∃r3 e3,Hid (Bsd C.b W wx∧RdS C wx r3 k e3∧wx.heap[rb]? = some (rwO ⟨t0.int,⟨#[]⟩⟩)∧SyQ ⟨#[58]⟩ r1 e1 r3 e3))
 case first =>
  by_cases he:e1=0
  ·have q1:(e1==0)=true:=by simp[he]
   have HV6:Hid (RdS C W3 r1 k 0):=by have:=HR3.out;rw[he] at this;exact this
   have HE:=zh he;clear he rz;go_wp2_with (go_at_call 126;refine (nrSym_any ⟨#[58]⟩ HV6.out).mono ?_;intro y w3 h3;obtain rfl:=h3.1;have HS3:=zh (syQ_of h3);clear h3);go_meet;obtain ⟨hb,r',e',g1,g2⟩:=HS3.out;exact ⟨r',e',HW3.out.trans hb,g1,HBB.out _ _ _ HB3.out hb,by rw[HE.out];exact g2⟩
  ·have q1:(e1==0)=false:=by simp[he]
   have HE:=zh he;clear he rz;go_wp2;go_meet;exact ⟨r1,e1,HW3.out,HR3.out,HB3.out,syQ_no HE.out⟩
 case rest =>
 obtain ⟨W4,rfl⟩:∃W:World,W=wc:=⟨_,rfl⟩;obtain ⟨r3,e3,h4⟩:=hcut;have HW4:=zh h4.out.1;have HR4:=zh h4.out.2.1;have HB4:=zh h4.out.2.2.1;have HQ4:=zh h4.out.2.2.2;clear h4 HR3 HW3 HB3 rr rz;have rr:=(HV.out.reads HW4.out).1.2.2.2.1;have rz:=HR4.out.zero
 go_upto_if 115 with fail
 go_cut [] (fun wx=>∃t1 r5 e5,Hid (Bsd C.b W wx∧RdS C wx r5 k e5∧wx.heap[rb]? = some (rwO ⟨t0.int,t1.str⟩)∧SOk t1.str∧r5.length≤r3.length∧((e3≠0∧r5=r3∧e5=e3)∨(e3=0∧TkQ 3 r3 t1 r5 e5))))
 case first =>
  by_cases he:e3=0
  ·have q1:(e3==0)=true:=by simp[he]
   have HV6:Hid (RdS C W4 r3 k 0):=by have:=HR4.out;rw[he] at this;exact this
   have HE:=zh he;clear he rz;go_wp2_with (go_at_call 122;refine (nrTake_any 3 HV6.out).mono ?_;intro y w3 h3;obtain ⟨t1,r5,e5,rfl,g1,g2,g3⟩:=tkQ_of h3;have HW5:=zh (HW4.out.trans g1);have HR5:=zh g2;have HB5:=zh (HBB.out _ _ _ HB4.out g1);have HQ5:=zh g3;obtain ⟨x0,x1,y0,y1⟩:=two_cells HB5.out;clear h3 g1 g2 g3);have HB7:=zh (heap_setCell_same _ _ 1 _ _ (.string t1.str) HB5.out);go_meet
   exact ⟨t1,r5,e5,HW5.out.two 1 _ HZB.out HLW.out,HR5.out.oth HRB.out (by have:=HZB.out;have:=HLW.out;have:=HV.out.rd.ok.ge;omega) 1 _,HB7.out,HQ5.out.1.2.2,HQ5.out.1.1,.inr ⟨HE.out,HQ5.out⟩⟩
  ·have q1:(e3==0)=false:=by simp[he]
   have HE:=zh he;clear he rz;go_wp2;go_meet;exact ⟨zTok,r3,e3,HW4.out,HR4.out,HB4.out,by unfold SOk zTok;decide,Nat.le_refl _,.inl ⟨HE.out,rfl,rfl⟩⟩
 case rest =>
 obtain ⟨W5,rfl⟩:∃W:World,W=wc:=⟨_,rfl⟩;obtain ⟨t1,r5,e5,h5⟩:=hcut;have HV5:=zh (HV.out.bsd h5.out.1 h5.out.2.1);have HB5:=zh h5.out.2.2.1;have HSO:=zh h5.out.2.2.2.1;have HNB:Hid ((Value.slice A3 R.length c3).ownBlock≠some rb):=fun e=>by have:=(hot_lt HV.out.vb).2.2 _ e;have:=HZB.out;omega
 have HFIN:Hid (∀ (W':World) (v8:Value),VfS C V W' r5 k e5 0 vk (.slice A2 I.length c2) v8 KL I (R++[⟨t0.int,t1.str⟩])→RcP C V Rt r vk KL I R W'):=fun W' v8 g1=>by
  have hh:=rec_raw HRI.out HQ3.out HQ4.out h5.out.2.2.2.2.2;have h1:=HQ3.out.1.1;have h2:=HQ4.out.1;have h3:=h5.out.2.2.2.2.1;have hll:=HLL.out;refine ⟨_,v8,I,_,r5,k,e5,g1,by omega,⟨by omega,by simp;omega⟩,fun g=>?_,hh.2⟩
  obtain ⟨j1,j2⟩:=hh.1 g;have hI:=HI.out;refine ⟨?_,by omega,by simp;omega⟩
  rw[List.drop_eq_nil_of_le (Nat.le_of_eq hI.symm)];exact j1
 clear h5 HW4 HR4 HB4 rr rz HQ3 HQ4 HRI;have HLB:Hid (C.b<W5.heap.size):=HV5.out.rd.lt;have HRD:=zh (fun (w':World) (hb:Bsd C.b W5 w')=>And.intro (HV5.out.reads hb).1.2.2.1 (And.intro (HV5.out.readV HPV.out hb) (two_cells (HBB.out _ _ _ HB5.out hb))))
 go_upto_region 18 with fail
 refine yE (S:=(fun w'=>w'.cell? ⟨V.p,7,none⟩=some (.slice A3 R.length c3)∧w'.cell? ⟨V.pv,0,none⟩=some (.pointer (some ⟨V.p,0,none⟩))∧w'.cell? ⟨rb,0,none⟩=some (.int .i64 t0.int)∧w'.cell? ⟨rb,1,none⟩=some (.string t1.str))) 10 (by kernel_rfl) ?_ (fun zH_=>?_)
 ·(try dsimp only);(have hk:=HRD.out _ (Bsd.of (zC (Below.refl _ _) 1) (Nat.le_of_lt HLB.out));exact ⟨hk.1,hk.2.1,hk.2.2.1,hk.2.2.2.1⟩)
 refine tB 0 ?_;refine tB 1 ?_;refine tC 2 ?_;refine tC 3 ?_;refine tB 4 ?_;refine tB 5 ?_;try simp only[ps]
 refine tS 6 (fun K hK=>?_)
 go_simp
 refine hK.out _ _ ?_ (fun zH_=>?_)
 ·(try dsimp only);(have hk:=HRD.out _ (Bsd.of (zB (zC (Below.refl _ _) 1) (zD _ (rwO ⟨t0.int,t1.str⟩))) (Nat.le_of_lt HLB.out));exact ⟨hk.1,hk.2.1,hk.2.2.1,hk.2.2.2.1⟩)
 clear hK K;refine tS 7 (fun K hK=>?_)
 (have HW6:=zh (HV5.out.below (zB (zC (Below.refl _ _) 1) (zD _ (rwO ⟨t0.int,t1.str⟩))));have HB6:=zh (HBB.out _ _ _ HB5.out (Bsd.of (zB (zC (Below.refl W5.heap.size W5) 1) (zD _ (rwO ⟨t0.int,t1.str⟩))) (Nat.le_of_lt HLB.out)));have hll:=HLL.out;refine yH elem_raw (by rfl) (.tmp 124) (.tmp 126) (by rfl) (V.p+1) (.slice A3 R.length c3) R.length (R.flatMap encR) (by rfl) HW6.out.vb.or_ W5.heap.size 0 1 1 (encR ⟨t0.int,t1.str⟩) (by rfl) rfl (zR (W5.drewN 1) (encR ⟨t0.int,t1.str⟩) 97) (encR_one _) (by omega) (by omega) HW6.out.vb.lt ?_;intro v8 w8 ho8 hg8 hv8;obtain ⟨g,c8,rfl,hgg⟩:=v8_sliceR ho8;have HE8:=zh (HW6.out.rawA HSO.out (Below.refl _ _) ho8 hg8 hv8);have HP8:=zh (HW6.out.p8 hg8 (.inr (.inr rfl)));have HQ8:=zh (HW6.out.readB HP8.out (HW6.out.grownQ hg8 (.inr (.inr rfl))));have HB8:=zh (two_cells ((yA hg8 (zg.1 HB6.out).1 fun q hq e=>HNB.out (e▸hq)).trans HB6.out));obtain ⟨⟨_,_,c7⟩,_,_,f7⟩:=HW6.out.c8 HP8.out;clear hll ho8 hv8 hgg)
 refine hK.out _ _ ?_ (fun zH_=>?_)
 ·(try dsimp only);exact ⟨HQ8.out.1.2.2.1,HQ8.out.2 HPV.out,HB8.out.1,HB8.out.2.1⟩
 clear hK K;refine tC 8 ?_;refine tC 9 ?_;refine zV (rs:=[10]) (by kernel_rfl) (by simp) ?_
 refine AllReadyB.last rfl (by kernel_rfl) (fun K hK=>?_) AllReadyB.nil
 go_simp
 refine hK.out _ _ ?_;clear hK K
 (try clear zH_)
 refine wpAny_done (by kernel_rfl) ?_ _
 (exact bodyPost_end (results_none Tryz.results161 _ _ _) rfl ⟨rfl,HFIN.out _ _ HE8.out⟩)
end Go.Proofs.YthkkllmmbefedaaGreatDoor


