/-
  Walks: sheaveref18.Greatest (written by gen_rg2.py).
-/
import Derived.Test.YtkhpajneinmmiaaGreatDoorQRG1
import Derived.Test.YtkhpajneinmmiaaGreatDoorQRA
import Derived.Test.YtkhpajneinmmiaaGreatDoorQTBG
namespace Go.Proofs.YtkhpajneinmmiaaGreatDoor
open Go.RowKit
set_option maxHeartbeats 16000000
set_option maxRecDepth 100000
structure GSt (names:Bool) (a b:List TyD) (W0:World) (M:List (List Bool)) (wr:World):Prop where
 tab:∃rows,TabAt wr W0.heap.size W0.heap.size rows M
 inv:TabInv (alD names a b) (okD a b) a.length b.length M
 bel:Below W0.heap.size W0 wr
theorem row_same {rows:List Value} {i gi gi2 m m2 c c2:Nat} (h:rows[i]? = some (.slice (some ⟨gi2,0,none⟩) m2 c2)) (h2:rows[i]? = some (.slice (some ⟨gi,0,none⟩) m c)):gi=gi2∧c=c2:=by
 have e:=Option.some.inj (h2.symm.trans h)
 injection e with e1 _ e2
 injection e1 with e1
 injection e1 with e1
 exact ⟨e1,e2⟩
structure PSt (W0:World) (M:List (List Bool)) (wr:World):Prop where
 tab:∃rows,TabAt wr W0.heap.size W0.heap.size rows M
 bel:Below W0.heap.size W0 wr
theorem al_uses {names:Bool} {a b:List TyD} {i k:Nat} (h:alD names a b i k=true) (hi:i<a.length) (hk:k<b.length):(usesD a[i]).length=(usesD b[k]).length:=by
 rw[alD_at hi hk] at h
 have:=congrArg List.length (alikeD_uses h)
 simpa using this
theorem greatest_any (names:Bool) (a b:List TyD) (la:a.length≤32) (lb:b.length≤32) (ua:InR a) (ub:InR b) (A:Option Addr) (c:Nat) (B:Option Addr) (d:Nat) (w:World) (ha:TysR w A a) (hb:TysR w B b) :
  Calls Tryz.prog 34 #[.agg #[.slice A a.length c],.agg #[.slice B b.length d],.bool names] w (RelPost names a b w):=by
 have hmk:=mk_rows a.length (by omega)
 have hmb:=mk_bits b.length (by omega)
 have HA:=zh ha
 have HB:=zh hb
 have HUA:=zh ua
 have HUB:=zh ub
 clear ha hb ua ub
 go_enter Tryz.func34,Tryz.ntmps34
 go_wp2
 clear hmk
 have HB0:=zh (zC w (.cells #[.slice A a.length c] 30) (.cells #[.slice B b.length d] 30))
 have HA0:=zh (HA.out.below HB0.out)
 have HBB0:=zh (HB.out.below HB0.out)
 have HCA:Hid (((w.alloc (.cells #[.slice A a.length c] 30)).alloc (.cells #[.slice B b.length d] 30)).cell? ⟨w.heap.size,0,none⟩=some (.slice A a.length c)):=zB (zD _ _) (by rw[cell_of_row _ _ _ _ _ _ (heap_alloc_new w _)];rfl)
 have HCB:Hid (((w.alloc (.cells #[.slice A a.length c] 30)).alloc (.cells #[.slice B b.length d] 30)).cell? ⟨w.heap.size+1,0,none⟩=some (.slice B b.length d)):=zh (by
  have h:=cell_of_row _ _ 0 _ _ _ (heap_alloc_new (w.alloc (.cells #[.slice A a.length c] 30)) (.cells #[.slice B b.length d] 30))
  rw[show (w.alloc (.cells #[.slice A a.length c] 30)).heap.size=w.heap.size+1 by simp] at h
  exact h)
 have HS0:Hid (((w.alloc (.cells #[.slice A a.length c] 30)).alloc (.cells #[.slice B b.length d] 30)).heap.size=w.heap.size+1+1):=by show _=_;simp
 rw[show w.heap.size+1+1=((w.alloc (.cells #[.slice A a.length c] 30)).alloc (.cells #[.slice B b.length d] 30)).heap.size from HS0.out.symm]
 generalize (w.alloc (.cells #[.slice A a.length c] 30)).alloc (.cells #[.slice B b.length d] 30)=W0 at *
 have HF0:Hid (PSt W0 (fillM (alD names a b) a.length b.length 0 0) (W0.alloc (.cells (List.replicate a.length (.slice none 0 0)).toArray 60))):=by
  refine ⟨⟨List.replicate a.length (.slice none 0 0),?_⟩,zD _ _⟩
  refine ⟨heap_alloc_new W0 _,Nat.le_refl _,by rw[fillM_len];simp,fun i v l hv hl=>?_,fun i j v u k hij hv hu hk=>?_⟩
  ·rw[fillM_zero] at hl
   have e1:v = .slice none 0 0:=(List.mem_replicate.1 (List.mem_of_getElem? hv)).2
   have e2:l=[]:=(List.mem_replicate.1 (List.mem_of_getElem? hl)).2
   subst e1;subst e2
   exact OwnL.nil _ _
  ·have e1:v = .slice none 0 0:=(List.mem_replicate.1 (List.mem_of_getElem? hv)).2
   subst e1
   cases hk
 go_loopw [8] (fun s wr=>∃i:Nat,i≤a.length∧s = .int .i64 i∧Hid (PSt W0 (fillM (alD names a b) a.length b.length i 0) wr)) (fun s _=>a.length - (intOf s).toNat)
 case atStart=>exact ⟨0,by omega,rfl,HF0.out⟩
 case round =>
  obtain ⟨i,hi,rfl,hh⟩:=hrel
  obtain ⟨wo,rfl⟩:∃wo:World,wo=wr:=⟨_,rfl⟩
  by_cases hlt:i<a.length
  ·have cB:=zB hh.out.bel HCB.out
   have hzB:=zF cB
   simp only at hzB
   obtain ⟨rows,hta⟩:=hh.out.tab
   have HIL:Hid (i<(fillM (alD names a b) a.length b.length i 0).length):=by show _<_;rw[fillM_len];exact hlt
   obtain ⟨v0,hv0,_,c0,f0⟩:=hta.row HIL.out
   have hzg:=zF c0
   simp only at hzg
   have h1:(0:Int)≤(i:Int):=by omega
   have h2:(i:Int)<(a.length:Int):=by omega
   have HG0:Hid (PSt W0 (gM (alD names a b) a.length b.length i 0) ((wo.setCell ⟨W0.heap.size,i,none⟩ (.slice (some ⟨wo.heap.size,0,none⟩) b.length b.length)).alloc (.cells (Array.replicate b.length (.bool false)) 4))):=by
    rw[←World.setCell_alloc_past _ _ _ _ hzg,←List.toArray_replicate]
    refine ⟨⟨rows.set i (.slice (some ⟨wo.heap.size,0,none⟩) b.length b.length),?_⟩,below_setg (hh.out.bel.alloc hh.out.bel.size _) _ _ (Nat.le_refl _) _⟩
    have:=hta.setRow HIL.out hv0 (ownB_new wo W0.heap.size b.length hh.out.bel.size (by omega)) (World.grownBy_alloc wo _ _) (.inr rfl)
    unfold gM
    simpa using this
   clear hta hv0 hh
   go_wp2
   generalize (wo.setCell ⟨W0.heap.size,i,none⟩ (.slice (some ⟨wo.heap.size,0,none⟩) b.length b.length)).alloc (.cells (Array.replicate b.length (.bool false)) 4)=w5 at *
   clear c0 f0 cB
   go_loopw [9] (fun s wr=>∃k:Nat,k≤b.length∧s = .int .i64 k∧Hid (PSt W0 (gM (alD names a b) a.length b.length i k) wr)) (fun s _=>b.length - (intOf s).toNat)
   case atStart=>exact ⟨0,by omega,rfl,HG0.out⟩
   case round =>
    obtain ⟨k,hk,rfl,hq⟩:=hrel
    obtain ⟨wp,rfl⟩:∃wp:World,wp=wr:=⟨_,rfl⟩
    have HIG:Hid (i<(gM (alD names a b) a.length b.length i k).length):=by show _<_;rw[gM_len];exact hlt
    have HRWL:=zh (gM_rowlen (alD names a b) (m:=b.length) hlt hk HIG.out)
    obtain ⟨rows,hta⟩:=hq.out.tab
    by_cases hlk:k<b.length
    ·obtain ⟨b1,o1,As,cs,Am,cm,rfl,hr1,x0,x1,x2,x3,x4,x5,x6,x7,x8,x9⟩:=HA0.out.at10 hlt
     obtain ⟨b2,o2,Bs,ds,Bm,dm,rfl,hr2,y0,y1,y2,y3,y4,y5,y6,y7,y8,y9⟩:=HBB0.out.at10 hlk
     have HTX:=zh hr1
     have HTY:=zh hr2
     have HAK2:Hid (alD names a b i k=zM names a[i] b[k]):=alD_at hlt hlk
     have HGS:=zh (gM_set (alD names a b) (m:=b.length) (k:=k) hlt hlk)
     rw[HAK2.out] at HGS
     have g1:(0:Int)≤(k:Int):=by omega
     have g2:(k:Int)<(b.length:Int):=by omega
     generalize a[i]=x at *
     generalize b[k]=y at *
     obtain ⟨gi,cg,c1,c2,fz,hrow,hgi⟩:=hta.bit (k:=k) HIG.out (by rw[HRWL.out];exact hlk)
     rw[HRWL.out] at c1
     have HROW:=zh hrow
     rw[HRWL.out] at HROW
     have HGI:=zh hgi
     have HTA:=zh hta
     have HOB:Hid (OwnB wp W0.heap.size (.slice (some ⟨gi,0,none⟩) b.length cg) _):=hta.own i _ _ HROW.out (zl HIG.out)
     have G9:Hid (∀w':World,Below W0.heap.size W0 w'→w'.heap[W0.heap.size]? = some (.cells rows.toArray 60 (0,0))→(w'.cell? ⟨W0.heap.size,i,none⟩=some (.slice (some ⟨gi,0,none⟩) b.length cg)∧((w'.cell? ⟨w.heap.size,0,none⟩=some (.slice (some ⟨b1,o1,none⟩) a.length c)∧w'.cell? ⟨w.heap.size+1,0,none⟩=some (.slice (some ⟨b2,o2,none⟩) b.length d))∧(w'.cell? ⟨b1,o1+i * 10,none⟩=some (.int .i64 x.kind)∧w'.cell? ⟨b1,o1+i * 10+1,none⟩=some (.string x.name)∧w'.cell? ⟨b1,o1+i * 10+2,none⟩=some (.int .i64 x.low)∧w'.cell? ⟨b1,o1+i * 10+3,none⟩=some (.int .i64 x.high)∧w'.cell? ⟨b1,o1+i * 10+4,none⟩=some (.int .i64 x.max)∧w'.cell? ⟨b1,o1+i * 10+5,none⟩=some (.slice As x.syms.length cs)∧w'.cell? ⟨b1,o1+i * 10+6,none⟩=some (.slice Am x.mems.length cm)∧w'.cell? ⟨b1,o1+i * 10+7,none⟩=some (.int .i64 x.key)∧w'.cell? ⟨b1,o1+i * 10+8,none⟩=some (.int .i64 x.elem)∧w'.cell? ⟨b1,o1+i * 10+9,none⟩=some (.bool x.open_))∧(w'.cell? ⟨b2,o2+k * 10,none⟩=some (.int .i64 y.kind)∧w'.cell? ⟨b2,o2+k * 10+1,none⟩=some (.string y.name)∧w'.cell? ⟨b2,o2+k * 10+2,none⟩=some (.int .i64 y.low)∧w'.cell? ⟨b2,o2+k * 10+3,none⟩=some (.int .i64 y.high)∧w'.cell? ⟨b2,o2+k * 10+4,none⟩=some (.int .i64 y.max)∧w'.cell? ⟨b2,o2+k * 10+5,none⟩=some (.slice Bs y.syms.length ds)∧w'.cell? ⟨b2,o2+k * 10+6,none⟩=some (.slice Bm y.mems.length dm)∧w'.cell? ⟨b2,o2+k * 10+7,none⟩=some (.int .i64 y.key)∧w'.cell? ⟨b2,o2+k * 10+8,none⟩=some (.int .i64 y.elem)∧w'.cell? ⟨b2,o2+k * 10+9,none⟩=some (.bool y.open_))))∧Hid (Below W0.heap.size W0 w'∧w'.heap[W0.heap.size]? = some (.cells rows.toArray 60 (0,0)))):=fun w' hB hO=>⟨⟨by rw[cell_of_row _ _ _ _ _ _ hO];simpa using HROW.out,⟨zB hB HCA.out,zB hB HCB.out⟩,⟨zB hB x0,zB hB x1,zB hB x2,zB hB x3,zB hB x4,zB hB x5,zB hB x6,zB hB x7,zB hB x8,zB hB x9⟩,⟨zB hB y0,zB hB y1,zB hB y2,zB hB y3,zB hB y4,zB hB y5,zB hB y6,zB hB y7,zB hB y8,zB hB y9⟩⟩,hB,hO⟩
     have HBP:=zh hq.out.bel
     clear hr1 hr2 hrow hgi hta c2 fz hq x0 y0 x1 y1 x2 y2 x3 y3 x4 y4 x5 y5 x6 y6 x7 y7 x8 y8 x9 y9
     go_wp2
     refine wp_region_held_drew (S:=(fun w'=>(w'.cell? ⟨W0.heap.size,i,none⟩=some (.slice (some ⟨gi,0,none⟩) b.length cg)∧((w'.cell? ⟨w.heap.size,0,none⟩=some (.slice (some ⟨b1,o1,none⟩) a.length c)∧w'.cell? ⟨w.heap.size+1,0,none⟩=some (.slice (some ⟨b2,o2,none⟩) b.length d))∧(w'.cell? ⟨b1,o1+i * 10,none⟩=some (.int .i64 x.kind)∧w'.cell? ⟨b1,o1+i * 10+1,none⟩=some (.string x.name)∧w'.cell? ⟨b1,o1+i * 10+2,none⟩=some (.int .i64 x.low)∧w'.cell? ⟨b1,o1+i * 10+3,none⟩=some (.int .i64 x.high)∧w'.cell? ⟨b1,o1+i * 10+4,none⟩=some (.int .i64 x.max)∧w'.cell? ⟨b1,o1+i * 10+5,none⟩=some (.slice As x.syms.length cs)∧w'.cell? ⟨b1,o1+i * 10+6,none⟩=some (.slice Am x.mems.length cm)∧w'.cell? ⟨b1,o1+i * 10+7,none⟩=some (.int .i64 x.key)∧w'.cell? ⟨b1,o1+i * 10+8,none⟩=some (.int .i64 x.elem)∧w'.cell? ⟨b1,o1+i * 10+9,none⟩=some (.bool x.open_))∧(w'.cell? ⟨b2,o2+k * 10,none⟩=some (.int .i64 y.kind)∧w'.cell? ⟨b2,o2+k * 10+1,none⟩=some (.string y.name)∧w'.cell? ⟨b2,o2+k * 10+2,none⟩=some (.int .i64 y.low)∧w'.cell? ⟨b2,o2+k * 10+3,none⟩=some (.int .i64 y.high)∧w'.cell? ⟨b2,o2+k * 10+4,none⟩=some (.int .i64 y.max)∧w'.cell? ⟨b2,o2+k * 10+5,none⟩=some (.slice Bs y.syms.length ds)∧w'.cell? ⟨b2,o2+k * 10+6,none⟩=some (.slice Bm y.mems.length dm)∧w'.cell? ⟨b2,o2+k * 10+7,none⟩=some (.int .i64 y.key)∧w'.cell? ⟨b2,o2+k * 10+8,none⟩=some (.int .i64 y.elem)∧w'.cell? ⟨b2,o2+k * 10+9,none⟩=some (.bool y.open_))))∧Hid (Below W0.heap.size W0 w'∧w'.heap[W0.heap.size]? = some (.cells rows.toArray 60 (0,0))))) (by kernel_rfl) ?_ (fun zH_=>?_)
     ·(try dsimp only);exact G9.out wp.drew (zE HBP.out 1) HTA.out.out
     (have HTD:Hid (TabAt wp.drew W0.heap.size W0.heap.size rows (gM (alD names a b) a.length b.length i k)):=HTA.out.below (zE (Below.refl _ _) 1);have HBD:Hid (Below W0.heap.size W0 wp.drew):=zE HBP.out 1;generalize wp.drew=wd at *)
     refine tL 0 _ zH_ ?_
     try simp only[ps]
     refine tL 1 _ zH_ ?_
     try simp only[ps]
     refine tL 2 _ zH_ ?_
     try simp only[ps]
     refine tL 3 _ zH_ ?_
     try simp only[ps]
     refine tL 4 _ zH_ ?_
     try simp only[ps]
     refine tL 5 _ zH_ ?_
     try simp only[ps]
     refine tL 6 _ zH_ ?_
     try simp only[ps]
     refine tL 7 _ zH_ ?_
     try simp only[ps]
     refine tL 8 _ zH_ ?_
     try simp only[ps]
     refine tL 9 _ zH_ ?_
     try simp only[ps]
     refine tL 10 _ zH_ ?_
     try simp only[ps]
     refine tL 11 _ zH_ ?_
     try simp only[ps]
     refine tL 12 _ zH_ ?_
     try simp only[ps]
     refine tL 13 _ zH_ ?_
     try simp only[ps]
     refine tL 14 _ zH_ ?_
     try simp only[ps]
     refine tL 15 _ zH_ ?_
     try simp only[ps]
     refine tR 16 (fun K hK=>?_)
     go_simp
     (refine (rAlike_any names x y As cs Am cm Bs ds Bm dm _ (HTX.out.below HBD.out) (HTY.out.below HBD.out)).mono ?_;rintro e w16 ⟨rfl,hb16⟩;have HT16:=zh (HTD.out.below hb16);have HB16:=zh (zA HBD.out hb16))
     refine hK.out _ _ ?_ (fun zH_=>?_)
     ·(try dsimp only);exact G9.out w16 HB16.out HT16.out.out
     clear hK K
     try simp only[ps]
     refine tL 17 _ zH_ ?_
     try simp only[ps]
     refine tR 18 (fun K hK=>?_)
     (obtain ⟨gi2,cg2,d1,d2,fz,hrow2,_⟩:=HT16.out.bit (k:=k) HIG.out (by rw[HRWL.out];exact hlk);obtain ⟨e7,e8⟩:=row_same hrow2 HROW.out;subst e7;subst e8;have hz9:=zF d2;clear d1 hrow2;go_simp)
     refine hK.out _ _ ?_ (fun zH_=>?_)
     ·(try dsimp only);exact G9.out _ (below_setg HB16.out gi k HGI.out _) ((HT16.out.storeV HIG.out (gi:=gi) (c:=cg) (by rw[HRWL.out];exact HROW.out) k _).1.out)
     clear hK K
     try simp only[ps]
     refine wpAnyH_done (by kernel_rfl) ?_ _
     have HNX:Hid (PSt W0 (gM (alD names a b) a.length b.length i (k+1)) (w16.setCell ⟨gi,k,none⟩ (.bool (zM names x y)))):=⟨⟨rows,by rw[←HGS.out];exact (HT16.out.storeV HIG.out (gi:=gi) (c:=cg) (by rw[HRWL.out];exact HROW.out) k _).1⟩,below_setg HB16.out gi k HGI.out _⟩
     clear zH_ d2 fz hz9
     go_wp2
     go_roundw
     case rel=>exact ⟨k+1,by omega,by go_num,HNX.out⟩
     case measure=>simp[intOf];omega
    ·obtain ⟨v1,hv1,ho1,c1,f1⟩:=hta.row HIG.out
     obtain ⟨A1,cc1,e1,_⟩:=ho1.reads
     rw[HRWL.out] at e1
     subst e1
     have HNX:Hid (PSt W0 (fillM (alD names a b) a.length b.length (i+1) 0) wp):=by
      have:=hq.out
      rw[show k=b.length by omega,gM_full _ hlt] at this
      exact this
     go_wp2
     go_roundw
     case rel=>exact ⟨i+1,by omega,by go_num,HNX.out⟩
     case measure=>simp[intOf];omega
  ·have HR0:Hid (GSt names a b W0 (fillM (alD names a b) a.length b.length a.length 0) wo):=by
    have:=hh.out
    rw[show i=a.length by omega] at this
    exact ⟨this.tab,fillM_tab fun i k h=>alD_lt h,this.bel⟩
   clear hh hmb
   go_wp2
   go_loopg [10] (cntM (fillM (alD names a b) a.length b.length a.length 0)+1) (fun gk s wr=>∃ (ch:Bool) (M:List (List Bool)),s = .bool ch∧Hid (GSt names a b W0 M wr∧gk=cntM M+(if ch then 1 else 0)∧(ch=false→GreatestR (alD names a b) (okD a b) (getB M))))
   case atStart=>exact ⟨true,_,rfl,HR0.out,rfl,fun h=>by cases h⟩
   case round =>
    obtain ⟨ch,M,rfl,hg⟩:=hrel
    obtain ⟨wq,rfl⟩:∃wq:World,wq=wr:=⟨_,rfl⟩
    cases ch with
    | false =>
     have HGR:=zh (hg.out.2.2 rfl)
     have HGT:=zh hg.out.1
     clear hg
     go_wp2
     go_ret
     obtain ⟨rows,ht⟩:=HGT.out.tab
     exact ⟨_,rows,M,rfl,⟨ht.out,Nat.le_trans HB0.out.size ht.gb,ht.len,fun i v l hv hl=>(ht.own i v l hv hl).base HB0.out.size,ht.dis⟩,HGT.out.inv.rows,HGT.out.inv.cols,HGR.out,zA HB0.out HGT.out.bel⟩
    | true =>
     have HGK:=zh hg.out.2.1
     have HRQ:=zh hg.out.1
     clear hlt hg
     go_wp2
     go_loopw [11,10] (fun s s12 wr=>∃i:Nat,i≤a.length∧s = .int .i64 i∧Hid (GSt names a b W0 (sweep (okD a b) (yA b.length i 0) (M,false)).1 wr)∧s12 = .bool (sweep (okD a b) (yA b.length i 0) (M,false)).2) (fun s _ _=>a.length - (intOf s).toNat)
     case atStart=>exact ⟨0,by omega,rfl,HRQ.out,rfl⟩
     case round =>
      obtain ⟨i,hi,rfl,hh,rfl⟩:=hrel
      obtain ⟨wo,rfl⟩:∃wo:World,wo=wr:=⟨_,rfl⟩
      by_cases hlt:i<a.length
      ·have h1:(0:Int)≤(i:Int):=by omega
       have h2:(i:Int)<(a.length:Int):=by omega
       go_wp2
       go_loopw [12,10] (fun s s12 wr=>∃k:Nat,k≤b.length∧s = .int .i64 k∧Hid (GSt names a b W0 (sweep (okD a b) (yA b.length i k) (M,false)).1 wr)∧s12 = .bool (sweep (okD a b) (yA b.length i k) (M,false)).2) (fun s _ _=>b.length - (intOf s).toNat)
       case atStart=>exact ⟨0,by omega,rfl,hh.out,rfl⟩
       case round =>
        obtain ⟨k,hk,rfl,hq,rfl⟩:=hrel
        obtain ⟨wp,rfl⟩:∃wp:World,wp=wr:=⟨_,rfl⟩
        by_cases hlk:k<b.length
        ·have HSW:Hid (sweep (okD a b) (yA b.length i (k+1)) (M,false)=strike (okD a b) (sweep (okD a b) (yA b.length i k) (M,false)) i k):=by show _=_;rw[pairsTo_next,sweep_snoc]
         have HTI:=zh (tab_strike (alD names a b) (okD a b) (okD_mono a b) hq.out.inv i k)
         obtain ⟨T,hT⟩:∃T,T=sweep (okD a b) (yA b.length i k) (M,false):=⟨_,rfl⟩
         have hq1:=hq.out
         rw[←hT] at HSW HTI hq1 ⊢
         have HQ1:=zh hq1
         clear hT hq hq1
         obtain ⟨b1,o1,As,cs,Am,cm,e1,hr1,x0,x1,x2,x3,x4,x5,x6,x7,x8,x9⟩:=HA0.out.at10 hlt
         subst e1
         obtain ⟨b2,o2,Bs,ds,Bm,dm,e2,hr2,y0,y1,y2,y3,y4,y5,y6,y7,y8,y9⟩:=HBB0.out.at10 hlk
         subst e2
         have HTX:=zh hr1
         have HTY:=zh hr2
         have HOK2:Hid (okD a b (getB T.1) i k=zR (getB T.1) (usesD a[i]) (usesD b[k])):=okD_at hlt hlk
         have HUX:=zh (HUA.out _ (List.getElem_mem hlt))
         have HUY:=zh (HUB.out _ (List.getElem_mem hlk))
         have HUL:Hid (getB T.1 i k=true→(usesD a[i]).length=(usesD b[k]).length):=fun h=>al_uses (HQ1.out.inv.like i k h) hlt hlk
         have g1:(0:Int)≤(k:Int):=by omega
         have g2:(k:Int)<(b.length:Int):=by omega
         generalize a[i]=x at *
         generalize b[k]=y at *
         obtain ⟨rows,hta⟩:=HQ1.out.tab
         have HRL:=zh HQ1.out.inv.rows
         have HCL:=zh HQ1.out.inv.cols
         have hiT:i<T.1.length:=by rw[HRL.out];exact hlt
         have hil:(T.1[i]).length=b.length:=HCL.out _ (List.getElem_mem hiT)
         obtain ⟨gi,cg,t1,t2,t3,hrow,hgi⟩:=hta.bit (k:=k) hiT (by rw[hil];exact hlk)
         clear t1 t2 t3
         have HROW:=zh hrow
         rw[hil] at HROW
         have HGI:=zh hgi
         have HTA:=zh hta
         have HOT:Hid (∀w':World,TabAt w' W0.heap.size W0.heap.size rows T.1→w'.cell? ⟨W0.heap.size,i,none⟩=some (.slice (some ⟨gi,0,none⟩) b.length cg)∧w'.cell? ⟨gi,k,none⟩=some (.bool (getB T.1 i k))):=fun w' hT=>by
          have hra:RelAt (w'.alloc (.cells #[.slice (some ⟨W0.heap.size,0,none⟩) a.length a.length] 61)) W0.heap.size w'.heap.size W0.heap.size rows T.1 a.length b.length:=⟨heap_alloc_new w' _,hT.below (zD _ _),HRL.out,HCL.out⟩
          have hc1:w'.cell? ⟨W0.heap.size,i,none⟩=some (.slice (some ⟨gi,0,none⟩) b.length cg):=by rw[cell_of_row _ _ _ _ _ _ hT.out];simpa using HROW.out
          obtain ⟨gi3,c3,d1,d2⟩:=tab_bit hT HRL.out HCL.out hlt hlk
          have e:=Option.some.inj (d1.symm.trans hc1)
          injection e with e1 _ _
          injection e1 with e1
          injection e1 with e1
          subst e1
          exact ⟨hc1,d2⟩
         have G19:Hid (∀w':World,Below W0.heap.size W0 w'→getB T.1 i k=true→TabAt w' W0.heap.size W0.heap.size rows T.1→((w'.cell? ⟨W0.heap.size,i,none⟩=some (.slice (some ⟨gi,0,none⟩) b.length cg)∧w'.cell? ⟨gi,k,none⟩=some (.bool true))∧((w'.cell? ⟨w.heap.size,0,none⟩=some (.slice (some ⟨b1,o1,none⟩) a.length c)∧w'.cell? ⟨w.heap.size+1,0,none⟩=some (.slice (some ⟨b2,o2,none⟩) b.length d))∧(w'.cell? ⟨b1,o1+i * 10,none⟩=some (.int .i64 x.kind)∧w'.cell? ⟨b1,o1+i * 10+1,none⟩=some (.string x.name)∧w'.cell? ⟨b1,o1+i * 10+2,none⟩=some (.int .i64 x.low)∧w'.cell? ⟨b1,o1+i * 10+3,none⟩=some (.int .i64 x.high)∧w'.cell? ⟨b1,o1+i * 10+4,none⟩=some (.int .i64 x.max)∧w'.cell? ⟨b1,o1+i * 10+5,none⟩=some (.slice As x.syms.length cs)∧w'.cell? ⟨b1,o1+i * 10+6,none⟩=some (.slice Am x.mems.length cm)∧w'.cell? ⟨b1,o1+i * 10+7,none⟩=some (.int .i64 x.key)∧w'.cell? ⟨b1,o1+i * 10+8,none⟩=some (.int .i64 x.elem)∧w'.cell? ⟨b1,o1+i * 10+9,none⟩=some (.bool x.open_))∧(w'.cell? ⟨b2,o2+k * 10,none⟩=some (.int .i64 y.kind)∧w'.cell? ⟨b2,o2+k * 10+1,none⟩=some (.string y.name)∧w'.cell? ⟨b2,o2+k * 10+2,none⟩=some (.int .i64 y.low)∧w'.cell? ⟨b2,o2+k * 10+3,none⟩=some (.int .i64 y.high)∧w'.cell? ⟨b2,o2+k * 10+4,none⟩=some (.int .i64 y.max)∧w'.cell? ⟨b2,o2+k * 10+5,none⟩=some (.slice Bs y.syms.length ds)∧w'.cell? ⟨b2,o2+k * 10+6,none⟩=some (.slice Bm y.mems.length dm)∧w'.cell? ⟨b2,o2+k * 10+7,none⟩=some (.int .i64 y.key)∧w'.cell? ⟨b2,o2+k * 10+8,none⟩=some (.int .i64 y.elem)∧w'.cell? ⟨b2,o2+k * 10+9,none⟩=some (.bool y.open_))))∧Hid (Below W0.heap.size W0 w'∧TabAt w' W0.heap.size W0.heap.size rows T.1)):=fun w' hB hbt hT=>⟨⟨⟨(HOT.out w' hT).1,hbt▸(HOT.out w' hT).2⟩,⟨zB hB HCA.out,zB hB HCB.out⟩,⟨zB hB x0,zB hB x1,zB hB x2,zB hB x3,zB hB x4,zB hB x5,zB hB x6,zB hB x7,zB hB x8,zB hB x9⟩,⟨zB hB y0,zB hB y1,zB hB y2,zB hB y3,zB hB y4,zB hB y5,zB hB y6,zB hB y7,zB hB y8,zB hB y9⟩⟩,hB,hT⟩
         obtain ⟨c1,c2⟩:=HOT.out wp hta
         have HBP:=zh HQ1.out.bel
         have cA:=zB HBP.out HCA.out
         have cB:=zB HBP.out HCB.out
         clear hr1 hr2 hrow hgi hta hiT hil x0 y0 x1 y1 x2 y2 x3 y3 x4 y4 x5 y5 x6 y6 x7 y7 x8 y8 x9 y9
         go_wp2
         cases hbit:getB T.1 i k with
         | false =>
          rw[hbit] at c2
          have HST:=zh (strike_no (ok:=okD a b) (s:=T) (i:=i) (k:=k) (.inl hbit))
          rw[HST.out] at HSW
          clear hbit
          go_quiet (fail)
          go_wp2
          go_roundw
          case rel=>exact ⟨k+1,by omega,by go_num,(by rw[HSW.out];exact ⟨⟨rows,HTA.out.below (zE (Below.refl _ _) _)⟩,HQ1.out.inv,zE HBP.out _⟩),(by rw[HSW.out])⟩
          case measure=>simp[intOf];omega
         | true =>
          have HBT:=zh hbit
          have HUXn:Hid (∀u∈usesD x,0≤u.2∧u.2<(a.length:Int)):=fun u hu=>by have:=HUX.out u hu;omega
          have HUYn:Hid (∀u∈usesD y,0≤u.2∧u.2<(b.length:Int)):=fun u hu=>by have:=HUY.out u hu;omega
          have HNM2:Hid (a.length≤1000∧b.length≤1000):=⟨by omega,by omega⟩
          have HULn:=zh (HUL.out hbit)
          clear hbit c1 c2 cA cB
          cases hok:okD a b (getB T.1) i k with
          | true =>
           have HUO:Hid (zR (getB T.1) (usesD x) (usesD y)=true):=by rw[←HOK2.out];exact hok
           have HST:=zh (strike_no (ok:=okD a b) (s:=T) (i:=i) (k:=k) (.inr hok))
           rw[HST.out] at HSW
           clear hok
           refine wp_region_held_drew (S:=(fun w'=>((w'.cell? ⟨W0.heap.size,i,none⟩=some (.slice (some ⟨gi,0,none⟩) b.length cg)∧w'.cell? ⟨gi,k,none⟩=some (.bool true))∧((w'.cell? ⟨w.heap.size,0,none⟩=some (.slice (some ⟨b1,o1,none⟩) a.length c)∧w'.cell? ⟨w.heap.size+1,0,none⟩=some (.slice (some ⟨b2,o2,none⟩) b.length d))∧(w'.cell? ⟨b1,o1+i * 10,none⟩=some (.int .i64 x.kind)∧w'.cell? ⟨b1,o1+i * 10+1,none⟩=some (.string x.name)∧w'.cell? ⟨b1,o1+i * 10+2,none⟩=some (.int .i64 x.low)∧w'.cell? ⟨b1,o1+i * 10+3,none⟩=some (.int .i64 x.high)∧w'.cell? ⟨b1,o1+i * 10+4,none⟩=some (.int .i64 x.max)∧w'.cell? ⟨b1,o1+i * 10+5,none⟩=some (.slice As x.syms.length cs)∧w'.cell? ⟨b1,o1+i * 10+6,none⟩=some (.slice Am x.mems.length cm)∧w'.cell? ⟨b1,o1+i * 10+7,none⟩=some (.int .i64 x.key)∧w'.cell? ⟨b1,o1+i * 10+8,none⟩=some (.int .i64 x.elem)∧w'.cell? ⟨b1,o1+i * 10+9,none⟩=some (.bool x.open_))∧(w'.cell? ⟨b2,o2+k * 10,none⟩=some (.int .i64 y.kind)∧w'.cell? ⟨b2,o2+k * 10+1,none⟩=some (.string y.name)∧w'.cell? ⟨b2,o2+k * 10+2,none⟩=some (.int .i64 y.low)∧w'.cell? ⟨b2,o2+k * 10+3,none⟩=some (.int .i64 y.high)∧w'.cell? ⟨b2,o2+k * 10+4,none⟩=some (.int .i64 y.max)∧w'.cell? ⟨b2,o2+k * 10+5,none⟩=some (.slice Bs y.syms.length ds)∧w'.cell? ⟨b2,o2+k * 10+6,none⟩=some (.slice Bm y.mems.length dm)∧w'.cell? ⟨b2,o2+k * 10+7,none⟩=some (.int .i64 y.key)∧w'.cell? ⟨b2,o2+k * 10+8,none⟩=some (.int .i64 y.elem)∧w'.cell? ⟨b2,o2+k * 10+9,none⟩=some (.bool y.open_))))∧Hid (Below W0.heap.size W0 w'∧TabAt w' W0.heap.size W0.heap.size rows T.1))) (by kernel_rfl) ?_ (fun zH_=>?_)
           ·(try dsimp only);exact G19.out wp.drew (zE HBP.out 1) HBT.out (HTA.out.below (zE (Below.refl _ _) 1))
           generalize wp.drew=wd at *
           refine tL 0 _ zH_ ?_
           try simp only[ps]
           refine tL 1 _ zH_ ?_
           try simp only[ps]
           refine tL 2 _ zH_ ?_
           try simp only[ps]
           refine tL 3 _ zH_ ?_
           try simp only[ps]
           refine tL 4 _ zH_ ?_
           try simp only[ps]
           refine tL 5 _ zH_ ?_
           try simp only[ps]
           refine tL 6 _ zH_ ?_
           try simp only[ps]
           refine tL 7 _ zH_ ?_
           try simp only[ps]
           refine tL 8 _ zH_ ?_
           try simp only[ps]
           refine tL 9 _ zH_ ?_
           try simp only[ps]
           refine tL 10 _ zH_ ?_
           try simp only[ps]
           refine tL 11 _ zH_ ?_
           try simp only[ps]
           refine tL 12 _ zH_ ?_
           try simp only[ps]
           refine tL 13 _ zH_ ?_
           try simp only[ps]
           refine tL 14 _ zH_ ?_
           try simp only[ps]
           refine tL 15 _ zH_ ?_
           try simp only[ps]
           refine tL 16 _ zH_ ?_
           try simp only[ps]
           refine tL 17 _ zH_ ?_
           try simp only[ps]
           refine tL 18 _ zH_ ?_
           try simp only[ps]
           refine tR 19 (fun K hK=>?_)
           go_simp
           (refine (rRelated_any x y As cs Am cm Bs ds Bm dm W0.heap.size W0.heap.size rows T.1 a.length b.length HNM2.out HRL.out HCL.out HULn.out HUXn.out HUYn.out _ (HTX.out.below zH_.2.out.1) (HTY.out.below zH_.2.out.1) zH_.2.out.2).mono ?_;rintro e w13 ⟨rfl,hbz⟩;rw[HUO.out])
           refine hK.out _ _ ?_ (fun zH_=>?_)
           ·(try dsimp only);exact G19.out _ (zA zH_.2.out.1 hbz) HBT.out (zH_.2.out.2.below hbz)
           clear hK K
           try simp only[ps]
           refine tL 20 _ zH_ ?_
           try simp only[ps]
           refine tL 21 _ zH_ ?_
           try simp only[ps]
           refine wpAnyH_done (by kernel_rfl) ?_ _
           have HB13:=zh zH_.2.out.1
           have HER:=zh zH_.2.out.2
           clear zH_
           go_wp2
           go_roundw
           case rel=>exact ⟨k+1,by omega,by go_num,(by rw[HSW.out];exact ⟨⟨rows,HER.out⟩,HQ1.out.inv,HB13.out⟩),(by rw[HSW.out])⟩
           case measure=>simp[intOf];omega
          | false =>
           have HUO:Hid (zR (getB T.1) (usesD x) (usesD y)=false):=by rw[←HOK2.out];exact hok
           have HST:=zh (strike_yes (ok:=okD a b) (s:=T) (i:=i) (k:=k) HBT.out hok)
           rw[HST.out] at HSW
           clear hok
           refine wp_region_held_drew (S:=(fun w'=>((w'.cell? ⟨W0.heap.size,i,none⟩=some (.slice (some ⟨gi,0,none⟩) b.length cg)∧w'.cell? ⟨gi,k,none⟩=some (.bool true))∧((w'.cell? ⟨w.heap.size,0,none⟩=some (.slice (some ⟨b1,o1,none⟩) a.length c)∧w'.cell? ⟨w.heap.size+1,0,none⟩=some (.slice (some ⟨b2,o2,none⟩) b.length d))∧(w'.cell? ⟨b1,o1+i * 10,none⟩=some (.int .i64 x.kind)∧w'.cell? ⟨b1,o1+i * 10+1,none⟩=some (.string x.name)∧w'.cell? ⟨b1,o1+i * 10+2,none⟩=some (.int .i64 x.low)∧w'.cell? ⟨b1,o1+i * 10+3,none⟩=some (.int .i64 x.high)∧w'.cell? ⟨b1,o1+i * 10+4,none⟩=some (.int .i64 x.max)∧w'.cell? ⟨b1,o1+i * 10+5,none⟩=some (.slice As x.syms.length cs)∧w'.cell? ⟨b1,o1+i * 10+6,none⟩=some (.slice Am x.mems.length cm)∧w'.cell? ⟨b1,o1+i * 10+7,none⟩=some (.int .i64 x.key)∧w'.cell? ⟨b1,o1+i * 10+8,none⟩=some (.int .i64 x.elem)∧w'.cell? ⟨b1,o1+i * 10+9,none⟩=some (.bool x.open_))∧(w'.cell? ⟨b2,o2+k * 10,none⟩=some (.int .i64 y.kind)∧w'.cell? ⟨b2,o2+k * 10+1,none⟩=some (.string y.name)∧w'.cell? ⟨b2,o2+k * 10+2,none⟩=some (.int .i64 y.low)∧w'.cell? ⟨b2,o2+k * 10+3,none⟩=some (.int .i64 y.high)∧w'.cell? ⟨b2,o2+k * 10+4,none⟩=some (.int .i64 y.max)∧w'.cell? ⟨b2,o2+k * 10+5,none⟩=some (.slice Bs y.syms.length ds)∧w'.cell? ⟨b2,o2+k * 10+6,none⟩=some (.slice Bm y.mems.length dm)∧w'.cell? ⟨b2,o2+k * 10+7,none⟩=some (.int .i64 y.key)∧w'.cell? ⟨b2,o2+k * 10+8,none⟩=some (.int .i64 y.elem)∧w'.cell? ⟨b2,o2+k * 10+9,none⟩=some (.bool y.open_))))∧Hid (Below W0.heap.size W0 w'∧TabAt w' W0.heap.size W0.heap.size rows T.1))) (by kernel_rfl) ?_ (fun zH_=>?_)
           ·(try dsimp only);exact G19.out wp.drew (zE HBP.out 1) HBT.out (HTA.out.below (zE (Below.refl _ _) 1))
           generalize wp.drew=wd at *
           refine tL 0 _ zH_ ?_
           try simp only[ps]
           refine tL 1 _ zH_ ?_
           try simp only[ps]
           refine tL 2 _ zH_ ?_
           try simp only[ps]
           refine tL 3 _ zH_ ?_
           try simp only[ps]
           refine tL 4 _ zH_ ?_
           try simp only[ps]
           refine tL 5 _ zH_ ?_
           try simp only[ps]
           refine tL 6 _ zH_ ?_
           try simp only[ps]
           refine tL 7 _ zH_ ?_
           try simp only[ps]
           refine tL 8 _ zH_ ?_
           try simp only[ps]
           refine tL 9 _ zH_ ?_
           try simp only[ps]
           refine tL 10 _ zH_ ?_
           try simp only[ps]
           refine tL 11 _ zH_ ?_
           try simp only[ps]
           refine tL 12 _ zH_ ?_
           try simp only[ps]
           refine tL 13 _ zH_ ?_
           try simp only[ps]
           refine tL 14 _ zH_ ?_
           try simp only[ps]
           refine tL 15 _ zH_ ?_
           try simp only[ps]
           refine tL 16 _ zH_ ?_
           try simp only[ps]
           refine tL 17 _ zH_ ?_
           try simp only[ps]
           refine tL 18 _ zH_ ?_
           try simp only[ps]
           refine tR 19 (fun K hK=>?_)
           go_simp
           (refine (rRelated_any x y As cs Am cm Bs ds Bm dm W0.heap.size W0.heap.size rows T.1 a.length b.length HNM2.out HRL.out HCL.out HULn.out HUXn.out HUYn.out _ (HTX.out.below zH_.2.out.1) (HTY.out.below zH_.2.out.1) zH_.2.out.2).mono ?_;rintro e w13 ⟨rfl,hbz⟩;rw[HUO.out])
           refine hK.out _ _ ?_ (fun zH_=>?_)
           ·(try dsimp only);exact G19.out _ (zA zH_.2.out.1 hbz) HBT.out (zH_.2.out.2.below hbz)
           clear hK K
           try simp only[ps]
           refine tL 20 _ zH_ ?_
           try simp only[ps]
           refine tL 21 _ zH_ ?_
           try simp only[ps]
           refine wpAnyH_done (by kernel_rfl) ?_ _
           have HB13:=zh zH_.2.out.1
           have HER:=zh zH_.2.out.2
           clear zH_
           obtain ⟨c1,c2⟩:=HOT.out w13 HER.out
           have hiM:i<T.1.length:=by rw[HRL.out];exact hlt
           have HMl:Hid ((T.1[i]).length=b.length):=HCL.out _ (List.getElem_mem hiM)
           obtain ⟨gi2,cg2,_,_,fz,hr2,_⟩:=HER.out.bit (k:=k) hiM (by rw[HMl.out];exact hlk)
           obtain ⟨e7,e8⟩:=row_same hr2 HROW.out
           subst e7;subst e8
           have HSTO:=zh (HER.out.store hiM (gi:=gi) (c:=cg) (by rw[HMl.out];exact HROW.out) k)
           have HTI2:=zh HTI.out
           rw[HST.out] at HTI2
           clear hr2
           go_wp2
           go_roundw
           case rel=>exact ⟨k+1,by omega,by go_num,(by rw[HSW.out];exact ⟨⟨rows,HSTO.out.1⟩,HTI2.out,below_setg HB13.out gi k HGI.out _⟩),(by rw[HSW.out])⟩
           case measure=>simp[intOf];omega
        ·have HNX:Hid (GSt names a b W0 (sweep (okD a b) (yA b.length (i+1) 0) (M,false)).1 wp):=by
          have:=hq.out
          rw[show k=b.length by omega,pairsTo_row] at this
          exact this
         have HKE:Hid (k=b.length):=by show _=_;omega
         obtain ⟨rows,hta⟩:=hq.out.tab
         have hiT:i<(sweep (okD a b) (yA b.length i k) (M,false)).1.length:=by rw[hq.out.inv.rows];exact hlt
         have hil:=hq.out.inv.cols _ (List.getElem_mem hiT)
         obtain ⟨v1,hv1,ho1,c1,_⟩:=hta.row hiT
         obtain ⟨A1,cc1,e1,_⟩:=ho1.reads
         rw[hil] at e1
         subst e1
         clear hq hta ho1 hv1
         go_wp2
         go_roundw
         case rel=>exact ⟨i+1,by omega,by go_num,HNX.out,(by rw[HKE.out,pairsTo_row])⟩
         case measure=>simp[intOf];omega
      ·have HIE:Hid (i=a.length):=by show _=_;omega
       have HC1:Hid (cntM (sweep (okD a b) (yA b.length a.length 0) (M,false)).1≤cntM M):=(sweep_cnt (okD a b) (yA b.length a.length 0) (M,false)).1
       have HC2:Hid ((sweep (okD a b) (yA b.length a.length 0) (M,false)).2=true→cntM (sweep (okD a b) (yA b.length a.length 0) (M,false)).1<cntM M):=(sweep_cnt (okD a b) (yA b.length a.length 0) (M,false)).2 rfl
       have HDN:=zh (fun h=>tab_done (alD names a b) (okD a b) HRQ.out.inv h)
       have hh2:=hh.out
       rw[HIE.out] at hh2 ⊢
       have HH2:=zh hh2
       clear hh hh2
       generalize sweep (okD a b) (yA b.length a.length 0) (M,false)=T at *
       go_wp2
       go_roundg (cntM T.1+(if T.2 then 1 else 0))
       case measure =>
        rw[HGK.out]
        have h1:=HC1.out
        have h2:=HC2.out
        cases hT2:T.2 with
        | true=>have:=h2 hT2;simp;omega
        | false=>simp;omega
       case rel=>exact ⟨T.2,T.1,rfl,HH2.out,rfl,fun h=>by have:=HDN.out h;rw[this.2];exact this.1⟩
end Go.Proofs.YtkhpajneinmmiaaGreatDoor


