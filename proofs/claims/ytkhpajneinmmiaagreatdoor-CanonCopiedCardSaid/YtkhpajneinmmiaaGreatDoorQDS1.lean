/-
  Walks: canon.Distinguish (written by gen_ds1.py).
-/
import Derived.Test.YtkhpajneinmmiaaGreatDoorQDSA
namespace Go.Proofs.YtkhpajneinmmiaaGreatDoor
open Go.RowKit
set_option maxHeartbeats 16000000
set_option maxRecDepth 100000
theorem two_boxesT (w:World) (x y:TyD) (As:Option Addr) (cs:Nat) (Am:Option Addr) (cm:Nat) (Bs:Option Addr) (ds:Nat) (Bm:Option Addr) (dm:Nat):TBox ((w.alloc (x.box As cs Am cm)).alloc (y.box Bs ds Bm dm)) w.heap.size x As cs Am cm∧TBox ((w.alloc (x.box As cs Am cm)).alloc (y.box Bs ds Bm dm)) (w.heap.size+1) y Bs ds Bm dm:=by
 refine ⟨yS (heap_alloc_new w _) _,?_⟩
 have h:=heap_alloc_new (w.alloc (x.box As cs Am cm)) (y.box Bs ds Bm dm)
 rw[show (w.alloc (x.box As cs Am cm)).heap.size=w.heap.size+1 by simp] at h
 exact h
theorem ds_start {a b:List TyD} {ta tb:Int} (h0:InP a b (ta,tb)) (W0:World):∃w4,(Instr.mapUpdate 104 (.map (some (W0.heap.size+1))) (.agg #[.int .i64 ta,.int .i64 tb]) (.bool true)).run Tryz.prog ((W0.alloc (.cells #[.slice none 0 0,.int .i64 ta,.int .i64 tb] 101)).alloc (.map #[] 0)) = .ok () w4 ∧
  Hid (DsSt a b (ta,tb) W0 [⟨[],none,0,(ta,tb)⟩] 0 [] (.slice (some ⟨W0.heap.size,0,none⟩) 1 1) w4):=by
 have hz:(W0.alloc (.cells #[.slice none 0 0,.int .i64 ta,.int .i64 tb] 101)).heap.size=W0.heap.size+1:=by simp
 have hn:=SetAt.new (ek:=pairV) (W0.alloc (.cells #[.slice none 0 0,.int .i64 ta,.int .i64 tb] 101))
 rw[hz] at hn
 obtain ⟨w4,h1,h2,h3,h4⟩:=hn.put (P:=Tryz.prog) (KT:=103) (MT:=104) (ET:=4) keyOk_pair Tryz.underlying104 (ta,tb)
 have hb:Below W0.heap.size W0 w4:=(zC W0 _ _).grown h3 (by simp;omega) (fun q hq=>by have:=Option.some.inj hq;omega)
 refine ⟨w4,h1,hb,h2,⟨⟨rfl,.inr ⟨W0.heap.size,1,#[.slice none 0 0,.int .i64 ta,.int .i64 tb],rfl,by omega,?_,Nat.le_refl _,by simp[maxLen],rfl,rfl⟩⟩,fun x hx=>?_⟩,BfI.init,by simp,fun x hx=>?_,fun j x hx=>?_⟩
 ·exact (zN h3 (by simp;omega) (fun k hk e=>by have:=Option.some.inj hk;omega)).trans (yS (heap_alloc_new W0 _) _)
 ·obtain rfl:x=⟨[],none,0,(ta,tb)⟩:=by simpa using hx
  exact fun u _=>RowsR.nil _ _ _ _ _
 ·obtain rfl:x=⟨[],none,0,(ta,tb)⟩:=by simpa using hx
  exact h0
 ·cases j with
  | zero =>
   obtain rfl:x=⟨[],none,0,(ta,tb)⟩:=(Option.some.inj hx).symm
   simp
  | succ j=>simp at hx
theorem way_cells {wr:World} {g:Nat} {Q:List WayA} (h:wr.rangeAt g 0 (Q.flatMap WayA.cells)) {k:Nat} {x:WayA} (hx:Q[k]? = some x):wr.cell? ⟨g,k * 3,none⟩=some (.slice x.A x.l.length x.c)∧wr.cell? ⟨g,k * 3+1,none⟩=some (.int .i64 x.p.1)∧wr.cell? ⟨g,k * 3+2,none⟩=some (.int .i64 x.p.2):=by
 have hr:=range_flat (k:=3) (fun _=>rfl) h hx
 rw[Nat.zero_add] at hr
 exact ⟨hr 0 _ rfl,hr 1 _ rfl,hr 2 _ rfl⟩
theorem tbox_cells {w':World} {b1 b2:Nat} {x y:TyD} {As:Option Addr} {cs:Nat} {Am:Option Addr} {cm:Nat} {Bs:Option Addr} {ds:Nat} {Bm:Option Addr} {dm:Nat} {P:Prop} (h1:TBox w' b1 x As cs Am cm) (h2:TBox w' b2 y Bs ds Bm dm) (hp:P) :
  ((w'.cell? ⟨b1,0,none⟩=some (.int .i64 x.kind)∧w'.cell? ⟨b1,1,none⟩=some (.string x.name)∧w'.cell? ⟨b1,2,none⟩=some (.int .i64 x.low)∧w'.cell? ⟨b1,3,none⟩=some (.int .i64 x.high)∧w'.cell? ⟨b1,4,none⟩=some (.int .i64 x.max)∧w'.cell? ⟨b1,5,none⟩=some (.slice As x.syms.length cs)∧w'.cell? ⟨b1,6,none⟩=some (.slice Am x.mems.length cm)∧w'.cell? ⟨b1,7,none⟩=some (.int .i64 x.key)∧w'.cell? ⟨b1,8,none⟩=some (.int .i64 x.elem)∧w'.cell? ⟨b1,9,none⟩=some (.bool x.open_))∧(w'.cell? ⟨b2,0,none⟩=some (.int .i64 y.kind)∧w'.cell? ⟨b2,1,none⟩=some (.string y.name)∧w'.cell? ⟨b2,2,none⟩=some (.int .i64 y.low)∧w'.cell? ⟨b2,3,none⟩=some (.int .i64 y.high)∧w'.cell? ⟨b2,4,none⟩=some (.int .i64 y.max)∧w'.cell? ⟨b2,5,none⟩=some (.slice Bs y.syms.length ds)∧w'.cell? ⟨b2,6,none⟩=some (.slice Bm y.mems.length dm)∧w'.cell? ⟨b2,7,none⟩=some (.int .i64 y.key)∧w'.cell? ⟨b2,8,none⟩=some (.int .i64 y.elem)∧w'.cell? ⟨b2,9,none⟩=some (.bool y.open_)))∧Hid (TBox w' b1 x As cs Am cm∧TBox w' b2 y Bs ds Bm dm∧P) :=
 ⟨⟨⟨h1.cell 0,h1.cell 1,h1.cell 2,h1.cell 3,h1.cell 4,h1.cell 5,h1.cell 6,h1.cell 7,h1.cell 8,h1.cell 9⟩,⟨h2.cell 0,h2.cell 1,h2.cell 2,h2.cell 3,h2.cell 4,h2.cell 5,h2.cell 6,h2.cell 7,h2.cell 8,h2.cell 9⟩⟩,h1,h2,hp⟩
theorem distinguish_any (a:List TyD) (ta:Int) (b:List TyD) (tb:Int) (A:Option Addr) (c:Nat) (B:Option Addr) (d:Nat) (w:World) (ha:TysR w A a) (hb:TysR w B b) :
  Calls Tryz.prog 26 #[rootV A a.length c ta,rootV B b.length d tb] w (DistPost a ta b tb w):=by
 have HA:=zh ha
 have HB:=zh hb
 clear ha hb
 have HT0:=zh (two_new w A a.length c ta B b.length d tb)
 by_cases e1:zH a ta=0
 case neg =>
  have q1:(zH a ta != 0)=true:=by simp[e1]
  have HN:Hid (DistIs a ta b tb [] (zH a ta)):=by show DistIs _ _ _ _ _ _;unfold DistIs;rw[if_pos e1];exact ⟨rfl,rfl⟩
  clear e1
  go_enter Tryz.func26,Tryz.ntmps26
  go_wp2_with fail
  refine (check_any a ta A c _ (HA.out.below HT0.out.bel)).mono ?_
  rintro e w2 ⟨rfl,hb2⟩
  have HB2:=zh (zA HT0.out.bel hb2)
  clear hb2
  go_wp2
  go_ret2
  exact ⟨none,0,[],_,rfl,RowsR.nil _ _ _ _ _,HN.out,HB2.out⟩
 have q1:(zH a ta != 0)=false:=by simp[e1]
 by_cases e2:zH b tb=0
 case neg =>
  have q2:(zH b tb != 0)=true:=by simp[e2]
  have HE1:=zh e1
  have HN:Hid (DistIs a ta b tb [] (zH b tb)):=by show DistIs _ _ _ _ _ _;unfold DistIs;rw[if_neg (by simp[e1]),if_pos e2];exact ⟨rfl,rfl⟩
  clear e1 e2
  go_enter Tryz.func26,Tryz.ntmps26
  go_wp2_with fail
  refine (check_any a ta A c _ (HA.out.below HT0.out.bel)).mono ?_
  rintro e w2 ⟨rfl,hb2⟩
  rw[HE1.out]
  obtain ⟨⟨_,_,k2,k3⟩,_⟩:=yB (HT0.out.below hb2)
  have HT2:=zh (HT0.out.below hb2)
  clear hb2
  go_wp2_with fail
  refine (check_any b tb B d _ (HB.out.below HT2.out.bel)).mono ?_
  rintro e w3 ⟨rfl,hb3⟩
  have HB3:=zh (zA HT2.out.bel hb3)
  clear hb3
  go_wp2
  go_ret2
  exact ⟨none,0,[],_,rfl,RowsR.nil _ _ _ _ _,HN.out,HB3.out⟩
 have q2:(zH b tb != 0)=false:=by simp[e2]
 obtain ⟨va,ha0,ha1⟩:=root_ok e1
 obtain ⟨vb,hb0,hb1⟩:=root_ok e2
 have HE1:=zh e1
 have HE2:=zh e2
 have HVA:=zh va
 have HVB:=zh vb
 have la:=valid_len va
 have lb:=valid_len vb
 have HIN:Hid (InP a b (ta,tb)):=zh ⟨⟨ha0,ha1⟩,hb0,hb1⟩
 have HDI:Hid (∀l err,(err=0∧Best (NxE a b) (BadP a b) (ta,tb) l)∨(err=15∧l=[]∧∀l t,Wk (NxE a b) (ta,tb) l t→¬ BadP a b t)→DistIs a ta b tb l err):=fun l err h=>by
  unfold DistIs;rw[if_neg (by simp[e1]),if_neg (by simp[e2])];exact h
 clear e1 e2 va vb ha0 ha1 hb0 hb1
 go_enter Tryz.func26,Tryz.ntmps26
 go_wp2_with fail
 refine (check_any a ta A c _ (HA.out.below HT0.out.bel)).mono ?_
 rintro e w2 ⟨rfl,hb2⟩
 rw[HE1.out]
 obtain ⟨⟨_,_,k2,k3⟩,_⟩:=yB (HT0.out.below hb2)
 have HT2:=zh (HT0.out.below hb2)
 clear hb2
 go_wp2_with fail
 refine (check_any b tb B d _ (HB.out.below HT2.out.bel)).mono ?_
 rintro e W0 ⟨rfl,hb3⟩
 rw[HE2.out]
 have HT3:=zh (HT2.out.below hb3)
 obtain ⟨⟨r0,r1,r2,r3⟩,_⟩:=yB HT3.out
 have z1:=zF r0
 have z2:=zF r2
 simp only at z1 z2
 obtain ⟨w4,hp4,hst⟩:=ds_start HIN.out W0
 have hmm:=@run_makeMap Tryz.prog
 clear hb3 k2 k3 HT2
 go_wp2_with fail
 have HST:=zh hst.out
 clear hst hp4 hmm r0 r1 r2 r3
 go_loopw [8,10] (fun v i wr=>∃ (k:Nat) (Q:List WayA),i = .int .i64 k∧k≤1024∧Hid (k≤Q.length∧DsSt a b (ta,tb) W0 Q k [] v wr)) (fun _ i _=>1024 - (intOf i).toNat)
 case atStart=>exact ⟨0,_,rfl,by omega,Nat.zero_le _,HST.out⟩
 case round =>
  obtain ⟨k,Q,rfl,hk,hh⟩:=hrel
  obtain ⟨wo,rfl⟩:∃wo:World,wo=wr:=⟨_,rfl⟩
  have hql:=hh.out.2.qlen la lb
  obtain ⟨Av,cv,rfl,_,_,hrd⟩:=OwnL.reads hh.out.2.que.own
  have HTO:=zh (HT3.out.below hh.out.2.bel)
  have HDS:=zh hh.out.2
  by_cases hlt:k<Q.length
  case neg =>
   have HNO:Hid (DistIs a ta b tb [] 15):=HDI.out _ _ (.inr ⟨rfl,rfl,hh.out.2.bfi.safe (by rw[List.length_map];omega)⟩)
   clear hh hrd
   go_wp2
   go_ret2
   exact ⟨none,0,[],_,rfl,RowsR.nil _ _ _ _ _,HNO.out,HTO.out.bel⟩
  obtain ⟨g,rfl,_,hrg⟩:=hrd (fun e=>by rw[e] at hlt;simp at hlt)
  obtain ⟨x,hx⟩:∃x,Q[k]? = some x:=⟨_,zl hlt⟩
  obtain ⟨c0,c1,c2⟩:=way_cells hrg hx
  have hin:=HDS.out.inp x (List.mem_of_getElem? hx)
  obtain ⟨xl,xA,xc,xp,xq⟩:=x
  obtain ⟨⟨hp0,hp1⟩,hq0,hq1⟩:=hin
  simp only at c0 c1 c2 hp0 hp1 hq0 hq1
  obtain ⟨pn,rfl⟩:=Int.eq_ofNat_of_zero_le hp0
  obtain ⟨qn,rfl⟩:=Int.eq_ofNat_of_zero_le hq0
  have hpa:pn<a.length:=by omega
  have hqb:qn<b.length:=by omega
  have HX:=zh hx
  obtain ⟨b1,o1,As,cs,Am,cm,rfl,htr,t0,t1,t2,t3,t4,t5,t6,t7,t8,t9⟩:=(HA.out.below HTO.out.bel).at10 hpa
  obtain ⟨b2,o2,Bs,ds,Bm,dm,rfl,htr2,s0,s1,s2,s3,s4,s5,s6,s7,s8,s9⟩:=(HB.out.below HTO.out.bel).at10 hqb
  have HTR:=zh htr
  have HTR2:=zh htr2
  obtain ⟨⟨r0,_,r2,_⟩,_⟩:=yB HTO.out
  have h1:(0:Int)≤(k:Int):=by omega
  have h2:(k:Int)<(Q.length:Int):=by omega
  have h3:(0:Int)≤(pn:Int):=by omega
  have h4:(pn:Int)<(a.length:Int):=by omega
  have h5:(0:Int)≤(qn:Int):=by omega
  have h6:(qn:Int)<(b.length:Int):=by omega
  have y1:=zF r0
  have y2:=zF r2
  have y3:=zF t0
  have y4:=zF s0
  have y5:=zF c0
  simp only at y1 y2 y3 y4 y5
  clear hh hrg htr htr2 hx hp0 hp1 hq0 hq1
  go_upto_region 13 with fail
  have HWB:=zh (heap_alloc_new wo (.cells #[.slice xA xl.length xc,.int .i64 (pn:Int),.int .i64 (qn:Int)] 101))
  have HBB:=zh (zD wo (.cells #[.slice xA xl.length xc,.int .i64 (pn:Int),.int .i64 (qn:Int)] 101))
  replace r0:=zB HBB.out r0
  replace r2:=zB HBB.out r2
  replace t0:=zB HBB.out t0
  replace t1:=zB HBB.out t1
  replace t2:=zB HBB.out t2
  replace t3:=zB HBB.out t3
  replace t4:=zB HBB.out t4
  replace t5:=zB HBB.out t5
  replace t6:=zB HBB.out t6
  replace t7:=zB HBB.out t7
  replace t8:=zB HBB.out t8
  replace t9:=zB HBB.out t9
  replace s0:=zB HBB.out s0
  replace s1:=zB HBB.out s1
  replace s2:=zB HBB.out s2
  replace s3:=zB HBB.out s3
  replace s4:=zB HBB.out s4
  replace s5:=zB HBB.out s5
  replace s6:=zB HBB.out s6
  replace s7:=zB HBB.out s7
  replace s8:=zB HBB.out s8
  replace s9:=zB HBB.out s9
  have x0:(wo.alloc (.cells #[.slice xA xl.length xc,.int .i64 (pn:Int),.int .i64 (qn:Int)] 101)).cell? ⟨wo.heap.size,0,none⟩=some (.slice xA xl.length xc):=by rw[cell_of_row _ _ _ _ _ _ HWB.out];rfl
  have x1:(wo.alloc (.cells #[.slice xA xl.length xc,.int .i64 (pn:Int),.int .i64 (qn:Int)] 101)).cell? ⟨wo.heap.size,1,none⟩=some (.int .i64 (pn:Int)):=by rw[cell_of_row _ _ _ _ _ _ HWB.out];rfl
  have x2:(wo.alloc (.cells #[.slice xA xl.length xc,.int .i64 (pn:Int),.int .i64 (qn:Int)] 101)).cell? ⟨wo.heap.size,2,none⟩=some (.int .i64 (qn:Int)):=by rw[cell_of_row _ _ _ _ _ _ HWB.out];rfl
  replace HTR:=zh (HTR.out.below HBB.out)
  replace HTR2:=zh (HTR2.out.below HBB.out)
  have HDW:=zh (HDS.out.below HBB.out)
  clear c0 c1 c2 y1 y2 y3 y4 y5
  generalize (wo.alloc (.cells #[.slice xA xl.length xc,.int .i64 (pn:Int),.int .i64 (qn:Int)] 101))=wb at *
  have y1:=zF r0
  have y2:=zF r2
  have y3:=zF t0
  have y4:=zF s0
  have y5:=zF x0
  simp only at y1 y2 y3 y4 y5
  go_cut [12,13] (fun s12 s13 wx=>∃p12 p13:Nat,s12 = .pointer (some ⟨p12,0,none⟩)∧s13 = .pointer (some ⟨p13,0,none⟩)∧Hid (TBox wx p12 a[pn] As cs Am cm∧TBox wx p13 b[qn] Bs ds Bm dm∧Below wb.heap.size wb wx))
  case first =>
   as_aux_lemma =>
   go_region
   all_goals (go_wp2_with fail;go_meet;first|exact ⟨wb.heap.size,wb.heap.size+1,rfl,rfl,(two_boxesT wb _ _ _ _ _ _ _ _ _ _).1,(two_boxesT wb _ _ _ _ _ _ _ _ _ _).2,zE (zC _ _ _) 1⟩|exact ⟨wb.heap.size+1,wb.heap.size,rfl,rfl,(two_boxesT wb _ _ _ _ _ _ _ _ _ _).2,(two_boxesT wb _ _ _ _ _ _ _ _ _ _).1,zE (zC _ _ _) 1⟩)
  case rest =>
  obtain ⟨p12,p13,rfl,rfl,hcx⟩:=hcut
  have HB12:=zh hcx.out.1
  have HB13:=zh hcx.out.2.1
  have HBX:=zh hcx.out.2.2
  obtain ⟨⟨u0,u1,u2,u3,u4,u5,u6,u7,u8,u9⟩,⟨v0,v1,v2,v3,v4,v5,v6,v7,v8,v9⟩⟩:=(tbox_cells HB12.out HB13.out trivial).1
  have HW0:=zh x0
  clear hcx r0 r2 t0 t1 t2 t3 t4 t5 t6 t7 t8 t9 s0 s1 s2 s3 s4 s5 s6 s7 s8 s9 x0 x1 x2 y1 y2 y3 y4 y5
  go_wp2_with fail
  refine (alike_any false a[pn] b[qn] As cs Am cm Bs ds Bm dm _ (HTR.out.below HBX.out) (HTR2.out.below HBX.out)).mono ?_
  rintro e w6 ⟨rfl,hb6⟩
  have HB6:=zh (zA HBX.out hb6)
  have HT12:=zh (HB12.out.below hb6)
  have HT13:=zh (HB13.out.below hb6)
  have HW6:=zh (zB HB6.out HW0.out)
  have HD6:=zh (HDW.out.below HB6.out)
  have HQK:Hid ((Q.map WayA.w)[k]? = some (xl,((pn:Int),(qn:Int)))):=by show _=_;rw[List.getElem?_map,HX.out];rfl
  have hea:tyAt a (pn:Int)=a[pn]:=tyAt_nat hpa
  have heb:tyAt b (qn:Int)=b[qn]:=tyAt_nat hqb
  have HEA:=zh hea
  have HEB:=zh heb
  clear hb6 u0 u1 u2 u3 u4 u5 u6 u7 u8 u9 v0 v1 v2 v3 v4 v5 v6 v7 v8 v9 hea heb
  cases hal:zM false a[pn] b[qn] with
  | false =>
   have HNO:Hid (DistIs a ta b tb xl 0):=HDI.out _ _ (.inl ⟨rfl,HD6.out.bfi.bad HQK.out (by unfold BadP;rw[HEA.out,HEB.out];exact hal)⟩)
   have HXI:Hid (IntsR w6 xA xl):=(HD6.out.que.off _ (List.mem_of_getElem? HX.out)).out
   have x0:=HW6.out
   clear hal
   go_wp2
   go_ret2
   exact ⟨xA,xc,xl,0,rfl,HXI.out,HNO.out,zA HTO.out.bel (zA HBB.out HB6.out)⟩
  | true =>
   have HAL:Hid (zM false (tyAt a (pn:Int)) (tyAt b (qn:Int))=true):=by show _=_;rw[HEA.out,HEB.out];exact hal
   clear hal
   go_wp2_with fail
   refine wp_region_held_drew (S:=(fun w'=>((w'.cell? ⟨p12,0,none⟩=some (.int .i64 (a[pn]).kind)∧w'.cell? ⟨p12,1,none⟩=some (.string (a[pn]).name)∧w'.cell? ⟨p12,2,none⟩=some (.int .i64 (a[pn]).low)∧w'.cell? ⟨p12,3,none⟩=some (.int .i64 (a[pn]).high)∧w'.cell? ⟨p12,4,none⟩=some (.int .i64 (a[pn]).max)∧w'.cell? ⟨p12,5,none⟩=some (.slice As (a[pn]).syms.length cs)∧w'.cell? ⟨p12,6,none⟩=some (.slice Am (a[pn]).mems.length cm)∧w'.cell? ⟨p12,7,none⟩=some (.int .i64 (a[pn]).key)∧w'.cell? ⟨p12,8,none⟩=some (.int .i64 (a[pn]).elem)∧w'.cell? ⟨p12,9,none⟩=some (.bool (a[pn]).open_))∧(w'.cell? ⟨p13,0,none⟩=some (.int .i64 (b[qn]).kind)∧w'.cell? ⟨p13,1,none⟩=some (.string (b[qn]).name)∧w'.cell? ⟨p13,2,none⟩=some (.int .i64 (b[qn]).low)∧w'.cell? ⟨p13,3,none⟩=some (.int .i64 (b[qn]).high)∧w'.cell? ⟨p13,4,none⟩=some (.int .i64 (b[qn]).max)∧w'.cell? ⟨p13,5,none⟩=some (.slice Bs (b[qn]).syms.length ds)∧w'.cell? ⟨p13,6,none⟩=some (.slice Bm (b[qn]).mems.length dm)∧w'.cell? ⟨p13,7,none⟩=some (.int .i64 (b[qn]).key)∧w'.cell? ⟨p13,8,none⟩=some (.int .i64 (b[qn]).elem)∧w'.cell? ⟨p13,9,none⟩=some (.bool (b[qn]).open_)))∧Hid (TBox w' p12 a[pn] As cs Am cm∧TBox w' p13 b[qn] Bs ds Bm dm∧Below w6.heap.size w6 w'))) (by kernel_rfl) ?_ (fun zH_=>?_)
   ·(try dsimp only);exact tbox_cells (HT12.out.below (zE (Below.refl _ _) 1)) (HT13.out.below (zE (Below.refl _ _) 1)) (zE (Below.refl _ _) 1)
   refine tL 0 _ zH_ ?_
   try simp only[ps]
   refine tL 2 _ zH_ ?_
   try simp only[ps]
   refine tR 1 (fun K hK=>?_)
   go_simp
   (refine (cnUses_any a[pn] As cs Am cm _ ((HTR.out.below HB6.out).below zH_.2.out.2.2)).mono ?_;rintro e w7 ⟨vL,rfl,hoL,hb7⟩;have HOL:=zh (OwnL.base hoL zH_.2.out.2.2.size);have HLB:=zh (fun q hq=>(World.ownsRow.lt hoL q hq).2);have HB7:=zh (zA zH_.2.out.2.2 hb7);have HB7':=zh hb7;clear hoL hb7)
   refine hK.out _ _ ?_ (fun zH_=>?_)
   ·(try dsimp only);exact tbox_cells (zH_.2.out.1.below HB7'.out) (zH_.2.out.2.1.below HB7'.out) HB7.out
   clear hK K
   try simp only[ps]
   refine tR 3 (fun K hK=>?_)
   go_simp
   (refine (cnUses_any b[qn] Bs ds Bm dm _ ((HTR2.out.below HB6.out).below zH_.2.out.2.2)).mono ?_;rintro e w8 ⟨vM,rfl,hoM,hb8⟩;have HOM:=zh hoM;have HB8:=zh (zA zH_.2.out.2.2 hb8);have HB8':=zh hb8;clear hoM hb8)
   refine hK.out _ _ ?_ (fun zH_=>?_)
   ·(try dsimp only);exact tbox_cells (zH_.2.out.1.below HB8'.out) (zH_.2.out.2.1.below HB8'.out) HB8.out
   clear hK K
   try simp only[ps]
   refine tL 4 _ zH_ ?_
   try simp only[ps]
   refine tL 5 _ zH_ ?_
   try simp only[ps]
   refine wpAnyH_done (by kernel_rfl) ?_ _
   have HL8:=zh (HOL.out.below HB8'.out)
   have HLU:Hid ((usesD a[pn]).length≤1000000∧(usesD b[qn]).length≤1000000):=⟨uses_few (valid_tys HVA.out (List.getElem_mem hpa)).1,uses_few (valid_tys HVB.out (List.getElem_mem hqb)).1⟩
   clear zH_
   go_wp2_with fail
   refine (sortU_any (usesD a[pn]) HLU.out.1 _ _ _ HL8.out).mono ?_
   rintro e w9 ⟨rfl,L,hoL,hpL,hsL,hg9⟩
   have HM9:Hid (OwnL 89 2 encP w9 w7.heap.size vM (usesD b[qn])):=HOM.out.grown hg9 fun q hq e=>by
    have h1:=HLB.out q hq
    have h2:=HOM.out.lt q e
    omega
   have HG9:Hid (Below w6.heap.size w6 w9):=HB8.out.grown hg9 HB8.out.size HL8.out.lt
   have HL9:=zh hoL
   have HPL:=zh hpL
   have HSL:=zh hsL
   clear hoL hpL hsL hg9
   go_wp2_with fail
   refine (sortU_any (usesD b[qn]) HLU.out.2 _ _ _ HM9.out).mono ?_
   rintro e w10 ⟨rfl,M,hoM,hpM,hsM,hg10⟩
   have HL10:Hid (OwnL 89 2 encP w10 w6.heap.size vL L):=HL9.out.grown hg10 fun q hq e=>by
    have h1:=HLB.out q e
    have h2:=HM9.out.lt q hq
    omega
   have HG10:Hid (Below w6.heap.size w6 w10):=HG9.out.grown hg10 HG9.out.size fun q hq=>by have:=HM9.out.lt q hq;have:=HB7.out.size;omega
   have HM10:=zh (OwnL.base hoM HB7.out.size)
   have HZ:Hid (ZipOk a b ((pn:Int),(qn:Int)) L M):=zip_ok HAL.out (by simp only;rw[HEA.out];exact (valid_tys HVA.out (List.getElem_mem hpa)).1) (by simp only;rw[HEB.out];exact (valid_tys HVB.out (List.getElem_mem hqb)).1) (by simp only;rw[HEA.out];exact HPL.out) (by simp only;rw[HEB.out];exact hpM) (HSL.out.imp fun h=>by omega) (hsM.imp fun h=>by omega)
   have hLn:L.length≤1000000:=by rw[HPL.out.length_eq];exact HLU.out.1
   have hMn:M.length=L.length:=HZ.out.len.symm
   obtain ⟨AL,cL,rfl,_⟩:=OwnL.reads HL10.out
   obtain ⟨AM,cM,rfl,_⟩:=OwnL.reads HM10.out
   have HD10:=zh (HD6.out.below HG10.out)
   have HR10:Hid (DsRows w6.heap.size wo.heap.size AL cL L AM cM M (.slice xA xl.length xc) (.slice (some ⟨g,0,none⟩) Q.length cv) w10):=zh ⟨HL10.out,HM10.out,zB HG10.out HW6.out,fun e=>by have:=(World.ownsRow.lt HDS.out.que.own _ e).2;omega⟩
   clear hoM hpM hsM hg10
   go_wp2_with fail
   go_loopw [8,85] (fun v j wr=>∃ (m:Nat) (Q2:List WayA),m≤L.length∧j = .int .i64 m∧Hid (DsSt a b (ta,tb) W0 Q2 k ((zipU L M).take m) v wr∧Q2[k]? = some ⟨xl,xA,xc,((pn:Int),(qn:Int))⟩∧DsRows w6.heap.size wo.heap.size AL cL L AM cM M (.slice xA xl.length xc) v wr)) (fun _ j _=>L.length - (intOf j).toNat)
   case atStart=>exact ⟨0,Q,by omega,rfl,HD10.out,HX.out,HR10.out⟩
   case round =>
    obtain ⟨m,Q2,hm,rfl,hh⟩:=hrel
    obtain ⟨wi,rfl⟩:∃wi:World,wi=wr:=⟨_,rfl⟩
    have hql2:=hh.out.1.qlen la lb
    obtain ⟨A2,c2,rfl,_⟩:=OwnL.reads hh.out.1.que.own
    have HDI2:=zh hh.out.1
    have HQK2:=zh hh.out.2.1
    have HRW:=zh hh.out.2.2
    clear hh
    by_cases hlm:m<L.length
    case neg =>
     obtain rfl:m=L.length:=by omega
     have HNX:Hid (DsSt a b (ta,tb) W0 Q2 (k+1) [] (.slice A2 Q2.length c2) wi):=HDI2.out.next HQK2.out HAL.out fun st t he=>by
      rw[List.take_of_length_le (by rw[zipU_len HZ.out.len];exact Nat.le_refl _)]
      exact HZ.out.all st t he
     have hkq:k+1≤Q2.length:=(List.getElem?_eq_some_iff.1 HQK2.out).1
     go_wp2
     go_roundw
     case rel=>exact ⟨k+1,Q2,by go_num,by omega,hkq,HNX.out⟩
     case measure=>simp[intOf];omega
    obtain ⟨A',c',e,hpr⟩:=own_pairs HRW.out.l (by unfold Lim;omega)
    cases e
    obtain ⟨gL,oL,rfl,l0,l1⟩:=hpr.at2 hlm
    have hlm':m<M.length:=by omega
    obtain ⟨A'',c'',e,hpr2⟩:=own_pairs HRW.out.m (by unfold Lim;omega)
    cases e
    obtain ⟨gM,oM,rfl,_,m1⟩:=hpr2.at2 hlm'
    have hz:m<(zipU L M).length:=by rw[zipU_len HZ.out.len];exact hlm
    have hzg:=zipU_get hlm hlm' hz
    have HTK:Hid ((zipU L M).take (m+1)=(zipU L M).take m++[((L[m]).1,((L[m]).2,(M[m]).2))]):=by show _=_;rw[List.take_succ_eq_append_getElem hz,hzg]
    have HNE:Hid (NxE a b ((pn:Int),(qn:Int)) (L[m]).1 ((L[m]).2,(M[m]).2)):=by have:=HZ.out.nx m hz;rw[hzg] at this;exact this
    have HAS:Hid (∀y∈(zipU L M).take m,y.1<(L[m]).1):=fun y hy=>by
     obtain ⟨i,hi,rfl⟩:=List.getElem_of_mem hy
     have hi':i<m:=by rw[List.length_take] at hi;omega
     have:=HZ.out.asc i m hz hi'
     rw[hzg] at this
     rw[List.getElem_take];exact this
    have h7:(0:Int)≤(m:Int):=by omega
    have h8:(m:Int)<(L.length:Int):=by omega
    have h9:(m:Int)<(M.length:Int):=by omega
    have z3:=zF l0
    have z4:=zF m1
    simp only at z3 z4
    have HUB:=zh (heap_alloc_new wi (.cells #[.int .i64 (L[m]).1,.int .i64 (L[m]).2] 89))
    have HUW:=zh (zD wi (.cells #[.int .i64 (L[m]).1,.int .i64 (L[m]).2] 89))
    have HUZ:Hid ((wi.alloc (.cells #[.int .i64 (L[m]).1,.int .i64 (L[m]).2] 89)).heap.size=wi.heap.size+1):=by show _=_;simp
    have HM1:=zh m1
    clear hpr hpr2 hz hzg
    go_wp2_with fail
    replace HM1:=zh (zB HUW.out HM1.out)
    clear l0 l1 m1 z3 z4
    generalize wi.alloc (.cells #[.int .i64 (L[m]).1,.int .i64 (L[m]).2] 89)=wu at *
    have HU1:Hid (wu.cell? ⟨wi.heap.size,1,none⟩=some (.int .i64 (L[m]).2)):=by show _=_;rw[cell_of_row _ _ _ _ _ _ HUB.out];rfl
    refine wp_region_held_drew (S:=(fun w'=>(w'.cell? ⟨wi.heap.size,1,none⟩=some (.int .i64 (L[m]).2)∧w'.cell? ⟨gM,oM+m * 2+1,none⟩=some (.int .i64 (M[m]).2))∧Hid (Below wu.heap.size wu w'))) (by kernel_rfl) ?_ (fun zH_=>?_)
    ·(try dsimp only);exact ⟨⟨HU1.out,HM1.out⟩,zE (Below.refl _ _) 1⟩
    refine tL 0 _ zH_ ?_
    try simp only[ps]
    refine tL 1 _ zH_ ?_
    try simp only[ps]
    refine tL 2 _ zH_ ?_
    try simp only[ps]
    refine tL 3 _ zH_ ?_
    try simp only[ps]
    refine tL 4 _ zH_ ?_
    try simp only[ps]
    refine tL 5 _ zH_ ?_
    try simp only[ps]
    refine tL 6 _ zH_ ?_
    try simp only[ps]
    refine tL 7 _ zH_ ?_
    try simp only[ps]
    refine tR 8 (fun K hK=>?_)
    go_simp
    refine hK.out _ _ ?_ (fun zH_=>?_)
    ·(try dsimp only);exact ⟨⟨zB (zA zH_.2.out (zD _ _)) HU1.out,zB (zA zH_.2.out (zD _ _)) HM1.out⟩,zA zH_.2.out (zD _ _)⟩
    clear hK K
    try simp only[ps]
    refine tR 9 (fun K hK=>?_)
    (simp only[List.getElem_toArray,List.getElem_cons_zero,List.getElem_cons_succ];rw[if_pos (by rfl)];refine wp_store_mid 103 (.tmp 19) (.tmp 97) rfl (wu.heap.size) (0) (#[.int .i64 (L[m]).2,.int .i64 (M[m]).2]) (by rfl) (by rfl) ?_ ?_ ?_ ?_;(exact pair_there (heap_alloc_new wu.drew _));(exact pair_info);(exact (by simp[Value.oneCell'])))
    refine hK.out _ _ ?_ (fun zH_=>?_)
    ·(try dsimp only);exact ⟨⟨zB (zV (B:=wu.heap.size) wu.heap.size (Nat.le_refl _) _ _ _ zH_.2.out) HU1.out,zB (zV (B:=wu.heap.size) wu.heap.size (Nat.le_refl _) _ _ _ zH_.2.out) HM1.out⟩,zV (B:=wu.heap.size) wu.heap.size (Nat.le_refl _) _ _ _ zH_.2.out⟩
    clear hK K
    try simp only[ps]
    refine wpAnyH_done (by kernel_rfl) ?_ _
    have HPR:Hid (((wu.alloc (.cells #[.int .i64 0,.int .i64 0] 103)).drew.setCells wu.heap.size 0 [.int .i64 (L[m]).2,.int .i64 (M[m]).2]).heap[wu.heap.size]? = some (.cells #[.int .i64 (L[m]).2,.int .i64 (M[m]).2] 103 (0,0))):=pair_set (w:=(wu.alloc (.cells #[.int .i64 0,.int .i64 0] 103)).drew) (heap_alloc_new wu _)
    have HBW:Hid (Below wu.heap.size wu ((wu.alloc (.cells #[.int .i64 0,.int .i64 0] 103)).drew.setCells wu.heap.size 0 [.int .i64 (L[m]).2,.int .i64 (M[m]).2])):=zH_.2.out
    clear zH_
    generalize (wu.alloc (.cells #[.int .i64 0,.int .i64 0] 103)).drew.setCells wu.heap.size 0 [.int .i64 (L[m]).2,.int .i64 (M[m]).2]=w11 at *
    have f0:w11.cell? ⟨wu.heap.size,0,none⟩=some (.int .i64 (L[m]).2):=by rw[cell_of_row _ _ _ _ _ _ HPR.out];rfl
    have f1:w11.cell? ⟨wu.heap.size,1,none⟩=some (.int .i64 (M[m]).2):=by rw[cell_of_row _ _ _ _ _ _ HPR.out];rfl
    have HD11:=zh ((HDI2.out.below HUW.out).below HBW.out)
    have HR11:=zh ((HRW.out.below HUW.out).below HBW.out)
    have hlk:(Instr.lookup 104 (.map (some (W0.heap.size+1))) (.agg #[.int .i64 (L[m]).2,.int .i64 (M[m]).2]) false).run Tryz.prog w11 = .ok (.bool (memD ((L[m]).2,(M[m]).2) (Q2.map (·.p)))) w11:=HD11.out.set.look (P:=Tryz.prog) (KT:=103) (MT:=104) (ET:=4) keyOk_pair Tryz.underlying104 zeroBool ((L[m]).2,(M[m]).2)
    by_cases hmem:((L[m]).2,(M[m]).2)∈Q2.map (·.p)
    ·rw[memD_iff.2 hmem] at hlk
     have HNX:=zh (HD11.out.old HQK2.out HAS.out hmem)
     clear hmem
     go_wp2
     go_roundw
     case rel=>exact ⟨m+1,Q2,by omega,by go_num,(by rw[HTK.out];exact HNX.out),HQK2.out,HR11.out⟩
     case measure=>simp[intOf];omega
    ·have hmf:memD ((L[m]).2,(M[m]).2) (Q2.map (·.p))=false:=by
      cases h:memD ((L[m]).2,(M[m]).2) (Q2.map (·.p)) with
      | false=>rfl
      | true=>exact absurd (memD_iff.1 h) hmem
     rw[hmf] at hlk
     have HNM:=zh hmem
     obtain ⟨w12,hp12,hs12,hg12,hz12⟩:=HD11.out.set.put (P:=Tryz.prog) (KT:=103) (MT:=104) (ET:=4) keyOk_pair Tryz.underlying104 ((L[m]).2,(M[m]).2)
     have hp12':(Instr.mapUpdate 104 (.map (some (W0.heap.size+1))) (.agg #[.int .i64 (L[m]).2,.int .i64 (M[m]).2]) (.bool true)).run Tryz.prog w11 = .ok () w12:=hp12
     have HS12:=zh hs12
     have HG12:=zh hg12
     have HZ12:=zh hz12
     have hpm:W0.heap.size+1<wo.heap.size:=HDS.out.set.blt
     have hwi:wo.heap.size<wi.heap.size:=by have:=zF HRW.out.cell;simpa using this
     have hk12:∀q,q≠W0.heap.size+1→q<w11.heap.size→w12.heap[q]? = w11.heap[q]? := fun q hq hl=>zN hg12 hl fun k hk e=>hq (by rw[e];exact (Option.some.inj hk).symm)
     have hpl:=(zg.1 HPR.out).1
     have huz:=HUZ.out
     have HC1:Hid (w12.cell? ⟨wo.heap.size,0,none⟩=some (.slice xA xl.length xc)):=by
      show _=_
      rw[World.cell?_of_block (w:=w11) (w':=w12) (a:=⟨wo.heap.size,0,none⟩) (hk12 _ (by simp only;omega) (by simp only;omega))];exact HR11.out.cell
     have HC2:Hid (w12.cell? ⟨wi.heap.size,0,none⟩=some (.int .i64 (L[m]).1)):=by
      show _=_
      rw[World.cell?_of_block (w:=w11) (w':=w12) (a:=⟨wi.heap.size,0,none⟩) (hk12 _ (by simp only;omega) (by simp only;omega))]
      refine zB HBW.out ?_
      rw[cell_of_row _ _ _ _ _ _ HUB.out];rfl
     have HC3:Hid (w12.cell? ⟨wu.heap.size,0,none⟩=some (.int .i64 (L[m]).2)):=by
      show _=_
      rw[World.cell?_of_block (w:=w11) (w':=w12) (a:=⟨wu.heap.size,0,none⟩) (hk12 _ (by simp only;omega) (by simp only;omega))];exact f0
     have HC4:Hid (w12.cell? ⟨wu.heap.size,1,none⟩=some (.int .i64 (M[m]).2)):=by
      show _=_
      rw[World.cell?_of_block (w:=w11) (w':=w12) (a:=⟨wu.heap.size,1,none⟩) (hk12 _ (by simp only;omega) (by simp only;omega))];exact f1
     have HLTS:Hid (wo.heap.size<w12.heap.size∧wi.heap.size<w12.heap.size∧wu.heap.size<w12.heap.size):=⟨by omega,by omega,by omega⟩
     have HXI:Hid (IntsR w12 xA xl):=by
      refine (HD11.out.que.off _ (List.mem_of_getElem? HQK2.out)) w12 fun q hq hl=>hk12 q (fun e=>hq (.inl (by omega))) hl
     have HXL:Hid (xl.length+1≤2000):=by have:=HDS.out.len k _ HX.out;show _≤_;simp only at this;omega
     have HQ13:Hid (∀w13,Below w12.heap.size w12 w13→QuSt (W0.heap.size+1) w13 (.slice A2 Q2.length c2) Q2):=fun w13 hb=>(HD11.out.que.keep (by omega) hk12 HD11.out.nmap).below hb
     clear hp12 hs12 hg12 hz12 hk12 hmf hpl huz hmem
     go_upto_region 26 with fail
     have HINT:Hid (InP a b ((L[m]).2,(M[m]).2)):=inP_next (yL HVA.out) (yL HVB.out) _ (HDS.out.inp _ (List.mem_of_getElem? HX.out)) _ _ HNE.out
     have HBS:Hid (W0.heap.size+1<w6.heap.size):=by have:=HBB.out.size;have:=HB6.out.size;show _<_;omega
     refine wp_region_held_drew (S:=(fun w'=>(w'.cell? ⟨wo.heap.size,0,none⟩=some (.slice xA xl.length xc)∧w'.cell? ⟨wi.heap.size,0,none⟩=some (.int .i64 (L[m]).1)∧w'.cell? ⟨wu.heap.size,0,none⟩=some (.int .i64 (L[m]).2)∧w'.cell? ⟨wu.heap.size,1,none⟩=some (.int .i64 (M[m]).2))∧Hid (w'.heap[wo.heap.size]? = w12.heap[wo.heap.size]? ∧ w'.heap[wi.heap.size]? = w12.heap[wi.heap.size]? ∧ w'.heap[wu.heap.size]? = w12.heap[wu.heap.size]?))) (by kernel_rfl) ?_ (fun zH_=>?_)
     ·(try dsimp only);exact ds26 HC1.out HC2.out HC3.out HC4.out ⟨rfl,rfl,rfl⟩
     refine tL 0 _ zH_ ?_
     try simp only[ps]
     refine tL 1 _ zH_ ?_
     try simp only[ps]
     refine tL 2 _ zH_ ?_
     try simp only[ps]
     refine tL 4 _ zH_ ?_
     try simp only[ps]
     refine tL 5 _ zH_ ?_
     try simp only[ps]
     refine tL 8 _ zH_ ?_
     try simp only[ps]
     refine tL 9 _ zH_ ?_
     try simp only[ps]
     refine tL 10 _ zH_ ?_
     try simp only[ps]
     refine tL 11 _ zH_ ?_
     try simp only[ps]
     refine wpAnyH_ready (rs:=[3,6]) (by kernel_rfl) (by simp) ?_
     refine (AllReadyH.cons rfl (fun K hK=>?_) (AllReadyH.cons rfl (fun K hK=>?_) AllReadyH.nil))
     ·
      go_simp
      (refine (cloneI (HXI.out.below (zE (Below.refl _ _) 1))).mono ?_;rintro e wa ⟨va,rfl,hoa,hba⟩;have HOA:Hid (OwnI wa w12.heap.size va xl):=hoa;have HBA:Hid (Below w12.heap.size w12 wa):=undrew hba;clear hoa hba)
      refine hK.out _ _ ?_ (fun zH_=>?_)
      ·(try dsimp only);exact ds26 HC1.out HC2.out HC3.out HC4.out (three_below (w':=w12) ⟨rfl,rfl,rfl⟩ HLTS.out (fun q _ hl=>HBA.out.block q hl))
      clear hK K
      try simp only[ps]
      refine tR 6 (fun K hK=>?_)
      go_simp
      refine hK.out _ _ ?_ (fun zH_=>?_)
      ·(try dsimp only);exact ds26 HC1.out HC2.out HC3.out HC4.out (three_below (w':=w12) ⟨rfl,rfl,rfl⟩ HLTS.out (fun q _ hl=>(zA HBA.out (zD wa (.cells #[.int .i64 (L[m]).1] 3))).block q hl))
      clear hK K
      try simp only[ps]
      refine tR 7 (fun K hK=>?_)
      (refine zO yC (by rfl) (.tmp 107) (.tmp 110) (by rfl) w12.heap.size va _ _ (by rfl) (OwnL.alloc HOA.out (.cells #[.int .i64 (L[m]).1] 3)) wa.heap.size 0 1 1 [.int .i64 (L[m]).1] (by rfl) rfl (zL wa [.int .i64 (L[m]).1] 3) (by simp[Value.oneCell']) (by have:=HXL.out;omega) (by have:=HXL.out;omega) (zA HBA.out (zD wa (.cells #[.int .i64 (L[m]).1] 3))).size ?_;intro v7 w7x ho7 hg7;have ho7':=OwnL.snoc (x:=(L[m]).1) ho7;obtain ⟨A7,c7,rfl,_⟩:=OwnL.reads ho7';have HO7:=zh ho7';have HG7:=zh hg7;have HB7x:Hid (Below w12.heap.size w12 w7x):=(zA HBA.out (zD wa (.cells #[.int .i64 (L[m]).1] 3))).grown hg7 (zA HBA.out (zD wa (.cells #[.int .i64 (L[m]).1] 3))).size (OwnL.alloc HOA.out (.cells #[.int .i64 (L[m]).1] 3)).lt;clear ho7 ho7' hg7)
      refine hK.out _ _ ?_ (fun zH_=>?_)
      ·(try dsimp only);exact ds26 HC1.out HC2.out HC3.out HC4.out (three_below (w':=w12) ⟨rfl,rfl,rfl⟩ HLTS.out (fun q _ hl=>HB7x.out.block q hl))
      clear hK K
      try simp only[ps]
      refine tL 12 _ zH_ ?_
      try simp only[ps]
      refine tR 13 (fun K hK=>?_)
      go_simp
      refine hK.out _ _ ?_ (fun zH_=>?_)
      ·(try dsimp only);exact ds26 HC1.out HC2.out HC3.out HC4.out (three_below (w':=w12) ⟨rfl,rfl,rfl⟩ HLTS.out (fun q _ hl=>(zA HB7x.out (zD _ _)).block q hl))
      clear hK K
      try simp only[ps]
      refine tR 14 (fun K hK=>?_)
      (have HB13:Hid (Below w12.heap.size w12 (w7x.alloc (.cells #[.slice A7 (xl.length+1) c7,.int .i64 (L[m]).2,.int .i64 (M[m]).2] 101))):=zA HB7x.out (zD _ _);have HQ9:=zh (HQ13.out _ HB13.out);refine step_append_o elem_way (by rfl) (.tmp 104) (.tmp 117) (by rfl) (W0.heap.size+1 - 1) (.slice A2 Q2.length c2) Q2.length (Q2.flatMap WayA.cells) (by rfl) HQ9.out.own w7x.heap.size 0 1 1 [.slice A7 (xl.length+1) c7,.int .i64 (L[m]).2,.int .i64 (M[m]).2] (by rfl) rfl (zL w7x [.slice A7 (xl.length+1) c7,.int .i64 (L[m]).2,.int .i64 (M[m]).2] 101) (by simp[Value.oneCell']) (by omega) (by omega) (by have:=HB13.out.size;have:=HLTS.out.1;omega) ?_;intro v9 w9x ho9 hg9 hv9;have HO9:Hid (w9x.ownsRow (W0.heap.size+1 - 1) 101 3 v9 (Q2.length+1) (Q2.flatMap WayA.cells++(⟨xl++[(L[m]).1],A7,c7,((L[m]).2,(M[m]).2)⟩:WayA).cells)):=(by have hC:(⟨xl++[(L[m]).1],A7,c7,((L[m]).2,(M[m]).2)⟩:WayA).cells=[.slice A7 (xl.length+1) c7,.int .i64 (L[m]).2,.int .i64 (M[m]).2]:=(by simp[WayA.cells]);show World.ownsRow _ _ _ _ _ _ _;rw[hC];exact ho9);have HG9':=zh hg9;have HV9:=zh hv9;have HL13:=zh (World.ownsRow.lt HDI2.out.que.own);clear ho9 hg9 hv9)
      refine hK.out _ _ ?_ (fun zH_=>?_)
      ·(try dsimp only);exact ds26 HC1.out HC2.out HC3.out HC4.out (three_below (w':=w7x.alloc (.cells #[.slice A7 (xl.length+1) c7,.int .i64 (L[m]).2,.int .i64 (M[m]).2] 101)) (three_below (w':=w12) ⟨rfl,rfl,rfl⟩ HLTS.out (fun q _ hl=>HB13.out.block q hl)) (by have:=HLTS.out;have:=HB13.out.size;exact ⟨by omega,by omega,by omega⟩) (fun q hq hl=>zN HG9'.out hl (fun q' hq' e=>by have h1:=(HL13.out q' hq').2;have h2:=HUZ.out;rcases hq with rfl|rfl|rfl;exact HRW.out.ne (by rw[hq',e]);omega;omega)))
      clear hK K
      try simp only[ps]
      refine tL 15 _ zH_ ?_
      try simp only[ps]
      refine wpAnyH_done (by kernel_rfl) ?_ _
      (have HF:=zh (ds_push HD11.out HQK2.out HNE.out HAS.out HNM.out HINT.out HR11.out HBS.out hpm HS12.out HG12.out HB13.out (OwnL.below HO7.out (zD _ _)) (by have:=HXL.out;simp;omega) HO9.out HG9'.out HV9.out);clear zH_;(go_wp2;go_roundw;(case rel=>exact ⟨m+1,_,by omega,by go_num,(by rw[HTK.out];exact HF.out.1),(by rw[List.getElem?_append_left (List.getElem?_eq_some_iff.1 HQK2.out).1];exact HQK2.out),HF.out.2⟩);(case measure=>simp[intOf];omega)))
     ·
      go_simp
      refine hK.out _ _ ?_ (fun zH_=>?_)
      ·(try dsimp only);exact ds26 HC1.out HC2.out HC3.out HC4.out (three_below (w':=w12) ⟨rfl,rfl,rfl⟩ HLTS.out (fun q _ hl=>(zD w12 (.cells #[.int .i64 (L[m]).1] 3)).block q hl))
      clear hK K
      try simp only[ps]
      refine tR 3 (fun K hK=>?_)
      go_simp
      (refine (cloneI (IntsR.below HXI.out (zE (zD w12 (.cells #[.int .i64 (L[m]).1] 3)) 1))).mono ?_;rintro e wa ⟨va,rfl,hoa,hba⟩;have HOA:Hid (OwnI wa w12.heap.size va xl):=zh (OwnL.base hoa (zD w12 (.cells #[.int .i64 (L[m]).1] 3)).size);have HBA:Hid (Below (w12.alloc (.cells #[.int .i64 (L[m]).1] 3)).heap.size (w12.alloc (.cells #[.int .i64 (L[m]).1] 3)) wa):=undrew hba;clear hoa hba)
      refine hK.out _ _ ?_ (fun zH_=>?_)
      ·(try dsimp only);exact ds26 HC1.out HC2.out HC3.out HC4.out (three_below (w':=w12) ⟨rfl,rfl,rfl⟩ HLTS.out (fun q _ hl=>(zA (zD w12 (.cells #[.int .i64 (L[m]).1] 3)) HBA.out).block q hl))
      clear hK K
      try simp only[ps]
      refine tR 7 (fun K hK=>?_)
      (refine zO yC (by rfl) (.tmp 107) (.tmp 110) (by rfl) w12.heap.size va _ _ (by rfl) HOA.out w12.heap.size 0 1 1 [.int .i64 (L[m]).1] (by rfl) rfl (zY HBA.out (zL w12 [.int .i64 (L[m]).1] 3)) (by simp[Value.oneCell']) (by have:=HXL.out;omega) (by have:=HXL.out;omega) (zA (zD w12 (.cells #[.int .i64 (L[m]).1] 3)) HBA.out).size ?_;intro v7 w7x ho7 hg7;have ho7':=OwnL.snoc (x:=(L[m]).1) ho7;obtain ⟨A7,c7,rfl,_⟩:=OwnL.reads ho7';have HO7:=zh ho7';have HG7:=zh hg7;have HB7x:Hid (Below w12.heap.size w12 w7x):=(zA (zD w12 (.cells #[.int .i64 (L[m]).1] 3)) HBA.out).grown hg7 (zA (zD w12 (.cells #[.int .i64 (L[m]).1] 3)) HBA.out).size HOA.out.lt;clear ho7 ho7' hg7)
      refine hK.out _ _ ?_ (fun zH_=>?_)
      ·(try dsimp only);exact ds26 HC1.out HC2.out HC3.out HC4.out (three_below (w':=w12) ⟨rfl,rfl,rfl⟩ HLTS.out (fun q _ hl=>HB7x.out.block q hl))
      clear hK K
      try simp only[ps]
      refine tL 12 _ zH_ ?_
      try simp only[ps]
      refine tR 13 (fun K hK=>?_)
      go_simp
      refine hK.out _ _ ?_ (fun zH_=>?_)
      ·(try dsimp only);exact ds26 HC1.out HC2.out HC3.out HC4.out (three_below (w':=w12) ⟨rfl,rfl,rfl⟩ HLTS.out (fun q _ hl=>(zA HB7x.out (zD _ _)).block q hl))
      clear hK K
      try simp only[ps]
      refine tR 14 (fun K hK=>?_)
      (have HB13:Hid (Below w12.heap.size w12 (w7x.alloc (.cells #[.slice A7 (xl.length+1) c7,.int .i64 (L[m]).2,.int .i64 (M[m]).2] 101))):=zA HB7x.out (zD _ _);have HQ9:=zh (HQ13.out _ HB13.out);refine step_append_o elem_way (by rfl) (.tmp 104) (.tmp 117) (by rfl) (W0.heap.size+1 - 1) (.slice A2 Q2.length c2) Q2.length (Q2.flatMap WayA.cells) (by rfl) HQ9.out.own w7x.heap.size 0 1 1 [.slice A7 (xl.length+1) c7,.int .i64 (L[m]).2,.int .i64 (M[m]).2] (by rfl) rfl (zL w7x [.slice A7 (xl.length+1) c7,.int .i64 (L[m]).2,.int .i64 (M[m]).2] 101) (by simp[Value.oneCell']) (by omega) (by omega) (by have:=HB13.out.size;have:=HLTS.out.1;omega) ?_;intro v9 w9x ho9 hg9 hv9;have HO9:Hid (w9x.ownsRow (W0.heap.size+1 - 1) 101 3 v9 (Q2.length+1) (Q2.flatMap WayA.cells++(⟨xl++[(L[m]).1],A7,c7,((L[m]).2,(M[m]).2)⟩:WayA).cells)):=(by have hC:(⟨xl++[(L[m]).1],A7,c7,((L[m]).2,(M[m]).2)⟩:WayA).cells=[.slice A7 (xl.length+1) c7,.int .i64 (L[m]).2,.int .i64 (M[m]).2]:=(by simp[WayA.cells]);show World.ownsRow _ _ _ _ _ _ _;rw[hC];exact ho9);have HG9':=zh hg9;have HV9:=zh hv9;have HL13:=zh (World.ownsRow.lt HDI2.out.que.own);clear ho9 hg9 hv9)
      refine hK.out _ _ ?_ (fun zH_=>?_)
      ·(try dsimp only);exact ds26 HC1.out HC2.out HC3.out HC4.out (three_below (w':=w7x.alloc (.cells #[.slice A7 (xl.length+1) c7,.int .i64 (L[m]).2,.int .i64 (M[m]).2] 101)) (three_below (w':=w12) ⟨rfl,rfl,rfl⟩ HLTS.out (fun q _ hl=>HB13.out.block q hl)) (by have:=HLTS.out;have:=HB13.out.size;exact ⟨by omega,by omega,by omega⟩) (fun q hq hl=>zN HG9'.out hl (fun q' hq' e=>by have h1:=(HL13.out q' hq').2;have h2:=HUZ.out;rcases hq with rfl|rfl|rfl;exact HRW.out.ne (by rw[hq',e]);omega;omega)))
      clear hK K
      try simp only[ps]
      refine tL 15 _ zH_ ?_
      try simp only[ps]
      refine wpAnyH_done (by kernel_rfl) ?_ _
      (have HF:=zh (ds_push HD11.out HQK2.out HNE.out HAS.out HNM.out HINT.out HR11.out HBS.out hpm HS12.out HG12.out HB13.out (OwnL.below HO7.out (zD _ _)) (by have:=HXL.out;simp;omega) HO9.out HG9'.out HV9.out);clear zH_;(go_wp2;go_roundw;(case rel=>exact ⟨m+1,_,by omega,by go_num,(by rw[HTK.out];exact HF.out.1),(by rw[List.getElem?_append_left (List.getElem?_eq_some_iff.1 HQK2.out).1];exact HQK2.out),HF.out.2⟩);(case measure=>simp[intOf];omega)))
end Go.Proofs.YtkhpajneinmmiaaGreatDoor


