/-
  Walks: canon.Canon.
-/
import Derived.Test.YtkhpajneinmmiaaGreatDoorQCAA
namespace Go.Proofs.YtkhpajneinmmiaaGreatDoor
open Go.RowKit
set_option maxHeartbeats 16000000
set_option maxRecDepth 100000
theorem canon_any (s:List TyD) (t:Int) (A:Option Addr) (c:Nat) (w:World) (hs:TysR w A s) (htab:Tab w) :
  Calls Tryz.prog 22 #[rootV A s.length c t] w (CanonPost s t w):=by
 have hn:=hs.1.lt (by omega)
 have HS:=zh hs
 have HTB:=zh htab
 clear hs htab
 have HB0:=zh (zC w (rootB A s.length c t) zboxR)
 have HBX:Hid (((w.alloc (rootB A s.length c t)).alloc zboxR).heap[w.heap.size]? = some (rootB A s.length c t)):=yS (heap_alloc_new w _) _
 have HRS:Hid (((w.alloc (rootB A s.length c t)).alloc zboxR).heap[w.heap.size+1]? = some zboxR):=by
  have h:=heap_alloc_new (w.alloc (rootB A s.length c t)) zboxR
  rw[show (w.alloc (rootB A s.length c t)).heap.size=w.heap.size+1 by simp] at h
  exact h
 by_cases hv:zH s t=0
 case neg =>
  have q1:(zH s t != 0)=true:=by simp[hv]
  have HV:=zh hv
  clear hv
  go_enter Tryz.func22,Tryz.ntmps22
  go_wp2_with fail
  refine (check_any s t A c _ (HS.out.below HB0.out)).mono ?_
  rintro e w2 ⟨rfl,hb2⟩
  have hr2:=(hb2.block _ (zg.1 HRS.out).1).trans HRS.out
  have k0:w2.cell? ⟨w.heap.size+1,0,none⟩=some (.slice none 0 0):=by rw[cell_of_row _ _ _ _ _ _ hr2];rfl
  have k1:w2.cell? ⟨w.heap.size+1,1,none⟩=some (.int .i64 0):=by rw[cell_of_row _ _ _ _ _ _ hr2];rfl
  have f0:=frozen_of_row _ _ 0 _ _ hr2
  have f1:=frozen_of_row _ _ 1 _ _ hr2
  have HB2:=zh (zA HB0.out hb2)
  clear hb2 hr2
  go_wp2
  refine bodyPost_ret (v := .tuple #[.agg #[.slice none 0 0,.int .i64 0],.int .i64 (zH s t)]) (by simp[results,Tryz.results22,go_sem,k0,k1]) rfl ⟨none,0,[],rfl,RowsR.nil _ _ _ _ _,fun h=>absurd h HV.out,fun _=>rfl,?_⟩
  exact (HB2.out.setCell (p:=⟨w.heap.size+1,0,none⟩) (by simp) _).setCell (p:=⟨w.heap.size+1,1,none⟩) (by simp) _
 have q1:(zH s t != 0)=false:=by simp[hv]
 have q2:((0:Int) != 0)=false:=rfl
 obtain ⟨va,h0,h1⟩:=root_ok hv
 obtain ⟨tn,rfl⟩:=Int.eq_ofNat_of_zero_le h0
 have HV:=zh hv
 have HVA:=zh va
 have hle:=valid_len va
 have htn:tn<s.length:=by omega
 clear hv va h0 h1
 go_enter Tryz.func22,Tryz.ntmps22
 go_wp2_with fail
 refine (check_any s (tn:Int) A c _ (HS.out.below HB0.out)).mono ?_
 rintro e w2 ⟨rfl,hb2⟩
 rw[HV.out]
 have HX2:=zh ((hb2.block _ (zg.1 HBX.out).1).trans HBX.out)
 have HR2:=zh ((hb2.block _ (zg.1 HRS.out).1).trans HRS.out)
 have HB2:=zh (zA HB0.out hb2)
 have k0:w2.cell? ⟨w.heap.size,0,none⟩=some (.slice A s.length c):=by rw[cell_of_row _ _ _ _ _ _ HX2.out];rfl
 clear hb2 HBX HRS HB0
 go_wp2_with fail
 refine (classes_any s A c _ (HS.out.below HB2.out)).mono ?_
 rintro e w3 ⟨v3,cls,rfl,ho3,hc3,_,hb3⟩
 rw[HVA.out]
 obtain ⟨S,hS,hcl⟩:=hc3 HVA.out
 have hcn:cls.length=s.length:=by rw[hcl];simp[clsD]
 obtain ⟨Ac,cc,rfl,hints⟩:=OwnI.ints ho3 (by unfold Lim;omega)
 rw[hcn]
 have HCW:Hid (CnW s (tn:Int) A c w w3.heap.size cls Ac cc (w3.alloc (.cells #[.slice Ac s.length cc] 43))):=by
  have hz:=(zg.1 HR2.out).1
  have hs3:=hb3.size
  exact ⟨zA (zA HB2.out hb3) (zD _ _),yS ((hb3.block _ (by omega)).trans HX2.out) _,yS ((hb3.block _ hz).trans HR2.out) _,by omega,by simp,heap_alloc_new _ _,hcn,hints.below (zD _ _)⟩
 have HSG:=zh hS
 have HCL:=zh hcl
 have hz3:w.heap.size<w3.heap.size:=by have:=(zg.1 HX2.out).1;have:=hb3.size;omega
 have k1:w3.cell? ⟨w.heap.size,1,none⟩=some (.int .i64 (tn:Int)):=by rw[cell_of_row _ _ _ _ _ _ ((hb3.block _ (zg.1 HX2.out).1).trans HX2.out)];rfl
 have htc:tn<cls.length:=by omega
 obtain ⟨gc,oc,rfl,k2⟩:=hints.at1 htc
 have hz4:=zF k2
 simp only at hz4
 obtain ⟨w4,hp4,hs4,hb4,hst⟩:=cn_start HCW.out cls[tn]
 obtain ⟨_,m1,m0⟩:=cn_cells HCW.out hb4.out
 have m2:w4.cell? ⟨gc,oc+tn,none⟩=some (.int .i64 cls[tn]):=zB hb4.out (zB (zD _ _) k2)
 have g1:(0:Int)≤(tn:Int):=by omega
 have g2:(tn:Int)<(s.length:Int):=by omega
 have HCN:=zh hcn
 have hmm:=@run_makeMap Tryz.prog
 have y1:w.heap.size<w4.heap.size:=by omega
 have y2:w3.heap.size<w4.heap.size:=by omega
 have y3:gc<w4.heap.size:=by omega
 have y4:w.heap.size<w3.heap.size+1:=by omega
 have y5:gc<w3.heap.size+1:=by omega
 have y6:w.heap.size<w3.heap.size+2:=by omega
 have y7:gc<w3.heap.size+2:=by omega
 have y8:w3.heap.size<w3.heap.size+2:=by omega
 clear hints ho3 hc3 hb3 hS hcl k0 HB2 HX2 HR2 hcn
 go_wp2_with fail
 have HC0:Hid (clsAt cls (tn:Int)=cls[tn]):=clsAt_get htc
 have HU:=zh (yL HVA.out)
 have HLEN:Hid (∀i,(bfsN (nextD s cls) cls[tn] i).length≤s.length):=by
  show ∀i,_
  rw[←HC0.out,HCL.out]
  exact ord_len HU.out HSG.out (by omega) (by omega)
 have HRNG:Hid (∀i,∀x∈bfsN (nextD s cls) cls[tn] i,0≤x∧x<(s.length:Int)):=by
  show ∀i,_
  rw[←HC0.out,HCL.out]
  exact fun i x hx=>⟨(ord_cls HU.out HSG.out (by omega) (by omega) i x hx).1,(ord_cls HU.out HSG.out (by omega) (by omega) i x hx).2.1⟩
 have HST:=zh hst.out
 clear hst hp4 hs4 hb4 m0 m1 m2 k1 k2 y1 y2 y3 y4 y5 y6 y7 y8 hmm hz3 hz4
 generalize w3.alloc (.cells #[.slice (some ⟨gc,oc,none⟩) s.length cc] 43)=W0 at *
 generalize w3.heap.size=p5 at *
 generalize (w4.alloc (.cells #[.map (some (p5+1))] 85)).alloc (.cells #[.int .i64 cls[tn]] 3)=W1 at *
 go_loopw [8,9] (fun a i wr=>∃k:Nat,k≤s.length∧i = .int .i64 k∧Hid (k≤(bfsN (nextD s cls) cls[tn] k).length∧CnSt W0 p5 (bfsN (nextD s cls) cls[tn] k) a wr)) (fun _ i _=>s.length - (intOf i).toNat)
 case atStart=>exact ⟨0,by omega,rfl,by simp[bfsN],HST.out⟩
 case round =>
  obtain ⟨k,hk,rfl,hh⟩:=hrel
  obtain ⟨wo,rfl⟩:∃wo:World,wo=wr:=⟨_,rfl⟩
  have HO:=zh (show bfsN (nextD s cls) cls[tn] k=bfsN (nextD s cls) cls[tn] k from rfl)
  have hOl:=HLEN.out k
  have HOR:=zh (HRNG.out k)
  obtain ⟨O,hO⟩:∃O,O=bfsN (nextD s cls) cls[tn] k:=⟨_,rfl⟩
  rw[←hO] at hh hOl HOR
  have HOE:=zh hO
  clear hO HO
  obtain ⟨Aa,ca,rfl,hints⟩:=OwnI.ints hh.out.2.own (by unfold Lim;omega)
  have HWB:=zh (zA HCW.out.bel hh.out.2.bel)
  by_cases hlt:k<O.length
  ·obtain ⟨b1,o1,rfl,c1⟩:=hints.at1 hlt
   obtain ⟨hr0,hr1⟩:=HOR.out _ (List.getElem_mem hlt)
   obtain ⟨cn,hcn⟩:=Int.eq_ofNat_of_zero_le hr0
   rw[hcn] at hr1 c1
   have hcl:cn<s.length:=by omega
   have HCNE:=zh hcn
   obtain ⟨b,o,As,cs,Am,cm,rfl,htr,t0,t1,t2,t3,t4,t5,t6,t7,t8,t9⟩:=(HS.out.below HWB.out).at10 hcl
   have HTR:=zh htr
   have HTC:Hid (TyCells wo b o cn s[cn] As cs Am cm):=zh ⟨t0,t1,t2,t3,t4,t5,t6,t7,t8,t9⟩
   obtain ⟨e0,_,_⟩:=cn_cells HCW.out hh.out.2.bel
   have HE0:=zh e0
   have HC1:=zh c1
   have HCS:=zh hh.out
   have h1:(0:Int)≤(k:Int):=by omega
   have h2:(k:Int)<(O.length:Int):=by omega
   have h3:(0:Int)≤(cn:Int):=by omega
   have h4:(cn:Int)<(s.length:Int):=by omega
   have HWZ:Hid (p5+1<wo.heap.size):=by have:=(zg.1 hh.out.2.var).1;show _<_;omega
   clear hints htr t0 t1 t2 t3 t4 t5 t6 t7 t8 t9 e0 c1 hh hr0 hr1 hcn
   go_wp2_with fail
   refine wp_region_held_drew (S:=(fun w'=>((w'.cell? ⟨w.heap.size,0,none⟩=some (.slice (some ⟨b,o,none⟩) s.length c)∧w'.cell? ⟨b1,o1+k,none⟩=some (.int .i64 (cn:Int)))∧(w'.cell? ⟨b,o+cn * 10,none⟩=some (.int .i64 (s[cn]).kind)∧w'.cell? ⟨b,o+cn * 10+1,none⟩=some (.string (s[cn]).name)∧w'.cell? ⟨b,o+cn * 10+2,none⟩=some (.int .i64 (s[cn]).low)∧w'.cell? ⟨b,o+cn * 10+3,none⟩=some (.int .i64 (s[cn]).high)∧w'.cell? ⟨b,o+cn * 10+4,none⟩=some (.int .i64 (s[cn]).max)∧w'.cell? ⟨b,o+cn * 10+5,none⟩=some (.slice As (s[cn]).syms.length cs)∧w'.cell? ⟨b,o+cn * 10+6,none⟩=some (.slice Am (s[cn]).mems.length cm)∧w'.cell? ⟨b,o+cn * 10+7,none⟩=some (.int .i64 (s[cn]).key)∧w'.cell? ⟨b,o+cn * 10+8,none⟩=some (.int .i64 (s[cn]).elem)∧w'.cell? ⟨b,o+cn * 10+9,none⟩=some (.bool (s[cn]).open_)))∧Hid (Below wo.heap.size wo w'))) (by kernel_rfl) ?_ (fun zH_=>?_)
   ·(try dsimp only);exact cn12 HE0.out HC1.out HTC.out (zE (Below.refl _ _) 1)
   refine tL 0 _ zH_ ?_
   try simp only[ps]
   refine tL 1 _ zH_ ?_
   try simp only[ps]
   refine tL 2 _ zH_ ?_
   try simp only[ps]
   refine tL 3 _ zH_ ?_
   try simp only[ps]
   refine tL 4 _ zH_ ?_
   try simp only[ps]
   refine tL 5 _ zH_ ?_
   try simp only[ps]
   refine tL 6 _ zH_ ?_
   try simp only[ps]
   refine tL 7 _ zH_ ?_
   try simp only[ps]
   refine tL 8 _ zH_ ?_
   try simp only[ps]
   refine tL 11 _ zH_ ?_
   try simp only[ps]
   refine tR 9 (fun K hK=>?_)
   go_simp
   (refine (cnUses_any s[cn] As cs Am cm _ (HTR.out.below zH_.2.out)).mono ?_;rintro e w5 ⟨v5,rfl,ho5,hb5⟩;obtain ⟨Au,cu,rfl,_⟩:=own_pairs ho5 (uses_len _ HTR.out.mems.1);have HBB:=zh (zA zH_.2.out hb5);have HO5:=zh (OwnL.base ho5 zH_.2.out.size);clear ho5 hb5)
   refine hK.out _ _ ?_ (fun zH_=>?_)
   ·(try dsimp only);exact cn12 HE0.out HC1.out HTC.out HBB.out
   clear hK K
   try simp only[ps]
   refine tL 10 _ zH_ ?_
   try simp only[ps]
   refine wpAnyH_done (by kernel_rfl) ?_ _
   go_wp2_with fail
   have hul:(usesD s[cn]).length≤8796093022208:=by have:=uses_len _ HTR.out.mems.1;unfold Lim at this;omega
   go_loopw [8,64] (fun a j wr=>∃m:Nat,m≤(usesD s[cn]).length∧j = .int .i64 m∧Hid (CnSt W0 p5 ((((usesD s[cn]).map fun u=>clsAt cls u.2).take m).foldl addN O) a wr∧OwnL 89 2 encP wr wo.heap.size (.slice Au (usesD s[cn]).length cu) (usesD s[cn]))) (fun _ j _=>(usesD s[cn]).length - (intOf j).toNat)
   case atStart=>exact ⟨0,by omega,rfl,HCS.out.2.below HBB.out,HO5.out⟩
   case round =>
    obtain ⟨m,hm,rfl,hh⟩:=hrel
    obtain ⟨wi,rfl⟩:∃wi:World,wi=wr:=⟨_,rfl⟩
    have hfl:=fold_len (((usesD s[cn]).map fun u=>clsAt cls u.2).take m) O
    have hfl2:(((usesD s[cn]).map fun u=>clsAt cls u.2).take m).length≤(usesD s[cn]).length:=by rw[List.length_take,List.length_map];omega
    obtain ⟨o2,ho2⟩:∃o2,o2=(((usesD s[cn]).map fun u=>clsAt cls u.2).take m).foldl addN O:=⟨_,rfl⟩
    rw[←ho2] at hh hfl
    have HO2:=zh ho2
    have hol:o2.length≤8796093022240:=by omega
    clear ho2 hfl hfl2
    obtain ⟨A2,c2,rfl,_⟩:=OwnI.ints hh.out.1.own (by unfold Lim;omega)
    by_cases hlm:m<(usesD s[cn]).length
    ·obtain ⟨A',c',e,hpr⟩:=own_pairs hh.out.2 (uses_len _ HTR.out.mems.1)
     cases e
     obtain ⟨gu,ou,rfl,u0,u1⟩:=hpr.at2 hlm
     obtain ⟨hr0,hr1⟩:=HU.out _ (List.getElem_mem hcl) _ (List.getElem_mem hlm)
     obtain ⟨un,hun⟩:=Int.eq_ofNat_of_zero_le hr0
     have hus:un<s.length:=by rw[hun] at hr1;simpa using hr1
     have huc:un<cls.length:=by rw[HCN.out];exact hus
     rw[hun] at u1
     obtain ⟨g',o',e,x1⟩:=(HCW.out.ints.below hh.out.1.bel).at1 huc
     cases e
     have HGET:Hid ((((usesD s[cn]).map fun u=>clsAt cls u.2)[m]'(by rw[List.length_map];exact hlm))=cls[un]):=by
      show _=_
      rw[List.getElem_map,hun];exact clsAt_get huc
     have HNX:Hid ((((usesD s[cn]).map fun u=>clsAt cls u.2).take (m+1)).foldl addN O=addN o2 cls[un]):=by
      show _=_
      rw[fold_take (by rw[List.length_map];exact hlm),←HO2.out,HGET.out]
     obtain ⟨_,_,e5⟩:=cn_cells HCW.out hh.out.1.bel
     have e7:=hh.out.1.vcell
     have z1:=zF e5
     have z2:=zF e7
     have z3:=zF x1
     have z4:=zF u0
     simp only at z1 z2 z3 z4
     have h5:(0:Int)≤(m:Int):=by omega
     have h6:(m:Int)<((usesD s[cn]).length:Int):=by omega
     have h7:(0:Int)≤(un:Int):=by omega
     have h8:(un:Int)<(s.length:Int):=by omega
     have HSB:=zh (hh.out.1.below (zD wi (.cells #[.int .i64 ((usesD s[cn])[m]).1,.int .i64 (un:Int)] 89)))
     have HUB:=zh (hh.out.2.below (zD wi (.cells #[.int .i64 ((usesD s[cn])[m]).1,.int .i64 (un:Int)] 89)))
     have hlk:=HSB.out.num.look cls[un]
     clear hh hpr hr0 hr1 hun
     by_cases hmem:cls[un]∈o2
     ·rw[memD_iff.2 hmem] at hlk
      have HAD:Hid (addN o2 cls[un]=o2):=by show _=_;unfold addN;rw[if_pos hmem]
      clear hmem
      go_wp2
      go_roundw
      case rel=>exact ⟨m+1,by omega,by go_num,(by rw[HNX.out,HAD.out];exact HSB.out),HUB.out⟩
      case measure=>simp[intOf];omega
     ·have hmf:memD cls[un] o2=false:=by simp[memD,hmem]
      rw[hmf] at hlk
      have HAD:Hid (addN o2 cls[un]=o2++[cls[un]]):=by show _=_;unfold addN;rw[if_neg hmem]
      obtain ⟨w6,hr6,hs6,hq6,h6'⟩:=HSB.out.put hmem
      have HO6:=zh (OwnL.alloc h6'.out.2.2.2 (.cells #[.int .i64 cls[un]] 3))
      have HRN:Hid ((w6.alloc (.cells #[.int .i64 cls[un]] 3)).rangeAt w6.heap.size 0 [.int .i64 cls[un]]):=zL w6 [.int .i64 cls[un]] 3
      have HZ6:Hid (p5+3≤(w6.alloc (.cells #[.int .i64 cls[un]] 3)).heap.size):=by show _≤_;simp;have:=(zg.1 h6'.out.2.2.1).1;omega
      have HUB6:Hid (OwnL 89 2 encP (w6.alloc (.cells #[.int .i64 cls[un]] 3)) wo.heap.size (.slice (some ⟨gu,ou,none⟩) (usesD s[cn]).length cu) (usesD s[cn])) :=
       OwnL.alloc (HUB.out.keep fun g hg hl _=>hq6 g (by have:=HWZ.out;omega) hl) _
      clear hs6 hq6 hmem hmf
      go_wp2_with (at_builtin;refine zK yC _ rfl (.tmp 85) (.tmp 87) rfl (p5+3) _ _ _ rfl HO6.out w6.heap.size 0 1 1 [.int .i64 cls[un]] rfl rfl HRN.out (by simp[Value.oneCell']) (by omega) (by omega) HZ6.out ?_;intro v8 w8 ho8 hg8)
      go_roundw
      case rel=>exact ⟨m+1,by omega,by go_num,(by rw[HNX.out,HAD.out];exact CnSt.app HCW.out.top (h6'.out.1.below (zD _ _)) (zA h6'.out.2.1 (zD _ _)) (yS h6'.out.2.2.1 _) HO6.out ho8 hg8),HUB6.out.other HO6.out (by decide) hg8⟩
      case measure=>simp[intOf];omega
    ·have HALL:Hid (o2=bfsN (nextD s cls) cls[tn] (k+1)):=by
      show _=_
      rw[HO2.out,List.take_of_length_le (by rw[List.length_map];omega),bfsN,←HOE.out,bfs_at hlt,HCNE.out]
      unfold nextD
      have:s.getD ((cn:Int)).toNat zeroT=s[cn]:=tyAt_nat hcl
      rw[this]
     have HPRE:Hid (k+1≤(bfsN (nextD s cls) cls[tn] (k+1)).length):=by
      show _≤_
      obtain ⟨r,hr⟩:=bfs_pre1 (next:=nextD s cls) (c0:=cls[tn]) k
      rw[hr,List.length_append,←HOE.out];omega
     have HSO:=zh hh.out.1
     clear hh
     go_wp2
     go_roundw
     case rel=>exact ⟨k+1,by omega,by go_num,HPRE.out,(by rw[←HALL.out];exact HSO.out)⟩
     case measure=>simp[intOf];omega
  ·have HORD:Hid (O=ordD s cls (tn:Int)):=by
    show _=_
    unfold ordD
    rw[HC0.out,HOE.out]
    exact (bfs_done HLEN.out (by rw[←HOE.out];omega)).symm
   have HCS:=zh hh.out.2
   have HIN:=zh hints
   clear hh hints
   go_wp2_with fail
   have HCO:=zh (CoSt.start wo (canonL s cls (tn:Int)))
   have HCLN:Hid ((canonL s cls (tn:Int)).length=O.length):=by show _=_;rw[canon_len,←HORD.out]
   generalize wo.alloc zboxR=W2 at *
   go_loopw [92] (fun j wr=>∃n:Nat,n≤O.length∧j = .int .i64 n∧Hid (CoSt wo (canonL s cls (tn:Int)) n wr)) (fun j _=>O.length - (intOf j).toNat)
   case atStart=>exact ⟨0,by omega,rfl,HCO.out⟩
   case round =>
    obtain ⟨n,hnn,rfl,hh⟩:=hrel
    obtain ⟨wi,rfl⟩:∃wi:World,wi=wr:=⟨_,rfl⟩
    obtain ⟨L,v,hpo,hos,hL⟩:=hh.out.out
    have hLn:L.length=n:=by have:=congrArg List.length hL;rw[List.length_map,List.length_take,HCLN.out] at this;omega
    obtain ⟨A9,c9,rfl,_⟩:=OwnL.reads hos.own
    rw[hLn] at hpo hos
    have HBW:=zh hh.out.bel
    have HPO:=zh hpo
    have HOS:=zh hos
    have HLT:=zh hL
    have HLN:=zh hLn
    clear hh hpo hos hL hLn
    by_cases hlt2:n<O.length
    ·obtain ⟨b1,o1,rfl,c1⟩:=(HIN.out.below HBW.out).at1 hlt2
     obtain ⟨hr0,hr1⟩:=HOR.out _ (List.getElem_mem hlt2)
     obtain ⟨cn,hcn⟩:=Int.eq_ofNat_of_zero_le hr0
     rw[hcn] at hr1 c1
     have hcl:cn<s.length:=by omega
     have HCNE:=zh hcn
     obtain ⟨b,o,As,cs,Am,cm,rfl,htr,t0,t1,t2,t3,t4,t5,t6,t7,t8,t9⟩:=(HS.out.below HWB.out).at10 hcl
     have HTR:=zh htr
     have HTC:Hid (TyCells wo b o cn s[cn] As cs Am cm):=zh ⟨t0,t1,t2,t3,t4,t5,t6,t7,t8,t9⟩
     obtain ⟨e0,_,_⟩:=cn_cells HCW.out HCS.out.bel
     have HE0:=zh e0
     have h1:(0:Int)≤(n:Int):=by omega
     have h2:(n:Int)<(O.length:Int):=by omega
     have h3:(0:Int)≤(cn:Int):=by omega
     have h4:(cn:Int)<(s.length:Int):=by omega
     have HFM:=zh (form_ids (valid_tys HVA.out (List.getElem_mem hcl)).1)
     have HIX:Hid (∀w',Below wo.heap.size wo w'→IxOk (p5+2) p5 (fun u=>idxI (ordD s cls (tn:Int)) (clsAt cls u)) (usesD s[cn]) w'):=by
      intro w' hb' w'' hb'' u hu
      have hbb:=zA hb' hb''
      obtain ⟨hu0,hu1⟩:=HU.out _ (List.getElem_mem hcl) u hu
      obtain ⟨un,hun⟩:=Int.eq_ofNat_of_zero_le hu0
      have huc:un<cls.length:=by rw[HCN.out];rw[hun] at hu1;simpa using hu1
      have hst:=HCS.out.below hbb
      have hq:=(cn_cells HCW.out hst.bel).2.2
      rw[←HCN.out] at hq
      rw[hun]
      refine (canon1_any un (p5+2) p5 (p5+1) _ cc cls O w'' (HCW.out.ints.below hst.bel) huc hst.vcell hq hst.num).mono ?_
      rintro e w9 ⟨rfl,hb9⟩
      refine ⟨?_,hb9⟩
      have hmem:cls[un]∈O:=by
       have h1:clsAt cls u.2∈ordD s cls (tn:Int):=by
        have:=ord_next (s:=s) (S:=S) HU.out HSG.out (t:=(tn:Int)) (by omega) (by omega) (cn:Int) (by rw[←HCL.out,←HORD.out,←HCNE.out];exact List.getElem_mem hlt2) u (by rw[tyAt_nat hcl];exact hu)
        rwa [←HCL.out] at this
       rw[←HORD.out,hun,clsAt_get huc] at h1
       exact h1
      have hx:clsAt cls (un:Int)=cls[un]:=clsAt_get huc
      show _=Ending.returned (.int .i64 (idxI (ordD s cls (tn:Int)) (clsAt cls (un:Int))))
      rw[hx,←HORD.out]
      unfold numV
      rw[if_pos hmem]
     have HCE:Hid ((canonL s cls (tn:Int))[n]'(by rw[HCLN.out];exact hlt2)=renD n (fun u=>idxI (ordD s cls (tn:Int)) (clsAt cls u)) s[cn]):=by
      show _=_
      rw[canon_at cls (by rw[←HORD.out];exact hlt2)]
      have:(ordD s cls (tn:Int))[n]'(by rw[←HORD.out];exact hlt2)=(cn:Int):=by
       have:=HCNE.out
       simp only[HORD.out] at this
       exact this
      rw[this,tyAt_nat hcl]
     have z1:=zF c1
     simp only at z1
     clear htr t0 t1 t2 t3 t4 t5 t6 t7 t8 t9 e0 hr0 hr1 hcn
     go_wp2_with fail
     clear c1
     refine yD (S:=(fun w'=>(((w'.cell? ⟨wo.heap.size,0,none⟩=some (.slice A9 n c9)∧w'.frozen? ⟨wo.heap.size,0,none⟩=false)∧w'.cell? ⟨w.heap.size,0,none⟩=some (.slice (some ⟨b,o,none⟩) s.length c))∧(w'.cell? ⟨b,o+cn * 10,none⟩=some (.int .i64 (s[cn]).kind)∧w'.cell? ⟨b,o+cn * 10+1,none⟩=some (.string (s[cn]).name)∧w'.cell? ⟨b,o+cn * 10+2,none⟩=some (.int .i64 (s[cn]).low)∧w'.cell? ⟨b,o+cn * 10+3,none⟩=some (.int .i64 (s[cn]).high)∧w'.cell? ⟨b,o+cn * 10+4,none⟩=some (.int .i64 (s[cn]).max)∧w'.cell? ⟨b,o+cn * 10+5,none⟩=some (.slice As (s[cn]).syms.length cs)∧w'.cell? ⟨b,o+cn * 10+6,none⟩=some (.slice Am (s[cn]).mems.length cm)∧w'.cell? ⟨b,o+cn * 10+7,none⟩=some (.int .i64 (s[cn]).key)∧w'.cell? ⟨b,o+cn * 10+8,none⟩=some (.int .i64 (s[cn]).elem)∧w'.cell? ⟨b,o+cn * 10+9,none⟩=some (.bool (s[cn]).open_)))∧Hid (Below wo.heap.size wo w'∧w'.heap[wo.heap.size]? = some (.cells #[.slice A9 n c9,.int .i64 0] 32 (0,0))))) 16 (by kernel_rfl) ?_ (fun zH_=>?_)
     ·(try dsimp only);exact cn25 HE0.out HTC.out (zE HBW.out 1) HPO.out
     refine tC 0 _ zH_ ?_
     try simp only[ps]
     refine tC 1 _ zH_ ?_
     try simp only[ps]
     refine tB 2 _ zH_ ?_
     try simp only[ps]
     refine tC 3 _ zH_ ?_
     try simp only[ps]
     refine tC 4 _ zH_ ?_
     try simp only[ps]
     refine tB 5 _ zH_ ?_
     try simp only[ps]
     refine tC 6 _ zH_ ?_
     try simp only[ps]
     refine tC 7 _ zH_ ?_
     try simp only[ps]
     refine tB 8 _ zH_ ?_
     try simp only[ps]
     refine tC 9 _ zH_ ?_
     try simp only[ps]
     refine tC 10 _ zH_ ?_
     try simp only[ps]
     refine tS 11 (fun K hK=>?_)
     go_simp
     (refine (renamed_any s[cn] n (by omega) (p5+2) p5 _ As cs Am cm _ (HTR.out.below zH_.2.out.1) HFM.out.1 HFM.out.2 (HIX.out _ zH_.2.out.1) (HTB.out.below (zA HWB.out zH_.2.out.1))).mono ?_;rintro e w6 ⟨As6,cs6,Am6,cm6,rfl,hoff,hb6⟩;have HOF:=zh hoff;have HB6:=zh (zA zH_.2.out.1 hb6);have HO6:Hid (OutSt wo.heap.size w6 (.slice A9 n c9) L):=(HOS.out.below (zE (Below.refl _ _) 1)).below hb6;have HP6:Hid (w6.heap[wo.heap.size]? = some (.cells #[.slice A9 n c9,.int .i64 0] 32 (0,0))):=(hb6.block _ (zg.1 zH_.2.out.2).1).trans zH_.2.out.2;clear hoff)
     refine hK.out _ _ ?_ (fun zH_=>?_)
     ·(try dsimp only);exact cn25 HE0.out HTC.out HB6.out HP6.out
     clear hK K
     try simp only[ps]
     refine tS 12 (fun K hK=>?_)
     go_simp
     refine hK.out _ _ ?_ (fun zH_=>?_)
     ·(try dsimp only);exact cn25 HE0.out HTC.out (zA HB6.out (zD _ _)) (yS HP6.out _)
     clear hK K
     try simp only[ps]
     refine tS 13 (fun K hK=>?_)
     (have HW6:Hid (World.ownsRow (w6.alloc (.cells (⟨renD n (fun u=>idxI (ordD s cls (tn:Int)) (clsAt cls u)) s[cn],As6,cs6,Am6,cm6⟩:TyA).cells.toArray 70)) (wo.heap.size+1) 70 10 (.slice A9 n c9) n (L.flatMap TyA.cells)):=(by have h:=OwnL.alloc HO6.out.own (.cells (⟨renD n (fun u=>idxI (ordD s cls (tn:Int)) (clsAt cls u)) s[cn],As6,cs6,Am6,cm6⟩:TyA).cells.toArray 70);unfold OwnL at h;rw[HLN.out] at h;exact h);have HRN6:=zh (zL w6 (⟨renD n (fun u=>idxI (ordD s cls (tn:Int)) (clsAt cls u)) s[cn],As6,cs6,Am6,cm6⟩:TyA).cells 70);have HZ6:Hid (wo.heap.size+1≤(w6.alloc (.cells (⟨renD n (fun u=>idxI (ordD s cls (tn:Int)) (clsAt cls u)) s[cn],As6,cs6,Am6,cm6⟩:TyA).cells.toArray 70)).heap.size):=(by have:=(zg.1 HP6.out).1;show _≤_;simp;omega);refine step_append_o elem_ty (by rfl) (.tmp 99) (.tmp 109) (by rfl) (wo.heap.size+1) (.slice A9 n c9) n (L.flatMap TyA.cells) (by rfl) HW6.out w6.heap.size 0 1 1 (⟨renD n (fun u=>idxI (ordD s cls (tn:Int)) (clsAt cls u)) s[cn],As6,cs6,Am6,cm6⟩:TyA).cells (by rfl) rfl HRN6.out (tyA_one _) (by omega) (by omega) HZ6.out ?_;intro v8 w8 ho8 hg8 hv8;have ho9:w8.ownsRow (wo.heap.size+1) 70 10 v8 (L.length+1) (L.flatMap TyA.cells++(⟨renD n (fun u=>idxI (ordD s cls (tn:Int)) (clsAt cls u)) s[cn],As6,cs6,Am6,cm6⟩:TyA).cells):=(by rw[HLN.out];exact ho8);obtain ⟨A8,c8,rfl,_⟩:=OwnL.reads (OwnL.snoc ho9);have HO9:=zh ho9;have HG8:=zh hg8;have HV8:=zh hv8;have HB8:Hid (Below wo.heap.size wo w8):=(zA HB6.out (zD _ _)).grown hg8 (zA HB6.out (zD _ _)).size (fun q hq=>by have:=HO6.out.own.lt q hq;omega);have HP8:Hid (w8.heap[wo.heap.size]? = some (.cells #[.slice A9 n c9,.int .i64 0] 32 (0,0))):=(zN hg8 (by have:=(zg.1 HP6.out).1;simp;omega) (fun q hq e=>by have:=HO6.out.own.lt q hq;omega)).trans (yS HP6.out _);clear ho8 ho9 hg8 hv8)
     refine hK.out _ _ ?_ (fun zH_=>?_)
     ·(try dsimp only);exact cn25 HE0.out HTC.out HB8.out HP8.out
     clear hK K
     try simp only[ps]
     refine tC 14 _ zH_ ?_
     try simp only[ps]
     refine tC 15 _ zH_ ?_
     try simp only[ps]
     refine zZ (rs:=[16]) (by kernel_rfl) (by simp) ?_
     refine AllReadyB.last rfl (by kernel_rfl) (fun K hK=>?_) AllReadyB.nil
     (obtain ⟨⟨⟨⟨hc0,hf0⟩,_⟩,_⟩,_⟩:=zH_;go_simp)
     refine hK.out _ _ ?_
     clear hK K
     (try clear zH_)
     try simp only[ps]
     refine wpAny_done (by kernel_rfl) ?_ _
     have HN:Hid (CoSt wo (canonL s cls (tn:Int)) (n+1) (w8.setCell ⟨wo.heap.size,0,none⟩ (.slice A8 (L++[(⟨renD n (fun u=>idxI (ordD s cls (tn:Int)) (clsAt cls u)) s[cn],As6,cs6,Am6,cm6⟩:TyA)]).length c8))):=by
      refine CoSt.next (wr:=w6.alloc (.cells (⟨renD n (fun u=>idxI (ordD s cls (tn:Int)) (clsAt cls u)) s[cn],As6,cs6,Am6,cm6⟩:TyA).cells.toArray 70)) (by rw[HCLN.out];exact hlt2) HCE.out.symm HLT.out HB8.out HP8.out (HO6.out.below (zD _ _)) ?_ HO9.out HG8.out HV8.out
      refine (HOF.out.mono fun q _ hq=>?_).alloc _
      have hz:wo.heap.size<wi.heap.size:=(zg.1 HPO.out).1
      show q<wi.heap.size
      rcases hq with h|h
      ·omega
      ·exact (World.ownsRow.lt HOS.out.own q h).2
     clear hc0 hf0
     go_wp2
     go_roundw
     case rel=>exact ⟨n+1,by omega,by go_num,(by have h:=HN.out;simp only[List.length_append,List.length_cons,List.length_nil,Nat.zero_add] at h;exact h)⟩
     case measure=>simp[intOf];omega
    ·obtain rfl:n=O.length:=by omega
     have hrs:=(HBW.out.block _ (by have:=HCW.out.lt;have:=HCW.out.top;have:=HCS.out.bel.size;omega)).trans ((HCS.out.bel.block _ (by have:=HCW.out.lt;have:=HCW.out.top;omega)).trans HCW.out.res)
     have r0:wi.cell? ⟨w.heap.size+1,0,none⟩=some (.slice none 0 0):=by rw[cell_of_row _ _ _ _ _ _ hrs];rfl
     have r1:wi.cell? ⟨w.heap.size+1,1,none⟩=some (.int .i64 0):=by rw[cell_of_row _ _ _ _ _ _ hrs];rfl
     have f0:=frozen_of_row _ _ 0 _ _ hrs
     have f1:=frozen_of_row _ _ 1 _ _ hrs
     have p0:wi.cell? ⟨wo.heap.size,0,none⟩=some (.slice A9 O.length c9):=by rw[cell_of_row _ _ _ _ _ _ HPO.out];rfl
     have p1:wi.cell? ⟨wo.heap.size,1,none⟩=some (.int .i64 0):=by rw[cell_of_row _ _ _ _ _ _ HPO.out];rfl
     have hle1:w.heap.size+1≤wo.heap.size:=by have:=HCW.out.lt;have:=HCW.out.top;have:=HCS.out.bel.size;omega
     have HFIN:Hid (∀x1 x2,TysR ((wi.setCell ⟨w.heap.size+1,0,none⟩ x1).setCell ⟨w.heap.size+1,1,none⟩ x2) A9 (canonL s cls (tn:Int))):=by
      intro x1 x2
      have h1:=(HOS.out.set (w':=wi.setCell ⟨w.heap.size+1,0,none⟩ x1) (by simp) hle1 (fun q hq _=>heap_setCell_other _ _ _ _ (by simpa using hq))).set (w':=(wi.setCell ⟨w.heap.size+1,0,none⟩ x1).setCell ⟨w.heap.size+1,1,none⟩ x2) (by simp) hle1 (fun q hq _=>heap_setCell_other _ _ _ _ (by simpa using hq))
      obtain ⟨A',c',e,hr⟩:=h1.rows (by rw[HLN.out];omega)
      injection e with e1 _ _
      rw[HLT.out,List.take_of_length_le (by rw[HCLN.out];exact Nat.le_refl _)] at hr
      rw[e1];exact hr
     have HBF:Hid (∀x1 x2,Below w.heap.size w ((wi.setCell ⟨w.heap.size+1,0,none⟩ x1).setCell ⟨w.heap.size+1,1,none⟩ x2)):=fun x1 x2 =>
      ((zA HWB.out HBW.out).setCell (p:=⟨w.heap.size+1,0,none⟩) (by simp) _).setCell (p:=⟨w.heap.size+1,1,none⟩) (by simp) _
     clear hrs
     go_wp2
     refine bodyPost_ret (v := .tuple #[.agg #[.slice A9 O.length c9,.int .i64 0],.int .i64 0]) (by simp[results,Tryz.results22,go_sem,r0,r1]) rfl ⟨A9,c9,canonL s cls (tn:Int),?_,HFIN.out _ _,fun _=>⟨cls,⟨S,HSG.out,HCL.out⟩,rfl⟩,fun h=>absurd HV.out h,HBF.out _ _⟩
     rw[HCLN.out,HV.out]
end Go.Proofs.YtkhpajneinmmiaaGreatDoor


