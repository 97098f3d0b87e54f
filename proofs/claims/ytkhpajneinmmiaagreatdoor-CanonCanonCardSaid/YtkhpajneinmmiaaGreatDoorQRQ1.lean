/-
  Walks: sheaveref18.Canon.
-/
import Derived.Test.YtkhpajneinmmiaaGreatDoorQRQ0
import Derived.Test.YtkhpajneinmmiaaGreatDoorQRCA
import Derived.Test.YtkhpajneinmmiaaGreatDoorQROG
import Derived.Test.YtkhpajneinmmiaaGreatDoorQCO2
import Derived.Test.YtkhpajneinmmiaaGreatDoorQEXG
import Derived.Deep.CutBlock
namespace Go.Proofs.YtkhpajneinmmiaaGreatDoor
open Go.RowKit
set_option maxHeartbeats 16000000
set_option maxRecDepth 100000
theorem sok_nil:SOk ⟨#[]⟩:=by unfold SOk;decide
structure FnSt (W0:World) (ord:List Int) (a:Value) (wr:World):Prop where
 bel:Below W0.heap.size W0 wr
 own:OwnI wr W0.heap.size a ord
theorem FnSt.below {W0 wr w':World} {ord:List Int} {a:Value} (h:FnSt W0 ord a wr) (hb:Below wr.heap.size wr w'):FnSt W0 ord a w':=⟨zA h.bel hb,h.own.below hb⟩
theorem FnSt.new (W0:World) (k:Int):FnSt W0 [k] (.slice (some ⟨W0.heap.size,0,none⟩) 1 1) (W0.alloc (.cells #[.int .i64 k] 3)) :=
 ⟨zD _ _,rfl,.inr ⟨W0.heap.size,1,#[.int .i64 k],rfl,Nat.le_refl _,heap_alloc_new _ _,Nat.le_refl _,by simp[maxLen],rfl,rfl⟩⟩
theorem FnSt.app {W0 w3 w4:World} {ord:List Int} {a v:Value} {k:Int} (h:FnSt W0 ord a w3) (hr:w4.ownsRow W0.heap.size 3 1 v (ord.length+1) (ord.flatMap encI++[.int .i64 k])) (hg:w3.grownBy w4 a.ownBlock):FnSt W0 (ord++[k]) v w4 :=
 ⟨h.bel.grown hg h.bel.size (fun q hq=>h.own.lt q hq),OwnL.snoc (x:=k) hr⟩
structure CoC (w:World) (W3:World) (C:List TyD) (n:Nat) (wr:World):Prop where
 bel:Below W3.heap.size W3 wr
 out:∃L v,wr.heap[W3.heap.size]? = some (.cells #[v,.int .i64 0] 32 (0,0))∧OutC w.heap.size W3.heap.size wr v L∧L.map (·.t)=C.take n
theorem CoC.start (w W3:World) (C:List TyD):CoC w W3 C 0 (W3.alloc zboxR) :=
 ⟨zD _ _,[],_,heap_alloc_new _ _,OutC.nil _ _ _,rfl⟩
theorem CoC.next {w W3 W w9:World} {C:List TyD} {n:Nat} {v v9:Value} {L:List TyA} {x:TyA} (hn:n<C.length) (hx:x.t=C[n]) (hL:L.map (·.t)=C.take n) (_:L.length=n) (hb:Below W3.heap.size W3 W) (hp:W.heap[W3.heap.size]? = some (.cells #[v,.int .i64 0] 32 (0,0)))
  (hos:OutC w.heap.size W3.heap.size W v L) (hw:w.heap.size≤W3.heap.size) (hxo:Off (fun q=>(w.heap.size≤q∧q≤W3.heap.size)∨v.ownBlock=some q) W fun u=>TyR u x.t x.As x.Am)
  (ho:w9.ownsRow (W3.heap.size+1) 70 10 v9 (L.length+1) (L.flatMap TyA.cells++x.cells)) (hg:(W.alloc (.cells x.cells.toArray 70)).grownBy w9 v.ownBlock) (hv:v9.ownBlock=v.ownBlock∨v9.ownBlock=some (W.alloc (.cells x.cells.toArray 70)).heap.size) :
  w9.frozen? ⟨W3.heap.size,0,none⟩=false∧w9.cell? ⟨W3.heap.size,0,none⟩=some v∧W3.heap.size<w9.heap.size∧CoC w W3 C (n+1) (w9.setCell ⟨W3.heap.size,0,none⟩ v9):=by
 have hnew:=zD W (.cells x.cells.toArray 70)
 have hzs:=(zg.1 hp).1
 have hoo:=(hos.below hnew).own
 have hk:∀q,q<W3.heap.size+1→w9.heap[q]? = W.heap[q]? := fun q hq=>(zN hg (by have:=hnew.size;omega) fun k hk e=>by have:=hoo.lt k hk;omega).trans (hnew.block q (by omega))
 have hsb:=(hk W3.heap.size (by omega)).trans hp
 have hb9:Below W3.heap.size W3 w9:=(zA hb hnew).grown hg (zA hb hnew).size (fun q hq=>by have:=hoo.lt q hq;omega)
 refine ⟨frozen_of_row _ _ _ _ _ hsb,by rw[cell_of_row _ _ _ _ _ _ hsb];rfl,(zg.1 hsb).1,hb9.setCell (p:=⟨W3.heap.size,0,none⟩) (Nat.le_refl _) _,L++[x],v9,?_,?_,?_⟩
 ·rw[heap_setCell_same _ _ 0 _ _ v9 hsb];rfl
 ·exact (OutC.snoc (hos.below hnew) (hxo.low hnew) ho hg hv).set (by simp) (b:=W3.heap.size) hw (Nat.le_refl _) (fun q hq _=>heap_setCell_other _ _ _ _ (by simpa using hq))
 ·rw[List.map_append,hL,List.take_succ_eq_append_getElem hn];simp[hx]
theorem rCanon_any (s:List TyD) (t:Int) (A:Option Addr) (c:Nat) (w:World) (hs:TysR w A s) (htab:Tab w) :
  Calls Tryz.prog 23 #[rootV A s.length c t] w (CanonPost s t w):=by
 have hn:=hs.1.lt (by omega)
 have HS:=zh hs
 have HTB:=zh htab
 clear hs htab
 have HB0:=zh (zC w (rootB A s.length c t) zboxR)
 have HBX:Hid (((w.alloc (rootB A s.length c t)).alloc zboxR).heap[w.heap.size]? = some (rootB A s.length c t)):=yS (heap_alloc_new w _) _
 have HRS:Hid (((w.alloc (rootB A s.length c t)).alloc zboxR).heap[w.heap.size+1]? = some zboxR):=by
  have h:=heap_alloc_new (w.alloc (rootB A s.length c t)) zboxR
  rw[show (w.alloc (rootB A s.length c t)).heap.size=w.heap.size+1 by simp] at h
  exact h
 by_cases hv:zH s t=0
 case neg =>
  have q1:(zH s t != 0)=true:=by simp[hv]
  have HV:=zh hv
  clear hv
  go_enter Tryz.func23,Tryz.ntmps23
  go_wp2_with fail
  refine (rError_any s t A c _ (HS.out.below HB0.out)).mono ?_
  rintro e w2 ⟨rfl,hb2⟩
  have hr2:=(hb2.block _ (zg.1 HRS.out).1).trans HRS.out
  have k0:w2.cell? ⟨w.heap.size+1,0,none⟩=some (.slice none 0 0):=by rw[cell_of_row _ _ _ _ _ _ hr2];rfl
  have k1:w2.cell? ⟨w.heap.size+1,1,none⟩=some (.int .i64 0):=by rw[cell_of_row _ _ _ _ _ _ hr2];rfl
  have f0:=frozen_of_row _ _ 0 _ _ hr2
  have f1:=frozen_of_row _ _ 1 _ _ hr2
  have HB2:=zh (zA HB0.out hb2)
  clear hb2 hr2
  go_wp2
  refine bodyPost_ret (v := .tuple #[.agg #[.slice none 0 0,.int .i64 0],.int .i64 (zH s t)]) (by simp[results,Tryz.results23,go_sem,k0,k1]) rfl ⟨none,0,[],rfl,RowsR.nil _ _ _ _ _,fun h=>absurd h HV.out,fun _=>rfl,?_⟩
  exact (HB2.out.setCell (p:=⟨w.heap.size+1,0,none⟩) (by simp) _).setCell (p:=⟨w.heap.size+1,1,none⟩) (by simp) _
 have q1:(zH s t != 0)=false:=by simp[hv]
 have q2:((0:Int) != 0)=false:=rfl
 obtain ⟨va,h0,h1⟩:=root_ok hv
 obtain ⟨tn,rfl⟩:=Int.eq_ofNat_of_zero_le h0
 have HV:=zh hv
 have HVA:=zh va
 have hle:=valid_len va
 have htn:tn<s.length:=by omega
 clear hv va h0 h1
 go_enter Tryz.func23,Tryz.ntmps23
 go_wp2_with fail
 refine (rError_any s (tn:Int) A c _ (HS.out.below HB0.out)).mono ?_
 rintro e w2 ⟨rfl,hb2⟩
 rw[HV.out]
 have HX2:=zh ((hb2.block _ (zg.1 HBX.out).1).trans HBX.out)
 have HR2:=zh ((hb2.block _ (zg.1 HRS.out).1).trans HRS.out)
 have HB2:=zh (zA HB0.out hb2)
 have k0:w2.cell? ⟨w.heap.size,0,none⟩=some (.slice A s.length c):=by rw[cell_of_row _ _ _ _ _ _ HX2.out];rfl
 clear hb2 HBX HRS HB0
 go_wp2_with fail
 refine (rClasses_any s A c _ (HS.out.below HB2.out)).mono ?_
 rintro e w3 ⟨v3,cls,rfl,ho3,hc3,_,hb3⟩
 rw[HVA.out]
 obtain ⟨S,hS,hcl⟩:=hc3 HVA.out
 have hcn:cls.length=s.length:=by rw[hcl];simp[clsD]
 obtain ⟨Ac,cc,rfl,hints⟩:=OwnI.ints ho3 (by unfold Lim;omega)
 rw[hcn]
 have HSG:=zh hS
 have HCL:=zh hcl
 have HX3:=zh ((hb3.block _ (zg.1 HX2.out).1).trans HX2.out)
 have HR3:=zh ((hb3.block _ (zg.1 HR2.out).1).trans HR2.out)
 have HB3:=zh (zA HB2.out hb3)
 have k1:w3.cell? ⟨w.heap.size,1,none⟩=some (.int .i64 (tn:Int)):=by rw[cell_of_row _ _ _ _ _ _ HX3.out];rfl
 have htc:tn<cls.length:=by omega
 obtain ⟨gc,oc,rfl,k2⟩:=hints.at1 htc
 have hz4:=zF k2
 simp only at hz4
 have hz3:w.heap.size<w3.heap.size:=(zg.1 HX3.out).1
 have g1:(0:Int)≤(tn:Int):=by omega
 have g2:(tn:Int)<(s.length:Int):=by omega
 have HCN:=zh hcn
 have HCI:=zh hints
 clear hints ho3 hc3 hb3 hS hcl k0 HB2 HX2 HR2 hcn
 go_wp2_with fail
 have HC0:Hid (clsAt cls (tn:Int)=cls[tn]):=clsAt_get htc
 have HU:=zh (yL HVA.out)
 have HLEN:Hid (∀i,(bfsN (nextD s cls) cls[tn] i).length≤s.length):=by
  show ∀i,_
  rw[←HC0.out,HCL.out]
  exact ord_len HU.out HSG.out (by omega) (by omega)
 have HRNG:Hid (∀i,∀x∈bfsN (nextD s cls) cls[tn] i,0≤x∧x<(s.length:Int)):=by
  show ∀i,_
  rw[←HC0.out,HCL.out]
  exact fun i x hx=>⟨(ord_cls HU.out HSG.out (by omega) (by omega) i x hx).1,(ord_cls HU.out HSG.out (by omega) (by omega) i x hx).2.1⟩
 have HST:=zh (FnSt.new w3 cls[tn])
 clear k1 k2 hz3 hz4
 generalize w3.alloc (.cells #[.int .i64 cls[tn]] 3)=W1 at *
 go_loopw [7,8] (fun a i wr=>∃k:Nat,k≤s.length∧i = .int .i64 k∧Hid (k≤(bfsN (nextD s cls) cls[tn] k).length∧FnSt w3 (bfsN (nextD s cls) cls[tn] k) a wr)) (fun _ i _=>s.length - (intOf i).toNat)
 case atStart=>exact ⟨0,by omega,rfl,by simp[bfsN],HST.out⟩
 case round =>
  obtain ⟨k,hk,rfl,hh⟩:=hrel
  obtain ⟨wo,rfl⟩:∃wo:World,wo=wr:=⟨_,rfl⟩
  have hOl:=HLEN.out k
  have HOR:=zh (HRNG.out k)
  obtain ⟨O,hO⟩:∃O,O=bfsN (nextD s cls) cls[tn] k:=⟨_,rfl⟩
  rw[←hO] at hh hOl HOR
  have HOE:=zh hO
  clear hO
  obtain ⟨Aa,ca,rfl,hints⟩:=OwnI.ints hh.out.2.own (by unfold Lim;omega)
  have HWB:=zh (zA HB3.out hh.out.2.bel)
  have e0:wo.cell? ⟨w.heap.size,0,none⟩=some (.slice A s.length c):=by rw[cell_of_row _ _ _ _ _ _ ((hh.out.2.bel.block _ (zg.1 HX3.out).1).trans HX3.out)];rfl
  by_cases hlt:k<O.length
  ·obtain ⟨b1,o1,rfl,c1⟩:=hints.at1 hlt
   obtain ⟨hr0,hr1⟩:=HOR.out _ (List.getElem_mem hlt)
   obtain ⟨cn,hcn⟩:=Int.eq_ofNat_of_zero_le hr0
   rw[hcn] at hr1 c1
   have hcl:cn<s.length:=by omega
   have HCNE:=zh hcn
   obtain ⟨b,o,As,cs,Am,cm,rfl,htr,t0,t1,t2,t3,t4,t5,t6,t7,t8,t9⟩:=(HS.out.below HWB.out).at10 hcl
   have HTR:=zh htr
   have HTC:Hid (TyCells wo b o cn s[cn] As cs Am cm):=zh ⟨t0,t1,t2,t3,t4,t5,t6,t7,t8,t9⟩
   have HE0:=zh e0
   have HC1:=zh c1
   have HCS:=zh hh.out
   have h1:(0:Int)≤(k:Int):=by omega
   have h2:(k:Int)<(O.length:Int):=by omega
   have h3:(0:Int)≤(cn:Int):=by omega
   have h4:(cn:Int)<(s.length:Int):=by omega
   clear hints htr t0 t1 t2 t3 t4 t5 t6 t7 t8 t9 e0 c1 hh hr0 hr1 hcn
   go_wp2_with fail
   refine wp_region_held_drew (S:=(fun w'=>((w'.cell? ⟨w.heap.size,0,none⟩=some (.slice (some ⟨b,o,none⟩) s.length c)∧w'.cell? ⟨b1,o1+k,none⟩=some (.int .i64 (cn:Int)))∧(w'.cell? ⟨b,o+cn * 10,none⟩=some (.int .i64 (s[cn]).kind)∧w'.cell? ⟨b,o+cn * 10+1,none⟩=some (.string (s[cn]).name)∧w'.cell? ⟨b,o+cn * 10+2,none⟩=some (.int .i64 (s[cn]).low)∧w'.cell? ⟨b,o+cn * 10+3,none⟩=some (.int .i64 (s[cn]).high)∧w'.cell? ⟨b,o+cn * 10+4,none⟩=some (.int .i64 (s[cn]).max)∧w'.cell? ⟨b,o+cn * 10+5,none⟩=some (.slice As (s[cn]).syms.length cs)∧w'.cell? ⟨b,o+cn * 10+6,none⟩=some (.slice Am (s[cn]).mems.length cm)∧w'.cell? ⟨b,o+cn * 10+7,none⟩=some (.int .i64 (s[cn]).key)∧w'.cell? ⟨b,o+cn * 10+8,none⟩=some (.int .i64 (s[cn]).elem)∧w'.cell? ⟨b,o+cn * 10+9,none⟩=some (.bool (s[cn]).open_)))∧Hid (Below wo.heap.size wo w'))) (by kernel_rfl) ?_ (fun zH_=>?_)
   ·(try dsimp only);exact cn12 HE0.out HC1.out HTC.out (zE (Below.refl _ _) 1)
   refine tL 0 _ zH_ ?_
   try simp only[ps]
   refine tL 1 _ zH_ ?_
   try simp only[ps]
   refine tL 2 _ zH_ ?_
   try simp only[ps]
   refine tL 3 _ zH_ ?_
   try simp only[ps]
   refine tL 4 _ zH_ ?_
   try simp only[ps]
   refine tL 5 _ zH_ ?_
   try simp only[ps]
   refine tL 6 _ zH_ ?_
   try simp only[ps]
   refine tL 7 _ zH_ ?_
   try simp only[ps]
   refine tL 8 _ zH_ ?_
   try simp only[ps]
   refine tR 9 (fun K hK=>?_)
   go_simp
   (refine (rUses_any s[cn] As cs Am cm _ (HTR.out.below zH_.2.out)).mono ?_;rintro e w5 ⟨v5,rfl,ho5,hb5⟩;obtain ⟨Au,cu,rfl,_⟩:=own_pairs ho5 (uses_len _ HTR.out.mems.1);have HBB:=zh (zA zH_.2.out hb5);have HO5:=zh (OwnL.base ho5 zH_.2.out.size);clear ho5 hb5)
   refine hK.out _ _ ?_ (fun zH_=>?_)
   ·(try dsimp only);exact cn12 HE0.out HC1.out HTC.out HBB.out
   clear hK K
   try simp only[ps]
   refine tL 10 _ zH_ ?_
   try simp only[ps]
   refine wpAnyH_done (by kernel_rfl) ?_ _
   go_wp2_with fail
   have hul:(usesD s[cn]).length≤8796093022208:=by have:=uses_len _ HTR.out.mems.1;unfold Lim at this;omega
   go_loopw [7,10] (fun a j wr=>∃m:Nat,m≤(usesD s[cn]).length∧j = .int .i64 m∧Hid (FnSt w3 ((((usesD s[cn]).map fun u=>clsAt cls u.2).take m).foldl addN O) a wr∧OwnL 97 2 encP wr wo.heap.size (.slice Au (usesD s[cn]).length cu) (usesD s[cn]))) (fun _ j _=>(usesD s[cn]).length - (intOf j).toNat)
   case atStart=>exact ⟨0,by omega,rfl,HCS.out.2.below HBB.out,HO5.out⟩
   case round =>
    obtain ⟨m,hm,rfl,hh⟩:=hrel
    obtain ⟨wi,rfl⟩:∃wi:World,wi=wr:=⟨_,rfl⟩
    have hfl:=fold_len (((usesD s[cn]).map fun u=>clsAt cls u.2).take m) O
    have hfl2:(((usesD s[cn]).map fun u=>clsAt cls u.2).take m).length≤(usesD s[cn]).length:=by rw[List.length_take,List.length_map];omega
    obtain ⟨o2,ho2⟩:∃o2,o2=(((usesD s[cn]).map fun u=>clsAt cls u.2).take m).foldl addN O:=⟨_,rfl⟩
    rw[←ho2] at hh hfl
    have HO2:=zh ho2
    have hol:o2.length≤8796093022240:=by omega
    clear ho2 hfl hfl2
    obtain ⟨A2,c2,rfl,hin2⟩:=OwnI.ints hh.out.1.own (by unfold Lim;omega)
    by_cases hlm:m<(usesD s[cn]).length
    ·obtain ⟨A',c',e,hpr⟩:=own_pairs hh.out.2 (uses_len _ HTR.out.mems.1)
     cases e
     obtain ⟨gu,ou,rfl,u0,u1⟩:=hpr.at2 hlm
     obtain ⟨hr0,hr1⟩:=HU.out _ (List.getElem_mem hcl) _ (List.getElem_mem hlm)
     obtain ⟨un,hun⟩:=Int.eq_ofNat_of_zero_le hr0
     have hus:un<s.length:=by rw[hun] at hr1;simpa using hr1
     have huc:un<cls.length:=by rw[HCN.out];exact hus
     rw[hun] at u1
     obtain ⟨g',o',e,x1⟩:=(HCI.out.below hh.out.1.bel).at1 huc
     cases e
     have HGET:Hid ((((usesD s[cn]).map fun u=>clsAt cls u.2)[m]'(by rw[List.length_map];exact hlm))=cls[un]):=by
      show _=_
      rw[List.getElem_map,hun];exact clsAt_get huc
     have HNX:Hid ((((usesD s[cn]).map fun u=>clsAt cls u.2).take (m+1)).foldl addN O=addN o2 cls[un]):=by
      show _=_
      rw[fold_take (by rw[List.length_map];exact hlm),←HO2.out,HGET.out]
     have h5:(0:Int)≤(m:Int):=by omega
     have h6:(m:Int)<((usesD s[cn]).length:Int):=by omega
     have h7:(0:Int)≤(un:Int):=by omega
     have h8:(un:Int)<(s.length:Int):=by omega
     have HSB:=zh hh.out.1
     have HUB:=zh hh.out.2
     clear hh hpr hr0 hr1 hun
     go_wp2_with fail
     refine (rIndex_any o2 cls[un] A2 c2 _ hin2).mono ?_
     rintro e w6 ⟨rfl,hw6⟩
     subst hw6
     by_cases hmem:cls[un]∈o2
     ·have hlk:decide (idxI o2 cls[un]<0)=false:=by
       obtain ⟨j,_,e,_⟩:=idxI_mem hmem
       rw[e];simp
      have HAD:Hid (addN o2 cls[un]=o2):=by show _=_;unfold addN;rw[if_pos hmem]
      clear hmem hin2
      go_wp2
      go_roundw
      case rel=>exact ⟨m+1,by omega,by go_num,(by rw[HNX.out,HAD.out];exact HSB.out),HUB.out⟩
      case measure=>simp[intOf];omega
     ·have hlk:decide (idxI o2 cls[un]<0)=true:=by unfold idxI;rw[if_neg hmem];rfl
      have HAD:Hid (addN o2 cls[un]=o2++[cls[un]]):=by show _=_;unfold addN;rw[if_neg hmem]
      have HO6:=zh (HSB.out.below (zD wi (.cells #[.int .i64 cls[un]] 3)))
      have HRN:Hid ((wi.alloc (.cells #[.int .i64 cls[un]] 3)).rangeAt wi.heap.size 0 [.int .i64 cls[un]]):=zL wi [.int .i64 cls[un]] 3
      have HZ6:Hid (w3.heap.size≤(wi.alloc (.cells #[.int .i64 cls[un]] 3)).heap.size):=HO6.out.bel.size
      have HUB6:Hid (OwnL 97 2 encP (wi.alloc (.cells #[.int .i64 cls[un]] 3)) wo.heap.size (.slice (some ⟨gu,ou,none⟩) (usesD s[cn]).length cu) (usesD s[cn])):=OwnL.alloc HUB.out _
      clear hmem hin2
      go_wp2_with (at_builtin;refine zK yC _ rfl (.tmp 69) (.tmp 78) rfl w3.heap.size _ _ _ rfl HO6.out.own wi.heap.size 0 1 1 [.int .i64 cls[un]] rfl rfl HRN.out (by simp[Value.oneCell']) (by omega) (by omega) HZ6.out ?_;intro v8 w8 ho8 hg8)
      go_roundw
      case rel=>exact ⟨m+1,by omega,by go_num,(by rw[HNX.out,HAD.out];exact HO6.out.app ho8 hg8),HUB6.out.other HO6.out.own (by decide) hg8⟩
      case measure=>simp[intOf];omega
    ·have HALL:Hid (o2=bfsN (nextD s cls) cls[tn] (k+1)):=by
      show _=_
      rw[HO2.out,List.take_of_length_le (by rw[List.length_map];omega),bfsN,←HOE.out,bfs_at hlt,HCNE.out]
      unfold nextD
      have:s.getD ((cn:Int)).toNat zeroT=s[cn]:=tyAt_nat hcl
      rw[this]
     have HPRE:Hid (k+1≤(bfsN (nextD s cls) cls[tn] (k+1)).length):=by
      show _≤_
      obtain ⟨r,hr⟩:=bfs_pre1 (next:=nextD s cls) (c0:=cls[tn]) k
      rw[hr,List.length_append,←HOE.out];omega
     have HSO:=zh hh.out.1
     clear hh hin2
     go_wp2
     go_roundw
     case rel=>exact ⟨k+1,by omega,by go_num,HPRE.out,(by rw[←HALL.out];exact HSO.out)⟩
     case measure=>simp[intOf];omega
  ·have HORD:Hid (O=ordD s cls (tn:Int)):=by
    show _=_
    unfold ordD
    rw[HC0.out,HOE.out]
    exact (bfs_done HLEN.out (by rw[←HOE.out];omega)).symm
   have HCS:=zh hh.out.2
   have HIN:=zh hints
   clear hh hints
   go_wp2_with fail
   have HCO:=zh (CoC.start w wo (canonL s cls (tn:Int)))
   have HCLN:Hid ((canonL s cls (tn:Int)).length=O.length):=by show _=_;rw[canon_len,←HORD.out]
   generalize wo.alloc zboxR=W2 at *
   go_loopw [12] (fun j wr=>∃n:Nat,n≤O.length∧j = .int .i64 n∧Hid (CoC w wo (canonL s cls (tn:Int)) n wr)) (fun j _=>O.length - (intOf j).toNat)
   case atStart=>exact ⟨0,by omega,rfl,HCO.out⟩
   case round =>
    obtain ⟨n,hnn,rfl,hh⟩:=hrel
    obtain ⟨wi,rfl⟩:∃wi:World,wi=wr:=⟨_,rfl⟩
    obtain ⟨L,v,hpo,hos,hL⟩:=hh.out.out
    have hLn:L.length=n:=by have:=congrArg List.length hL;rw[List.length_map,List.length_take,HCLN.out] at this;omega
    obtain ⟨A9,c9,rfl,_⟩:=OwnL.reads hos.own
    have HBW:=zh hh.out.bel
    have HPO:=zh hpo
    have HOS:=zh hos
    have HLT:=zh hL
    have HLN:=zh hLn
    have HWI:=zh (zA HWB.out HBW.out)
    have HX3I:=zh ((HBW.out.block _ (by have:=HCS.out.bel.size;have:=(zg.1 HX3.out).1;omega)).trans ((HCS.out.bel.block _ (zg.1 HX3.out).1).trans HX3.out))
    have HR3I:=zh ((HBW.out.block _ (by have:=HCS.out.bel.size;have:=(zg.1 HR3.out).1;omega)).trans ((HCS.out.bel.block _ (zg.1 HR3.out).1).trans HR3.out))
    have HCI3:=zh (HCI.out.below (zA HCS.out.bel HBW.out))
    have HINI:=zh (HIN.out.below HBW.out)
    clear hh hpo hos hL hLn
    by_cases hlt2:n<O.length
    ·obtain ⟨b1,o1,rfl,c1⟩:=HINI.out.at1 hlt2
     obtain ⟨hr0,hr1⟩:=HOR.out _ (List.getElem_mem hlt2)
     obtain ⟨cn,hcn⟩:=Int.eq_ofNat_of_zero_le hr0
     rw[hcn] at hr1 c1
     have hcl:cn<s.length:=by omega
     have HCNE:=zh hcn
     have e0:wi.cell? ⟨w.heap.size,0,none⟩=some (.slice A s.length c):=by rw[cell_of_row _ _ _ _ _ _ HX3I.out];rfl
     obtain ⟨b,o,As,cs,Am,cm,rfl,htr,t0,t1,t2,t3,t4,t5,t6,t7,t8,t9⟩:=HS.out.at10 hcl
     have HTR:=zh htr
     have HTC:Hid (TyCells wi b o cn s[cn] As cs Am cm):=zh ⟨zB HWI.out t0,zB HWI.out t1,zB HWI.out t2,zB HWI.out t3,zB HWI.out t4,zB HWI.out t5,zB HWI.out t6,zB HWI.out t7,zB HWI.out t8,zB HWI.out t9⟩
     have HE0:=zh e0
     have HC1:=zh c1
     have HFO:=zh (valid_tys HVA.out (List.getElem_mem hcl)).1
     have HFM:=zh (form_ids HFO.out)
     have HM16:=zh (form_mems HFO.out)
     obtain ⟨ix,hix⟩:∃ix:Int→Int,ix=fun u=>idxI (ordD s cls (tn:Int)) (clsAt cls u):=⟨_,rfl⟩
     have HIX:Hid (∀u∈usesD s[cn],∃un:Nat,u.2=(un:Int)∧un<s.length∧∀h:un<cls.length,idxI O cls[un]=ix u.2):=by
      intro u hu
      obtain ⟨hu0,hu1⟩:=HU.out _ (List.getElem_mem hcl) u hu
      obtain ⟨un,hun⟩:=Int.eq_ofNat_of_zero_le hu0
      refine ⟨un,hun,by rw[hun] at hu1;simpa using hu1,fun h=>?_⟩
      rw[hix,hun]
      simp only[clsAt_get h]
      rw[HORD.out]
     have HCE:Hid ((canonL s cls (tn:Int))[n]'(by rw[HCLN.out];exact hlt2)=refT n ix s[cn]):=by
      show _=_
      rw[ref_ren HFO.out,canon_at cls (by rw[←HORD.out];exact hlt2),hix]
      have:(ordD s cls (tn:Int))[n]'(by rw[←HORD.out];exact hlt2)=(cn:Int):=by
       have:=HCNE.out
       simp only[HORD.out] at this
       exact this
      rw[this,tyAt_nat hcl]
     have h1:(0:Int)≤(n:Int):=by omega
     have h2:(n:Int)<(O.length:Int):=by omega
     have h3:(0:Int)≤(cn:Int):=by omega
     have h4:(cn:Int)<(s.length:Int):=by omega
     have z1:=zF e0
     have z2:=zF c1
     have z3:=zF HTC.out.1
     simp only at z1 z2 z3
     generalize s[cn]=t at *
     clear htr t0 t1 t2 t3 t4 t5 t6 t7 t8 t9 e0 c1 hr0 hr1 hcn hix
     go_wp2_with fail
     refine wp_region_held_drew (S:=(fun w'=>((w'.cell? ⟨w.heap.size,0,none⟩=some (.slice (some ⟨b,o,none⟩) s.length c)∧w'.cell? ⟨b1,o1+n,none⟩=some (.int .i64 (cn:Int)))∧(w'.cell? ⟨b,o+cn * 10,none⟩=some (.int .i64 t.kind)∧w'.cell? ⟨b,o+cn * 10+1,none⟩=some (.string t.name)∧w'.cell? ⟨b,o+cn * 10+2,none⟩=some (.int .i64 t.low)∧w'.cell? ⟨b,o+cn * 10+3,none⟩=some (.int .i64 t.high)∧w'.cell? ⟨b,o+cn * 10+4,none⟩=some (.int .i64 t.max)∧w'.cell? ⟨b,o+cn * 10+5,none⟩=some (.slice As t.syms.length cs)∧w'.cell? ⟨b,o+cn * 10+6,none⟩=some (.slice Am t.mems.length cm)∧w'.cell? ⟨b,o+cn * 10+7,none⟩=some (.int .i64 t.key)∧w'.cell? ⟨b,o+cn * 10+8,none⟩=some (.int .i64 t.elem)∧w'.cell? ⟨b,o+cn * 10+9,none⟩=some (.bool t.open_)))∧Hid (Below wi.heap.size wi w'))) (by kernel_rfl) ?_ (fun zH_=>?_)
     ·(try dsimp only);exact cn12 HE0.out HC1.out HTC.out (zE (Below.refl _ _) 1)
     refine tL 0 _ zH_ ?_
     try simp only[ps]
     refine tL 1 _ zH_ ?_
     try simp only[ps]
     refine tL 2 _ zH_ ?_
     try simp only[ps]
     refine tL 3 _ zH_ ?_
     try simp only[ps]
     refine tL 4 _ zH_ ?_
     try simp only[ps]
     refine tL 5 _ zH_ ?_
     try simp only[ps]
     refine tL 6 _ zH_ ?_
     try simp only[ps]
     refine tL 7 _ zH_ ?_
     try simp only[ps]
     refine tL 8 _ zH_ ?_
     try simp only[ps]
     refine tR 9 (fun K hK=>?_)
     go_simp
     refine hK.out _ _ ?_ (fun zH_=>?_)
     ·(try dsimp only);exact cn12 HE0.out HC1.out HTC.out (zA zH_.2.out (zD _ _))
     clear hK K
     try simp only[ps]
     refine tR 10 (fun K hK=>?_)
     (simp only[List.getElem_toArray,List.getElem_cons_zero,List.getElem_cons_succ];rw[if_pos (by rfl)];refine wp_store_mid 70 (.tmp 13) (.tmp 94) rfl (wi.heap.size) (0) (#[.int .i64 t.kind,.string t.name,.int .i64 t.low,.int .i64 t.high,.int .i64 t.max,.slice As t.syms.length cs,.slice Am t.mems.length cm,.int .i64 t.key,.int .i64 t.elem,.bool t.open_]) (by rfl) (by rfl) ?_ ?_ ?_ ?_;(exact yQ (heap_alloc_new (wi.drewN 1) _));(exact ty_info);(exact ty_one t As cs Am cm))
     refine hK.out _ _ ?_ (fun zH_=>?_)
     ·(try dsimp only);exact cn12 HE0.out HC1.out HTC.out (zV _ (Nat.le_refl _) _ _ _ zH_.2.out)
     clear hK K
     try simp only[ps]
     refine wpAnyH_done (by kernel_rfl) ?_ _
     have HT9:Hid (TBox ((wi.alloc zboxT).drew.setCells wi.heap.size 0 (t.cs As cs Am cm)) wi.heap.size t As cs Am cm):=zh (tbox_all (heap_alloc_new (wi.drewN 1) _))
     have HB9:Hid (Below wi.heap.size wi ((wi.alloc zboxT).drew.setCells wi.heap.size 0 (t.cs As cs Am cm))):=zh zH_.2.out
     clear zH_ z1 z2 z3
     generalize (wi.alloc zboxT).drew.setCells wi.heap.size 0 (t.cs As cs Am cm)=W9 at *
     have u0:=HT9.out.cell 0
     have u2:=HT9.out.cell 2
     have u3:=HT9.out.cell 3
     have u4:=HT9.out.cell 4
     have u9:=HT9.out.cell 9
     have hb9:=HT9.out.blt
     have HCY0:=zh (Cy.new (w:=w) HT9.out HB9.out (Nat.le_refl _))
     go_upto_region 21 with fail
     clear u0 u2 u3 u4 u9 hb9
     generalize W9.alloc (.cells #[.int .i64 t.kind,.string ⟨#[]⟩,.int .i64 t.low,.int .i64 t.high,.int .i64 t.max,.slice none 0 0,.slice none 0 0,.int .i64 0,.int .i64 0,.bool t.open_] 70)=W10 at *
     generalize W9.heap.size=b14 at *
     have u0:=HCY0.out.t9.cell 0
     have hb9:=HCY0.out.t9.blt
     have hb14:=HCY0.out.t10.blt
     obtain ⟨NB,HNB⟩:∃NB,Hid (zU t.kind=NB):=⟨_,rfl⟩
     go_wp2_with fail
     refine (rNamed_any _ _).mono ?_
     rintro e w5 ⟨rfl,rfl⟩
     rw[HNB.out]
     go_upto_if 108 with fail
     go_cut [] (fun wx=>Hid (Cy w wi wx wi.heap.size b14 t As cs Am cm (uR t (if zU t.kind then nameN 84 n else ⟨#[]⟩) [] [] 0 0) none 0 none 0))
     case first =>
      as_aux_lemma =>
      cases NB with
      | false =>
       go_wp2
       go_meet
       rw[HNB.out]
       exact HCY0.out
      | true =>
       go_wp2_with fail
       refine (itoa_any n ⟨by omega,by omega⟩ _ (HTB.out.below (zA HWI.out HCY0.out.bel))).mono ?_
       rintro e w6 ⟨rfl,hb6⟩
       have HCY6:=zh (HCY0.out.below hb6)
       have hds:(decB (n:Int)).size≤21:=Lib.itoa_length_le (n:Int) (by omega) (by omega)
       have u1:=HCY6.out.t10.cell 1
       have f1:=frozen_of_row _ _ 1 _ _ HCY6.out.t10
       have hb6':=HCY6.out.t10.blt
       go_wp2
       go_meet
       rw[HNB.out]
       exact HCY6.out.name _
     case rest =>
     have HCY1:=zh hcut.out
     have HSYL:Hid (t.syms.length≤5864062014805):=by have:=HTR.out.syms.1;unfold Lim at this;show _≤_;omega
     have HINK:=zh (And.intro h1 h2)
     clear u0 hb9 hb14 hcut HCY0 h1 h2 h3 h4
     obtain ⟨nm,hnm⟩:∃nm,nm=(if zU t.kind then nameN 84 n else ⟨#[]⟩):=⟨_,rfl⟩
     rw[←hnm] at HCY1
     have HNME:=zh hnm
     clear hnm
     go_wp2
     go_loopw [15] (fun p wr=>∃ (q:Nat) (B1:Option Addr) (d1:Nat),q≤t.syms.length∧p = .int .i64 (q:Int)∧Hid (Cy w wi wr wi.heap.size b14 t As cs Am cm (uR t nm ((t.syms.take q).map renS) [] 0 0) B1 d1 none 0)) (fun p _=>t.syms.length - (intOf p).toNat)
     case atStart=>exact ⟨0,none,0,by omega,rfl,HCY1.out⟩
     case round =>
      obtain ⟨q,B1,d1,hq,rfl,hh⟩:=hrel
      obtain ⟨wx,rfl⟩:∃wx:World,wx=wr:=⟨_,rfl⟩
      have HCO:=zh hh.out
      clear hh
      have c5:wx.cell? ⟨wi.heap.size,5,none⟩=some (.slice As t.syms.length cs):=HCO.out.t9.cell 5
      have hb9:=HCO.out.t9.blt
      have hb14:=HCO.out.t10.blt
      have hsyl:=HSYL.out
      by_cases hql:q<t.syms.length
      ·obtain ⟨sb,so,scs,rfl,⟨hso,rfl⟩,hrg⟩:=RowsR.at_ HTR.out.syms hql
       have hs0:wi.cell? ⟨sb,so+q * 2,none⟩=some (.int .i64 (t.syms[q]).id):=zB HWI.out (hrg 0 _ rfl)
       have HS0:=zh hs0
       have hid:=HFM.out.1 _ (List.getElem_mem hql)
       have HID:=zh hid
       have hds2:¬ 9223372036854775807<1+(decB (t.syms[q]).id).size:=by have:(decB (t.syms[q]).id).size≤21:=Lib.itoa_length_le _ hid.1 hid.2;omega
       have HLQ:Hid (((t.syms.take q).map renS).length=q):=by show _=_;rw[List.length_map,List.length_take];omega
       have HNX:Hid ((t.syms.take (q+1)).map renS=(t.syms.take q).map renS++[renS t.syms[q]]):=by show _=_;rw[List.take_succ_eq_append_getElem hql,List.map_append];rfl
       have HNAM:Hid (nameN 115 (t.syms[q]).id=⟨#[115]⟩++decB (t.syms[q]).id):=rfl
       have g1':(0:Int)≤(q:Int):=by omega
       have g2':(q:Int)<(t.syms.length:Int):=by omega
       have z1:=zF hs0
       simp only at z1
       clear hrg hso hid hs0
       go_wp2_with fail
       refine yD (S:=(fun w'=>((w'.cell? ⟨b14,5,none⟩=some (.slice B1 q d1)∧w'.cell? ⟨wi.heap.size,5,none⟩=some (.slice (some ⟨sb,so,none⟩) t.syms.length cs))∧w'.cell? ⟨sb,so+q * 2,none⟩=some (.int .i64 (t.syms[q]).id))∧Hid (TBox w' wi.heap.size t (some ⟨sb,so,none⟩) cs Am cm∧TBox w' b14 (uR t nm ((t.syms.take q).map renS) [] 0 0) B1 d1 none 0∧Below wi.heap.size wi w'))) 20 (by kernel_rfl) ?_ (fun zH_=>?_)
       ·(try dsimp only);exact (HCO.out.below (zE (Below.refl _ _) 1)).hold HLQ.out HS0.out
       refine tC 0 _ zH_ ?_
       try simp only[ps]
       refine tB 1 _ zH_ ?_
       try simp only[ps]
       refine tC 2 _ zH_ ?_
       try simp only[ps]
       refine tB 3 _ zH_ ?_
       try simp only[ps]
       refine tC 4 _ zH_ ?_
       try simp only[ps]
       refine tC 5 _ zH_ ?_
       try simp only[ps]
       refine tC 6 _ zH_ ?_
       try simp only[ps]
       refine tB 7 _ zH_ ?_
       try simp only[ps]
       refine tC 8 _ zH_ ?_
       try simp only[ps]
       refine tB 9 _ zH_ ?_
       try simp only[ps]
       refine tC 10 _ zH_ ?_
       try simp only[ps]
       refine tC 11 _ zH_ ?_
       try simp only[ps]
       refine tC 12 _ zH_ ?_
       try simp only[ps]
       refine tB 13 _ zH_ ?_
       try simp only[ps]
       refine tS 14 (fun K hK=>?_)
       go_simp
       (refine (itoa_any (t.syms[q]).id HID.out _ (HTB.out.below (zA HWI.out zH_.2.out.2.2))).mono ?_;rintro e w6 ⟨rfl,hb6⟩;have HC6:=zh ((HCO.out.below (zE (Below.refl _ _) 1)).below hb6))
       refine hK.out _ _ ?_ (fun zH_=>?_)
       ·(try dsimp only);exact HC6.out.hold HLQ.out HS0.out
       clear hK K
       try simp only[ps]
       refine tC 15 _ zH_ ?_
       try simp only[ps]
       refine tC 16 _ zH_ ?_
       try simp only[ps]
       refine tS 17 (fun K hK=>?_)
       go_simp
       refine hK.out _ _ ?_ (fun zH_=>?_)
       ·(try dsimp only);exact (HC6.out.below (zD _ _)).hold HLQ.out HS0.out
       clear hK K
       try simp only[ps]
       refine tS 18 (fun K hK=>?_)
       (obtain ⟨css,ho,hm⟩:=(HC6.out.below (zD w6 (.cells #[.int .i64 (t.syms[q]).id,.string (⟨#[115]⟩++decB (t.syms[q]).id)] 75))).symA HLQ.out;have HRN:=zh (zL w6 [.int .i64 (t.syms[q]).id,.string (⟨#[115]⟩++decB (t.syms[q]).id)] 75);have HZ6:Hid (b14+1≤(w6.alloc (.cells #[.int .i64 (t.syms[q]).id,.string (⟨#[115]⟩++decB (t.syms[q]).id)] 75)).heap.size):=(by have:=HC6.out.t10.blt;show _≤_;simp;omega);refine zO elem_sym (by rfl) (.tmp 121) (.tmp 137) (by rfl) (b14+1) (.slice B1 q d1) q css.flatten (by rfl) ho w6.heap.size 0 1 1 [.int .i64 (t.syms[q]).id,.string (⟨#[115]⟩++decB (t.syms[q]).id)] (by rfl) rfl HRN.out (fun u hu=>by simp only[List.mem_cons,List.mem_nil_iff,or_false] at hu;rcases hu with rfl|rfl <;> rfl) (by omega) (by omega) HZ6.out ?_;intro v8 w8 ho8 hg8;obtain ⟨B8,d8,rfl,h8,hc8⟩:=hm w8 v8 (renS t.syms[q]) (nameN_ok' HID.out) ho8 hg8;have H8:=zh h8;have HC8:=zh hc8;have f8:=frozen_of_row _ _ 5 _ _ h8.2.1;clear ho hm ho8 hg8 h8 hc8)
       refine hK.out _ _ ?_ (fun zH_=>?_)
       ·(try dsimp only);exact ry_sym H8.out.1 H8.out.2.1 H8.out.2.2 HLQ.out HS0.out
       clear hK K
       try simp only[ps]
       refine tC 19 _ zH_ ?_
       try simp only[ps]
       refine zZ (rs:=[20]) (by kernel_rfl) (by simp) ?_
       refine AllReadyB.last rfl (by kernel_rfl) (fun K hK=>?_) AllReadyB.nil
       (obtain ⟨⟨⟨hc0,_⟩,_⟩,_⟩:=zH_;go_simp)
       refine hK.out _ _ ?_
       clear hK K
       (try clear zH_)
       try simp only[ps]
       refine wpAny_done (by kernel_rfl) ?_ _
       clear hc0 f8
       go_wp2
       go_roundw
       case rel=>exact ⟨q+1,B8,d8,by omega,by go_num,by rw[HNX.out];exact HC8.out⟩
       case measure=>simp[intOf];omega
      ·obtain rfl:q=t.syms.length:=by omega
       have HC2:Hid (Cy w wi wx wi.heap.size b14 t As cs Am cm (uR t nm (t.syms.map renS) [] 0 0) B1 d1 none 0):=by have:=HCO.out;rwa [List.take_length] at this
       have HMLE:Hid (t.mems.length≤879609302220):=by have:=HTR.out.mems.1;unfold Lim at this;show _≤_;omega
       clear HCO hsyl hql hq
       go_wp2
       clear c5 hb9 hb14
       go_loopw [16] (fun p wr=>∃ (q:Nat) (B2:Option Addr) (d2:Nat),q≤t.mems.length∧p = .int .i64 (q:Int)∧Hid (Cy w wi wr wi.heap.size b14 t As cs Am cm (uR t nm (t.syms.map renS) ((t.mems.take q).map (renM ix)) 0 0) B1 d1 B2 d2)) (fun p _=>t.mems.length - (intOf p).toNat)
       case atStart=>exact ⟨0,none,0,by omega,rfl,HC2.out⟩
       case round =>
        obtain ⟨q,B2,d2,hq,rfl,hh⟩:=hrel
        obtain ⟨wy,rfl⟩:∃wy:World,wy=wr:=⟨_,rfl⟩
        have HCO:=zh hh.out
        clear hh
        have c6:wy.cell? ⟨wi.heap.size,6,none⟩=some (.slice Am t.mems.length cm):=HCO.out.t9.cell 6
        have hb9:=HCO.out.t9.blt
        have hb14:=HCO.out.t10.blt
        have hmle:=HMLE.out
        by_cases hql:q<t.mems.length
        ·obtain ⟨mb,mo,mcs,rfl,hat,hrg⟩:=RowsR.at_ HTR.out.mems hql
         have HML:Hid (MatL w t.mems[q] mcs):=zh (fun u hu=>MemD.at_low hu hat)
         obtain ⟨E1,k1,E2,k2,E3,k3,rfl,_⟩:=hat
         obtain ⟨un,hun,hul,hidx⟩:=HIX.out ((t.mems[q]).id,(t.mems[q]).type) (by rw[yO];exact List.mem_append_left _ (List.mem_append_left _ (List.mem_map.2 ⟨_,List.getElem_mem hql,rfl⟩)))
         have huc:un<cls.length:=by rw[HCN.out];exact hul
         have HIDX:=zh (hidx huc)
         have hid:=HFM.out.2 _ (List.getElem_mem hql)
         have HID:=zh hid
         have hds2:¬ 9223372036854775807<1+(decB (t.mems[q]).id).size:=by have:(decB (t.mems[q]).id).size≤21:=Lib.itoa_length_le _ hid.1 hid.2;omega
         have HLQ:Hid (((t.mems.take q).map (renM ix)).length=q):=by show _=_;rw[List.length_map,List.length_take];omega
         have HNX:Hid ((t.mems.take (q+1)).map (renM ix)=(t.mems.take q).map (renM ix)++[renM ix t.mems[q]]):=by show _=_;rw[List.take_succ_eq_append_getElem hql,List.map_append];rfl
         have HBY:=zh HCO.out.bel
         have e0:wy.cell? ⟨mb,mo+q * 13,none⟩=some (.int .i64 (t.mems[q]).id):=zB HBY.out (zB HWI.out (hrg 0 _ rfl))
         have e1:wy.cell? ⟨mb,mo+q * 13+1,none⟩=some (.string (t.mems[q]).name):=zB HBY.out (zB HWI.out (hrg 1 _ rfl))
         have e2:wy.cell? ⟨mb,mo+q * 13+2,none⟩=some (.int .i64 (t.mems[q]).type):=zB HBY.out (zB HWI.out (hrg 2 _ rfl))
         have e3:wy.cell? ⟨mb,mo+q * 13+3,none⟩=some (.bool (t.mems[q]).critical):=zB HBY.out (zB HWI.out (hrg 3 _ rfl))
         have e4:wy.cell? ⟨mb,mo+q * 13+4,none⟩=some (.bool (t.mems[q]).hasDef):=zB HBY.out (zB HWI.out (hrg 4 _ rfl))
         have e5:wy.cell? ⟨mb,mo+q * 13+5,none⟩=some (.int .i64 (t.mems[q]).dflt.kind):=zB HBY.out (zB HWI.out (hrg 5 _ rfl))
         have e6:wy.cell? ⟨mb,mo+q * 13+6,none⟩=some (.bool (t.mems[q]).dflt.bool):=zB HBY.out (zB HWI.out (hrg 6 _ rfl))
         have e7:wy.cell? ⟨mb,mo+q * 13+7,none⟩=some (.int .i64 (t.mems[q]).dflt.int):=zB HBY.out (zB HWI.out (hrg 7 _ rfl))
         have e8:wy.cell? ⟨mb,mo+q * 13+8,none⟩=some (.string (t.mems[q]).dflt.str):=zB HBY.out (zB HWI.out (hrg 8 _ rfl))
         have e9:wy.cell? ⟨mb,mo+q * 13+9,none⟩=some (.int .i64 (t.mems[q]).dflt.id):=zB HBY.out (zB HWI.out (hrg 9 _ rfl))
         have e10:wy.cell? ⟨mb,mo+q * 13+10,none⟩=some (.slice E1 (t.mems[q]).dflt.keys.length k1):=zB HBY.out (zB HWI.out (hrg 10 _ rfl))
         have e11:wy.cell? ⟨mb,mo+q * 13+11,none⟩=some (.slice E2 (t.mems[q]).dflt.items.length k2):=zB HBY.out (zB HWI.out (hrg 11 _ rfl))
         have e12:wy.cell? ⟨mb,mo+q * 13+12,none⟩=some (.slice E3 (t.mems[q]).dflt.rest.length k3):=zB HBY.out (zB HWI.out (hrg 12 _ rfl))
         have HTY:Hid ((t.mems[q]).type=(un:Int)):=hun
         rw[HTY.out] at e2
         generalize hmq:t.mems[q]=m at *
         have HX17:=zh (heap_alloc_new wy (.cells #[.int .i64 m.id,.string m.name,.int .i64 (un:Int),.bool m.critical,.bool m.hasDef,.int .i64 m.dflt.kind,.bool m.dflt.bool,.int .i64 m.dflt.int,.string m.dflt.str,.int .i64 m.dflt.id,.slice E1 m.dflt.keys.length k1,.slice E2 m.dflt.items.length k2,.slice E3 m.dflt.rest.length k3] 83))
         have HB17:=zh (zD wy (.cells #[.int .i64 m.id,.string m.name,.int .i64 (un:Int),.bool m.critical,.bool m.hasDef,.int .i64 m.dflt.kind,.bool m.dflt.bool,.int .i64 m.dflt.int,.string m.dflt.str,.int .i64 m.dflt.id,.slice E1 m.dflt.keys.length k1,.slice E2 m.dflt.items.length k2,.slice E3 m.dflt.rest.length k3] 83))
         have h5:(0:Int)≤(q:Int):=by omega
         have h6:(q:Int)<(t.mems.length:Int):=by omega
         have h7:(0:Int)≤(un:Int):=by omega
         have h8:(un:Int)<(s.length:Int):=by omega
         clear hrg hid hun hidx hmq
         go_upto_region 31 with fail
         clear e0 e1 e2 e3 e4 e5 e6 e7 e8 e9 e10 e11 e12 c6
         generalize wy.alloc (.cells #[.int .i64 m.id,.string m.name,.int .i64 (un:Int),.bool m.critical,.bool m.hasDef,.int .i64 m.dflt.kind,.bool m.dflt.bool,.int .i64 m.dflt.int,.string m.dflt.str,.int .i64 m.dflt.id,.slice E1 m.dflt.keys.length k1,.slice E2 m.dflt.items.length k2,.slice E3 m.dflt.rest.length k3] 83)=W17 at *
         have x0:W17.cell? ⟨wy.heap.size,0,none⟩=some (.int .i64 m.id):=by rw[cell_of_row _ _ _ _ _ _ HX17.out];rfl
         go_wp2_with fail
         refine (itoa_any m.id HID.out _ (HTB.out.below (zA HWI.out (zA HBY.out HB17.out)))).mono ?_
         rintro e w6 ⟨rfl,hb6⟩
         have HB6:=zh (zA HB17.out hb6)
         have HX6:=zh ((hb6.block _ (zg.1 HX17.out).1).trans HX17.out)
         have x1:w6.cell? ⟨wy.heap.size,1,none⟩=some (.string m.name):=by rw[cell_of_row _ _ _ _ _ _ HX6.out];rfl
         have f1:=frozen_of_row _ _ 1 _ _ HX6.out
         have hlx:=(zg.1 HX6.out).1
         clear x0 hb6
         go_upto_region 32 with fail
         have HX7:Hid ((w6.setCell ⟨wy.heap.size,1,none⟩ (.string (⟨#[102]⟩++decB m.id))).heap[wy.heap.size]? = some (.cells #[.int .i64 m.id,.string (⟨#[102]⟩++decB m.id),.int .i64 (un:Int),.bool m.critical,.bool m.hasDef,.int .i64 m.dflt.kind,.bool m.dflt.bool,.int .i64 m.dflt.int,.string m.dflt.str,.int .i64 m.dflt.id,.slice E1 m.dflt.keys.length k1,.slice E2 m.dflt.items.length k2,.slice E3 m.dflt.rest.length k3] 83 (0,0))):=by
          show _=_
          rw[heap_setCell_same _ _ 1 _ _ _ HX6.out];simp
         have HB7:Hid (Below wy.heap.size wy (w6.setCell ⟨wy.heap.size,1,none⟩ (.string (⟨#[102]⟩++decB m.id)))):=HB6.out.setCell (p:=⟨wy.heap.size,1,none⟩) (Nat.le_refl _) _
         clear x1 f1 hlx HX6 HB6 HX17 HB17
         generalize w6.setCell ⟨wy.heap.size,1,none⟩ (.string (⟨#[102]⟩++decB m.id))=W7 at *
         have x2:W7.cell? ⟨wy.heap.size,2,none⟩=some (.int .i64 (un:Int)):=by rw[cell_of_row _ _ _ _ _ _ HX7.out];rfl
         have f2:=frozen_of_row _ _ 2 _ _ HX7.out
         have hlx:=(zg.1 HX7.out).1
         have HBI:=zh (zA HBY.out HB7.out)
         obtain ⟨g',o',e,x3⟩:=(HCI3.out.below HBI.out).at1 huc
         cases e
         go_wp2_with fail
         refine (rIndex_any O cls[un] _ ca _ (HINI.out.below HBI.out)).mono ?_
         rintro e w8 ⟨rfl,hw8⟩
         subst hw8
         rw[HIDX.out]
         clear x3
         go_upto_region 33 with fail
         have HX8:Hid ((W7.setCell ⟨wy.heap.size,2,none⟩ (.int .i64 (ix m.type))).heap[wy.heap.size]? = some (.cells #[.int .i64 m.id,.string (⟨#[102]⟩++decB m.id),.int .i64 (ix m.type),.bool m.critical,.bool m.hasDef,.int .i64 m.dflt.kind,.bool m.dflt.bool,.int .i64 m.dflt.int,.string m.dflt.str,.int .i64 m.dflt.id,.slice E1 m.dflt.keys.length k1,.slice E2 m.dflt.items.length k2,.slice E3 m.dflt.rest.length k3] 83 (0,0))):=by
          show _=_
          rw[heap_setCell_same _ _ 2 _ _ _ HX7.out];simp
         have HB8:Hid (Below wy.heap.size wy (W7.setCell ⟨wy.heap.size,2,none⟩ (.int .i64 (ix m.type)))):=HB7.out.setCell (p:=⟨wy.heap.size,2,none⟩) (Nat.le_refl _) _
         clear x2 f2 hlx HX7 HB7 HBI hb9 hb14
         generalize W7.setCell ⟨wy.heap.size,2,none⟩ (.int .i64 (ix m.type))=W8 at *
         obtain ⟨y0,y1,y2,y3,y4,y5,y6,y7,y8,y9,y10,y11,y12⟩:=mb_cells HX8.out
         have hlx:=(zg.1 HX8.out).1
         have HC8:=zh (HCO.out.below HB8.out)
         have v6:W8.cell? ⟨b14,6,none⟩=some (.slice B2 q d2):=by
          have:W8.cell? ⟨b14,6,none⟩=some (.slice B2 ((t.mems.take q).map (renM ix)).length d2):=HC8.out.t10.cell 6
          rw[HLQ.out] at this;exact this
         have hb14:=HC8.out.t10.blt
         obtain ⟨css,ho,hm⟩:=(HC8.out.below (zD W8 (.cells #[.int .i64 m.id,.string (⟨#[102]⟩++decB m.id),.int .i64 (ix m.type),.bool m.critical,.bool m.hasDef,.int .i64 m.dflt.kind,.bool m.dflt.bool,.int .i64 m.dflt.int,.string m.dflt.str,.int .i64 m.dflt.id,.slice E1 m.dflt.keys.length k1,.slice E2 m.dflt.items.length k2,.slice E3 m.dflt.rest.length k3] 83))).memA HLQ.out
         have HO:=zh ho
         have HM:=zh hm
         have HRN:Hid ((W8.alloc (.cells #[.int .i64 m.id,.string (⟨#[102]⟩++decB m.id),.int .i64 (ix m.type),.bool m.critical,.bool m.hasDef,.int .i64 m.dflt.kind,.bool m.dflt.bool,.int .i64 m.dflt.int,.string m.dflt.str,.int .i64 m.dflt.id,.slice E1 m.dflt.keys.length k1,.slice E2 m.dflt.items.length k2,.slice E3 m.dflt.rest.length k3] 83)).rangeAt W8.heap.size 0 [.int .i64 m.id,.string (⟨#[102]⟩++decB m.id),.int .i64 (ix m.type),.bool m.critical,.bool m.hasDef,.int .i64 m.dflt.kind,.bool m.dflt.bool,.int .i64 m.dflt.int,.string m.dflt.str,.int .i64 m.dflt.id,.slice E1 m.dflt.keys.length k1,.slice E2 m.dflt.items.length k2,.slice E3 m.dflt.rest.length k3]):=zL _ _ _
         have HZ8:Hid (b14+1≤(W8.alloc (.cells #[.int .i64 m.id,.string (⟨#[102]⟩++decB m.id),.int .i64 (ix m.type),.bool m.critical,.bool m.hasDef,.int .i64 m.dflt.kind,.bool m.dflt.bool,.int .i64 m.dflt.int,.string m.dflt.str,.int .i64 m.dflt.id,.slice E1 m.dflt.keys.length k1,.slice E2 m.dflt.items.length k2,.slice E3 m.dflt.rest.length k3] 83)).heap.size):=by show _≤_;simp;omega
         have HMX:Hid (MatL w (renM ix m) [.int .i64 m.id,.string (⟨#[102]⟩++decB m.id),.int .i64 (ix m.type),.bool m.critical,.bool m.hasDef,.int .i64 m.dflt.kind,.bool m.dflt.bool,.int .i64 m.dflt.int,.string m.dflt.str,.int .i64 m.dflt.id,.slice E1 m.dflt.keys.length k1,.slice E2 m.dflt.items.length k2,.slice E3 m.dflt.rest.length k3]):=(HML.out.name (nameN_ok' HID.out)).type (ix m.type)
         have HON:Hid (∀u∈([.int .i64 m.id,.string (⟨#[102]⟩++decB m.id),.int .i64 (ix m.type),.bool m.critical,.bool m.hasDef,.int .i64 m.dflt.kind,.bool m.dflt.bool,.int .i64 m.dflt.int,.string m.dflt.str,.int .i64 m.dflt.id,.slice E1 m.dflt.keys.length k1,.slice E2 m.dflt.items.length k2,.slice E3 m.dflt.rest.length k3]:List Value),u.oneCell'=true):=fun u hu=>by
          simp only[List.mem_cons,List.mem_nil_iff,or_false] at hu
          rcases hu with rfl|rfl|rfl|rfl|rfl|rfl|rfl|rfl|rfl|rfl|rfl|rfl|rfl <;> rfl
         clear ho hm
         go_wp2_with (at_builtin;refine zK elem_mem _ rfl (.tmp 166) (.tmp 168) rfl (b14+1) (.slice B2 q d2) q css.flatten rfl HO.out W8.heap.size 0 1 1 [.int .i64 m.id,.string (⟨#[102]⟩++decB m.id),.int .i64 (ix m.type),.bool m.critical,.bool m.hasDef,.int .i64 m.dflt.kind,.bool m.dflt.bool,.int .i64 m.dflt.int,.string m.dflt.str,.int .i64 m.dflt.id,.slice E1 m.dflt.keys.length k1,.slice E2 m.dflt.items.length k2,.slice E3 m.dflt.rest.length k3] rfl rfl HRN.out HON.out (by omega) (by omega) HZ8.out ?_;intro v8 w8 ho8 hg8;obtain ⟨B8,d8,rfl,h8,hc8⟩:=HM.out w8 v8 (renM ix m) _ HMX.out ho8 hg8;have HC9:=zh hc8;have f8:=frozen_of_row _ _ 6 _ _ h8.2.1;have c8:=h8.2.1.cell 6;have l8:=h8.2.1.blt;clear ho8 hg8 h8 hc8)
         go_roundw
         case rel=>exact ⟨q+1,B8,d8,by omega,by go_num,by rw[HNX.out];exact HC9.out⟩
         case measure=>simp[intOf];omega
        ·obtain rfl:q=t.mems.length:=by omega
         have HC3:Hid (Cy w wi wy wi.heap.size b14 t As cs Am cm (uR t nm (t.syms.map renS) (t.mems.map (renM ix)) 0 0) B1 d1 B2 d2):=by have:=HCO.out;rwa [List.take_length] at this
         have k0:wy.cell? ⟨wi.heap.size,0,none⟩=some (.int .i64 t.kind):=HC3.out.t9.cell 0
         obtain ⟨K8,hk8⟩:∃K8,(t.kind==8)=K8:=⟨_,rfl⟩
         have HK8:=zh hk8
         clear HCO hmle hql hq
         go_upto_if 173 with fail
         clear c6
         go_cut [] (fun wz=>Hid (Cy w wi wz wi.heap.size b14 t As cs Am cm (uR t nm (t.syms.map renS) (t.mems.map (renM ix)) (if t.kind=8 then ix t.key else 0) 0) B1 d1 B2 d2))
         case first =>
          as_aux_lemma =>
          cases K8 with
          | false =>
           have HNE:Hid (¬ t.kind=8):=by have:=HK8.out;show ¬ _;simpa using this
           go_wp2
           go_meet
           rw[if_neg HNE.out]
           exact HC3.out
          | true =>
           have HNE:Hid (t.kind=8):=by have:=HK8.out;show _=_;simpa using this
           obtain ⟨un,hun,hul,hidx⟩:=HIX.out (0,t.key) (by rw[yO,HNE.out];simp)
           have huc:un<cls.length:=by rw[HCN.out];exact hul
           have HIDX:=zh (hidx huc)
           have HTY:Hid (t.key=(un:Int)):=hun
           have k7:wy.cell? ⟨wi.heap.size,7,none⟩=some (.int .i64 (un:Int)):=by
            have:wy.cell? ⟨wi.heap.size,7,none⟩=some (.int .i64 t.key):=HC3.out.t9.cell 7
            rw[HTY.out] at this;exact this
           have v7:wy.cell? ⟨b14,7,none⟩=some (.int .i64 0):=HC3.out.t10.cell 7
           have f7:=frozen_of_row _ _ 7 _ _ HC3.out.t10
           obtain ⟨g',o',e,x3⟩:=(HCI3.out.below HC3.out.bel).at1 huc
           cases e
           have h7:(0:Int)≤(un:Int):=by omega
           have h8:(un:Int)<(s.length:Int):=by omega
           clear hun hidx
           go_wp2_with fail
           refine (rIndex_any O cls[un] _ ca _ (HINI.out.below HC3.out.bel)).mono ?_
           rintro e w8 ⟨rfl,hw8⟩
           subst hw8
           rw[HIDX.out]
           go_wp2
           go_meet
           rw[if_pos HNE.out]
           exact HC3.out.key _
         case rest =>
         have HC4:=zh hcut.out
         clear hcut HC3 k0 hb9 hb14
         obtain ⟨ky,hky⟩:∃ky,ky=(if t.kind=8 then ix t.key else 0):=⟨_,rfl⟩
         rw[←hky] at HC4
         have HKY:=zh hky
         clear hky
         have k0:wc.cell? ⟨wi.heap.size,0,none⟩=some (.int .i64 t.kind):=HC4.out.t9.cell 0
         have hb9:=HC4.out.t9.blt
         have hk8:=HK8.out
         obtain ⟨K7,hk7⟩:∃K7,(t.kind==7)=K7:=⟨_,rfl⟩
         obtain ⟨K9,hk9⟩:∃K9,(t.kind==9)=K9:=⟨_,rfl⟩
         obtain ⟨KE,hKE⟩:∃KE,(K8||(K7||K9))=KE:=⟨_,rfl⟩
         have HKE:Hid (KE=true↔(t.kind=8∨t.kind=7∨t.kind=9)):=by
          show _↔_
          rw[←hKE,←hk8,←hk7,←hk9]
          simp
         go_upto_region 36 with fail
         go_cut [194] (fun v wz=>v = .bool KE∧Hid (Cy w wi wz wi.heap.size b14 t As cs Am cm (uR t nm (t.syms.map renS) (t.mems.map (renM ix)) ky 0) B1 d1 B2 d2))
         case first =>
          as_aux_lemma =>
          cases K8 <;> cases K7 <;> cases K9 <;> (subst hKE;go_wp2;go_meet;exact ⟨rfl,HC4.out⟩)
         case rest =>
         obtain ⟨rfl,hc7⟩:=hcut
         have HC7:=zh hc7.out
         clear hc7 HC4 k0 hb9 hk8 hk7 hk9 hKE
         go_upto_if 194 with fail
         go_cut [] (fun wz=>Hid (Cy w wi wz wi.heap.size b14 t As cs Am cm (uR t nm (t.syms.map renS) (t.mems.map (renM ix)) ky (if t.kind=8∨t.kind=7∨t.kind=9 then ix t.elem else 0)) B1 d1 B2 d2))
         case first =>
          as_aux_lemma =>
          cases KE with
          | false =>
           have HNE:Hid (¬ (t.kind=8∨t.kind=7∨t.kind=9)):=fun e=>by have:=HKE.out.2 e;cases this
           go_wp2
           go_meet
           rw[if_neg HNE.out]
           exact HC7.out
          | true =>
           have HNE:Hid (t.kind=8∨t.kind=7∨t.kind=9):=HKE.out.1 rfl
           obtain ⟨un,hun,hul,hidx⟩:=HIX.out (-1,t.elem) (by rw[yO,if_pos HNE.out];simp)
           have huc:un<cls.length:=by rw[HCN.out];exact hul
           have HIDX:=zh (hidx huc)
           have HTY:Hid (t.elem=(un:Int)):=hun
           have k7:wc.cell? ⟨wi.heap.size,8,none⟩=some (.int .i64 (un:Int)):=by
            have:wc.cell? ⟨wi.heap.size,8,none⟩=some (.int .i64 t.elem):=HC7.out.t9.cell 8
            rw[HTY.out] at this;exact this
           have v7:wc.cell? ⟨b14,8,none⟩=some (.int .i64 0):=HC7.out.t10.cell 8
           have f7:=frozen_of_row _ _ 8 _ _ HC7.out.t10
           have hb9:=HC7.out.t9.blt
           have hb14:=HC7.out.t10.blt
           obtain ⟨g',o',e,x3⟩:=(HCI3.out.below HC7.out.bel).at1 huc
           cases e
           have h7:(0:Int)≤(un:Int):=by omega
           have h8:(un:Int)<(s.length:Int):=by omega
           clear hun hidx
           go_wp2_with fail
           refine (rIndex_any O cls[un] _ ca _ (HINI.out.below HC7.out.bel)).mono ?_
           rintro e w8 ⟨rfl,hw8⟩
           subst hw8
           rw[HIDX.out]
           go_wp2
           go_meet
           rw[if_pos HNE.out]
           exact HC7.out.elem _
         case rest =>
         have HC8:=zh hcut.out
         clear hcut HC7
         have hsy:(refT n ix t).syms.length=t.syms.length:=by show (t.syms.map _).length=_;rw[List.length_map]
         have hme:(refT n ix t).mems.length=t.mems.length:=by show (t.mems.map _).length=_;rw[List.length_map]
         have hnm:SOk (refT n ix t).name:=by
          show SOk (if zU t.kind then nameN 84 n else ⟨#[]⟩)
          split
          ·exact nameN_ok' ⟨by omega,by omega⟩
          ·exact sok_nil
         have HCR:Hid (Cy w wi wc wi.heap.size b14 t As cs Am cm (refT n ix t) B1 d1 B2 d2):=by
          have:=HC8.out
          rw[HKY.out,HNME.out] at this
          exact this
         have HOF:=zh (HCR.out.out hnm (by rw[hsy];exact HTR.out.syms.1) (by rw[hme];exact HTR.out.mems.1) (zA HWI.out HCR.out.bel))
         clear HC8 hsy hme hnm
         obtain ⟨u,hu⟩:∃u,u=refT n ix t:=⟨_,rfl⟩
         rw[←hu] at HCR HOF HCE
         clear hu
         have v0:=HCR.out.t10.cell 0
         have v1:=HCR.out.t10.cell 1
         have v2:=HCR.out.t10.cell 2
         have v3:=HCR.out.t10.cell 3
         have v4:=HCR.out.t10.cell 4
         have v5:=HCR.out.t10.cell 5
         have v6:=HCR.out.t10.cell 6
         have v7:=HCR.out.t10.cell 7
         have v8:=HCR.out.t10.cell 8
         have v9:=HCR.out.t10.cell 9
         have hb14:=HCR.out.t10.blt
         have HPW:=zh ((HCR.out.bel.block _ (zg.1 HPO.out).1).trans HPO.out)
         have s0:wc.cell? ⟨wo.heap.size,0,none⟩=some (.slice A9 L.length c9):=by rw[cell_of_row _ _ _ _ _ _ HPW.out];rfl
         have hls:=zF s0
         simp only at hls
         have HLL:Hid (L.length≤32):=by have:=HLN.out;show _≤_;omega
         have HOW:=zh (HOS.out.below HCR.out.bel)
         have HX:Hid (OutC w.heap.size wo.heap.size (wc.alloc (.cells (⟨u,B1,d1,B2,d2⟩:TyA).cells.toArray 70)) (.slice A9 L.length c9) L):=HOW.out.below (zD _ _)
         have HRN:=zh (zL wc (⟨u,B1,d1,B2,d2⟩:TyA).cells 70)
         have HZ7:Hid (wo.heap.size+1≤(wc.alloc (.cells (⟨u,B1,d1,B2,d2⟩:TyA).cells.toArray 70)).heap.size):=by show _≤_;simp;omega
         have HNX:=zh (fun v9 w9 ho hg hv=>CoC.next (x:=⟨u,B1,d1,B2,d2⟩) (by rw[HCLN.out];exact hlt2) HCE.out.symm HLT.out HLN.out (zA HBW.out HCR.out.bel) HPW.out HOW.out HWB.out.size (HOF.out.mono fun q _ hq=>by
          have h1:=(zg.1 HPO.out).1
          have h2:=HCR.out.b10l
          have h3:=HWB.out.size
          rcases hq with h|h
          ·exact ⟨h.1,by omega⟩
          ·have:=World.ownsRow.lt HOS.out.own q h
           exact ⟨by omega,by omega⟩) (v9:=v9) (w9:=w9) ho hg hv)
         go_wp2_with (at_builtin;refine wpList_append_o elem_ty _ rfl (.tmp 205) (.tmp 207) rfl (wo.heap.size+1) _ _ _ rfl HX.out.own wc.heap.size 0 1 1 (⟨u,B1,d1,B2,d2⟩:TyA).cells rfl rfl HRN.out (tyA_one _) (by have:=HLL.out;omega) (by have:=HLL.out;omega) HZ7.out ?_;intro v9 w9 ho9 hg9 hv9;obtain ⟨A10,c10,rfl,_⟩:=OwnL.reads (OwnL.snoc (enc:=TyA.cells) (x:=(⟨u,B1,d1,B2,d2⟩:TyA)) ho9);have HN9:=zh (HNX.out _ w9 ho9 hg9 hv9);have hf9:=HN9.out.1;have hc9:=HN9.out.2.1;have hl9:=HN9.out.2.2.1;clear ho9 hg9 hv9)
         go_roundw
         case rel =>
          refine ⟨n+1,by omega,by go_num,?_⟩
          have h:=HN9.out.2.2.2
          simp only[List.length_append,List.length_cons,List.length_nil,Nat.zero_add] at h
          exact h
         case measure=>simp[intOf];omega
    ·obtain rfl:n=O.length:=by omega
     have r0:wi.cell? ⟨w.heap.size+1,0,none⟩=some (.slice none 0 0):=by rw[cell_of_row _ _ _ _ _ _ HR3I.out];rfl
     have r1:wi.cell? ⟨w.heap.size+1,1,none⟩=some (.int .i64 0):=by rw[cell_of_row _ _ _ _ _ _ HR3I.out];rfl
     have f0:=frozen_of_row _ _ 0 _ _ HR3I.out
     have f1:=frozen_of_row _ _ 1 _ _ HR3I.out
     have p0:wi.cell? ⟨wo.heap.size,0,none⟩=some (.slice A9 L.length c9):=by rw[cell_of_row _ _ _ _ _ _ HPO.out];rfl
     have p1:wi.cell? ⟨wo.heap.size,1,none⟩=some (.int .i64 0):=by rw[cell_of_row _ _ _ _ _ _ HPO.out];rfl
     have hle1:w.heap.size+1≤wo.heap.size:=by have:=HCS.out.bel.size;have:=(zg.1 HR3.out).1;omega
     have HFIN:Hid (∀x1 x2,TysR ((wi.setCell ⟨w.heap.size+1,0,none⟩ x1).setCell ⟨w.heap.size+1,1,none⟩ x2) A9 (canonL s cls (tn:Int))):=by
      intro x1 x2
      have h1:=(HOS.out.set (w':=wi.setCell ⟨w.heap.size+1,0,none⟩ x1) (by simp) (by omega) hle1 (fun q hq _=>heap_setCell_other _ _ _ _ (by simpa using hq))).set (w':=(wi.setCell ⟨w.heap.size+1,0,none⟩ x1).setCell ⟨w.heap.size+1,1,none⟩ x2) (by simp) (by omega) hle1 (fun q hq _=>heap_setCell_other _ _ _ _ (by simpa using hq))
      obtain ⟨A',c',e,hr⟩:=h1.rows (by rw[HLN.out];omega)
      injection e with e1 _ _
      rw[HLT.out,List.take_of_length_le (by rw[HCLN.out];exact Nat.le_refl _)] at hr
      rw[e1];exact hr
     have HBF:Hid (∀x1 x2,Below w.heap.size w ((wi.setCell ⟨w.heap.size+1,0,none⟩ x1).setCell ⟨w.heap.size+1,1,none⟩ x2)):=fun x1 x2 =>
      (HWI.out.setCell (p:=⟨w.heap.size+1,0,none⟩) (by simp) _).setCell (p:=⟨w.heap.size+1,1,none⟩) (by simp) _
     go_wp2
     refine bodyPost_ret (v := .tuple #[.agg #[.slice A9 L.length c9,.int .i64 0],.int .i64 0]) (by simp[results,Tryz.results23,go_sem,r0,r1]) rfl ⟨A9,c9,canonL s cls (tn:Int),?_,HFIN.out _ _,fun _=>⟨cls,⟨S,HSG.out,HCL.out⟩,rfl⟩,fun h=>absurd HV.out h,HBF.out _ _⟩
     rw[HCLN.out,HV.out,HLN.out]
end Go.Proofs.YtkhpajneinmmiaaGreatDoor


