/-
  Walks: the classes, in the reference.
-/
import Derived.Test.YtkhpajneinmmiaaGreatDoorQRG2
namespace Go.Proofs.YtkhpajneinmmiaaGreatDoor
open Go.RowKit
set_option maxHeartbeats 16000000
set_option maxRecDepth 100000
theorem rEquiv_any (names:Bool) (a:List TyD) (ta:Int) (b:List TyD) (tb:Int) (A:Option Addr) (c:Nat) (B:Option Addr) (d:Nat) (w:World) (ha:TysR w A a) (hb:TysR w B b) :
  Calls Tryz.prog 15 #[rootV A a.length c ta,rootV B b.length d tb,.bool names] w (EqvPost names a ta b tb w):=by
 have HA:=zh ha
 have HB:=zh hb
 clear ha hb
 have HT0:=zh (two_new w A a.length c ta B b.length d tb)
 by_cases e1:zH a ta=0
 case neg =>
  have q1:(zH a ta==0)=false:=by simp[e1]
  have HN:Hid (EqvIs names a ta b tb false):=⟨fun h=>absurd h e1,fun _=>rfl⟩
  clear e1
  go_enter Tryz.func15,Tryz.ntmps15
  go_wp2
  generalize (w.alloc (rootB A a.length c ta)).alloc (rootB B b.length d tb)=wc at *
  refine wp_region_held_drew (S:=(fun w'=>(w'.cell? ⟨w.heap.size,0,none⟩=some (.slice A a.length c)∧w'.cell? ⟨w.heap.size,1,none⟩=some (.int .i64 ta)∧w'.cell? ⟨w.heap.size+1,0,none⟩=some (.slice B b.length d)∧w'.cell? ⟨w.heap.size+1,1,none⟩=some (.int .i64 tb))∧Hid (TwoB w w' A a.length c ta B b.length d tb))) (by kernel_rfl) ?_ (fun zH_=>?_)
  ·(try dsimp only);exact yB (HT0.out.below (zE (Below.refl _ _) 1))
  refine tL 0 _ zH_ ?_
  try simp only[ps]
  refine tR 1 (fun K hK=>?_)
  go_simp
  (refine (rError_any a ta A c _ (HA.out.below zH_.2.out.bel)).mono ?_;rintro e w3 ⟨rfl,hbz⟩)
  refine hK.out _ _ ?_ (fun zH_=>?_)
  ·(try dsimp only);exact yB (zH_.2.out.below hbz)
  clear hK K
  try simp only[ps]
  refine tL 2 _ zH_ ?_
  try simp only[ps]
  refine tL 3 _ zH_ ?_
  try simp only[ps]
  refine tU 4 zH_ ?_
  try simp only[ps]
  refine tU 5 zH_ ?_
  try simp only[ps]
  refine tU 6 zH_ ?_
  try simp only[ps]
  refine tL 7 _ zH_ ?_
  try simp only[ps]
  refine tL 8 _ zH_ ?_
  try simp only[ps]
  refine tU 9 zH_ ?_
  try simp only[ps]
  refine tU 10 zH_ ?_
  try simp only[ps]
  refine tU 11 zH_ ?_
  try simp only[ps]
  refine tU 12 zH_ ?_
  try simp only[ps]
  refine tU 13 zH_ ?_
  try simp only[ps]
  refine tU 14 zH_ ?_
  try simp only[ps]
  refine tU 15 zH_ ?_
  try simp only[ps]
  refine tU 16 zH_ ?_
  try simp only[ps]
  refine tU 17 zH_ ?_
  try simp only[ps]
  refine tU 18 zH_ ?_
  try simp only[ps]
  refine tU 19 zH_ ?_
  try simp only[ps]
  refine tU 20 zH_ ?_
  try simp only[ps]
  refine tU 21 zH_ ?_
  try simp only[ps]
  refine tU 22 zH_ ?_
  try simp only[ps]
  refine tL 23 _ zH_ ?_
  try simp only[ps]
  refine tL 24 _ zH_ ?_
  try simp only[ps]
  refine wpAnyH_done (by kernel_rfl) ?_ _
  have HE:=zh zH_.2.out.bel
  clear zH_
  go_wp2
  go_ret
  exact ⟨false,rfl,HN.out,HE.out⟩
 by_cases e2:zH b tb=0
 case neg =>
  have q1:(zH a ta==0)=true:=by simp[e1]
  have q2:(zH b tb==0)=false:=by simp[e2]
  have HN:Hid (EqvIs names a ta b tb false):=⟨fun _ h=>absurd h e2,fun _=>rfl⟩
  clear e1 e2
  go_enter Tryz.func15,Tryz.ntmps15
  go_wp2
  generalize (w.alloc (rootB A a.length c ta)).alloc (rootB B b.length d tb)=wc at *
  refine wp_region_held_drew (S:=(fun w'=>(w'.cell? ⟨w.heap.size,0,none⟩=some (.slice A a.length c)∧w'.cell? ⟨w.heap.size,1,none⟩=some (.int .i64 ta)∧w'.cell? ⟨w.heap.size+1,0,none⟩=some (.slice B b.length d)∧w'.cell? ⟨w.heap.size+1,1,none⟩=some (.int .i64 tb))∧Hid (TwoB w w' A a.length c ta B b.length d tb))) (by kernel_rfl) ?_ (fun zH_=>?_)
  ·(try dsimp only);exact yB (HT0.out.below (zE (Below.refl _ _) 1))
  refine tL 0 _ zH_ ?_
  try simp only[ps]
  refine tR 1 (fun K hK=>?_)
  go_simp
  (refine (rError_any a ta A c _ (HA.out.below zH_.2.out.bel)).mono ?_;rintro e w3 ⟨rfl,hbz⟩)
  refine hK.out _ _ ?_ (fun zH_=>?_)
  ·(try dsimp only);exact yB (zH_.2.out.below hbz)
  clear hK K
  try simp only[ps]
  refine tL 2 _ zH_ ?_
  try simp only[ps]
  refine tL 3 _ zH_ ?_
  try simp only[ps]
  refine tL 4 _ zH_ ?_
  try simp only[ps]
  refine tR 5 (fun K hK=>?_)
  go_simp
  (refine (rError_any b tb B d _ (HB.out.below zH_.2.out.bel)).mono ?_;rintro e w4 ⟨rfl,hbz⟩)
  refine hK.out _ _ ?_ (fun zH_=>?_)
  ·(try dsimp only);exact yB (zH_.2.out.below hbz)
  clear hK K
  try simp only[ps]
  refine tL 6 _ zH_ ?_
  try simp only[ps]
  refine tL 7 _ zH_ ?_
  try simp only[ps]
  refine tL 8 _ zH_ ?_
  try simp only[ps]
  refine tU 9 zH_ ?_
  try simp only[ps]
  refine tU 10 zH_ ?_
  try simp only[ps]
  refine tU 11 zH_ ?_
  try simp only[ps]
  refine tU 12 zH_ ?_
  try simp only[ps]
  refine tU 13 zH_ ?_
  try simp only[ps]
  refine tU 14 zH_ ?_
  try simp only[ps]
  refine tU 15 zH_ ?_
  try simp only[ps]
  refine tU 16 zH_ ?_
  try simp only[ps]
  refine tU 17 zH_ ?_
  try simp only[ps]
  refine tU 18 zH_ ?_
  try simp only[ps]
  refine tU 19 zH_ ?_
  try simp only[ps]
  refine tU 20 zH_ ?_
  try simp only[ps]
  refine tU 21 zH_ ?_
  try simp only[ps]
  refine tU 22 zH_ ?_
  try simp only[ps]
  refine tL 23 _ zH_ ?_
  try simp only[ps]
  refine tL 24 _ zH_ ?_
  try simp only[ps]
  refine wpAnyH_done (by kernel_rfl) ?_ _
  have HE:=zh zH_.2.out.bel
  clear zH_
  go_wp2
  go_ret
  exact ⟨false,rfl,HN.out,HE.out⟩
 have q1:(zH a ta==0)=true:=by simp[e1]
 have q2:(zH b tb==0)=true:=by simp[e2]
 obtain ⟨va,ha0,ha1⟩:=root_ok e1
 obtain ⟨vb,hb0,hb1⟩:=root_ok e2
 obtain ⟨p,rfl⟩:=Int.eq_ofNat_of_zero_le ha0
 obtain ⟨q,rfl⟩:=Int.eq_ofNat_of_zero_le hb0
 have HE1:=zh e1
 have HE2:=zh e2
 have la:=valid_len va
 have lb:=valid_len vb
 have HUA:=zh (yL va)
 have HUB:=zh (yL vb)
 have hp:p<a.length:=by omega
 have hq:q<b.length:=by omega
 clear e1 e2 va vb
 go_enter Tryz.func15,Tryz.ntmps15
 go_wp2
 generalize (w.alloc (rootB A a.length c (p:Int))).alloc (rootB B b.length d (q:Int))=wc at *
 refine wp_region_held_drew (S:=(fun w'=>(w'.cell? ⟨w.heap.size,0,none⟩=some (.slice A a.length c)∧w'.cell? ⟨w.heap.size,1,none⟩=some (.int .i64 (p:Int))∧w'.cell? ⟨w.heap.size+1,0,none⟩=some (.slice B b.length d)∧w'.cell? ⟨w.heap.size+1,1,none⟩=some (.int .i64 (q:Int)))∧Hid (TwoB w w' A a.length c (p:Int) B b.length d (q:Int)))) (by kernel_rfl) ?_ (fun zH_=>?_)
 ·(try dsimp only);exact yB (HT0.out.below (zE (Below.refl _ _) 1))
 refine tL 0 _ zH_ ?_
 try simp only[ps]
 refine tR 1 (fun K hK=>?_)
 go_simp
 (refine (rError_any a (p:Int) A c _ (HA.out.below zH_.2.out.bel)).mono ?_;rintro e w3 ⟨rfl,hbz⟩)
 refine hK.out _ _ ?_ (fun zH_=>?_)
 ·(try dsimp only);exact yB (zH_.2.out.below hbz)
 clear hK K
 try simp only[ps]
 refine tL 2 _ zH_ ?_
 try simp only[ps]
 refine tL 3 _ zH_ ?_
 try simp only[ps]
 refine tL 4 _ zH_ ?_
 try simp only[ps]
 refine tR 5 (fun K hK=>?_)
 go_simp
 (refine (rError_any b (q:Int) B d _ (HB.out.below zH_.2.out.bel)).mono ?_;rintro e w4 ⟨rfl,hbz⟩)
 refine hK.out _ _ ?_ (fun zH_=>?_)
 ·(try dsimp only);exact yB (zH_.2.out.below hbz)
 clear hK K
 try simp only[ps]
 refine tL 6 _ zH_ ?_
 try simp only[ps]
 refine tL 7 _ zH_ ?_
 try simp only[ps]
 refine tL 8 _ zH_ ?_
 try simp only[ps]
 refine tL 9 _ zH_ ?_
 try simp only[ps]
 refine tL 10 _ zH_ ?_
 try simp only[ps]
 refine tL 11 _ zH_ ?_
 try simp only[ps]
 refine tL 12 _ zH_ ?_
 try simp only[ps]
 refine tL 13 _ zH_ ?_
 try simp only[ps]
 refine tL 15 _ zH_ ?_
 try simp only[ps]
 refine tL 16 _ zH_ ?_
 try simp only[ps]
 refine tL 19 _ zH_ ?_
 try simp only[ps]
 refine tL 20 _ zH_ ?_
 try simp only[ps]
 refine tR 14 (fun K hK=>?_)
 go_simp
 (refine (greatest_any names a b la lb HUA.out HUB.out A c B d _ (HA.out.below zH_.2.out.bel) (HB.out.below zH_.2.out.bel)).mono ?_;rintro e w5 ⟨g,rows,M,rfl,htab,hml,hcl,hgr,hbz⟩;obtain ⟨gi,cg,c1,c2⟩:=tab_bit htab hml hcl hp hq;have HGR:=zh hgr;clear htab hml hcl hgr)
 refine hK.out _ _ ?_ (fun zH_=>?_)
 ·(try dsimp only);exact yB (zH_.2.out.below hbz)
 clear hK K
 try simp only[ps]
 refine tL 17 _ zH_ ?_
 try simp only[ps]
 refine tR 18 (fun K hK=>?_)
 go_simp
 refine hK.out _ _ ?_ (fun zH_=>?_)
 ·(try dsimp only);exact zH_
 clear hK K
 try simp only[ps]
 refine tL 21 _ zH_ ?_
 try simp only[ps]
 refine tR 22 (fun K hK=>?_)
 go_simp
 refine hK.out _ _ ?_ (fun zH_=>?_)
 ·(try dsimp only);exact zH_
 clear hK K
 try simp only[ps]
 refine tL 23 _ zH_ ?_
 try simp only[ps]
 refine tL 24 _ zH_ ?_
 try simp only[ps]
 refine wpAnyH_done (by kernel_rfl) ?_ _
 have HE:=zh zH_.2.out.bel
 clear zH_
 go_wp2
 go_ret
 exact ⟨getB M p q,rfl,⟨fun _ _=>⟨getB M,HGR.out,rfl⟩,fun h=>absurd ⟨HE1.out,HE2.out⟩ h⟩,HE.out⟩
theorem rWire_any (a:List TyD) (ta:Int) (b:List TyD) (tb:Int) (A:Option Addr) (c:Nat) (B:Option Addr) (d:Nat) (w:World) (ha:TysR w A a) (hb:TysR w B b) :
  Calls Tryz.prog 16 #[rootV A a.length c ta,rootV B b.length d tb] w (EqvPost false a ta b tb w):=by
 have HA:=zh ha
 have HB:=zh hb
 clear ha hb
 go_enter Tryz.func16,Tryz.ntmps16
 go_wp2_with fail
 refine (rEquiv_any false a ta b tb A c B d _ (HA.out.below (zC _ _ _)) (HB.out.below (zC _ _ _))).mono ?_
 rintro e w2 ⟨v,rfl,hv,hb2⟩
 have HV:=zh hv
 go_wp2
 go_ret
 exact ⟨v,rfl,HV.out,zG hb2⟩
theorem rClasses_any (s:List TyD) (A:Option Addr) (c:Nat) (w:World) (hs:TysR w A s) :
  Calls Tryz.prog 20 #[.agg #[.slice A s.length c]] w (ClassesPost s w):=by
 have HS:=zh hs
 clear hs
 by_cases hv:zQ s=0
 case neg =>
  have q1:(zQ s != 0)=true:=by simp[hv]
  have HV:=zh hv
  clear hv
  go_enter Tryz.func20,Tryz.ntmps20
  go_wp2_with fail
  refine (rValid_any s A c _ (HS.out.below (zD _ _))).mono ?_
  rintro e w2 ⟨rfl,hb2⟩
  go_wp2
  go_ret2
  exact ⟨_,[],rfl,OwnL.nil _ _,fun h=>absurd h HV.out,fun _=>rfl,zW hb2⟩
 have q1:((0:Int) != 0)=false:=rfl
 have HV:=zh hv
 have hle:=valid_len hv
 have HU:=zh (yL hv)
 clear hv
 go_enter Tryz.func20,Tryz.ntmps20
 go_wp2_with fail
 refine (rValid_any s A c _ (HS.out.below (zD _ _))).mono ?_
 rintro e w2 ⟨rfl,hb2⟩
 rw[HV.out]
 have hc2:=bcell hb2
 have HB2:=zh (zW hb2)
 have HSC:Hid (w2.cell? ⟨w.heap.size,0,none⟩=some (.slice A s.length c)):=zB hb2 (by rw[cell_of_row _ _ _ _ _ _ (heap_alloc_new w _)];rfl)
 clear hb2
 go_wp2_with fail
 refine (greatest_any false s s hle hle HU.out HU.out A c A c _ (HS.out.below HB2.out) (HS.out.below HB2.out)).mono ?_
 rintro e w3 ⟨g,rows,M,rfl,htab,hml,hcl,hgr,hb3⟩
 have HT:=zh htab
 have HML:=zh hml
 have HCL:=zh hcl
 have HGR:=zh hgr
 have HB3:=zh (zA HB2.out hb3)
 have HSC3:=zh (zB hb3 HSC.out)
 clear htab hml hcl hgr hb3 hc2
 go_wp2
 go_loopw [7,6] (fun i a wr=>∃k:Nat,k≤s.length∧i = .int .i64 k∧Hid (OwnI wr w3.heap.size a ((clsD (getB M) s.length).take k)∧Below w3.heap.size w3 wr)) (fun i _ _=>s.length - (intOf i).toNat)
 case atStart=>exact ⟨0,by omega,rfl,OwnL.nil _ _,Below.refl _ _⟩
 case round =>
  obtain ⟨k,hk,rfl,hh⟩:=hrel
  obtain ⟨wo,rfl⟩:∃wo:World,wo=wr:=⟨_,rfl⟩
  have sc:=zB hh.out.2 HSC3.out
  by_cases hlt:k<s.length
  ·have hkM:k<M.length:=by rw[HML.out];exact hlt
   have hkl:(M[k]).length=s.length:=HCL.out _ (List.getElem_mem hkM)
   have HTO:=zh (HT.out.below hh.out.2)
   have HKK:=zh (greatest_refl HU.out HGR.out hlt)
   have HTK:Hid (∀n:Int,fstB M[k]=n→(clsD (getB M) s.length).take (k+1)=(clsD (getB M) s.length).take k++[n]):=fun n hn=>by
    have hcl:k<(clsD (getB M) s.length).length:=by simpa[clsD] using hlt
    rw[List.take_succ_eq_append_getElem hcl,←hn]
    congr 2
    rw[row_eq hkM hkl]
    simp[clsD]
   have HFS:Hid (∀j:Nat,j<s.length→getB M k j=true→(∀q,q<j→getB M k q=false)→fstB M[k]=j):=fun j hj hb hn=>by
    rw[row_eq hkM hkl]
    refine fstB_at _ j (by simpa using hj) (by simpa using hb) (fun q hq=>by simpa using hn q hq)
   have h1:(0:Int)≤(k:Int):=by omega
   have h2:(k:Int)<(s.length:Int):=by omega
   have HLN:Hid (((clsD (getB M) s.length).take k).length+1≤1000):=by show _≤_;simp[clsD];omega
   have HB7:=zh hh.out.2
   have HO7:=zh hh.out.1
   clear hkl hh
   go_wp2
   go_loop [8] (fun i=>∃j:Nat,j≤k∧i = .int .i64 j∧Hid (∀q,q<j→getB M k q=false)) (fun i=>k - (intOf i).toNat)
   case atStart=>exact ⟨0,by omega,rfl,fun q h=>absurd h (by omega)⟩
   case round =>
    obtain ⟨j,hj,rfl,hn⟩:=hrel
    have hjs:j<s.length:=by omega
    obtain ⟨gi,cg,c1,c2⟩:=tab_bit HTO.out HML.out HCL.out hlt hjs
    have g1:(0:Int)≤(j:Int):=by omega
    have g2:(j:Int)<(s.length:Int):=by omega
    cases hb:getB M k j with
    | true =>
     have HT1:=zh (HTK.out j (HFS.out j hjs hb hn.out))
     rw[hb] at c2
     clear hb
     have HO1:=zh (OwnL.alloc HO7.out (.cells #[.int .i64 (j:Int)] 3))
     have HRN:Hid ((wo.alloc (.cells #[.int .i64 (j:Int)] 3)).rangeAt wo.heap.size 0 [.int .i64 (j:Int)]):=zL wo [.int .i64 (j:Int)] 3
     have HZ7:Hid (w3.heap.size≤(wo.alloc (.cells #[.int .i64 (j:Int)] 3)).heap.size):=by have:=HB7.out.size;show _≤_;simp;omega
     go_wp2_with (at_builtin;refine zK yC _ rfl (.tmp 34) (.tmp 36) rfl w3.heap.size _ _ _ rfl HO1.out wo.heap.size 0 1 1 [.int .i64 (j:Int)] rfl rfl HRN.out (by simp[Value.oneCell']) (by have:=HLN.out;omega) (by have:=HLN.out;omega) HZ7.out ?_;intro v8 w8 ho8 hg8)
     go_roundw
     case rel=>exact ⟨k+1,by omega,by go_num,(by rw[HT1.out];exact OwnL.snoc (x:=(j:Int)) ho8),(HB7.out.alloc HB7.out.size _).grown hg8 HZ7.out HO1.out.lt⟩
     case measure=>simp[intOf];omega
    | false =>
     have hne:j≠k:=fun e=>by subst e;rw[HKK.out] at hb;cases hb
     have HNB:=zh hb
     have hjk:j<k:=by omega
     rw[hb] at c2
     clear hb hne
     go_wp2
     go_round
     case rel =>
      refine ⟨j+1,by omega,by go_num,fun q hq=>?_⟩
      by_cases e:q=j
      ·subst e;exact HNB.out
      ·exact hn.out q (by omega)
     case measure=>simp[intOf];omega
  ·have HE:Hid ((clsD (getB M) s.length).take k=clsD (getB M) s.length):=List.take_of_length_le (by simp[clsD];omega)
   go_wp2
   go_ret2
   refine ⟨_,clsD (getB M) s.length,(by rw[HV.out];rfl),?_,fun _=>⟨getB M,HGR.out,rfl⟩,fun h=>absurd HV.out h,zA HB3.out hh.out.2⟩
   have:=hh.out.1
   rw[HE.out] at this
   exact this.base HB3.out.size
end Go.Proofs.YtkhpajneinmmiaaGreatDoor


