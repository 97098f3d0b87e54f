/-
  Walks: the error of a root; whether two roots are related.
-/
import Derived.Test.YtkhpajneinmmiaaGreatDoorQRL2
import Derived.Test.YtkhpajneinmmiaaGreatDoorQRV5
import Derived.Test.YtkhpajneinmmiaaGreatDoorQPL
namespace Go.Proofs.YtkhpajneinmmiaaGreatDoor
open Go.RowKit
set_option maxHeartbeats 16000000
set_option maxRecDepth 100000
abbrev rootV (A:Option Addr) (n c:Nat) (t:Int):Value := .agg #[.slice A n c,.int .i64 t]
abbrev rootB (A:Option Addr) (n c:Nat) (t:Int):Obj := .cells #[.slice A n c,.int .i64 t] 32
theorem check_any (s:List TyD) (t:Int) (A:Option Addr) (c:Nat) (w:World) (hs:TysR w A s) :
  Calls Tryz.prog 45 #[rootV A s.length c t] w (IntPost (zH s t) w):=by
 have hn:=hs.1.lt (by omega)
 have HS:=zh hs
 clear hs
 by_cases hv:zQ s=0
 ·have q1:(zQ s != 0)=false:=by simp[hv]
  have HV:=zh hv
  by_cases h0:t<0
  ·have HD:=zh (show zH s t=4 by unfold zH;simp[hv,h0])
   clear hv
   go_enter Tryz.func45,Tryz.ntmps45
   go_wp2_with fail
   refine (valid_any s A c _ (HS.out.below (zD _ _))).mono ?_
   rintro e w2 ⟨rfl,hb2⟩
   rw[HV.out]
   have hc2:=bcell hb2
   go_wp2
   go_ret
   exact ⟨by rw[HD.out];rfl,zW hb2⟩
  by_cases h1:(s.length:Int)≤t
  ·have HD:=zh (show zH s t=4 by unfold zH;simp[hv,h1])
   clear hv
   go_enter Tryz.func45,Tryz.ntmps45
   go_wp2_with fail
   refine (valid_any s A c _ (HS.out.below (zD _ _))).mono ?_
   rintro e w2 ⟨rfl,hb2⟩
   rw[HV.out]
   have hc2:=bcell hb2
   go_wp2
   go_ret
   exact ⟨by rw[HD.out];rfl,zW hb2⟩
  have HD:=zh (show zH s t=0 by unfold zH;rw[if_neg (by simp[hv]),if_neg (by omega)])
  have h1':decide ((s.length:Int)≤t)=false:=by simpa using h1
  clear hv
  go_enter Tryz.func45,Tryz.ntmps45
  go_wp2_with fail
  refine (valid_any s A c _ (HS.out.below (zD _ _))).mono ?_
  rintro e w2 ⟨rfl,hb2⟩
  rw[HV.out]
  have hc2:=bcell hb2
  go_wp2
  go_ret
  exact ⟨by rw[HD.out];rfl,zW hb2⟩
 ·have q1:(zQ s != 0)=true:=by simp[hv]
  have HD:=zh (show zH s t=zQ s by unfold zH;rw[if_pos hv])
  clear hv
  go_enter Tryz.func45,Tryz.ntmps45
  go_wp2_with fail
  refine (valid_any s A c _ (HS.out.below (zD _ _))).mono ?_
  rintro e w2 ⟨rfl,hb2⟩
  go_wp2
  go_ret
  exact ⟨by rw[HD.out];rfl,zW hb2⟩
theorem rError_any (s:List TyD) (t:Int) (A:Option Addr) (c:Nat) (w:World) (hs:TysR w A s) :
  Calls Tryz.prog 29 #[rootV A s.length c t] w (IntPost (zH s t) w):=by
 have hn:=hs.1.lt (by omega)
 have HS:=zh hs
 clear hs
 by_cases hv:zQ s=0
 ·have q1:(zQ s != 0)=false:=by simp[hv]
  have HV:=zh hv
  by_cases h0:t<0
  ·have HD:=zh (show zH s t=4 by unfold zH;simp[hv,h0])
   clear hv
   go_enter Tryz.func29,Tryz.ntmps29
   go_wp2_with fail
   refine (rValid_any s A c _ (HS.out.below (zD _ _))).mono ?_
   rintro e w2 ⟨rfl,hb2⟩
   rw[HV.out]
   have hc2:=bcell hb2
   go_wp2
   go_ret
   exact ⟨by rw[HD.out];rfl,zW hb2⟩
  by_cases h1:(s.length:Int)≤t
  ·have HD:=zh (show zH s t=4 by unfold zH;simp[hv,h1])
   clear hv
   go_enter Tryz.func29,Tryz.ntmps29
   go_wp2_with fail
   refine (rValid_any s A c _ (HS.out.below (zD _ _))).mono ?_
   rintro e w2 ⟨rfl,hb2⟩
   rw[HV.out]
   have hc2:=bcell hb2
   go_wp2
   go_ret
   exact ⟨by rw[HD.out];rfl,zW hb2⟩
  have HD:=zh (show zH s t=0 by unfold zH;rw[if_neg (by simp[hv]),if_neg (by omega)])
  have h1':decide ((s.length:Int)≤t)=false:=by simpa using h1
  clear hv
  go_enter Tryz.func29,Tryz.ntmps29
  go_wp2_with fail
  refine (rValid_any s A c _ (HS.out.below (zD _ _))).mono ?_
  rintro e w2 ⟨rfl,hb2⟩
  rw[HV.out]
  have hc2:=bcell hb2
  go_wp2
  go_ret
  exact ⟨by rw[HD.out];rfl,zW hb2⟩
 ·have q1:(zQ s != 0)=true:=by simp[hv]
  have HD:=zh (show zH s t=zQ s by unfold zH;rw[if_pos hv])
  clear hv
  go_enter Tryz.func29,Tryz.ntmps29
  go_wp2_with fail
  refine (rValid_any s A c _ (HS.out.below (zD _ _))).mono ?_
  rintro e w2 ⟨rfl,hb2⟩
  go_wp2
  go_ret
  exact ⟨by rw[HD.out];rfl,zW hb2⟩
def EqvPost (names:Bool) (a:List TyD) (ta:Int) (b:List TyD) (tb:Int) (w:World) (e:Ending) (w':World):Prop:=∃v,e = .returned (.bool v)∧EqvIs names a ta b tb v∧Below w.heap.size w w'
theorem tab_bit {w:World} {base g n m:Nat} {rows:List Value} {M:List (List Bool)} (h:TabAt w base g rows M) (hml:M.length=n) (hcl:∀r∈M,r.length=m) {p q:Nat} (hp:p<n) (hq:q<m):∃gi c,w.cell? ⟨g,p,none⟩=some (.slice (some ⟨gi,0,none⟩) m c)∧w.cell? ⟨gi,q,none⟩=some (.bool (getB M p q)):=by
 have hp':p<M.length:=by rw[hml];exact hp
 have hl:=hcl _ (List.getElem_mem hp')
 obtain ⟨gi,c,h1,h2,_⟩:=h.bit hp' (k:=q) (by rw[hl];exact hq)
 rw[hl] at h1
 refine ⟨gi,c,h1,?_⟩
 rw[h2]
 unfold getB
 rw[List.getD_eq_getElem?_getD (l:=M),zl hp',Option.getD_some,List.getD_eq_getElem?_getD,zl (by rw[hl];exact hq)];rfl
structure TwoB (w:World) (W:World) (A:Option Addr) (na c:Nat) (ta:Int) (B:Option Addr) (nb d:Nat) (tb:Int):Prop where
 a:W.heap[w.heap.size]? = some (.cells #[.slice A na c,.int .i64 ta] 32 (0,0))
 b:W.heap[w.heap.size+1]? = some (.cells #[.slice B nb d,.int .i64 tb] 32 (0,0))
 bel:Below w.heap.size w W
theorem two_new (w:World) (A:Option Addr) (na c:Nat) (ta:Int) (B:Option Addr) (nb d:Nat) (tb:Int):TwoB w ((w.alloc (rootB A na c ta)).alloc (rootB B nb d tb)) A na c ta B nb d tb:=by
 refine ⟨yG (heap_alloc_new w _) _,?_,zC _ _ _⟩
 have h:=heap_alloc_new (w.alloc (rootB A na c ta)) (rootB B nb d tb)
 rw[show (w.alloc (rootB A na c ta)).heap.size=w.heap.size+1 by simp] at h
 exact h
theorem TwoB.below {w W W':World} {A:Option Addr} {na c:Nat} {ta:Int} {B:Option Addr} {nb d:Nat} {tb:Int} (h:TwoB w W A na c ta B nb d tb) (hb:Below W.heap.size W W'):TwoB w W' A na c ta B nb d tb :=
 ⟨(hb.block _ (zg.1 h.a).1).trans h.a,(hb.block _ (zg.1 h.b).1).trans h.b,zA h.bel hb⟩
theorem yB {w W:World} {A:Option Addr} {na c:Nat} {ta:Int} {B:Option Addr} {nb d:Nat} {tb:Int} (h:TwoB w W A na c ta B nb d tb) :
  (W.cell? ⟨w.heap.size,0,none⟩=some (.slice A na c)∧W.cell? ⟨w.heap.size,1,none⟩=some (.int .i64 ta)∧W.cell? ⟨w.heap.size+1,0,none⟩=some (.slice B nb d)∧W.cell? ⟨w.heap.size+1,1,none⟩=some (.int .i64 tb))∧Hid (TwoB w W A na c ta B nb d tb) :=
 ⟨⟨by rw[cell_of_row _ _ _ _ _ _ h.a];rfl,by rw[cell_of_row _ _ _ _ _ _ h.a];rfl,by rw[cell_of_row _ _ _ _ _ _ h.b];rfl,by rw[cell_of_row _ _ _ _ _ _ h.b];rfl⟩,h⟩
theorem related_any (names:Bool) (a:List TyD) (ta:Int) (b:List TyD) (tb:Int) (A:Option Addr) (c:Nat) (B:Option Addr) (d:Nat) (w:World) (ha:TysR w A a) (hb:TysR w B b) :
  Calls Tryz.prog 33 #[rootV A a.length c ta,rootV B b.length d tb,.bool names] w (EqvPost names a ta b tb w):=by
 have HA:=zh ha
 have HB:=zh hb
 clear ha hb
 have HT0:=zh (two_new w A a.length c ta B b.length d tb)
 by_cases e1:zH a ta=0
 case neg =>
  have q1:(zH a ta==0)=false:=by simp[e1]
  have HN:Hid (EqvIs names a ta b tb false):=⟨fun h=>absurd h e1,fun _=>rfl⟩
  clear e1
  go_enter Tryz.func33,Tryz.ntmps33
  go_wp2
  generalize (w.alloc (rootB A a.length c ta)).alloc (rootB B b.length d tb)=wc at *
  refine wp_region_held_drew (S:=(fun w'=>(w'.cell? ⟨w.heap.size,0,none⟩=some (.slice A a.length c)∧w'.cell? ⟨w.heap.size,1,none⟩=some (.int .i64 ta)∧w'.cell? ⟨w.heap.size+1,0,none⟩=some (.slice B b.length d)∧w'.cell? ⟨w.heap.size+1,1,none⟩=some (.int .i64 tb))∧Hid (TwoB w w' A a.length c ta B b.length d tb))) (by kernel_rfl) ?_ (fun zH_=>?_)
  ·(try dsimp only);exact yB (HT0.out.below (zE (Below.refl _ _) 1))
  refine tL 0 _ zH_ ?_
  try simp only[ps]
  refine tR 1 (fun K hK=>?_)
  go_simp
  (refine (check_any a ta A c _ (HA.out.below zH_.2.out.bel)).mono ?_;rintro e w3 ⟨rfl,hbz⟩)
  refine hK.out _ _ ?_ (fun zH_=>?_)
  ·(try dsimp only);exact yB (zH_.2.out.below hbz)
  clear hK K
  try simp only[ps]
  refine tL 2 _ zH_ ?_
  try simp only[ps]
  refine tL 3 _ zH_ ?_
  try simp only[ps]
  refine tU 4 zH_ ?_
  try simp only[ps]
  refine tU 5 zH_ ?_
  try simp only[ps]
  refine tU 6 zH_ ?_
  try simp only[ps]
  refine tL 7 _ zH_ ?_
  try simp only[ps]
  refine tL 8 _ zH_ ?_
  try simp only[ps]
  refine tU 9 zH_ ?_
  try simp only[ps]
  refine tU 10 zH_ ?_
  try simp only[ps]
  refine tU 11 zH_ ?_
  try simp only[ps]
  refine tU 12 zH_ ?_
  try simp only[ps]
  refine tU 13 zH_ ?_
  try simp only[ps]
  refine tU 14 zH_ ?_
  try simp only[ps]
  refine tU 15 zH_ ?_
  try simp only[ps]
  refine tU 16 zH_ ?_
  try simp only[ps]
  refine tU 17 zH_ ?_
  try simp only[ps]
  refine tU 18 zH_ ?_
  try simp only[ps]
  refine tU 19 zH_ ?_
  try simp only[ps]
  refine tU 20 zH_ ?_
  try simp only[ps]
  refine tU 21 zH_ ?_
  try simp only[ps]
  refine tU 22 zH_ ?_
  try simp only[ps]
  refine tL 23 _ zH_ ?_
  try simp only[ps]
  refine tL 24 _ zH_ ?_
  try simp only[ps]
  refine wpAnyH_done (by kernel_rfl) ?_ _
  have HE:=zh zH_.2.out.bel
  clear zH_
  go_wp2
  go_ret
  exact ⟨false,rfl,HN.out,HE.out⟩
 by_cases e2:zH b tb=0
 case neg =>
  have q1:(zH a ta==0)=true:=by simp[e1]
  have q2:(zH b tb==0)=false:=by simp[e2]
  have HN:Hid (EqvIs names a ta b tb false):=⟨fun _ h=>absurd h e2,fun _=>rfl⟩
  clear e1 e2
  go_enter Tryz.func33,Tryz.ntmps33
  go_wp2
  generalize (w.alloc (rootB A a.length c ta)).alloc (rootB B b.length d tb)=wc at *
  refine wp_region_held_drew (S:=(fun w'=>(w'.cell? ⟨w.heap.size,0,none⟩=some (.slice A a.length c)∧w'.cell? ⟨w.heap.size,1,none⟩=some (.int .i64 ta)∧w'.cell? ⟨w.heap.size+1,0,none⟩=some (.slice B b.length d)∧w'.cell? ⟨w.heap.size+1,1,none⟩=some (.int .i64 tb))∧Hid (TwoB w w' A a.length c ta B b.length d tb))) (by kernel_rfl) ?_ (fun zH_=>?_)
  ·(try dsimp only);exact yB (HT0.out.below (zE (Below.refl _ _) 1))
  refine tL 0 _ zH_ ?_
  try simp only[ps]
  refine tR 1 (fun K hK=>?_)
  go_simp
  (refine (check_any a ta A c _ (HA.out.below zH_.2.out.bel)).mono ?_;rintro e w3 ⟨rfl,hbz⟩)
  refine hK.out _ _ ?_ (fun zH_=>?_)
  ·(try dsimp only);exact yB (zH_.2.out.below hbz)
  clear hK K
  try simp only[ps]
  refine tL 2 _ zH_ ?_
  try simp only[ps]
  refine tL 3 _ zH_ ?_
  try simp only[ps]
  refine tL 4 _ zH_ ?_
  try simp only[ps]
  refine tR 5 (fun K hK=>?_)
  go_simp
  (refine (check_any b tb B d _ (HB.out.below zH_.2.out.bel)).mono ?_;rintro e w4 ⟨rfl,hbz⟩)
  refine hK.out _ _ ?_ (fun zH_=>?_)
  ·(try dsimp only);exact yB (zH_.2.out.below hbz)
  clear hK K
  try simp only[ps]
  refine tL 6 _ zH_ ?_
  try simp only[ps]
  refine tL 7 _ zH_ ?_
  try simp only[ps]
  refine tL 8 _ zH_ ?_
  try simp only[ps]
  refine tU 9 zH_ ?_
  try simp only[ps]
  refine tU 10 zH_ ?_
  try simp only[ps]
  refine tU 11 zH_ ?_
  try simp only[ps]
  refine tU 12 zH_ ?_
  try simp only[ps]
  refine tU 13 zH_ ?_
  try simp only[ps]
  refine tU 14 zH_ ?_
  try simp only[ps]
  refine tU 15 zH_ ?_
  try simp only[ps]
  refine tU 16 zH_ ?_
  try simp only[ps]
  refine tU 17 zH_ ?_
  try simp only[ps]
  refine tU 18 zH_ ?_
  try simp only[ps]
  refine tU 19 zH_ ?_
  try simp only[ps]
  refine tU 20 zH_ ?_
  try simp only[ps]
  refine tU 21 zH_ ?_
  try simp only[ps]
  refine tU 22 zH_ ?_
  try simp only[ps]
  refine tL 23 _ zH_ ?_
  try simp only[ps]
  refine tL 24 _ zH_ ?_
  try simp only[ps]
  refine wpAnyH_done (by kernel_rfl) ?_ _
  have HE:=zh zH_.2.out.bel
  clear zH_
  go_wp2
  go_ret
  exact ⟨false,rfl,HN.out,HE.out⟩
 have q1:(zH a ta==0)=true:=by simp[e1]
 have q2:(zH b tb==0)=true:=by simp[e2]
 obtain ⟨va,ha0,ha1⟩:=root_ok e1
 obtain ⟨vb,hb0,hb1⟩:=root_ok e2
 obtain ⟨p,rfl⟩:=Int.eq_ofNat_of_zero_le ha0
 obtain ⟨q,rfl⟩:=Int.eq_ofNat_of_zero_le hb0
 have HE1:=zh e1
 have HE2:=zh e2
 have la:=valid_len va
 have lb:=valid_len vb
 have HUA:=zh (yL va)
 have HUB:=zh (yL vb)
 have hp:p<a.length:=by omega
 have hq:q<b.length:=by omega
 clear e1 e2 va vb
 go_enter Tryz.func33,Tryz.ntmps33
 go_wp2
 generalize (w.alloc (rootB A a.length c (p:Int))).alloc (rootB B b.length d (q:Int))=wc at *
 refine wp_region_held_drew (S:=(fun w'=>(w'.cell? ⟨w.heap.size,0,none⟩=some (.slice A a.length c)∧w'.cell? ⟨w.heap.size,1,none⟩=some (.int .i64 (p:Int))∧w'.cell? ⟨w.heap.size+1,0,none⟩=some (.slice B b.length d)∧w'.cell? ⟨w.heap.size+1,1,none⟩=some (.int .i64 (q:Int)))∧Hid (TwoB w w' A a.length c (p:Int) B b.length d (q:Int)))) (by kernel_rfl) ?_ (fun zH_=>?_)
 ·(try dsimp only);exact yB (HT0.out.below (zE (Below.refl _ _) 1))
 refine tL 0 _ zH_ ?_
 try simp only[ps]
 refine tR 1 (fun K hK=>?_)
 go_simp
 (refine (check_any a (p:Int) A c _ (HA.out.below zH_.2.out.bel)).mono ?_;rintro e w3 ⟨rfl,hbz⟩)
 refine hK.out _ _ ?_ (fun zH_=>?_)
 ·(try dsimp only);exact yB (zH_.2.out.below hbz)
 clear hK K
 try simp only[ps]
 refine tL 2 _ zH_ ?_
 try simp only[ps]
 refine tL 3 _ zH_ ?_
 try simp only[ps]
 refine tL 4 _ zH_ ?_
 try simp only[ps]
 refine tR 5 (fun K hK=>?_)
 go_simp
 (refine (check_any b (q:Int) B d _ (HB.out.below zH_.2.out.bel)).mono ?_;rintro e w4 ⟨rfl,hbz⟩)
 refine hK.out _ _ ?_ (fun zH_=>?_)
 ·(try dsimp only);exact yB (zH_.2.out.below hbz)
 clear hK K
 try simp only[ps]
 refine tL 6 _ zH_ ?_
 try simp only[ps]
 refine tL 7 _ zH_ ?_
 try simp only[ps]
 refine tL 8 _ zH_ ?_
 try simp only[ps]
 refine tL 9 _ zH_ ?_
 try simp only[ps]
 refine tL 10 _ zH_ ?_
 try simp only[ps]
 refine tL 11 _ zH_ ?_
 try simp only[ps]
 refine tL 12 _ zH_ ?_
 try simp only[ps]
 refine tL 13 _ zH_ ?_
 try simp only[ps]
 refine tL 15 _ zH_ ?_
 try simp only[ps]
 refine tL 16 _ zH_ ?_
 try simp only[ps]
 refine tL 19 _ zH_ ?_
 try simp only[ps]
 refine tL 20 _ zH_ ?_
 try simp only[ps]
 refine tR 14 (fun K hK=>?_)
 go_simp
 (refine (relation_any names a b la lb HUA.out HUB.out A c B d _ (HA.out.below zH_.2.out.bel) (HB.out.below zH_.2.out.bel)).mono ?_;rintro e w5 ⟨g,rows,M,rfl,htab,hml,hcl,hgr,hbz⟩;obtain ⟨gi,cg,c1,c2⟩:=tab_bit htab hml hcl hp hq;have HGR:=zh hgr;clear htab hml hcl hgr)
 refine hK.out _ _ ?_ (fun zH_=>?_)
 ·(try dsimp only);exact yB (zH_.2.out.below hbz)
 clear hK K
 try simp only[ps]
 refine tL 17 _ zH_ ?_
 try simp only[ps]
 refine tR 18 (fun K hK=>?_)
 go_simp
 refine hK.out _ _ ?_ (fun zH_=>?_)
 ·(try dsimp only);exact zH_
 clear hK K
 try simp only[ps]
 refine tL 21 _ zH_ ?_
 try simp only[ps]
 refine tR 22 (fun K hK=>?_)
 go_simp
 refine hK.out _ _ ?_ (fun zH_=>?_)
 ·(try dsimp only);exact zH_
 clear hK K
 try simp only[ps]
 refine tL 23 _ zH_ ?_
 try simp only[ps]
 refine tL 24 _ zH_ ?_
 try simp only[ps]
 refine wpAnyH_done (by kernel_rfl) ?_ _
 have HE:=zh zH_.2.out.bel
 clear zH_
 go_wp2
 go_ret
 exact ⟨getB M p q,rfl,⟨fun _ _=>⟨getB M,HGR.out,rfl⟩,fun h=>absurd ⟨HE1.out,HE2.out⟩ h⟩,HE.out⟩
theorem equivalent_any (a:List TyD) (ta:Int) (b:List TyD) (tb:Int) (A:Option Addr) (c:Nat) (B:Option Addr) (d:Nat) (w:World) (ha:TysR w A a) (hb:TysR w B b) :
  Calls Tryz.prog 13 #[rootV A a.length c ta,rootV B b.length d tb] w (EqvPost true a ta b tb w):=by
 have HA:=zh ha
 have HB:=zh hb
 clear ha hb
 go_enter Tryz.func13,Tryz.ntmps13
 go_wp2_with fail
 refine (related_any true a ta b tb A c B d _ (HA.out.below (zC _ _ _)) (HB.out.below (zC _ _ _))).mono ?_
 rintro e w2 ⟨v,rfl,hv,hb2⟩
 have HV:=zh hv
 go_wp2
 go_ret
 exact ⟨v,rfl,HV.out,zG hb2⟩
theorem wire_any (a:List TyD) (ta:Int) (b:List TyD) (tb:Int) (A:Option Addr) (c:Nat) (B:Option Addr) (d:Nat) (w:World) (ha:TysR w A a) (hb:TysR w B b) :
  Calls Tryz.prog 14 #[rootV A a.length c ta,rootV B b.length d tb] w (EqvPost false a ta b tb w):=by
 have HA:=zh ha
 have HB:=zh hb
 clear ha hb
 go_enter Tryz.func14,Tryz.ntmps14
 go_wp2_with fail
 refine (related_any false a ta b tb A c B d _ (HA.out.below (zC _ _ _)) (HB.out.below (zC _ _ _))).mono ?_
 rintro e w2 ⟨v,rfl,hv,hb2⟩
 have HV:=zh hv
 go_wp2
 go_ret
 exact ⟨v,rfl,HV.out,zG hb2⟩
end Go.Proofs.YtkhpajneinmmiaaGreatDoor


