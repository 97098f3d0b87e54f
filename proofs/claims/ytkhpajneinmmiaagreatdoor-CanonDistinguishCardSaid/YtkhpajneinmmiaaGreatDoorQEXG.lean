/-
  Walks: the schemas of the examples.
-/
import Derived.Test.YtkhpajneinmmiaaGreatDoorQRE1
import Derived.Test.YtkhpajneinmmiaaGreatDoorQPL
import Derived.Test.YtkhpajneinmmiaaGreatDoorQDM
namespace Go.Proofs.YtkhpajneinmmiaaGreatDoor
open Go.RowKit
set_option maxHeartbeats 16000000
set_option maxRecDepth 100000
theorem equalInts_any (l m:List Int) (A B:Option Addr) (c d:Nat) (w:World) (hl:IntsR w A l) (hm:IntsR w B m) :
  Calls Tryz.prog 21 #[.slice A l.length c,.slice B m.length d] w (SamePost (decide (l=m)) w):=by
 have hn:=hl.1.lt (by omega)
 by_cases hlen:l.length=m.length
 ·rw[←hlen]
  have hb0:((l.length:Int) != (l.length:Int))=false:=by simp
  have HL:=zh hl
  have HM:=zh hm
  have HE:=zh hlen
  clear hl hm hlen
  go_enter Tryz.func21,Tryz.ntmps21
  go_wp2
  go_loopw [13] (fun i wr=>∃k:Nat,k≤l.length∧i = .int .i64 k∧Hid (l.take k=m.take k)∧Hid (Below w.heap.size w wr)) (fun i _=>l.length - (intOf i).toNat)
  case atStart=>exact ⟨0,by omega,rfl,rfl,Below.refl _ _⟩
  case round =>
   obtain ⟨k,hk,rfl,htk,hbw⟩:=hrel
   by_cases hlt:k<l.length
   ·have hlt':k<m.length:=by have:=HE.out;omega
    obtain ⟨b,o,rfl,c0⟩:=(HL.out.below hbw.out).at1 hlt
    obtain ⟨b',o',rfl,d0⟩:=(HM.out.below hbw.out).at1 hlt'
    have h1:(0:Int)≤(k:Int):=by omega
    have h2:(k:Int)<(l.length:Int):=by omega
    by_cases he:l[k]=m[k]
    ·have heq:(l[k] != m[k])=false:=by simp[he]
     have HQ:=zh (take_eq_of hlt hlt' htk.out he)
     clear he
     go_wp2
     go_quiet (fail)
     go_wp2
     go_roundw
     case rel=>exact ⟨k+1,by omega,by go_num,HQ.out,zE hbw.out _⟩
     case measure=>simp[intOf];omega
    ·have heq:(l[k] != m[k])=true:=by simp[he]
     have HQ:=zh (take_ne_of hlt hlt' he)
     clear he
     go_wp2
     go_quiet (fail)
     go_wp2
     go_ret
     exact ⟨by rw[HQ.out];rfl,zE hbw.out _⟩
   ·have HQ:=zh (take_all hlt HE.out htk.out)
    go_wp2
    go_ret
    exact ⟨by rw[HQ.out];rfl,hbw.out⟩
 ·have hb0:((l.length:Int) != (m.length:Int))=true:=bne_iff_ne.2 (by omega)
  have HQ:=zh (show decide (l=m)=false from decide_eq_false fun e=>hlen (by rw[e]))
  clear hlen
  go_enter Tryz.func21,Tryz.ntmps21
  go_wp2
  go_ret
  exact ⟨by rw[HQ.out];rfl,Below.refl _ _⟩
theorem rIndex_any (l:List Int) (n:Int) (A:Option Addr) (c:Nat) (w:World) (hl:IntsR w A l) :
  Calls Tryz.prog 50 #[.slice A l.length c,.int .i64 n] w fun e w'=>e = .returned (.int .i64 (idxI l n))∧w=w':=by
 have hn:=hl.1.lt (by omega)
 have HL:=zh hl
 clear hl
 go_enter Tryz.func50,Tryz.ntmps50
 go_wp2
 go_loop [5] (fun i=>∃k:Nat,k≤l.length∧i = .int .i64 k∧Hid (∀j (hj:j<l.length),j<k→l[j]≠n)) (fun i=>l.length - (intOf i).toNat)
 case atStart=>exact ⟨0,by omega,rfl,fun j _ h=>absurd h (by omega)⟩
 case round =>
  obtain ⟨k,hk,rfl,hh⟩:=hrel
  by_cases hlt:k<l.length
  ·obtain ⟨b,o,rfl,c0⟩:=HL.out.at1 hlt
   have h1:(0:Int)≤(k:Int):=by omega
   have h2:(k:Int)<(l.length:Int):=by omega
   by_cases he:l[k]=n
   ·have HD:=zh (idxI_at hlt he fun j hj=>hh.out j (by omega) hj)
    have heq:(l[k]==n)=true:=by simp[he]
    clear he
    go_wp2
    go_ret
    exact ⟨by rw[HD.out];rfl,rfl⟩
   ·have HN:=zh he
    have heq:(l[k]==n)=false:=by simp[he]
    clear he
    go_wp2
    go_round
    case rel =>
     refine ⟨k+1,by omega,by go_num,fun j hj hjk=>?_⟩
     by_cases e:j=k
     ·subst e;exact HN.out
     ·exact hh.out j hj (by omega)
    case measure=>simp[intOf];omega
  ·have HD:=zh (idxI_no fun j hj=>hh.out j hj (by omega))
   go_wp2
   go_ret
   exact ⟨by rw[HD.out];rfl,rfl⟩
theorem rSameRoot_any (a:List TyD) (ta:Int) (b:List TyD) (tb:Int) (A:Option Addr) (c:Nat) (B:Option Addr) (d:Nat) (w:World) (ha:TysR w A a) (hb:TysR w B b) :
  Calls Tryz.prog 25 #[rootV A a.length c ta,rootV B b.length d tb] w (SamePost (decide (ta=tb)&&decide (a=b)) w):=by
 have HA:=zh ha
 have HB:=zh hb
 clear ha hb
 by_cases he:ta=tb
 ·have heq:(ta==tb)=true:=by simp[he]
  have HD:=zh (show (decide (ta=tb)&&decide (a=b))=decide (a=b) by simp[he])
  clear he
  go_enter Tryz.func25,Tryz.ntmps25
  go_wp2_with fail
  refine (sEqual_any a b A c B d _ (HA.out.below (zC _ _ _)) (HB.out.below (zC _ _ _))).mono ?_
  rintro e w2 ⟨rfl,hb2⟩
  go_wp2
  go_ret
  exact ⟨by rw[HD.out];rfl,zG hb2⟩
 ·have heq:(ta==tb)=false:=by simp[he]
  have HD:=zh (show (decide (ta=tb)&&decide (a=b))=false by simp[he])
  clear he
  go_enter Tryz.func25,Tryz.ntmps25
  go_wp2
  go_ret
  exact ⟨by rw[HD.out];rfl,zC _ _ _⟩
theorem rBefore_any (l m:List Int) (A B:Option Addr) (c d:Nat) (w:World) (hl:IntsR w A l) (hm:IntsR w B m) :
  Calls Tryz.prog 59 #[.slice A l.length c,.slice B m.length d] w (SamePost (ltL l m) w):=by
 have hn:=hl.1.lt (by omega)
 have hn2:=hm.1.lt (by omega)
 have HL:=zh hl
 have HM:=zh hm
 clear hl hm
 go_enter Tryz.func59,Tryz.ntmps59
 go_wp2
 go_loopw [5] (fun i wr=>∃k:Nat,k≤l.length∧k≤m.length∧i = .int .i64 k∧Hid (∀j (h1:j<l.length) (h2:j<m.length),j<k→l[j]=m[j])∧Hid (Below w.heap.size w wr)) (fun i _=>l.length - (intOf i).toNat)
 case atStart=>exact ⟨0,by omega,by omega,rfl,(fun j _ _ h=>absurd h (by omega)),Below.refl _ _⟩
 case round =>
  obtain ⟨k,hk,hk2,rfl,htk,hbw⟩:=hrel
  by_cases hlt:k<l.length
  ·by_cases hlt':k<m.length
   ·obtain ⟨b,o,rfl,c0⟩:=(HL.out.below hbw.out).at1 hlt
    obtain ⟨b',o',rfl,d0⟩:=(HM.out.below hbw.out).at1 hlt'
    have h1:(0:Int)≤(k:Int):=by omega
    have h2:(k:Int)<(l.length:Int):=by omega
    have h3:(k:Int)<(m.length:Int):=by omega
    by_cases he:l[k]=m[k]
    ·have heq:(l[k] != m[k])=false:=by simp[he]
     have HQ:=zh he
     clear he
     go_wp2
     go_quiet (fail)
     go_wp2
     go_roundw
     case rel =>
      refine ⟨k+1,by omega,by omega,by go_num,(fun j g1 g2 hj=>?_),zE hbw.out _⟩
      by_cases e:j=k
      ·subst e;exact HQ.out
      ·exact htk.out j g1 g2 (by omega)
     case measure=>simp[intOf];omega
    ·have heq:(l[k] != m[k])=true:=by simp[he]
     have HD:=zh (ltL_ne hlt hlt' htk.out he)
     clear he
     go_wp2
     go_quiet (fail)
     go_wp2
     go_quiet (fail)
     go_wp2
     go_ret
     exact ⟨by rw[HD.out];rfl,zE (zE hbw.out _) _⟩
   ·have HD:=zh (ltL_end hk hk2 (by omega) htk.out)
    have hd':decide (k<m.length)=false:=by simp;omega
    go_wp2
    go_ret
    exact ⟨by rw[HD.out];simp,hbw.out⟩
  ·have HD:=zh (ltL_end hk hk2 (by omega) htk.out)
   go_wp2
   go_ret
   exact ⟨by rw[HD.out];simp,hbw.out⟩
def exM (id:Int) (n:ByteArray) (t:Int):MemD:=⟨id,n,t,false,false,zeroV⟩
def exS (t : Int) : List TyD :=
  [{ zeroT with kind := 5, name := ⟨#[65]⟩, mems := [exM 1 ⟨#[97]⟩ 1, exM 2 ⟨#[110, 101, 120, 116]⟩ 2] }, { zeroT with kind := 1 }, { zeroT with kind := 9 },
   { zeroT with kind := 5, name := ⟨#[66]⟩, mems := [exM 1 ⟨#[120]⟩ 1, exM 2 ⟨#[121]⟩ 4] }, { zeroT with kind := 9, elem := 5 },
   { zeroT with kind := 5, name := ⟨#[67]⟩, mems := [exM 1 ⟨#[120]⟩ t, exM 2 ⟨#[121]⟩ 6] }, { zeroT with kind := 9, elem := 3 }, { zeroT with kind := 2, high := 1 }]
theorem sok_small {s:ByteArray} (h:s.size≤100):SOk s:=by unfold SOk;omega
theorem mems2_new (w:World) (m1 m2:MemD) (h1:SOk m1.name) (h2:SOk m2.name) (e1:m1.dflt=zeroV) (e2:m2.dflt=zeroV) :
  MemsR (w.alloc (.cells (m1.cs none 0 none 0 none 0++m2.cs none 0 none 0 none 0).toArray 83)) (some ⟨w.heap.size,0,none⟩) [m1,m2]:=by
 refine ⟨by simp[Lim],fun _=>⟨_,_,rfl,fun i x hx=>?_⟩⟩
 have hr:=zL w (m1.cs none 0 none 0 none 0++m2.cs none 0 none 0 none 0) 83
 match i,hx with
 | 0,hx =>
  obtain rfl:m1=x:=by simpa using hx
  refine ⟨m1.cs none 0 none 0 none 0,⟨none,0,none,0,none,0,rfl,h1,by rw[e1];exact valR_zero _⟩,fun j u hj=>?_⟩
  have hj':j<13:=(List.getElem?_eq_some_iff.1 hj).1
  have:=hr j u (by rw[List.getElem?_append_left (by exact hj')];exact hj)
  simpa using this
 | 1,hx =>
  obtain rfl:m2=x:=by simpa using hx
  refine ⟨m2.cs none 0 none 0 none 0,⟨none,0,none,0,none,0,rfl,h2,by rw[e2];exact valR_zero _⟩,fun j u hj=>?_⟩
  have hj':j<13:=(List.getElem?_eq_some_iff.1 hj).1
  have:=hr (13+j) u (by rw[List.getElem?_append_right (by simp)];simpa using hj)
  rw[Nat.zero_add] at this
  rw[Nat.zero_add,Nat.one_mul]
  exact this
 | n+2,hx=>simp at hx
def MemsPost (l:List MemD) (w:World) (e:Ending) (w':World):Prop:=∃A c,e = .returned (.slice A l.length c)∧MemsR w' A l∧Below w.heap.size w w'
theorem two_any (a b:ByteArray) (ha:SOk a) (hb:SOk b) (i j:Int) (w:World) :
  Calls Tryz.prog 65 #[.string a,.string b,.int .i64 i,.int .i64 j] w (MemsPost [exM 1 a i,exM 2 b j] w):=by
 have HM:=zh (mems2_new w (exM 1 a i) (exM 2 b j) ha hb rfl rfl)
 clear ha hb
 go_enter Tryz.func65,Tryz.ntmps65
 go_wp2
 go_ret
 exact ⟨some ⟨w.heap.size,0,none⟩,2,rfl,HM.out,zD _ _⟩
structure TyA where
 t:TyD
 As:Option Addr
 cs:Nat
 Am:Option Addr
 cm:Nat
def TyA.cells (x:TyA):List Value:=x.t.cs x.As x.cs x.Am x.cm
theorem tys_new (w:World) (L:List TyA) (h:∀x∈L,TyR w x.t x.As x.Am) (hl:L.length≤1000):TysR (w.alloc (.cells (L.flatMap TyA.cells).toArray 70)) (some ⟨w.heap.size,0,none⟩) (L.map (·.t)):=by
 refine ⟨by unfold Lim;rw[List.length_map];omega,fun _=>⟨_,_,rfl,fun i x hx=>?_⟩⟩
 rw[List.getElem?_map] at hx
 cases hL:L[i]? with
 | none=>rw[hL] at hx;cases hx
 | some y =>
  rw[hL] at hx
  obtain rfl:y.t=x:=by simpa using hx
  refine ⟨y.cells,⟨y.As,y.cs,y.Am,y.cm,rfl,(h y (List.mem_of_getElem? hL)).below (zD _ _)⟩,?_⟩
  exact range_flat (enc:=TyA.cells) (k:=10) (fun _=>rfl) (zL w _ _) hL
def SchPost (l:List TyD) (w:World) (e:Ending) (w':World):Prop:=∃A c,e = .returned (.agg #[.slice A l.length c])∧TysR w' A l∧Below w.heap.size w w'
theorem tyR_mems {w:World} {t:TyD} {Am:Option Addr} (hn:SOk t.name) (hs:t.syms=[]) (hm:MemsR w Am t.mems):TyR w t none Am:=⟨hn,by rw[hs];exact RowsR.nil _ _ _ _ _,hm⟩
theorem tyR_none {w:World} {t:TyD} (hn:SOk t.name) (hs:t.syms=[]) (hm:t.mems=[]):TyR w t none none:=⟨hn,by rw[hs];exact RowsR.nil _ _ _ _ _,by rw[hm];exact RowsR.nil _ _ _ _ _⟩
theorem example_any (t : Int) (w : World) : Calls Tryz.prog 32 #[.int .i64 t] w (SchPost (exS t) w) := by
  go_enter Tryz.func32, Tryz.ntmps32
  go_wp2_with fail
  refine (two_any ⟨#[97]⟩ ⟨#[110, 101, 120, 116]⟩ (sok_small (by decide)) (sok_small (by decide)) 1 2 _).mono ?_
  rintro e w1 ⟨A1, c1, rfl, hm1, hb1⟩
  have HM1 := zh hm1
  have HB1 := zh hb1
  clear hm1 hb1
  go_wp2_with fail
  refine (two_any ⟨#[120]⟩ ⟨#[121]⟩ (sok_small (by decide)) (sok_small (by decide)) 1 4 _).mono ?_
  rintro e w2 ⟨A2, c2, rfl, hm2, hb2⟩
  have HM2 := zh hm2
  have HB2 := zh hb2
  clear hm2 hb2
  go_wp2_with fail
  refine (two_any ⟨#[120]⟩ ⟨#[121]⟩ (sok_small (by decide)) (sok_small (by decide)) t 6 _).mono ?_
  rintro e w3 ⟨A3, c3, rfl, hm3, hb3⟩
  have HM3 := zh hm3
  have HM2b := zh (HM2.out.below hb3)
  have HM1b := zh ((HM1.out.below HB2.out).below hb3)
  have HBX := zh (zA (zA HB1.out HB2.out) hb3)
  have HRB : Hid (w3.heap[w.heap.size]? = some (.cells #[.slice none 0 0] 30 (0, 0))) := (HBX.out.block w.heap.size (by simp)).trans (heap_alloc_new w _)
  have HT : Hid (TysR ((w3.setCell ⟨w.heap.size, 0, none⟩ (.slice (some ⟨w3.heap.size, 0, none⟩) 8 8)).alloc (.cells (([⟨{ zeroT with kind := 5, name := ⟨#[65]⟩, mems := [exM 1 ⟨#[97]⟩ 1, exM 2 ⟨#[110, 101, 120, 116]⟩ 2] }, none, 0, A1, c1⟩, ⟨{ zeroT with kind := 1 }, none, 0, none, 0⟩, ⟨{ zeroT with kind := 9 }, none, 0, none, 0⟩,
   ⟨{ zeroT with kind := 5, name := ⟨#[66]⟩, mems := [exM 1 ⟨#[120]⟩ 1, exM 2 ⟨#[121]⟩ 4] }, none, 0, A2, c2⟩, ⟨{ zeroT with kind := 9, elem := 5 }, none, 0, none, 0⟩,
   ⟨{ zeroT with kind := 5, name := ⟨#[67]⟩, mems := [exM 1 ⟨#[120]⟩ t, exM 2 ⟨#[121]⟩ 6] }, none, 0, A3, c3⟩, ⟨{ zeroT with kind := 9, elem := 3 }, none, 0, none, 0⟩, ⟨{ zeroT with kind := 2, high := 1 }, none, 0, none, 0⟩] : List TyA).flatMap TyA.cells).toArray 70)) (some ⟨w3.heap.size, 0, none⟩) (exS t)) := by
    have hsz : (w3.setCell ⟨w.heap.size, 0, none⟩ (.slice (some ⟨w3.heap.size, 0, none⟩) 8 8)).heap.size = w3.heap.size := by simp
    have HT0 := tys_new (w3.setCell ⟨w.heap.size, 0, none⟩ (.slice (some ⟨w3.heap.size, 0, none⟩) 8 8)) ([⟨{ zeroT with kind := 5, name := ⟨#[65]⟩, mems := [exM 1 ⟨#[97]⟩ 1, exM 2 ⟨#[110, 101, 120, 116]⟩ 2] }, none, 0, A1, c1⟩, ⟨{ zeroT with kind := 1 }, none, 0, none, 0⟩, ⟨{ zeroT with kind := 9 }, none, 0, none, 0⟩,
   ⟨{ zeroT with kind := 5, name := ⟨#[66]⟩, mems := [exM 1 ⟨#[120]⟩ 1, exM 2 ⟨#[121]⟩ 4] }, none, 0, A2, c2⟩, ⟨{ zeroT with kind := 9, elem := 5 }, none, 0, none, 0⟩,
   ⟨{ zeroT with kind := 5, name := ⟨#[67]⟩, mems := [exM 1 ⟨#[120]⟩ t, exM 2 ⟨#[121]⟩ 6] }, none, 0, A3, c3⟩, ⟨{ zeroT with kind := 9, elem := 3 }, none, 0, none, 0⟩, ⟨{ zeroT with kind := 2, high := 1 }, none, 0, none, 0⟩] : List TyA)
    rw [hsz] at HT0
    refine HT0 (fun x hx => ?_) (by simp)
    simp only [List.mem_cons, List.mem_nil_iff, or_false] at hx
    rcases hx with rfl | rfl | rfl | rfl | rfl | rfl | rfl | rfl
    · exact tyR_mems (sok_small (show (⟨#[65]⟩ : ByteArray).size ≤ 100 by decide)) rfl (HM1b.out.besides (besides_set HRB.out _ _))
    · exact tyR_none sok_empty rfl rfl
    · exact tyR_none sok_empty rfl rfl
    · exact tyR_mems (sok_small (show (⟨#[66]⟩ : ByteArray).size ≤ 100 by decide)) rfl (HM2b.out.besides (besides_set HRB.out _ _))
    · exact tyR_none sok_empty rfl rfl
    · exact tyR_mems (sok_small (show (⟨#[67]⟩ : ByteArray).size ≤ 100 by decide)) rfl (HM3.out.besides (besides_set HRB.out _ _))
    · exact tyR_none sok_empty rfl rfl
    · exact tyR_none sok_empty rfl rfl
  have hc0 : w3.cell? ⟨w.heap.size, 0, none⟩ = some (.slice none 0 0) := zB HBX.out (by rw [cell_of_row _ _ _ _ _ _ (heap_alloc_new w _)]; rfl)
  have hf0 : w3.frozen? ⟨w.heap.size, 0, none⟩ = false := by rw [(bfroz HBX.out) w.heap.size 0 (by simp)]; go_simp
  have hz0 := zF hc0
  simp only at hz0
  clear hm3 hb3
  have HB3 := zh (zW HBX.out)
  have HCF : Hid (∀ X : Obj, ((w3.setCell ⟨w.heap.size, 0, none⟩ (.slice (some ⟨w3.heap.size, 0, none⟩) 8 8)).alloc X).cell? ⟨w.heap.size, 0, none⟩ = some (.slice (some ⟨w3.heap.size, 0, none⟩) 8 8)) := fun X => by
    refine zB (zD _ _) ?_
    rw [cell_of_row _ _ _ _ _ _ (heap_setCell_same w3 w.heap.size 0 _ _ (.slice (some ⟨w3.heap.size, 0, none⟩) 8 8) HRB.out)]
    rfl
  go_wp2
  have hcf := HCF.out
  exact bodyPost_ret (v := .agg #[.slice (some ⟨w3.heap.size, 0, none⟩) 8 8]) (by simp [results, Tryz.results32, go_sem, hcf]) rfl ⟨some ⟨w3.heap.size, 0, none⟩, 8, rfl, HT.out, (below_setg HB3.out w.heap.size 0 (Nat.le_refl _) _).alloc (by have := HB3.out.size; simp; omega) _⟩
theorem ex_valid1:zQ (exS 1)=0:=by decide +kernel
theorem ex_valid7:zQ (exS 7)=0:=by decide +kernel
end Go.Proofs.YtkhpajneinmmiaaGreatDoor


