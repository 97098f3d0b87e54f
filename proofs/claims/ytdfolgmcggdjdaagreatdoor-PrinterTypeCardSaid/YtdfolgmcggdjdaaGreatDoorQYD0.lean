/-
  Walks: schema.Equal, IsTidy, word.
-/
import Derived.Test.YtdfolgmcggdjdaaGreatDoorQYC1
namespace Go.Proofs.YtdfolgmcggdjdaaGreatDoor
open Go.RowKit
set_option maxHeartbeats 16000000
set_option maxRecDepth 100000
theorem eqTys_any (l m:List TyD) (A B:Option Addr) (c d:Nat) (w:World) (hl:TysR w A l) (hm:TysR w B m) :
  Calls Tryz.prog 71 #[.slice A l.length c,.slice B m.length d,.func (.func 72) #[] #[]] w (SamePost (decide (l=m)) w):=by
 have hn:=hl.1.lt (by omega)
 by_cases hlen:l.length=m.length
 ·rw[←hlen]
  have hb0:((l.length:Int) != (l.length:Int))=false:=by simp
  have HL:=zh hl
  have HM:=zh hm
  have HE:=zh hlen
  clear hl hm hlen
  go_enter Tryz.func71,Tryz.ntmps71
  go_wp2
  go_loopw [17] (fun i wr=>∃k:Nat,k≤l.length∧i = .int .i64 k∧Hid (l.take k=m.take k)∧Hid (Below w.heap.size w wr)) (fun i _=>l.length - (intOf i).toNat)
  case atStart=>exact ⟨0,by omega,rfl,rfl,Below.refl _ _⟩
  case round =>
   obtain ⟨k,hk,rfl,htk,hbw⟩:=hrel
   by_cases hlt:k<l.length
   ·have hlt':k<m.length:=by have:=HE.out;omega
    obtain ⟨b,o,As,cs,Am,cm,rfl,hr1,a0,a1,a2,a3,a4,a5,a6,a7,a8,a9⟩:=(HL.out.below hbw.out).at10 hlt
    obtain ⟨b',o',Bs,ds,Bm,dm,rfl,hr2,b0,b1,b2,b3,b4,b5,b6,b7,b8,b9⟩:=(HM.out.below hbw.out).at10 hlt'
    have h1:(0:Int)≤(k:Int):=by omega
    have h2:(k:Int)<(l.length:Int):=by omega
    have hz1:=zK a0
    have hz2:=zK b0
    simp only at hz1 hz2
    have HR1:=zh hr1
    have HR2:=zh hr2
    clear hr1 hr2
    by_cases he:l[k]=m[k]
    ·have HQ:=zh (take_eq_of hlt hlt' htk.out he)
     have HD:=zh (decide_eq_true he)
     clear he
     go_wp2_with (go_at_call 72;refine (equal_any l[k] m[k] As cs Am cm Bs ds Bm dm _ (HR1.out.below (zC _ _ _)) (HR2.out.below (zC _ _ _))).mono ?_;rintro e w2 ⟨rfl,hb2⟩;rw[HD.out])
     go_roundw
     case rel=>exact ⟨k+1,by omega,by go_num,HQ.out,zA hbw.out (zI hb2)⟩
     case measure=>simp[intOf];omega
    ·have HQ:=zh (take_ne_of hlt hlt' he)
     have HD:=zh (decide_eq_false he)
     clear he
     go_wp2_with (go_at_call 72;refine (equal_any l[k] m[k] As cs Am cm Bs ds Bm dm _ (HR1.out.below (zC _ _ _)) (HR2.out.below (zC _ _ _))).mono ?_;rintro e w2 ⟨rfl,hb2⟩;rw[HD.out])
     go_ret
     exact ⟨by rw[HQ.out];rfl,zA hbw.out (zI hb2)⟩
   ·have HQ:=zh (take_all hlt HE.out htk.out)
    go_wp2
    go_ret
    exact ⟨by rw[HQ.out];rfl,hbw.out⟩
 ·have hb0:((l.length:Int) != (m.length:Int))=true:=bne_iff_ne.2 (by omega)
  have HQ:=zh (show decide (l=m)=false from decide_eq_false fun e=>hlen (by rw[e]))
  clear hlen
  go_enter Tryz.func71,Tryz.ntmps71
  go_wp2
  go_ret
  exact ⟨by rw[HQ.out];rfl,Below.refl _ _⟩
theorem scEqual_any (l m:List TyD) (A:Option Addr) (c:Nat) (B:Option Addr) (d:Nat) (w:World) (hl:TysR w A l) (hm:TysR w B m) :
  Calls Tryz.prog 42 #[.agg #[.slice A l.length c],.agg #[.slice B m.length d]] w (SamePost (decide (l=m)) w):=by
 have HL:=zh hl
 have HM:=zh hm
 clear hl hm
 go_enter Tryz.func42,Tryz.ntmps42
 go_wp2_with (go_at_call 71;refine (eqTys_any l m A B c d _ (HL.out.below (zC _ _ _)) (HM.out.below (zC _ _ _))).mono ?_;rintro e w2 ⟨rfl,hb2⟩)
 go_ret
 exact ⟨rfl,zI hb2⟩
theorem isTidy_any (s:List TyD) (d:Int) (A:Option Addr) (c:Nat) (hd:DefSaid s A c d) (w:World) (hs:TysR w A s) :
  Calls Tryz.prog 13 #[.agg #[.slice A s.length c]] w (SamePost (decide (tidyE s d=0∧tidyT s d=s)) w):=by
 have hln:=hs.1.lt (by omega)
 have HS:=zh hs
 have HD:=zh hd
 have HB0:=zh (zD w (.cells #[.slice A s.length c] 27))
 have HX0:=zh (heap_alloc_new w (.cells #[.slice A s.length c] 27))
 clear hs hd
 go_enter Tryz.func13,Tryz.ntmps13
 go_wp2_with fail
 generalize w.alloc (.cells #[.slice A s.length c] 27)=W1 at *
 refine (tidy_any s d A c HD.out W1 (HS.out.below HB0.out)).mono ?_
 rintro e w1 ⟨A',c',B,c2,rfl,ht,_,hb1⟩
 have HT:=zh ht
 have HB1:=zh (zA HB0.out hb1)
 have HX1:=zh (yE HX0.out hb1)
 clear ht hb1
 generalize htt:tidyT s d=T at *
 generalize tidyI s d=I at *
 generalize hte:tidyE s d=E at *
 have HBN:=zh (zD w1 (.cells #[.slice A' T.length c'] 27))
 have HX2:=zh (yE HX1.out HBN.out)
 have x0:w1.cell? ⟨w.heap.size,0,none⟩=some (.slice A s.length c):=by rw[cell_of_row _ _ _ _ _ _ HX1.out];rfl
 have hlt:=zK x0
 simp only at hlt
 by_cases hE:E=0
 ·subst hE
  have HD1:Hid (decide ((0:Int)=0∧T=s)=decide (T=s)):=by show _=_;simp
  go_wp2_with fail
  refine (scEqual_any T s A' c' A c _ (HT.out.below HBN.out) (HS.out.below (zA HB1.out HBN.out))).mono ?_
  rintro e w2 ⟨rfl,hb2⟩
  have HB2:=zh (zA (zA HB1.out HBN.out) hb2)
  clear hb2
  go_wp2
  go_ret
  exact ⟨by first|rfl|(rw[HD1.out];rfl),HB2.out⟩
 ·have q1:(E==0)=false:=by simp[hE]
  have HD2:Hid (decide (E=0∧T=s)=false):=decide_eq_false fun h=>hE h.1
  go_wp2
  go_ret
  exact ⟨by rw[HD2.out];rfl,zA HB1.out HBN.out⟩
end Go.Proofs.YtdfolgmcggdjdaaGreatDoor


