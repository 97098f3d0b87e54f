/-
  Walks: the closures of canon.alike; slices.EqualFunc on symbols and members.
-/
import Derived.Test.YtdfolgmcggdjdaaGreatDoorQEQA
import Derived.Test.YtdfolgmcggdjdaaGreatDoorQPL
namespace Go.Proofs.YtdfolgmcggdjdaaGreatDoor
open Go.RowKit
set_option maxHeartbeats 16000000
set_option maxRecDepth 100000
def CapB (p:Nat) (names:Bool) (w:World):Prop:=w.cell? ⟨p,0,none⟩=some (.bool names)
theorem CapB.below {p:Nat} {names:Bool} {w w':World} (h:CapB p names w) (hb:Below w.heap.size w w'):CapB p names w':=zB hb h
def CapN (_:Nat) (_:Bool) (_:World):Prop:=True
theorem CapN.below {p:Nat} {names:Bool} {w w':World} (_:CapN p names w) (_:Below w.heap.size w w'):CapN p names w':=trivial
theorem equal1_cap (p:Nat) (names:Bool) (x y:MemD) (A1:Option Addr) (c1:Nat) (A2:Option Addr) (c2:Nat) (A3:Option Addr) (c3:Nat) (B1:Option Addr) (d1:Nat) (B2:Option Addr) (d2:Nat) (B3:Option Addr) (d3:Nat) (w:World) (hx:MemR w x A1 A2 A3) (hy:MemR w y B1 B2 B3) (_:CapN p names w) :
  Calls Tryz.prog 101 #[x.v A1 c1 A2 c2 A3 c3,y.v B1 d1 B2 d2 B3 d3] w (SamePost (memEq0 x y) w):=equal1_any x y A1 c1 A2 c2 A3 c3 B1 d1 B2 d2 B3 d3 w hx hy
theorem equalF_any (p:Nat) (names:Bool) (l m:List MemD) (A B:Option Addr) (c d:Nat) (w:World) (hl:MemsR w A l) (hm:MemsR w B m) (hcap:CapN p names w) :
  Calls Tryz.prog 100 #[.slice A l.length c,.slice B m.length d,.func (.func 101) #[] #[]] w (SamePost (allEq (memEq0) l m) w):=by
 have hn:=hl.1.lt (by omega)
 by_cases hlen:l.length=m.length
 ·rw[←hlen]
  have hb0:((l.length:Int) != (l.length:Int))=false:=by simp
  have HL:=zh hl
  have HM:=zh hm
  have HE:=zh hlen
  have HC:=zh hcap
  clear hl hm hlen hcap
  go_enter Tryz.func100,Tryz.ntmps100
  go_wp2
  go_loopw [17] (fun i wr=>∃k:Nat,k≤l.length∧i = .int .i64 k∧Hid (∀j (h1:j<l.length) (h2:j<m.length),j<k→(memEq0) l[j] m[j]=true)∧Hid (Below w.heap.size w wr)) (fun i _=>l.length - (intOf i).toNat)
  case atStart=>exact ⟨0,by omega,rfl,(fun j _ _ h=>absurd h (by omega)),Below.refl _ _⟩
  case round =>
   obtain ⟨k,hk,rfl,htk,hbw⟩:=hrel
   by_cases hlt:k<l.length
   ·have hlt':k<m.length:=by have:=HE.out;omega
    obtain ⟨b,o,A1,c1,A2,c2,A3,c3,rfl,hr1,a0,a1,a2,a3,a4,a5,a6,a7,a8,a9,a10,a11,a12⟩:=(HL.out.below hbw.out).at13 hlt
    obtain ⟨b',o',B1,d1,B2,d2,B3,d3,rfl,hr2,b0,b1,b2,b3,b4,b5,b6,b7,b8,b9,b10,b11,b12⟩:=(HM.out.below hbw.out).at13 hlt'
    have h1:(0:Int)≤(k:Int):=by omega
    have h2:(k:Int)<(l.length:Int):=by omega
    have hz1:=zK a0
    have hz2:=zK b0
    simp only at hz1 hz2
    have HR1:=zh hr1
    have HR2:=zh hr2
    clear hr1 hr2
    cases he:(memEq0) l[k] m[k] with
    | true =>
     have HD:=zh he
     clear he
     go_wp2_with (go_at_call 101;refine (equal1_cap p names l[k] m[k] A1 c1 A2 c2 A3 c3 B1 d1 B2 d2 B3 d3 _ (HR1.out.below (zC _ _ _)) (HR2.out.below (zC _ _ _)) (HC.out.below (zA hbw.out (zC _ _ _)))).mono ?_;rintro e w2 ⟨rfl,hb2⟩;rw[HD.out])
     go_roundw
     case rel =>
      refine ⟨k+1,by omega,by go_num,(fun j g1 g2 hj=>?_),zA hbw.out (zI hb2)⟩
      by_cases e:j=k
      ·subst e;exact HD.out
      ·exact htk.out j g1 g2 (by omega)
     case measure=>simp[intOf];omega
    | false =>
     have HD:=zh he
     have HQ:=zh (allEq_no (memEq0) l m k hlt hlt' he)
     clear he
     go_wp2_with (go_at_call 101;refine (equal1_cap p names l[k] m[k] A1 c1 A2 c2 A3 c3 B1 d1 B2 d2 B3 d3 _ (HR1.out.below (zC _ _ _)) (HR2.out.below (zC _ _ _)) (HC.out.below (zA hbw.out (zC _ _ _)))).mono ?_;rintro e w2 ⟨rfl,hb2⟩;rw[HD.out])
     go_ret
     exact ⟨by rw[HQ.out];rfl,zA hbw.out (zI hb2)⟩
   ·have HQ:=zh (allEq_yes (memEq0) l m HE.out fun k h1 h2=>htk.out k h1 h2 (by omega))
    go_wp2
    go_ret
    exact ⟨by rw[HQ.out];rfl,hbw.out⟩
 ·have hb0:((l.length:Int) != (m.length:Int))=true:=bne_iff_ne.2 (by omega)
  have HQ:=zh (allEq_len (memEq0) l m hlen)
  clear hlen
  go_enter Tryz.func100,Tryz.ntmps100
  go_wp2
  go_ret
  exact ⟨by rw[HQ.out];rfl,Below.refl _ _⟩
end Go.Proofs.YtdfolgmcggdjdaaGreatDoor


