/-
  Walks: the closure of canon.relation, and slices.EqualFunc with it.
-/
import Derived.Test.YtkhpajneinmmiaaGreatDoorQTBG
import Derived.Test.YtkhpajneinmmiaaGreatDoorQEQ4
import Derived.Test.YtkhpajneinmmiaaGreatDoorQPL
namespace Go.Proofs.YtkhpajneinmmiaaGreatDoor
open Go.RowKit
set_option maxHeartbeats 16000000
set_option maxRecDepth 100000
structure RelAt (w:World) (base rb g:Nat) (rows:List Value) (M:List (List Bool)) (n m:Nat):Prop where
 var:w.heap[rb]? = some (.cells #[.slice (some ⟨g,0,none⟩) n n] 61 (0,0))
 tab:TabAt w base g rows M
 rlen:M.length=n
 clen:∀r∈M,r.length=m
theorem RelAt.rlt {w:World} {base rb g:Nat} {rows:List Value} {M:List (List Bool)} {n m:Nat} (h:RelAt w base rb g rows M n m):rb<w.heap.size:=(zg.1 h.var).1
theorem RelAt.below {w w':World} {base rb g:Nat} {rows:List Value} {M:List (List Bool)} {n m:Nat} (h:RelAt w base rb g rows M n m) (hb:Below w.heap.size w w'):RelAt w' base rb g rows M n m :=
 ⟨(hb.block rb h.rlt).trans h.var,h.tab.below hb,h.rlen,h.clen⟩
theorem RelAt.vcell {w:World} {base rb g:Nat} {rows:List Value} {M:List (List Bool)} {n m:Nat} (h:RelAt w base rb g rows M n m):w.cell? ⟨rb,0,none⟩=some (.slice (some ⟨g,0,none⟩) n n):=by
 rw[cell_of_row _ _ _ _ _ _ h.var];rfl
theorem RelAt.bit {w:World} {base rb g:Nat} {rows:List Value} {M:List (List Bool)} {n m:Nat} (h:RelAt w base rb g rows M n m) {i k:Nat} (hi:i<n) (hk:k<m):∃gi c,w.cell? ⟨g,i,none⟩=some (.slice (some ⟨gi,0,none⟩) m c)∧w.cell? ⟨gi,k,none⟩=some (.bool (getB M i k))∧w.frozen? ⟨gi,k,none⟩=false∧rows[i]? = some (.slice (some ⟨gi,0,none⟩) m c)∧base≤gi:=by
 have hi':i<M.length:=by rw[h.rlen];exact hi
 have hl:=h.clen _ (List.getElem_mem hi')
 obtain ⟨gi,c,h1,h2,h3,h4,h5⟩:=h.tab.bit hi' (k:=k) (by rw[hl];exact hk)
 rw[hl] at h1 h4
 refine ⟨gi,c,h1,?_,h3,h4,h5⟩
 rw[h2]
 unfold getB
 rw[List.getD_eq_getElem?_getD (l:=M),zl hi',Option.getD_some,List.getD_eq_getElem?_getD,zl (by rw[hl];exact hk)];rfl
def relU (M:List (List Bool)) (u v:Int×Int):Bool:=getB M u.2.toNat v.2.toNat
theorem relU_uses (M:List (List Bool)):∀l m:List (Int×Int),allEq (relU M) l m=zR (getB M) l m
 | [],[]=>rfl
 | [],_::_=>rfl
 | _::_,[]=>rfl
 | u::l,v::m=>by rw[allEq,zR,relU_uses M l m];rfl
theorem rel1_any (base rb g:Nat) (rows:List Value) (M:List (List Bool)) (n m:Nat) (hnm:n≤1000∧m≤1000) (u v:Int×Int) (hu:0≤u.2∧u.2<(n:Int)) (hv:0≤v.2∧v.2<(m:Int)) (w:World) (hr:RelAt w base rb g rows M n m) :
  Calls Tryz.prog 72 #[.agg #[.int .i64 u.1,.int .i64 u.2],.agg #[.int .i64 v.1,.int .i64 v.2],.pointer (some ⟨rb,0,none⟩)] w (SamePost (relU M u v) w):=by
 obtain ⟨u1,u2⟩:=u
 obtain ⟨v1,v2⟩:=v
 obtain ⟨p,rfl⟩:=Int.eq_ofNat_of_zero_le hu.1
 obtain ⟨q,rfl⟩:=Int.eq_ofNat_of_zero_le hv.1
 have hp:p<n:=by have:=hu.2;simp only at this;omega
 have hq:q<m:=by have:=hv.2;simp only at this;omega
 obtain ⟨hn1,hm1⟩:=hnm
 obtain ⟨gi,c,h1,h2,_,_,_⟩:=hr.bit hp hq
 have h0:=hr.vcell
 have hz0:=hr.rlt
 have hz1:=zF h1
 have hz2:=zF h2
 simp only at hz1 hz2
 have HB:Hid (relU M (u1,(p:Int)) (v1,(q:Int))=getB M p q):=by show _=_;simp[relU]
 have g1:(0:Int)≤(p:Int):=by omega
 have g2:(p:Int)<(n:Int):=by omega
 have g3:(0:Int)≤(q:Int):=by omega
 have g4:(q:Int)<(m:Int):=by omega
 clear hr hu hv
 simp only
 go_enter Tryz.func72,Tryz.ntmps72
 go_wp2
 go_quiet (fail)
 go_wp2
 go_ret
 exact ⟨by rw[HB.out];rfl,zE (zC _ _ _) _⟩
theorem relEq_any (base rb g:Nat) (rows:List Value) (M:List (List Bool)) (n m:Nat) (hnm:n≤1000∧m≤1000) (l r:List (Int×Int)) (hl0:∀u∈l,0≤u.2∧u.2<(n:Int)) (hr0:∀u∈r,0≤u.2∧u.2<(m:Int)) (A B:Option Addr) (c d:Nat) (w:World) (hl:PairsR w A l) (hm:PairsR w B r) (hcap:RelAt w base rb g rows M n m) :
  Calls Tryz.prog 71 #[.slice A l.length c,.slice B r.length d,.func (.func 72) #[] #[.pointer (some ⟨rb,0,none⟩)]] w (SamePost (zR (getB M) l r) w):=by
 rw[←relU_uses]
 have hn:=hl.1.lt (by omega)
 by_cases hlen:l.length=r.length
 ·rw[←hlen]
  have hb0:((l.length:Int) != (l.length:Int))=false:=by simp
  have HL:=zh hl
  have HM:=zh hm
  have HE:=zh hlen
  have HC:=zh hcap
  have HL0:=zh hl0
  have HR0:=zh hr0
  have HNM:=zh hnm
  clear hl hm hlen hcap hl0 hr0 hnm
  go_enter Tryz.func71,Tryz.ntmps71
  go_wp2
  go_loopw [17] (fun i wr=>∃k:Nat,k≤l.length∧i = .int .i64 k∧Hid (∀j (h1:j<l.length) (h2:j<r.length),j<k→relU M l[j] r[j]=true)∧Hid (Below w.heap.size w wr)) (fun i _=>l.length - (intOf i).toNat)
  case atStart=>exact ⟨0,by omega,rfl,(fun j _ _ h=>absurd h (by omega)),Below.refl _ _⟩
  case round =>
   obtain ⟨k,hk,rfl,htk,hbw⟩:=hrel
   by_cases hlt:k<l.length
   ·have hlt':k<r.length:=by have:=HE.out;omega
    obtain ⟨b,o,rfl,a0,a1⟩:=(HL.out.below hbw.out).at2 hlt
    obtain ⟨b',o',rfl,b0,b1⟩:=(HM.out.below hbw.out).at2 hlt'
    have h1:(0:Int)≤(k:Int):=by omega
    have h2:(k:Int)<(l.length:Int):=by omega
    have hz1:=zF a0
    have hz2:=zF b0
    simp only at hz1 hz2
    have HU:=zh (HL0.out l[k] (List.getElem_mem hlt))
    have HV:=zh (HR0.out r[k] (List.getElem_mem hlt'))
    cases he:relU M l[k] r[k] with
    | true =>
     have HD:=zh he
     clear he
     go_wp2_with (go_at_call 72;refine (rel1_any base rb g rows M n m HNM.out l[k] r[k] HU.out HV.out _ (HC.out.below (zA hbw.out (zC _ _ _)))).mono ?_;rintro e w2 ⟨rfl,hb2⟩;rw[HD.out])
     go_roundw
     case rel =>
      refine ⟨k+1,by omega,by go_num,(fun j g1 g2 hj=>?_),zA hbw.out (zG hb2)⟩
      by_cases e:j=k
      ·subst e;exact HD.out
      ·exact htk.out j g1 g2 (by omega)
     case measure=>simp[intOf];omega
    | false =>
     have HD:=zh he
     have HQ:=zh (allEq_no (relU M) l r k hlt hlt' he)
     clear he
     go_wp2_with (go_at_call 72;refine (rel1_any base rb g rows M n m HNM.out l[k] r[k] HU.out HV.out _ (HC.out.below (zA hbw.out (zC _ _ _)))).mono ?_;rintro e w2 ⟨rfl,hb2⟩;rw[HD.out])
     go_ret
     exact ⟨by rw[HQ.out];rfl,zA hbw.out (zG hb2)⟩
   ·have HQ:=zh (allEq_yes (relU M) l r HE.out fun k h1 h2=>htk.out k h1 h2 (by omega))
    go_wp2
    go_ret
    exact ⟨by rw[HQ.out];rfl,hbw.out⟩
 ·have hb0:((l.length:Int) != (r.length:Int))=true:=bne_iff_ne.2 (by omega)
  have HQ:=zh (allEq_len (relU M) l r hlen)
  clear hlen
  go_enter Tryz.func71,Tryz.ntmps71
  go_wp2
  go_ret
  exact ⟨by rw[HQ.out];rfl,Below.refl _ _⟩
end Go.Proofs.YtkhpajneinmmiaaGreatDoor


