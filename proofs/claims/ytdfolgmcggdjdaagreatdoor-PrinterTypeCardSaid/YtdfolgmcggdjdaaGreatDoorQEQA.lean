/-
  Walks: equality of members and types (written by gen.py).
-/
import Derived.Test.YtdfolgmcggdjdaaGreatDoorQEQ0
import Derived.Test.YtdfolgmcggdjdaaGreatDoorQDM
import Derived.StillTailTactics
namespace Go.Proofs.YtdfolgmcggdjdaaGreatDoor
open Go.RowKit
set_option maxHeartbeats 16000000
set_option maxRecDepth 100000
theorem Val.ext_iff' (x y:Val):x=y↔(x.kind=y.kind∧x.bool=y.bool∧x.int=y.int∧x.str=y.str∧x.id=y.id∧x.rest=y.rest∧x.keys=y.keys∧x.items=y.items):=by
 obtain ⟨k,b,i,s,d,ks,is,r⟩:=x
 obtain ⟨k',b',i',s',d',ks',is',r'⟩:=y
 simp only[Val.mk.injEq,Val.kind,Val.bool,Val.int,Val.str,Val.id,Val.rest,Val.keys,Val.items]
 constructor
 ·rintro ⟨a1,a2,a3,a4,a5,a6,a7,a8⟩;exact ⟨a1,a2,a3,a4,a5,a8,a6,a7⟩
 ·rintro ⟨a1,a2,a3,a4,a5,a8,a6,a7⟩;exact ⟨a1,a2,a3,a4,a5,a6,a7,a8⟩
theorem val_ne {x y:Val} (h:¬ (x.kind=y.kind∧x.bool=y.bool∧x.int=y.int∧x.str=y.str∧x.id=y.id∧x.rest=y.rest∧x.keys=y.keys∧x.items=y.items)):decide (x=y)=false :=
 decide_eq_false fun e=>h ((Val.ext_iff' x y).1 e)
def SamePost (b:Bool) (w:World) (e:Ending) (w':World):Prop:=e = .returned (.bool b)∧Below w.heap.size w w'
def sameAt (x:Val):Prop:=∀ (y:Val) (A1:Option Addr) (c1:Nat) (A2:Option Addr) (c2:Nat) (A3:Option Addr) (c3:Nat) (B1:Option Addr) (d1:Nat) (B2:Option Addr) (d2:Nat) (B3:Option Addr) (d3:Nat) (w:World),
 ValR w x A1 A2 A3→ValR w y B1 B2 B3→Calls Tryz.prog 102 #[x.v A1 c1 A2 c2 A3 c3,y.v B1 d1 B2 d2 B3 d3] w (SamePost (decide (x=y)) w)
theorem sames_any (l m:List Val) (ih:∀x∈l,sameAt x) (A B:Option Addr) (c d:Nat) (w:World) (hl:ValsR w A l) (hm:ValsR w B m) :
  Calls Tryz.prog 122 #[.slice A l.length c,.slice B m.length d,.func (.func 102) #[] #[]] w (SamePost (decide (l=m)) w):=by
 have hn:=hl.1.lt (by omega)
 by_cases hlen:l.length=m.length
 ·rw[←hlen]
  have hb0:((l.length:Int) != (l.length:Int))=false:=by simp
  have HL:=zh hl
  have HM:=zh hm
  have HE:=zh hlen
  have HI:=zh ih
  clear hl hm hlen ih
  go_enter Tryz.func122,Tryz.ntmps122
  go_wp2
  go_loopw [17] (fun i wr=>∃k:Nat,k≤l.length∧i = .int .i64 k∧Hid (l.take k=m.take k)∧Hid (Below w.heap.size w wr)) (fun i _=>l.length - (intOf i).toNat)
  case atStart=>exact ⟨0,by omega,rfl,rfl,Below.refl _ _⟩
  case round =>
   obtain ⟨k,hk,rfl,htk,hbw⟩:=hrel
   by_cases hlt:k<l.length
   ·have hlt':k<m.length:=by have:=HE.out;omega
    obtain ⟨b,o,A1,c1,A2,c2,A3,c3,rfl,hr1,a0,a1,a2,a3,a4,a5,a6,a7⟩:=(HL.out.below hbw.out).at8 hlt
    obtain ⟨b',o',B1,d1,B2,d2,B3,d3,rfl,hr2,b0,b1,b2,b3,b4,b5,b6,b7⟩:=(HM.out.below hbw.out).at8 hlt'
    have h1:(0:Int)≤(k:Int):=by omega
    have h2:(k:Int)<(l.length:Int):=by omega
    have hz1:=zK a0
    have hz2:=zK b0
    simp only at hz1 hz2
    have HR1:=zh hr1
    have HR2:=zh hr2
    have HX:=zh (HI.out l[k] (List.getElem_mem hlt))
    clear hr1 hr2
    by_cases he:l[k]=m[k]
    ·have HQ:=zh (take_eq_of hlt hlt' htk.out he)
     have HD:=zh (decide_eq_true he)
     clear he
     go_wp2_with (go_at_call 102;refine (HX.out m[k] A1 c1 A2 c2 A3 c3 B1 d1 B2 d2 B3 d3 _ (HR1.out.below (zC _ _ _)) (HR2.out.below (zC _ _ _))).mono ?_;rintro e w2 ⟨rfl,hb2⟩;rw[HD.out])
     go_roundw
     case rel=>exact ⟨k+1,by omega,by go_num,HQ.out,zA hbw.out (zI hb2)⟩
     case measure=>simp[intOf];omega
    ·have HQ:=zh (take_ne_of hlt hlt' he)
     have HD:=zh (decide_eq_false he)
     clear he
     go_wp2_with (go_at_call 102;refine (HX.out m[k] A1 c1 A2 c2 A3 c3 B1 d1 B2 d2 B3 d3 _ (HR1.out.below (zC _ _ _)) (HR2.out.below (zC _ _ _))).mono ?_;rintro e w2 ⟨rfl,hb2⟩;rw[HD.out])
     go_ret
     exact ⟨by rw[HQ.out];rfl,zA hbw.out (zI hb2)⟩
   ·have HQ:=zh (take_all hlt HE.out htk.out)
    go_wp2
    go_ret
    exact ⟨by rw[HQ.out];rfl,hbw.out⟩
 ·have hb0:((l.length:Int) != (m.length:Int))=true:=bne_iff_ne.2 (by omega)
  have HQ:=zh (show decide (l=m)=false from decide_eq_false fun e=>hlen (by rw[e]))
  clear hlen
  go_enter Tryz.func122,Tryz.ntmps122
  go_wp2
  go_ret
  exact ⟨by rw[HQ.out];rfl,Below.refl _ _⟩
theorem same_step (x:Val) (ihk:∀z∈x.keys,sameAt z) (ihi:∀z∈x.items,sameAt z):sameAt x:=by
 intro y A1 c1 A2 c2 A3 c3 B1 d1 B2 d2 B3 d3 w hx hy
 have HK:=zh ihk
 have HI:=zh ihi
 have HX:=zh hx
 have HY:=zh hy
 clear ihk ihi hx hy
 by_cases q1:x.kind=y.kind
 case neg =>
  have HD:=zh (val_ne (x:=x) (y:=y) fun h=>q1 h.1)
  have e1:(x.kind==y.kind)=false:=by simpa using q1
  clear q1
  go_enter Tryz.func102,Tryz.ntmps102
  go_wp2
  go_ret
  exact ⟨by rw[HD.out];rfl,zC _ _ _⟩
 have e1:(x.kind==y.kind)=true:=by simpa using q1
 by_cases q2:x.bool=y.bool
 case neg =>
  have HD:=zh (val_ne (x:=x) (y:=y) fun h=>q2 h.2.1)
  have e2:(x.bool==y.bool)=false:=by simpa using q2
  clear q1 q2
  go_enter Tryz.func102,Tryz.ntmps102
  go_wp2
  go_ret
  exact ⟨by rw[HD.out];rfl,zC _ _ _⟩
 have e2:(x.bool==y.bool)=true:=by simpa using q2
 by_cases q3:x.int=y.int
 case neg =>
  have HD:=zh (val_ne (x:=x) (y:=y) fun h=>q3 h.2.2.1)
  have e3:(x.int==y.int)=false:=by simpa using q3
  clear q1 q2 q3
  go_enter Tryz.func102,Tryz.ntmps102
  go_wp2
  go_ret
  exact ⟨by rw[HD.out];rfl,zC _ _ _⟩
 have e3:(x.int==y.int)=true:=by simpa using q3
 by_cases q4:x.str=y.str
 case neg =>
  have HD:=zh (val_ne (x:=x) (y:=y) fun h=>q4 h.2.2.2.1)
  have e4:(x.str.toList==y.str.toList)=false:=by rw[zM];exact decide_eq_false q4
  clear q1 q2 q3 q4
  go_enter Tryz.func102,Tryz.ntmps102
  go_wp2
  go_ret
  exact ⟨by rw[HD.out];rfl,zC _ _ _⟩
 have e4:(x.str.toList==y.str.toList)=true:=by rw[zM];exact decide_eq_true q4
 by_cases q5:x.id=y.id
 case neg =>
  have HD:=zh (val_ne (x:=x) (y:=y) fun h=>q5 h.2.2.2.2.1)
  have e5:(x.id==y.id)=false:=by simpa using q5
  clear q1 q2 q3 q4 q5
  go_enter Tryz.func102,Tryz.ntmps102
  go_wp2
  go_ret
  exact ⟨by rw[HD.out];rfl,zC _ _ _⟩
 have e5:(x.id==y.id)=true:=by simpa using q5
 by_cases q6:x.rest=y.rest
 case neg =>
  have HD:=zh (val_ne (x:=x) (y:=y) fun h=>q6 h.2.2.2.2.2.1)
  have H6:=zh (decide_eq_false q6)
  clear q1 q2 q3 q4 q5 q6
  go_enter Tryz.func102,Tryz.ntmps102
  go_wp2_with (go_at_call 121;refine (equalRaws_any x.rest y.rest A3 B3 c3 d3 _ (HX.out.rest.below (zC _ _ _)) (HY.out.rest.below (zC _ _ _))).mono ?_;rintro e w2 ⟨rfl,hb2⟩;rw[H6.out])
  go_ret
  exact ⟨by rw[HD.out];rfl,zI hb2⟩
 have H6:=zh (decide_eq_true q6)
 by_cases q7:x.keys=y.keys
 case neg =>
  have HD:=zh (val_ne (x:=x) (y:=y) fun h=>q7 h.2.2.2.2.2.2.1)
  have H7:=zh (decide_eq_false q7)
  clear q1 q2 q3 q4 q5 q6 q7
  go_enter Tryz.func102,Tryz.ntmps102
  go_wp2_with fail
  refine (equalRaws_any x.rest y.rest A3 B3 c3 d3 _ (HX.out.rest.below (zC _ _ _)) (HY.out.rest.below (zC _ _ _))).mono ?_
  rintro e w2 ⟨rfl,hb2⟩
  rw[H6.out]
  have hc2:=bcell hb2
  have HB2:=zh (zI hb2)
  clear hb2
  go_wp2_with fail
  refine (sames_any x.keys y.keys HK.out A1 B1 c1 d1 _ (HX.out.keys.below HB2.out) (HY.out.keys.below HB2.out)).mono ?_
  rintro e w3 ⟨rfl,hb3⟩
  rw[H7.out]
  go_wp2
  go_ret
  exact ⟨by rw[HD.out];rfl,zA HB2.out hb3⟩
 have H7:=zh (decide_eq_true q7)
 have HD:=zh (show decide (x=y)=decide (x.items=y.items) by
  rw[decide_eq_decide,Val.ext_iff']
  exact ⟨fun h=>h.2.2.2.2.2.2.2,fun h=>⟨q1,q2,q3,q4,q5,q6,q7,h⟩⟩)
 clear q1 q2 q3 q4 q5 q6 q7
 go_enter Tryz.func102,Tryz.ntmps102
 go_wp2_with fail
 refine (equalRaws_any x.rest y.rest A3 B3 c3 d3 _ (HX.out.rest.below (zC _ _ _)) (HY.out.rest.below (zC _ _ _))).mono ?_
 rintro e w2 ⟨rfl,hb2⟩
 rw[H6.out]
 have hc2:=bcell hb2
 have hz2:=hb2.size
 simp at hz2
 have hz2a:w.heap.size<w2.heap.size:=by omega
 have hz2b:w.heap.size+1<w2.heap.size:=by omega
 clear hz2
 have HB2:=zh (zI hb2)
 clear hb2
 go_wp2_with fail
 refine (sames_any x.keys y.keys HK.out A1 B1 c1 d1 _ (HX.out.keys.below HB2.out) (HY.out.keys.below HB2.out)).mono ?_
 rintro e w3 ⟨rfl,hb3⟩
 rw[H7.out]
 have hc3:=bcell hb3
 have HB3:=zh (zA HB2.out hb3)
 clear hb3
 go_wp2_with fail
 refine (sames_any x.items y.items HI.out A2 B2 c2 d2 _ (HX.out.items.below HB3.out) (HY.out.items.below HB3.out)).mono ?_
 rintro e w4 ⟨rfl,hb4⟩
 go_wp2
 go_ret
 exact ⟨by rw[HD.out];rfl,zA HB3.out hb4⟩
mutual
theorem same_all:∀x:Val,sameAt x
 | .mk _ _ _ _ _ ks is _=>same_step _ (same_alls ks) (same_alls is)
theorem same_alls:∀ (l:List Val),∀z∈l,sameAt z
 | [],_,h=>by cases h
 | x::l,z,h=>by
  rcases List.mem_cons.1 h with e|e
  ·rw[e];exact same_all x
  ·exact same_alls l z e
end
def rSameAt (x:Val):Prop:=∀ (y:Val) (A1:Option Addr) (c1:Nat) (A2:Option Addr) (c2:Nat) (A3:Option Addr) (c3:Nat) (B1:Option Addr) (d1:Nat) (B2:Option Addr) (d2:Nat) (B3:Option Addr) (d3:Nat) (w:World),
 ValR w x A1 A2 A3→ValR w y B1 B2 B3→Calls Tryz.prog 95 #[x.v A1 c1 A2 c2 A3 c3,y.v B1 d1 B2 d2 B3 d3] w (SamePost (decide (x=y)) w)
theorem rSames_any (l m:List Val) (ih:∀x∈l,rSameAt x) (A B:Option Addr) (c d:Nat) (w:World) (hl:ValsR w A l) (hm:ValsR w B m) :
  Calls Tryz.prog 117 #[.slice A l.length c,.slice B m.length d] w (SamePost (decide (l=m)) w):=by
 have hn:=hl.1.lt (by omega)
 by_cases hlen:l.length=m.length
 ·rw[←hlen]
  have hb0:((l.length:Int) != (l.length:Int))=false:=by simp
  have HL:=zh hl
  have HM:=zh hm
  have HE:=zh hlen
  have HI:=zh ih
  clear hl hm hlen ih
  go_enter Tryz.func117,Tryz.ntmps117
  go_wp2
  go_loopw [5] (fun i wr=>∃k:Nat,k≤l.length∧i = .int .i64 k∧Hid (l.take k=m.take k)∧Hid (Below w.heap.size w wr)) (fun i _=>l.length - (intOf i).toNat)
  case atStart=>exact ⟨0,by omega,rfl,rfl,Below.refl _ _⟩
  case round =>
   obtain ⟨k,hk,rfl,htk,hbw⟩:=hrel
   by_cases hlt:k<l.length
   ·have hlt':k<m.length:=by have:=HE.out;omega
    obtain ⟨b,o,A1,c1,A2,c2,A3,c3,rfl,hr1,a0,a1,a2,a3,a4,a5,a6,a7⟩:=(HL.out.below hbw.out).at8 hlt
    obtain ⟨b',o',B1,d1,B2,d2,B3,d3,rfl,hr2,b0,b1,b2,b3,b4,b5,b6,b7⟩:=(HM.out.below hbw.out).at8 hlt'
    have h1:(0:Int)≤(k:Int):=by omega
    have h2:(k:Int)<(l.length:Int):=by omega
    have HR1:=zh hr1
    have HR2:=zh hr2
    have HX:=zh (HI.out l[k] (List.getElem_mem hlt))
    clear hr1 hr2
    by_cases he:l[k]=m[k]
    ·have HQ:=zh (take_eq_of hlt hlt' htk.out he)
     have HD:=zh (decide_eq_true he)
     clear he
     go_wp2
     go_still_tail 8,(by kernel_rfl)
     change wpList _ _ _ _ _ wr.drew
     go_wp2_with (go_at_call 95;refine (HX.out m[k] A1 c1 A2 c2 A3 c3 B1 d1 B2 d2 B3 d3 _ (HR1.out.below (zE (Below.refl _ _) 1)) (HR2.out.below (zE (Below.refl _ _) 1))).mono ?_;rintro e w2 ⟨rfl,hb2⟩;rw[HD.out])
     go_roundw
     case rel=>exact ⟨k+1,by omega,by go_num,HQ.out,zA hbw.out (undrew hb2)⟩
     case measure=>simp[intOf];omega
    ·have HQ:=zh (take_ne_of hlt hlt' he)
     have HD:=zh (decide_eq_false he)
     clear he
     go_wp2
     go_still_tail 8,(by kernel_rfl)
     change wpList _ _ _ _ _ wr.drew
     go_wp2_with (go_at_call 95;refine (HX.out m[k] A1 c1 A2 c2 A3 c3 B1 d1 B2 d2 B3 d3 _ (HR1.out.below (zE (Below.refl _ _) 1)) (HR2.out.below (zE (Below.refl _ _) 1))).mono ?_;rintro e w2 ⟨rfl,hb2⟩;rw[HD.out])
     go_ret
     exact ⟨by rw[HQ.out];rfl,zA hbw.out (undrew hb2)⟩
   ·have HQ:=zh (take_all hlt HE.out htk.out)
    go_wp2
    go_ret
    exact ⟨by rw[HQ.out];rfl,hbw.out⟩
 ·have hb0:((l.length:Int) != (m.length:Int))=true:=bne_iff_ne.2 (by omega)
  have HQ:=zh (show decide (l=m)=false from decide_eq_false fun e=>hlen (by rw[e]))
  clear hlen
  go_enter Tryz.func117,Tryz.ntmps117
  go_wp2
  go_ret
  exact ⟨by rw[HQ.out];rfl,Below.refl _ _⟩
theorem rSame_step (x:Val) (ihk:∀z∈x.keys,rSameAt z) (ihi:∀z∈x.items,rSameAt z):rSameAt x:=by
 intro y A1 c1 A2 c2 A3 c3 B1 d1 B2 d2 B3 d3 w hx hy
 have HK:=zh ihk
 have HI:=zh ihi
 have HX:=zh hx
 have HY:=zh hy
 have hn:=hx.rest.1.lt (by omega)
 clear ihk ihi hx hy
 by_cases q1:x.kind=y.kind
 case neg =>
  have HD:=zh (val_ne (x:=x) (y:=y) (fun h=>q1 h.1))
  have e1:(x.kind != y.kind)=true:=by simpa using q1
  clear q1
  go_enter Tryz.func95,Tryz.ntmps95
  go_wp2
  go_ret
  exact ⟨by rw[HD.out];rfl,zC _ _ _⟩
 have e1:(x.kind != y.kind)=false:=by simpa using q1
 by_cases q2:x.bool=y.bool
 case neg =>
  have HD:=zh (val_ne (x:=x) (y:=y) (fun h=>q2 h.2.1))
  have e2:(x.bool==y.bool)=false:=by simpa using q2
  have p2:¬ x.bool=y.bool:=q2
  clear q1 q2
  go_enter Tryz.func95,Tryz.ntmps95
  go_wp2
  go_ret
  exact ⟨by rw[HD.out];rfl,zC _ _ _⟩
 have e2:(x.bool==y.bool)=true:=by simpa using q2
 by_cases q3:x.int=y.int
 case neg =>
  have HD:=zh (val_ne (x:=x) (y:=y) (fun h=>q3 h.2.2.1))
  have e3:(x.int != y.int)=true:=by simpa using q3
  clear q1 q2 q3
  go_enter Tryz.func95,Tryz.ntmps95
  go_wp2
  go_ret
  exact ⟨by rw[HD.out];rfl,zC _ _ _⟩
 have e3:(x.int != y.int)=false:=by simpa using q3
 by_cases q4:x.str=y.str
 case neg =>
  have HD:=zh (val_ne (x:=x) (y:=y) (fun h=>q4 h.2.2.2.1))
  have e4:(x.str.toList==y.str.toList)=false:=by rw[zM,decide_eq_false q4]
  have p4:¬ x.str.toList=y.str.toList:=by simpa using e4
  clear q1 q2 q3 q4
  go_enter Tryz.func95,Tryz.ntmps95
  go_wp2
  go_ret
  exact ⟨by rw[HD.out];rfl,zC _ _ _⟩
 have e4:(x.str.toList==y.str.toList)=true:=by rw[zM,decide_eq_true q4]
 by_cases q5:x.id=y.id
 case neg =>
  have HD:=zh (val_ne (x:=x) (y:=y) (fun h=>q5 h.2.2.2.2.1))
  have e5:(x.id != y.id)=true:=by simpa using q5
  clear q1 q2 q3 q4 q5
  go_enter Tryz.func95,Tryz.ntmps95
  go_wp2
  go_ret
  exact ⟨by rw[HD.out];rfl,zC _ _ _⟩
 have e5:(x.id != y.id)=false:=by simpa using q5
 by_cases q6:x.rest.length=y.rest.length
 case neg =>
  have HD:=zh (val_ne (x:=x) (y:=y) (fun h=>q6 (by rw[h.2.2.2.2.2.1])))
  have e6:((x.rest.length:Int) != (y.rest.length:Int))=true:=bne_iff_ne.2 (by omega)
  clear q1 q2 q3 q4 q5 q6
  go_enter Tryz.func95,Tryz.ntmps95
  go_wp2
  go_ret
  exact ⟨by rw[HD.out];rfl,zC _ _ _⟩
 have HE:=zh q6
 have HQ:=zh (And.intro q1 (And.intro q2 (And.intro q3 (And.intro q4 q5))))
 obtain ⟨n6,hn6⟩:∃n,n=y.rest.length:=⟨_,rfl⟩
 rw[←hn6] at q6
 have e6:((x.rest.length:Int) != (x.rest.length:Int))=false:=by simp
 have HV:Hid (y.v B1 d1 B2 d2 B3 d3 = .agg #[.int .i64 y.kind,.bool y.bool,.int .i64 y.int,.string y.str,.int .i64 y.id,.slice B1 y.keys.length d1,.slice B2 y.items.length d2,.slice B3 x.rest.length d3]):=by show _=_;rw[HE.out]
 rw[HV.out]
 clear q1 q2 q3 q4 q5 q6 hn6
 go_enter Tryz.func95,Tryz.ntmps95
 go_wp2
 go_loopw [5] (fun i wr=>∃k:Nat,k≤x.rest.length∧i = .int .i64 k∧Hid (x.rest.take k=y.rest.take k)∧Hid (Below (World.heap ((w.alloc (x.box A1 c1 A2 c2 A3 c3)).alloc (.cells #[.int .i64 y.kind,.bool y.bool,.int .i64 y.int,.string y.str,.int .i64 y.id,.slice B1 y.keys.length d1,.slice B2 y.items.length d2,.slice B3 x.rest.length d3] 69))).size ((w.alloc (x.box A1 c1 A2 c2 A3 c3)).alloc (.cells #[.int .i64 y.kind,.bool y.bool,.int .i64 y.int,.string y.str,.int .i64 y.id,.slice B1 y.keys.length d1,.slice B2 y.items.length d2,.slice B3 x.rest.length d3] 69)) wr)) (fun i _=>x.rest.length - (intOf i).toNat)
 case atStart=>exact ⟨0,by omega,rfl,rfl,Below.refl _ _⟩
 case round =>
  obtain ⟨k,hk,rfl,htk,hbw⟩:=hrel
  have hc:=bcell hbw.out
  have HB:=zh (zI hbw.out)
  have hz0:=hbw.out.size
  simp at hz0
  have hz1:w.heap.size<wr.heap.size:=by omega
  have hz2:w.heap.size+1<wr.heap.size:=by omega
  clear hz0
  by_cases hlt:k<x.rest.length
  ·have hlt':k<y.rest.length:=by have:=HE.out;omega
   obtain ⟨b,o,rfl,_,a0,a1⟩:=(HX.out.rest.below HB.out).at2 hlt
   obtain ⟨b',o',rfl,_,b0,b1⟩:=(HY.out.rest.below HB.out).at2 hlt'
   have h1:(0:Int)≤(k:Int):=by omega
   have h2:(k:Int)<(x.rest.length:Int):=by omega
   have hcx:=hc w.heap.size 7 (by simp;omega)
   have hcy:=hc (w.heap.size+1) 7 (by simp)
   have hcx':wr.cell? ⟨w.heap.size,7,none⟩=some (.slice (some ⟨b,o,none⟩) x.rest.length c3):=by rw[hcx];go_simp
   have hcy':wr.cell? ⟨w.heap.size+1,7,none⟩=some (.slice (some ⟨b',o',none⟩) x.rest.length d3):=by rw[hcy];go_simp
   clear hcx hcy hc
   by_cases he:x.rest[k]=y.rest[k]
   ·have heq:∀w,(binOp .neq 124 (.agg #[.int .i64 (x.rest[k]).id,.string (x.rest[k]).data]) (.agg #[.int .i64 (y.rest[k]).id,.string (y.rest[k]).data])).run Tryz.prog w = .ok (.bool false) w:=fun w=>by rw[run_neq_raw,decide_eq_true ((RawD.ext_iff' _ _).2 he)];rfl
    have HT:=zh (take_eq_of hlt hlt' htk.out he)
    clear he
    go_wp2
    go_quiet (fail)
    go_wp2
    go_roundw
    case rel=>exact ⟨k+1,by omega,by go_num,HT.out,zE hbw.out _⟩
    case measure=>simp[intOf];omega
   ·have heq:∀w,(binOp .neq 124 (.agg #[.int .i64 (x.rest[k]).id,.string (x.rest[k]).data]) (.agg #[.int .i64 (y.rest[k]).id,.string (y.rest[k]).data])).run Tryz.prog w = .ok (.bool true) w:=fun w=>by rw[run_neq_raw,decide_eq_false (fun e=>he ((RawD.ext_iff' _ _).1 e))];rfl
    have HD:=zh (val_ne (x:=x) (y:=y) fun h=>by have:=take_ne_of hlt hlt' he;rw[decide_eq_true h.2.2.2.2.2.1] at this;cases this)
    clear he
    go_wp2
    go_quiet (fail)
    go_wp2
    go_ret
    exact ⟨by rw[HD.out];rfl,zE HB.out _⟩
  ·have HT:=zh (of_decide_eq_true (take_all hlt HE.out htk.out))
   by_cases q7:x.keys=y.keys
   ·have H7:=zh (decide_eq_true q7)
    have HD:=zh (show decide (x=y)=decide (x.items=y.items) by
     rw[decide_eq_decide,Val.ext_iff']
     obtain ⟨q1,q2,q3,q4,q5⟩:=HQ.out
     exact ⟨fun h=>h.2.2.2.2.2.2.2,fun h=>⟨q1,q2,q3,q4,q5,HT.out,q7,h⟩⟩)
    clear q7
    go_wp2_with fail
    refine (rSames_any x.keys y.keys HK.out A1 B1 c1 d1 _ (HX.out.keys.below HB.out) (HY.out.keys.below HB.out)).mono ?_
    rintro e w3 ⟨rfl,hb3⟩
    rw[H7.out]
    have hc3:=bcell hb3
    have HB3:=zh (zA HB.out hb3)
    clear hb3
    go_wp2_with fail
    refine (rSames_any x.items y.items HI.out A2 B2 c2 d2 _ (HX.out.items.below HB3.out) (HY.out.items.below HB3.out)).mono ?_
    rintro e w4 ⟨rfl,hb4⟩
    go_wp2
    go_ret
    exact ⟨by rw[HD.out];rfl,zA HB3.out hb4⟩
   ·have H7:=zh (decide_eq_false q7)
    have HD:=zh (val_ne (x:=x) (y:=y) fun h=>q7 h.2.2.2.2.2.2.1)
    clear q7
    go_wp2_with fail
    refine (rSames_any x.keys y.keys HK.out A1 B1 c1 d1 _ (HX.out.keys.below HB.out) (HY.out.keys.below HB.out)).mono ?_
    rintro e w3 ⟨rfl,hb3⟩
    rw[H7.out]
    go_wp2
    go_ret
    exact ⟨by rw[HD.out];rfl,zA HB.out hb3⟩
mutual
theorem rSame_all:∀x:Val,rSameAt x
 | .mk _ _ _ _ _ ks is _=>rSame_step _ (rSame_alls ks) (rSame_alls is)
theorem rSame_alls:∀ (l:List Val),∀z∈l,rSameAt z
 | [],_,h=>by cases h
 | x::l,z,h=>by
  rcases List.mem_cons.1 h with e|e
  ·rw[e];exact rSame_all x
  ·exact rSame_alls l z e
end
theorem mem_ext (x y:MemD):x=y↔(x.id=y.id∧x.name=y.name∧x.type=y.type∧x.critical=y.critical∧x.hasDef=y.hasDef∧x.dflt=y.dflt):=by
 constructor
 ·rintro rfl;simp
 ·intro h;cases x;cases y;simp_all
theorem mem_ne {x y:MemD} (h:¬ (x.id=y.id∧x.name=y.name∧x.type=y.type∧x.critical=y.critical∧x.hasDef=y.hasDef∧x.dflt=y.dflt)):decide (x=y)=false:=decide_eq_false fun e=>h ((mem_ext x y).1 e)
theorem ty_ext (x y:TyD):x=y↔(x.kind=y.kind∧x.name=y.name∧x.low=y.low∧x.high=y.high∧x.max=y.max∧x.key=y.key∧x.elem=y.elem∧x.open_=y.open_∧x.syms=y.syms∧x.mems=y.mems):=by
 constructor
 ·rintro rfl;simp
 ·intro h;cases x;cases y;simp_all
theorem ty_ne {x y:TyD} (h:¬ (x.kind=y.kind∧x.name=y.name∧x.low=y.low∧x.high=y.high∧x.max=y.max∧x.key=y.key∧x.elem=y.elem∧x.open_=y.open_∧x.syms=y.syms∧x.mems=y.mems)):decide (x=y)=false:=decide_eq_false fun e=>h ((ty_ext x y).1 e)
theorem equal1_any (x y:MemD) (A1:Option Addr) (c1:Nat) (A2:Option Addr) (c2:Nat) (A3:Option Addr) (c3:Nat) (B1:Option Addr) (d1:Nat) (B2:Option Addr) (d2:Nat) (B3:Option Addr) (d3:Nat) (w:World) (hx:MemR w x A1 A2 A3) (hy:MemR w y B1 B2 B3) :
  Calls Tryz.prog 101 #[x.v A1 c1 A2 c2 A3 c3,y.v B1 d1 B2 d2 B3 d3] w (SamePost (decide (x=y)) w):=by
 have HX:=zh hx
 have HY:=zh hy
 clear hx hy
 by_cases q1:x.id=y.id
 case neg =>
  have HD:=zh (mem_ne (x:=x) (y:=y) (fun h=>q1 (h.1)))
  have e1:(x.id==y.id)=false:=by simpa using q1
  clear q1
  go_enter Tryz.func101,Tryz.ntmps101
  go_wp2
  go_ret
  exact ⟨by rw[HD.out];rfl,zC _ _ _⟩
 have e1:(x.id==y.id)=true:=by simpa using q1
 by_cases q2:x.name=y.name
 case neg =>
  have HD:=zh (mem_ne (x:=x) (y:=y) (fun h=>q2 (h.2.1)))
  have e2:(x.name.toList==y.name.toList)=false:=by rw[zM];exact decide_eq_false q2
  clear q1 q2
  go_enter Tryz.func101,Tryz.ntmps101
  go_wp2
  go_ret
  exact ⟨by rw[HD.out];rfl,zC _ _ _⟩
 have e2:(x.name.toList==y.name.toList)=true:=by rw[zM];exact decide_eq_true q2
 by_cases q3:x.type=y.type
 case neg =>
  have HD:=zh (mem_ne (x:=x) (y:=y) (fun h=>q3 (h.2.2.1)))
  have e3:(x.type==y.type)=false:=by simpa using q3
  clear q1 q2 q3
  go_enter Tryz.func101,Tryz.ntmps101
  go_wp2
  go_ret
  exact ⟨by rw[HD.out];rfl,zC _ _ _⟩
 have e3:(x.type==y.type)=true:=by simpa using q3
 by_cases q4:x.critical=y.critical
 case neg =>
  have HD:=zh (mem_ne (x:=x) (y:=y) (fun h=>q4 (h.2.2.2.1)))
  have e4:(x.critical==y.critical)=false:=by simpa using q4
  clear q1 q2 q3 q4
  go_enter Tryz.func101,Tryz.ntmps101
  go_wp2
  go_ret
  exact ⟨by rw[HD.out];rfl,zC _ _ _⟩
 have e4:(x.critical==y.critical)=true:=by simpa using q4
 by_cases q5:x.hasDef=y.hasDef
 case neg =>
  have HD:=zh (mem_ne (x:=x) (y:=y) (fun h=>q5 (h.2.2.2.2.1)))
  have e5:(x.hasDef==y.hasDef)=false:=by simpa using q5
  clear q1 q2 q3 q4 q5
  go_enter Tryz.func101,Tryz.ntmps101
  go_wp2
  go_ret
  exact ⟨by rw[HD.out];rfl,zC _ _ _⟩
 have e5:(x.hasDef==y.hasDef)=true:=by simpa using q5
 have HD:=zh (show decide (x=y)=decide (x.dflt=y.dflt) by
  rw[decide_eq_decide,mem_ext]
  exact ⟨fun h=>h.2.2.2.2.2,fun h=>⟨q1,q2,q3,q4,q5,h⟩⟩)
 clear q1 q2 q3 q4 q5
 go_enter Tryz.func101,Tryz.ntmps101
 go_wp2_with fail
 refine (same_all x.dflt y.dflt A1 c1 A2 c2 A3 c3 B1 d1 B2 d2 B3 d3 _ (HX.out.dflt.below (zC _ _ _)) (HY.out.dflt.below (zC _ _ _))).mono ?_
 rintro e w2 ⟨rfl,hb2⟩
 go_wp2
 go_ret
 exact ⟨by rw[HD.out];rfl,zI hb2⟩
theorem sameMember_any (x y:MemD) (A1:Option Addr) (c1:Nat) (A2:Option Addr) (c2:Nat) (A3:Option Addr) (c3:Nat) (B1:Option Addr) (d1:Nat) (B2:Option Addr) (d2:Nat) (B3:Option Addr) (d3:Nat) (w:World) (hx:MemR w x A1 A2 A3) (hy:MemR w y B1 B2 B3) :
  Calls Tryz.prog 67 #[x.v A1 c1 A2 c2 A3 c3,y.v B1 d1 B2 d2 B3 d3] w (SamePost (decide (x=y)) w):=by
 have HX:=zh hx
 have HY:=zh hy
 clear hx hy
 by_cases q1:x.id=y.id
 case neg =>
  have HD:=zh (mem_ne (x:=x) (y:=y) (fun h=>q1 (h.1)))
  have e1:(x.id==y.id)=false:=by simpa using q1
  clear q1
  go_enter Tryz.func67,Tryz.ntmps67
  go_wp2
  go_ret
  exact ⟨by rw[HD.out];rfl,zC _ _ _⟩
 have e1:(x.id==y.id)=true:=by simpa using q1
 by_cases q2:x.name=y.name
 case neg =>
  have HD:=zh (mem_ne (x:=x) (y:=y) (fun h=>q2 (h.2.1)))
  have e2:(x.name.toList==y.name.toList)=false:=by rw[zM];exact decide_eq_false q2
  clear q1 q2
  go_enter Tryz.func67,Tryz.ntmps67
  go_wp2
  go_ret
  exact ⟨by rw[HD.out];rfl,zC _ _ _⟩
 have e2:(x.name.toList==y.name.toList)=true:=by rw[zM];exact decide_eq_true q2
 by_cases q3:x.type=y.type
 case neg =>
  have HD:=zh (mem_ne (x:=x) (y:=y) (fun h=>q3 (h.2.2.1)))
  have e3:(x.type==y.type)=false:=by simpa using q3
  clear q1 q2 q3
  go_enter Tryz.func67,Tryz.ntmps67
  go_wp2
  go_ret
  exact ⟨by rw[HD.out];rfl,zC _ _ _⟩
 have e3:(x.type==y.type)=true:=by simpa using q3
 by_cases q4:x.critical=y.critical
 case neg =>
  have HD:=zh (mem_ne (x:=x) (y:=y) (fun h=>q4 (h.2.2.2.1)))
  have e4:(x.critical==y.critical)=false:=by simpa using q4
  clear q1 q2 q3 q4
  go_enter Tryz.func67,Tryz.ntmps67
  go_wp2
  go_ret
  exact ⟨by rw[HD.out];rfl,zC _ _ _⟩
 have e4:(x.critical==y.critical)=true:=by simpa using q4
 by_cases q5:x.hasDef=y.hasDef
 case neg =>
  have HD:=zh (mem_ne (x:=x) (y:=y) (fun h=>q5 (h.2.2.2.2.1)))
  have e5:(x.hasDef==y.hasDef)=false:=by simpa using q5
  clear q1 q2 q3 q4 q5
  go_enter Tryz.func67,Tryz.ntmps67
  go_wp2
  go_ret
  exact ⟨by rw[HD.out];rfl,zC _ _ _⟩
 have e5:(x.hasDef==y.hasDef)=true:=by simpa using q5
 have HD:=zh (show decide (x=y)=decide (x.dflt=y.dflt) by
  rw[decide_eq_decide,mem_ext]
  exact ⟨fun h=>h.2.2.2.2.2,fun h=>⟨q1,q2,q3,q4,q5,h⟩⟩)
 clear q1 q2 q3 q4 q5
 go_enter Tryz.func67,Tryz.ntmps67
 go_wp2_with fail
 refine (rSame_all x.dflt y.dflt A1 c1 A2 c2 A3 c3 B1 d1 B2 d2 B3 d3 _ (HX.out.dflt.below (zC _ _ _)) (HY.out.dflt.below (zC _ _ _))).mono ?_
 rintro e w2 ⟨rfl,hb2⟩
 go_wp2
 go_ret
 exact ⟨by rw[HD.out];rfl,zI hb2⟩
end Go.Proofs.YtdfolgmcggdjdaaGreatDoor


