/-
  Walks: symbols and members, in package schema (written by gen_sc4.py).
-/
import Derived.Test.YtdfolgmcggdjdaaGreatDoorQGA2
import Derived.Test.YtdfolgmcggdjdaaGreatDoorQGA1
import Derived.StillTailTactics
import Derived.Lib.ItoaNum
import Derived.Lib.ItoaLen
import Derived.Deep.DeepCutAuto
namespace Go.Proofs.YtdfolgmcggdjdaaGreatDoor
open Go.RowKit
set_option maxHeartbeats 16000000
set_option maxRecDepth 100000
def rSameAt (x:Val):Prop:=∀ (y:Val) (A1:zo) (c1:Nat) (A2:zo) (c2:Nat) (A3:zo) (c3:Nat) (B1:zo) (d1:Nat) (B2:zo) (d2:Nat) (B3:zo) (d3:Nat) (w:World),
 ValR w x A1 A2 A3→ValR w y B1 B2 B3→Calls Tryz.prog 95 #[x.v A1 c1 A2 c2 A3 c3,y.v B1 d1 B2 d2 B3 d3] w (SamePost (decide (x=y)) w)
theorem rSames_any (l m:List Val) (ih:∀x∈l,rSameAt x) (A B:zo) (c d:Nat) (w:World) (hl:ValsR w A l) (hm:ValsR w B m) :
  Calls Tryz.prog 117 #[.slice A l.length c,.slice B m.length d] w (SamePost (decide (l=m)) w):=by
 have hn:=hl.1.lt (by omega)
 by_cases hlen:l.length=m.length
 ·rw[←hlen]
  have hb0:((l.length:Int) != (l.length:Int))=false:=by simp
  have HL:=zh hl;have HM:=zh hm;have HE:=zh hlen;have HI:=zh ih;clear hl hm hlen ih
  go_enter Tryz.func117,Tryz.ntmps117
  go_wp2
  go_loopw [5] (fun i wr=>∃k:Nat,k≤l.length∧i = .int .i64 k∧Hid (l.take k=m.take k)∧Hid (Below w.heap.size w wr)) (fun i _=>l.length - (intOf i).toNat)
  case atStart=>exact ⟨0,by omega,rfl,rfl,Below.refl _ _⟩
  case round =>
   obtain ⟨k,hk,rfl,htk,hbw⟩:=hrel
   by_cases hlt:k<l.length
   ·have hlt':k<m.length:=by have:=HE.out;omega
    obtain ⟨b,o,A1,c1,A2,c2,A3,c3,rfl,hr1,a0,a1,a2,a3,a4,a5,a6,a7⟩:=(HL.out.below hbw.out).at8 hlt;obtain ⟨b',o',B1,d1,B2,d2,B3,d3,rfl,hr2,b0,b1,b2,b3,b4,b5,b6,b7⟩:=(HM.out.below hbw.out).at8 hlt';have h1:(0:Int)≤(k:Int):=by omega
    have h2:(k:Int)<(l.length:Int):=by omega
    have HR1:=zh hr1;have HR2:=zh hr2;have HX:=zh (HI.out l[k] (List.getElem_mem hlt));clear hr1 hr2
    by_cases he:l[k]=m[k]
    ·have HQ:=zh (take_eq_of hlt hlt' htk.out he)
     have HD:=zh (decide_eq_true he);clear he;go_wp2
     go_still_tail 8,(by kernel_rfl)
     change wpList _ _ _ _ _ wr.drew
     go_wp2_with (go_at_call 95;refine (HX.out m[k] A1 c1 A2 c2 A3 c3 B1 d1 B2 d2 B3 d3 _ (HR1.out.below (zC (Below.refl _ _) 1)) (HR2.out.below (zC (Below.refl _ _) 1))).mono ?_;rintro e w2 ⟨rfl,hb2⟩;rw[HD.out])
     go_roundw
     case rel=>exact ⟨k+1,by omega,by go_num,HQ.out,zB hbw.out (undrew hb2)⟩
     case measure=>simp[intOf];omega
    ·have HQ:=zh (take_ne_of hlt hlt' he)
     have HD:=zh (decide_eq_false he);clear he;go_wp2
     go_still_tail 8,(by kernel_rfl)
     change wpList _ _ _ _ _ wr.drew
     go_wp2_with (go_at_call 95;refine (HX.out m[k] A1 c1 A2 c2 A3 c3 B1 d1 B2 d2 B3 d3 _ (HR1.out.below (zC (Below.refl _ _) 1)) (HR2.out.below (zC (Below.refl _ _) 1))).mono ?_;rintro e w2 ⟨rfl,hb2⟩;rw[HD.out])
     go_ret
     exact ⟨by rw[HQ.out];rfl,zB hbw.out (undrew hb2)⟩
   ·have HQ:=zh (take_all hlt HE.out htk.out)
    go_wp2
    go_ret
    exact ⟨by rw[HQ.out];rfl,hbw.out⟩
 ·have hb0:((l.length:Int) != (m.length:Int))=true:=bne_iff_ne.2 (by omega)
  have HQ:=zh (show decide (l=m)=false from decide_eq_false fun e=>hlen (by rw[e]))
  clear hlen
  go_enter Tryz.func117,Tryz.ntmps117
  go_wp2
  go_ret
  exact ⟨by rw[HQ.out];rfl,Below.refl _ _⟩
theorem rSame_step (x:Val) (ihk:∀z∈x.keys,rSameAt z) (ihi:∀z∈x.items,rSameAt z):rSameAt x:=by
 intro y A1 c1 A2 c2 A3 c3 B1 d1 B2 d2 B3 d3 w hx hy
 have HK:=zh ihk;have HI:=zh ihi;have HX:=zh hx;have HY:=zh hy;have hn:=hx.rest.1.lt (by omega)
 clear ihk ihi hx hy
 by_cases q1:x.kind=y.kind
 case neg =>
  have HD:=zh (val_ne (x:=x) (y:=y) (fun h=>q1 h.1))
  have e1:(x.kind != y.kind)=true:=by simpa using q1
  clear q1
  go_enter Tryz.func95,Tryz.ntmps95
  go_wp2
  go_ret
  exact ⟨by rw[HD.out];rfl,zE _ _ _⟩
 have e1:(x.kind != y.kind)=false:=by simpa using q1
 by_cases q2:x.bool=y.bool
 case neg =>
  have HD:=zh (val_ne (x:=x) (y:=y) (fun h=>q2 h.2.1))
  have e2:(x.bool==y.bool)=false:=by simpa using q2
  have p2:¬ x.bool=y.bool:=q2;clear q1 q2
  go_enter Tryz.func95,Tryz.ntmps95
  go_wp2
  go_ret
  exact ⟨by rw[HD.out];rfl,zE _ _ _⟩
 have e2:(x.bool==y.bool)=true:=by simpa using q2
 by_cases q3:x.int=y.int
 case neg =>
  have HD:=zh (val_ne (x:=x) (y:=y) (fun h=>q3 h.2.2.1))
  have e3:(x.int != y.int)=true:=by simpa using q3
  clear q1 q2 q3
  go_enter Tryz.func95,Tryz.ntmps95
  go_wp2
  go_ret
  exact ⟨by rw[HD.out];rfl,zE _ _ _⟩
 have e3:(x.int != y.int)=false:=by simpa using q3
 by_cases q4:x.str=y.str
 case neg =>
  have HD:=zh (val_ne (x:=x) (y:=y) (fun h=>q4 h.2.2.2.1))
  have e4:(x.str.toList==y.str.toList)=false:=by rw[zS,decide_eq_false q4]
  have p4:¬ x.str.toList=y.str.toList:=by simpa using e4
  clear q1 q2 q3 q4
  go_enter Tryz.func95,Tryz.ntmps95
  go_wp2
  go_ret
  exact ⟨by rw[HD.out];rfl,zE _ _ _⟩
 have e4:(x.str.toList==y.str.toList)=true:=by rw[zS,decide_eq_true q4]
 by_cases q5:x.id=y.id
 case neg =>
  have HD:=zh (val_ne (x:=x) (y:=y) (fun h=>q5 h.2.2.2.2.1))
  have e5:(x.id != y.id)=true:=by simpa using q5
  clear q1 q2 q3 q4 q5
  go_enter Tryz.func95,Tryz.ntmps95
  go_wp2
  go_ret
  exact ⟨by rw[HD.out];rfl,zE _ _ _⟩
 have e5:(x.id != y.id)=false:=by simpa using q5
 by_cases q6:x.rest.length=y.rest.length
 case neg =>
  have HD:=zh (val_ne (x:=x) (y:=y) (fun h=>q6 (by rw[h.2.2.2.2.2.1])))
  have e6:((x.rest.length:Int) != (y.rest.length:Int))=true:=bne_iff_ne.2 (by omega)
  clear q1 q2 q3 q4 q5 q6
  go_enter Tryz.func95,Tryz.ntmps95
  go_wp2
  go_ret
  exact ⟨by rw[HD.out];rfl,zE _ _ _⟩
 have HE:=zh q6;have HQ:=zh (And.intro q1 (And.intro q2 (And.intro q3 (And.intro q4 q5))));obtain ⟨n6,hn6⟩:∃n,n=y.rest.length:=⟨_,rfl⟩;rw[←hn6] at q6;have e6:((x.rest.length:Int) != (x.rest.length:Int))=false:=by simp
 have HV:Hid (y.v B1 d1 B2 d2 B3 d3 = .agg #[.int .i64 y.kind,.bool y.bool,.int .i64 y.int,.string y.str,.int .i64 y.id,.slice B1 y.keys.length d1,.slice B2 y.items.length d2,.slice B3 x.rest.length d3]):=by show _=_;rw[HE.out]
 rw[HV.out];clear q1 q2 q3 q4 q5 q6 hn6
 go_enter Tryz.func95,Tryz.ntmps95
 go_wp2
 go_loopw [5] (fun i wr=>∃k:Nat,k≤x.rest.length∧i = .int .i64 k∧Hid (x.rest.take k=y.rest.take k)∧Hid (Below (World.heap ((w.alloc (x.box A1 c1 A2 c2 A3 c3)).alloc (.cells #[.int .i64 y.kind,.bool y.bool,.int .i64 y.int,.string y.str,.int .i64 y.id,.slice B1 y.keys.length d1,.slice B2 y.items.length d2,.slice B3 x.rest.length d3] 69))).size ((w.alloc (x.box A1 c1 A2 c2 A3 c3)).alloc (.cells #[.int .i64 y.kind,.bool y.bool,.int .i64 y.int,.string y.str,.int .i64 y.id,.slice B1 y.keys.length d1,.slice B2 y.items.length d2,.slice B3 x.rest.length d3] 69)) wr)) (fun i _=>x.rest.length - (intOf i).toNat)
 case atStart=>exact ⟨0,by omega,rfl,rfl,Below.refl _ _⟩
 case round =>
  obtain ⟨k,hk,rfl,htk,hbw⟩:=hrel;have hc:=bcell hbw.out;have HB:=zh (zO hbw.out);have hz0:=hbw.out.size;simp at hz0;have hz1:w.heap.size<wr.heap.size:=by omega
  have hz2:w.heap.size+1<wr.heap.size:=by omega
  clear hz0
  by_cases hlt:k<x.rest.length
  ·have hlt':k<y.rest.length:=by have:=HE.out;omega
   obtain ⟨b,o,rfl,_,a0,a1⟩:=(HX.out.rest.below HB.out).at2 hlt;obtain ⟨b',o',rfl,_,b0,b1⟩:=(HY.out.rest.below HB.out).at2 hlt';have h1:(0:Int)≤(k:Int):=by omega
   have h2:(k:Int)<(x.rest.length:Int):=by omega
   have hcx:=hc w.heap.size 7 (by simp;omega)
   have hcy:=hc (w.heap.size+1) 7 (by simp)
   have hcx':wr.cell? ⟨w.heap.size,7,none⟩=some (.slice (some ⟨b,o,none⟩) x.rest.length c3):=by rw[hcx];go_simp
   have hcy':wr.cell? ⟨w.heap.size+1,7,none⟩=some (.slice (some ⟨b',o',none⟩) x.rest.length d3):=by rw[hcy];go_simp
   clear hcx hcy hc
   by_cases he:x.rest[k]=y.rest[k]
   ·have heq:∀w,(binOp .neq 124 (.agg #[.int .i64 (x.rest[k]).id,.string (x.rest[k]).data]) (.agg #[.int .i64 (y.rest[k]).id,.string (y.rest[k]).data])).run Tryz.prog w = .ok (.bool false) w:=fun w=>by rw[run_neq_raw,decide_eq_true ((RawD.ext_iff' _ _).2 he)];rfl
    have HT:=zh (take_eq_of hlt hlt' htk.out he);clear he;go_wp2
    go_quiet (fail)
    go_wp2
    go_roundw
    case rel=>exact ⟨k+1,by omega,by go_num,HT.out,zC hbw.out _⟩
    case measure=>simp[intOf];omega
   ·have heq:∀w,(binOp .neq 124 (.agg #[.int .i64 (x.rest[k]).id,.string (x.rest[k]).data]) (.agg #[.int .i64 (y.rest[k]).id,.string (y.rest[k]).data])).run Tryz.prog w = .ok (.bool true) w:=fun w=>by rw[run_neq_raw,decide_eq_false (fun e=>he ((RawD.ext_iff' _ _).1 e))];rfl
    have HD:=zh (val_ne (x:=x) (y:=y) fun h=>by have:=take_ne_of hlt hlt' he;rw[decide_eq_true h.2.2.2.2.2.1] at this;cases this)
    clear he;go_wp2
    go_quiet (fail)
    go_wp2
    go_ret
    exact ⟨by rw[HD.out];rfl,zC HB.out _⟩
  ·have HT:=zh (of_decide_eq_true (take_all hlt HE.out htk.out))
   by_cases q7:x.keys=y.keys
   ·have H7:=zh (decide_eq_true q7)
    have HD:=zh (show decide (x=y)=decide (x.items=y.items) by
     rw[decide_eq_decide,Val.ext_iff'];obtain ⟨q1,q2,q3,q4,q5⟩:=HQ.out;exact ⟨fun h=>h.2.2.2.2.2.2.2,fun h=>⟨q1,q2,q3,q4,q5,HT.out,q7,h⟩⟩)
    clear q7;go_wp2_with fail;refine (rSames_any x.keys y.keys HK.out A1 B1 c1 d1 _ (HX.out.keys.below HB.out) (HY.out.keys.below HB.out)).mono ?_;rintro e w3 ⟨rfl,hb3⟩;rw[H7.out];have hc3:=bcell hb3;have HB3:=zh (zB HB.out hb3);clear hb3;go_wp2_with fail;refine (rSames_any x.items y.items HI.out A2 B2 c2 d2 _ (HX.out.items.below HB3.out) (HY.out.items.below HB3.out)).mono ?_;rintro e w4 ⟨rfl,hb4⟩
    go_wp2
    go_ret
    exact ⟨by rw[HD.out];rfl,zB HB3.out hb4⟩
   ·have H7:=zh (decide_eq_false q7)
    have HD:=zh (val_ne (x:=x) (y:=y) fun h=>q7 h.2.2.2.2.2.2.1)
    clear q7;go_wp2_with fail;refine (rSames_any x.keys y.keys HK.out A1 B1 c1 d1 _ (HX.out.keys.below HB.out) (HY.out.keys.below HB.out)).mono ?_;rintro e w3 ⟨rfl,hb3⟩;rw[H7.out];go_wp2;go_ret;exact ⟨by rw[HD.out];rfl,zB HB.out hb3⟩
mutual
theorem rSame_all:∀x:Val,rSameAt x
 | .mk _ _ _ _ _ ks is _=>rSame_step _ (rSame_alls ks) (rSame_alls is)
theorem rSame_alls:∀ (l:List Val),∀z∈l,rSameAt z
 | [],_,h=>by cases h
 | x::l,z,h=>by
  rcases List.mem_cons.1 h with e|e
  ·rw[e];exact rSame_all x
  ·exact rSame_alls l z e
end
def idB (b n:Int):Bool:=decide (b<n)&&decide (1≤n)&&decide (n≤1000)
theorem rId_any (b n : Int) (w : World) : Calls Tryz.prog 133 #[.int .i64 b, .int .i64 n] w fun e w' => e = .returned (.bool (idB b n)) ∧ w = w' := by
  by_cases h1 : b < n <;> by_cases h2 : 1 ≤ n <;> by_cases h3 : n ≤ 1000
  all_goals first
    | (exfalso; omega)
    | (have HL := zh (show idB b n = _ by unfold idB; simp only [h1, h2, h3]; rfl)
       go_enter Tryz.func133, Tryz.ntmps133
       go_wp2
       go_ret
       exact ⟨by rw [HL.out]; rfl, rfl⟩)
theorem rNamed_any (n:Int) (w:World):Calls Tryz.prog 22 #[.int .i64 n] w fun e w'=>e = .returned (.bool (zL n))∧w=w':=by
 by_cases h1:n=4
 ·subst h1
  go_enter Tryz.func22,Tryz.ntmps22
  go_wp2
  go_ret
  exact ⟨rfl,rfl⟩
 by_cases h2:n=5
 ·subst h2
  go_enter Tryz.func22,Tryz.ntmps22
  go_wp2
  go_ret
  exact ⟨rfl,rfl⟩
 by_cases h3:n=6
 ·subst h3
  go_enter Tryz.func22,Tryz.ntmps22
  go_wp2
  go_ret
  exact ⟨rfl,rfl⟩
 have HL:=zh (show zL n=false by simp[zL,h1,h2,h3])
 have e1:(n==4)=false:=by simp[h1]
 have e2:(n==5)=false:=by simp[h2]
 have e3:(n==6)=false:=by simp[h3]
 clear h1 h2 h3
 go_enter Tryz.func22,Tryz.ntmps22
 go_wp2
 go_ret
 exact ⟨by rw[HL.out];rfl,rfl⟩
theorem rKeyKind_any (n : Int) (w : World) : Calls Tryz.prog 57 #[.int .i64 n] w fun e w' => e = .returned (.bool (keyKind n)) ∧ w = w' := by
  by_cases h2 : 1 ≤ n <;> by_cases h3 : n ≤ 4
  all_goals
    (have HL := zh (show keyKind n = _ by unfold keyKind; simp only [h2, h3]; rfl)
     go_enter Tryz.func57, Tryz.ntmps57
     go_wp2
     go_ret
     exact ⟨by rw [HL.out]; rfl, rfl⟩)
theorem prevI_next {L:List (Int×ByteArray)} {k:Nat} (hk:k<L.length):prevI L (k+1)=(L[k]).1:=by
 unfold prevI;rw[if_neg (by omega),Nat.add_sub_cancel,List.getD_eq_getElem?_getD,zl hk];rfl
theorem ids_stop_id {L:List (Int×ByteArray)} {k:Nat} (hk:k<L.length) (h:idB (prevI L k) (L[k]).1=false):idsD L=false:=by
 refine ids_stop hk ?_;unfold idB at h;simp only[Bool.and_eq_false_iff,decide_eq_false_iff_not] at h ⊢
 omega
theorem ids_stop_name {L:List (Int×ByteArray)} {k:Nat} (hk:k<L.length) (h:nameB (L[k]).2=false):idsD L=false:=ids_stop hk (by rw[h];simp)
theorem ids_stop_dup {L:List (Int×ByteArray)} {k j:Nat} (hk:k<L.length) (hj:j<k) (h:(L[j]'(by omega)).2=(L[k]).2):idsD L=false:=by
 refine ids_stop hk ?_;have:memD (L[k]).2 ((L.take k).map (·.2))=true:=by
  rw[memD_iff,←h];refine List.mem_map.2 ⟨L[j]'(by omega),?_,rfl⟩
  rw[List.mem_take_iff_getElem];exact ⟨j,by omega,rfl⟩
 rw[this];simp
theorem ids_more {L:List (Int×ByteArray)} {k:Nat} (hk:k<L.length) (h0:idsOk 0 [] (L.take k)=true) (h1:idB (prevI L k) (L[k]).1=true) (h2:nameB (L[k]).2=true) (h3:∀j (hj:j<k),(L[j]'(by omega)).2≠(L[k]).2):idsOk 0 [] (L.take (k+1))=true:=by
 refine ids_go hk h0 ?_;have hm:memD (L[k]).2 ((L.take k).map (·.2))=false:=by
  cases hm:memD (L[k]).2 ((L.take k).map (·.2)) with
  | false=>rfl
  | true =>
   rw[memD_iff] at hm;obtain ⟨x,hx,hxe⟩:=List.mem_map.1 hm;rw[List.mem_take_iff_getElem] at hx;obtain ⟨j,hj,rfl⟩:=hx;exact absurd hxe (h3 j (by omega))
 unfold idB at h1;rw[hm,h2];simp only[Bool.and_eq_true,decide_eq_true_eq] at h1;simp;omega
theorem rSyms_any (l:List SymD) (A:zo) (c:Nat) (w:World) (hl:SymsR w A l) :
  Calls Tryz.prog 110 #[.slice A l.length c] w (SamePost (symsD l) w):=by
 have hn:=hl.1.lt (by omega)
 have HL:=zh hl;clear hl;obtain ⟨L,hL⟩:∃L,L=l.map fun s=>(s.id,s.name):=⟨_,rfl⟩
 have HLL:Hid (L.length=l.length):=by rw[hL,List.length_map];exact rfl
 have HG:Hid (∀k (h:k<l.length) (h':k<L.length),L[k]=((l[k]).id,(l[k]).name)):=fun k h h'=>by simp[hL]
 have HSD:Hid (symsD l=(idsD L&&decide (l≠[]))):=by rw[hL];rfl
 clear hL
 go_enter Tryz.func110,Tryz.ntmps110
 go_wp2
 go_loopw [4,3] (fun i b wr=>∃k:Nat,k≤l.length∧i = .int .i64 k∧b = .int .i64 (prevI L k)∧Hid (idsOk 0 [] (L.take k)=true∧Below w.heap.size w wr)) (fun i _ _=>l.length - (intOf i).toNat)
 case atStart=>exact ⟨0,by omega,rfl,rfl,rfl,Below.refl _ _⟩
 case round =>
  obtain ⟨k,hk,rfl,rfl,hh⟩:=hrel;obtain ⟨wo,rfl⟩:∃wo:World,wo=wr:=⟨_,rfl⟩
  by_cases hlt:k<l.length
  ·have hkL:k<L.length:=by rw[HLL.out];exact hlt
   obtain ⟨b,o,rfl,hsok,a0,a1⟩:=(HL.out.below hh.out.2).at2 hlt;have HSO:=zh hsok;have h1:(0:Int)≤(k:Int):=by omega
   have h2:(k:Int)<(l.length:Int):=by omega
   have HGK:=zh (HG.out k hlt hkL);have HPN:=zh (prevI_next hkL);rw[HGK.out] at HPN;have HS1:=zh (fun h=>ids_stop_id hkL h)
   have HS2:=zh (fun h=>ids_stop_name hkL h)
   have HS3:=zh (fun (j:Nat) (hj:j<k) h=>ids_stop_dup hkL hj h)
   have HMO:=zh (fun a b c=>ids_more hkL hh.out.1 a b c)
   rw[HGK.out] at HS1 HS2 HS3 HMO;clear hsok;obtain ⟨pv,hpv⟩:∃pv,pv=prevI L k:=⟨_,rfl⟩;rw[←hpv] at HS1 HMO ⊢;clear hpv
   cases hid:idB pv (l[k]).id with
   | false =>
    have HI:=zh hid;have HD:=zh (show symsD l=false by rw[HSD.out,HS1.out hid];rfl)
    clear hid;go_wp2_with (go_at_call 133;refine (rId_any _ _ _).mono ?_;rintro e w' ⟨rfl,rfl⟩;rw[HI.out]);go_ret;exact ⟨by rw[HD.out];rfl,hh.out.2⟩
   | true =>
    have HI:=zh hid
    cases hnm:nameB (l[k]).name with
    | false =>
     have HN:=zh hnm;have HD:=zh (show symsD l=false by rw[HSD.out,HS2.out hnm];rfl)
     clear hid hnm;go_wp2_with (first|(go_at_call 133;refine (rId_any _ _ _).mono ?_;rintro e w' ⟨rfl,rfl⟩;rw[HI.out])|(go_at_call 109;refine (zW _ HSO.out _).mono ?_;rintro e w' ⟨rfl,rfl⟩;rw[HN.out]));go_ret;exact ⟨by rw[HD.out];rfl,hh.out.2⟩
    | true =>
     have HN:=zh hnm;clear hid hnm;go_wp2_with (first|(go_at_call 133;refine (rId_any _ _ _).mono ?_;rintro e w' ⟨rfl,rfl⟩;rw[HI.out])|(go_at_call 109;refine (zW _ HSO.out _).mono ?_;rintro e w' ⟨rfl,rfl⟩;rw[HN.out]));have HBO:=zh hh.out.2;clear a0 a1
     go_loopw [5] (fun i wr=>∃j:Nat,j≤k∧i = .int .i64 j∧Hid ((∀q (hq:q<j) (hql:q<l.length),(l[q]).name≠(l[k]).name)∧Below wo.heap.size wo wr)) (fun i _=>k - (intOf i).toNat)
     case atStart=>exact ⟨0,by omega,rfl,(fun q h _=>absurd h (by omega)),Below.refl _ _⟩
     case round =>
      obtain ⟨j,hj,rfl,hq⟩:=hrel;have HBQ:=zh (zB HBO.out hq.out.2)
      by_cases hjk:j<k
      ·have hjl:j<l.length:=by omega
       have hjL:j<L.length:=by omega
       obtain ⟨b1,o1,e1,_,c0,c1⟩:=(HL.out.below HBQ.out).at2 hjl
       injection e1 with e1
       injection e1 with e11 e12
       subst e11;subst e12;obtain ⟨b2,o2,e2,_,d0,d1⟩:=(HL.out.below HBQ.out).at2 hlt
       injection e2 with e2
       injection e2 with e21 e22
       subst e21;subst e22;have g1:(0:Int)≤(j:Int):=by omega
       have g2:(j:Int)<(l.length:Int):=by omega
       by_cases hsame:(l[j]).name=(l[k]).name
       ·have HD:=zh (show symsD l=false by rw[HSD.out,HS3.out j hjk (by rw[HG.out j hjl hjL];exact hsame)];rfl)
        have e5:((l[j]).name.toList==(l[k]).name.toList)=true:=by rw[zS];exact decide_eq_true hsame
        clear hsame;go_wp2
        go_quiet (fail)
        go_wp2
        go_ret
        exact ⟨by rw[HD.out];rfl,zC HBQ.out _⟩
       ·have e5:((l[j]).name.toList==(l[k]).name.toList)=false:=by rw[zS];exact decide_eq_false hsame
        have HNS:=zh hsame;clear hsame;go_wp2
        go_quiet (fail)
        go_wp2
        go_roundw
        case rel =>
         refine ⟨j+1,by omega,by go_num,(fun q hqj hql=>?_),zC hq.out.2 _⟩
         by_cases e:q=j
         ·subst e;exact HNS.out
         ·exact hq.out.1 q (by omega) hql
        case measure=>simp[intOf];omega
      ·have HOK:=zh (HMO.out HI.out HN.out (fun q hqk=>by rw[HG.out q (by omega) (by omega)];exact hq.out.1 q (by omega) (by omega)))
       obtain ⟨b2,o2,e2,_,d0,d1⟩:=(HL.out.below HBQ.out).at2 hlt
       injection e2 with e2
       injection e2 with e21 e22
       subst e21;subst e22;go_wp2;go_roundw
       case rel=>exact ⟨k+1,by omega,by go_num,(by rw[HPN.out]),HOK.out,HBQ.out⟩
       case measure=>simp[intOf];omega
  ·have HOK:Hid (idsD L=decide (L.length≤16)):=by
    have:=hh.out.1;rw[List.take_of_length_le (by rw[HLL.out];omega)] at this
    show _=_
    unfold idsD;rw[this];simp
   by_cases hz:l.length<1
   ·have HD:=zh (show symsD l=false by
     have:l=[]:=List.eq_nil_of_length_eq_zero (by omega)
     rw[HSD.out,this];simp)
    go_wp2
    go_ret
    exact ⟨by rw[HD.out];rfl,hh.out.2⟩
   ·have hz':1≤l.length:=by omega
    have HD:=zh (show symsD l=decide (l.length≤16) by
     have:l≠[]:=fun e=>by rw[e] at hz;simp at hz
     rw[HSD.out,HOK.out,HLL.out];simp[this])
    go_wp2
    go_ret
    refine ⟨?_,hh.out.2⟩;rw[HD.out];simp;try omega
theorem prNamed_any (n:Int) (w:World):Calls Tryz.prog 31 #[.int .i64 n] w fun e w'=>e = .returned (.bool (zL n))∧w=w':=by
 by_cases h1:n=4
 ·subst h1
  go_enter Tryz.func31,Tryz.ntmps31
  go_wp2
  go_ret
  exact ⟨rfl,rfl⟩
 by_cases h2:n=5
 ·subst h2
  go_enter Tryz.func31,Tryz.ntmps31
  go_wp2
  go_ret
  exact ⟨rfl,rfl⟩
 by_cases h3:n=6
 ·subst h3
  go_enter Tryz.func31,Tryz.ntmps31
  go_wp2
  go_ret
  exact ⟨rfl,rfl⟩
 have HL:=zh (show zL n=false by simp[zL,h1,h2,h3])
 have e1:(n==4)=false:=by simp[h1]
 have e2:(n==5)=false:=by simp[h2]
 have e3:(n==6)=false:=by simp[h3]
 clear h1 h2 h3
 go_enter Tryz.func31,Tryz.ntmps31
 go_wp2
 go_ret
 exact ⟨by rw[HL.out];rfl,rfl⟩
theorem strs_new (w:World) (l:List ByteArray) (hl:l.length≤1000) (hs:∀s∈l,SOk s):StrsR (w.alloc (.cells (l.map Value.string).toArray 9)) (some ⟨w.heap.size,0,none⟩) l:=by
 refine ⟨by unfold Lim;omega,fun _=>⟨_,_,rfl,fun i x hx=>⟨encS x,⟨hs x (List.mem_of_getElem? hx),rfl⟩,fun j u hj=>?_⟩⟩⟩
 have hj0:j=0:=by
  have:=(List.getElem?_eq_some_iff.1 hj).1;unfold encS at this;simp at this;omega
 subst hj0;have hu:u = .string x:=by unfold encS at hj;simpa using hj.symm
 subst hu;rw[cell_of_row _ _ _ _ _ _ (heap_alloc_new w _)];simp[hx]
theorem indexS_any (l:List ByteArray) (n:ByteArray) (A:zo) (c:Nat) (w:World) (hl:StrsR w A l) :
  Calls Tryz.prog 114 #[.slice A l.length c,.string n] w fun e w'=>∃k:Int,e = .returned (.int .i64 k)∧decide (0≤k)=memD n l∧w=w':=by
 have hn:=hl.1.lt (by omega)
 have HL:=zh hl;clear hl
 go_enter Tryz.func114,Tryz.ntmps114
 go_wp2
 go_loop [5,8] (fun _ i=>∃k:Nat,k≤l.length∧i = .int .i64 k∧Hid (∀j (hj:j<l.length),j<k→l[j]≠n)) (fun _ i=>l.length - (intOf i).toNat)
 case atStart=>exact ⟨0,by omega,rfl,fun j _ h=>absurd h (by omega)⟩
 case round =>
  obtain ⟨k,hk,rfl,hh⟩:=hrel
  by_cases hlt:k<l.length
  ·obtain ⟨b,o,rfl,_,c0⟩:=HL.out.at1 hlt
   have h1:(0:Int)≤(k:Int):=by omega
   have h2:(k:Int)<(l.length:Int):=by omega
   by_cases he:n=l[k]
   ·have HD:Hid (memD n l=true):=memD_iff.2 (he▸List.getElem_mem hlt)
    have heq:(n.toList==(l[k]).toList)=true:=by rw[zS];simp[he]
    clear he;go_wp2;go_ret;exact ⟨k,rfl,by rw[HD.out];simp,rfl⟩
   ·have HN:=zh he
    have heq:(n.toList==(l[k]).toList)=false:=by rw[zS];simp[he]
    clear he;go_wp2
    go_round
    case rel =>
     refine ⟨k+1,by omega,by go_num,fun j hj hjk=>?_⟩
     by_cases e:j=k
     ·subst e;exact fun e=>HN.out e.symm
     ·exact hh.out j hj (by omega)
    case measure=>simp[intOf];omega
  ·have HD:Hid (memD n l=false):=by
    cases h:memD n l with
    | false=>rfl
    | true =>
     obtain ⟨j,hj,e⟩:=List.getElem_of_mem (memD_iff.1 h);exact absurd e (hh.out j hj (by omega))
   go_wp2
   go_ret
   exact ⟨-1,rfl,by rw[HD.out];rfl,rfl⟩
theorem containsS_any (l:List ByteArray) (n:ByteArray) (A:zo) (c:Nat) (w:World) (hl:StrsR w A l) :
  Calls Tryz.prog 90 #[.slice A l.length c,.string n] w fun e w'=>e = .returned (.bool (memD n l))∧w=w':=by
 have HL:=zh hl;clear hl
 go_enter Tryz.func90,Tryz.ntmps90
 go_wp2_with fail
 refine (indexS_any l n A c _ HL.out).mono ?_;rintro e w1 ⟨k,rfl,hk,rfl⟩;have HK:=zh hk;clear hk;go_wp2;go_ret;exact ⟨by rw[←HK.out];simp,rfl⟩
theorem words_ok:∀s∈wordsB,SOk s:=by
 intro s hs
 unfold wordsB at hs;simp only[List.mem_cons,List.mem_nil_iff,or_false] at hs;unfold SOk
 rcases hs with rfl|rfl|rfl|rfl|rfl|rfl <;> decide
theorem word_any (n:ByteArray) (w:World):Calls Tryz.prog 61 #[.string n] w fun e w'=>e = .returned (.bool (wordD n))∧Below w.heap.size w w':=by
 go_enter Tryz.func61,Tryz.ntmps61
 go_wp2_with fail
 refine (containsS_any wordsB n (some ⟨w.heap.size,0,none⟩) 6 _ (strs_new w wordsB (by decide) words_ok)).mono ?_
 rintro e w1 ⟨rfl,rfl⟩;go_wp2;go_ret;exact ⟨rfl,zD _ _⟩
theorem rWords_any (w:World):Calls Tryz.prog 112 #[] w fun e w'=>e = .returned (.slice (some ⟨w.heap.size,0,none⟩) 6 6)∧StrsR w' (some ⟨w.heap.size,0,none⟩) wordsB∧Below w.heap.size w w':=by
 go_enter Tryz.func112,Tryz.ntmps112
 go_wp2
 go_ret
 exact ⟨rfl,strs_new w wordsB (by decide) words_ok,zD _ _⟩
theorem rWord_any (n:ByteArray) (w:World):Calls Tryz.prog 85 #[.string n] w fun e w'=>e = .returned (.bool (wordD n))∧Below w.heap.size w w':=by
 go_enter Tryz.func85,Tryz.ntmps85
 go_wp2
 go_loopw [3] (fun i wr=>∃k:Nat,k≤6∧i = .int .i64 k∧Hid ((∀j (hj:j<wordsB.length),j<k→wordsB[j]≠n)∧Below w.heap.size w wr)) (fun i _=>6 - (intOf i).toNat)
 case atStart=>exact ⟨0,by omega,rfl,(fun j _ h=>absurd h (by omega)),Below.refl _ _⟩
 case round =>
  obtain ⟨k,hk,rfl,hh⟩:=hrel;obtain ⟨wk,rfl⟩:∃wk:World,wk=wr:=⟨_,rfl⟩;have HN:=zh hh.out.1;have HB:=zh hh.out.2;clear hh;go_wp2_with fail;refine (rWords_any _).mono ?_;rintro e w1 ⟨rfl,_,hb1⟩;have HB1:=zh (zB HB.out hb1);clear hb1
  by_cases hlt:k<6
  ·have hk6:k<wordsB.length:=hlt
   have h1:(0:Int)≤(k:Int):=by omega
   have h2:(k:Int)<6:=by omega
   go_wp2_with fail
   refine (rWords_any _).mono ?_;rintro e w2 ⟨rfl,hs2,hb2⟩;obtain ⟨b,o,eb,_,c0⟩:=hs2.at1 hk6
   injection eb with eb
   injection eb with eb1 eb2 _
   subst eb1;subst eb2;rw[Nat.zero_add] at c0;have HB2:=zh (zB HB1.out hb2);clear hs2 hb2
   by_cases he:wordsB[k]=n
   ·have HD:Hid (wordD n=true):=memD_iff.2 (he▸List.getElem_mem hk6)
    have heq:((wordsB[k]).toList==n.toList)=true:=by rw[zS];simp[he]
    clear he;go_wp2;go_ret;exact ⟨by rw[HD.out];rfl,HB2.out⟩
   ·have HE:=zh he
    have heq:((wordsB[k]).toList==n.toList)=false:=by rw[zS];simp[he]
    clear he;go_wp2;go_roundw
    case rel =>
     refine ⟨k+1,by omega,by go_num,fun j hj hjk=>?_,HB2.out⟩
     by_cases e:j=k
     ·subst e;exact HE.out
     ·exact HN.out j hj (by omega)
    case measure=>simp[intOf];omega
  ·have HD:Hid (wordD n=false):=by
    show _=_
    cases h:wordD n with
    | false=>rfl
    | true =>
     obtain ⟨j,hj,e⟩:=List.getElem_of_mem (memD_iff.1 h);exact absurd e (HN.out j hj (Nat.lt_of_lt_of_le hj (by show 6≤k;omega)))
   go_wp2
   go_ret
   exact ⟨by rw[HD.out];rfl,HB1.out⟩
theorem has_any (l:List Int) (n:Int) (A:zo) (c:Nat) (w:World) (hl:IntsR w A l) :
  Calls Tryz.prog 82 #[.slice A l.length c,.int .i64 n] w fun e w'=>e = .returned (.bool (memD n l))∧w=w':=by
 have hn:=hl.1.lt (by omega)
 have HL:=zh hl;clear hl
 go_enter Tryz.func82,Tryz.ntmps82
 go_wp2
 go_loop [5] (fun i=>∃k:Nat,k≤l.length∧i = .int .i64 k∧Hid (∀j (hj:j<l.length),j<k→l[j]≠n)) (fun i=>l.length - (intOf i).toNat)
 case atStart=>exact ⟨0,by omega,rfl,fun j _ h=>absurd h (by omega)⟩
 case round =>
  obtain ⟨k,hk,rfl,hh⟩:=hrel
  by_cases hlt:k<l.length
  ·obtain ⟨b,o,rfl,c0⟩:=HL.out.at1 hlt
   have h1:(0:Int)≤(k:Int):=by omega
   have h2:(k:Int)<(l.length:Int):=by omega
   by_cases he:l[k]=n
   ·have HD:Hid (memD n l=true):=memD_iff.2 (he▸List.getElem_mem hlt)
    have heq:(l[k]==n)=true:=by simp[he]
    clear he;go_wp2;go_ret;exact ⟨by rw[HD.out];rfl,rfl⟩
   ·have HN:=zh he
    have heq:(l[k]==n)=false:=by simp[he]
    clear he;go_wp2
    go_round
    case rel =>
     refine ⟨k+1,by omega,by go_num,fun j hj hjk=>?_⟩
     by_cases e:j=k
     ·subst e;exact HN.out
     ·exact hh.out j hj (by omega)
    case measure=>simp[intOf];omega
  ·have HD:Hid (memD n l=false):=by
    show _=_
    cases h:memD n l with
    | false=>rfl
    | true =>
     obtain ⟨j,hj,e⟩:=List.getElem_of_mem (memD_iff.1 h);exact absurd e (hh.out j hj (by omega))
   go_wp2
   go_ret
   exact ⟨by rw[HD.out];rfl,rfl⟩
theorem enc_dig {r:Nat} (h:r<10):Utf8.encode (48+(r:Int))=⟨#[UInt8.ofNat (48+r)]⟩:=by
 match r,h with
 | 0,_=>rfl
 | 1,_=>rfl
 | 2,_=>rfl
 | 3,_=>rfl
 | 4,_=>rfl
 | 5,_=>rfl
 | 6,_=>rfl
 | 7,_=>rfl
 | 8,_=>rfl
 | 9,_=>rfl
theorem dec_lt {n:Nat} (h:n<10):decB (n:Int)=Utf8.encode (48+(n:Int)):=by
 rw[enc_dig h];unfold decB Lib.itoa;rw[if_neg (by omega),Int.toNat_natCast,Lib.decDigits,dif_pos h]
theorem dec_ge {n:Nat} (h:¬ n<10):decB (n:Int)=decB ((n / 10:Nat):Int)++Utf8.encode (48+((n % 10:Nat):Int)):=by
 rw[enc_dig (Nat.mod_lt _ (by omega))]
 unfold decB Lib.itoa;rw[if_neg (by omega),if_neg (by omega),Int.toNat_natCast,Int.toNat_natCast,Lib.decDigits,dif_neg h]
 apply ByteArray.ext
 rw[ByteArray.data_append];simp
theorem dec_neg {n:Nat} (h:1≤n):decB (-(n:Int))=(⟨#[45]⟩:ByteArray)++decB (n:Int):=by
 unfold decB Lib.itoa;rw[if_pos (by omega),if_neg (by omega),Int.natAbs_neg,Int.natAbs_natCast,Int.toNat_natCast]
 apply ByteArray.ext
 rw[ByteArray.data_append];simp
theorem dec_size {n:Nat} (h:n<18446744073709551616):(decB (n:Int)).size≤20:=by
 unfold decB Lib.itoa;rw[if_neg (by omega),Int.toNat_natCast]
 show (Lib.decDigits n).toArray.size≤20
 rw[List.size_toArray,Lib.decDigits_length];exact Lib.nDigits_le20 n (by omega)
theorem enc_size {r:Nat} (h:r<10):(Utf8.encode (48+(r:Int))).size=1:=by rw[enc_dig h];rfl
theorem natural_any:∀ (n:Nat) (w:World),n<18446744073709551616→Calls Tryz.prog 80 #[.int .u64 n] w fun e w'=>e = .returned (.string (decB n))∧w=w':=by
 intro n
 induction n using Nat.strongRecOn with
 | _ n ih =>
 intro w hn
 by_cases h:n<10
 ·have h1:(n:Int)<10:=by omega
  have HD:=zh (dec_lt h)
  go_enter Tryz.func80,Tryz.ntmps80
  go_wp2
  go_ret
  exact ⟨by rw[HD.out];rfl,rfl⟩
 ·have h1:¬ (n:Int)<10:=by omega
  have HD:=zh (dec_ge h);have HI:=zh (ih (n / 10) (by omega) w (by omega))
  obtain ⟨q,hq⟩:∃q,q=n / 10:=⟨_,rfl⟩;obtain ⟨r,hr⟩:∃r,r=n % 10:=⟨_,rfl⟩;have hr10:r<10:=by omega
  have hq2:q<18446744073709551616:=by omega
  have ed1:(n:Int).tdiv 10=(q:Int):=by rw[hq];rfl
  have ed2:(n:Int) / 10=(q:Int):=by omega
  have em1:(n:Int).tmod 10=(r:Int):=by rw[hr];rfl
  have em2:(n:Int) % 10=(r:Int):=by omega
  rw[←hq] at HD HI;rw[←hr] at HD;have hz1:=dec_size hq2;have hz2:=enc_size hr10;have n1:¬ 9223372036854775807<(decB (q:Int)).size+(Utf8.encode (48+(r:Int))).size:=by omega
  have n2:¬ 9223372036854775807<(decB (q:Int)).size+1:=by omega
  clear hz1 hz2;clear ih h hq hr
  go_enter Tryz.func80,Tryz.ntmps80
  go_wp2_with fail
  refine HI.out.mono ?_;rintro e w1 ⟨rfl,rfl⟩;go_wp2;go_ret;exact ⟨by rw[HD.out];rfl,rfl⟩
theorem digits_any (n:Int) (hn:In64 n) (w:World):Calls Tryz.prog 49 #[.int .i64 n] w fun e w'=>e = .returned (.string (decB n))∧w=w':=by
 obtain ⟨hn1,hn2⟩:=hn
 by_cases h:n<0
 ·obtain ⟨m,hm⟩:∃m:Nat,n = -((m:Int)+1):=⟨(-(n+1)).toNat,by omega⟩
  subst hm;have hm2:(m:Int)≤9223372036854775807:=by omega
  have HD:Hid (decB (-((m:Int)+1))=(⟨#[45]⟩:ByteArray)++decB ((m+1:Nat):Int)):=by
   have:=dec_neg (n:=m+1) (by omega)
   rw[show ((m+1:Nat):Int)=(m:Int)+1 by omega] at this ⊢
   exact this
  have e1:-((m:Int)+1)+1 = -(m:Int):=by omega
  have e2:- -(m:Int)=(m:Int):=by omega
  have HI:=zh (natural_any (m+1) w (by omega))
  have e3:((m+1:Nat):Int)=(m:Int)+1:=by omega
  rw[e3] at HI HD;have n1:¬ 9223372036854775807<1+(decB ((m:Int)+1)).size:=by
   have:=dec_size (n:=m+1) (by omega)
   rw[e3] at this;omega
  clear hn1 hn2
  go_enter Tryz.func49,Tryz.ntmps49
  go_wp2_with fail
  refine HI.out.mono ?_;rintro e w1 ⟨rfl,rfl⟩;go_wp2;go_ret;exact ⟨by rw[HD.out];rfl,rfl⟩
 ·obtain ⟨m,rfl⟩:=Int.eq_ofNat_of_zero_le (Int.not_lt.1 h)
  have HI:=zh (natural_any m w (by omega))
  go_enter Tryz.func49,Tryz.ntmps49
  go_wp2_with fail
  refine HI.out.mono ?_;rintro e w1 ⟨rfl,rfl⟩;go_wp2;go_ret;exact ⟨rfl,rfl⟩
def setL (xs:List Value) (o:Nat):List Value→List Value
 | []=>xs
 | v::vs=>setL (xs.set o v) (o+1) vs
theorem setL_get:∀ (vs xs:List Value) (o j:Nat),o+vs.length≤xs.length→(setL xs o vs)[j]? = if o≤j∧j<o+vs.length then vs[j - o]? else xs[j]?
 | [],xs,o,j,_=>by
  rw[setL,if_neg (by simp)]
 | v::vs,xs,o,j,h=>by
  rw[List.length_cons] at h ⊢;rw[setL,setL_get vs _ _ _ (by simp;omega)]
  by_cases h1:o=j
  ·subst h1
   rw[if_neg (by omega),if_pos (by omega),List.getElem?_set_self (by omega)]
   simp
  ·by_cases h2:o+1≤j∧j<o+1+vs.length
   ·rw[if_pos h2,if_pos (by omega),show j - o=(j - (o+1))+1 by omega,List.getElem?_cons_succ]
   ·rw[if_neg h2,if_neg (by omega),List.getElem?_set_ne h1]
theorem flatten_get {k:Nat} (hk:0<k):∀ (css:List (List Value)) (j:Nat),(∀cs∈css,cs.length=k)→css.flatten[j]? = (css[j / k]?).bind (·[j % k]?)
 | [],j,_=>by simp
 | c::r,j,h=>by
  have hc:=h c List.mem_cons_self;rw[List.flatten_cons]
  by_cases hlt:j<k
  ·rw[List.getElem?_append_left (by omega),Nat.div_eq_of_lt hlt,Nat.mod_eq_of_lt hlt];simp
  ·rw[List.getElem?_append_right (by omega),hc,flatten_get hk r _ (fun cs hm=>h cs (List.mem_cons_of_mem _ hm))]
   have e1:j / k=(j - k) / k+1:=by rw[←Nat.sub_add_cancel (Nat.le_of_not_lt hlt),Nat.add_div_right _ hk,Nat.sub_add_cancel (Nat.le_of_not_lt hlt)]
   have e2:j % k=(j - k) % k:=by rw[Nat.mod_eq_sub_mod (Nat.le_of_not_lt hlt)]
   rw[e1,e2,List.getElem?_cons_succ]
theorem setL_flatten {k:Nat} (hk:0<k) (css:List (List Value)) (i:Nat) (cs:List Value) (h:∀cs∈css,cs.length=k) (hc:cs.length=k) (hi:i<css.length):setL css.flatten (i * k) cs=(css.set i cs).flatten:=by
 have h':∀ds∈css.set i cs,ds.length=k:=fun ds hd=>by
  rcases List.mem_or_eq_of_mem_set hd with e|e
  ·exact h ds e
  ·rw[e];exact hc
 have hfit:i * k+cs.length≤css.flatten.length:=by
  rw[flatten_len css h,hc,←Nat.succ_mul];exact Nat.mul_le_mul_right k hi
 apply List.ext_getElem?
 intro j
 rw[setL_get _ _ _ _ hfit,flatten_get hk _ _ h',flatten_get hk _ _ h,hc]
 by_cases e:j / k=i
 ·have h1:i * k≤j:=by rw[←e];exact Nat.div_mul_le_self j k
  have h2:j<i * k+k:=by
   have:=Nat.lt_div_mul_add (a:=j) hk;rw[e] at this;exact this
  have h3:j - i * k=j % k:=by
   have:=Nat.div_add_mod j k;rw[e,Nat.mul_comm] at this;omega
  rw[if_pos ⟨h1,h2⟩,e,List.getElem?_set_self hi,h3];rfl
 ·rw[if_neg,List.getElem?_set_ne (fun h=>e h.symm)]
  rintro ⟨h1,h2⟩;exact e (Nat.div_eq_of_lt_le h1 (by rw[Nat.succ_mul];exact h2))
theorem ownsRow_setCells {base E size n g cap:Nat}:∀ (vs xs:List Value) (o:Nat) (w:World),w.ownsRow base E size (.slice (some ⟨g,0,none⟩) n cap) n xs→(w.setCells g o vs).ownsRow base E size (.slice (some ⟨g,0,none⟩) n cap) n (setL xs o vs)
 | [],_,_,_,h=>h
 | v::vs,xs,o,w,h=>ownsRow_setCells vs (xs.set o v) (o+1) (w.setCell ⟨g,o,none⟩ v) (World.ownsRow.stored h o v).1
theorem below_setsg {B:Nat} {w:World} (g:Nat) (hg:B≤g):∀ (vs:List Value) (o:Nat) (w':World),Below B w w'→Below B w (w'.setCells g o vs)
 | [],_,_,h=>h
 | v::vs,o,_,h=>below_setsg g hg vs (o+1) _ (h.setCell hg v)
theorem size_setCells (g:Nat):∀ (vs:List Value) (o:Nat) (w:World),(w.setCells g o vs).heap.size=w.heap.size
 | [],_,_=>rfl
 | v::vs,o,w=>by rw[World.setCells,size_setCells g vs];simp
theorem yS {g q:Nat} (hq:q≠g):∀ (vs:List Value) (o:Nat) (w:World),(w.setCells g o vs).heap[q]? = w.heap[q]?
 | [],_,_=>rfl
 | v::vs,o,w=>by rw[World.setCells,yS hq vs,heap_setCell_other w ⟨g,o,none⟩ q v hq]
theorem Off.setCells {S:Nat→Prop} {w:World} {P:World→Prop} (h:Off S w P) {g:Nat} (hS:S g) (o:Nat) (vs:List Value):Off S (w.setCells g o vs) P :=
 h.step (by rw[size_setCells];exact Nat.le_refl _) fun q hq _=>yS (fun (e:q=g)=>hq (e▸hS)) vs o w
def RowSt {α:Type} (E k:Nat) (at_:World→α→List Value→Prop) (wr:World) (base H3 H:Nat) (A:zo) (c:Nat) (l:List α) (i:Nat):Prop :=
 ∃css,OwnC E k wr base (.slice A l.length c) css∧css.length=l.length∧(∀cs∈css,cs.length=k)∧(∀g,(Value.slice A l.length c).ownBlock=some g→g<H3) ∧
  ∀m x cs,l[m]? = some x→css[m]? = some cs→(m<i→Off (· < H3) wr fun u=>at_ u x cs)∧(i≤m→Off (H ≤ ·) wr fun u=>at_ u x cs)
section
variable {α:Type} {E k:Nat} {at_:World→α→List Value→Prop} {wr:World} {base H3 H:Nat} {A:zo} {c:Nat} {l:List α} {i:Nat}
theorem RowSt.lt (h:RowSt E k at_ wr base H3 H A c l i) {g:Nat} (hg:(Value.slice A l.length c).ownBlock=some g):base≤g∧g<wr.heap.size∧g<H3:=by
 obtain ⟨css,ho,_,_,hb,_⟩:=h;exact ⟨(World.ownsRow.lt ho g hg).1,(World.ownsRow.lt ho g hg).2,hb g hg⟩
theorem RowSt.below (h:RowSt E k at_ wr base H3 H A c l i) {w':World} (hb:Below wr.heap.size wr w'):RowSt E k at_ w' base H3 H A c l i:=by
 obtain ⟨css,h1,h2,h3,h4,h5⟩:=h;exact ⟨css,h1.below hb,h2,h3,h4,fun m x cs hx hc=>⟨fun hm=>((h5 m x cs hx hc).1 hm).low hb,fun hm=>((h5 m x cs hx hc).2 hm).low hb⟩⟩
theorem RowSt.other (h:RowSt E k at_ wr base H3 H A c l i) {w':World} {g:Nat} (hs:wr.heap.size≤w'.heap.size) (hk:∀q,q≠g→q<wr.heap.size→w'.heap[q]? = wr.heap[q]?) (h1:g<H3) (h2:H≤g) (hne:(Value.slice A l.length c).ownBlock≠some g):RowSt E k at_ w' base H3 H A c l i:=by
 obtain ⟨css,g1,g2,g3,g4,g5⟩:=h;refine ⟨css,g1.keep (fun q _ hq hv=>hk q (fun e=>hne (e▸hv)) hq),g2,g3,g4,fun m x cs hx hc=>⟨fun hm=>?_,fun hm=>?_⟩⟩
 ·exact ((g5 m x cs hx hc).1 hm).step hs fun q hq hl=>hk q (fun e=>hq (e▸h1)) hl
 ·exact ((g5 m x cs hx hc).2 hm).step hs fun q hq hl=>hk q (fun e=>hq (e▸h2)) hl
theorem RowSt.otherCells (h:RowSt E k at_ wr base H3 H A c l i) {g:Nat} (o:Nat) (vs:List Value) (h1:g<H3) (h2:H≤g) (hne:(Value.slice A l.length c).ownBlock≠some g):RowSt E k at_ (wr.setCells g o vs) base H3 H A c l i :=
 h.other (by rw[size_setCells];exact Nat.le_refl _) (fun q hq _=>yS hq vs o wr) h1 h2 hne
theorem RowSt.next (h:RowSt E k at_ wr base H3 H A c l i) (hi:i<l.length):∃g cs,A=some ⟨g,0,none⟩∧base≤g∧g<H3∧cs.length=k∧(Off (H ≤ ·) wr fun u=>at_ u l[i] cs)∧wr.rangeAt g (i * k) cs∧wr.there g (i * k) k:=by
 obtain ⟨css,h1,h2,h3,h4,h5⟩:=h;have hn:css≠[]:=fun e=>by rw[e] at h2;simp at h2;omega
 have hic:i<css.length:=by omega
 obtain ⟨A',c',e,_,_,hr⟩:=OwnL.reads h1;obtain ⟨g,hA,hg,hrange⟩:=hr hn;have hAA:A=A':=by injection e
 subst hAA;subst hA;have hcl:=h3 _ (List.getElem_mem hic);have hrg:wr.rangeAt g (i * k) css[i]:=fun j u hj=>by
  have hj':j<k:=by rw[←hcl];exact (List.getElem?_eq_some_iff.1 hj).1
  rw[flatMap_self] at hrange;have:=hrange (i * k+j) u (by
   rw[flatten_get (by omega) css _ h3,Nat.mul_comm i k,Nat.mul_add_div (by omega),Nat.mul_add_mod,Nat.div_eq_of_lt hj',Nat.mod_eq_of_lt hj',Nat.add_zero,zl hic]
   exact hj)
  rwa [Nat.zero_add] at this
 refine ⟨g,css[i],rfl,hg,h4 g rfl,hcl,(h5 i _ _ (zl hi) (zl hic)).2 (Nat.le_refl _),hrg,fun j hj=>⟨?_,?_⟩⟩
 ·have:=hrg j _ (zl (by rw[hcl];exact hj))
  rw[this];rfl
 ·have hln:css.length=l.length:=h2
  have h1':wr.ownsRow base E k (.slice (some ⟨g,0,none⟩) l.length c) l.length (css.flatMap fun cs=>cs):=by rw[←hln] at h1 ⊢;exact h1
  exact World.ownsRow.frozenAt h1' (i * k+j)
theorem RowSt.there (h:RowSt E k at_ wr base H3 H A c l i) (hi:i<l.length) {g:Nat} (hA:A=some ⟨g,0,none⟩):wr.there g (i * k) k:=by
 obtain ⟨g',cs,e,_,_,_,_,_,ht⟩:=h.next hi;rw[hA] at e
 injection e with e
 injection e with e
 subst e;exact ht
theorem RowSt.write (h:RowSt E k at_ wr base H3 H A c l i) (hi:i<l.length) {g:Nat} (hA:A=some ⟨g,0,none⟩) (hH:H≤base) (hk:0<k) {x:α} {cs:List Value} (hc:cs.length=k) (hx:Off (· < H3) wr fun u=>at_ u x cs):RowSt E k at_ (wr.setCells g (i * k) cs) base H3 H A c (l.set i x) (i+1):=by
 subst hA;have hlt:=h.lt (g:=g) rfl;obtain ⟨css,h1,h2,h3,h4,h5⟩:=h;have hic:i<css.length:=by omega
 refine ⟨css.set i cs,?_,by simp[h2],fun ds hd=>?_,by rw[List.length_set];exact h4,fun m y ds hy hd=>?_⟩
 ·unfold OwnC OwnL at h1 ⊢
  rw[flatMap_self] at h1 ⊢;rw[List.length_set,List.length_set,←setL_flatten hk css i cs h3 hc hic];rw[h2] at h1 ⊢;exact ownsRow_setCells cs css.flatten (i * k) wr h1
 ·rcases List.mem_or_eq_of_mem_set hd with e|e
  ·exact h3 ds e
  ·rw[e];exact hc
 ·by_cases e:m=i
  ·subst e
   rw[List.getElem?_set_self hi] at hy;rw[List.getElem?_set_self hic] at hd;obtain rfl:=Option.some.inj hy;obtain rfl:=Option.some.inj hd;exact ⟨fun _=>hx.setCells hlt.2.2 _ _,fun hm=>absurd hm (by omega)⟩
  ·rw[List.getElem?_set_ne (fun e2=>e e2.symm)] at hy hd
   have:=h5 m y ds hy hd;exact ⟨fun hm=>(this.1 (by omega)).setCells hlt.2.2 _ _,fun hm=>(this.2 (by omega)).setCells (Nat.le_trans hH hlt.1) _ _⟩
theorem RowSt.out (h:RowSt E k at_ wr base H3 H A c l i) (hi:l.length≤i) (hH:H≤H3) (hb:H≤base) {bytes:Nat} (hl:Lim bytes l.length):Off (· < H) wr fun u=>RowsR k bytes (at_ u) u A l:=by
 obtain ⟨css,h1,h2,h3,h4,h5⟩:=h
 intro u hu
 refine ⟨hl,fun hn=>?_⟩
 have hnc:css≠[]:=fun e=>by rw[e] at h2;simp at h2;exact hn (List.eq_nil_of_length_eq_zero h2.symm)
 obtain ⟨A',c',e,_,_,hr⟩:=OwnL.reads h1;obtain ⟨g,hA,hg,hrange⟩:=hr hnc;have hAA:A=A':=by injection e
 subst hAA;refine ⟨g,0,hA,fun m x hx=>?_⟩
 have hml:m<l.length:=(List.getElem?_eq_some_iff.1 hx).1;have hmc:m<css.length:=by omega
 have hcl:=h3 _ (List.getElem_mem hmc);have hglt:g<wr.heap.size:=(World.ownsRow.lt h1 g (by rw[hA];rfl)).2
 refine ⟨css[m],((h5 m x _ hx (zl hmc)).1 (by omega)).mono (fun q _ hq=>by omega) u hu,fun j v hj=>?_⟩
 have hj':j<k:=by rw[←hcl];exact (List.getElem?_eq_some_iff.1 hj).1
 rw[flatMap_self] at hrange;have:=hrange (m * k+j) v (by
  rw[flatten_get (by omega) css _ h3,Nat.mul_comm m k,Nat.mul_add_div (by omega),Nat.mul_add_mod,Nat.div_eq_of_lt hj',Nat.mod_eq_of_lt hj',Nat.add_zero,zl hmc]
  exact hj)
 rw[←Nat.add_assoc] at this;rw[World.cell?_of_block (w:=wr) (w':=u) (a:=⟨g,0+m * k+j,none⟩) (hu g (by omega) hglt)]
 exact this
theorem RowSt.all (h:RowSt E k at_ wr base H3 H A c l i) (ha:∀u u' x cs,at_ u x cs→at_ u' x cs) (j:Nat):RowSt E k at_ wr base H3 H A c l j:=by
 obtain ⟨css,h1,h2,h3,h4,h5⟩:=h;refine ⟨css,h1,h2,h3,h4,fun m x cs hx hc=>?_⟩
 have:∀u,at_ u x cs:=fun u=>by
  by_cases hm:m<i
  ·exact ha _ _ _ _ ((h5 m x cs hx hc).1 hm).out
  ·exact ha _ _ _ _ ((h5 m x cs hx hc).2 (by omega)).out
 exact ⟨fun _ u _=>this u,fun _ u _=>this u⟩
end
abbrev tv (x:TextD):Value := .agg #[.string x.1,.bool x.2.1,.bool x.2.2]
abbrev tbox (x:TextD):Obj := .cells #[.string x.1,.bool x.2.1,.bool x.2.2] 74
abbrev ztext:Obj := .cells #[.string ⟨#[]⟩,.bool false,.bool false] 74
theorem txt_info:(Tryz.prog.info? 74).map (·.size)=some 3:=by kernel_rfl
theorem txt_one (x:TextD):(#[Value.string x.1,.bool x.2.1,.bool x.2.2]).all (·.oneCell')=true:=by simp[Value.oneCell']
theorem yM {w:World} {b:Nat} {x:TextD} (h:w.heap[b]? = some (tbox x)):w.there b 0 3:=fun j hj=>by
 rw[Nat.zero_add];refine ⟨?_,frozen_of_row _ _ _ _ _ h⟩;rw[cell_of_row _ _ _ _ _ _ h]
 match j,hj with
 | 0,_=>rfl
 | 1,_=>rfl
 | 2,_=>rfl
theorem text_set {w:World} {b:Nat} {x:TextD} (h:w.heap[b]? = some (tbox x)) (y:TextD):(w.setCells b 0 [.string y.1,.bool y.2.1,.bool y.2.2]).heap[b]? = some (tbox y):=by
 rw[World.setCells,World.setCells,World.setCells,World.setCells,heap_setCell_same _ _ 2 _ _ _ (heap_setCell_same _ _ 1 _ _ _ (heap_setCell_same _ _ 0 _ _ _ h))]
 rfl
theorem text_cells {w:World} {b:Nat} {x:TextD} (h:w.heap[b]? = some (tbox x)):w.cell? ⟨b,0,none⟩=some (.string x.1)∧w.cell? ⟨b,1,none⟩=some (.bool x.2.1)∧w.cell? ⟨b,2,none⟩=some (.bool x.2.2):=by
 refine ⟨?_,?_,?_⟩ <;> (rw[cell_of_row _ _ _ _ _ _ h];rfl)
theorem joined_any (b m e:ByteArray) (x y:TextD) (w:World) (hz:b.size+x.1.size+m.size+y.1.size+e.size≤100000000000000) :
  Calls Tryz.prog 86 #[.string b,tv x,.string m,tv y,.string e] w fun e' w'=>e' = .returned (tv (joinD b x m y e))∧Below w.heap.size w w':=by
 obtain ⟨s1,w1,c1⟩:=x;obtain ⟨s2,w2,c2⟩:=y;simp only at hz;have n1:¬ 9223372036854775807<b.size+s1.size:=by omega
 have n2:¬ 9223372036854775807<b.size+s1.size+m.size:=by omega
 have n3:¬ 9223372036854775807<b.size+s1.size+m.size+s2.size:=by omega
 have n4:¬ 9223372036854775807<b.size+s1.size+m.size+s2.size+e.size:=by omega
 have HB3:Hid (∀o,Below w.heap.size w (((w.alloc (tbox (s1,w1,c1))).alloc (tbox (s2,w2,c2))).alloc o)):=fun o=>zB (zE w _ _) (zD _ _)
 have HR:Hid (∀z:TextD,(((w.alloc (tbox (s1,w1,c1))).alloc (tbox (s2,w2,c2))).alloc (tbox z)).heap[w.heap.size+1+1]? = some (tbox z)):=fun z=>by
  have:=heap_alloc_new ((w.alloc (tbox (s1,w1,c1))).alloc (tbox (s2,w2,c2))) (tbox z);rw[←this];simp
 clear hz
 cases w1 <;> cases c1
 ·go_enter Tryz.func86,Tryz.ntmps86
  go_wp2_with fail
  obtain ⟨k0,k1,k2⟩:=text_cells (HR.out (joinD b (s1,false,false) m (s2,w2,c2) e));simp only[joinD,Bool.false_or] at k0 k1 k2;refine bodyPost_ret (v:=tv (joinD b (s1,false,false) m (s2,w2,c2) e)) (by simp[results,Tryz.results86,go_sem,k0,k1,k2,joinD]) rfl ⟨rfl,HB3.out _⟩
 ·go_enter Tryz.func86,Tryz.ntmps86
  go_wp2_with fail
  obtain ⟨k0,k1,k2⟩:=text_cells (HR.out (joinD b (s1,false,true) m (s2,w2,c2) e));simp only[joinD,Bool.false_or,Bool.true_or] at k0 k1 k2;refine bodyPost_ret (v:=tv (joinD b (s1,false,true) m (s2,w2,c2) e)) (by simp[results,Tryz.results86,go_sem,k0,k1,k2,joinD]) rfl ⟨rfl,HB3.out _⟩
 ·go_enter Tryz.func86,Tryz.ntmps86
  go_wp2_with fail
  obtain ⟨k0,k1,k2⟩:=text_cells (HR.out (joinD b (s1,true,false) m (s2,w2,c2) e));simp only[joinD,Bool.false_or,Bool.true_or] at k0 k1 k2;refine bodyPost_ret (v:=tv (joinD b (s1,true,false) m (s2,w2,c2) e)) (by simp[results,Tryz.results86,go_sem,k0,k1,k2,joinD]) rfl ⟨rfl,HB3.out _⟩
 ·go_enter Tryz.func86,Tryz.ntmps86
  go_wp2_with fail
  obtain ⟨k0,k1,k2⟩:=text_cells (HR.out (joinD b (s1,true,true) m (s2,w2,c2) e));simp only[joinD,Bool.true_or] at k0 k1 k2;refine bodyPost_ret (v:=tv (joinD b (s1,true,true) m (s2,w2,c2) e)) (by simp[results,Tryz.results86,go_sem,k0,k1,k2,joinD]) rfl ⟨rfl,HB3.out _⟩
theorem ints_newX (w:World) (l:List Int) (hl:l.length≤1000):IntsR (w.alloc (.cells (l.map (Value.int .i64)).toArray 3)) (some ⟨w.heap.size,0,none⟩) l:=by
 refine ⟨by unfold Lim;omega,fun _=>⟨_,_,rfl,fun i x hx=>⟨encI x,rfl,fun j u hj=>?_⟩⟩⟩
 have hj0:j=0:=by
  have:=(List.getElem?_eq_some_iff.1 hj).1;unfold encI at this;simp at this;omega
 subst hj0;have hu:u = .int .i64 x:=by unfold encI at hj;simpa using hj.symm
 subst hu;rw[cell_of_row _ _ _ _ _ _ (heap_alloc_new w _)];simp[hx]
theorem ints_newY {w:World} {g:Nat} (hg:w.heap.size=g) (l:List Int) (hl:l.length≤1000):IntsR (w.alloc (.cells (l.map (Value.int .i64)).toArray 3)) (some ⟨g,0,none⟩) l:=hg▸ints_newX w l hl
theorem ints_nil (w:World):IntsR w none []:=RowsR.nil _ _ _ _ _
theorem inner_any (t:TyD) (As:zo) (cs:Nat) (Am:zo) (cm:Nat) (w:World) :
  Calls Tryz.prog 64 #[t.v As cs Am cm] w fun e w'=>∃A c,e = .returned (.slice A (yD t).length c)∧IntsR w' A (yD t)∧Below w.heap.size w w':=by
 obtain ⟨k,nm,lo,hi,mx,sy,me,ky,el,op⟩:=t
 show Calls Tryz.prog 64 #[.agg #[.int .i64 k,.string nm,.int .i64 lo,.int .i64 hi,.int .i64 mx,.slice As sy.length cs,.slice Am me.length cm,.int .i64 ky,.int .i64 el,.bool op]] w _
 have HB:=zh (fun o o2=>zE w o o2)
 have HB1:=zh (fun o=>zD w o)
 by_cases h7:k=7
 ·subst h7
  go_enter Tryz.func64,Tryz.ntmps64
  go_wp2
  go_ret
  exact ⟨_,_,rfl,ints_newY (w:=w.alloc _) (by simp) [el] (by simp),HB.out _ _⟩
 by_cases h9:k=9
 ·subst h9
  go_enter Tryz.func64,Tryz.ntmps64
  go_wp2
  go_ret
  exact ⟨_,_,rfl,ints_newY (w:=w.alloc _) (by simp) [el] (by simp),HB.out _ _⟩
 by_cases h8:k=8
 ·subst h8
  go_enter Tryz.func64,Tryz.ntmps64
  go_wp2
  go_ret
  exact ⟨_,_,rfl,ints_newY (w:=w.alloc _) (by simp) [ky,el] (by simp),HB.out _ _⟩
 ·have q7:(k==7)=false:=by simp[h7]
  have q8:(k==8)=false:=by simp[h8]
  have q9:(k==9)=false:=by simp[h9]
  have HI:Hid (yD ⟨k,nm,lo,hi,mx,sy,me,ky,el,op⟩=[]):=by
   show _=_
   unfold yD;simp only;rw[if_neg (by omega),if_neg h8]
  clear h7 h8 h9
  go_enter Tryz.func64,Tryz.ntmps64
  go_wp2
  go_ret
  rw[HI.out];exact ⟨_,_,rfl,ints_nil _,HB1.out _⟩
def Num64 (s:List TyD):Prop:=∀t∈s,In64 t.low∧In64 t.high
theorem yE {n:Int} (h:In64 n):(decB n).size≤21:=Lib.itoa_length_le n h.1 h.2
theorem zG (a b:ByteArray):(a++b).size=a.size+b.size:=by simp
section
variable {s:List TyD} {t:Int}
theorem max_rng (hv:zJ s=0) (hr:0≤t∧t<(s.length:Int)):0≤(tyAt s t).max∧(tyAt s t).max≤200:=by
 have h:=(valid_tys hv (tyAt_mem hr)).1;unfold formD at h;simp only[Bool.and_eq_true,decide_eq_true_eq] at h;obtain ⟨⟨⟨⟨h1,h2⟩,h3⟩,h4⟩,h5⟩:=h
 by_cases k3:(tyAt s t).kind=3
 ·unfold caseD at h5
  rw[if_neg (by omega),if_pos k3] at h5
  simpa using h5
 by_cases k7:(tyAt s t).kind=7∨(tyAt s t).kind=8
 ·unfold caseD at h5
  rw[if_neg (by omega),if_neg (by omega),if_neg (by omega),if_neg (by omega),if_neg (by omega),if_pos k7] at h5
  simp only[Bool.and_eq_true,decide_eq_true_eq] at h5
  omega
 ·have:(tyAt s t).max=0:=by
   have hm:=congrArg TyD.max h3;rw[hm];unfold zV
   repeat' split
   all_goals first|rfl|(exfalso;omega)
  omega
theorem max_in (hv:zJ s=0) (hr:0≤t∧t<(s.length:Int)):In64 (tyAt s t).max:=by
 have:=max_rng hv hr;unfold In64;omega
theorem name_le (hv:zJ s=0) (hr:0≤t∧t<(s.length:Int)) (hn:zL (tyAt s t).kind=true):(tyAt s t).name.size≤24:=by
 have h:=(valid_tys hv (tyAt_mem hr)).1;unfold formD at h;simp only[Bool.and_eq_true,decide_eq_true_eq,hn] at h;obtain ⟨⟨⟨_,_⟩,h4⟩,_⟩:=h;have h4:nameB (tyAt s t).name=true:=by simpa using h4
 unfold nameB at h4;simp only[Bool.and_eq_true,decide_eq_true_eq] at h4;exact h4.1.1.2
theorem intT_le (hn:Num64 s) (hr:0≤t∧t<(s.length:Int)):(intT (tyAt s t)).size≤49:=by
 obtain ⟨h1,h2⟩:=hn _ (tyAt_mem hr);have k1:=yE h1;have k2:=yE h2;unfold intT;simp only[zG]
 show 4+_+2+_+1≤49
 omega
theorem limT_le (hv:zJ s=0) (hr:0≤t∧t<(s.length:Int)):(limT (tyAt s t)).size≤24:=by
 have k1:=yE (max_in hv hr);unfold limT;simp only[zG]
 show 2+_+1≤24
 omega
theorem strT_le (hv:zJ s=0) (hr:0≤t∧t<(s.length:Int)):(strT (tyAt s t)).size≤49:=by
 have k1:=yE (max_in hv hr);unfold strT;simp only[zG]
 show 7+_+1≤49
 omega
theorem named_of (h:¬ (tyAt s t).kind=1) (h2:¬ (tyAt s t).kind=2) (h3:¬ (tyAt s t).kind=3) (h7:¬ (tyAt s t).kind=7) (h8:¬ (tyAt s t).kind=8) (h9:¬ (tyAt s t).kind=9) (hk:1≤(tyAt s t).kind∧(tyAt s t).kind≤9):zL (tyAt s t).kind=true:=by
 unfold zL;simp only[Bool.or_eq_true,decide_eq_true_eq]
 omega
theorem use_key_le (hv:zJ s=0) (hn:Num64 s) {u:Int} (hr:0≤u∧u<(s.length:Int)) (hk:1≤(tyAt s u).kind∧(tyAt s u).kind≤4):∀ (f:Nat) (path:List Int),(useD s f path u).1.size≤49
 | 0,_=>by unfold useD noT;show 0≤49;omega
 | f+1,path=>by
  unfold useD
  by_cases h4:zL (tyAt s u).kind=true
  ·rw[if_pos h4]
   have:=name_le hv hr h4
   show (tyAt s u).name.size≤49
   omega
  rw[if_neg h4]
  split
  ·show 0≤49;omega
  have hks:(tyAt s u).kind=1∨(tyAt s u).kind=2∨(tyAt s u).kind=3:=by
   have:¬ (tyAt s u).kind=4:=fun e=>h4 (by rw[e];rfl)
   omega
  rcases hks with h|h|h
  ·rw[if_pos h];show 4≤49;omega
  ·rw[if_neg (by omega),if_pos h];exact intT_le hn hr
  ·rw[if_neg (by omega),if_neg (by omega),if_pos h];exact strT_le hv hr
theorem use_le (hv:zJ s=0) (hn:Num64 s):∀ (f:Nat) (path:List Int) (t:Int),(0≤t∧t<(s.length:Int))→(useD s f path t).1.size≤100 * f
 | 0,_,_,_=>by unfold useD noT;show 0≤0;omega
 | f+1,path,t,hr=>by
  have hk:=yT hv hr;unfold useD
  by_cases h4:zL (tyAt s t).kind=true
  ·rw[if_pos h4]
   have:=name_le hv hr h4
   show (tyAt s t).name.size≤_
   omega
  rw[if_neg h4]
  split
  ·show 0≤_;omega
  by_cases h1:(tyAt s t).kind=1
  ·rw[if_pos h1];show 4≤_;omega
  rw[if_neg h1]
  by_cases h2:(tyAt s t).kind=2
  ·rw[if_pos h2];have:=intT_le hn hr;show (intT _).size≤_;omega
  rw[if_neg h2]
  by_cases h3:(tyAt s t).kind=3
  ·rw[if_pos h3];have:=strT_le hv hr;show (strT _).size≤_;omega
  rw[if_neg h3];have hl:=limT_le hv hr
  by_cases h7:(tyAt s t).kind=7
  ·rw[if_pos h7]
   have ih:=use_le hv hn f (path++[t]) _ (yP hv hr (.inl h7))
   show (_++_++_++_++_:ByteArray).size≤_
   simp only[zG,noT]
   show 5+_+0+0+_≤_
   omega
  rw[if_neg h7]
  by_cases h8:(tyAt s t).kind=8
  ·rw[if_pos h8]
   have ih:=use_le hv hn f (path++[t]) _ (yP hv hr (.inr (.inl h8)));obtain ⟨k1,k2⟩:=key_rng hv hr h8;have ik:=use_key_le hv hn k1 k2 f (path++[t])
   show (_++_++_++_++_:ByteArray).size≤_
   simp only[zG]
   show 4+_+2+_+_≤_
   omega
  rw[if_neg h8];have h9:(tyAt s t).kind=9:=by
   have k4:¬ (tyAt s t).kind=4:=fun e=>h4 (by rw[e];rfl)
   have k5:¬ (tyAt s t).kind=5:=fun e=>h4 (by rw[e];rfl)
   have k6:¬ (tyAt s t).kind=6:=fun e=>h4 (by rw[e];rfl)
   omega
  have ih:=use_le hv hn f (path++[t]) _ (yP hv hr (.inr (.inr h9)))
  show (_++_++_++_++_:ByteArray).size≤_
  simp only[zG,noT]
  show 9+_+0+0+1≤_
  omega
theorem text_le (hv:zJ s=0) (hn:Num64 s):∀ (f:Nat) (t:Int),(0≤t∧t<(s.length:Int))→finD s f t→(textD s f t).size≤100 * f
 | 0,_,_,h=>h.elim
 | f+1,t,hr,hf=>by
  have hk:=yT hv hr;unfold textD
  by_cases h1:(tyAt s t).kind=1
  ·rw[if_pos h1];show 4≤_;omega
  rw[if_neg h1]
  by_cases h2:(tyAt s t).kind=2
  ·rw[if_pos h2];have:=intT_le hn hr;omega
  rw[if_neg h2]
  by_cases h3:(tyAt s t).kind=3
  ·rw[if_pos h3];have:=strT_le hv hr;omega
  rw[if_neg h3];have hl:=limT_le hv hr
  by_cases h7:(tyAt s t).kind=7
  ·rw[if_pos h7]
   have ih:=text_le hv hn f _ (yP hv hr (.inl h7)) (hf (.inl h7));simp only[zG]
   show 5+_+_≤_
   omega
  rw[if_neg h7]
  by_cases h8:(tyAt s t).kind=8
  ·rw[if_pos h8]
   have ih:=text_le hv hn f _ (yP hv hr (.inr (.inl h8))) (hf (.inr (.inl h8)));obtain ⟨k1,k2⟩:=key_rng hv hr h8;have ik:(textD s f (tyAt s t).key).size≤49:=by
    cases f with
    | zero=>exact (hf (.inr (.inl h8))).elim
    | succ f =>
     unfold textD;have hks:(tyAt s (tyAt s t).key).kind=1∨(tyAt s (tyAt s t).key).kind=2∨(tyAt s (tyAt s t).key).kind=3∨(tyAt s (tyAt s t).key).kind=4:=by omega
     rcases hks with h|h|h|h
     ·rw[if_pos h];show 4≤_;omega
     ·rw[if_neg (by omega),if_pos h];exact intT_le hn k1
     ·rw[if_neg (by omega),if_neg (by omega),if_pos h];exact strT_le hv k1
     ·rw[if_neg (by omega),if_neg (by omega),if_neg (by omega),if_neg (by omega),if_neg (by omega),if_neg (by omega)]
      have:=name_le hv k1 (by rw[h];rfl)
      omega
   simp only[zG]
   show 4+_+2+_+_≤_
   omega
  rw[if_neg h8]
  by_cases h9:(tyAt s t).kind=9
  ·rw[if_pos h9]
   have ih:=text_le hv hn f _ (yP hv hr (.inr (.inr h9))) (hf (.inr (.inr h9)));simp only[zG]
   show 9+_+1≤_
   omega
  ·rw[if_neg h9]
   have:=name_le hv hr (named_of h1 h2 h3 h7 h8 h9 hk)
   omega
end
theorem run_append_none {P:Program} {w:World} (base:Nat) (t ty e:TypeId) (i:TypeInfo) (size:Nat) (ht:P.underlying t=some (.slice e)) (hi:P.info? e=some i)
  (v:Value) (n:Nat) (xs:List Value) (hown:w.ownsRow base e size v n xs) (c:Nat) :
  (Builtin.append_ #[t,t] ty #[v,.slice none 0 c]).run P w = .ok v w:=by
 rcases hown.2 with ⟨rfl,rfl⟩|⟨g,cap,cur,rfl,_,_,hnc,_⟩
 ·simp[Builtin.append_,run_underlying ht,sizeOf,typeInfo,hi,Builtin.lenOf,Builtin.firstCells]
 ·simp[Builtin.append_,run_underlying ht,sizeOf,typeInfo,hi,Builtin.lenOf,Builtin.firstCells,hnc,storeCells]
theorem run_append_e {T E:TypeId} {size bytes:Nat} (hE:Elem T E size bytes) (w:World) (base:Nat) (ty:TypeId) (v:Value) (h:w.ownsRow base E size v 0 []) (css:List (List Value)) (hk:∀cs∈css,cs.length=size) (h1:∀cs∈css,∀u∈cs,u.oneCell'=true) (A:zo) (c:Nat)
  (hA:css≠[]→∃b o,A=some ⟨b,o,none⟩∧w.rangeAt b o css.flatten) (hl:css.length * bytes≤140737488355328) (h63:css.length≤9223372036854775807) (hb:base≤w.heap.size) :
  ∃v' w',(Builtin.append_ #[T,T] ty #[v,.slice A css.length c]).run Tryz.prog w = .ok v' w'∧w'.ownsRow base E size v' css.length css.flatten∧w.grownBy w' v.ownBlock:=by
 cases A with
 | none =>
  have hnil:css=[]:=by
   by_cases e:css=[]
   ·exact e
   ·obtain ⟨b,o,e2,_⟩:=hA e;cases e2
  subst hnil;obtain ⟨z,hinf,hzs⟩:=hE.info;obtain ⟨i0,hi,hz0,hz1,hz2⟩:=info_parts hinf;exact ⟨v,w,run_append_none base T ty E i0 size hE.under hi v 0 [] h c,h,grown_refl _ _⟩
 | some a =>
  obtain ⟨v',w',h2,h3,h4⟩:=run_append_a hE w base ty v 0 [] h a css.length c css.flatten (flatten_len css hk) (fun j u hj=>by
   have hne:css≠[]:=fun e=>by subst e;simp at hj
   obtain ⟨b,o,e,hr⟩:=hA hne
   cases e
   rw[Addr.add_mid];exact hr j u hj) (fun u hu=>by
   obtain ⟨cs,h2,h3⟩:=List.mem_flatten.1 hu;exact h1 cs h2 u h3) (by omega) (by rw[Nat.zero_add];exact hl) hb
  rw[Nat.zero_add,List.nil_append] at h3;exact ⟨v',w',h2,h3,h4⟩
theorem wpList_append_e {T E:TypeId} {size bytes:Nat} (hE:Elem T E size bytes) (w:World) {ops:Array Oper} {rest:List Oper} {op:Oper} {a:Act} {Q:Exit→Act→World→Prop} (hgd:op.guard=none) (s x:Operand)
  (ho:op.op = .call { callee := .builtin .append,args:=#[s,x],argTypes:=#[T,T] }) (base:Nat) (v:Value) (hs:a.eval s=v) (h:w.ownsRow base E size v 0 []) (css:List (List Value)) (n:Nat) (hn:n=css.length) (A:zo) (c:Nat) (hx:a.eval x = .slice A n c)
  (hk:∀cs∈css,cs.length=size) (h1:∀cs∈css,∀u∈cs,u.oneCell'=true) (hA:css≠[]→∃b o,A=some ⟨b,o,none⟩∧w.rangeAt b o css.flatten) (hl:css.length * bytes≤140737488355328) (h63:css.length≤9223372036854775807) (hb:base≤w.heap.size)
  (hq:∀v' w',w'.ownsRow base E size v' css.length css.flatten→w.grownBy w' v.ownBlock→wpList Tryz.prog ops Q rest (a.put op.dst v') w'):wpList Tryz.prog ops Q (op::rest) a w:=by
 subst hn;refine wpList_plain hgd fun K hK=>?_
 obtain ⟨v',w',hr,h2,h3⟩:=run_append_e hE w base op.type v h css hk h1 A c hA hl h63 hb;unfold Oper.wp execOp;simp only[ho,resolve,invoke,builtin,Sem.run_bind,Sem.run_pure,Result.andThen_ok,List.map_toArray,List.map_cons,List.map_nil,hs,hx,hr];exact hK _ _ (hq v' w' h2 h3)
theorem yG {W:World} {b:Nat} {o:Obj} (h:W.heap[b]? = some o) (o2:Obj):(W.alloc o2).heap[b]? = some o :=
 ((zD W o2).block b (zg.1 h).1).trans h
theorem tmp_sz {W:World} {b b':Nat} {o:Obj} (h:W.heap[b]? = some o) (e:b=b'):W.heap[b']? = some o:=e▸h
theorem yR {W:World} {b:Nat} {u:Value} {E:TypeId} {fr:Nat×Nat} (h:W.heap[b]? = some (.cells #[u] E fr)):W.rangeAt b 0 [u]:=fun j v hj=>by
 rw[Nat.zero_add,cell_of_row _ _ _ _ _ _ h]
 simpa using hj
theorem yA {α:Type} {E E2 size:Nat} {enc:α→List Value} {W w':World} {b base:Nat} {cur:Array Value} {fr:Nat×Nat} {v:Value} {l:List α} (h:W.heap[b]? = some (.cells cur E fr)) (h2:OwnL E2 size enc W base v l) (hE:E≠E2) (hg:W.grownBy w' v.ownBlock):w'.heap[b]? = some (.cells cur E fr) :=
 (grown_block hg (zg.1 h).1 fun k hk e=>by
  subst e;obtain ⟨c2,f2,e2⟩:=h2.block hk;rw[h] at e2
  injection e2 with e2
  injection e2 with _ e3
  exact hE e3).trans h
theorem zM {w W:World} (h:Below w.heap.size w W∧w.heap.size≤W.heap.size) (o:Obj):Below w.heap.size w (W.alloc o)∧w.heap.size≤(W.alloc o).heap.size :=
 ⟨h.1.alloc h.2 o,by simp;omega⟩
theorem zX {α:Type} {E size:Nat} {enc:α→List Value} {w W w':World} {v:Value} {l:List α} (h:Below w.heap.size w W∧w.heap.size≤W.heap.size) (h2:OwnL E size enc W w.heap.size v l) (hg:W.grownBy w' v.ownBlock):Below w.heap.size w w'∧w.heap.size≤w'.heap.size :=
 ⟨h.1.grown hg h.2 h2.lt,Nat.le_trans h.2 hg.size⟩
theorem hold_sym {W:World} {b:Nat} {s:SymD} (h:W.heap[b]? = some (.cells #[.int .i64 s.id,.string s.name] 55 (0,0))) :
  (W.cell? ⟨b,0,none⟩=some (.int .i64 s.id)∧W.cell? ⟨b,1,none⟩=some (.string s.name))∧Hid (W.heap[b]? = some (.cells #[.int .i64 s.id,.string s.name] 55 (0,0))) :=
 ⟨⟨by rw[cell_of_row _ _ _ _ _ _ h];rfl,by rw[cell_of_row _ _ _ _ _ _ h];rfl⟩,h⟩
def MBox (W:World) (b:Nat) (m:MemD) (A1:zo) (c1:Nat) (A2:zo) (c2:Nat) (A3:zo) (c3:Nat):Prop:=W.heap[b]? = some (.cells #[.int .i64 m.id,.string m.name,.int .i64 m.type,.bool m.critical,.bool m.hasDef,.int .i64 m.dflt.kind,.bool m.dflt.bool,.int .i64 m.dflt.int,.string m.dflt.str,.int .i64 m.dflt.id,.slice A1 m.dflt.keys.length c1,.slice A2 m.dflt.items.length c2,.slice A3 m.dflt.rest.length c3] 71 (0,0))
theorem MBox.cell {W:World} {b:Nat} {m:MemD} {A1:zo} {c1:Nat} {A2:zo} {c2:Nat} {A3:zo} {c3:Nat} (h:MBox W b m A1 c1 A2 c2 A3 c3) (j:Nat):W.cell? ⟨b,j,none⟩=(#[.int .i64 m.id,.string m.name,.int .i64 m.type,.bool m.critical,.bool m.hasDef,.int .i64 m.dflt.kind,.bool m.dflt.bool,.int .i64 m.dflt.int,.string m.dflt.str,.int .i64 m.dflt.id,.slice A1 m.dflt.keys.length c1,.slice A2 m.dflt.items.length c2,.slice A3 m.dflt.rest.length c3]:Array Value)[j]? := cell_of_row _ _ _ _ _ _ h
theorem yI {W:World} {b:Nat} {m:MemD} {A1:zo} {c1:Nat} {A2:zo} {c2:Nat} {A3:zo} {c3:Nat} (h:MBox W b m A1 c1 A2 c2 A3 c3) :
  (W.cell? ⟨b,0,none⟩=some (.int .i64 m.id)∧W.cell? ⟨b,1,none⟩=some (.string m.name))∧Hid (MBox W b m A1 c1 A2 c2 A3 c3):=⟨⟨h.cell 0,h.cell 1⟩,h⟩
structure RwSt (ids:List Int) (nms:List ByteArray) (w:World) (a b:Value) (wr:World):Prop where
 o1:OwnI wr w.heap.size a ids
 o2:OwnS wr w.heap.size b nms
 bel:Below w.heap.size w wr
theorem SymsR.name_ok {w:World} {A:zo} {l:List SymD} (h:SymsR w A l):∀s∈l,SOk s.name:=fun s hs=>by
 obtain ⟨i,hi,rfl⟩:=List.getElem_of_mem hs;obtain ⟨b,o,_,h1,_⟩:=h.at2 hi;exact h1
theorem MemsR.name_ok {w:World} {A:zo} {l:List MemD} (h:MemsR w A l):∀s∈l,SOk s.name:=fun s hs=>by
 obtain ⟨i,hi,rfl⟩:=List.getElem_of_mem hs;obtain ⟨b,o,A1,c1,A2,c2,A3,c3,_,h1,_⟩:=h.at13 hi;exact h1.name
theorem ids_own {ids:List Int} {nms:List ByteArray} {l:List (Int×ByteArray)} (h1:l.map (·.1)=ids) (h2:l.map (·.2)=nms) {w wr:World} {a b:Value} (hs:RwSt ids nms w a b wr) (hl:Lim 16 l.length) (hok:∀s∈nms,SOk s) :
  Calls Tryz.prog 125 #[a,b] wr (SamePost (idsD l) wr):=by
 subst h1;subst h2;have hl8:Lim 8 l.length:=by unfold Lim at *;omega
 obtain ⟨A,c,rfl,hA⟩:=OwnI.ints hs.o1 (by rw[List.length_map];exact hl8)
 obtain ⟨B,d,rfl,hB⟩:=OwnS.strs hs.o2 (by rw[List.length_map];exact hl) hok
 rw[List.length_map,List.length_map];exact ids_any l A B c d wr hA hB
theorem syms_any (l:List SymD) (A:zo) (c:Nat) (w:World) (hl:SymsR w A l) :
  Calls Tryz.prog 104 #[.slice A l.length c] w (SamePost (symsD l) w):=by
 have hn:=hl.1.lt (by omega)
 have HLM:=zh hl.1;have HL:=zh hl;clear hl
 go_enter Tryz.func104,Tryz.ntmps104
 go_wp2
 go_loopw [9,3,4] (fun i a b wr=>∃k:Nat,k≤l.length∧i = .int .i64 k∧Hid (RwSt ((l.take k).map fun s=>s.id) ((l.take k).map fun s=>s.name) w a b wr)) (fun i _ _ _=>l.length - (intOf i).toNat)
 case atStart=>exact ⟨0,by omega,rfl,OwnL.nil _ _,OwnL.nil _ _,Below.refl _ _⟩
 case round =>
  obtain ⟨k,hk,rfl,hh⟩:=hrel;obtain ⟨wo,rfl⟩:∃wo:World,wo=wr:=⟨_,rfl⟩
  by_cases hlt:k<l.length
  ·obtain ⟨b,o,rfl,hsok,a0,a1⟩:=(HL.out.below hh.out.bel).at2 hlt
   have HT1:Hid ((l.take (k+1)).map (fun s=>s.id)=(l.take k).map (fun s=>s.id)++[(l[k]).id]):=by
    show _=_;rw[List.take_succ_eq_append_getElem hlt,List.map_append];rfl
   have HT2:Hid ((l.take (k+1)).map (fun s=>s.name)=(l.take k).map (fun s=>s.name)++[(l[k]).name]):=by
    show _=_;rw[List.take_succ_eq_append_getElem hlt,List.map_append];rfl
   have HLN:Hid (k+1≤5864062014805):=by have:=HLM.out;unfold Lim at this;show _≤_;omega
   have h1:(0:Int)≤(k:Int):=by omega
   have h2:(k:Int)<(l.length:Int):=by omega
   have hz1:=zN a0;simp only at hz1;have HOA1:=zh (OwnL.alloc hh.out.o1 (l[k]).box);have HOA2:=zh (OwnL.alloc hh.out.o2 (l[k]).box);have HBA:=zh (hh.out.bel.alloc hh.out.bel.size (l[k]).box);have HBS:Hid (w.heap.size≤(wo.alloc (l[k]).box).heap.size):=by have:=hh.out.bel.size;show _≤_;simp;omega
   have HX:=zh (heap_alloc_new wo (l[k]).box);clear hsok;go_wp2_with fail;generalize wo.alloc (l[k]).box=wc at *;refine wp_region_held_drew (S:=(fun w'=>(w'.cell? ⟨wo.heap.size,0,none⟩=some (.int .i64 (l[k]).id)∧w'.cell? ⟨wo.heap.size,1,none⟩=some (.string (l[k]).name))∧Hid (w'.heap[wo.heap.size]? = some (.cells #[.int .i64 (l[k]).id,.string (l[k]).name] 55 (0,0))))) (by kernel_rfl) ?_ (fun zH_=>?_)
   ·(try dsimp only);exact hold_sym (W:=wc.drew) HX.out
   (have HO1:Hid (OwnI wc.drew w.heap.size u3 ((l.take k).map fun s=>s.id)):=OwnL.below HOA1.out (zC (Below.refl _ _) 1);have HO2:Hid (OwnS wc.drew w.heap.size u4 ((l.take k).map fun s=>s.name)):=OwnL.below HOA2.out (zC (Below.refl _ _) 1);have HBB:Hid (Below w.heap.size w wc.drew∧w.heap.size≤wc.drew.heap.size):=And.intro (zC HBA.out 1) HBS.out;clear HOA1 HOA2 HBA HBS HX;generalize wc.drew=wd at *)
   refine tL 0 ?_;refine tL 1 ?_;refine tL 2 ?_;refine tL 5 ?_;refine tL 6 ?_;refine tL 7 ?_;try simp only[ps]
   refine wpAnyH_ready (rs:=[3,8]) (by kernel_rfl) (by simp) ?_
   refine (AllReadyH.cons rfl (fun K hK=>?_) (AllReadyH.cons rfl (fun K hK=>?_) AllReadyH.nil))
   ·
    go_simp
    refine hK.out _ _ ?_ (fun zH_=>?_)
    ·(try dsimp only);exact hold_sym (yG zH_.2.out _)
    clear hK K;refine wpAnyH_ready (rs:=[4,8]) (by kernel_rfl) (by simp) ?_
    refine (AllReadyH.cons rfl (fun K hK=>?_) (AllReadyH.cons rfl (fun K hK=>?_) AllReadyH.nil))
    ·
     (refine zQ yF (by rfl) (.tmp 13) (.tmp 16) (by rfl) w.heap.size u3 _ _ (by rfl) (OwnL.alloc HO1.out (.cells #[.int .i64 (l[k]).id] 3)) wd.heap.size 0 1 1 [.int .i64 (l[k]).id] (by rfl) rfl (yR (tmp_sz (heap_alloc_new wd (.cells #[.int .i64 (l[k]).id] 3)) (by simp))) (by simp[Value.oneCell']) (by have:=HLN.out;simp;omega) (by have:=HLN.out;simp;omega) (zM HBB.out (.cells #[.int .i64 (l[k]).id] 3)).2 ?_;intro vq1 wq1 ho1 hg1)
     refine hK.out _ _ ?_ (fun zH_=>?_)
     ·(try dsimp only);exact hold_sym (yA zH_.2.out (OwnL.alloc HO1.out _) (by decide) hg1)
     clear hK K;refine tR 8 (fun K hK=>?_)
     go_simp
     refine hK.out _ _ ?_ (fun zH_=>?_)
     ·(try dsimp only);exact hold_sym (yG zH_.2.out _)
     clear hK K;refine tR 9 (fun K hK=>?_)
     (refine zQ elem_str (by rfl) (.tmp 18) (.tmp 21) (by rfl) w.heap.size u4 _ _ (by rfl) (OwnL.alloc (OwnL.other (OwnL.alloc HO2.out (.cells #[.int .i64 (l[k]).id] 3)) (OwnL.alloc HO1.out (.cells #[.int .i64 (l[k]).id] 3)) (by decide) hg1) (.cells #[.string (l[k]).name] 9)) wq1.heap.size 0 1 1 [.string (l[k]).name] (by rfl) rfl (yR (tmp_sz (heap_alloc_new wq1 (.cells #[.string (l[k]).name] 9)) (by simp))) (by simp[Value.oneCell']) (by have:=HLN.out;simp;omega) (by have:=HLN.out;simp;omega) (zM (zX (zM HBB.out (.cells #[.int .i64 (l[k]).id] 3)) (OwnL.alloc HO1.out (.cells #[.int .i64 (l[k]).id] 3)) hg1) (.cells #[.string (l[k]).name] 9)).2 ?_;intro vq2 wq2 ho2 hg2)
     refine hK.out _ _ ?_ (fun zH_=>?_)
     ·(try dsimp only);exact hold_sym (yA zH_.2.out (OwnL.alloc (OwnL.other (OwnL.alloc HO2.out _) (OwnL.alloc HO1.out _) (by decide) hg1) _) (by decide) hg2)
     clear hK K;refine tL 10 ?_;refine tL 11 ?_;try simp only[ps]
     refine wpAnyH_done (by kernel_rfl) ?_ _
     (have HE1:=zh (OwnL.other (OwnL.alloc (OwnL.snoc (x:=(l[k]).id) ho1) (.cells #[.string (l[k]).name] 9)) (OwnL.alloc (OwnL.other (OwnL.alloc HO2.out (.cells #[.int .i64 (l[k]).id] 3)) (OwnL.alloc HO1.out (.cells #[.int .i64 (l[k]).id] 3)) (by decide) hg1) (.cells #[.string (l[k]).name] 9)) (by decide) hg2);have HE2:=zh (OwnL.snoc (x:=(l[k]).name) ho2);have HEB:=zh (zX (zM (zX (zM HBB.out (.cells #[.int .i64 (l[k]).id] 3)) (OwnL.alloc HO1.out (.cells #[.int .i64 (l[k]).id] 3)) hg1) (.cells #[.string (l[k]).name] 9)) (OwnL.alloc (OwnL.other (OwnL.alloc HO2.out (.cells #[.int .i64 (l[k]).id] 3)) (OwnL.alloc HO1.out (.cells #[.int .i64 (l[k]).id] 3)) (by decide) hg1) (.cells #[.string (l[k]).name] 9)) hg2).1;(go_wp2;go_roundw;(case rel=>exact ⟨k+1,by omega,by go_num,(by rw[HT1.out];exact HE1.out),(by rw[HT2.out];exact HE2.out),HEB.out⟩);(case measure=>simp[intOf];omega)))
    ·
     go_simp
     refine hK.out _ _ ?_ (fun zH_=>?_)
     ·(try dsimp only);exact hold_sym (yG zH_.2.out _)
     clear hK K;refine tR 4 (fun K hK=>?_)
     (refine zQ yF (by rfl) (.tmp 13) (.tmp 16) (by rfl) w.heap.size u3 _ _ (by rfl) (OwnL.alloc (OwnL.alloc HO1.out (.cells #[.int .i64 (l[k]).id] 3)) (.cells #[.string (l[k]).name] 9)) wd.heap.size 0 1 1 [.int .i64 (l[k]).id] (by rfl) rfl (yR (tmp_sz (yG (heap_alloc_new wd (.cells #[.int .i64 (l[k]).id] 3)) (.cells #[.string (l[k]).name] 9)) (by simp))) (by simp[Value.oneCell']) (by have:=HLN.out;simp;omega) (by have:=HLN.out;simp;omega) (zM (zM HBB.out (.cells #[.int .i64 (l[k]).id] 3)) (.cells #[.string (l[k]).name] 9)).2 ?_;intro vq1 wq1 ho1 hg1)
     refine hK.out _ _ ?_ (fun zH_=>?_)
     ·(try dsimp only);exact hold_sym (yA zH_.2.out (OwnL.alloc (OwnL.alloc HO1.out _) _) (by decide) hg1)
     clear hK K;refine tR 9 (fun K hK=>?_)
     (refine zQ elem_str (by rfl) (.tmp 18) (.tmp 21) (by rfl) w.heap.size u4 _ _ (by rfl) (OwnL.other (OwnL.alloc (OwnL.alloc HO2.out (.cells #[.int .i64 (l[k]).id] 3)) (.cells #[.string (l[k]).name] 9)) (OwnL.alloc (OwnL.alloc HO1.out (.cells #[.int .i64 (l[k]).id] 3)) (.cells #[.string (l[k]).name] 9)) (by decide) hg1) (wd.heap.size+1) 0 1 1 [.string (l[k]).name] (by rfl) rfl (yR (tmp_sz (yA (heap_alloc_new (World.alloc wd (.cells #[.int .i64 (l[k]).id] 3)) (.cells #[.string (l[k]).name] 9)) (OwnL.alloc (OwnL.alloc HO1.out (.cells #[.int .i64 (l[k]).id] 3)) (.cells #[.string (l[k]).name] 9)) (by decide) hg1) (by simp))) (by simp[Value.oneCell']) (by have:=HLN.out;simp;omega) (by have:=HLN.out;simp;omega) (zX (zM (zM HBB.out (.cells #[.int .i64 (l[k]).id] 3)) (.cells #[.string (l[k]).name] 9)) (OwnL.alloc (OwnL.alloc HO1.out (.cells #[.int .i64 (l[k]).id] 3)) (.cells #[.string (l[k]).name] 9)) hg1).2 ?_;intro vq2 wq2 ho2 hg2)
     refine hK.out _ _ ?_ (fun zH_=>?_)
     ·(try dsimp only);exact hold_sym (yA zH_.2.out (OwnL.other (OwnL.alloc (OwnL.alloc HO2.out _) _) (OwnL.alloc (OwnL.alloc HO1.out _) _) (by decide) hg1) (by decide) hg2)
     clear hK K;refine tL 10 ?_;refine tL 11 ?_;refine wpAnyH_done (by kernel_rfl) ?_ _
     (have HE1:=zh (OwnL.other (OwnL.snoc (x:=(l[k]).id) ho1) (OwnL.other (OwnL.alloc (OwnL.alloc HO2.out (.cells #[.int .i64 (l[k]).id] 3)) (.cells #[.string (l[k]).name] 9)) (OwnL.alloc (OwnL.alloc HO1.out (.cells #[.int .i64 (l[k]).id] 3)) (.cells #[.string (l[k]).name] 9)) (by decide) hg1) (by decide) hg2);have HE2:=zh (OwnL.snoc (x:=(l[k]).name) ho2);have HEB:=zh (zX (zX (zM (zM HBB.out (.cells #[.int .i64 (l[k]).id] 3)) (.cells #[.string (l[k]).name] 9)) (OwnL.alloc (OwnL.alloc HO1.out (.cells #[.int .i64 (l[k]).id] 3)) (.cells #[.string (l[k]).name] 9)) hg1) (OwnL.other (OwnL.alloc (OwnL.alloc HO2.out (.cells #[.int .i64 (l[k]).id] 3)) (.cells #[.string (l[k]).name] 9)) (OwnL.alloc (OwnL.alloc HO1.out (.cells #[.int .i64 (l[k]).id] 3)) (.cells #[.string (l[k]).name] 9)) (by decide) hg1) hg2).1;(go_wp2;go_roundw;(case rel=>exact ⟨k+1,by omega,by go_num,(by rw[HT1.out];exact HE1.out),(by rw[HT2.out];exact HE2.out),HEB.out⟩);(case measure=>simp[intOf];omega)))
   ·
    go_simp
    refine hK.out _ _ ?_ (fun zH_=>?_)
    ·(try dsimp only);exact hold_sym (yG zH_.2.out _)
    clear hK K;try simp only[ps]
    refine tR 3 (fun K hK=>?_)
    go_simp
    refine hK.out _ _ ?_ (fun zH_=>?_)
    ·(try dsimp only);exact hold_sym (yG zH_.2.out _)
    clear hK K;refine tR 4 (fun K hK=>?_)
    (refine zQ yF (by rfl) (.tmp 13) (.tmp 16) (by rfl) w.heap.size u3 _ _ (by rfl) (OwnL.alloc (OwnL.alloc HO1.out (.cells #[.string (l[k]).name] 9)) (.cells #[.int .i64 (l[k]).id] 3)) (wd.heap.size+1) 0 1 1 [.int .i64 (l[k]).id] (by rfl) rfl (yR (tmp_sz (heap_alloc_new (World.alloc wd (.cells #[.string (l[k]).name] 9)) (.cells #[.int .i64 (l[k]).id] 3)) (by simp))) (by simp[Value.oneCell']) (by have:=HLN.out;simp;omega) (by have:=HLN.out;simp;omega) (zM (zM HBB.out (.cells #[.string (l[k]).name] 9)) (.cells #[.int .i64 (l[k]).id] 3)).2 ?_;intro vq1 wq1 ho1 hg1)
    refine hK.out _ _ ?_ (fun zH_=>?_)
    ·(try dsimp only);exact hold_sym (yA zH_.2.out (OwnL.alloc (OwnL.alloc HO1.out _) _) (by decide) hg1)
    clear hK K;refine tR 9 (fun K hK=>?_)
    (refine zQ elem_str (by rfl) (.tmp 18) (.tmp 21) (by rfl) w.heap.size u4 _ _ (by rfl) (OwnL.other (OwnL.alloc (OwnL.alloc HO2.out (.cells #[.string (l[k]).name] 9)) (.cells #[.int .i64 (l[k]).id] 3)) (OwnL.alloc (OwnL.alloc HO1.out (.cells #[.string (l[k]).name] 9)) (.cells #[.int .i64 (l[k]).id] 3)) (by decide) hg1) wd.heap.size 0 1 1 [.string (l[k]).name] (by rfl) rfl (yR (tmp_sz (yA (yG (heap_alloc_new wd (.cells #[.string (l[k]).name] 9)) (.cells #[.int .i64 (l[k]).id] 3)) (OwnL.alloc (OwnL.alloc HO1.out (.cells #[.string (l[k]).name] 9)) (.cells #[.int .i64 (l[k]).id] 3)) (by decide) hg1) (by simp))) (by simp[Value.oneCell']) (by have:=HLN.out;simp;omega) (by have:=HLN.out;simp;omega) (zX (zM (zM HBB.out (.cells #[.string (l[k]).name] 9)) (.cells #[.int .i64 (l[k]).id] 3)) (OwnL.alloc (OwnL.alloc HO1.out (.cells #[.string (l[k]).name] 9)) (.cells #[.int .i64 (l[k]).id] 3)) hg1).2 ?_;intro vq2 wq2 ho2 hg2)
    refine hK.out _ _ ?_ (fun zH_=>?_)
    ·(try dsimp only);exact hold_sym (yA zH_.2.out (OwnL.other (OwnL.alloc (OwnL.alloc HO2.out _) _) (OwnL.alloc (OwnL.alloc HO1.out _) _) (by decide) hg1) (by decide) hg2)
    clear hK K;refine tL 10 ?_;refine tL 11 ?_;refine wpAnyH_done (by kernel_rfl) ?_ _
    (have HE1:=zh (OwnL.other (OwnL.snoc (x:=(l[k]).id) ho1) (OwnL.other (OwnL.alloc (OwnL.alloc HO2.out (.cells #[.string (l[k]).name] 9)) (.cells #[.int .i64 (l[k]).id] 3)) (OwnL.alloc (OwnL.alloc HO1.out (.cells #[.string (l[k]).name] 9)) (.cells #[.int .i64 (l[k]).id] 3)) (by decide) hg1) (by decide) hg2);have HE2:=zh (OwnL.snoc (x:=(l[k]).name) ho2);have HEB:=zh (zX (zX (zM (zM HBB.out (.cells #[.string (l[k]).name] 9)) (.cells #[.int .i64 (l[k]).id] 3)) (OwnL.alloc (OwnL.alloc HO1.out (.cells #[.string (l[k]).name] 9)) (.cells #[.int .i64 (l[k]).id] 3)) hg1) (OwnL.other (OwnL.alloc (OwnL.alloc HO2.out (.cells #[.string (l[k]).name] 9)) (.cells #[.int .i64 (l[k]).id] 3)) (OwnL.alloc (OwnL.alloc HO1.out (.cells #[.string (l[k]).name] 9)) (.cells #[.int .i64 (l[k]).id] 3)) (by decide) hg1) hg2).1;(go_wp2;go_roundw;(case rel=>exact ⟨k+1,by omega,by go_num,(by rw[HT1.out];exact HE1.out),(by rw[HT2.out];exact HE2.out),HEB.out⟩);(case measure=>simp[intOf];omega)))
  ·have hh':=hh.out
   rw[List.take_of_length_le (by omega)] at hh'
   have HS:=zh hh';clear hh'
   by_cases h0:l=[]
   ·subst h0
    have HD:=zh (show symsD []=false by rfl)
    go_wp2
    go_ret
    exact ⟨by rw[HD.out];rfl,HS.out.bel⟩
   ·have hpos:0<l.length:=List.length_pos_iff.2 h0
    have HD:=zh (show symsD l=idsD (l.map fun s=>(s.id,s.name)) by unfold symsD;simp[h0])
    clear h0;go_wp2_with fail;refine (ids_own (l:=l.map fun s=>(s.id,s.name)) (by simp) (by simp) HS.out (by have:=HLM.out;unfold Lim at *;rw[List.length_map];omega) (by intro s hs;obtain ⟨x,hx,rfl⟩:=List.mem_map.1 hs;exact HL.out.name_ok x hx)).mono ?_
    rintro e w2 ⟨rfl,hb2⟩;go_wp2;go_ret;exact ⟨by rw[HD.out];rfl,zB HS.out.bel hb2⟩
end Go.Proofs.YtdfolgmcggdjdaaGreatDoor


