/-
  Walks: canon.Classes.
-/
import Derived.Test.YtkhpajneinmmiaaGreatDoorQRE1
import Derived.Test.YtkhpajneinmmiaaGreatDoorQPL
namespace Go.Proofs.YtkhpajneinmmiaaGreatDoor
open Go.RowKit
set_option maxHeartbeats 16000000
set_option maxRecDepth 100000
def BitsIn (w:World) (gi:Nat) (l:List Bool):Prop:=∀k (hk:k<l.length),w.cell? ⟨gi,k,none⟩=some (.bool l[k])
theorem indexB_any (l:List Bool) (hl:l.length≤1000) (gi c:Nat) (w:World) (hb:BitsIn w gi l) :
  Calls Tryz.prog 44 #[.slice (some ⟨gi,0,none⟩) l.length c,.bool true] w fun e w'=>e = .returned (.int .i64 (fstB l))∧w=w':=by
 have HB:=zh hb
 clear hb
 go_enter Tryz.func44,Tryz.ntmps44
 go_wp2
 go_loop [8] (fun i=>∃k:Nat,k≤l.length∧i = .int .i64 k∧Hid (∀j (hj:j<l.length),j<k→l[j]=false)) (fun i=>l.length - (intOf i).toNat)
 case atStart=>exact ⟨0,by omega,rfl,fun j _ h=>absurd h (by omega)⟩
 case round =>
  obtain ⟨k,hk,rfl,hh⟩:=hrel
  by_cases hlt:k<l.length
  ·have hx:w.cell? ⟨gi,0+k,none⟩=some (.bool l[k]):=by rw[Nat.zero_add];exact HB.out k hlt
   have hx':w.cell? ⟨gi,k,none⟩=some (.bool l[k]):=HB.out k hlt
   have h1:(0:Int)≤(k:Int):=by omega
   have h2:(k:Int)<(l.length:Int):=by omega
   cases hbit:l[k] with
   | true =>
    have HD:=zh (fstB_at l k hlt hbit fun j hj=>hh.out j (by omega) hj)
    rw[hbit] at hx hx'
    clear hbit
    go_wp2
    go_ret
    exact ⟨by rw[HD.out];rfl,rfl⟩
   | false =>
    have HD:=zh hbit
    rw[hbit] at hx hx'
    clear hbit
    go_wp2
    go_round
    case rel =>
     refine ⟨k+1,by omega,by go_num,fun j hj hjk=>?_⟩
     by_cases e:j=k
     ·subst e;exact HD.out
     ·exact hh.out j hj (by omega)
    case measure=>simp[intOf];omega
  ·have HD:=zh (fstB_no l fun j hj=>hh.out j hj (by omega))
   go_wp2
   go_ret
   exact ⟨by rw[HD.out];rfl,rfl⟩
theorem indexB_n (l:List Bool) (n:Nat) (hn:l.length=n) (hl:n≤1000) (gi c:Nat) (w:World) (hb:BitsIn w gi l) :
  Calls Tryz.prog 44 #[.slice (some ⟨gi,0,none⟩) n c,.bool true] w fun e w'=>e = .returned (.int .i64 (fstB l))∧w=w':=by
 subst hn;exact indexB_any l hl gi c w hb
theorem tab_row {w:World} {base g n m:Nat} {rows:List Value} {M:List (List Bool)} (h:TabAt w base g rows M) (hml:M.length=n) (hcl:∀r∈M,r.length=m) {p:Nat} (hp:p<n) (hm:0<m):∃gi c,w.cell? ⟨g,p,none⟩=some (.slice (some ⟨gi,0,none⟩) m c)∧BitsIn w gi (M[p]'(by rw[hml];exact hp)):=by
 have hp':p<M.length:=by rw[hml];exact hp
 have hl:=hcl _ (List.getElem_mem hp')
 obtain ⟨gi,c,h1,_⟩:=h.bit hp' (k:=0) (by rw[hl];exact hm)
 rw[hl] at h1
 refine ⟨gi,c,h1,fun q hq=>?_⟩
 obtain ⟨gi2,c2,d1,d2,_⟩:=h.bit hp' hq
 rw[hl] at d1
 have e:=Option.some.inj (d1.symm.trans h1)
 injection e with e1 _ _
 injection e1 with e1
 injection e1 with e1
 subst e1
 exact d2
theorem row_eq {M:List (List Bool)} {n:Nat} {i:Nat} (hi:i<M.length) (hl:(M[i]).length=n):M[i]=(List.range n).map (getB M i):=by
 apply List.ext_getElem
 ·simp[hl]
 ·intro k h1 h2
  simp only[List.getElem_map,List.getElem_range]
  unfold getB
  rw[List.getD_eq_getElem?_getD (l:=M),zl hi,Option.getD_some,List.getD_eq_getElem?_getD,zl h1];rfl
def ClassesPost (s:List TyD) (w:World) (e:Ending) (w':World):Prop :=
 ∃v l,e = .returned (.tuple #[v,.int .i64 (zQ s)])∧OwnI w' w.heap.size v l∧(zQ s=0→ClsIs s l)∧(zQ s≠0→l=[])∧Below w.heap.size w w'
theorem classes_any (s:List TyD) (A:Option Addr) (c:Nat) (w:World) (hs:TysR w A s) :
  Calls Tryz.prog 19 #[.agg #[.slice A s.length c]] w (ClassesPost s w):=by
 have HS:=zh hs
 clear hs
 by_cases hv:zQ s=0
 case neg =>
  have q1:(zQ s != 0)=true:=by simp[hv]
  have HV:=zh hv
  clear hv
  go_enter Tryz.func19,Tryz.ntmps19
  go_wp2_with fail
  refine (valid_any s A c _ (HS.out.below (zD _ _))).mono ?_
  rintro e w2 ⟨rfl,hb2⟩
  go_wp2
  go_ret2
  exact ⟨_,[],rfl,OwnL.nil _ _,fun h=>absurd h HV.out,fun _=>rfl,zW hb2⟩
 have q1:((0:Int) != 0)=false:=rfl
 have HV:=zh hv
 have hle:=valid_len hv
 have HU:=zh (yL hv)
 clear hv
 go_enter Tryz.func19,Tryz.ntmps19
 go_wp2_with fail
 refine (valid_any s A c _ (HS.out.below (zD _ _))).mono ?_
 rintro e w2 ⟨rfl,hb2⟩
 rw[HV.out]
 have hc2:=bcell hb2
 have HB2:=zh (zW hb2)
 clear hb2
 go_wp2_with fail
 refine (relation_any false s s hle hle HU.out HU.out A c A c _ (HS.out.below HB2.out) (HS.out.below HB2.out)).mono ?_
 rintro e w3 ⟨g,rows,M,rfl,htab,hml,hcl,hgr,hb3⟩
 have HT:=zh htab
 have HML:=zh hml
 have HCL:=zh hcl
 have HGR:=zh hgr
 have HB3:=zh (zA HB2.out hb3)
 clear htab hml hcl hgr hb3 hc2
 go_wp2
 go_loopw [17,5] (fun i a wr=>∃k:Nat,k≤s.length∧i = .int .i64 k∧Hid (OwnI wr w3.heap.size a ((clsD (getB M) s.length).take k)∧Below w3.heap.size w3 wr)) (fun i _ _=>s.length - (intOf i).toNat)
 case atStart=>exact ⟨0,by omega,rfl,OwnL.nil _ _,Below.refl _ _⟩
 case round =>
  obtain ⟨k,hk,rfl,hh⟩:=hrel
  obtain ⟨wo,rfl⟩:∃wo:World,wo=wr:=⟨_,rfl⟩
  by_cases hlt:k<s.length
  ·have hkM:k<M.length:=by rw[HML.out];exact hlt
   have hkl:(M[k]).length=s.length:=HCL.out _ (List.getElem_mem hkM)
   have HTO:=zh (HT.out.below hh.out.2)
   obtain ⟨gi,cg,c1,hbi⟩:=tab_row HTO.out HML.out HCL.out hlt (by omega)
   have HBI:=zh hbi
   clear hbi
   have HKL:=zh hkl
   have HTK:Hid ((clsD (getB M) s.length).take (k+1)=(clsD (getB M) s.length).take k++[fstB M[k]]):=by
    show _=_
    have hcl:k<(clsD (getB M) s.length).length:=by simpa[clsD] using hlt
    rw[List.take_succ_eq_append_getElem hcl]
    congr 2
    rw[row_eq hkM hkl]
    simp[clsD]
   have h1:(0:Int)≤(k:Int):=by omega
   have h2:(k:Int)<(s.length:Int):=by omega
   have hz1:=zF c1
   simp only at hz1
   have HLN:Hid (((clsD (getB M) s.length).take k).length+1≤1000):=by show _≤_;simp[clsD];omega
   have HB7:=zh hh.out.2
   have HO1:=zh (OwnL.alloc hh.out.1 (.cells #[.int .i64 (fstB M[k])] 3))
   have HRN:Hid ((wo.alloc (.cells #[.int .i64 (fstB M[k])] 3)).rangeAt wo.heap.size 0 [.int .i64 (fstB M[k])]):=zL wo [.int .i64 (fstB M[k])] 3
   have HZ7:Hid (w3.heap.size≤(wo.alloc (.cells #[.int .i64 (fstB M[k])] 3)).heap.size):=by have:=HB7.out.size;show _≤_;simp;omega
   clear hkl
   go_wp2_with (first|(go_at_call 44;refine (indexB_n M[k] s.length HKL.out (by omega) gi cg _ HBI.out).mono ?_;rintro e w5 ⟨rfl,rfl⟩)|(at_builtin;refine zK yC _ rfl (.tmp 21) (.tmp 24) rfl w3.heap.size _ _ _ rfl HO1.out wo.heap.size 0 1 1 [.int .i64 (fstB M[k])] rfl rfl HRN.out (by simp[Value.oneCell']) (by have:=HLN.out;omega) (by have:=HLN.out;omega) HZ7.out ?_;intro v8 w8 ho8 hg8))
   go_roundw
   case rel=>exact ⟨k+1,by omega,by go_num,(by rw[HTK.out];exact OwnL.snoc (x:=fstB M[k]) ho8),(HB7.out.alloc HB7.out.size _).grown hg8 HZ7.out HO1.out.lt⟩
   case measure=>simp[intOf];omega
  ·have HE:Hid ((clsD (getB M) s.length).take k=clsD (getB M) s.length):=List.take_of_length_le (by simp[clsD];omega)
   go_wp2
   go_ret2
   refine ⟨_,clsD (getB M) s.length,(by rw[HV.out];rfl),?_,fun _=>⟨getB M,HGR.out,rfl⟩,fun h=>absurd HV.out h,zA HB3.out hh.out.2⟩
   have:=hh.out.1
   rw[HE.out] at this
   exact this.base HB3.out.size
end Go.Proofs.YtkhpajneinmmiaaGreatDoor


