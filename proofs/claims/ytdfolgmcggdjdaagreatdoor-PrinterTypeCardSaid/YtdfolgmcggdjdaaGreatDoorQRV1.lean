/-
  Walks: IDs, symbols, in the reference.
-/
import Derived.Test.YtdfolgmcggdjdaaGreatDoorQSCA
import Derived.Test.YtdfolgmcggdjdaaGreatDoorQDM
import Derived.Test.YtdfolgmcggdjdaaGreatDoorQEQA
namespace Go.Proofs.YtdfolgmcggdjdaaGreatDoor
open Go.RowKit
set_option maxHeartbeats 16000000
set_option maxRecDepth 100000
def idB (b n:Int):Bool:=decide (b<n)&&decide (1≤n)&&decide (n≤1000)
theorem rId_any (b n : Int) (w : World) : Calls Tryz.prog 133 #[.int .i64 b, .int .i64 n] w fun e w' => e = .returned (.bool (idB b n)) ∧ w = w' := by
  by_cases h1 : b < n <;> by_cases h2 : 1 ≤ n <;> by_cases h3 : n ≤ 1000
  all_goals first
    | (exfalso; omega)
    | (have HL := zh (show idB b n = _ by unfold idB; simp only [h1, h2, h3]; rfl)
       go_enter Tryz.func133, Tryz.ntmps133
       go_wp2
       go_ret
       exact ⟨by rw [HL.out]; rfl, rfl⟩)
theorem rNamed_any (n:Int) (w:World):Calls Tryz.prog 22 #[.int .i64 n] w fun e w'=>e = .returned (.bool (zH n))∧w=w':=by
 by_cases h1:n=4
 ·subst h1
  go_enter Tryz.func22,Tryz.ntmps22
  go_wp2
  go_ret
  exact ⟨rfl,rfl⟩
 by_cases h2:n=5
 ·subst h2
  go_enter Tryz.func22,Tryz.ntmps22
  go_wp2
  go_ret
  exact ⟨rfl,rfl⟩
 by_cases h3:n=6
 ·subst h3
  go_enter Tryz.func22,Tryz.ntmps22
  go_wp2
  go_ret
  exact ⟨rfl,rfl⟩
 have HL:=zh (show zH n=false by simp[zH,h1,h2,h3])
 have e1:(n==4)=false:=by simp[h1]
 have e2:(n==5)=false:=by simp[h2]
 have e3:(n==6)=false:=by simp[h3]
 clear h1 h2 h3
 go_enter Tryz.func22,Tryz.ntmps22
 go_wp2
 go_ret
 exact ⟨by rw[HL.out];rfl,rfl⟩
theorem rKeyKind_any (n : Int) (w : World) : Calls Tryz.prog 57 #[.int .i64 n] w fun e w' => e = .returned (.bool (keyKind n)) ∧ w = w' := by
  by_cases h2 : 1 ≤ n <;> by_cases h3 : n ≤ 4
  all_goals
    (have HL := zh (show keyKind n = _ by unfold keyKind; simp only [h2, h3]; rfl)
     go_enter Tryz.func57, Tryz.ntmps57
     go_wp2
     go_ret
     exact ⟨by rw [HL.out]; rfl, rfl⟩)
theorem prevI_next {L:List (Int×ByteArray)} {k:Nat} (hk:k<L.length):prevI L (k+1)=(L[k]).1:=by
 unfold prevI
 rw[if_neg (by omega),Nat.add_sub_cancel,List.getD_eq_getElem?_getD,zl hk];rfl
theorem ids_stop_id {L:List (Int×ByteArray)} {k:Nat} (hk:k<L.length) (h:idB (prevI L k) (L[k]).1=false):idsD L=false:=by
 refine ids_stop hk ?_
 unfold idB at h
 simp only[Bool.and_eq_false_iff,decide_eq_false_iff_not] at h ⊢
 omega
theorem ids_stop_name {L:List (Int×ByteArray)} {k:Nat} (hk:k<L.length) (h:nameB (L[k]).2=false):idsD L=false:=ids_stop hk (by rw[h];simp)
theorem ids_stop_dup {L:List (Int×ByteArray)} {k j:Nat} (hk:k<L.length) (hj:j<k) (h:(L[j]'(by omega)).2=(L[k]).2):idsD L=false:=by
 refine ids_stop hk ?_
 have:memD (L[k]).2 ((L.take k).map (·.2))=true:=by
  rw[memD_iff,←h]
  refine List.mem_map.2 ⟨L[j]'(by omega),?_,rfl⟩
  rw[List.mem_take_iff_getElem]
  exact ⟨j,by omega,rfl⟩
 rw[this];simp
theorem ids_more {L:List (Int×ByteArray)} {k:Nat} (hk:k<L.length) (h0:idsOk 0 [] (L.take k)=true) (h1:idB (prevI L k) (L[k]).1=true) (h2:nameB (L[k]).2=true) (h3:∀j (hj:j<k),(L[j]'(by omega)).2≠(L[k]).2):idsOk 0 [] (L.take (k+1))=true:=by
 refine ids_go hk h0 ?_
 have hm:memD (L[k]).2 ((L.take k).map (·.2))=false:=by
  cases hm:memD (L[k]).2 ((L.take k).map (·.2)) with
  | false=>rfl
  | true =>
   rw[memD_iff] at hm
   obtain ⟨x,hx,hxe⟩:=List.mem_map.1 hm
   rw[List.mem_take_iff_getElem] at hx
   obtain ⟨j,hj,rfl⟩:=hx
   exact absurd hxe (h3 j (by omega))
 unfold idB at h1
 rw[hm,h2]
 simp only[Bool.and_eq_true,decide_eq_true_eq] at h1
 simp;omega
theorem rSyms_any (l:List SymD) (A:Option Addr) (c:Nat) (w:World) (hl:SymsR w A l) :
  Calls Tryz.prog 110 #[.slice A l.length c] w (SamePost (symsD l) w):=by
 have hn:=hl.1.lt (by omega)
 have HL:=zh hl
 clear hl
 obtain ⟨L,hL⟩:∃L,L=l.map fun s=>(s.id,s.name):=⟨_,rfl⟩
 have HLL:Hid (L.length=l.length):=by rw[hL,List.length_map];exact rfl
 have HG:Hid (∀k (h:k<l.length) (h':k<L.length),L[k]=((l[k]).id,(l[k]).name)):=fun k h h'=>by simp[hL]
 have HSD:Hid (symsD l=(idsD L&&decide (l≠[]))):=by rw[hL];rfl
 clear hL
 go_enter Tryz.func110,Tryz.ntmps110
 go_wp2
 go_loopw [4,3] (fun i b wr=>∃k:Nat,k≤l.length∧i = .int .i64 k∧b = .int .i64 (prevI L k)∧Hid (idsOk 0 [] (L.take k)=true∧Below w.heap.size w wr)) (fun i _ _=>l.length - (intOf i).toNat)
 case atStart=>exact ⟨0,by omega,rfl,rfl,rfl,Below.refl _ _⟩
 case round =>
  obtain ⟨k,hk,rfl,rfl,hh⟩:=hrel
  obtain ⟨wo,rfl⟩:∃wo:World,wo=wr:=⟨_,rfl⟩
  by_cases hlt:k<l.length
  ·have hkL:k<L.length:=by rw[HLL.out];exact hlt
   obtain ⟨b,o,rfl,hsok,a0,a1⟩:=(HL.out.below hh.out.2).at2 hlt
   have HSO:=zh hsok
   have h1:(0:Int)≤(k:Int):=by omega
   have h2:(k:Int)<(l.length:Int):=by omega
   have HGK:=zh (HG.out k hlt hkL)
   have HPN:=zh (prevI_next hkL)
   rw[HGK.out] at HPN
   have HS1:=zh (fun h=>ids_stop_id hkL h)
   have HS2:=zh (fun h=>ids_stop_name hkL h)
   have HS3:=zh (fun (j:Nat) (hj:j<k) h=>ids_stop_dup hkL hj h)
   have HMO:=zh (fun a b c=>ids_more hkL hh.out.1 a b c)
   rw[HGK.out] at HS1 HS2 HS3 HMO
   clear hsok
   obtain ⟨pv,hpv⟩:∃pv,pv=prevI L k:=⟨_,rfl⟩
   rw[←hpv] at HS1 HMO ⊢
   clear hpv
   cases hid:idB pv (l[k]).id with
   | false =>
    have HI:=zh hid
    have HD:=zh (show symsD l=false by rw[HSD.out,HS1.out hid];rfl)
    clear hid
    go_wp2_with (go_at_call 133;refine (rId_any _ _ _).mono ?_;rintro e w' ⟨rfl,rfl⟩;rw[HI.out])
    go_ret
    exact ⟨by rw[HD.out];rfl,hh.out.2⟩
   | true =>
    have HI:=zh hid
    cases hnm:nameB (l[k]).name with
    | false =>
     have HN:=zh hnm
     have HD:=zh (show symsD l=false by rw[HSD.out,HS2.out hnm];rfl)
     clear hid hnm
     go_wp2_with (first|(go_at_call 133;refine (rId_any _ _ _).mono ?_;rintro e w' ⟨rfl,rfl⟩;rw[HI.out])|(go_at_call 109;refine (zN _ HSO.out _).mono ?_;rintro e w' ⟨rfl,rfl⟩;rw[HN.out]))
     go_ret
     exact ⟨by rw[HD.out];rfl,hh.out.2⟩
    | true =>
     have HN:=zh hnm
     clear hid hnm
     go_wp2_with (first|(go_at_call 133;refine (rId_any _ _ _).mono ?_;rintro e w' ⟨rfl,rfl⟩;rw[HI.out])|(go_at_call 109;refine (zN _ HSO.out _).mono ?_;rintro e w' ⟨rfl,rfl⟩;rw[HN.out]))
     have HBO:=zh hh.out.2
     clear a0 a1
     go_loopw [5] (fun i wr=>∃j:Nat,j≤k∧i = .int .i64 j∧Hid ((∀q (hq:q<j) (hql:q<l.length),(l[q]).name≠(l[k]).name)∧Below wo.heap.size wo wr)) (fun i _=>k - (intOf i).toNat)
     case atStart=>exact ⟨0,by omega,rfl,(fun q h _=>absurd h (by omega)),Below.refl _ _⟩
     case round =>
      obtain ⟨j,hj,rfl,hq⟩:=hrel
      have HBQ:=zh (zA HBO.out hq.out.2)
      by_cases hjk:j<k
      ·have hjl:j<l.length:=by omega
       have hjL:j<L.length:=by omega
       obtain ⟨b1,o1,e1,_,c0,c1⟩:=(HL.out.below HBQ.out).at2 hjl
       injection e1 with e1
       injection e1 with e11 e12
       subst e11;subst e12
       obtain ⟨b2,o2,e2,_,d0,d1⟩:=(HL.out.below HBQ.out).at2 hlt
       injection e2 with e2
       injection e2 with e21 e22
       subst e21;subst e22
       have g1:(0:Int)≤(j:Int):=by omega
       have g2:(j:Int)<(l.length:Int):=by omega
       by_cases hsame:(l[j]).name=(l[k]).name
       ·have HD:=zh (show symsD l=false by rw[HSD.out,HS3.out j hjk (by rw[HG.out j hjl hjL];exact hsame)];rfl)
        have e5:((l[j]).name.toList==(l[k]).name.toList)=true:=by rw[zM];exact decide_eq_true hsame
        clear hsame
        go_wp2
        go_quiet (fail)
        go_wp2
        go_ret
        exact ⟨by rw[HD.out];rfl,zE HBQ.out _⟩
       ·have e5:((l[j]).name.toList==(l[k]).name.toList)=false:=by rw[zM];exact decide_eq_false hsame
        have HNS:=zh hsame
        clear hsame
        go_wp2
        go_quiet (fail)
        go_wp2
        go_roundw
        case rel =>
         refine ⟨j+1,by omega,by go_num,(fun q hqj hql=>?_),zE hq.out.2 _⟩
         by_cases e:q=j
         ·subst e;exact HNS.out
         ·exact hq.out.1 q (by omega) hql
        case measure=>simp[intOf];omega
      ·have HOK:=zh (HMO.out HI.out HN.out (fun q hqk=>by rw[HG.out q (by omega) (by omega)];exact hq.out.1 q (by omega) (by omega)))
       obtain ⟨b2,o2,e2,_,d0,d1⟩:=(HL.out.below HBQ.out).at2 hlt
       injection e2 with e2
       injection e2 with e21 e22
       subst e21;subst e22
       go_wp2
       go_roundw
       case rel=>exact ⟨k+1,by omega,by go_num,(by rw[HPN.out]),HOK.out,HBQ.out⟩
       case measure=>simp[intOf];omega
  ·have HOK:Hid (idsD L=decide (L.length≤16)):=by
    have:=hh.out.1
    rw[List.take_of_length_le (by rw[HLL.out];omega)] at this
    show _=_
    unfold idsD;rw[this];simp
   by_cases hz:l.length<1
   ·have HD:=zh (show symsD l=false by
     have:l=[]:=List.eq_nil_of_length_eq_zero (by omega)
     rw[HSD.out,this];simp)
    go_wp2
    go_ret
    exact ⟨by rw[HD.out];rfl,hh.out.2⟩
   ·have hz':1≤l.length:=by omega
    have HD:=zh (show symsD l=decide (l.length≤16) by
     have:l≠[]:=fun e=>by rw[e] at hz;simp at hz
     rw[HSD.out,HOK.out,HLL.out];simp[this])
    go_wp2
    go_ret
    refine ⟨?_,hh.out.2⟩
    rw[HD.out]
    simp
    try omega
end Go.Proofs.YtdfolgmcggdjdaaGreatDoor


