/-
  Walks: members, in the reference (written by gen_rv2.py).
-/
import Derived.Test.YtdfolgmcggdjdaaGreatDoorQGA3
import Derived.Test.YtdfolgmcggdjdaaGreatDoorQSC5
namespace Go.Proofs.YtdfolgmcggdjdaaGreatDoor
open Go.RowKit
set_option maxHeartbeats 16000000
set_option maxRecDepth 100000
theorem memsD_ids {rec:Bool} {l:List MemD} (h:idsD (l.map fun m=>(m.id,m.name))=false):memsD rec l=false:=by unfold memsD;rw[h];simp
theorem MBox.below {W w':World} {b:Nat} {m:MemD} {A1:zo} {c1:Nat} {A2:zo} {c2:Nat} {A3:zo} {c3:Nat} (h:MBox W b m A1 c1 A2 c2 A3 c3) (hb:Below W.heap.size W w'):MBox w' b m A1 c1 A2 c2 A3 c3 :=
 (hb.block b (zg.1 h).1).trans h
theorem rMems_true (l:List MemD) (A:zo) (c:Nat) (w:World) (hl:MemsR w A l) :
  Calls Tryz.prog 111 #[.slice A l.length c,.bool true] w (SamePost (memsD true l) w):=by
 have hn:=hl.1.lt (by omega)
 have HL:=zh hl;clear hl;obtain ⟨L,hL⟩:∃L,L=l.map fun s=>(s.id,s.name):=⟨_,rfl⟩
 have HLE:=zh hL;have HLL:Hid (L.length=l.length):=by rw[hL,List.length_map];exact rfl
 have HG:Hid (∀k (h:k<l.length) (h':k<L.length),L[k]=((l[k]).id,(l[k]).name)):=fun k h h'=>by simp[hL]
 clear hL
 go_enter Tryz.func111,Tryz.ntmps111
 go_wp2
 go_loopw [6,5] (fun i b wr=>∃k:Nat,k≤l.length∧i = .int .i64 k∧b = .int .i64 (prevI L k)∧Hid (idsOk 0 [] (L.take k)=true∧(∀j (hj:j<l.length),j<k→memOk true l[j]=true)∧Below w.heap.size w wr)) (fun i _ _=>l.length - (intOf i).toNat)
 case atStart=>exact ⟨0,by omega,rfl,rfl,rfl,(fun j _ h=>absurd h (by omega)),Below.refl _ _⟩
 case round =>
  obtain ⟨k,hk,rfl,rfl,hh⟩:=hrel;obtain ⟨wo,rfl⟩:∃wo:World,wo=wr:=⟨_,rfl⟩;have HBO:=zh hh.out.2.2
  by_cases hlt:k<l.length
  ·have hkL:k<L.length:=by rw[HLL.out];exact hlt
   obtain ⟨b,o,A1,c1,A2,c2,A3,c3,rfl,hr1,a0,a1,a2,a3,a4,a5,a6,a7,a8,a9,a10,a11,a12⟩:=(HL.out.below HBO.out).at13 hlt;have HR:=zh hr1;have HSO:=zh hr1.name;have h1:(0:Int)≤(k:Int):=by omega
   have h2:(k:Int)<(l.length:Int):=by omega
   have hz1:=zN a0;simp only at hz1;have HGK:=zh (HG.out k hlt hkL);have HPN:=zh (prevI_next hkL);rw[HGK.out] at HPN;have HS1:=zh (fun h=>ids_stop_id hkL h)
   have HS2:=zh (fun h=>ids_stop_name hkL h)
   have HS3:=zh (fun (j:Nat) (hj:j<k) h=>ids_stop_dup hkL hj h)
   have HMO:=zh (fun a b c=>ids_more hkL hh.out.1 a b c)
   rw[HGK.out] at HS1 HS2 HS3 HMO;have HST:=zh (fun h=>mems_stop (rec:=true) hlt h)
   have HMK:=zh (show memOk true l[k]=((true || !((l[k]).critical||(l[k]).hasDef)) && !((l[k]).critical&&(l[k]).hasDef)&&((l[k]).hasDef||decide ((l[k]).dflt=zeroV))) from rfl);clear hr1;obtain ⟨pv,hpv⟩:∃pv,pv=prevI L k:=⟨_,rfl⟩;rw[←hpv] at HS1 HMO ⊢;clear hpv;have HB3:=zh (HBO.out.alloc HBO.out.size ((l[k]).box A1 c1 A2 c2 A3 c3))
   cases hid:idB pv (l[k]).id with
   | false =>
    have HI:=zh hid;have HD:=zh (memsD_ids (rec:=true) (l:=l) (by rw[←HLE.out];exact HS1.out hid))
    clear hid;go_wp2_with (go_at_call 133;refine (rId_any _ _ _).mono ?_;rintro e w' ⟨rfl,rfl⟩;rw[HI.out]);go_ret;exact ⟨by rw[HD.out];rfl,HB3.out⟩
   | true =>
    have HI:=zh hid
    cases hnm:nameB (l[k]).name with
    | false =>
     have HN:=zh hnm;have HD:=zh (memsD_ids (rec:=true) (l:=l) (by rw[←HLE.out];exact HS2.out hnm))
     clear hid hnm;go_wp2_with (first|(go_at_call 133;refine (rId_any _ _ _).mono ?_;rintro e w' ⟨rfl,rfl⟩;rw[HI.out])|(go_at_call 109;refine (zW _ HSO.out _).mono ?_;rintro e w' ⟨rfl,rfl⟩;rw[HN.out])|fail);go_ret;exact ⟨by rw[HD.out];rfl,HB3.out⟩
    | true =>
     have HN:=zh hnm;clear hid hnm
     cases hcr:(l[k]).critical with
     | false =>
      cases hhd:(l[k]).hasDef with
      | false =>
       rw[hcr] at a3;rw[hhd] at a4;rw[hcr,hhd] at HMK;have HCR:=zh hcr;have HHD:=zh hhd;clear hcr hhd
       by_cases hb:(l[k]).dflt=zeroV
       ·have HOK:Hid (memOk true l[k]=true):=by show _=_;rw[HMK.out,decide_eq_true hb];simp
        have HZ:=zh (decide_eq_true hb);clear HST HMK hb;go_wp2_with (first|(go_at_call 133;refine (rId_any _ _ _).mono ?_;rintro e w' ⟨rfl,rfl⟩;rw[HI.out])|(go_at_call 109;refine (zW _ HSO.out _).mono ?_;rintro e w' ⟨rfl,rfl⟩;rw[HN.out])|fail);refine (rSame_all (l[k]).dflt zeroV A1 c1 A2 c2 A3 c3 none 0 none 0 none 0 _ (HR.out.dflt.below (zD _ _)) (valR_zero _)).mono ?_;rintro e w7 ⟨rfl,hb7⟩;rw[HZ.out]
        have HB7:=zh hb7;clear hb7;go_wp2;have HBX:=zh (zB HBO.out (below_alloc HB7.out))
        have HXB:Hid (MBox w7 wo.heap.size l[k] A1 c1 A2 c2 A3 c3):=MBox.below ((by have:=heap_alloc_new wo (.cells #[.int .i64 (l[k]).id,.string (l[k]).name,.int .i64 (l[k]).type,.bool false,.bool false,.int .i64 (l[k]).dflt.kind,.bool (l[k]).dflt.bool,.int .i64 (l[k]).dflt.int,.string (l[k]).dflt.str,.int .i64 (l[k]).dflt.id,.slice A1 (l[k]).dflt.keys.length c1,.slice A2 (l[k]).dflt.items.length c2,.slice A3 (l[k]).dflt.rest.length c3] 71);unfold MBox;rw[HCR.out,HHD.out];exact this)) HB7.out
        go_loopw [8] (fun i wr=>∃j:Nat,j≤k∧i = .int .i64 j∧Hid ((∀q (hq:q<j) (hql:q<l.length),(l[q]).name≠(l[k]).name)∧Below (World.heap w7).size w7 wr)) (fun i _=>k - (intOf i).toNat)
        case atStart=>exact ⟨0,by omega,rfl,(fun q h _=>absurd h (by omega)),Below.refl _ _⟩
        case round =>
         obtain ⟨j,hj,rfl,hq⟩:=hrel;have HBQ:=zh (zB HBX.out hq.out.2);have HXQ:=zh (HXB.out.below hq.out.2);have x0:=HXQ.out.cell 0;have x1:=HXQ.out.cell 1;simp only[List.getElem?_toArray,List.getElem?_cons_succ,List.getElem?_cons_zero] at x0 x1
         by_cases hjk:j<k
         ·have hjl:j<l.length:=by omega
          have hjL:j<L.length:=by omega
          obtain ⟨b1,o1,B1,d1,B2,d2,B3,d3,e1,_,y0,y1,_⟩:=(HL.out.below HBQ.out).at13 hjl
          injection e1 with e1
          injection e1 with e11 e12
          subst e11;subst e12;have g1:(0:Int)≤(j:Int):=by omega
          have g2:(j:Int)<(l.length:Int):=by omega
          by_cases hsame:(l[j]).name=(l[k]).name
          ·have HD:=zh (memsD_ids (rec:=true) (l:=l) (by rw[←HLE.out];exact HS3.out j hjk (by rw[HG.out j hjl hjL];exact hsame)))
           have e5:((l[j]).name.toList==(l[k]).name.toList)=true:=by rw[zS];exact decide_eq_true hsame
           clear hsame;go_wp2
           go_quiet (fail)
           go_wp2
           go_ret
           exact ⟨by rw[HD.out];rfl,zC HBQ.out _⟩
          ·have e5:((l[j]).name.toList==(l[k]).name.toList)=false:=by rw[zS];exact decide_eq_false hsame
           have HNS:=zh hsame;clear hsame;go_wp2
           go_quiet (fail)
           go_wp2
           go_roundw
           case rel =>
            refine ⟨j+1,by omega,by go_num,(fun q hqj hql=>?_),zC hq.out.2 _⟩
            by_cases e:q=j
            ·subst e;exact HNS.out
            ·exact hq.out.1 q (by omega) hql
           case measure=>simp[intOf];omega
         ·have HOI:=zh (HMO.out HI.out HN.out (fun q hqk=>by rw[HG.out q (by omega) (by omega)];exact hq.out.1 q (by omega) (by omega)))
          go_wp2
          go_roundw
          case rel =>
           refine ⟨k+1,by omega,by go_num,(by rw[HPN.out]),HOI.out,(fun q hql hqk=>?_),HBQ.out⟩
           by_cases e:q=k
           ·subst e;exact HOK.out
           ·exact hh.out.2.1 q hql (by omega)
          case measure=>simp[intOf];omega
       ·have HD:=zh (HST.out (by rw[HMK.out,decide_eq_false hb];simp))
        have HZ:=zh (decide_eq_false hb);clear HST HMK hb;go_wp2_with (first|(go_at_call 133;refine (rId_any _ _ _).mono ?_;rintro e w' ⟨rfl,rfl⟩;rw[HI.out])|(go_at_call 109;refine (zW _ HSO.out _).mono ?_;rintro e w' ⟨rfl,rfl⟩;rw[HN.out])|fail);refine (rSame_all (l[k]).dflt zeroV A1 c1 A2 c2 A3 c3 none 0 none 0 none 0 _ (HR.out.dflt.below (zD _ _)) (valR_zero _)).mono ?_;rintro e w7 ⟨rfl,hb7⟩;rw[HZ.out]
        go_wp2
        go_ret
        exact ⟨by rw[HD.out];rfl,zB HBO.out (below_alloc hb7)⟩
      | true =>
       rw[hcr] at a3;rw[hhd] at a4;rw[hcr,hhd] at HMK;have HCR:=zh hcr;have HHD:=zh hhd;have HOK:Hid (memOk true l[k]=true):=by show _=_;rw[HMK.out];simp
       clear HST HMK hcr hhd;go_wp2_with (first|(go_at_call 133;refine (rId_any _ _ _).mono ?_;rintro e w' ⟨rfl,rfl⟩;rw[HI.out])|(go_at_call 109;refine (zW _ HSO.out _).mono ?_;rintro e w' ⟨rfl,rfl⟩;rw[HN.out])|fail)
       have HBX:=zh (HBO.out.alloc HBO.out.size (.cells #[.int .i64 (l[k]).id,.string (l[k]).name,.int .i64 (l[k]).type,.bool false,.bool true,.int .i64 (l[k]).dflt.kind,.bool (l[k]).dflt.bool,.int .i64 (l[k]).dflt.int,.string (l[k]).dflt.str,.int .i64 (l[k]).dflt.id,.slice A1 (l[k]).dflt.keys.length c1,.slice A2 (l[k]).dflt.items.length c2,.slice A3 (l[k]).dflt.rest.length c3] 71))
       have HXB:Hid (MBox (wo.alloc (.cells #[.int .i64 (l[k]).id,.string (l[k]).name,.int .i64 (l[k]).type,.bool false,.bool true,.int .i64 (l[k]).dflt.kind,.bool (l[k]).dflt.bool,.int .i64 (l[k]).dflt.int,.string (l[k]).dflt.str,.int .i64 (l[k]).dflt.id,.slice A1 (l[k]).dflt.keys.length c1,.slice A2 (l[k]).dflt.items.length c2,.slice A3 (l[k]).dflt.rest.length c3] 71)) wo.heap.size l[k] A1 c1 A2 c2 A3 c3):=(by have:=heap_alloc_new wo (.cells #[.int .i64 (l[k]).id,.string (l[k]).name,.int .i64 (l[k]).type,.bool false,.bool true,.int .i64 (l[k]).dflt.kind,.bool (l[k]).dflt.bool,.int .i64 (l[k]).dflt.int,.string (l[k]).dflt.str,.int .i64 (l[k]).dflt.id,.slice A1 (l[k]).dflt.keys.length c1,.slice A2 (l[k]).dflt.items.length c2,.slice A3 (l[k]).dflt.rest.length c3] 71);unfold MBox;rw[HCR.out,HHD.out];exact this)
       go_loopw [8] (fun i wr=>∃j:Nat,j≤k∧i = .int .i64 j∧Hid ((∀q (hq:q<j) (hql:q<l.length),(l[q]).name≠(l[k]).name)∧Below (World.heap (wo.alloc (.cells #[.int .i64 (l[k]).id,.string (l[k]).name,.int .i64 (l[k]).type,.bool false,.bool true,.int .i64 (l[k]).dflt.kind,.bool (l[k]).dflt.bool,.int .i64 (l[k]).dflt.int,.string (l[k]).dflt.str,.int .i64 (l[k]).dflt.id,.slice A1 (l[k]).dflt.keys.length c1,.slice A2 (l[k]).dflt.items.length c2,.slice A3 (l[k]).dflt.rest.length c3] 71))).size (wo.alloc (.cells #[.int .i64 (l[k]).id,.string (l[k]).name,.int .i64 (l[k]).type,.bool false,.bool true,.int .i64 (l[k]).dflt.kind,.bool (l[k]).dflt.bool,.int .i64 (l[k]).dflt.int,.string (l[k]).dflt.str,.int .i64 (l[k]).dflt.id,.slice A1 (l[k]).dflt.keys.length c1,.slice A2 (l[k]).dflt.items.length c2,.slice A3 (l[k]).dflt.rest.length c3] 71)) wr)) (fun i _=>k - (intOf i).toNat)
       case atStart=>exact ⟨0,by omega,rfl,(fun q h _=>absurd h (by omega)),Below.refl _ _⟩
       case round =>
        obtain ⟨j,hj,rfl,hq⟩:=hrel;have HBQ:=zh (zB HBX.out hq.out.2);have HXQ:=zh (HXB.out.below hq.out.2);have x0:=HXQ.out.cell 0;have x1:=HXQ.out.cell 1;simp only[List.getElem?_toArray,List.getElem?_cons_succ,List.getElem?_cons_zero] at x0 x1
        by_cases hjk:j<k
        ·have hjl:j<l.length:=by omega
         have hjL:j<L.length:=by omega
         obtain ⟨b1,o1,B1,d1,B2,d2,B3,d3,e1,_,y0,y1,_⟩:=(HL.out.below HBQ.out).at13 hjl
         injection e1 with e1
         injection e1 with e11 e12
         subst e11;subst e12;have g1:(0:Int)≤(j:Int):=by omega
         have g2:(j:Int)<(l.length:Int):=by omega
         by_cases hsame:(l[j]).name=(l[k]).name
         ·have HD:=zh (memsD_ids (rec:=true) (l:=l) (by rw[←HLE.out];exact HS3.out j hjk (by rw[HG.out j hjl hjL];exact hsame)))
          have e5:((l[j]).name.toList==(l[k]).name.toList)=true:=by rw[zS];exact decide_eq_true hsame
          clear hsame;go_wp2
          go_quiet (fail)
          go_wp2
          go_ret
          exact ⟨by rw[HD.out];rfl,zC HBQ.out _⟩
         ·have e5:((l[j]).name.toList==(l[k]).name.toList)=false:=by rw[zS];exact decide_eq_false hsame
          have HNS:=zh hsame;clear hsame;go_wp2
          go_quiet (fail)
          go_wp2
          go_roundw
          case rel =>
           refine ⟨j+1,by omega,by go_num,(fun q hqj hql=>?_),zC hq.out.2 _⟩
           by_cases e:q=j
           ·subst e;exact HNS.out
           ·exact hq.out.1 q (by omega) hql
          case measure=>simp[intOf];omega
        ·have HOI:=zh (HMO.out HI.out HN.out (fun q hqk=>by rw[HG.out q (by omega) (by omega)];exact hq.out.1 q (by omega) (by omega)))
         go_wp2
         go_roundw
         case rel =>
          refine ⟨k+1,by omega,by go_num,(by rw[HPN.out]),HOI.out,(fun q hql hqk=>?_),HBQ.out⟩
          by_cases e:q=k
          ·subst e;exact HOK.out
          ·exact hh.out.2.1 q hql (by omega)
         case measure=>simp[intOf];omega
     | true =>
      cases hhd:(l[k]).hasDef with
      | false =>
       rw[hcr] at a3;rw[hhd] at a4;rw[hcr,hhd] at HMK;have HCR:=zh hcr;have HHD:=zh hhd;clear hcr hhd
       by_cases hb:(l[k]).dflt=zeroV
       ·have HOK:Hid (memOk true l[k]=true):=by show _=_;rw[HMK.out,decide_eq_true hb];simp
        have HZ:=zh (decide_eq_true hb);clear HST HMK hb;go_wp2_with (first|(go_at_call 133;refine (rId_any _ _ _).mono ?_;rintro e w' ⟨rfl,rfl⟩;rw[HI.out])|(go_at_call 109;refine (zW _ HSO.out _).mono ?_;rintro e w' ⟨rfl,rfl⟩;rw[HN.out])|fail);refine (rSame_all (l[k]).dflt zeroV A1 c1 A2 c2 A3 c3 none 0 none 0 none 0 _ (HR.out.dflt.below (zD _ _)) (valR_zero _)).mono ?_;rintro e w7 ⟨rfl,hb7⟩;rw[HZ.out]
        have HB7:=zh hb7;clear hb7;go_wp2;have HBX:=zh (zB HBO.out (below_alloc HB7.out))
        have HXB:Hid (MBox w7 wo.heap.size l[k] A1 c1 A2 c2 A3 c3):=MBox.below ((by have:=heap_alloc_new wo (.cells #[.int .i64 (l[k]).id,.string (l[k]).name,.int .i64 (l[k]).type,.bool true,.bool false,.int .i64 (l[k]).dflt.kind,.bool (l[k]).dflt.bool,.int .i64 (l[k]).dflt.int,.string (l[k]).dflt.str,.int .i64 (l[k]).dflt.id,.slice A1 (l[k]).dflt.keys.length c1,.slice A2 (l[k]).dflt.items.length c2,.slice A3 (l[k]).dflt.rest.length c3] 71);unfold MBox;rw[HCR.out,HHD.out];exact this)) HB7.out
        go_loopw [8] (fun i wr=>∃j:Nat,j≤k∧i = .int .i64 j∧Hid ((∀q (hq:q<j) (hql:q<l.length),(l[q]).name≠(l[k]).name)∧Below (World.heap w7).size w7 wr)) (fun i _=>k - (intOf i).toNat)
        case atStart=>exact ⟨0,by omega,rfl,(fun q h _=>absurd h (by omega)),Below.refl _ _⟩
        case round =>
         obtain ⟨j,hj,rfl,hq⟩:=hrel;have HBQ:=zh (zB HBX.out hq.out.2);have HXQ:=zh (HXB.out.below hq.out.2);have x0:=HXQ.out.cell 0;have x1:=HXQ.out.cell 1;simp only[List.getElem?_toArray,List.getElem?_cons_succ,List.getElem?_cons_zero] at x0 x1
         by_cases hjk:j<k
         ·have hjl:j<l.length:=by omega
          have hjL:j<L.length:=by omega
          obtain ⟨b1,o1,B1,d1,B2,d2,B3,d3,e1,_,y0,y1,_⟩:=(HL.out.below HBQ.out).at13 hjl
          injection e1 with e1
          injection e1 with e11 e12
          subst e11;subst e12;have g1:(0:Int)≤(j:Int):=by omega
          have g2:(j:Int)<(l.length:Int):=by omega
          by_cases hsame:(l[j]).name=(l[k]).name
          ·have HD:=zh (memsD_ids (rec:=true) (l:=l) (by rw[←HLE.out];exact HS3.out j hjk (by rw[HG.out j hjl hjL];exact hsame)))
           have e5:((l[j]).name.toList==(l[k]).name.toList)=true:=by rw[zS];exact decide_eq_true hsame
           clear hsame;go_wp2
           go_quiet (fail)
           go_wp2
           go_ret
           exact ⟨by rw[HD.out];rfl,zC HBQ.out _⟩
          ·have e5:((l[j]).name.toList==(l[k]).name.toList)=false:=by rw[zS];exact decide_eq_false hsame
           have HNS:=zh hsame;clear hsame;go_wp2
           go_quiet (fail)
           go_wp2
           go_roundw
           case rel =>
            refine ⟨j+1,by omega,by go_num,(fun q hqj hql=>?_),zC hq.out.2 _⟩
            by_cases e:q=j
            ·subst e;exact HNS.out
            ·exact hq.out.1 q (by omega) hql
           case measure=>simp[intOf];omega
         ·have HOI:=zh (HMO.out HI.out HN.out (fun q hqk=>by rw[HG.out q (by omega) (by omega)];exact hq.out.1 q (by omega) (by omega)))
          go_wp2
          go_roundw
          case rel =>
           refine ⟨k+1,by omega,by go_num,(by rw[HPN.out]),HOI.out,(fun q hql hqk=>?_),HBQ.out⟩
           by_cases e:q=k
           ·subst e;exact HOK.out
           ·exact hh.out.2.1 q hql (by omega)
          case measure=>simp[intOf];omega
       ·have HD:=zh (HST.out (by rw[HMK.out,decide_eq_false hb];simp))
        have HZ:=zh (decide_eq_false hb);clear HST HMK hb;go_wp2_with (first|(go_at_call 133;refine (rId_any _ _ _).mono ?_;rintro e w' ⟨rfl,rfl⟩;rw[HI.out])|(go_at_call 109;refine (zW _ HSO.out _).mono ?_;rintro e w' ⟨rfl,rfl⟩;rw[HN.out])|fail);refine (rSame_all (l[k]).dflt zeroV A1 c1 A2 c2 A3 c3 none 0 none 0 none 0 _ (HR.out.dflt.below (zD _ _)) (valR_zero _)).mono ?_;rintro e w7 ⟨rfl,hb7⟩;rw[HZ.out]
        go_wp2
        go_ret
        exact ⟨by rw[HD.out];rfl,zB HBO.out (below_alloc hb7)⟩
      | true =>
       rw[hcr] at a3;rw[hhd] at a4;rw[hcr,hhd] at HMK;have HD:=zh (HST.out (by rw[HMK.out];simp))
       clear HST HMK hcr hhd;go_wp2_with (first|(go_at_call 133;refine (rId_any _ _ _).mono ?_;rintro e w' ⟨rfl,rfl⟩;rw[HI.out])|(go_at_call 109;refine (zW _ HSO.out _).mono ?_;rintro e w' ⟨rfl,rfl⟩;rw[HN.out])|fail);go_ret;exact ⟨by rw[HD.out];rfl,HBO.out.alloc HBO.out.size _⟩
  ·have HOK:Hid (idsD L=decide (L.length≤16)):=by
    have:=hh.out.1;rw[List.take_of_length_le (by rw[HLL.out];omega)] at this
    show _=_
    unfold idsD;rw[this];simp
   have HD0:=zh (mems_all (rec:=true) fun j hj=>hh.out.2.1 j hj (by omega))
   rw[←HLE.out,HOK.out,HLL.out] at HD0
   by_cases h16:l.length≤16
   ·have HD:=zh (show memsD true l=true by rw[HD0.out];simp[h16])
    go_wp2
    go_ret
    exact ⟨by rw[HD.out];rfl,HBO.out⟩
   ·have HD:=zh (show memsD true l=false by rw[HD0.out];simp[h16])
    go_wp2
    go_ret
    exact ⟨by rw[HD.out];rfl,HBO.out⟩
theorem rMems_false (l:List MemD) (A:zo) (c:Nat) (w:World) (hl:MemsR w A l) :
  Calls Tryz.prog 111 #[.slice A l.length c,.bool false] w (SamePost (memsD false l) w):=by
 have hn:=hl.1.lt (by omega)
 have HL:=zh hl;clear hl;obtain ⟨L,hL⟩:∃L,L=l.map fun s=>(s.id,s.name):=⟨_,rfl⟩
 have HLE:=zh hL;have HLL:Hid (L.length=l.length):=by rw[hL,List.length_map];exact rfl
 have HG:Hid (∀k (h:k<l.length) (h':k<L.length),L[k]=((l[k]).id,(l[k]).name)):=fun k h h'=>by simp[hL]
 clear hL
 go_enter Tryz.func111,Tryz.ntmps111
 go_wp2
 go_loopw [6,5] (fun i b wr=>∃k:Nat,k≤l.length∧i = .int .i64 k∧b = .int .i64 (prevI L k)∧Hid (idsOk 0 [] (L.take k)=true∧(∀j (hj:j<l.length),j<k→memOk false l[j]=true)∧Below w.heap.size w wr)) (fun i _ _=>l.length - (intOf i).toNat)
 case atStart=>exact ⟨0,by omega,rfl,rfl,rfl,(fun j _ h=>absurd h (by omega)),Below.refl _ _⟩
 case round =>
  obtain ⟨k,hk,rfl,rfl,hh⟩:=hrel;obtain ⟨wo,rfl⟩:∃wo:World,wo=wr:=⟨_,rfl⟩;have HBO:=zh hh.out.2.2
  by_cases hlt:k<l.length
  ·have hkL:k<L.length:=by rw[HLL.out];exact hlt
   obtain ⟨b,o,A1,c1,A2,c2,A3,c3,rfl,hr1,a0,a1,a2,a3,a4,a5,a6,a7,a8,a9,a10,a11,a12⟩:=(HL.out.below HBO.out).at13 hlt;have HR:=zh hr1;have HSO:=zh hr1.name;have h1:(0:Int)≤(k:Int):=by omega
   have h2:(k:Int)<(l.length:Int):=by omega
   have hz1:=zN a0;simp only at hz1;have HGK:=zh (HG.out k hlt hkL);have HPN:=zh (prevI_next hkL);rw[HGK.out] at HPN;have HS1:=zh (fun h=>ids_stop_id hkL h)
   have HS2:=zh (fun h=>ids_stop_name hkL h)
   have HS3:=zh (fun (j:Nat) (hj:j<k) h=>ids_stop_dup hkL hj h)
   have HMO:=zh (fun a b c=>ids_more hkL hh.out.1 a b c)
   rw[HGK.out] at HS1 HS2 HS3 HMO;have HST:=zh (fun h=>mems_stop (rec:=false) hlt h)
   have HMK:=zh (show memOk false l[k]=((false || !((l[k]).critical||(l[k]).hasDef)) && !((l[k]).critical&&(l[k]).hasDef)&&((l[k]).hasDef||decide ((l[k]).dflt=zeroV))) from rfl);clear hr1;obtain ⟨pv,hpv⟩:∃pv,pv=prevI L k:=⟨_,rfl⟩;rw[←hpv] at HS1 HMO ⊢;clear hpv;have HB3:=zh (HBO.out.alloc HBO.out.size ((l[k]).box A1 c1 A2 c2 A3 c3))
   cases hid:idB pv (l[k]).id with
   | false =>
    have HI:=zh hid;have HD:=zh (memsD_ids (rec:=false) (l:=l) (by rw[←HLE.out];exact HS1.out hid))
    clear hid;go_wp2_with (go_at_call 133;refine (rId_any _ _ _).mono ?_;rintro e w' ⟨rfl,rfl⟩;rw[HI.out]);go_ret;exact ⟨by rw[HD.out];rfl,HB3.out⟩
   | true =>
    have HI:=zh hid
    cases hnm:nameB (l[k]).name with
    | false =>
     have HN:=zh hnm;have HD:=zh (memsD_ids (rec:=false) (l:=l) (by rw[←HLE.out];exact HS2.out hnm))
     clear hid hnm;go_wp2_with (first|(go_at_call 133;refine (rId_any _ _ _).mono ?_;rintro e w' ⟨rfl,rfl⟩;rw[HI.out])|(go_at_call 109;refine (zW _ HSO.out _).mono ?_;rintro e w' ⟨rfl,rfl⟩;rw[HN.out])|fail);go_ret;exact ⟨by rw[HD.out];rfl,HB3.out⟩
    | true =>
     have HN:=zh hnm;clear hid hnm
     cases hcr:(l[k]).critical with
     | false =>
      cases hhd:(l[k]).hasDef with
      | false =>
       rw[hcr] at a3;rw[hhd] at a4;rw[hcr,hhd] at HMK;have HCR:=zh hcr;have HHD:=zh hhd;clear hcr hhd
       by_cases hb:(l[k]).dflt=zeroV
       ·have HOK:Hid (memOk false l[k]=true):=by show _=_;rw[HMK.out,decide_eq_true hb];simp
        have HZ:=zh (decide_eq_true hb);clear HST HMK hb;go_wp2_with (first|(go_at_call 133;refine (rId_any _ _ _).mono ?_;rintro e w' ⟨rfl,rfl⟩;rw[HI.out])|(go_at_call 109;refine (zW _ HSO.out _).mono ?_;rintro e w' ⟨rfl,rfl⟩;rw[HN.out])|fail);refine (rSame_all (l[k]).dflt zeroV A1 c1 A2 c2 A3 c3 none 0 none 0 none 0 _ (HR.out.dflt.below (zD _ _)) (valR_zero _)).mono ?_;rintro e w7 ⟨rfl,hb7⟩;rw[HZ.out]
        have HB7:=zh hb7;clear hb7;go_wp2;have HBX:=zh (zB HBO.out (below_alloc HB7.out))
        have HXB:Hid (MBox w7 wo.heap.size l[k] A1 c1 A2 c2 A3 c3):=MBox.below ((by have:=heap_alloc_new wo (.cells #[.int .i64 (l[k]).id,.string (l[k]).name,.int .i64 (l[k]).type,.bool false,.bool false,.int .i64 (l[k]).dflt.kind,.bool (l[k]).dflt.bool,.int .i64 (l[k]).dflt.int,.string (l[k]).dflt.str,.int .i64 (l[k]).dflt.id,.slice A1 (l[k]).dflt.keys.length c1,.slice A2 (l[k]).dflt.items.length c2,.slice A3 (l[k]).dflt.rest.length c3] 71);unfold MBox;rw[HCR.out,HHD.out];exact this)) HB7.out
        go_loopw [8] (fun i wr=>∃j:Nat,j≤k∧i = .int .i64 j∧Hid ((∀q (hq:q<j) (hql:q<l.length),(l[q]).name≠(l[k]).name)∧Below (World.heap w7).size w7 wr)) (fun i _=>k - (intOf i).toNat)
        case atStart=>exact ⟨0,by omega,rfl,(fun q h _=>absurd h (by omega)),Below.refl _ _⟩
        case round =>
         obtain ⟨j,hj,rfl,hq⟩:=hrel;have HBQ:=zh (zB HBX.out hq.out.2);have HXQ:=zh (HXB.out.below hq.out.2);have x0:=HXQ.out.cell 0;have x1:=HXQ.out.cell 1;simp only[List.getElem?_toArray,List.getElem?_cons_succ,List.getElem?_cons_zero] at x0 x1
         by_cases hjk:j<k
         ·have hjl:j<l.length:=by omega
          have hjL:j<L.length:=by omega
          obtain ⟨b1,o1,B1,d1,B2,d2,B3,d3,e1,_,y0,y1,_⟩:=(HL.out.below HBQ.out).at13 hjl
          injection e1 with e1
          injection e1 with e11 e12
          subst e11;subst e12;have g1:(0:Int)≤(j:Int):=by omega
          have g2:(j:Int)<(l.length:Int):=by omega
          by_cases hsame:(l[j]).name=(l[k]).name
          ·have HD:=zh (memsD_ids (rec:=false) (l:=l) (by rw[←HLE.out];exact HS3.out j hjk (by rw[HG.out j hjl hjL];exact hsame)))
           have e5:((l[j]).name.toList==(l[k]).name.toList)=true:=by rw[zS];exact decide_eq_true hsame
           clear hsame;go_wp2
           go_quiet (fail)
           go_wp2
           go_ret
           exact ⟨by rw[HD.out];rfl,zC HBQ.out _⟩
          ·have e5:((l[j]).name.toList==(l[k]).name.toList)=false:=by rw[zS];exact decide_eq_false hsame
           have HNS:=zh hsame;clear hsame;go_wp2
           go_quiet (fail)
           go_wp2
           go_roundw
           case rel =>
            refine ⟨j+1,by omega,by go_num,(fun q hqj hql=>?_),zC hq.out.2 _⟩
            by_cases e:q=j
            ·subst e;exact HNS.out
            ·exact hq.out.1 q (by omega) hql
           case measure=>simp[intOf];omega
         ·have HOI:=zh (HMO.out HI.out HN.out (fun q hqk=>by rw[HG.out q (by omega) (by omega)];exact hq.out.1 q (by omega) (by omega)))
          go_wp2
          go_roundw
          case rel =>
           refine ⟨k+1,by omega,by go_num,(by rw[HPN.out]),HOI.out,(fun q hql hqk=>?_),HBQ.out⟩
           by_cases e:q=k
           ·subst e;exact HOK.out
           ·exact hh.out.2.1 q hql (by omega)
          case measure=>simp[intOf];omega
       ·have HD:=zh (HST.out (by rw[HMK.out,decide_eq_false hb];simp))
        have HZ:=zh (decide_eq_false hb);clear HST HMK hb;go_wp2_with (first|(go_at_call 133;refine (rId_any _ _ _).mono ?_;rintro e w' ⟨rfl,rfl⟩;rw[HI.out])|(go_at_call 109;refine (zW _ HSO.out _).mono ?_;rintro e w' ⟨rfl,rfl⟩;rw[HN.out])|fail);refine (rSame_all (l[k]).dflt zeroV A1 c1 A2 c2 A3 c3 none 0 none 0 none 0 _ (HR.out.dflt.below (zD _ _)) (valR_zero _)).mono ?_;rintro e w7 ⟨rfl,hb7⟩;rw[HZ.out]
        go_wp2
        go_ret
        exact ⟨by rw[HD.out];rfl,zB HBO.out (below_alloc hb7)⟩
      | true =>
       rw[hcr] at a3;rw[hhd] at a4;rw[hcr,hhd] at HMK;have HD:=zh (HST.out (by rw[HMK.out];simp))
       clear HST HMK hcr hhd;go_wp2_with (first|(go_at_call 133;refine (rId_any _ _ _).mono ?_;rintro e w' ⟨rfl,rfl⟩;rw[HI.out])|(go_at_call 109;refine (zW _ HSO.out _).mono ?_;rintro e w' ⟨rfl,rfl⟩;rw[HN.out])|fail);go_ret;exact ⟨by rw[HD.out];rfl,HBO.out.alloc HBO.out.size _⟩
     | true =>
      cases hhd:(l[k]).hasDef with
      | false =>
       rw[hcr] at a3;rw[hhd] at a4;rw[hcr,hhd] at HMK;have HD:=zh (HST.out (by rw[HMK.out];simp))
       clear HST HMK hcr hhd;go_wp2_with (first|(go_at_call 133;refine (rId_any _ _ _).mono ?_;rintro e w' ⟨rfl,rfl⟩;rw[HI.out])|(go_at_call 109;refine (zW _ HSO.out _).mono ?_;rintro e w' ⟨rfl,rfl⟩;rw[HN.out])|fail);go_ret;exact ⟨by rw[HD.out];rfl,HBO.out.alloc HBO.out.size _⟩
      | true =>
       rw[hcr] at a3;rw[hhd] at a4;rw[hcr,hhd] at HMK;have HD:=zh (HST.out (by rw[HMK.out];simp))
       clear HST HMK hcr hhd;go_wp2_with (first|(go_at_call 133;refine (rId_any _ _ _).mono ?_;rintro e w' ⟨rfl,rfl⟩;rw[HI.out])|(go_at_call 109;refine (zW _ HSO.out _).mono ?_;rintro e w' ⟨rfl,rfl⟩;rw[HN.out])|fail);go_ret;exact ⟨by rw[HD.out];rfl,HBO.out.alloc HBO.out.size _⟩
  ·have HOK:Hid (idsD L=decide (L.length≤16)):=by
    have:=hh.out.1;rw[List.take_of_length_le (by rw[HLL.out];omega)] at this
    show _=_
    unfold idsD;rw[this];simp
   have HD0:=zh (mems_all (rec:=false) fun j hj=>hh.out.2.1 j hj (by omega))
   rw[←HLE.out,HOK.out,HLL.out] at HD0
   by_cases h16:l.length≤16
   ·by_cases hz:l.length<1
    ·have HD:=zh (show memsD false l=false by
      have:l=[]:=List.eq_nil_of_length_eq_zero (by omega)
      rw[HD0.out,this];simp)
     go_wp2
     go_ret
     exact ⟨by rw[HD.out];simp;omega,HBO.out⟩
    ·have HD:=zh (show memsD false l=true by
      have:l≠[]:=fun e=>by rw[e] at hz;simp at hz
      rw[HD0.out];simp[h16,this])
     have hz':1≤l.length:=by omega
     go_wp2
     go_ret
     exact ⟨by rw[HD.out];simp;omega,HBO.out⟩
   ·have HD:=zh (show memsD false l=false by rw[HD0.out];simp[h16])
    go_wp2
    go_ret
    exact ⟨by rw[HD.out];rfl,HBO.out⟩
end Go.Proofs.YtdfolgmcggdjdaaGreatDoor


