/-
  Walks: when a schema is valid, in the reference.
-/
import Derived.Test.YtdfolgmcggdjdaaGreatDoorQRV4
namespace Go.Proofs.YtdfolgmcggdjdaaGreatDoor
open Go.RowKit
set_option maxHeartbeats 16000000
set_option maxRecDepth 100000
theorem named_name {t:TyD} (h:formD t=true):zL t.kind=decide (t.name≠⟨#[]⟩):=by
 unfold formD at h;simp only[Bool.and_eq_true,decide_eq_true_eq,Bool.or_eq_true,Bool.not_eq_true'] at h;obtain ⟨⟨⟨⟨_,_⟩,hp⟩,hn⟩,_⟩:=h
 cases hk:zL t.kind with
 | true =>
  rcases hn with hn|hn
  ·rw[hk] at hn;cases hn
  ·have:t.name≠⟨#[]⟩:=fun e=>by rw[e] at hn;exact absurd hn (by decide)
   simp[this]
 | false =>
  have:t.name=⟨#[]⟩:=by
   rw[hp];simp only[zL,Bool.or_eq_false_iff,decide_eq_false_iff_not] at hk;unfold zV
   repeat' split
   all_goals first|rfl|omega
  simp[this]
theorem rtyErr_dup {s:List TyD} {k j:Nat} (hk:k<s.length) (hj:j<k) (hn:zL (s[k]).kind=true) (hf:formD s[k]=true) (h:(s[j]'(by omega)).name=(s[k]).name):tyErr s ((s.take k).map (·.name)) s[k]=1:=by
 rw[named_name hf] at hn;refine tyErr_name (of_decide_eq_true hn) ?_;rw[memD_iff,←h];refine List.mem_map.2 ⟨s[j]'(by omega),?_,rfl⟩
 rw[List.mem_take_iff_getElem];exact ⟨j,by omega,rfl⟩
theorem rname_ok {s:List TyD} {k:Nat} (hk:k<s.length) (hf:formD s[k]=true) (h:zL (s[k]).kind=true→∀j (hj:j<k),(s[j]'(by omega)).name≠(s[k]).name):(s[k]).name=⟨#[]⟩∨memD (s[k]).name ((s.take k).map (·.name))=false:=by
 rw[named_name hf] at h
 by_cases e:(s[k]).name=⟨#[]⟩
 ·exact .inl e
 right
 cases hm:memD (s[k]).name ((s.take k).map (·.name)) with
 | false=>rfl
 | true =>
  rw[memD_iff] at hm;obtain ⟨x,hx,hxe⟩:=List.mem_map.1 hm;rw[List.mem_take_iff_getElem] at hx;obtain ⟨j,hj,rfl⟩:=hx;exact absurd hxe (h (by simp[e]) j (by omega))
theorem rValid_any (s:List TyD) (A:zo) (c:Nat) (w:World) (hs:TysR w A s) :
  Calls Tryz.prog 48 #[.agg #[.slice A s.length c]] w (IntPost (zJ s) w):=by
 have hn:=hs.1.lt (by omega)
 have HS:=zh hs;clear hs
 by_cases hbig:32<s.length
 ·have HD:=zh (show zJ s=3 by unfold zJ;rw[if_pos hbig])
  go_enter Tryz.func48,Tryz.ntmps48
  go_wp2
  go_ret
  exact ⟨by rw[HD.out];rfl,zD _ _⟩
 have HE0:=zh (show zJ s=errAt s 0 by unfold zJ;rw[if_neg hbig];rfl)
 have hle:s.length≤32:=by omega
 go_enter Tryz.func48,Tryz.ntmps48
 go_wp2
 clear hbig;have HS1:=zh (HS.out.below (zD w (.cells #[.slice A s.length c] 27)));have HB1:=zh (zD w (.cells #[.slice A s.length c] 27));have HC1:Hid ((w.alloc (.cells #[.slice A s.length c] 27)).cell? ⟨w.heap.size,0,none⟩=some (.slice A s.length c)):=by show _=_;rw[cell_of_row _ _ _ _ _ _ (heap_alloc_new w _)];rfl
 have HZ1:Hid (w.heap.size<(w.alloc (.cells #[.slice A s.length c] 27)).heap.size):=by show _<_;simp
 generalize w.alloc (.cells #[.slice A s.length c] 27)=W1 at *
 go_loopw [3] (fun i wr=>∃k:Nat,k≤s.length∧i = .int .i64 k∧Hid (zJ s=errAt s k∧Below W1.heap.size W1 wr)) (fun i _=>s.length - (intOf i).toNat)
 case atStart=>exact ⟨0,by omega,rfl,HE0.out,Below.refl _ _⟩
 case round =>
  obtain ⟨k,hk,rfl,hh⟩:=hrel;obtain ⟨wo,rfl⟩:∃wo:World,wo=wr:=⟨_,rfl⟩;have sc0:=zA hh.out.2 HC1.out;have hzw:w.heap.size<wo.heap.size:=Nat.lt_of_lt_of_le HZ1.out hh.out.2.size
  by_cases hlt:k<s.length
  ·obtain ⟨b,o,As,cs,Am,cm,rfl,hr1,a0,a1,a2,a3,a4,a5,a6,a7,a8,a9⟩:=HS1.out.at10 hlt
   have HRT:=zh hr1;clear hr1;replace a0:=zA hh.out.2 a0;replace a1:=zA hh.out.2 a1;replace a2:=zA hh.out.2 a2;replace a3:=zA hh.out.2 a3;replace a4:=zA hh.out.2 a4;replace a5:=zA hh.out.2 a5;replace a6:=zA hh.out.2 a6;replace a7:=zA hh.out.2 a7;replace a8:=zA hh.out.2 a8;replace a9:=zA hh.out.2 a9;have h1:(0:Int)≤(k:Int):=by omega
   have h2:(k:Int)<(s.length:Int):=by omega
   have hz1:=zN a0;simp only at hz1;have HST:=zh (fun h=>hh.out.1.trans (errAt_stop hlt h))
   have HNX:=zh (fun h=>hh.out.1.trans (errAt_next hlt h))
   have HDU:=zh (fun (j:Nat) (hj:j<k) hn hf h=>rtyErr_dup hlt hj hn hf h)
   have HNO:=zh (fun hf h=>rname_ok hlt hf h)
   have HGE:Hid (∀j (hj:j<s.length),j=k→s[j]=s[k]):=fun j hj e=>by subst e;rfl
   generalize s[k]=t at *;clear HGE;have HTB:Hid (TBox (wo.alloc (t.box As cs Am cm)) wo.heap.size t As cs Am cm):=heap_alloc_new wo (t.box As cs Am cm);have HBA:=zh (hh.out.2.alloc hh.out.2.size (t.box As cs Am cm));generalize (s.take k).map (·.name)=K at *
   cases hf:formD t with
   | false =>
    have HF:=zh hf;have HD:=zh (HST.out (by rw[tyErr_form hf];decide))
    rw[tyErr_form hf] at HD;clear hf HST HNX;go_wp2_with fail;refine (own_any t As cs Am cm _ (HRT.out.below HBA.out)).mono ?_;rintro e w2 ⟨rfl,hb2⟩;rw[HF.out];go_wp2;go_ret;exact ⟨by rw[HD.out];rfl,zB HB1.out (zB HBA.out hb2)⟩
   | true =>
    have HF:=zh hf;have hk9:=form_le hf;clear hf;go_wp2_with fail;refine (own_any t As cs Am cm _ (HRT.out.below HBA.out)).mono ?_;rintro e w2 ⟨rfl,hb2⟩;rw[HF.out];have HTB2:=zh (HTB.out.below hb2);have HB2:=zh (zB HBA.out hb2);clear hb2 a0 a1 a2 a3 a4 a5 a6 a7 a8 a9 sc0;go_wp2
    go_loopw [5] (fun i wr=>∃j:Nat,j≤k∧i = .int .i64 j∧Hid ((zL t.kind=true→∀q (hq:q<j) (hql:q<s.length),(s[q]).name≠t.name)∧Below w2.heap.size w2 wr)) (fun i _=>k - (intOf i).toNat)
    case atStart=>exact ⟨0,by omega,rfl,(fun _ q h _=>absurd h (by omega)),Below.refl _ _⟩
    case round =>
     obtain ⟨j,hj,rfl,hq⟩:=hrel;obtain ⟨wp,rfl⟩:∃wp:World,wp=wr:=⟨_,rfl⟩;have HBQ:=zh (zB HB2.out hq.out.2);have HTQ:=zh (HTB2.out.below hq.out.2);have sc1:=zA HBQ.out HC1.out;have r0:=HTQ.out.cell 0;have r1:=HTQ.out.cell 1;have r2:=HTQ.out.cell 2;have r3:=HTQ.out.cell 3;have r4:=HTQ.out.cell 4;have r5:=HTQ.out.cell 5;have r6:=HTQ.out.cell 6;have r7:=HTQ.out.cell 7;have r8:=HTQ.out.cell 8
     have r9:=HTQ.out.cell 9;simp only[List.getElem?_toArray,List.getElem?_cons_succ,List.getElem?_cons_zero] at r0 r1 r2 r3 r4 r5 r6 r7 r8 r9
     by_cases hjk:j<k
     ·have hjl:j<s.length:=by omega
      obtain ⟨b6,o6,As6,cs6,Am6,cm6,e6,_,d0,d1,_⟩:=(HS1.out.below HBQ.out).at10 hjl
      injection e6 with e6
      injection e6 with e61 e62
      subst e61;subst e62;have g1:(0:Int)≤(j:Int):=by omega
      have g2:(j:Int)<(s.length:Int):=by omega
      cases hnm:zL t.kind with
      | false =>
       have HNM:=zh hnm;clear hnm;go_wp2;refine wp_region_held_drew (S:=(fun w'=>(w'.cell? ⟨wo.heap.size,0,none⟩=some (.int .i64 t.kind))∧Hid (Below wp.heap.size wp w'))) (by kernel_rfl) ?_ (fun zH_=>?_)
       ·(try dsimp only);exact ⟨r0,zC (Below.refl _ _) 1⟩
       refine tL 0 ?_;refine tL 1 ?_;refine tR 2 (fun K hK=>?_)
       go_simp
       (refine (rNamed_any _ _).mono ?_;rintro e w5 ⟨rfl,rfl⟩;rw[HNM.out])
       refine hK.out _ _ ?_ (fun zH_=>?_)
       ·(try dsimp only);exact zH_
       clear hK K;refine tL 3 ?_;refine tU 4 ?_;refine tU 5 ?_;try simp only[ps]
       refine tU 6 ?_;refine tU 7 ?_;refine tU 8 ?_;refine tU 9 ?_;refine tU 10 ?_;refine tU 11 ?_;try simp only[ps]
       refine tU 12 ?_;refine tL 13 ?_;refine wpAnyH_done (by kernel_rfl) ?_ _
       have HBE:=zh zH_.2.out;clear zH_;go_wp2;go_roundw
       case rel=>exact ⟨j+1,by omega,by go_num,(fun h=>by cases h),zB hq.out.2 HBE.out⟩
       case measure=>simp[intOf];omega
      | true =>
       have HNM:=zh hnm;clear hnm
       by_cases hsame:(s[j]).name=t.name
       ·have HTE:=zh (HDU.out j hjk HNM.out HF.out hsame)
        have HD:=zh (HST.out (by rw[HTE.out];decide))
        rw[HTE.out] at HD;have e5:((s[j]).name.toList==t.name.toList)=true:=by rw[zS];exact decide_eq_true hsame
        clear hsame;go_wp2;refine wp_region_held_drew (S:=(fun w'=>(w'.cell? ⟨wo.heap.size,0,none⟩=some (.int .i64 t.kind)∧w'.cell? ⟨wo.heap.size,1,none⟩=some (.string t.name)∧w'.cell? ⟨w.heap.size,0,none⟩=some (.slice (some ⟨b,o,none⟩) s.length c)∧w'.cell? ⟨b,o+j * 10+1,none⟩=some (.string (s[j]).name))∧Hid (Below wp.heap.size wp w'))) (by kernel_rfl) ?_ (fun zH_=>?_)
        ·(try dsimp only);exact ⟨⟨r0,r1,sc1,d1⟩,zC (Below.refl _ _) 1⟩
        refine tL 0 ?_;refine tL 1 ?_;refine tR 2 (fun K hK=>?_)
        go_simp
        (refine (rNamed_any _ _).mono ?_;rintro e w5 ⟨rfl,rfl⟩;rw[HNM.out])
        refine hK.out _ _ ?_ (fun zH_=>?_)
        ·(try dsimp only);exact zH_
        clear hK K;refine tL 3 ?_;try simp only[ps]
        refine tL 4 ?_;refine tL 5 ?_;refine tL 6 ?_;refine tL 7 ?_;refine tL 8 ?_;refine tL 9 ?_;try simp only[ps]
        refine tL 10 ?_;refine tL 11 ?_;refine tL 12 ?_;refine tL 13 ?_;refine wpAnyH_done (by kernel_rfl) ?_ _
        have HBE:=zh zH_.2.out;clear zH_;go_wp2;go_ret;exact ⟨by rw[HD.out];rfl,zB HB1.out (zB HBQ.out HBE.out)⟩
       ·have e5:((s[j]).name.toList==t.name.toList)=false:=by rw[zS];exact decide_eq_false hsame
        have HNS:=zh hsame;clear hsame;go_wp2;refine wp_region_held_drew (S:=(fun w'=>(w'.cell? ⟨wo.heap.size,0,none⟩=some (.int .i64 t.kind)∧w'.cell? ⟨wo.heap.size,1,none⟩=some (.string t.name)∧w'.cell? ⟨w.heap.size,0,none⟩=some (.slice (some ⟨b,o,none⟩) s.length c)∧w'.cell? ⟨b,o+j * 10+1,none⟩=some (.string (s[j]).name))∧Hid (Below wp.heap.size wp w'))) (by kernel_rfl) ?_ (fun zH_=>?_)
        ·(try dsimp only);exact ⟨⟨r0,r1,sc1,d1⟩,zC (Below.refl _ _) 1⟩
        refine tL 0 ?_;refine tL 1 ?_;try simp only[ps]
        refine tR 2 (fun K hK=>?_)
        go_simp
        (refine (rNamed_any _ _).mono ?_;rintro e w5 ⟨rfl,rfl⟩;rw[HNM.out])
        refine hK.out _ _ ?_ (fun zH_=>?_)
        ·(try dsimp only);exact zH_
        clear hK K;refine tL 3 ?_;refine tL 4 ?_;refine tL 5 ?_;refine tL 6 ?_;refine tL 7 ?_;try simp only[ps]
        refine tL 8 ?_;refine tL 9 ?_;refine tL 10 ?_;refine tL 11 ?_;refine tL 12 ?_;refine tL 13 ?_;try simp only[ps]
        refine wpAnyH_done (by kernel_rfl) ?_ _
        have HBE:=zh zH_.2.out;clear zH_;go_wp2;go_roundw
        case rel =>
         refine ⟨j+1,by omega,by go_num,(fun h q hqj hql=>?_),zB hq.out.2 HBE.out⟩
         by_cases e:q=j
         ·subst e;exact HNS.out
         ·exact hq.out.1 HNM.out q (by omega) hql
        case measure=>simp[intOf];omega
     ·have HN0:=zh (HNO.out HF.out (fun h q hqk=>hq.out.1 h q (by omega) (by omega)))
      have HUS:=zh (fun (j:Nat) (hj:j<(toD t).length) (hu:(toD t)[j]<0∨(s.length:Int)≤(toD t)[j])=>tyErr_use (s:=s) (K:=K) HF.out HN0.out hj hu)
      have HRS:=zh (fun hu=>tyErr_rest (s:=s) (K:=K) HF.out HN0.out hu)
      go_wp2_with fail
      refine (rUses7_any t As cs Am cm _ (HRT.out.below HBQ.out)).mono ?_;rintro e w4 ⟨v4,rfl,ho4,hb4⟩;have HB4:=zh (zB HBQ.out hb4);have HTB4:=zh (HTQ.out.below hb4);have hul:=toD_len t HRT.out.mems.1;obtain ⟨A4,c4,rfl,hr4⟩:=OwnI.ints ho4 (by unfold Lim;omega)
      have HR4:=zh hr4;clear hb4 ho4 hr4 r0 r1 r2 r3 r4 r5 r6 r7 r8 r9 sc1;go_wp2
      go_loopw [7] (fun i wr=>∃j:Nat,j≤(toD t).length∧i = .int .i64 j∧Hid ((∀q (hq:q<(toD t).length),q<j→0≤(toD t)[q]∧(toD t)[q]<(s.length:Int))∧Below w4.heap.size w4 wr)) (fun i _=>(toD t).length - (intOf i).toNat)
      case atStart=>exact ⟨0,by omega,rfl,(fun q _ h=>absurd h (by omega)),Below.refl _ _⟩
      case round =>
       obtain ⟨j,hj,rfl,hin⟩:=hrel;have HB5:=zh (zB HB4.out hin.out.2);have HTB5:=zh (HTB4.out.below hin.out.2);have sc:=zA HB5.out HC1.out
       by_cases hjl:j<(toD t).length
       ·obtain ⟨b5,o5,rfl,u0⟩:=(HR4.out.below hin.out.2).at1 hjl
        have g1:(0:Int)≤(j:Int):=by omega
        have g2:(j:Int)<((toD t).length:Int):=by omega
        have HUJ:=zh (HUS.out j hjl);have HIN:Hid (0≤(toD t)[j]∧(toD t)[j]<(s.length:Int)→∀q (hq:q<(toD t).length),q<j+1→0≤(toD t)[q]∧(toD t)[q]<(s.length:Int)):=fun h q hq hqj=>by
         by_cases e:q=j
         ·subst e;exact h
         ·exact hin.out.1 q hq (by omega)
        generalize (toD t)[j]=u at *
        by_cases hneg:u<0
        ·have HD:=zh (HST.out (by rw[HUJ.out (.inl hneg)];decide))
         rw[HUJ.out (.inl hneg)] at HD;have hneg':decide (u<0)=true:=by simpa using hneg
         go_wp2
         go_quiet (fail)
         go_wp2
         go_ret
         exact ⟨by rw[HD.out];rfl,zB HB1.out (zC HB5.out _)⟩
        have hneg':decide (u<0)=false:=by simpa using hneg
        by_cases hge:(s.length:Int)≤u
        ·have HD:=zh (HST.out (by rw[HUJ.out (.inr hge)];decide))
         rw[HUJ.out (.inr hge)] at HD;go_wp2
         go_quiet (fail)
         go_wp2
         go_ret
         exact ⟨by rw[HD.out];rfl,zB HB1.out (zC HB5.out _)⟩
        have hge':decide ((s.length:Int)≤u)=false:=by simpa using hge
        go_wp2
        go_quiet (fail)
        go_wp2
        go_roundw
        case rel=>exact ⟨j+1,by omega,by go_num,HIN.out ⟨by omega,by omega⟩,zC hin.out.2 _⟩
        case measure=>simp[intOf];omega
       ·have HAL:Hid (∀q (hq:q<(toD t).length),0≤(toD t)[q]∧(toD t)[q]<(s.length:Int)):=fun q hq=>hin.out.1 q hq (by omega)
        have HTE:=zh (HRS.out HAL.out);have r0:=HTB5.out.cell 0;have r7:=HTB5.out.cell 7;simp only[List.getElem?_toArray,List.getElem?_cons_succ,List.getElem?_cons_zero] at r0 r7
        by_cases e8:t.kind=8
        ·have q8:(t.kind==8)=true:=by simp[e8]
         obtain ⟨kk,hkk,hkl⟩:∃kk:Nat,t.key=(kk:Int)∧kk<s.length:=by
          obtain ⟨q,hq,hqe⟩:=List.getElem_of_mem (key_mem e8);have:=HAL.out q hq;rw[hqe] at this;exact ⟨t.key.toNat,by omega,by omega⟩
         obtain ⟨b6,o6,As6,cs6,Am6,cm6,e6,_,d0,_⟩:=(HS1.out.below HB5.out).at10 hkl
         injection e6 with e6
         injection e6 with e61 e62
         subst e61;subst e62;have HTK:=zh HTE.out;rw[e8,hkk,Int.toNat_natCast,show (s.getD kk zeroT).kind=(s[kk]).kind by rw[List.getD_eq_getElem?_getD,zl hkl];rfl] at HTK
         rw[hkk] at r7;generalize (s[kk]).kind=kd at *;have g3:(0:Int)≤(kk:Int):=by omega
         have g4:(kk:Int)<(s.length:Int):=by omega
         clear e8 hkk HTE
         cases hkd:keyKind kd with
         | false =>
          have HKD:=zh hkd;have HD:=zh (HST.out (by rw[HTK.out,hkd];decide))
          rw[HTK.out,if_pos (by rw[hkd];rfl)] at HD
          clear hkd;go_wp2_with (go_at_call 57;refine (rKeyKind_any _ _).mono ?_;rintro e w9 ⟨rfl,rfl⟩;rw[HKD.out]);go_ret;exact ⟨by rw[HD.out];rfl,zB HB1.out HB5.out⟩
         | true =>
          have HKD:=zh hkd;have HD:=zh (HNX.out (by rw[HTK.out,hkd];decide))
          clear hkd;go_wp2_with (go_at_call 57;refine (rKeyKind_any _ _).mono ?_;rintro e w9 ⟨rfl,rfl⟩;rw[HKD.out]);go_roundw
          case rel=>exact ⟨k+1,by omega,by go_num,HD.out,HB5.out⟩
          case measure=>simp[intOf];omega
        ·have q8:(t.kind==8)=false:=by simp[e8]
         have HD:=zh (HNX.out (by rw[HTE.out];simp[e8]))
         clear e8;go_wp2;go_roundw
         case rel=>exact ⟨k+1,by omega,by go_num,HD.out,HB5.out⟩
         case measure=>simp[intOf];omega
  ·have HD:=zh (hh.out.1.trans (errAt_end hlt))
   go_wp2
   go_ret
   exact ⟨by rw[HD.out];rfl,zB HB1.out hh.out.2⟩
end Go.Proofs.YtdfolgmcggdjdaaGreatDoor


