/-
  The reference's tokens of any text.
-/
import Derived.Test.YthkkllmmbefedaaGreatDoorQSXLS
import Derived.Test.YthkkllmmbefedaaGreatDoorQGN0
import Derived.Test.YthkkllmmbefedaaGreatDoorQGL0
import Derived.Test.YthkkllmmbefedaaGreatDoorQGA5
import Derived.Test.YthkkllmmbefedaaGreatDoorQGB0
import Derived.Test.YthkkllmmbefedaaGreatDoorQGA2
import Derived.Test.YthkkllmmbefedaaGreatDoorQNRM
import Derived.Deep.CutBlock
namespace Go.Proofs.YthkkllmmbefedaaGreatDoor
open Go.RowKit
set_option maxHeartbeats 16000000
set_option maxRecDepth 100000
theorem tokL_word {L r:List UInt8} {c:UInt8} (h0:L=c::r) (hc:letC (c.toNat:Int)=true):tokL L=if lettK L≤24 then some (⟨1,bA (L.take (lettK L)),0,⟨#[]⟩,0⟩,lettK L) else none:=by
 subst h0;rw[tokL,if_pos (show isLetB c=true from hc)]
theorem nx_word (s:ByteArray) (hs:s.size≤140737488355328) (h1:0<s.size) (hl:letC (s[0].toNat:Int)=true) (w:World):Calls Tryz.prog 53 #[.string s] w (NxtP (tokL s.data.toList) w):=by
 have HSZ:=zh hs;have HL:=zh hl;have HL0:=zh (list0 h1);have hsl:s.data.toList.length=s.size:=rfl;obtain ⟨K,hK⟩:∃K,lettK s.data.toList=K:=⟨_,rfl⟩;have HAT:Hid (∀k,1≤k→k≤s.size→(∀j (hj:j<s.size),j<k→chB s[j]=true)→(∀h:k<s.size,chB s[k]=false)→K=k):=fun k _ hk2 ha hb=>by
  rw[←hK];exact lettK_at hk2 (fun i hi hik=>ha i hi hik) fun h=>hb h
 have hKl:K≤s.size:=by rw[←hK];exact lettK_le _
 have HTK:=zh (tokL_word HL0.out hl);have HNM:=zh (nameB_take (c:=s[0]) (r:=s.data.toList.drop 1) hl);rw[←HL0.out,hK] at HNM;rw[hK] at HTK;have HEX:Hid (bA (s.data.toList.take K)=s.extract 0 K):=byte_list.2 (by rw[ext_take])
 rw[HEX.out] at HTK HNM;obtain ⟨R,hR⟩:∃R,tokL s.data.toList=R:=⟨_,rfl⟩;rw[hR];rw[hR] at HTK;have h10:(0:Int)<(s.size:Int):=by omega
 have HX0:=zh (heap_alloc_new w zRd);have HB0:=zh (zD w zRd);clear hl hK hR
 go_enter Tryz.func53,Tryz.ntmps53
 go_upto_region 1 with fail
 generalize w.alloc zRd=W0 at *
 go_upto_block 0 with (go_at_call 82;refine (letter_any _ _).mono ?_;rintro e w' ⟨rfl,rfl⟩;rw[HL.out])
 go_cut [3] (fun z wx=>z = .int .i64 (K:Int)∧wx=W0)
 case first =>
  go_wp2_with fail
  go_loopw [3] (fun i wr=>∃k:Nat,1≤k∧k≤s.size∧i = .int .i64 k∧Hid (wr=W0∧∀j (hj:j<s.size),j<k→chB s[j]=true)) (fun i _=>s.size - (intOf i).toNat)
  case atStart=>exact ⟨1,by omega,by omega,rfl,rfl,fun j hj h=>by
   obtain rfl:j=0:=by omega
   unfold chB;rw[HL.out];rfl⟩
  case round =>
   obtain ⟨k,hk1,hk2,rfl,hh⟩:=hrel;obtain ⟨hw,hcc⟩:=hh.out;have HC:=zh hcc;clear hh hcc;subst hw;have g1:(0:Int)≤(k:Int):=by omega
   by_cases hlt:k<s.size
   ·have g2:(k:Int)<(s.size:Int):=by omega
    cases hd:letC (s[k].toNat:Int) with
    | true =>
     have HD:=zh hd;have HN:Hid (∀j (hj:j<s.size),j<k+1→chB s[j]=true):=fun j hj h2=>by
      by_cases e:j=k
      ·subst e;unfold chB;rw[hd];rfl
      ·exact HC.out j hj (by omega)
     clear hd;go_wp2_with (go_at_call 82;refine (letter_any _ _).mono ?_;rintro e w' ⟨rfl,rfl⟩;rw[HD.out]);go_roundw
     case rel=>exact ⟨k+1,by omega,by omega,by go_num,trivial,HN.out⟩
     case measure=>simp[intOf];omega
    | false =>
     have HD:=zh hd;clear hd
     cases hd2:digI (s[k].toNat:Int) with
     | true =>
      have HD2:=zh hd2;have HN:Hid (∀j (hj:j<s.size),j<k+1→chB s[j]=true):=fun j hj h2=>by
       by_cases e:j=k
       ·subst e;unfold chB;rw[HD.out,hd2];rfl
       ·exact HC.out j hj (by omega)
      clear hd2;go_wp2_with (first|(go_at_call 82;refine (letter_any _ _).mono ?_;rintro e w' ⟨rfl,rfl⟩;rw[HD.out])|(go_at_call 83;refine (digit_any _ _).mono ?_;rintro e w' ⟨rfl,rfl⟩;rw[HD2.out]));go_roundw
      case rel=>exact ⟨k+1,by omega,by omega,by go_num,trivial,HN.out⟩
      case measure=>simp[intOf];omega
     | false =>
      have HD2:=zh hd2;have HK:=zh (HAT.out k hk1 hk2 HC.out fun _=>by unfold chB;rw[HD.out,hd2];rfl)
      clear hd2;go_wp2_with (first|(go_at_call 82;refine (letter_any _ _).mono ?_;rintro e w' ⟨rfl,rfl⟩;rw[HD.out])|(go_at_call 83;refine (digit_any _ _).mono ?_;rintro e w' ⟨rfl,rfl⟩;rw[HD2.out]));go_meet;exact ⟨by rw[HK.out],rfl⟩
   ·have HK:=zh (HAT.out k hk1 hk2 HC.out fun h=>absurd h hlt)
    have g2:¬ (k:Int)<(s.size:Int):=by omega
    go_wp2
    go_meet
    exact ⟨by rw[HK.out],rfl⟩
 case rest =>
 obtain ⟨rfl,hw⟩:=hcut;subst hw;have g1:(0:Int)≤(K:Int):=by omega
 have g2:(K:Int)≤(s.size:Int):=by omega
 have HSE:Hid (SOk (s.extract 0 K)):=by
  have h:(s.extract 0 K).size=(s.data.toList.take K).length:=by rw[←ext_take];rfl
  show _≤_
  rw[h,List.length_take];have:=HSZ.out
  omega
 obtain ⟨⟨z0,z1,z2,z3,z4,z5⟩,y0,y1,y2,y3,y4,y5⟩:=six_cells HX0.out
 by_cases h24:K≤24
 ·have HNT:Hid (nameB (s.extract 0 K)=true):=HNM.out.trans (decide_eq_true h24)
  have HRS:Hid (R=some (⟨1,s.extract 0 K,0,⟨#[]⟩,0⟩,K)):=by show _=_;rw[HTK.out,if_pos h24]
  clear h24;go_wp2_with (go_at_call 84;refine (refIsName_any _ HSE.out _).mono ?_;rintro e w' ⟨rfl,rfl⟩;rw[HNT.out]);have HK:=zh (rd_write (t:=⟨1,s.extract 0 K,0,⟨#[]⟩,0⟩) HX0.out HB0.out fun w' hb=>nx_some HRS.out hb)
  clear z0 z1 z2 z3 z4 z5 y0 y1 y2 y3 y4 y5;unfold Go.Proofs.YthkkllmmbefedaaGreatDoor.set6 at HK;generalize World.setCell (World.setCell (World.setCell (World.setCell (World.setCell (World.setCell wc _ _) _ _) _ _) _ _) _ _) _ _=W9 at *;obtain ⟨⟨z0,z1,z2,z3,z4,z5⟩,_⟩:=six_cells HK.out.1
  exact bodyPost_ret (v:=rdV ⟨1,s.extract 0 K,0,⟨#[]⟩,0⟩ K) (by simp[results,Tryz.results53,go_sem,z0,z1,z2,z3,z4,z5]) rfl HK.out.2
 ·have HNT:Hid (nameB (s.extract 0 K)=false):=HNM.out.trans (decide_eq_false h24)
  have HRS:Hid (R=none):=by show _=_;rw[HTK.out,if_neg h24]
  clear h24;go_wp2_with (go_at_call 84;refine (refIsName_any _ HSE.out _).mono ?_;rintro e w' ⟨rfl,rfl⟩;rw[HNT.out]);have HK:=zh (rd_write (t:=zTkn) (n:=0) HX0.out HB0.out fun w' hb=>nx_none HRS.out hb)
  clear z0 z1 z2 z3 z4 z5 y0 y1 y2 y3 y4 y5;unfold Go.Proofs.YthkkllmmbefedaaGreatDoor.set6 at HK;generalize World.setCell (World.setCell (World.setCell (World.setCell (World.setCell (World.setCell wc _ _) _ _) _ _) _ _) _ _) _ _=W9 at *;obtain ⟨⟨z0,z1,z2,z3,z4,z5⟩,_⟩:=six_cells HK.out.1;exact bodyPost_ret (v:=rdV zTkn 0) (by simp[results,Tryz.results53,go_sem,z0,z1,z2,z3,z4,z5]) rfl HK.out.2
def numB (L:List UInt8):Bool:=match L with
 | []=>false
 | c::r=>zZ c||(decide (c.toNat=45)&&zZ (r.headD 0))
theorem tokL_num {L r:List UInt8} {c:UInt8} (h0:L=c::r) (hc:letC (c.toNat:Int)=false) (hn:numB L=true):tokL L=(intL (L.take (1+digiK r))).map fun v=>(⟨2,⟨#[]⟩,v,⟨#[]⟩,0⟩,1+digiK r):=by
 subst h0;rw[tokL,if_neg (by rw[show isLetB c=false from hc];simp),if_pos (show (zZ c||(decide (c.toNat=45)&&zZ (r.headD 0)))=true from hn)]
theorem tokL_str {L r:List UInt8} {c:UInt8} (h0:L=c::r) (hc:letC (c.toNat:Int)=false) (hn:numB L=false) (hq:c.toNat=34):tokL L=(quoL r).map fun p=>(⟨3,⟨#[]⟩,0,bA p.1,0⟩,p.2+1):=by
 subst h0;rw[tokL,if_neg (by rw[show isLetB c=false from hc];simp),if_neg (by rw[show (zZ c||(decide (c.toNat=45)&&zZ (r.headD 0)))=false from hn];simp),if_pos hq]
theorem tokL_sym {L r:List UInt8} {c:UInt8} (h0:L=c::r) (hc:letC (c.toNat:Int)=false) (hn:numB L=false) (hq:c.toNat≠34):tokL L=(symL L).map fun n=>(⟨4,bA (L.take n),0,⟨#[]⟩,0⟩,n):=by
 subst h0;rw[tokL,if_neg (by rw[show isLetB c=false from hc];simp),if_neg (by rw[show (zZ c||(decide (c.toNat=45)&&zZ (r.headD 0)))=false from hn];simp),if_neg hq]
theorem list1d {s:ByteArray} (h:1<s.size):(s.data.toList.drop 1).headD 0=s[1]:=by
 rw[List.drop_eq_getElem_cons (show 1<s.data.toList.length from h)];rfl
theorem ext0_size {s:ByteArray} {n:Nat} (h:n≤s.size):(s.extract 0 n).size=n:=by
 have h2:(s.extract 0 n).size=(s.data.toList.take n).length:=by rw[←ext_take];rfl
 rw[h2,List.length_take,show s.data.toList.length=s.size from rfl];omega
theorem sym_f2 {L:List UInt8} (h:2≤L.length) (hm:L.take 2∈symsT):symL L=some 2:=by
 match L,h with
 | c::d::r,_=>exact sym_two.1 hm
theorem sym_n2 {L:List UInt8} (h:2≤L.length→¬ L.take 2∈symsT):symL L≠some 2:=fun e=>by
 have hl:=(symL_le e).2.1
 match L,hl,h,e with
 | c::d::r,_,h,e=>exact h (by simp) (sym_two.2 e)
 | [c],hl,_,_=>simp at hl
 | [],hl,_,_=>simp at hl
theorem sym_f1 {L:List UInt8} (h:1≤L.length) (hm:L.take 1∈symsT) (h2:symL L≠some 2):symL L=some 1:=by
 match L,h with
 | c::r,_=>exact (sym_one h2).1 hm
theorem sym_no {L:List UInt8} (h:1≤L.length) (hm:¬ L.take 1∈symsT) (h2:symL L≠some 2):symL L=none:=by
 match L,h with
 | c::r,_ =>
  rcases @symL_cases (c::r) with e|e|e
  ·exact e
  ·exact absurd ((sym_one h2).2 e) hm
  ·exact absurd e h2
theorem str_nx {R:Option (TokD×Nat)} {o:Option (List UInt8×Nat)} {u:ByteArray} {n:Int} (hR:R=o.map fun p=>(⟨3,⟨#[]⟩,0,bA p.1,0⟩,p.2+1)) (hm:FirM u n o):NxM ⟨3,⟨#[]⟩,0,u,0⟩ n R:=by
 subst hR
 cases o with
 | none=>exact hm.2
 | some p=>exact ⟨by rw[hm.1],hm.2⟩
theorem nx_other (s:ByteArray) (hs:s.size≤140737488355328) (h1:0<s.size) (hl:letC (s[0].toNat:Int)=false) (w:World) (hE:EnvL w):Calls Tryz.prog 53 #[.string s] w (NxtP (tokL s.data.toList) w):=by
 have HSZ:=zh hs;have HE:=zh hE;have HL:=zh hl;have HL0:=zh (list0 h1);have hsl:s.data.toList.length=s.size:=rfl;obtain ⟨nb,hnb⟩:∃nb,numB s.data.toList=nb:=⟨_,rfl⟩;have HNB:Hid (nb=(digI (s[0].toNat:Int)||(decide (s[0].toNat=45)&&zZ ((s.data.toList.drop 1).headD 0)))):=by
  show _=_
  rw[←hnb,HL0.out];rfl
 have HTN:=zh (fun h=>tokL_num HL0.out hl (hnb.trans h))
 have HTS:=zh (fun h=>tokL_str HL0.out hl (hnb.trans h))
 have HTY:=zh (fun h=>tokL_sym HL0.out hl (hnb.trans h))
 obtain ⟨R,hR⟩:∃R,tokL s.data.toList=R:=⟨_,rfl⟩;rw[hR];rw[hR] at HTN HTS HTY;have h10:(0:Int)<(s.size:Int):=by omega
 have HX0:=zh (heap_alloc_new w zRd);have HB0:=zh (zD w zRd);clear hl hR hnb hE
 go_enter Tryz.func53,Tryz.ntmps53
 go_upto_region 1 with fail
 generalize w.alloc zRd=W0 at *;go_upto_region 8 with (go_at_call 82;refine (letter_any _ _).mono ?_;rintro e w' ⟨rfl,rfl⟩;rw[HL.out])
 go_cut [57] (fun z wx=>z = .bool nb∧wx=W0)
 case first =>
  cases hd:digI (s[0].toNat:Int) with
  | true =>
   have HD:=zh hd;have HNT:Hid (nb=true):=by show _=_;rw[HNB.out,hd];rfl
   clear hd;go_wp2_with (go_at_call 83;refine (digit_any _ _).mono ?_;rintro e w' ⟨rfl,rfl⟩;rw[HD.out]);go_meet;exact ⟨by rw[HNT.out],rfl⟩
  | false =>
   have HD:=zh hd;clear hd
   by_cases h2:1<s.size
   ·have i2:(1:Int)<(s.size:Int):=by omega
    have i3:(s.size:Int) > 1:=i2
    by_cases h45:s[0].toNat=45
    ·have q1:((s[0].toNat:Int)==45)=true:=by rw[h45];rfl
     cases hd1:digI (s[1].toNat:Int) with
     | true =>
      have HD1:=zh hd1;have HNT:Hid (nb=true):=by show _=_;rw[HNB.out,HD.out,list1d h2,decide_eq_true h45,show zZ s[1]=true from hd1];rfl
      clear hd1 h45;go_wp2_with (go_at_call 83;refine (digit_any _ _).mono ?_;rintro e w' ⟨rfl,rfl⟩;first|rw[HD.out]|rw[HD1.out]);go_meet;exact ⟨by rw[HNT.out],rfl⟩
     | false =>
      have HD1:=zh hd1;have HNT:Hid (nb=false):=by show _=_;rw[HNB.out,HD.out,list1d h2,decide_eq_true h45,show zZ s[1]=false from hd1];rfl
      clear hd1 h45;go_wp2_with (go_at_call 83;refine (digit_any _ _).mono ?_;rintro e w' ⟨rfl,rfl⟩;first|rw[HD.out]|rw[HD1.out]);go_meet;exact ⟨by rw[HNT.out],rfl⟩
    ·have q1:((s[0].toNat:Int)==45)=false:=by simp;omega
     have HNT:Hid (nb=false):=by show _=_;rw[HNB.out,HD.out,decide_eq_false h45];rfl
     clear h45;go_wp2_with (go_at_call 83;refine (digit_any _ _).mono ?_;rintro e w' ⟨rfl,rfl⟩;rw[HD.out]);go_meet;exact ⟨by rw[HNT.out],rfl⟩
   ·have i3:¬ (s.size:Int) > 1:=by omega
    have HNT:Hid (nb=false):=by
     show _=_
     rw[HNB.out,HD.out,List.drop_eq_nil_of_le (by omega)]
     cases decide (s[0].toNat=45) <;> rfl
    go_wp2_with (go_at_call 83;refine (digit_any _ _).mono ?_;rintro e w' ⟨rfl,rfl⟩;rw[HD.out])
    go_meet
    exact ⟨by rw[HNT.out],rfl⟩
 case rest =>
 obtain ⟨rfl,hw⟩:=hcut;obtain rfl:W0=wc:=hw.symm;clear HNB
 cases nb with
 | true =>
  have HT0:=zh (HTN.out rfl);clear HTN HTS HTY;obtain ⟨K,hK⟩:∃K,1+digiK (s.data.toList.drop 1)=K:=⟨_,rfl⟩;rw[hK] at HT0;have HKl:Hid (1≤K∧K≤s.size):=by
   show _∧_
   have:=digiK_le (s.data.toList.drop 1);rw[List.length_drop] at this
   omega
  have HAT:Hid (∀k,1≤k→k≤s.size→(∀j (hj:j<s.size),1≤j→j<k→zZ s[j]=true)→(∀h:k<s.size,zZ s[k]=false)→K=k):=fun k hk1 hk2 ha hb=>by
   rw[←hK];have:=digiK_at (l:=s.data.toList.drop 1) (n:=k - 1) (by rw[List.length_drop];omega) (fun i hi hik=>by
    rw[List.getElem_drop];exact ha (1+i) (by rw[List.length_drop] at hi;omega) (by omega) (by omega)) (fun h=>by
    rw[List.getElem_drop];have e:1+(k - 1)=k:=by omega
    have h2:k<s.size:=by rw[List.length_drop] at h;omega
    have:=hb h2;simp only[e];exact this)
   omega
  have HEX:Hid ((s.extract 0 K).data.toList=s.data.toList.take K):=ext_take;have HIN:Hid (intR (s.extract 0 K)=R):=by
   show _=_
   rw[intR,HEX.out,ext0_size HKl.out.2,HT0.out]
  clear hK
  go_upto_block 2 with fail
  go_cut [4] (fun z wx=>z = .int .i64 (K:Int)∧wx=W0)
  case first =>
   go_wp2_with fail
   go_loopw [4] (fun i wr=>∃k:Nat,1≤k∧k≤s.size∧i = .int .i64 k∧Hid (wr=W0∧∀j (hj:j<s.size),1≤j→j<k→zZ s[j]=true)) (fun i _=>s.size - (intOf i).toNat)
   case atStart=>exact ⟨1,by omega,by omega,rfl,rfl,fun j hj h h2=>absurd h2 (by omega)⟩
   case round =>
    obtain ⟨k,hk1,hk2,rfl,hh⟩:=hrel;obtain ⟨hw,hcc⟩:=hh.out;have HC:=zh hcc;clear hh hcc;subst hw;have g1:(0:Int)≤(k:Int):=by omega
    by_cases hlt:k<s.size
    ·have g2:(k:Int)<(s.size:Int):=by omega
     cases hd:digI (s[k].toNat:Int) with
     | true =>
      have HD:=zh hd;have HN:Hid (∀j (hj:j<s.size),1≤j→j<k+1→zZ s[j]=true):=fun j hj h3 h2=>by
       by_cases e:j=k
       ·subst e;exact hd
       ·exact HC.out j hj h3 (by omega)
      clear hd;go_wp2_with (go_at_call 83;refine (digit_any _ _).mono ?_;rintro e w' ⟨rfl,rfl⟩;rw[HD.out]);go_roundw
      case rel=>exact ⟨k+1,by omega,by omega,by go_num,trivial,HN.out⟩
      case measure=>simp[intOf];omega
     | false =>
      have HD:=zh hd;have HK:=zh (HAT.out k hk1 hk2 HC.out fun _=>hd)
      clear hd;go_wp2_with (go_at_call 83;refine (digit_any _ _).mono ?_;rintro e w' ⟨rfl,rfl⟩;rw[HD.out]);go_meet;exact ⟨by rw[HK.out],rfl⟩
    ·have HK:=zh (HAT.out k hk1 hk2 HC.out fun h=>absurd h hlt)
     have g2:¬ (k:Int)<(s.size:Int):=by omega
     go_wp2
     go_meet
     exact ⟨by rw[HK.out],rfl⟩
  case rest =>
  obtain ⟨rfl,hw⟩:=hcut;subst hw;have g1:(0:Int)≤(K:Int):=by omega
  have g2:(K:Int)≤(s.size:Int):=by have:=HKl.out;omega
  have HSI:=zh (rInteger_any (s.extract 0 K) (by rw[ext0_size HKl.out.2];have:=HSZ.out;have:=HKl.out;omega) (by rw[ext0_size HKl.out.2];have:=HKl.out;omega) wc (HE.out.below HB0.out))
  rw[HIN.out] at HSI;go_wp2_with fail;refine HSI.out.mono ?_;rintro e w5 ⟨t,n,rfl,hm,hb5⟩;have HM:=zh hm;have HBW5:=zh (zB HB0.out hb5);have HX5:=zh (zE HX0.out hb5);clear hb5 hm;obtain ⟨⟨z0,z1,z2,z3,z4,z5⟩,y0,y1,y2,y3,y4,y5⟩:=six_cells HX5.out;go_wp2;have HK:=zh (rd_write (r:=R) (t:=t) (n:=n) HX5.out HBW5.out fun w' hb=>⟨t,n,rfl,HM.out,hb⟩)
  clear z0 z1 z2 z3 z4 z5 y0 y1 y2 y3 y4 y5;unfold Go.Proofs.YthkkllmmbefedaaGreatDoor.set6 at HK;generalize World.setCell (World.setCell (World.setCell (World.setCell (World.setCell (World.setCell w5 _ _) _ _) _ _) _ _) _ _) _ _=W9 at *;obtain ⟨⟨z0,z1,z2,z3,z4,z5⟩,_⟩:=six_cells HK.out.1;exact bodyPost_ret (v:=rdV t n) (by simp[results,Tryz.results53,go_sem,z0,z1,z2,z3,z4,z5]) rfl HK.out.2
 | false =>
  clear HTN
  by_cases hq:s[0].toNat=34
  ·have HT0:=zh (HTS.out rfl hq)
   have q1:((s[0].toNat:Int)==34)=true:=by rw[hq];rfl
   have HFI:=zh (rFirst_any s HSZ.out h1 hq W0);clear HTS HTY hq;go_wp2_with fail;refine HFI.out.mono ?_;rintro e w5 ⟨u,n,rfl,hm,hb5⟩;have HM:Hid (NxM ⟨3,⟨#[]⟩,0,u,0⟩ n R):=str_nx HT0.out hm;have HBX:=zh (zD w5 (.cells #[.string u,.int .i64 n] 146));have HXT:=zh (heap_alloc_new w5 (.cells #[.string u,.int .i64 n] 146));have HBW5:=zh (zB (zB HB0.out hb5) HBX.out)
   have HX5:=zh (zE (zE HX0.out hb5) HBX.out);clear hb5 hm;go_upto_region 15 with fail
   generalize w5.alloc (.cells #[.string u,.int .i64 n] 146)=W6 at *;generalize w5.heap.size=q6 at *;obtain ⟨⟨x0,x1⟩,_⟩:=twoC HXT.out;obtain ⟨⟨z0,z1,z2,z3,z4,z5⟩,y0,y1,y2,y3,y4,y5⟩:=six_cells HX5.out;go_wp2;have HK:=zh (rd_write (r:=R) (t:=⟨3,⟨#[]⟩,0,u,0⟩) (n:=n) HX5.out HBW5.out fun w' hb=>⟨⟨3,⟨#[]⟩,0,u,0⟩,n,rfl,HM.out,hb⟩)
   clear z0 z1 z2 z3 z4 z5 y0 y1 y2 y3 y4 y5;unfold Go.Proofs.YthkkllmmbefedaaGreatDoor.set6 at HK;generalize World.setCell (World.setCell (World.setCell (World.setCell (World.setCell (World.setCell W6 _ _) _ _) _ _) _ _) _ _) _ _=W9 at *;obtain ⟨⟨z0,z1,z2,z3,z4,z5⟩,_⟩:=six_cells HK.out.1
   exact bodyPost_ret (v:=rdV ⟨3,⟨#[]⟩,0,u,0⟩ n) (by simp[results,Tryz.results53,go_sem,z0,z1,z2,z3,z4,z5]) rfl HK.out.2
  ·have HT0:=zh (HTY.out rfl hq)
   have q1:((s[0].toNat:Int)==34)=false:=by simp;omega
   clear HTS HTY hq;obtain ⟨m,hm,hm2⟩:∃m:Nat,min (2:Int) (s.size:Int)=(m:Int)∧(m≤2∧m≤s.size∧(m<2→s.size<2)):=by
    by_cases h2:2≤s.size
    ·exact ⟨2,by omega,by omega,by omega,by omega⟩
    ·exact ⟨1,by omega,by omega,by omega,by omega⟩
   have HM2:=zh hm2;clear hm2;go_wp2
   go_loopw [6] (fun i wr=>∃k:Nat,k≤2∧k≤s.size∧i = .int .i64 k∧Hid ((∀j,k<j→j≤2→j≤s.size→¬ s.data.toList.take j∈symsT)∧Below W0.heap.size W0 wr)) (fun i _=>(intOf i).toNat)
   case atStart=>exact ⟨m,HM2.out.1,HM2.out.2.1,rfl,fun j h3 h4 h5=>by have:=HM2.out.2.2;omega,Below.refl _ _⟩
   case round =>
    obtain ⟨k,hk2,hks,rfl,hh⟩:=hrel;obtain ⟨wo,rfl⟩:∃wo:World,wo=wr:=⟨_,rfl⟩;have HN:=zh hh.out.1;have HBo:=zh hh.out.2;have HXo:=zh (zE HX0.out hh.out.2);have HBWo:=zh (zB HB0.out hh.out.2);clear hh;have HN2:Hid (1≤k→k<2→symL s.data.toList≠some 2):=fun _ h=>sym_n2 fun h2=>HN.out 2 h (Nat.le_refl _) h2
    by_cases h0:k=0
    ·have HRN:Hid (R=none):=by
      show _=_
      rw[HT0.out,sym_no (show 1≤s.data.toList.length from h1) (HN.out 1 (by omega) (by omega) h1) (sym_n2 fun h2=>HN.out 2 (by omega) (Nat.le_refl _) h2)];rfl
     subst h0;have g3:¬ ((0:Nat):Int) > 0:=by omega
     obtain ⟨⟨z0,z1,z2,z3,z4,z5⟩,y0,y1,y2,y3,y4,y5⟩:=six_cells HXo.out;go_wp2;have HK:=zh (rd_write (r:=R) (t:=zTkn) (n:=0) HXo.out HBWo.out fun w' hb=>nx_none HRN.out hb)
     clear z0 z1 z2 z3 z4 z5 y0 y1 y2 y3 y4 y5;unfold Go.Proofs.YthkkllmmbefedaaGreatDoor.set6 at HK;generalize World.setCell (World.setCell (World.setCell (World.setCell (World.setCell (World.setCell wo _ _) _ _) _ _) _ _) _ _) _ _=W9 at *;obtain ⟨⟨z0,z1,z2,z3,z4,z5⟩,_⟩:=six_cells HK.out.1;exact bodyPost_ret (v:=rdV zTkn 0) (by simp[results,Tryz.results53,go_sem,z0,z1,z2,z3,z4,z5]) rfl HK.out.2
    ·have g3:(k:Int) > 0:=by omega
     have g4:(0:Int)≤(k:Int):=by omega
     have g5:(k:Int)≤(s.size:Int):=by omega
     have HEX:Hid (bA (s.data.toList.take k)=s.extract 0 k):=byte_list.2 (by rw[ext_take])
     have hmem:=symGo_mem (s.data.toList.take k);rw[HEX.out] at hmem;have HIS:=zh (rIsSymbol_any (s.extract 0 k) wo)
     cases hb:symGo.any fun x=>decide (x=s.extract 0 k) with
     | true =>
      rw[hb] at HIS hmem;have HRS:Hid (R=some (⟨4,s.extract 0 k,0,⟨#[]⟩,0⟩,k)):=by
       show _=_
       have hsy:symL s.data.toList=some k:=by
        have hm:=hmem.1 rfl
        by_cases e2:k=2
        ·subst e2;exact sym_f2 (by omega) hm
        ·obtain rfl:k=1:=by omega
         exact sym_f1 (by omega) hm (HN2.out (by omega) (by omega))
       rw[HT0.out,hsy,←HEX.out];rfl
      clear hmem hb h0;go_wp2_with fail;refine HIS.out.mono ?_;rintro e w5 ⟨rfl,hb5⟩;have HX5:=zh (zE HXo.out hb5);have HB5:=zh (zB HBWo.out hb5);clear hb5;obtain ⟨⟨z0,z1,z2,z3,z4,z5⟩,y0,y1,y2,y3,y4,y5⟩:=six_cells HX5.out;go_wp2;have HK:=zh (rd_write (r:=R) (t:=⟨4,s.extract 0 k,0,⟨#[]⟩,0⟩) (n:=k) HX5.out HB5.out fun w' hb=>nx_some HRS.out hb)
      clear z0 z1 z2 z3 z4 z5 y0 y1 y2 y3 y4 y5;unfold Go.Proofs.YthkkllmmbefedaaGreatDoor.set6 at HK;generalize World.setCell (World.setCell (World.setCell (World.setCell (World.setCell (World.setCell w5 _ _) _ _) _ _) _ _) _ _) _ _=W9 at *;obtain ⟨⟨z0,z1,z2,z3,z4,z5⟩,_⟩:=six_cells HK.out.1
      exact bodyPost_ret (v:=rdV ⟨4,s.extract 0 k,0,⟨#[]⟩,0⟩ k) (by simp[results,Tryz.results53,go_sem,z0,z1,z2,z3,z4,z5]) rfl HK.out.2
     | false =>
      rw[hb] at HIS hmem;have HNN:Hid (∀j,k - 1<j→j≤2→j≤s.size→¬ s.data.toList.take j∈symsT):=fun j h3 h4 h5=>by
       by_cases e:j=k
       ·subst e;exact fun h=>absurd (hmem.2 h) (by simp)
       ·exact HN.out j (by omega) h4 h5
      clear hmem hb;go_wp2_with fail;refine HIS.out.mono ?_;rintro e w5 ⟨rfl,hb5⟩;have HB5:=zh (zB HBo.out hb5);clear hb5;go_wp2;go_roundw
      case rel=>exact ⟨k - 1,by omega,by omega,by go_num,HNN.out,HB5.out⟩
      case measure=>simp[intOf];omega
theorem next_any (s:ByteArray) (hs:s.size≤140737488355328) (h1:0<s.size) (w:World) (hE:EnvL w):Calls Tryz.prog 53 #[.string s] w (NxtP (tokL s.data.toList) w):=by
 cases hl:letC (s[0].toNat:Int) with
 | true=>exact nx_word s hs h1 hl w
 | false=>exact nx_other s hs h1 hl w hE
theorem line_drop (l:List UInt8):∃n,n≤l.length∧lineL l=l.drop n:=by
 induction l with
 | nil=>exact ⟨0,Nat.le_refl _,rfl⟩
 | cons c r ih =>
  rw[lineL]
  split
  ·exact ⟨0,Nat.zero_le _,rfl⟩
  ·obtain ⟨n,h1,h2⟩:=ih
   exact ⟨n+1,by simpa using h1,by rw[h2];rfl⟩
theorem drop_inj {l:List UInt8} {i j:Nat} (hi:i≤l.length) (hj:j≤l.length) (h:l.drop i=l.drop j):i=j:=by
 have:=congrArg List.length h;rw[List.length_drop,List.length_drop] at this
 omega
theorem rTokens_short (s:ByteArray) (hz:s.size≤65536) (w:World) (hE:EnvL w):Calls Tryz.prog 20 #[.string s] w (TkssPost w s.data.toList):=by
 have HE:=zh hE;have hsl:s.data.toList.length=s.size:=rfl;have hgt:¬ (s.size:Int) > 65536:=by omega
 have HST:Hid (TksAt s.data.toList (s.data.toList.drop 0) [] 1):=TksAt.start _;clear hE
 go_enter Tryz.func20,Tryz.ntmps20
 go_wp2
 go_loopw [5,6,7] (fun v l i wr=>∃ (k:Nat) (o:List TokD) (ln:Nat),k≤s.size∧i = .int .i64 k∧l = .int .i64 ln∧ln≤k+1∧o.length≤k∧Hid (TksAt s.data.toList (s.data.toList.drop k) o ln∧OwnT wr w.heap.size v o∧Below w.heap.size w wr)) (fun _ _ i _=>s.size - (intOf i).toNat)
 case atStart=>exact ⟨0,[],1,by omega,rfl,rfl,by omega,by simp,HST.out,OwnL.nil _ _,Below.refl _ _⟩
 case round =>
  obtain ⟨k,o,ln,hk,rfl,rfl,hln,hol,hh⟩:=hrel;have HT:=zh hh.out.1;have HO:=zh hh.out.2.1;have HB:=zh hh.out.2.2;clear hh HST;obtain ⟨wo,rfl⟩:∃wo:World,wo=wr:=⟨_,rfl⟩
  by_cases hlt:k<s.size
  case neg =>
   have HN:Hid (toksL 1 s.data.toList = .ok o):=TksAt.end_ (by have:=HT.out;rwa [List.drop_eq_nil_of_le (by omega)] at this)
   have g2:¬ (k:Int)<(s.size:Int):=by omega
   go_wp2
   go_ret3
   exact ⟨_,_,_,rfl,by rw[HN.out];exact ⟨HO.out,rfl,rfl⟩,HB.out⟩
  have g1:(0:Int)≤(k:Int):=by omega
  have g2:(k:Int)<(s.size:Int):=by omega
  have HD:=zh (list1 hlt);have HT1:Hid (TksAt s.data.toList (s[k]::s.data.toList.drop (k+1)) o ln):=HD.out▸HT.out
  by_cases c1:s[k].toNat=10
  ·have q1:((s[k].toNat:Int)==32)=false:=by rw[c1];rfl
   have q2:((s[k].toNat:Int)==9)=false:=by rw[c1];rfl
   have q3:((s[k].toNat:Int)==10)=true:=by rw[c1];rfl
   have HN:Hid (TksAt s.data.toList (s.data.toList.drop (k+1)) o ((ln+1:Nat):Int)):=HT1.out.nl c1;clear c1;go_wp2;go_roundw
   case rel=>exact ⟨k+1,o,ln+1,by omega,by go_num,by go_num,by omega,by omega,HN.out,HO.out,HB.out⟩
   case measure=>simp[intOf];omega
  have q3:((s[k].toNat:Int)==10)=false:=by simp;omega
  by_cases c2:s[k].toNat=32∨s[k].toNat=9
  ·have HN:Hid (TksAt s.data.toList (s.data.toList.drop (k+1)) o (ln:Int)):=HT1.out.sp c1 c2
   have hD:((s[k].toNat:Int)==32)=true∨(((s[k].toNat:Int)==32)=false∧((s[k].toNat:Int)==9)=true):=by simp;omega
   clear c1 c2
   rcases hD with q1|⟨q1,q2⟩
   ·go_wp2
    go_roundw
    case rel=>exact ⟨k+1,o,ln,by omega,by go_num,by go_num,by omega,by omega,HN.out,HO.out,HB.out⟩
    case measure=>simp[intOf];omega
   ·go_wp2
    go_roundw
    case rel=>exact ⟨k+1,o,ln,by omega,by go_num,by go_num,by omega,by omega,HN.out,HO.out,HB.out⟩
    case measure=>simp[intOf];omega
  have q1:((s[k].toNat:Int)==32)=false:=by simp;omega
  have q2:((s[k].toNat:Int)==9)=false:=by simp;omega
  obtain ⟨cm,hcm⟩:∃cm:Bool,decide (s[k].toNat=47∧((s.data.toList.drop (k+1)).headD 0).toNat=47)=cm:=⟨_,rfl⟩;have HCM:=zh hcm;have HHD:Hid (∀h:k+1<s.size,(s.data.toList.drop (k+1)).headD 0=s[k+1]):=fun h=>by
   rw[List.drop_eq_getElem_cons (show k+1<s.data.toList.length from h)];rfl
  have HHN:Hid (¬ k+1<s.size→(s.data.toList.drop (k+1)).headD 0=0):=fun h=>by
   rw[List.drop_eq_nil_of_le (by omega)];rfl
  clear hcm;go_upto_region 11 with fail
  go_cut [57] (fun z wx=>z = .bool cm∧wx=wo)
  case first =>
   by_cases h47:s[k].toNat=47
   ·have p1:((s[k].toNat:Int)==47)=true:=by rw[h47];rfl
    by_cases hk1:k+1<s.size
    ·have p2:(k:Int)+1<(s.size:Int):=by omega
     have p0:(0:Int)≤(k:Int)+1:=by omega
     by_cases h2:s[k+1].toNat=47
     ·have p3:((s[k+1].toNat:Int)==47)=true:=by rw[h2];rfl
      have HR:Hid (cm=true):=by show _=_;rw[←HCM.out,HHD.out hk1];exact decide_eq_true ⟨h47,h2⟩
      go_wp2
      go_meet
      exact ⟨by rw[HR.out],rfl⟩
     ·have p3:((s[k+1].toNat:Int)==47)=false:=by simp;omega
      have HR:Hid (cm=false):=by show _=_;rw[←HCM.out,HHD.out hk1];exact decide_eq_false fun h=>h2 h.2
      go_wp2
      go_meet
      exact ⟨by rw[HR.out],rfl⟩
    ·have p2:¬ (k:Int)+1<(s.size:Int):=by omega
     have HR:Hid (cm=false):=by show _=_;rw[←HCM.out,HHN.out hk1];exact decide_eq_false fun h=>absurd h.2 (by decide)
     go_wp2
     go_meet
     exact ⟨by rw[HR.out],rfl⟩
   ·have p1:((s[k].toNat:Int)==47)=false:=by simp;omega
    have HR:Hid (cm=false):=by show _=_;rw[←HCM.out];exact decide_eq_false fun h=>h47 h.1
    go_wp2
    go_meet
    exact ⟨by rw[HR.out],rfl⟩
  case rest =>
  obtain ⟨rfl,hw⟩:=hcut;obtain rfl:wo=wc:=hw.symm
  cases cm with
  | true =>
   have HNC:=zh (HT1.out.cm c1 c2 (of_decide_eq_true HCM.out));rw[←HD.out] at HNC;obtain ⟨n,hn1,hn2⟩:=line_drop (s.data.toList.drop k);rw[List.length_drop] at hn1;rw[List.drop_drop] at hn2;have HLN:=zh hn2;rw[hn2] at HNC;have hn0:1≤n:=by
    rcases Nat.eq_zero_or_pos n with e|e
    ·subst e
     exfalso
     rw[HD.out,lineL,if_neg c1] at hn2;have hl:=congrArg List.length hn2;have:=lineL_le (s.data.toList.drop (k+1));rw[List.length_drop] at hl this
     omega
    ·exact e
   clear hn2 c1 c2 HCM HHD HHN
   go_upto_block 2 with fail
   go_cut [7] (fun z wx=>z = .int .i64 ((k+n:Nat):Int)∧wx=wo)
   case first =>
    go_wp2_with fail
    go_loopw [7] (fun i wr=>∃j:Nat,k≤j∧j≤s.size∧i = .int .i64 j∧Hid (lineL (s.data.toList.drop j)=lineL (s.data.toList.drop k)∧wr=wo)) (fun i _=>s.size - (intOf i).toNat)
    case atStart=>exact ⟨k,by omega,by omega,rfl,rfl,rfl⟩
    case round =>
     obtain ⟨j,hj1,hj2,rfl,hh⟩:=hrel;obtain ⟨hl,hw⟩:=hh.out;have HJ:=zh hl;clear hh hl;subst hw;have e1:(0:Int)≤(j:Int):=by omega
     by_cases hlj:j<s.size
     ·have e2:(j:Int)<(s.size:Int):=by omega
      by_cases h10:s[j].toNat=10
      ·have p1:((s[j].toNat:Int) != 10)=false:=by rw[h10];rfl
       have HE2:Hid (j=k+n):=by
        show _=_
        refine drop_inj (l:=s.data.toList) (by omega) (by omega) ?_
        rw[←HLN.out,←HJ.out,list1 hlj,lineL,if_pos h10]
       clear h10;go_wp2;go_meet;exact ⟨by rw[HE2.out],rfl⟩
      ·have p1:((s[j].toNat:Int) != 10)=true:=by simp;omega
       have HJ2:Hid (lineL (s.data.toList.drop (j+1))=lineL (s.data.toList.drop k)):=by
        show _=_
        rw[←HJ.out,list1 hlj,lineL,if_neg h10]
       clear h10;go_wp2;go_roundw
       case rel=>exact ⟨j+1,by omega,by omega,by go_num,HJ2.out,trivial⟩
       case measure=>simp[intOf];omega
     ·have e2:¬ (j:Int)<(s.size:Int):=by omega
      have HE2:Hid (j=k+n):=by
       show _=_
       refine drop_inj (l:=s.data.toList) (by omega) (by omega) ?_
       rw[←HLN.out,←HJ.out,List.drop_eq_nil_of_le (show s.data.toList.length≤j by omega)];rfl
      go_wp2
      go_meet
      exact ⟨by rw[HE2.out],rfl⟩
   case rest =>
   obtain ⟨rfl,hw⟩:=hcut;obtain rfl:wo=wc:=hw.symm;go_wp2;go_roundw
   case rel=>exact ⟨k+n,o,ln,by omega,by go_num,by go_num,by omega,by omega,HNC.out,HO.out,HB.out⟩
   case measure=>simp[intOf];omega
  | false =>
   have HCN:Hid (¬ (s[k].toNat=47∧((s.data.toList.drop (k+1)).headD 0).toNat=47)):=of_decide_eq_false HCM.out;have HBAD:=zh (fun h=>HT1.out.bad c1 c2 HCN.out h)
   have HTOK:=zh (fun t m h=>HT1.out.tok c1 c2 HCN.out (t:=t) (k:=m) h)
   rw[←HD.out] at HBAD HTOK;have HNX:=zh (next_any (s.extract k s.size) (by rw[ext_size];omega) (by rw[ext_size];omega) wo (HE.out.below HB.out))
   rw[ext_drop] at HNX;clear c1 c2 HCM HHD HHN HCN;have g3:(k:Int)≤(s.size:Int):=by omega
   go_wp2_with fail
   refine HNX.out.mono ?_;rintro e w5 ⟨u,n,rfl,hm,hb⟩;have HB5:=zh (HB.out.trans (hb.mono HB.out.size));have HO5:=zh (HO.out.below hb);clear hb
   cases hk2:tokL (s.data.toList.drop k) with
   | none =>
    rw[hk2] at hm;obtain rfl:n=0:=hm;have HN:=zh (HBAD.out hk2);have x5:(w5.alloc (.cells #[.int .i64 u.kind,.string u.text,.int .i64 u.int,.string u.str,.int .i64 u.line,.int .i64 0] 109)).cell? ⟨w5.heap.size,5,none⟩=some (.int .i64 0):=by rw[cell_of_row _ _ _ _ _ _ (heap_alloc_new w5 _)];rfl
    clear hk2;go_wp2
    go_ret3
    exact ⟨_,_,_,rfl,by rw[HN.out];exact ⟨rfl,rfl,rfl⟩,HB5.out.alloc HB5.out.size _⟩
   | some p =>
    obtain ⟨t,kk⟩:=p;rw[hk2] at hm;obtain ⟨rfl,rfl⟩:=hm;have hle:=tokL_le hk2;rw[List.length_drop] at hle;have HN:=zh (HTOK.out _ kk hk2);rw[List.drop_drop] at HN;clear hk2;have q5:((kk:Int)==0)=false:=by simp;omega
    have x5:(w5.alloc (.cells #[.int .i64 u.kind,.string u.text,.int .i64 u.int,.string u.str,.int .i64 u.line,.int .i64 (kk:Int)] 109)).cell? ⟨w5.heap.size,5,none⟩=some (.int .i64 (kk:Int)):=by rw[cell_of_row _ _ _ _ _ _ (heap_alloc_new w5 _)];rfl
    have x4:(w5.alloc (.cells #[.int .i64 u.kind,.string u.text,.int .i64 u.int,.string u.str,.int .i64 u.line,.int .i64 (kk:Int)] 109)).cell? ⟨w5.heap.size,4,none⟩=some (.int .i64 u.line):=by rw[cell_of_row _ _ _ _ _ _ (heap_alloc_new w5 _)];rfl
    have f4:=frozen_of_row _ _ 4 _ _ (heap_alloc_new w5 (.cells #[.int .i64 u.kind,.string u.text,.int .i64 u.int,.string u.str,.int .i64 u.line,.int .i64 (kk:Int)] 109))
    have s0:(w5.alloc (.cells #[.int .i64 u.kind,.string u.text,.int .i64 u.int,.string u.str,.int .i64 (ln:Int),.int .i64 (kk:Int)] 109)).cell? ⟨w5.heap.size,0,none⟩=some (.int .i64 u.kind):=by rw[cell_of_row _ _ _ _ _ _ (heap_alloc_new w5 _)];rfl
    have s1:(w5.alloc (.cells #[.int .i64 u.kind,.string u.text,.int .i64 u.int,.string u.str,.int .i64 (ln:Int),.int .i64 (kk:Int)] 109)).cell? ⟨w5.heap.size,1,none⟩=some (.string u.text):=by rw[cell_of_row _ _ _ _ _ _ (heap_alloc_new w5 _)];rfl
    have s2:(w5.alloc (.cells #[.int .i64 u.kind,.string u.text,.int .i64 u.int,.string u.str,.int .i64 (ln:Int),.int .i64 (kk:Int)] 109)).cell? ⟨w5.heap.size,2,none⟩=some (.int .i64 u.int):=by rw[cell_of_row _ _ _ _ _ _ (heap_alloc_new w5 _)];rfl
    have s3:(w5.alloc (.cells #[.int .i64 u.kind,.string u.text,.int .i64 u.int,.string u.str,.int .i64 (ln:Int),.int .i64 (kk:Int)] 109)).cell? ⟨w5.heap.size,3,none⟩=some (.string u.str):=by rw[cell_of_row _ _ _ _ _ _ (heap_alloc_new w5 _)];rfl
    have s4:(w5.alloc (.cells #[.int .i64 u.kind,.string u.text,.int .i64 u.int,.string u.str,.int .i64 (ln:Int),.int .i64 (kk:Int)] 109)).cell? ⟨w5.heap.size,4,none⟩=some (.int .i64 (ln:Int)):=by rw[cell_of_row _ _ _ _ _ _ (heap_alloc_new w5 _)];rfl
    have HO1:Hid (OwnT ((w5.alloc (.cells #[.int .i64 u.kind,.string u.text,.int .i64 u.int,.string u.str,.int .i64 (ln:Int),.int .i64 (kk:Int)] 109)).alloc (.cells #[.int .i64 u.kind,.string u.text,.int .i64 u.int,.string u.str,.int .i64 (ln:Int)] 59)) w.heap.size u5 o):=OwnL.alloc (OwnL.alloc HO5.out _) _
    have HRN:Hid (((w5.alloc (.cells #[.int .i64 u.kind,.string u.text,.int .i64 u.int,.string u.str,.int .i64 (ln:Int),.int .i64 (kk:Int)] 109)).alloc (.cells #[.int .i64 u.kind,.string u.text,.int .i64 u.int,.string u.str,.int .i64 (ln:Int)] 59)).rangeAt (w5.heap.size+1) 0 [.int .i64 u.kind,.string u.text,.int .i64 u.int,.string u.str,.int .i64 (ln:Int)]):=by
     have:=zR (w5.alloc (.cells #[.int .i64 u.kind,.string u.text,.int .i64 u.int,.string u.str,.int .i64 (ln:Int),.int .i64 (kk:Int)] 109)) [.int .i64 u.kind,.string u.text,.int .i64 u.int,.string u.str,.int .i64 (ln:Int)] 59;rw[show (w5.alloc (.cells #[.int .i64 u.kind,.string u.text,.int .i64 u.int,.string u.str,.int .i64 (ln:Int),.int .i64 (kk:Int)] 109)).heap.size=w5.heap.size+1 by simp] at this
     exact this
    have HZ7:Hid (w.heap.size≤((w5.alloc (.cells #[.int .i64 u.kind,.string u.text,.int .i64 u.int,.string u.str,.int .i64 (ln:Int),.int .i64 (kk:Int)] 109)).alloc (.cells #[.int .i64 u.kind,.string u.text,.int .i64 u.int,.string u.str,.int .i64 (ln:Int)] 59)).heap.size):=by have:=HB5.out.size;show _≤_;simp;omega
    have HB7:Hid (Below w.heap.size w ((w5.alloc (.cells #[.int .i64 u.kind,.string u.text,.int .i64 u.int,.string u.str,.int .i64 (ln:Int),.int .i64 (kk:Int)] 109)).alloc (.cells #[.int .i64 u.kind,.string u.text,.int .i64 u.int,.string u.str,.int .i64 (ln:Int)] 59))):=(HB5.out.alloc HB5.out.size _).alloc (by have:=HB5.out.size;simp;omega) _
    have HXR:Hid (((w5.alloc (.cells #[.int .i64 u.kind,.string u.text,.int .i64 u.int,.string u.str,.int .i64 (ln:Int),.int .i64 (kk:Int)] 109)).alloc (.cells #[.int .i64 u.kind,.string u.text,.int .i64 u.int,.string u.str,.int .i64 (ln:Int)] 59)).heap[w5.heap.size]? = some (.cells #[.int .i64 u.kind,.string u.text,.int .i64 u.int,.string u.str,.int .i64 (ln:Int),.int .i64 (kk:Int)] 109)):=tmp_al (heap_alloc_new w5 _) _
    have HOL:Hid (∀g,u5.ownBlock=some g→g<w5.heap.size):=fun g hg=>(World.ownsRow.lt HO5.out g hg).2
    have hk5:k+kk≤s.size:=by omega
    go_wp2_with (at_builtin;refine yG elem_tok _ rfl (.tmp 81) (.tmp 84) rfl w.heap.size _ _ _ rfl HO1.out (w5.heap.size+1) 0 1 1 [.int .i64 u.kind,.string u.text,.int .i64 u.int,.string u.str,.int .i64 (ln:Int)] rfl rfl HRN.out (by simp[Value.oneCell']) (by omega) (by omega) HZ7.out ?_;intro v8 w8 ho8 hg8;have HO8:=zh (OwnL.snoc (x:={ u with line:=(ln:Int) }) ho8);have HB8:=zh (HB7.out.grown hg8 HZ7.out HO1.out.lt);have x8:w8.cell? ⟨w5.heap.size,5,none⟩=some (.int .i64 (kk:Int)):=(by rw[cell_of_row _ _ _ _ _ _ ((yA hg8 (by simp;omega) (fun g hg e=>by have:=HOL.out g hg;omega)).trans HXR.out)];rfl);clear ho8 hg8)
    go_roundw
    case rel=>exact ⟨k+kk,o++[{ u with line:=(ln:Int) }],ln,hk5,by go_num,rfl,by omega,by simp;omega,HN.out,HO8.out,HB8.out⟩
    case measure=>simp[intOf];omega
theorem rTokens_long (s:ByteArray) (hs:s.size≤140737488355328) (hz:65536<s.size) (w:World):Calls Tryz.prog 20 #[.string s] w fun e w'=>e = .returned (.tuple #[.slice none 0 0,.int .i64 0,.int .i64 3])∧w'=w:=by
 have h1:(s.size:Int) > 65536:=by omega
 go_enter Tryz.func20,Tryz.ntmps20
 go_wp2
 go_ret3
 exact ⟨rfl,rfl⟩
theorem rToks_any (x:ByteArray) (hx:x.size≤140737488355328) (w:World) (hE:EnvL w):Calls Tryz.prog 20 #[.string x] w (LtP x w):=by
 by_cases hz:65536<x.size
 ·refine (rTokens_long x hx hz w).mono ?_
  rintro e w' ⟨rfl,rfl⟩;exact ⟨none,0,0,3,[],rfl,RowsR.nil _ _ _ _ _,by simp,Below.refl _ _,by rw[if_pos hz]⟩
 ·refine (rTokens_short x (by omega) w hE).mono ?_
  rintro e w' ⟨v,n,er,rfl,h,hb⟩
  cases ht:toksL 1 x.data.toList with
  | error l =>
   rw[ht] at h;obtain ⟨rfl,rfl,rfl⟩:=h;exact ⟨none,0,_,2,[],rfl,RowsR.nil _ _ _ _ _,by simp,hb,by rw[if_neg hz,ht]⟩
  | ok o =>
   rw[ht] at h;obtain ⟨ho,rfl,rfl⟩:=h;have hsz:=(toks_size _ 1 _ o (Nat.le_refl _) ht).2;have hxl:x.data.toList.length=x.size:=rfl;have htx:=toks_sz _ 1 _ o (Nat.le_refl _) ht;obtain ⟨A',c',rfl,hr⟩:=OwnT.toks ho (by unfold Lim;omega) fun t hm=>by
    have:=htx t hm;exact ⟨by unfold SOk;omega,by unfold SOk;omega⟩
   exact ⟨A',c',0,0,o,rfl,hr,by omega,hb,by rw[if_neg hz,ht];exact ⟨rfl,rfl,rfl⟩⟩
end Go.Proofs.YthkkllmmbefedaaGreatDoor


