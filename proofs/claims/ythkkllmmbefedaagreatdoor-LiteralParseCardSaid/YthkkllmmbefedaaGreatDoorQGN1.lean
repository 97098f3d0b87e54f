/-
  The reference's tokens of any text.
-/
import Derived.Test.YthkkllmmbefedaaGreatDoorQGN0
import Derived.Test.YthkkllmmbefedaaGreatDoorQGL0
import Derived.Test.YthkkllmmbefedaaGreatDoorQGA5
import Derived.Test.YthkkllmmbefedaaGreatDoorQGB0
import Derived.Test.YthkkllmmbefedaaGreatDoorQGA2
import Derived.Test.YthkkllmmbefedaaGreatDoorQNRM
import Derived.Deep.CutBlock
namespace Go.Proofs.YthkkllmmbefedaaGreatDoor
open Go.RowKit
set_option maxHeartbeats 16000000
set_option maxRecDepth 100000
variable {L r:List UInt8} {c:UInt8}
theorem Yr (h0:L=c::r) (hc:DT (c.toNat:Int)=true):Cj L=if CG L<=24 then some (⟨1,bA (L.take (CG L)),0,⟨#[]⟩,0⟩,CG L) else none:=by
 subst h0;rw[Cj,AAC (show BS c=true from hc)]
theorem kH (s:ByteArray) (hs:s.size<=140737488355328) (h1:0<s.size) (hl:DT (s[0].toNat:Int)=true) (w:World):Calls Tryz.prog 53 #[.string s] w (VH (Cj s.data.toList) w):=by
 have ED:=zh hs;have HL:=zh hl;have KW:=zh (GV h1);have hsl:s.data.toList.length=s.size:=rfl;obtain ⟨K,hK⟩:∃K,CG s.data.toList=K:=⟨_,rfl⟩;have HAT:Hid (∀k,1<=k->k<=s.size->(∀j (hj:j<s.size),j<k->Ko s[j]=true)->(∀h:k<s.size,Ko s[k]=false)->K=k):=fun k _ hk2 ha hb=>by
  rw[<-hK];exact Uh hk2 (fun i hi hik=>ha i hi hik) fun h=>hb h
 have hKl:K<=s.size:=by rw[<-hK];exact Jk _
 have NK:=zh (Yr KW hl);have wu:=zh (WN (c:=s[0]) (r:=s.data.toList.drop 1) hl);rw[<-KW.out,hK] at wu;rw[hK] at NK;have mO:Hid (bA (s.data.toList.take K)=s.extract 0 K):=NG.2 (by rw[D6])
 rw[mO.out] at NK wu;obtain ⟨R,hR⟩:∃R,Cj s.data.toList=R:=⟨_,rfl⟩;rw[hR];rw[hR] at NK;have h10:(0:Int)<(s.size:Int):=by omega
 have HX0:=zh (AAA w iT);have HB0:=zh (zD w iT);clear hl hK hR
 go_enter Tryz.func53,Tryz.ntmps53
 go_upto_region 1 with fail
 generalize w.alloc iT=W0 at *
 go_upto_block 0 with (go_at_call 82;refine (Ce _ _).mono ?_;rintro e w' ⟨rfl,rfl⟩;rw[HL.out])
 go_cut [3] (fun z wx=>z = .int .i64 (K:Int)/\wx=W0)
 case first =>
  go_wp2_with fail
  go_loopw [3] (fun i wr=>∃k:Nat,1<=k/\k<=s.size/\i = .int .i64 k/\Hid (wr=W0/\∀j (hj:j<s.size),j<k->Ko s[j]=true)) (fun i _=>s.size - (intOf i).toNat)
  case atStart=>exact ⟨1,by omega,by omega,rfl,rfl,fun j hj h=>by
   obtain rfl:j=0:=by omega
   unfold Ko;rw[HL.out];rfl⟩
  case round =>
   obtain ⟨k,hk1,hk2,rfl,hh⟩:=hrel;obtain ⟨hw,hcc⟩:=hh.out;have HC:=zh hcc;clear hh hcc;subst hw;have g1:(0:Int)<=(k:Int):=by omega
   by_cases hlt:k<s.size
   ·have g2:(k:Int)<(s.size:Int):=by omega
    cases hd:DT (s[k].toNat:Int) with
    | true =>
     have HD:=zh hd;have HN:Hid (∀j (hj:j<s.size),j<k+1->Ko s[j]=true):=fun j hj h2=>by
      by_cases e:j=k
      ·subst e;unfold Ko;rw[hd];rfl
      ·exact HC.out j hj (by omega)
     clear hd;go_wp2_with (go_at_call 82;refine (Ce _ _).mono ?_;rintro e w' ⟨rfl,rfl⟩;rw[HD.out]);go_roundw
     case rel=>exact ⟨k+1,by omega,by omega,by go_num,trivial,HN.out⟩
     case measure=>simp[intOf];omega
    | false =>
     have HD:=zh hd;clear hd
     cases hd2:Eb (s[k].toNat:Int) with
     | true =>
      have HD2:=zh hd2;have HN:Hid (∀j (hj:j<s.size),j<k+1->Ko s[j]=true):=fun j hj h2=>by
       by_cases e:j=k
       ·subst e;unfold Ko;rw[HD.out,hd2];rfl
       ·exact HC.out j hj (by omega)
      clear hd2;go_wp2_with (first|(go_at_call 82;refine (Ce _ _).mono ?_;rintro e w' ⟨rfl,rfl⟩;rw[HD.out])|(go_at_call 83;refine (Cv _ _).mono ?_;rintro e w' ⟨rfl,rfl⟩;rw[HD2.out]));go_roundw
      case rel=>exact ⟨k+1,by omega,by omega,by go_num,trivial,HN.out⟩
      case measure=>simp[intOf];omega
     | false =>
      have HD2:=zh hd2;have HK:=zh (HAT.out k hk1 hk2 HC fun _=>by unfold Ko;rw[HD.out,hd2];rfl)
      clear hd2;go_wp2_with (first|(go_at_call 82;refine (Ce _ _).mono ?_;rintro e w' ⟨rfl,rfl⟩;rw[HD.out])|(go_at_call 83;refine (Cv _ _).mono ?_;rintro e w' ⟨rfl,rfl⟩;rw[HD2.out]));go_meet;exact ⟨by rw[HK.out],rfl⟩
   ·have HK:=zh (HAT.out k hk1 hk2 HC fun h=>absurd h hlt)
    have g2:¬ (k:Int)<(s.size:Int):=by omega
    go_wp2
    go_meet
    exact ⟨by rw[HK.out],rfl⟩
 case rest =>
 obtain ⟨rfl,hw⟩:=hcut;subst hw;have g1:(0:Int)<=(K:Int):=by omega
 have g2:(K:Int)<=(s.size:Int):=by omega
 have wX:Hid (Dc (s.extract 0 K)):=by
  have h:(s.extract 0 K).size=(s.data.toList.take K).length:=by rw[<-D6];rfl
  show _<=_
  rw[h,List.length_take];have:=ED.out
  omega
 obtain ⟨⟨z0,z1,z2,z3,z4,z5⟩,y0,y1,y2,y3,y4,y5⟩:=BU HX0
 by_cases sM:K<=24
 ·have aH:Hid (CV (s.extract 0 K)=true):=wu.out.trans (AAM sM)
  have OQ:Hid (R=some (⟨1,s.extract 0 K,0,⟨#[]⟩,0⟩,K)):=by show _=_;rw[NK.out,AAC sM]
  clear sM;go_wp2_with (go_at_call 84;refine (Kl _ wX _).mono ?_;rintro e w' ⟨rfl,rfl⟩;rw[aH.out]);have HK:=zh (FE (t:=⟨1,s.extract 0 K,0,⟨#[]⟩,0⟩) HX0 HB0 fun w' hb=>R8 OQ hb)
  clear z0 z1 z2 z3 z4 z5 y0 y1 y2 y3 y4 y5;unfold Go.Proofs.YthkkllmmbefedaaGreatDoor.Np at HK;generalize World.setCell _ _ _=W9 at *;obtain ⟨⟨z0,z1,z2,z3,z4,z5⟩,_⟩:=BU HK.out.1
  exact bodyPost_ret (v:=Y4 ⟨1,s.extract 0 K,0,⟨#[]⟩,0⟩ K) (by simp[results,Tryz.results53,go_sem,z0,z1,z2,z3,z4,z5]) rfl HK.out.2
 ·have aH:Hid (CV (s.extract 0 K)=false):=wu.out.trans (AAE sM)
  have OQ:Hid (R=none):=by show _=_;rw[NK.out,Pe sM]
  clear sM;go_wp2_with (go_at_call 84;refine (Kl _ wX _).mono ?_;rintro e w' ⟨rfl,rfl⟩;rw[aH.out]);have HK:=zh (FE (t:=Ve) (n:=0) HX0 HB0 fun w' hb=>R9 OQ hb)
  clear z0 z1 z2 z3 z4 z5 y0 y1 y2 y3 y4 y5;unfold Go.Proofs.YthkkllmmbefedaaGreatDoor.Np at HK;generalize World.setCell _ _ _=W9 at *;obtain ⟨⟨z0,z1,z2,z3,z4,z5⟩,_⟩:=BU HK.out.1;exact bodyPost_ret (v:=Y4 Ve 0) (by simp[results,Tryz.results53,go_sem,z0,z1,z2,z3,z4,z5]) rfl HK.out.2
def kJ (L:List UInt8):Bool:=match L with
 | []=>false
 | c::r=>zZ c||(decide (c.toNat=45)&&zZ (r.headD 0))
theorem bE (h0:L=c::r) (hc:DT (c.toNat:Int)=false) (hn:kJ L=true):Cj L=(Fy (L.take (1+EI r))).map fun v=>(⟨2,⟨#[]⟩,v,⟨#[]⟩,0⟩,1+EI r):=by
 subst h0;rw[Cj,Pe (by rw[show BS c=false from hc];simp),AAC (show (zZ c||(decide (c.toNat=45)&&zZ (r.headD 0)))=true from hn)]
theorem bD (h0:L=c::r) (hc:DT (c.toNat:Int)=false) (hn:kJ L=false) (hq:c.toNat=34):Cj L=(Fb r).map fun p=>(⟨3,⟨#[]⟩,0,bA p.1,0⟩,p.2+1):=by
 subst h0;rw[Cj,Pe (by rw[show BS c=false from hc];simp),Pe (by rw[show (zZ c||(decide (c.toNat=45)&&zZ (r.headD 0)))=false from hn];simp),AAC hq]
theorem bC (h0:L=c::r) (hc:DT (c.toNat:Int)=false) (hn:kJ L=false) (hq:c.toNat≠34):Cj L=(Ck L).map fun n=>(⟨4,bA (L.take n),0,⟨#[]⟩,0⟩,n):=by
 subst h0;rw[Cj,Pe (by rw[show BS c=false from hc];simp),Pe (by rw[show (zZ c||(decide (c.toNat=45)&&zZ (r.headD 0)))=false from hn];simp),Pe hq]
theorem dm {s:ByteArray} (h:1<s.size):(s.data.toList.drop 1).headD 0=s[1]:=by
 rw[AAy (show 1<s.data.toList.length from h)];rfl
theorem ND {s:ByteArray} {n:Nat} (h:n<=s.size):(s.extract 0 n).size=n:=by
 have h2:(s.extract 0 n).size=(s.data.toList.take n).length:=by rw[<-D6];rfl
 rw[h2,List.length_take,show s.data.toList.length=s.size from rfl];omega
theorem oH (h:2<=L.length) (hm:L.take 2∈Ap):Ck L=some 2:=by
 match L,h with
 | c::d::r,_=>exact Xk.1 hm
theorem bK (h:2<=L.length->¬ L.take 2∈Ap):Ck L≠some 2:=fun e=>by
 have hl:=(OA e).2.1
 match L,hl,h,e with
 | c::d::r,_,h,e=>exact h (by simp) (Xk.2 e)
 | [c],hl,_,_=>simp at hl
 | [],hl,_,_=>simp at hl
theorem oI (h:1<=L.length) (hm:L.take 1∈Ap) (h2:Ck L≠some 2):Ck L=some 1:=by
 match L,h with
 | c::r,_=>exact (Xl h2).1 hm
theorem oG (h:1<=L.length) (hm:¬ L.take 1∈Ap) (h2:Ck L≠some 2):Ck L=none:=by
 match L,h with
 | c::r,_ =>
  rcases @Vp (c::r) with e|e|e
  ·exact e
  ·exact absurd ((Xl h2).2 e) hm
  ·exact absurd e h2
theorem oN {R:Option (AB×Nat)} {o:Option (List UInt8×Nat)} {u:ByteArray} {n:Int} (hR:R=o.map fun p=>(⟨3,⟨#[]⟩,0,bA p.1,0⟩,p.2+1)) (hm:wM u n o):zi ⟨3,⟨#[]⟩,0,u,0⟩ n R:=by
 subst hR
 cases o with
 | none=>exact hm.2
 | some p=>exact ⟨by rw[hm.1],hm.2⟩
theorem dQ (s:ByteArray) (hs:s.size<=140737488355328) (h1:0<s.size) (hl:DT (s[0].toNat:Int)=false) (w:World) (hE:Gq w):Calls Tryz.prog 53 #[.string s] w (VH (Cj s.data.toList) w):=by
 have ED:=zh hs;have HE:=zh hE;have HL:=zh hl;have KW:=zh (GV h1);have hsl:s.data.toList.length=s.size:=rfl;obtain ⟨nb,hnb⟩:∃nb,kJ s.data.toList=nb:=⟨_,rfl⟩;have LQ:Hid (nb=(Eb (s[0].toNat:Int)||(decide (s[0].toNat=45)&&zZ ((s.data.toList.drop 1).headD 0)))):=by
  show _=_
  rw[<-hnb,KW.out];rfl
 have gT:=zh (fun h=>bE KW hl (hnb.trans h))
 have vQ:=zh (fun h=>bD KW hl (hnb.trans h))
 have OP:=zh (fun h=>bC KW hl (hnb.trans h))
 obtain ⟨R,hR⟩:∃R,Cj s.data.toList=R:=⟨_,rfl⟩;rw[hR];rw[hR] at gT vQ OP;have h10:(0:Int)<(s.size:Int):=by omega
 have HX0:=zh (AAA w iT);have HB0:=zh (zD w iT);clear hl hR hnb hE
 go_enter Tryz.func53,Tryz.ntmps53
 go_upto_region 1 with fail
 generalize w.alloc iT=W0 at *;go_upto_region 8 with (go_at_call 82;refine (Ce _ _).mono ?_;rintro e w' ⟨rfl,rfl⟩;rw[HL.out])
 go_cut [57] (fun z wx=>z = .bool nb/\wx=W0)
 case first =>
  cases hd:Eb (s[0].toNat:Int) with
  | true =>
   have HD:=zh hd;have aH:Hid (nb=true):=by show _=_;rw[LQ.out,hd];rfl
   clear hd;go_wp2_with (go_at_call 83;refine (Cv _ _).mono ?_;rintro e w' ⟨rfl,rfl⟩;rw[HD.out]);go_meet;exact ⟨by rw[aH.out],rfl⟩
  | false =>
   have HD:=zh hd;clear hd
   by_cases h2:1<s.size
   ·have i2:(1:Int)<(s.size:Int):=by omega
    have i3:(s.size:Int) > 1:=i2
    by_cases h45:s[0].toNat=45
    ·have q1:((s[0].toNat:Int)==45)=true:=by rw[h45];rfl
     cases hd1:Eb (s[1].toNat:Int) with
     | true =>
      have HD1:=zh hd1;have aH:Hid (nb=true):=by show _=_;rw[LQ.out,HD.out,dm h2,AAM h45,show zZ s[1]=true from hd1];rfl
      clear hd1 h45;go_wp2_with (go_at_call 83;refine (Cv _ _).mono ?_;rintro e w' ⟨rfl,rfl⟩;first|rw[HD.out]|rw[HD1.out]);go_meet;exact ⟨by rw[aH.out],rfl⟩
     | false =>
      have HD1:=zh hd1;have aH:Hid (nb=false):=by show _=_;rw[LQ.out,HD.out,dm h2,AAM h45,show zZ s[1]=false from hd1];rfl
      clear hd1 h45;go_wp2_with (go_at_call 83;refine (Cv _ _).mono ?_;rintro e w' ⟨rfl,rfl⟩;first|rw[HD.out]|rw[HD1.out]);go_meet;exact ⟨by rw[aH.out],rfl⟩
    ·have q1:((s[0].toNat:Int)==45)=false:=by simp;omega
     have aH:Hid (nb=false):=by show _=_;rw[LQ.out,HD.out,AAE h45];rfl
     clear h45;go_wp2_with (go_at_call 83;refine (Cv _ _).mono ?_;rintro e w' ⟨rfl,rfl⟩;rw[HD.out]);go_meet;exact ⟨by rw[aH.out],rfl⟩
   ·have i3:¬ (s.size:Int) > 1:=by omega
    have aH:Hid (nb=false):=by
     show _=_
     rw[LQ.out,HD.out,AAp (by omega)]
     cases decide (s[0].toNat=45) <;> rfl
    go_wp2_with (go_at_call 83;refine (Cv _ _).mono ?_;rintro e w' ⟨rfl,rfl⟩;rw[HD.out])
    go_meet
    exact ⟨by rw[aH.out],rfl⟩
 case rest =>
 obtain ⟨rfl,hw⟩:=hcut;obtain rfl:W0=wc:=hw.symm;clear LQ
 cases nb with
 | true =>
  have HT0:=zh (gT.out rfl);clear gT vQ OP;obtain ⟨K,hK⟩:∃K,1+EI (s.data.toList.drop 1)=K:=⟨_,rfl⟩;rw[hK] at HT0;have tF:Hid (1<=K/\K<=s.size):=by
   show _/\_
   have:=Jt (s.data.toList.drop 1);rw[AAc] at this
   omega
  have HAT:Hid (∀k,1<=k->k<=s.size->(∀j (hj:j<s.size),1<=j->j<k->zZ s[j]=true)->(∀h:k<s.size,zZ s[k]=false)->K=k):=fun k hk1 hk2 ha hb=>by
   rw[<-hK];have:=U7 (l:=s.data.toList.drop 1) (n:=k - 1) (by rw[AAc];omega) (fun i hi hik=>by
    rw[List.getElem_drop];exact ha (1+i) (by rw[AAc] at hi;omega) (by omega) (by omega)) (fun h=>by
    rw[List.getElem_drop];have e:1+(k - 1)=k:=by omega
    have h2:k<s.size:=by rw[AAc] at h;omega
    have:=hb h2;simp only[e];exact this)
   omega
  have mO:Hid ((s.extract 0 K).data.toList=s.data.toList.take K):=D6;have HIN:Hid (Zc (s.extract 0 K)=R):=by
   show _=_
   rw[Zc,mO.out,ND tF.out.2,HT0.out]
  clear hK
  go_upto_block 2 with fail
  go_cut [4] (fun z wx=>z = .int .i64 (K:Int)/\wx=W0)
  case first =>
   go_wp2_with fail
   go_loopw [4] (fun i wr=>∃k:Nat,1<=k/\k<=s.size/\i = .int .i64 k/\Hid (wr=W0/\∀j (hj:j<s.size),1<=j->j<k->zZ s[j]=true)) (fun i _=>s.size - (intOf i).toNat)
   case atStart=>exact ⟨1,by omega,by omega,rfl,rfl,fun j hj h h2=>absurd h2 (by omega)⟩
   case round =>
    obtain ⟨k,hk1,hk2,rfl,hh⟩:=hrel;obtain ⟨hw,hcc⟩:=hh.out;have HC:=zh hcc;clear hh hcc;subst hw;have g1:(0:Int)<=(k:Int):=by omega
    by_cases hlt:k<s.size
    ·have g2:(k:Int)<(s.size:Int):=by omega
     cases hd:Eb (s[k].toNat:Int) with
     | true =>
      have HD:=zh hd;have HN:Hid (∀j (hj:j<s.size),1<=j->j<k+1->zZ s[j]=true):=fun j hj h3 h2=>by
       by_cases e:j=k
       ·subst e;exact hd
       ·exact HC.out j hj h3 (by omega)
      clear hd;go_wp2_with (go_at_call 83;refine (Cv _ _).mono ?_;rintro e w' ⟨rfl,rfl⟩;rw[HD.out]);go_roundw
      case rel=>exact ⟨k+1,by omega,by omega,by go_num,trivial,HN.out⟩
      case measure=>simp[intOf];omega
     | false =>
      have HD:=zh hd;have HK:=zh (HAT.out k hk1 hk2 HC fun _=>hd)
      clear hd;go_wp2_with (go_at_call 83;refine (Cv _ _).mono ?_;rintro e w' ⟨rfl,rfl⟩;rw[HD.out]);go_meet;exact ⟨by rw[HK.out],rfl⟩
    ·have HK:=zh (HAT.out k hk1 hk2 HC fun h=>absurd h hlt)
     have g2:¬ (k:Int)<(s.size:Int):=by omega
     go_wp2
     go_meet
     exact ⟨by rw[HK.out],rfl⟩
  case rest =>
  obtain ⟨rfl,hw⟩:=hcut;subst hw;have g1:(0:Int)<=(K:Int):=by omega
  have g2:(K:Int)<=(s.size:Int):=by have:=tF.out;omega
  have gU:=zh (Ru (s.extract 0 K) (by rw[ND tF.out.2];have:=ED.out;have:=tF.out;omega) (by rw[ND tF.out.2];have:=tF.out;omega) wc (HE.out.below HB0))
  rw[HIN.out] at gU;go_wp2_with fail;refine gU.out.mono ?_;rintro e w5 ⟨t,n,rfl,hm,hb5⟩;have HM:=zh hm;have MW:=zh (zB HB0 hb5);have BK:=zh (zE HX0 hb5);clear hb5 hm;obtain ⟨⟨z0,z1,z2,z3,z4,z5⟩,y0,y1,y2,y3,y4,y5⟩:=BU BK;go_wp2;have HK:=zh (FE (r:=R) (t:=t) (n:=n) BK MW fun w' hb=>⟨t,n,rfl,HM.out,hb⟩)
  clear z0 z1 z2 z3 z4 z5 y0 y1 y2 y3 y4 y5;unfold Go.Proofs.YthkkllmmbefedaaGreatDoor.Np at HK;generalize World.setCell _ _ _=W9 at *;obtain ⟨⟨z0,z1,z2,z3,z4,z5⟩,_⟩:=BU HK.out.1;exact bodyPost_ret (v:=Y4 t n) (by simp[results,Tryz.results53,go_sem,z0,z1,z2,z3,z4,z5]) rfl HK.out.2
 | false =>
  clear gT
  by_cases hq:s[0].toNat=34
  ·have HT0:=zh (vQ.out rfl hq)
   have q1:((s[0].toNat:Int)==34)=true:=by rw[hq];rfl
   have JO:=zh (V9 s ED h1 hq W0);clear vQ OP hq;go_wp2_with fail;refine JO.out.mono ?_;rintro e w5 ⟨u,n,rfl,hm,hb5⟩;have HM:Hid (zi ⟨3,⟨#[]⟩,0,u,0⟩ n R):=oN HT0 hm;have BI:=zh (zD w5 (.cells #[.string u,.int .i64 n] 146));have Hg:=zh (AAA w5 (.cells #[.string u,.int .i64 n] 146));have MW:=zh (zB (zB HB0 hb5) BI)
   have BK:=zh (zE (zE HX0 hb5) BI);clear hb5 hm;go_upto_region 15 with fail
   generalize w5.alloc (.cells #[.string u,.int .i64 n] 146)=W6 at *;generalize w5.heap.size=q6 at *;obtain ⟨⟨x0,x1⟩,_⟩:=Vl Hg;obtain ⟨⟨z0,z1,z2,z3,z4,z5⟩,y0,y1,y2,y3,y4,y5⟩:=BU BK;go_wp2;have HK:=zh (FE (r:=R) (t:=⟨3,⟨#[]⟩,0,u,0⟩) (n:=n) BK MW fun w' hb=>⟨⟨3,⟨#[]⟩,0,u,0⟩,n,rfl,HM.out,hb⟩)
   clear z0 z1 z2 z3 z4 z5 y0 y1 y2 y3 y4 y5;unfold Go.Proofs.YthkkllmmbefedaaGreatDoor.Np at HK;generalize World.setCell _ _ _=W9 at *;obtain ⟨⟨z0,z1,z2,z3,z4,z5⟩,_⟩:=BU HK.out.1
   exact bodyPost_ret (v:=Y4 ⟨3,⟨#[]⟩,0,u,0⟩ n) (by simp[results,Tryz.results53,go_sem,z0,z1,z2,z3,z4,z5]) rfl HK.out.2
  ·have HT0:=zh (OP.out rfl hq)
   have q1:((s[0].toNat:Int)==34)=false:=by simp;omega
   clear vQ OP hq;obtain ⟨m,hm,hm2⟩:∃m:Nat,min (2:Int) (s.size:Int)=(m:Int)/\(m<=2/\m<=s.size/\(m<2->s.size<2)):=by
    by_cases h2:2<=s.size
    ·exact ⟨2,by omega,by omega,by omega,by omega⟩
    ·exact ⟨1,by omega,by omega,by omega,by omega⟩
   have gu:=zh hm2;clear hm2;go_wp2
   go_loopw [6] (fun i wr=>∃k:Nat,k<=2/\k<=s.size/\i = .int .i64 k/\Hid ((∀j,k<j->j<=2->j<=s.size->¬ s.data.toList.take j∈Ap)/\Below W0.heap.size W0 wr)) (fun i _=>(intOf i).toNat)
   case atStart=>exact ⟨m,gu.out.1,gu.out.2.1,rfl,fun j h3 h4 h5=>by have:=gu.out.2.2;omega,Pd _ _⟩
   case round =>
    obtain ⟨k,hk2,hks,rfl,hh⟩:=hrel;obtain ⟨wo,rfl⟩:∃wo:World,wo=wr:=⟨_,rfl⟩;have HN:=zh hh.out.1;have HBo:=zh hh.out.2;have lq:=zh (zE HX0 hh.out.2);have wH:=zh (zB HB0 hh.out.2);clear hh;have mI:Hid (1<=k->k<2->Ck s.data.toList≠some 2):=fun _ h=>bK fun h2=>HN.out 2 h (AAQ _) h2
    by_cases h0:k=0
    ·have MR:Hid (R=none):=by
      show _=_
      rw[HT0.out,oG (show 1<=s.data.toList.length from h1) (HN.out 1 (by omega) (by omega) h1) (bK fun h2=>HN.out 2 (by omega) (AAQ _) h2)];rfl
     subst h0;have g3:¬ ((0:Nat):Int) > 0:=by omega
     obtain ⟨⟨z0,z1,z2,z3,z4,z5⟩,y0,y1,y2,y3,y4,y5⟩:=BU lq;go_wp2;have HK:=zh (FE (r:=R) (t:=Ve) (n:=0) lq wH fun w' hb=>R9 MR hb)
     clear z0 z1 z2 z3 z4 z5 y0 y1 y2 y3 y4 y5;unfold Go.Proofs.YthkkllmmbefedaaGreatDoor.Np at HK;generalize World.setCell _ _ _=W9 at *;obtain ⟨⟨z0,z1,z2,z3,z4,z5⟩,_⟩:=BU HK.out.1;exact bodyPost_ret (v:=Y4 Ve 0) (by simp[results,Tryz.results53,go_sem,z0,z1,z2,z3,z4,z5]) rfl HK.out.2
    ·have g3:(k:Int) > 0:=by omega
     have g4:(0:Int)<=(k:Int):=by omega
     have g5:(k:Int)<=(s.size:Int):=by omega
     have mO:Hid (bA (s.data.toList.take k)=s.extract 0 k):=NG.2 (by rw[D6])
     have hmem:=Yv (s.data.toList.take k);rw[mO.out] at hmem;have HIS:=zh (Pn (s.extract 0 k) wo)
     cases hb:Hz.any fun x=>decide (x=s.extract 0 k) with
     | true =>
      rw[hb] at HIS hmem;have OQ:Hid (R=some (⟨4,s.extract 0 k,0,⟨#[]⟩,0⟩,k)):=by
       show _=_
       have hsy:Ck s.data.toList=some k:=by
        have hm:=hmem.1 rfl
        by_cases e2:k=2
        ·subst e2;exact oH (by omega) hm
        ·obtain rfl:k=1:=by omega
         exact oI (by omega) hm (mI.out (by omega) (by omega))
       rw[HT0.out,hsy,<-mO.out];rfl
      clear hmem hb h0;go_wp2_with fail;refine HIS.out.mono ?_;rintro e w5 ⟨rfl,hb5⟩;have BK:=zh (zE lq hb5);have BB:=zh (zB wH hb5);clear hb5;obtain ⟨⟨z0,z1,z2,z3,z4,z5⟩,y0,y1,y2,y3,y4,y5⟩:=BU BK;go_wp2;have HK:=zh (FE (r:=R) (t:=⟨4,s.extract 0 k,0,⟨#[]⟩,0⟩) (n:=k) BK BB fun w' hb=>R8 OQ hb)
      clear z0 z1 z2 z3 z4 z5 y0 y1 y2 y3 y4 y5;unfold Go.Proofs.YthkkllmmbefedaaGreatDoor.Np at HK;generalize World.setCell _ _ _=W9 at *;obtain ⟨⟨z0,z1,z2,z3,z4,z5⟩,_⟩:=BU HK.out.1
      exact bodyPost_ret (v:=Y4 ⟨4,s.extract 0 k,0,⟨#[]⟩,0⟩ k) (by simp[results,Tryz.results53,go_sem,z0,z1,z2,z3,z4,z5]) rfl HK.out.2
     | false =>
      rw[hb] at HIS hmem;have rC:Hid (∀j,k - 1<j->j<=2->j<=s.size->¬ s.data.toList.take j∈Ap):=fun j h3 h4 h5=>by
       by_cases e:j=k
       ·subst e;exact fun h=>absurd (hmem.2 h) (by simp)
       ·exact HN.out j (by omega) h4 h5
      clear hmem hb;go_wp2_with fail;refine HIS.out.mono ?_;rintro e w5 ⟨rfl,hb5⟩;have BB:=zh (zB HBo hb5);clear hb5;go_wp2;go_roundw
      case rel=>exact ⟨k - 1,by omega,by omega,by go_num,rC.out,BB.out⟩
      case measure=>simp[intOf];omega
theorem dR (s:ByteArray) (hs:s.size<=140737488355328) (h1:0<s.size) (w:World) (hE:Gq w):Calls Tryz.prog 53 #[.string s] w (VH (Cj s.data.toList) w):=by
 cases hl:DT (s[0].toNat:Int) with
 | true=>exact kH s hs h1 hl w
 | false=>exact dQ s hs h1 hl w hE
theorem Zb (l:List UInt8):∃n,n<=l.length/\Dy l=l.drop n:=by
 induction l with
 | nil=>exact ⟨0,AAQ _,rfl⟩
 | cons c r ih =>
  rw[Dy]
  split
  ·exact ⟨0,Nat.zero_le _,rfl⟩
  ·obtain ⟨n,h1,h2⟩:=ih
   exact ⟨n+1,by simpa using h1,by rw[h2];rfl⟩
theorem U4 {l:List UInt8} {i j:Nat} (hi:i<=l.length) (hj:j<=l.length) (h:l.drop i=l.drop j):i=j:=by
 have:=congrArg List.length h;rw[AAc,AAc] at this
 omega
theorem Pm (s:ByteArray) (hz:s.size<=65536) (w:World) (hE:Gq w):Calls Tryz.prog 20 #[.string s] w (VE w s.data.toList):=by
 have HE:=zh hE;have hsl:s.data.toList.length=s.size:=rfl;have hgt:¬ (s.size:Int) > 65536:=by omega
 have HST:Hid (Az s.data.toList (s.data.toList.drop 0) [] 1):=Az.start _;clear hE
 go_enter Tryz.func20,Tryz.ntmps20
 go_wp2
 go_loopw [5,6,7] (fun v l i wr=>∃ (k:Nat) (o:List AB) (ln:Nat),k<=s.size/\i = .int .i64 k/\l = .int .i64 ln/\ln<=k+1/\o.length<=k/\Hid (Az s.data.toList (s.data.toList.drop k) o ln/\Sr wr w.heap.size v o/\Below w.heap.size w wr)) (fun _ _ i _=>s.size - (intOf i).toNat)
 case atStart=>exact ⟨0,[],1,by omega,rfl,rfl,by omega,by simp,HST.out,Ak.nil _ _,Pd _ _⟩
 case round =>
  obtain ⟨k,o,ln,hk,rfl,rfl,hln,hol,hh⟩:=hrel;have HT:=zh hh.out.1;have HO:=zh hh.out.2.1;have HB:=zh hh.out.2.2;clear hh HST;obtain ⟨wo,rfl⟩:∃wo:World,wo=wr:=⟨_,rfl⟩
  by_cases hlt:k<s.size
  case neg =>
   have HN:Hid (BJ 1 s.data.toList = .ok o):=Az.end_ (by have:=HT.out;rwa [AAp (by omega)] at this)
   have g2:¬ (k:Int)<(s.size:Int):=by omega
   go_wp2
   go_ret3
   exact ⟨_,_,_,rfl,by rw[HN.out];exact ⟨HO.out,rfl,rfl⟩,HB.out⟩
  have g1:(0:Int)<=(k:Int):=by omega
  have g2:(k:Int)<(s.size:Int):=by omega
  have HD:=zh (NZ hlt);have HT1:Hid (Az s.data.toList (s[k]::s.data.toList.drop (k+1)) o ln):=HD.out▸HT.out
  by_cases c1:s[k].toNat=10
  ·have q1:((s[k].toNat:Int)==32)=false:=by rw[c1];rfl
   have q2:((s[k].toNat:Int)==9)=false:=by rw[c1];rfl
   have q3:((s[k].toNat:Int)==10)=true:=by rw[c1];rfl
   have HN:Hid (Az s.data.toList (s.data.toList.drop (k+1)) o ((ln+1:Nat):Int)):=HT1.out.nl c1;clear c1;go_wp2;go_roundw
   case rel=>exact ⟨k+1,o,ln+1,by omega,by go_num,by go_num,by omega,by omega,HN.out,HO.out,HB.out⟩
   case measure=>simp[intOf];omega
  have q3:((s[k].toNat:Int)==10)=false:=by simp;omega
  by_cases c2:s[k].toNat=32\/s[k].toNat=9
  ·have HN:Hid (Az s.data.toList (s.data.toList.drop (k+1)) o (ln:Int)):=HT1.out.sp c1 c2
   have hD:((s[k].toNat:Int)==32)=true\/(((s[k].toNat:Int)==32)=false/\((s[k].toNat:Int)==9)=true):=by simp;omega
   clear c1 c2
   rcases hD with q1|⟨q1,q2⟩
   ·go_wp2
    go_roundw
    case rel=>exact ⟨k+1,o,ln,by omega,by go_num,by go_num,by omega,by omega,HN.out,HO.out,HB.out⟩
    case measure=>simp[intOf];omega
   ·go_wp2
    go_roundw
    case rel=>exact ⟨k+1,o,ln,by omega,by go_num,by go_num,by omega,by omega,HN.out,HO.out,HB.out⟩
    case measure=>simp[intOf];omega
  have q1:((s[k].toNat:Int)==32)=false:=by simp;omega
  have q2:((s[k].toNat:Int)==9)=false:=by simp;omega
  obtain ⟨cm,hcm⟩:∃cm:Bool,decide (s[k].toNat=47/\((s.data.toList.drop (k+1)).headD 0).toNat=47)=cm:=⟨_,rfl⟩;have HCM:=zh hcm;have rO:Hid (∀h:k+1<s.size,(s.data.toList.drop (k+1)).headD 0=s[k+1]):=fun h=>by
   rw[AAy (show k+1<s.data.toList.length from h)];rfl
  have HHN:Hid (¬ k+1<s.size->(s.data.toList.drop (k+1)).headD 0=0):=fun h=>by
   rw[AAp (by omega)];rfl
  clear hcm;go_upto_region 11 with fail
  go_cut [57] (fun z wx=>z = .bool cm/\wx=wo)
  case first =>
   by_cases h47:s[k].toNat=47
   ·have p1:((s[k].toNat:Int)==47)=true:=by rw[h47];rfl
    by_cases hk1:k+1<s.size
    ·have p2:(k:Int)+1<(s.size:Int):=by omega
     have p0:(0:Int)<=(k:Int)+1:=by omega
     by_cases h2:s[k+1].toNat=47
     ·have p3:((s[k+1].toNat:Int)==47)=true:=by rw[h2];rfl
      have HR:Hid (cm=true):=by show _=_;rw[<-HCM.out,rO.out hk1];exact AAM ⟨h47,h2⟩
      go_wp2
      go_meet
      exact ⟨by rw[HR.out],rfl⟩
     ·have p3:((s[k+1].toNat:Int)==47)=false:=by simp;omega
      have HR:Hid (cm=false):=by show _=_;rw[<-HCM.out,rO.out hk1];exact AAE fun h=>h2 h.2
      go_wp2
      go_meet
      exact ⟨by rw[HR.out],rfl⟩
    ·have p2:¬ (k:Int)+1<(s.size:Int):=by omega
     have HR:Hid (cm=false):=by show _=_;rw[<-HCM.out,HHN.out hk1];exact AAE fun h=>absurd h.2 (by decide)
     go_wp2
     go_meet
     exact ⟨by rw[HR.out],rfl⟩
   ·have p1:((s[k].toNat:Int)==47)=false:=by simp;omega
    have HR:Hid (cm=false):=by show _=_;rw[<-HCM.out];exact AAE fun h=>h47 h.1
    go_wp2
    go_meet
    exact ⟨by rw[HR.out],rfl⟩
  case rest =>
  obtain ⟨rfl,hw⟩:=hcut;obtain rfl:wo=wc:=hw.symm
  cases cm with
  | true =>
   have HNC:=zh (HT1.out.cm c1 c2 (AAm HCM));rw[<-HD.out] at HNC;obtain ⟨n,hn1,hn2⟩:=Zb (s.data.toList.drop k);rw[AAc] at hn1;rw[List.drop_drop] at hn2;have P8:=zh hn2;rw[hn2] at HNC;have hn0:1<=n:=by
    rcases Nat.eq_zero_or_pos n with e|e
    ·subst e
     exfalso
     rw[HD.out,Dy,Pe c1] at hn2;have hl:=congrArg List.length hn2;have:=GX (s.data.toList.drop (k+1));rw[AAc] at hl this
     omega
    ·exact e
   clear hn2 c1 c2 HCM rO HHN
   go_upto_block 2 with fail
   go_cut [7] (fun z wx=>z = .int .i64 ((k+n:Nat):Int)/\wx=wo)
   case first =>
    go_wp2_with fail
    go_loopw [7] (fun i wr=>∃j:Nat,k<=j/\j<=s.size/\i = .int .i64 j/\Hid (Dy (s.data.toList.drop j)=Dy (s.data.toList.drop k)/\wr=wo)) (fun i _=>s.size - (intOf i).toNat)
    case atStart=>exact ⟨k,by omega,by omega,rfl,rfl,rfl⟩
    case round =>
     obtain ⟨j,hj1,hj2,rfl,hh⟩:=hrel;obtain ⟨hl,hw⟩:=hh.out;have HJ:=zh hl;clear hh hl;subst hw;have e1:(0:Int)<=(j:Int):=by omega
     by_cases hlj:j<s.size
     ·have e2:(j:Int)<(s.size:Int):=by omega
      by_cases h10:s[j].toNat=10
      ·have p1:((s[j].toNat:Int) != 10)=false:=by rw[h10];rfl
       have HE2:Hid (j=k+n):=by
        show _=_
        refine U4 (l:=s.data.toList) (by omega) (by omega) ?_
        rw[<-P8.out,<-HJ.out,NZ hlj,Dy,AAC h10]
       clear h10;go_wp2;go_meet;exact ⟨by rw[HE2.out],rfl⟩
      ·have p1:((s[j].toNat:Int) != 10)=true:=by simp;omega
       have HJ2:Hid (Dy (s.data.toList.drop (j+1))=Dy (s.data.toList.drop k)):=by
        show _=_
        rw[<-HJ.out,NZ hlj,Dy,Pe h10]
       clear h10;go_wp2;go_roundw
       case rel=>exact ⟨j+1,by omega,by omega,by go_num,HJ2.out,trivial⟩
       case measure=>simp[intOf];omega
     ·have e2:¬ (j:Int)<(s.size:Int):=by omega
      have HE2:Hid (j=k+n):=by
       show _=_
       refine U4 (l:=s.data.toList) (by omega) (by omega) ?_
       rw[<-P8.out,<-HJ.out,AAp (show s.data.toList.length<=j by omega)];rfl
      go_wp2
      go_meet
      exact ⟨by rw[HE2.out],rfl⟩
   case rest =>
   obtain ⟨rfl,hw⟩:=hcut;obtain rfl:wo=wc:=hw.symm;go_wp2;go_roundw
   case rel=>exact ⟨k+n,o,ln,by omega,by go_num,by go_num,by omega,by omega,HNC.out,HO.out,HB.out⟩
   case measure=>simp[intOf];omega
  | false =>
   have HCN:Hid (¬ (s[k].toNat=47/\((s.data.toList.drop (k+1)).headD 0).toNat=47)):=of_decide_eq_false HCM;have HBAD:=zh (fun h=>HT1.out.bad c1 c2 HCN h)
   have l7:=zh (fun t m h=>HT1.out.tok c1 c2 HCN (t:=t) (k:=m) h)
   rw[<-HD.out] at HBAD l7;have KV:=zh (dR (s.extract k s.size) (by rw[ext_size];omega) (by rw[ext_size];omega) wo (HE.out.below HB))
   rw[Ea] at KV;clear c1 c2 HCM rO HHN HCN;have g3:(k:Int)<=(s.size:Int):=by omega
   go_wp2_with fail
   refine KV.out.mono ?_;rintro e w5 ⟨u,n,rfl,hm,hb⟩;have BB:=zh (HB.out.trans (hb.mono HB.out.size));have TL:=zh (HO.out.below hb);clear hb
   cases hk2:Cj (s.data.toList.drop k) with
   | none =>
    rw[hk2] at hm;obtain rfl:n=0:=hm;have HN:=zh (HBAD.out hk2);have x5:(w5.alloc (.cells #[.int .i64 u.kind,.string u.text,.int .i64 u.int,.string u.str,.int .i64 u.line,.int .i64 0] 109)).cell? ⟨w5.heap.size,5,none⟩=some (.int .i64 0):=by rw[AAB _ _ _ _ _ _ (AAA w5 _)];rfl
    clear hk2;go_wp2
    go_ret3
    exact ⟨_,_,_,rfl,by rw[HN.out];exact ⟨rfl,rfl,rfl⟩,BB.out.alloc BB.out.size _⟩
   | some p =>
    obtain ⟨t,kk⟩:=p;rw[hk2] at hm;obtain ⟨rfl,rfl⟩:=hm;have hle:=Ij hk2;rw[AAc] at hle;have HN:=zh (l7.out _ kk hk2);rw[List.drop_drop] at HN;clear hk2;have q5:((kk:Int)==0)=false:=by simp;omega
    have x5:(w5.alloc (.cells #[.int .i64 u.kind,.string u.text,.int .i64 u.int,.string u.str,.int .i64 u.line,.int .i64 (kk:Int)] 109)).cell? ⟨w5.heap.size,5,none⟩=some (.int .i64 (kk:Int)):=by rw[AAB _ _ _ _ _ _ (AAA w5 _)];rfl
    have x4:(w5.alloc (.cells #[.int .i64 u.kind,.string u.text,.int .i64 u.int,.string u.str,.int .i64 u.line,.int .i64 (kk:Int)] 109)).cell? ⟨w5.heap.size,4,none⟩=some (.int .i64 u.line):=by rw[AAB _ _ _ _ _ _ (AAA w5 _)];rfl
    have f4:=AAK _ _ 4 _ _ (AAA w5 (.cells #[.int .i64 u.kind,.string u.text,.int .i64 u.int,.string u.str,.int .i64 u.line,.int .i64 (kk:Int)] 109))
    have s0:(w5.alloc (.cells #[.int .i64 u.kind,.string u.text,.int .i64 u.int,.string u.str,.int .i64 (ln:Int),.int .i64 (kk:Int)] 109)).cell? ⟨w5.heap.size,0,none⟩=some (.int .i64 u.kind):=by rw[AAB _ _ _ _ _ _ (AAA w5 _)];rfl
    have s1:(w5.alloc (.cells #[.int .i64 u.kind,.string u.text,.int .i64 u.int,.string u.str,.int .i64 (ln:Int),.int .i64 (kk:Int)] 109)).cell? ⟨w5.heap.size,1,none⟩=some (.string u.text):=by rw[AAB _ _ _ _ _ _ (AAA w5 _)];rfl
    have s2:(w5.alloc (.cells #[.int .i64 u.kind,.string u.text,.int .i64 u.int,.string u.str,.int .i64 (ln:Int),.int .i64 (kk:Int)] 109)).cell? ⟨w5.heap.size,2,none⟩=some (.int .i64 u.int):=by rw[AAB _ _ _ _ _ _ (AAA w5 _)];rfl
    have s3:(w5.alloc (.cells #[.int .i64 u.kind,.string u.text,.int .i64 u.int,.string u.str,.int .i64 (ln:Int),.int .i64 (kk:Int)] 109)).cell? ⟨w5.heap.size,3,none⟩=some (.string u.str):=by rw[AAB _ _ _ _ _ _ (AAA w5 _)];rfl
    have s4:(w5.alloc (.cells #[.int .i64 u.kind,.string u.text,.int .i64 u.int,.string u.str,.int .i64 (ln:Int),.int .i64 (kk:Int)] 109)).cell? ⟨w5.heap.size,4,none⟩=some (.int .i64 (ln:Int)):=by rw[AAB _ _ _ _ _ _ (AAA w5 _)];rfl
    have JR:Hid (Sr ((w5.alloc (.cells #[.int .i64 u.kind,.string u.text,.int .i64 u.int,.string u.str,.int .i64 (ln:Int),.int .i64 (kk:Int)] 109)).alloc (.cells #[.int .i64 u.kind,.string u.text,.int .i64 u.int,.string u.str,.int .i64 (ln:Int)] 59)) w.heap.size u5 o):=Ak.alloc (Ak.alloc TL _) _
    have MR:Hid (((w5.alloc (.cells #[.int .i64 u.kind,.string u.text,.int .i64 u.int,.string u.str,.int .i64 (ln:Int),.int .i64 (kk:Int)] 109)).alloc (.cells #[.int .i64 u.kind,.string u.text,.int .i64 u.int,.string u.str,.int .i64 (ln:Int)] 59)).rangeAt (w5.heap.size+1) 0 [.int .i64 u.kind,.string u.text,.int .i64 u.int,.string u.str,.int .i64 (ln:Int)]):=by
     have:=zR (w5.alloc (.cells #[.int .i64 u.kind,.string u.text,.int .i64 u.int,.string u.str,.int .i64 (ln:Int),.int .i64 (kk:Int)] 109)) [.int .i64 u.kind,.string u.text,.int .i64 u.int,.string u.str,.int .i64 (ln:Int)] 59;rw[show (w5.alloc (.cells #[.int .i64 u.kind,.string u.text,.int .i64 u.int,.string u.str,.int .i64 (ln:Int),.int .i64 (kk:Int)] 109)).heap.size=w5.heap.size+1 by simp] at this
     exact this
    have KS:Hid (w.heap.size<=((w5.alloc (.cells #[.int .i64 u.kind,.string u.text,.int .i64 u.int,.string u.str,.int .i64 (ln:Int),.int .i64 (kk:Int)] 109)).alloc (.cells #[.int .i64 u.kind,.string u.text,.int .i64 u.int,.string u.str,.int .i64 (ln:Int)] 59)).heap.size):=by have:=BB.out.size;show _<=_;simp;omega
    have CJ:Hid (Below w.heap.size w ((w5.alloc (.cells #[.int .i64 u.kind,.string u.text,.int .i64 u.int,.string u.str,.int .i64 (ln:Int),.int .i64 (kk:Int)] 109)).alloc (.cells #[.int .i64 u.kind,.string u.text,.int .i64 u.int,.string u.str,.int .i64 (ln:Int)] 59))):=(BB.out.alloc BB.out.size _).alloc (by have:=BB.out.size;simp;omega) _
    have P5:Hid (((w5.alloc (.cells #[.int .i64 u.kind,.string u.text,.int .i64 u.int,.string u.str,.int .i64 (ln:Int),.int .i64 (kk:Int)] 109)).alloc (.cells #[.int .i64 u.kind,.string u.text,.int .i64 u.int,.string u.str,.int .i64 (ln:Int)] 59)).heap[w5.heap.size]? = some (.cells #[.int .i64 u.kind,.string u.text,.int .i64 u.int,.string u.str,.int .i64 (ln:Int),.int .i64 (kk:Int)] 109)):=EP (AAA w5 _) _
    have HOL:Hid (∀g,u5.ownBlock=some g->g<w5.heap.size):=fun g hg=>(World.ownsRow.lt TL g hg).2
    have hk5:k+kk<=s.size:=by omega
    go_wp2_with (at_builtin;refine yG U1 _ rfl (.tmp 81) (.tmp 84) rfl w.heap.size _ _ _ rfl JR (w5.heap.size+1) 0 1 1 [.int .i64 u.kind,.string u.text,.int .i64 u.int,.string u.str,.int .i64 (ln:Int)] rfl rfl MR (by simp[Value.oneCell']) (by omega) (by omega) KS ?_;intro v8 w8 Bq Bp;have HO8:=zh (Ak.snoc (x:={ u with line:=(ln:Int) }) Bq);have FY:=zh (CJ.out.grown Bp KS JR.out.lt);have x8:w8.cell? ⟨w5.heap.size,5,none⟩=some (.int .i64 (kk:Int)):=(by rw[AAB _ _ _ _ _ _ ((yA Bp (by simp;omega) (fun g hg e=>by have:=HOL.out g hg;omega)).trans P5)];rfl);clear Bq Bp)
    go_roundw
    case rel=>exact ⟨k+kk,o++[{ u with line:=(ln:Int) }],ln,hk5,by go_num,rfl,by omega,by simp;omega,HN.out,HO8.out,FY.out⟩
    case measure=>simp[intOf];omega
theorem Rp (s:ByteArray) (hs:s.size<=140737488355328) (hz:65536<s.size) (w:World):Calls Tryz.prog 20 #[.string s] w fun e w'=>e = .returned (.tuple #[.slice none 0 0,.int .i64 0,.int .i64 3])/\w'=w:=by
 have h1:(s.size:Int) > 65536:=by omega
 go_enter Tryz.func20,Tryz.ntmps20
 go_wp2
 go_ret3
 exact ⟨rfl,rfl⟩
theorem Y7 (x:ByteArray) (hx:x.size<=140737488355328) (w:World) (hE:Gq w):Calls Tryz.prog 20 #[.string x] w (LtP x w):=by
 by_cases hz:65536<x.size
 ·refine (Rp x hx hz w).mono ?_
  rintro e w' ⟨rfl,rfl⟩;exact ⟨none,0,0,3,[],rfl,Ae.nil _ _ _ _ _,by simp,Pd _ _,by rw[AAC hz]⟩
 ·refine (Pm x (by omega) w hE).mono ?_
  rintro e w' ⟨v,n,er,rfl,h,hb⟩
  cases ht:BJ 1 x.data.toList with
  | error l =>
   rw[ht] at h;obtain ⟨rfl,rfl,rfl⟩:=h;exact ⟨none,0,_,2,[],rfl,Ae.nil _ _ _ _ _,by simp,hb,by rw[Pe hz,ht]⟩
  | ok o =>
   rw[ht] at h;obtain ⟨ho,rfl,rfl⟩:=h;have hsz:=(GA _ 1 _ o (AAQ _) ht).2;have hxl:x.data.toList.length=x.size:=rfl;have htx:=J7 _ 1 _ o (AAQ _) ht;obtain ⟨A',c',rfl,hr⟩:=Sr.toks ho (by unfold D9;omega) fun t hm=>by
    have:=htx t hm;exact ⟨by unfold Dc;omega,by unfold Dc;omega⟩
   exact ⟨A',c',0,0,o,rfl,hr,by omega,hb,by rw[Pe hz,ht];exact ⟨rfl,rfl,rfl⟩⟩
end Go.Proofs.YthkkllmmbefedaaGreatDoor



