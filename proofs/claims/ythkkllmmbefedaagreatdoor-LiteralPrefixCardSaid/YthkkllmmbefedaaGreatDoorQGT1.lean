/-
  Walks: slices.Clone of tokens.
-/
import Derived.Test.YthkkllmmbefedaaGreatDoorQGT0
namespace Go.Proofs.YthkkllmmbefedaaGreatDoor
open Go.RowKit Go.Proofs.Tryz
set_option maxHeartbeats 16000000
set_option maxRecDepth 100000
variable {L r:List UInt8} {c:UInt8}
theorem aK (h0:L=c::r) (hc:Dn (c.toNat:Int)=true):CP L=if Bh L<=24 then some (⟨1,bA (L.take (Bh L)),0,⟨#[]⟩,0⟩,Bh L) else none:=by
 subst h0;rw[CP,AAB (show BM c=true from hc)]
theorem qH (s:ByteArray) (hs:s.size<=140737488355328) (h1:0<s.size) (hl:Dn (s[0].toNat:Int)=true) (w:World):Calls prog 53 #[.string s] w (WE (CP s.data.toList) w):=by
 have E5:=zh hs;have HL:=zh hl;have Fy:=zh (G9 h1);have hsl:s.data.toList.length=s.size:=rfl;obtain ⟨K,hK⟩:∃K,Bh s.data.toList=K:=⟨_,rfl⟩;have HAT:Hid (∀k,1<=k->k<=s.size->(∀j (hj:j<s.size),j<k->LA s[j]=true)->(∀h:k<s.size,LA s[k]=false)->K=k):=fun k _ hk2 ha hb=>by
  rw[<-hK];exact VQ hk2 (fun i hi hik=>ha i hi hik) fun h=>hb h
 have hKl:K<=s.size:=by rw[<-hK];exact Jp _
 have PG:=zh (aK Fy hl);have HNM:=zh (Xm (c:=s[0]) (r:=s.data.toList.drop 1) hl);rw[<-Fy.O,hK] at HNM;rw[hK] at PG;have sM:Hid (bA (s.data.toList.take K)=s.extract 0 K):=Nw.2 (by rw[EK])
 rw[sM.O] at PG HNM;obtain ⟨R,hR⟩:∃R,CP s.data.toList=R:=⟨_,rfl⟩;rw[hR];rw[hR] at PG;have h10:(0:Int)<(s.size:Int):=by omega
 have HX0:=zh (AAA w ni);have HB0:=zh (zD w ni);clear hl hK hR
 go_enter func53,ntmps53
 go_upto_region 1 with fail
 generalize w.alloc ni=W0 at *
 go_upto_block 0 with (go_at_call 82;refine (Cj _ _).mono ?_;rintro e w' ⟨rfl,rfl⟩;rw[HL.O])
 go_cut [3] (fun z wx=>z = .int .i64 (K:Int)/\wx=W0)
 case first =>
  go_wp2_with fail
  go_loopw [3] (fun i wr=>∃k:Nat,1<=k/\k<=s.size/\i = .int .i64 k/\Hid (wr=W0/\∀j (hj:j<s.size),j<k->LA s[j]=true)) (fun i _=>s.size - (intOf i).toNat)
  case atStart=>exact ⟨1,by omega,by omega,rfl,rfl,fun j hj h=>by
   obtain rfl:j=0:=by omega
   unfold LA;rw[HL.O];rfl⟩
  case round =>
   obtain ⟨k,hk1,hk2,rfl,hh⟩:=hrel;obtain ⟨hw,hcc⟩:=hh.O;have HC:=zh hcc;clear hh hcc;subst hw;have g1:(0:Int)<=(k:Int):=by omega
   by_cases hlt:k<s.size
   ·have g2:(k:Int)<(s.size:Int):=by omega
    cases hd:Dn (s[k].toNat:Int) with
    | true =>
     have HD:=zh hd;have HN:Hid (∀j (hj:j<s.size),j<k+1->LA s[j]=true):=fun j hj h2=>by
      by_cases e:j=k
      ·subst e;unfold LA;rw[hd];rfl
      ·exact HC.O j hj (by omega)
     clear hd;go_wp2_with (go_at_call 82;refine (Cj _ _).mono ?_;rintro e w' ⟨rfl,rfl⟩;rw[HD.O]);go_roundw
     case rel=>exact ⟨k+1,by omega,by omega,by go_num,trivial,HN.O⟩
     case measure=>simp[intOf];omega
    | false =>
     have HD:=zh hd;clear hd
     cases hd2:FX (s[k].toNat:Int) with
     | true =>
      have HD2:=zh hd2;have HN:Hid (∀j (hj:j<s.size),j<k+1->LA s[j]=true):=fun j hj h2=>by
       by_cases e:j=k
       ·subst e;unfold LA;rw[HD.O,hd2];rfl
       ·exact HC.O j hj (by omega)
      clear hd2;go_wp2_with (first|(go_at_call 82;refine (Cj _ _).mono ?_;rintro e w' ⟨rfl,rfl⟩;rw[HD.O])|(go_at_call 83;refine (Cu _ _).mono ?_;rintro e w' ⟨rfl,rfl⟩;rw[HD2.O]));go_roundw
      case rel=>exact ⟨k+1,by omega,by omega,by go_num,trivial,HN.O⟩
      case measure=>simp[intOf];omega
     | false =>
      have HD2:=zh hd2;have HK:=zh (HAT.O k hk1 hk2 HC fun _=>by unfold LA;rw[HD.O,hd2];rfl)
      clear hd2;go_wp2_with (first|(go_at_call 82;refine (Cj _ _).mono ?_;rintro e w' ⟨rfl,rfl⟩;rw[HD.O])|(go_at_call 83;refine (Cu _ _).mono ?_;rintro e w' ⟨rfl,rfl⟩;rw[HD2.O]));go_meet;exact ⟨by rw[HK.O],rfl⟩
   ·have HK:=zh (HAT.O k hk1 hk2 HC fun h=>absurd h hlt)
    have g2:¬ (k:Int)<(s.size:Int):=by omega
    go_wp2
    go_meet
    exact ⟨by rw[HK.O],rfl⟩
 case rest =>
 obtain ⟨rfl,hw⟩:=hcut;subst hw;have g1:(0:Int)<=(K:Int):=by omega
 have g2:(K:Int)<=(s.size:Int):=by omega
 have HSE:Hid (Cw (s.extract 0 K)):=by
  have h:(s.extract 0 K).size=(s.data.toList.take K).length:=by rw[<-EK];rfl
  show _<=_
  rw[h,List.length_take];have:=E5.O
  omega
 obtain ⟨⟨z0,z1,z2,z3,z4,z5⟩,y0,y1,y2,y3,y4,y5⟩:=BR HX0
 by_cases ze:K<=24
 ·have eO:Hid (Bz (s.extract 0 K)=true):=HNM.O.trans (AAJ ze)
  have Ou:Hid (R=some (⟨1,s.extract 0 K,0,⟨#[]⟩,0⟩,K)):=by show _=_;rw[PG.O,AAB ze]
  clear ze;go_wp2_with (go_at_call 84;refine (K6 _ HSE _).mono ?_;rintro e w' ⟨rfl,rfl⟩;rw[eO.O]);have HK:=zh (Fg (t:=⟨1,s.extract 0 K,0,⟨#[]⟩,0⟩) HX0 HB0 fun w' hb=>TH Ou hb)
  clear z0 z1 z2 z3 z4 z5 y0 y1 y2 y3 y4 y5;unfold Go.Proofs.YthkkllmmbefedaaGreatDoor.Iy at HK;generalize World.setCell _ _ _=W9 at *;obtain ⟨⟨z0,z1,z2,z3,z4,z5⟩,_⟩:=BR HK.O.1
  exact bodyPost_ret (v:=af ⟨1,s.extract 0 K,0,⟨#[]⟩,0⟩ K) (by simp[results,results53,go_sem,z0,z1,z2,z3,z4,z5]) rfl HK.O.2
 ·have eO:Hid (Bz (s.extract 0 K)=false):=HNM.O.trans (AAP ze)
  have Ou:Hid (R=none):=by show _=_;rw[PG.O,Pd ze]
  clear ze;go_wp2_with (go_at_call 84;refine (K6 _ HSE _).mono ?_;rintro e w' ⟨rfl,rfl⟩;rw[eO.O]);have HK:=zh (Fg (t:=Wq) (n:=0) HX0 HB0 fun w' hb=>TI Ou hb)
  clear z0 z1 z2 z3 z4 z5 y0 y1 y2 y3 y4 y5;unfold Go.Proofs.YthkkllmmbefedaaGreatDoor.Iy at HK;generalize World.setCell _ _ _=W9 at *;obtain ⟨⟨z0,z1,z2,z3,z4,z5⟩,_⟩:=BR HK.O.1;exact bodyPost_ret (v:=af Wq 0) (by simp[results,results53,go_sem,z0,z1,z2,z3,z4,z5]) rfl HK.O.2
def qI (L:List UInt8):Bool:=match L with
 | []=>false
 | c::r=>zZ c||(decide (c.toNat=45)&&zZ (r.headD 0))
theorem iG (h0:L=c::r) (hc:Dn (c.toNat:Int)=false) (hn:qI L=true):CP L=(F9 (L.take (1+Dh r))).map fun v=>(⟨2,⟨#[]⟩,v,⟨#[]⟩,0⟩,1+Dh r):=by
 subst h0;rw[CP,Pd (by rw[show BM c=false from hc];simp),AAB (show (zZ c||(decide (c.toNat=45)&&zZ (r.headD 0)))=true from hn)]
theorem iF (h0:L=c::r) (hc:Dn (c.toNat:Int)=false) (hn:qI L=false) (hq:c.toNat=34):CP L=(I5 r).map fun p=>(⟨3,⟨#[]⟩,0,bA p.1,0⟩,p.2+1):=by
 subst h0;rw[CP,Pd (by rw[show BM c=false from hc];simp),Pd (by rw[show (zZ c||(decide (c.toNat=45)&&zZ (r.headD 0)))=false from hn];simp),AAB hq]
theorem iE (h0:L=c::r) (hc:Dn (c.toNat:Int)=false) (hn:qI L=false) (hq:c.toNat≠34):CP L=(Ck L).map fun n=>(⟨4,bA (L.take n),0,⟨#[]⟩,0⟩,n):=by
 subst h0;rw[CP,Pd (by rw[show BM c=false from hc];simp),Pd (by rw[show (zZ c||(decide (c.toNat=45)&&zZ (r.headD 0)))=false from hn];simp),Pd hq]
theorem kP {s:ByteArray} (h:1<s.size):(s.data.toList.drop 1).headD 0=s[1]:=by
 rw[ABf (show 1<s.data.toList.length from h)];rfl
theorem Nu {s:ByteArray} {n:Nat} (h:n<=s.size):(s.extract 0 n).size=n:=by
 have h2:(s.extract 0 n).size=(s.data.toList.take n).length:=by rw[<-EK];rfl
 rw[h2,List.length_take,show s.data.toList.length=s.size from rfl];omega
theorem vB (h:2<=L.length) (hm:L.take 2∈Ao):Ck L=some 2:=by
 match L,h with
 | c::d::r,_=>exact Yu.1 hm
theorem iT (h:2<=L.length->¬ L.take 2∈Ao):Ck L≠some 2:=fun e=>by
 have hl:=(Oy e).2.1
 match L,hl,h,e with
 | c::d::r,_,h,e=>exact h (by simp) (Yu.2 e)
 | [c],hl,_,_=>simp at hl
 | [],hl,_,_=>simp at hl
theorem vC (h:1<=L.length) (hm:L.take 1∈Ao) (h2:Ck L≠some 2):Ck L=some 1:=by
 match L,h with
 | c::r,_=>exact (Yv h2).1 hm
theorem uz (h:1<=L.length) (hm:¬ L.take 1∈Ao) (h2:Ck L≠some 2):Ck L=none:=by
 match L,h with
 | c::r,_ =>
  rcases @XE (c::r) with e|e|e
  ·exact e
  ·exact absurd ((Yv h2).2 e) hm
  ·exact absurd e h2
theorem vE {R:Option (AJ×Nat)} {o:Option (List UInt8×Nat)} {u:ByteArray} {n:Int} (hR:R=o.map fun p=>(⟨3,⟨#[]⟩,0,bA p.1,0⟩,p.2+1)) (hm:ACC u n o):NxM ⟨3,⟨#[]⟩,0,u,0⟩ n R:=by
 subst hR
 cases o with
 | none=>exact hm.2
 | some p=>exact ⟨by rw[hm.1],hm.2⟩
theorem ji (s:ByteArray) (hs:s.size<=140737488355328) (h1:0<s.size) (hl:Dn (s[0].toNat:Int)=false) (w:World) (hE:IB w):Calls prog 53 #[.string s] w (WE (CP s.data.toList) w):=by
 have E5:=zh hs;have HE:=zh hE;have HL:=zh hl;have Fy:=zh (G9 h1);have hsl:s.data.toList.length=s.size:=rfl;obtain ⟨nb,hnb⟩:∃nb,qI s.data.toList=nb:=⟨_,rfl⟩;have Km:Hid (nb=(FX (s[0].toNat:Int)||(decide (s[0].toNat=45)&&zZ ((s.data.toList.drop 1).headD 0)))):=by
  show _=_
  rw[<-hnb,Fy.O];rfl
 have mg:=zh (fun h=>iG Fy hl (hnb.trans h))
 have HTS:=zh (fun h=>iF Fy hl (hnb.trans h))
 have EY:=zh (fun h=>iE Fy hl (hnb.trans h))
 obtain ⟨R,hR⟩:∃R,CP s.data.toList=R:=⟨_,rfl⟩;rw[hR];rw[hR] at mg HTS EY;have h10:(0:Int)<(s.size:Int):=by omega
 have HX0:=zh (AAA w ni);have HB0:=zh (zD w ni);clear hl hR hnb hE
 go_enter func53,ntmps53
 go_upto_region 1 with fail
 generalize w.alloc ni=W0 at *;go_upto_region 8 with (go_at_call 82;refine (Cj _ _).mono ?_;rintro e w' ⟨rfl,rfl⟩;rw[HL.O])
 go_cut [57] (fun z wx=>z = .bool nb/\wx=W0)
 case first =>
  cases hd:FX (s[0].toNat:Int) with
  | true =>
   have HD:=zh hd;have eO:Hid (nb=true):=by show _=_;rw[Km.O,hd];rfl
   clear hd;go_wp2_with (go_at_call 83;refine (Cu _ _).mono ?_;rintro e w' ⟨rfl,rfl⟩;rw[HD.O]);go_meet;exact ⟨by rw[eO.O],rfl⟩
  | false =>
   have HD:=zh hd;clear hd
   by_cases h2:1<s.size
   ·have i2:(1:Int)<(s.size:Int):=by omega
    have i3:(s.size:Int) > 1:=i2
    by_cases h45:s[0].toNat=45
    ·have q1:((s[0].toNat:Int)==45)=true:=by rw[h45];rfl
     cases hd1:FX (s[1].toNat:Int) with
     | true =>
      have HD1:=zh hd1;have eO:Hid (nb=true):=by show _=_;rw[Km.O,HD.O,kP h2,AAJ h45,show zZ s[1]=true from hd1];rfl
      clear hd1 h45;go_wp2_with (go_at_call 83;refine (Cu _ _).mono ?_;rintro e w' ⟨rfl,rfl⟩;first|rw[HD.O]|rw[HD1.O]);go_meet;exact ⟨by rw[eO.O],rfl⟩
     | false =>
      have HD1:=zh hd1;have eO:Hid (nb=false):=by show _=_;rw[Km.O,HD.O,kP h2,AAJ h45,show zZ s[1]=false from hd1];rfl
      clear hd1 h45;go_wp2_with (go_at_call 83;refine (Cu _ _).mono ?_;rintro e w' ⟨rfl,rfl⟩;first|rw[HD.O]|rw[HD1.O]);go_meet;exact ⟨by rw[eO.O],rfl⟩
    ·have q1:((s[0].toNat:Int)==45)=false:=by simp;omega
     have eO:Hid (nb=false):=by show _=_;rw[Km.O,HD.O,AAP h45];rfl
     clear h45;go_wp2_with (go_at_call 83;refine (Cu _ _).mono ?_;rintro e w' ⟨rfl,rfl⟩;rw[HD.O]);go_meet;exact ⟨by rw[eO.O],rfl⟩
   ·have i3:¬ (s.size:Int) > 1:=by omega
    have eO:Hid (nb=false):=by
     show _=_
     rw[Km.O,HD.O,ABg (by omega)]
     cases decide (s[0].toNat=45) <;> rfl
    go_wp2_with (go_at_call 83;refine (Cu _ _).mono ?_;rintro e w' ⟨rfl,rfl⟩;rw[HD.O])
    go_meet
    exact ⟨by rw[eO.O],rfl⟩
 case rest =>
 obtain ⟨rfl,hw⟩:=hcut;obtain rfl:W0=wc:=hw.symm;clear Km
 cases nb with
 | true =>
  have HT0:=zh (mg.O rfl);clear mg HTS EY;obtain ⟨K,hK⟩:∃K,1+Dh (s.data.toList.drop 1)=K:=⟨_,rfl⟩;rw[hK] at HT0;have HKl:Hid (1<=K/\K<=s.size):=by
   show _/\_
   have:=J2 (s.data.toList.drop 1);rw[AA8] at this
   omega
  have HAT:Hid (∀k,1<=k->k<=s.size->(∀j (hj:j<s.size),1<=j->j<k->zZ s[j]=true)->(∀h:k<s.size,zZ s[k]=false)->K=k):=fun k hk1 hk2 ha hb=>by
   rw[<-hK];have:=Vy (l:=s.data.toList.drop 1) (n:=k - 1) (by rw[AA8];omega) (fun i hi hik=>by
    rw[List.getElem_drop];exact ha (1+i) (by rw[AA8] at hi;omega) (by omega) (by omega)) (fun h=>by
    rw[List.getElem_drop];have e:1+(k - 1)=k:=by omega
    have h2:k<s.size:=by rw[AA8] at h;omega
    have:=hb h2;simp only[e];exact this)
   omega
  have sM:Hid ((s.extract 0 K).data.toList=s.data.toList.take K):=EK;have HIN:Hid (bV (s.extract 0 K)=R):=by
   show _=_
   rw[bV,sM.O,Nu HKl.O.2,HT0.O]
  clear hK
  go_upto_block 2 with fail
  go_cut [4] (fun z wx=>z = .int .i64 (K:Int)/\wx=W0)
  case first =>
   go_wp2_with fail
   go_loopw [4] (fun i wr=>∃k:Nat,1<=k/\k<=s.size/\i = .int .i64 k/\Hid (wr=W0/\∀j (hj:j<s.size),1<=j->j<k->zZ s[j]=true)) (fun i _=>s.size - (intOf i).toNat)
   case atStart=>exact ⟨1,by omega,by omega,rfl,rfl,fun j hj h h2=>absurd h2 (by omega)⟩
   case round =>
    obtain ⟨k,hk1,hk2,rfl,hh⟩:=hrel;obtain ⟨hw,hcc⟩:=hh.O;have HC:=zh hcc;clear hh hcc;subst hw;have g1:(0:Int)<=(k:Int):=by omega
    by_cases hlt:k<s.size
    ·have g2:(k:Int)<(s.size:Int):=by omega
     cases hd:FX (s[k].toNat:Int) with
     | true =>
      have HD:=zh hd;have HN:Hid (∀j (hj:j<s.size),1<=j->j<k+1->zZ s[j]=true):=fun j hj h3 h2=>by
       by_cases e:j=k
       ·subst e;exact hd
       ·exact HC.O j hj h3 (by omega)
      clear hd;go_wp2_with (go_at_call 83;refine (Cu _ _).mono ?_;rintro e w' ⟨rfl,rfl⟩;rw[HD.O]);go_roundw
      case rel=>exact ⟨k+1,by omega,by omega,by go_num,trivial,HN.O⟩
      case measure=>simp[intOf];omega
     | false =>
      have HD:=zh hd;have HK:=zh (HAT.O k hk1 hk2 HC fun _=>hd)
      clear hd;go_wp2_with (go_at_call 83;refine (Cu _ _).mono ?_;rintro e w' ⟨rfl,rfl⟩;rw[HD.O]);go_meet;exact ⟨by rw[HK.O],rfl⟩
    ·have HK:=zh (HAT.O k hk1 hk2 HC fun h=>absurd h hlt)
     have g2:¬ (k:Int)<(s.size:Int):=by omega
     go_wp2
     go_meet
     exact ⟨by rw[HK.O],rfl⟩
  case rest =>
  obtain ⟨rfl,hw⟩:=hcut;subst hw;have g1:(0:Int)<=(K:Int):=by omega
  have g2:(K:Int)<=(s.size:Int):=by have:=HKl.O;omega
  have HSI:=zh (Sr (s.extract 0 K) (by rw[Nu HKl.O.2];have:=E5.O;have:=HKl.O;omega) (by rw[Nu HKl.O.2];have:=HKl.O;omega) wc (HE.O.below HB0))
  rw[HIN.O] at HSI;go_wp2_with fail;refine HSI.O.mono ?_;rintro e w5 ⟨t,n,rfl,hm,hb5⟩;have HM:=zh hm;have M6:=zh (zB HB0 hb5);have CO:=zh (zE HX0 hb5);clear hb5 hm;obtain ⟨⟨z0,z1,z2,z3,z4,z5⟩,y0,y1,y2,y3,y4,y5⟩:=BR CO;go_wp2;have HK:=zh (Fg (r:=R) (t:=t) (n:=n) CO M6 fun w' hb=>⟨t,n,rfl,HM.O,hb⟩)
  clear z0 z1 z2 z3 z4 z5 y0 y1 y2 y3 y4 y5;unfold Go.Proofs.YthkkllmmbefedaaGreatDoor.Iy at HK;generalize World.setCell _ _ _=W9 at *;obtain ⟨⟨z0,z1,z2,z3,z4,z5⟩,_⟩:=BR HK.O.1;exact bodyPost_ret (v:=af t n) (by simp[results,results53,go_sem,z0,z1,z2,z3,z4,z5]) rfl HK.O.2
 | false =>
  clear mg
  by_cases hq:s[0].toNat=34
  ·have HT0:=zh (HTS.O rfl hq)
   have q1:((s[0].toNat:Int)==34)=true:=by rw[hq];rfl
   have Wo:=zh (Xa s E5 h1 hq W0);clear HTS EY hq;go_wp2_with fail;refine Wo.O.mono ?_;rintro e w5 ⟨u,n,rfl,hm,hb5⟩;have HM:Hid (NxM ⟨3,⟨#[]⟩,0,u,0⟩ n R):=vE HT0 hm;have BL:=zh (zD w5 (.cells #[.string u,.int .i64 n] 146));have HXT:=zh (AAA w5 (.cells #[.string u,.int .i64 n] 146));have M6:=zh (zB (zB HB0 hb5) BL)
   have CO:=zh (zE (zE HX0 hb5) BL);clear hb5 hm;go_upto_region 15 with fail
   generalize w5.alloc (.cells #[.string u,.int .i64 n] 146)=W6 at *;generalize w5.heap.size=q6 at *;obtain ⟨⟨x0,x1⟩,_⟩:=Wy HXT;obtain ⟨⟨z0,z1,z2,z3,z4,z5⟩,y0,y1,y2,y3,y4,y5⟩:=BR CO;go_wp2;have HK:=zh (Fg (r:=R) (t:=⟨3,⟨#[]⟩,0,u,0⟩) (n:=n) CO M6 fun w' hb=>⟨⟨3,⟨#[]⟩,0,u,0⟩,n,rfl,HM.O,hb⟩)
   clear z0 z1 z2 z3 z4 z5 y0 y1 y2 y3 y4 y5;unfold Go.Proofs.YthkkllmmbefedaaGreatDoor.Iy at HK;generalize World.setCell _ _ _=W9 at *;obtain ⟨⟨z0,z1,z2,z3,z4,z5⟩,_⟩:=BR HK.O.1
   exact bodyPost_ret (v:=af ⟨3,⟨#[]⟩,0,u,0⟩ n) (by simp[results,results53,go_sem,z0,z1,z2,z3,z4,z5]) rfl HK.O.2
  ·have HT0:=zh (EY.O rfl hq)
   have q1:((s[0].toNat:Int)==34)=false:=by simp;omega
   clear HTS EY hq;obtain ⟨m,hm,hm2⟩:∃m:Nat,min (2:Int) (s.size:Int)=(m:Int)/\(m<=2/\m<=s.size/\(m<2->s.size<2)):=by
    by_cases h2:2<=s.size
    ·exact ⟨2,by omega,by omega,by omega,by omega⟩
    ·exact ⟨1,by omega,by omega,by omega,by omega⟩
   have Fb:=zh hm2;clear hm2;go_wp2
   go_loopw [6] (fun i wr=>∃k:Nat,k<=2/\k<=s.size/\i = .int .i64 k/\Hid ((∀j,k<j->j<=2->j<=s.size->¬ s.data.toList.take j∈Ao)/\Below W0.heap.size W0 wr)) (fun i _=>(intOf i).toNat)
   case atStart=>exact ⟨m,Fb.O.1,Fb.O.2.1,rfl,fun j h3 h4 h5=>by have:=Fb.O.2.2;omega,Pe _ _⟩
   case round =>
    obtain ⟨k,hk2,hks,rfl,hh⟩:=hrel;obtain ⟨wo,rfl⟩:∃wo:World,wo=wr:=⟨_,rfl⟩;have HN:=zh hh.O.1;have HBo:=zh hh.O.2;have rW:=zh (zE HX0 hh.O.2);have AB5:=zh (zB HB0 hh.O.2);clear hh;have nE:Hid (1<=k->k<2->Ck s.data.toList≠some 2):=fun _ h=>iT fun h2=>HN.O 2 h (AAF _) h2
    by_cases h0:k=0
    ·have Ov:Hid (R=none):=by
      show _=_
      rw[HT0.O,uz (show 1<=s.data.toList.length from h1) (HN.O 1 (by omega) (by omega) h1) (iT fun h2=>HN.O 2 (by omega) (AAF _) h2)];rfl
     subst h0;have g3:¬ ((0:Nat):Int) > 0:=by omega
     obtain ⟨⟨z0,z1,z2,z3,z4,z5⟩,y0,y1,y2,y3,y4,y5⟩:=BR rW;go_wp2;have HK:=zh (Fg (r:=R) (t:=Wq) (n:=0) rW AB5 fun w' hb=>TI Ov hb)
     clear z0 z1 z2 z3 z4 z5 y0 y1 y2 y3 y4 y5;unfold Go.Proofs.YthkkllmmbefedaaGreatDoor.Iy at HK;generalize World.setCell _ _ _=W9 at *;obtain ⟨⟨z0,z1,z2,z3,z4,z5⟩,_⟩:=BR HK.O.1;exact bodyPost_ret (v:=af Wq 0) (by simp[results,results53,go_sem,z0,z1,z2,z3,z4,z5]) rfl HK.O.2
    ·have g3:(k:Int) > 0:=by omega
     have g4:(0:Int)<=(k:Int):=by omega
     have g5:(k:Int)<=(s.size:Int):=by omega
     have sM:Hid (bA (s.data.toList.take k)=s.extract 0 k):=Nw.2 (by rw[EK])
     have hmem:=aO (s.data.toList.take k);rw[sM.O] at hmem;have HIS:=zh (Qn (s.extract 0 k) wo)
     cases hb:IJ.any fun x=>decide (x=s.extract 0 k) with
     | true =>
      rw[hb] at HIS hmem;have Ou:Hid (R=some (⟨4,s.extract 0 k,0,⟨#[]⟩,0⟩,k)):=by
       show _=_
       have hsy:Ck s.data.toList=some k:=by
        have hm:=hmem.1 rfl
        by_cases e2:k=2
        ·subst e2;exact vB (by omega) hm
        ·obtain rfl:k=1:=by omega
         exact vC (by omega) hm (nE.O (by omega) (by omega))
       rw[HT0.O,hsy,<-sM.O];rfl
      clear hmem hb h0;go_wp2_with fail;refine HIS.O.mono ?_;rintro e w5 ⟨rfl,hb5⟩;have CO:=zh (zE rW hb5);have Aq:=zh (zB AB5 hb5);clear hb5;obtain ⟨⟨z0,z1,z2,z3,z4,z5⟩,y0,y1,y2,y3,y4,y5⟩:=BR CO;go_wp2;have HK:=zh (Fg (r:=R) (t:=⟨4,s.extract 0 k,0,⟨#[]⟩,0⟩) (n:=k) CO Aq fun w' hb=>TH Ou hb)
      clear z0 z1 z2 z3 z4 z5 y0 y1 y2 y3 y4 y5;unfold Go.Proofs.YthkkllmmbefedaaGreatDoor.Iy at HK;generalize World.setCell _ _ _=W9 at *;obtain ⟨⟨z0,z1,z2,z3,z4,z5⟩,_⟩:=BR HK.O.1
      exact bodyPost_ret (v:=af ⟨4,s.extract 0 k,0,⟨#[]⟩,0⟩ k) (by simp[results,results53,go_sem,z0,z1,z2,z3,z4,z5]) rfl HK.O.2
     | false =>
      rw[hb] at HIS hmem;have xw:Hid (∀j,k - 1<j->j<=2->j<=s.size->¬ s.data.toList.take j∈Ao):=fun j h3 h4 h5=>by
       by_cases e:j=k
       ·subst e;exact fun h=>absurd (hmem.2 h) (by simp)
       ·exact HN.O j (by omega) h4 h5
      clear hmem hb;go_wp2_with fail;refine HIS.O.mono ?_;rintro e w5 ⟨rfl,hb5⟩;have Aq:=zh (zB HBo hb5);clear hb5;go_wp2;go_roundw
      case rel=>exact ⟨k - 1,by omega,by omega,by go_num,xw.O,Aq.O⟩
      case measure=>simp[intOf];omega
theorem jk (s:ByteArray) (hs:s.size<=140737488355328) (h1:0<s.size) (w:World) (hE:IB w):Calls prog 53 #[.string s] w (WE (CP s.data.toList) w):=by
 cases hl:Dn (s[0].toNat:Int) with
 | true=>exact qH s hs h1 hl w
 | false=>exact ji s hs h1 hl w hE
theorem bT (l:List UInt8):∃n,n<=l.length/\DN l=l.drop n:=by
 induction l with
 | nil=>exact ⟨0,AAF _,rfl⟩
 | cons c r ih =>
  rw[DN]
  split
  ·exact ⟨0,Nat.zero_le _,rfl⟩
  ·obtain ⟨n,h1,h2⟩:=ih
   exact ⟨n+1,by simpa using h1,by rw[h2];rfl⟩
theorem Vt {l:List UInt8} {i j:Nat} (hi:i<=l.length) (hj:j<=l.length) (h:l.drop i=l.drop j):i=j:=by
 have:=congrArg List.length h;rw[AA8,AA8] at this
 omega
theorem Qm (s:ByteArray) (hz:s.size<=65536) (w:World) (hE:IB w):Calls prog 20 #[.string s] w (V9 w s.data.toList):=by
 have HE:=zh hE;have hsl:s.data.toList.length=s.size:=rfl;have hgt:¬ (s.size:Int) > 65536:=by omega
 have HST:Hid (CQ s.data.toList (s.data.toList.drop 0) [] 1):=CQ.start _;clear hE
 go_enter func20,ntmps20
 go_wp2
 go_loopw [5,6,7] (fun v l i wr=>∃ (k:Nat) (o:List AJ) (ln:Nat),k<=s.size/\i = .int .i64 k/\l = .int .i64 ln/\ln<=k+1/\o.length<=k/\Hid (CQ s.data.toList (s.data.toList.drop k) o ln/\N8 wr w.heap.size v o/\Below w.heap.size w wr)) (fun _ _ i _=>s.size - (intOf i).toNat)
 case atStart=>exact ⟨0,[],1,by omega,rfl,rfl,by omega,by simp,HST.O,AZ.nil _ _,Pe _ _⟩
 case round =>
  obtain ⟨k,o,ln,hk,rfl,rfl,hln,hol,hh⟩:=hrel;have HT:=zh hh.O.1;have HO:=zh hh.O.2.1;have HB:=zh hh.O.2.2;clear hh HST;obtain ⟨wo,rfl⟩:∃wo:World,wo=wr:=⟨_,rfl⟩
  by_cases hlt:k<s.size
  case neg =>
   have HN:Hid (Ap 1 s.data.toList = .ok o):=CQ.end_ (by have:=HT.O;rwa [ABg (by omega)] at this)
   have g2:¬ (k:Int)<(s.size:Int):=by omega
   go_wp2
   go_ret3
   exact ⟨_,_,_,rfl,by rw[HN.O];exact ⟨HO.O,rfl,rfl⟩,HB.O⟩
  have g1:(0:Int)<=(k:Int):=by omega
  have g2:(k:Int)<(s.size:Int):=by omega
  have HD:=zh (VJ hlt);have HT1:Hid (CQ s.data.toList (s[k]::s.data.toList.drop (k+1)) o ln):=HD.O▸HT.O
  by_cases c1:s[k].toNat=10
  ·have q1:((s[k].toNat:Int)==32)=false:=by rw[c1];rfl
   have q2:((s[k].toNat:Int)==9)=false:=by rw[c1];rfl
   have q3:((s[k].toNat:Int)==10)=true:=by rw[c1];rfl
   have HN:Hid (CQ s.data.toList (s.data.toList.drop (k+1)) o ((ln+1:Nat):Int)):=HT1.O.nl c1;clear c1;go_wp2;go_roundw
   case rel=>exact ⟨k+1,o,ln+1,by omega,by go_num,by go_num,by omega,by omega,HN.O,HO.O,HB.O⟩
   case measure=>simp[intOf];omega
  have q3:((s[k].toNat:Int)==10)=false:=by simp;omega
  by_cases c2:s[k].toNat=32\/s[k].toNat=9
  ·have HN:Hid (CQ s.data.toList (s.data.toList.drop (k+1)) o (ln:Int)):=HT1.O.sp c1 c2
   have hD:((s[k].toNat:Int)==32)=true\/(((s[k].toNat:Int)==32)=false/\((s[k].toNat:Int)==9)=true):=by simp;omega
   clear c1 c2
   rcases hD with q1|⟨q1,q2⟩
   ·go_wp2
    go_roundw
    case rel=>exact ⟨k+1,o,ln,by omega,by go_num,by go_num,by omega,by omega,HN.O,HO.O,HB.O⟩
    case measure=>simp[intOf];omega
   ·go_wp2
    go_roundw
    case rel=>exact ⟨k+1,o,ln,by omega,by go_num,by go_num,by omega,by omega,HN.O,HO.O,HB.O⟩
    case measure=>simp[intOf];omega
  have q1:((s[k].toNat:Int)==32)=false:=by simp;omega
  have q2:((s[k].toNat:Int)==9)=false:=by simp;omega
  obtain ⟨cm,hcm⟩:∃cm:Bool,decide (s[k].toNat=47/\((s.data.toList.drop (k+1)).headD 0).toNat=47)=cm:=⟨_,rfl⟩;have HCM:=zh hcm;have yU:Hid (∀h:k+1<s.size,(s.data.toList.drop (k+1)).headD 0=s[k+1]):=fun h=>by
   rw[ABf (show k+1<s.data.toList.length from h)];rfl
  have HHN:Hid (¬ k+1<s.size->(s.data.toList.drop (k+1)).headD 0=0):=fun h=>by
   rw[ABg (by omega)];rfl
  clear hcm;go_upto_region 11 with fail
  go_cut [57] (fun z wx=>z = .bool cm/\wx=wo)
  case first =>
   by_cases h47:s[k].toNat=47
   ·have p1:((s[k].toNat:Int)==47)=true:=by rw[h47];rfl
    by_cases hk1:k+1<s.size
    ·have p2:(k:Int)+1<(s.size:Int):=by omega
     have p0:(0:Int)<=(k:Int)+1:=by omega
     by_cases h2:s[k+1].toNat=47
     ·have p3:((s[k+1].toNat:Int)==47)=true:=by rw[h2];rfl
      have HR:Hid (cm=true):=by show _=_;rw[<-HCM.O,yU.O hk1];exact AAJ ⟨h47,h2⟩
      go_wp2
      go_meet
      exact ⟨by rw[HR.O],rfl⟩
     ·have p3:((s[k+1].toNat:Int)==47)=false:=by simp;omega
      have HR:Hid (cm=false):=by show _=_;rw[<-HCM.O,yU.O hk1];exact AAP fun h=>h2 h.2
      go_wp2
      go_meet
      exact ⟨by rw[HR.O],rfl⟩
    ·have p2:¬ (k:Int)+1<(s.size:Int):=by omega
     have HR:Hid (cm=false):=by show _=_;rw[<-HCM.O,HHN.O hk1];exact AAP fun h=>absurd h.2 (by decide)
     go_wp2
     go_meet
     exact ⟨by rw[HR.O],rfl⟩
   ·have p1:((s[k].toNat:Int)==47)=false:=by simp;omega
    have HR:Hid (cm=false):=by show _=_;rw[<-HCM.O];exact AAP fun h=>h47 h.1
    go_wp2
    go_meet
    exact ⟨by rw[HR.O],rfl⟩
  case rest =>
  obtain ⟨rfl,hw⟩:=hcut;obtain rfl:wo=wc:=hw.symm
  cases cm with
  | true =>
   have HNC:=zh (HT1.O.cm c1 c2 (AAr HCM));rw[<-HD.O] at HNC;obtain ⟨n,hn1,hn2⟩:=bT (s.data.toList.drop k);rw[AA8] at hn1;rw[List.drop_drop] at hn2;have OB:=zh hn2;rw[hn2] at HNC;have hn0:1<=n:=by
    rcases Nat.eq_zero_or_pos n with e|e
    ·subst e
     exfalso
     rw[HD.O,DN,Pd c1] at hn2;have hl:=congrArg List.length hn2;have:=Gf (s.data.toList.drop (k+1));rw[AA8] at hl this
     omega
    ·exact e
   clear hn2 c1 c2 HCM yU HHN
   go_upto_block 2 with fail
   go_cut [7] (fun z wx=>z = .int .i64 ((k+n:Nat):Int)/\wx=wo)
   case first =>
    go_wp2_with fail
    go_loopw [7] (fun i wr=>∃j:Nat,k<=j/\j<=s.size/\i = .int .i64 j/\Hid (DN (s.data.toList.drop j)=DN (s.data.toList.drop k)/\wr=wo)) (fun i _=>s.size - (intOf i).toNat)
    case atStart=>exact ⟨k,by omega,by omega,rfl,rfl,rfl⟩
    case round =>
     obtain ⟨j,hj1,hj2,rfl,hh⟩:=hrel;obtain ⟨hl,hw⟩:=hh.O;have HJ:=zh hl;clear hh hl;subst hw;have e1:(0:Int)<=(j:Int):=by omega
     by_cases hlj:j<s.size
     ·have e2:(j:Int)<(s.size:Int):=by omega
      by_cases h10:s[j].toNat=10
      ·have p1:((s[j].toNat:Int) != 10)=false:=by rw[h10];rfl
       have HE2:Hid (j=k+n):=by
        show _=_
        refine Vt (l:=s.data.toList) (by omega) (by omega) ?_
        rw[<-OB.O,<-HJ.O,VJ hlj,DN,AAB h10]
       clear h10;go_wp2;go_meet;exact ⟨by rw[HE2.O],rfl⟩
      ·have p1:((s[j].toNat:Int) != 10)=true:=by simp;omega
       have HJ2:Hid (DN (s.data.toList.drop (j+1))=DN (s.data.toList.drop k)):=by
        show _=_
        rw[<-HJ.O,VJ hlj,DN,Pd h10]
       clear h10;go_wp2;go_roundw
       case rel=>exact ⟨j+1,by omega,by omega,by go_num,HJ2.O,trivial⟩
       case measure=>simp[intOf];omega
     ·have e2:¬ (j:Int)<(s.size:Int):=by omega
      have HE2:Hid (j=k+n):=by
       show _=_
       refine Vt (l:=s.data.toList) (by omega) (by omega) ?_
       rw[<-OB.O,<-HJ.O,ABg (show s.data.toList.length<=j by omega)];rfl
      go_wp2
      go_meet
      exact ⟨by rw[HE2.O],rfl⟩
   case rest =>
   obtain ⟨rfl,hw⟩:=hcut;obtain rfl:wo=wc:=hw.symm;go_wp2;go_roundw
   case rel=>exact ⟨k+n,o,ln,by omega,by go_num,by go_num,by omega,by omega,HNC.O,HO.O,HB.O⟩
   case measure=>simp[intOf];omega
  | false =>
   have HCN:Hid (¬ (s[k].toNat=47/\((s.data.toList.drop (k+1)).headD 0).toNat=47)):=of_decide_eq_false HCM;have HBAD:=zh (fun h=>HT1.O.bad c1 c2 HCN h)
   have ru:=zh (fun t m h=>HT1.O.tok c1 c2 HCN (t:=t) (k:=m) h)
   rw[<-HD.O] at HBAD ru;have Tt:=zh (jk (s.extract k s.size) (by rw[ext_size];omega) (by rw[ext_size];omega) wo (HE.O.below HB))
   rw[Gn] at Tt;clear c1 c2 HCM yU HHN HCN;have g3:(k:Int)<=(s.size:Int):=by omega
   go_wp2_with fail
   refine Tt.O.mono ?_;rintro e w5 ⟨u,n,rfl,hm,hb⟩;have Aq:=zh (HB.O.trans (hb.mono HB.O.size));have JM:=zh (HO.O.below hb);clear hb
   cases hk2:CP (s.data.toList.drop k) with
   | none =>
    rw[hk2] at hm;obtain rfl:n=0:=hm;have HN:=zh (HBAD.O hk2);have x5:(w5.alloc (.cells #[.int .i64 u.kind,.string u.text,.int .i64 u.int,.string u.str,.int .i64 u.line,.int .i64 0] 109)).cell? ⟨w5.heap.size,5,none⟩=some (.int .i64 0):=by rw[AAC _ _ _ _ _ _ (AAA w5 _)];rfl
    clear hk2;go_wp2
    go_ret3
    exact ⟨_,_,_,rfl,by rw[HN.O];exact ⟨rfl,rfl,rfl⟩,Aq.O.alloc Aq.O.size _⟩
   | some p =>
    obtain ⟨t,kk⟩:=p;rw[hk2] at hm;obtain ⟨rfl,rfl⟩:=hm;have hle:=Ir hk2;rw[AA8] at hle;have HN:=zh (ru.O _ kk hk2);rw[List.drop_drop] at HN;clear hk2;have q5:((kk:Int)==0)=false:=by simp;omega
    have x5:(w5.alloc (.cells #[.int .i64 u.kind,.string u.text,.int .i64 u.int,.string u.str,.int .i64 u.line,.int .i64 (kk:Int)] 109)).cell? ⟨w5.heap.size,5,none⟩=some (.int .i64 (kk:Int)):=by rw[AAC _ _ _ _ _ _ (AAA w5 _)];rfl
    have x4:(w5.alloc (.cells #[.int .i64 u.kind,.string u.text,.int .i64 u.int,.string u.str,.int .i64 u.line,.int .i64 (kk:Int)] 109)).cell? ⟨w5.heap.size,4,none⟩=some (.int .i64 u.line):=by rw[AAC _ _ _ _ _ _ (AAA w5 _)];rfl
    have f4:=AAG _ _ 4 _ _ (AAA w5 (.cells #[.int .i64 u.kind,.string u.text,.int .i64 u.int,.string u.str,.int .i64 u.line,.int .i64 (kk:Int)] 109))
    have s0:(w5.alloc (.cells #[.int .i64 u.kind,.string u.text,.int .i64 u.int,.string u.str,.int .i64 (ln:Int),.int .i64 (kk:Int)] 109)).cell? ⟨w5.heap.size,0,none⟩=some (.int .i64 u.kind):=by rw[AAC _ _ _ _ _ _ (AAA w5 _)];rfl
    have s1:(w5.alloc (.cells #[.int .i64 u.kind,.string u.text,.int .i64 u.int,.string u.str,.int .i64 (ln:Int),.int .i64 (kk:Int)] 109)).cell? ⟨w5.heap.size,1,none⟩=some (.string u.text):=by rw[AAC _ _ _ _ _ _ (AAA w5 _)];rfl
    have s2:(w5.alloc (.cells #[.int .i64 u.kind,.string u.text,.int .i64 u.int,.string u.str,.int .i64 (ln:Int),.int .i64 (kk:Int)] 109)).cell? ⟨w5.heap.size,2,none⟩=some (.int .i64 u.int):=by rw[AAC _ _ _ _ _ _ (AAA w5 _)];rfl
    have s3:(w5.alloc (.cells #[.int .i64 u.kind,.string u.text,.int .i64 u.int,.string u.str,.int .i64 (ln:Int),.int .i64 (kk:Int)] 109)).cell? ⟨w5.heap.size,3,none⟩=some (.string u.str):=by rw[AAC _ _ _ _ _ _ (AAA w5 _)];rfl
    have s4:(w5.alloc (.cells #[.int .i64 u.kind,.string u.text,.int .i64 u.int,.string u.str,.int .i64 (ln:Int),.int .i64 (kk:Int)] 109)).cell? ⟨w5.heap.size,4,none⟩=some (.int .i64 (ln:Int)):=by rw[AAC _ _ _ _ _ _ (AAA w5 _)];rfl
    have Lv:Hid (N8 ((w5.alloc (.cells #[.int .i64 u.kind,.string u.text,.int .i64 u.int,.string u.str,.int .i64 (ln:Int),.int .i64 (kk:Int)] 109)).alloc (.cells #[.int .i64 u.kind,.string u.text,.int .i64 u.int,.string u.str,.int .i64 (ln:Int)] 59)) w.heap.size u5 o):=AZ.alloc (AZ.alloc JM _) _
    have Ov:Hid (((w5.alloc (.cells #[.int .i64 u.kind,.string u.text,.int .i64 u.int,.string u.str,.int .i64 (ln:Int),.int .i64 (kk:Int)] 109)).alloc (.cells #[.int .i64 u.kind,.string u.text,.int .i64 u.int,.string u.str,.int .i64 (ln:Int)] 59)).rangeAt (w5.heap.size+1) 0 [.int .i64 u.kind,.string u.text,.int .i64 u.int,.string u.str,.int .i64 (ln:Int)]):=by
     have:=zR (w5.alloc (.cells #[.int .i64 u.kind,.string u.text,.int .i64 u.int,.string u.str,.int .i64 (ln:Int),.int .i64 (kk:Int)] 109)) [.int .i64 u.kind,.string u.text,.int .i64 u.int,.string u.str,.int .i64 (ln:Int)] 59;rw[show (w5.alloc (.cells #[.int .i64 u.kind,.string u.text,.int .i64 u.int,.string u.str,.int .i64 (ln:Int),.int .i64 (kk:Int)] 109)).heap.size=w5.heap.size+1 by simp] at this
     exact this
    have M8:Hid (w.heap.size<=((w5.alloc (.cells #[.int .i64 u.kind,.string u.text,.int .i64 u.int,.string u.str,.int .i64 (ln:Int),.int .i64 (kk:Int)] 109)).alloc (.cells #[.int .i64 u.kind,.string u.text,.int .i64 u.int,.string u.str,.int .i64 (ln:Int)] 59)).heap.size):=by have:=Aq.O.size;show _<=_;simp;omega
    have Bv:Hid (Below w.heap.size w ((w5.alloc (.cells #[.int .i64 u.kind,.string u.text,.int .i64 u.int,.string u.str,.int .i64 (ln:Int),.int .i64 (kk:Int)] 109)).alloc (.cells #[.int .i64 u.kind,.string u.text,.int .i64 u.int,.string u.str,.int .i64 (ln:Int)] 59))):=(Aq.O.alloc Aq.O.size _).alloc (by have:=Aq.O.size;simp;omega) _
    have WO:Hid (((w5.alloc (.cells #[.int .i64 u.kind,.string u.text,.int .i64 u.int,.string u.str,.int .i64 (ln:Int),.int .i64 (kk:Int)] 109)).alloc (.cells #[.int .i64 u.kind,.string u.text,.int .i64 u.int,.string u.str,.int .i64 (ln:Int)] 59)).heap[w5.heap.size]? = some (.cells #[.int .i64 u.kind,.string u.text,.int .i64 u.int,.string u.str,.int .i64 (ln:Int),.int .i64 (kk:Int)] 109)):=FH (AAA w5 _) _
    have HOL:Hid (∀g,u5.ownBlock=some g->g<w5.heap.size):=fun g hg=>(World.ownsRow.lt JM g hg).2
    have hk5:k+kk<=s.size:=by omega
    go_wp2_with (at_builtin;refine yG IZ _ rfl (.tmp 81) (.tmp 84) rfl w.heap.size _ _ _ rfl Lv (w5.heap.size+1) 0 1 1 [.int .i64 u.kind,.string u.text,.int .i64 u.int,.string u.str,.int .i64 (ln:Int)] rfl rfl Ov (by simp[Value.oneCell']) (by omega) (by omega) M8 ?_;intro v8 w8 BB Aw;have Ig:=zh (AZ.snoc (x:={ u with line:=(ln:Int) }) BB);have BF:=zh (Bv.O.grown Aw M8 Lv.O.lt);have x8:w8.cell? ⟨w5.heap.size,5,none⟩=some (.int .i64 (kk:Int)):=(by rw[AAC _ _ _ _ _ _ ((yA Aw (by simp;omega) (fun g hg e=>by have:=HOL.O g hg;omega)).trans WO)];rfl);clear BB Aw)
    go_roundw
    case rel=>exact ⟨k+kk,o++[{ u with line:=(ln:Int) }],ln,hk5,by go_num,rfl,by omega,by simp;omega,HN.O,Ig.O,BF.O⟩
    case measure=>simp[intOf];omega
theorem Sm (s:ByteArray) (hs:s.size<=140737488355328) (hz:65536<s.size) (w:World):Calls prog 20 #[.string s] w fun e w'=>e = .returned (.tuple #[.slice none 0 0,.int .i64 0,.int .i64 3])/\w'=w:=by
 have h1:(s.size:Int) > 65536:=by omega
 go_enter func20,ntmps20
 go_wp2
 go_ret3
 exact ⟨rfl,rfl⟩
theorem aj (x:ByteArray) (hx:x.size<=140737488355328) (w:World) (hE:IB w):Calls prog 20 #[.string x] w (LtP x w):=by
 by_cases hz:65536<x.size
 ·refine (Sm x hx hz w).mono ?_
  rintro e w' ⟨rfl,rfl⟩;exact ⟨none,0,0,3,[],rfl,AY.nil _ _ _ _ _,by simp,Pe _ _,by rw[AAB hz]⟩
 ·refine (Qm x (by omega) w hE).mono ?_
  rintro e w' ⟨v,n,er,rfl,h,hb⟩
  cases ht:Ap 1 x.data.toList with
  | error l =>
   rw[ht] at h;obtain ⟨rfl,rfl,rfl⟩:=h;exact ⟨none,0,_,2,[],rfl,AY.nil _ _ _ _ _,by simp,hb,by rw[Pd hz,ht]⟩
  | ok o =>
   rw[ht] at h;obtain ⟨ho,rfl,rfl⟩:=h;have hsz:=(FE _ 1 _ o (AAF _) ht).2;have hxl:x.data.toList.length=x.size:=rfl;have htx:=KG _ 1 _ o (AAF _) ht;obtain ⟨A',c',rfl,hr⟩:=N8.toks ho (by unfold EF;omega) fun t hm=>by
    have:=htx t hm;exact ⟨by unfold Cw;omega,by unfold Cw;omega⟩
   exact ⟨A',c',0,0,o,rfl,hr,by omega,hb,by rw[Pd hz,ht];exact ⟨rfl,rfl,rfl⟩⟩
theorem QU (css:List (List Value)) (hk:∀cs∈css,cs.length=5) (h1:∀cs∈css,∀u∈cs,u.oneCell'=true) (hn:EF 56 css.length) (A:zo) (c:Nat) (w:World) (hA:css≠[]->∃b o,A=some ⟨b,o,none⟩/\w.rangeAt b o css.flatten) :
  Calls prog 32 #[.slice A css.length c] w (OE 59 5 css w):=by
 have HA:=zh hA
 cases A with
 | none =>
  have hln:css=[]:=by
   by_cases e:css=[]
   ·exact e
   ·obtain ⟨b,o,e2,_⟩:=hA e;cases e2
  subst hln;clear hA hk h1 hn;have hnil:=fun (w:World)=>Lib.run_eql_slice_nil (P:=prog) w 50 59 none 0 c 0 0 underlying50
  go_enter func32,ntmps32
  go_wp2
  go_ret
  exact ⟨_,rfl,AZ.nil _ _,Pe _ _⟩
 | some a =>
  have HK:=zh (show css.flatten.length=css.length * 5 from Cy css hk);have HR:Hid (∀j u,css.flatten[j]? = some u->(w.alloc (.cells #[] 59)).cell? (a.add j)=some u):=fun j u hj=>by
   have hne:css≠[]:=fun e=>by subst e;simp at hj
   obtain ⟨b,o,e,hr⟩:=hA hne
   cases e
   rw[Addr.add_mid];exact BJ (zD w _) hr j u hj
  have H1:Hid (∀u∈css.flatten,u.oneCell'=true):=fun u hu=>by
   obtain ⟨cs,h2,h3⟩:=List.mem_flatten.1 hu;exact h1 cs h2 u h3
  have HN:Hid (0+css.length<=9223372036854775807):=by have:=hn;unfold EF at this;show 0+css.length<=9223372036854775807;omega
  have nE:Hid ((0+css.length) * 56<=140737488355328):=by have:=hn;unfold EF at this;show (0+css.length) * 56<=140737488355328;omega
  clear hA hk h1 hn;have hnil:=fun (w:World)=>Lib.run_eql_slice_nil (P:=prog) w 50 59 (some a) css.length c 0 0 underlying50
  have HO:Hid (WC 59 5 (w.alloc (.cells #[] 59)) w.heap.size (.slice (some ⟨w.heap.size,0,none⟩) 0 0) []):=NW w _ _ _ (AAF _)
  go_enter func32,ntmps32
  go_wp2_with (at_builtin;refine Fz IZ _ rfl (.tmp 5) (.tmp 6) rfl w.heap.size _ 0 [] rfl ?_ a css.length c css.flatten rfl ?_ ?_ ?_ ?_ ?_ ?_ ?_;(exact HO.O);(exact HK.O);(exact HR.O);(exact H1.O);(exact HN.O);(exact nE.O);(simp);intro v2 w2 ho2 hg2)
  go_ret
  refine ⟨_,rfl,?_,((zD w _)).grown hg2 (by simp) HO.O.lt⟩
  show World.ownsRow _ _ _ _ _ _ _
  rw[C9];rw[Nat.zero_add,List.nil_append] at ho2;exact ho2
theorem QS (t:AJ):(FW t).length=5/\∀u∈FW t,u.oneCell'=true:=⟨rfl,fun u hu=>by
 simp only[FW,ABP,List.mem_nil_iff,or_false] at hu
 rcases hu with rfl|rfl|rfl|rfl|rfl <;> rfl⟩
theorem Ze (l:List AJ) (A:zo) (c:Nat) (w:World) (hl:Ew w A l) :
  Calls prog 32 #[.slice A l.length c] w fun e w'=>∃B d,e = .returned (.slice B l.length d)/\N8 w' w.heap.size (.slice B l.length d) l/\Below w.heap.size w w':=by
 obtain ⟨css,h1,h2,h3,h4⟩:=AY.cells (fun x cs (h:AJ.At x cs)=>by rw[h.2];rfl) hl
 obtain rfl:css=l.map FW:=List.ext_getElem? fun i=>by
  by_cases hi:i<l.length
  ·rw[List.getElem?_map,zl hi,zl (by omega)]
   rw[(h2 i l[i] _ (zl hi) (zl (by omega))).2];rfl
  ·rw[List.getElem?_eq_none (by omega),List.getElem?_eq_none (by simp;omega)]
 have:=QU (l.map FW) h3 (fun cs hc u hu=>by obtain ⟨t,_,rfl⟩:=List.mem_map.1 hc;exact (QS t).2 u hu) (by rw[h1];exact hl.1) A c w (fun hn=>h4 (fun e=>hn (by rw[e];rfl)))
 rw[h1] at this;refine this.mono ?_;rintro e w' ⟨v,rfl,ho,hb⟩;have ho':N8 w' w.heap.size v l:=by
  have:w'.ownsRow w.heap.size 59 5 v (l.map FW).length ((l.map FW).flatMap (fun cs=>cs)):=ho
  rw[h1,C9] at this;exact this
 obtain ⟨B,d,rfl,_⟩:=AZ.reads ho';exact ⟨B,d,rfl,ho',hb⟩
