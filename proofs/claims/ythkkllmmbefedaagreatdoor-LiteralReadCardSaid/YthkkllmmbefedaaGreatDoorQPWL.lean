/-
  Walks: literal.Path.
-/
import Derived.Test.YthkkllmmbefedaaGreatDoorQATL
import Derived.Test.YthkkllmmbefedaaGreatDoorQGA9
namespace Go.Proofs.YthkkllmmbefedaaGreatDoor
open Go.RowKit
set_option maxHeartbeats 16000000
set_option maxRecDepth 100000
def zq (s:List AZ) (t:Int) (v:Val) (p:List Int) (w:World) (e:Ending) (w':World):Prop:=e = .returned (.tuple #[.string (Ol s t v p).1,.int .i64 (Ol s t v p).2])/\Below w.heap.size w w'
theorem dL {s:List AZ} {t:Int} {v:Val} {p:List Int} (h:YN s t v p=0):Ol s t v p=(GQ s t p,0)/\CQ s false t v=true/\(IQ s t v p).isSome=true:=by
 unfold YN at h;unfold Ol
 cases hf:CQ s false t v with
 | false=>rw[hf,AAC rfl] at h;cases h
 | true =>
  rw[hf,Pe (by simp)] at h
  rw[Pe (by simp)]
  cases ha:IQ s t v p with
  | none=>rw[ha] at h;cases h
  | some q=>exact ⟨rfl,rfl,rfl⟩
theorem Qn {s:List AZ} (aM:∀t,(AR s t).kind≠6) (A:zo) (c:Nat) (hv:zQ s=0) (hn:Ca s) (t:Int) (v:Val) (A1:zo) (c1:Nat) (A2:zo) (c2:Nat) (A3:zo) (c3:Nat) (p:List Int) (h0:YN s t v p=0) (B:zo) (d:Nat) (hp:p.length<=1000000) (w:World) (hs:DV w A s) (hr:BO w v A1 A2 A3) (hi:JH w B p) (htb:iK w) :
  Calls Tryz.prog 27 #[.agg #[.slice A s.length c],.int .i64 t,v.v A1 c1 A2 c2 A3 c3,.slice B p.length d] w (zq s t v p w):=by
 have HS:=zh hs;have HR:=zh hr;have HI:=zh hi;have HV:=zh hv;have HN:=zh hn;have P7:=zh htb;have nP:=zh (bU hv hn);have hln:=hs.1.lt (by omega)
 have HX0:=zh (Ig w (.cells #[.slice A s.length c] 31) (v.box A1 c1 A2 c2 A3 c3));have HB0:=zh (zI w (.cells #[.slice A s.length c] 31) (v.box A1 c1 A2 c2 A3 c3));have HAT:=zh (fun W=>iU (s:=s) aM A c hv hn t v A1 c1 A2 c2 A3 c3 p h0 B d hp W)
 have HPO:=zh (dL (s:=s) (t:=t) (v:=v) (p:=p));generalize hE:YN s t v p=er at *;generalize hPS:Ol s t v p=PS at *;have HE:=zh hE;have H0:=zh h0;have HPS:=zh hPS;clear hs hr hi hv hn htb hE hPS h0 aM
 go_enter Tryz.func27,Tryz.ntmps27
 go_upto_region 1 with fail
 generalize (w.alloc (.cells #[.slice A s.length c] 31)).alloc (v.box A1 c1 A2 c2 A3 c3)=W1 at *;obtain ⟨v0,v1,v2,v3,v4,v5,v6,v7⟩:=zF HX0.out.2.1;have x0:=zb HX0.out.1;go_wp2_with fail;refine (HAT.out W1 (HS.out.below HB0) (HR.out.below HB0) (HI.out.below HB0)).mono ?_;rintro e w2 ⟨y,F1,f1,F2,f2,F3,f3,u,rfl,hb2⟩;rw[HE.out];have BI:=zh (zD w2 (y.box F1 f1 F2 f2 F3 f3))
 have HB2:=zh (zB (zB HB0 hb2) BI);have Pz:=zh (zE (zE HX0.out.1 hb2) BI);clear v0 v1 v2 v3 v4 v5 v6 v7 x0 hb2 HX0 HB0 HAT;go_upto_region 2 with fail
 generalize w2.alloc (y.box F1 f1 F2 f2 F3 f3)=W2 at *;generalize w2.heap.size=q2 at *;have he:er=0:=H0.out;have Nk:=zh (HPO.out he);have q1:(er != 0)=false:=by simp[he]
 have HST:Hid (Gg s t p 0 t ⟨#[]⟩):=Gg.start Nk.out.2.1 Nk.out.2.2;clear he;go_wp2
 go_loopw [1,13,33] (fun a o i wr=>∃ (n:Nat) (tn:Int) (ot:ByteArray),n<=p.length/\a = .int .i64 tn/\o = .string ot/\i = .int .i64 n/\Hid (Gg s t p n tn ot/\Below w.heap.size w wr/\Below W2.heap.size W2 wr)) (fun _ _ i _=>p.length - (intOf i).toNat)
 case atStart=>exact ⟨0,t,⟨#[]⟩,by omega,rfl,rfl,rfl,HST.out,HB2.out,Pd _ _⟩
 case round =>
  obtain ⟨n,tn,ot,hnl,rfl,rfl,rfl,hh⟩:=hrel;obtain ⟨wo,rfl⟩:∃wo:World,wo=wr:=⟨_,rfl⟩;have HA:=zh hh.out.1;have HB:=zh hh.out.2.1;have F8:=zh hh.out.2.2;have lq:=zh (zE Pz hh.out.2.2);clear hh HST
  by_cases hlt:n<p.length
  ·obtain ⟨pb,po,rfl,pc⟩:=(HI.out.below HB).iJ hlt
   have hoz:=HA.out.2.2;obtain ⟨i0,i1⟩:=HA.out.rng;obtain ⟨m,rfl⟩:=AAh i0;have hm:m<s.length:=by omega
   have l9:Hid (AR s (m:Int)=s[m]):=zT hm;have Ph:=zh (fun k=>HA.out.idx HV nP hlt (k:=k))
   have MU:=zh (HA.out.els HV hlt);rw[l9.out] at Ph MU;generalize p[n]=pn at *;obtain ⟨bq,oq,As,cs,Am,cm,qC,htr,t0,t1,t2,t3,t4,t5,t6,t7,t8,t9⟩:=(HS.out.below HB).JM hm;subst qC;generalize s[m]=y at *;have F7:=zh htr;have h1:(0:Int)<=(m:Int):=by omega
   have h2:(m:Int)<(s.length:Int):=by omega
   have h3:(0:Int)<=(n:Int):=by omega
   have h4:(n:Int)<(p.length:Int):=by omega
   have x0:=zb lq;have BI:=zh (zD wo (y.box As cs Am cm));have HTX:Hid (Bf (wo.alloc (y.box As cs Am cm)) wo.heap.size y As cs Am cm):=AAA wo _;have Ey:=zh (F7.out.below BI);have BD:=zh (zB HB BI);have AA2:=zh (zB F8 BI);clear htr i0 i1 HA;go_upto_region 9 with fail
   clear t0 t1 t2 t3 t4 t5 t6 t7 t8 t9 x0 pc;generalize wo.alloc (y.box As cs Am cm)=W4 at *;generalize wo.heap.size=qt at *;obtain ⟨b0,b1,b2,b3,b4,b5,b6,b7,b8,b9⟩:=zG HTX;obtain ⟨r,hre⟩:∃r,Bv (fun m:AY=>decide (m.id=pn)) y.AA=r:=⟨_,rfl⟩
   have hcall:=Mq pn y As cs Am cm W4 Ey;have hrl:=Gw (fun m:AY=>decide (m.id=pn)) y.AA
   rw[hre] at hcall hrl Ph MU;have NP:=zh hcall;clear hcall hre;go_wp2_with fail;refine NP.out.mono ?_;rintro e' w5 ⟨rfl,hb5⟩;have BB:=zh (zB BD hb5);have MW:=zh (zB AA2 hb5);have vP:Hid (Bf w5 qt y As cs Am cm):=zE HTX hb5;have P6:=zh (Ey.out.below hb5);clear hb5 NP b0 b1 b2 b3 b4 b5 b6 b7 b8 b9;obtain ⟨b0,b1,b2,b3,b4,b5,b6,b7,b8,b9⟩:=zG vP
   by_cases hr0:r<0
   ·have z5:decide (0<=r)=false:=AAE (by omega)
    have z6:(if r<0 then 0 else r)=0:=AAC hr0
    rw[z5,z6];obtain ⟨g1,g2,g3⟩:=MU.out hr0;have HG:=zh g1;have HI6:=zh g2;clear hr0 hrl z5 z6 Ph MU g1 g2;obtain ⟨D,hD⟩:∃D,FP pn=D:=⟨_,rfl⟩;have HIT:=zh (Ui pn HI6 w5 (P7.out.below BB));rw[hD] at HIT HG g3;have e1:(⟨#[91]⟩:ByteArray).size=1:=rfl;have e2:(⟨#[93]⟩:ByteArray).size=1:=rfl;have n1:¬ 9223372036854775807<(⟨#[91]⟩:ByteArray).size+D.size:=by omega
    have n2:¬ 9223372036854775807<(⟨#[91]⟩++D:ByteArray).size+(⟨#[93]⟩:ByteArray).size:=by rw[AAa];omega
    have n3:¬ 9223372036854775807<ot.size+(⟨#[91]⟩++D++⟨#[93]⟩:ByteArray).size:=by rw[AAa,AAa];omega
    clear hD e1 e2;go_wp2_with fail;refine HIT.out.mono ?_;rintro e' w6 ⟨rfl,hb6⟩;have BA:=zh (zB BB hb6);have sD:=zh (zB MW hb6);have AAH:Hid (Bf w6 qt y As cs Am cm):=zE vP hb6;clear hb6 b0 b1 b2 b3 b4 b5 b6 b7 b8 b9;obtain ⟨b0,b1,b2,b3,b4,b5,b6,b7,b8,b9⟩:=zG AAH;go_wp2;go_roundw
    case rel=>exact ⟨n+1,y.elem,_,by omega,rfl,rfl,by go_num,HG.out,BA.out,sD.out⟩
    case measure=>simp[intOf];omega
   ·obtain ⟨k,rfl⟩:=AAh (show 0<=r by omega)
    have hk:k<y.AA.length:=by omega
    have z5:decide (0<=(k:Int))=true:=AAM (by omega)
    have z6:(if (k:Int)<0 then 0 else (k:Int))=k:=Pe hr0
    rw[z5,z6];obtain ⟨g1,g2⟩:=Ph.out k rfl hk;have HG:=zh g1;clear hr0 hrl z5 z6 Ph MU g1;obtain ⟨mb,mo,M1,m1,M2,m2,M3,m3,hM,_,d0,d1,d2,d3,d4,d5,d6,d7,d8,d9,aQ,aP,aO⟩:=P6.out.AA.MH hk;clear d0 d3 d4 d5 d6 d7 d8 d9 aQ aP aO;subst hM;generalize y.AA[k]=mm at *;have g1:(0:Int)<=(k:Int):=by omega
    have g3:(k:Int)<(y.AA.length:Int):=by omega
    have e1:(⟨#[46]⟩:ByteArray).size=1:=rfl;have n1:¬ 9223372036854775807<(⟨#[46]⟩:ByteArray).size+mm.name.size:=by omega
    have n3:¬ 9223372036854775807<ot.size+(⟨#[46]⟩++mm.name:ByteArray).size:=by rw[AAa];omega
    clear e1;go_wp2;go_roundw
    case rel=>exact ⟨n+1,mm.type,_,by omega,rfl,rfl,by go_num,HG.out,BB.out,MW.out⟩
    case measure=>simp[intOf];omega
  ·have Gp:=zh (HA.out.end_ (by omega))
   have h4:¬ (n:Int)<(p.length:Int):=by omega
   go_wp2
   go_ret2
   exact ⟨by rw[HPS.out,Nk.out.1,<-Gp.out];rfl,HB.out⟩
end Go.Proofs.YthkkllmmbefedaaGreatDoor



