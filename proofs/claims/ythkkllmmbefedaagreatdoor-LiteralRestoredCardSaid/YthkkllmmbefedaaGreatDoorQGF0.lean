/-
  Walks: the chapter's examples.
-/
import Derived.Test.YthkkllmmbefedaaGreatDoorQAT1
import Derived.Test.YthkkllmmbefedaaGreatDoorQGA9
import Derived.Test.YthkkllmmbefedaaGreatDoorQGA7
import Derived.Test.YthkkllmmbefedaaGreatDoorQNRM
import Derived.Test.YthkkllmmbefedaaGreatDoorQGB0
import Derived.Test.YthkkllmmbefedaaGreatDoorQGB1
import Derived.Deep.CutBlock
namespace Go.Proofs.YthkkllmmbefedaaGreatDoor
open Go.RowKit
set_option maxHeartbeats 16000000
set_option maxRecDepth 100000
def ABg (s:List Aa) (t:Int) (v:Val) (p:List Int) (w:World) (e:Ending) (w':World):Prop:=e = .returned (.tuple #[.string (Lf s t v p).1,.int .i64 (Lf s t v p).2])/\Below w.heap.size w w'
variable {s:List Aa}
theorem ZE {t:Int} {v:Val} {p:List Int} (h:Wt s t v p≠0):Lf s t v p=(⟨#[]⟩,Wt s t v p):=by
 unfold Wt at h ⊢;unfold Lf
 split
 ·rfl
 ·rename_i hf
  rw[Pd hf] at h
  cases ha:Gz s t v p with
  | none=>rfl
  | some q=>rw[ha] at h;exact absurd rfl h
theorem fK {t:Int} {v:Val} {p:List Int} (h:Wt s t v p=0):Lf s t v p=(GA s t p,0)/\Bc s false t v=true/\(Gz s t v p).isSome=true:=by
 unfold Wt at h;unfold Lf
 cases hf:Bc s false t v with
 | false=>rw[hf,AAH rfl] at h;cases h
 | true =>
  rw[hf,Pd (by simp)] at h
  rw[Pd (by simp)]
  cases ha:Gz s t v p with
  | none=>rw[ha] at h;cases h
  | some q=>exact ⟨rfl,rfl,rfl⟩
theorem Qv (A:zo) (c:Nat) (hv:zQ s=0) (hn:DI s) (t:Int) (v:Val) (A1:zo) (c1:Nat) (A2:zo) (c2:Nat) (A3:zo) (c3:Nat) (p:List Int) (B:zo) (d:Nat) (hp:p.length<=1000000) (w:World) (hs:C8 w A s) (hr:Ao w v A1 A2 A3) (hi:Io w B p) (htb:jf w):
  Calls Tryz.prog 27 #[.agg #[.slice A s.length c],.int .i64 t,v.v A1 c1 A2 c2 A3 c3,.slice B p.length d] w (ABg s t v p w):=by
 have HS:=zh hs;have HR:=zh hr;have HI:=zh hi;have HV:=zh hv;have HN:=zh hn;have KJ:=zh htb;have yU:=zh (o7 hv hn);have hln:=hs.1.lt (by omega)
 have HX0:=zh (IE w (.cells #[.slice A s.length c] 31) (v.box A1 c1 A2 c2 A3 c3));have HB0:=zh (zI w (.cells #[.slice A s.length c] 31) (v.box A1 c1 A2 c2 A3 c3));have HAT:=zh (fun W=>kE (s:=s) A c hv hn t v A1 c1 A2 c2 A3 c3 p B d hp W)
 have jo:=zh (ZE (s:=s) (t:=t) (v:=v) (p:=p));have vQ:=zh (fK (s:=s) (t:=t) (v:=v) (p:=p));generalize hE:Wt s t v p=er at *;generalize hPS:Lf s t v p=PS at *;have HE:=zh hE;have Kk:=zh hPS;clear hs hr hi hv hn htb hE hPS
 go_enter Tryz.func27,Tryz.ntmps27
 go_upto_region 1 with fail
 generalize (w.alloc (.cells #[.slice A s.length c] 31)).alloc (v.box A1 c1 A2 c2 A3 c3)=W1 at *;obtain ⟨v0,v1,v2,v3,v4,v5,v6,v7⟩:=zF HX0.out.2.1;have x0:=zb HX0.out.1;go_wp2_with fail;refine (HAT.out W1 (HS.out.below HB0) (HR.out.below HB0) (HI.out.below HB0)).mono ?_;rintro e w2 ⟨y,F1,f1,F2,f2,F3,f3,u,rfl,hb2⟩;rw[HE.out];have BS:=zh (zD w2 (y.box F1 f1 F2 f2 F3 f3))
 have HB2:=zh (zB (zB HB0 hb2) BS);have YW:=zh (zE (zE HX0.out.1 hb2) BS);clear v0 v1 v2 v3 v4 v5 v6 v7 x0 hb2 HX0 HB0 HAT;go_upto_region 2 with fail
 generalize w2.alloc (y.box F1 f1 F2 f2 F3 f3)=W2 at *;generalize w2.heap.size=q2 at *
 by_cases he:er=0
 case neg =>
  have q1:(er != 0)=true:=by simp[he]
  have MW:=zh (jo.out he);clear he;go_wp2;go_ret2;exact ⟨by rw[Kk.out,MW.out];rfl,HB2.out⟩
 have MW:=zh (vQ.out he);have q1:(er != 0)=false:=by simp[he]
 have HST:Hid (GV s t p 0 t ⟨#[]⟩):=GV.start MW.out.2.1 MW.out.2.2;clear he;go_wp2
 go_loopw [1,13,33] (fun a o i wr=>∃ (n:Nat) (tn:Int) (ot:ByteArray),n<=p.length/\a = .int .i64 tn/\o = .string ot/\i = .int .i64 n/\Hid (GV s t p n tn ot/\Below w.heap.size w wr/\Below W2.heap.size W2 wr)) (fun _ _ i _=>p.length - (intOf i).toNat)
 case atStart=>exact ⟨0,t,⟨#[]⟩,by omega,rfl,rfl,rfl,HST.out,HB2.out,Pe _ _⟩
 case round =>
  obtain ⟨n,tn,ot,hnl,rfl,rfl,rfl,hh⟩:=hrel;obtain ⟨wo,rfl⟩:∃wo:World,wo=wr:=⟨_,rfl⟩;have HA:=zh hh.out.1;have HB:=zh hh.out.2.1;have Bw:=zh hh.out.2.2;have HXo:=zh (zE YW hh.out.2.2);clear hh HST
  by_cases hlt:n<p.length
  ·obtain ⟨pb,po,rfl,pc⟩:=(HI.out.below HB).aj hlt
   have hoz:=HA.out.2.2;obtain ⟨i0,i1⟩:=HA.out.rng;obtain ⟨m,rfl⟩:=AAY i0;have hm:m<s.length:=by omega
   have jk:Hid (AO s (m:Int)=s[m]):=zT hm;have Ye:=zh (fun k=>HA.out.idx HV yU hlt (k:=k))
   have KX:=zh (HA.out.els HV hlt);rw[jk.out] at Ye KX;generalize p[n]=pn at *;obtain ⟨bq,oq,As,cs,Am,cm,sH,htr,t0,t1,t2,t3,t4,t5,t6,t7,t8,t9⟩:=(HS.out.below HB).JX hm;subst sH;generalize s[m]=y at *;have Hz:=zh htr;have h1:(0:Int)<=(m:Int):=by omega
   have h2:(m:Int)<(s.length:Int):=by omega
   have h3:(0:Int)<=(n:Int):=by omega
   have h4:(n:Int)<(p.length:Int):=by omega
   have x0:=zb HXo;have BS:=zh (zD wo (y.box As cs Am cm));have HTX:Hid (CS (wo.alloc (y.box As cs Am cm)) wo.heap.size y As cs Am cm):=AAL wo _;have NM:=zh (Hz.out.below BS);have Dl:=zh (zB HB BS);have ACY:=zh (zB Bw BS);clear htr i0 i1 HA;go_upto_region 9 with fail
   clear t0 t1 t2 t3 t4 t5 t6 t7 t8 t9 x0 pc;generalize wo.alloc (y.box As cs Am cm)=W4 at *;generalize wo.heap.size=qt at *;obtain ⟨b0,b1,b2,b3,b4,b5,b6,b7,b8,b9⟩:=zG HTX;obtain ⟨r,hre⟩:∃r,Bg (fun m:AY=>decide (m.id=pn)) y.AA=r:=⟨_,rfl⟩
   have hcall:=Jt pn y As cs Am cm W4 NM;have hrl:=Fu (fun m:AY=>decide (m.id=pn)) y.AA
   rw[hre] at hcall hrl Ye KX;have NT:=zh hcall;clear hcall hre;go_wp2_with fail;refine NT.out.mono ?_;rintro e' w5 ⟨rfl,hb5⟩;have Ap:=zh (zB Dl hb5);have oh:=zh (zB ACY hb5);have yQ:Hid (CS w5 qt y As cs Am cm):=zE HTX hb5;have U5:=zh (NM.out.below hb5);clear hb5 NT b0 b1 b2 b3 b4 b5 b6 b7 b8 b9;obtain ⟨b0,b1,b2,b3,b4,b5,b6,b7,b8,b9⟩:=zG yQ
   by_cases hr0:r<0
   ·have z5:decide (0<=r)=false:=AAZ (by omega)
    have z6:(if r<0 then 0 else r)=0:=AAH hr0
    rw[z5,z6];obtain ⟨g1,g2,g3⟩:=KX.out hr0;have HG:=zh g1;have HI6:=zh g2;clear hr0 hrl z5 z6 Ye KX g1 g2;obtain ⟨D,hD⟩:∃D,CX pn=D:=⟨_,rfl⟩;have HIT:=zh (Ls pn HI6 w5 (KJ.out.below Ap));rw[hD] at HIT HG g3;have e1:(⟨#[91]⟩:ByteArray).size=1:=rfl;have e2:(⟨#[93]⟩:ByteArray).size=1:=rfl;have n1:¬ 9223372036854775807<(⟨#[91]⟩:ByteArray).size+D.size:=by omega
    have n2:¬ 9223372036854775807<(⟨#[91]⟩++D:ByteArray).size+(⟨#[93]⟩:ByteArray).size:=by rw[AAQ];omega
    have n3:¬ 9223372036854775807<ot.size+(⟨#[91]⟩++D++⟨#[93]⟩:ByteArray).size:=by rw[AAQ,AAQ];omega
    clear hD e1 e2;go_wp2_with fail;refine HIT.out.mono ?_;rintro e' w6 ⟨rfl,hb6⟩;have BH:=zh (zB Ap hb6);have vB:=zh (zB oh hb6);have ABm:Hid (CS w6 qt y As cs Am cm):=zE yQ hb6;clear hb6 b0 b1 b2 b3 b4 b5 b6 b7 b8 b9;obtain ⟨b0,b1,b2,b3,b4,b5,b6,b7,b8,b9⟩:=zG ABm;go_wp2;go_roundw
    case rel=>exact ⟨n+1,y.elem,_,by omega,rfl,rfl,by go_num,HG.out,BH.out,vB.out⟩
    case measure=>simp[intOf];omega
   ·obtain ⟨k,rfl⟩:=AAY (show 0<=r by omega)
    have hk:k<y.AA.length:=by omega
    have z5:decide (0<=(k:Int))=true:=AAT (by omega)
    have z6:(if (k:Int)<0 then 0 else (k:Int))=k:=Pd hr0
    rw[z5,z6];obtain ⟨g1,g2⟩:=Ye.out k rfl hk;have HG:=zh g1;clear hr0 hrl z5 z6 Ye KX g1;obtain ⟨mb,mo,M1,m1,M2,m2,M3,m3,hM,_,d0,d1,d2,d3,d4,d5,d6,d7,d8,d9,RA,Q9,Q8⟩:=U5.out.AA.K5 hk;clear d0 d3 d4 d5 d6 d7 d8 d9 RA Q9 Q8;subst hM;generalize y.AA[k]=mm at *;have g1:(0:Int)<=(k:Int):=by omega
    have g3:(k:Int)<(y.AA.length:Int):=by omega
    have e1:(⟨#[46]⟩:ByteArray).size=1:=rfl;have n1:¬ 9223372036854775807<(⟨#[46]⟩:ByteArray).size+mm.name.size:=by omega
    have n3:¬ 9223372036854775807<ot.size+(⟨#[46]⟩++mm.name:ByteArray).size:=by rw[AAQ];omega
    clear e1;go_wp2;go_roundw
    case rel=>exact ⟨n+1,mm.type,_,by omega,rfl,rfl,by go_num,HG.out,Ap.out,oh.out⟩
    case measure=>simp[intOf];omega
  ·have Ji:=zh (HA.out.end_ (by omega))
   have h4:¬ (n:Int)<(p.length:Int):=by omega
   go_wp2
   go_ret2
   exact ⟨by rw[Kk.out,MW.out.1,<-Ji.out];rfl,HB.out⟩
theorem RX {α:Type} {k bytes:Nat} {at_:α->List Value->Prop} (w:World) (T:TypeId) (x y:α) {cx cy:List Value} (hx:at_ x cx) (hy:at_ y cy) (lx:cx.length=k) (hl:EK bytes 2) :
  Ac k bytes at_ (w.alloc (.cells (cx++cy).toArray T)) (some ⟨w.heap.size,0,none⟩) [x,y]:=by
 refine ⟨hl,fun _=>⟨_,_,rfl,fun i z hz=>?_⟩⟩
 have hr:=zR w (cx++cy) T
 match i,hz with
 | 0,hz =>
  obtain rfl:x=z:=by simpa using hz
  refine ⟨cx,hx,fun j u hj=>?_⟩
  have:=hr j u (by rw[ABS (AAf.1 hj).1];exact hj)
  simpa using this
 | 1,hz =>
  obtain rfl:y=z:=by simpa using hz
  refine ⟨cy,hy,fun j u hj=>?_⟩
  have:=hr (k+j) u (by rw[ABQ (by omega),lx];rw[show k+j - k=j by omega];exact hj)
  simpa using this
 | n+2,hz=>simp at hz
theorem mJ {α:Type} {k bytes:Nat} {at_:α->List Value->Prop} (w:World) (T:TypeId) (x:α) {cx:List Value} (hx:at_ x cx) (hl:EK bytes 1) :
  Ac k bytes at_ (w.alloc (.cells cx.toArray T)) (some ⟨w.heap.size,0,none⟩) [x]:=by
 refine ⟨hl,fun _=>⟨_,_,rfl,fun i z hz=>?_⟩⟩
 have hr:=zR w cx T
 match i,hz with
 | 0,hz =>
  obtain rfl:x=z:=by simpa using hz
  exact ⟨cx,hx,by simpa using hr⟩
 | n+1,hz=>simp at hz
theorem Nc (w:World) {m:AY} (h:Dk m.name) (e:m.dflt=zeroV):m.At w (m.cs none 0 none 0 none 0) :=
 ⟨none,0,none,0,none,0,rfl,h,by rw[e];exact Ym _⟩
theorem Es (w:World):Calls Tryz.prog 41 #[] w (oG Ir w):=by
 obtain ⟨O0,hO0⟩:∃O0:Obj,O0 = .cells #[.slice (some ⟨w.heap.size+1+1,0,none⟩) 3 3] 31:=⟨_,rfl⟩
 have HT:Hid (C8 (((w.alloc (.cells #[.slice (some ⟨w.heap.size+1+1,0,none⟩) 3 3] 31)).alloc (.cells (jZ.cs none 0 none 0 none 0++jY.cs none 0 none 0 none 0).toArray 118)).alloc (.cells (([⟨ZC,none,0,some ⟨w.heap.size+1,0,none⟩,2⟩,⟨fG,none,0,none,0⟩,⟨fF,none,0,none,0⟩]:List LK).flatMap LK.cells).toArray 87)) (some ⟨w.heap.size+1+1,0,none⟩) Ir):=by
  have HM:Fg ((w.alloc (.cells #[.slice (some ⟨w.heap.size+1+1,0,none⟩) 3 3] 31)).alloc (.cells (jZ.cs none 0 none 0 none 0++jY.cs none 0 none 0 none 0).toArray 118)) (some ⟨w.heap.size+1,0,none⟩) [jZ,jY]:=by
   have h:=RX (bytes:=160) (w.alloc (.cells #[.slice (some ⟨w.heap.size+1+1,0,none⟩) 3 3] 31)) 118 jZ jY (at_:=fun x cs=>AY.At ((w.alloc (.cells #[.slice (some ⟨w.heap.size+1+1,0,none⟩) 3 3] 31)).alloc (.cells (jZ.cs none 0 none 0 none 0++jY.cs none 0 none 0 none 0).toArray 118)) x cs) (k:=13) (Nc _ (Jr (by decide)) rfl) (Nc _ (Jr (by decide)) rfl) rfl (by unfold EK;decide)
   rwa [show (w.alloc (.cells #[.slice (some ⟨w.heap.size+1+1,0,none⟩) 3 3] 31)).heap.size=w.heap.size+1 by simp] at h
  have HT0:=kN ((w.alloc (.cells #[.slice (some ⟨w.heap.size+1+1,0,none⟩) 3 3] 31)).alloc (.cells (jZ.cs none 0 none 0 none 0++jY.cs none 0 none 0 none 0).toArray 118)) ([⟨ZC,none,0,some ⟨w.heap.size+1,0,none⟩,2⟩,⟨fG,none,0,none,0⟩,⟨fF,none,0,none,0⟩]:List LK)
  have hz2:((w.alloc (.cells #[.slice (some ⟨w.heap.size+1+1,0,none⟩) 3 3] 31)).alloc (.cells (jZ.cs none 0 none 0 none 0++jY.cs none 0 none 0 none 0).toArray 118)).heap.size=w.heap.size+1+1:=by simp
  rw[hz2] at HT0;refine HT0 (fun x hx=>?_) (by simp)
  simp only[AAi,List.mem_nil_iff,or_false] at hx
  rcases hx with rfl|rfl|rfl
  ·exact Oh (Jr (show ZC.name.size<=100 by decide)) rfl HM
  ·exact Dr G9 rfl rfl
  ·exact Dr G9 rfl rfl
 have HB:=zh (zB (zB (zD w (.cells #[.slice (some ⟨w.heap.size+1+1,0,none⟩) 3 3] 31)) (zD _ (.cells (jZ.cs none 0 none 0 none 0++jY.cs none 0 none 0 none 0).toArray 118))) (zD _ (.cells (([⟨ZC,none,0,some ⟨w.heap.size+1,0,none⟩,2⟩,⟨fG,none,0,none,0⟩,⟨fF,none,0,none,0⟩]:List LK).flatMap LK.cells).toArray 87)))
 have HC:Hid ((((w.alloc (.cells #[.slice (some ⟨w.heap.size+1+1,0,none⟩) 3 3] 31)).alloc (.cells (jZ.cs none 0 none 0 none 0++jY.cs none 0 none 0 none 0).toArray 118)).alloc (.cells (([⟨ZC,none,0,some ⟨w.heap.size+1,0,none⟩,2⟩,⟨fG,none,0,none,0⟩,⟨fF,none,0,none,0⟩]:List LK).flatMap LK.cells).toArray 87)).cell? ⟨w.heap.size,0,none⟩=some (.slice (some ⟨w.heap.size+1+1,0,none⟩) 3 3)):=by
  show _=_
  rw[AAN _ _ _ _ _ _ (zE (zE (AAL w _) (zD _ _)) (zD _ _))];rfl
 clear hO0 O0
 go_enter Tryz.func41,Tryz.ntmps41
 go_wp2
 have hcf:=HC.out;exact bodyPost_ret (v := .agg #[.slice (some ⟨w.heap.size+1+1,0,none⟩) 3 3]) (by
  simp only[results,Tryz.results41];go_simp) rfl ⟨some ⟨w.heap.size+1+1,0,none⟩,3,rfl,HT.out,HB.out⟩
end Go.Proofs.YthkkllmmbefedaaGreatDoor



