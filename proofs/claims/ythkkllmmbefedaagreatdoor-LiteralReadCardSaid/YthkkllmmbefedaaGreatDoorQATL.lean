/-
  Walks: value.At: its error.
-/
import Derived.Test.YthkkllmmbefedaaGreatDoorQVC1
import Derived.Test.YthkkllmmbefedaaGreatDoorQGA7
import Derived.Test.YthkkllmmbefedaaGreatDoorQGE0
import Derived.Test.YthkkllmmbefedaaGreatDoorQGA8
namespace Go.Proofs.YthkkllmmbefedaaGreatDoor
open Go.RowKit
set_option maxHeartbeats 16000000
set_option maxRecDepth 100000
structure iR (s:List AZ) (A:zo) (c:Nat) (w:World) (t:Int) (v:Val) (p:List Int) (n:Nat) (tn:Int) (x:Val) (F1:zo) (f1:Nat) (F2:zo) (f2:Nat) (F3:zo) (f3:Nat) (wr:World):Prop where
 sb:wr.heap[w.heap.size]? = some (.cells #[.slice A s.length c] 31)
 vb:wr.heap[w.heap.size+1]? = some (x.box F1 f1 F2 f2 F3 f3)
 rb:wr.heap[w.heap.size+2]? = some zO
 Ch:Below w.heap.size w wr
 val:BO w x F1 F2 F3
 fit:CQ s false tn x=true
 at_:IQ s t v p=IQ s tn x (p.drop n)
variable {t:Int} {p:List Int} {s:List AZ} {v:Val} {w:World}
theorem iR.below {A:zo} {c:Nat} {n:Nat} {tn:Int} {x:Val} {F1:zo} {f1:Nat} {F2:zo} {f2:Nat} {F3:zo} {f3:Nat} {wr w':World} (h:iR s A c w t v p n tn x F1 f1 F2 f2 F3 f3 wr) (hb:Below wr.heap.size wr w'):iR s A c w t v p n tn x F1 f1 F2 f2 F3 f3 w' :=
 ⟨zE h.sb hb,zE h.vb hb,zE h.rb hb,zB h.Ch hb,h.val,h.fit,h.at_⟩
theorem Od {p q:Nat} (h:q≠p) (v0 v1 v2 v3 v4 v5 v6 v7:Value):(q8 w p v0 v1 v2 v3 v4 v5 v6 v7).heap[q]? = w.heap[q]? := by
 rw[AAO _ _ _ _ h,AAO _ _ _ _ h,AAO _ _ _ _ h,AAO _ _ _ _ h,AAO _ _ _ _ h,AAO _ _ _ _ h,AAO _ _ _ _ h,AAO _ _ _ _ h]
theorem iR.next {A:zo} {c:Nat} {n:Nat} {tn:Int} {x:Val} {F1:zo} {f1:Nat} {F2:zo} {f2:Nat} {F3:zo} {f3:Nat} {wr:World} (h:iR s A c w t v p n tn x F1 f1 F2 f2 F3 f3 wr) {u:Int} {y:Val} {E1:zo} {e1:Nat} {E2:zo} {e2:Nat} {E3:zo} {e3:Nat} (hr:BO w y E1 E2 E3) (hf:CQ s false u y=true) (ha:IQ s t v p=IQ s u y (p.drop (n+1))):
  iR s A c w t v p (n+1) u y E1 e1 E2 e2 E3 e3 (q8 wr (w.heap.size+1) (.int .i64 y.kind) (.bool y.bool) (.int .i64 y.int) (.string y.str) (.int .i64 y.id) (.slice E1 y.keys.length e1) (.slice E2 y.items.length e2) (.slice E3 y.rest.length e3)) :=
 ⟨by rw[Od (by omega)];exact h.sb,Cw h.vb _ _ _ _ _ _ _ _,by rw[Od (by omega)];exact h.rb,Cy h.Ch (by omega) _ _ _ _ _ _ _ _,hr,hf,ha⟩
def za (s:List AZ) (t:Int) (v:Val) (p:List Int) (w:World) (e:Ending) (w':World):Prop :=
 ∃ (y:Val) (F1:zo) (f1:Nat) (F2:zo) (f2:Nat) (F3:zo) (f3:Nat) (u:Int),e = .returned (.tuple #[y.v F1 f1 F2 f2 F3 f3,.int .i64 u,.int .i64 (YN s t v p)])/\Below w.heap.size w w'
theorem lT (h:CQ s false t v=false):YN s t v p=1:=by unfold YN;rw[AAC h]
theorem Wx (h:CQ s false t v=true) (ha:IQ s t v p=none):YN s t v p=4:=by
 unfold YN;rw[Pe (by rw[h];simp),ha]
theorem qP (h:CQ s false t v=true) {q:Val×Int} (ha:IQ s t v p=some q):YN s t v p=0:=by
 unfold YN;rw[Pe (by rw[h];simp),ha]
theorem fP (w:World) (o o2 o3:Obj):(((w.alloc o).alloc o2).alloc o3).heap[w.heap.size]? = some o/\(((w.alloc o).alloc o2).alloc o3).heap[w.heap.size+1]? = some o2/\(((w.alloc o).alloc o2).alloc o3).heap[w.heap.size+2]? = some o3/\Below w.heap.size w (((w.alloc o).alloc o2).alloc o3):=by
 obtain ⟨h1,h2,h3⟩:=Ig w o o2;refine ⟨EP h1 o3,EP h2 o3,?_,zB (zI w o o2) (zD _ _)⟩;have h:=AAA ((w.alloc o).alloc o2) o3
 rwa [h3] at h
theorem iU (aM:∀t,(AR s t).kind≠6) (A:zo) (c:Nat) (hv:zQ s=0) (hn:Ca s) (t:Int) (v:Val) (A1:zo) (c1:Nat) (A2:zo) (c2:Nat) (A3:zo) (c3:Nat) (p:List Int) (h0:YN s t v p=0) (B:zo) (d:Nat) (hp:p.length<=1000000) (w:World) (hs:DV w A s) (hr:BO w v A1 A2 A3) (hi:JH w B p):
  Calls Tryz.prog 57 #[.agg #[.slice A s.length c],.int .i64 t,v.v A1 c1 A2 c2 A3 c3,.slice B p.length d] w (za s t v p w):=by
 have H0:=zh h0;have HK6:=zh aM;have HS:=zh hs;have HR:=zh hr;have HI:=zh hi;have HV:=zh hv;have HN:=zh hn;have hln:=hs.1.lt (by omega)
 have HX0:=zh (fP w (.cells #[.slice A s.length c] 31) (v.box A1 c1 A2 c2 A3 c3) zO);clear hs hr hi hv hn h0 aM
 go_enter Tryz.func57,Tryz.ntmps57
 go_upto_region 1 with fail
 generalize ((w.alloc (.cells #[.slice A s.length c] 31)).alloc (v.box A1 c1 A2 c2 A3 c3)).alloc zO=W1 at *;obtain ⟨v0,v1,v2,v3,v4,v5,v6,v7⟩:=zF HX0.out.2.1;have x0:=zb HX0.out.1;go_wp2_with fail;refine (JX A c HV HN t v A1 c1 A2 c2 A3 c3 _ (HS.out.below HX0.out.2.2.2) (HR.out.below HX0.out.2.2.2)).mono ?_;rintro e w2 ⟨rfl,hb2⟩;have HB2:=zh (zB HX0.out.2.2.2 hb2)
 have Py:=zh (zE HX0.out.1 hb2);have vL:=zh (zE HX0.out.2.1 hb2);have MP:=zh (zE HX0.out.2.2.1 hb2);clear v0 v1 v2 v3 v4 v5 v6 v7 x0 hb2 HX0
 cases hf:CQ s false t v with
 | false=>exact absurd (H0.out.symm.trans (lT (p:=p) hf)) (by decide)
 | true =>
  have HF:=zh hf;have HST:Hid (iR s A c w t v p 0 t v A1 c1 A2 c2 A3 c3 w2):=⟨Py.out,vL.out,MP.out,HB2.out,HR.out,hf,rfl⟩;clear hf Py vL MP HB2;go_wp2
  go_loopw [1,26] (fun a i wr=>∃ (n:Nat) (tn:Int) (x:Val) (F1:zo) (f1:Nat) (F2:zo) (f2:Nat) (F3:zo) (f3:Nat),n<=p.length/\a = .int .i64 tn/\i = .int .i64 n/\Hid (iR s A c w t v p n tn x F1 f1 F2 f2 F3 f3 wr)) (fun _ i _=>p.length - (intOf i).toNat)
  case atStart=>exact ⟨0,t,v,A1,c1,A2,c2,A3,c3,by omega,rfl,rfl,HST.out⟩
  case round =>
   obtain ⟨n,tn,x,F1,f1,F2,f2,F3,f3,hnl,rfl,rfl,hh⟩:=hrel;obtain ⟨wo,rfl⟩:∃wo:World,wo=wr:=⟨_,rfl⟩;have HA:=zh hh.out;clear hh HST
   by_cases hlt:n<p.length
   ·obtain ⟨pb,po,rfl,pc⟩:=(HI.out.below HA.out.Ch).iJ hlt
    have HDR:Hid (p.drop n=p[n]::p.drop (n+1)):=AAy hlt;generalize p[n]=pn at *;obtain ⟨i0,i1,i2⟩:=SS HA.out.fit;obtain ⟨m,rfl⟩:=AAh i0;have hm:m<s.length:=by omega
    have iD:Hid (IQ s t v p=IQ s (m:Int) x (pn::p.drop (n+1))):=by show _=_;rw[HA.out.at_,HDR.out]
    have HFX:=zh HA.out.fit;have l9:Hid (AR s (m:Int)=s[m]):=zT hm;obtain ⟨bq,oq,As,cs,Am,cm,qC,htr,t0,t1,t2,t3,t4,t5,t6,t7,t8,t9⟩:=(HS.out.below HA.out.Ch).JM hm;subst qC;have Pz:Hid (s[m]=AR s (m:Int)):=l9.out.symm;generalize s[m]=y at *;have F7:=zh htr;have h1:(0:Int)<=(m:Int):=by omega
    have h2:(m:Int)<(s.length:Int):=by omega
    have h3:(0:Int)<=(n:Int):=by omega
    have h4:(n:Int)<(p.length:Int):=by omega
    have x0:=zb HA.out.sb;have BI:=zh (zD wo (y.box As cs Am cm));have P7:Hid (Bf (wo.alloc (y.box As cs Am cm)) wo.heap.size y As cs Am cm):=AAA wo _;have aK:=zh (HA.out.below BI);have Ey:=zh (F7.out.below BI);clear htr i0 i1 i2 HDR;go_upto_region 7 with fail
    clear t0 t1 t2 t3 t4 t5 t6 t7 t8 t9 x0 pc;generalize wo.alloc (y.box As cs Am cm)=W4 at *;generalize wo.heap.size=qt at *;obtain ⟨b0,b1,b2,b3,b4,b5,b6,b7,b8,b9⟩:=zG P7
    by_cases hk5:y.kind=5
    ·have q5:(y.kind==5)=true:=by simp[hk5]
     have q6:(y.kind==6)=false:=by simp[hk5]
     have N7:=zh (Ww HFX (by rw[l9.out];exact hk5) pn (p.drop (n+1)))
     rw[l9.out] at N7;clear hk5;obtain ⟨r,hre⟩:∃r,Bv (fun m:AY=>decide (m.id=pn)) y.AA=r:=⟨_,rfl⟩
     have hcall:=Mq pn y As cs Am cm W4 Ey;have hrl:=Gw (fun m:AY=>decide (m.id=pn)) y.AA
     rw[hre] at hcall hrl N7;have NP:=zh hcall;clear hcall hre;go_wp2_with fail;refine NP.out.mono ?_;rintro e' w5 ⟨rfl,hb5⟩;have iE:=zh (aK.out.below hb5);have AAI:Hid (Bf w5 qt y As cs Am cm):=zE P7 hb5;have P6:=zh (Ey.out.below hb5);clear hb5 NP b0 b1 b2 b3 b4 b5 b6 b7 b8 b9;obtain ⟨b0,b1,b2,b3,b4,b5,b6,b7,b8,b9⟩:=zG AAI
     by_cases hr0:r<0
     ·exact absurd (H0.out.symm.trans (Wx HF (iD.out.trans (N7.out.2.1 hr0)))) (by decide)
     obtain ⟨k,rfl⟩:=AAh (show 0<=r by omega)
     have hk:k<y.AA.length:=by omega
     have z5:decide (0<=(k:Int))=true:=AAM (by omega)
     have z6:(if (k:Int)<0 then 0 else (k:Int))=k:=Pe hr0
     rw[z5,z6];clear hr0 hrl z5 z6;have hk2:k<x.items.length:=by rw[N7.out.1];exact hk
     have KV:=zh (N7.out.2.2 k rfl hk hk2);obtain ⟨mb,mo,M1,m1,M2,m2,M3,m3,hM,_,d0,d1,d2,d3,d4,d5,d6,d7,d8,d9,aQ,aP,aO⟩:=P6.out.AA.MH hk;clear d0 d1 d3 d4 d5 d6 d7 d8 d9 aQ aP aO N7;subst hM;have g1:(0:Int)<=(k:Int):=by omega
     have g2:(k:Int)<(y.AA.length:Int):=by omega
     have g3:¬ (k:Int)<0:=by omega
     have g4:(k:Int)<(x.items.length:Int):=by omega
     have g5:¬ (k:Int) >= (x.items.length:Int):=by omega
     obtain ⟨ib,io,E1,e1,E2,e2,E3,e3,hI,hir,a0,a1,a2,a3,a4,a5,a6,a7⟩:=iE.out.val.items.at8 hk2;subst hI;have rC:=zh (iR.next iE hir KV.out.2 (iD.out.trans KV.out.1) (e1:=e1) (e2:=e2) (e3:=e3));replace a0:=zA iE.out.Ch a0;replace a1:=zA iE.out.Ch a1;replace a2:=zA iE.out.Ch a2;replace a3:=zA iE.out.Ch a3;replace a4:=zA iE.out.Ch a4;replace a5:=zA iE.out.Ch a5
     replace a6:=zA iE.out.Ch a6;replace a7:=zA iE.out.Ch a7;obtain ⟨⟨v0,v1,v2,v3,v4,v5,v6,v7⟩,y0,y1,y2,y3,y4,y5,y6,y7⟩:=zK iE.out.vb;clear hir;go_wp2;clear a0 a1 a2 a3 a4 a5 a6 a7 v0 v1 v2 v3 v4 v5 v6 v7 y0 y1 y2 y3 y4 y5 y6 y7;unfold q8 Go.Proofs.YthkkllmmbefedaaGreatDoor.q5 at rC
     generalize World.setCell _ _ _=W9 at *;go_roundw
     case rel=>exact ⟨n+1,(y.AA[k]).type,x.items[k],E1,e1,E2,e2,E3,e3,by omega,rfl,by go_num,rC.out⟩
     case measure=>simp[intOf];omega
    by_cases aM:y.kind=6
    ·exact absurd (show (AR s (m:Int)).kind=6 by rw[l9.out];exact aM) (HK6.out _)
    ·have q5:(y.kind==5)=false:=by simp[hk5]
     have q6:(y.kind==6)=false:=by simp[aM]
     have N7:=zh (gH HFX (by rw[l9.out];exact hk5) (by rw[l9.out];exact aM) pn (p.drop (n+1)))
     rw[l9.out] at N7;clear hk5 aM
     by_cases hp0:pn<0
     ·exact absurd (H0.out.symm.trans (Wx HF (iD.out.trans (N7.out.1 hp0)))) (by decide)
     have w6:W4.cell? ⟨w.heap.size+1,6,none⟩=some (.slice F2 x.items.length f2):=(zF aK.out.vb).2.2.2.2.2.2.1
     by_cases hpl:(x.items.length:Int)<=pn
     ·exact absurd (H0.out.symm.trans (Wx HF (iD.out.trans (N7.out.2.1 hpl)))) (by decide)
     clear w6;obtain ⟨k,rfl⟩:=AAh (show 0<=pn by omega)
     have hk2:k<x.items.length:=by omega
     have KV:=zh (N7.out.2.2 k rfl hk2).2;have g1:(0:Int)<=(k:Int):=by omega
     have g4:(k:Int)<(x.items.length:Int):=by omega
     have g5:¬ (k:Int) >= (x.items.length:Int):=by omega
     clear N7 hpl;obtain ⟨ib,io,E1,e1,E2,e2,E3,e3,hI,hir,a0,a1,a2,a3,a4,a5,a6,a7⟩:=aK.out.val.items.at8 hk2;subst hI;have rC:=zh (iR.next aK hir KV.out.2 (iD.out.trans KV.out.1) (e1:=e1) (e2:=e2) (e3:=e3));replace a0:=zA aK.out.Ch a0;replace a1:=zA aK.out.Ch a1;replace a2:=zA aK.out.Ch a2;replace a3:=zA aK.out.Ch a3;replace a4:=zA aK.out.Ch a4;replace a5:=zA aK.out.Ch a5
     replace a6:=zA aK.out.Ch a6;replace a7:=zA aK.out.Ch a7;obtain ⟨⟨v0,v1,v2,v3,v4,v5,v6,v7⟩,y0,y1,y2,y3,y4,y5,y6,y7⟩:=zK aK.out.vb;clear hir;go_wp2;clear a0 a1 a2 a3 a4 a5 a6 a7 v0 v1 v2 v3 v4 v5 v6 v7 y0 y1 y2 y3 y4 y5 y6 y7;unfold q8 Go.Proofs.YthkkllmmbefedaaGreatDoor.q5 at rC
     generalize World.setCell _ _ _=W9 at *;go_roundw
     case rel=>exact ⟨n+1,y.elem,x.items[k],E1,e1,E2,e2,E3,e3,by omega,rfl,by go_num,rC.out⟩
     case measure=>simp[intOf];omega
   ·have Gp:Hid (YN s t v p=0):=by
     show _=_
     refine qP HF (q:=(x,tn)) ?_;rw[HA.out.at_,AAp (by omega),IQ]
    have h4:¬ (n:Int)<(p.length:Int):=by omega
    obtain ⟨v0,v1,v2,v3,v4,v5,v6,v7⟩:=zF HA.out.vb;go_wp2_with fail;refine (TP x F1 f1 F2 f2 F3 f3 _ (HA.out.val.below HA.out.Ch)).mono ?_;rintro e w5 ⟨G1,g1,G2,g2,G3,g3,rfl,_,hb5⟩;have BB:=zh (zB HA.out.Ch hb5);have XJ:=zh (zE HA.out.rb hb5);clear v0 v1 v2 v3 v4 v5 v6 v7 hb5;obtain ⟨⟨z0,z1,z2,z3,z4,z5,z6,z7⟩,y0,y1,y2,y3,y4,y5,y6,y7⟩:=zK XJ;go_wp2
    have HK:=zh (Cw XJ (.int .i64 x.kind) (.bool x.bool) (.int .i64 x.int) (.string x.str) (.int .i64 x.id) (.slice G1 x.keys.length g1) (.slice G2 x.items.length g2) (.slice G3 x.rest.length g3))
    have Kh:=zh (Cy BB (q:=w.heap.size+2) (by omega) (.int .i64 x.kind) (.bool x.bool) (.int .i64 x.int) (.string x.str) (.int .i64 x.id) (.slice G1 x.keys.length g1) (.slice G2 x.items.length g2) (.slice G3 x.rest.length g3))
    clear z0 z1 z2 z3 z4 z5 z6 z7 y0 y1 y2 y3 y4 y5 y6 y7;unfold q8 Go.Proofs.YthkkllmmbefedaaGreatDoor.q5 at HK Kh;generalize World.setCell _ _ _=W9 at *;obtain ⟨⟨z0,z1,z2,z3,z4,z5,z6,z7⟩,_⟩:=zK HK
    exact bodyPost_ret (v := .tuple #[x.v G1 g1 G2 g2 G3 g3,.int .i64 tn,.int .i64 0]) (by simp[results,Tryz.results57,go_sem,z0,z1,z2,z3,z4,z5,z6,z7]) rfl ⟨x,G1,g1,G2,g2,G3,g3,tn,by rw[Gp.out],Kh.out⟩
end Go.Proofs.YthkkllmmbefedaaGreatDoor



