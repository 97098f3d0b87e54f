/-
  Walks: the chapter's examples.
-/
import Derived.Test.YthkkllmmbefedaaGreatDoorQNRLM
namespace Go.Proofs.YthkkllmmbefedaaGreatDoor
open Go.RowKit Go.Proofs.Tryz
set_option maxHeartbeats 16000000
set_option maxRecDepth 100000
structure ng (s:List Aa) (A:zo) (c:Nat) (w:World) (t:Int) (v:Val) (p:List Int) (n:Nat) (tn:Int) (x:Val) (F1:zo) (f1:Nat) (F2:zo) (f2:Nat) (F3:zo) (f3:Nat) (wr:World):Prop where
 sb:wr.heap[w.heap.size]? = some (.cells #[.slice A s.length c] 31)
 vb:wr.heap[w.heap.size+1]? = some (x.box F1 f1 F2 f2 F3 f3)
 rb:wr.heap[w.heap.size+2]? = some zO
 Cm:Below w.heap.size w wr
 val:Ar w x F1 F2 F3
 fit:BX s false tn x=true
 at_:Ia s t v p=Ia s tn x (p.drop n)
variable {t:Int} {p:List Int} {s:List Aa} {v:Val} {w:World}
theorem ng.below {A:zo} {c:Nat} {n:Nat} {tn:Int} {x:Val} {F1:zo} {f1:Nat} {F2:zo} {f2:Nat} {F3:zo} {f3:Nat} {wr w':World} (h:ng s A c w t v p n tn x F1 f1 F2 f2 F3 f3 wr) (hb:Below wr.heap.size wr w'):ng s A c w t v p n tn x F1 f1 F2 f2 F3 f3 w' :=
 ⟨zE h.sb hb,zE h.vb hb,zE h.rb hb,zB h.Cm hb,h.val,h.fit,h.at_⟩
theorem Pp {p q:Nat} (h:q≠p) (v0 v1 v2 v3 v4 v5 v6 v7:Value):(q8 w p v0 v1 v2 v3 v4 v5 v6 v7).heap[q]? = w.heap[q]? := by
 rw[AAE _ _ _ _ h,AAE _ _ _ _ h,AAE _ _ _ _ h,AAE _ _ _ _ h,AAE _ _ _ _ h,AAE _ _ _ _ h,AAE _ _ _ _ h,AAE _ _ _ _ h]
theorem ng.next {A:zo} {c:Nat} {n:Nat} {tn:Int} {x:Val} {F1:zo} {f1:Nat} {F2:zo} {f2:Nat} {F3:zo} {f3:Nat} {wr:World} (h:ng s A c w t v p n tn x F1 f1 F2 f2 F3 f3 wr) {u:Int} {y:Val} {E1:zo} {e1:Nat} {E2:zo} {e2:Nat} {E3:zo} {e3:Nat} (hr:Ar w y E1 E2 E3) (hf:BX s false u y=true) (ha:Ia s t v p=Ia s u y (p.drop (n+1))):
  ng s A c w t v p (n+1) u y E1 e1 E2 e2 E3 e3 (q8 wr (w.heap.size+1) (.int .i64 y.kind) (.bool y.bool) (.int .i64 y.int) (.string y.str) (.int .i64 y.id) (.slice E1 y.keys.length e1) (.slice E2 y.items.length e2) (.slice E3 y.rest.length e3)) :=
 ⟨by rw[Pp (by omega)];exact h.sb,Gx h.vb _ _ _ _ _ _ _ _,by rw[Pp (by omega)];exact h.rb,Bb h.Cm (by omega) _ _ _ _ _ _ _ _,hr,hf,ha⟩
def ADf (s:List Aa) (t:Int) (v:Val) (p:List Int) (w:World) (e:Ending) (w':World):Prop :=
 ∃ (y:Val) (F1:zo) (f1:Nat) (F2:zo) (f2:Nat) (F3:zo) (f3:Nat) (u:Int),e = .returned (.tuple #[y.v F1 f1 F2 f2 F3 f3,.int .i64 u,.int .i64 (Zi s t v p)])/\Below w.heap.size w w'
theorem rO (h:BX s false t v=false):Zi s t v p=1:=by unfold Zi;rw[AAB h]
theorem YJ (h:BX s false t v=true) (ha:Ia s t v p=none):Zi s t v p=4:=by
 unfold Zi;rw[Pd (by rw[h];simp),ha]
theorem wm (h:BX s false t v=true) {q:Val×Int} (ha:Ia s t v p=some q):Zi s t v p=0:=by
 unfold Zi;rw[Pd (by rw[h];simp),ha]
theorem lq (w:World) (o o2 o3:Obj):(((w.alloc o).alloc o2).alloc o3).heap[w.heap.size]? = some o/\(((w.alloc o).alloc o2).alloc o3).heap[w.heap.size+1]? = some o2/\(((w.alloc o).alloc o2).alloc o3).heap[w.heap.size+2]? = some o3/\Below w.heap.size w (((w.alloc o).alloc o2).alloc o3):=by
 obtain ⟨h1,h2,h3⟩:=Ip w o o2;refine ⟨FH h1 o3,FH h2 o3,?_,zB (zI w o o2) (zD _ _)⟩;have h:=AAA ((w.alloc o).alloc o2) o3
 rwa [h3] at h
theorem nk (fE:∀t,(AO s t).kind≠6) (A:zo) (c:Nat) (hv:zQ s=0) (hn:DW s) (t:Int) (v:Val) (A1:zo) (c1:Nat) (A2:zo) (c2:Nat) (A3:zo) (c3:Nat) (p:List Int) (h0:Zi s t v p=0) (B:zo) (d:Nat) (hp:p.length<=1000000) (w:World) (hs:DC w A s) (hr:Ar w v A1 A2 A3) (hi:JL w B p):
  Calls prog 57 #[.agg #[.slice A s.length c],.int .i64 t,v.v A1 c1 A2 c2 A3 c3,.slice B p.length d] w (ADf s t v p w):=by
 have H0:=zh h0;have HK6:=zh fE;have HS:=zh hs;have HR:=zh hr;have HI:=zh hi;have HV:=zh hv;have HN:=zh hn;have hln:=hs.1.lt (by omega)
 have HX0:=zh (lq w (.cells #[.slice A s.length c] 31) (v.box A1 c1 A2 c2 A3 c3) zO);clear hs hr hi hv hn h0 fE
 go_enter func57,ntmps57
 go_upto_region 1 with fail
 generalize ((w.alloc (.cells #[.slice A s.length c] 31)).alloc (v.box A1 c1 A2 c2 A3 c3)).alloc zO=W1 at *;obtain ⟨v0,v1,v2,v3,v4,v5,v6,v7⟩:=zF HX0.O.2.1;have x0:=zb HX0.O.1;go_wp2_with fail;refine (Ja A c HV HN t v A1 c1 A2 c2 A3 c3 _ (HS.O.below HX0.O.2.2.2) (HR.O.below HX0.O.2.2.2)).mono ?_;rintro e w2 ⟨rfl,hb2⟩;have HB2:=zh (zB HX0.O.2.2.2 hb2)
 have eB:=zh (zE HX0.O.1 hb2);have ABR:=zh (zE HX0.O.2.1 hb2);have WN:=zh (zE HX0.O.2.2.1 hb2);clear v0 v1 v2 v3 v4 v5 v6 v7 x0 hb2 HX0
 cases hf:BX s false t v with
 | false=>exact absurd (H0.O.symm.trans (rO (p:=p) hf)) (by decide)
 | true =>
  have HF:=zh hf;have HST:Hid (ng s A c w t v p 0 t v A1 c1 A2 c2 A3 c3 w2):=⟨eB.O,ABR.O,WN.O,HB2.O,HR.O,hf,rfl⟩;clear hf eB ABR WN HB2;go_wp2
  go_loopw [1,26] (fun a i wr=>∃ (n:Nat) (tn:Int) (x:Val) (F1:zo) (f1:Nat) (F2:zo) (f2:Nat) (F3:zo) (f3:Nat),n<=p.length/\a = .int .i64 tn/\i = .int .i64 n/\Hid (ng s A c w t v p n tn x F1 f1 F2 f2 F3 f3 wr)) (fun _ i _=>p.length - (intOf i).toNat)
  case atStart=>exact ⟨0,t,v,A1,c1,A2,c2,A3,c3,by omega,rfl,rfl,HST.O⟩
  case round =>
   obtain ⟨n,tn,x,F1,f1,F2,f2,F3,f3,hnl,rfl,rfl,hh⟩:=hrel;obtain ⟨wo,rfl⟩:∃wo:World,wo=wr:=⟨_,rfl⟩;have HA:=zh hh.O;clear hh HST
   by_cases hlt:n<p.length
   ·obtain ⟨pb,po,rfl,pc⟩:=(HI.O.below HA.O.Cm).fF hlt
    have HDR:Hid (p.drop n=p[n]::p.drop (n+1)):=ABf hlt;generalize p[n]=pn at *;obtain ⟨i0,i1,i2⟩:=Ta HA.O.fit;obtain ⟨m,rfl⟩:=AAh i0;have hm:m<s.length:=by omega
    have nJ:Hid (Ia s t v p=Ia s (m:Int) x (pn::p.drop (n+1))):=by show _=_;rw[HA.O.at_,HDR.O]
    have HFX:=zh HA.O.fit;have sD:Hid (AO s (m:Int)=s[m]):=zT hm;obtain ⟨bq,oq,As,cs,Am,cm,wM,htr,t0,t1,t2,t3,t4,t5,t6,t7,t8,t9⟩:=(HS.O.below HA.O.Cm).J3 hm;subst wM;have UE:Hid (s[m]=AO s (m:Int)):=sD.O.symm;generalize s[m]=y at *;have Ie:=zh htr;have h1:(0:Int)<=(m:Int):=by omega
    have h2:(m:Int)<(s.length:Int):=by omega
    have h3:(0:Int)<=(n:Int):=by omega
    have h4:(n:Int)<(p.length:Int):=by omega
    have x0:=zb HA.O.sb;have BL:=zh (zD wo (y.box As cs Am cm));have Kw:Hid (Ca (wo.alloc (y.box As cs Am cm)) wo.heap.size y As cs Am cm):=AAA wo _;have fA:=zh (HA.O.below BL);have Qb:=zh (Ie.O.below BL);clear htr i0 i1 i2 HDR;go_upto_region 7 with fail
    clear t0 t1 t2 t3 t4 t5 t6 t7 t8 t9 x0 pc;generalize wo.alloc (y.box As cs Am cm)=W4 at *;generalize wo.heap.size=qt at *;obtain ⟨b0,b1,b2,b3,b4,b5,b6,b7,b8,b9⟩:=zG Kw
    by_cases hk5:y.kind=5
    ·have q5:(y.kind==5)=true:=by simp[hk5]
     have q6:(y.kind==6)=false:=by simp[hk5]
     have Ow:=zh (YI HFX (by rw[sD.O];exact hk5) pn (p.drop (n+1)))
     rw[sD.O] at Ow;clear hk5;obtain ⟨r,hre⟩:∃r,Bt (fun m:Ac=>decide (m.id=pn)) y.AA=r:=⟨_,rfl⟩
     have hcall:=NM pn y As cs Am cm W4 Qb;have hrl:=Hf (fun m:Ac=>decide (m.id=pn)) y.AA
     rw[hre] at hcall hrl Ow;have PU:=zh hcall;clear hcall hre;go_wp2_with fail;refine PU.O.mono ?_;rintro e' w5 ⟨rfl,hb5⟩;have nK:=zh (fA.O.below hb5);have ADt:Hid (Ca w5 qt y As cs Am cm):=zE Kw hb5;have eG:=zh (Qb.O.below hb5);clear hb5 PU b0 b1 b2 b3 b4 b5 b6 b7 b8 b9;obtain ⟨b0,b1,b2,b3,b4,b5,b6,b7,b8,b9⟩:=zG ADt
     by_cases hr0:r<0
     ·exact absurd (H0.O.symm.trans (YJ HF (nJ.O.trans (Ow.O.2.1 hr0)))) (by decide)
     obtain ⟨k,rfl⟩:=AAh (show 0<=r by omega)
     have hk:k<y.AA.length:=by omega
     have z5:decide (0<=(k:Int))=true:=AAJ (by omega)
     have z6:(if (k:Int)<0 then 0 else (k:Int))=k:=Pd hr0
     rw[z5,z6];clear hr0 hrl z5 z6;have hk2:k<x.items.length:=by rw[Ow.O.1];exact hk
     have Tt:=zh (Ow.O.2.2 k rfl hk hk2);obtain ⟨mb,mo,M1,m1,M2,m2,M3,m3,hM,_,d0,d1,d2,d3,d4,d5,d6,d7,d8,d9,UB,UA,T9⟩:=eG.O.AA.Mk hk;clear d0 d1 d3 d4 d5 d6 d7 d8 d9 UB UA T9 Ow;subst hM;have g1:(0:Int)<=(k:Int):=by omega
     have g2:(k:Int)<(y.AA.length:Int):=by omega
     have g3:¬ (k:Int)<0:=by omega
     have g4:(k:Int)<(x.items.length:Int):=by omega
     have g5:¬ (k:Int) >= (x.items.length:Int):=by omega
     obtain ⟨ib,io,E1,e1,E2,e2,E3,e3,hI,hir,a0,a1,a2,a3,a4,a5,a6,a7⟩:=nK.O.val.items.at8 hk2;subst hI;have xw:=zh (ng.next nK hir Tt.O.2 (nJ.O.trans Tt.O.1) (e1:=e1) (e2:=e2) (e3:=e3));replace a0:=zA nK.O.Cm a0;replace a1:=zA nK.O.Cm a1;replace a2:=zA nK.O.Cm a2;replace a3:=zA nK.O.Cm a3;replace a4:=zA nK.O.Cm a4;replace a5:=zA nK.O.Cm a5
     replace a6:=zA nK.O.Cm a6;replace a7:=zA nK.O.Cm a7;obtain ⟨⟨v0,v1,v2,v3,v4,v5,v6,v7⟩,y0,y1,y2,y3,y4,y5,y6,y7⟩:=zK nK.O.vb;clear hir;go_wp2;clear a0 a1 a2 a3 a4 a5 a6 a7 v0 v1 v2 v3 v4 v5 v6 v7 y0 y1 y2 y3 y4 y5 y6 y7;unfold q8 Go.Proofs.YthkkllmmbefedaaGreatDoor.q5 at xw
     generalize World.setCell _ _ _=W9 at *;go_roundw
     case rel=>exact ⟨n+1,(y.AA[k]).type,x.items[k],E1,e1,E2,e2,E3,e3,by omega,rfl,by go_num,xw.O⟩
     case measure=>simp[intOf];omega
    by_cases fE:y.kind=6
    ·exact absurd (show (AO s (m:Int)).kind=6 by rw[sD.O];exact fE) (HK6.O _)
    ·have q5:(y.kind==5)=false:=by simp[hk5]
     have q6:(y.kind==6)=false:=by simp[fE]
     have Ow:=zh (mO HFX (by rw[sD.O];exact hk5) (by rw[sD.O];exact fE) pn (p.drop (n+1)))
     rw[sD.O] at Ow;clear hk5 fE
     by_cases hp0:pn<0
     ·exact absurd (H0.O.symm.trans (YJ HF (nJ.O.trans (Ow.O.1 hp0)))) (by decide)
     have w6:W4.cell? ⟨w.heap.size+1,6,none⟩=some (.slice F2 x.items.length f2):=(zF fA.O.vb).2.2.2.2.2.2.1
     by_cases hpl:(x.items.length:Int)<=pn
     ·exact absurd (H0.O.symm.trans (YJ HF (nJ.O.trans (Ow.O.2.1 hpl)))) (by decide)
     clear w6;obtain ⟨k,rfl⟩:=AAh (show 0<=pn by omega)
     have hk2:k<x.items.length:=by omega
     have Tt:=zh (Ow.O.2.2 k rfl hk2).2;have g1:(0:Int)<=(k:Int):=by omega
     have g4:(k:Int)<(x.items.length:Int):=by omega
     have g5:¬ (k:Int) >= (x.items.length:Int):=by omega
     clear Ow hpl;obtain ⟨ib,io,E1,e1,E2,e2,E3,e3,hI,hir,a0,a1,a2,a3,a4,a5,a6,a7⟩:=fA.O.val.items.at8 hk2;subst hI;have xw:=zh (ng.next fA hir Tt.O.2 (nJ.O.trans Tt.O.1) (e1:=e1) (e2:=e2) (e3:=e3));replace a0:=zA fA.O.Cm a0;replace a1:=zA fA.O.Cm a1;replace a2:=zA fA.O.Cm a2;replace a3:=zA fA.O.Cm a3;replace a4:=zA fA.O.Cm a4;replace a5:=zA fA.O.Cm a5
     replace a6:=zA fA.O.Cm a6;replace a7:=zA fA.O.Cm a7;obtain ⟨⟨v0,v1,v2,v3,v4,v5,v6,v7⟩,y0,y1,y2,y3,y4,y5,y6,y7⟩:=zK fA.O.vb;clear hir;go_wp2;clear a0 a1 a2 a3 a4 a5 a6 a7 v0 v1 v2 v3 v4 v5 v6 v7 y0 y1 y2 y3 y4 y5 y6 y7;unfold q8 Go.Proofs.YthkkllmmbefedaaGreatDoor.q5 at xw
     generalize World.setCell _ _ _=W9 at *;go_roundw
     case rel=>exact ⟨n+1,y.elem,x.items[k],E1,e1,E2,e2,E3,e3,by omega,rfl,by go_num,xw.O⟩
     case measure=>simp[intOf];omega
   ·have Li:Hid (Zi s t v p=0):=by
     show _=_
     refine wm HF (q:=(x,tn)) ?_;rw[HA.O.at_,ABg (by omega),Ia]
    have h4:¬ (n:Int)<(p.length:Int):=by omega
    obtain ⟨v0,v1,v2,v3,v4,v5,v6,v7⟩:=zF HA.O.vb;go_wp2_with fail;refine (UO x F1 f1 F2 f2 F3 f3 _ (HA.O.val.below HA.O.Cm)).mono ?_;rintro e w5 ⟨G1,g1,G2,g2,G3,g3,rfl,_,hb5⟩;have Aq:=zh (zB HA.O.Cm hb5);have ABV:=zh (zE HA.O.rb hb5);clear v0 v1 v2 v3 v4 v5 v6 v7 hb5;obtain ⟨⟨z0,z1,z2,z3,z4,z5,z6,z7⟩,y0,y1,y2,y3,y4,y5,y6,y7⟩:=zK ABV;go_wp2
    have HK:=zh (Gx ABV (.int .i64 x.kind) (.bool x.bool) (.int .i64 x.int) (.string x.str) (.int .i64 x.id) (.slice G1 x.keys.length g1) (.slice G2 x.items.length g2) (.slice G3 x.rest.length g3))
    have Oc:=zh (Bb Aq (q:=w.heap.size+2) (by omega) (.int .i64 x.kind) (.bool x.bool) (.int .i64 x.int) (.string x.str) (.int .i64 x.id) (.slice G1 x.keys.length g1) (.slice G2 x.items.length g2) (.slice G3 x.rest.length g3))
    clear z0 z1 z2 z3 z4 z5 z6 z7 y0 y1 y2 y3 y4 y5 y6 y7;unfold q8 Go.Proofs.YthkkllmmbefedaaGreatDoor.q5 at HK Oc;generalize World.setCell _ _ _=W9 at *;obtain ⟨⟨z0,z1,z2,z3,z4,z5,z6,z7⟩,_⟩:=zK HK
    exact bodyPost_ret (v := .tuple #[x.v G1 g1 G2 g2 G3 g3,.int .i64 tn,.int .i64 0]) (by simp[results,results57,go_sem,z0,z1,z2,z3,z4,z5,z6,z7]) rfl ⟨x,G1,g1,G2,g2,G3,g3,tn,by rw[Li.O],Oc.O⟩
def ADi (s:List Aa) (t:Int) (v:Val) (p:List Int) (w:World) (e:Ending) (w':World):Prop:=e = .returned (.tuple #[.string (P6 s t v p).1,.int .i64 (P6 s t v p).2])/\Below w.heap.size w w'
theorem jd (h:Zi s t v p=0):P6 s t v p=(Gb s t p,0)/\BX s false t v=true/\(Ia s t v p).isSome=true:=by
 unfold Zi at h;unfold P6
 cases hf:BX s false t v with
 | false=>rw[hf,AAB rfl] at h;cases h
 | true =>
  rw[hf,Pd (by simp)] at h
  rw[Pd (by simp)]
  cases ha:Ia s t v p with
  | none=>rw[ha] at h;cases h
  | some q=>exact ⟨rfl,rfl,rfl⟩
theorem Rn (fE:∀t,(AO s t).kind≠6) (A:zo) (c:Nat) (hv:zQ s=0) (hn:DW s) (t:Int) (v:Val) (A1:zo) (c1:Nat) (A2:zo) (c2:Nat) (A3:zo) (c3:Nat) (p:List Int) (h0:Zi s t v p=0) (B:zo) (d:Nat) (hp:p.length<=1000000) (w:World) (hs:DC w A s) (hr:Ar w v A1 A2 A3) (hi:JL w B p) (htb:nQ w):
  Calls prog 27 #[.agg #[.slice A s.length c],.int .i64 t,v.v A1 c1 A2 c2 A3 c3,.slice B p.length d] w (ADi s t v p w):=by
 have HS:=zh hs;have HR:=zh hr;have HI:=zh hi;have HV:=zh hv;have HN:=zh hn;have Kw:=zh htb;have HSO:=zh (Yz hv hn);have hln:=hs.1.lt (by omega)
 have HX0:=zh (Ip w (.cells #[.slice A s.length c] 31) (v.box A1 c1 A2 c2 A3 c3));have HB0:=zh (zI w (.cells #[.slice A s.length c] 31) (v.box A1 c1 A2 c2 A3 c3));have HAT:=zh (fun W=>nk (s:=s) fE A c hv hn t v A1 c1 A2 c2 A3 c3 p h0 B d hp W)
 have HPO:=zh (jd (s:=s) (t:=t) (v:=v) (p:=p));generalize hE:Zi s t v p=er at *;generalize hPS:P6 s t v p=PS at *;have HE:=zh hE;have H0:=zh h0;have Mw:=zh hPS;clear hs hr hi hv hn htb hE hPS h0 fE
 go_enter func27,ntmps27
 go_upto_region 1 with fail
 generalize (w.alloc (.cells #[.slice A s.length c] 31)).alloc (v.box A1 c1 A2 c2 A3 c3)=W1 at *;obtain ⟨v0,v1,v2,v3,v4,v5,v6,v7⟩:=zF HX0.O.2.1;have x0:=zb HX0.O.1;go_wp2_with fail;refine (HAT.O W1 (HS.O.below HB0) (HR.O.below HB0) (HI.O.below HB0)).mono ?_;rintro e w2 ⟨y,F1,f1,F2,f2,F3,f3,u,rfl,hb2⟩;rw[HE.O];have BL:=zh (zD w2 (y.box F1 f1 F2 f2 F3 f3))
 have HB2:=zh (zB (zB HB0 hb2) BL);have UE:=zh (zE (zE HX0.O.1 hb2) BL);clear v0 v1 v2 v3 v4 v5 v6 v7 x0 hb2 HX0 HB0 HAT;go_upto_region 2 with fail
 generalize w2.alloc (y.box F1 f1 F2 f2 F3 f3)=W2 at *;generalize w2.heap.size=q2 at *;have he:er=0:=H0.O;have Ob:=zh (HPO.O he);have q1:(er != 0)=false:=by simp[he]
 have HST:Hid (Gt s t p 0 t ⟨#[]⟩):=Gt.start Ob.O.2.1 Ob.O.2.2;clear he;go_wp2
 go_loopw [1,13,33] (fun a o i wr=>∃ (n:Nat) (tn:Int) (ot:ByteArray),n<=p.length/\a = .int .i64 tn/\o = .string ot/\i = .int .i64 n/\Hid (Gt s t p n tn ot/\Below w.heap.size w wr/\Below W2.heap.size W2 wr)) (fun _ _ i _=>p.length - (intOf i).toNat)
 case atStart=>exact ⟨0,t,⟨#[]⟩,by omega,rfl,rfl,rfl,HST.O,HB2.O,Pe _ _⟩
 case round =>
  obtain ⟨n,tn,ot,hnl,rfl,rfl,rfl,hh⟩:=hrel;obtain ⟨wo,rfl⟩:∃wo:World,wo=wr:=⟨_,rfl⟩;have HA:=zh hh.O.1;have HB:=zh hh.O.2.1;have Bf:=zh hh.O.2.2;have rW:=zh (zE UE hh.O.2.2);clear hh HST
  by_cases hlt:n<p.length
  ·obtain ⟨pb,po,rfl,pc⟩:=(HI.O.below HB).fF hlt
   have hoz:=HA.O.2.2;obtain ⟨i0,i1⟩:=HA.O.rng;obtain ⟨m,rfl⟩:=AAh i0;have hm:m<s.length:=by omega
   have sD:Hid (AO s (m:Int)=s[m]):=zT hm;have Z4:=zh (fun k=>HA.O.idx HV HSO hlt (k:=k))
   have Kz:=zh (HA.O.els HV hlt);rw[sD.O] at Z4 Kz;generalize p[n]=pn at *;obtain ⟨bq,oq,As,cs,Am,cm,wM,htr,t0,t1,t2,t3,t4,t5,t6,t7,t8,t9⟩:=(HS.O.below HB).J3 hm;subst wM;generalize s[m]=y at *;have Ie:=zh htr;have h1:(0:Int)<=(m:Int):=by omega
   have h2:(m:Int)<(s.length:Int):=by omega
   have h3:(0:Int)<=(n:Int):=by omega
   have h4:(n:Int)<(p.length:Int):=by omega
   have x0:=zb rW;have BL:=zh (zD wo (y.box As cs Am cm));have HTX:Hid (Ca (wo.alloc (y.box As cs Am cm)) wo.heap.size y As cs Am cm):=AAA wo _;have Qb:=zh (Ie.O.below BL);have ED:=zh (zB HB BL);have AEb:=zh (zB Bf BL);clear htr i0 i1 HA;go_upto_region 9 with fail
   clear t0 t1 t2 t3 t4 t5 t6 t7 t8 t9 x0 pc;generalize wo.alloc (y.box As cs Am cm)=W4 at *;generalize wo.heap.size=qt at *;obtain ⟨b0,b1,b2,b3,b4,b5,b6,b7,b8,b9⟩:=zG HTX;obtain ⟨r,hre⟩:∃r,Bt (fun m:Ac=>decide (m.id=pn)) y.AA=r:=⟨_,rfl⟩
   have hcall:=NM pn y As cs Am cm W4 Qb;have hrl:=Hf (fun m:Ac=>decide (m.id=pn)) y.AA
   rw[hre] at hcall hrl Z4 Kz;have PU:=zh hcall;clear hcall hre;go_wp2_with fail;refine PU.O.mono ?_;rintro e' w5 ⟨rfl,hb5⟩;have Aq:=zh (zB ED hb5);have M6:=zh (zB AEb hb5);have ABb:Hid (Ca w5 qt y As cs Am cm):=zE HTX hb5;have eG:=zh (Qb.O.below hb5);clear hb5 PU b0 b1 b2 b3 b4 b5 b6 b7 b8 b9;obtain ⟨b0,b1,b2,b3,b4,b5,b6,b7,b8,b9⟩:=zG ABb
   by_cases hr0:r<0
   ·have z5:decide (0<=r)=false:=AAP (by omega)
    have z6:(if r<0 then 0 else r)=0:=AAB hr0
    rw[z5,z6];obtain ⟨g1,g2,g3⟩:=Kz.O hr0;have HG:=zh g1;have HI6:=zh g2;clear hr0 hrl z5 z6 Z4 Kz g1 g2;obtain ⟨D,hD⟩:∃D,Ch pn=D:=⟨_,rfl⟩;have HIT:=zh (MS pn HI6 w5 (Kw.O.below Aq));rw[hD] at HIT HG g3;have e1:(⟨#[91]⟩:ByteArray).size=1:=rfl;have e2:(⟨#[93]⟩:ByteArray).size=1:=rfl;have n1:¬ 9223372036854775807<(⟨#[91]⟩:ByteArray).size+D.size:=by omega
    have n2:¬ 9223372036854775807<(⟨#[91]⟩++D:ByteArray).size+(⟨#[93]⟩:ByteArray).size:=by rw[AAH];omega
    have n3:¬ 9223372036854775807<ot.size+(⟨#[91]⟩++D++⟨#[93]⟩:ByteArray).size:=by rw[AAH,AAH];omega
    clear hD e1 e2;go_wp2_with fail;refine HIT.O.mono ?_;rintro e' w6 ⟨rfl,hb6⟩;have BH:=zh (zB Aq hb6);have yh:=zh (zB M6 hb6);have ADs:Hid (Ca w6 qt y As cs Am cm):=zE ABb hb6;clear hb6 b0 b1 b2 b3 b4 b5 b6 b7 b8 b9;obtain ⟨b0,b1,b2,b3,b4,b5,b6,b7,b8,b9⟩:=zG ADs;go_wp2;go_roundw
    case rel=>exact ⟨n+1,y.elem,_,by omega,rfl,rfl,by go_num,HG.O,BH.O,yh.O⟩
    case measure=>simp[intOf];omega
   ·obtain ⟨k,rfl⟩:=AAh (show 0<=r by omega)
    have hk:k<y.AA.length:=by omega
    have z5:decide (0<=(k:Int))=true:=AAJ (by omega)
    have z6:(if (k:Int)<0 then 0 else (k:Int))=k:=Pd hr0
    rw[z5,z6];obtain ⟨g1,g2⟩:=Z4.O k rfl hk;have HG:=zh g1;clear hr0 hrl z5 z6 Z4 Kz g1;obtain ⟨mb,mo,M1,m1,M2,m2,M3,m3,hM,_,d0,d1,d2,d3,d4,d5,d6,d7,d8,d9,UB,UA,T9⟩:=eG.O.AA.Mk hk;clear d0 d3 d4 d5 d6 d7 d8 d9 UB UA T9;subst hM;generalize y.AA[k]=mm at *;have g1:(0:Int)<=(k:Int):=by omega
    have g3:(k:Int)<(y.AA.length:Int):=by omega
    have e1:(⟨#[46]⟩:ByteArray).size=1:=rfl;have n1:¬ 9223372036854775807<(⟨#[46]⟩:ByteArray).size+mm.name.size:=by omega
    have n3:¬ 9223372036854775807<ot.size+(⟨#[46]⟩++mm.name:ByteArray).size:=by rw[AAH];omega
    clear e1;go_wp2;go_roundw
    case rel=>exact ⟨n+1,mm.type,_,by omega,rfl,rfl,by go_num,HG.O,Aq.O,M6.O⟩
    case measure=>simp[intOf];omega
  ·have Li:=zh (HA.O.end_ (by omega))
   have h4:¬ (n:Int)<(p.length:Int):=by omega
   go_wp2
   go_ret2
   exact ⟨by rw[Mw.O,Ob.O.1,<-Li.O];rfl,HB.O⟩
theorem SK {α:Type} {k bytes:Nat} {at_:α->List Value->Prop} (w:World) (T:TypeId) (x y:α) {cx cy:List Value} (hx:at_ x cx) (hy:at_ y cy) (lx:cx.length=k) (hl:EF bytes 2) :
  AY k bytes at_ (w.alloc (.cells (cx++cy).toArray T)) (some ⟨w.heap.size,0,none⟩) [x,y]:=by
 refine ⟨hl,fun _=>⟨_,_,rfl,fun i z hz=>?_⟩⟩
 have hr:=zR w (cx++cy) T
 match i,hz with
 | 0,hz =>
  obtain rfl:x=z:=by simpa using hz
  refine ⟨cx,hx,fun j u hj=>?_⟩
  have:=hr j u (by rw[ABo (AAv.1 hj).1];exact hj)
  simpa using this
 | 1,hz =>
  obtain rfl:y=z:=by simpa using hz
  refine ⟨cy,hy,fun j u hj=>?_⟩
  have:=hr (k+j) u (by rw[ABm (by omega),lx];rw[show k+j - k=j by omega];exact hj)
  simpa using this
 | n+2,hz=>simp at hz
theorem qB {α:Type} {k bytes:Nat} {at_:α->List Value->Prop} (w:World) (T:TypeId) (x:α) {cx:List Value} (hx:at_ x cx) (hl:EF bytes 1) :
  AY k bytes at_ (w.alloc (.cells cx.toArray T)) (some ⟨w.heap.size,0,none⟩) [x]:=by
 refine ⟨hl,fun _=>⟨_,_,rfl,fun i z hz=>?_⟩⟩
 have hr:=zR w cx T
 match i,hz with
 | 0,hz =>
  obtain rfl:x=z:=by simpa using hz
  exact ⟨cx,hx,by simpa using hr⟩
 | n+1,hz=>simp at hz
theorem OL (w:World) {m:Ac} (h:Cw m.name) (e:m.dflt=zeroV):m.At w (m.cs none 0 none 0 none 0) :=
 ⟨none,0,none,0,none,0,rfl,h,by rw[e];exact aB _⟩
theorem FL (w:World):Calls prog 41 #[] w (rR Hq w):=by
 obtain ⟨O0,hO0⟩:∃O0:Obj,O0 = .cells #[.slice (some ⟨w.heap.size+1+1,0,none⟩) 3 3] 31:=⟨_,rfl⟩
 have HT:Hid (DC (((w.alloc (.cells #[.slice (some ⟨w.heap.size+1+1,0,none⟩) 3 3] 31)).alloc (.cells (nO.cs none 0 none 0 none 0++nN.cs none 0 none 0 none 0).toArray 118)).alloc (.cells (([⟨av,none,0,some ⟨w.heap.size+1,0,none⟩,2⟩,⟨jY,none,0,none,0⟩,⟨jX,none,0,none,0⟩]:List Lu).flatMap Lu.cells).toArray 87)) (some ⟨w.heap.size+1+1,0,none⟩) Hq):=by
  have HM:GI ((w.alloc (.cells #[.slice (some ⟨w.heap.size+1+1,0,none⟩) 3 3] 31)).alloc (.cells (nO.cs none 0 none 0 none 0++nN.cs none 0 none 0 none 0).toArray 118)) (some ⟨w.heap.size+1,0,none⟩) [nO,nN]:=by
   have h:=SK (bytes:=160) (w.alloc (.cells #[.slice (some ⟨w.heap.size+1+1,0,none⟩) 3 3] 31)) 118 nO nN (at_:=fun x cs=>Ac.At ((w.alloc (.cells #[.slice (some ⟨w.heap.size+1+1,0,none⟩) 3 3] 31)).alloc (.cells (nO.cs none 0 none 0 none 0++nN.cs none 0 none 0 none 0).toArray 118)) x cs) (k:=13) (OL _ (KJ (by decide)) rfl) (OL _ (KJ (by decide)) rfl) rfl (by unfold EF;decide)
   rwa [show (w.alloc (.cells #[.slice (some ⟨w.heap.size+1+1,0,none⟩) 3 3] 31)).heap.size=w.heap.size+1 by simp] at h
  have HT0:=oI ((w.alloc (.cells #[.slice (some ⟨w.heap.size+1+1,0,none⟩) 3 3] 31)).alloc (.cells (nO.cs none 0 none 0 none 0++nN.cs none 0 none 0 none 0).toArray 118)) ([⟨av,none,0,some ⟨w.heap.size+1,0,none⟩,2⟩,⟨jY,none,0,none,0⟩,⟨jX,none,0,none,0⟩]:List Lu)
  have hz2:((w.alloc (.cells #[.slice (some ⟨w.heap.size+1+1,0,none⟩) 3 3] 31)).alloc (.cells (nO.cs none 0 none 0 none 0++nN.cs none 0 none 0 none 0).toArray 118)).heap.size=w.heap.size+1+1:=by simp
  rw[hz2] at HT0;refine HT0 (fun x hx=>?_) (by simp)
  simp only[ABP,List.mem_nil_iff,or_false] at hx
  rcases hx with rfl|rfl|rfl
  ·exact PY (KJ (show av.name.size<=100 by decide)) rfl HM
  ·exact EG IQ rfl rfl
  ·exact EG IQ rfl rfl
 have HB:=zh (zB (zB (zD w (.cells #[.slice (some ⟨w.heap.size+1+1,0,none⟩) 3 3] 31)) (zD _ (.cells (nO.cs none 0 none 0 none 0++nN.cs none 0 none 0 none 0).toArray 118))) (zD _ (.cells (([⟨av,none,0,some ⟨w.heap.size+1,0,none⟩,2⟩,⟨jY,none,0,none,0⟩,⟨jX,none,0,none,0⟩]:List Lu).flatMap Lu.cells).toArray 87)))
 have HC:Hid ((((w.alloc (.cells #[.slice (some ⟨w.heap.size+1+1,0,none⟩) 3 3] 31)).alloc (.cells (nO.cs none 0 none 0 none 0++nN.cs none 0 none 0 none 0).toArray 118)).alloc (.cells (([⟨av,none,0,some ⟨w.heap.size+1,0,none⟩,2⟩,⟨jY,none,0,none,0⟩,⟨jX,none,0,none,0⟩]:List Lu).flatMap Lu.cells).toArray 87)).cell? ⟨w.heap.size,0,none⟩=some (.slice (some ⟨w.heap.size+1+1,0,none⟩) 3 3)):=by
  show _=_
  rw[AAC _ _ _ _ _ _ (zE (zE (AAA w _) (zD _ _)) (zD _ _))];rfl
 clear hO0 O0
 go_enter func41,ntmps41
 go_wp2
 have hcf:=HC.O;exact bodyPost_ret (v := .agg #[.slice (some ⟨w.heap.size+1+1,0,none⟩) 3 3]) (by
  simp only[results,results41];go_simp) rfl ⟨some ⟨w.heap.size+1+1,0,none⟩,3,rfl,HT.O,HB.O⟩
