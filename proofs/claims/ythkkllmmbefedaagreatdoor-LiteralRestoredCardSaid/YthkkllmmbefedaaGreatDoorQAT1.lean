/-
  Walks: value.At: its error.
-/
import Derived.Test.YthkkllmmbefedaaGreatDoorQVC1
import Derived.Test.YthkkllmmbefedaaGreatDoorQGA7
import Derived.Test.YthkkllmmbefedaaGreatDoorQGE0
import Derived.Test.YthkkllmmbefedaaGreatDoorQGA8
namespace Go.Proofs.YthkkllmmbefedaaGreatDoor
open Go.RowKit
set_option maxHeartbeats 16000000
set_option maxRecDepth 100000
structure jV (s:List Aa) (A:zo) (c:Nat) (w:World) (t:Int) (v:Val) (p:List Int) (n:Nat) (tn:Int) (x:Val) (F1:zo) (f1:Nat) (F2:zo) (f2:Nat) (F3:zo) (f3:Nat) (wr:World):Prop where
 sb:wr.heap[w.heap.size]? = some (.cells #[.slice A s.length c] 31)
 vb:wr.heap[w.heap.size+1]? = some (x.box F1 f1 F2 f2 F3 f3)
 rb:wr.heap[w.heap.size+2]? = some zO
 Bz:Below w.heap.size w wr
 val:Ao w x F1 F2 F3
 fit:Bc s false tn x=true
 at_:Gz s t v p=Gz s tn x (p.drop n)
variable {t:Int} {p:List Int} {s:List Aa} {v:Val} {w:World}
theorem jV.below {A:zo} {c:Nat} {n:Nat} {tn:Int} {x:Val} {F1:zo} {f1:Nat} {F2:zo} {f2:Nat} {F3:zo} {f3:Nat} {wr w':World} (h:jV s A c w t v p n tn x F1 f1 F2 f2 F3 f3 wr) (hb:Below wr.heap.size wr w'):jV s A c w t v p n tn x F1 f1 F2 f2 F3 f3 w' :=
 ⟨zE h.sb hb,zE h.vb hb,zE h.rb hb,zB h.Bz hb,h.val,h.fit,h.at_⟩
theorem Ov {p q:Nat} (h:q≠p) (v0 v1 v2 v3 v4 v5 v6 v7:Value):(q8 w p v0 v1 v2 v3 v4 v5 v6 v7).heap[q]? = w.heap[q]? := by
 rw[AAO _ _ _ _ h,AAO _ _ _ _ h,AAO _ _ _ _ h,AAO _ _ _ _ h,AAO _ _ _ _ h,AAO _ _ _ _ h,AAO _ _ _ _ h,AAO _ _ _ _ h]
theorem jV.next {A:zo} {c:Nat} {n:Nat} {tn:Int} {x:Val} {F1:zo} {f1:Nat} {F2:zo} {f2:Nat} {F3:zo} {f3:Nat} {wr:World} (h:jV s A c w t v p n tn x F1 f1 F2 f2 F3 f3 wr) {u:Int} {y:Val} {E1:zo} {e1:Nat} {E2:zo} {e2:Nat} {E3:zo} {e3:Nat} (hr:Ao w y E1 E2 E3) (hf:Bc s false u y=true) (ha:Gz s t v p=Gz s u y (p.drop (n+1))):
  jV s A c w t v p (n+1) u y E1 e1 E2 e2 E3 e3 (q8 wr (w.heap.size+1) (.int .i64 y.kind) (.bool y.bool) (.int .i64 y.int) (.string y.str) (.int .i64 y.id) (.slice E1 y.keys.length e1) (.slice E2 y.items.length e2) (.slice E3 y.rest.length e3)) :=
 ⟨by rw[Ov (by omega)];exact h.sb,Gr h.vb _ _ _ _ _ _ _ _,by rw[Ov (by omega)];exact h.rb,Bo h.Bz (by omega) _ _ _ _ _ _ _ _,hr,hf,ha⟩
def xO (s:List Aa) (t:Int) (v:Val) (p:List Int) (w:World) (e:Ending) (w':World):Prop :=
 ∃ (y:Val) (F1:zo) (f1:Nat) (F2:zo) (f2:Nat) (F3:zo) (f3:Nat) (u:Int),e = .returned (.tuple #[y.v F1 f1 F2 f2 F3 f3,.int .i64 u,.int .i64 (Wt s t v p)])/\Below w.heap.size w w'
theorem Jk {W5:World} {q:Nat} {n e:Int} (hz:W5.heap[q]? = some zO) (hb:Below w.heap.size w W5) (hq:w.heap.size<=q) (h:Wt s t v p=e):
  (q8 W5 q (.int .i64 0) (.bool false) (.int .i64 0) (.string ⟨#[]⟩) (.int .i64 0) AP AP AP).heap[q]? = some zO/\xO s t v p w (.returned (.tuple #[zeroV.v none 0 none 0 none 0,.int .i64 n,.int .i64 e])) (q8 W5 q (.int .i64 0) (.bool false) (.int .i64 0) (.string ⟨#[]⟩) (.int .i64 0) AP AP AP) :=
 ⟨Gr hz _ _ _ _ _ _ _ _,zeroV,none,0,none,0,none,0,n,by rw[h],Bo hb hq _ _ _ _ _ _ _ _⟩
theorem oC (h:Bc s false t v=false):Wt s t v p=1:=by unfold Wt;rw[AAH h]
theorem Ph (h:Bc s false t v=true) (ha:Gz s t v p=none):Wt s t v p=4:=by
 unfold Wt;rw[Pd (by rw[h];simp),ha]
theorem su (h:Bc s false t v=true) {q:Val×Int} (ha:Gz s t v p=some q):Wt s t v p=0:=by
 unfold Wt;rw[Pd (by rw[h];simp),ha]
theorem iU (w:World) (o o2 o3:Obj):(((w.alloc o).alloc o2).alloc o3).heap[w.heap.size]? = some o/\(((w.alloc o).alloc o2).alloc o3).heap[w.heap.size+1]? = some o2/\(((w.alloc o).alloc o2).alloc o3).heap[w.heap.size+2]? = some o3/\Below w.heap.size w (((w.alloc o).alloc o2).alloc o3):=by
 obtain ⟨h1,h2,h3⟩:=IE w o o2;refine ⟨FR h1 o3,FR h2 o3,?_,zB (zI w o o2) (zD _ _)⟩;have h:=AAL ((w.alloc o).alloc o2) o3
 rwa [h3] at h
theorem kE (A:zo) (c:Nat) (hv:zQ s=0) (hn:DI s) (t:Int) (v:Val) (A1:zo) (c1:Nat) (A2:zo) (c2:Nat) (A3:zo) (c3:Nat) (p:List Int) (B:zo) (d:Nat) (hp:p.length<=1000000) (w:World) (hs:C8 w A s) (hr:Ao w v A1 A2 A3) (hi:Io w B p):
  Calls Tryz.prog 57 #[.agg #[.slice A s.length c],.int .i64 t,v.v A1 c1 A2 c2 A3 c3,.slice B p.length d] w (xO s t v p w):=by
 have HS:=zh hs;have HR:=zh hr;have HI:=zh hi;have HV:=zh hv;have HN:=zh hn;have hln:=hs.1.lt (by omega)
 have HX0:=zh (iU w (.cells #[.slice A s.length c] 31) (v.box A1 c1 A2 c2 A3 c3) zO);clear hs hr hi hv hn
 go_enter Tryz.func57,Tryz.ntmps57
 go_upto_region 1 with fail
 generalize ((w.alloc (.cells #[.slice A s.length c] 31)).alloc (v.box A1 c1 A2 c2 A3 c3)).alloc zO=W1 at *;obtain ⟨v0,v1,v2,v3,v4,v5,v6,v7⟩:=zF HX0.out.2.1;have x0:=zb HX0.out.1;go_wp2_with fail;refine (JA A c HV HN t v A1 c1 A2 c2 A3 c3 _ (HS.out.below HX0.out.2.2.2) (HR.out.below HX0.out.2.2.2)).mono ?_;rintro e w2 ⟨rfl,hb2⟩;have HB2:=zh (zB HX0.out.2.2.2 hb2)
 have aM:=zh (zE HX0.out.1 hb2);have xw:=zh (zE HX0.out.2.1 hb2);have QC:=zh (zE HX0.out.2.2.1 hb2);clear v0 v1 v2 v3 v4 v5 v6 v7 x0 hb2 HX0
 cases hf:Bc s false t v with
 | false =>
  have HE:=zh (oC (p:=p) hf);clear hf;obtain ⟨⟨z0,z1,z2,z3,z4,z5,z6,z7⟩,y0,y1,y2,y3,y4,y5,y6,y7⟩:=zK QC;go_wp2;have HK:=zh (Jk (n:=0) QC HB2 (q:=w.heap.size+2) (by omega) HE)
  clear z0 z1 z2 z3 z4 z5 z6 z7 y0 y1 y2 y3 y4 y5 y6 y7;unfold q8 Go.Proofs.YthkkllmmbefedaaGreatDoor.q5 at HK;generalize World.setCell _ _ _=W9 at *;obtain ⟨⟨z0,z1,z2,z3,z4,z5,z6,z7⟩,_⟩:=zK HK.out.1
  exact bodyPost_ret (v := .tuple #[zeroV.v none 0 none 0 none 0,.int .i64 0,.int .i64 1]) (by simp[results,Tryz.results57,go_sem,z0,z1,z2,z3,z4,z5,z6,z7];exact Nv) rfl HK.out.2
 | true =>
  have HF:=zh hf;have HST:Hid (jV s A c w t v p 0 t v A1 c1 A2 c2 A3 c3 w2):=⟨aM.out,xw.out,QC.out,HB2.out,HR.out,hf,rfl⟩;clear hf aM xw QC HB2;go_wp2
  go_loopw [1,26] (fun a i wr=>∃ (n:Nat) (tn:Int) (x:Val) (F1:zo) (f1:Nat) (F2:zo) (f2:Nat) (F3:zo) (f3:Nat),n<=p.length/\a = .int .i64 tn/\i = .int .i64 n/\Hid (jV s A c w t v p n tn x F1 f1 F2 f2 F3 f3 wr)) (fun _ i _=>p.length - (intOf i).toNat)
  case atStart=>exact ⟨0,t,v,A1,c1,A2,c2,A3,c3,by omega,rfl,rfl,HST.out⟩
  case round =>
   obtain ⟨n,tn,x,F1,f1,F2,f2,F3,f3,hnl,rfl,rfl,hh⟩:=hrel;obtain ⟨wo,rfl⟩:∃wo:World,wo=wr:=⟨_,rfl⟩;have HA:=zh hh.out;clear hh HST
   by_cases hlt:n<p.length
   ·obtain ⟨pb,po,rfl,pc⟩:=(HI.out.below HA.out.Bz).aj hlt
    have HDR:Hid (p.drop n=p[n]::p.drop (n+1)):=ABJ hlt;generalize p[n]=pn at *;obtain ⟨i0,i1,i2⟩:=SG HA.out.fit;obtain ⟨m,rfl⟩:=AAY i0;have hm:m<s.length:=by omega
    have VJ:Hid (Gz s t v p=Gz s (m:Int) x (pn::p.drop (n+1))):=by show _=_;rw[HA.out.at_,HDR.out]
    have HFX:=zh HA.out.fit;have jk:Hid (AO s (m:Int)=s[m]):=zT hm;obtain ⟨bq,oq,As,cs,Am,cm,sH,htr,t0,t1,t2,t3,t4,t5,t6,t7,t8,t9⟩:=(HS.out.below HA.out.Bz).JX hm;subst sH;have YW:Hid (s[m]=AO s (m:Int)):=jk.out.symm;generalize s[m]=y at *;have Hz:=zh htr;have h1:(0:Int)<=(m:Int):=by omega
    have h2:(m:Int)<(s.length:Int):=by omega
    have h3:(0:Int)<=(n:Int):=by omega
    have h4:(n:Int)<(p.length:Int):=by omega
    have x0:=zb HA.out.sb;have BS:=zh (zD wo (y.box As cs Am cm));have KJ:Hid (CS (wo.alloc (y.box As cs Am cm)) wo.heap.size y As cs Am cm):=AAL wo _;have RP:=zh (HA.out.below BS);have NM:=zh (Hz.out.below BS);clear htr i0 i1 i2 HDR;go_upto_region 7 with fail
    clear t0 t1 t2 t3 t4 t5 t6 t7 t8 t9 x0 pc;generalize wo.alloc (y.box As cs Am cm)=W4 at *;generalize wo.heap.size=qt at *;obtain ⟨b0,b1,b2,b3,b4,b5,b6,b7,b8,b9⟩:=zG KJ
    by_cases hk5:y.kind=5
    ·have q5:(y.kind==5)=true:=by simp[hk5]
     have q6:(y.kind==6)=false:=by simp[hk5]
     have Fy:=zh (Ws HFX (by rw[jk.out];exact hk5) pn (p.drop (n+1)))
     rw[jk.out] at Fy;clear hk5;obtain ⟨r,hre⟩:∃r,Bg (fun m:AY=>decide (m.id=pn)) y.AA=r:=⟨_,rfl⟩
     have hcall:=Jt pn y As cs Am cm W4 NM;have hrl:=Fu (fun m:AY=>decide (m.id=pn)) y.AA
     rw[hre] at hcall hrl Fy;have NT:=zh hcall;clear hcall hre;go_wp2_with fail;refine NT.out.mono ?_;rintro e' w5 ⟨rfl,hb5⟩;have KY:=zh (RP.out.below hb5);have uF:Hid (CS w5 qt y As cs Am cm):=zE KJ hb5;have U5:=zh (NM.out.below hb5);clear hb5 NT b0 b1 b2 b3 b4 b5 b6 b7 b8 b9;obtain ⟨b0,b1,b2,b3,b4,b5,b6,b7,b8,b9⟩:=zG uF
     by_cases hr0:r<0
     ·have HE:=zh (Ph HF (VJ.out.trans (Fy.out.2.1 hr0)))
      have z5:decide (0<=r)=false:=AAZ (by omega)
      have z6:(if r<0 then 0 else r)=0:=AAH hr0
      rw[z5,z6];clear hr0 hrl z5 z6 Fy;obtain ⟨⟨z0,z1,z2,z3,z4,z5,z6,z7⟩,y0,y1,y2,y3,y4,y5,y6,y7⟩:=zK KY.out.rb;go_wp2;have HK:=zh (Jk (n:=0) KY.out.rb KY.out.Bz (q:=w.heap.size+2) (by omega) HE)
      clear z0 z1 z2 z3 z4 z5 z6 z7 y0 y1 y2 y3 y4 y5 y6 y7;unfold q8 Go.Proofs.YthkkllmmbefedaaGreatDoor.q5 at HK;generalize World.setCell _ _ _=W9 at *;obtain ⟨⟨z0,z1,z2,z3,z4,z5,z6,z7⟩,_⟩:=zK HK.out.1
      exact bodyPost_ret (v := .tuple #[zeroV.v none 0 none 0 none 0,.int .i64 0,.int .i64 4]) (by simp[results,Tryz.results57,go_sem,z0,z1,z2,z3,z4,z5,z6,z7];exact Nv) rfl HK.out.2
     obtain ⟨k,rfl⟩:=AAY (show 0<=r by omega)
     have hk:k<y.AA.length:=by omega
     have z5:decide (0<=(k:Int))=true:=AAT (by omega)
     have z6:(if (k:Int)<0 then 0 else (k:Int))=k:=Pd hr0
     rw[z5,z6];clear hr0 hrl z5 z6;have hk2:k<x.items.length:=by rw[Fy.out.1];exact hk
     have Si:=zh (Fy.out.2.2 k rfl hk hk2);obtain ⟨mb,mo,M1,m1,M2,m2,M3,m3,hM,_,d0,d1,d2,d3,d4,d5,d6,d7,d8,d9,RA,Q9,Q8⟩:=U5.out.AA.K5 hk;clear d0 d1 d3 d4 d5 d6 d7 d8 d9 RA Q9 Q8 Fy;subst hM;have g1:(0:Int)<=(k:Int):=by omega
     have g2:(k:Int)<(y.AA.length:Int):=by omega
     have g3:¬ (k:Int)<0:=by omega
     have g4:(k:Int)<(x.items.length:Int):=by omega
     have g5:¬ (k:Int) >= (x.items.length:Int):=by omega
     obtain ⟨ib,io,E1,e1,E2,e2,E3,e3,hI,hir,a0,a1,a2,a3,a4,a5,a6,a7⟩:=KY.out.val.items.at8 hk2;subst hI;have qC:=zh (jV.next KY hir Si.out.2 (VJ.out.trans Si.out.1) (e1:=e1) (e2:=e2) (e3:=e3));replace a0:=zA KY.out.Bz a0;replace a1:=zA KY.out.Bz a1;replace a2:=zA KY.out.Bz a2;replace a3:=zA KY.out.Bz a3;replace a4:=zA KY.out.Bz a4;replace a5:=zA KY.out.Bz a5
     replace a6:=zA KY.out.Bz a6;replace a7:=zA KY.out.Bz a7;obtain ⟨⟨v0,v1,v2,v3,v4,v5,v6,v7⟩,y0,y1,y2,y3,y4,y5,y6,y7⟩:=zK KY.out.vb;clear hir;go_wp2;clear a0 a1 a2 a3 a4 a5 a6 a7 v0 v1 v2 v3 v4 v5 v6 v7 y0 y1 y2 y3 y4 y5 y6 y7;unfold q8 Go.Proofs.YthkkllmmbefedaaGreatDoor.q5 at qC
     generalize World.setCell _ _ _=W9 at *;go_roundw
     case rel=>exact ⟨n+1,(y.AA[k]).type,x.items[k],E1,e1,E2,e2,E3,e3,by omega,rfl,by go_num,qC.out⟩
     case measure=>simp[intOf];omega
    by_cases nP:y.kind=6
    ·have q5:(y.kind==5)=false:=by simp[nP]
     have q6:(y.kind==6)=true:=by simp[nP]
     have Fy:=zh (Wq HFX (by rw[jk.out];exact nP) pn (p.drop (n+1)))
     rw[jk.out] at Fy;clear hk5 nP;obtain ⟨r,hre⟩:∃r,Bg (fun m:AY=>decide (m.id=pn)) y.AA=r:=⟨_,rfl⟩
     have hcall:=Jt pn y As cs Am cm W4 NM;have hrl:=Fu (fun m:AY=>decide (m.id=pn)) y.AA
     rw[hre] at hcall hrl Fy;have NT:=zh hcall;clear hcall hre;go_wp2_with fail;refine NT.out.mono ?_;rintro e' w5 ⟨rfl,hb5⟩;have KY:=zh (RP.out.below hb5);have uF:Hid (CS w5 qt y As cs Am cm):=zE KJ hb5;have U5:=zh (NM.out.below hb5);clear hb5 NT b0 b1 b2 b3 b4 b5 b6 b7 b8 b9;obtain ⟨b0,b1,b2,b3,b4,b5,b6,b7,b8,b9⟩:=zG uF
     by_cases hr0:r<0
     ·have HE:=zh (Ph HF (VJ.out.trans (Fy.out.1 hr0)))
      have z5:decide (0<=r)=false:=AAZ (by omega)
      have z6:(if r<0 then 0 else r)=0:=AAH hr0
      rw[z5,z6];clear hr0 hrl z5 z6 Fy;obtain ⟨⟨z0,z1,z2,z3,z4,z5,z6,z7⟩,y0,y1,y2,y3,y4,y5,y6,y7⟩:=zK KY.out.rb;go_wp2;have HK:=zh (Jk (n:=0) KY.out.rb KY.out.Bz (q:=w.heap.size+2) (by omega) HE)
      clear z0 z1 z2 z3 z4 z5 z6 z7 y0 y1 y2 y3 y4 y5 y6 y7;unfold q8 Go.Proofs.YthkkllmmbefedaaGreatDoor.q5 at HK;generalize World.setCell _ _ _=W9 at *;obtain ⟨⟨z0,z1,z2,z3,z4,z5,z6,z7⟩,_⟩:=zK HK.out.1
      exact bodyPost_ret (v := .tuple #[zeroV.v none 0 none 0 none 0,.int .i64 0,.int .i64 4]) (by simp[results,Tryz.results57,go_sem,z0,z1,z2,z3,z4,z5,z6,z7];exact Nv) rfl HK.out.2
     obtain ⟨k,rfl⟩:=AAY (show 0<=r by omega)
     have hk:k<y.AA.length:=by omega
     have z5:decide (0<=(k:Int))=true:=AAT (by omega)
     have z6:(if (k:Int)<0 then 0 else (k:Int))=k:=Pd hr0
     rw[z5,z6];clear hr0 hrl z5 z6
     by_cases hpi:pn=x.id
     case neg =>
      have HE:=zh (Ph HF (VJ.out.trans (Fy.out.2.1 hpi)));have w4:w5.cell? ⟨w.heap.size+1,4,none⟩=some (.int .i64 x.id):=(zF KY.out.vb).2.2.2.2.1;have q7:(pn != x.id)=true:=by simp[hpi]
      clear hpi Fy;obtain ⟨⟨z0,z1,z2,z3,z4,z5,z6,z7⟩,y0,y1,y2,y3,y4,y5,y6,y7⟩:=zK KY.out.rb;go_wp2;have HK:=zh (Jk (n:=0) KY.out.rb KY.out.Bz (q:=w.heap.size+2) (by omega) HE)
      clear z0 z1 z2 z3 z4 z5 z6 z7 y0 y1 y2 y3 y4 y5 y6 y7;unfold q8 Go.Proofs.YthkkllmmbefedaaGreatDoor.q5 at HK;generalize World.setCell _ _ _=W9 at *;obtain ⟨⟨z0,z1,z2,z3,z4,z5,z6,z7⟩,_⟩:=zK HK.out.1
      exact bodyPost_ret (v := .tuple #[zeroV.v none 0 none 0 none 0,.int .i64 0,.int .i64 4]) (by simp[results,Tryz.results57,go_sem,z0,z1,z2,z3,z4,z5,z6,z7];exact Nv) rfl HK.out.2
     obtain ⟨hk1,hk2,hnx⟩:=Fy.out.2.2 k rfl hpi;have Si:=zh hnx;have q7:(pn != x.id)=false:=by simp[hpi]
     obtain ⟨mb,mo,M1,m1,M2,m2,M3,m3,hM,_,d0,d1,d2,d3,d4,d5,d6,d7,d8,d9,RA,Q9,Q8⟩:=U5.out.AA.K5 hk;clear d0 d1 d3 d4 d5 d6 d7 d8 d9 RA Q9 Q8 Fy hnx hpi;subst hM;have g1:(0:Int)<=(k:Int):=by omega
     have g2:(k:Int)<(y.AA.length:Int):=by omega
     have g4:(0:Int)<(x.items.length:Int):=by omega
     have g5:¬ (0:Int) >= (x.items.length:Int):=by omega
     have g6:¬ (x.items.length:Int)<=0:=by omega
     have g7:¬ x.items=[]:=fun e=>by rw[e] at hk2;exact absurd hk2 (by simp)
     obtain ⟨ib,io,E1,e1,E2,e2,E3,e3,hI,hir,a0,a1,a2,a3,a4,a5,a6,a7⟩:=KY.out.val.items.at8 hk2;subst hI;have qC:=zh (jV.next KY hir Si.out.2 (VJ.out.trans Si.out.1) (e1:=e1) (e2:=e2) (e3:=e3));replace a0:=zA KY.out.Bz a0;replace a1:=zA KY.out.Bz a1;replace a2:=zA KY.out.Bz a2;replace a3:=zA KY.out.Bz a3;replace a4:=zA KY.out.Bz a4;replace a5:=zA KY.out.Bz a5
     replace a6:=zA KY.out.Bz a6;replace a7:=zA KY.out.Bz a7;obtain ⟨⟨v0,v1,v2,v3,v4,v5,v6,v7⟩,y0,y1,y2,y3,y4,y5,y6,y7⟩:=zK KY.out.vb;clear hir;simp only[Nat.zero_mul,Nat.add_zero] at a0 a1 a2 a3 a4 a5 a6 a7;go_wp2;clear a0 a1 a2 a3 a4 a5 a6 a7 v0 v1 v2 v3 v4 v5 v6 v7 y0 y1 y2 y3 y4 y5 y6 y7;unfold q8 Go.Proofs.YthkkllmmbefedaaGreatDoor.q5 at qC
     generalize World.setCell _ _ _=W9 at *;go_roundw
     case rel=>exact ⟨n+1,(y.AA[k]).type,x.items[0],E1,e1,E2,e2,E3,e3,by omega,rfl,by go_num,qC.out⟩
     case measure=>simp[intOf];omega
    ·have q5:(y.kind==5)=false:=by simp[hk5]
     have q6:(y.kind==6)=false:=by simp[nP]
     have Fy:=zh (jB HFX (by rw[jk.out];exact hk5) (by rw[jk.out];exact nP) pn (p.drop (n+1)))
     rw[jk.out] at Fy;clear hk5 nP
     by_cases hp0:pn<0
     ·have HE:=zh (Ph HF (VJ.out.trans (Fy.out.1 hp0)))
      clear Fy;obtain ⟨⟨z0,z1,z2,z3,z4,z5,z6,z7⟩,y0,y1,y2,y3,y4,y5,y6,y7⟩:=zK RP.out.rb;go_wp2;have HK:=zh (Jk (n:=0) RP.out.rb RP.out.Bz (q:=w.heap.size+2) (by omega) HE)
      clear z0 z1 z2 z3 z4 z5 z6 z7 y0 y1 y2 y3 y4 y5 y6 y7;unfold q8 Go.Proofs.YthkkllmmbefedaaGreatDoor.q5 at HK;generalize World.setCell _ _ _=W9 at *;obtain ⟨⟨z0,z1,z2,z3,z4,z5,z6,z7⟩,_⟩:=zK HK.out.1
      exact bodyPost_ret (v := .tuple #[zeroV.v none 0 none 0 none 0,.int .i64 0,.int .i64 4]) (by simp[results,Tryz.results57,go_sem,z0,z1,z2,z3,z4,z5,z6,z7];exact Nv) rfl HK.out.2
     have w6:W4.cell? ⟨w.heap.size+1,6,none⟩=some (.slice F2 x.items.length f2):=(zF RP.out.vb).2.2.2.2.2.2.1
     by_cases hpl:(x.items.length:Int)<=pn
     ·have HE:=zh (Ph HF (VJ.out.trans (Fy.out.2.1 hpl)))
      have g5:pn >= (x.items.length:Int):=hpl;clear Fy hpl;obtain ⟨⟨z0,z1,z2,z3,z4,z5,z6,z7⟩,y0,y1,y2,y3,y4,y5,y6,y7⟩:=zK RP.out.rb;go_wp2;have HK:=zh (Jk (n:=0) RP.out.rb RP.out.Bz (q:=w.heap.size+2) (by omega) HE)
      clear z0 z1 z2 z3 z4 z5 z6 z7 y0 y1 y2 y3 y4 y5 y6 y7;unfold q8 Go.Proofs.YthkkllmmbefedaaGreatDoor.q5 at HK;generalize World.setCell _ _ _=W9 at *;obtain ⟨⟨z0,z1,z2,z3,z4,z5,z6,z7⟩,_⟩:=zK HK.out.1
      exact bodyPost_ret (v := .tuple #[zeroV.v none 0 none 0 none 0,.int .i64 0,.int .i64 4]) (by simp[results,Tryz.results57,go_sem,z0,z1,z2,z3,z4,z5,z6,z7];exact Nv) rfl HK.out.2
     clear w6;obtain ⟨k,rfl⟩:=AAY (show 0<=pn by omega)
     have hk2:k<x.items.length:=by omega
     have Si:=zh (Fy.out.2.2 k rfl hk2).2;have g1:(0:Int)<=(k:Int):=by omega
     have g4:(k:Int)<(x.items.length:Int):=by omega
     have g5:¬ (k:Int) >= (x.items.length:Int):=by omega
     clear Fy hpl;obtain ⟨ib,io,E1,e1,E2,e2,E3,e3,hI,hir,a0,a1,a2,a3,a4,a5,a6,a7⟩:=RP.out.val.items.at8 hk2;subst hI;have qC:=zh (jV.next RP hir Si.out.2 (VJ.out.trans Si.out.1) (e1:=e1) (e2:=e2) (e3:=e3));replace a0:=zA RP.out.Bz a0;replace a1:=zA RP.out.Bz a1;replace a2:=zA RP.out.Bz a2;replace a3:=zA RP.out.Bz a3;replace a4:=zA RP.out.Bz a4;replace a5:=zA RP.out.Bz a5
     replace a6:=zA RP.out.Bz a6;replace a7:=zA RP.out.Bz a7;obtain ⟨⟨v0,v1,v2,v3,v4,v5,v6,v7⟩,y0,y1,y2,y3,y4,y5,y6,y7⟩:=zK RP.out.vb;clear hir;go_wp2;clear a0 a1 a2 a3 a4 a5 a6 a7 v0 v1 v2 v3 v4 v5 v6 v7 y0 y1 y2 y3 y4 y5 y6 y7;unfold q8 Go.Proofs.YthkkllmmbefedaaGreatDoor.q5 at qC
     generalize World.setCell _ _ _=W9 at *;go_roundw
     case rel=>exact ⟨n+1,y.elem,x.items[k],E1,e1,E2,e2,E3,e3,by omega,rfl,by go_num,qC.out⟩
     case measure=>simp[intOf];omega
   ·have Ji:Hid (Wt s t v p=0):=by
     show _=_
     refine su HF (q:=(x,tn)) ?_;rw[HA.out.at_,ABW (by omega),Gz]
    have h4:¬ (n:Int)<(p.length:Int):=by omega
    obtain ⟨v0,v1,v2,v3,v4,v5,v6,v7⟩:=zF HA.out.vb;go_wp2_with fail;refine (TF x F1 f1 F2 f2 F3 f3 _ (HA.out.val.below HA.out.Bz)).mono ?_;rintro e w5 ⟨G1,g1,G2,g2,G3,g3,rfl,_,hb5⟩;have Ap:=zh (zB HA.out.Bz hb5);have yL:=zh (zE HA.out.rb hb5);clear v0 v1 v2 v3 v4 v5 v6 v7 hb5;obtain ⟨⟨z0,z1,z2,z3,z4,z5,z6,z7⟩,y0,y1,y2,y3,y4,y5,y6,y7⟩:=zK yL;go_wp2
    have HK:=zh (Gr yL (.int .i64 x.kind) (.bool x.bool) (.int .i64 x.int) (.string x.str) (.int .i64 x.id) (.slice G1 x.keys.length g1) (.slice G2 x.items.length g2) (.slice G3 x.rest.length g3))
    have VB:=zh (Bo Ap (q:=w.heap.size+2) (by omega) (.int .i64 x.kind) (.bool x.bool) (.int .i64 x.int) (.string x.str) (.int .i64 x.id) (.slice G1 x.keys.length g1) (.slice G2 x.items.length g2) (.slice G3 x.rest.length g3))
    clear z0 z1 z2 z3 z4 z5 z6 z7 y0 y1 y2 y3 y4 y5 y6 y7;unfold q8 Go.Proofs.YthkkllmmbefedaaGreatDoor.q5 at HK VB;generalize World.setCell _ _ _=W9 at *;obtain ⟨⟨z0,z1,z2,z3,z4,z5,z6,z7⟩,_⟩:=zK HK
    exact bodyPost_ret (v := .tuple #[x.v G1 g1 G2 g2 G3 g3,.int .i64 tn,.int .i64 0]) (by simp[results,Tryz.results57,go_sem,z0,z1,z2,z3,z4,z5,z6,z7]) rfl ⟨x,G1,g1,G2,g2,G3,g3,tn,by rw[Ji.out],VB.out⟩
end Go.Proofs.YthkkllmmbefedaaGreatDoor



