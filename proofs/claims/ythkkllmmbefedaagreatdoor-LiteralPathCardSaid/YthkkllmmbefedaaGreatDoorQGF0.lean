/-
  Walks: the chapter's examples.
-/
import Derived.Test.YthkkllmmbefedaaGreatDoorQGA7
import Derived.Test.YthkkllmmbefedaaGreatDoorQGE0
import Derived.Test.YthkkllmmbefedaaGreatDoorQGA8
import Derived.Test.YthkkllmmbefedaaGreatDoorQGA9
import Derived.Test.YthkkllmmbefedaaGreatDoorQGE1
import Derived.Test.YthkkllmmbefedaaGreatDoorQGW0
import Derived.Test.YthkkllmmbefedaaGreatDoorQGB1
import Derived.Deep.CutBlock
namespace Go.Proofs.YthkkllmmbefedaaGreatDoor
open Go.RowKit
set_option maxHeartbeats 16000000
set_option maxRecDepth 100000
structure Ub (s:List Ae) (A:zo) (c:Nat) (w:World) (t:Int) (v:Val) (p:List Int) (n:Nat) (tn:Int) (x:Val) (F1:zo) (f1:Nat) (F2:zo) (f2:Nat) (F3:zo) (f3:Nat) (wr:World):Prop where
 sb:wr.heap[w.heap.size]? = some (.cells #[.slice A s.length c] 31)
 vb:wr.heap[w.heap.size+1]? = some (x.box F1 f1 F2 f2 F3 f3)
 rb:wr.heap[w.heap.size+2]? = some zO
 Bb:Below w.heap.size w wr
 val:Az w x F1 F2 F3
 fit:BH s false tn x=true
 at_:CO s t v p=CO s tn x (p.drop n)
variable {t:Int} {p:List Int} {s:List Ae} {v:Val} {w:World}
theorem Ub.below {A:zo} {c:Nat} {n:Nat} {tn:Int} {x:Val} {F1:zo} {f1:Nat} {F2:zo} {f2:Nat} {F3:zo} {f3:Nat} {wr w':World} (h:Ub s A c w t v p n tn x F1 f1 F2 f2 F3 f3 wr) (hb:Below wr.heap.size wr w'):Ub s A c w t v p n tn x F1 f1 F2 f2 F3 f3 w' :=
 ⟨zE h.sb hb,zE h.vb hb,zE h.rb hb,zB h.Bb hb,h.val,h.fit,h.at_⟩
theorem Ni {p q:Nat} (h:q≠p) (v0 v1 v2 v3 v4 v5 v6 v7:Value):(q8 w p v0 v1 v2 v3 v4 v5 v6 v7).heap[q]? = w.heap[q]? := by
 rw[AAF _ _ _ _ h,AAF _ _ _ _ h,AAF _ _ _ _ h,AAF _ _ _ _ h,AAF _ _ _ _ h,AAF _ _ _ _ h,AAF _ _ _ _ h,AAF _ _ _ _ h]
theorem Ub.next {A:zo} {c:Nat} {n:Nat} {tn:Int} {x:Val} {F1:zo} {f1:Nat} {F2:zo} {f2:Nat} {F3:zo} {f3:Nat} {wr:World} (h:Ub s A c w t v p n tn x F1 f1 F2 f2 F3 f3 wr) {u:Int} {y:Val} {E1:zo} {e1:Nat} {E2:zo} {e2:Nat} {E3:zo} {e3:Nat} (hr:Az w y E1 E2 E3) (hf:BH s false u y=true) (ha:CO s t v p=CO s u y (p.drop (n+1))):
  Ub s A c w t v p (n+1) u y E1 e1 E2 e2 E3 e3 (q8 wr (w.heap.size+1) (.int .i64 y.kind) (.bool y.bool) (.int .i64 y.int) (.string y.str) (.int .i64 y.id) (.slice E1 y.keys.length e1) (.slice E2 y.items.length e2) (.slice E3 y.rest.length e3)) :=
 ⟨by rw[Ni (by omega)];exact h.sb,F6 h.vb _ _ _ _ _ _ _ _,by rw[Ni (by omega)];exact h.rb,BZ h.Bb (by omega) _ _ _ _ _ _ _ _,hr,hf,ha⟩
def uh (s:List Ae) (t:Int) (v:Val) (p:List Int) (w:World) (e:Ending) (w':World):Prop :=
 ∃ (y:Val) (F1:zo) (f1:Nat) (F2:zo) (f2:Nat) (F3:zo) (f3:Nat) (u:Int),e = .returned (.tuple #[y.v F1 f1 F2 f2 F3 f3,.int .i64 u,.int .i64 (Rv s t v p)])/\Below w.heap.size w w'
theorem JL {W5:World} {q:Nat} {n e:Int} (hz:W5.heap[q]? = some zO) (hb:Below w.heap.size w W5) (hq:w.heap.size<=q) (h:Rv s t v p=e):
  (q8 W5 q (.int .i64 0) (.bool false) (.int .i64 0) (.string ⟨#[]⟩) (.int .i64 0) AR AR AR).heap[q]? = some zO/\uh s t v p w (.returned (.tuple #[zeroV.v none 0 none 0 none 0,.int .i64 n,.int .i64 e])) (q8 W5 q (.int .i64 0) (.bool false) (.int .i64 0) (.string ⟨#[]⟩) (.int .i64 0) AR AR AR) :=
 ⟨F6 hz _ _ _ _ _ _ _ _,zeroV,none,0,none,0,none,0,n,by rw[h],BZ hb hq _ _ _ _ _ _ _ _⟩
theorem XI (h:BH s false t v=false):Rv s t v p=1:=by unfold Rv;rw[AAG h]
theorem MC (h:BH s false t v=true) (ha:CO s t v p=none):Rv s t v p=4:=by
 unfold Rv;rw[Pd (by rw[h];simp),ha]
theorem dm (h:BH s false t v=true) {q:Val×Int} (ha:CO s t v p=some q):Rv s t v p=0:=by
 unfold Rv;rw[Pd (by rw[h];simp),ha]
theorem UB (w:World) (o o2 o3:Obj):(((w.alloc o).alloc o2).alloc o3).heap[w.heap.size]? = some o/\(((w.alloc o).alloc o2).alloc o3).heap[w.heap.size+1]? = some o2/\(((w.alloc o).alloc o2).alloc o3).heap[w.heap.size+2]? = some o3/\Below w.heap.size w (((w.alloc o).alloc o2).alloc o3):=by
 obtain ⟨h1,h2,h3⟩:=EO w o o2;refine ⟨EP h1 o3,EP h2 o3,?_,zB (zI w o o2) (zD _ _)⟩;have h:=AAC ((w.alloc o).alloc o2) o3
 rwa [h3] at h
theorem gW (A:zo) (c:Nat) (hv:zQ s=0) (hn:Bq s) (t:Int) (v:Val) (A1:zo) (c1:Nat) (A2:zo) (c2:Nat) (A3:zo) (c3:Nat) (p:List Int) (B:zo) (d:Nat) (hp:p.length<=1000000) (w:World) (hs:CQ w A s) (hr:Az w v A1 A2 A3) (hi:Bl w B p):
  Calls Tryz.prog 57 #[.agg #[.slice A s.length c],.int .i64 t,v.v A1 c1 A2 c2 A3 c3,.slice B p.length d] w (uh s t v p w):=by
 have HS:=zh hs;have HR:=zh hr;have HI:=zh hi;have HV:=zh hv;have HN:=zh hn;have hln:=hs.1.lt (by omega)
 have HX0:=zh (UB w (.cells #[.slice A s.length c] 31) (v.box A1 c1 A2 c2 A3 c3) zO);clear hs hr hi hv hn
 go_enter Tryz.func57,Tryz.ntmps57
 go_upto_region 1 with fail
 generalize ((w.alloc (.cells #[.slice A s.length c] 31)).alloc (v.box A1 c1 A2 c2 A3 c3)).alloc zO=W1 at *;obtain ⟨v0,v1,v2,v3,v4,v5,v6,v7⟩:=zF HX0.out.2.1;have x0:=zb HX0.out.1;go_wp2_with fail;refine (Ig A c HV HN t v A1 c1 A2 c2 A3 c3 _ (HS.out.below HX0.out.2.2.2) (HR.out.below HX0.out.2.2.2)).mono ?_;rintro e w2 ⟨rfl,hb2⟩;have HB2:=zh (zB HX0.out.2.2.2 hb2)
 have Rc:=zh (zE HX0.out.1 hb2);have eu:=zh (zE HX0.out.2.1 hb2);have KE:=zh (zE HX0.out.2.2.1 hb2);clear v0 v1 v2 v3 v4 v5 v6 v7 x0 hb2 HX0
 cases hf:BH s false t v with
 | false =>
  have HE:=zh (XI (p:=p) hf);clear hf;obtain ⟨⟨z0,z1,z2,z3,z4,z5,z6,z7⟩,y0,y1,y2,y3,y4,y5,y6,y7⟩:=zK KE;go_wp2;have HK:=zh (JL (n:=0) KE HB2 (q:=w.heap.size+2) (by omega) HE)
  clear z0 z1 z2 z3 z4 z5 z6 z7 y0 y1 y2 y3 y4 y5 y6 y7;unfold q8 Go.Proofs.YthkkllmmbefedaaGreatDoor.q5 at HK;generalize World.setCell _ _ _=W9 at *;obtain ⟨⟨z0,z1,z2,z3,z4,z5,z6,z7⟩,_⟩:=zK HK.out.1
  exact bodyPost_ret (v := .tuple #[zeroV.v none 0 none 0 none 0,.int .i64 0,.int .i64 1]) (by simp[results,Tryz.results57,go_sem,z0,z1,z2,z3,z4,z5,z6,z7];exact KV) rfl HK.out.2
 | true =>
  have HF:=zh hf;have HST:Hid (Ub s A c w t v p 0 t v A1 c1 A2 c2 A3 c3 w2):=⟨Rc.out,eu.out,KE.out,HB2.out,HR.out,hf,rfl⟩;clear hf Rc eu KE HB2;go_wp2
  go_loopw [1,26] (fun a i wr=>∃ (n:Nat) (tn:Int) (x:Val) (F1:zo) (f1:Nat) (F2:zo) (f2:Nat) (F3:zo) (f3:Nat),n<=p.length/\a = .int .i64 tn/\i = .int .i64 n/\Hid (Ub s A c w t v p n tn x F1 f1 F2 f2 F3 f3 wr)) (fun _ i _=>p.length - (intOf i).toNat)
  case atStart=>exact ⟨0,t,v,A1,c1,A2,c2,A3,c3,by omega,rfl,rfl,HST.out⟩
  case round =>
   obtain ⟨n,tn,x,F1,f1,F2,f2,F3,f3,hnl,rfl,rfl,hh⟩:=hrel;obtain ⟨wo,rfl⟩:∃wo:World,wo=wr:=⟨_,rfl⟩;have HA:=zh hh.out;clear hh HST
   by_cases hlt:n<p.length
   ·obtain ⟨pb,po,rfl,pc⟩:=(HI.out.below HA.out.Bb).UD hlt
    have HDR:Hid (p.drop n=p[n]::p.drop (n+1)):=AAv hlt;generalize p[n]=pn at *;obtain ⟨i0,i1,i2⟩:=Kz HA.out.fit;obtain ⟨m,rfl⟩:=AAT i0;have hm:m<s.length:=by omega
    have Ib:Hid (CO s t v p=CO s (m:Int) x (pn::p.drop (n+1))):=by show _=_;rw[HA.out.at_,HDR.out]
    have qz:=zh HA.out.fit;have M7:Hid (AB s (m:Int)=s[m]):=zT hm;obtain ⟨bq,oq,As,cs,Am,cm,Ym,htr,t0,t1,t2,t3,t4,t5,t6,t7,t8,t9⟩:=(HS.out.below HA.out.Bb).FQ hm;subst Ym;have UO:Hid (s[m]=AB s (m:Int)):=M7.out.symm;generalize s[m]=y at *;have Dv:=zh htr;have h1:(0:Int)<=(m:Int):=by omega
    have h2:(m:Int)<(s.length:Int):=by omega
    have h3:(0:Int)<=(n:Int):=by omega
    have h4:(n:Int)<(p.length:Int):=by omega
    have x0:=zb HA.out.sb;have BI:=zh (zD wo (y.box As cs Am cm));have ML:Hid (BX (wo.alloc (y.box As cs Am cm)) wo.heap.size y As cs Am cm):=AAC wo _;have G6:=zh (HA.out.below BI);have Ct:=zh (Dv.out.below BI);clear htr i0 i1 i2 HDR;go_upto_region 7 with fail
    clear t0 t1 t2 t3 t4 t5 t6 t7 t8 t9 x0 pc;generalize wo.alloc (y.box As cs Am cm)=W4 at *;generalize wo.heap.size=qt at *;obtain ⟨b0,b1,b2,b3,b4,b5,b6,b7,b8,b9⟩:=zG ML
    by_cases hk5:y.kind=5
    ·have q5:(y.kind==5)=true:=by simp[hk5]
     have q6:(y.kind==6)=false:=by simp[hk5]
     have Bv:=zh (F7 qz (by rw[M7.out];exact hk5) pn (p.drop (n+1)))
     rw[M7.out] at Bv;clear hk5;obtain ⟨r,hre⟩:∃r,BD (fun m:AZ=>decide (m.id=pn)) y.AA=r:=⟨_,rfl⟩
     have hcall:=JR pn y As cs Am cm W4 Ct;have hrl:=C8 (fun m:AZ=>decide (m.id=pn)) y.AA
     rw[hre] at hcall hrl Bv;have Gh:=zh hcall;clear hcall hre;go_wp2_with fail;refine Gh.out.mono ?_;rintro e' w5 ⟨rfl,hb5⟩;have Dt:=zh (G6.out.below hb5);have Vo:Hid (BX w5 qt y As cs Am cm):=zE ML hb5;have IX:=zh (Ct.out.below hb5);clear hb5 Gh b0 b1 b2 b3 b4 b5 b6 b7 b8 b9;obtain ⟨b0,b1,b2,b3,b4,b5,b6,b7,b8,b9⟩:=zG Vo
     by_cases hr0:r<0
     ·have HE:=zh (MC HF (Ib.out.trans (Bv.out.2.1 hr0)))
      have z5:decide (0<=r)=false:=AAU (by omega)
      have z6:(if r<0 then 0 else r)=0:=AAG hr0
      rw[z5,z6];clear hr0 hrl z5 z6 Bv;obtain ⟨⟨z0,z1,z2,z3,z4,z5,z6,z7⟩,y0,y1,y2,y3,y4,y5,y6,y7⟩:=zK Dt.out.rb;go_wp2;have HK:=zh (JL (n:=0) Dt.out.rb Dt.out.Bb (q:=w.heap.size+2) (by omega) HE)
      clear z0 z1 z2 z3 z4 z5 z6 z7 y0 y1 y2 y3 y4 y5 y6 y7;unfold q8 Go.Proofs.YthkkllmmbefedaaGreatDoor.q5 at HK;generalize World.setCell _ _ _=W9 at *;obtain ⟨⟨z0,z1,z2,z3,z4,z5,z6,z7⟩,_⟩:=zK HK.out.1
      exact bodyPost_ret (v := .tuple #[zeroV.v none 0 none 0 none 0,.int .i64 0,.int .i64 4]) (by simp[results,Tryz.results57,go_sem,z0,z1,z2,z3,z4,z5,z6,z7];exact KV) rfl HK.out.2
     obtain ⟨k,rfl⟩:=AAT (show 0<=r by omega)
     have hk:k<y.AA.length:=by omega
     have z5:decide (0<=(k:Int))=true:=AAX (by omega)
     have z6:(if (k:Int)<0 then 0 else (k:Int))=k:=Pd hr0
     rw[z5,z6];clear hr0 hrl z5 z6;have hk2:k<x.items.length:=by rw[Bv.out.1];exact hk
     have Ic:=zh (Bv.out.2.2 k rfl hk hk2);obtain ⟨mb,mo,M1,m1,M2,m2,M3,m3,hM,_,d0,d1,d2,d3,d4,d5,d6,d7,d8,d9,Jr,Jq,Jp⟩:=IX.out.AA.Gw hk;clear d0 d1 d3 d4 d5 d6 d7 d8 d9 Jr Jq Jp Bv;subst hM;have g1:(0:Int)<=(k:Int):=by omega
     have g2:(k:Int)<(y.AA.length:Int):=by omega
     have g3:¬ (k:Int)<0:=by omega
     have g4:(k:Int)<(x.items.length:Int):=by omega
     have g5:¬ (k:Int) >= (x.items.length:Int):=by omega
     obtain ⟨ib,io,E1,e1,E2,e2,E3,e3,hI,hir,a0,a1,a2,a3,a4,a5,a6,a7⟩:=Dt.out.val.items.at8 hk2;subst hI;have fO:=zh (Ub.next Dt hir Ic.out.2 (Ib.out.trans Ic.out.1) (e1:=e1) (e2:=e2) (e3:=e3));replace a0:=zA Dt.out.Bb a0;replace a1:=zA Dt.out.Bb a1;replace a2:=zA Dt.out.Bb a2;replace a3:=zA Dt.out.Bb a3;replace a4:=zA Dt.out.Bb a4;replace a5:=zA Dt.out.Bb a5
     replace a6:=zA Dt.out.Bb a6;replace a7:=zA Dt.out.Bb a7;obtain ⟨⟨v0,v1,v2,v3,v4,v5,v6,v7⟩,y0,y1,y2,y3,y4,y5,y6,y7⟩:=zK Dt.out.vb;clear hir;go_wp2;clear a0 a1 a2 a3 a4 a5 a6 a7 v0 v1 v2 v3 v4 v5 v6 v7 y0 y1 y2 y3 y4 y5 y6 y7;unfold q8 Go.Proofs.YthkkllmmbefedaaGreatDoor.q5 at fO
     generalize World.setCell _ _ _=W9 at *;go_roundw
     case rel=>exact ⟨n+1,(y.AA[k]).type,x.items[k],E1,e1,E2,e2,E3,e3,by omega,rfl,by go_num,fO.out⟩
     case measure=>simp[intOf];omega
    by_cases M0:y.kind=6
    ·have q5:(y.kind==5)=false:=by simp[M0]
     have q6:(y.kind==6)=true:=by simp[M0]
     have Bv:=zh (JD qz (by rw[M7.out];exact M0) pn (p.drop (n+1)))
     rw[M7.out] at Bv;clear hk5 M0;obtain ⟨r,hre⟩:∃r,BD (fun m:AZ=>decide (m.id=pn)) y.AA=r:=⟨_,rfl⟩
     have hcall:=JR pn y As cs Am cm W4 Ct;have hrl:=C8 (fun m:AZ=>decide (m.id=pn)) y.AA
     rw[hre] at hcall hrl Bv;have Gh:=zh hcall;clear hcall hre;go_wp2_with fail;refine Gh.out.mono ?_;rintro e' w5 ⟨rfl,hb5⟩;have Dt:=zh (G6.out.below hb5);have Vo:Hid (BX w5 qt y As cs Am cm):=zE ML hb5;have IX:=zh (Ct.out.below hb5);clear hb5 Gh b0 b1 b2 b3 b4 b5 b6 b7 b8 b9;obtain ⟨b0,b1,b2,b3,b4,b5,b6,b7,b8,b9⟩:=zG Vo
     by_cases hr0:r<0
     ·have HE:=zh (MC HF (Ib.out.trans (Bv.out.1 hr0)))
      have z5:decide (0<=r)=false:=AAU (by omega)
      have z6:(if r<0 then 0 else r)=0:=AAG hr0
      rw[z5,z6];clear hr0 hrl z5 z6 Bv;obtain ⟨⟨z0,z1,z2,z3,z4,z5,z6,z7⟩,y0,y1,y2,y3,y4,y5,y6,y7⟩:=zK Dt.out.rb;go_wp2;have HK:=zh (JL (n:=0) Dt.out.rb Dt.out.Bb (q:=w.heap.size+2) (by omega) HE)
      clear z0 z1 z2 z3 z4 z5 z6 z7 y0 y1 y2 y3 y4 y5 y6 y7;unfold q8 Go.Proofs.YthkkllmmbefedaaGreatDoor.q5 at HK;generalize World.setCell _ _ _=W9 at *;obtain ⟨⟨z0,z1,z2,z3,z4,z5,z6,z7⟩,_⟩:=zK HK.out.1
      exact bodyPost_ret (v := .tuple #[zeroV.v none 0 none 0 none 0,.int .i64 0,.int .i64 4]) (by simp[results,Tryz.results57,go_sem,z0,z1,z2,z3,z4,z5,z6,z7];exact KV) rfl HK.out.2
     obtain ⟨k,rfl⟩:=AAT (show 0<=r by omega)
     have hk:k<y.AA.length:=by omega
     have z5:decide (0<=(k:Int))=true:=AAX (by omega)
     have z6:(if (k:Int)<0 then 0 else (k:Int))=k:=Pd hr0
     rw[z5,z6];clear hr0 hrl z5 z6
     by_cases hpi:pn=x.id
     case neg =>
      have HE:=zh (MC HF (Ib.out.trans (Bv.out.2.1 hpi)));have w4:w5.cell? ⟨w.heap.size+1,4,none⟩=some (.int .i64 x.id):=(zF Dt.out.vb).2.2.2.2.1;have q7:(pn != x.id)=true:=by simp[hpi]
      clear hpi Bv;obtain ⟨⟨z0,z1,z2,z3,z4,z5,z6,z7⟩,y0,y1,y2,y3,y4,y5,y6,y7⟩:=zK Dt.out.rb;go_wp2;have HK:=zh (JL (n:=0) Dt.out.rb Dt.out.Bb (q:=w.heap.size+2) (by omega) HE)
      clear z0 z1 z2 z3 z4 z5 z6 z7 y0 y1 y2 y3 y4 y5 y6 y7;unfold q8 Go.Proofs.YthkkllmmbefedaaGreatDoor.q5 at HK;generalize World.setCell _ _ _=W9 at *;obtain ⟨⟨z0,z1,z2,z3,z4,z5,z6,z7⟩,_⟩:=zK HK.out.1
      exact bodyPost_ret (v := .tuple #[zeroV.v none 0 none 0 none 0,.int .i64 0,.int .i64 4]) (by simp[results,Tryz.results57,go_sem,z0,z1,z2,z3,z4,z5,z6,z7];exact KV) rfl HK.out.2
     obtain ⟨hk1,hk2,hnx⟩:=Bv.out.2.2 k rfl hpi;have Ic:=zh hnx;have q7:(pn != x.id)=false:=by simp[hpi]
     obtain ⟨mb,mo,M1,m1,M2,m2,M3,m3,hM,_,d0,d1,d2,d3,d4,d5,d6,d7,d8,d9,Jr,Jq,Jp⟩:=IX.out.AA.Gw hk;clear d0 d1 d3 d4 d5 d6 d7 d8 d9 Jr Jq Jp Bv hnx hpi;subst hM;have g1:(0:Int)<=(k:Int):=by omega
     have g2:(k:Int)<(y.AA.length:Int):=by omega
     have g4:(0:Int)<(x.items.length:Int):=by omega
     have g5:¬ (0:Int) >= (x.items.length:Int):=by omega
     have g6:¬ (x.items.length:Int)<=0:=by omega
     have g7:¬ x.items=[]:=fun e=>by rw[e] at hk2;exact absurd hk2 (by simp)
     obtain ⟨ib,io,E1,e1,E2,e2,E3,e3,hI,hir,a0,a1,a2,a3,a4,a5,a6,a7⟩:=Dt.out.val.items.at8 hk2;subst hI;have fO:=zh (Ub.next Dt hir Ic.out.2 (Ib.out.trans Ic.out.1) (e1:=e1) (e2:=e2) (e3:=e3));replace a0:=zA Dt.out.Bb a0;replace a1:=zA Dt.out.Bb a1;replace a2:=zA Dt.out.Bb a2;replace a3:=zA Dt.out.Bb a3;replace a4:=zA Dt.out.Bb a4;replace a5:=zA Dt.out.Bb a5
     replace a6:=zA Dt.out.Bb a6;replace a7:=zA Dt.out.Bb a7;obtain ⟨⟨v0,v1,v2,v3,v4,v5,v6,v7⟩,y0,y1,y2,y3,y4,y5,y6,y7⟩:=zK Dt.out.vb;clear hir;simp only[Nat.zero_mul,Nat.add_zero] at a0 a1 a2 a3 a4 a5 a6 a7;go_wp2;clear a0 a1 a2 a3 a4 a5 a6 a7 v0 v1 v2 v3 v4 v5 v6 v7 y0 y1 y2 y3 y4 y5 y6 y7;unfold q8 Go.Proofs.YthkkllmmbefedaaGreatDoor.q5 at fO
     generalize World.setCell _ _ _=W9 at *;go_roundw
     case rel=>exact ⟨n+1,(y.AA[k]).type,x.items[0],E1,e1,E2,e2,E3,e3,by omega,rfl,by go_num,fO.out⟩
     case measure=>simp[intOf];omega
    ·have q5:(y.kind==5)=false:=by simp[hk5]
     have q6:(y.kind==6)=false:=by simp[M0]
     have Bv:=zh (J6 qz (by rw[M7.out];exact hk5) (by rw[M7.out];exact M0) pn (p.drop (n+1)))
     rw[M7.out] at Bv;clear hk5 M0
     by_cases hp0:pn<0
     ·have HE:=zh (MC HF (Ib.out.trans (Bv.out.1 hp0)))
      clear Bv;obtain ⟨⟨z0,z1,z2,z3,z4,z5,z6,z7⟩,y0,y1,y2,y3,y4,y5,y6,y7⟩:=zK G6.out.rb;go_wp2;have HK:=zh (JL (n:=0) G6.out.rb G6.out.Bb (q:=w.heap.size+2) (by omega) HE)
      clear z0 z1 z2 z3 z4 z5 z6 z7 y0 y1 y2 y3 y4 y5 y6 y7;unfold q8 Go.Proofs.YthkkllmmbefedaaGreatDoor.q5 at HK;generalize World.setCell _ _ _=W9 at *;obtain ⟨⟨z0,z1,z2,z3,z4,z5,z6,z7⟩,_⟩:=zK HK.out.1
      exact bodyPost_ret (v := .tuple #[zeroV.v none 0 none 0 none 0,.int .i64 0,.int .i64 4]) (by simp[results,Tryz.results57,go_sem,z0,z1,z2,z3,z4,z5,z6,z7];exact KV) rfl HK.out.2
     have w6:W4.cell? ⟨w.heap.size+1,6,none⟩=some (.slice F2 x.items.length f2):=(zF G6.out.vb).2.2.2.2.2.2.1
     by_cases hpl:(x.items.length:Int)<=pn
     ·have HE:=zh (MC HF (Ib.out.trans (Bv.out.2.1 hpl)))
      have g5:pn >= (x.items.length:Int):=hpl;clear Bv hpl;obtain ⟨⟨z0,z1,z2,z3,z4,z5,z6,z7⟩,y0,y1,y2,y3,y4,y5,y6,y7⟩:=zK G6.out.rb;go_wp2;have HK:=zh (JL (n:=0) G6.out.rb G6.out.Bb (q:=w.heap.size+2) (by omega) HE)
      clear z0 z1 z2 z3 z4 z5 z6 z7 y0 y1 y2 y3 y4 y5 y6 y7;unfold q8 Go.Proofs.YthkkllmmbefedaaGreatDoor.q5 at HK;generalize World.setCell _ _ _=W9 at *;obtain ⟨⟨z0,z1,z2,z3,z4,z5,z6,z7⟩,_⟩:=zK HK.out.1
      exact bodyPost_ret (v := .tuple #[zeroV.v none 0 none 0 none 0,.int .i64 0,.int .i64 4]) (by simp[results,Tryz.results57,go_sem,z0,z1,z2,z3,z4,z5,z6,z7];exact KV) rfl HK.out.2
     clear w6;obtain ⟨k,rfl⟩:=AAT (show 0<=pn by omega)
     have hk2:k<x.items.length:=by omega
     have Ic:=zh (Bv.out.2.2 k rfl hk2).2;have g1:(0:Int)<=(k:Int):=by omega
     have g4:(k:Int)<(x.items.length:Int):=by omega
     have g5:¬ (k:Int) >= (x.items.length:Int):=by omega
     clear Bv hpl;obtain ⟨ib,io,E1,e1,E2,e2,E3,e3,hI,hir,a0,a1,a2,a3,a4,a5,a6,a7⟩:=G6.out.val.items.at8 hk2;subst hI;have fO:=zh (Ub.next G6 hir Ic.out.2 (Ib.out.trans Ic.out.1) (e1:=e1) (e2:=e2) (e3:=e3));replace a0:=zA G6.out.Bb a0;replace a1:=zA G6.out.Bb a1;replace a2:=zA G6.out.Bb a2;replace a3:=zA G6.out.Bb a3;replace a4:=zA G6.out.Bb a4;replace a5:=zA G6.out.Bb a5
     replace a6:=zA G6.out.Bb a6;replace a7:=zA G6.out.Bb a7;obtain ⟨⟨v0,v1,v2,v3,v4,v5,v6,v7⟩,y0,y1,y2,y3,y4,y5,y6,y7⟩:=zK G6.out.vb;clear hir;go_wp2;clear a0 a1 a2 a3 a4 a5 a6 a7 v0 v1 v2 v3 v4 v5 v6 v7 y0 y1 y2 y3 y4 y5 y6 y7;unfold q8 Go.Proofs.YthkkllmmbefedaaGreatDoor.q5 at fO
     generalize World.setCell _ _ _=W9 at *;go_roundw
     case rel=>exact ⟨n+1,y.elem,x.items[k],E1,e1,E2,e2,E3,e3,by omega,rfl,by go_num,fO.out⟩
     case measure=>simp[intOf];omega
   ·have Hy:Hid (Rv s t v p=0):=by
     show _=_
     refine dm HF (q:=(x,tn)) ?_;rw[HA.out.at_,AA7 (by omega),CO]
    have h4:¬ (n:Int)<(p.length:Int):=by omega
    obtain ⟨v0,v1,v2,v3,v4,v5,v6,v7⟩:=zF HA.out.vb;go_wp2_with fail;refine (R8 x F1 f1 F2 f2 F3 f3 _ (HA.out.val.below HA.out.Bb)).mono ?_;rintro e w5 ⟨G1,g1,G2,g2,G3,g3,rfl,_,hb5⟩;have Ap:=zh (zB HA.out.Bb hb5);have vP:=zh (zE HA.out.rb hb5);clear v0 v1 v2 v3 v4 v5 v6 v7 hb5;obtain ⟨⟨z0,z1,z2,z3,z4,z5,z6,z7⟩,y0,y1,y2,y3,y4,y5,y6,y7⟩:=zK vP;go_wp2
    have HK:=zh (F6 vP (.int .i64 x.kind) (.bool x.bool) (.int .i64 x.int) (.string x.str) (.int .i64 x.id) (.slice G1 x.keys.length g1) (.slice G2 x.items.length g2) (.slice G3 x.rest.length g3))
    have NW:=zh (BZ Ap (q:=w.heap.size+2) (by omega) (.int .i64 x.kind) (.bool x.bool) (.int .i64 x.int) (.string x.str) (.int .i64 x.id) (.slice G1 x.keys.length g1) (.slice G2 x.items.length g2) (.slice G3 x.rest.length g3))
    clear z0 z1 z2 z3 z4 z5 z6 z7 y0 y1 y2 y3 y4 y5 y6 y7;unfold q8 Go.Proofs.YthkkllmmbefedaaGreatDoor.q5 at HK NW;generalize World.setCell _ _ _=W9 at *;obtain ⟨⟨z0,z1,z2,z3,z4,z5,z6,z7⟩,_⟩:=zK HK
    exact bodyPost_ret (v := .tuple #[x.v G1 g1 G2 g2 G3 g3,.int .i64 tn,.int .i64 0]) (by simp[results,Tryz.results57,go_sem,z0,z1,z2,z3,z4,z5,z6,z7]) rfl ⟨x,G1,g1,G2,g2,G3,g3,tn,by rw[Hy.out],NW.out⟩
def eZ (s:List Ae) (t:Int) (v:Val) (p:List Int) (w:World) (e:Ending) (w':World):Prop:=e = .returned (.tuple #[.string (GJ s t v p).1,.int .i64 (GJ s t v p).2])/\Below w.heap.size w w'
theorem Pq (h:Rv s t v p≠0):GJ s t v p=(⟨#[]⟩,Rv s t v p):=by
 unfold Rv at h ⊢;unfold GJ
 split
 ·rfl
 ·rename_i hf
  rw[Pd hf] at h
  cases ha:CO s t v p with
  | none=>rfl
  | some q=>rw[ha] at h;exact absurd rfl h
theorem S9 (h:Rv s t v p=0):GJ s t v p=(BL s t p,0)/\BH s false t v=true/\(CO s t v p).isSome=true:=by
 unfold Rv at h;unfold GJ
 cases hf:BH s false t v with
 | false=>rw[hf,AAG rfl] at h;cases h
 | true =>
  rw[hf,Pd (by simp)] at h
  rw[Pd (by simp)]
  cases ha:CO s t v p with
  | none=>rw[ha] at h;cases h
  | some q=>exact ⟨rfl,rfl,rfl⟩
theorem JX (A:zo) (c:Nat) (hv:zQ s=0) (hn:Bq s) (t:Int) (v:Val) (A1:zo) (c1:Nat) (A2:zo) (c2:Nat) (A3:zo) (c3:Nat) (p:List Int) (B:zo) (d:Nat) (hp:p.length<=1000000) (w:World) (hs:CQ w A s) (hr:Az w v A1 A2 A3) (hi:Bl w B p) (htb:eH w):
  Calls Tryz.prog 27 #[.agg #[.slice A s.length c],.int .i64 t,v.v A1 c1 A2 c2 A3 c3,.slice B p.length d] w (eZ s t v p w):=by
 have HS:=zh hs;have HR:=zh hr;have HI:=zh hi;have HV:=zh hv;have HN:=zh hn;have ML:=zh htb;have qN:=zh (aM hv hn);have hln:=hs.1.lt (by omega)
 have HX0:=zh (EO w (.cells #[.slice A s.length c] 31) (v.box A1 c1 A2 c2 A3 c3));have HB0:=zh (zI w (.cells #[.slice A s.length c] 31) (v.box A1 c1 A2 c2 A3 c3));have HAT:=zh (fun W=>gW (s:=s) A c hv hn t v A1 c1 A2 c2 A3 c3 p B d hp W)
 have fI:=zh (Pq (s:=s) (t:=t) (v:=v) (p:=p));have XT:=zh (S9 (s:=s) (t:=t) (v:=v) (p:=p));generalize hE:Rv s t v p=er at *;generalize uS:GJ s t v p=PS at *;have HE:=zh hE;have Ji:=zh uS;clear hs hr hi hv hn htb hE uS
 go_enter Tryz.func27,Tryz.ntmps27
 go_upto_region 1 with fail
 generalize (w.alloc (.cells #[.slice A s.length c] 31)).alloc (v.box A1 c1 A2 c2 A3 c3)=W1 at *;obtain ⟨v0,v1,v2,v3,v4,v5,v6,v7⟩:=zF HX0.out.2.1;have x0:=zb HX0.out.1;go_wp2_with fail;refine (HAT.out W1 (HS.out.below HB0) (HR.out.below HB0) (HI.out.below HB0)).mono ?_;rintro e w2 ⟨y,F1,f1,F2,f2,F3,f3,u,rfl,hb2⟩;rw[HE.out];have BI:=zh (zD w2 (y.box F1 f1 F2 f2 F3 f3))
 have HB2:=zh (zB (zB HB0 hb2) BI);have UO:=zh (zE (zE HX0.out.1 hb2) BI);clear v0 v1 v2 v3 v4 v5 v6 v7 x0 hb2 HX0 HB0 HAT;go_upto_region 2 with fail
 generalize w2.alloc (y.box F1 f1 F2 f2 F3 f3)=W2 at *;generalize w2.heap.size=q2 at *
 by_cases he:er=0
 case neg =>
  have q1:(er != 0)=true:=by simp[he]
  have IJ:=zh (fI.out he);clear he;go_wp2;go_ret2;exact ⟨by rw[Ji.out,IJ.out];rfl,HB2.out⟩
 have IJ:=zh (XT.out he);have q1:(er != 0)=false:=by simp[he]
 have HST:Hid (Ew s t p 0 t ⟨#[]⟩):=Ew.start IJ.out.2.1 IJ.out.2.2;clear he;go_wp2
 go_loopw [1,13,33] (fun a o i wr=>∃ (n:Nat) (tn:Int) (ot:ByteArray),n<=p.length/\a = .int .i64 tn/\o = .string ot/\i = .int .i64 n/\Hid (Ew s t p n tn ot/\Below w.heap.size w wr/\Below W2.heap.size W2 wr)) (fun _ _ i _=>p.length - (intOf i).toNat)
 case atStart=>exact ⟨0,t,⟨#[]⟩,by omega,rfl,rfl,rfl,HST.out,HB2.out,Pe _ _⟩
 case round =>
  obtain ⟨n,tn,ot,hnl,rfl,rfl,rfl,hh⟩:=hrel;obtain ⟨wo,rfl⟩:∃wo:World,wo=wr:=⟨_,rfl⟩;have HA:=zh hh.out.1;have HB:=zh hh.out.2.1;have Cy:=zh hh.out.2.2;have xK:=zh (zE UO hh.out.2.2);clear hh HST
  by_cases hlt:n<p.length
  ·obtain ⟨pb,po,rfl,pc⟩:=(HI.out.below HB).UD hlt
   have hoz:=HA.out.2.2;obtain ⟨i0,i1⟩:=HA.out.rng;obtain ⟨m,rfl⟩:=AAT i0;have hm:m<s.length:=by omega
   have M7:Hid (AB s (m:Int)=s[m]):=zT hm;have KG:=zh (fun k=>HA.out.idx HV qN hlt (k:=k))
   have LQ:=zh (HA.out.els HV hlt);rw[M7.out] at KG LQ;generalize p[n]=pn at *;obtain ⟨bq,oq,As,cs,Am,cm,Ym,htr,t0,t1,t2,t3,t4,t5,t6,t7,t8,t9⟩:=(HS.out.below HB).FQ hm;subst Ym;generalize s[m]=y at *;have Dv:=zh htr;have h1:(0:Int)<=(m:Int):=by omega
   have h2:(m:Int)<(s.length:Int):=by omega
   have h3:(0:Int)<=(n:Int):=by omega
   have h4:(n:Int)<(p.length:Int):=by omega
   have x0:=zb xK;have BI:=zh (zD wo (y.box As cs Am cm));have xO:Hid (BX (wo.alloc (y.box As cs Am cm)) wo.heap.size y As cs Am cm):=AAC wo _;have Ct:=zh (Dv.out.below BI);have BA:=zh (zB HB BI);have rO:=zh (zB Cy BI);clear htr i0 i1 HA;go_upto_region 9 with fail
   clear t0 t1 t2 t3 t4 t5 t6 t7 t8 t9 x0 pc;generalize wo.alloc (y.box As cs Am cm)=W4 at *;generalize wo.heap.size=qt at *;obtain ⟨b0,b1,b2,b3,b4,b5,b6,b7,b8,b9⟩:=zG xO;obtain ⟨r,hre⟩:∃r,BD (fun m:AZ=>decide (m.id=pn)) y.AA=r:=⟨_,rfl⟩
   have hcall:=JR pn y As cs Am cm W4 Ct;have hrl:=C8 (fun m:AZ=>decide (m.id=pn)) y.AA
   rw[hre] at hcall hrl KG LQ;have Gh:=zh hcall;clear hcall hre;go_wp2_with fail;refine Gh.out.mono ?_;rintro e' w5 ⟨rfl,hb5⟩;have Ap:=zh (zB BA hb5);have UU:=zh (zB rO hb5);have vW:Hid (BX w5 qt y As cs Am cm):=zE xO hb5;have IX:=zh (Ct.out.below hb5);clear hb5 Gh b0 b1 b2 b3 b4 b5 b6 b7 b8 b9;obtain ⟨b0,b1,b2,b3,b4,b5,b6,b7,b8,b9⟩:=zG vW
   by_cases hr0:r<0
   ·have z5:decide (0<=r)=false:=AAU (by omega)
    have z6:(if r<0 then 0 else r)=0:=AAG hr0
    rw[z5,z6];obtain ⟨g1,g2,g3⟩:=LQ.out hr0;have HG:=zh g1;have HI6:=zh g2;clear hr0 hrl z5 z6 KG LQ g1 g2;obtain ⟨D,hD⟩:∃D,D5 pn=D:=⟨_,rfl⟩;have HIT:=zh (N8 pn HI6 w5 (ML.out.below Ap));rw[hD] at HIT HG g3;have e1:(⟨#[91]⟩:ByteArray).size=1:=rfl;have e2:(⟨#[93]⟩:ByteArray).size=1:=rfl;have n1:¬ 9223372036854775807<(⟨#[91]⟩:ByteArray).size+D.size:=by omega
    have n2:¬ 9223372036854775807<(⟨#[91]⟩++D:ByteArray).size+(⟨#[93]⟩:ByteArray).size:=by rw[AAa];omega
    have n3:¬ 9223372036854775807<ot.size+(⟨#[91]⟩++D++⟨#[93]⟩:ByteArray).size:=by rw[AAa,AAa];omega
    clear hD e1 e2;go_wp2_with fail;refine HIT.out.mono ?_;rintro e' w6 ⟨rfl,hb6⟩;have BN:=zh (zB Ap hb6);have fU:=zh (zB UU hb6);have AAg:Hid (BX w6 qt y As cs Am cm):=zE vW hb6;clear hb6 b0 b1 b2 b3 b4 b5 b6 b7 b8 b9;obtain ⟨b0,b1,b2,b3,b4,b5,b6,b7,b8,b9⟩:=zG AAg;go_wp2;go_roundw
    case rel=>exact ⟨n+1,y.elem,_,by omega,rfl,rfl,by go_num,HG.out,BN.out,fU.out⟩
    case measure=>simp[intOf];omega
   ·obtain ⟨k,rfl⟩:=AAT (show 0<=r by omega)
    have hk:k<y.AA.length:=by omega
    have z5:decide (0<=(k:Int))=true:=AAX (by omega)
    have z6:(if (k:Int)<0 then 0 else (k:Int))=k:=Pd hr0
    rw[z5,z6];obtain ⟨g1,g2⟩:=KG.out k rfl hk;have HG:=zh g1;clear hr0 hrl z5 z6 KG LQ g1;obtain ⟨mb,mo,M1,m1,M2,m2,M3,m3,hM,_,d0,d1,d2,d3,d4,d5,d6,d7,d8,d9,Jr,Jq,Jp⟩:=IX.out.AA.Gw hk;clear d0 d3 d4 d5 d6 d7 d8 d9 Jr Jq Jp;subst hM;generalize y.AA[k]=mm at *;have g1:(0:Int)<=(k:Int):=by omega
    have g3:(k:Int)<(y.AA.length:Int):=by omega
    have e1:(⟨#[46]⟩:ByteArray).size=1:=rfl;have n1:¬ 9223372036854775807<(⟨#[46]⟩:ByteArray).size+mm.name.size:=by omega
    have n3:¬ 9223372036854775807<ot.size+(⟨#[46]⟩++mm.name:ByteArray).size:=by rw[AAa];omega
    clear e1;go_wp2;go_roundw
    case rel=>exact ⟨n+1,mm.type,_,by omega,rfl,rfl,by go_num,HG.out,Ap.out,UU.out⟩
    case measure=>simp[intOf];omega
  ·have Hy:=zh (HA.out.end_ (by omega))
   have h4:¬ (n:Int)<(p.length:Int):=by omega
   go_wp2
   go_ret2
   exact ⟨by rw[Ji.out,IJ.out.1,<-Hy.out];rfl,HB.out⟩
theorem Qf {α:Type} {k bytes:Nat} {at_:α->List Value->Prop} (w:World) (T:TypeId) (x y:α) {cx cy:List Value} (hx:at_ x cx) (hy:at_ y cy) (lx:cx.length=k) (hl:DU bytes 2) :
  Aa k bytes at_ (w.alloc (.cells (cx++cy).toArray T)) (some ⟨w.heap.size,0,none⟩) [x,y]:=by
 refine ⟨hl,fun _=>⟨_,_,rfl,fun i z hz=>?_⟩⟩
 have hr:=zR w (cx++cy) T
 match i,hz with
 | 0,hz =>
  obtain rfl:x=z:=by simpa using hz
  refine ⟨cx,hx,fun j u hj=>?_⟩
  have:=hr j u (by rw[ABD (AAi.1 hj).1];exact hj)
  simpa using this
 | 1,hz =>
  obtain rfl:y=z:=by simpa using hz
  refine ⟨cy,hy,fun j u hj=>?_⟩
  have:=hr (k+j) u (by rw[ABB (by omega),lx];rw[show k+j - k=j by omega];exact hj)
  simpa using this
 | n+2,hz=>simp at hz
theorem ja {α:Type} {k bytes:Nat} {at_:α->List Value->Prop} (w:World) (T:TypeId) (x:α) {cx:List Value} (hx:at_ x cx) (hl:DU bytes 1) :
  Aa k bytes at_ (w.alloc (.cells cx.toArray T)) (some ⟨w.heap.size,0,none⟩) [x]:=by
 refine ⟨hl,fun _=>⟨_,_,rfl,fun i z hz=>?_⟩⟩
 have hr:=zR w cx T
 match i,hz with
 | 0,hz =>
  obtain rfl:x=z:=by simpa using hz
  exact ⟨cx,hx,by simpa using hr⟩
 | n+1,hz=>simp at hz
theorem MX (w:World) {m:AZ} (h:Db m.name) (e:m.dflt=zeroV):m.At w (m.cs none 0 none 0 none 0) :=
 ⟨none,0,none,0,none,0,rfl,h,by rw[e];exact Xc _⟩
theorem EU (w:World):Calls Tryz.prog 41 #[] w (lI Gr w):=by
 obtain ⟨O0,hO0⟩:∃O0:Obj,O0 = .cells #[.slice (some ⟨w.heap.size+1+1,0,none⟩) 3 3] 31:=⟨_,rfl⟩
 have HT:Hid (CQ (((w.alloc (.cells #[.slice (some ⟨w.heap.size+1+1,0,none⟩) 3 3] 31)).alloc (.cells (fw.cs none 0 none 0 none 0++fu.cs none 0 none 0 none 0).toArray 118)).alloc (.cells (([⟨X7,none,0,some ⟨w.heap.size+1,0,none⟩,2⟩,⟨aj,none,0,none,0⟩,⟨ai,none,0,none,0⟩]:List KN).flatMap KN.cells).toArray 87)) (some ⟨w.heap.size+1+1,0,none⟩) Gr):=by
  have HM:FL ((w.alloc (.cells #[.slice (some ⟨w.heap.size+1+1,0,none⟩) 3 3] 31)).alloc (.cells (fw.cs none 0 none 0 none 0++fu.cs none 0 none 0 none 0).toArray 118)) (some ⟨w.heap.size+1,0,none⟩) [fw,fu]:=by
   have h:=Qf (bytes:=160) (w.alloc (.cells #[.slice (some ⟨w.heap.size+1+1,0,none⟩) 3 3] 31)) 118 fw fu (at_:=fun x cs=>AZ.At ((w.alloc (.cells #[.slice (some ⟨w.heap.size+1+1,0,none⟩) 3 3] 31)).alloc (.cells (fw.cs none 0 none 0 none 0++fu.cs none 0 none 0 none 0).toArray 118)) x cs) (k:=13) (MX _ (JO (by decide)) rfl) (MX _ (JO (by decide)) rfl) rfl (by unfold DU;decide)
   rwa [show (w.alloc (.cells #[.slice (some ⟨w.heap.size+1+1,0,none⟩) 3 3] 31)).heap.size=w.heap.size+1 by simp] at h
  have HT0:=iA ((w.alloc (.cells #[.slice (some ⟨w.heap.size+1+1,0,none⟩) 3 3] 31)).alloc (.cells (fw.cs none 0 none 0 none 0++fu.cs none 0 none 0 none 0).toArray 118)) ([⟨X7,none,0,some ⟨w.heap.size+1,0,none⟩,2⟩,⟨aj,none,0,none,0⟩,⟨ai,none,0,none,0⟩]:List KN)
  have hz2:((w.alloc (.cells #[.slice (some ⟨w.heap.size+1+1,0,none⟩) 3 3] 31)).alloc (.cells (fw.cs none 0 none 0 none 0++fu.cs none 0 none 0 none 0).toArray 118)).heap.size=w.heap.size+1+1:=by simp
  rw[hz2] at HT0;refine HT0 (fun x hx=>?_) (by simp)
  simp only[AAr,List.mem_nil_iff,or_false] at hx
  rcases hx with rfl|rfl|rfl
  ·exact Na (JO (show X7.name.size<=100 by decide)) rfl HM
  ·exact Dg Gp rfl rfl
  ·exact Dg Gp rfl rfl
 have HB:=zh (zB (zB (zD w (.cells #[.slice (some ⟨w.heap.size+1+1,0,none⟩) 3 3] 31)) (zD _ (.cells (fw.cs none 0 none 0 none 0++fu.cs none 0 none 0 none 0).toArray 118))) (zD _ (.cells (([⟨X7,none,0,some ⟨w.heap.size+1,0,none⟩,2⟩,⟨aj,none,0,none,0⟩,⟨ai,none,0,none,0⟩]:List KN).flatMap KN.cells).toArray 87)))
 have HC:Hid ((((w.alloc (.cells #[.slice (some ⟨w.heap.size+1+1,0,none⟩) 3 3] 31)).alloc (.cells (fw.cs none 0 none 0 none 0++fu.cs none 0 none 0 none 0).toArray 118)).alloc (.cells (([⟨X7,none,0,some ⟨w.heap.size+1,0,none⟩,2⟩,⟨aj,none,0,none,0⟩,⟨ai,none,0,none,0⟩]:List KN).flatMap KN.cells).toArray 87)).cell? ⟨w.heap.size,0,none⟩=some (.slice (some ⟨w.heap.size+1+1,0,none⟩) 3 3)):=by
  show _=_
  rw[AAE _ _ _ _ _ _ (zE (zE (AAC w _) (zD _ _)) (zD _ _))];rfl
 clear hO0 O0
 go_enter Tryz.func41,Tryz.ntmps41
 go_wp2
 have hcf:=HC.out;exact bodyPost_ret (v := .agg #[.slice (some ⟨w.heap.size+1+1,0,none⟩) 3 3]) (by
  simp only[results,Tryz.results41];go_simp) rfl ⟨some ⟨w.heap.size+1+1,0,none⟩,3,rfl,HT.out,HB.out⟩
end Go.Proofs.YthkkllmmbefedaaGreatDoor



