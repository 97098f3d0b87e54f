/-
  Walks: value.At: its error.
-/
import Derived.Test.YthkkllmmbefedaaGreatDoorQVC1
import Derived.Test.YthkkllmmbefedaaGreatDoorQGA7
import Derived.Test.YthkkllmmbefedaaGreatDoorQGE0
import Derived.Test.YthkkllmmbefedaaGreatDoorQGA8
namespace Go.Proofs.YthkkllmmbefedaaGreatDoor
open Go.RowKit
set_option maxHeartbeats 16000000
set_option maxRecDepth 100000
structure AtS (s:List TyD) (A:zo) (c:Nat) (w:World) (t:Int) (v:Val) (p:List Int) (n:Nat) (tn:Int) (x:Val) (F1:zo) (f1:Nat) (F2:zo) (f2:Nat) (F3:zo) (f3:Nat) (wr:World):Prop where
 sb:wr.heap[w.heap.size]? = some (.cells #[.slice A s.length c] 31)
 vb:wr.heap[w.heap.size+1]? = some (x.box F1 f1 F2 f2 F3 f3)
 rb:wr.heap[w.heap.size+2]? = some zO
 bel:Below w.heap.size w wr
 val:ValR w x F1 F2 F3
 fit:fitV s false tn x=true
 at_:atV s t v p=atV s tn x (p.drop n)
theorem AtS.below {s:List TyD} {A:zo} {c:Nat} {w:World} {t:Int} {v:Val} {p:List Int} {n:Nat} {tn:Int} {x:Val} {F1:zo} {f1:Nat} {F2:zo} {f2:Nat} {F3:zo} {f3:Nat} {wr w':World} (h:AtS s A c w t v p n tn x F1 f1 F2 f2 F3 f3 wr) (hb:Below wr.heap.size wr w'):AtS s A c w t v p n tn x F1 f1 F2 f2 F3 f3 w' :=
 ⟨zE h.sb hb,zE h.vb hb,zE h.rb hb,zB h.bel hb,h.val,h.fit,h.at_⟩
theorem set8_other {w:World} {p q:Nat} (h:q≠p) (v0 v1 v2 v3 v4 v5 v6 v7:Value):(set8 w p v0 v1 v2 v3 v4 v5 v6 v7).heap[q]? = w.heap[q]? := by
 rw[heap_setCell_other _ _ _ _ h,heap_setCell_other _ _ _ _ h,heap_setCell_other _ _ _ _ h,heap_setCell_other _ _ _ _ h,heap_setCell_other _ _ _ _ h,heap_setCell_other _ _ _ _ h,heap_setCell_other _ _ _ _ h,heap_setCell_other _ _ _ _ h]
theorem AtS.next {s:List TyD} {A:zo} {c:Nat} {w:World} {t:Int} {v:Val} {p:List Int} {n:Nat} {tn:Int} {x:Val} {F1:zo} {f1:Nat} {F2:zo} {f2:Nat} {F3:zo} {f3:Nat} {wr:World} (h:AtS s A c w t v p n tn x F1 f1 F2 f2 F3 f3 wr) {u:Int} {y:Val} {E1:zo} {e1:Nat} {E2:zo} {e2:Nat} {E3:zo} {e3:Nat} (hr:ValR w y E1 E2 E3) (hf:fitV s false u y=true) (ha:atV s t v p=atV s u y (p.drop (n+1))) :
  AtS s A c w t v p (n+1) u y E1 e1 E2 e2 E3 e3 (set8 wr (w.heap.size+1) (.int .i64 y.kind) (.bool y.bool) (.int .i64 y.int) (.string y.str) (.int .i64 y.id) (.slice E1 y.keys.length e1) (.slice E2 y.items.length e2) (.slice E3 y.rest.length e3)) :=
 ⟨by rw[set8_other (by omega)];exact h.sb,box8 h.vb _ _ _ _ _ _ _ _,by rw[set8_other (by omega)];exact h.rb,set8_below h.bel (by omega) _ _ _ _ _ _ _ _,hr,hf,ha⟩
def VatP (s:List TyD) (t:Int) (v:Val) (p:List Int) (w:World) (e:Ending) (w':World):Prop :=
 ∃ (y:Val) (F1:zo) (f1:Nat) (F2:zo) (f2:Nat) (F3:zo) (f3:Nat) (u:Int),e = .returned (.tuple #[y.v F1 f1 F2 f2 F3 f3,.int .i64 u,.int .i64 (atE s t v p)])∧Below w.heap.size w w'
theorem vat_err {s:List TyD} {t:Int} {v:Val} {p:List Int} {w W5:World} {q:Nat} {n e:Int} (hz:W5.heap[q]? = some zO) (hb:Below w.heap.size w W5) (hq:w.heap.size≤q) (h:atE s t v p=e) :
  (set8 W5 q (.int .i64 0) (.bool false) (.int .i64 0) (.string ⟨#[]⟩) (.int .i64 0) nilS nilS nilS).heap[q]? = some zO∧VatP s t v p w (.returned (.tuple #[zeroV.v none 0 none 0 none 0,.int .i64 n,.int .i64 e])) (set8 W5 q (.int .i64 0) (.bool false) (.int .i64 0) (.string ⟨#[]⟩) (.int .i64 0) nilS nilS nilS) :=
 ⟨box8 hz _ _ _ _ _ _ _ _,zeroV,none,0,none,0,none,0,n,by rw[h],set8_below hb hq _ _ _ _ _ _ _ _⟩
theorem atE_bad {s:List TyD} {t:Int} {v:Val} {p:List Int} (h:fitV s false t v=false):atE s t v p=1:=by unfold atE;rw[if_pos h]
theorem atE_no {s:List TyD} {t:Int} {v:Val} {p:List Int} (h:fitV s false t v=true) (ha:atV s t v p=none):atE s t v p=4:=by
 unfold atE;rw[if_neg (by rw[h];simp),ha]
theorem atE_ok {s:List TyD} {t:Int} {v:Val} {p:List Int} (h:fitV s false t v=true) {q:Val×Int} (ha:atV s t v p=some q):atE s t v p=0:=by
 unfold atE;rw[if_neg (by rw[h];simp),ha]
theorem box_new3 (w:World) (o o2 o3:Obj):(((w.alloc o).alloc o2).alloc o3).heap[w.heap.size]? = some o∧(((w.alloc o).alloc o2).alloc o3).heap[w.heap.size+1]? = some o2∧(((w.alloc o).alloc o2).alloc o3).heap[w.heap.size+2]? = some o3∧Below w.heap.size w (((w.alloc o).alloc o2).alloc o3):=by
 obtain ⟨h1,h2,h3⟩:=vc_box_new w o o2;refine ⟨tmp_al h1 o3,tmp_al h2 o3,?_,zB (zI w o o2) (zD _ _)⟩;have h:=heap_alloc_new ((w.alloc o).alloc o2) o3
 rwa [h3] at h
theorem vat_any {s:List TyD} (A:zo) (c:Nat) (hv:zQ s=0) (hn:Num64 s) (t:Int) (v:Val) (A1:zo) (c1:Nat) (A2:zo) (c2:Nat) (A3:zo) (c3:Nat) (p:List Int) (B:zo) (d:Nat) (hp:p.length≤1000000) (w:World) (hs:TysR w A s) (hr:ValR w v A1 A2 A3) (hi:IntsR w B p) :
  Calls Tryz.prog 57 #[.agg #[.slice A s.length c],.int .i64 t,v.v A1 c1 A2 c2 A3 c3,.slice B p.length d] w (VatP s t v p w):=by
 have HS:=zh hs;have HR:=zh hr;have HI:=zh hi;have HV:=zh hv;have HN:=zh hn;have hln:=hs.1.lt (by omega)
 have HX0:=zh (box_new3 w (.cells #[.slice A s.length c] 31) (v.box A1 c1 A2 c2 A3 c3) zO);clear hs hr hi hv hn
 go_enter Tryz.func57,Tryz.ntmps57
 go_upto_region 1 with fail
 generalize ((w.alloc (.cells #[.slice A s.length c] 31)).alloc (v.box A1 c1 A2 c2 A3 c3)).alloc zO=W1 at *;obtain ⟨v0,v1,v2,v3,v4,v5,v6,v7⟩:=zF HX0.out.2.1;have x0:=zb HX0.out.1;go_wp2_with fail;refine (vl_Fits_any A c HV.out HN.out t v A1 c1 A2 c2 A3 c3 _ (HS.out.below HX0.out.2.2.2) (HR.out.below HX0.out.2.2.2)).mono ?_;rintro e w2 ⟨rfl,hb2⟩;have HB2:=zh (zB HX0.out.2.2.2 hb2)
 have HXS2:=zh (zE HX0.out.1 hb2);have HXV2:=zh (zE HX0.out.2.1 hb2);have HXR2:=zh (zE HX0.out.2.2.1 hb2);clear v0 v1 v2 v3 v4 v5 v6 v7 x0 hb2 HX0
 cases hf:fitV s false t v with
 | false =>
  have HE:=zh (atE_bad (p:=p) hf);clear hf;obtain ⟨⟨z0,z1,z2,z3,z4,z5,z6,z7⟩,y0,y1,y2,y3,y4,y5,y6,y7⟩:=zK HXR2.out;go_wp2;have HK:=zh (vat_err (n:=0) HXR2.out HB2.out (q:=w.heap.size+2) (by omega) HE.out)
  clear z0 z1 z2 z3 z4 z5 z6 z7 y0 y1 y2 y3 y4 y5 y6 y7;unfold Go.Proofs.YthkkllmmbefedaaGreatDoor.set8 Go.Proofs.YthkkllmmbefedaaGreatDoor.set5 at HK;generalize World.setCell (World.setCell (World.setCell (World.setCell (World.setCell (World.setCell (World.setCell (World.setCell w2 _ _) _ _) _ _) _ _) _ _) _ _) _ _) _ _=W9 at *;obtain ⟨⟨z0,z1,z2,z3,z4,z5,z6,z7⟩,_⟩:=zK HK.out.1
  exact bodyPost_ret (v := .tuple #[zeroV.v none 0 none 0 none 0,.int .i64 0,.int .i64 1]) (by simp[results,Tryz.results57,go_sem,z0,z1,z2,z3,z4,z5,z6,z7];exact zres) rfl HK.out.2
 | true =>
  have HF:=zh hf;have HST:Hid (AtS s A c w t v p 0 t v A1 c1 A2 c2 A3 c3 w2):=⟨HXS2.out,HXV2.out,HXR2.out,HB2.out,HR.out,hf,rfl⟩;clear hf HXS2 HXV2 HXR2 HB2;go_wp2
  go_loopw [1,26] (fun a i wr=>∃ (n:Nat) (tn:Int) (x:Val) (F1:zo) (f1:Nat) (F2:zo) (f2:Nat) (F3:zo) (f3:Nat),n≤p.length∧a = .int .i64 tn∧i = .int .i64 n∧Hid (AtS s A c w t v p n tn x F1 f1 F2 f2 F3 f3 wr)) (fun _ i _=>p.length - (intOf i).toNat)
  case atStart=>exact ⟨0,t,v,A1,c1,A2,c2,A3,c3,by omega,rfl,rfl,HST.out⟩
  case round =>
   obtain ⟨n,tn,x,F1,f1,F2,f2,F3,f3,hnl,rfl,rfl,hh⟩:=hrel;obtain ⟨wo,rfl⟩:∃wo:World,wo=wr:=⟨_,rfl⟩;have HA:=zh hh.out;clear hh HST
   by_cases hlt:n<p.length
   ·obtain ⟨pb,po,rfl,pc⟩:=(HI.out.below HA.out.bel).at1 hlt
    have HDR:Hid (p.drop n=p[n]::p.drop (n+1)):=List.drop_eq_getElem_cons hlt;generalize p[n]=pn at *;obtain ⟨i0,i1,i2⟩:=fit_rng HA.out.fit;obtain ⟨m,rfl⟩:=Int.eq_ofNat_of_zero_le i0;have hm:m<s.length:=by omega
    have HATE:Hid (atV s t v p=atV s (m:Int) x (pn::p.drop (n+1))):=by show _=_;rw[HA.out.at_,HDR.out]
    have HFX:=zh HA.out.fit;have HTE:Hid (tyAt s (m:Int)=s[m]):=zT hm;obtain ⟨bq,oq,As,cs,Am,cm,hAA,htr,t0,t1,t2,t3,t4,t5,t6,t7,t8,t9⟩:=(HS.out.below HA.out.bel).at10 hm;subst hAA;have HXS:Hid (s[m]=tyAt s (m:Int)):=HTE.out.symm;generalize s[m]=y at *;have HTR:=zh htr;have h1:(0:Int)≤(m:Int):=by omega
    have h2:(m:Int)<(s.length:Int):=by omega
    have h3:(0:Int)≤(n:Int):=by omega
    have h4:(n:Int)<(p.length:Int):=by omega
    have x0:=zb HA.out.sb;have HBX:=zh (zD wo (y.box As cs Am cm));have HTB:Hid (TBox (wo.alloc (y.box As cs Am cm)) wo.heap.size y As cs Am cm):=heap_alloc_new wo _;have HA4:=zh (HA.out.below HBX.out);have HTR4:=zh (HTR.out.below HBX.out);clear htr i0 i1 i2 HDR;go_upto_region 7 with fail
    clear t0 t1 t2 t3 t4 t5 t6 t7 t8 t9 x0 pc;generalize wo.alloc (y.box As cs Am cm)=W4 at *;generalize wo.heap.size=qt at *;obtain ⟨b0,b1,b2,b3,b4,b5,b6,b7,b8,b9⟩:=zG HTB.out
    by_cases hk5:y.kind=5
    ·have q5:(y.kind==5)=true:=by simp[hk5]
     have q6:(y.kind==6)=false:=by simp[hk5]
     have HATK:=zh (at_rec HFX.out (by rw[HTE.out];exact hk5) pn (p.drop (n+1)))
     rw[HTE.out] at HATK;clear hk5;obtain ⟨r,hre⟩:∃r,idxD (fun m:MemD=>decide (m.id=pn)) y.mems=r:=⟨_,rfl⟩
     have hcall:=scMem_any pn y As cs Am cm W4 HTR4.out;have hrl:=idxD_lt (fun m:MemD=>decide (m.id=pn)) y.mems
     rw[hre] at hcall hrl HATK;have HCL:=zh hcall;clear hcall hre;go_wp2_with fail;refine HCL.out.mono ?_;rintro e' w5 ⟨rfl,hb5⟩;have HA5:=zh (HA4.out.below hb5);have HTB5:Hid (TBox w5 qt y As cs Am cm):=zE HTB.out hb5;have HTR5:=zh (HTR4.out.below hb5);clear hb5 HCL b0 b1 b2 b3 b4 b5 b6 b7 b8 b9;obtain ⟨b0,b1,b2,b3,b4,b5,b6,b7,b8,b9⟩:=zG HTB5.out
     by_cases hr0:r<0
     ·have HE:=zh (atE_no HF.out (HATE.out.trans (HATK.out.2.1 hr0)))
      have z5:decide (0≤r)=false:=decide_eq_false (by omega)
      have z6:(if r<0 then 0 else r)=0:=if_pos hr0
      rw[z5,z6];clear hr0 hrl z5 z6 HATK;obtain ⟨⟨z0,z1,z2,z3,z4,z5,z6,z7⟩,y0,y1,y2,y3,y4,y5,y6,y7⟩:=zK HA5.out.rb;go_wp2;have HK:=zh (vat_err (n:=0) HA5.out.rb HA5.out.bel (q:=w.heap.size+2) (by omega) HE.out)
      clear z0 z1 z2 z3 z4 z5 z6 z7 y0 y1 y2 y3 y4 y5 y6 y7;unfold Go.Proofs.YthkkllmmbefedaaGreatDoor.set8 Go.Proofs.YthkkllmmbefedaaGreatDoor.set5 at HK;generalize World.setCell (World.setCell (World.setCell (World.setCell (World.setCell (World.setCell (World.setCell (World.setCell w5 _ _) _ _) _ _) _ _) _ _) _ _) _ _) _ _=W9 at *;obtain ⟨⟨z0,z1,z2,z3,z4,z5,z6,z7⟩,_⟩:=zK HK.out.1
      exact bodyPost_ret (v := .tuple #[zeroV.v none 0 none 0 none 0,.int .i64 0,.int .i64 4]) (by simp[results,Tryz.results57,go_sem,z0,z1,z2,z3,z4,z5,z6,z7];exact zres) rfl HK.out.2
     obtain ⟨k,rfl⟩:=Int.eq_ofNat_of_zero_le (show 0≤r by omega)
     have hk:k<y.mems.length:=by omega
     have z5:decide (0≤(k:Int))=true:=decide_eq_true (by omega)
     have z6:(if (k:Int)<0 then 0 else (k:Int))=k:=if_neg hr0
     rw[z5,z6];clear hr0 hrl z5 z6;have hk2:k<x.items.length:=by rw[HATK.out.1];exact hk
     have HNX:=zh (HATK.out.2.2 k rfl hk hk2);obtain ⟨mb,mo,M1,m1,M2,m2,M3,m3,hM,_,d0,d1,d2,d3,d4,d5,d6,d7,d8,d9,d10,d11,d12⟩:=HTR5.out.mems.at13 hk;clear d0 d1 d3 d4 d5 d6 d7 d8 d9 d10 d11 d12 HATK;subst hM;have g1:(0:Int)≤(k:Int):=by omega
     have g2:(k:Int)<(y.mems.length:Int):=by omega
     have g3:¬ (k:Int)<0:=by omega
     have g4:(k:Int)<(x.items.length:Int):=by omega
     have g5:¬ (k:Int) ≥ (x.items.length:Int):=by omega
     obtain ⟨ib,io,E1,e1,E2,e2,E3,e3,hI,hir,a0,a1,a2,a3,a4,a5,a6,a7⟩:=HA5.out.val.items.at8 hk2;subst hI;have HNN:=zh (AtS.next HA5.out hir HNX.out.2 (HATE.out.trans HNX.out.1) (e1:=e1) (e2:=e2) (e3:=e3));replace a0:=zA HA5.out.bel a0;replace a1:=zA HA5.out.bel a1;replace a2:=zA HA5.out.bel a2;replace a3:=zA HA5.out.bel a3;replace a4:=zA HA5.out.bel a4;replace a5:=zA HA5.out.bel a5
     replace a6:=zA HA5.out.bel a6;replace a7:=zA HA5.out.bel a7;obtain ⟨⟨v0,v1,v2,v3,v4,v5,v6,v7⟩,y0,y1,y2,y3,y4,y5,y6,y7⟩:=zK HA5.out.vb;clear hir;go_wp2;clear a0 a1 a2 a3 a4 a5 a6 a7 v0 v1 v2 v3 v4 v5 v6 v7 y0 y1 y2 y3 y4 y5 y6 y7;unfold Go.Proofs.YthkkllmmbefedaaGreatDoor.set8 Go.Proofs.YthkkllmmbefedaaGreatDoor.set5 at HNN
     generalize World.setCell (World.setCell (World.setCell (World.setCell (World.setCell (World.setCell (World.setCell (World.setCell w5 _ _) _ _) _ _) _ _) _ _) _ _) _ _) _ _=W9 at *;go_roundw
     case rel=>exact ⟨n+1,(y.mems[k]).type,x.items[k],E1,e1,E2,e2,E3,e3,by omega,rfl,by go_num,HNN.out⟩
     case measure=>simp[intOf];omega
    by_cases hk6:y.kind=6
    ·have q5:(y.kind==5)=false:=by simp[hk6]
     have q6:(y.kind==6)=true:=by simp[hk6]
     have HATK:=zh (at_uni HFX.out (by rw[HTE.out];exact hk6) pn (p.drop (n+1)))
     rw[HTE.out] at HATK;clear hk5 hk6;obtain ⟨r,hre⟩:∃r,idxD (fun m:MemD=>decide (m.id=pn)) y.mems=r:=⟨_,rfl⟩
     have hcall:=scMem_any pn y As cs Am cm W4 HTR4.out;have hrl:=idxD_lt (fun m:MemD=>decide (m.id=pn)) y.mems
     rw[hre] at hcall hrl HATK;have HCL:=zh hcall;clear hcall hre;go_wp2_with fail;refine HCL.out.mono ?_;rintro e' w5 ⟨rfl,hb5⟩;have HA5:=zh (HA4.out.below hb5);have HTB5:Hid (TBox w5 qt y As cs Am cm):=zE HTB.out hb5;have HTR5:=zh (HTR4.out.below hb5);clear hb5 HCL b0 b1 b2 b3 b4 b5 b6 b7 b8 b9;obtain ⟨b0,b1,b2,b3,b4,b5,b6,b7,b8,b9⟩:=zG HTB5.out
     by_cases hr0:r<0
     ·have HE:=zh (atE_no HF.out (HATE.out.trans (HATK.out.1 hr0)))
      have z5:decide (0≤r)=false:=decide_eq_false (by omega)
      have z6:(if r<0 then 0 else r)=0:=if_pos hr0
      rw[z5,z6];clear hr0 hrl z5 z6 HATK;obtain ⟨⟨z0,z1,z2,z3,z4,z5,z6,z7⟩,y0,y1,y2,y3,y4,y5,y6,y7⟩:=zK HA5.out.rb;go_wp2;have HK:=zh (vat_err (n:=0) HA5.out.rb HA5.out.bel (q:=w.heap.size+2) (by omega) HE.out)
      clear z0 z1 z2 z3 z4 z5 z6 z7 y0 y1 y2 y3 y4 y5 y6 y7;unfold Go.Proofs.YthkkllmmbefedaaGreatDoor.set8 Go.Proofs.YthkkllmmbefedaaGreatDoor.set5 at HK;generalize World.setCell (World.setCell (World.setCell (World.setCell (World.setCell (World.setCell (World.setCell (World.setCell w5 _ _) _ _) _ _) _ _) _ _) _ _) _ _) _ _=W9 at *;obtain ⟨⟨z0,z1,z2,z3,z4,z5,z6,z7⟩,_⟩:=zK HK.out.1
      exact bodyPost_ret (v := .tuple #[zeroV.v none 0 none 0 none 0,.int .i64 0,.int .i64 4]) (by simp[results,Tryz.results57,go_sem,z0,z1,z2,z3,z4,z5,z6,z7];exact zres) rfl HK.out.2
     obtain ⟨k,rfl⟩:=Int.eq_ofNat_of_zero_le (show 0≤r by omega)
     have hk:k<y.mems.length:=by omega
     have z5:decide (0≤(k:Int))=true:=decide_eq_true (by omega)
     have z6:(if (k:Int)<0 then 0 else (k:Int))=k:=if_neg hr0
     rw[z5,z6];clear hr0 hrl z5 z6
     by_cases hpi:pn=x.id
     case neg =>
      have HE:=zh (atE_no HF.out (HATE.out.trans (HATK.out.2.1 hpi)));have w4:w5.cell? ⟨w.heap.size+1,4,none⟩=some (.int .i64 x.id):=(zF HA5.out.vb).2.2.2.2.1;have q7:(pn != x.id)=true:=by simp[hpi]
      clear hpi HATK;obtain ⟨⟨z0,z1,z2,z3,z4,z5,z6,z7⟩,y0,y1,y2,y3,y4,y5,y6,y7⟩:=zK HA5.out.rb;go_wp2;have HK:=zh (vat_err (n:=0) HA5.out.rb HA5.out.bel (q:=w.heap.size+2) (by omega) HE.out)
      clear z0 z1 z2 z3 z4 z5 z6 z7 y0 y1 y2 y3 y4 y5 y6 y7;unfold Go.Proofs.YthkkllmmbefedaaGreatDoor.set8 Go.Proofs.YthkkllmmbefedaaGreatDoor.set5 at HK;generalize World.setCell (World.setCell (World.setCell (World.setCell (World.setCell (World.setCell (World.setCell (World.setCell w5 _ _) _ _) _ _) _ _) _ _) _ _) _ _) _ _=W9 at *;obtain ⟨⟨z0,z1,z2,z3,z4,z5,z6,z7⟩,_⟩:=zK HK.out.1
      exact bodyPost_ret (v := .tuple #[zeroV.v none 0 none 0 none 0,.int .i64 0,.int .i64 4]) (by simp[results,Tryz.results57,go_sem,z0,z1,z2,z3,z4,z5,z6,z7];exact zres) rfl HK.out.2
     obtain ⟨hk1,hk2,hnx⟩:=HATK.out.2.2 k rfl hpi;have HNX:=zh hnx;have q7:(pn != x.id)=false:=by simp[hpi]
     obtain ⟨mb,mo,M1,m1,M2,m2,M3,m3,hM,_,d0,d1,d2,d3,d4,d5,d6,d7,d8,d9,d10,d11,d12⟩:=HTR5.out.mems.at13 hk;clear d0 d1 d3 d4 d5 d6 d7 d8 d9 d10 d11 d12 HATK hnx hpi;subst hM;have g1:(0:Int)≤(k:Int):=by omega
     have g2:(k:Int)<(y.mems.length:Int):=by omega
     have g4:(0:Int)<(x.items.length:Int):=by omega
     have g5:¬ (0:Int) ≥ (x.items.length:Int):=by omega
     have g6:¬ (x.items.length:Int)≤0:=by omega
     have g7:¬ x.items=[]:=fun e=>by rw[e] at hk2;exact absurd hk2 (by simp)
     obtain ⟨ib,io,E1,e1,E2,e2,E3,e3,hI,hir,a0,a1,a2,a3,a4,a5,a6,a7⟩:=HA5.out.val.items.at8 hk2;subst hI;have HNN:=zh (AtS.next HA5.out hir HNX.out.2 (HATE.out.trans HNX.out.1) (e1:=e1) (e2:=e2) (e3:=e3));replace a0:=zA HA5.out.bel a0;replace a1:=zA HA5.out.bel a1;replace a2:=zA HA5.out.bel a2;replace a3:=zA HA5.out.bel a3;replace a4:=zA HA5.out.bel a4;replace a5:=zA HA5.out.bel a5
     replace a6:=zA HA5.out.bel a6;replace a7:=zA HA5.out.bel a7;obtain ⟨⟨v0,v1,v2,v3,v4,v5,v6,v7⟩,y0,y1,y2,y3,y4,y5,y6,y7⟩:=zK HA5.out.vb;clear hir;simp only[Nat.zero_mul,Nat.add_zero] at a0 a1 a2 a3 a4 a5 a6 a7;go_wp2;clear a0 a1 a2 a3 a4 a5 a6 a7 v0 v1 v2 v3 v4 v5 v6 v7 y0 y1 y2 y3 y4 y5 y6 y7;unfold Go.Proofs.YthkkllmmbefedaaGreatDoor.set8 Go.Proofs.YthkkllmmbefedaaGreatDoor.set5 at HNN
     generalize World.setCell (World.setCell (World.setCell (World.setCell (World.setCell (World.setCell (World.setCell (World.setCell w5 _ _) _ _) _ _) _ _) _ _) _ _) _ _) _ _=W9 at *;go_roundw
     case rel=>exact ⟨n+1,(y.mems[k]).type,x.items[0],E1,e1,E2,e2,E3,e3,by omega,rfl,by go_num,HNN.out⟩
     case measure=>simp[intOf];omega
    ·have q5:(y.kind==5)=false:=by simp[hk5]
     have q6:(y.kind==6)=false:=by simp[hk6]
     have HATK:=zh (at_oth HFX.out (by rw[HTE.out];exact hk5) (by rw[HTE.out];exact hk6) pn (p.drop (n+1)))
     rw[HTE.out] at HATK;clear hk5 hk6
     by_cases hp0:pn<0
     ·have HE:=zh (atE_no HF.out (HATE.out.trans (HATK.out.1 hp0)))
      clear HATK;obtain ⟨⟨z0,z1,z2,z3,z4,z5,z6,z7⟩,y0,y1,y2,y3,y4,y5,y6,y7⟩:=zK HA4.out.rb;go_wp2;have HK:=zh (vat_err (n:=0) HA4.out.rb HA4.out.bel (q:=w.heap.size+2) (by omega) HE.out)
      clear z0 z1 z2 z3 z4 z5 z6 z7 y0 y1 y2 y3 y4 y5 y6 y7;unfold Go.Proofs.YthkkllmmbefedaaGreatDoor.set8 Go.Proofs.YthkkllmmbefedaaGreatDoor.set5 at HK;generalize World.setCell (World.setCell (World.setCell (World.setCell (World.setCell (World.setCell (World.setCell (World.setCell W4 _ _) _ _) _ _) _ _) _ _) _ _) _ _) _ _=W9 at *;obtain ⟨⟨z0,z1,z2,z3,z4,z5,z6,z7⟩,_⟩:=zK HK.out.1
      exact bodyPost_ret (v := .tuple #[zeroV.v none 0 none 0 none 0,.int .i64 0,.int .i64 4]) (by simp[results,Tryz.results57,go_sem,z0,z1,z2,z3,z4,z5,z6,z7];exact zres) rfl HK.out.2
     have w6:W4.cell? ⟨w.heap.size+1,6,none⟩=some (.slice F2 x.items.length f2):=(zF HA4.out.vb).2.2.2.2.2.2.1
     by_cases hpl:(x.items.length:Int)≤pn
     ·have HE:=zh (atE_no HF.out (HATE.out.trans (HATK.out.2.1 hpl)))
      have g5:pn ≥ (x.items.length:Int):=hpl;clear HATK hpl;obtain ⟨⟨z0,z1,z2,z3,z4,z5,z6,z7⟩,y0,y1,y2,y3,y4,y5,y6,y7⟩:=zK HA4.out.rb;go_wp2;have HK:=zh (vat_err (n:=0) HA4.out.rb HA4.out.bel (q:=w.heap.size+2) (by omega) HE.out)
      clear z0 z1 z2 z3 z4 z5 z6 z7 y0 y1 y2 y3 y4 y5 y6 y7;unfold Go.Proofs.YthkkllmmbefedaaGreatDoor.set8 Go.Proofs.YthkkllmmbefedaaGreatDoor.set5 at HK;generalize World.setCell (World.setCell (World.setCell (World.setCell (World.setCell (World.setCell (World.setCell (World.setCell W4 _ _) _ _) _ _) _ _) _ _) _ _) _ _) _ _=W9 at *;obtain ⟨⟨z0,z1,z2,z3,z4,z5,z6,z7⟩,_⟩:=zK HK.out.1
      exact bodyPost_ret (v := .tuple #[zeroV.v none 0 none 0 none 0,.int .i64 0,.int .i64 4]) (by simp[results,Tryz.results57,go_sem,z0,z1,z2,z3,z4,z5,z6,z7];exact zres) rfl HK.out.2
     clear w6;obtain ⟨k,rfl⟩:=Int.eq_ofNat_of_zero_le (show 0≤pn by omega)
     have hk2:k<x.items.length:=by omega
     have HNX:=zh (HATK.out.2.2 k rfl hk2).2;have g1:(0:Int)≤(k:Int):=by omega
     have g4:(k:Int)<(x.items.length:Int):=by omega
     have g5:¬ (k:Int) ≥ (x.items.length:Int):=by omega
     clear HATK hpl;obtain ⟨ib,io,E1,e1,E2,e2,E3,e3,hI,hir,a0,a1,a2,a3,a4,a5,a6,a7⟩:=HA4.out.val.items.at8 hk2;subst hI;have HNN:=zh (AtS.next HA4.out hir HNX.out.2 (HATE.out.trans HNX.out.1) (e1:=e1) (e2:=e2) (e3:=e3));replace a0:=zA HA4.out.bel a0;replace a1:=zA HA4.out.bel a1;replace a2:=zA HA4.out.bel a2;replace a3:=zA HA4.out.bel a3;replace a4:=zA HA4.out.bel a4;replace a5:=zA HA4.out.bel a5
     replace a6:=zA HA4.out.bel a6;replace a7:=zA HA4.out.bel a7;obtain ⟨⟨v0,v1,v2,v3,v4,v5,v6,v7⟩,y0,y1,y2,y3,y4,y5,y6,y7⟩:=zK HA4.out.vb;clear hir;go_wp2;clear a0 a1 a2 a3 a4 a5 a6 a7 v0 v1 v2 v3 v4 v5 v6 v7 y0 y1 y2 y3 y4 y5 y6 y7;unfold Go.Proofs.YthkkllmmbefedaaGreatDoor.set8 Go.Proofs.YthkkllmmbefedaaGreatDoor.set5 at HNN
     generalize World.setCell (World.setCell (World.setCell (World.setCell (World.setCell (World.setCell (World.setCell (World.setCell W4 _ _) _ _) _ _) _ _) _ _) _ _) _ _) _ _=W9 at *;go_roundw
     case rel=>exact ⟨n+1,y.elem,x.items[k],E1,e1,E2,e2,E3,e3,by omega,rfl,by go_num,HNN.out⟩
     case measure=>simp[intOf];omega
   ·have HEND:Hid (atE s t v p=0):=by
     show _=_
     refine atE_ok HF.out (q:=(x,tn)) ?_;rw[HA.out.at_,List.drop_eq_nil_of_le (by omega),atV]
    have h4:¬ (n:Int)<(p.length:Int):=by omega
    obtain ⟨v0,v1,v2,v3,v4,v5,v6,v7⟩:=zF HA.out.vb;go_wp2_with fail;refine (vcopied_any x F1 f1 F2 f2 F3 f3 _ (HA.out.val.below HA.out.bel)).mono ?_;rintro e w5 ⟨G1,g1,G2,g2,G3,g3,rfl,_,hb5⟩;have HB5:=zh (zB HA.out.bel hb5);have HXR5:=zh (zE HA.out.rb hb5);clear v0 v1 v2 v3 v4 v5 v6 v7 hb5;obtain ⟨⟨z0,z1,z2,z3,z4,z5,z6,z7⟩,y0,y1,y2,y3,y4,y5,y6,y7⟩:=zK HXR5.out;go_wp2
    have HK:=zh (box8 HXR5.out (.int .i64 x.kind) (.bool x.bool) (.int .i64 x.int) (.string x.str) (.int .i64 x.id) (.slice G1 x.keys.length g1) (.slice G2 x.items.length g2) (.slice G3 x.rest.length g3))
    have HK2:=zh (set8_below HB5.out (q:=w.heap.size+2) (by omega) (.int .i64 x.kind) (.bool x.bool) (.int .i64 x.int) (.string x.str) (.int .i64 x.id) (.slice G1 x.keys.length g1) (.slice G2 x.items.length g2) (.slice G3 x.rest.length g3))
    clear z0 z1 z2 z3 z4 z5 z6 z7 y0 y1 y2 y3 y4 y5 y6 y7;unfold Go.Proofs.YthkkllmmbefedaaGreatDoor.set8 Go.Proofs.YthkkllmmbefedaaGreatDoor.set5 at HK HK2;generalize World.setCell (World.setCell (World.setCell (World.setCell (World.setCell (World.setCell (World.setCell (World.setCell w5 _ _) _ _) _ _) _ _) _ _) _ _) _ _) _ _=W9 at *;obtain ⟨⟨z0,z1,z2,z3,z4,z5,z6,z7⟩,_⟩:=zK HK.out
    exact bodyPost_ret (v := .tuple #[x.v G1 g1 G2 g2 G3 g3,.int .i64 tn,.int .i64 0]) (by simp[results,Tryz.results57,go_sem,z0,z1,z2,z3,z4,z5,z6,z7]) rfl ⟨x,G1,g1,G2,g2,G3,g3,tn,by rw[HEND.out],HK2.out⟩
end Go.Proofs.YthkkllmmbefedaaGreatDoor


