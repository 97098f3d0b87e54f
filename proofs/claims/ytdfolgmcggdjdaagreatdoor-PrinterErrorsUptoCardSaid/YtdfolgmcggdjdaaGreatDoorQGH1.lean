/-
  How long the texts of values are: plain Lean.
-/
import Derived.Test.YtdfolgmcggdjdaaGreatDoorQGH0
import Derived.Test.YtdfolgmcggdjdaaGreatDoorQGF0
import Derived.Test.YtdfolgmcggdjdaaGreatDoorQGA5
namespace Go.Proofs.YtdfolgmcggdjdaaGreatDoor
open Go.RowKit
set_option maxHeartbeats 16000000
set_option maxRecDepth 100000
theorem write_k7 {s:List TyD} {A:zo} {c n:Nat} (_hv:zJ s=0) (hn:Num64 s) (ih:WriteAt s A c n):WriteK s A c n 7:=by
 intro t v A1 c1 A2 c2 A3 c3 w0 w B b T e hf hs hr htb hg hb0 hB hbl hsz
 obtain ⟨i0,i1,i2,i3⟩:=fitF_out hf;obtain ⟨tn,rfl⟩:=Int.eq_ofNat_of_zero_le i0;have htn:tn<s.length:=by omega
 have hln:=hs.1.lt (by omega)
 rw[zP htn] at i2 i3 e;have HL0:Hid (litF s (n+1) (tn:Int) v=litB (litF s n) s[tn] v):=by show _=_;rw[litF,zP htn]
 have HXN:=zh (hn _ (List.getElem_mem htn));obtain ⟨HBW,H5,H7⟩:=zy w (.cells #[.slice A s.length c] 27) (v.box A1 c1 A2 c2 A3 c3);have HIH:=zh ih;have HS:=zh hs;have HR:=zh hr;have HTB:=zh htb;have HG:=zh hg;have HB0:=zh hb0;have HGE:=zh hB;have HBL:=zh hbl;have hblt:=hbl.lt;obtain ⟨L,hL⟩:∃L,litF s (n+1) (tn:Int) v=L:=⟨_,rfl⟩;rw[hL] at hsz HL0;simp only[hL];have HSZ:=zh hsz
 have HU:Hid (Below w0.heap.size w0 ((w.alloc (.cells #[.slice A s.length c] 27)).alloc (v.box A1 c1 A2 c2 A3 c3))):=(hb0.trans (HBW.out.mono hB)).mono hg;obtain ⟨bq,oq,As,cs,Am,cm,hA,htr,t0,t1,t2,t3,t4,t5,t6,t7,t8,t9⟩:=hs.at10 htn;clear hL hf ih hs hr htb hg hb0 hB hbl hsz _hv hn i0 i1;subst hA;generalize s[tn]=x at *;have HTR:=zh htr;have HFB:=zh i3;have HVK:=zh (i2.trans e);have HK:=zh e
 clear htr i3 i2 e;replace t0:=zA HU.out t0;replace t1:=zA HU.out t1;replace t2:=zA HU.out t2;replace t3:=zA HU.out t3;replace t4:=zA HU.out t4;replace t5:=zA HU.out t5;replace t6:=zA HU.out t6;replace t7:=zA HU.out t7;replace t8:=zA HU.out t8;replace t9:=zA HU.out t9;have h1:(0:Int)≤(tn:Int):=by omega
 have h2:(tn:Int)<(s.length:Int):=by omega
 go_enter Tryz.func119,Tryz.ntmps119
 go_upto_region 1 with fail
 have hsz2:Hid (((w.alloc (.cells #[.slice (some ⟨bq,oq,none⟩) s.length c] 27)).alloc (v.box A1 c1 A2 c2 A3 c3)).heap.size=w.heap.size+2):=by show _=_;simp
 generalize (w.alloc (.cells #[.slice (some ⟨bq,oq,none⟩) s.length c] 27)).alloc (v.box A1 c1 A2 c2 A3 c3)=W2 at *;have x0:=zb H5.out;go_upto_region 2 with fail
 clear t0 t1 t2 t3 t4 t5 t6 t7 t8 t9 x0;have HBX:=zh (zD W2 (x.box As cs Am cm));have ST:Hid (WrSt s (some ⟨bq,oq,none⟩) c x As cs Am cm v A1 c1 A2 c2 A3 c3 B b w.heap.size (w.heap.size+1) W2.heap.size w (W2.alloc (x.box As cs Am cm)) (T)):=by
  have hz:=hsz2.out;have hge:=HGE.out;exact ⟨(HBL.out.below HBW.out).below HBX.out,(HBW.out.mono HGE.out).trans (HBX.out.mono (by omega)),oth_trans (yO HBW.out) (yO HBX.out),by omega,by omega,by omega,zF H5.out HBX.out,zF H7.out HBX.out,heap_alloc_new W2 _,by have:=HGE.out;have:=HBX.out.size;omega⟩
 generalize W2.alloc (x.box As cs Am cm)=W3 at *;generalize W2.heap.size=p8 at *;clear hsz2 hblt HBW H5 H7 HBL HU HBX h1 h2;obtain ⟨q1,q2,q3,q4,q5,q6,q7⟩:=zk7 HK.out;obtain ⟨v0,v1,v2,v3,v4,v5,v6,v7⟩:=zH ST.out.h7;obtain ⟨b0,b1,b2,b3,b4,b5,b6,b7,b8,b9⟩:=zI ST.out.h8;have x0:=ST.out.c5;have HL:=zh (HL0.out.trans (lit7 HK.out));have HF:=zh (fit7 HK.out HFB.out);have hli:=HR.out.items.1.lt (by omega)
 have HZ:Hid (T.size+(1+(catL (v.items.map (litF s n x.elem))).size+1)≤140737488355328):=by have:=HSZ.out;rw[HL.out,zG,zG] at this;exact this
 go_wp2_with fail
 refine (ST.out.bld.byte 91 (by have:=HZ.out;omega) ST.out.ge).mono ?_
 rintro e' w5 ⟨rfl,g1,g2,g3⟩;have ST5:=zh (ST.out.step g1 g2 g3);clear g1 g2 g3;clear v0 v1 v2 v3 v4 v5 v6 v7 b0 b1 b2 b3 b4 b5 b6 b7 b8 b9 x0;obtain ⟨v0,v1,v2,v3,v4,v5,v6,v7⟩:=zH ST5.out.h7;obtain ⟨b0,b1,b2,b3,b4,b5,b6,b7,b8,b9⟩:=zI ST5.out.h8;have x0:=ST5.out.c5;go_wp2_with fail
 go_loopw [187] (fun i wr=>∃k:Nat,k≤v.items.length∧i = .int .i64 (k:Int)∧Hid (WrSt s (some ⟨bq,oq,none⟩) c x As cs Am cm v A1 c1 A2 c2 A3 c3 B b w.heap.size (w.heap.size+1) p8 w wr (T++oneB 91++catK (fun i=>(v.items.map (litF s n x.elem)).getD i ⟨#[]⟩) k))) (fun i _=>v.items.length - (intOf i).toNat)
 case atStart=>exact ⟨0,by omega,rfl,by have h:=ST5.out;rw[show T++oneB 91=T++oneB 91++catK (fun i=>(v.items.map (litF s n x.elem)).getD i ⟨#[]⟩) 0 from (app_nil _).symm] at h;exact h⟩
 case round =>
  obtain ⟨k,hk,rfl,hh⟩:=hrel;have STr:=zh hh.out;clear v0 v1 v2 v3 v4 v5 v6 v7 b0 b1 b2 b3 b4 b5 b6 b7 b8 b9 x0 hh
  by_cases hlt:k<v.items.length
  ·obtain ⟨ib,io,E1,e1,E2,e2,E3,e3,hI,hir,a0,a1,a2,a3,a4,a5,a6,a7⟩:=HR.out.items.at8 hlt
   have HIR:=zh hir;clear hir;replace a0:=zA (STr.out.up HB0.out HG.out) a0;replace a1:=zA (STr.out.up HB0.out HG.out) a1;replace a2:=zA (STr.out.up HB0.out HG.out) a2;replace a3:=zA (STr.out.up HB0.out HG.out) a3;replace a4:=zA (STr.out.up HB0.out HG.out) a4;replace a5:=zA (STr.out.up HB0.out HG.out) a5;replace a6:=zA (STr.out.up HB0.out HG.out) a6;replace a7:=zA (STr.out.up HB0.out HG.out) a7
   have hmem:=HF.out _ (List.getElem_mem hlt);have HPT:=zh (catL_part (l:=v.items.map (litF s n x.elem)) (k:=k) (by simpa using hlt))
   have HCS:=zh (catL_step (l:=v.items.map (litF s n x.elem)) (k:=k) (by simpa using hlt))
   rw[List.getElem_map] at HPT HCS;generalize v.items[k]=y at *;have HFY:=zh hmem;clear hmem;generalize hCK:catK (fun i=>(v.items.map (litF s n x.elem)).getD i ⟨#[]⟩) k=CK at *
   generalize hCM:(if k=0 then (⟨#[]⟩:ByteArray) else ⟨#[44,32]⟩)=CM at *
   have HSZ2:Hid ((T++oneB 91++CK).size+CM.size+(litF s n x.elem y).size≤140737488355328):=by have:=HZ.out;have:=HPT.out;rw[zG,zG];show _+1+_+_+_≤_;omega
   subst hI;have h1:(0:Int)≤(k:Int):=by omega
   have h2:(k:Int)<(v.items.length:Int):=by omega
   have hblt:=STr.out.bld.lt;have HNB:=zh (zD wr (y.box E1 e1 E2 e2 E3 e3));have HYB:=zh (heap_alloc_new wr (y.box E1 e1 E2 e2 E3 e3));have STa:=zh (STr.out.below HNB.out);obtain ⟨v0,v1,v2,v3,v4,v5,v6,v7⟩:=zH STr.out.h7;obtain ⟨b0,b1,b2,b3,b4,b5,b6,b7,b8,b9⟩:=zI STr.out.h8;have x0:=STr.out.c5;go_upto_region 42 with fail
   clear v0 v1 v2 v3 v4 v5 v6 v7 b0 b1 b2 b3 b4 b5 b6 b7 b8 b9 x0 a0 a1 a2 a3 a4 a5 a6 a7;generalize wr.alloc (y.box E1 e1 E2 e2 E3 e3)=W4 at *;generalize wr.heap.size=p18 at *;have hne:p18≠b:=by omega
   go_wp2_with fail
   refine (comma_any STa.out.bld k (by rw[hCM];have:=HSZ2.out;omega) STa.out.ge).mono ?_
   rintro e' w6 ⟨rfl,g1,g2,g3⟩;rw[hCM] at g1;have ST6:=zh (STa.out.step g1 g2 g3);have HY6:=zh (g3.blk HYB.out hne (by decide))
   clear g1 g2 g3;obtain ⟨v0,v1,v2,v3,v4,v5,v6,v7⟩:=zH ST6.out.h7;obtain ⟨b0,b1,b2,b3,b4,b5,b6,b7,b8,b9⟩:=zI ST6.out.h8;have x0:=ST6.out.c5;obtain ⟨y0,y1,y2,y3,y4,y5,y6,y7⟩:=zH HY6.out;go_wp2_with fail;refine (HIH.out x.elem y E1 e1 E2 e2 E3 e3 w0 _ B b _ HFY.out HS.out HIR.out HTB.out HG.out (HB0.out.trans ST6.out.fr) ST6.out.ge ST6.out.bld (by have:=HSZ2.out;rw[zG];omega)).mono ?_
   rintro e' w7 ⟨rfl,g1,g2,g3⟩;have ST7:=zh (ST6.out.step g1 g2 g3);clear g1 g2 g3;clear v0 v1 v2 v3 v4 v5 v6 v7 b0 b1 b2 b3 b4 b5 b6 b7 b8 b9 x0 y0 y1 y2 y3 y4 y5 y6 y7;have HE:Hid (T++oneB 91++CK++CM++litF s n x.elem y=T++oneB 91++catK (fun i=>(v.items.map (litF s n x.elem)).getD i ⟨#[]⟩) (k+1)):=by show _=_;rw[HCS.out];simp only[ByteArray.append_assoc]
   go_wp2
   go_roundw
   case rel=>exact ⟨k+1,by omega,by go_num,by have h:=ST7.out;rw[HE.out] at h;exact h⟩
   case measure=>simp[intOf];omega
  ·obtain rfl:k=v.items.length:=by omega
   have HE:Hid (catK (fun i=>(v.items.map (litF s n x.elem)).getD i ⟨#[]⟩) v.items.length=catL (v.items.map (litF s n x.elem))):=by show _=_;unfold catL;rw[List.length_map]
   have STe:=STr;rw[HE.out] at STe;go_wp2_with fail;refine (STe.out.bld.byte 93 (by have:=HZ.out;rw[zG,zG];show _+1+_+1≤_;omega) STe.out.ge).mono ?_
   rintro e' w8 ⟨rfl,g1,g2,g3⟩;have ST8:=zh (STe.out.step g1 g2 g3);clear g1 g2 g3;go_wp2;refine bodyPost_end (results_none Tryz.results119 _ _ _) rfl ⟨rfl,by rw[HL.out];(have h:=ST8.out.bld;simp only[ByteArray.append_assoc] at h ⊢;exact h),ST8.out.fr,ST8.out.ot⟩
theorem write_k9 {s:List TyD} {A:zo} {c n:Nat} (_hv:zJ s=0) (hn:Num64 s) (ih:WriteAt s A c n):WriteK s A c n 9:=by
 intro t v A1 c1 A2 c2 A3 c3 w0 w B b T e hf hs hr htb hg hb0 hB hbl hsz
 obtain ⟨i0,i1,i2,i3⟩:=fitF_out hf;obtain ⟨tn,rfl⟩:=Int.eq_ofNat_of_zero_le i0;have htn:tn<s.length:=by omega
 have hln:=hs.1.lt (by omega)
 rw[zP htn] at i2 i3 e;have HL0:Hid (litF s (n+1) (tn:Int) v=litB (litF s n) s[tn] v):=by show _=_;rw[litF,zP htn]
 have HXN:=zh (hn _ (List.getElem_mem htn));obtain ⟨HBW,H5,H7⟩:=zy w (.cells #[.slice A s.length c] 27) (v.box A1 c1 A2 c2 A3 c3);have HIH:=zh ih;have HS:=zh hs;have HR:=zh hr;have HTB:=zh htb;have HG:=zh hg;have HB0:=zh hb0;have HGE:=zh hB;have HBL:=zh hbl;have hblt:=hbl.lt;obtain ⟨L,hL⟩:∃L,litF s (n+1) (tn:Int) v=L:=⟨_,rfl⟩;rw[hL] at hsz HL0;simp only[hL];have HSZ:=zh hsz
 have HU:Hid (Below w0.heap.size w0 ((w.alloc (.cells #[.slice A s.length c] 27)).alloc (v.box A1 c1 A2 c2 A3 c3))):=(hb0.trans (HBW.out.mono hB)).mono hg;obtain ⟨bq,oq,As,cs,Am,cm,hA,htr,t0,t1,t2,t3,t4,t5,t6,t7,t8,t9⟩:=hs.at10 htn;clear hL hf ih hs hr htb hg hb0 hB hbl hsz _hv hn i0 i1;subst hA;generalize s[tn]=x at *;have HTR:=zh htr;have HFB:=zh i3;have HVK:=zh (i2.trans e);have HK:=zh e
 clear htr i3 i2 e;replace t0:=zA HU.out t0;replace t1:=zA HU.out t1;replace t2:=zA HU.out t2;replace t3:=zA HU.out t3;replace t4:=zA HU.out t4;replace t5:=zA HU.out t5;replace t6:=zA HU.out t6;replace t7:=zA HU.out t7;replace t8:=zA HU.out t8;replace t9:=zA HU.out t9;have h1:(0:Int)≤(tn:Int):=by omega
 have h2:(tn:Int)<(s.length:Int):=by omega
 go_enter Tryz.func119,Tryz.ntmps119
 go_upto_region 1 with fail
 have hsz2:Hid (((w.alloc (.cells #[.slice (some ⟨bq,oq,none⟩) s.length c] 27)).alloc (v.box A1 c1 A2 c2 A3 c3)).heap.size=w.heap.size+2):=by show _=_;simp
 generalize (w.alloc (.cells #[.slice (some ⟨bq,oq,none⟩) s.length c] 27)).alloc (v.box A1 c1 A2 c2 A3 c3)=W2 at *;have x0:=zb H5.out;go_upto_region 2 with fail
 clear t0 t1 t2 t3 t4 t5 t6 t7 t8 t9 x0;have HBX:=zh (zD W2 (x.box As cs Am cm));have ST:Hid (WrSt s (some ⟨bq,oq,none⟩) c x As cs Am cm v A1 c1 A2 c2 A3 c3 B b w.heap.size (w.heap.size+1) W2.heap.size w (W2.alloc (x.box As cs Am cm)) (T)):=by
  have hz:=hsz2.out;have hge:=HGE.out;exact ⟨(HBL.out.below HBW.out).below HBX.out,(HBW.out.mono HGE.out).trans (HBX.out.mono (by omega)),oth_trans (yO HBW.out) (yO HBX.out),by omega,by omega,by omega,zF H5.out HBX.out,zF H7.out HBX.out,heap_alloc_new W2 _,by have:=HGE.out;have:=HBX.out.size;omega⟩
 generalize W2.alloc (x.box As cs Am cm)=W3 at *;generalize W2.heap.size=p8 at *;clear hsz2 hblt HBW H5 H7 HBL HU HBX h1 h2;have q1:(x.kind==1)=false:=by simp[HK.out]
 have q2:(x.kind==2)=false:=by simp[HK.out]
 have q3:(x.kind==3)=false:=by simp[HK.out]
 have q4:(x.kind==4)=false:=by simp[HK.out]
 have q5:(x.kind==5)=false:=by simp[HK.out]
 have q6:(x.kind==6)=false:=by simp[HK.out]
 have q7:(x.kind==7)=false:=by simp[HK.out]
 have q8:(x.kind==8)=false:=by simp[HK.out]
 have q9:(x.kind==9)=true:=by simp[HK.out]
 obtain ⟨v0,v1,v2,v3,v4,v5,v6,v7⟩:=zH ST.out.h7;obtain ⟨b0,b1,b2,b3,b4,b5,b6,b7,b8,b9⟩:=zI ST.out.h8;have x0:=ST.out.c5;have HL1:=zh (HL0.out.trans (lit9 HK.out));have HF:=zh (fit9 HK.out HFB.out)
 by_cases hi:v.items=[]
 ·have HL:Hid (L=⟨#[110,111,110,101]⟩):=by show _=_;rw[HL1.out,hi]
  have HZ:Hid (T.size+(⟨#[110,111,110,101]⟩:ByteArray).size≤140737488355328):=by have:=HSZ.out;rw[HL.out] at this;exact this
  have z1:((v.items.length:Int)==0)=true:=by rw[hi];rfl
  clear hi;go_wp2_with fail;refine (ST.out.bld.write _ (HZ.out) ST.out.ge).mono ?_;rintro e' w5 ⟨rfl,g1,g2,g3⟩;have ST5:=zh (ST.out.step g1 g2 g3);clear g1 g2 g3;go_wp2;refine bodyPost_ret (results_none Tryz.results119 _ _ _) rfl ⟨rfl,by rw[HL.out];exact ST5.out.bld,ST5.out.fr,ST5.out.ot⟩
 ·have hlt:0<v.items.length:=List.length_pos_iff.2 hi
  obtain ⟨ib,io,E1,e1,E2,e2,E3,e3,hI,hir,a0,a1,a2,a3,a4,a5,a6,a7⟩:=HR.out.items.at8 hlt;have HIR:=zh hir;have HA:=zh (And.intro a0 (And.intro a1 (And.intro a2 (And.intro a3 (And.intro a4 (And.intro a5 (And.intro a6 a7)))))));clear hir a0 a1 a2 a3 a4 a5 a6 a7;have hmem:=HF.out.2 _ (List.getElem_mem hlt)
  have HL:Hid (L=⟨#[115,111,109,101,40]⟩++litF s n x.elem v.items[0]++⟨#[41]⟩):=HL0.out.trans (lit9_some HK.out hlt);have HZ:Hid (T.size+(5+(litF s n x.elem v.items[0]).size+1)≤140737488355328):=by have:=HSZ.out;rw[HL.out,zG,zG] at this;exact this
  have z1:((v.items.length:Int)==0)=false:=by simp[hi]
  generalize v.items[0]=y at *;have HFY:=zh hmem;clear hmem hi;subst hI;have h2:(0:Int)<(v.items.length:Int):=by omega
  go_wp2_with fail
  refine (ST.out.bld.write _ ?_ ST.out.ge).mono ?_
  ·have:=HZ.out;show _+5≤_;omega
  rintro e' w5 ⟨rfl,g1,g2,g3⟩;have ST5:=zh (ST.out.step g1 g2 g3);clear g1 g2 g3;clear v0 v1 v2 v3 v4 v5 v6 v7 b0 b1 b2 b3 b4 b5 b6 b7 b8 b9 x0
  have HCC:Hid (∀w' T',WrSt s (some ⟨bq,oq,none⟩) c x As cs Am cm v A1 c1 (some ⟨ib,io,none⟩) c2 A3 c3 B b w.heap.size (w.heap.size+1) p8 w w' (T')→(w'.cell? ⟨w.heap.size,0,none⟩=some (.slice (some ⟨bq,oq,none⟩) s.length c)∧w'.cell? ⟨p8,8,none⟩=some (.int .i64 x.elem)∧w'.cell? ⟨w.heap.size+1,6,none⟩=some (.slice (some ⟨ib,io,none⟩) v.items.length c2)∧w'.cell? ⟨ib,io,none⟩=some (.int .i64 y.kind)∧w'.cell? ⟨ib,io+1,none⟩=some (.bool y.bool)∧w'.cell? ⟨ib,io+2,none⟩=some (.int .i64 y.int)∧w'.cell? ⟨ib,io+3,none⟩=some (.string y.str)∧w'.cell? ⟨ib,io+4,none⟩=some (.int .i64 y.id)∧w'.cell? ⟨ib,io+5,none⟩=some (.slice E1 y.keys.length e1)∧w'.cell? ⟨ib,io+6,none⟩=some (.slice E2 y.items.length e2)∧w'.cell? ⟨ib,io+7,none⟩=some (.slice E3 y.rest.length e3))):=fun w' T' st=>by
   obtain ⟨v0,v1,v2,v3,v4,v5,v6,v7⟩:=zH st.h7;obtain ⟨b0,b1,b2,b3,b4,b5,b6,b7,b8,b9⟩:=zI st.h8;have u:=st.up HB0.out HG.out;obtain ⟨a0,a1,a2,a3,a4,a5,a6,a7⟩:=HA.out;exact ⟨st.c5,b8,v6,zA u (by simpa using a0),zA u (by simpa using a1),zA u (by simpa using a2),zA u (by simpa using a3),zA u (by simpa using a4),zA u (by simpa using a5),zA u (by simpa using a6),zA u (by simpa using a7)⟩
  go_upto_region 63 with fail
  refine wp_region_held_drew (S:=(fun w'=>(w'.cell? ⟨w.heap.size,0,none⟩=some (.slice (some ⟨bq,oq,none⟩) s.length c)∧w'.cell? ⟨p8,8,none⟩=some (.int .i64 x.elem)∧w'.cell? ⟨w.heap.size+1,6,none⟩=some (.slice (some ⟨ib,io,none⟩) v.items.length c2)∧w'.cell? ⟨ib,io,none⟩=some (.int .i64 y.kind)∧w'.cell? ⟨ib,io+1,none⟩=some (.bool y.bool)∧w'.cell? ⟨ib,io+2,none⟩=some (.int .i64 y.int)∧w'.cell? ⟨ib,io+3,none⟩=some (.string y.str)∧w'.cell? ⟨ib,io+4,none⟩=some (.int .i64 y.id)∧w'.cell? ⟨ib,io+5,none⟩=some (.slice E1 y.keys.length e1)∧w'.cell? ⟨ib,io+6,none⟩=some (.slice E2 y.items.length e2)∧w'.cell? ⟨ib,io+7,none⟩=some (.slice E3 y.rest.length e3))∧Hid (Below B w0 w))) (by kernel_rfl) ?_ (fun zH_=>?_)
  ·(try dsimp only);exact ⟨HCC.out _ _ (ST5.out.below (zC (Below.refl _ _) 1)),HB0.out⟩
  refine tL 0 ?_;refine tL 1 ?_;refine tL 2 ?_;refine tL 3 ?_;refine tL 4 ?_;refine tL 5 ?_;try simp only[ps]
  refine tL 6 ?_;refine tL 7 ?_;refine tR 8 (fun K hK=>?_)
  go_simp
  (refine (HIH.out x.elem y E1 e1 E2 e2 E3 e3 w0 _ B b _ HFY.out HS.out HIR.out HTB.out HG.out (HB0.out.trans (ST5.out.below (zC (Below.refl _ _) 1)).fr) (ST5.out.below (zC (Below.refl _ _) 1)).ge (ST5.out.below (zC (Below.refl _ _) 1)).bld (by have:=HZ.out;rw[zG];show _+5+_≤_;omega)).mono ?_;rintro e' w6 ⟨rfl,g1,g2,g3⟩;have ST6:=zh ((ST5.out.below (zC (Below.refl _ _) 1)).step g1 g2 g3);clear g1 g2 g3)
  refine hK.out _ _ ?_ (fun zH_=>?_)
  ·(try dsimp only);exact ⟨HCC.out _ _ ST6.out,HB0.out⟩
  clear hK K;refine wpAnyH_done (by kernel_rfl) ?_ _
  clear zH_;go_wp2_with fail;refine (ST6.out.bld.byte 41 (by have:=HZ.out;rw[zG,zG];show _+5+_+1≤_;omega) ST6.out.ge).mono ?_
  rintro e' w7 ⟨rfl,g1,g2,g3⟩;have ST7:=zh (ST6.out.step g1 g2 g3);clear g1 g2 g3;go_wp2;refine bodyPost_end (results_none Tryz.results119 _ _ _) rfl ⟨rfl,by rw[HL.out];(have h:=ST7.out.bld;simp only[ByteArray.append_assoc] at h ⊢;exact h),ST7.out.fr,ST7.out.ot⟩
def wRs (l:List RawD):Nat:=(l.map fun r=>1+r.data.size).sum
mutual
def wV:Val→Nat
 | .mk _ _ _ s _ ks is r=>1+s.size+wVs ks+wVs is+wRs r
def wVs:List Val→Nat
 | []=>0
 | v::l=>wV v+wVs l
end
theorem wV_eq (v:Val):wV v=1+v.str.size+wVs v.keys+wVs v.items+wRs v.rest:=by
 obtain ⟨k,b,i,s,d,ks,is,r⟩:=v;rw[wV];rfl
theorem wVs_sum:∀l:List Val,wVs l=(l.map wV).sum
 | []=>by rw[wVs];rfl
 | v::l=>by rw[wVs,wVs_sum l,List.map_cons,List.sum_cons]
def szs (l:List ByteArray):Nat:=(l.map fun b=>b.size+2).sum
theorem catL_sum (l:List ByteArray):(catL l).size≤szs l:=by
 have key:∀k,k≤l.length→(catK (fun i=>l.getD i ⟨#[]⟩) k).size≤((l.take k).map fun b=>b.size+2).sum:=by
  intro k
  induction k with
  | zero=>intro _;exact Nat.zero_le _
  | succ k ih =>
   intro hk
   have h:=ih (by omega)
   have hlt:k<l.length:=by omega
   rw[List.take_succ_eq_append_getElem hlt,List.map_append,List.sum_append,catL_step hlt,ByteArray.size_append,ByteArray.size_append];have h3:(if k=0 then (⟨#[]⟩:ByteArray) else ⟨#[44,32]⟩).size≤2:=by split <;> decide
   simp only[List.map_cons,List.map_nil,List.sum_cons,List.sum_nil]
   omega
 have h:=key l.length (Nat.le_refl _);rw[List.take_length] at h;exact h
theorem szs_app (l m:List ByteArray):szs (l++m)=szs l+szs m:=by unfold szs;rw[List.map_append,List.sum_append]
theorem szs_vals (g:Val→ByteArray):∀l:List Val,(∀y∈l,(g y).size+2≤128 * wV y)→szs (l.map g)≤128 * wVs l
 | [],_=>Nat.zero_le _
 | y::l,h=>by
  have h1:=h y List.mem_cons_self;have h2:=szs_vals g l fun z hz=>h z (List.mem_cons_of_mem _ hz)
  unfold szs at h2 ⊢;rw[List.map_cons,List.map_cons,List.sum_cons,wVs]
  omega
theorem szs_pair {α:Type} (g:α×Val→ByteArray):∀l:List (α×Val),(∀p∈l,(g p).size+2≤128 * wV p.2)→szs (l.map g)≤128 * wVs (l.map (·.2))
 | [],_=>Nat.zero_le _
 | y::l,h=>by
  have h1:=h y List.mem_cons_self;have h2:=szs_pair g l fun z hz=>h z (List.mem_cons_of_mem _ hz)
  unfold szs at h2 ⊢;rw[List.map_cons,List.map_cons,List.map_cons,List.sum_cons,wVs]
  omega
theorem szs_two (g:Val×Val→ByteArray):∀l:List (Val×Val),(∀p∈l,(g p).size+2≤128 * (wV p.1+wV p.2))→szs (l.map g)≤128 * (wVs (l.map (·.1))+wVs (l.map (·.2)))
 | [],_=>Nat.zero_le _
 | y::l,h=>by
  have h1:=h y List.mem_cons_self;have h2:=szs_two g l fun z hz=>h z (List.mem_cons_of_mem _ hz)
  unfold szs at h2 ⊢;rw[List.map_cons,List.map_cons,List.map_cons,List.map_cons,List.sum_cons,wVs,wVs]
  omega
theorem szs_raws:∀l:List RawD,(∀r∈l,In64 r.id)→szs (l.map rawP)≤128 * wRs l
 | [],_=>Nat.zero_le _
 | r::l,h=>by
  have h1:=yE (h r List.mem_cons_self);have h3:=quD_le r.data;have h2:=szs_raws l fun z hz=>h z (List.mem_cons_of_mem _ hz)
  have e2:(⟨#[58,32]⟩:ByteArray).size=2:=rfl;unfold szs wRs at h2 ⊢;rw[List.map_cons,List.map_cons,List.map_cons,List.sum_cons,List.sum_cons];unfold rawP at h2 ⊢;rw[ByteArray.size_append,ByteArray.size_append]
  omega
theorem wVs_mem {l:List Val} {y:Val} (h:y∈l):wV y≤wVs l:=by
 induction l with
 | nil=>cases h
 | cons z l ih =>
  rw[wVs]
  rcases List.mem_cons.1 h with e|e
  ·subst e;omega
  ·have:=ih e;omega
theorem snd_zip {α:Type}:∀ (bs:List α) (l:List Val),bs.length=l.length→(bs.zip l).map (·.2)=l
 | [],[],_=>rfl
 | _::bs,y::l,h=>by rw[List.zip_cons_cons,List.map_cons,snd_zip bs l (by simpa using h)]
theorem fst_zip {α:Type}:∀ (l:List Val) (bs:List α),l.length=bs.length→(l.zip bs).map (·.1)=l
 | [],[],_=>rfl
 | y::l,_::bs,h=>by rw[List.zip_cons_cons,List.map_cons,fst_zip l bs (by simpa using h)]
theorem lit_le {s:List TyD} (hv:zJ s=0) (hn:Num64 s):∀ (n:Nat) (t:Int) (v:Val),fitF s false n t v=true→(litF s n t v).size+64≤128 * wV v
 | 0,_,_,h=>by cases h
 | n+1,t,v,h=>by
  obtain ⟨i0,i1,_,hfb⟩:=fitF_out h;have hk:=yT hv ⟨i0,i1⟩;have hx:tyAt s t∈s:=tyAt_mem ⟨i0,i1⟩;have ih:=lit_le hv hn n;have hw:=wV_eq v;have hnum:=hn _ hx;have hmn:∀m∈(tyAt s t).mems,m.name.size≤24:=fun m hm=>(mem_rng hv hx hm).1.2
  have hsn:∀y∈(tyAt s t).syms,y.name.size≤24:=fun y hy=>(sym_rng hv hx hy).1.2
  rw[litF];generalize tyAt s t=x at *;have a1:∀c:UInt8,(⟨#[c]⟩:ByteArray).size=1:=fun _=>rfl
  have hkx:x.kind=1∨x.kind=2∨x.kind=3∨x.kind=4∨x.kind=5∨x.kind=6∨x.kind=7∨x.kind=8∨x.kind=9:=by omega
  rcases hkx with e|e|e|e|e|e|e|e|e
  ·rw[lit1 e]
   split
   ·show 4+64≤_;omega
   ·show 5+64≤_;omega
  ·rw[lit2 e]
   have hf:=fit2 e hfb;have:=yE (n:=v.int) (by unfold In64 at *;omega)
   omega
  ·rw[lit3 e]
   have:=quD_le v.str
   omega
  ·rw[lit4 e]
   rcases fit4 e hfb with ha|⟨ha,hf⟩
   ·obtain ⟨k,hk2,_,hf2⟩:=find_idx x.syms ha
    rw[hf2];have:=hsn _ (List.getElem_mem hk2)
    show (x.syms[k]).name.size+64≤_
    omega
   ·rw[find_no x.syms ha]
    have:=yE (free_in hf)
    show (⟨#[64]⟩++decB v.id:ByteArray).size+64≤_
    rw[ByteArray.size_append,a1]
    omega
  ·rw[lit5 e,ByteArray.size_append,ByteArray.size_append,a1,a1]
   obtain ⟨f1,f2,f3⟩:=fit5 e hfb;have h1:=catL_sum ((x.mems.zip v.items).map (memP (litF s n))++v.rest.map rawP);rw[szs_app] at h1;have h2:=szs_pair (memP (litF s n)) (x.mems.zip v.items) fun p hp=>by
    obtain ⟨k,hk2,rfl⟩:=List.getElem_of_mem hp;rw[List.length_zip] at hk2;rw[List.getElem_zip];have hm:=hmn _ (List.getElem_mem (show k<x.mems.length by omega))
    have hi:=ih _ _ (f3 k (by omega) (by omega))
    unfold memP;simp only[ByteArray.size_append]
    show _+2+_+2≤_
    omega
   rw[snd_zip _ _ f1.symm] at h2;have h3:=szs_raws v.rest fun r hr=>free_in (f2 r hr)
   omega
  ·rcases fit6 e hfb with ⟨_,m,y,g1,g2,g3⟩|⟨ha,hf,r,g2⟩
   ·have hlt:0<v.items.length:=by rw[g2];exact Nat.one_pos
    rw[lit6_yes e g1 hlt];have hy:v.items[0]=y:=by simp only[g2,List.getElem_cons_zero]
    rw[hy];have hm:=hmn m (List.mem_of_find?_eq_some g1);have hi:=ih _ _ g3;have hwv:=wVs_mem (l:=v.items) (y:=y) (by rw[g2];exact List.mem_cons_self)
    simp only[ByteArray.size_append,a1]
    omega
   ·have hlt:0<v.rest.length:=by rw[g2];exact Nat.one_pos
    rw[lit6_no e (find_no x.mems ha) hlt];have hr:v.rest[0]=r:=by simp only[g2,List.getElem_cons_zero]
    rw[hr];have hd:=yE (free_in hf);have hq:=quD_le r.data;have hwr:1+r.data.size≤wRs v.rest:=by rw[g2];unfold wRs;simp
    simp only[ByteArray.size_append,a1]
    omega
  ·rw[lit7 e,ByteArray.size_append,ByteArray.size_append,a1,a1]
   have f1:=fit7 e hfb;have h1:=catL_sum (v.items.map (litF s n x.elem));have h2:=szs_vals (litF s n x.elem) v.items fun y hy=>by have:=ih _ _ (f1 y hy);omega
   omega
  ·rw[lit8 e]
   obtain ⟨f1,f2,f3⟩:=fit8 e hfb;have h1:=catL_sum ((v.keys.zip v.items).map (entP (litF s n x.key) (litF s n x.elem)));have h2:=szs_two (entP (litF s n x.key) (litF s n x.elem)) (v.keys.zip v.items) fun p hp=>by
    obtain ⟨k,hk2,rfl⟩:=List.getElem_of_mem hp;rw[List.length_zip] at hk2;rw[List.getElem_zip];have hi:=ih _ _ (f2 _ (List.getElem_mem (show k<v.keys.length by omega)))
    have hj:=ih _ _ (f3 _ (List.getElem_mem (show k<v.items.length by omega)))
    unfold entP;simp only[ByteArray.size_append]
    show _+4+_+2≤_
    omega
   rw[snd_zip _ _ f1.symm,fst_zip _ _ f1.symm] at h2;have h3:(if v.keys.length=0 then (⟨#[45,62]⟩:ByteArray) else ⟨#[]⟩).size≤2:=by split <;> decide
   simp only[ByteArray.size_append,a1]
   omega
  ·have f1:=fit9 e hfb
   by_cases h0:v.items=[]
   ·rw[lit9 e,h0]
    show 4+64≤_
    omega
   ·have hlt:0<v.items.length:=List.length_pos_iff.2 h0
    rw[lit9_some e hlt];have hi:=ih _ _ (f1.2 _ (List.getElem_mem hlt));have hwv:=wVs_mem (List.getElem_mem hlt);simp only[ByteArray.size_append,a1]
    show 5+_+1+64≤_
    omega
theorem dfT_le {s:List TyD} (hv:zJ s=0) (hn:Num64 s) (m:MemD):(dfT s m).size≤128 * wV m.dflt:=by
 unfold dfT
 split
 ·rename_i h
  have:=lit_le hv hn _ _ _ (show fitF s false (SizeOf.sizeOf m.dflt) m.type m.dflt=true from h);unfold litV
  omega
 ·exact Nat.zero_le _
end Go.Proofs.YtdfolgmcggdjdaaGreatDoor


