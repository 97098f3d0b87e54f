/-
  Walks: literal.write, kinds 8.
-/
import Derived.Test.YthkkllmmbefedaaGreatDoorQGA10
import Derived.Test.YthkkllmmbefedaaGreatDoorQGA9
namespace Go.Proofs.YthkkllmmbefedaaGreatDoor
open Go.RowKit
set_option maxHeartbeats 16000000
set_option maxRecDepth 100000
theorem write_k8 {s:List TyD} {A:zo} {c n:Nat} (_hv:zQ s=0) (hn:Num64 s) (ih:WriteAt s A c n):WriteK s A c n 8:=by
 intro t v A1 c1 A2 c2 A3 c3 w0 w B b T e hf hs hr htb hg hb0 hB hbl hsz
 obtain ⟨i0,i1,i2,i3⟩:=fitF_out hf;obtain ⟨tn,rfl⟩:=Int.eq_ofNat_of_zero_le i0;have htn:tn<s.length:=by omega
 have hln:=hs.1.lt (by omega)
 rw[zT htn] at i2 i3 e;have HL0:Hid (litF s (n+1) (tn:Int) v=litB (litF s n) s[tn] v):=by show _=_;rw[litF,zT htn]
 have HXN:=zh (hn _ (List.getElem_mem htn));obtain ⟨HBW,H5,H7⟩:=zy w (.cells #[.slice A s.length c] 31) (v.box A1 c1 A2 c2 A3 c3);have HIH:=zh ih;have HS:=zh hs;have HR:=zh hr;have HTB:=zh htb;have HG:=zh hg;have HB0:=zh hb0;have HGE:=zh hB;have HBL:=zh hbl;have hblt:=hbl.lt;obtain ⟨L,hL⟩:∃L,litF s (n+1) (tn:Int) v=L:=⟨_,rfl⟩;rw[hL] at hsz HL0;simp only[hL];have HSZ:=zh hsz
 have HU:Hid (Below w0.heap.size w0 ((w.alloc (.cells #[.slice A s.length c] 31)).alloc (v.box A1 c1 A2 c2 A3 c3))):=(hb0.trans (HBW.out.mono hB)).mono hg;obtain ⟨bq,oq,As,cs,Am,cm,hA,htr,t0,t1,t2,t3,t4,t5,t6,t7,t8,t9⟩:=hs.at10 htn;clear hL hf ih hs hr htb hg hb0 hB hbl hsz _hv hn i0 i1;subst hA;generalize s[tn]=x at *;have HTR:=zh htr;have HFB:=zh i3;have HVK:=zh (i2.trans e);have HK:=zh e
 clear htr i3 i2 e;replace t0:=zA HU.out t0;replace t1:=zA HU.out t1;replace t2:=zA HU.out t2;replace t3:=zA HU.out t3;replace t4:=zA HU.out t4;replace t5:=zA HU.out t5;replace t6:=zA HU.out t6;replace t7:=zA HU.out t7;replace t8:=zA HU.out t8;replace t9:=zA HU.out t9;have h1:(0:Int)≤(tn:Int):=by omega
 have h2:(tn:Int)<(s.length:Int):=by omega
 go_enter Tryz.func44,Tryz.ntmps44
 go_upto_region 1 with fail
 have hsz2:Hid (((w.alloc (.cells #[.slice (some ⟨bq,oq,none⟩) s.length c] 31)).alloc (v.box A1 c1 A2 c2 A3 c3)).heap.size=w.heap.size+2):=by show _=_;simp
 generalize (w.alloc (.cells #[.slice (some ⟨bq,oq,none⟩) s.length c] 31)).alloc (v.box A1 c1 A2 c2 A3 c3)=W2 at *;have x0:=zb H5.out;go_upto_region 2 with fail
 clear t0 t1 t2 t3 t4 t5 t6 t7 t8 t9 x0;have HBX:=zh (zD W2 (x.box As cs Am cm));have ST:Hid (WrSt s (some ⟨bq,oq,none⟩) c x As cs Am cm v A1 c1 A2 c2 A3 c3 B b w.heap.size (w.heap.size+1) W2.heap.size w (W2.alloc (x.box As cs Am cm)) (T)):=by
  have hz:=hsz2.out;have hge:=HGE.out;exact ⟨(HBL.out.below HBW.out).below HBX.out,(HBW.out.mono HGE.out).trans (HBX.out.mono (by omega)),oth_trans (yD HBW.out) (yD HBX.out),by omega,by omega,by omega,zE H5.out HBX.out,zE H7.out HBX.out,heap_alloc_new W2 _,by have:=HGE.out;have:=HBX.out.size;omega⟩
 generalize W2.alloc (x.box As cs Am cm)=W3 at *;generalize W2.heap.size=p8 at *;clear hsz2 hblt HBW H5 H7 HBL HU HBX h1 h2;obtain ⟨q1,q2,q3,q4,q5,q6,q7,q8⟩:=zk8 HK.out;obtain ⟨v0,v1,v2,v3,v4,v5,v6,v7⟩:=zF ST.out.h7;obtain ⟨b0,b1,b2,b3,b4,b5,b6,b7,b8,b9⟩:=zG ST.out.h8;have x0:=ST.out.c5
 have HL1:Hid (L=⟨#[91]⟩++(if v.keys.length=0 then ⟨#[45,62]⟩ else ⟨#[]⟩)++catL (entsD (litF s n x.key) (litF s n x.elem) v)++⟨#[93]⟩):=HL0.out.trans (lit8 HK.out)
 have HF:=zh (fit8 HK.out HFB.out);have hlk:=HR.out.keys.1.lt (by omega)
 have hli:=HR.out.items.1.lt (by omega)
 by_cases hk0:v.keys.length=0
 ·have HL:Hid (L=⟨#[91]⟩++⟨#[45,62]⟩++⟨#[93]⟩):=by
   show _=_
   rw[HL1.out,if_pos hk0];unfold entsD;rw[List.length_eq_zero_iff.1 hk0]
   rfl
  have HZ:Hid (T.size+4≤140737488355328):=by have:=HSZ.out;rw[HL.out,zH,zH] at this;exact this
  have z1:((v.keys.length:Int)==0)=true:=by simp[hk0]
  have z2:¬ (0:Int)<(v.keys.length:Int):=by omega
  clear hk0;go_wp2_with fail;refine (ST.out.bld.byte 91 (by have:=HZ.out;omega) ST.out.ge).mono ?_
  rintro e' w5 ⟨rfl,g1,g2,g3⟩;have ST5:=zh (ST.out.step g1 g2 g3);clear g1 g2 g3;clear v0 v1 v2 v3 v4 v5 v6 v7 b0 b1 b2 b3 b4 b5 b6 b7 b8 b9 x0;obtain ⟨v0,v1,v2,v3,v4,v5,v6,v7⟩:=zF ST5.out.h7;obtain ⟨b0,b1,b2,b3,b4,b5,b6,b7,b8,b9⟩:=zG ST5.out.h8;have x0:=ST5.out.c5;go_wp2_with fail;refine (ST5.out.bld.write _ ?_ ST5.out.ge).mono ?_
  ·have:=HZ.out;rw[zH];show _+1+2≤_;omega
  rintro e' w6 ⟨rfl,g1,g2,g3⟩;have ST6:=zh (ST5.out.step g1 g2 g3);clear g1 g2 g3;clear v0 v1 v2 v3 v4 v5 v6 v7 b0 b1 b2 b3 b4 b5 b6 b7 b8 b9 x0;obtain ⟨v0,v1,v2,v3,v4,v5,v6,v7⟩:=zF ST6.out.h7;obtain ⟨b0,b1,b2,b3,b4,b5,b6,b7,b8,b9⟩:=zG ST6.out.h8;have x0:=ST6.out.c5;go_wp2_with fail
  go_loopw [217] (fun i wr=>i = .int .i64 0∧Hid (WrSt s (some ⟨bq,oq,none⟩) c x As cs Am cm v A1 c1 A2 c2 A3 c3 B b w.heap.size (w.heap.size+1) p8 w wr (T++oneB 91++⟨#[45,62]⟩))) (fun _ _=>0)
  case atStart=>exact ⟨rfl,ST6.out⟩
  case round =>
   obtain ⟨rfl,hh⟩:=hrel;have STr:=zh hh.out;clear v0 v1 v2 v3 v4 v5 v6 v7 b0 b1 b2 b3 b4 b5 b6 b7 b8 b9 x0 hh;go_wp2_with fail;refine (STr.out.bld.byte 93 (by have:=HZ.out;rw[zH,zH];show _+1+2+1≤_;omega) STr.out.ge).mono ?_
   rintro e' w8 ⟨rfl,g1,g2,g3⟩;have ST8:=zh (STr.out.step g1 g2 g3);clear g1 g2 g3;go_wp2;refine bodyPost_end (results_none Tryz.results44 _ _ _) rfl ⟨rfl,by rw[HL.out];(have h:=ST8.out.bld;simp only[ByteArray.append_assoc] at h ⊢;exact h),ST8.out.fr,ST8.out.ot⟩
 ·have HL:Hid (L=⟨#[91]⟩++catL (entsD (litF s n x.key) (litF s n x.elem) v)++⟨#[93]⟩):=by show _=_;rw[HL1.out,if_neg hk0,app_nil]
  have HZ:Hid (T.size+(1+(catL (entsD (litF s n x.key) (litF s n x.elem) v)).size+1)≤140737488355328):=by have:=HSZ.out;rw[HL.out,zH,zH] at this;exact this
  have z1:((v.keys.length:Int)==0)=false:=by simp only[beq_eq_false_iff_ne];omega
  clear hk0;have HEL:=zh (entsD_len (f:=litF s n x.key) (g:=litF s n x.elem) HF.out.1);go_wp2_with fail;refine (ST.out.bld.byte 91 (by have:=HZ.out;omega) ST.out.ge).mono ?_
  rintro e' w5 ⟨rfl,g1,g2,g3⟩;have ST5:=zh (ST.out.step g1 g2 g3);clear g1 g2 g3;clear v0 v1 v2 v3 v4 v5 v6 v7 b0 b1 b2 b3 b4 b5 b6 b7 b8 b9 x0;obtain ⟨v0,v1,v2,v3,v4,v5,v6,v7⟩:=zF ST5.out.h7;obtain ⟨b0,b1,b2,b3,b4,b5,b6,b7,b8,b9⟩:=zG ST5.out.h8;have x0:=ST5.out.c5;go_wp2_with fail
  go_loopw [217] (fun i wr=>∃k:Nat,k≤v.keys.length∧i = .int .i64 (k:Int)∧Hid (WrSt s (some ⟨bq,oq,none⟩) c x As cs Am cm v A1 c1 A2 c2 A3 c3 B b w.heap.size (w.heap.size+1) p8 w wr (T++oneB 91++catK (fun i=>(entsD (litF s n x.key) (litF s n x.elem) v).getD i ⟨#[]⟩) k))) (fun i _=>v.keys.length - (intOf i).toNat)
  case atStart=>exact ⟨0,by omega,rfl,by have h:=ST5.out;rw[show T++oneB 91=T++oneB 91++catK (fun i=>(entsD (litF s n x.key) (litF s n x.elem) v).getD i ⟨#[]⟩) 0 from (app_nil _).symm] at h;exact h⟩
  case round =>
   obtain ⟨k,hk,rfl,hh⟩:=hrel;have STr:=zh hh.out;clear v0 v1 v2 v3 v4 v5 v6 v7 b0 b1 b2 b3 b4 b5 b6 b7 b8 b9 x0 hh
   by_cases hlt:k<v.keys.length
   ·have hlt2:k<v.items.length:=by have:=HF.out.1;omega
    obtain ⟨kb,ko,F1,f1,F2,f2,F3,f3,hKB,hkr,a0,a1,a2,a3,a4,a5,a6,a7⟩:=HR.out.keys.at8 hlt;have HKR:=zh hkr;clear hkr;replace a0:=zA (STr.out.up HB0.out HG.out) a0;replace a1:=zA (STr.out.up HB0.out HG.out) a1;replace a2:=zA (STr.out.up HB0.out HG.out) a2;replace a3:=zA (STr.out.up HB0.out HG.out) a3;replace a4:=zA (STr.out.up HB0.out HG.out) a4;replace a5:=zA (STr.out.up HB0.out HG.out) a5
    replace a6:=zA (STr.out.up HB0.out HG.out) a6;replace a7:=zA (STr.out.up HB0.out HG.out) a7;have HC:=zh (And.intro a0 (And.intro a1 (And.intro a2 (And.intro a3 (And.intro a4 (And.intro a5 (And.intro a6 a7)))))));clear a0 a1 a2 a3 a4 a5 a6 a7;obtain ⟨ib,io,E1,e1,E2,e2,E3,e3,hI,hir,a0,a1,a2,a3,a4,a5,a6,a7⟩:=HR.out.items.at8 hlt2;have HIR:=zh hir
    have HA:=zh (And.intro a0 (And.intro a1 (And.intro a2 (And.intro a3 (And.intro a4 (And.intro a5 (And.intro a6 a7)))))));clear hir a0 a1 a2 a3 a4 a5 a6 a7;have hm1:=HF.out.2.1 _ (List.getElem_mem hlt);have hm2:=HF.out.2.2 _ (List.getElem_mem hlt2);have hel:k<(entsD (litF s n x.key) (litF s n x.elem) v).length:=by rw[HEL.out];exact hlt
    have HPT:=zh (catL_part (l:=entsD (litF s n x.key) (litF s n x.elem) v) hel);have HCS:=zh (catL_step (l:=entsD (litF s n x.key) (litF s n x.elem) v) hel);rw[entsD_get hlt hlt2] at HPT HCS;clear hel;generalize v.keys[k]=z at *;generalize v.items[k]=y at *;have HFZ:=zh hm1;have HFY:=zh hm2;clear hm1 hm2;generalize hCK:catK (fun i=>(entsD (litF s n x.key) (litF s n x.elem) v).getD i ⟨#[]⟩) k=CK at *
    generalize hCM:(if k=0 then (⟨#[]⟩:ByteArray) else ⟨#[44,32]⟩)=CM at *
    have HSZ2:Hid ((T++oneB 91++CK).size+CM.size+((litF s n x.key z).size+4+(litF s n x.elem y).size)≤140737488355328):=by have:=HZ.out;have h:=HPT.out;rw[zH (litF s n x.key z++_),zH (litF s n x.key z)] at h;rw[zH,zH];change _+_+(_+4+_)≤_ at h;show _+1+_+_+_≤_;omega
    subst hKB;subst hI;have h1:(0:Int)≤(k:Int):=by omega
    have h2:(k:Int)<(v.keys.length:Int):=by omega
    have h3:(k:Int)<(v.items.length:Int):=by omega
    have hblt:=STr.out.bld.lt;have HNB:=zh (zD wr (z.box F1 f1 F2 f2 F3 f3));have HYB:=zh (heap_alloc_new wr (z.box F1 f1 F2 f2 F3 f3));have STa:=zh (STr.out.below HNB.out);obtain ⟨a0,a1,a2,a3,a4,a5,a6,a7⟩:=HC.out;obtain ⟨v0,v1,v2,v3,v4,v5,v6,v7⟩:=zF STr.out.h7;obtain ⟨b0,b1,b2,b3,b4,b5,b6,b7,b8,b9⟩:=zG STr.out.h8;have x0:=STr.out.c5;go_upto_region 53 with fail
    clear v0 v1 v2 v3 v4 v5 v6 v7 b0 b1 b2 b3 b4 b5 b6 b7 b8 b9 x0 a0 a1 a2 a3 a4 a5 a6 a7 HC;generalize wr.alloc (z.box F1 f1 F2 f2 F3 f3)=W4 at *;generalize wr.heap.size=p20 at *;have hne:p20≠b:=by omega
    go_wp2_with fail
    refine (comma_any STa.out.bld k (by rw[hCM];have:=HSZ2.out;omega) STa.out.ge).mono ?_
    rintro e' w6 ⟨rfl,g1,g2,g3⟩;rw[hCM] at g1;have ST6:=zh (STa.out.step g1 g2 g3);have HY6:=zh (g3.blk HYB.out hne (by decide))
    clear g1 g2 g3;obtain ⟨v0,v1,v2,v3,v4,v5,v6,v7⟩:=zF ST6.out.h7;obtain ⟨b0,b1,b2,b3,b4,b5,b6,b7,b8,b9⟩:=zG ST6.out.h8;have x0:=ST6.out.c5;obtain ⟨y0,y1,y2,y3,y4,y5,y6,y7⟩:=zF HY6.out;go_wp2_with fail;refine (HIH.out x.key z F1 f1 F2 f2 F3 f3 w0 _ B b _ HFZ.out HS.out HKR.out HTB.out HG.out (HB0.out.trans ST6.out.fr) ST6.out.ge ST6.out.bld (by have:=HSZ2.out;rw[zH];omega)).mono ?_
    rintro e' w7 ⟨rfl,g1,g2,g3⟩;have ST7:=zh (ST6.out.step g1 g2 g3);clear g1 g2 g3;clear v0 v1 v2 v3 v4 v5 v6 v7 b0 b1 b2 b3 b4 b5 b6 b7 b8 b9 x0 y0 y1 y2 y3 y4 y5 y6 y7;go_wp2_with fail;refine (ST7.out.bld.write ⟨#[32,45,62,32]⟩ (by have:=HSZ2.out;rw[zH,zH (T++oneB 91++CK)];show _+_+_+4≤_;omega) ST7.out.ge).mono ?_
    rintro e' w8 ⟨rfl,g1,g2,g3⟩;have ST8:=zh (ST7.out.step g1 g2 g3);clear g1 g2 g3
    have HCC:Hid (∀w' T',WrSt s (some ⟨bq,oq,none⟩) c x As cs Am cm v (some ⟨kb,ko,none⟩) c1 (some ⟨ib,io,none⟩) c2 A3 c3 B b w.heap.size (w.heap.size+1) p8 w w' (T')→(w'.cell? ⟨w.heap.size,0,none⟩=some (.slice (some ⟨bq,oq,none⟩) s.length c)∧w'.cell? ⟨p8,8,none⟩=some (.int .i64 x.elem)∧w'.cell? ⟨w.heap.size+1,6,none⟩=some (.slice (some ⟨ib,io,none⟩) v.items.length c2)∧w'.cell? ⟨ib,io+k * 8,none⟩=some (.int .i64 y.kind)∧w'.cell? ⟨ib,io+k * 8+1,none⟩=some (.bool y.bool)∧w'.cell? ⟨ib,io+k * 8+2,none⟩=some (.int .i64 y.int)∧w'.cell? ⟨ib,io+k * 8+3,none⟩=some (.string y.str)∧w'.cell? ⟨ib,io+k * 8+4,none⟩=some (.int .i64 y.id)∧w'.cell? ⟨ib,io+k * 8+5,none⟩=some (.slice E1 y.keys.length e1)∧w'.cell? ⟨ib,io+k * 8+6,none⟩=some (.slice E2 y.items.length e2)∧w'.cell? ⟨ib,io+k * 8+7,none⟩=some (.slice E3 y.rest.length e3))):=fun w' T' st=>by
     obtain ⟨v0,v1,v2,v3,v4,v5,v6,v7⟩:=zF st.h7;obtain ⟨b0,b1,b2,b3,b4,b5,b6,b7,b8,b9⟩:=zG st.h8;have u:=st.up HB0.out HG.out;obtain ⟨a0,a1,a2,a3,a4,a5,a6,a7⟩:=HA.out;exact ⟨st.c5,b8,v6,zA u a0,zA u a1,zA u a2,zA u a3,zA u a4,zA u a5,zA u a6,zA u a7⟩
    go_upto_region 56 with fail
    refine wp_region_held_drew (S:=(fun w'=>(w'.cell? ⟨w.heap.size,0,none⟩=some (.slice (some ⟨bq,oq,none⟩) s.length c)∧w'.cell? ⟨p8,8,none⟩=some (.int .i64 x.elem)∧w'.cell? ⟨w.heap.size+1,6,none⟩=some (.slice (some ⟨ib,io,none⟩) v.items.length c2)∧w'.cell? ⟨ib,io+k * 8,none⟩=some (.int .i64 y.kind)∧w'.cell? ⟨ib,io+k * 8+1,none⟩=some (.bool y.bool)∧w'.cell? ⟨ib,io+k * 8+2,none⟩=some (.int .i64 y.int)∧w'.cell? ⟨ib,io+k * 8+3,none⟩=some (.string y.str)∧w'.cell? ⟨ib,io+k * 8+4,none⟩=some (.int .i64 y.id)∧w'.cell? ⟨ib,io+k * 8+5,none⟩=some (.slice E1 y.keys.length e1)∧w'.cell? ⟨ib,io+k * 8+6,none⟩=some (.slice E2 y.items.length e2)∧w'.cell? ⟨ib,io+k * 8+7,none⟩=some (.slice E3 y.rest.length e3))∧Hid (Below B w0 w))) (by kernel_rfl) ?_ (fun zH_=>?_)
    ·(try dsimp only);exact ⟨HCC.out _ _ (ST8.out.below (zC (Below.refl _ _) 1)),HB0.out⟩
    refine tL 0 ?_;refine tL 1 ?_;refine tL 2 ?_;refine tL 3 ?_;refine tL 4 ?_;refine tL 5 ?_;try simp only[ps]
    refine tL 6 ?_;refine tL 7 ?_;refine tL 8 ?_;refine tR 9 (fun K hK=>?_)
    go_simp
    (refine (HIH.out x.elem y E1 e1 E2 e2 E3 e3 w0 _ B b _ HFY.out HS.out HIR.out HTB.out HG.out (HB0.out.trans (ST8.out.below (zC (Below.refl _ _) 1)).fr) (ST8.out.below (zC (Below.refl _ _) 1)).ge (ST8.out.below (zC (Below.refl _ _) 1)).bld (by have:=HSZ2.out;rw[zH,zH,zH (T++oneB 91++CK)];show _+_+_+4+_≤_;omega)).mono ?_;rintro e' w9 ⟨rfl,g1,g2,g3⟩;have ST9:=zh ((ST8.out.below (zC (Below.refl _ _) 1)).step g1 g2 g3);clear g1 g2 g3)
    refine hK.out _ _ ?_ (fun zH_=>?_)
    ·(try dsimp only);exact ⟨HCC.out _ _ ST9.out,HB0.out⟩
    clear hK K;refine wpAnyH_done (by kernel_rfl) ?_ _
    clear zH_;have HE:Hid (T++oneB 91++CK++CM++litF s n x.key z++⟨#[32,45,62,32]⟩++litF s n x.elem y=T++oneB 91++catK (fun i=>(entsD (litF s n x.key) (litF s n x.elem) v).getD i ⟨#[]⟩) (k+1)):=by show _=_;rw[HCS.out];simp only[ByteArray.append_assoc]
    go_wp2
    go_roundw
    case rel=>exact ⟨k+1,by omega,by go_num,by have h:=ST9.out;rw[HE.out] at h;exact h⟩
    case measure=>simp[intOf];omega
   ·obtain rfl:k=v.keys.length:=by omega
    have HE:Hid (catK (fun i=>(entsD (litF s n x.key) (litF s n x.elem) v).getD i ⟨#[]⟩) v.keys.length=catL (entsD (litF s n x.key) (litF s n x.elem) v)):=by show _=_;unfold catL;rw[HEL.out]
    have STe:=STr;rw[HE.out] at STe;go_wp2_with fail;refine (STe.out.bld.byte 93 (by have:=HZ.out;rw[zH,zH];show _+1+_+1≤_;omega) STe.out.ge).mono ?_
    rintro e' w8 ⟨rfl,g1,g2,g3⟩;have ST8:=zh (STe.out.step g1 g2 g3);clear g1 g2 g3;go_wp2;refine bodyPost_end (results_none Tryz.results44 _ _ _) rfl ⟨rfl,by rw[HL.out];(have h:=ST8.out.bld;simp only[ByteArray.append_assoc] at h ⊢;exact h),ST8.out.fr,ST8.out.ot⟩
end Go.Proofs.YthkkllmmbefedaaGreatDoor


