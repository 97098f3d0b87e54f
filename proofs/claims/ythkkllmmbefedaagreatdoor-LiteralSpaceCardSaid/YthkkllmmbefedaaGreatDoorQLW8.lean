/-
  Walks: literal.write, kinds 5.
-/
import Derived.Test.YthkkllmmbefedaaGreatDoorQGA10
import Derived.Test.YthkkllmmbefedaaGreatDoorQGA9
namespace Go.Proofs.YthkkllmmbefedaaGreatDoor
open Go.RowKit
set_option maxHeartbeats 16000000
set_option maxRecDepth 100000
theorem write_k5 {s:List TyD} {A:zo} {c n:Nat} (_hv:zQ s=0) (hn:Num64 s) (ih:WriteAt s A c n):WriteK s A c n 5:=by
 intro t v A1 c1 A2 c2 A3 c3 w0 w B b T e hf hs hr htb hg hb0 hB hbl hsz
 obtain ⟨i0,i1,i2,i3⟩:=fitF_out hf;obtain ⟨tn,rfl⟩:=Int.eq_ofNat_of_zero_le i0;have htn:tn<s.length:=by omega
 have hln:=hs.1.lt (by omega)
 rw[zT htn] at i2 i3 e;have HL0:Hid (litF s (n+1) (tn:Int) v=litB (litF s n) s[tn] v):=by show _=_;rw[litF,zT htn]
 have HXN:=zh (hn _ (List.getElem_mem htn));obtain ⟨HBW,H5,H7⟩:=zy w (.cells #[.slice A s.length c] 31) (v.box A1 c1 A2 c2 A3 c3);have HIH:=zh ih;have HS:=zh hs;have HR:=zh hr;have HTB:=zh htb;have HG:=zh hg;have HB0:=zh hb0;have HGE:=zh hB;have HBL:=zh hbl;have hblt:=hbl.lt;obtain ⟨L,hL⟩:∃L,litF s (n+1) (tn:Int) v=L:=⟨_,rfl⟩;rw[hL] at hsz HL0;simp only[hL];have HSZ:=zh hsz
 have HU:Hid (Below w0.heap.size w0 ((w.alloc (.cells #[.slice A s.length c] 31)).alloc (v.box A1 c1 A2 c2 A3 c3))):=(hb0.trans (HBW.out.mono hB)).mono hg;obtain ⟨bq,oq,As,cs,Am,cm,hA,htr,t0,t1,t2,t3,t4,t5,t6,t7,t8,t9⟩:=hs.at10 htn;clear hL hf ih hs hr htb hg hb0 hB hbl hsz _hv hn i0 i1;subst hA;generalize s[tn]=x at *;have HTR:=zh htr;have HFB:=zh i3;have HVK:=zh (i2.trans e);have HK:=zh e
 clear htr i3 i2 e;replace t0:=zA HU.out t0;replace t1:=zA HU.out t1;replace t2:=zA HU.out t2;replace t3:=zA HU.out t3;replace t4:=zA HU.out t4;replace t5:=zA HU.out t5;replace t6:=zA HU.out t6;replace t7:=zA HU.out t7;replace t8:=zA HU.out t8;replace t9:=zA HU.out t9;have h1:(0:Int)≤(tn:Int):=by omega
 have h2:(tn:Int)<(s.length:Int):=by omega
 go_enter Tryz.func44,Tryz.ntmps44
 go_upto_region 1 with fail
 have hsz2:Hid (((w.alloc (.cells #[.slice (some ⟨bq,oq,none⟩) s.length c] 31)).alloc (v.box A1 c1 A2 c2 A3 c3)).heap.size=w.heap.size+2):=by show _=_;simp
 generalize (w.alloc (.cells #[.slice (some ⟨bq,oq,none⟩) s.length c] 31)).alloc (v.box A1 c1 A2 c2 A3 c3)=W2 at *;have x0:=zb H5.out;go_upto_region 2 with fail
 clear t0 t1 t2 t3 t4 t5 t6 t7 t8 t9 x0;have HBX:=zh (zD W2 (x.box As cs Am cm));have ST:Hid (WrSt s (some ⟨bq,oq,none⟩) c x As cs Am cm v A1 c1 A2 c2 A3 c3 B b w.heap.size (w.heap.size+1) W2.heap.size w (W2.alloc (x.box As cs Am cm)) (T)):=by
  have hz:=hsz2.out;have hge:=HGE.out;exact ⟨(HBL.out.below HBW.out).below HBX.out,(HBW.out.mono HGE.out).trans (HBX.out.mono (by omega)),oth_trans (yD HBW.out) (yD HBX.out),by omega,by omega,by omega,zE H5.out HBX.out,zE H7.out HBX.out,heap_alloc_new W2 _,by have:=HGE.out;have:=HBX.out.size;omega⟩
 generalize W2.alloc (x.box As cs Am cm)=W3 at *;generalize W2.heap.size=p8 at *;clear hsz2 hblt HBW H5 H7 HBL HU HBX h1 h2;obtain ⟨q1,q2,q3,q4,q5⟩:=zk5 HK.out;obtain ⟨v0,v1,v2,v3,v4,v5,v6,v7⟩:=zF ST.out.h7;obtain ⟨b0,b1,b2,b3,b4,b5,b6,b7,b8,b9⟩:=zG ST.out.h8;have x0:=ST.out.c5;have HL:Hid (L=⟨#[123]⟩++catL (partsD (litF s n) x v)++⟨#[125]⟩):=HL0.out.trans (lit5 HK.out)
 have HF:=zh (fit5 HK.out HFB.out);have HZ:Hid (T.size+(1+(catL (partsD (litF s n) x v)).size+1)≤140737488355328):=by have:=HSZ.out;rw[HL.out,zH,zH] at this;exact this
 have HPL:=zh (parts_len (f:=litF s n) HF.out.1);have hlm:=HTR.out.mems.1.lt (by omega)
 have hlr:=HR.out.rest.1.lt (by omega)
 have hli:=HR.out.items.1.lt (by omega)
 go_wp2_with fail
 refine (ST.out.bld.byte 123 (by have:=HZ.out;omega) ST.out.ge).mono ?_
 rintro e' w5 ⟨rfl,g1,g2,g3⟩;have ST5:=zh (ST.out.step g1 g2 g3);clear g1 g2 g3;clear v0 v1 v2 v3 v4 v5 v6 v7 b0 b1 b2 b3 b4 b5 b6 b7 b8 b9 x0;obtain ⟨v0,v1,v2,v3,v4,v5,v6,v7⟩:=zF ST5.out.h7;obtain ⟨b0,b1,b2,b3,b4,b5,b6,b7,b8,b9⟩:=zG ST5.out.h8;have x0:=ST5.out.c5;go_wp2_with fail
 go_loopw [80] (fun i wr=>∃k:Nat,k≤x.mems.length∧i = .int .i64 (k:Int)∧Hid (WrSt s (some ⟨bq,oq,none⟩) c x As cs Am cm v A1 c1 A2 c2 A3 c3 B b w.heap.size (w.heap.size+1) p8 w wr (T++oneB 123++catK (fun i=>(partsD (litF s n) x v).getD i ⟨#[]⟩) k))) (fun i _=>x.mems.length - (intOf i).toNat)
 case atStart=>exact ⟨0,by omega,rfl,by have h:=ST5.out;rw[show T++oneB 123=T++oneB 123++catK (fun i=>(partsD (litF s n) x v).getD i ⟨#[]⟩) 0 from (app_nil _).symm] at h;exact h⟩
 case round =>
  obtain ⟨k,hk,rfl,hh⟩:=hrel;have STr:=zh hh.out;clear v0 v1 v2 v3 v4 v5 v6 v7 b0 b1 b2 b3 b4 b5 b6 b7 b8 b9 x0 hh
  by_cases hlt:k<x.mems.length
  ·have hlt2:k<v.items.length:=by have:=HF.out.1;omega
   obtain ⟨mb,mo,M1,m1,M2,m2,M3,m3,hM,_,d0,d1,d2,d3,d4,d5,d6,d7,d8,d9,d10,d11,d12⟩:=HTR.out.mems.at13 hlt;replace d0:=zA (STr.out.up HB0.out HG.out) d0;replace d1:=zA (STr.out.up HB0.out HG.out) d1;replace d2:=zA (STr.out.up HB0.out HG.out) d2;replace d3:=zA (STr.out.up HB0.out HG.out) d3;replace d4:=zA (STr.out.up HB0.out HG.out) d4;replace d5:=zA (STr.out.up HB0.out HG.out) d5
   replace d6:=zA (STr.out.up HB0.out HG.out) d6;replace d7:=zA (STr.out.up HB0.out HG.out) d7;replace d8:=zA (STr.out.up HB0.out HG.out) d8;replace d9:=zA (STr.out.up HB0.out HG.out) d9;replace d10:=zA (STr.out.up HB0.out HG.out) d10;replace d11:=zA (STr.out.up HB0.out HG.out) d11;replace d12:=zA (STr.out.up HB0.out HG.out) d12
   obtain ⟨ib,io,E1,e1,E2,e2,E3,e3,hI,hir,a0,a1,a2,a3,a4,a5,a6,a7⟩:=HR.out.items.at8 hlt2;have HIR:=zh hir;have HA:=zh (And.intro a0 (And.intro a1 (And.intro a2 (And.intro a3 (And.intro a4 (And.intro a5 (And.intro a6 a7)))))));clear hir a0 a1 a2 a3 a4 a5 a6 a7;have hmem:=HF.out.2.2 k hlt hlt2;have hel:k<(partsD (litF s n) x v).length:=by rw[HPL.out];omega
   have HPT:=zh (catL_part (l:=partsD (litF s n) x v) hel);have HCS:=zh (catL_step (l:=partsD (litF s n) x v) hel);rw[parts_mem HF.out.1 hlt hlt2] at HPT HCS;clear hel;generalize x.mems[k]=m at *;generalize v.items[k]=y at *;have HFY:=zh hmem;clear hmem;generalize hCK:catK (fun i=>(partsD (litF s n) x v).getD i ⟨#[]⟩) k=CK at *
   generalize hCM:(if k=0 then (⟨#[]⟩:ByteArray) else ⟨#[44,32]⟩)=CM at *
   have HSZ2:Hid ((T++oneB 123++CK).size+CM.size+(m.name.size+2+(litF s n m.type y).size)≤140737488355328):=by have:=HZ.out;have h:=HPT.out;rw[zH (m.name++_),zH m.name] at h;rw[zH,zH];change _+_+(_+2+_)≤_ at h;show _+1+_+_+_≤_;omega
   subst hI;subst hM;have h1:(0:Int)≤(k:Int):=by omega
   have h2:(k:Int)<(x.mems.length:Int):=by omega
   have h3:(k:Int)<(v.items.length:Int):=by omega
   have hblt:=STr.out.bld.lt;have HNB:=zh (zD wr (m.box M1 m1 M2 m2 M3 m3));have HYB:=zh (heap_alloc_new wr (m.box M1 m1 M2 m2 M3 m3));have STa:=zh (STr.out.below HNB.out);obtain ⟨v0,v1,v2,v3,v4,v5,v6,v7⟩:=zF STr.out.h7;obtain ⟨b0,b1,b2,b3,b4,b5,b6,b7,b8,b9⟩:=zG STr.out.h8;have x0:=STr.out.c5;go_upto_region 19 with fail
   clear v0 v1 v2 v3 v4 v5 v6 v7 b0 b1 b2 b3 b4 b5 b6 b7 b8 b9 x0 d0 d1 d2 d3 d4 d5 d6 d7 d8 d9 d10 d11 d12;generalize wr.alloc (m.box M1 m1 M2 m2 M3 m3)=W4 at *;generalize wr.heap.size=p12 at *;have hne:p12≠b:=by omega
   go_wp2_with fail
   refine (comma_any STa.out.bld k (by rw[hCM];have:=HSZ2.out;omega) STa.out.ge).mono ?_
   rintro e' w6 ⟨rfl,g1,g2,g3⟩;rw[hCM] at g1;have ST6:=zh (STa.out.step g1 g2 g3);have HY6:=zh (g3.blk HYB.out hne (by decide))
   clear g1 g2 g3;obtain ⟨y0,y1,y2,-⟩:=mbx_cells HY6.out;have n1:¬ 9223372036854775807<m.name.size+(⟨#[58,32]⟩:ByteArray).size:=by have:=HSZ2.out;show ¬ _<_+2;omega
   have n2:¬ 9223372036854775807<m.name.size+2:=n1;go_wp2_with fail;refine (ST6.out.bld.write _ ?_ ST6.out.ge).mono ?_
   ·have:=HSZ2.out;have e1:(⟨#[58,32]⟩:ByteArray).size=2:=rfl;rw[zH (T++oneB 123++CK),zH m.name];omega
   rintro e' w7 ⟨rfl,g1,g2,g3⟩;have ST7:=zh (ST6.out.step g1 g2 g3);have HY7:=zh (g3.blk HY6.out hne (by decide))
   clear g1 g2 g3;clear y0 y1 y2
   have HCC:Hid (∀w' T',WrSt s (some ⟨bq,oq,none⟩) c x As cs (some ⟨mb,mo,none⟩) cm v A1 c1 (some ⟨ib,io,none⟩) c2 A3 c3 B b w.heap.size (w.heap.size+1) p8 w w' (T')→w'.heap[p12]? = some (m.box M1 m1 M2 m2 M3 m3)→(w'.cell? ⟨w.heap.size,0,none⟩=some (.slice (some ⟨bq,oq,none⟩) s.length c)∧w'.cell? ⟨p12,2,none⟩=some (.int .i64 m.type)∧w'.cell? ⟨w.heap.size+1,6,none⟩=some (.slice (some ⟨ib,io,none⟩) v.items.length c2)∧w'.cell? ⟨ib,io+k * 8,none⟩=some (.int .i64 y.kind)∧w'.cell? ⟨ib,io+k * 8+1,none⟩=some (.bool y.bool)∧w'.cell? ⟨ib,io+k * 8+2,none⟩=some (.int .i64 y.int)∧w'.cell? ⟨ib,io+k * 8+3,none⟩=some (.string y.str)∧w'.cell? ⟨ib,io+k * 8+4,none⟩=some (.int .i64 y.id)∧w'.cell? ⟨ib,io+k * 8+5,none⟩=some (.slice E1 y.keys.length e1)∧w'.cell? ⟨ib,io+k * 8+6,none⟩=some (.slice E2 y.items.length e2)∧w'.cell? ⟨ib,io+k * 8+7,none⟩=some (.slice E3 y.rest.length e3))):=fun w' T' st hy=>by
    obtain ⟨v0,v1,v2,v3,v4,v5,v6,v7⟩:=zF st.h7;obtain ⟨y0,y1,y2,-⟩:=mbx_cells hy;have u:=st.up HB0.out HG.out;obtain ⟨a0,a1,a2,a3,a4,a5,a6,a7⟩:=HA.out;exact ⟨st.c5,y2,v6,zA u a0,zA u a1,zA u a2,zA u a3,zA u a4,zA u a5,zA u a6,zA u a7⟩
   go_upto_region 21 with fail
   refine wp_region_held_drew (S:=(fun w'=>(w'.cell? ⟨w.heap.size,0,none⟩=some (.slice (some ⟨bq,oq,none⟩) s.length c)∧w'.cell? ⟨p12,2,none⟩=some (.int .i64 m.type)∧w'.cell? ⟨w.heap.size+1,6,none⟩=some (.slice (some ⟨ib,io,none⟩) v.items.length c2)∧w'.cell? ⟨ib,io+k * 8,none⟩=some (.int .i64 y.kind)∧w'.cell? ⟨ib,io+k * 8+1,none⟩=some (.bool y.bool)∧w'.cell? ⟨ib,io+k * 8+2,none⟩=some (.int .i64 y.int)∧w'.cell? ⟨ib,io+k * 8+3,none⟩=some (.string y.str)∧w'.cell? ⟨ib,io+k * 8+4,none⟩=some (.int .i64 y.id)∧w'.cell? ⟨ib,io+k * 8+5,none⟩=some (.slice E1 y.keys.length e1)∧w'.cell? ⟨ib,io+k * 8+6,none⟩=some (.slice E2 y.items.length e2)∧w'.cell? ⟨ib,io+k * 8+7,none⟩=some (.slice E3 y.rest.length e3))∧Hid (Below B w0 w))) (by kernel_rfl) ?_ (fun zH_=>?_)
   ·(try dsimp only);exact ⟨HCC.out _ _ (ST7.out.below (zC (Below.refl _ _) 1)) (zE HY7.out (zC (Below.refl _ _) 1)),HB0.out⟩
   refine tL 0 ?_;refine tL 1 ?_;refine tL 2 ?_;refine tL 3 ?_;refine tL 4 ?_;refine tL 5 ?_;try simp only[ps]
   refine tL 6 ?_;refine tL 7 ?_;refine tL 8 ?_;refine tR 9 (fun K hK=>?_)
   go_simp
   (refine (HIH.out m.type y E1 e1 E2 e2 E3 e3 w0 _ B b _ HFY.out HS.out HIR.out HTB.out HG.out (HB0.out.trans (ST7.out.below (zC (Below.refl _ _) 1)).fr) (ST7.out.below (zC (Below.refl _ _) 1)).ge (ST7.out.below (zC (Below.refl _ _) 1)).bld (by have:=HSZ2.out;have e1:(⟨#[58,32]⟩:ByteArray).size=2:=rfl;rw[zH,zH (T++oneB 123++CK),zH m.name];omega)).mono ?_;rintro e' w8 ⟨rfl,g1,g2,g3⟩;have ST8:=zh ((ST7.out.below (zC (Below.refl _ _) 1)).step g1 g2 g3);have HY8:=zh (g3.blk (zE HY7.out (zC (Below.refl _ _) 1)) hne (by decide));clear g1 g2 g3)
   refine hK.out _ _ ?_ (fun zH_=>?_)
   ·(try dsimp only);exact ⟨HCC.out _ _ ST8.out HY8.out,HB0.out⟩
   clear hK K;refine wpAnyH_done (by kernel_rfl) ?_ _
   clear zH_;have HE:Hid (T++oneB 123++CK++CM++(m.name++⟨#[58,32]⟩)++litF s n m.type y=T++oneB 123++catK (fun i=>(partsD (litF s n) x v).getD i ⟨#[]⟩) (k+1)):=by show _=_;rw[HCS.out];simp only[ByteArray.append_assoc]
   go_wp2
   go_roundw
   case rel=>exact ⟨k+1,by omega,by go_num,by have h:=ST8.out;rw[HE.out] at h;exact h⟩
   case measure=>simp[intOf];omega
  ·obtain rfl:k=x.mems.length:=by omega
   have q3:¬ ((x.mems.length:Nat):Int)<((x.mems.length:Nat):Int):=by omega
   obtain ⟨v0,v1,v2,v3,v4,v5,v6,v7⟩:=zF STr.out.h7;obtain ⟨b0,b1,b2,b3,b4,b5,b6,b7,b8,b9⟩:=zG STr.out.h8;have x0:=STr.out.c5;obtain ⟨wk,rfl⟩:∃wk:World,wk=wr:=⟨_,rfl⟩;go_wp2_with fail
   go_loopw [107] (fun i wr=>∃k:Nat,k≤v.rest.length∧i = .int .i64 (k:Int)∧Hid (WrSt s (some ⟨bq,oq,none⟩) c x As cs Am cm v A1 c1 A2 c2 A3 c3 B b w.heap.size (w.heap.size+1) p8 w wr (T++oneB 123++catK (fun i=>(partsD (litF s n) x v).getD i ⟨#[]⟩) (x.mems.length+k)))) (fun i _=>v.rest.length - (intOf i).toNat)
   case atStart=>exact ⟨0,by omega,rfl,STr.out⟩
   case round =>
    obtain ⟨k,hk,rfl,hh⟩:=hrel;have STq:=zh hh.out;clear v0 v1 v2 v3 v4 v5 v6 v7 b0 b1 b2 b3 b4 b5 b6 b7 b8 b9 x0 hh q3;obtain ⟨wq,rfl⟩:∃wq:World,wq=wr:=⟨_,rfl⟩
    by_cases hlt:k<v.rest.length
    ·obtain ⟨rb,ro,hRB,_,a0,a1⟩:=HR.out.rest.at2 hlt
     replace a0:=zA (STq.out.up HB0.out HG.out) a0;replace a1:=zA (STq.out.up HB0.out HG.out) a1;have hfr:=HF.out.2.1 _ (List.getElem_mem hlt);have hel:x.mems.length+k<(partsD (litF s n) x v).length:=by rw[HPL.out];omega
     have HPT:=zh (catL_part (l:=partsD (litF s n) x v) hel);have HCS:=zh (catL_step (l:=partsD (litF s n) x v) hel);rw[parts_raw HF.out.1 hlt] at HPT HCS;clear hel;generalize v.rest[k]=r at *;have HFR:=zh hfr;clear hfr;generalize hCK:catK (fun i=>(partsD (litF s n) x v).getD i ⟨#[]⟩) (x.mems.length+k)=CK at *
     generalize hCM:(if x.mems.length+k=0 then (⟨#[]⟩:ByteArray) else ⟨#[44,32]⟩)=CM at *
     have HSZ2:Hid ((T++oneB 123++CK).size+CM.size+((decB r.id).size+2+(quD r.data).size)≤140737488355328):=by have:=HZ.out;have h:=HPT.out;rw[zH (decB r.id++_),zH (decB r.id)] at h;rw[zH,zH];change _+_+(_+2+_)≤_ at h;show _+1+_+_+_≤_;omega
     subst hRB;have h1:(0:Int)≤(k:Int):=by omega
     have h2:(k:Int)<(v.rest.length:Int):=by omega
     have hblt:=STq.out.bld.lt;have HNB:=zh (zD wq (RawD.box r));have HYB:=zh (heap_alloc_new wq (RawD.box r));have STa:=zh (STq.out.below HNB.out);obtain ⟨v0,v1,v2,v3,v4,v5,v6,v7⟩:=zF STq.out.h7;obtain ⟨b0,b1,b2,b3,b4,b5,b6,b7,b8,b9⟩:=zG STq.out.h8;have x0:=STq.out.c5;go_upto_region 26 with fail
     clear v0 v1 v2 v3 v4 v5 v6 v7 b0 b1 b2 b3 b4 b5 b6 b7 b8 b9 x0 a0 a1;generalize wq.alloc (RawD.box r)=W4 at *;generalize wq.heap.size=p14 at *;have hne:p14≠b:=by omega
     obtain ⟨v0,v1,v2,v3,v4,v5,v6,v7⟩:=zF STa.out.h7;obtain ⟨b0,b1,b2,b3,b4,b5,b6,b7,b8,b9⟩:=zG STa.out.h8;have x0:=STa.out.c5;have hcm:Calls Tryz.prog 70 #[.pointer (some ⟨b,0,none⟩),.int .i64 ((x.mems.length:Int)+(k:Int))] W4 _:=comma_any STa.out.bld (x.mems.length+k) (by rw[hCM];have:=HSZ2.out;omega) STa.out.ge
     have HCMA:=zh hcm;clear hcm;go_wp2_with fail;refine HCMA.out.mono ?_;rintro e' w6 ⟨rfl,g1,g2,g3⟩;rw[hCM] at g1;have ST6:=zh (STa.out.step g1 g2 g3);have HY6:=zh (g3.blk HYB.out hne (by decide))
     clear g1 g2 g3 HCMA;clear v0 v1 v2 v3 v4 v5 v6 v7 b0 b1 b2 b3 b4 b5 b6 b7 b8 b9 x0;have n1:¬ 9223372036854775807<(decB r.id).size+(⟨#[58,32]⟩:ByteArray).size:=by have:=HSZ2.out;show ¬ _<_+2;omega
     have n2:¬ 9223372036854775807<(decB r.id).size+2:=n1;have n3:¬ 9223372036854775807<(decB r.id++⟨#[58,32]⟩:ByteArray).size+(quD r.data).size:=by have:=HSZ2.out;rw[zH];show ¬ _<_+2+_;omega
     have n4:¬ 9223372036854775807<(decB r.id).size+2+(quD r.data).size:=by have:=HSZ2.out;omega
     have HCC:Hid (∀w':World,w'.heap[p14]? = some (RawD.box r)→(w'.cell? ⟨p14,0,none⟩=some (.int .i64 r.id)∧w'.cell? ⟨p14,1,none⟩=some (.string r.data))):=fun w' hy=>⟨by rw[cell_of_row _ _ _ _ _ _ hy];rfl,by rw[cell_of_row _ _ _ _ _ _ hy];rfl⟩
     go_upto_region 27 with fail
     refine wp_region_held_drew (S:=(fun w'=>(w'.cell? ⟨p14,0,none⟩=some (.int .i64 r.id)∧w'.cell? ⟨p14,1,none⟩=some (.string r.data))∧Hid (Below B w0 w))) (by kernel_rfl) ?_ (fun zH_=>?_)
     ·(try dsimp only);exact ⟨HCC.out _ (zE HY6.out (zC (Below.refl _ _) 1)),HB0.out⟩
     refine tL 0 ?_;refine tL 1 ?_;try simp only[ps]
     refine tL 2 ?_;refine tL 5 ?_;refine tL 6 ?_;refine tR 3 (fun K hK=>?_)
     go_simp
     (refine (itoa_any r.id (free_in HFR.out) _ (HTB.out.below ((ST6.out.below (zC (Below.refl _ _) 1)).up HB0.out HG.out))).mono ?_;rintro e' w7 ⟨rfl,hb7⟩;have ST7:=zh ((ST6.out.below (zC (Below.refl _ _) 1)).below hb7);have HY7:=zh (zE (zE HY6.out (zC (Below.refl _ _) 1)) hb7);clear hb7)
     refine hK.out _ _ ?_ (fun zH_=>?_)
     ·(try dsimp only);exact ⟨HCC.out _ HY7.out,HB0.out⟩
     clear hK K;refine tL 4 ?_;refine tR 7 (fun K hK=>?_)
     go_simp
     (refine (quote_any r.data (by have:=HSZ2.out;omega) _).mono ?_;rintro e' w8 ⟨rfl,hb8⟩;have ST8:=zh (ST7.out.below hb8);have HY8:=zh (zE HY7.out hb8);clear hb8)
     refine hK.out _ _ ?_ (fun zH_=>?_)
     ·(try dsimp only);exact ⟨HCC.out _ HY8.out,HB0.out⟩
     clear hK K;try simp only[ps]
     refine tL 8 ?_;refine tR 9 (fun K hK=>?_)
     go_simp
     (refine (ST8.out.bld.write _ ?_ ST8.out.ge).mono ?_;(· have:=HSZ2.out;have e1:(⟨#[58,32]⟩:ByteArray).size=2:=rfl;rw[zH (T++oneB 123++CK),zH (decB r.id++_),zH (decB r.id)];omega);rintro e' w9 ⟨rfl,g1,g2,g3⟩;have ST9:=zh (ST8.out.step g1 g2 g3);have HY9:=zh (g3.blk HY8.out hne (by decide));clear g1 g2 g3)
     refine hK.out _ _ ?_ (fun zH_=>?_)
     ·(try dsimp only);exact ⟨HCC.out _ HY9.out,HB0.out⟩
     clear hK K;refine wpAnyH_done (by kernel_rfl) ?_ _
     clear zH_;have HE:Hid (T++oneB 123++CK++CM++(decB r.id++⟨#[58,32]⟩++quD r.data)=T++oneB 123++catK (fun i=>(partsD (litF s n) x v).getD i ⟨#[]⟩) (x.mems.length+(k+1))):=by show _=_;rw[←Nat.add_assoc,HCS.out];simp only[ByteArray.append_assoc]
     go_wp2
     go_roundw
     case rel=>exact ⟨k+1,by omega,by go_num,by have h:=ST9.out;rw[HE.out] at h;exact h⟩
     case measure=>simp[intOf];omega
    ·obtain rfl:k=v.rest.length:=by omega
     have HE:Hid (catK (fun i=>(partsD (litF s n) x v).getD i ⟨#[]⟩) (x.mems.length+v.rest.length)=catL (partsD (litF s n) x v)):=by show _=_;unfold catL;rw[HPL.out]
     have STe:=STq;rw[HE.out] at STe;go_wp2_with fail;refine (STe.out.bld.byte 125 (by have:=HZ.out;rw[zH,zH];show _+1+_+1≤_;omega) STe.out.ge).mono ?_
     rintro e' w8 ⟨rfl,g1,g2,g3⟩;have ST8:=zh (STe.out.step g1 g2 g3);clear g1 g2 g3;go_wp2;refine bodyPost_end (results_none Tryz.results44 _ _ _) rfl ⟨rfl,by rw[HL.out];(have h:=ST8.out.bld;simp only[ByteArray.append_assoc] at h ⊢;exact h),ST8.out.fr,ST8.out.ot⟩
end Go.Proofs.YthkkllmmbefedaaGreatDoor


