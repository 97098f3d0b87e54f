/-
  Walks: literal.write, kinds 5.
-/
import Derived.Test.YthkkllmmbefedaaGreatDoorQGA10
import Derived.Test.YthkkllmmbefedaaGreatDoorQGA9
namespace Go.Proofs.YthkkllmmbefedaaGreatDoor
open Go.RowKit
set_option maxHeartbeats 16000000
set_option maxRecDepth 100000
theorem bM {s:List Aa} {A:zo} {c n:Nat} (_hv:zQ s=0) (hn:DI s) (ih:WriteAt s A c n):IW s A c n 5:=by
 intro t v A1 c1 A2 c2 A3 c3 w0 w B b T e hf hs hr htb hg hb0 hB hbl hsz
 obtain ⟨i0,i1,i2,i3⟩:=Bt hf;obtain ⟨tn,rfl⟩:=AAY i0;have htn:tn<s.length:=by omega
 have hln:=hs.1.lt (by omega)
 rw[zT htn] at i2 i3 e;have Gc:Hid (Ae s (n+1) (tn:Int) v=Bd (Ae s n) s[tn] v):=by show _=_;rw[Ae,zT htn]
 have oL:=zh (hn _ (AAU htn));obtain ⟨Bw,H5,H7⟩:=zy w (.cells #[.slice A s.length c] 31) (v.box A1 c1 A2 c2 A3 c3);have EI:=zh ih;have HS:=zh hs;have HR:=zh hr;have KJ:=zh htb;have HG:=zh hg;have HB0:=zh hb0;have Jh:=zh hB;have F5:=zh hbl;have hblt:=hbl.lt;obtain ⟨L,hL⟩:∃L,Ae s (n+1) (tn:Int) v=L:=⟨_,rfl⟩;rw[hL] at hsz Gc;simp only[hL];have Ee:=zh hsz
 have HU:Hid (Below w0.heap.size w0 ((w.alloc (.cells #[.slice A s.length c] 31)).alloc (v.box A1 c1 A2 c2 A3 c3))):=(hb0.trans (Bw.out.mono hB)).mono hg;obtain ⟨bq,oq,As,cs,Am,cm,hA,htr,t0,t1,t2,t3,t4,t5,t6,t7,t8,t9⟩:=hs.JX htn;clear hL hf ih hs hr htb hg hb0 hB hbl hsz _hv hn i0 i1;subst hA;generalize s[tn]=x at *;have Hz:=zh htr;have Fe:=zh i3;have jM:=zh (i2.trans e);have HK:=zh e
 clear htr i3 i2 e;replace t0:=zA HU t0;replace t1:=zA HU t1;replace t2:=zA HU t2;replace t3:=zA HU t3;replace t4:=zA HU t4;replace t5:=zA HU t5;replace t6:=zA HU t6;replace t7:=zA HU t7;replace t8:=zA HU t8;replace t9:=zA HU t9;have h1:(0:Int)<=(tn:Int):=by omega
 have h2:(tn:Int)<(s.length:Int):=by omega
 go_enter Tryz.func44,Tryz.ntmps44
 go_upto_region 1 with fail
 have hsz2:Hid (((w.alloc (.cells #[.slice (some ⟨bq,oq,none⟩) s.length c] 31)).alloc (v.box A1 c1 A2 c2 A3 c3)).heap.size=w.heap.size+2):=by show _=_;simp
 generalize (w.alloc (.cells #[.slice (some ⟨bq,oq,none⟩) s.length c] 31)).alloc (v.box A1 c1 A2 c2 A3 c3)=W2 at *;have x0:=zb H5;go_upto_region 2 with fail
 clear t0 t1 t2 t3 t4 t5 t6 t7 t8 t9 x0;have BS:=zh (zD W2 (x.box As cs Am cm));have ST:Hid (EA s (some ⟨bq,oq,none⟩) c x As cs Am cm v A1 c1 A2 c2 A3 c3 B b w.heap.size (w.heap.size+1) W2.heap.size w (W2.alloc (x.box As cs Am cm)) (T)):=by
  have hz:=hsz2.out;have hge:=Jh.out;exact ⟨(F5.out.below Bw).below BS,(Bw.out.mono Jh.out).trans (BS.out.mono (by omega)),Cb (yD Bw) (yD BS),by omega,by omega,by omega,zE H5 BS,zE H7 BS,AAL W2 _,by have:=Jh.out;have:=BS.out.size;omega⟩
 generalize W2.alloc (x.box As cs Am cm)=W3 at *;generalize W2.heap.size=p8 at *;clear hsz2 hblt Bw H5 H7 F5 HU BS h1 h2;obtain ⟨q1,q2,q3,q4,q5⟩:=zk5 HK;obtain ⟨v0,v1,v2,v3,v4,v5,v6,v7⟩:=zF ST.out.h7;obtain ⟨b0,b1,b2,b3,b4,b5,b6,b7,b8,b9⟩:=zG ST.out.h8;have x0:=ST.out.c5;have HL:Hid (L=⟨#[123]⟩++FN (CJ (Ae s n) x v)++⟨#[125]⟩):=Gc.out.trans (AA8 HK)
 have HF:=zh (sM HK Fe);have HZ:Hid (T.size+(1+(FN (CJ (Ae s n) x v)).size+1)<=140737488355328):=by have:=Ee.out;rw[HL.out,zH,zH] at this;exact this
 have HPL:=zh (ZH (f:=Ae s n) HF.out.1);have hlm:=Hz.out.AA.1.lt (by omega)
 have hlr:=HR.out.rest.1.lt (by omega)
 have rZ:=HR.out.items.1.lt (by omega)
 go_wp2_with fail
 refine (ST.out.FD.byte 123 (by have:=HZ.out;omega) ST.out.ge).mono ?_
 rintro e' w5 ⟨rfl,g1,g2,g3⟩;have EN:=zh (ST.out.step g1 g2 g3);clear g1 g2 g3;clear v0 v1 v2 v3 v4 v5 v6 v7 b0 b1 b2 b3 b4 b5 b6 b7 b8 b9 x0;obtain ⟨v0,v1,v2,v3,v4,v5,v6,v7⟩:=zF EN.out.h7;obtain ⟨b0,b1,b2,b3,b4,b5,b6,b7,b8,b9⟩:=zG EN.out.h8;have x0:=EN.out.c5;go_wp2_with fail
 go_loopw [80] (fun i wr=>∃k:Nat,k<=x.AA.length/\i = .int .i64 (k:Int)/\Hid (EA s (some ⟨bq,oq,none⟩) c x As cs Am cm v A1 c1 A2 c2 A3 c3 B b w.heap.size (w.heap.size+1) p8 w wr (T++Cq 123++Dw (fun i=>(CJ (Ae s n) x v).getD i ⟨#[]⟩) k))) (fun i _=>x.AA.length - (intOf i).toNat)
 case atStart=>exact ⟨0,by omega,rfl,by have h:=EN.out;rw[show T++Cq 123=T++Cq 123++Dw (fun i=>(CJ (Ae s n) x v).getD i ⟨#[]⟩) 0 from (OX _).symm] at h;exact h⟩
 case round =>
  obtain ⟨k,hk,rfl,hh⟩:=hrel;have Eg:=zh hh.out;clear v0 v1 v2 v3 v4 v5 v6 v7 b0 b1 b2 b3 b4 b5 b6 b7 b8 b9 x0 hh
  by_cases hlt:k<x.AA.length
  ·have hlt2:k<v.items.length:=by have:=HF.out.1;omega
   obtain ⟨mb,mo,M1,m1,M2,m2,M3,m3,hM,_,d0,d1,d2,d3,d4,d5,d6,d7,d8,d9,RA,Q9,Q8⟩:=Hz.out.AA.K5 hlt;replace d0:=zA (Eg.out.up HB0 HG) d0;replace d1:=zA (Eg.out.up HB0 HG) d1;replace d2:=zA (Eg.out.up HB0 HG) d2;replace d3:=zA (Eg.out.up HB0 HG) d3;replace d4:=zA (Eg.out.up HB0 HG) d4;replace d5:=zA (Eg.out.up HB0 HG) d5
   replace d6:=zA (Eg.out.up HB0 HG) d6;replace d7:=zA (Eg.out.up HB0 HG) d7;replace d8:=zA (Eg.out.up HB0 HG) d8;replace d9:=zA (Eg.out.up HB0 HG) d9;replace RA:=zA (Eg.out.up HB0 HG) RA;replace Q9:=zA (Eg.out.up HB0 HG) Q9;replace Q8:=zA (Eg.out.up HB0 HG) Q8
   obtain ⟨ib,io,E1,e1,E2,e2,E3,e3,hI,hir,a0,a1,a2,a3,a4,a5,a6,a7⟩:=HR.out.items.at8 hlt2;have og:=zh hir;have HA:=zh (And.intro a0 (And.intro a1 (And.intro a2 (And.intro a3 (And.intro a4 (And.intro a5 (And.intro a6 a7)))))));clear hir a0 a1 a2 a3 a4 a5 a6 a7;have hmem:=HF.out.2.2 k hlt hlt2;have hel:k<(CJ (Ae s n) x v).length:=by rw[HPL.out];omega
   have YZ:=zh (KH (l:=CJ (Ae s n) x v) hel);have aY:=zh (KG (l:=CJ (Ae s n) x v) hel);rw[ZG HF.out.1 hlt hlt2] at YZ aY;clear hel;generalize x.AA[k]=m at *;generalize v.items[k]=y at *;have Yf:=zh hmem;clear hmem;generalize hCK:Dw (fun i=>(CJ (Ae s n) x v).getD i ⟨#[]⟩) k=CK at *
   generalize hCM:(if k=0 then (⟨#[]⟩:ByteArray) else ⟨#[44,32]⟩)=CM at *
   have IZ:Hid ((T++Cq 123++CK).size+CM.size+(m.name.size+2+(Ae s n m.type y).size)<=140737488355328):=by have:=HZ.out;have h:=YZ.out;rw[zH (m.name++_),zH m.name] at h;rw[zH,zH];change _+_+(_+2+_)<=_ at h;show _+1+_+_+_<=_;omega
   subst hI;subst hM;have h1:(0:Int)<=(k:Int):=by omega
   have h2:(k:Int)<(x.AA.length:Int):=by omega
   have h3:(k:Int)<(v.items.length:Int):=by omega
   have hblt:=Eg.out.FD.lt;have NP:=zh (zD wr (m.box M1 m1 M2 m2 M3 m3));have ak:=zh (AAL wr (m.box M1 m1 M2 m2 M3 m3));have Sq:=zh (Eg.out.below NP);obtain ⟨v0,v1,v2,v3,v4,v5,v6,v7⟩:=zF Eg.out.h7;obtain ⟨b0,b1,b2,b3,b4,b5,b6,b7,b8,b9⟩:=zG Eg.out.h8;have x0:=Eg.out.c5;go_upto_region 19 with fail
   clear v0 v1 v2 v3 v4 v5 v6 v7 b0 b1 b2 b3 b4 b5 b6 b7 b8 b9 x0 d0 d1 d2 d3 d4 d5 d6 d7 d8 d9 RA Q9 Q8;generalize wr.alloc (m.box M1 m1 M2 m2 M3 m3)=W4 at *;generalize wr.heap.size=p12 at *;have hne:p12≠b:=by omega
   go_wp2_with fail
   refine (KF Sq.out.FD k (by rw[hCM];have:=IZ.out;omega) Sq.out.ge).mono ?_
   rintro e' w6 ⟨rfl,g1,g2,g3⟩;rw[hCM] at g1;have GZ:=zh (Sq.out.step g1 g2 g3);have au:=zh (g3.blk ak hne (by decide))
   clear g1 g2 g3;obtain ⟨y0,y1,y2,-⟩:=Qt au;have n1:¬ 9223372036854775807<m.name.size+(⟨#[58,32]⟩:ByteArray).size:=by have:=IZ.out;show ¬ _<_+2;omega
   have n2:¬ 9223372036854775807<m.name.size+2:=n1;go_wp2_with fail;refine (GZ.out.FD.write _ ?_ GZ.out.ge).mono ?_
   ·have:=IZ.out;have e1:(⟨#[58,32]⟩:ByteArray).size=2:=rfl;rw[zH (T++Cq 123++CK),zH m.name];omega
   rintro e' w7 ⟨rfl,g1,g2,g3⟩;have Nq:=zh (GZ.out.step g1 g2 g3);have xu:=zh (g3.blk au hne (by decide))
   clear g1 g2 g3;clear y0 y1 y2
   have Ip:Hid (∀w' T',EA s (some ⟨bq,oq,none⟩) c x As cs (some ⟨mb,mo,none⟩) cm v A1 c1 (some ⟨ib,io,none⟩) c2 A3 c3 B b w.heap.size (w.heap.size+1) p8 w w' (T')->w'.heap[p12]? = some (m.box M1 m1 M2 m2 M3 m3)->(w'.cell? ⟨w.heap.size,0,none⟩=some (.slice (some ⟨bq,oq,none⟩) s.length c)/\w'.cell? ⟨p12,2,none⟩=some (.int .i64 m.type)/\w'.cell? ⟨w.heap.size+1,6,none⟩=some (.slice (some ⟨ib,io,none⟩) v.items.length c2)/\w'.cell? ⟨ib,io+k * 8,none⟩=some (.int .i64 y.kind)/\w'.cell? ⟨ib,io+k * 8+1,none⟩=some (.bool y.bool)/\w'.cell? ⟨ib,io+k * 8+2,none⟩=some (.int .i64 y.int)/\w'.cell? ⟨ib,io+k * 8+3,none⟩=some (.string y.str)/\w'.cell? ⟨ib,io+k * 8+4,none⟩=some (.int .i64 y.id)/\w'.cell? ⟨ib,io+k * 8+5,none⟩=some (.slice E1 y.keys.length e1)/\w'.cell? ⟨ib,io+k * 8+6,none⟩=some (.slice E2 y.items.length e2)/\w'.cell? ⟨ib,io+k * 8+7,none⟩=some (.slice E3 y.rest.length e3))):=fun w' T' st hy=>by
    obtain ⟨v0,v1,v2,v3,v4,v5,v6,v7⟩:=zF st.h7;obtain ⟨y0,y1,y2,-⟩:=Qt hy;have u:=st.up HB0 HG;obtain ⟨a0,a1,a2,a3,a4,a5,a6,a7⟩:=HA.out;exact ⟨st.c5,y2,v6,zA u a0,zA u a1,zA u a2,zA u a3,zA u a4,zA u a5,zA u a6,zA u a7⟩
   go_upto_region 21 with fail
   refine wp_region_held_drew (S:=(fun w'=>(w'.cell? ⟨w.heap.size,0,none⟩=some (.slice (some ⟨bq,oq,none⟩) s.length c)/\w'.cell? ⟨p12,2,none⟩=some (.int .i64 m.type)/\w'.cell? ⟨w.heap.size+1,6,none⟩=some (.slice (some ⟨ib,io,none⟩) v.items.length c2)/\w'.cell? ⟨ib,io+k * 8,none⟩=some (.int .i64 y.kind)/\w'.cell? ⟨ib,io+k * 8+1,none⟩=some (.bool y.bool)/\w'.cell? ⟨ib,io+k * 8+2,none⟩=some (.int .i64 y.int)/\w'.cell? ⟨ib,io+k * 8+3,none⟩=some (.string y.str)/\w'.cell? ⟨ib,io+k * 8+4,none⟩=some (.int .i64 y.id)/\w'.cell? ⟨ib,io+k * 8+5,none⟩=some (.slice E1 y.keys.length e1)/\w'.cell? ⟨ib,io+k * 8+6,none⟩=some (.slice E2 y.items.length e2)/\w'.cell? ⟨ib,io+k * 8+7,none⟩=some (.slice E3 y.rest.length e3))/\Hid (Below B w0 w))) (by kernel_rfl) ?_ (fun AQ=>?_)
   ·(try dsimp only);exact ⟨Ip.out _ _ (Nq.out.below (zC (Pe _ _) 1)) (zE xu (zC (Pe _ _) 1)),HB0.out⟩
   refine tL 0 ?_;refine tL 1 ?_;refine tL 2 ?_;refine tL 3 ?_;refine tL 4 ?_;refine tL 5 ?_;try simp only[ps]
   refine tL 6 ?_;refine tL 7 ?_;refine tL 8 ?_;refine tR 9 (fun K hK=>?_)
   go_simp
   (refine (EI.out m.type y E1 e1 E2 e2 E3 e3 w0 _ B b _ Yf HS og KJ HG (HB0.out.trans (Nq.out.below (zC (Pe _ _) 1)).fr) (Nq.out.below (zC (Pe _ _) 1)).ge (Nq.out.below (zC (Pe _ _) 1)).FD (by have:=IZ.out;have e1:(⟨#[58,32]⟩:ByteArray).size=2:=rfl;rw[zH,zH (T++Cq 123++CK),zH m.name];omega)).mono ?_;rintro e' w8 ⟨rfl,g1,g2,g3⟩;have Kj:=zh ((Nq.out.below (zC (Pe _ _) 1)).step g1 g2 g3);have HY8:=zh (g3.blk (zE xu (zC (Pe _ _) 1)) hne (by decide));clear g1 g2 g3)
   refine hK.out _ _ ?_ (fun AQ=>?_)
   ·(try dsimp only);exact ⟨Ip.out _ _ Kj.out HY8,HB0.out⟩
   clear hK K;refine wpAnyH_done (by kernel_rfl) ?_ _
   clear AQ;have HE:Hid (T++Cq 123++CK++CM++(m.name++⟨#[58,32]⟩)++Ae s n m.type y=T++Cq 123++Dw (fun i=>(CJ (Ae s n) x v).getD i ⟨#[]⟩) (k+1)):=by show _=_;rw[aY.out];simp only[AAk]
   go_wp2
   go_roundw
   case rel=>exact ⟨k+1,by omega,by go_num,by have h:=Kj.out;rw[HE.out] at h;exact h⟩
   case measure=>simp[intOf];omega
  ·obtain rfl:k=x.AA.length:=by omega
   have q3:¬ ((x.AA.length:Nat):Int)<((x.AA.length:Nat):Int):=by omega
   obtain ⟨v0,v1,v2,v3,v4,v5,v6,v7⟩:=zF Eg.out.h7;obtain ⟨b0,b1,b2,b3,b4,b5,b6,b7,b8,b9⟩:=zG Eg.out.h8;have x0:=Eg.out.c5;obtain ⟨wk,rfl⟩:∃wk:World,wk=wr:=⟨_,rfl⟩;go_wp2_with fail
   go_loopw [107] (fun i wr=>∃k:Nat,k<=v.rest.length/\i = .int .i64 (k:Int)/\Hid (EA s (some ⟨bq,oq,none⟩) c x As cs Am cm v A1 c1 A2 c2 A3 c3 B b w.heap.size (w.heap.size+1) p8 w wr (T++Cq 123++Dw (fun i=>(CJ (Ae s n) x v).getD i ⟨#[]⟩) (x.AA.length+k)))) (fun i _=>v.rest.length - (intOf i).toNat)
   case atStart=>exact ⟨0,by omega,rfl,Eg.out⟩
   case round =>
    obtain ⟨k,hk,rfl,hh⟩:=hrel;have pY:=zh hh.out;clear v0 v1 v2 v3 v4 v5 v6 v7 b0 b1 b2 b3 b4 b5 b6 b7 b8 b9 x0 hh q3;obtain ⟨wq,rfl⟩:∃wq:World,wq=wr:=⟨_,rfl⟩
    by_cases hlt:k<v.rest.length
    ·obtain ⟨rb,ro,hRB,_,a0,a1⟩:=HR.out.rest.at2 hlt
     replace a0:=zA (pY.out.up HB0 HG) a0;replace a1:=zA (pY.out.up HB0 HG) a1;have hfr:=HF.out.2.1 _ (AAU hlt);have hel:x.AA.length+k<(CJ (Ae s n) x v).length:=by rw[HPL.out];omega
     have YZ:=zh (KH (l:=CJ (Ae s n) x v) hel);have aY:=zh (KG (l:=CJ (Ae s n) x v) hel);rw[ZF HF.out.1 hlt] at YZ aY;clear hel;generalize v.rest[k]=r at *;have Oa:=zh hfr;clear hfr;generalize hCK:Dw (fun i=>(CJ (Ae s n) x v).getD i ⟨#[]⟩) (x.AA.length+k)=CK at *
     generalize hCM:(if x.AA.length+k=0 then (⟨#[]⟩:ByteArray) else ⟨#[44,32]⟩)=CM at *
     have IZ:Hid ((T++Cq 123++CK).size+CM.size+((CX r.id).size+2+(LG r.data).size)<=140737488355328):=by have:=HZ.out;have h:=YZ.out;rw[zH (CX r.id++_),zH (CX r.id)] at h;rw[zH,zH];change _+_+(_+2+_)<=_ at h;show _+1+_+_+_<=_;omega
     subst hRB;have h1:(0:Int)<=(k:Int):=by omega
     have h2:(k:Int)<(v.rest.length:Int):=by omega
     have hblt:=pY.out.FD.lt;have NP:=zh (zD wq (Af.box r));have ak:=zh (AAL wq (Af.box r));have Sq:=zh (pY.out.below NP);obtain ⟨v0,v1,v2,v3,v4,v5,v6,v7⟩:=zF pY.out.h7;obtain ⟨b0,b1,b2,b3,b4,b5,b6,b7,b8,b9⟩:=zG pY.out.h8;have x0:=pY.out.c5;go_upto_region 26 with fail
     clear v0 v1 v2 v3 v4 v5 v6 v7 b0 b1 b2 b3 b4 b5 b6 b7 b8 b9 x0 a0 a1;generalize wq.alloc (Af.box r)=W4 at *;generalize wq.heap.size=vF at *;have hne:vF≠b:=by omega
     obtain ⟨v0,v1,v2,v3,v4,v5,v6,v7⟩:=zF Sq.out.h7;obtain ⟨b0,b1,b2,b3,b4,b5,b6,b7,b8,b9⟩:=zG Sq.out.h8;have x0:=Sq.out.c5;have hcm:Calls Tryz.prog 70 #[.pointer (some ⟨b,0,none⟩),.int .i64 ((x.AA.length:Int)+(k:Int))] W4 _:=KF Sq.out.FD (x.AA.length+k) (by rw[hCM];have:=IZ.out;omega) Sq.out.ge
     have zq:=zh hcm;clear hcm;go_wp2_with fail;refine zq.out.mono ?_;rintro e' w6 ⟨rfl,g1,g2,g3⟩;rw[hCM] at g1;have GZ:=zh (Sq.out.step g1 g2 g3);have au:=zh (g3.blk ak hne (by decide))
     clear g1 g2 g3 zq;clear v0 v1 v2 v3 v4 v5 v6 v7 b0 b1 b2 b3 b4 b5 b6 b7 b8 b9 x0;have n1:¬ 9223372036854775807<(CX r.id).size+(⟨#[58,32]⟩:ByteArray).size:=by have:=IZ.out;show ¬ _<_+2;omega
     have n2:¬ 9223372036854775807<(CX r.id).size+2:=n1;have n3:¬ 9223372036854775807<(CX r.id++⟨#[58,32]⟩:ByteArray).size+(LG r.data).size:=by have:=IZ.out;rw[zH];show ¬ _<_+2+_;omega
     have n4:¬ 9223372036854775807<(CX r.id).size+2+(LG r.data).size:=by have:=IZ.out;omega
     have Ip:Hid (∀w':World,w'.heap[vF]? = some (Af.box r)->(w'.cell? ⟨vF,0,none⟩=some (.int .i64 r.id)/\w'.cell? ⟨vF,1,none⟩=some (.string r.data))):=fun w' hy=>⟨by rw[AAN _ _ _ _ _ _ hy];rfl,by rw[AAN _ _ _ _ _ _ hy];rfl⟩
     go_upto_region 27 with fail
     refine wp_region_held_drew (S:=(fun w'=>(w'.cell? ⟨vF,0,none⟩=some (.int .i64 r.id)/\w'.cell? ⟨vF,1,none⟩=some (.string r.data))/\Hid (Below B w0 w))) (by kernel_rfl) ?_ (fun AQ=>?_)
     ·(try dsimp only);exact ⟨Ip.out _ (zE au (zC (Pe _ _) 1)),HB0.out⟩
     refine tL 0 ?_;refine tL 1 ?_;try simp only[ps]
     refine tL 2 ?_;refine tL 5 ?_;refine tL 6 ?_;refine tR 3 (fun K hK=>?_)
     go_simp
     (refine (Ls r.id (OU Oa) _ (KJ.out.below ((GZ.out.below (zC (Pe _ _) 1)).up HB0 HG))).mono ?_;rintro e' w7 ⟨rfl,F4⟩;have Nq:=zh ((GZ.out.below (zC (Pe _ _) 1)).below F4);have xu:=zh (zE (zE au (zC (Pe _ _) 1)) F4);clear F4)
     refine hK.out _ _ ?_ (fun AQ=>?_)
     ·(try dsimp only);exact ⟨Ip.out _ xu,HB0.out⟩
     clear hK K;refine tL 4 ?_;refine tR 7 (fun K hK=>?_)
     go_simp
     (refine (Ml r.data (by have:=IZ.out;omega) _).mono ?_;rintro e' w8 ⟨rfl,EM⟩;have Kj:=zh (Nq.out.below EM);have HY8:=zh (zE xu EM);clear EM)
     refine hK.out _ _ ?_ (fun AQ=>?_)
     ·(try dsimp only);exact ⟨Ip.out _ HY8,HB0.out⟩
     clear hK K;try simp only[ps]
     refine tL 8 ?_;refine tR 9 (fun K hK=>?_)
     go_simp
     (refine (Kj.out.FD.write _ ?_ Kj.out.ge).mono ?_;(· have:=IZ.out;have e1:(⟨#[58,32]⟩:ByteArray).size=2:=rfl;rw[zH (T++Cq 123++CK),zH (CX r.id++_),zH (CX r.id)];omega);rintro e' w9 ⟨rfl,g1,g2,g3⟩;have ST9:=zh (Kj.out.step g1 g2 g3);have HY9:=zh (g3.blk HY8 hne (by decide));clear g1 g2 g3)
     refine hK.out _ _ ?_ (fun AQ=>?_)
     ·(try dsimp only);exact ⟨Ip.out _ HY9,HB0.out⟩
     clear hK K;refine wpAnyH_done (by kernel_rfl) ?_ _
     clear AQ;have HE:Hid (T++Cq 123++CK++CM++(CX r.id++⟨#[58,32]⟩++LG r.data)=T++Cq 123++Dw (fun i=>(CJ (Ae s n) x v).getD i ⟨#[]⟩) (x.AA.length+(k+1))):=by show _=_;rw[<-Nat.add_assoc,aY.out];simp only[AAk]
     go_wp2
     go_roundw
     case rel=>exact ⟨k+1,by omega,by go_num,by have h:=ST9.out;rw[HE.out] at h;exact h⟩
     case measure=>simp[intOf];omega
    ·obtain rfl:k=v.rest.length:=by omega
     have HE:Hid (Dw (fun i=>(CJ (Ae s n) x v).getD i ⟨#[]⟩) (x.AA.length+v.rest.length)=FN (CJ (Ae s n) x v)):=by show _=_;unfold FN;rw[HPL.out]
     have YT:=pY;rw[HE.out] at YT;go_wp2_with fail;refine (YT.out.FD.byte 125 (by have:=HZ.out;rw[zH,zH];show _+1+_+1<=_;omega) YT.out.ge).mono ?_
     rintro e' w8 ⟨rfl,g1,g2,g3⟩;have Kj:=zh (YT.out.step g1 g2 g3);clear g1 g2 g3;go_wp2;refine bodyPost_end (results_none Tryz.results44 _ _ _) rfl ⟨rfl,by rw[HL.out];(have h:=Kj.out.FD;simp only[AAk] at h ⊢;exact h),Kj.out.fr,Kj.out.ot⟩
end Go.Proofs.YthkkllmmbefedaaGreatDoor



