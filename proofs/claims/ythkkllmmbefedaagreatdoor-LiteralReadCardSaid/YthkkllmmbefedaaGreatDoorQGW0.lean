/-
  Walks: literal.write, kinds 9.
-/
import Derived.Test.YthkkllmmbefedaaGreatDoorQGA10
import Derived.Test.YthkkllmmbefedaaGreatDoorQGA9
namespace Go.Proofs.YthkkllmmbefedaaGreatDoor
open Go.RowKit
set_option maxHeartbeats 16000000
set_option maxRecDepth 100000
theorem aU {s:List AZ} {A:zo} {c n:Nat} (_hv:zQ s=0) (hn:Ca s) (ih:WriteAt s A c n):XD s A c n 2:=by
 intro t v A1 c1 A2 c2 A3 c3 w0 w B b T e hf hs hr htb hg hb0 hB hbl hsz
 obtain ⟨i0,i1,i2,i3⟩:=D5 hf;obtain ⟨tn,rfl⟩:=AAh i0;have htn:tn<s.length:=by omega
 have hln:=hs.1.lt (by omega)
 rw[zT htn] at i2 i3 e;have KW:Hid (Ct s (n+1) (tn:Int) v=O1 (Ct s n) s[tn] v):=by show _=_;rw[Ct,zT htn]
 have HXN:=zh (hn _ (AAW htn));obtain ⟨F8,H5,H7⟩:=zy w (.cells #[.slice A s.length c] 31) (v.box A1 c1 A2 c2 A3 c3);have Df:=zh ih;have HS:=zh hs;have HR:=zh hr;have P7:=zh htb;have HG:=zh hg;have HB0:=zh hb0;have iB:=zh hB;have LU:=zh hbl;have hblt:=hbl.lt;obtain ⟨L,hL⟩:∃L,Ct s (n+1) (tn:Int) v=L:=⟨_,rfl⟩;rw[hL] at hsz KW;simp only[hL];have ED:=zh hsz
 have HU:Hid (Below w0.heap.size w0 ((w.alloc (.cells #[.slice A s.length c] 31)).alloc (v.box A1 c1 A2 c2 A3 c3))):=(hb0.trans (F8.out.mono hB)).mono hg;obtain ⟨bq,oq,As,cs,Am,cm,hA,htr,t0,t1,t2,t3,t4,t5,t6,t7,t8,t9⟩:=hs.JM htn;clear hL hf ih hs hr htb hg hb0 hB hbl hsz _hv hn i0 i1;subst hA;generalize s[tn]=x at *;have F7:=zh htr;have Ib:=zh i3;have LM:=zh (i2.trans e);have HK:=zh e
 clear htr i3 i2 e;replace t0:=zA HU t0;replace t1:=zA HU t1;replace t2:=zA HU t2;replace t3:=zA HU t3;replace t4:=zA HU t4;replace t5:=zA HU t5;replace t6:=zA HU t6;replace t7:=zA HU t7;replace t8:=zA HU t8;replace t9:=zA HU t9;have h1:(0:Int)<=(tn:Int):=by omega
 have h2:(tn:Int)<(s.length:Int):=by omega
 go_enter Tryz.func44,Tryz.ntmps44
 go_upto_region 1 with fail
 have hsz2:Hid (((w.alloc (.cells #[.slice (some ⟨bq,oq,none⟩) s.length c] 31)).alloc (v.box A1 c1 A2 c2 A3 c3)).heap.size=w.heap.size+2):=by show _=_;simp
 generalize (w.alloc (.cells #[.slice (some ⟨bq,oq,none⟩) s.length c] 31)).alloc (v.box A1 c1 A2 c2 A3 c3)=W2 at *;have x0:=zb H5;go_upto_region 2 with fail
 clear t0 t1 t2 t3 t4 t5 t6 t7 t8 t9 x0;have BI:=zh (zD W2 (x.box As cs Am cm));have ST:Hid (Iy s (some ⟨bq,oq,none⟩) c x As cs Am cm v A1 c1 A2 c2 A3 c3 B b w.heap.size (w.heap.size+1) W2.heap.size w (W2.alloc (x.box As cs Am cm)) (T)):=by
  have hz:=hsz2.out;have hge:=iB.out;exact ⟨(LU.out.below F8).below BI,(F8.out.mono iB.out).trans (BI.out.mono (by omega)),IB (yD F8) (yD BI),by omega,by omega,by omega,zE H5 BI,zE H7 BI,AAA W2 _,by have:=iB.out;have:=BI.out.size;omega⟩
 generalize W2.alloc (x.box As cs Am cm)=W3 at *;generalize W2.heap.size=p8 at *;clear hsz2 hblt F8 H5 H7 LU HU BI h1 h2;obtain ⟨q1,q2⟩:=zk2 HK;obtain ⟨v0,v1,v2,v3,v4,v5,v6,v7⟩:=zF ST.out.h7;obtain ⟨b0,b1,b2,b3,b4,b5,b6,b7,b8,b9⟩:=zG ST.out.h8;have x0:=ST.out.c5;have HL:=zh (KW.out.trans (xW HK))
 have HI:Hid (In64 v.int):=by have:=uZ HK Ib;have:=HXN.out;unfold In64 at *;show _/\_;omega
 have HZ:Hid (T.size+(FP v.int).size<=140737488355328):=by have:=ED.out;rw[HL.out] at this;exact this
 go_wp2_with fail
 refine (kz v.int HI _ (P7.out.below (ST.out.up HB0 HG))).mono ?_;rintro e' w4 ⟨rfl,hb4⟩;have ze:=zh (ST.out.below hb4);clear hb4;clear v0 v1 v2 v3 v4 v5 v6 v7 b0 b1 b2 b3 b4 b5 b6 b7 b8 b9 x0;go_wp2_with fail;refine (ze.out.Q0.write _ (HZ.out) ze.out.ge).mono ?_;rintro e' w5 ⟨rfl,g1,g2,g3⟩;have TJ:=zh (ze.out.step g1 g2 g3);clear g1 g2 g3;go_wp2
 refine bodyPost_end (results_none Tryz.results44 _ _ _) rfl ⟨rfl,by rw[HL.out];exact TJ.out.Q0,TJ.out.fr,TJ.out.ot⟩
theorem aS {s:List AZ} {A:zo} {c n:Nat} (_hv:zQ s=0) (hn:Ca s) (ih:WriteAt s A c n):XD s A c n 9:=by
 intro t v A1 c1 A2 c2 A3 c3 w0 w B b T e hf hs hr htb hg hb0 hB hbl hsz
 obtain ⟨i0,i1,i2,i3⟩:=D5 hf;obtain ⟨tn,rfl⟩:=AAh i0;have htn:tn<s.length:=by omega
 have hln:=hs.1.lt (by omega)
 rw[zT htn] at i2 i3 e;have KW:Hid (Ct s (n+1) (tn:Int) v=O1 (Ct s n) s[tn] v):=by show _=_;rw[Ct,zT htn]
 have HXN:=zh (hn _ (AAW htn));obtain ⟨F8,H5,H7⟩:=zy w (.cells #[.slice A s.length c] 31) (v.box A1 c1 A2 c2 A3 c3);have Df:=zh ih;have HS:=zh hs;have HR:=zh hr;have P7:=zh htb;have HG:=zh hg;have HB0:=zh hb0;have iB:=zh hB;have LU:=zh hbl;have hblt:=hbl.lt;obtain ⟨L,hL⟩:∃L,Ct s (n+1) (tn:Int) v=L:=⟨_,rfl⟩;rw[hL] at hsz KW;simp only[hL];have ED:=zh hsz
 have HU:Hid (Below w0.heap.size w0 ((w.alloc (.cells #[.slice A s.length c] 31)).alloc (v.box A1 c1 A2 c2 A3 c3))):=(hb0.trans (F8.out.mono hB)).mono hg;obtain ⟨bq,oq,As,cs,Am,cm,hA,htr,t0,t1,t2,t3,t4,t5,t6,t7,t8,t9⟩:=hs.JM htn;clear hL hf ih hs hr htb hg hb0 hB hbl hsz _hv hn i0 i1;subst hA;generalize s[tn]=x at *;have F7:=zh htr;have Ib:=zh i3;have LM:=zh (i2.trans e);have HK:=zh e
 clear htr i3 i2 e;replace t0:=zA HU t0;replace t1:=zA HU t1;replace t2:=zA HU t2;replace t3:=zA HU t3;replace t4:=zA HU t4;replace t5:=zA HU t5;replace t6:=zA HU t6;replace t7:=zA HU t7;replace t8:=zA HU t8;replace t9:=zA HU t9;have h1:(0:Int)<=(tn:Int):=by omega
 have h2:(tn:Int)<(s.length:Int):=by omega
 go_enter Tryz.func44,Tryz.ntmps44
 go_upto_region 1 with fail
 have hsz2:Hid (((w.alloc (.cells #[.slice (some ⟨bq,oq,none⟩) s.length c] 31)).alloc (v.box A1 c1 A2 c2 A3 c3)).heap.size=w.heap.size+2):=by show _=_;simp
 generalize (w.alloc (.cells #[.slice (some ⟨bq,oq,none⟩) s.length c] 31)).alloc (v.box A1 c1 A2 c2 A3 c3)=W2 at *;have x0:=zb H5;go_upto_region 2 with fail
 clear t0 t1 t2 t3 t4 t5 t6 t7 t8 t9 x0;have BI:=zh (zD W2 (x.box As cs Am cm));have ST:Hid (Iy s (some ⟨bq,oq,none⟩) c x As cs Am cm v A1 c1 A2 c2 A3 c3 B b w.heap.size (w.heap.size+1) W2.heap.size w (W2.alloc (x.box As cs Am cm)) (T)):=by
  have hz:=hsz2.out;have hge:=iB.out;exact ⟨(LU.out.below F8).below BI,(F8.out.mono iB.out).trans (BI.out.mono (by omega)),IB (yD F8) (yD BI),by omega,by omega,by omega,zE H5 BI,zE H7 BI,AAA W2 _,by have:=iB.out;have:=BI.out.size;omega⟩
 generalize W2.alloc (x.box As cs Am cm)=W3 at *;generalize W2.heap.size=p8 at *;clear hsz2 hblt F8 H5 H7 LU HU BI h1 h2;have q1:(x.kind==1)=false:=by simp[HK.out]
 have q2:(x.kind==2)=false:=by simp[HK.out]
 have q3:(x.kind==3)=false:=by simp[HK.out]
 have q4:(x.kind==4)=false:=by simp[HK.out]
 have q5:(x.kind==5)=false:=by simp[HK.out]
 have q6:(x.kind==6)=false:=by simp[HK.out]
 have q7:(x.kind==7)=false:=by simp[HK.out]
 have q8:(x.kind==8)=false:=by simp[HK.out]
 have q9:(x.kind==9)=true:=by simp[HK.out]
 obtain ⟨v0,v1,v2,v3,v4,v5,v6,v7⟩:=zF ST.out.h7;obtain ⟨b0,b1,b2,b3,b4,b5,b6,b7,b8,b9⟩:=zG ST.out.h8;have x0:=ST.out.c5;have QB:=zh (KW.out.trans (uJ HK));have HF:=zh (uY HK Ib)
 by_cases hi:v.items=[]
 ·have HL:Hid (L=⟨#[110,111,110,101]⟩):=by show _=_;rw[QB.out,hi]
  have HZ:Hid (T.size+(⟨#[110,111,110,101]⟩:ByteArray).size<=140737488355328):=by have:=ED.out;rw[HL.out] at this;exact this
  have z1:((v.items.length:Int)==0)=true:=by rw[hi];rfl
  clear hi;go_wp2_with fail;refine (ST.out.Q0.write _ (HZ.out) ST.out.ge).mono ?_;rintro e' w5 ⟨rfl,g1,g2,g3⟩;have TJ:=zh (ST.out.step g1 g2 g3);clear g1 g2 g3;go_wp2;refine bodyPost_ret (results_none Tryz.results44 _ _ _) rfl ⟨rfl,by rw[HL.out];exact TJ.out.Q0,TJ.out.fr,TJ.out.ot⟩
 ·have hlt:0<v.items.length:=List.length_pos_iff.2 hi
  obtain ⟨ib,io,E1,e1,E2,e2,E3,e3,hI,hir,a0,a1,a2,a3,a4,a5,a6,a7⟩:=HR.out.items.at8 hlt;have iA:=zh hir;have HA:=zh (And.intro a0 (And.intro a1 (And.intro a2 (And.intro a3 (And.intro a4 (And.intro a5 (And.intro a6 a7)))))));clear hir a0 a1 a2 a3 a4 a5 a6 a7;have hmem:=HF.out.2 _ (AAW hlt)
  have HL:Hid (L=⟨#[115,111,109,101,40]⟩++Ct s n x.elem v.items[0]++⟨#[41]⟩):=KW.out.trans (ZX HK hlt);have HZ:Hid (T.size+(5+(Ct s n x.elem v.items[0]).size+1)<=140737488355328):=by have:=ED.out;rw[HL.out,zH,zH] at this;exact this
  have z1:((v.items.length:Int)==0)=false:=by simp[hi]
  generalize v.items[0]=y at *;have HFY:=zh hmem;clear hmem hi;subst hI;have h2:(0:Int)<(v.items.length:Int):=by omega
  go_wp2_with fail
  refine (ST.out.Q0.write _ ?_ ST.out.ge).mono ?_
  ·have:=HZ.out;show _+5<=_;omega
  rintro e' w5 ⟨rfl,g1,g2,g3⟩;have TJ:=zh (ST.out.step g1 g2 g3);clear g1 g2 g3;clear v0 v1 v2 v3 v4 v5 v6 v7 b0 b1 b2 b3 b4 b5 b6 b7 b8 b9 x0
  have FD:Hid (∀w' T',Iy s (some ⟨bq,oq,none⟩) c x As cs Am cm v A1 c1 (some ⟨ib,io,none⟩) c2 A3 c3 B b w.heap.size (w.heap.size+1) p8 w w' (T')->(w'.cell? ⟨w.heap.size,0,none⟩=some (.slice (some ⟨bq,oq,none⟩) s.length c)/\w'.cell? ⟨p8,8,none⟩=some (.int .i64 x.elem)/\w'.cell? ⟨w.heap.size+1,6,none⟩=some (.slice (some ⟨ib,io,none⟩) v.items.length c2)/\w'.cell? ⟨ib,io,none⟩=some (.int .i64 y.kind)/\w'.cell? ⟨ib,io+1,none⟩=some (.bool y.bool)/\w'.cell? ⟨ib,io+2,none⟩=some (.int .i64 y.int)/\w'.cell? ⟨ib,io+3,none⟩=some (.string y.str)/\w'.cell? ⟨ib,io+4,none⟩=some (.int .i64 y.id)/\w'.cell? ⟨ib,io+5,none⟩=some (.slice E1 y.keys.length e1)/\w'.cell? ⟨ib,io+6,none⟩=some (.slice E2 y.items.length e2)/\w'.cell? ⟨ib,io+7,none⟩=some (.slice E3 y.rest.length e3))):=fun w' T' st=>by
   obtain ⟨v0,v1,v2,v3,v4,v5,v6,v7⟩:=zF st.h7;obtain ⟨b0,b1,b2,b3,b4,b5,b6,b7,b8,b9⟩:=zG st.h8;have u:=st.up HB0 HG;obtain ⟨a0,a1,a2,a3,a4,a5,a6,a7⟩:=HA.out;exact ⟨st.c5,b8,v6,zA u (by simpa using a0),zA u (by simpa using a1),zA u (by simpa using a2),zA u (by simpa using a3),zA u (by simpa using a4),zA u (by simpa using a5),zA u (by simpa using a6),zA u (by simpa using a7)⟩
  go_upto_region 63 with fail
  refine wp_region_held_drew (S:=(fun w'=>(w'.cell? ⟨w.heap.size,0,none⟩=some (.slice (some ⟨bq,oq,none⟩) s.length c)/\w'.cell? ⟨p8,8,none⟩=some (.int .i64 x.elem)/\w'.cell? ⟨w.heap.size+1,6,none⟩=some (.slice (some ⟨ib,io,none⟩) v.items.length c2)/\w'.cell? ⟨ib,io,none⟩=some (.int .i64 y.kind)/\w'.cell? ⟨ib,io+1,none⟩=some (.bool y.bool)/\w'.cell? ⟨ib,io+2,none⟩=some (.int .i64 y.int)/\w'.cell? ⟨ib,io+3,none⟩=some (.string y.str)/\w'.cell? ⟨ib,io+4,none⟩=some (.int .i64 y.id)/\w'.cell? ⟨ib,io+5,none⟩=some (.slice E1 y.keys.length e1)/\w'.cell? ⟨ib,io+6,none⟩=some (.slice E2 y.items.length e2)/\w'.cell? ⟨ib,io+7,none⟩=some (.slice E3 y.rest.length e3))/\Hid (Below B w0 w))) (by kernel_rfl) ?_ (fun AU=>?_)
  ·(try dsimp only);exact ⟨FD.out _ _ (TJ.out.below (zC (Pd _ _) 1)),HB0.out⟩
  refine tL 0 ?_;refine tL 1 ?_;refine tL 2 ?_;refine tL 3 ?_;refine tL 4 ?_;refine tL 5 ?_;try simp only[ps]
  refine tL 6 ?_;refine tL 7 ?_;refine tR 8 (fun K hK=>?_)
  go_simp
  (refine (Df.out x.elem y E1 e1 E2 e2 E3 e3 w0 _ B b _ HFY HS iA P7 HG (HB0.out.trans (TJ.out.below (zC (Pd _ _) 1)).fr) (TJ.out.below (zC (Pd _ _) 1)).ge (TJ.out.below (zC (Pd _ _) 1)).Q0 (by have:=HZ.out;rw[zH];show _+5+_<=_;omega)).mono ?_;rintro e' w6 ⟨rfl,g1,g2,g3⟩;have gM:=zh ((TJ.out.below (zC (Pd _ _) 1)).step g1 g2 g3);clear g1 g2 g3)
  refine hK.out _ _ ?_ (fun AU=>?_)
  ·(try dsimp only);exact ⟨FD.out _ _ gM.out,HB0.out⟩
  clear hK K;refine wpAnyH_done (by kernel_rfl) ?_ _
  clear AU;go_wp2_with fail;refine (gM.out.Q0.byte 41 (by have:=HZ.out;rw[zH,zH];show _+5+_+1<=_;omega) gM.out.ge).mono ?_
  rintro e' w7 ⟨rfl,g1,g2,g3⟩;have gL:=zh (gM.out.step g1 g2 g3);clear g1 g2 g3;go_wp2;refine bodyPost_end (results_none Tryz.results44 _ _ _) rfl ⟨rfl,by rw[HL.out];(have h:=gL.out.Q0;simp only[AAu] at h ⊢;exact h),gL.out.fr,gL.out.ot⟩
end Go.Proofs.YthkkllmmbefedaaGreatDoor



