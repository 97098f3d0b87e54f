/-
  literal.write of all values; literal.Format.
-/
import Derived.Test.YthkkllmmbefedaaGreatDoorQGA10
import Derived.Test.YthkkllmmbefedaaGreatDoorQGA9
import Derived.Test.YthkkllmmbefedaaGreatDoorQGB0
namespace Go.Proofs.YthkkllmmbefedaaGreatDoor
open Go.RowKit
set_option maxHeartbeats 16000000
set_option maxRecDepth 100000
variable {s:List Ae} {c n:Nat} {A:zo}
theorem Zh (_hv:zQ s=0) (hn:Bq s) (ih:WriteAt s A c n):Vk s A c n 2:=by
 intro t v A1 c1 A2 c2 A3 c3 w0 w B b T e hf hs hr htb hg hb0 hB hbl hsz
 obtain ⟨i0,i1,i2,i3⟩:=DL hf;obtain ⟨tn,rfl⟩:=AAT i0;have htn:tn<s.length:=by omega
 have hln:=hs.1.lt (by omega)
 rw[zT htn] at i2 i3 e;have Mj:Hid (CZ s (n+1) (tn:Int) v=Nz (CZ s n) s[tn] v):=by show _=_;rw[CZ,zT htn]
 have HXN:=zh (hn _ (AAK htn));obtain ⟨Cy,H5,H7⟩:=zy w (.cells #[.slice A s.length c] 31) (v.box A1 c1 A2 c2 A3 c3);have E5:=zh ih;have HS:=zh hs;have HR:=zh hr;have ML:=zh htb;have HG:=zh hg;have HB0:=zh hb0;have fT:=zh hB;have KS:=zh hbl;have hblt:=hbl.lt;obtain ⟨L,hL⟩:∃L,CZ s (n+1) (tn:Int) v=L:=⟨_,rfl⟩;rw[hL] at hsz Mj;simp only[hL];have FR:=zh hsz
 have HU:Hid (Below w0.heap.size w0 ((w.alloc (.cells #[.slice A s.length c] 31)).alloc (v.box A1 c1 A2 c2 A3 c3))):=(hb0.trans (Cy.out.mono hB)).mono hg;obtain ⟨bq,oq,As,cs,Am,cm,hA,htr,t0,t1,t2,t3,t4,t5,t6,t7,t8,t9⟩:=hs.FQ htn;clear hL hf ih hs hr htb hg hb0 hB hbl hsz _hv hn i0 i1;subst hA;generalize s[tn]=x at *;have Dv:=zh htr;have Gz:=zh i3;have KO:=zh (i2.trans e);have HK:=zh e
 clear htr i3 i2 e;replace t0:=zA HU t0;replace t1:=zA HU t1;replace t2:=zA HU t2;replace t3:=zA HU t3;replace t4:=zA HU t4;replace t5:=zA HU t5;replace t6:=zA HU t6;replace t7:=zA HU t7;replace t8:=zA HU t8;replace t9:=zA HU t9;have h1:(0:Int)<=(tn:Int):=by omega
 have h2:(tn:Int)<(s.length:Int):=by omega
 go_enter Tryz.func44,Tryz.ntmps44
 go_upto_region 1 with fail
 have hsz2:Hid (((w.alloc (.cells #[.slice (some ⟨bq,oq,none⟩) s.length c] 31)).alloc (v.box A1 c1 A2 c2 A3 c3)).heap.size=w.heap.size+2):=by show _=_;simp
 generalize (w.alloc (.cells #[.slice (some ⟨bq,oq,none⟩) s.length c] 31)).alloc (v.box A1 c1 A2 c2 A3 c3)=W2 at *;have x0:=zb H5;go_upto_region 2 with fail
 clear t0 t1 t2 t3 t4 t5 t6 t7 t8 t9 x0;have BI:=zh (zD W2 (x.box As cs Am cm));have ST:Hid (Hu s (some ⟨bq,oq,none⟩) c x As cs Am cm v A1 c1 A2 c2 A3 c3 B b w.heap.size (w.heap.size+1) W2.heap.size w (W2.alloc (x.box As cs Am cm)) (T)):=by
  have hz:=hsz2.out;have hge:=fT.out;exact ⟨(KS.out.below Cy).below BI,(Cy.out.mono fT.out).trans (BI.out.mono (by omega)),Gs (yD Cy) (yD BI),by omega,by omega,by omega,zE H5 BI,zE H7 BI,AAC W2 _,by have:=fT.out;have:=BI.out.size;omega⟩
 generalize W2.alloc (x.box As cs Am cm)=W3 at *;generalize W2.heap.size=p8 at *;clear hsz2 hblt Cy H5 H7 KS HU BI h1 h2;obtain ⟨q1,q2⟩:=zk2 HK;obtain ⟨v0,v1,v2,v3,v4,v5,v6,v7⟩:=zF ST.out.h7;obtain ⟨b0,b1,b2,b3,b4,b5,b6,b7,b8,b9⟩:=zG ST.out.h8;have x0:=ST.out.c5;have HL:=zh (Mj.out.trans (yo HK))
 have HI:Hid (In64 v.int):=by have:=uY HK Gz;have:=HXN.out;unfold In64 at *;show _/\_;omega
 have HZ:Hid (T.size+(D5 v.int).size<=140737488355328):=by have:=FR.out;rw[HL.out] at this;exact this
 go_wp2_with fail
 refine (kU v.int HI _ (ML.out.below (ST.out.up HB0 HG))).mono ?_;rintro e' w4 ⟨rfl,hb4⟩;have ST4:=zh (ST.out.below hb4);clear hb4;clear v0 v1 v2 v3 v4 v5 v6 v7 b0 b1 b2 b3 b4 b5 b6 b7 b8 b9 x0;go_wp2_with fail;refine (ST4.out.Ot.write _ (HZ.out) ST4.out.ge).mono ?_;rintro e' w5 ⟨rfl,g1,g2,g3⟩;have Rx:=zh (ST4.out.step g1 g2 g3);clear g1 g2 g3;go_wp2
 refine bodyPost_end (results_none Tryz.results44 _ _ _) rfl ⟨rfl,by rw[HL.out];exact Rx.out.Ot,Rx.out.fr,Rx.out.ot⟩
theorem Zf (_hv:zQ s=0) (hn:Bq s) (ih:WriteAt s A c n):Vk s A c n 9:=by
 intro t v A1 c1 A2 c2 A3 c3 w0 w B b T e hf hs hr htb hg hb0 hB hbl hsz
 obtain ⟨i0,i1,i2,i3⟩:=DL hf;obtain ⟨tn,rfl⟩:=AAT i0;have htn:tn<s.length:=by omega
 have hln:=hs.1.lt (by omega)
 rw[zT htn] at i2 i3 e;have Mj:Hid (CZ s (n+1) (tn:Int) v=Nz (CZ s n) s[tn] v):=by show _=_;rw[CZ,zT htn]
 have HXN:=zh (hn _ (AAK htn));obtain ⟨Cy,H5,H7⟩:=zy w (.cells #[.slice A s.length c] 31) (v.box A1 c1 A2 c2 A3 c3);have E5:=zh ih;have HS:=zh hs;have HR:=zh hr;have ML:=zh htb;have HG:=zh hg;have HB0:=zh hb0;have fT:=zh hB;have KS:=zh hbl;have hblt:=hbl.lt;obtain ⟨L,hL⟩:∃L,CZ s (n+1) (tn:Int) v=L:=⟨_,rfl⟩;rw[hL] at hsz Mj;simp only[hL];have FR:=zh hsz
 have HU:Hid (Below w0.heap.size w0 ((w.alloc (.cells #[.slice A s.length c] 31)).alloc (v.box A1 c1 A2 c2 A3 c3))):=(hb0.trans (Cy.out.mono hB)).mono hg;obtain ⟨bq,oq,As,cs,Am,cm,hA,htr,t0,t1,t2,t3,t4,t5,t6,t7,t8,t9⟩:=hs.FQ htn;clear hL hf ih hs hr htb hg hb0 hB hbl hsz _hv hn i0 i1;subst hA;generalize s[tn]=x at *;have Dv:=zh htr;have Gz:=zh i3;have KO:=zh (i2.trans e);have HK:=zh e
 clear htr i3 i2 e;replace t0:=zA HU t0;replace t1:=zA HU t1;replace t2:=zA HU t2;replace t3:=zA HU t3;replace t4:=zA HU t4;replace t5:=zA HU t5;replace t6:=zA HU t6;replace t7:=zA HU t7;replace t8:=zA HU t8;replace t9:=zA HU t9;have h1:(0:Int)<=(tn:Int):=by omega
 have h2:(tn:Int)<(s.length:Int):=by omega
 go_enter Tryz.func44,Tryz.ntmps44
 go_upto_region 1 with fail
 have hsz2:Hid (((w.alloc (.cells #[.slice (some ⟨bq,oq,none⟩) s.length c] 31)).alloc (v.box A1 c1 A2 c2 A3 c3)).heap.size=w.heap.size+2):=by show _=_;simp
 generalize (w.alloc (.cells #[.slice (some ⟨bq,oq,none⟩) s.length c] 31)).alloc (v.box A1 c1 A2 c2 A3 c3)=W2 at *;have x0:=zb H5;go_upto_region 2 with fail
 clear t0 t1 t2 t3 t4 t5 t6 t7 t8 t9 x0;have BI:=zh (zD W2 (x.box As cs Am cm));have ST:Hid (Hu s (some ⟨bq,oq,none⟩) c x As cs Am cm v A1 c1 A2 c2 A3 c3 B b w.heap.size (w.heap.size+1) W2.heap.size w (W2.alloc (x.box As cs Am cm)) (T)):=by
  have hz:=hsz2.out;have hge:=fT.out;exact ⟨(KS.out.below Cy).below BI,(Cy.out.mono fT.out).trans (BI.out.mono (by omega)),Gs (yD Cy) (yD BI),by omega,by omega,by omega,zE H5 BI,zE H7 BI,AAC W2 _,by have:=fT.out;have:=BI.out.size;omega⟩
 generalize W2.alloc (x.box As cs Am cm)=W3 at *;generalize W2.heap.size=p8 at *;clear hsz2 hblt Cy H5 H7 KS HU BI h1 h2;have q1:(x.kind==1)=false:=by simp[HK.out]
 have q2:(x.kind==2)=false:=by simp[HK.out]
 have q3:(x.kind==3)=false:=by simp[HK.out]
 have q4:(x.kind==4)=false:=by simp[HK.out]
 have q5:(x.kind==5)=false:=by simp[HK.out]
 have q6:(x.kind==6)=false:=by simp[HK.out]
 have q7:(x.kind==7)=false:=by simp[HK.out]
 have q8:(x.kind==8)=false:=by simp[HK.out]
 have q9:(x.kind==9)=true:=by simp[HK.out]
 obtain ⟨v0,v1,v2,v3,v4,v5,v6,v7⟩:=zF ST.out.h7;obtain ⟨b0,b1,b2,b3,b4,b5,b6,b7,b8,b9⟩:=zG ST.out.h8;have x0:=ST.out.c5;have wD:=zh (Mj.out.trans (tX HK));have HF:=zh (uW HK Gz)
 by_cases hi:v.items=[]
 ·have HL:Hid (L=⟨#[110,111,110,101]⟩):=by show _=_;rw[wD.out,hi]
  have HZ:Hid (T.size+(⟨#[110,111,110,101]⟩:ByteArray).size<=140737488355328):=by have:=FR.out;rw[HL.out] at this;exact this
  have z1:((v.items.length:Int)==0)=true:=by rw[hi];rfl
  clear hi;go_wp2_with fail;refine (ST.out.Ot.write _ (HZ.out) ST.out.ge).mono ?_;rintro e' w5 ⟨rfl,g1,g2,g3⟩;have Rx:=zh (ST.out.step g1 g2 g3);clear g1 g2 g3;go_wp2;refine bodyPost_ret (results_none Tryz.results44 _ _ _) rfl ⟨rfl,by rw[HL.out];exact Rx.out.Ot,Rx.out.fr,Rx.out.ot⟩
 ·have hlt:0<v.items.length:=List.length_pos_iff.2 hi
  obtain ⟨ib,io,E1,e1,E2,e2,E3,e3,hI,hir,a0,a1,a2,a3,a4,a5,a6,a7⟩:=HR.out.items.at8 hlt;have R5:=zh hir;have HA:=zh (And.intro a0 (And.intro a1 (And.intro a2 (And.intro a3 (And.intro a4 (And.intro a5 (And.intro a6 a7)))))));clear hir a0 a1 a2 a3 a4 a5 a6 a7;have hmem:=HF.out.2 _ (AAK hlt)
  have HL:Hid (L=⟨#[115,111,109,101,40]⟩++CZ s n x.elem v.items[0]++⟨#[41]⟩):=Mj.out.trans (YS HK hlt);have HZ:Hid (T.size+(5+(CZ s n x.elem v.items[0]).size+1)<=140737488355328):=by have:=FR.out;rw[HL.out,zH,zH] at this;exact this
  have z1:((v.items.length:Int)==0)=false:=by simp[hi]
  generalize v.items[0]=y at *;have gT:=zh hmem;clear hmem hi;subst hI;have h2:(0:Int)<(v.items.length:Int):=by omega
  go_wp2_with fail
  refine (ST.out.Ot.write _ ?_ ST.out.ge).mono ?_
  ·have:=HZ.out;show _+5<=_;omega
  rintro e' w5 ⟨rfl,g1,g2,g3⟩;have Rx:=zh (ST.out.step g1 g2 g3);clear g1 g2 g3;clear v0 v1 v2 v3 v4 v5 v6 v7 b0 b1 b2 b3 b4 b5 b6 b7 b8 b9 x0
  have D7:Hid (∀w' T',Hu s (some ⟨bq,oq,none⟩) c x As cs Am cm v A1 c1 (some ⟨ib,io,none⟩) c2 A3 c3 B b w.heap.size (w.heap.size+1) p8 w w' (T')->(w'.cell? ⟨w.heap.size,0,none⟩=some (.slice (some ⟨bq,oq,none⟩) s.length c)/\w'.cell? ⟨p8,8,none⟩=some (.int .i64 x.elem)/\w'.cell? ⟨w.heap.size+1,6,none⟩=some (.slice (some ⟨ib,io,none⟩) v.items.length c2)/\w'.cell? ⟨ib,io,none⟩=some (.int .i64 y.kind)/\w'.cell? ⟨ib,io+1,none⟩=some (.bool y.bool)/\w'.cell? ⟨ib,io+2,none⟩=some (.int .i64 y.int)/\w'.cell? ⟨ib,io+3,none⟩=some (.string y.str)/\w'.cell? ⟨ib,io+4,none⟩=some (.int .i64 y.id)/\w'.cell? ⟨ib,io+5,none⟩=some (.slice E1 y.keys.length e1)/\w'.cell? ⟨ib,io+6,none⟩=some (.slice E2 y.items.length e2)/\w'.cell? ⟨ib,io+7,none⟩=some (.slice E3 y.rest.length e3))):=fun w' T' st=>by
   obtain ⟨v0,v1,v2,v3,v4,v5,v6,v7⟩:=zF st.h7;obtain ⟨b0,b1,b2,b3,b4,b5,b6,b7,b8,b9⟩:=zG st.h8;have u:=st.up HB0 HG;obtain ⟨a0,a1,a2,a3,a4,a5,a6,a7⟩:=HA.out;exact ⟨st.c5,b8,v6,zA u (by simpa using a0),zA u (by simpa using a1),zA u (by simpa using a2),zA u (by simpa using a3),zA u (by simpa using a4),zA u (by simpa using a5),zA u (by simpa using a6),zA u (by simpa using a7)⟩
  go_upto_region 63 with fail
  refine wp_region_held_drew (S:=(fun w'=>(w'.cell? ⟨w.heap.size,0,none⟩=some (.slice (some ⟨bq,oq,none⟩) s.length c)/\w'.cell? ⟨p8,8,none⟩=some (.int .i64 x.elem)/\w'.cell? ⟨w.heap.size+1,6,none⟩=some (.slice (some ⟨ib,io,none⟩) v.items.length c2)/\w'.cell? ⟨ib,io,none⟩=some (.int .i64 y.kind)/\w'.cell? ⟨ib,io+1,none⟩=some (.bool y.bool)/\w'.cell? ⟨ib,io+2,none⟩=some (.int .i64 y.int)/\w'.cell? ⟨ib,io+3,none⟩=some (.string y.str)/\w'.cell? ⟨ib,io+4,none⟩=some (.int .i64 y.id)/\w'.cell? ⟨ib,io+5,none⟩=some (.slice E1 y.keys.length e1)/\w'.cell? ⟨ib,io+6,none⟩=some (.slice E2 y.items.length e2)/\w'.cell? ⟨ib,io+7,none⟩=some (.slice E3 y.rest.length e3))/\Hid (Below B w0 w))) (by kernel_rfl) ?_ (fun AO=>?_)
  ·(try dsimp only);exact ⟨D7.out _ _ (Rx.out.below (zC (Pe _ _) 1)),HB0.out⟩
  refine tL 0 ?_;refine tL 1 ?_;refine tL 2 ?_;refine tL 3 ?_;refine tL 4 ?_;refine tL 5 ?_;try simp only[ps]
  refine tL 6 ?_;refine tL 7 ?_;refine tR 8 (fun K hK=>?_)
  go_simp
  (refine (E5.out x.elem y E1 e1 E2 e2 E3 e3 w0 _ B b _ gT HS R5 ML HG (HB0.out.trans (Rx.out.below (zC (Pe _ _) 1)).fr) (Rx.out.below (zC (Pe _ _) 1)).ge (Rx.out.below (zC (Pe _ _) 1)).Ot (by have:=HZ.out;rw[zH];show _+5+_<=_;omega)).mono ?_;rintro e' w6 ⟨rfl,g1,g2,g3⟩;have eT:=zh ((Rx.out.below (zC (Pe _ _) 1)).step g1 g2 g3);clear g1 g2 g3)
  refine hK.out _ _ ?_ (fun AO=>?_)
  ·(try dsimp only);exact ⟨D7.out _ _ eT.out,HB0.out⟩
  clear hK K;refine wpAnyH_done (by kernel_rfl) ?_ _
  clear AO;go_wp2_with fail;refine (eT.out.Ot.byte 41 (by have:=HZ.out;rw[zH,zH];show _+5+_+1<=_;omega) eT.out.ge).mono ?_
  rintro e' w7 ⟨rfl,g1,g2,g3⟩;have eP:=zh (eT.out.step g1 g2 g3);clear g1 g2 g3;go_wp2;refine bodyPost_end (results_none Tryz.results44 _ _ _) rfl ⟨rfl,by rw[HL.out];(have h:=eP.out.Ot;simp only[AA8] at h ⊢;exact h),eP.out.fr,eP.out.ot⟩
theorem Zg (_hv:zQ s=0) (hn:Bq s) (ih:WriteAt s A c n):Vk s A c n 5:=by
 intro t v A1 c1 A2 c2 A3 c3 w0 w B b T e hf hs hr htb hg hb0 hB hbl hsz
 obtain ⟨i0,i1,i2,i3⟩:=DL hf;obtain ⟨tn,rfl⟩:=AAT i0;have htn:tn<s.length:=by omega
 have hln:=hs.1.lt (by omega)
 rw[zT htn] at i2 i3 e;have Mj:Hid (CZ s (n+1) (tn:Int) v=Nz (CZ s n) s[tn] v):=by show _=_;rw[CZ,zT htn]
 have HXN:=zh (hn _ (AAK htn));obtain ⟨Cy,H5,H7⟩:=zy w (.cells #[.slice A s.length c] 31) (v.box A1 c1 A2 c2 A3 c3);have E5:=zh ih;have HS:=zh hs;have HR:=zh hr;have ML:=zh htb;have HG:=zh hg;have HB0:=zh hb0;have fT:=zh hB;have KS:=zh hbl;have hblt:=hbl.lt;obtain ⟨L,hL⟩:∃L,CZ s (n+1) (tn:Int) v=L:=⟨_,rfl⟩;rw[hL] at hsz Mj;simp only[hL];have FR:=zh hsz
 have HU:Hid (Below w0.heap.size w0 ((w.alloc (.cells #[.slice A s.length c] 31)).alloc (v.box A1 c1 A2 c2 A3 c3))):=(hb0.trans (Cy.out.mono hB)).mono hg;obtain ⟨bq,oq,As,cs,Am,cm,hA,htr,t0,t1,t2,t3,t4,t5,t6,t7,t8,t9⟩:=hs.FQ htn;clear hL hf ih hs hr htb hg hb0 hB hbl hsz _hv hn i0 i1;subst hA;generalize s[tn]=x at *;have Dv:=zh htr;have Gz:=zh i3;have KO:=zh (i2.trans e);have HK:=zh e
 clear htr i3 i2 e;replace t0:=zA HU t0;replace t1:=zA HU t1;replace t2:=zA HU t2;replace t3:=zA HU t3;replace t4:=zA HU t4;replace t5:=zA HU t5;replace t6:=zA HU t6;replace t7:=zA HU t7;replace t8:=zA HU t8;replace t9:=zA HU t9;have h1:(0:Int)<=(tn:Int):=by omega
 have h2:(tn:Int)<(s.length:Int):=by omega
 go_enter Tryz.func44,Tryz.ntmps44
 go_upto_region 1 with fail
 have hsz2:Hid (((w.alloc (.cells #[.slice (some ⟨bq,oq,none⟩) s.length c] 31)).alloc (v.box A1 c1 A2 c2 A3 c3)).heap.size=w.heap.size+2):=by show _=_;simp
 generalize (w.alloc (.cells #[.slice (some ⟨bq,oq,none⟩) s.length c] 31)).alloc (v.box A1 c1 A2 c2 A3 c3)=W2 at *;have x0:=zb H5;go_upto_region 2 with fail
 clear t0 t1 t2 t3 t4 t5 t6 t7 t8 t9 x0;have BI:=zh (zD W2 (x.box As cs Am cm));have ST:Hid (Hu s (some ⟨bq,oq,none⟩) c x As cs Am cm v A1 c1 A2 c2 A3 c3 B b w.heap.size (w.heap.size+1) W2.heap.size w (W2.alloc (x.box As cs Am cm)) (T)):=by
  have hz:=hsz2.out;have hge:=fT.out;exact ⟨(KS.out.below Cy).below BI,(Cy.out.mono fT.out).trans (BI.out.mono (by omega)),Gs (yD Cy) (yD BI),by omega,by omega,by omega,zE H5 BI,zE H7 BI,AAC W2 _,by have:=fT.out;have:=BI.out.size;omega⟩
 generalize W2.alloc (x.box As cs Am cm)=W3 at *;generalize W2.heap.size=p8 at *;clear hsz2 hblt Cy H5 H7 KS HU BI h1 h2;obtain ⟨q1,q2,q3,q4,q5⟩:=zk5 HK;obtain ⟨v0,v1,v2,v3,v4,v5,v6,v7⟩:=zF ST.out.h7;obtain ⟨b0,b1,b2,b3,b4,b5,b6,b7,b8,b9⟩:=zG ST.out.h8;have x0:=ST.out.c5;have HL:Hid (L=⟨#[123]⟩++RU (Bw (CZ s n) x v)++⟨#[125]⟩):=Mj.out.trans (yj HK)
 have HF:=zh (pJ HK Gz);have HZ:Hid (T.size+(1+(RU (Bw (CZ s n) x v)).size+1)<=140737488355328):=by have:=FR.out;rw[HL.out,zH,zH] at this;exact this
 have HPL:=zh (YB (f:=CZ s n) HF.out.1);have hlm:=Dv.out.AA.1.lt (by omega)
 have hlr:=HR.out.rest.1.lt (by omega)
 have gG:=HR.out.items.1.lt (by omega)
 go_wp2_with fail
 refine (ST.out.Ot.byte 123 (by have:=HZ.out;omega) ST.out.ge).mono ?_
 rintro e' w5 ⟨rfl,g1,g2,g3⟩;have Rx:=zh (ST.out.step g1 g2 g3);clear g1 g2 g3;clear v0 v1 v2 v3 v4 v5 v6 v7 b0 b1 b2 b3 b4 b5 b6 b7 b8 b9 x0;obtain ⟨v0,v1,v2,v3,v4,v5,v6,v7⟩:=zF Rx.out.h7;obtain ⟨b0,b1,b2,b3,b4,b5,b6,b7,b8,b9⟩:=zG Rx.out.h8;have x0:=Rx.out.c5;go_wp2_with fail
 go_loopw [80] (fun i wr=>∃k:Nat,k<=x.AA.length/\i = .int .i64 (k:Int)/\Hid (Hu s (some ⟨bq,oq,none⟩) c x As cs Am cm v A1 c1 A2 c2 A3 c3 B b w.heap.size (w.heap.size+1) p8 w wr (T++Fj 123++Gv (fun i=>(Bw (CZ s n) x v).getD i ⟨#[]⟩) k))) (fun i _=>x.AA.length - (intOf i).toNat)
 case atStart=>exact ⟨0,by omega,rfl,by have h:=Rx.out;rw[show T++Fj 123=T++Fj 123++Gv (fun i=>(Bw (CZ s n) x v).getD i ⟨#[]⟩) 0 from (lF _).symm] at h;exact h⟩
 case round =>
  obtain ⟨k,hk,rfl,hh⟩:=hrel;have Ob:=zh hh.out;clear v0 v1 v2 v3 v4 v5 v6 v7 b0 b1 b2 b3 b4 b5 b6 b7 b8 b9 x0 hh
  by_cases hlt:k<x.AA.length
  ·have hlt2:k<v.items.length:=by have:=HF.out.1;omega
   obtain ⟨mb,mo,M1,m1,M2,m2,M3,m3,hM,_,d0,d1,d2,d3,d4,d5,d6,d7,d8,d9,Jr,Jq,Jp⟩:=Dv.out.AA.Gw hlt;replace d0:=zA (Ob.out.up HB0 HG) d0;replace d1:=zA (Ob.out.up HB0 HG) d1;replace d2:=zA (Ob.out.up HB0 HG) d2;replace d3:=zA (Ob.out.up HB0 HG) d3;replace d4:=zA (Ob.out.up HB0 HG) d4;replace d5:=zA (Ob.out.up HB0 HG) d5
   replace d6:=zA (Ob.out.up HB0 HG) d6;replace d7:=zA (Ob.out.up HB0 HG) d7;replace d8:=zA (Ob.out.up HB0 HG) d8;replace d9:=zA (Ob.out.up HB0 HG) d9;replace Jr:=zA (Ob.out.up HB0 HG) Jr;replace Jq:=zA (Ob.out.up HB0 HG) Jq;replace Jp:=zA (Ob.out.up HB0 HG) Jp
   obtain ⟨ib,io,E1,e1,E2,e2,E3,e3,hI,hir,a0,a1,a2,a3,a4,a5,a6,a7⟩:=HR.out.items.at8 hlt2;have R5:=zh hir;have HA:=zh (And.intro a0 (And.intro a1 (And.intro a2 (And.intro a3 (And.intro a4 (And.intro a5 (And.intro a6 a7)))))));clear hir a0 a1 a2 a3 a4 a5 a6 a7;have hmem:=HF.out.2.2 k hlt hlt2;have hel:k<(Bw (CZ s n) x v).length:=by rw[HPL.out];omega
   have fG:=zh (QM (l:=Bw (CZ s n) x v) hel);have rG:=zh (QL (l:=Bw (CZ s n) x v) hel);rw[YA HF.out.1 hlt hlt2] at fG rG;clear hel;generalize x.AA[k]=m at *;generalize v.items[k]=y at *;have gT:=zh hmem;clear hmem;generalize hCK:Gv (fun i=>(Bw (CZ s n) x v).getD i ⟨#[]⟩) k=CK at *
   generalize hCM:(if k=0 then (⟨#[]⟩:ByteArray) else ⟨#[44,32]⟩)=CM at *
   have OQ:Hid ((T++Fj 123++CK).size+CM.size+(m.name.size+2+(CZ s n m.type y).size)<=140737488355328):=by have:=HZ.out;have h:=fG.out;rw[zH (m.name++_),zH m.name] at h;rw[zH,zH];change _+_+(_+2+_)<=_ at h;show _+1+_+_+_<=_;omega
   subst hI;subst hM;have h1:(0:Int)<=(k:Int):=by omega
   have h2:(k:Int)<(x.AA.length:Int):=by omega
   have h3:(k:Int)<(v.items.length:Int):=by omega
   have hblt:=Ob.out.Ot.lt;have OW:=zh (zD wr (m.box M1 m1 M2 m2 M3 m3));have mY:=zh (AAC wr (m.box M1 m1 M2 m2 M3 m3));have gK:=zh (Ob.out.below OW);obtain ⟨v0,v1,v2,v3,v4,v5,v6,v7⟩:=zF Ob.out.h7;obtain ⟨b0,b1,b2,b3,b4,b5,b6,b7,b8,b9⟩:=zG Ob.out.h8;have x0:=Ob.out.c5;go_upto_region 19 with fail
   clear v0 v1 v2 v3 v4 v5 v6 v7 b0 b1 b2 b3 b4 b5 b6 b7 b8 b9 x0 d0 d1 d2 d3 d4 d5 d6 d7 d8 d9 Jr Jq Jp;generalize wr.alloc (m.box M1 m1 M2 m2 M3 m3)=W4 at *;generalize wr.heap.size=wh at *;have hne:wh≠b:=by omega
   go_wp2_with fail
   refine (QK gK.out.Ot k (by rw[hCM];have:=OQ.out;omega) gK.out.ge).mono ?_
   rintro e' w6 ⟨rfl,g1,g2,g3⟩;rw[hCM] at g1;have eT:=zh (gK.out.step g1 g2 g3);have mZ:=zh (g3.blk mY hne (by decide))
   clear g1 g2 g3;obtain ⟨y0,y1,y2,-⟩:=QA mZ;have n1:¬ 9223372036854775807<m.name.size+(⟨#[58,32]⟩:ByteArray).size:=by have:=OQ.out;show ¬ _<_+2;omega
   have n2:¬ 9223372036854775807<m.name.size+2:=n1;go_wp2_with fail;refine (eT.out.Ot.write _ ?_ eT.out.ge).mono ?_
   ·have:=OQ.out;have e1:(⟨#[58,32]⟩:ByteArray).size=2:=rfl;rw[zH (T++Fj 123++CK),zH m.name];omega
   rintro e' w7 ⟨rfl,g1,g2,g3⟩;have eP:=zh (eT.out.step g1 g2 g3);have vM:=zh (g3.blk mZ hne (by decide))
   clear g1 g2 g3;clear y0 y1 y2
   have D7:Hid (∀w' T',Hu s (some ⟨bq,oq,none⟩) c x As cs (some ⟨mb,mo,none⟩) cm v A1 c1 (some ⟨ib,io,none⟩) c2 A3 c3 B b w.heap.size (w.heap.size+1) p8 w w' (T')->w'.heap[wh]? = some (m.box M1 m1 M2 m2 M3 m3)->(w'.cell? ⟨w.heap.size,0,none⟩=some (.slice (some ⟨bq,oq,none⟩) s.length c)/\w'.cell? ⟨wh,2,none⟩=some (.int .i64 m.type)/\w'.cell? ⟨w.heap.size+1,6,none⟩=some (.slice (some ⟨ib,io,none⟩) v.items.length c2)/\w'.cell? ⟨ib,io+k * 8,none⟩=some (.int .i64 y.kind)/\w'.cell? ⟨ib,io+k * 8+1,none⟩=some (.bool y.bool)/\w'.cell? ⟨ib,io+k * 8+2,none⟩=some (.int .i64 y.int)/\w'.cell? ⟨ib,io+k * 8+3,none⟩=some (.string y.str)/\w'.cell? ⟨ib,io+k * 8+4,none⟩=some (.int .i64 y.id)/\w'.cell? ⟨ib,io+k * 8+5,none⟩=some (.slice E1 y.keys.length e1)/\w'.cell? ⟨ib,io+k * 8+6,none⟩=some (.slice E2 y.items.length e2)/\w'.cell? ⟨ib,io+k * 8+7,none⟩=some (.slice E3 y.rest.length e3))):=fun w' T' st hy=>by
    obtain ⟨v0,v1,v2,v3,v4,v5,v6,v7⟩:=zF st.h7;obtain ⟨y0,y1,y2,-⟩:=QA hy;have u:=st.up HB0 HG;obtain ⟨a0,a1,a2,a3,a4,a5,a6,a7⟩:=HA.out;exact ⟨st.c5,y2,v6,zA u a0,zA u a1,zA u a2,zA u a3,zA u a4,zA u a5,zA u a6,zA u a7⟩
   go_upto_region 21 with fail
   refine wp_region_held_drew (S:=(fun w'=>(w'.cell? ⟨w.heap.size,0,none⟩=some (.slice (some ⟨bq,oq,none⟩) s.length c)/\w'.cell? ⟨wh,2,none⟩=some (.int .i64 m.type)/\w'.cell? ⟨w.heap.size+1,6,none⟩=some (.slice (some ⟨ib,io,none⟩) v.items.length c2)/\w'.cell? ⟨ib,io+k * 8,none⟩=some (.int .i64 y.kind)/\w'.cell? ⟨ib,io+k * 8+1,none⟩=some (.bool y.bool)/\w'.cell? ⟨ib,io+k * 8+2,none⟩=some (.int .i64 y.int)/\w'.cell? ⟨ib,io+k * 8+3,none⟩=some (.string y.str)/\w'.cell? ⟨ib,io+k * 8+4,none⟩=some (.int .i64 y.id)/\w'.cell? ⟨ib,io+k * 8+5,none⟩=some (.slice E1 y.keys.length e1)/\w'.cell? ⟨ib,io+k * 8+6,none⟩=some (.slice E2 y.items.length e2)/\w'.cell? ⟨ib,io+k * 8+7,none⟩=some (.slice E3 y.rest.length e3))/\Hid (Below B w0 w))) (by kernel_rfl) ?_ (fun AO=>?_)
   ·(try dsimp only);exact ⟨D7.out _ _ (eP.out.below (zC (Pe _ _) 1)) (zE vM (zC (Pe _ _) 1)),HB0.out⟩
   refine tL 0 ?_;refine tL 1 ?_;refine tL 2 ?_;refine tL 3 ?_;refine tL 4 ?_;refine tL 5 ?_;try simp only[ps]
   refine tL 6 ?_;refine tL 7 ?_;refine tL 8 ?_;refine tR 9 (fun K hK=>?_)
   go_simp
   (refine (E5.out m.type y E1 e1 E2 e2 E3 e3 w0 _ B b _ gT HS R5 ML HG (HB0.out.trans (eP.out.below (zC (Pe _ _) 1)).fr) (eP.out.below (zC (Pe _ _) 1)).ge (eP.out.below (zC (Pe _ _) 1)).Ot (by have:=OQ.out;have e1:(⟨#[58,32]⟩:ByteArray).size=2:=rfl;rw[zH,zH (T++Fj 123++CK),zH m.name];omega)).mono ?_;rintro e' w8 ⟨rfl,g1,g2,g3⟩;have gL:=zh ((eP.out.below (zC (Pe _ _) 1)).step g1 g2 g3);have xI:=zh (g3.blk (zE vM (zC (Pe _ _) 1)) hne (by decide));clear g1 g2 g3)
   refine hK.out _ _ ?_ (fun AO=>?_)
   ·(try dsimp only);exact ⟨D7.out _ _ gL.out xI,HB0.out⟩
   clear hK K;refine wpAnyH_done (by kernel_rfl) ?_ _
   clear AO;have HE:Hid (T++Fj 123++CK++CM++(m.name++⟨#[58,32]⟩)++CZ s n m.type y=T++Fj 123++Gv (fun i=>(Bw (CZ s n) x v).getD i ⟨#[]⟩) (k+1)):=by show _=_;rw[rG.out];simp only[AA8]
   go_wp2
   go_roundw
   case rel=>exact ⟨k+1,by omega,by go_num,by have h:=gL.out;rw[HE.out] at h;exact h⟩
   case measure=>simp[intOf];omega
  ·obtain rfl:k=x.AA.length:=by omega
   have q3:¬ ((x.AA.length:Nat):Int)<((x.AA.length:Nat):Int):=by omega
   obtain ⟨v0,v1,v2,v3,v4,v5,v6,v7⟩:=zF Ob.out.h7;obtain ⟨b0,b1,b2,b3,b4,b5,b6,b7,b8,b9⟩:=zG Ob.out.h8;have x0:=Ob.out.c5;obtain ⟨wk,rfl⟩:∃wk:World,wk=wr:=⟨_,rfl⟩;go_wp2_with fail
   go_loopw [107] (fun i wr=>∃k:Nat,k<=v.rest.length/\i = .int .i64 (k:Int)/\Hid (Hu s (some ⟨bq,oq,none⟩) c x As cs Am cm v A1 c1 A2 c2 A3 c3 B b w.heap.size (w.heap.size+1) p8 w wr (T++Fj 123++Gv (fun i=>(Bw (CZ s n) x v).getD i ⟨#[]⟩) (x.AA.length+k)))) (fun i _=>v.rest.length - (intOf i).toNat)
   case atStart=>exact ⟨0,by omega,rfl,Ob.out⟩
   case round =>
    obtain ⟨k,hk,rfl,hh⟩:=hrel;have mV:=zh hh.out;clear v0 v1 v2 v3 v4 v5 v6 v7 b0 b1 b2 b3 b4 b5 b6 b7 b8 b9 x0 hh q3;obtain ⟨wq,rfl⟩:∃wq:World,wq=wr:=⟨_,rfl⟩
    by_cases hlt:k<v.rest.length
    ·obtain ⟨rb,ro,hRB,_,a0,a1⟩:=HR.out.rest.at2 hlt
     replace a0:=zA (mV.out.up HB0 HG) a0;replace a1:=zA (mV.out.up HB0 HG) a1;have hfr:=HF.out.2.1 _ (AAK hlt);have hel:x.AA.length+k<(Bw (CZ s n) x v).length:=by rw[HPL.out];omega
     have fG:=zh (QM (l:=Bw (CZ s n) x v) hel);have rG:=zh (QL (l:=Bw (CZ s n) x v) hel);rw[X9 HF.out.1 hlt] at fG rG;clear hel;generalize v.rest[k]=r at *;have UZ:=zh hfr;clear hfr;generalize hCK:Gv (fun i=>(Bw (CZ s n) x v).getD i ⟨#[]⟩) (x.AA.length+k)=CK at *
     generalize hCM:(if x.AA.length+k=0 then (⟨#[]⟩:ByteArray) else ⟨#[44,32]⟩)=CM at *
     have OQ:Hid ((T++Fj 123++CK).size+CM.size+((D5 r.id).size+2+(Rs r.data).size)<=140737488355328):=by have:=HZ.out;have h:=fG.out;rw[zH (D5 r.id++_),zH (D5 r.id)] at h;rw[zH,zH];change _+_+(_+2+_)<=_ at h;show _+1+_+_+_<=_;omega
     subst hRB;have h1:(0:Int)<=(k:Int):=by omega
     have h2:(k:Int)<(v.rest.length:Int):=by omega
     have hblt:=mV.out.Ot.lt;have OW:=zh (zD wq (Ak.box r));have mY:=zh (AAC wq (Ak.box r));have gK:=zh (mV.out.below OW);obtain ⟨v0,v1,v2,v3,v4,v5,v6,v7⟩:=zF mV.out.h7;obtain ⟨b0,b1,b2,b3,b4,b5,b6,b7,b8,b9⟩:=zG mV.out.h8;have x0:=mV.out.c5;go_upto_region 26 with fail
     clear v0 v1 v2 v3 v4 v5 v6 v7 b0 b1 b2 b3 b4 b5 b6 b7 b8 b9 x0 a0 a1;generalize wq.alloc (Ak.box r)=W4 at *;generalize wq.heap.size=rV at *;have hne:rV≠b:=by omega
     obtain ⟨v0,v1,v2,v3,v4,v5,v6,v7⟩:=zF gK.out.h7;obtain ⟨b0,b1,b2,b3,b4,b5,b6,b7,b8,b9⟩:=zG gK.out.h8;have x0:=gK.out.c5;have hcm:Calls Tryz.prog 70 #[.pointer (some ⟨b,0,none⟩),.int .i64 ((x.AA.length:Int)+(k:Int))] W4 _:=QK gK.out.Ot (x.AA.length+k) (by rw[hCM];have:=OQ.out;omega) gK.out.ge
     have wK:=zh hcm;clear hcm;go_wp2_with fail;refine wK.out.mono ?_;rintro e' w6 ⟨rfl,g1,g2,g3⟩;rw[hCM] at g1;have eT:=zh (gK.out.step g1 g2 g3);have mZ:=zh (g3.blk mY hne (by decide))
     clear g1 g2 g3 wK;clear v0 v1 v2 v3 v4 v5 v6 v7 b0 b1 b2 b3 b4 b5 b6 b7 b8 b9 x0;have n1:¬ 9223372036854775807<(D5 r.id).size+(⟨#[58,32]⟩:ByteArray).size:=by have:=OQ.out;show ¬ _<_+2;omega
     have n2:¬ 9223372036854775807<(D5 r.id).size+2:=n1;have n3:¬ 9223372036854775807<(D5 r.id++⟨#[58,32]⟩:ByteArray).size+(Rs r.data).size:=by have:=OQ.out;rw[zH];show ¬ _<_+2+_;omega
     have n4:¬ 9223372036854775807<(D5 r.id).size+2+(Rs r.data).size:=by have:=OQ.out;omega
     have D7:Hid (∀w':World,w'.heap[rV]? = some (Ak.box r)->(w'.cell? ⟨rV,0,none⟩=some (.int .i64 r.id)/\w'.cell? ⟨rV,1,none⟩=some (.string r.data))):=fun w' hy=>⟨by rw[AAE _ _ _ _ _ _ hy];rfl,by rw[AAE _ _ _ _ _ _ hy];rfl⟩
     go_upto_region 27 with fail
     refine wp_region_held_drew (S:=(fun w'=>(w'.cell? ⟨rV,0,none⟩=some (.int .i64 r.id)/\w'.cell? ⟨rV,1,none⟩=some (.string r.data))/\Hid (Below B w0 w))) (by kernel_rfl) ?_ (fun AO=>?_)
     ·(try dsimp only);exact ⟨D7.out _ (zE mZ (zC (Pe _ _) 1)),HB0.out⟩
     refine tL 0 ?_;refine tL 1 ?_;try simp only[ps]
     refine tL 2 ?_;refine tL 5 ?_;refine tL 6 ?_;refine tR 3 (fun K hK=>?_)
     go_simp
     (refine (N8 r.id (kT UZ) _ (ML.out.below ((eT.out.below (zC (Pe _ _) 1)).up HB0 HG))).mono ?_;rintro e' w7 ⟨rfl,FE⟩;have eP:=zh ((eT.out.below (zC (Pe _ _) 1)).below FE);have vM:=zh (zE (zE mZ (zC (Pe _ _) 1)) FE);clear FE)
     refine hK.out _ _ ?_ (fun AO=>?_)
     ·(try dsimp only);exact ⟨D7.out _ vM,HB0.out⟩
     clear hK K;refine tL 4 ?_;refine tR 7 (fun K hK=>?_)
     go_simp
     (refine (X6 r.data (by have:=OQ.out;omega) _).mono ?_;rintro e' w8 ⟨rfl,EJ⟩;have gL:=zh (eP.out.below EJ);have xI:=zh (zE vM EJ);clear EJ)
     refine hK.out _ _ ?_ (fun AO=>?_)
     ·(try dsimp only);exact ⟨D7.out _ xI,HB0.out⟩
     clear hK K;try simp only[ps]
     refine tL 8 ?_;refine tR 9 (fun K hK=>?_)
     go_simp
     (refine (gL.out.Ot.write _ ?_ gL.out.ge).mono ?_;(· have:=OQ.out;have e1:(⟨#[58,32]⟩:ByteArray).size=2:=rfl;rw[zH (T++Fj 123++CK),zH (D5 r.id++_),zH (D5 r.id)];omega);rintro e' w9 ⟨rfl,g1,g2,g3⟩;have ST9:=zh (gL.out.step g1 g2 g3);have HY9:=zh (g3.blk xI hne (by decide));clear g1 g2 g3)
     refine hK.out _ _ ?_ (fun AO=>?_)
     ·(try dsimp only);exact ⟨D7.out _ HY9,HB0.out⟩
     clear hK K;refine wpAnyH_done (by kernel_rfl) ?_ _
     clear AO;have HE:Hid (T++Fj 123++CK++CM++(D5 r.id++⟨#[58,32]⟩++Rs r.data)=T++Fj 123++Gv (fun i=>(Bw (CZ s n) x v).getD i ⟨#[]⟩) (x.AA.length+(k+1))):=by show _=_;rw[<-Nat.add_assoc,rG.out];simp only[AA8]
     go_wp2
     go_roundw
     case rel=>exact ⟨k+1,by omega,by go_num,by have h:=ST9.out;rw[HE.out] at h;exact h⟩
     case measure=>simp[intOf];omega
    ·obtain rfl:k=v.rest.length:=by omega
     have HE:Hid (Gv (fun i=>(Bw (CZ s n) x v).getD i ⟨#[]⟩) (x.AA.length+v.rest.length)=RU (Bw (CZ s n) x v)):=by show _=_;unfold RU;rw[HPL.out]
     have xG:=mV;rw[HE.out] at xG;go_wp2_with fail;refine (xG.out.Ot.byte 125 (by have:=HZ.out;rw[zH,zH];show _+1+_+1<=_;omega) xG.out.ge).mono ?_
     rintro e' w8 ⟨rfl,g1,g2,g3⟩;have gL:=zh (xG.out.step g1 g2 g3);clear g1 g2 g3;go_wp2;refine bodyPost_end (results_none Tryz.results44 _ _ _) rfl ⟨rfl,by rw[HL.out];(have h:=gL.out.Ot;simp only[AA8] at h ⊢;exact h),gL.out.fr,gL.out.ot⟩
theorem Uc (hl:∀t,(AB s t).kind=2\/(AB s t).kind=5\/(AB s t).kind=9\/(AB s t).kind=0) (hv:zQ s=0) (hn:Bq s) (ih:WriteAt s A c n):WriteAt s A c (n+1):=by
 intro t v A1 c1 A2 c2 A3 c3 w0 w B b T hf hs hr htb hg hb0 hB hbl hsz
 obtain ⟨i0,i1,_,_⟩:=DL hf;have hk:=Dh hv ⟨i0,i1⟩
 rcases hl t with e|e|e|e
 ·exact Zh hv hn ih t v A1 c1 A2 c2 A3 c3 w0 w B b T e hf hs hr htb hg hb0 hB hbl hsz
 ·exact Zg hv hn ih t v A1 c1 A2 c2 A3 c3 w0 w B b T e hf hs hr htb hg hb0 hB hbl hsz
 ·exact Zf hv hn ih t v A1 c1 A2 c2 A3 c3 w0 w B b T e hf hs hr htb hg hb0 hB hbl hsz
 ·omega
theorem O7 {s:List Ae} {A:zo} {c:Nat} (hl:∀t,(AB s t).kind=2\/(AB s t).kind=5\/(AB s t).kind=9\/(AB s t).kind=0) (hv:zQ s=0) (hn:Bq s):∀n,WriteAt s A c n
 | 0=>fun _ _ _ _ _ _ _ _ _ _ _ _ _ hf=>by cases hf
 | n+1=>Uc hl hv hn (O7 hl hv hn n)
noncomputable def Yp (s:List Ae) (t:Int) (v:Val):ByteArray:=if BH s false t v then VG s t v else ⟨#[]⟩
theorem VW (hl:∀t,(AB s t).kind=2\/(AB s t).kind=5\/(AB s t).kind=9\/(AB s t).kind=0) (A:zo) (c:Nat) (hv:zQ s=0) (hn:Bq s) (t:Int) (v:Val) (hz:(Yp s t v).size<=140737488355328) (A1:zo) (c1:Nat) (A2:zo) (c2:Nat) (A3:zo) (c3:Nat) (w:World) (hs:CQ w A s) (hr:Az w v A1 A2 A3) (htb:eH w):
  Calls Tryz.prog 14 #[.agg #[.slice A s.length c],.int .i64 t,v.v A1 c1 A2 c2 A3 c3] w fun e w'=>e = .returned (.tuple #[.string (Yp s t v),.int .i64 (if BH s false t v then 0 else 1)])/\Below w.heap.size w w':=by
 have HS:=zh hs;have HR:=zh hr;have ML:=zh htb;have HF:=zh (Ig A c hv hn t v A1 c1 A2 c2 A3 c3);have HW:=zh (O7 (A:=A) (c:=c) hl hv hn (SizeOf.sizeOf v));have HZ:Hid (Yp s t v=if BH s false t v then VG s t v else ⟨#[]⟩):=rfl
 have HZ2:=zh hz;have HB0:=zh (zI w (.cells #[.slice A s.length c] 31) (v.box A1 c1 A2 c2 A3 c3));have HX0:=zh (EP (AAC w (.cells #[.slice A s.length c] 31)) (v.box A1 c1 A2 c2 A3 c3));have rY:Hid (((w.alloc (.cells #[.slice A s.length c] 31)).alloc (v.box A1 c1 A2 c2 A3 c3)).heap[w.heap.size+1]? = some (v.box A1 c1 A2 c2 A3 c3)):=by
  have:=AAC (w.alloc (.cells #[.slice A s.length c] 31)) (v.box A1 c1 A2 c2 A3 c3);rw[show (w.alloc (.cells #[.slice A s.length c] 31)).heap.size=w.heap.size+1 by simp] at this
  exact this
 generalize Yp s t v=FT at *;generalize xD:(if BH s false t v then (0:Int) else 1)=ER
 replace xD:=zh xD;clear hs hr hv hn htb hz hl
 go_enter Tryz.func14,Tryz.ntmps14
 go_upto_region 1 with fail
 generalize (w.alloc (.cells #[.slice A s.length c] 31)).alloc (v.box A1 c1 A2 c2 A3 c3)=W1 at *;obtain ⟨v0,v1,v2,v3,v4,v5,v6,v7⟩:=zF rY;have x0:=zb HX0;go_wp2_with fail;refine (HF.out _ (HS.out.below HB0) (HR.out.below HB0)).mono ?_;rintro e w1 ⟨rfl,hb1⟩;have HB1:=zh (zB HB0 hb1);have Ei:=zh (zE HX0 hb1);have HY1:=zh (zE rY hb1);clear hb1 v0 v1 v2 v3 v4 v5 v6 v7 x0
 cases hf:BH s false t v with
 | false =>
  have HE:Hid (FT=⟨#[]⟩):=by show _=_;rw[HZ.out,hf];rfl
  have IJ:Hid (ER=1):=by show _=_;rw[<-xD.out,hf];rfl
  clear hf;go_wp2;go_ret2;exact ⟨by rw[HE.out,IJ.out];rfl,HB1.out⟩
 | true =>
  have HE:Hid (FT=VG s t v):=by show _=_;rw[HZ.out,hf];rfl
  have IJ:Hid (ER=0):=by show _=_;rw[<-xD.out,hf];rfl
  have Vw:=zh hf;clear hf;have HN:=zh (CF.new w1 HB1.out.size);have QZ:=zh (zD w1 (.cells #[.pointer none,.slice none 0 0] 57));have HB2:=zh (HB1.out.trans (QZ.out.mono HB1.out.size));have Gg:=zh (zE Ei QZ);have HY2:=zh (zE HY1 QZ);go_upto_region 4 with fail
  generalize w1.alloc (.cells #[.pointer none,.slice none 0 0] 57)=W2 at *;generalize w1.heap.size=p8 at *;obtain ⟨v0,v1,v2,v3,v4,v5,v6,v7⟩:=zF HY2;have x0:=zb Gg;go_wp2_with fail;refine (HW.out t v A1 c1 A2 c2 A3 c3 w _ w.heap.size p8 ⟨#[]⟩ Vw HS HR ML (AAH _) HB2 HB2.out.size HN ?_).mono ?_
  ·have:=HZ2.out
   rw[HE.out] at this
   show 0+_<=_
   rw[Nat.zero_add];exact this
  rintro e w3 ⟨rfl,h1,h2,_⟩;have lX:Hid (CF w3 w.heap.size p8 FT):=by
   rw[show (⟨#[]⟩:ByteArray)++CZ s (SizeOf.sizeOf v) t v=VG s t v from ByteArray.empty_append,<-HE.out] at h1;exact h1
  have HB3:=zh (HB2.out.trans h2);clear h1 h2 v0 v1 v2 v3 v4 v5 v6 v7 x0;go_wp2_with fail;refine (lX.out.str HB3.out.size).mono ?_;rintro e w4 ⟨rfl,h4⟩;have BA:=zh (HB3.out.trans h4);clear h4;go_wp2;go_ret2;exact ⟨by rw[IJ.out];rfl,BA.out⟩
end Go.Proofs.YthkkllmmbefedaaGreatDoor



