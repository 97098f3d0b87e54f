/-
  Walks: literal.write, kinds 8.
-/
import Derived.Test.YthkkllmmbefedaaGreatDoorQGA10
import Derived.Test.YthkkllmmbefedaaGreatDoorQGA9
namespace Go.Proofs.YthkkllmmbefedaaGreatDoor
open Go.RowKit
set_option maxHeartbeats 16000000
set_option maxRecDepth 100000
theorem bJ {s:List Aa} {A:zo} {c n:Nat} (_hv:zQ s=0) (hn:DI s) (ih:WriteAt s A c n):IW s A c n 8:=by
 intro t v A1 c1 A2 c2 A3 c3 w0 w B b T e hf hs hr htb hg hb0 hB hbl hsz
 obtain ⟨i0,i1,i2,i3⟩:=Bt hf;obtain ⟨tn,rfl⟩:=AAY i0;have htn:tn<s.length:=by omega
 have hln:=hs.1.lt (by omega)
 rw[zT htn] at i2 i3 e;have Gc:Hid (Ae s (n+1) (tn:Int) v=Bd (Ae s n) s[tn] v):=by show _=_;rw[Ae,zT htn]
 have oL:=zh (hn _ (AAU htn));obtain ⟨Bw,H5,H7⟩:=zy w (.cells #[.slice A s.length c] 31) (v.box A1 c1 A2 c2 A3 c3);have EI:=zh ih;have HS:=zh hs;have HR:=zh hr;have KJ:=zh htb;have HG:=zh hg;have HB0:=zh hb0;have Jh:=zh hB;have F5:=zh hbl;have hblt:=hbl.lt;obtain ⟨L,hL⟩:∃L,Ae s (n+1) (tn:Int) v=L:=⟨_,rfl⟩;rw[hL] at hsz Gc;simp only[hL];have Ee:=zh hsz
 have HU:Hid (Below w0.heap.size w0 ((w.alloc (.cells #[.slice A s.length c] 31)).alloc (v.box A1 c1 A2 c2 A3 c3))):=(hb0.trans (Bw.out.mono hB)).mono hg;obtain ⟨bq,oq,As,cs,Am,cm,hA,htr,t0,t1,t2,t3,t4,t5,t6,t7,t8,t9⟩:=hs.JX htn;clear hL hf ih hs hr htb hg hb0 hB hbl hsz _hv hn i0 i1;subst hA;generalize s[tn]=x at *;have Hz:=zh htr;have Fe:=zh i3;have jM:=zh (i2.trans e);have HK:=zh e
 clear htr i3 i2 e;replace t0:=zA HU t0;replace t1:=zA HU t1;replace t2:=zA HU t2;replace t3:=zA HU t3;replace t4:=zA HU t4;replace t5:=zA HU t5;replace t6:=zA HU t6;replace t7:=zA HU t7;replace t8:=zA HU t8;replace t9:=zA HU t9;have h1:(0:Int)<=(tn:Int):=by omega
 have h2:(tn:Int)<(s.length:Int):=by omega
 go_enter Tryz.func44,Tryz.ntmps44
 go_upto_region 1 with fail
 have hsz2:Hid (((w.alloc (.cells #[.slice (some ⟨bq,oq,none⟩) s.length c] 31)).alloc (v.box A1 c1 A2 c2 A3 c3)).heap.size=w.heap.size+2):=by show _=_;simp
 generalize (w.alloc (.cells #[.slice (some ⟨bq,oq,none⟩) s.length c] 31)).alloc (v.box A1 c1 A2 c2 A3 c3)=W2 at *;have x0:=zb H5;go_upto_region 2 with fail
 clear t0 t1 t2 t3 t4 t5 t6 t7 t8 t9 x0;have BS:=zh (zD W2 (x.box As cs Am cm));have ST:Hid (EA s (some ⟨bq,oq,none⟩) c x As cs Am cm v A1 c1 A2 c2 A3 c3 B b w.heap.size (w.heap.size+1) W2.heap.size w (W2.alloc (x.box As cs Am cm)) (T)):=by
  have hz:=hsz2.out;have hge:=Jh.out;exact ⟨(F5.out.below Bw).below BS,(Bw.out.mono Jh.out).trans (BS.out.mono (by omega)),Cb (yD Bw) (yD BS),by omega,by omega,by omega,zE H5 BS,zE H7 BS,AAL W2 _,by have:=Jh.out;have:=BS.out.size;omega⟩
 generalize W2.alloc (x.box As cs Am cm)=W3 at *;generalize W2.heap.size=p8 at *;clear hsz2 hblt Bw H5 H7 F5 HU BS h1 h2;obtain ⟨q1,q2,q3,q4,q5,q6,q7,q8⟩:=zk8 HK;obtain ⟨v0,v1,v2,v3,v4,v5,v6,v7⟩:=zF ST.out.h7;obtain ⟨b0,b1,b2,b3,b4,b5,b6,b7,b8,b9⟩:=zG ST.out.h8;have x0:=ST.out.c5
 have Sk:Hid (L=⟨#[91]⟩++(if v.keys.length=0 then ⟨#[45,62]⟩ else ⟨#[]⟩)++FN (FM (Ae s n x.key) (Ae s n x.elem) v)++⟨#[93]⟩):=Gc.out.trans (AA6 HK)
 have HF:=zh (xD HK Fe);have hlk:=HR.out.keys.1.lt (by omega)
 have rZ:=HR.out.items.1.lt (by omega)
 by_cases hk0:v.keys.length=0
 ·have HL:Hid (L=⟨#[91]⟩++⟨#[45,62]⟩++⟨#[93]⟩):=by
   show _=_
   rw[Sk.out,AAH hk0];unfold FM;rw[List.length_eq_zero_iff.1 hk0]
   rfl
  have HZ:Hid (T.size+4<=140737488355328):=by have:=Ee.out;rw[HL.out,zH,zH] at this;exact this
  have z1:((v.keys.length:Int)==0)=true:=by simp[hk0]
  have z2:¬ (0:Int)<(v.keys.length:Int):=by omega
  clear hk0;go_wp2_with fail;refine (ST.out.FD.byte 91 (by have:=HZ.out;omega) ST.out.ge).mono ?_
  rintro e' w5 ⟨rfl,g1,g2,g3⟩;have EN:=zh (ST.out.step g1 g2 g3);clear g1 g2 g3;clear v0 v1 v2 v3 v4 v5 v6 v7 b0 b1 b2 b3 b4 b5 b6 b7 b8 b9 x0;obtain ⟨v0,v1,v2,v3,v4,v5,v6,v7⟩:=zF EN.out.h7;obtain ⟨b0,b1,b2,b3,b4,b5,b6,b7,b8,b9⟩:=zG EN.out.h8;have x0:=EN.out.c5;go_wp2_with fail;refine (EN.out.FD.write _ ?_ EN.out.ge).mono ?_
  ·have:=HZ.out;rw[zH];show _+1+2<=_;omega
  rintro e' w6 ⟨rfl,g1,g2,g3⟩;have GZ:=zh (EN.out.step g1 g2 g3);clear g1 g2 g3;clear v0 v1 v2 v3 v4 v5 v6 v7 b0 b1 b2 b3 b4 b5 b6 b7 b8 b9 x0;obtain ⟨v0,v1,v2,v3,v4,v5,v6,v7⟩:=zF GZ.out.h7;obtain ⟨b0,b1,b2,b3,b4,b5,b6,b7,b8,b9⟩:=zG GZ.out.h8;have x0:=GZ.out.c5;go_wp2_with fail
  go_loopw [217] (fun i wr=>i = .int .i64 0/\Hid (EA s (some ⟨bq,oq,none⟩) c x As cs Am cm v A1 c1 A2 c2 A3 c3 B b w.heap.size (w.heap.size+1) p8 w wr (T++Cq 91++⟨#[45,62]⟩))) (fun _ _=>0)
  case atStart=>exact ⟨rfl,GZ.out⟩
  case round =>
   obtain ⟨rfl,hh⟩:=hrel;have Eg:=zh hh.out;clear v0 v1 v2 v3 v4 v5 v6 v7 b0 b1 b2 b3 b4 b5 b6 b7 b8 b9 x0 hh;go_wp2_with fail;refine (Eg.out.FD.byte 93 (by have:=HZ.out;rw[zH,zH];show _+1+2+1<=_;omega) Eg.out.ge).mono ?_
   rintro e' w8 ⟨rfl,g1,g2,g3⟩;have Kj:=zh (Eg.out.step g1 g2 g3);clear g1 g2 g3;go_wp2;refine bodyPost_end (results_none Tryz.results44 _ _ _) rfl ⟨rfl,by rw[HL.out];(have h:=Kj.out.FD;simp only[AAk] at h ⊢;exact h),Kj.out.fr,Kj.out.ot⟩
 ·have HL:Hid (L=⟨#[91]⟩++FN (FM (Ae s n x.key) (Ae s n x.elem) v)++⟨#[93]⟩):=by show _=_;rw[Sk.out,Pd hk0,OX]
  have HZ:Hid (T.size+(1+(FN (FM (Ae s n x.key) (Ae s n x.elem) v)).size+1)<=140737488355328):=by have:=Ee.out;rw[HL.out,zH,zH] at this;exact this
  have z1:((v.keys.length:Int)==0)=false:=by simp only[ABY];omega
  clear hk0;have KX:=zh (Zq (f:=Ae s n x.key) (g:=Ae s n x.elem) HF.out.1);go_wp2_with fail;refine (ST.out.FD.byte 91 (by have:=HZ.out;omega) ST.out.ge).mono ?_
  rintro e' w5 ⟨rfl,g1,g2,g3⟩;have EN:=zh (ST.out.step g1 g2 g3);clear g1 g2 g3;clear v0 v1 v2 v3 v4 v5 v6 v7 b0 b1 b2 b3 b4 b5 b6 b7 b8 b9 x0;obtain ⟨v0,v1,v2,v3,v4,v5,v6,v7⟩:=zF EN.out.h7;obtain ⟨b0,b1,b2,b3,b4,b5,b6,b7,b8,b9⟩:=zG EN.out.h8;have x0:=EN.out.c5;go_wp2_with fail
  go_loopw [217] (fun i wr=>∃k:Nat,k<=v.keys.length/\i = .int .i64 (k:Int)/\Hid (EA s (some ⟨bq,oq,none⟩) c x As cs Am cm v A1 c1 A2 c2 A3 c3 B b w.heap.size (w.heap.size+1) p8 w wr (T++Cq 91++Dw (fun i=>(FM (Ae s n x.key) (Ae s n x.elem) v).getD i ⟨#[]⟩) k))) (fun i _=>v.keys.length - (intOf i).toNat)
  case atStart=>exact ⟨0,by omega,rfl,by have h:=EN.out;rw[show T++Cq 91=T++Cq 91++Dw (fun i=>(FM (Ae s n x.key) (Ae s n x.elem) v).getD i ⟨#[]⟩) 0 from (OX _).symm] at h;exact h⟩
  case round =>
   obtain ⟨k,hk,rfl,hh⟩:=hrel;have Eg:=zh hh.out;clear v0 v1 v2 v3 v4 v5 v6 v7 b0 b1 b2 b3 b4 b5 b6 b7 b8 b9 x0 hh
   by_cases hlt:k<v.keys.length
   ·have hlt2:k<v.items.length:=by have:=HF.out.1;omega
    obtain ⟨kb,ko,F1,f1,F2,f2,F3,f3,hKB,hkr,a0,a1,a2,a3,a4,a5,a6,a7⟩:=HR.out.keys.at8 hlt;have aV:=zh hkr;clear hkr;replace a0:=zA (Eg.out.up HB0 HG) a0;replace a1:=zA (Eg.out.up HB0 HG) a1;replace a2:=zA (Eg.out.up HB0 HG) a2;replace a3:=zA (Eg.out.up HB0 HG) a3;replace a4:=zA (Eg.out.up HB0 HG) a4;replace a5:=zA (Eg.out.up HB0 HG) a5
    replace a6:=zA (Eg.out.up HB0 HG) a6;replace a7:=zA (Eg.out.up HB0 HG) a7;have HC:=zh (And.intro a0 (And.intro a1 (And.intro a2 (And.intro a3 (And.intro a4 (And.intro a5 (And.intro a6 a7)))))));clear a0 a1 a2 a3 a4 a5 a6 a7;obtain ⟨ib,io,E1,e1,E2,e2,E3,e3,hI,hir,a0,a1,a2,a3,a4,a5,a6,a7⟩:=HR.out.items.at8 hlt2;have og:=zh hir
    have HA:=zh (And.intro a0 (And.intro a1 (And.intro a2 (And.intro a3 (And.intro a4 (And.intro a5 (And.intro a6 a7)))))));clear hir a0 a1 a2 a3 a4 a5 a6 a7;have hm1:=HF.out.2.1 _ (AAU hlt);have hm2:=HF.out.2.2 _ (AAU hlt2);have hel:k<(FM (Ae s n x.key) (Ae s n x.elem) v).length:=by rw[KX.out];exact hlt
    have YZ:=zh (KH (l:=FM (Ae s n x.key) (Ae s n x.elem) v) hel);have aY:=zh (KG (l:=FM (Ae s n x.key) (Ae s n x.elem) v) hel);rw[Zr hlt hlt2] at YZ aY;clear hel;generalize v.keys[k]=z at *;generalize v.items[k]=y at *;have HFZ:=zh hm1;have Yf:=zh hm2;clear hm1 hm2;generalize hCK:Dw (fun i=>(FM (Ae s n x.key) (Ae s n x.elem) v).getD i ⟨#[]⟩) k=CK at *
    generalize hCM:(if k=0 then (⟨#[]⟩:ByteArray) else ⟨#[44,32]⟩)=CM at *
    have IZ:Hid ((T++Cq 91++CK).size+CM.size+((Ae s n x.key z).size+4+(Ae s n x.elem y).size)<=140737488355328):=by have:=HZ.out;have h:=YZ.out;rw[zH (Ae s n x.key z++_),zH (Ae s n x.key z)] at h;rw[zH,zH];change _+_+(_+4+_)<=_ at h;show _+1+_+_+_<=_;omega
    subst hKB;subst hI;have h1:(0:Int)<=(k:Int):=by omega
    have h2:(k:Int)<(v.keys.length:Int):=by omega
    have h3:(k:Int)<(v.items.length:Int):=by omega
    have hblt:=Eg.out.FD.lt;have NP:=zh (zD wr (z.box F1 f1 F2 f2 F3 f3));have ak:=zh (AAL wr (z.box F1 f1 F2 f2 F3 f3));have Sq:=zh (Eg.out.below NP);obtain ⟨a0,a1,a2,a3,a4,a5,a6,a7⟩:=HC.out;obtain ⟨v0,v1,v2,v3,v4,v5,v6,v7⟩:=zF Eg.out.h7;obtain ⟨b0,b1,b2,b3,b4,b5,b6,b7,b8,b9⟩:=zG Eg.out.h8;have x0:=Eg.out.c5;go_upto_region 53 with fail
    clear v0 v1 v2 v3 v4 v5 v6 v7 b0 b1 b2 b3 b4 b5 b6 b7 b8 b9 x0 a0 a1 a2 a3 a4 a5 a6 a7 HC;generalize wr.alloc (z.box F1 f1 F2 f2 F3 f3)=W4 at *;generalize wr.heap.size=p20 at *;have hne:p20≠b:=by omega
    go_wp2_with fail
    refine (KF Sq.out.FD k (by rw[hCM];have:=IZ.out;omega) Sq.out.ge).mono ?_
    rintro e' w6 ⟨rfl,g1,g2,g3⟩;rw[hCM] at g1;have GZ:=zh (Sq.out.step g1 g2 g3);have au:=zh (g3.blk ak hne (by decide))
    clear g1 g2 g3;obtain ⟨v0,v1,v2,v3,v4,v5,v6,v7⟩:=zF GZ.out.h7;obtain ⟨b0,b1,b2,b3,b4,b5,b6,b7,b8,b9⟩:=zG GZ.out.h8;have x0:=GZ.out.c5;obtain ⟨y0,y1,y2,y3,y4,y5,y6,y7⟩:=zF au;go_wp2_with fail;refine (EI.out x.key z F1 f1 F2 f2 F3 f3 w0 _ B b _ HFZ HS aV KJ HG (HB0.out.trans GZ.out.fr) GZ.out.ge GZ.out.FD (by have:=IZ.out;rw[zH];omega)).mono ?_
    rintro e' w7 ⟨rfl,g1,g2,g3⟩;have Nq:=zh (GZ.out.step g1 g2 g3);clear g1 g2 g3;clear v0 v1 v2 v3 v4 v5 v6 v7 b0 b1 b2 b3 b4 b5 b6 b7 b8 b9 x0 y0 y1 y2 y3 y4 y5 y6 y7;go_wp2_with fail;refine (Nq.out.FD.write ⟨#[32,45,62,32]⟩ (by have:=IZ.out;rw[zH,zH (T++Cq 91++CK)];show _+_+_+4<=_;omega) Nq.out.ge).mono ?_
    rintro e' w8 ⟨rfl,g1,g2,g3⟩;have Kj:=zh (Nq.out.step g1 g2 g3);clear g1 g2 g3
    have Ip:Hid (∀w' T',EA s (some ⟨bq,oq,none⟩) c x As cs Am cm v (some ⟨kb,ko,none⟩) c1 (some ⟨ib,io,none⟩) c2 A3 c3 B b w.heap.size (w.heap.size+1) p8 w w' (T')->(w'.cell? ⟨w.heap.size,0,none⟩=some (.slice (some ⟨bq,oq,none⟩) s.length c)/\w'.cell? ⟨p8,8,none⟩=some (.int .i64 x.elem)/\w'.cell? ⟨w.heap.size+1,6,none⟩=some (.slice (some ⟨ib,io,none⟩) v.items.length c2)/\w'.cell? ⟨ib,io+k * 8,none⟩=some (.int .i64 y.kind)/\w'.cell? ⟨ib,io+k * 8+1,none⟩=some (.bool y.bool)/\w'.cell? ⟨ib,io+k * 8+2,none⟩=some (.int .i64 y.int)/\w'.cell? ⟨ib,io+k * 8+3,none⟩=some (.string y.str)/\w'.cell? ⟨ib,io+k * 8+4,none⟩=some (.int .i64 y.id)/\w'.cell? ⟨ib,io+k * 8+5,none⟩=some (.slice E1 y.keys.length e1)/\w'.cell? ⟨ib,io+k * 8+6,none⟩=some (.slice E2 y.items.length e2)/\w'.cell? ⟨ib,io+k * 8+7,none⟩=some (.slice E3 y.rest.length e3))):=fun w' T' st=>by
     obtain ⟨v0,v1,v2,v3,v4,v5,v6,v7⟩:=zF st.h7;obtain ⟨b0,b1,b2,b3,b4,b5,b6,b7,b8,b9⟩:=zG st.h8;have u:=st.up HB0 HG;obtain ⟨a0,a1,a2,a3,a4,a5,a6,a7⟩:=HA.out;exact ⟨st.c5,b8,v6,zA u a0,zA u a1,zA u a2,zA u a3,zA u a4,zA u a5,zA u a6,zA u a7⟩
    go_upto_region 56 with fail
    refine wp_region_held_drew (S:=(fun w'=>(w'.cell? ⟨w.heap.size,0,none⟩=some (.slice (some ⟨bq,oq,none⟩) s.length c)/\w'.cell? ⟨p8,8,none⟩=some (.int .i64 x.elem)/\w'.cell? ⟨w.heap.size+1,6,none⟩=some (.slice (some ⟨ib,io,none⟩) v.items.length c2)/\w'.cell? ⟨ib,io+k * 8,none⟩=some (.int .i64 y.kind)/\w'.cell? ⟨ib,io+k * 8+1,none⟩=some (.bool y.bool)/\w'.cell? ⟨ib,io+k * 8+2,none⟩=some (.int .i64 y.int)/\w'.cell? ⟨ib,io+k * 8+3,none⟩=some (.string y.str)/\w'.cell? ⟨ib,io+k * 8+4,none⟩=some (.int .i64 y.id)/\w'.cell? ⟨ib,io+k * 8+5,none⟩=some (.slice E1 y.keys.length e1)/\w'.cell? ⟨ib,io+k * 8+6,none⟩=some (.slice E2 y.items.length e2)/\w'.cell? ⟨ib,io+k * 8+7,none⟩=some (.slice E3 y.rest.length e3))/\Hid (Below B w0 w))) (by kernel_rfl) ?_ (fun AQ=>?_)
    ·(try dsimp only);exact ⟨Ip.out _ _ (Kj.out.below (zC (Pe _ _) 1)),HB0.out⟩
    refine tL 0 ?_;refine tL 1 ?_;refine tL 2 ?_;refine tL 3 ?_;refine tL 4 ?_;refine tL 5 ?_;try simp only[ps]
    refine tL 6 ?_;refine tL 7 ?_;refine tL 8 ?_;refine tR 9 (fun K hK=>?_)
    go_simp
    (refine (EI.out x.elem y E1 e1 E2 e2 E3 e3 w0 _ B b _ Yf HS og KJ HG (HB0.out.trans (Kj.out.below (zC (Pe _ _) 1)).fr) (Kj.out.below (zC (Pe _ _) 1)).ge (Kj.out.below (zC (Pe _ _) 1)).FD (by have:=IZ.out;rw[zH,zH,zH (T++Cq 91++CK)];show _+_+_+4+_<=_;omega)).mono ?_;rintro e' w9 ⟨rfl,g1,g2,g3⟩;have ST9:=zh ((Kj.out.below (zC (Pe _ _) 1)).step g1 g2 g3);clear g1 g2 g3)
    refine hK.out _ _ ?_ (fun AQ=>?_)
    ·(try dsimp only);exact ⟨Ip.out _ _ ST9.out,HB0.out⟩
    clear hK K;refine wpAnyH_done (by kernel_rfl) ?_ _
    clear AQ;have HE:Hid (T++Cq 91++CK++CM++Ae s n x.key z++⟨#[32,45,62,32]⟩++Ae s n x.elem y=T++Cq 91++Dw (fun i=>(FM (Ae s n x.key) (Ae s n x.elem) v).getD i ⟨#[]⟩) (k+1)):=by show _=_;rw[aY.out];simp only[AAk]
    go_wp2
    go_roundw
    case rel=>exact ⟨k+1,by omega,by go_num,by have h:=ST9.out;rw[HE.out] at h;exact h⟩
    case measure=>simp[intOf];omega
   ·obtain rfl:k=v.keys.length:=by omega
    have HE:Hid (Dw (fun i=>(FM (Ae s n x.key) (Ae s n x.elem) v).getD i ⟨#[]⟩) v.keys.length=FN (FM (Ae s n x.key) (Ae s n x.elem) v)):=by show _=_;unfold FN;rw[KX.out]
    have YT:=Eg;rw[HE.out] at YT;go_wp2_with fail;refine (YT.out.FD.byte 93 (by have:=HZ.out;rw[zH,zH];show _+1+_+1<=_;omega) YT.out.ge).mono ?_
    rintro e' w8 ⟨rfl,g1,g2,g3⟩;have Kj:=zh (YT.out.step g1 g2 g3);clear g1 g2 g3;go_wp2;refine bodyPost_end (results_none Tryz.results44 _ _ _) rfl ⟨rfl,by rw[HL.out];(have h:=Kj.out.FD;simp only[AAk] at h ⊢;exact h),Kj.out.fr,Kj.out.ot⟩
end Go.Proofs.YthkkllmmbefedaaGreatDoor



