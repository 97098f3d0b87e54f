/-
  Walks: literal.write, kinds 8.
-/
import Derived.Test.YthkkllmmbefedaaGreatDoorQGA10
namespace Go.Proofs.YthkkllmmbefedaaGreatDoor
open Go.RowKit Tryz
set_option maxHeartbeats 16000000
set_option maxRecDepth 100000
theorem gD {s:List Aa} {A:zo} {c n:Nat} (_hv:zQ s=0) (hn:DW s) (ih:WriteAt s A c n):JA s A c n 8:=by
 intro t v A1 c1 A2 c2 A3 c3 w0 w B b T e hf hs hr htb hg hb0 hB hbl hsz
 obtain ⟨i0,i1,i2,i3⟩:=CF hf;obtain ⟨tn,rfl⟩:=AAh i0;have htn:tn<s.length:=by omega
 have hln:=hs.1.lt (by omega)
 rw[zT htn] at i2 i3 e;have Fy:Hid (Ae s (n+1) (tn:Int) v=Bg (Ae s n) s[tn] v):=by show _=_;rw[Ae,zT htn]
 have rY:=zh (hn _ (AAL htn));obtain ⟨Bf,H5,H7⟩:=zy w (.cells #[.slice A s.length c] 31) (v.box A1 c1 A2 c2 A3 c3);have Ed:=zh ih;have HS:=zh hs;have HR:=zh hr;have Kw:=zh htb;have HG:=zh hg;have HB0:=zh hb0;have KE:=zh hB;have GV:=zh hbl;have hblt:=hbl.lt;obtain ⟨L,hL⟩:∃L,Ae s (n+1) (tn:Int) v=L:=⟨_,rfl⟩;rw[hL] at hsz Fy;simp only[hL];have E5:=zh hsz
 have HU:Hid (Below w0.heap.size w0 ((w.alloc (.cells #[.slice A s.length c] 31)).alloc (v.box A1 c1 A2 c2 A3 c3))):=(hb0.trans (Bf.O.mono hB)).mono hg;obtain ⟨bq,oq,As,cs,Am,cm,hA,htr,t0,t1,t2,t3,t4,t5,t6,t7,t8,t9⟩:=hs.J3 htn;clear hL hf ih hs hr htb hg hb0 hB hbl hsz _hv hn i0 i1;subst hA;generalize s[tn]=x at *;have Ie:=zh htr;have GH:=zh i3;have mZ:=zh (i2.trans e);have HK:=zh e
 clear htr i3 i2 e;replace t0:=zA HU t0;replace t1:=zA HU t1;replace t2:=zA HU t2;replace t3:=zA HU t3;replace t4:=zA HU t4;replace t5:=zA HU t5;replace t6:=zA HU t6;replace t7:=zA HU t7;replace t8:=zA HU t8;replace t9:=zA HU t9;have h1:(0:Int)<=(tn:Int):=by omega
 have h2:(tn:Int)<(s.length:Int):=by omega
 go_enter func44,ntmps44
 go_upto_region 1 with fail
 have hsz2:Hid (((w.alloc (.cells #[.slice (some ⟨bq,oq,none⟩) s.length c] 31)).alloc (v.box A1 c1 A2 c2 A3 c3)).heap.size=w.heap.size+2):=by show _=_;simp
 generalize (w.alloc (.cells #[.slice (some ⟨bq,oq,none⟩) s.length c] 31)).alloc (v.box A1 c1 A2 c2 A3 c3)=W2 at *;have x0:=zb H5;go_upto_region 2 with fail
 clear t0 t1 t2 t3 t4 t5 t6 t7 t8 t9 x0;have BL:=zh (zD W2 (x.box As cs Am cm));have ST:Hid (EX s (some ⟨bq,oq,none⟩) c x As cs Am cm v A1 c1 A2 c2 A3 c3 B b w.heap.size (w.heap.size+1) W2.heap.size w (W2.alloc (x.box As cs Am cm)) (T)):=by
  have hz:=hsz2.O;have hge:=KE.O;exact ⟨(GV.O.below Bf).below BL,(Bf.O.mono KE.O).trans (BL.O.mono (by omega)),Co (yD Bf) (yD BL),by omega,by omega,by omega,zE H5 BL,zE H7 BL,AAA W2 _,by have:=KE.O;have:=BL.O.size;omega⟩
 generalize W2.alloc (x.box As cs Am cm)=W3 at *;generalize W2.heap.size=p8 at *;clear hsz2 hblt Bf H5 H7 GV HU BL h1 h2;obtain ⟨q1,q2,q3,q4,q5,q6,q7,q8⟩:=zk8 HK;obtain ⟨v0,v1,v2,v3,v4,v5,v6,v7⟩:=zF ST.O.h7;obtain ⟨b0,b1,b2,b3,b4,b5,b6,b7,b8,b9⟩:=zG ST.O.h8;have x0:=ST.O.c5
 have UJ:Hid (L=⟨#[91]⟩++(if v.keys.length=0 then ⟨#[45,62]⟩ else ⟨#[]⟩)++Fv (Fu (Ae s n x.key) (Ae s n x.elem) v)++⟨#[93]⟩):=Fy.O.trans (AC3 HK)
 have HF:=zh (AA4 HK GH);have hlk:=HR.O.keys.1.lt (by omega)
 have wF:=HR.O.items.1.lt (by omega)
 by_cases hk0:v.keys.length=0
 ·have HL:Hid (L=⟨#[91]⟩++⟨#[45,62]⟩++⟨#[93]⟩):=by
   show _=_
   rw[UJ.O,AAB hk0];unfold Fu;rw[List.length_eq_zero_iff.1 hk0]
   rfl
  have HZ:Hid (T.size+4<=140737488355328):=by have:=E5.O;rw[HL.O,zH,zH] at this;exact this
  have z1:((v.keys.length:Int)==0)=true:=by simp[hk0]
  have z2:¬ (0:Int)<(v.keys.length:Int):=by omega
  clear hk0;go_wp2_with fail;refine (ST.O.FZ.byte 91 (by have:=HZ.O;omega) ST.O.ge).mono ?_
  rintro e' w5 ⟨rfl,g1,g2,g3⟩;have Eg:=zh (ST.O.step g1 g2 g3);clear g1 g2 g3;clear v0 v1 v2 v3 v4 v5 v6 v7 b0 b1 b2 b3 b4 b5 b6 b7 b8 b9 x0;obtain ⟨v0,v1,v2,v3,v4,v5,v6,v7⟩:=zF Eg.O.h7;obtain ⟨b0,b1,b2,b3,b4,b5,b6,b7,b8,b9⟩:=zG Eg.O.h8;have x0:=Eg.O.c5;go_wp2_with fail;refine (Eg.O.FZ.write _ ?_ Eg.O.ge).mono ?_
  ·have:=HZ.O;rw[zH];show _+1+2<=_;omega
  rintro e' w6 ⟨rfl,g1,g2,g3⟩;have Gw:=zh (Eg.O.step g1 g2 g3);clear g1 g2 g3;clear v0 v1 v2 v3 v4 v5 v6 v7 b0 b1 b2 b3 b4 b5 b6 b7 b8 b9 x0;obtain ⟨v0,v1,v2,v3,v4,v5,v6,v7⟩:=zF Gw.O.h7;obtain ⟨b0,b1,b2,b3,b4,b5,b6,b7,b8,b9⟩:=zG Gw.O.h8;have x0:=Gw.O.c5;go_wp2_with fail
  go_loopw [217] (fun i wr=>i = .int .i64 0/\Hid (EX s (some ⟨bq,oq,none⟩) c x As cs Am cm v A1 c1 A2 c2 A3 c3 B b w.heap.size (w.heap.size+1) p8 w wr (T++DL 91++⟨#[45,62]⟩))) (fun _ _=>0)
  case atStart=>exact ⟨rfl,Gw.O⟩
  case round =>
   obtain ⟨rfl,hh⟩:=hrel;have E9:=zh hh.O;clear v0 v1 v2 v3 v4 v5 v6 v7 b0 b1 b2 b3 b4 b5 b6 b7 b8 b9 x0 hh;go_wp2_with fail;refine (E9.O.FZ.byte 93 (by have:=HZ.O;rw[zH,zH];show _+1+2+1<=_;omega) E9.O.ge).mono ?_
   rintro e' w8 ⟨rfl,g1,g2,g3⟩;have LC:=zh (E9.O.step g1 g2 g3);clear g1 g2 g3;go_wp2;refine bodyPost_end (results_none results44 _ _ _) rfl ⟨rfl,by rw[HL.O];(have h:=LC.O.FZ;simp only[ABX] at h ⊢;exact h),LC.O.fr,LC.O.ot⟩
 ·have HL:Hid (L=⟨#[91]⟩++Fv (Fu (Ae s n x.key) (Ae s n x.elem) v)++⟨#[93]⟩):=by show _=_;rw[UJ.O,Pd hk0,PD]
  have HZ:Hid (T.size+(1+(Fv (Fu (Ae s n x.key) (Ae s n x.elem) v)).size+1)<=140737488355328):=by have:=E5.O;rw[HL.O,zH,zH] at this;exact this
  have z1:((v.keys.length:Int)==0)=false:=by simp only[ABs];omega
  clear hk0;have Kz:=zh (dG (f:=Ae s n x.key) (g:=Ae s n x.elem) HF.O.1);go_wp2_with fail;refine (ST.O.FZ.byte 91 (by have:=HZ.O;omega) ST.O.ge).mono ?_
  rintro e' w5 ⟨rfl,g1,g2,g3⟩;have Eg:=zh (ST.O.step g1 g2 g3);clear g1 g2 g3;clear v0 v1 v2 v3 v4 v5 v6 v7 b0 b1 b2 b3 b4 b5 b6 b7 b8 b9 x0;obtain ⟨v0,v1,v2,v3,v4,v5,v6,v7⟩:=zF Eg.O.h7;obtain ⟨b0,b1,b2,b3,b4,b5,b6,b7,b8,b9⟩:=zG Eg.O.h8;have x0:=Eg.O.c5;go_wp2_with fail
  go_loopw [217] (fun i wr=>∃k:Nat,k<=v.keys.length/\i = .int .i64 (k:Int)/\Hid (EX s (some ⟨bq,oq,none⟩) c x As cs Am cm v A1 c1 A2 c2 A3 c3 B b w.heap.size (w.heap.size+1) p8 w wr (T++DL 91++EL (fun i=>(Fu (Ae s n x.key) (Ae s n x.elem) v).getD i ⟨#[]⟩) k))) (fun i _=>v.keys.length - (intOf i).toNat)
  case atStart=>exact ⟨0,by omega,rfl,by have h:=Eg.O;rw[show T++DL 91=T++DL 91++EL (fun i=>(Fu (Ae s n x.key) (Ae s n x.elem) v).getD i ⟨#[]⟩) 0 from (PD _).symm] at h;exact h⟩
  case round =>
   obtain ⟨k,hk,rfl,hh⟩:=hrel;have E9:=zh hh.O;clear v0 v1 v2 v3 v4 v5 v6 v7 b0 b1 b2 b3 b4 b5 b6 b7 b8 b9 x0 hh
   by_cases hlt:k<v.keys.length
   ·have hlt2:k<v.items.length:=by have:=HF.O.1;omega
    obtain ⟨kb,ko,F1,f1,F2,f2,F3,f3,hKB,hkr,a0,a1,a2,a3,a4,a5,a6,a7⟩:=HR.O.keys.at8 hlt;have eX:=zh hkr;clear hkr;replace a0:=zA (E9.O.up HB0 HG) a0;replace a1:=zA (E9.O.up HB0 HG) a1;replace a2:=zA (E9.O.up HB0 HG) a2;replace a3:=zA (E9.O.up HB0 HG) a3;replace a4:=zA (E9.O.up HB0 HG) a4;replace a5:=zA (E9.O.up HB0 HG) a5
    replace a6:=zA (E9.O.up HB0 HG) a6;replace a7:=zA (E9.O.up HB0 HG) a7;have HC:=zh (And.intro a0 (And.intro a1 (And.intro a2 (And.intro a3 (And.intro a4 (And.intro a5 (And.intro a6 a7)))))));clear a0 a1 a2 a3 a4 a5 a6 a7;obtain ⟨ib,io,E1,e1,E2,e2,E3,e3,hI,hir,a0,a1,a2,a3,a4,a5,a6,a7⟩:=HR.O.items.at8 hlt2;have sJ:=zh hir
    have HA:=zh (And.intro a0 (And.intro a1 (And.intro a2 (And.intro a3 (And.intro a4 (And.intro a5 (And.intro a6 a7)))))));clear hir a0 a1 a2 a3 a4 a5 a6 a7;have hm1:=HF.O.2.1 _ (AAL hlt);have hm2:=HF.O.2.2 _ (AAL hlt2);have hel:k<(Fu (Ae s n x.key) (Ae s n x.elem) v).length:=by rw[Kz.O];exact hlt
    have Zx:=zh (Kk (l:=Fu (Ae s n x.key) (Ae s n x.elem) v) hel);have eu:=zh (Kj (l:=Fu (Ae s n x.key) (Ae s n x.elem) v) hel);rw[dH hlt hlt2] at Zx eu;clear hel;generalize v.keys[k]=z at *;generalize v.items[k]=y at *;have HFZ:=zh hm1;have Z5:=zh hm2;clear hm1 hm2;generalize hCK:EL (fun i=>(Fu (Ae s n x.key) (Ae s n x.elem) v).getD i ⟨#[]⟩) k=CK at *
    generalize hCM:(if k=0 then (⟨#[]⟩:ByteArray) else ⟨#[44,32]⟩)=CM at *
    have JD:Hid ((T++DL 91++CK).size+CM.size+((Ae s n x.key z).size+4+(Ae s n x.elem y).size)<=140737488355328):=by have:=HZ.O;have h:=Zx.O;rw[zH (Ae s n x.key z++_),zH (Ae s n x.key z)] at h;rw[zH,zH];change _+_+(_+4+_)<=_ at h;show _+1+_+_+_<=_;omega
    subst hKB;subst hI;have h1:(0:Int)<=(k:Int):=by omega
    have h2:(k:Int)<(v.keys.length:Int):=by omega
    have h3:(k:Int)<(v.items.length:Int):=by omega
    have hblt:=E9.O.FZ.lt;have Km:=zh (zD wr (z.box F1 f1 F2 f2 F3 f3));have fG:=zh (AAA wr (z.box F1 f1 F2 f2 F3 f3));have UD:=zh (E9.O.below Km);obtain ⟨a0,a1,a2,a3,a4,a5,a6,a7⟩:=HC.O;obtain ⟨v0,v1,v2,v3,v4,v5,v6,v7⟩:=zF E9.O.h7;obtain ⟨b0,b1,b2,b3,b4,b5,b6,b7,b8,b9⟩:=zG E9.O.h8;have x0:=E9.O.c5;go_upto_region 53 with fail
    clear v0 v1 v2 v3 v4 v5 v6 v7 b0 b1 b2 b3 b4 b5 b6 b7 b8 b9 x0 a0 a1 a2 a3 a4 a5 a6 a7 HC;generalize wr.alloc (z.box F1 f1 F2 f2 F3 f3)=W4 at *;generalize wr.heap.size=p20 at *;have hne:p20≠b:=by omega
    go_wp2_with fail
    refine (Ki UD.O.FZ k (by rw[hCM];have:=JD.O;omega) UD.O.ge).mono ?_
    rintro e' w6 ⟨rfl,g1,g2,g3⟩;rw[hCM] at g1;have Gw:=zh (UD.O.step g1 g2 g3);have fH:=zh (g3.blk fG hne (by decide))
    clear g1 g2 g3;obtain ⟨v0,v1,v2,v3,v4,v5,v6,v7⟩:=zF Gw.O.h7;obtain ⟨b0,b1,b2,b3,b4,b5,b6,b7,b8,b9⟩:=zG Gw.O.h8;have x0:=Gw.O.c5;obtain ⟨y0,y1,y2,y3,y4,y5,y6,y7⟩:=zF fH;go_wp2_with fail;refine (Ed.O x.key z F1 f1 F2 f2 F3 f3 w0 _ B b _ HFZ HS eX Kw HG (HB0.O.trans Gw.O.fr) Gw.O.ge Gw.O.FZ (by have:=JD.O;rw[zH];omega)).mono ?_
    rintro e' w7 ⟨rfl,g1,g2,g3⟩;have OY:=zh (Gw.O.step g1 g2 g3);clear g1 g2 g3;clear v0 v1 v2 v3 v4 v5 v6 v7 b0 b1 b2 b3 b4 b5 b6 b7 b8 b9 x0 y0 y1 y2 y3 y4 y5 y6 y7;go_wp2_with fail;refine (OY.O.FZ.write ⟨#[32,45,62,32]⟩ (by have:=JD.O;rw[zH,zH (T++DL 91++CK)];show _+_+_+4<=_;omega) OY.O.ge).mono ?_
    rintro e' w8 ⟨rfl,g1,g2,g3⟩;have LC:=zh (OY.O.step g1 g2 g3);clear g1 g2 g3
    have Kn:Hid (∀w' T',EX s (some ⟨bq,oq,none⟩) c x As cs Am cm v (some ⟨kb,ko,none⟩) c1 (some ⟨ib,io,none⟩) c2 A3 c3 B b w.heap.size (w.heap.size+1) p8 w w' (T')->(w'.cell? ⟨w.heap.size,0,none⟩=some (.slice (some ⟨bq,oq,none⟩) s.length c)/\w'.cell? ⟨p8,8,none⟩=some (.int .i64 x.elem)/\w'.cell? ⟨w.heap.size+1,6,none⟩=some (.slice (some ⟨ib,io,none⟩) v.items.length c2)/\w'.cell? ⟨ib,io+k * 8,none⟩=some (.int .i64 y.kind)/\w'.cell? ⟨ib,io+k * 8+1,none⟩=some (.bool y.bool)/\w'.cell? ⟨ib,io+k * 8+2,none⟩=some (.int .i64 y.int)/\w'.cell? ⟨ib,io+k * 8+3,none⟩=some (.string y.str)/\w'.cell? ⟨ib,io+k * 8+4,none⟩=some (.int .i64 y.id)/\w'.cell? ⟨ib,io+k * 8+5,none⟩=some (.slice E1 y.keys.length e1)/\w'.cell? ⟨ib,io+k * 8+6,none⟩=some (.slice E2 y.items.length e2)/\w'.cell? ⟨ib,io+k * 8+7,none⟩=some (.slice E3 y.rest.length e3))):=fun w' T' st=>by
     obtain ⟨v0,v1,v2,v3,v4,v5,v6,v7⟩:=zF st.h7;obtain ⟨b0,b1,b2,b3,b4,b5,b6,b7,b8,b9⟩:=zG st.h8;have u:=st.up HB0 HG;obtain ⟨a0,a1,a2,a3,a4,a5,a6,a7⟩:=HA.O;exact ⟨st.c5,b8,v6,zA u a0,zA u a1,zA u a2,zA u a3,zA u a4,zA u a5,zA u a6,zA u a7⟩
    go_upto_region 56 with fail
    refine wp_region_held_drew (S:=(fun w'=>(w'.cell? ⟨w.heap.size,0,none⟩=some (.slice (some ⟨bq,oq,none⟩) s.length c)/\w'.cell? ⟨p8,8,none⟩=some (.int .i64 x.elem)/\w'.cell? ⟨w.heap.size+1,6,none⟩=some (.slice (some ⟨ib,io,none⟩) v.items.length c2)/\w'.cell? ⟨ib,io+k * 8,none⟩=some (.int .i64 y.kind)/\w'.cell? ⟨ib,io+k * 8+1,none⟩=some (.bool y.bool)/\w'.cell? ⟨ib,io+k * 8+2,none⟩=some (.int .i64 y.int)/\w'.cell? ⟨ib,io+k * 8+3,none⟩=some (.string y.str)/\w'.cell? ⟨ib,io+k * 8+4,none⟩=some (.int .i64 y.id)/\w'.cell? ⟨ib,io+k * 8+5,none⟩=some (.slice E1 y.keys.length e1)/\w'.cell? ⟨ib,io+k * 8+6,none⟩=some (.slice E2 y.items.length e2)/\w'.cell? ⟨ib,io+k * 8+7,none⟩=some (.slice E3 y.rest.length e3))/\Hid (Below B w0 w))) (by kernel_rfl) ?_ (fun AQ=>?_)
    ·(try dsimp only);exact ⟨Kn.O _ _ (LC.O.below (zC (Pe _ _) 1)),HB0.O⟩
    refine tL 0 ?_;refine tL 1 ?_;refine tL 2 ?_;refine tL 3 ?_;refine tL 4 ?_;refine tL 5 ?_;try simp only[ps]
    refine tL 6 ?_;refine tL 7 ?_;refine tL 8 ?_;refine tR 9 (fun K hK=>?_)
    go_simp
    (refine (Ed.O x.elem y E1 e1 E2 e2 E3 e3 w0 _ B b _ Z5 HS sJ Kw HG (HB0.O.trans (LC.O.below (zC (Pe _ _) 1)).fr) (LC.O.below (zC (Pe _ _) 1)).ge (LC.O.below (zC (Pe _ _) 1)).FZ (by have:=JD.O;rw[zH,zH,zH (T++DL 91++CK)];show _+_+_+4+_<=_;omega)).mono ?_;rintro e' w9 ⟨rfl,g1,g2,g3⟩;have ST9:=zh ((LC.O.below (zC (Pe _ _) 1)).step g1 g2 g3);clear g1 g2 g3)
    refine hK.out _ _ ?_ (fun AQ=>?_)
    ·(try dsimp only);exact ⟨Kn.O _ _ ST9.O,HB0.O⟩
    clear hK K;refine wpAnyH_done (by kernel_rfl) ?_ _
    clear AQ;have HE:Hid (T++DL 91++CK++CM++Ae s n x.key z++⟨#[32,45,62,32]⟩++Ae s n x.elem y=T++DL 91++EL (fun i=>(Fu (Ae s n x.key) (Ae s n x.elem) v).getD i ⟨#[]⟩) (k+1)):=by show _=_;rw[eu.O];simp only[ABX]
    go_wp2
    go_roundw
    case rel=>exact ⟨k+1,by omega,by go_num,by have h:=ST9.O;rw[HE.O] at h;exact h⟩
    case measure=>simp[intOf];omega
   ·obtain rfl:k=v.keys.length:=by omega
    have HE:Hid (EL (fun i=>(Fu (Ae s n x.key) (Ae s n x.elem) v).getD i ⟨#[]⟩) v.keys.length=Fv (Fu (Ae s n x.key) (Ae s n x.elem) v)):=by show _=_;unfold Fv;rw[Kz.O]
    have Zq:=E9;rw[HE.O] at Zq;go_wp2_with fail;refine (Zq.O.FZ.byte 93 (by have:=HZ.O;rw[zH,zH];show _+1+_+1<=_;omega) Zq.O.ge).mono ?_
    rintro e' w8 ⟨rfl,g1,g2,g3⟩;have LC:=zh (Zq.O.step g1 g2 g3);clear g1 g2 g3;go_wp2;refine bodyPost_end (results_none results44 _ _ _) rfl ⟨rfl,by rw[HL.O];(have h:=LC.O.FZ;simp only[ABX] at h ⊢;exact h),LC.O.fr,LC.O.ot⟩
