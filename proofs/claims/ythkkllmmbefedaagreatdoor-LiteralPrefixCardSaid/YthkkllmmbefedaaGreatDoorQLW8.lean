/-
  Walks: literal.write, kinds 5.
-/
import Derived.Test.YthkkllmmbefedaaGreatDoorQGA10
namespace Go.Proofs.YthkkllmmbefedaaGreatDoor
open Go.RowKit Tryz
set_option maxHeartbeats 16000000
set_option maxRecDepth 100000
theorem gH {s:List Aa} {A:zo} {c n:Nat} (_hv:zQ s=0) (hn:DW s) (ih:WriteAt s A c n):JA s A c n 5:=by
 intro t v A1 c1 A2 c2 A3 c3 w0 w B b T e hf hs hr htb hg hb0 hB hbl hsz
 obtain ⟨i0,i1,i2,i3⟩:=CF hf;obtain ⟨tn,rfl⟩:=AAh i0;have htn:tn<s.length:=by omega
 have hln:=hs.1.lt (by omega)
 rw[zT htn] at i2 i3 e;have Fy:Hid (Ae s (n+1) (tn:Int) v=Bg (Ae s n) s[tn] v):=by show _=_;rw[Ae,zT htn]
 have rY:=zh (hn _ (AAL htn));obtain ⟨Bf,H5,H7⟩:=zy w (.cells #[.slice A s.length c] 31) (v.box A1 c1 A2 c2 A3 c3);have Ed:=zh ih;have HS:=zh hs;have HR:=zh hr;have Kw:=zh htb;have HG:=zh hg;have HB0:=zh hb0;have KE:=zh hB;have GV:=zh hbl;have hblt:=hbl.lt;obtain ⟨L,hL⟩:∃L,Ae s (n+1) (tn:Int) v=L:=⟨_,rfl⟩;rw[hL] at hsz Fy;simp only[hL];have E5:=zh hsz
 have HU:Hid (Below w0.heap.size w0 ((w.alloc (.cells #[.slice A s.length c] 31)).alloc (v.box A1 c1 A2 c2 A3 c3))):=(hb0.trans (Bf.O.mono hB)).mono hg;obtain ⟨bq,oq,As,cs,Am,cm,hA,htr,t0,t1,t2,t3,t4,t5,t6,t7,t8,t9⟩:=hs.J3 htn;clear hL hf ih hs hr htb hg hb0 hB hbl hsz _hv hn i0 i1;subst hA;generalize s[tn]=x at *;have Ie:=zh htr;have GH:=zh i3;have mZ:=zh (i2.trans e);have HK:=zh e
 clear htr i3 i2 e;replace t0:=zA HU t0;replace t1:=zA HU t1;replace t2:=zA HU t2;replace t3:=zA HU t3;replace t4:=zA HU t4;replace t5:=zA HU t5;replace t6:=zA HU t6;replace t7:=zA HU t7;replace t8:=zA HU t8;replace t9:=zA HU t9;have h1:(0:Int)<=(tn:Int):=by omega
 have h2:(tn:Int)<(s.length:Int):=by omega
 go_enter func44,ntmps44
 go_upto_region 1 with fail
 have hsz2:Hid (((w.alloc (.cells #[.slice (some ⟨bq,oq,none⟩) s.length c] 31)).alloc (v.box A1 c1 A2 c2 A3 c3)).heap.size=w.heap.size+2):=by show _=_;simp
 generalize (w.alloc (.cells #[.slice (some ⟨bq,oq,none⟩) s.length c] 31)).alloc (v.box A1 c1 A2 c2 A3 c3)=W2 at *;have x0:=zb H5;go_upto_region 2 with fail
 clear t0 t1 t2 t3 t4 t5 t6 t7 t8 t9 x0;have BL:=zh (zD W2 (x.box As cs Am cm));have ST:Hid (EX s (some ⟨bq,oq,none⟩) c x As cs Am cm v A1 c1 A2 c2 A3 c3 B b w.heap.size (w.heap.size+1) W2.heap.size w (W2.alloc (x.box As cs Am cm)) (T)):=by
  have hz:=hsz2.O;have hge:=KE.O;exact ⟨(GV.O.below Bf).below BL,(Bf.O.mono KE.O).trans (BL.O.mono (by omega)),Co (yD Bf) (yD BL),by omega,by omega,by omega,zE H5 BL,zE H7 BL,AAA W2 _,by have:=KE.O;have:=BL.O.size;omega⟩
 generalize W2.alloc (x.box As cs Am cm)=W3 at *;generalize W2.heap.size=p8 at *;clear hsz2 hblt Bf H5 H7 GV HU BL h1 h2;obtain ⟨q1,q2,q3,q4,q5⟩:=zk5 HK;obtain ⟨v0,v1,v2,v3,v4,v5,v6,v7⟩:=zF ST.O.h7;obtain ⟨b0,b1,b2,b3,b4,b5,b6,b7,b8,b9⟩:=zG ST.O.h8;have x0:=ST.O.c5;have HL:Hid (L=⟨#[123]⟩++Fv (CV (Ae s n) x v)++⟨#[125]⟩):=Fy.O.trans (AC5 HK)
 have HF:=zh (wQ HK GH);have HZ:Hid (T.size+(1+(Fv (CV (Ae s n) x v)).size+1)<=140737488355328):=by have:=E5.O;rw[HL.O,zH,zH] at this;exact this
 have HPL:=zh (bC (f:=Ae s n) HF.O.1);have hlm:=Ie.O.AA.1.lt (by omega)
 have hlr:=HR.O.rest.1.lt (by omega)
 have wF:=HR.O.items.1.lt (by omega)
 go_wp2_with fail
 refine (ST.O.FZ.byte 123 (by have:=HZ.O;omega) ST.O.ge).mono ?_
 rintro e' w5 ⟨rfl,g1,g2,g3⟩;have Eg:=zh (ST.O.step g1 g2 g3);clear g1 g2 g3;clear v0 v1 v2 v3 v4 v5 v6 v7 b0 b1 b2 b3 b4 b5 b6 b7 b8 b9 x0;obtain ⟨v0,v1,v2,v3,v4,v5,v6,v7⟩:=zF Eg.O.h7;obtain ⟨b0,b1,b2,b3,b4,b5,b6,b7,b8,b9⟩:=zG Eg.O.h8;have x0:=Eg.O.c5;go_wp2_with fail
 go_loopw [80] (fun i wr=>∃k:Nat,k<=x.AA.length/\i = .int .i64 (k:Int)/\Hid (EX s (some ⟨bq,oq,none⟩) c x As cs Am cm v A1 c1 A2 c2 A3 c3 B b w.heap.size (w.heap.size+1) p8 w wr (T++DL 123++EL (fun i=>(CV (Ae s n) x v).getD i ⟨#[]⟩) k))) (fun i _=>x.AA.length - (intOf i).toNat)
 case atStart=>exact ⟨0,by omega,rfl,by have h:=Eg.O;rw[show T++DL 123=T++DL 123++EL (fun i=>(CV (Ae s n) x v).getD i ⟨#[]⟩) 0 from (PD _).symm] at h;exact h⟩
 case round =>
  obtain ⟨k,hk,rfl,hh⟩:=hrel;have E9:=zh hh.O;clear v0 v1 v2 v3 v4 v5 v6 v7 b0 b1 b2 b3 b4 b5 b6 b7 b8 b9 x0 hh
  by_cases hlt:k<x.AA.length
  ·have hlt2:k<v.items.length:=by have:=HF.O.1;omega
   obtain ⟨mb,mo,M1,m1,M2,m2,M3,m3,hM,_,d0,d1,d2,d3,d4,d5,d6,d7,d8,d9,UB,UA,T9⟩:=Ie.O.AA.Mk hlt;replace d0:=zA (E9.O.up HB0 HG) d0;replace d1:=zA (E9.O.up HB0 HG) d1;replace d2:=zA (E9.O.up HB0 HG) d2;replace d3:=zA (E9.O.up HB0 HG) d3;replace d4:=zA (E9.O.up HB0 HG) d4;replace d5:=zA (E9.O.up HB0 HG) d5
   replace d6:=zA (E9.O.up HB0 HG) d6;replace d7:=zA (E9.O.up HB0 HG) d7;replace d8:=zA (E9.O.up HB0 HG) d8;replace d9:=zA (E9.O.up HB0 HG) d9;replace UB:=zA (E9.O.up HB0 HG) UB;replace UA:=zA (E9.O.up HB0 HG) UA;replace T9:=zA (E9.O.up HB0 HG) T9
   obtain ⟨ib,io,E1,e1,E2,e2,E3,e3,hI,hir,a0,a1,a2,a3,a4,a5,a6,a7⟩:=HR.O.items.at8 hlt2;have sJ:=zh hir;have HA:=zh (And.intro a0 (And.intro a1 (And.intro a2 (And.intro a3 (And.intro a4 (And.intro a5 (And.intro a6 a7)))))));clear hir a0 a1 a2 a3 a4 a5 a6 a7;have hmem:=HF.O.2.2 k hlt hlt2;have hel:k<(CV (Ae s n) x v).length:=by rw[HPL.O];omega
   have Zx:=zh (Kk (l:=CV (Ae s n) x v) hel);have eu:=zh (Kj (l:=CV (Ae s n) x v) hel);rw[bB HF.O.1 hlt hlt2] at Zx eu;clear hel;generalize x.AA[k]=m at *;generalize v.items[k]=y at *;have Z5:=zh hmem;clear hmem;generalize hCK:EL (fun i=>(CV (Ae s n) x v).getD i ⟨#[]⟩) k=CK at *
   generalize hCM:(if k=0 then (⟨#[]⟩:ByteArray) else ⟨#[44,32]⟩)=CM at *
   have JD:Hid ((T++DL 123++CK).size+CM.size+(m.name.size+2+(Ae s n m.type y).size)<=140737488355328):=by have:=HZ.O;have h:=Zx.O;rw[zH (m.name++_),zH m.name] at h;rw[zH,zH];change _+_+(_+2+_)<=_ at h;show _+1+_+_+_<=_;omega
   subst hI;subst hM;have h1:(0:Int)<=(k:Int):=by omega
   have h2:(k:Int)<(x.AA.length:Int):=by omega
   have h3:(k:Int)<(v.items.length:Int):=by omega
   have hblt:=E9.O.FZ.lt;have Km:=zh (zD wr (m.box M1 m1 M2 m2 M3 m3));have fG:=zh (AAA wr (m.box M1 m1 M2 m2 M3 m3));have UD:=zh (E9.O.below Km);obtain ⟨v0,v1,v2,v3,v4,v5,v6,v7⟩:=zF E9.O.h7;obtain ⟨b0,b1,b2,b3,b4,b5,b6,b7,b8,b9⟩:=zG E9.O.h8;have x0:=E9.O.c5;go_upto_region 19 with fail
   clear v0 v1 v2 v3 v4 v5 v6 v7 b0 b1 b2 b3 b4 b5 b6 b7 b8 b9 x0 d0 d1 d2 d3 d4 d5 d6 d7 d8 d9 UB UA T9;generalize wr.alloc (m.box M1 m1 M2 m2 M3 m3)=W4 at *;generalize wr.heap.size=p12 at *;have hne:p12≠b:=by omega
   go_wp2_with fail
   refine (Ki UD.O.FZ k (by rw[hCM];have:=JD.O;omega) UD.O.ge).mono ?_
   rintro e' w6 ⟨rfl,g1,g2,g3⟩;rw[hCM] at g1;have Gw:=zh (UD.O.step g1 g2 g3);have fH:=zh (g3.blk fG hne (by decide))
   clear g1 g2 g3;obtain ⟨y0,y1,y2,-⟩:=Rk fH;have n1:¬ 9223372036854775807<m.name.size+(⟨#[58,32]⟩:ByteArray).size:=by have:=JD.O;show ¬ _<_+2;omega
   have n2:¬ 9223372036854775807<m.name.size+2:=n1;go_wp2_with fail;refine (Gw.O.FZ.write _ ?_ Gw.O.ge).mono ?_
   ·have:=JD.O;have e1:(⟨#[58,32]⟩:ByteArray).size=2:=rfl;rw[zH (T++DL 123++CK),zH m.name];omega
   rintro e' w7 ⟨rfl,g1,g2,g3⟩;have OY:=zh (Gw.O.step g1 g2 g3);have HY7:=zh (g3.blk fH hne (by decide))
   clear g1 g2 g3;clear y0 y1 y2
   have Kn:Hid (∀w' T',EX s (some ⟨bq,oq,none⟩) c x As cs (some ⟨mb,mo,none⟩) cm v A1 c1 (some ⟨ib,io,none⟩) c2 A3 c3 B b w.heap.size (w.heap.size+1) p8 w w' (T')->w'.heap[p12]? = some (m.box M1 m1 M2 m2 M3 m3)->(w'.cell? ⟨w.heap.size,0,none⟩=some (.slice (some ⟨bq,oq,none⟩) s.length c)/\w'.cell? ⟨p12,2,none⟩=some (.int .i64 m.type)/\w'.cell? ⟨w.heap.size+1,6,none⟩=some (.slice (some ⟨ib,io,none⟩) v.items.length c2)/\w'.cell? ⟨ib,io+k * 8,none⟩=some (.int .i64 y.kind)/\w'.cell? ⟨ib,io+k * 8+1,none⟩=some (.bool y.bool)/\w'.cell? ⟨ib,io+k * 8+2,none⟩=some (.int .i64 y.int)/\w'.cell? ⟨ib,io+k * 8+3,none⟩=some (.string y.str)/\w'.cell? ⟨ib,io+k * 8+4,none⟩=some (.int .i64 y.id)/\w'.cell? ⟨ib,io+k * 8+5,none⟩=some (.slice E1 y.keys.length e1)/\w'.cell? ⟨ib,io+k * 8+6,none⟩=some (.slice E2 y.items.length e2)/\w'.cell? ⟨ib,io+k * 8+7,none⟩=some (.slice E3 y.rest.length e3))):=fun w' T' st hy=>by
    obtain ⟨v0,v1,v2,v3,v4,v5,v6,v7⟩:=zF st.h7;obtain ⟨y0,y1,y2,-⟩:=Rk hy;have u:=st.up HB0 HG;obtain ⟨a0,a1,a2,a3,a4,a5,a6,a7⟩:=HA.O;exact ⟨st.c5,y2,v6,zA u a0,zA u a1,zA u a2,zA u a3,zA u a4,zA u a5,zA u a6,zA u a7⟩
   go_upto_region 21 with fail
   refine wp_region_held_drew (S:=(fun w'=>(w'.cell? ⟨w.heap.size,0,none⟩=some (.slice (some ⟨bq,oq,none⟩) s.length c)/\w'.cell? ⟨p12,2,none⟩=some (.int .i64 m.type)/\w'.cell? ⟨w.heap.size+1,6,none⟩=some (.slice (some ⟨ib,io,none⟩) v.items.length c2)/\w'.cell? ⟨ib,io+k * 8,none⟩=some (.int .i64 y.kind)/\w'.cell? ⟨ib,io+k * 8+1,none⟩=some (.bool y.bool)/\w'.cell? ⟨ib,io+k * 8+2,none⟩=some (.int .i64 y.int)/\w'.cell? ⟨ib,io+k * 8+3,none⟩=some (.string y.str)/\w'.cell? ⟨ib,io+k * 8+4,none⟩=some (.int .i64 y.id)/\w'.cell? ⟨ib,io+k * 8+5,none⟩=some (.slice E1 y.keys.length e1)/\w'.cell? ⟨ib,io+k * 8+6,none⟩=some (.slice E2 y.items.length e2)/\w'.cell? ⟨ib,io+k * 8+7,none⟩=some (.slice E3 y.rest.length e3))/\Hid (Below B w0 w))) (by kernel_rfl) ?_ (fun AQ=>?_)
   ·(try dsimp only);exact ⟨Kn.O _ _ (OY.O.below (zC (Pe _ _) 1)) (zE HY7 (zC (Pe _ _) 1)),HB0.O⟩
   refine tL 0 ?_;refine tL 1 ?_;refine tL 2 ?_;refine tL 3 ?_;refine tL 4 ?_;refine tL 5 ?_;try simp only[ps]
   refine tL 6 ?_;refine tL 7 ?_;refine tL 8 ?_;refine tR 9 (fun K hK=>?_)
   go_simp
   (refine (Ed.O m.type y E1 e1 E2 e2 E3 e3 w0 _ B b _ Z5 HS sJ Kw HG (HB0.O.trans (OY.O.below (zC (Pe _ _) 1)).fr) (OY.O.below (zC (Pe _ _) 1)).ge (OY.O.below (zC (Pe _ _) 1)).FZ (by have:=JD.O;have e1:(⟨#[58,32]⟩:ByteArray).size=2:=rfl;rw[zH,zH (T++DL 123++CK),zH m.name];omega)).mono ?_;rintro e' w8 ⟨rfl,g1,g2,g3⟩;have LC:=zh ((OY.O.below (zC (Pe _ _) 1)).step g1 g2 g3);have HY8:=zh (g3.blk (zE HY7 (zC (Pe _ _) 1)) hne (by decide));clear g1 g2 g3)
   refine hK.out _ _ ?_ (fun AQ=>?_)
   ·(try dsimp only);exact ⟨Kn.O _ _ LC.O HY8,HB0.O⟩
   clear hK K;refine wpAnyH_done (by kernel_rfl) ?_ _
   clear AQ;have HE:Hid (T++DL 123++CK++CM++(m.name++⟨#[58,32]⟩)++Ae s n m.type y=T++DL 123++EL (fun i=>(CV (Ae s n) x v).getD i ⟨#[]⟩) (k+1)):=by show _=_;rw[eu.O];simp only[ABX]
   go_wp2
   go_roundw
   case rel=>exact ⟨k+1,by omega,by go_num,by have h:=LC.O;rw[HE.O] at h;exact h⟩
   case measure=>simp[intOf];omega
  ·obtain rfl:k=x.AA.length:=by omega
   have q3:¬ ((x.AA.length:Nat):Int)<((x.AA.length:Nat):Int):=by omega
   obtain ⟨v0,v1,v2,v3,v4,v5,v6,v7⟩:=zF E9.O.h7;obtain ⟨b0,b1,b2,b3,b4,b5,b6,b7,b8,b9⟩:=zG E9.O.h8;have x0:=E9.O.c5;obtain ⟨wk,rfl⟩:∃wk:World,wk=wr:=⟨_,rfl⟩;go_wp2_with fail
   go_loopw [107] (fun i wr=>∃k:Nat,k<=v.rest.length/\i = .int .i64 (k:Int)/\Hid (EX s (some ⟨bq,oq,none⟩) c x As cs Am cm v A1 c1 A2 c2 A3 c3 B b w.heap.size (w.heap.size+1) p8 w wr (T++DL 123++EL (fun i=>(CV (Ae s n) x v).getD i ⟨#[]⟩) (x.AA.length+k)))) (fun i _=>v.rest.length - (intOf i).toNat)
   case atStart=>exact ⟨0,by omega,rfl,E9.O⟩
   case round =>
    obtain ⟨k,hk,rfl,hh⟩:=hrel;have tu:=zh hh.O;clear v0 v1 v2 v3 v4 v5 v6 v7 b0 b1 b2 b3 b4 b5 b6 b7 b8 b9 x0 hh q3;obtain ⟨wq,rfl⟩:∃wq:World,wq=wr:=⟨_,rfl⟩
    by_cases hlt:k<v.rest.length
    ·obtain ⟨rb,ro,hRB,_,a0,a1⟩:=HR.O.rest.at2 hlt
     replace a0:=zA (tu.O.up HB0 HG) a0;replace a1:=zA (tu.O.up HB0 HG) a1;have hfr:=HF.O.2.1 _ (AAL hlt);have hel:x.AA.length+k<(CV (Ae s n) x v).length:=by rw[HPL.O];omega
     have Zx:=zh (Kk (l:=CV (Ae s n) x v) hel);have eu:=zh (Kj (l:=CV (Ae s n) x v) hel);rw[ax HF.O.1 hlt] at Zx eu;clear hel;generalize v.rest[k]=r at *;have PL:=zh hfr;clear hfr;generalize hCK:EL (fun i=>(CV (Ae s n) x v).getD i ⟨#[]⟩) (x.AA.length+k)=CK at *
     generalize hCM:(if x.AA.length+k=0 then (⟨#[]⟩:ByteArray) else ⟨#[44,32]⟩)=CM at *
     have JD:Hid ((T++DL 123++CK).size+CM.size+((Ch r.id).size+2+(Lr r.data).size)<=140737488355328):=by have:=HZ.O;have h:=Zx.O;rw[zH (Ch r.id++_),zH (Ch r.id)] at h;rw[zH,zH];change _+_+(_+2+_)<=_ at h;show _+1+_+_+_<=_;omega
     subst hRB;have h1:(0:Int)<=(k:Int):=by omega
     have h2:(k:Int)<(v.rest.length:Int):=by omega
     have hblt:=tu.O.FZ.lt;have Km:=zh (zD wq (Af.box r));have fG:=zh (AAA wq (Af.box r));have UD:=zh (tu.O.below Km);obtain ⟨v0,v1,v2,v3,v4,v5,v6,v7⟩:=zF tu.O.h7;obtain ⟨b0,b1,b2,b3,b4,b5,b6,b7,b8,b9⟩:=zG tu.O.h8;have x0:=tu.O.c5;go_upto_region 26 with fail
     clear v0 v1 v2 v3 v4 v5 v6 v7 b0 b1 b2 b3 b4 b5 b6 b7 b8 b9 x0 a0 a1;generalize wq.alloc (Af.box r)=W4 at *;generalize wq.heap.size=yx at *;have hne:yx≠b:=by omega
     obtain ⟨v0,v1,v2,v3,v4,v5,v6,v7⟩:=zF UD.O.h7;obtain ⟨b0,b1,b2,b3,b4,b5,b6,b7,b8,b9⟩:=zG UD.O.h8;have x0:=UD.O.c5;have hcm:Calls prog 70 #[.pointer (some ⟨b,0,none⟩),.int .i64 ((x.AA.length:Int)+(k:Int))] W4 _:=Ki UD.O.FZ (x.AA.length+k) (by rw[hCM];have:=JD.O;omega) UD.O.ge
     have AB0:=zh hcm;clear hcm;go_wp2_with fail;refine AB0.O.mono ?_;rintro e' w6 ⟨rfl,g1,g2,g3⟩;rw[hCM] at g1;have Gw:=zh (UD.O.step g1 g2 g3);have fH:=zh (g3.blk fG hne (by decide))
     clear g1 g2 g3 AB0;clear v0 v1 v2 v3 v4 v5 v6 v7 b0 b1 b2 b3 b4 b5 b6 b7 b8 b9 x0;have n1:¬ 9223372036854775807<(Ch r.id).size+(⟨#[58,32]⟩:ByteArray).size:=by have:=JD.O;show ¬ _<_+2;omega
     have n2:¬ 9223372036854775807<(Ch r.id).size+2:=n1;have n3:¬ 9223372036854775807<(Ch r.id++⟨#[58,32]⟩:ByteArray).size+(Lr r.data).size:=by have:=JD.O;rw[zH];show ¬ _<_+2+_;omega
     have n4:¬ 9223372036854775807<(Ch r.id).size+2+(Lr r.data).size:=by have:=JD.O;omega
     have Kn:Hid (∀w':World,w'.heap[yx]? = some (Af.box r)->(w'.cell? ⟨yx,0,none⟩=some (.int .i64 r.id)/\w'.cell? ⟨yx,1,none⟩=some (.string r.data))):=fun w' hy=>⟨by rw[AAC _ _ _ _ _ _ hy];rfl,by rw[AAC _ _ _ _ _ _ hy];rfl⟩
     go_upto_region 27 with fail
     refine wp_region_held_drew (S:=(fun w'=>(w'.cell? ⟨yx,0,none⟩=some (.int .i64 r.id)/\w'.cell? ⟨yx,1,none⟩=some (.string r.data))/\Hid (Below B w0 w))) (by kernel_rfl) ?_ (fun AQ=>?_)
     ·(try dsimp only);exact ⟨Kn.O _ (zE fH (zC (Pe _ _) 1)),HB0.O⟩
     refine tL 0 ?_;refine tL 1 ?_;try simp only[ps]
     refine tL 2 ?_;refine tL 5 ?_;refine tL 6 ?_;refine tR 3 (fun K hK=>?_)
     go_simp
     (refine (MS r.id (O7 PL) _ (Kw.O.below ((Gw.O.below (zC (Pe _ _) 1)).up HB0 HG))).mono ?_;rintro e' w7 ⟨rfl,Gj⟩;have OY:=zh ((Gw.O.below (zC (Pe _ _) 1)).below Gj);have HY7:=zh (zE (zE fH (zC (Pe _ _) 1)) Gj);clear Gj)
     refine hK.out _ _ ?_ (fun AQ=>?_)
     ·(try dsimp only);exact ⟨Kn.O _ HY7,HB0.O⟩
     clear hK K;refine tL 4 ?_;refine tR 7 (fun K hK=>?_)
     go_simp
     (refine (NT r.data (by have:=JD.O;omega) _).mono ?_;rintro e' w8 ⟨rfl,FU⟩;have LC:=zh (OY.O.below FU);have HY8:=zh (zE HY7 FU);clear FU)
     refine hK.out _ _ ?_ (fun AQ=>?_)
     ·(try dsimp only);exact ⟨Kn.O _ HY8,HB0.O⟩
     clear hK K;try simp only[ps]
     refine tL 8 ?_;refine tR 9 (fun K hK=>?_)
     go_simp
     (refine (LC.O.FZ.write _ ?_ LC.O.ge).mono ?_;(· have:=JD.O;have e1:(⟨#[58,32]⟩:ByteArray).size=2:=rfl;rw[zH (T++DL 123++CK),zH (Ch r.id++_),zH (Ch r.id)];omega);rintro e' w9 ⟨rfl,g1,g2,g3⟩;have ST9:=zh (LC.O.step g1 g2 g3);have HY9:=zh (g3.blk HY8 hne (by decide));clear g1 g2 g3)
     refine hK.out _ _ ?_ (fun AQ=>?_)
     ·(try dsimp only);exact ⟨Kn.O _ HY9,HB0.O⟩
     clear hK K;refine wpAnyH_done (by kernel_rfl) ?_ _
     clear AQ;have HE:Hid (T++DL 123++CK++CM++(Ch r.id++⟨#[58,32]⟩++Lr r.data)=T++DL 123++EL (fun i=>(CV (Ae s n) x v).getD i ⟨#[]⟩) (x.AA.length+(k+1))):=by show _=_;rw[<-Nat.add_assoc,eu.O];simp only[ABX]
     go_wp2
     go_roundw
     case rel=>exact ⟨k+1,by omega,by go_num,by have h:=ST9.O;rw[HE.O] at h;exact h⟩
     case measure=>simp[intOf];omega
    ·obtain rfl:k=v.rest.length:=by omega
     have HE:Hid (EL (fun i=>(CV (Ae s n) x v).getD i ⟨#[]⟩) (x.AA.length+v.rest.length)=Fv (CV (Ae s n) x v)):=by show _=_;unfold Fv;rw[HPL.O]
     have Zq:=tu;rw[HE.O] at Zq;go_wp2_with fail;refine (Zq.O.FZ.byte 125 (by have:=HZ.O;rw[zH,zH];show _+1+_+1<=_;omega) Zq.O.ge).mono ?_
     rintro e' w8 ⟨rfl,g1,g2,g3⟩;have LC:=zh (Zq.O.step g1 g2 g3);clear g1 g2 g3;go_wp2;refine bodyPost_end (results_none results44 _ _ _) rfl ⟨rfl,by rw[HL.O];(have h:=LC.O.FZ;simp only[ABX] at h ⊢;exact h),LC.O.fr,LC.O.ot⟩
