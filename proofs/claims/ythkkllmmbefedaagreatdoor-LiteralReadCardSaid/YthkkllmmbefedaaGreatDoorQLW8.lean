/-
  Walks: literal.write, kinds 5.
-/
import Derived.Test.YthkkllmmbefedaaGreatDoorQGA10
import Derived.Test.YthkkllmmbefedaaGreatDoorQGA9
namespace Go.Proofs.YthkkllmmbefedaaGreatDoor
open Go.RowKit
set_option maxHeartbeats 16000000
set_option maxRecDepth 100000
theorem aT {s:List AZ} {A:zo} {c n:Nat} (_hv:zQ s=0) (hn:Ca s) (ih:WriteAt s A c n):XD s A c n 5:=by
 intro t v A1 c1 A2 c2 A3 c3 w0 w B b T e hf hs hr htb hg hb0 hB hbl hsz
 obtain ⟨i0,i1,i2,i3⟩:=D5 hf;obtain ⟨tn,rfl⟩:=AAh i0;have htn:tn<s.length:=by omega
 have hln:=hs.1.lt (by omega)
 rw[zT htn] at i2 i3 e;have KW:Hid (Ct s (n+1) (tn:Int) v=O1 (Ct s n) s[tn] v):=by show _=_;rw[Ct,zT htn]
 have HXN:=zh (hn _ (AAW htn));obtain ⟨F8,H5,H7⟩:=zy w (.cells #[.slice A s.length c] 31) (v.box A1 c1 A2 c2 A3 c3);have Df:=zh ih;have HS:=zh hs;have HR:=zh hr;have P7:=zh htb;have HG:=zh hg;have HB0:=zh hb0;have iB:=zh hB;have LU:=zh hbl;have hblt:=hbl.lt;obtain ⟨L,hL⟩:∃L,Ct s (n+1) (tn:Int) v=L:=⟨_,rfl⟩;rw[hL] at hsz KW;simp only[hL];have ED:=zh hsz
 have HU:Hid (Below w0.heap.size w0 ((w.alloc (.cells #[.slice A s.length c] 31)).alloc (v.box A1 c1 A2 c2 A3 c3))):=(hb0.trans (F8.out.mono hB)).mono hg;obtain ⟨bq,oq,As,cs,Am,cm,hA,htr,t0,t1,t2,t3,t4,t5,t6,t7,t8,t9⟩:=hs.JM htn;clear hL hf ih hs hr htb hg hb0 hB hbl hsz _hv hn i0 i1;subst hA;generalize s[tn]=x at *;have F7:=zh htr;have Ib:=zh i3;have LM:=zh (i2.trans e);have HK:=zh e
 clear htr i3 i2 e;replace t0:=zA HU t0;replace t1:=zA HU t1;replace t2:=zA HU t2;replace t3:=zA HU t3;replace t4:=zA HU t4;replace t5:=zA HU t5;replace t6:=zA HU t6;replace t7:=zA HU t7;replace t8:=zA HU t8;replace t9:=zA HU t9;have h1:(0:Int)<=(tn:Int):=by omega
 have h2:(tn:Int)<(s.length:Int):=by omega
 go_enter Tryz.func44,Tryz.ntmps44
 go_upto_region 1 with fail
 have hsz2:Hid (((w.alloc (.cells #[.slice (some ⟨bq,oq,none⟩) s.length c] 31)).alloc (v.box A1 c1 A2 c2 A3 c3)).heap.size=w.heap.size+2):=by show _=_;simp
 generalize (w.alloc (.cells #[.slice (some ⟨bq,oq,none⟩) s.length c] 31)).alloc (v.box A1 c1 A2 c2 A3 c3)=W2 at *;have x0:=zb H5;go_upto_region 2 with fail
 clear t0 t1 t2 t3 t4 t5 t6 t7 t8 t9 x0;have BI:=zh (zD W2 (x.box As cs Am cm));have ST:Hid (Iy s (some ⟨bq,oq,none⟩) c x As cs Am cm v A1 c1 A2 c2 A3 c3 B b w.heap.size (w.heap.size+1) W2.heap.size w (W2.alloc (x.box As cs Am cm)) (T)):=by
  have hz:=hsz2.out;have hge:=iB.out;exact ⟨(LU.out.below F8).below BI,(F8.out.mono iB.out).trans (BI.out.mono (by omega)),IB (yD F8) (yD BI),by omega,by omega,by omega,zE H5 BI,zE H7 BI,AAA W2 _,by have:=iB.out;have:=BI.out.size;omega⟩
 generalize W2.alloc (x.box As cs Am cm)=W3 at *;generalize W2.heap.size=p8 at *;clear hsz2 hblt F8 H5 H7 LU HU BI h1 h2;obtain ⟨q1,q2,q3,q4,q5⟩:=zk5 HK;obtain ⟨v0,v1,v2,v3,v4,v5,v6,v7⟩:=zF ST.out.h7;obtain ⟨b0,b1,b2,b3,b4,b5,b6,b7,b8,b9⟩:=zG ST.out.h8;have x0:=ST.out.c5;have HL:Hid (L=⟨#[123]⟩++Sj (CS (Ct s n) x v)++⟨#[125]⟩):=KW.out.trans (xV HK)
 have HF:=zh (qE HK Ib);have HZ:Hid (T.size+(1+(Sj (CS (Ct s n) x v)).size+1)<=140737488355328):=by have:=ED.out;rw[HL.out,zH,zH] at this;exact this
 have HPL:=zh (ZI (f:=Ct s n) HF.out.1);have hlm:=F7.out.AA.1.lt (by omega)
 have hlr:=HR.out.rest.1.lt (by omega)
 have iI:=HR.out.items.1.lt (by omega)
 go_wp2_with fail
 refine (ST.out.Q0.byte 123 (by have:=HZ.out;omega) ST.out.ge).mono ?_
 rintro e' w5 ⟨rfl,g1,g2,g3⟩;have TJ:=zh (ST.out.step g1 g2 g3);clear g1 g2 g3;clear v0 v1 v2 v3 v4 v5 v6 v7 b0 b1 b2 b3 b4 b5 b6 b7 b8 b9 x0;obtain ⟨v0,v1,v2,v3,v4,v5,v6,v7⟩:=zF TJ.out.h7;obtain ⟨b0,b1,b2,b3,b4,b5,b6,b7,b8,b9⟩:=zG TJ.out.h8;have x0:=TJ.out.c5;go_wp2_with fail
 go_loopw [80] (fun i wr=>∃k:Nat,k<=x.AA.length/\i = .int .i64 (k:Int)/\Hid (Iy s (some ⟨bq,oq,none⟩) c x As cs Am cm v A1 c1 A2 c2 A3 c3 B b w.heap.size (w.heap.size+1) p8 w wr (T++GU 123++IK (fun i=>(CS (Ct s n) x v).getD i ⟨#[]⟩) k))) (fun i _=>x.AA.length - (intOf i).toNat)
 case atStart=>exact ⟨0,by omega,rfl,by have h:=TJ.out;rw[show T++GU 123=T++GU 123++IK (fun i=>(CS (Ct s n) x v).getD i ⟨#[]⟩) 0 from (lU _).symm] at h;exact h⟩
 case round =>
  obtain ⟨k,hk,rfl,hh⟩:=hrel;have Pf:=zh hh.out;clear v0 v1 v2 v3 v4 v5 v6 v7 b0 b1 b2 b3 b4 b5 b6 b7 b8 b9 x0 hh
  by_cases hlt:k<x.AA.length
  ·have hlt2:k<v.items.length:=by have:=HF.out.1;omega
   obtain ⟨mb,mo,M1,m1,M2,m2,M3,m3,hM,_,d0,d1,d2,d3,d4,d5,d6,d7,d8,d9,aQ,aP,aO⟩:=F7.out.AA.MH hlt;replace d0:=zA (Pf.out.up HB0 HG) d0;replace d1:=zA (Pf.out.up HB0 HG) d1;replace d2:=zA (Pf.out.up HB0 HG) d2;replace d3:=zA (Pf.out.up HB0 HG) d3;replace d4:=zA (Pf.out.up HB0 HG) d4;replace d5:=zA (Pf.out.up HB0 HG) d5
   replace d6:=zA (Pf.out.up HB0 HG) d6;replace d7:=zA (Pf.out.up HB0 HG) d7;replace d8:=zA (Pf.out.up HB0 HG) d8;replace d9:=zA (Pf.out.up HB0 HG) d9;replace aQ:=zA (Pf.out.up HB0 HG) aQ;replace aP:=zA (Pf.out.up HB0 HG) aP;replace aO:=zA (Pf.out.up HB0 HG) aO
   obtain ⟨ib,io,E1,e1,E2,e2,E3,e3,hI,hir,a0,a1,a2,a3,a4,a5,a6,a7⟩:=HR.out.items.at8 hlt2;have iA:=zh hir;have HA:=zh (And.intro a0 (And.intro a1 (And.intro a2 (And.intro a3 (And.intro a4 (And.intro a5 (And.intro a6 a7)))))));clear hir a0 a1 a2 a3 a4 a5 a6 a7;have hmem:=HF.out.2.2 k hlt hlt2;have hel:k<(CS (Ct s n) x v).length:=by rw[HPL.out];omega
   have nR:=zh (Qz (l:=CS (Ct s n) x v) hel);have rY:=zh (Qy (l:=CS (Ct s n) x v) hel);rw[ZH HF.out.1 hlt hlt2] at nR rY;clear hel;generalize x.AA[k]=m at *;generalize v.items[k]=y at *;have HFY:=zh hmem;clear hmem;generalize hCK:IK (fun i=>(CS (Ct s n) x v).getD i ⟨#[]⟩) k=CK at *
   generalize hCM:(if k=0 then (⟨#[]⟩:ByteArray) else ⟨#[44,32]⟩)=CM at *
   have PO:Hid ((T++GU 123++CK).size+CM.size+(m.name.size+2+(Ct s n m.type y).size)<=140737488355328):=by have:=HZ.out;have h:=nR.out;rw[zH (m.name++_),zH m.name] at h;rw[zH,zH];change _+_+(_+2+_)<=_ at h;show _+1+_+_+_<=_;omega
   subst hI;subst hM;have h1:(0:Int)<=(k:Int):=by omega
   have h2:(k:Int)<(x.AA.length:Int):=by omega
   have h3:(k:Int)<(v.items.length:Int):=by omega
   have hblt:=Pf.out.Q0.lt;have LQ:=zh (zD wr (m.box M1 m1 M2 m2 M3 m3));have HYB:=zh (AAA wr (m.box M1 m1 M2 m2 M3 m3));have iL:=zh (Pf.out.below LQ);obtain ⟨v0,v1,v2,v3,v4,v5,v6,v7⟩:=zF Pf.out.h7;obtain ⟨b0,b1,b2,b3,b4,b5,b6,b7,b8,b9⟩:=zG Pf.out.h8;have x0:=Pf.out.c5;go_upto_region 19 with fail
   clear v0 v1 v2 v3 v4 v5 v6 v7 b0 b1 b2 b3 b4 b5 b6 b7 b8 b9 x0 d0 d1 d2 d3 d4 d5 d6 d7 d8 d9 aQ aP aO;generalize wr.alloc (m.box M1 m1 M2 m2 M3 m3)=W4 at *;generalize wr.heap.size=wQ at *;have hne:wQ≠b:=by omega
   go_wp2_with fail
   refine (Qx iL.out.Q0 k (by rw[hCM];have:=PO.out;omega) iL.out.ge).mono ?_
   rintro e' w6 ⟨rfl,g1,g2,g3⟩;rw[hCM] at g1;have gM:=zh (iL.out.step g1 g2 g3);have vK:=zh (g3.blk HYB hne (by decide))
   clear g1 g2 g3;obtain ⟨y0,y1,y2,-⟩:=Qk vK;have n1:¬ 9223372036854775807<m.name.size+(⟨#[58,32]⟩:ByteArray).size:=by have:=PO.out;show ¬ _<_+2;omega
   have n2:¬ 9223372036854775807<m.name.size+2:=n1;go_wp2_with fail;refine (gM.out.Q0.write _ ?_ gM.out.ge).mono ?_
   ·have:=PO.out;have e1:(⟨#[58,32]⟩:ByteArray).size=2:=rfl;rw[zH (T++GU 123++CK),zH m.name];omega
   rintro e' w7 ⟨rfl,g1,g2,g3⟩;have gL:=zh (gM.out.step g1 g2 g3);have vJ:=zh (g3.blk vK hne (by decide))
   clear g1 g2 g3;clear y0 y1 y2
   have FD:Hid (∀w' T',Iy s (some ⟨bq,oq,none⟩) c x As cs (some ⟨mb,mo,none⟩) cm v A1 c1 (some ⟨ib,io,none⟩) c2 A3 c3 B b w.heap.size (w.heap.size+1) p8 w w' (T')->w'.heap[wQ]? = some (m.box M1 m1 M2 m2 M3 m3)->(w'.cell? ⟨w.heap.size,0,none⟩=some (.slice (some ⟨bq,oq,none⟩) s.length c)/\w'.cell? ⟨wQ,2,none⟩=some (.int .i64 m.type)/\w'.cell? ⟨w.heap.size+1,6,none⟩=some (.slice (some ⟨ib,io,none⟩) v.items.length c2)/\w'.cell? ⟨ib,io+k * 8,none⟩=some (.int .i64 y.kind)/\w'.cell? ⟨ib,io+k * 8+1,none⟩=some (.bool y.bool)/\w'.cell? ⟨ib,io+k * 8+2,none⟩=some (.int .i64 y.int)/\w'.cell? ⟨ib,io+k * 8+3,none⟩=some (.string y.str)/\w'.cell? ⟨ib,io+k * 8+4,none⟩=some (.int .i64 y.id)/\w'.cell? ⟨ib,io+k * 8+5,none⟩=some (.slice E1 y.keys.length e1)/\w'.cell? ⟨ib,io+k * 8+6,none⟩=some (.slice E2 y.items.length e2)/\w'.cell? ⟨ib,io+k * 8+7,none⟩=some (.slice E3 y.rest.length e3))):=fun w' T' st hy=>by
    obtain ⟨v0,v1,v2,v3,v4,v5,v6,v7⟩:=zF st.h7;obtain ⟨y0,y1,y2,-⟩:=Qk hy;have u:=st.up HB0 HG;obtain ⟨a0,a1,a2,a3,a4,a5,a6,a7⟩:=HA.out;exact ⟨st.c5,y2,v6,zA u a0,zA u a1,zA u a2,zA u a3,zA u a4,zA u a5,zA u a6,zA u a7⟩
   go_upto_region 21 with fail
   refine wp_region_held_drew (S:=(fun w'=>(w'.cell? ⟨w.heap.size,0,none⟩=some (.slice (some ⟨bq,oq,none⟩) s.length c)/\w'.cell? ⟨wQ,2,none⟩=some (.int .i64 m.type)/\w'.cell? ⟨w.heap.size+1,6,none⟩=some (.slice (some ⟨ib,io,none⟩) v.items.length c2)/\w'.cell? ⟨ib,io+k * 8,none⟩=some (.int .i64 y.kind)/\w'.cell? ⟨ib,io+k * 8+1,none⟩=some (.bool y.bool)/\w'.cell? ⟨ib,io+k * 8+2,none⟩=some (.int .i64 y.int)/\w'.cell? ⟨ib,io+k * 8+3,none⟩=some (.string y.str)/\w'.cell? ⟨ib,io+k * 8+4,none⟩=some (.int .i64 y.id)/\w'.cell? ⟨ib,io+k * 8+5,none⟩=some (.slice E1 y.keys.length e1)/\w'.cell? ⟨ib,io+k * 8+6,none⟩=some (.slice E2 y.items.length e2)/\w'.cell? ⟨ib,io+k * 8+7,none⟩=some (.slice E3 y.rest.length e3))/\Hid (Below B w0 w))) (by kernel_rfl) ?_ (fun AU=>?_)
   ·(try dsimp only);exact ⟨FD.out _ _ (gL.out.below (zC (Pd _ _) 1)) (zE vJ (zC (Pd _ _) 1)),HB0.out⟩
   refine tL 0 ?_;refine tL 1 ?_;refine tL 2 ?_;refine tL 3 ?_;refine tL 4 ?_;refine tL 5 ?_;try simp only[ps]
   refine tL 6 ?_;refine tL 7 ?_;refine tL 8 ?_;refine tR 9 (fun K hK=>?_)
   go_simp
   (refine (Df.out m.type y E1 e1 E2 e2 E3 e3 w0 _ B b _ HFY HS iA P7 HG (HB0.out.trans (gL.out.below (zC (Pd _ _) 1)).fr) (gL.out.below (zC (Pd _ _) 1)).ge (gL.out.below (zC (Pd _ _) 1)).Q0 (by have:=PO.out;have e1:(⟨#[58,32]⟩:ByteArray).size=2:=rfl;rw[zH,zH (T++GU 123++CK),zH m.name];omega)).mono ?_;rintro e' w8 ⟨rfl,g1,g2,g3⟩;have iM:=zh ((gL.out.below (zC (Pd _ _) 1)).step g1 g2 g3);have wW:=zh (g3.blk (zE vJ (zC (Pd _ _) 1)) hne (by decide));clear g1 g2 g3)
   refine hK.out _ _ ?_ (fun AU=>?_)
   ·(try dsimp only);exact ⟨FD.out _ _ iM.out wW,HB0.out⟩
   clear hK K;refine wpAnyH_done (by kernel_rfl) ?_ _
   clear AU;have HE:Hid (T++GU 123++CK++CM++(m.name++⟨#[58,32]⟩)++Ct s n m.type y=T++GU 123++IK (fun i=>(CS (Ct s n) x v).getD i ⟨#[]⟩) (k+1)):=by show _=_;rw[rY.out];simp only[AAu]
   go_wp2
   go_roundw
   case rel=>exact ⟨k+1,by omega,by go_num,by have h:=iM.out;rw[HE.out] at h;exact h⟩
   case measure=>simp[intOf];omega
  ·obtain rfl:k=x.AA.length:=by omega
   have q3:¬ ((x.AA.length:Nat):Int)<((x.AA.length:Nat):Int):=by omega
   obtain ⟨v0,v1,v2,v3,v4,v5,v6,v7⟩:=zF Pf.out.h7;obtain ⟨b0,b1,b2,b3,b4,b5,b6,b7,b8,b9⟩:=zG Pf.out.h8;have x0:=Pf.out.c5;obtain ⟨wk,rfl⟩:∃wk:World,wk=wr:=⟨_,rfl⟩;go_wp2_with fail
   go_loopw [107] (fun i wr=>∃k:Nat,k<=v.rest.length/\i = .int .i64 (k:Int)/\Hid (Iy s (some ⟨bq,oq,none⟩) c x As cs Am cm v A1 c1 A2 c2 A3 c3 B b w.heap.size (w.heap.size+1) p8 w wr (T++GU 123++IK (fun i=>(CS (Ct s n) x v).getD i ⟨#[]⟩) (x.AA.length+k)))) (fun i _=>v.rest.length - (intOf i).toNat)
   case atStart=>exact ⟨0,by omega,rfl,Pf.out⟩
   case round =>
    obtain ⟨k,hk,rfl,hh⟩:=hrel;have nK:=zh hh.out;clear v0 v1 v2 v3 v4 v5 v6 v7 b0 b1 b2 b3 b4 b5 b6 b7 b8 b9 x0 hh q3;obtain ⟨wq,rfl⟩:∃wq:World,wq=wr:=⟨_,rfl⟩
    by_cases hlt:k<v.rest.length
    ·obtain ⟨rb,ro,hRB,_,a0,a1⟩:=HR.out.rest.at2 hlt
     replace a0:=zA (nK.out.up HB0 HG) a0;replace a1:=zA (nK.out.up HB0 HG) a1;have hfr:=HF.out.2.1 _ (AAW hlt);have hel:x.AA.length+k<(CS (Ct s n) x v).length:=by rw[HPL.out];omega
     have nR:=zh (Qz (l:=CS (Ct s n) x v) hel);have rY:=zh (Qy (l:=CS (Ct s n) x v) hel);rw[ZG HF.out.1 hlt] at nR rY;clear hel;generalize v.rest[k]=r at *;have Kt:=zh hfr;clear hfr;generalize hCK:IK (fun i=>(CS (Ct s n) x v).getD i ⟨#[]⟩) (x.AA.length+k)=CK at *
     generalize hCM:(if x.AA.length+k=0 then (⟨#[]⟩:ByteArray) else ⟨#[44,32]⟩)=CM at *
     have PO:Hid ((T++GU 123++CK).size+CM.size+((FP r.id).size+2+(TG r.data).size)<=140737488355328):=by have:=HZ.out;have h:=nR.out;rw[zH (FP r.id++_),zH (FP r.id)] at h;rw[zH,zH];change _+_+(_+2+_)<=_ at h;show _+1+_+_+_<=_;omega
     subst hRB;have h1:(0:Int)<=(k:Int):=by omega
     have h2:(k:Int)<(v.rest.length:Int):=by omega
     have hblt:=nK.out.Q0.lt;have LQ:=zh (zD wq (Ac.box r));have HYB:=zh (AAA wq (Ac.box r));have iL:=zh (nK.out.below LQ);obtain ⟨v0,v1,v2,v3,v4,v5,v6,v7⟩:=zF nK.out.h7;obtain ⟨b0,b1,b2,b3,b4,b5,b6,b7,b8,b9⟩:=zG nK.out.h8;have x0:=nK.out.c5;go_upto_region 26 with fail
     clear v0 v1 v2 v3 v4 v5 v6 v7 b0 b1 b2 b3 b4 b5 b6 b7 b8 b9 x0 a0 a1;generalize wq.alloc (Ac.box r)=W4 at *;generalize wq.heap.size=sJ at *;have hne:sJ≠b:=by omega
     obtain ⟨v0,v1,v2,v3,v4,v5,v6,v7⟩:=zF iL.out.h7;obtain ⟨b0,b1,b2,b3,b4,b5,b6,b7,b8,b9⟩:=zG iL.out.h8;have x0:=iL.out.c5;have hcm:Calls Tryz.prog 70 #[.pointer (some ⟨b,0,none⟩),.int .i64 ((x.AA.length:Int)+(k:Int))] W4 _:=Qx iL.out.Q0 (x.AA.length+k) (by rw[hCM];have:=PO.out;omega) iL.out.ge
     have wC:=zh hcm;clear hcm;go_wp2_with fail;refine wC.out.mono ?_;rintro e' w6 ⟨rfl,g1,g2,g3⟩;rw[hCM] at g1;have gM:=zh (iL.out.step g1 g2 g3);have vK:=zh (g3.blk HYB hne (by decide))
     clear g1 g2 g3 wC;clear v0 v1 v2 v3 v4 v5 v6 v7 b0 b1 b2 b3 b4 b5 b6 b7 b8 b9 x0;have n1:¬ 9223372036854775807<(FP r.id).size+(⟨#[58,32]⟩:ByteArray).size:=by have:=PO.out;show ¬ _<_+2;omega
     have n2:¬ 9223372036854775807<(FP r.id).size+2:=n1;have n3:¬ 9223372036854775807<(FP r.id++⟨#[58,32]⟩:ByteArray).size+(TG r.data).size:=by have:=PO.out;rw[zH];show ¬ _<_+2+_;omega
     have n4:¬ 9223372036854775807<(FP r.id).size+2+(TG r.data).size:=by have:=PO.out;omega
     have FD:Hid (∀w':World,w'.heap[sJ]? = some (Ac.box r)->(w'.cell? ⟨sJ,0,none⟩=some (.int .i64 r.id)/\w'.cell? ⟨sJ,1,none⟩=some (.string r.data))):=fun w' hy=>⟨by rw[AAB _ _ _ _ _ _ hy];rfl,by rw[AAB _ _ _ _ _ _ hy];rfl⟩
     go_upto_region 27 with fail
     refine wp_region_held_drew (S:=(fun w'=>(w'.cell? ⟨sJ,0,none⟩=some (.int .i64 r.id)/\w'.cell? ⟨sJ,1,none⟩=some (.string r.data))/\Hid (Below B w0 w))) (by kernel_rfl) ?_ (fun AU=>?_)
     ·(try dsimp only);exact ⟨FD.out _ (zE vK (zC (Pd _ _) 1)),HB0.out⟩
     refine tL 0 ?_;refine tL 1 ?_;try simp only[ps]
     refine tL 2 ?_;refine tL 5 ?_;refine tL 6 ?_;refine tR 3 (fun K hK=>?_)
     go_simp
     (refine (Ui r.id (ku Kt) _ (P7.out.below ((gM.out.below (zC (Pd _ _) 1)).up HB0 HG))).mono ?_;rintro e' w7 ⟨rfl,FK⟩;have gL:=zh ((gM.out.below (zC (Pd _ _) 1)).below FK);have vJ:=zh (zE (zE vK (zC (Pd _ _) 1)) FK);clear FK)
     refine hK.out _ _ ?_ (fun AU=>?_)
     ·(try dsimp only);exact ⟨FD.out _ vJ,HB0.out⟩
     clear hK K;refine tL 4 ?_;refine tR 7 (fun K hK=>?_)
     go_simp
     (refine (ZA r.data (by have:=PO.out;omega) _).mono ?_;rintro e' w8 ⟨rfl,IG⟩;have iM:=zh (gL.out.below IG);have wW:=zh (zE vJ IG);clear IG)
     refine hK.out _ _ ?_ (fun AU=>?_)
     ·(try dsimp only);exact ⟨FD.out _ wW,HB0.out⟩
     clear hK K;try simp only[ps]
     refine tL 8 ?_;refine tR 9 (fun K hK=>?_)
     go_simp
     (refine (iM.out.Q0.write _ ?_ iM.out.ge).mono ?_;(· have:=PO.out;have e1:(⟨#[58,32]⟩:ByteArray).size=2:=rfl;rw[zH (T++GU 123++CK),zH (FP r.id++_),zH (FP r.id)];omega);rintro e' w9 ⟨rfl,g1,g2,g3⟩;have ST9:=zh (iM.out.step g1 g2 g3);have HY9:=zh (g3.blk wW hne (by decide));clear g1 g2 g3)
     refine hK.out _ _ ?_ (fun AU=>?_)
     ·(try dsimp only);exact ⟨FD.out _ HY9,HB0.out⟩
     clear hK K;refine wpAnyH_done (by kernel_rfl) ?_ _
     clear AU;have HE:Hid (T++GU 123++CK++CM++(FP r.id++⟨#[58,32]⟩++TG r.data)=T++GU 123++IK (fun i=>(CS (Ct s n) x v).getD i ⟨#[]⟩) (x.AA.length+(k+1))):=by show _=_;rw[<-Nat.add_assoc,rY.out];simp only[AAu]
     go_wp2
     go_roundw
     case rel=>exact ⟨k+1,by omega,by go_num,by have h:=ST9.out;rw[HE.out] at h;exact h⟩
     case measure=>simp[intOf];omega
    ·obtain rfl:k=v.rest.length:=by omega
     have HE:Hid (IK (fun i=>(CS (Ct s n) x v).getD i ⟨#[]⟩) (x.AA.length+v.rest.length)=Sj (CS (Ct s n) x v)):=by show _=_;unfold Sj;rw[HPL.out]
     have wU:=nK;rw[HE.out] at wU;go_wp2_with fail;refine (wU.out.Q0.byte 125 (by have:=HZ.out;rw[zH,zH];show _+1+_+1<=_;omega) wU.out.ge).mono ?_
     rintro e' w8 ⟨rfl,g1,g2,g3⟩;have iM:=zh (wU.out.step g1 g2 g3);clear g1 g2 g3;go_wp2;refine bodyPost_end (results_none Tryz.results44 _ _ _) rfl ⟨rfl,by rw[HL.out];(have h:=iM.out.Q0;simp only[AAu] at h ⊢;exact h),iM.out.fr,iM.out.ot⟩
end Go.Proofs.YthkkllmmbefedaaGreatDoor



