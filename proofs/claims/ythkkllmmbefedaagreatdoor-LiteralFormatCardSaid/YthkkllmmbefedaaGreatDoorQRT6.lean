/-
  Walks: the reference's text, kinds 6.
-/
import Derived.Test.YthkkllmmbefedaaGreatDoorQGT0
import Derived.Test.YthkkllmmbefedaaGreatDoorQGA9
namespace Go.Proofs.YthkkllmmbefedaaGreatDoor
open Go.RowKit
set_option maxHeartbeats 16000000
set_option maxRecDepth 100000
theorem rtext_6 {s:List TyD} {A:zo} {c n:Nat} (hn:Num64 s) (_ih:TextAt s A c n):TextK s A c n 6:=by
 intro tn htn v A1 c1 A2 c2 A3 c3 w e hf hs hr htb hz
 have hln:=hs.1.lt (by omega)
 obtain ⟨HB0,H5,H7⟩:=zy w (.cells #[.slice A s.length c] 31) (v.box A1 c1 A2 c2 A3 c3);have HIH:=zh _ih;have HS:=zh hs;have HR:=zh hr;have HTB:=zh htb;have HXN:=zh (hn _ (List.getElem_mem htn));obtain ⟨L,hL⟩:∃L,litB (litF s n) s[tn] v=L:=⟨_,rfl⟩;rw[hL] at hz ⊢;obtain ⟨b,o,As,cs,Am,cm,hA,htr,t0,t1,t2,t3,t4,t5,t6,t7,t8,t9⟩:=(hs.below HB0.out).at10 htn;clear hs hr htb _ih hn;subst hA
 generalize s[tn]=x at *;have HL0:Hid (L=litB (litF s n) x v):=hL.symm;have HSZ:=zh hz;have HTR:=zh htr;have HFB:=zh hf;have HK:=zh e;clear hL hz htr hf e;have h1:(0:Int)≤(tn:Int):=by omega
 have h2:(tn:Int)<(s.length:Int):=by omega
 go_enter Tryz.func46,Tryz.ntmps46
 go_upto_region 1 with fail
 generalize (w.alloc (.cells #[.slice (some ⟨b,o,none⟩) s.length c] 31)).alloc (v.box A1 c1 A2 c2 A3 c3)=W2 at *;have x0:=zb H5.out;go_upto_region 2 with fail
 clear t0 t1 t2 t3 t4 t5 t6 t7 t8 t9 x0;have HBX:=zh (zD W2 (x.box As cs Am cm));have HT4:Hid (TBox (W2.alloc (x.box As cs Am cm)) W2.heap.size x As cs Am cm):=heap_alloc_new W2 _;have H54:=zh (zE H5.out HBX.out);have H74:=zh (zE H7.out HBX.out);have HB4:=zh (zB HB0.out HBX.out);have HTR4:=zh (HTR.out.below HBX.out);generalize W2.alloc (x.box As cs Am cm)=w4 at *;generalize W2.heap.size=p7 at *
 clear H5 H7 HTR HBX HB0;obtain ⟨q1,q2,q3,q4,q5,q6⟩:=zk6 HK.out;obtain ⟨v0,v1,v2,v3,v4,v5,v6,v7⟩:=zF H74.out;obtain ⟨b0,b1,b2,b3,b4,b5,b6,b7,b8,b9⟩:=zG HT4.out;have x0:=zb H54.out;have HF:=zh (fit6 HK.out HFB.out);obtain ⟨an,han⟩:∃an,(x.mems.any fun y=>decide (y.id=v.id))=an:=⟨_,rfl⟩
 have hcall:=rMem_any v.id x As cs Am cm w4 HTR4.out;rw[han] at hcall;have HCL:=zh hcall;have HAN:=zh han;clear hcall han;go_wp2_with fail;refine HCL.out.mono ?_;rintro e w5 ⟨r,rfl,hr5,hb5⟩;have HR5:=zh hr5;have HB5:=zh (zB HB4.out hb5);have HT5:=zh (HT4.out.below hb5);have H55:=zh (zE H54.out hb5);have H75:=zh (zE H74.out hb5);have HTR5:=zh (HTR4.out.below hb5);clear hb5 hr5 HCL
 clear v0 v1 v2 v3 v4 v5 v6 v7 b0 b1 b2 b3 b4 b5 b6 b7 b8 b9 x0;obtain ⟨v0,v1,v2,v3,v4,v5,v6,v7⟩:=zF H75.out;obtain ⟨b0,b1,b2,b3,b4,b5,b6,b7,b8,b9⟩:=zG HT5.out;have x0:=zb H55.out
 cases an with
 | true =>
  obtain ⟨k,hk,e1,e2⟩:=find_idx x.mems HAN.out;obtain rfl:r=(k:Int):=(HR5.out rfl).trans e1;obtain ⟨m,y,g1,g2,g3⟩:∃m y,x.mems.find? (fun y=>decide (y.id=v.id))=some m∧v.items=[y]∧fitF s false n m.type y=true:=by
   rcases HF.out with ⟨_,m,y,g1,g2,g3⟩|⟨g,_⟩
   ·exact ⟨m,y,g1,g2,g3⟩
   ·rw[HAN.out] at g;cases g
  obtain rfl:m=x.mems[k]:=Option.some.inj (g1.symm.trans e2);have hlt:0<v.items.length:=by rw[g2];exact Nat.one_pos
  have hmem:fitF s false n (x.mems[k]).type v.items[0]=true:=by simp only[g2,List.getElem_cons_zero];exact g3
  have HL:Hid (L=(x.mems[k]).name++⟨#[40]⟩++litF s n (x.mems[k]).type v.items[0]++⟨#[41]⟩):=HL0.out.trans (lit6_yes HK.out e2 hlt);have HZ:Hid ((x.mems[k]).name.size+1+(litF s n (x.mems[k]).type v.items[0]).size+1≤1073741824):=by have:=HSZ.out;rw[HL.out,zH,zH,zH] at this;exact this
  clear g1 g2 g3 e1 e2;have hir0:=(HR.out.below HB5.out).items;obtain ⟨ib,io,E1,e1,E2,e2,E3,e3,hI,hir,a0,a1,a2,a3,a4,a5,a6,a7⟩:=hir0.at8 hlt;have HIR:=zh hir;obtain ⟨mb,mo,M1,m1,M2,m2,M3,m3,hM,_,d0,d1,d2,d3,d4,d5,d6,d7,d8,d9,d10,d11,d12⟩:=HTR5.out.mems.at13 hk;generalize x.mems[k]=m at *;generalize v.items[0]=y at *;have HFY:=zh hmem;rw[hI] at v6;rw[hM] at b6;have h1:(0:Int)≤(k:Int):=by omega
  have h2:(k:Int)<(x.mems.length:Int):=by omega
  have h3:(0:Int)<(v.items.length:Int):=by omega
  obtain ⟨Y,hY⟩:∃Y,litF s n m.type y=Y:=⟨_,rfl⟩;have HYE:=zh hY;rw[hY] at HL HZ;have e40:(⟨#[40]⟩:ByteArray).size=1:=rfl;have e41:(⟨#[41]⟩:ByteArray).size=1:=rfl;have n1:¬ 9223372036854775807<m.name.size+(⟨#[40]⟩:ByteArray).size:=by have:=HZ.out;omega
  have n2:¬ 9223372036854775807<m.name.size+1:=n1;have n3:¬ 9223372036854775807<(m.name++⟨#[40]⟩:ByteArray).size+Y.size:=by have:=HZ.out;rw[zH];omega
  have n4:¬ 9223372036854775807<m.name.size+1+Y.size:=by have:=HZ.out;omega
  have n5:¬ 9223372036854775807<(m.name++⟨#[40]⟩++Y:ByteArray).size+(⟨#[41]⟩:ByteArray).size:=by have:=HZ.out;rw[zH,zH];omega
  have n6:¬ 9223372036854775807<m.name.size+1+Y.size+1:=by have:=HZ.out;omega
  have HCC:Hid (∀w',Below w5.heap.size w5 w'→(w'.cell? ⟨w.heap.size,0,none⟩=some (.slice (some ⟨b,o,none⟩) s.length c)∧w'.cell? ⟨p7,6,none⟩=some (.slice (some ⟨mb,mo,none⟩) x.mems.length cm)∧w'.cell? ⟨mb,mo+k * 13+1,none⟩=some (.string m.name)∧w'.cell? ⟨mb,mo+k * 13+2,none⟩=some (.int .i64 m.type)∧w'.cell? ⟨w.heap.size+1,6,none⟩=some (.slice (some ⟨ib,io,none⟩) v.items.length c2)∧w'.cell? ⟨ib,io,none⟩=some (.int .i64 y.kind)∧w'.cell? ⟨ib,io+1,none⟩=some (.bool y.bool)∧w'.cell? ⟨ib,io+2,none⟩=some (.int .i64 y.int)∧w'.cell? ⟨ib,io+3,none⟩=some (.string y.str)∧w'.cell? ⟨ib,io+4,none⟩=some (.int .i64 y.id)∧w'.cell? ⟨ib,io+5,none⟩=some (.slice E1 y.keys.length e1)∧w'.cell? ⟨ib,io+6,none⟩=some (.slice E2 y.items.length e2)∧w'.cell? ⟨ib,io+7,none⟩=some (.slice E3 y.rest.length e3))):=fun w' hb=>⟨zA hb x0,zA hb b6,zA hb d1,zA hb d2,zA hb v6,zA hb (by simpa using a0),zA hb (by simpa using a1),zA hb (by simpa using a2),zA hb (by simpa using a3),zA hb (by simpa using a4),zA hb (by simpa using a5),zA hb (by simpa using a6),zA hb (by simpa using a7)⟩
  clear hmem hir hir0 a0 a1 a2 a3 a4 a5 a6 a7 d0 d1 d2 d3 d4 d5 d6 d7 d8 d9 d10 d11 d12 hI hM hY e40 e41;go_upto_region 30 with fail
  clear v0 v1 v2 v3 v4 v5 v6 v7 b0 b1 b2 b3 b4 b5 b6 b7 b8 b9 x0;refine zr (Y:=fun w'=>Hid (Below w5.heap.size w5 w')) HCC.out (by kernel_rfl) ?_ (fun zH_=>?_)
  ·(try dsimp only);exact ⟨HCC.out _ (zC (Below.refl _ _) 1),(zC (Below.refl _ _) 1)⟩
  refine tL 0 ?_;refine tL 1 ?_;refine tL 2 ?_;refine tL 3 ?_;refine tL 4 ?_;refine tL 5 ?_;try simp only[ps]
  refine tL 6 ?_;refine tL 7 ?_;refine tL 8 ?_;refine tL 9 ?_;refine tL 10 ?_;refine tL 11 ?_;try simp only[ps]
  refine tL 12 ?_;refine tL 13 ?_;refine tL 14 ?_;refine tL 15 ?_;refine tL 16 ?_;refine tL 17 ?_;try simp only[ps]
  refine tR 18 (fun K hK=>?_)
  go_simp
  (refine (HIH.out m.type y E1 e1 E2 e2 E3 e3 _ HFY.out (HS.out.below (zB HB5.out zH_.2.out)) (HIR.out.below zH_.2.out) (HTB.out.below (zB HB5.out zH_.2.out)) (by rw[HYE.out];have:=HZ.out;omega)).mono ?_;rintro e w6 ⟨rfl,hb6⟩;have HB6:=zh (zB zH_.2.out hb6);clear hb6;rw[HYE.out])
  refine hK.out _ _ ?_ (fun zH_=>?_)
  ·(try dsimp only);exact ⟨HCC.out _ HB6.out,HB6.out⟩
  clear hK K;refine tL 19 ?_;refine tL 20 ?_;refine tL 21 ?_;refine wpAnyH_done (by kernel_rfl) ?_ _
  clear zH_;go_wp2;go_ret;exact ⟨by rw[HL.out];rfl,zB HB5.out HB6.out⟩
 | false =>
  obtain ⟨hfr,r0,hr0⟩:freeD v.id=true∧∃r,v.rest=[r]:=by
   rcases HF.out with ⟨g,_⟩|⟨_,g1,g2⟩
   ·rw[HAN.out] at g;cases g
   ·exact ⟨g1,g2⟩
  have HFR:=zh hfr;have hlt:0<v.rest.length:=by rw[hr0];exact Nat.one_pos
  have HL:Hid (L=⟨#[64]⟩++decB v.id++⟨#[40]⟩++quD (v.rest[0]).data++⟨#[41]⟩):=HL0.out.trans (lit6_no HK.out (find_no x.mems HAN.out) hlt);have HZ:Hid (1+(decB v.id).size+1+(quD (v.rest[0]).data).size+1≤1073741824):=by have:=HSZ.out;rw[HL.out,zH,zH,zH,zH] at this;exact this
  clear hfr hr0 r0;obtain ⟨rb,ro,hR,_,a0,a1⟩:=(HR.out.below HB5.out).rest.at2 hlt;generalize v.rest[0]=r0 at *;rw[hR] at v7;have h3:(0:Int)<(v.rest.length:Int):=by omega
  obtain ⟨Q,hQ⟩:∃Q,quD r0.data=Q:=⟨_,rfl⟩;obtain ⟨D,hD⟩:∃D,decB v.id=D:=⟨_,rfl⟩;have HQE:=zh hQ;have HDE:=zh hD;rw[hQ,hD] at HL HZ;have e64:(⟨#[64]⟩:ByteArray).size=1:=rfl;have e40:(⟨#[40]⟩:ByteArray).size=1:=rfl;have e41:(⟨#[41]⟩:ByteArray).size=1:=rfl;have n1:¬ 9223372036854775807<(⟨#[64]⟩:ByteArray).size+D.size:=by have:=HZ.out;omega
  have n2:¬ 9223372036854775807<1+D.size:=n1;have n3:¬ 9223372036854775807<(⟨#[64]⟩++D:ByteArray).size+(⟨#[40]⟩:ByteArray).size:=by have:=HZ.out;rw[zH];omega
  have n4:¬ 9223372036854775807<1+D.size+1:=by have:=HZ.out;omega
  have n5:¬ 9223372036854775807<(⟨#[64]⟩++D++⟨#[40]⟩:ByteArray).size+Q.size:=by have:=HZ.out;rw[zH,zH];omega
  have n6:¬ 9223372036854775807<1+D.size+1+Q.size:=by have:=HZ.out;omega
  have n7:¬ 9223372036854775807<(⟨#[64]⟩++D++⟨#[40]⟩++Q:ByteArray).size+(⟨#[41]⟩:ByteArray).size:=by have:=HZ.out;rw[zH,zH,zH];omega
  have n8:¬ 9223372036854775807<1+D.size+1+Q.size+1:=by have:=HZ.out;omega
  have HCC:Hid (∀w',Below w5.heap.size w5 w'→(w'.cell? ⟨w.heap.size+1,4,none⟩=some (.int .i64 v.id)∧w'.cell? ⟨w.heap.size+1,7,none⟩=some (.slice (some ⟨rb,ro,none⟩) v.rest.length c3)∧w'.cell? ⟨rb,ro+1,none⟩=some (.string r0.data))):=fun w' hb=>⟨zA hb v4,zA hb v7,zA hb (by simpa using a1)⟩
  clear a0 a1 hR hQ hD e64 e40 e41;go_upto_region 31 with fail
  clear v0 v1 v2 v3 v4 v5 v6 v7 b0 b1 b2 b3 b4 b5 b6 b7 b8 b9 x0;refine zr (Y:=fun w'=>Hid (Below w5.heap.size w5 w')) HCC.out (by kernel_rfl) ?_ (fun zH_=>?_)
  ·(try dsimp only);exact ⟨HCC.out _ (zC (Below.refl _ _) 1),(zC (Below.refl _ _) 1)⟩
  refine tL 0 ?_;refine tL 1 ?_;try simp only[ps]
  refine tL 5 ?_;refine tL 6 ?_;refine tL 7 ?_;refine tL 8 ?_;refine tL 9 ?_;refine tR 2 (fun K hK=>?_)
  go_simp
  (refine (itoa_any v.id (free_in HFR.out) _ (HTB.out.below (zB HB5.out zH_.2.out))).mono ?_;rintro e w6 ⟨rfl,hb6⟩;have HB6:=zh (zB zH_.2.out hb6);clear hb6;rw[HDE.out])
  refine hK.out _ _ ?_ (fun zH_=>?_)
  ·(try dsimp only);exact ⟨HCC.out _ HB6.out,HB6.out⟩
  clear hK K;try simp only[ps]
  refine tL 3 ?_;refine tL 4 ?_;refine tR 10 (fun K hK=>?_)
  go_simp
  (refine (rQuote_any r0.data (by rw[HQE.out];have:=HZ.out;omega) _).mono ?_;rintro e w7 ⟨rfl,hb7⟩;have HB7:=zh (zB HB6.out hb7);clear hb7;rw[HQE.out])
  refine hK.out _ _ ?_ (fun zH_=>?_)
  ·(try dsimp only);exact ⟨HCC.out _ HB7.out,HB7.out⟩
  clear hK K;refine tL 11 ?_;refine tL 12 ?_;refine tL 13 ?_;try simp only[ps]
  refine wpAnyH_done (by kernel_rfl) ?_ _
  clear zH_;go_wp2;go_ret;exact ⟨by rw[HL.out];rfl,zB HB5.out HB7.out⟩
end Go.Proofs.YthkkllmmbefedaaGreatDoor


