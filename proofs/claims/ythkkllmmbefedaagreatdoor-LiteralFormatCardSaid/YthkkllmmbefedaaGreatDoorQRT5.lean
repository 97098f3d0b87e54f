/-
  Walks: the reference's text, kinds 9.
-/
import Derived.Test.YthkkllmmbefedaaGreatDoorQGT0
import Derived.Test.YthkkllmmbefedaaGreatDoorQGA9
namespace Go.Proofs.YthkkllmmbefedaaGreatDoor
open Go.RowKit
set_option maxHeartbeats 16000000
set_option maxRecDepth 100000
theorem rtext_9 {s:List TyD} {A:zo} {c n:Nat} (hn:Num64 s) (_ih:TextAt s A c n):TextK s A c n 9:=by
 intro tn htn v A1 c1 A2 c2 A3 c3 w e hf hs hr htb hz
 have hln:=hs.1.lt (by omega)
 obtain ⟨HB0,H5,H7⟩:=zy w (.cells #[.slice A s.length c] 31) (v.box A1 c1 A2 c2 A3 c3);have HIH:=zh _ih;have HS:=zh hs;have HR:=zh hr;have HTB:=zh htb;have HXN:=zh (hn _ (List.getElem_mem htn));obtain ⟨L,hL⟩:∃L,litB (litF s n) s[tn] v=L:=⟨_,rfl⟩;rw[hL] at hz ⊢;obtain ⟨b,o,As,cs,Am,cm,hA,htr,t0,t1,t2,t3,t4,t5,t6,t7,t8,t9⟩:=(hs.below HB0.out).at10 htn;clear hs hr htb _ih hn;subst hA
 generalize s[tn]=x at *;have HL0:Hid (L=litB (litF s n) x v):=hL.symm;have HSZ:=zh hz;have HTR:=zh htr;have HFB:=zh hf;have HK:=zh e;clear hL hz htr hf e;have h1:(0:Int)≤(tn:Int):=by omega
 have h2:(tn:Int)<(s.length:Int):=by omega
 go_enter Tryz.func46,Tryz.ntmps46
 go_upto_region 1 with fail
 generalize (w.alloc (.cells #[.slice (some ⟨b,o,none⟩) s.length c] 31)).alloc (v.box A1 c1 A2 c2 A3 c3)=W2 at *;have x0:=zb H5.out;go_upto_region 2 with fail
 clear t0 t1 t2 t3 t4 t5 t6 t7 t8 t9 x0;have HBX:=zh (zD W2 (x.box As cs Am cm));have HT4:Hid (TBox (W2.alloc (x.box As cs Am cm)) W2.heap.size x As cs Am cm):=heap_alloc_new W2 _;have H54:=zh (zE H5.out HBX.out);have H74:=zh (zE H7.out HBX.out);have HB4:=zh (zB HB0.out HBX.out);have HTR4:=zh (HTR.out.below HBX.out);generalize W2.alloc (x.box As cs Am cm)=w4 at *;generalize W2.heap.size=p7 at *
 clear H5 H7 HTR HBX HB0;obtain ⟨q1,q2,q3,q4,q5,q6,q7,q8⟩:=zk9 HK.out;obtain ⟨v0,v1,v2,v3,v4,v5,v6,v7⟩:=zF H74.out;obtain ⟨b0,b1,b2,b3,b4,b5,b6,b7,b8,b9⟩:=zG HT4.out;have x0:=zb H54.out;have HL1:=zh (HL0.out.trans (lit9 HK.out));have HF:=zh (fit9 HK.out HFB.out)
 by_cases hi:v.items=[]
 ·have HL:Hid (L=⟨#[110,111,110,101]⟩):=by show _=_;rw[HL1.out,hi]
  have z1:((v.items.length:Int)==0)=true:=by rw[hi];rfl
  clear hi;go_wp2;go_ret;exact ⟨by rw[HL.out];rfl,HB4.out⟩
 ·have hlt:0<v.items.length:=List.length_pos_iff.2 hi
  have hir0:=(HR.out.below HB4.out).items;obtain ⟨ib,io,E1,e1,E2,e2,E3,e3,hI,hir,a0,a1,a2,a3,a4,a5,a6,a7⟩:=hir0.at8 hlt;have HIR:=zh hir;have hmem:=HF.out.2 _ (List.getElem_mem hlt);have HL:Hid (L=⟨#[115,111,109,101,40]⟩++litF s n x.elem v.items[0]++⟨#[41]⟩):=HL0.out.trans (lit9_some HK.out hlt)
  have HZ:Hid (5+(litF s n x.elem v.items[0]).size+1≤1073741824):=by have:=HSZ.out;rw[HL.out,zH,zH] at this;exact this
  have z1:((v.items.length:Int)==0)=false:=by simp[hi]
  generalize v.items[0]=y at *;have HFY:=zh hmem;rw[hI] at v6;have h3:(0:Int)<(v.items.length:Int):=by omega
  obtain ⟨Y,hY⟩:∃Y,litF s n x.elem y=Y:=⟨_,rfl⟩;have HYE:=zh hY;rw[hY] at HL HZ;have n1:¬ 9223372036854775807<(⟨#[115,111,109,101,40]⟩:ByteArray).size+Y.size:=by have:=HZ.out;show ¬ _<5+_;omega
  have n2:¬ 9223372036854775807<5+Y.size:=n1;have n3:¬ 9223372036854775807<(⟨#[115,111,109,101,40]⟩++Y:ByteArray).size+(⟨#[41]⟩:ByteArray).size:=by have:=HZ.out;rw[zH];show ¬ _<5+_+1;omega
  have n4:¬ 9223372036854775807<5+Y.size+1:=by have:=HZ.out;omega
  have HCC:Hid (∀w',Below w4.heap.size w4 w'→(w'.cell? ⟨w.heap.size,0,none⟩=some (.slice (some ⟨b,o,none⟩) s.length c)∧w'.cell? ⟨p7,8,none⟩=some (.int .i64 x.elem)∧w'.cell? ⟨w.heap.size+1,6,none⟩=some (.slice (some ⟨ib,io,none⟩) v.items.length c2)∧w'.cell? ⟨ib,io,none⟩=some (.int .i64 y.kind)∧w'.cell? ⟨ib,io+1,none⟩=some (.bool y.bool)∧w'.cell? ⟨ib,io+2,none⟩=some (.int .i64 y.int)∧w'.cell? ⟨ib,io+3,none⟩=some (.string y.str)∧w'.cell? ⟨ib,io+4,none⟩=some (.int .i64 y.id)∧w'.cell? ⟨ib,io+5,none⟩=some (.slice E1 y.keys.length e1)∧w'.cell? ⟨ib,io+6,none⟩=some (.slice E2 y.items.length e2)∧w'.cell? ⟨ib,io+7,none⟩=some (.slice E3 y.rest.length e3))):=fun w' hb=>⟨zA hb x0,zA hb b8,zA hb v6,zA hb (by simpa using a0),zA hb (by simpa using a1),zA hb (by simpa using a2),zA hb (by simpa using a3),zA hb (by simpa using a4),zA hb (by simpa using a5),zA hb (by simpa using a6),zA hb (by simpa using a7)⟩
  clear hmem hir hir0 a0 a1 a2 a3 a4 a5 a6 a7 hI hY hi;go_upto_region 48 with fail
  clear v0 v1 v2 v3 v4 v5 v6 v7 b0 b1 b2 b3 b4 b5 b6 b7 b8 b9 x0;refine zr (Y:=fun w'=>Hid (Below w4.heap.size w4 w')) HCC.out (by kernel_rfl) ?_ (fun zH_=>?_)
  ·(try dsimp only);exact ⟨HCC.out _ (zC (Below.refl _ _) 1),(zC (Below.refl _ _) 1)⟩
  refine tL 0 ?_;refine tL 1 ?_;refine tL 2 ?_;refine tL 3 ?_;refine tL 4 ?_;refine tL 5 ?_;try simp only[ps]
  refine tL 6 ?_;refine tR 7 (fun K hK=>?_)
  go_simp
  (refine (HIH.out x.elem y E1 e1 E2 e2 E3 e3 _ HFY.out (HS.out.below (zB HB4.out zH_.2.out)) (HIR.out.below zH_.2.out) (HTB.out.below (zB HB4.out zH_.2.out)) (by rw[HYE.out];have:=HZ.out;omega)).mono ?_;rintro e w5 ⟨rfl,hb5⟩;have HB5:=zh (zB zH_.2.out hb5);clear hb5;rw[HYE.out])
  refine hK.out _ _ ?_ (fun zH_=>?_)
  ·(try dsimp only);exact ⟨HCC.out _ HB5.out,HB5.out⟩
  clear hK K;refine tL 8 ?_;refine tL 9 ?_;refine tL 10 ?_;refine wpAnyH_done (by kernel_rfl) ?_ _
  clear zH_;go_wp2;go_ret;exact ⟨by rw[HL.out];rfl,zB HB4.out HB5.out⟩
end Go.Proofs.YthkkllmmbefedaaGreatDoor


