/-
  Walks: the reference's text, kinds 1, 2, 3, 4.
-/
import Derived.Test.YthkkllmmbefedaaGreatDoorQGA10
import Derived.Test.YthkkllmmbefedaaGreatDoorQGA9
namespace Go.Proofs.YthkkllmmbefedaaGreatDoor
open Go.RowKit
set_option maxHeartbeats 16000000
set_option maxRecDepth 100000
theorem rtext_1 {s:List TyD} {A:zo} {c n:Nat} (hn:Num64 s) (_ih:TextAt s A c n):TextK s A c n 1:=by
 intro tn htn v A1 c1 A2 c2 A3 c3 w e hf hs hr htb hz
 have hln:=hs.1.lt (by omega)
 obtain ⟨HB0,H5,H7⟩:=zy w (.cells #[.slice A s.length c] 31) (v.box A1 c1 A2 c2 A3 c3);have HIH:=zh _ih;have HS:=zh hs;have HR:=zh hr;have HTB:=zh htb;have HXN:=zh (hn _ (List.getElem_mem htn));obtain ⟨L,hL⟩:∃L,litB (litF s n) s[tn] v=L:=⟨_,rfl⟩;rw[hL] at hz ⊢;obtain ⟨b,o,As,cs,Am,cm,hA,htr,t0,t1,t2,t3,t4,t5,t6,t7,t8,t9⟩:=(hs.below HB0.out).at10 htn;clear hs hr htb _ih hn;subst hA
 generalize s[tn]=x at *;have HL0:Hid (L=litB (litF s n) x v):=hL.symm;have HSZ:=zh hz;have HTR:=zh htr;have HFB:=zh hf;have HK:=zh e;clear hL hz htr hf e;have h1:(0:Int)≤(tn:Int):=by omega
 have h2:(tn:Int)<(s.length:Int):=by omega
 go_enter Tryz.func46,Tryz.ntmps46
 go_upto_region 1 with fail
 generalize (w.alloc (.cells #[.slice (some ⟨b,o,none⟩) s.length c] 31)).alloc (v.box A1 c1 A2 c2 A3 c3)=W2 at *;have x0:=zb H5.out;go_upto_region 2 with fail
 clear t0 t1 t2 t3 t4 t5 t6 t7 t8 t9 x0;have HBX:=zh (zD W2 (x.box As cs Am cm));have HT4:Hid (TBox (W2.alloc (x.box As cs Am cm)) W2.heap.size x As cs Am cm):=heap_alloc_new W2 _;have H54:=zh (zE H5.out HBX.out);have H74:=zh (zE H7.out HBX.out);have HB4:=zh (zB HB0.out HBX.out);have HTR4:=zh (HTR.out.below HBX.out);generalize W2.alloc (x.box As cs Am cm)=w4 at *;generalize W2.heap.size=p7 at *
 clear H5 H7 HTR HBX HB0;have q1:=zk1 HK.out;obtain ⟨v0,v1,v2,v3,v4,v5,v6,v7⟩:=zF H74.out;obtain ⟨b0,b1,b2,b3,b4,b5,b6,b7,b8,b9⟩:=zG HT4.out;have x0:=zb H54.out;have HL1:=zh (HL0.out.trans (lit1 HK.out))
 cases hb:v.bool with
 | true =>
  have HL:Hid (L=⟨#[116,114,117,101]⟩):=by show _=_;rw[HL1.out,hb];rfl
  rw[hb] at v1;clear hb HL1;go_wp2;go_ret;exact ⟨by rw[HL.out];rfl,HB4.out⟩
 | false =>
  have HL:Hid (L=⟨#[102,97,108,115,101]⟩):=by show _=_;rw[HL1.out,hb];rfl
  rw[hb] at v1;clear hb HL1;go_wp2;go_ret;exact ⟨by rw[HL.out];rfl,HB4.out⟩
theorem rtext_2 {s:List TyD} {A:zo} {c n:Nat} (hn:Num64 s) (_ih:TextAt s A c n):TextK s A c n 2:=by
 intro tn htn v A1 c1 A2 c2 A3 c3 w e hf hs hr htb hz
 have hln:=hs.1.lt (by omega)
 obtain ⟨HB0,H5,H7⟩:=zy w (.cells #[.slice A s.length c] 31) (v.box A1 c1 A2 c2 A3 c3);have HIH:=zh _ih;have HS:=zh hs;have HR:=zh hr;have HTB:=zh htb;have HXN:=zh (hn _ (List.getElem_mem htn));obtain ⟨L,hL⟩:∃L,litB (litF s n) s[tn] v=L:=⟨_,rfl⟩;rw[hL] at hz ⊢;obtain ⟨b,o,As,cs,Am,cm,hA,htr,t0,t1,t2,t3,t4,t5,t6,t7,t8,t9⟩:=(hs.below HB0.out).at10 htn;clear hs hr htb _ih hn;subst hA
 generalize s[tn]=x at *;have HL0:Hid (L=litB (litF s n) x v):=hL.symm;have HSZ:=zh hz;have HTR:=zh htr;have HFB:=zh hf;have HK:=zh e;clear hL hz htr hf e;have h1:(0:Int)≤(tn:Int):=by omega
 have h2:(tn:Int)<(s.length:Int):=by omega
 go_enter Tryz.func46,Tryz.ntmps46
 go_upto_region 1 with fail
 generalize (w.alloc (.cells #[.slice (some ⟨b,o,none⟩) s.length c] 31)).alloc (v.box A1 c1 A2 c2 A3 c3)=W2 at *;have x0:=zb H5.out;go_upto_region 2 with fail
 clear t0 t1 t2 t3 t4 t5 t6 t7 t8 t9 x0;have HBX:=zh (zD W2 (x.box As cs Am cm));have HT4:Hid (TBox (W2.alloc (x.box As cs Am cm)) W2.heap.size x As cs Am cm):=heap_alloc_new W2 _;have H54:=zh (zE H5.out HBX.out);have H74:=zh (zE H7.out HBX.out);have HB4:=zh (zB HB0.out HBX.out);have HTR4:=zh (HTR.out.below HBX.out);generalize W2.alloc (x.box As cs Am cm)=w4 at *;generalize W2.heap.size=p7 at *
 clear H5 H7 HTR HBX HB0;obtain ⟨q1,q2⟩:=zk2 HK.out;obtain ⟨v0,v1,v2,v3,v4,v5,v6,v7⟩:=zF H74.out;obtain ⟨b0,b1,b2,b3,b4,b5,b6,b7,b8,b9⟩:=zG HT4.out;have x0:=zb H54.out;have HL:=zh (HL0.out.trans (lit2 HK.out));have HI:Hid (In64 v.int):=by have:=fit2 HK.out HFB.out;have:=HXN.out;unfold In64 at *;show _∧_;omega
 go_wp2_with fail
 refine (fmt_any v.int HI.out _ (HTB.out.below HB4.out)).mono ?_;rintro e w5 ⟨rfl,hb5⟩;have HB5:=zh (zB HB4.out hb5);clear hb5;go_wp2;go_ret;exact ⟨by rw[HL.out];rfl,HB5.out⟩
theorem rtext_3 {s:List TyD} {A:zo} {c n:Nat} (hn:Num64 s) (_ih:TextAt s A c n):TextK s A c n 3:=by
 intro tn htn v A1 c1 A2 c2 A3 c3 w e hf hs hr htb hz
 have hln:=hs.1.lt (by omega)
 obtain ⟨HB0,H5,H7⟩:=zy w (.cells #[.slice A s.length c] 31) (v.box A1 c1 A2 c2 A3 c3);have HIH:=zh _ih;have HS:=zh hs;have HR:=zh hr;have HTB:=zh htb;have HXN:=zh (hn _ (List.getElem_mem htn));obtain ⟨L,hL⟩:∃L,litB (litF s n) s[tn] v=L:=⟨_,rfl⟩;rw[hL] at hz ⊢;obtain ⟨b,o,As,cs,Am,cm,hA,htr,t0,t1,t2,t3,t4,t5,t6,t7,t8,t9⟩:=(hs.below HB0.out).at10 htn;clear hs hr htb _ih hn;subst hA
 generalize s[tn]=x at *;have HL0:Hid (L=litB (litF s n) x v):=hL.symm;have HSZ:=zh hz;have HTR:=zh htr;have HFB:=zh hf;have HK:=zh e;clear hL hz htr hf e;have h1:(0:Int)≤(tn:Int):=by omega
 have h2:(tn:Int)<(s.length:Int):=by omega
 go_enter Tryz.func46,Tryz.ntmps46
 go_upto_region 1 with fail
 generalize (w.alloc (.cells #[.slice (some ⟨b,o,none⟩) s.length c] 31)).alloc (v.box A1 c1 A2 c2 A3 c3)=W2 at *;have x0:=zb H5.out;go_upto_region 2 with fail
 clear t0 t1 t2 t3 t4 t5 t6 t7 t8 t9 x0;have HBX:=zh (zD W2 (x.box As cs Am cm));have HT4:Hid (TBox (W2.alloc (x.box As cs Am cm)) W2.heap.size x As cs Am cm):=heap_alloc_new W2 _;have H54:=zh (zE H5.out HBX.out);have H74:=zh (zE H7.out HBX.out);have HB4:=zh (zB HB0.out HBX.out);have HTR4:=zh (HTR.out.below HBX.out);generalize W2.alloc (x.box As cs Am cm)=w4 at *;generalize W2.heap.size=p7 at *
 clear H5 H7 HTR HBX HB0;obtain ⟨q1,q2,q3⟩:=zk3 HK.out;obtain ⟨v0,v1,v2,v3,v4,v5,v6,v7⟩:=zF H74.out;obtain ⟨b0,b1,b2,b3,b4,b5,b6,b7,b8,b9⟩:=zG HT4.out;have x0:=zb H54.out;have HL:=zh (HL0.out.trans (lit3 HK.out));have HZ:Hid ((quD v.str).size≤1073741824):=by have:=HSZ.out;rw[HL.out] at this;exact this
 go_wp2_with fail
 refine (rQuote_any v.str (by have:=HZ.out;omega) _).mono ?_
 rintro e w5 ⟨rfl,hb5⟩;have HB5:=zh (zB HB4.out hb5);clear hb5;go_wp2;go_ret;exact ⟨by rw[HL.out];rfl,HB5.out⟩
theorem rtext_4 {s:List TyD} {A:zo} {c n:Nat} (hn:Num64 s) (_ih:TextAt s A c n):TextK s A c n 4:=by
 intro tn htn v A1 c1 A2 c2 A3 c3 w e hf hs hr htb hz
 have hln:=hs.1.lt (by omega)
 obtain ⟨HB0,H5,H7⟩:=zy w (.cells #[.slice A s.length c] 31) (v.box A1 c1 A2 c2 A3 c3);have HIH:=zh _ih;have HS:=zh hs;have HR:=zh hr;have HTB:=zh htb;have HXN:=zh (hn _ (List.getElem_mem htn));obtain ⟨L,hL⟩:∃L,litB (litF s n) s[tn] v=L:=⟨_,rfl⟩;rw[hL] at hz ⊢;obtain ⟨b,o,As,cs,Am,cm,hA,htr,t0,t1,t2,t3,t4,t5,t6,t7,t8,t9⟩:=(hs.below HB0.out).at10 htn;clear hs hr htb _ih hn;subst hA
 generalize s[tn]=x at *;have HL0:Hid (L=litB (litF s n) x v):=hL.symm;have HSZ:=zh hz;have HTR:=zh htr;have HFB:=zh hf;have HK:=zh e;clear hL hz htr hf e;have h1:(0:Int)≤(tn:Int):=by omega
 have h2:(tn:Int)<(s.length:Int):=by omega
 go_enter Tryz.func46,Tryz.ntmps46
 go_upto_region 1 with fail
 generalize (w.alloc (.cells #[.slice (some ⟨b,o,none⟩) s.length c] 31)).alloc (v.box A1 c1 A2 c2 A3 c3)=W2 at *;have x0:=zb H5.out;go_upto_region 2 with fail
 clear t0 t1 t2 t3 t4 t5 t6 t7 t8 t9 x0;have HBX:=zh (zD W2 (x.box As cs Am cm));have HT4:Hid (TBox (W2.alloc (x.box As cs Am cm)) W2.heap.size x As cs Am cm):=heap_alloc_new W2 _;have H54:=zh (zE H5.out HBX.out);have H74:=zh (zE H7.out HBX.out);have HB4:=zh (zB HB0.out HBX.out);have HTR4:=zh (HTR.out.below HBX.out);generalize W2.alloc (x.box As cs Am cm)=w4 at *;generalize W2.heap.size=p7 at *
 clear H5 H7 HTR HBX HB0;obtain ⟨q1,q2,q3,q4⟩:=zk4 HK.out;obtain ⟨v0,v1,v2,v3,v4,v5,v6,v7⟩:=zF H74.out;obtain ⟨b0,b1,b2,b3,b4,b5,b6,b7,b8,b9⟩:=zG HT4.out;have x0:=zb H54.out;have HL1:=zh (HL0.out.trans (lit4 HK.out));have HF:=zh (fit4 HK.out HFB.out);obtain ⟨an,han⟩:∃an,(x.syms.any fun y=>decide (y.id=v.id))=an:=⟨_,rfl⟩
 have hcall:=rSym_any v.id x As cs Am cm w4 HTR4.out;rw[han] at hcall;have HCL:=zh hcall;have HAN:=zh han;clear hcall han;go_wp2_with fail;refine HCL.out.mono ?_;rintro e w5 ⟨r,rfl,hr5,hb5⟩;have HR5:=zh hr5;have HB5:=zh (zB HB4.out hb5);have HT5:=zh (HT4.out.below hb5);have H55:=zh (zE H54.out hb5);have H75:=zh (zE H74.out hb5);have HTR5:=zh (HTR4.out.below hb5);clear hb5 hr5 HCL
 clear v0 v1 v2 v3 v4 v5 v6 v7 b0 b1 b2 b3 b4 b5 b6 b7 b8 b9 x0;obtain ⟨v0,v1,v2,v3,v4,v5,v6,v7⟩:=zF H75.out;obtain ⟨b0,b1,b2,b3,b4,b5,b6,b7,b8,b9⟩:=zG HT5.out;have x0:=zb H55.out
 cases an with
 | true =>
  obtain ⟨k,hk,e1,e2⟩:=find_idx x.syms HAN.out;have HL:Hid (L=(x.syms[k]).name):=by show _=_;rw[HL1.out,e2]
  obtain rfl:r=(k:Int):=(HR5.out rfl).trans e1;obtain ⟨sb,so,hAs,_,a0,a1⟩:=HTR5.out.syms.at2 hk;subst hAs;have j1:(0:Int)≤(k:Int):=by omega
  have j2:(k:Int)<(x.syms.length:Int):=by omega
  clear e1 e2 a0;go_wp2;go_ret;exact ⟨by rw[HL.out];rfl,HB5.out⟩
 | false =>
  have HL:Hid (L=⟨#[64]⟩++decB v.id):=by show _=_;rw[HL1.out,find_no x.syms HAN.out]
  have HFR:Hid (freeD v.id=true):=by
   rcases HF.out with h|h
   ·rw[HAN.out] at h;cases h
   ·exact h.2
  have n1:¬ 9223372036854775807<(⟨#[64]⟩:ByteArray).size+(decB v.id).size:=by have:=decB_le (free_in HFR.out);show ¬ _<1+_;omega
  have n2:¬ 9223372036854775807<1+(decB v.id).size:=n1;go_wp2_with fail;refine (itoa_any v.id (free_in HFR.out) _ (HTB.out.below HB5.out)).mono ?_;rintro e w6 ⟨rfl,hb6⟩;have HB6:=zh (zB HB5.out hb6);clear hb6;go_wp2;go_ret;exact ⟨by rw[HL.out];rfl,HB6.out⟩
end Go.Proofs.YthkkllmmbefedaaGreatDoor


