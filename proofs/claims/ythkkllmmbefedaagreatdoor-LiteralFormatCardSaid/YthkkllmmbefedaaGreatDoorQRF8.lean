/-
  Walks: the reference's fit, kinds 4.
-/
import Derived.Test.YthkkllmmbefedaaGreatDoorQGC0
namespace Go.Proofs.YthkkllmmbefedaaGreatDoor
open Go.RowKit
set_option maxHeartbeats 16000000
set_option maxRecDepth 100000
theorem rfit_4_false {s:List TyD} {A:zo} {c n:Nat} (_hv:zQ s=0) (_hn:Num64 s) (_ih:RFitAt s A c false n):RFitK s A c false n 4:=by
 intro tn htn v A1 c1 A2 c2 A3 c3 w hsz hs hr hkx hvk hp hrest
 have hln:=hs.1.lt (by omega)
 obtain ⟨HB0,H5,H7⟩:=zy w (.cells #[.slice A s.length c] 31) (v.box A1 c1 A2 c2 A3 c3);have HIH:=zh _ih;have HV:=zh _hv;have HN:=zh _hn;have HS:=zh hs;have HR:=zh hr;have HSZ:Hid (∀y,y∈v.keys∨y∈v.items→SizeOf.sizeOf y≤n):=hsz;have HP:=zh hp;have HXM:=zh (List.getElem_mem htn);obtain ⟨b,o,As,cs,Am,cm,hA,htr,t0,t1,t2,t3,t4,t5,t6,t7,t8,t9⟩:=(hs.below HB0.out).at10 htn;clear hs hr hp _ih _hv _hn
 subst hA;generalize s[tn]=x at *;have HTR:=zh htr;have HK:=zh hkx;have HVK:=zh (hvk.trans hkx);have q0:(v.kind != x.kind)=false:=by simp[hvk]
 have HRE:=zh hrest;clear htr hkx hvk hrest;have r1:¬ ((tn:Int)<0):=by omega
 have r2:¬ ((s.length:Int)≤(tn:Int)):=by omega
 have h1:(0:Int)≤(tn:Int):=by omega
 have h2:(tn:Int)<(s.length:Int):=by omega
 go_enter Tryz.func71,Tryz.ntmps71
 go_upto_region 1 with fail
 generalize (w.alloc (.cells #[.slice (some ⟨b,o,none⟩) s.length c] 31)).alloc (v.box A1 c1 A2 c2 A3 c3)=W2 at *;have x0:=zb H5.out;go_upto_region 4 with fail
 clear t0 t1 t2 t3 t4 t5 t6 t7 t8 t9 x0 r1 r2;have HBX:=zh (zD W2 (x.box As cs Am cm));have HXT:Hid (TBox (W2.alloc (x.box As cs Am cm)) W2.heap.size x As cs Am cm):=heap_alloc_new W2 _;have HX5:=zh (zE H5.out HBX.out);have HX7:=zh (zE H7.out HBX.out);have HB3:=zh (zB HB0.out HBX.out);have HTR3:=zh (HTR.out.below HBX.out);generalize W2.alloc (x.box As cs Am cm)=W3 at *
 generalize W2.heap.size=p9 at *;clear H5 H7 HTR HBX HB0;obtain ⟨v0,v1,v2,v3,v4,v5,v6,v7⟩:=zF HX7.out;obtain ⟨b0,b1,b2,b3,b4,b5,b6,b7,b8,b9⟩:=zG HXT.out;go_wp2_with fail;refine (yJ v (by rw[HVK.out];omega) A1 c1 A2 c2 A3 c3 W3).mono ?_
 rintro e w4 ⟨rfl,hb4⟩;rw[HP.out];have HB4:=zh (zB HB3.out hb4);have HXT4:=zh (HXT.out.below hb4);have HX5a:=zh (zE HX5.out hb4);have HX7a:=zh (zE HX7.out hb4);have HSS:=zh (HS.out.below HB4.out);have HRR:=zh (HR.out.below HB4.out);have HTR4:=zh (HTR3.out.below hb4);clear hb4 v0 v1 v2 v3 v4 v5 v6 v7 b0 b1 b2 b3 b4 b5 b6 b7 b8 b9 HB3 HXT HX5 HX7 q0 HTR3;obtain ⟨v0,v1,v2,v3,v4,v5,v6,v7⟩:=zF HX7a.out
 obtain ⟨b0,b1,b2,b3,b4,b5,b6,b7,b8,b9⟩:=zG HXT4.out;have x0:=zb HX5a.out;go_upto_region 6 with fail
 obtain ⟨q1,q2,q3,q4⟩:=zk4 HK.out;have HD0:=zh (fb4 (f:=fitF s false n) (plain:=false) (v:=v) HK.out);obtain ⟨an,han⟩:∃an,(x.syms.any fun y=>decide (y.id=v.id))=an:=⟨_,rfl⟩
 have hcall:=rSym_any v.id x As cs Am cm w4 HTR4.out;rw[han] at hcall HD0;have HCL:=zh hcall;clear hcall han;go_wp2_with fail;refine HCL.out.mono ?_;rintro e w5 ⟨r,rfl,_,hb5⟩;have HB5:=zh (zB HB4.out hb5);have HT5:=zh (HXT4.out.below hb5);have H55:=zh (zE HX5a.out hb5);have H75:=zh (zE HX7a.out hb5);clear hb5 HCL;clear v0 v1 v2 v3 v4 v5 v6 v7 b0 b1 b2 b3 b4 b5 b6 b7 b8 b9 x0
 obtain ⟨v0,v1,v2,v3,v4,v5,v6,v7⟩:=zF H75.out;obtain ⟨b0,b1,b2,b3,b4,b5,b6,b7,b8,b9⟩:=zG HT5.out;have x0:=zb H55.out
 cases an with
 | true =>
  have HD:Hid (fitB (fitF s false n) false x v=true):=by show _=_;rw[HD0.out];rfl
  go_wp2
  go_ret
  exact ⟨by rw[HD.out];rfl,HB5.out⟩
 | false =>
  cases ho:x.open_ with
  | false =>
   have HD:Hid (fitB (fitF s false n) false x v=false):=by show _=_;rw[HD0.out,ho];rfl
   go_wp2
   go_ret
   exact ⟨by rw[HD.out];rfl,HB5.out⟩
  | true =>
   have HD:Hid (fitB (fitF s false n) false x v=freeD v.id):=by show _=_;rw[HD0.out,ho];rfl
   go_wp2_with fail
   refine (rIdF_any v.id false _).mono ?_;rintro e w6 ⟨rfl,rfl⟩;obtain ⟨X,hX⟩:∃X,freeD v.id=X:=⟨_,rfl⟩;rw[hX];have HD2:Hid (fitB (fitF s false n) false x v=X):=HD.out.trans hX;clear hX;go_wp2;go_ret;exact ⟨by rw[HD2.out];rfl,HB5.out⟩
end Go.Proofs.YthkkllmmbefedaaGreatDoor


