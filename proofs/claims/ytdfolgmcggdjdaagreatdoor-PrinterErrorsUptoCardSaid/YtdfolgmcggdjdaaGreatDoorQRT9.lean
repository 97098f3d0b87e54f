/-
  The reference's text of all values; its Format.
-/
import Derived.Test.YtdfolgmcggdjdaaGreatDoorQRT5
import Derived.Test.YtdfolgmcggdjdaaGreatDoorQRT6
import Derived.Test.YtdfolgmcggdjdaaGreatDoorQRT7
import Derived.Test.YtdfolgmcggdjdaaGreatDoorQRT8
import Derived.Test.YtdfolgmcggdjdaaGreatDoorQGI2
namespace Go.Proofs.YtdfolgmcggdjdaaGreatDoor
open Go.RowKit
set_option maxHeartbeats 16000000
set_option maxRecDepth 100000
theorem text_step {s:List TyD} {A:zo} {c n:Nat} (hv:zJ s=0) (hn:Num64 s) (ih:TextAt s A c n):TextAt s A c (n+1):=by
 intro t v A1 c1 A2 c2 A3 c3 w hf hs hr htb hz
 obtain ⟨i0,i1,_,hfb⟩:=fitF_out hf;obtain ⟨tn,rfl⟩:=Int.eq_ofNat_of_zero_le i0;have htn:tn<s.length:=by omega
 have hk:=yT hv ⟨i0,i1⟩;rw[zP htn] at hfb hk;have hl:litF s (n+1) (tn:Int) v=litB (litF s n) s[tn] v:=by rw[litF,zP htn]
 rw[hl] at hz ⊢;have hkx:(s[tn]).kind=1∨(s[tn]).kind=2∨(s[tn]).kind=3∨(s[tn]).kind=4∨(s[tn]).kind=5∨(s[tn]).kind=6∨(s[tn]).kind=7∨(s[tn]).kind=8∨(s[tn]).kind=9:=by omega
 rcases hkx with e|e|e|e|e|e|e|e|e
 ·exact rtext_1 hn ih tn htn v A1 c1 A2 c2 A3 c3 w e hfb hs hr htb hz
 ·exact rtext_2 hn ih tn htn v A1 c1 A2 c2 A3 c3 w e hfb hs hr htb hz
 ·exact rtext_3 hn ih tn htn v A1 c1 A2 c2 A3 c3 w e hfb hs hr htb hz
 ·exact rtext_4 hn ih tn htn v A1 c1 A2 c2 A3 c3 w e hfb hs hr htb hz
 ·exact rtext_5 hn ih tn htn v A1 c1 A2 c2 A3 c3 w e hfb hs hr htb hz
 ·exact rtext_6 hn ih tn htn v A1 c1 A2 c2 A3 c3 w e hfb hs hr htb hz
 ·exact rtext_7 hn ih tn htn v A1 c1 A2 c2 A3 c3 w e hfb hs hr htb hz
 ·exact rtext_8 hn ih tn htn v A1 c1 A2 c2 A3 c3 w e hfb hs hr htb hz
 ·exact rtext_9 hn ih tn htn v A1 c1 A2 c2 A3 c3 w e hfb hs hr htb hz
theorem text_all {s:List TyD} {A:zo} {c:Nat} (hv:zJ s=0) (hn:Num64 s):∀n,TextAt s A c n
 | 0=>fun _ _ _ _ _ _ _ _ _ hf=>by cases hf
 | n+1=>text_step hv hn (text_all hv hn n)
theorem rFormat_any {s:List TyD} (A:zo) (c:Nat) (hv:zJ s=0) (hn:Num64 s) (t:Int) (v:Val) (hz:(fmtT s t v).size≤1073741824) (A1:zo) (c1:Nat) (A2:zo) (c2:Nat) (A3:zo) (c3:Nat) (w:World) (hs:TysR w A s) (hr:ValR w v A1 A2 A3) (htb:Tab w) :
  Calls Tryz.prog 116 #[.agg #[.slice A s.length c],.int .i64 t,v.v A1 c1 A2 c2 A3 c3] w fun e w'=>e = .returned (.tuple #[.string (fmtT s t v),.int .i64 (if fitV s false t v then 0 else 1)])∧Below w.heap.size w w':=by
 have HS:=zh hs;have HR:=zh hr;have HTB:=zh htb;have HF:=zh (r08_Fits_any (s:=s) A c hv hn t v A1 c1 A2 c2 A3 c3);have HW:=zh (text_all (A:=A) (c:=c) hv hn (SizeOf.sizeOf v));have HZ:Hid (fmtT s t v=if fitV s false t v then litV s t v else ⟨#[]⟩):=rfl
 have HLV:Hid (litV s t v=litF s (SizeOf.sizeOf v) t v):=rfl;have HFV:Hid (fitV s false t v=fitF s false (SizeOf.sizeOf v) t v):=rfl;have HZ2:=zh hz;have HB0:=zh (zE w (.cells #[.slice A s.length c] 27) (v.box A1 c1 A2 c2 A3 c3));have HX0:=zh (tmp_al (heap_alloc_new w (.cells #[.slice A s.length c] 27)) (v.box A1 c1 A2 c2 A3 c3))
 have HY0:Hid (((w.alloc (.cells #[.slice A s.length c] 27)).alloc (v.box A1 c1 A2 c2 A3 c3)).heap[w.heap.size+1]? = some (v.box A1 c1 A2 c2 A3 c3)):=by
  have:=heap_alloc_new (w.alloc (.cells #[.slice A s.length c] 27)) (v.box A1 c1 A2 c2 A3 c3);rw[show (w.alloc (.cells #[.slice A s.length c] 27)).heap.size=w.heap.size+1 by simp] at this
  exact this
 generalize fmtT s t v=FT at *;generalize hER:(if fitV s false t v then (0:Int) else 1)=ER
 replace hER:=zh hER;clear hs hr hv hn htb hz
 go_enter Tryz.func116,Tryz.ntmps116
 go_upto_region 1 with fail
 generalize (w.alloc (.cells #[.slice A s.length c] 27)).alloc (v.box A1 c1 A2 c2 A3 c3)=W1 at *;obtain ⟨v0,v1,v2,v3,v4,v5,v6,v7⟩:=zH HY0.out;have x0:=zb HX0.out;go_wp2_with fail;refine (HF.out _ (HS.out.below HB0.out) (HR.out.below HB0.out)).mono ?_;rintro e w1 ⟨rfl,hb1⟩;have HB1:=zh (zB HB0.out hb1);have HX1:=zh (zF HX0.out hb1);have HY1:=zh (zF HY0.out hb1);clear hb1 v0 v1 v2 v3 v4 v5 v6 v7 x0
 cases hf:fitV s false t v with
 | false =>
  have HE:Hid (FT=⟨#[]⟩):=by show _=_;rw[HZ.out,hf];rfl
  have HR0:Hid (ER=1):=by show _=_;rw[←hER.out,hf];rfl
  clear hf;go_wp2;go_ret2;exact ⟨by rw[HE.out,HR0.out];rfl,HB1.out⟩
 | true =>
  have HE:Hid (FT=litF s (SizeOf.sizeOf v) t v):=by show _=_;rw[HZ.out,hf,←HLV.out];rfl
  have HR0:Hid (ER=0):=by show _=_;rw[←hER.out,hf];rfl
  have HFT:Hid (fitF s false (SizeOf.sizeOf v) t v=true):=HFV.out.symm.trans hf;clear hf;obtain ⟨v0,v1,v2,v3,v4,v5,v6,v7⟩:=zH HY1.out;have x0:=zb HX1.out;go_wp2_with fail;refine (HW.out t v A1 c1 A2 c2 A3 c3 _ HFT.out (HS.out.below HB1.out) (HR.out.below HB1.out) (HTB.out.below HB1.out) (by rw[←HE.out];exact HZ2.out)).mono ?_
  rintro e w2 ⟨rfl,hb2⟩;rw[←HE.out];have HB2:=zh (zB HB1.out hb2);clear hb2 v0 v1 v2 v3 v4 v5 v6 v7 x0;go_wp2;go_ret2;exact ⟨by rw[HR0.out];rfl,HB2.out⟩
theorem rFmtSaid {s:List TyD} (A:zo) (c:Nat) (hv:zJ s=0) (hn:Num64 s) (m:MemD) (hz:(dfT s m).size≤1073741824):RFmtSaid s A c m (dfT s m):=fun w A1 c1 A2 c2 A3 c3 hs hm htb =>
 (rFormat_any A c hv hn m.type m.dflt hz A1 c1 A2 c2 A3 c3 w hs hm.dflt htb).mono fun _ _ ⟨h1,h2⟩=>⟨_,h1,h2⟩
theorem rDfOk {s:List TyD} (A:zo) (c:Nat) (hv:zJ s=0) (hn:Num64 s) (m:MemD) (hz:(dfT s m).size≤1073741824):RDfOk s A c (dfT s) m :=
 ⟨hz,fun _=>rFmtSaid A c hv hn m hz⟩
end Go.Proofs.YtdfolgmcggdjdaaGreatDoor


