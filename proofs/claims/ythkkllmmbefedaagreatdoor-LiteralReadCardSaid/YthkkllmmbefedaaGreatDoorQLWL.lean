/-
  literal.write of all values; literal.Format.
-/
import Derived.Test.YthkkllmmbefedaaGreatDoorQGW0
import Derived.Test.YthkkllmmbefedaaGreatDoorQLW8
import Derived.Test.YthkkllmmbefedaaGreatDoorQGB0
namespace Go.Proofs.YthkkllmmbefedaaGreatDoor
open Go.RowKit
set_option maxHeartbeats 16000000
set_option maxRecDepth 100000
theorem Vf {s:List AZ} {A:zo} {c n:Nat} (hl:∀t,(AR s t).kind=2\/(AR s t).kind=5\/(AR s t).kind=9\/(AR s t).kind=0) (hv:zQ s=0) (hn:Ca s) (ih:WriteAt s A c n):WriteAt s A c (n+1):=by
 intro t v A1 c1 A2 c2 A3 c3 w0 w B b T hf hs hr htb hg hb0 hB hbl hsz
 obtain ⟨i0,i1,_,_⟩:=D5 hf;have hk:=IC hv ⟨i0,i1⟩
 rcases hl t with e|e|e|e
 ·exact aU hv hn ih t v A1 c1 A2 c2 A3 c3 w0 w B b T e hf hs hr htb hg hb0 hB hbl hsz
 ·exact aT hv hn ih t v A1 c1 A2 c2 A3 c3 w0 w B b T e hf hs hr htb hg hb0 hB hbl hsz
 ·exact aS hv hn ih t v A1 c1 A2 c2 A3 c3 w0 w B b T e hf hs hr htb hg hb0 hB hbl hsz
 ·omega
theorem QD {s:List AZ} {A:zo} {c:Nat} (hl:∀t,(AR s t).kind=2\/(AR s t).kind=5\/(AR s t).kind=9\/(AR s t).kind=0) (hv:zQ s=0) (hn:Ca s):∀n,WriteAt s A c n
 | 0=>fun _ _ _ _ _ _ _ _ _ _ _ _ _ hf=>by cases hf
 | n+1=>Vf hl hv hn (QD hl hv hn n)
noncomputable def Zo (s:List AZ) (t:Int) (v:Val):ByteArray:=if CQ s false t v then WR s t v else ⟨#[]⟩
theorem Wm {s:List AZ} (hl:∀t,(AR s t).kind=2\/(AR s t).kind=5\/(AR s t).kind=9\/(AR s t).kind=0) (A:zo) (c:Nat) (hv:zQ s=0) (hn:Ca s) (t:Int) (v:Val) (hz:(Zo s t v).size<=140737488355328) (A1:zo) (c1:Nat) (A2:zo) (c2:Nat) (A3:zo) (c3:Nat) (w:World) (hs:DV w A s) (hr:BO w v A1 A2 A3) (htb:iK w) :
  Calls Tryz.prog 14 #[.agg #[.slice A s.length c],.int .i64 t,v.v A1 c1 A2 c2 A3 c3] w fun e w'=>e = .returned (.tuple #[.string (Zo s t v),.int .i64 (if CQ s false t v then 0 else 1)])/\Below w.heap.size w w':=by
 have HS:=zh hs;have HR:=zh hr;have P7:=zh htb;have HF:=zh (JX A c hv hn t v A1 c1 A2 c2 A3 c3);have HW:=zh (QD (A:=A) (c:=c) hl hv hn (SizeOf.sizeOf v));have HZ:Hid (Zo s t v=if CQ s false t v then WR s t v else ⟨#[]⟩):=rfl
 have HZ2:=zh hz;have HB0:=zh (zI w (.cells #[.slice A s.length c] 31) (v.box A1 c1 A2 c2 A3 c3));have HX0:=zh (EP (AAA w (.cells #[.slice A s.length c] 31)) (v.box A1 c1 A2 c2 A3 c3));have sS:Hid (((w.alloc (.cells #[.slice A s.length c] 31)).alloc (v.box A1 c1 A2 c2 A3 c3)).heap[w.heap.size+1]? = some (v.box A1 c1 A2 c2 A3 c3)):=by
  have:=AAA (w.alloc (.cells #[.slice A s.length c] 31)) (v.box A1 c1 A2 c2 A3 c3);rw[show (w.alloc (.cells #[.slice A s.length c] 31)).heap.size=w.heap.size+1 by simp] at this
  exact this
 generalize Zo s t v=FT at *;generalize wT:(if CQ s false t v then (0:Int) else 1)=ER
 replace wT:=zh wT;clear hs hr hv hn htb hz hl
 go_enter Tryz.func14,Tryz.ntmps14
 go_upto_region 1 with fail
 generalize (w.alloc (.cells #[.slice A s.length c] 31)).alloc (v.box A1 c1 A2 c2 A3 c3)=W1 at *;obtain ⟨v0,v1,v2,v3,v4,v5,v6,v7⟩:=zF sS;have x0:=zb HX0;go_wp2_with fail;refine (HF.out _ (HS.out.below HB0) (HR.out.below HB0)).mono ?_;rintro e w1 ⟨rfl,hb1⟩;have HB1:=zh (zB HB0 hb1);have EM:=zh (zE HX0 hb1);have HY1:=zh (zE sS hb1);clear hb1 v0 v1 v2 v3 v4 v5 v6 v7 x0
 cases hf:CQ s false t v with
 | false =>
  have HE:Hid (FT=⟨#[]⟩):=by show _=_;rw[HZ.out,hf];rfl
  have Nk:Hid (ER=1):=by show _=_;rw[<-wT.out,hf];rfl
  clear hf;go_wp2;go_ret2;exact ⟨by rw[HE.out,Nk.out];rfl,HB1.out⟩
 | true =>
  have HE:Hid (FT=WR s t v):=by show _=_;rw[HZ.out,hf];rfl
  have Nk:Hid (ER=0):=by show _=_;rw[<-wT.out,hf];rfl
  have XT:=zh hf;clear hf;have HN:=zh (Ci.new w1 HB1.out.size);have RH:=zh (zD w1 (.cells #[.pointer none,.slice none 0 0] 57));have HB2:=zh (HB1.out.trans (RH.out.mono HB1.out.size));have F6:=zh (zE EM RH);have HY2:=zh (zE HY1 RH);go_upto_region 4 with fail
  generalize w1.alloc (.cells #[.pointer none,.slice none 0 0] 57)=W2 at *;generalize w1.heap.size=p8 at *;obtain ⟨v0,v1,v2,v3,v4,v5,v6,v7⟩:=zF HY2;have x0:=zb F6;go_wp2_with fail;refine (HW.out t v A1 c1 A2 c2 A3 c3 w _ w.heap.size p8 ⟨#[]⟩ XT HS HR P7 (AAQ _) HB2 HB2.out.size HN ?_).mono ?_
  ·have:=HZ2.out
   rw[HE.out] at this
   show 0+_<=_
   rw[Nat.zero_add];exact this
  rintro e w3 ⟨rfl,h1,h2,_⟩;have HN3:Hid (Ci w3 w.heap.size p8 FT):=by
   rw[show (⟨#[]⟩:ByteArray)++Ct s (SizeOf.sizeOf v) t v=WR s t v from ByteArray.empty_append,<-HE.out] at h1;exact h1
  have HB3:=zh (HB2.out.trans h2);clear h1 h2 v0 v1 v2 v3 v4 v5 v6 v7 x0;go_wp2_with fail;refine (HN3.out.str HB3.out.size).mono ?_;rintro e w4 ⟨rfl,h4⟩;have BD:=zh (HB3.out.trans h4);clear h4;go_wp2;go_ret2;exact ⟨by rw[Nk.out];rfl,BD.out⟩
end Go.Proofs.YthkkllmmbefedaaGreatDoor



