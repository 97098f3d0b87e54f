/-
  Walks: fits, for flat values.
-/
import Derived.Test.YtdfolgmcggdjdaaGreatDoorRGH0
import Derived.Test.YtdfolgmcggdjdaaGreatDoorRGH1
namespace Go.Proofs.YtdfolgmcggdjdaaGreatDoor
open Go.RowKit
set_option maxHeartbeats 16000000
set_option maxRecDepth 100000
theorem fits_flat {s:List TyD} {A:zo} {c:Nat} {plain:Bool} {n:Nat} (hv:zJ s=0) (hn64:Num64 s) (ih:FitAt s A c plain n) (t:Int) (v:Val) (hfl:FlatV v) (A1:zo) (c1:Nat) (A2:zo) (c2:Nat) (A3:zo) (c3:Nat) (w:World) (hs:TysR w A s) (hr:ValR w v A1 A2 A3) :
  Calls Tryz.prog 113 #[.agg #[.slice A s.length c],.int .i64 t,v.v A1 c1 A2 c2 A3 c3,.bool plain] w fun e w'=>e = .returned (.bool (fitF s plain (n+1) t v))∧Below w.heap.size w w':=by
 have hln:=hs.1.lt (by omega)
 have HIH:=zh ih;have HV:=zh hv;have HN:=zh hn64;have HSZ:Hid (∀y,y∈v.keys∨y∈v.items→SizeOf.sizeOf y≤n):=fun y hy=>by rw[hfl.2.1,hfl.2.2.1] at hy;simp at hy
 have HFL:=zh hfl;obtain ⟨HB0,HXS,HXV⟩:=zy w (.cells #[.slice A s.length c] 27) (v.box A1 c1 A2 c2 A3 c3);have HS:=zh hs;have HR:=zh hr;clear ih hv hn64 hs hr hfl
 by_cases hr0:t<0
 ·have HF:Hid (fitF s plain (n+1) t v=false):=by show _=_;unfold fitF;rw[if_pos (.inl hr0)]
  go_enter Tryz.func113,Tryz.ntmps113
  go_wp2
  go_ret
  exact ⟨by rw[HF.out];rfl,HB0.out⟩
 by_cases hr1:(s.length:Int)≤t
 ·have HF:Hid (fitF s plain (n+1) t v=false):=by show _=_;unfold fitF;rw[if_pos (.inr hr1)]
  go_enter Tryz.func113,Tryz.ntmps113
  go_wp2
  go_ret
  exact ⟨by rw[HF.out];rfl,HB0.out⟩
 obtain ⟨tn,rfl⟩:=Int.eq_ofNat_of_zero_le (show 0≤t by omega)
 have htn:tn<s.length:=by omega
 obtain ⟨b,o,As,cs,Am,cm,rfl,htr,t0,t1,t2,t3,t4,t5,t6,t7,t8,t9⟩:=(HS.out.below HB0.out).at10 htn;have HKR:=zh (yT (t:=(tn:Int)) HV.out (by omega))
 have HXM:=zh (List.getElem_mem htn);rw[zP htn] at HKR;have HFT:Hid (fitF s plain (n+1) (tn:Int) v=if v.kind≠(s[tn]).kind∨zK v=false then false else fitB (fitF s plain n) plain s[tn] v):=by
  show _=_
  rw[fitF,if_neg (by omega),zP htn]
 generalize s[tn]=x at *;have h1:(0:Int)≤(tn:Int):=by omega
 have h2:(tn:Int)<(s.length:Int):=by omega
 have HTR:=zh htr;clear htr
 go_enter Tryz.func113,Tryz.ntmps113
 go_upto_region 3 with fail
 have HBW2:Hid (Below w.heap.size w ((w.alloc (.cells #[.slice (some ⟨b,o,none⟩) s.length c] 27)).alloc (v.box A1 c1 A2 c2 A3 c3))):=HB0.out;clear HB0;generalize (w.alloc (.cells #[.slice (some ⟨b,o,none⟩) s.length c] 27)).alloc (v.box A1 c1 A2 c2 A3 c3)=W2 at *;have HB3:=zh (zB HBW2.out (zD W2 (x.box As cs Am cm)))
 have HXT:Hid (TBox (W2.alloc (x.box As cs Am cm)) W2.heap.size x As cs Am cm):=heap_alloc_new W2 _;have HXV3:=zh (zF HXV.out (zD W2 (x.box As cs Am cm)));have HXS3:=zh (zF HXS.out (zD W2 (x.box As cs Am cm)));have HTR3:=zh (HTR.out.below (zD W2 (x.box As cs Am cm)));have x0:=zb HXS.out;have l0:=zN x0;simp only at l0;go_upto_region 4 with fail
 clear t0 t1 t2 t3 t4 t5 t6 t7 t8 t9 x0 l0 HXV HXS HBW2;generalize W2.alloc (x.box As cs Am cm)=W3 at *;generalize W2.heap.size=bt at *;obtain ⟨b0,b1,b2,b3,b4,b5,b6,b7,b8,b9⟩:=zI HXT.out;obtain ⟨v0,v1,v2,v3,v4,v5,v6,v7⟩:=zH HXV3.out
 by_cases hk:v.kind=x.kind
 case neg =>
  have HF:Hid (fitF s plain (n+1) (tn:Int) v=false):=by show _=_;rw[HFT.out,if_pos (.inl hk)]
  have q1:(v.kind != x.kind)=true:=by simp[hk]
  clear hk;go_wp2;go_ret;exact ⟨by rw[HF.out];rfl,HB3.out⟩
 have q1:(v.kind != x.kind)=false:=by simp[hk]
 have HK:=zh hk;clear hk;go_wp2_with fail;refine (proper_any v (by rw[HK.out];exact HKR.out) A1 c1 A2 c2 A3 c3 W3).mono ?_
 rintro e w4 ⟨rfl,hb4⟩;have HB4:=zh (zB HB3.out hb4);have HXT4:=zh (HXT.out.below hb4);have HXV4:=zh (zF HXV3.out hb4);have HXS4:=zh (zF HXS3.out hb4);have HTR4:=zh (HTR3.out.below hb4);clear hb4 b0 b1 b2 b3 b4 b5 b6 b7 b8 b9 v0 v1 v2 v3 v4 v5 v6 v7 HB3 HXT HXV3 HXS3 HTR3 q1;obtain ⟨b0,b1,b2,b3,b4,b5,b6,b7,b8,b9⟩:=zI HXT4.out;obtain ⟨v0,v1,v2,v3,v4,v5,v6,v7⟩:=zH HXV4.out;have x0:=zb HXS4.out
 cases hp:zK v with
 | false =>
  have HF:Hid (fitF s plain (n+1) (tn:Int) v=false):=by show _=_;rw[HFT.out,if_pos (.inr hp)]
  clear hp;go_wp2;go_ret;exact ⟨by rw[HF.out];rfl,HB4.out⟩
 | true =>
  have HFB:Hid (fitF s plain (n+1) (tn:Int) v=fitB (fitF s plain n) plain x v):=by show _=_;rw[HFT.out,if_neg (by rw[hp];simp[HK.out])]
  have hkx:x.kind=1∨x.kind=2∨x.kind=3∨x.kind=4∨x.kind=5∨x.kind=6∨x.kind=7∨x.kind=8∨x.kind=9:=by have:=HKR.out;omega
  clear hp HFT;have HSS:=zh (HS.out.below HB4.out);have HRR:=zh (HR.out.below HB4.out);go_upto_region 7 with fail
  rcases hkx with e|e|e|e|e|e|e|e|e
  ·have HD:Hid (fitB (fitF s plain n) plain x v=true):=by show _=_;unfold fitB;simp[e]
   go_wp2
   go_ret
   exact ⟨by rw[HFB.out,HD.out];rfl,HB4.out⟩
  ·have HD:Hid (fitB (fitF s plain n) plain x v=(decide (x.low≤v.int)&&decide (v.int≤x.high))):=by show _=_;unfold fitB;rw[if_pos e]
   by_cases hl:x.low≤v.int
   ·have HD2:Hid (fitB (fitF s plain n) plain x v=decide (v.int≤x.high)):=by show _=_;rw[HD.out];simp[hl]
    have q1:x.low≤v.int:=hl;clear hl;go_wp2;go_ret;exact ⟨by rw[HFB.out,HD2.out];rfl,HB4.out⟩
   ·have HD2:Hid (fitB (fitF s plain n) plain x v=false):=by show _=_;rw[HD.out];simp[hl]
    have q1:¬ x.low≤v.int:=hl;clear hl;go_wp2;go_ret;exact ⟨by rw[HFB.out,HD2.out];rfl,HB4.out⟩
  ·have HD:Hid (fitB (fitF s plain n) plain x v=decide ((v.str.size:Int)≤x.max)):=by show _=_;unfold fitB;rw[if_neg (by omega),if_pos e]
   go_wp2
   go_ret
   exact ⟨by rw[HFB.out,HD.out];rfl,HB4.out⟩
  ·have HD:Hid (fitB (fitF s plain n) plain x v=((x.syms.any fun y=>decide (y.id=v.id))||(x.open_ && !plain&&freeD v.id))):=by show _=_;unfold fitB;rw[if_neg (by omega),if_neg (by omega),if_pos e]
   obtain ⟨an,han⟩:∃an,(x.syms.any fun y=>decide (y.id=v.id))=an:=⟨_,rfl⟩
   have hcall:=scSymA_any v.id x As cs Am cm w4 HTR4.out;rw[han] at hcall HD;have HCL:=zh hcall;have p2:(x.kind==2)=false:=by simp[e]
   have p3:(x.kind==3)=false:=by simp[e]
   have p4:(x.kind==4)=true:=by simp[e]
   clear hcall han e;go_wp2_with fail;refine HCL.out.mono ?_;rintro e' w5 ⟨r,rfl,hb5⟩;have HB5:=zh (zB HB4.out hb5);have HXT5:=zh (HXT4.out.below hb5);have HXV5:=zh (zF HXV4.out hb5);clear hb5 b0 b1 b2 b3 b4 b5 b6 b7 b8 b9 v0 v1 v2 v3 v4 v5 v6 v7 x0;obtain ⟨b0,b1,b2,b3,b4,b5,b6,b7,b8,b9⟩:=zI HXT5.out;obtain ⟨v0,v1,v2,v3,v4,v5,v6,v7⟩:=zH HXV5.out
   cases an with
   | true =>
    have HD2:Hid (fitB (fitF s plain n) plain x v=true):=by show _=_;rw[HD.out];rfl
    go_wp2
    go_ret
    exact ⟨by rw[HFB.out,HD2.out];rfl,HB5.out⟩
   | false =>
    cases ho:x.open_ with
    | false =>
     have HD2:Hid (fitB (fitF s plain n) plain x v=false):=by show _=_;rw[HD.out,ho];rfl
     go_wp2
     go_ret
     exact ⟨by rw[HFB.out,HD2.out];rfl,HB5.out⟩
    | true =>
     cases hpl:plain with
     | true =>
      have HD2:Hid (fitB (fitF s plain n) plain x v=false):=by show _=_;rw[HD.out,ho,hpl];rfl
      clear HD HIH;go_wp2;go_ret;exact ⟨by rw[HFB.out,HD2.out];rfl,HB5.out⟩
     | false =>
      have HD2:Hid (fitB (fitF s plain n) plain x v=freeD v.id):=by show _=_;rw[HD.out,ho,hpl];rfl
      clear HD HIH;go_wp2_with fail;refine (free_any v.id _).mono ?_;rintro e' w6 ⟨rfl,rfl⟩;go_wp2;go_ret;exact ⟨by rw[HFB.out,HD2.out];rfl,HB5.out⟩
  ·exact absurd (HK.out.trans e) HFL.out.1.2.1
  ·exact absurd (HK.out.trans e) HFL.out.1.2.2
  ·have HD:Hid (fitB (fitF s plain n) plain x v=(decide ((v.items.length:Int)≤x.max)&&(v.items.all fun y=>fitF s plain n x.elem y))):=by show _=_;unfold fitB;rw[if_neg (by omega),if_neg (by omega),if_neg (by omega),if_neg (by omega),if_neg (by omega),if_pos e]
   by_cases hl:(v.items.length:Int)≤x.max
   ·have HD2:Hid (fitB (fitF s plain n) plain x v=v.items.all fun y=>fitF s plain n x.elem y):=by show _=_;rw[HD.out];simp[hl]
    have q1:(v.items.length:Int)≤x.max:=by omega
    clear hl HD;go_wp2_with fail;refine (eachV_any HIH.out x.elem v.items A2 c2 w4 (fun y hy=>HSZ.out y (.inr hy)) HSS.out HRR.out.items).mono ?_
    rintro e' w5 ⟨rfl,hb5⟩;have HB5:=zh (zB HB4.out hb5);clear hb5;go_wp2;go_ret;exact ⟨by rw[HFB.out,HD2.out];rfl,HB5.out⟩
   ·have HD2:Hid (fitB (fitF s plain n) plain x v=false):=by show _=_;rw[HD.out];simp[hl]
    have q1:¬ (v.items.length:Int)≤x.max:=by omega
    clear hl HD;go_wp2;go_ret;exact ⟨by rw[HFB.out,HD2.out];rfl,HB4.out⟩
  ·have HD:Hid (fitB (fitF s plain n) plain x v=(decide ((v.keys.length:Int)≤x.max)&&decide (v.items.length=v.keys.length)&&(v.keys.all fun y=>fitF s plain n x.key y)&&ascV v.keys&&(v.items.all fun y=>fitF s plain n x.elem y))):=by show _=_;unfold fitB;rw[if_neg (by omega),if_neg (by omega),if_neg (by omega),if_neg (by omega),if_neg (by omega),if_neg (by omega),if_pos e]
   by_cases hl1:(v.keys.length:Int)≤x.max
   case neg =>
    have HD2:Hid (fitB (fitF s plain n) plain x v=false):=by show _=_;rw[HD.out];simp[hl1]
    have p1:x.max<(v.keys.length:Int):=by omega
    clear hl1 HD;go_wp2;go_ret;exact ⟨by rw[HFB.out,HD2.out];rfl,HB4.out⟩
   have p1:¬ x.max<(v.keys.length:Int):=by omega
   by_cases hl2:v.items.length=v.keys.length
   case neg =>
    have HD2:Hid (fitB (fitF s plain n) plain x v=false):=by show _=_;rw[HD.out];simp[hl2]
    have p2:((v.items.length:Int) != (v.keys.length:Int))=true:=bne_iff_ne.2 (by omega)
    clear hl1 hl2 HD;go_wp2;go_ret;exact ⟨by rw[HFB.out,HD2.out];rfl,HB4.out⟩
   have p2:((v.items.length:Int) != (v.keys.length:Int))=false:=by simp[hl2]
   have HL2:=zh hl2;have HD1:Hid (fitB (fitF s plain n) plain x v=((v.keys.all fun y=>fitF s plain n x.key y)&&ascV v.keys&&(v.items.all fun y=>fitF s plain n x.elem y))):=by show _=_;rw[HD.out];simp[hl1,hl2]
   have HCL:=zh (eachV_any HIH.out x.key v.keys A1 c1 w4 (fun y hy=>HSZ.out y (.inl hy)) HSS.out HRR.out.keys)
   clear hl1 hl2 HD;go_wp2_with fail;refine HCL.out.mono ?_;rintro e' w5 ⟨rfl,hb5⟩;have HB5:=zh (zB HB4.out hb5);have HXT5:=zh (HXT4.out.below hb5);have HXV5:=zh (zF HXV4.out hb5);have HXS5:=zh (zF HXS4.out hb5);clear hb5 b0 b1 b2 b3 b4 b5 b6 b7 b8 b9 v0 v1 v2 v3 v4 v5 v6 v7 x0 HCL;obtain ⟨b0,b1,b2,b3,b4,b5,b6,b7,b8,b9⟩:=zI HXT5.out;obtain ⟨v0,v1,v2,v3,v4,v5,v6,v7⟩:=zH HXV5.out
   cases hall:(v.keys.all fun y=>fitF s plain n x.key y) with
   | false =>
    have HD2:Hid (fitB (fitF s plain n) plain x v=false):=by show _=_;rw[HD1.out,hall];rfl
    clear hall HD1;go_wp2;go_ret;exact ⟨by rw[HFB.out,HD2.out];rfl,HB5.out⟩
   | true =>
    have HD2:Hid (fitB (fitF s plain n) plain x v=(ascV v.keys&&(v.items.all fun y=>fitF s plain n x.elem y))):=by show _=_;rw[HD1.out,hall];rfl
    have HKV:=zh (HR.out.below HB5.out).keys;have HSS5:=zh (HS.out.below HB5.out);have HRI:=zh (HR.out.below HB5.out).items;have hkl:=HR.out.keys.1.lt (by omega)
    clear hall HD1 b0 b1 b2 b3 b4 b5 b6 b7 b8 b9 v0 v1 v2 v3 v4 v6 v7;go_wp2_with fail
    go_loopw [20] (fun i wr=>∃m:Nat,i = .int .i64 ((m:Int)+1)∧Hid ((m+1≤v.keys.length∨m=0)∧(∀j (h:j+1<v.keys.length),j<m→cmpV v.keys[j] v.keys[j+1]<0)∧Below w5.heap.size w5 wr)) (fun i _=>v.keys.length+1 - (intOf i).toNat)
    case atStart=>exact ⟨0,by rfl,.inr rfl,(fun j _ h=>absurd h (by omega)),Below.refl _ _⟩
    case round =>
     obtain ⟨m,rfl,hh⟩:=hrel;have HM:=zh hh.out.1;have HAS:=zh hh.out.2.1;have HBR:=zh hh.out.2.2;replace v5:=zA HBR.out v5;clear hh;have hk0:v.keys.length=0:=by rw[HFL.out.2.1];rfl
     have HD3:Hid (fitB (fitF s plain n) plain x v=v.items.all fun y=>fitF s plain n x.elem y):=by show _=_;rw[HD2.out,HFL.out.2.1];rfl
     have HBW:=zh (zB HB5.out HBR.out);have HXT6:=zh (HXT5.out.below HBR.out);have HXV6:=zh (zF HXV5.out HBR.out);have HXS6:=zh (zF HXS5.out HBR.out);have HCL:=zh (eachV_any HIH.out x.elem v.items A2 c2 wr (fun y hy=>HSZ.out y (.inr hy)) (HSS5.out.below HBR.out) (HRI.out.below HBR.out))
     obtain ⟨b0,b1,b2,b3,b4,b5,b6,b7,b8,b9⟩:=zI HXT6.out;obtain ⟨u0,u1,u2,u3,u4,u5,u6,u7⟩:=zH HXV6.out;have x0:=zb HXS6.out;have q1:¬ (m:Int)+1<(v.keys.length:Int):=by omega
     clear v5;go_wp2_with fail;refine HCL.out.mono ?_;rintro e' w6 ⟨rfl,hb6⟩;have HB6:=zh (zB HBW.out hb6);clear hb6;go_wp2;go_ret;exact ⟨by rw[HFB.out,HD3.out];rfl,HB6.out⟩
  ·have HD:Hid (fitB (fitF s plain n) plain x v=(decide (v.items.length≤1)&&(v.items.all fun y=>fitF s plain n x.elem y))):=by show _=_;unfold fitB;rw[if_neg (by omega),if_neg (by omega),if_neg (by omega),if_neg (by omega),if_neg (by omega),if_neg (by omega),if_neg (by omega),if_pos e]
   by_cases hl:v.items.length≤1
   ·have HD2:Hid (fitB (fitF s plain n) plain x v=v.items.all fun y=>fitF s plain n x.elem y):=by show _=_;rw[HD.out];simp[hl]
    have q1:(v.items.length:Int)≤1:=by omega
    clear hl HD;go_wp2_with fail;refine (eachV_any HIH.out x.elem v.items A2 c2 w4 (fun y hy=>HSZ.out y (.inr hy)) HSS.out HRR.out.items).mono ?_
    rintro e' w5 ⟨rfl,hb5⟩;have HB5:=zh (zB HB4.out hb5);clear hb5;go_wp2;go_ret;exact ⟨by rw[HFB.out,HD2.out];rfl,HB5.out⟩
   ·have HD2:Hid (fitB (fitF s plain n) plain x v=false):=by show _=_;rw[HD.out];simp[hl]
    have q1:¬ (v.items.length:Int)≤1:=by omega
    clear hl HD;go_wp2;go_ret;exact ⟨by rw[HFB.out,HD2.out];rfl,HB4.out⟩
end Go.Proofs.YtdfolgmcggdjdaaGreatDoor


