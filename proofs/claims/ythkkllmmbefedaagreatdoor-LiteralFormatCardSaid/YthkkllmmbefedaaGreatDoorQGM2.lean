/-
  Walks: the reference's fit, kinds 1, 2, 3, 7, 9.
-/
import Derived.Test.YthkkllmmbefedaaGreatDoorQGM1
namespace Go.Proofs.YthkkllmmbefedaaGreatDoor
open Go.RowKit
set_option maxHeartbeats 16000000
set_option maxRecDepth 100000
def RFitAt (s:List TyD) (A:zo) (c:Nat) (plain:Bool) (n:Nat):Prop:=∀ (t:Int) (v:Val) (A1:zo) (c1:Nat) (A2:zo) (c2:Nat) (A3:zo) (c3:Nat) (w:World),SizeOf.sizeOf v≤n→TysR w A s→ValR w v A1 A2 A3 →
 Calls Tryz.prog 71 #[.agg #[.slice A s.length c],.int .i64 t,v.v A1 c1 A2 c2 A3 c3,.bool plain] w fun e w'=>e = .returned (.bool (fitF s plain n t v))∧Below w.heap.size w w'
theorem all_no {α:Type} {l:List α} {p:α→Bool} {j:Nat} (hj:j<l.length) (h:p l[j]=false):l.all p=false:=by
 rw[List.all_eq_false];exact ⟨_,List.getElem_mem hj,by simp[h]⟩
theorem all_yes {α:Type} {l:List α} {p:α→Bool} (h:∀j (h:j<l.length),p l[j]=true):l.all p=true:=by
 rw[List.all_eq_true]
 intro x hx
 obtain ⟨j,hj,rfl⟩:=List.getElem_of_mem hx;exact h j hj
theorem rAll_any {s:List TyD} {A:zo} {c:Nat} {plain:Bool} {n:Nat} (hf:RFitAt s A c plain n) (t:Int) (l:List Val) (B:zo) (d:Nat) (w:World) (hv:∀y∈l,SizeOf.sizeOf y≤n) (hs:TysR w A s) (hl:ValsR w B l) :
  Calls Tryz.prog 106 #[.agg #[.slice A s.length c],.int .i64 t,.slice B l.length d,.bool plain] w fun e w'=>e = .returned (.bool (l.all fun y=>fitF s plain n t y))∧Below w.heap.size w w':=by
 have hln:=hl.1.lt (by omega)
 have HF:=zh hf;have HV:=zh hv;have HB:=zh (zD w (.cells #[.slice A s.length c] 31));have HX:=zh (heap_alloc_new w (.cells #[.slice A s.length c] 31));have HS:=zh (hs.below HB.out);have HL:=zh (hl.below HB.out);obtain ⟨X,hX⟩:∃X,(l.all fun y=>fitF s plain n t y)=X:=⟨_,rfl⟩
 rw[hX];have HE:=zh hX;clear hf hv hs hl hX
 go_enter Tryz.func106,Tryz.ntmps106
 go_upto_region 1 with fail
 generalize w.alloc (.cells #[.slice A s.length c] 31)=W1 at *;go_wp2_with fail
 go_loopw [9] (fun i wr=>∃k:Nat,k≤l.length∧i = .int .i64 (k:Int)∧Hid ((∀j (h:j<l.length),j<k→fitF s plain n t l[j]=true)∧Below W1.heap.size W1 wr)) (fun i _=>l.length - (intOf i).toNat)
 case atStart=>exact ⟨0,by omega,rfl,(fun j _ h=>absurd h (by omega)),Below.refl _ _⟩
 case round =>
  obtain ⟨k,hk,rfl,hh⟩:=hrel;have HOK:=zh hh.out.1;have HBR:=zh hh.out.2;have HBW:=zh (zB HB.out HBR.out);clear hh;obtain ⟨wk,rfl⟩:∃wk:World,wk=wr:=⟨_,rfl⟩
  by_cases hlt:k<l.length
  ·obtain ⟨ib,io,E1,e1,E2,e2,E3,e3,hI,hir,a0,a1,a2,a3,a4,a5,a6,a7⟩:=(HL.out.below HBR.out).at8 hlt
   subst hI;have HIR:=zh hir;have HXk:=zh (zE HX.out HBR.out);have h1:(0:Int)≤(k:Int):=by omega
   have h2:(k:Int)<(l.length:Int):=by omega
   have hz:=HV.out _ (List.getElem_mem hlt);have HNO:Hid (fitF s plain n t l[k]=false→X=false):=fun h=>by rw[←HE.out];exact all_no hlt h
   have HST:Hid (fitF s plain n t l[k]=true→∀j (h:j<l.length),j<k+1→fitF s plain n t l[j]=true):=fun hx j h hj=>by
    by_cases ej:j=k
    ·subst ej;exact hx
    ·exact HOK.out j h (by omega)
   generalize l[k]=y at *;have HZ:=zh hz
   have HCC:Hid (∀w',Below wk.heap.size wk w'→(w'.cell? ⟨w.heap.size,0,none⟩=some (.slice A s.length c)∧w'.cell? ⟨ib,io+k * 8,none⟩=some (.int .i64 y.kind)∧w'.cell? ⟨ib,io+k * 8+1,none⟩=some (.bool y.bool)∧w'.cell? ⟨ib,io+k * 8+2,none⟩=some (.int .i64 y.int)∧w'.cell? ⟨ib,io+k * 8+3,none⟩=some (.string y.str)∧w'.cell? ⟨ib,io+k * 8+4,none⟩=some (.int .i64 y.id)∧w'.cell? ⟨ib,io+k * 8+5,none⟩=some (.slice E1 y.keys.length e1)∧w'.cell? ⟨ib,io+k * 8+6,none⟩=some (.slice E2 y.items.length e2)∧w'.cell? ⟨ib,io+k * 8+7,none⟩=some (.slice E3 y.rest.length e3))):=fun w' hb=>⟨zA hb (by rw[cell_of_row _ _ _ _ _ _ HXk.out];rfl),zA hb a0,zA hb a1,zA hb a2,zA hb a3,zA hb a4,zA hb a5,zA hb a6,zA hb a7⟩
   clear hz hir a0 a1 a2 a3 a4 a5 a6 a7;go_upto_region 4 with fail
   refine zr (Y:=fun w'=>Hid (Below wk.heap.size wk w')) HCC.out (by kernel_rfl) ?_ (fun zH_=>?_)
   ·(try dsimp only);exact ⟨HCC.out _ (zC (Below.refl _ _) 1),zC (Below.refl _ _) 1⟩
   refine tL 0 ?_;refine tL 1 ?_;refine tL 2 ?_;refine tL 3 ?_;refine tL 4 ?_;refine tL 5 ?_;try simp only[ps]
   refine tL 6 ?_;refine tR 7 (fun K hK=>?_)
   go_simp
   (refine (HF.out t y E1 e1 E2 e2 E3 e3 _ HZ.out (HS.out.below (zB HBR.out zH_.2.out)) (HIR.out.below zH_.2.out)).mono ?_;rintro e' w6 ⟨rfl,hb6⟩;have HB6:=zh (zB zH_.2.out hb6);clear hb6)
   refine hK.out _ _ ?_ (fun zH_=>?_)
   ·(try dsimp only);exact ⟨HCC.out _ HB6.out,HB6.out⟩
   clear hK K;refine tL 8 ?_;refine wpAnyH_done (by kernel_rfl) ?_ _
   clear zH_
   cases hfy:fitF s plain n t y with
   | false =>
    have HX2:=zh (HNO.out hfy);clear hfy;go_wp2;go_ret;exact ⟨by rw[HX2.out];rfl,zB HBW.out HB6.out⟩
   | true =>
    have HX2:=zh (HST.out hfy);clear hfy;go_wp2;go_roundw
    case rel=>exact ⟨k+1,by omega,by go_num,HX2.out,zB HBR.out HB6.out⟩
    case measure=>simp[intOf];omega
  ·have HX2:Hid (X=true):=by show _=_;rw[←HE.out];exact all_yes fun j h=>HOK.out j h (by omega)
   go_wp2
   go_ret
   exact ⟨by rw[HX2.out];rfl,HBW.out⟩
theorem fit_rest {f:Int→Val→Bool} {x:TyD} {v:Val} (hp:zJ v=true) (hk:v.kind=x.kind) (hr:0<v.rest.length):fitB f true x v=false:=by
 rw[properE] at hp;simp only[Bool.and_eq_true,decide_eq_true_eq] at hp;have h7:=hp.2
 by_cases h5:x.kind=5
 ·unfold fitB
  rw[if_neg (by omega),if_neg (by omega),if_neg (by omega),if_pos h5]
  simp[hr]
 ·by_cases h6:x.kind=6
  ·unfold fitB
   rw[if_neg (by omega),if_neg (by omega),if_neg (by omega),if_neg (by omega),if_pos h6]
   cases x.mems.find? fun m=>decide (m.id=v.id) with
   | none=>simp
   | some m=>simp only[decide_eq_false (show ¬ v.rest.length=0 by omega),Bool.and_false,Bool.false_and]
  ·rw[if_neg (by omega)] at h7
   rw[h7] at hr;exact absurd hr (by simp)
section
variable {f:Int→Val→Bool} {plain:Bool} {x:TyD} {v:Val}
theorem fb1 (e:x.kind=1):fitB f plain x v=true:=by unfold fitB;rw[if_neg (by omega),if_neg (by omega),if_neg (by omega),if_neg (by omega),if_neg (by omega),if_neg (by omega),if_neg (by omega),if_neg (by omega)]
theorem fb2 (e:x.kind=2):fitB f plain x v=(decide (x.low≤v.int)&&decide (v.int≤x.high)):=by unfold fitB;rw[if_pos e]
theorem fb3 (e:x.kind=3):fitB f plain x v=decide ((v.str.size:Int)≤x.max):=by unfold fitB;rw[if_neg (by omega),if_pos e]
theorem fb4 (e:x.kind=4):fitB f plain x v=((x.syms.any fun y=>decide (y.id=v.id))||(x.open_ && !plain&&freeD v.id)):=by unfold fitB;rw[if_neg (by omega),if_neg (by omega),if_pos e]
theorem fb5 (e:x.kind=5) (h:plain=true→v.rest.length=0):fitB f plain x v=(decide (v.items.length=x.mems.length)&&rawsD x v.rest&&((x.mems.zip v.items).all fun p=>f p.1.type p.2)):=by
 unfold fitB;rw[if_neg (by omega),if_neg (by omega),if_neg (by omega),if_pos e]
 have h1:(plain&&decide (0<v.rest.length))=false:=by
  cases plain with
  | false=>rfl
  | true=>rw[h rfl];rfl
 rw[h1];simp only[Bool.not_false,Bool.and_true]
theorem fb6y (e:x.kind=6) {m:MemD} (hf:x.mems.find? (fun y=>decide (y.id=v.id))=some m):fitB f plain x v=(decide (v.items.length=1)&&decide (v.rest.length=0)&&(v.items.all fun y=>f m.type y)):=by
 unfold fitB;rw[if_neg (by omega),if_neg (by omega),if_neg (by omega),if_neg (by omega),if_pos e,hf]
theorem fb6n (e:x.kind=6) (hf:x.mems.find? (fun y=>decide (y.id=v.id))=none):fitB f plain x v=(x.open_ && !plain&&freeD v.id&&decide (v.items.length=0)&&decide (v.rest.length=1)&&(v.rest.all fun r=>decide (r.id=v.id))):=by
 unfold fitB;rw[if_neg (by omega),if_neg (by omega),if_neg (by omega),if_neg (by omega),if_pos e,hf]
theorem fb7 (e:x.kind=7):fitB f plain x v=(decide ((v.items.length:Int)≤x.max)&&(v.items.all fun y=>f x.elem y)):=by unfold fitB;rw[if_neg (by omega),if_neg (by omega),if_neg (by omega),if_neg (by omega),if_neg (by omega),if_pos e]
theorem fb8 (e:x.kind=8):fitB f plain x v=(decide ((v.keys.length:Int)≤x.max)&&decide (v.items.length=v.keys.length)&&(v.keys.all fun y=>f x.key y)&&ascV v.keys&&(v.items.all fun y=>f x.elem y)):=by unfold fitB;rw[if_neg (by omega),if_neg (by omega),if_neg (by omega),if_neg (by omega),if_neg (by omega),if_neg (by omega),if_pos e]
theorem fb9 (e:x.kind=9):fitB f plain x v=(decide (v.items.length≤1)&&(v.items.all fun y=>f x.elem y)):=by unfold fitB;rw[if_neg (by omega),if_neg (by omega),if_neg (by omega),if_neg (by omega),if_neg (by omega),if_neg (by omega),if_neg (by omega),if_pos e]
end
open Go.RowKit
def RFitK (s:List TyD) (A:zo) (c:Nat) (plain:Bool) (n:Nat) (k:Int):Prop:=∀ (tn:Nat) (htn:tn<s.length) (v:Val) (A1:zo) (c1:Nat) (A2:zo) (c2:Nat) (A3:zo) (c3:Nat) (w:World),(∀y,y∈v.keys∨y∈v.items→SizeOf.sizeOf y≤n)→TysR w A s→ValR w v A1 A2 A3 →
 (s[tn]).kind=k→v.kind=(s[tn]).kind→zJ v=true→(plain=true→v.rest.length=0) →
 Calls Tryz.prog 71 #[.agg #[.slice A s.length c],.int .i64 (tn:Int),v.v A1 c1 A2 c2 A3 c3,.bool plain] w fun e w'=>e = .returned (.bool (fitB (fitF s plain n) plain s[tn] v))∧Below w.heap.size w w'
theorem rfit_1 (pl:Bool) {s:List TyD} {A:zo} {c n:Nat} (_hv:zQ s=0) (_hn:Num64 s) (_ih:RFitAt s A c pl n):RFitK s A c pl n 1:=by
 intro tn htn v A1 c1 A2 c2 A3 c3 w hsz hs hr hkx hvk hp hrest
 have hln:=hs.1.lt (by omega)
 obtain ⟨HB0,H5,H7⟩:=zy w (.cells #[.slice A s.length c] 31) (v.box A1 c1 A2 c2 A3 c3);have HIH:=zh _ih;have HV:=zh _hv;have HN:=zh _hn;have HS:=zh hs;have HR:=zh hr;have HSZ:Hid (∀y,y∈v.keys∨y∈v.items→SizeOf.sizeOf y≤n):=hsz;have HP:=zh hp;have HXM:=zh (List.getElem_mem htn);obtain ⟨b,o,As,cs,Am,cm,hA,htr,t0,t1,t2,t3,t4,t5,t6,t7,t8,t9⟩:=(hs.below HB0.out).at10 htn;clear hs hr hp _ih _hv _hn
 subst hA;generalize s[tn]=x at *;have HTR:=zh htr;have HK:=zh hkx;have HVK:=zh (hvk.trans hkx);have q0:(v.kind != x.kind)=false:=by simp[hvk]
 have HRE:=zh hrest;clear htr hkx hvk hrest;have r1:¬ ((tn:Int)<0):=by omega
 have r2:¬ ((s.length:Int)≤(tn:Int)):=by omega
 have h1:(0:Int)≤(tn:Int):=by omega
 have h2:(tn:Int)<(s.length:Int):=by omega
 go_enter Tryz.func71,Tryz.ntmps71
 go_upto_region 1 with fail
 generalize (w.alloc (.cells #[.slice (some ⟨b,o,none⟩) s.length c] 31)).alloc (v.box A1 c1 A2 c2 A3 c3)=W2 at *;have x0:=zb H5.out;go_upto_region 4 with fail
 clear t0 t1 t2 t3 t4 t5 t6 t7 t8 t9 x0 r1 r2;have HBX:=zh (zD W2 (x.box As cs Am cm));have HXT:Hid (TBox (W2.alloc (x.box As cs Am cm)) W2.heap.size x As cs Am cm):=heap_alloc_new W2 _;have HX5:=zh (zE H5.out HBX.out);have HX7:=zh (zE H7.out HBX.out);have HB3:=zh (zB HB0.out HBX.out);have HTR3:=zh (HTR.out.below HBX.out);generalize W2.alloc (x.box As cs Am cm)=W3 at *
 generalize W2.heap.size=p9 at *;clear H5 H7 HTR HBX HB0;obtain ⟨v0,v1,v2,v3,v4,v5,v6,v7⟩:=zF HX7.out;obtain ⟨b0,b1,b2,b3,b4,b5,b6,b7,b8,b9⟩:=zG HXT.out
 go_cut [48] (fun s48 wx=>s48 = .bool false∧Hid (Below W3.heap.size W3 wx))
 case first =>
  cases pl with
  | true =>
   have z0:¬ (0:Int)<(v.rest.length:Int):=by have:=HRE.out rfl;omega
   go_wp2_with fail
   refine (yJ v (by rw[HVK.out];omega) A1 c1 A2 c2 A3 c3 W3).mono ?_
   rintro e w4 ⟨rfl,hb4⟩;rw[HP.out];have HB4:=zh hb4;have v7:=zA hb4 v7;clear hb4;go_wp2;go_meet;exact ⟨by first|rfl|exact congrArg Value.bool (decide_eq_false (by omega)),HB4.out⟩
  | false =>
   go_wp2_with fail
   refine (yJ v (by rw[HVK.out];omega) A1 c1 A2 c2 A3 c3 W3).mono ?_
   rintro e w4 ⟨rfl,hb4⟩;rw[HP.out];have HB4:=zh hb4;have v7:=zA hb4 v7;clear hb4;go_wp2;go_meet;exact ⟨by first|rfl|exact congrArg Value.bool (decide_eq_false (by omega)),HB4.out⟩
 case rest =>
 obtain ⟨rfl,hcut⟩:=hcut;obtain ⟨w4,rfl⟩:∃W:World,W=wc:=⟨_,rfl⟩;have hb4:=hcut.out;clear hcut;have HB4:=zh (zB HB3.out hb4);have HXT4:=zh (HXT.out.below hb4);have HX5a:=zh (zE HX5.out hb4);have HX7a:=zh (zE HX7.out hb4);have HSS:=zh (HS.out.below HB4.out);have HRR:=zh (HR.out.below HB4.out);have HTR4:=zh (HTR3.out.below hb4)
 clear hb4 v0 v1 v2 v3 v4 v5 v6 v7 b0 b1 b2 b3 b4 b5 b6 b7 b8 b9 HB3 HXT HX5 HX7 q0 HTR3;obtain ⟨v0,v1,v2,v3,v4,v5,v6,v7⟩:=zF HX7a.out;obtain ⟨b0,b1,b2,b3,b4,b5,b6,b7,b8,b9⟩:=zG HXT4.out;have x0:=zb HX5a.out;go_upto_region 6 with fail
 have q1:=zk1 HK.out;have HD:=zh (fb1 (f:=fitF s pl n) (plain:=pl) (v:=v) HK.out);go_wp2;go_ret;exact ⟨by rw[HD.out];rfl,HB4.out⟩
theorem rfit_2 (pl:Bool) {s:List TyD} {A:zo} {c n:Nat} (_hv:zQ s=0) (_hn:Num64 s) (_ih:RFitAt s A c pl n):RFitK s A c pl n 2:=by
 intro tn htn v A1 c1 A2 c2 A3 c3 w hsz hs hr hkx hvk hp hrest
 have hln:=hs.1.lt (by omega)
 obtain ⟨HB0,H5,H7⟩:=zy w (.cells #[.slice A s.length c] 31) (v.box A1 c1 A2 c2 A3 c3);have HIH:=zh _ih;have HV:=zh _hv;have HN:=zh _hn;have HS:=zh hs;have HR:=zh hr;have HSZ:Hid (∀y,y∈v.keys∨y∈v.items→SizeOf.sizeOf y≤n):=hsz;have HP:=zh hp;have HXM:=zh (List.getElem_mem htn);obtain ⟨b,o,As,cs,Am,cm,hA,htr,t0,t1,t2,t3,t4,t5,t6,t7,t8,t9⟩:=(hs.below HB0.out).at10 htn;clear hs hr hp _ih _hv _hn
 subst hA;generalize s[tn]=x at *;have HTR:=zh htr;have HK:=zh hkx;have HVK:=zh (hvk.trans hkx);have q0:(v.kind != x.kind)=false:=by simp[hvk]
 have HRE:=zh hrest;clear htr hkx hvk hrest;have r1:¬ ((tn:Int)<0):=by omega
 have r2:¬ ((s.length:Int)≤(tn:Int)):=by omega
 have h1:(0:Int)≤(tn:Int):=by omega
 have h2:(tn:Int)<(s.length:Int):=by omega
 go_enter Tryz.func71,Tryz.ntmps71
 go_upto_region 1 with fail
 generalize (w.alloc (.cells #[.slice (some ⟨b,o,none⟩) s.length c] 31)).alloc (v.box A1 c1 A2 c2 A3 c3)=W2 at *;have x0:=zb H5.out;go_upto_region 4 with fail
 clear t0 t1 t2 t3 t4 t5 t6 t7 t8 t9 x0 r1 r2;have HBX:=zh (zD W2 (x.box As cs Am cm));have HXT:Hid (TBox (W2.alloc (x.box As cs Am cm)) W2.heap.size x As cs Am cm):=heap_alloc_new W2 _;have HX5:=zh (zE H5.out HBX.out);have HX7:=zh (zE H7.out HBX.out);have HB3:=zh (zB HB0.out HBX.out);have HTR3:=zh (HTR.out.below HBX.out);generalize W2.alloc (x.box As cs Am cm)=W3 at *
 generalize W2.heap.size=p9 at *;clear H5 H7 HTR HBX HB0;obtain ⟨v0,v1,v2,v3,v4,v5,v6,v7⟩:=zF HX7.out;obtain ⟨b0,b1,b2,b3,b4,b5,b6,b7,b8,b9⟩:=zG HXT.out
 go_cut [48] (fun s48 wx=>s48 = .bool false∧Hid (Below W3.heap.size W3 wx))
 case first =>
  cases pl with
  | true =>
   have z0:¬ (0:Int)<(v.rest.length:Int):=by have:=HRE.out rfl;omega
   go_wp2_with fail
   refine (yJ v (by rw[HVK.out];omega) A1 c1 A2 c2 A3 c3 W3).mono ?_
   rintro e w4 ⟨rfl,hb4⟩;rw[HP.out];have HB4:=zh hb4;have v7:=zA hb4 v7;clear hb4;go_wp2;go_meet;exact ⟨by first|rfl|exact congrArg Value.bool (decide_eq_false (by omega)),HB4.out⟩
  | false =>
   go_wp2_with fail
   refine (yJ v (by rw[HVK.out];omega) A1 c1 A2 c2 A3 c3 W3).mono ?_
   rintro e w4 ⟨rfl,hb4⟩;rw[HP.out];have HB4:=zh hb4;have v7:=zA hb4 v7;clear hb4;go_wp2;go_meet;exact ⟨by first|rfl|exact congrArg Value.bool (decide_eq_false (by omega)),HB4.out⟩
 case rest =>
 obtain ⟨rfl,hcut⟩:=hcut;obtain ⟨w4,rfl⟩:∃W:World,W=wc:=⟨_,rfl⟩;have hb4:=hcut.out;clear hcut;have HB4:=zh (zB HB3.out hb4);have HXT4:=zh (HXT.out.below hb4);have HX5a:=zh (zE HX5.out hb4);have HX7a:=zh (zE HX7.out hb4);have HSS:=zh (HS.out.below HB4.out);have HRR:=zh (HR.out.below HB4.out);have HTR4:=zh (HTR3.out.below hb4)
 clear hb4 v0 v1 v2 v3 v4 v5 v6 v7 b0 b1 b2 b3 b4 b5 b6 b7 b8 b9 HB3 HXT HX5 HX7 q0 HTR3;obtain ⟨v0,v1,v2,v3,v4,v5,v6,v7⟩:=zF HX7a.out;obtain ⟨b0,b1,b2,b3,b4,b5,b6,b7,b8,b9⟩:=zG HXT4.out;have x0:=zb HX5a.out;go_upto_region 6 with fail
 obtain ⟨q1,q2⟩:=zk2 HK.out;have HD0:=zh (fb2 (f:=fitF s pl n) (plain:=pl) (v:=v) HK.out)
 by_cases g1:x.low≤v.int
 ·by_cases g2:v.int≤x.high
  ·have HD:Hid (fitB (fitF s pl n) pl x v=true):=by show _=_;rw[HD0.out];simp[g1,g2]
   go_wp2
   go_ret
   exact ⟨by rw[HD.out];rfl,HB4.out⟩
  ·have HD:Hid (fitB (fitF s pl n) pl x v=false):=by show _=_;rw[HD0.out];simp[g2]
   go_wp2
   go_ret
   exact ⟨by rw[HD.out];rfl,HB4.out⟩
 ·have HD:Hid (fitB (fitF s pl n) pl x v=false):=by show _=_;rw[HD0.out];simp[g1]
  go_wp2
  go_ret
  exact ⟨by rw[HD.out];rfl,HB4.out⟩
theorem rfit_3 (pl:Bool) {s:List TyD} {A:zo} {c n:Nat} (_hv:zQ s=0) (_hn:Num64 s) (_ih:RFitAt s A c pl n):RFitK s A c pl n 3:=by
 intro tn htn v A1 c1 A2 c2 A3 c3 w hsz hs hr hkx hvk hp hrest
 have hln:=hs.1.lt (by omega)
 obtain ⟨HB0,H5,H7⟩:=zy w (.cells #[.slice A s.length c] 31) (v.box A1 c1 A2 c2 A3 c3);have HIH:=zh _ih;have HV:=zh _hv;have HN:=zh _hn;have HS:=zh hs;have HR:=zh hr;have HSZ:Hid (∀y,y∈v.keys∨y∈v.items→SizeOf.sizeOf y≤n):=hsz;have HP:=zh hp;have HXM:=zh (List.getElem_mem htn);obtain ⟨b,o,As,cs,Am,cm,hA,htr,t0,t1,t2,t3,t4,t5,t6,t7,t8,t9⟩:=(hs.below HB0.out).at10 htn;clear hs hr hp _ih _hv _hn
 subst hA;generalize s[tn]=x at *;have HTR:=zh htr;have HK:=zh hkx;have HVK:=zh (hvk.trans hkx);have q0:(v.kind != x.kind)=false:=by simp[hvk]
 have HRE:=zh hrest;clear htr hkx hvk hrest;have r1:¬ ((tn:Int)<0):=by omega
 have r2:¬ ((s.length:Int)≤(tn:Int)):=by omega
 have h1:(0:Int)≤(tn:Int):=by omega
 have h2:(tn:Int)<(s.length:Int):=by omega
 go_enter Tryz.func71,Tryz.ntmps71
 go_upto_region 1 with fail
 generalize (w.alloc (.cells #[.slice (some ⟨b,o,none⟩) s.length c] 31)).alloc (v.box A1 c1 A2 c2 A3 c3)=W2 at *;have x0:=zb H5.out;go_upto_region 4 with fail
 clear t0 t1 t2 t3 t4 t5 t6 t7 t8 t9 x0 r1 r2;have HBX:=zh (zD W2 (x.box As cs Am cm));have HXT:Hid (TBox (W2.alloc (x.box As cs Am cm)) W2.heap.size x As cs Am cm):=heap_alloc_new W2 _;have HX5:=zh (zE H5.out HBX.out);have HX7:=zh (zE H7.out HBX.out);have HB3:=zh (zB HB0.out HBX.out);have HTR3:=zh (HTR.out.below HBX.out);generalize W2.alloc (x.box As cs Am cm)=W3 at *
 generalize W2.heap.size=p9 at *;clear H5 H7 HTR HBX HB0;obtain ⟨v0,v1,v2,v3,v4,v5,v6,v7⟩:=zF HX7.out;obtain ⟨b0,b1,b2,b3,b4,b5,b6,b7,b8,b9⟩:=zG HXT.out
 go_cut [48] (fun s48 wx=>s48 = .bool false∧Hid (Below W3.heap.size W3 wx))
 case first =>
  cases pl with
  | true =>
   have z0:¬ (0:Int)<(v.rest.length:Int):=by have:=HRE.out rfl;omega
   go_wp2_with fail
   refine (yJ v (by rw[HVK.out];omega) A1 c1 A2 c2 A3 c3 W3).mono ?_
   rintro e w4 ⟨rfl,hb4⟩;rw[HP.out];have HB4:=zh hb4;have v7:=zA hb4 v7;clear hb4;go_wp2;go_meet;exact ⟨by first|rfl|exact congrArg Value.bool (decide_eq_false (by omega)),HB4.out⟩
  | false =>
   go_wp2_with fail
   refine (yJ v (by rw[HVK.out];omega) A1 c1 A2 c2 A3 c3 W3).mono ?_
   rintro e w4 ⟨rfl,hb4⟩;rw[HP.out];have HB4:=zh hb4;have v7:=zA hb4 v7;clear hb4;go_wp2;go_meet;exact ⟨by first|rfl|exact congrArg Value.bool (decide_eq_false (by omega)),HB4.out⟩
 case rest =>
 obtain ⟨rfl,hcut⟩:=hcut;obtain ⟨w4,rfl⟩:∃W:World,W=wc:=⟨_,rfl⟩;have hb4:=hcut.out;clear hcut;have HB4:=zh (zB HB3.out hb4);have HXT4:=zh (HXT.out.below hb4);have HX5a:=zh (zE HX5.out hb4);have HX7a:=zh (zE HX7.out hb4);have HSS:=zh (HS.out.below HB4.out);have HRR:=zh (HR.out.below HB4.out);have HTR4:=zh (HTR3.out.below hb4)
 clear hb4 v0 v1 v2 v3 v4 v5 v6 v7 b0 b1 b2 b3 b4 b5 b6 b7 b8 b9 HB3 HXT HX5 HX7 q0 HTR3;obtain ⟨v0,v1,v2,v3,v4,v5,v6,v7⟩:=zF HX7a.out;obtain ⟨b0,b1,b2,b3,b4,b5,b6,b7,b8,b9⟩:=zG HXT4.out;have x0:=zb HX5a.out;go_upto_region 6 with fail
 obtain ⟨q1,q2,q3⟩:=zk3 HK.out;have HD0:=zh (fb3 (f:=fitF s pl n) (plain:=pl) (v:=v) HK.out)
 by_cases g1:(v.str.size:Int)≤x.max
 ·have HD:Hid (fitB (fitF s pl n) pl x v=true):=by show _=_;rw[HD0.out];simp[g1]
  go_wp2
  go_ret
  exact ⟨by rw[HD.out];rfl,HB4.out⟩
 ·have HD:Hid (fitB (fitF s pl n) pl x v=false):=by show _=_;rw[HD0.out];simp[g1]
  go_wp2
  go_ret
  exact ⟨by rw[HD.out];rfl,HB4.out⟩
theorem rfit_7 (pl:Bool) {s:List TyD} {A:zo} {c n:Nat} (_hv:zQ s=0) (_hn:Num64 s) (_ih:RFitAt s A c pl n):RFitK s A c pl n 7:=by
 intro tn htn v A1 c1 A2 c2 A3 c3 w hsz hs hr hkx hvk hp hrest
 have hln:=hs.1.lt (by omega)
 obtain ⟨HB0,H5,H7⟩:=zy w (.cells #[.slice A s.length c] 31) (v.box A1 c1 A2 c2 A3 c3);have HIH:=zh _ih;have HV:=zh _hv;have HN:=zh _hn;have HS:=zh hs;have HR:=zh hr;have HSZ:Hid (∀y,y∈v.keys∨y∈v.items→SizeOf.sizeOf y≤n):=hsz;have HP:=zh hp;have HXM:=zh (List.getElem_mem htn);obtain ⟨b,o,As,cs,Am,cm,hA,htr,t0,t1,t2,t3,t4,t5,t6,t7,t8,t9⟩:=(hs.below HB0.out).at10 htn;clear hs hr hp _ih _hv _hn
 subst hA;generalize s[tn]=x at *;have HTR:=zh htr;have HK:=zh hkx;have HVK:=zh (hvk.trans hkx);have q0:(v.kind != x.kind)=false:=by simp[hvk]
 have HRE:=zh hrest;clear htr hkx hvk hrest;have r1:¬ ((tn:Int)<0):=by omega
 have r2:¬ ((s.length:Int)≤(tn:Int)):=by omega
 have h1:(0:Int)≤(tn:Int):=by omega
 have h2:(tn:Int)<(s.length:Int):=by omega
 go_enter Tryz.func71,Tryz.ntmps71
 go_upto_region 1 with fail
 generalize (w.alloc (.cells #[.slice (some ⟨b,o,none⟩) s.length c] 31)).alloc (v.box A1 c1 A2 c2 A3 c3)=W2 at *;have x0:=zb H5.out;go_upto_region 4 with fail
 clear t0 t1 t2 t3 t4 t5 t6 t7 t8 t9 x0 r1 r2;have HBX:=zh (zD W2 (x.box As cs Am cm));have HXT:Hid (TBox (W2.alloc (x.box As cs Am cm)) W2.heap.size x As cs Am cm):=heap_alloc_new W2 _;have HX5:=zh (zE H5.out HBX.out);have HX7:=zh (zE H7.out HBX.out);have HB3:=zh (zB HB0.out HBX.out);have HTR3:=zh (HTR.out.below HBX.out);generalize W2.alloc (x.box As cs Am cm)=W3 at *
 generalize W2.heap.size=p9 at *;clear H5 H7 HTR HBX HB0;obtain ⟨v0,v1,v2,v3,v4,v5,v6,v7⟩:=zF HX7.out;obtain ⟨b0,b1,b2,b3,b4,b5,b6,b7,b8,b9⟩:=zG HXT.out
 go_cut [48] (fun s48 wx=>s48 = .bool false∧Hid (Below W3.heap.size W3 wx))
 case first =>
  cases pl with
  | true =>
   have z0:¬ (0:Int)<(v.rest.length:Int):=by have:=HRE.out rfl;omega
   go_wp2_with fail
   refine (yJ v (by rw[HVK.out];omega) A1 c1 A2 c2 A3 c3 W3).mono ?_
   rintro e w4 ⟨rfl,hb4⟩;rw[HP.out];have HB4:=zh hb4;have v7:=zA hb4 v7;clear hb4;go_wp2;go_meet;exact ⟨by first|rfl|exact congrArg Value.bool (decide_eq_false (by omega)),HB4.out⟩
  | false =>
   go_wp2_with fail
   refine (yJ v (by rw[HVK.out];omega) A1 c1 A2 c2 A3 c3 W3).mono ?_
   rintro e w4 ⟨rfl,hb4⟩;rw[HP.out];have HB4:=zh hb4;have v7:=zA hb4 v7;clear hb4;go_wp2;go_meet;exact ⟨by first|rfl|exact congrArg Value.bool (decide_eq_false (by omega)),HB4.out⟩
 case rest =>
 obtain ⟨rfl,hcut⟩:=hcut;obtain ⟨w4,rfl⟩:∃W:World,W=wc:=⟨_,rfl⟩;have hb4:=hcut.out;clear hcut;have HB4:=zh (zB HB3.out hb4);have HXT4:=zh (HXT.out.below hb4);have HX5a:=zh (zE HX5.out hb4);have HX7a:=zh (zE HX7.out hb4);have HSS:=zh (HS.out.below HB4.out);have HRR:=zh (HR.out.below HB4.out);have HTR4:=zh (HTR3.out.below hb4)
 clear hb4 v0 v1 v2 v3 v4 v5 v6 v7 b0 b1 b2 b3 b4 b5 b6 b7 b8 b9 HB3 HXT HX5 HX7 q0 HTR3;obtain ⟨v0,v1,v2,v3,v4,v5,v6,v7⟩:=zF HX7a.out;obtain ⟨b0,b1,b2,b3,b4,b5,b6,b7,b8,b9⟩:=zG HXT4.out;have x0:=zb HX5a.out;go_upto_region 6 with fail
 obtain ⟨q1,q2,q3,q4,q5,q6,q7⟩:=zk7 HK.out;have HD0:=zh (fb7 (f:=fitF s pl n) (plain:=pl) (v:=v) HK.out);have hli:=HRR.out.items.1.lt (by omega)
 by_cases g1:(v.items.length:Int)≤x.max
 ·have HD:Hid (fitB (fitF s pl n) pl x v=v.items.all fun y=>fitF s pl n x.elem y):=by show _=_;rw[HD0.out];simp[g1]
  go_wp2_with fail
  refine (rAll_any HIH.out x.elem v.items A2 c2 _ (fun y hy=>HSZ.out y (.inr hy)) (HS.out.below HB4.out) (HR.out.below HB4.out).items).mono ?_
  rintro e w5 ⟨rfl,hb5⟩;have HB5:=zh (zB HB4.out hb5);clear hb5;clear g1 v0 v1 v2 v3 v4 v5 v6 v7 b0 b1 b2 b3 b4 b5 b6 b7 b8 b9 x0;obtain ⟨X,hX⟩:∃X,(v.items.all fun y=>fitF s pl n x.elem y)=X:=⟨_,rfl⟩
  rw[hX];have HD2:Hid (fitB (fitF s pl n) pl x v=X):=HD.out.trans hX;clear hX;go_wp2;go_ret;exact ⟨by rw[HD2.out];rfl,HB5.out⟩
 ·have HD:Hid (fitB (fitF s pl n) pl x v=false):=by show _=_;rw[HD0.out];simp[g1]
  go_wp2
  go_ret
  exact ⟨by rw[HD.out];rfl,HB4.out⟩
theorem rfit_9 (pl:Bool) {s:List TyD} {A:zo} {c n:Nat} (_hv:zQ s=0) (_hn:Num64 s) (_ih:RFitAt s A c pl n):RFitK s A c pl n 9:=by
 intro tn htn v A1 c1 A2 c2 A3 c3 w hsz hs hr hkx hvk hp hrest
 have hln:=hs.1.lt (by omega)
 obtain ⟨HB0,H5,H7⟩:=zy w (.cells #[.slice A s.length c] 31) (v.box A1 c1 A2 c2 A3 c3);have HIH:=zh _ih;have HV:=zh _hv;have HN:=zh _hn;have HS:=zh hs;have HR:=zh hr;have HSZ:Hid (∀y,y∈v.keys∨y∈v.items→SizeOf.sizeOf y≤n):=hsz;have HP:=zh hp;have HXM:=zh (List.getElem_mem htn);obtain ⟨b,o,As,cs,Am,cm,hA,htr,t0,t1,t2,t3,t4,t5,t6,t7,t8,t9⟩:=(hs.below HB0.out).at10 htn;clear hs hr hp _ih _hv _hn
 subst hA;generalize s[tn]=x at *;have HTR:=zh htr;have HK:=zh hkx;have HVK:=zh (hvk.trans hkx);have q0:(v.kind != x.kind)=false:=by simp[hvk]
 have HRE:=zh hrest;clear htr hkx hvk hrest;have r1:¬ ((tn:Int)<0):=by omega
 have r2:¬ ((s.length:Int)≤(tn:Int)):=by omega
 have h1:(0:Int)≤(tn:Int):=by omega
 have h2:(tn:Int)<(s.length:Int):=by omega
 go_enter Tryz.func71,Tryz.ntmps71
 go_upto_region 1 with fail
 generalize (w.alloc (.cells #[.slice (some ⟨b,o,none⟩) s.length c] 31)).alloc (v.box A1 c1 A2 c2 A3 c3)=W2 at *;have x0:=zb H5.out;go_upto_region 4 with fail
 clear t0 t1 t2 t3 t4 t5 t6 t7 t8 t9 x0 r1 r2;have HBX:=zh (zD W2 (x.box As cs Am cm));have HXT:Hid (TBox (W2.alloc (x.box As cs Am cm)) W2.heap.size x As cs Am cm):=heap_alloc_new W2 _;have HX5:=zh (zE H5.out HBX.out);have HX7:=zh (zE H7.out HBX.out);have HB3:=zh (zB HB0.out HBX.out);have HTR3:=zh (HTR.out.below HBX.out);generalize W2.alloc (x.box As cs Am cm)=W3 at *
 generalize W2.heap.size=p9 at *;clear H5 H7 HTR HBX HB0;obtain ⟨v0,v1,v2,v3,v4,v5,v6,v7⟩:=zF HX7.out;obtain ⟨b0,b1,b2,b3,b4,b5,b6,b7,b8,b9⟩:=zG HXT.out
 go_cut [48] (fun s48 wx=>s48 = .bool false∧Hid (Below W3.heap.size W3 wx))
 case first =>
  cases pl with
  | true =>
   have z0:¬ (0:Int)<(v.rest.length:Int):=by have:=HRE.out rfl;omega
   go_wp2_with fail
   refine (yJ v (by rw[HVK.out];omega) A1 c1 A2 c2 A3 c3 W3).mono ?_
   rintro e w4 ⟨rfl,hb4⟩;rw[HP.out];have HB4:=zh hb4;have v7:=zA hb4 v7;clear hb4;go_wp2;go_meet;exact ⟨by first|rfl|exact congrArg Value.bool (decide_eq_false (by omega)),HB4.out⟩
  | false =>
   go_wp2_with fail
   refine (yJ v (by rw[HVK.out];omega) A1 c1 A2 c2 A3 c3 W3).mono ?_
   rintro e w4 ⟨rfl,hb4⟩;rw[HP.out];have HB4:=zh hb4;have v7:=zA hb4 v7;clear hb4;go_wp2;go_meet;exact ⟨by first|rfl|exact congrArg Value.bool (decide_eq_false (by omega)),HB4.out⟩
 case rest =>
 obtain ⟨rfl,hcut⟩:=hcut;obtain ⟨w4,rfl⟩:∃W:World,W=wc:=⟨_,rfl⟩;have hb4:=hcut.out;clear hcut;have HB4:=zh (zB HB3.out hb4);have HXT4:=zh (HXT.out.below hb4);have HX5a:=zh (zE HX5.out hb4);have HX7a:=zh (zE HX7.out hb4);have HSS:=zh (HS.out.below HB4.out);have HRR:=zh (HR.out.below HB4.out);have HTR4:=zh (HTR3.out.below hb4)
 clear hb4 v0 v1 v2 v3 v4 v5 v6 v7 b0 b1 b2 b3 b4 b5 b6 b7 b8 b9 HB3 HXT HX5 HX7 q0 HTR3;obtain ⟨v0,v1,v2,v3,v4,v5,v6,v7⟩:=zF HX7a.out;obtain ⟨b0,b1,b2,b3,b4,b5,b6,b7,b8,b9⟩:=zG HXT4.out;have x0:=zb HX5a.out;go_upto_region 6 with fail
 obtain ⟨q1,q2,q3,q4,q5,q6,q7,q8⟩:=zk9 HK.out;have HD0:=zh (fb9 (f:=fitF s pl n) (plain:=pl) (v:=v) HK.out);have hli:=HRR.out.items.1.lt (by omega)
 by_cases g1:v.items.length≤1
 ·have HD:Hid (fitB (fitF s pl n) pl x v=v.items.all fun y=>fitF s pl n x.elem y):=by show _=_;rw[HD0.out];simp[g1]
  have g2:((v.items.length:Int)≤1)=(v.items.length≤1):=by simp only[eq_iff_iff];omega
  go_wp2_with fail
  refine (rAll_any HIH.out x.elem v.items A2 c2 _ (fun y hy=>HSZ.out y (.inr hy)) (HS.out.below HB4.out) (HR.out.below HB4.out).items).mono ?_
  rintro e w5 ⟨rfl,hb5⟩;have HB5:=zh (zB HB4.out hb5);clear hb5;clear g1 v0 v1 v2 v3 v4 v5 v6 v7 b0 b1 b2 b3 b4 b5 b6 b7 b8 b9 x0;obtain ⟨X,hX⟩:∃X,(v.items.all fun y=>fitF s pl n x.elem y)=X:=⟨_,rfl⟩
  rw[hX];have HD2:Hid (fitB (fitF s pl n) pl x v=X):=HD.out.trans hX;clear hX;go_wp2;go_ret;exact ⟨by rw[HD2.out];rfl,HB5.out⟩
 ·have HD:Hid (fitB (fitF s pl n) pl x v=false):=by show _=_;rw[HD0.out];simp[g1]
  have g2:((v.items.length:Int)≤1)=(v.items.length≤1):=by simp only[eq_iff_iff];omega
  go_wp2
  go_ret
  exact ⟨by rw[HD.out];rfl,HB4.out⟩
end Go.Proofs.YthkkllmmbefedaaGreatDoor


