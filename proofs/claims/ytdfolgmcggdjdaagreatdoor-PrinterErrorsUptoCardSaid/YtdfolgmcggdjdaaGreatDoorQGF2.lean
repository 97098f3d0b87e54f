/-
  Walks: the reference's Quote.
-/
import Derived.Test.YtdfolgmcggdjdaaGreatDoorQGF1
import Derived.Test.YtdfolgmcggdjdaaGreatDoorQGF0
import Derived.Test.YtdfolgmcggdjdaaGreatDoorShelfC
import Derived.Test.YtdfolgmcggdjdaaGreatDoorQGA5
import Derived.Shelf.Strings.BuilderK
import Derived.BigRegion
namespace Go.Proofs.YtdfolgmcggdjdaaGreatDoor
open Go.RowKit
set_option maxHeartbeats 16000000
set_option maxRecDepth 100000
theorem ap_holdR {A:zo} {n c p:Nat} {S:Nat→Prop} {W w':World} {u v:Value} {L:List TyA} (h:RtS A n c p u S W v L) {b:Nat} {t:TyD} {As:zo} {cs:Nat} {Am:zo} {cm:Nat} (hb:TBox W b t As cs Am cm) (hn:v.ownBlock≠some b) (k:Kp v W w') :
  ((w'.cell? ⟨p,1,none⟩=some v∧w'.frozen? ⟨p,1,none⟩=false)∧(w'.cell? ⟨b,0,none⟩=some (.int .i64 t.kind)∧w'.cell? ⟨b,1,none⟩=some (.string t.name)∧w'.cell? ⟨b,2,none⟩=some (.int .i64 t.low)∧w'.cell? ⟨b,3,none⟩=some (.int .i64 t.high)∧w'.cell? ⟨b,4,none⟩=some (.int .i64 t.max)∧w'.cell? ⟨b,5,none⟩=some (.slice As t.syms.length cs)∧w'.cell? ⟨b,6,none⟩=some (.slice Am t.mems.length cm)∧w'.cell? ⟨b,7,none⟩=some (.int .i64 t.key)∧w'.cell? ⟨b,8,none⟩=some (.int .i64 t.elem)∧w'.cell? ⟨b,9,none⟩=some (.bool t.open_)))∧Hid (Kp v W w'):=by
 have h1:w'.heap[p]? = some (rdO A n c v u):=(k.oth p h.plt fun e=>by have:=h.ownlt e;omega).trans h.blk
 have h2:TBox w' b t As cs Am cm:=(k.oth b hb.blt hn).trans hb;unfold rdO at h1;exact ⟨⟨⟨by rw[cell_of_row _ _ _ _ _ _ h1];rfl,frozen_of_row _ _ _ _ _ h1⟩,zI h2⟩,k⟩
def RlPost (s:List TyD) (c p:Nat) (A:zo) (u:Value) (ix:List Int) (f:Nat) (t:Int) (S:Nat→Prop) (v:Value) (L:List TyA) (W:World) (e:Ending) (W':World):Prop :=
 ∃v' L',e = .returned (.int .i64 (zY s ix f t (L.map (·.t))).1)∧L'.map (·.t)=(zY s ix f t (L.map (·.t))).2∧RtS A s.length c p u S W' v' L'∧Chg p v v' W W'∧∀j,j<L.length→L'[j]? = L[j]?
theorem set_last {α:Type} (M:List α) (x:α):(M++[x]).set M.length x=M++[x]:=by
 rw[List.set_append_right _ _ (Nat.le_refl _)];simp
theorem RtS.fld {A:zo} {n c p:Nat} {S:Nat→Prop} {W:World} {u v:Value} {L:List TyA} (h:RtS A n c p u S W v L) {i:Nat} {x y:TyD} {As:zo} {cs:Nat} {Am:zo} {cm:Nat} (hx:L[i]? = some ⟨x,As,cs,Am,cm⟩) {j:Nat} {z:Value} (hj:j<10)
  (hc:(⟨y,As,cs,Am,cm⟩:TyA).cells=(⟨x,As,cs,Am,cm⟩:TyA).cells.set j z) (hy:∀w,TyR w x As Am→TyR w y As Am) :
  ∃g cv,v = .slice (some ⟨g,0,none⟩) L.length cv∧W.there g (i * 10) 10∧RtS A n c p u S (W.setCell ⟨g,i * 10+j,none⟩ z) v (L.set i ⟨y,As,cs,Am,cm⟩)∧Chg p v v W (W.setCell ⟨g,i * 10+j,none⟩ z):=by
 obtain ⟨hi,he⟩:=List.getElem?_eq_some_iff.1 hx;obtain ⟨g,cv,hv,_,_,hth⟩:=h.at_ hi;have ho:=h.off _ (List.mem_of_getElem? hx);obtain ⟨h1,h2⟩:=h.setC hi hv hj (x:=(⟨y,As,cs,Am,cm⟩:TyA)) (z:=z) (by rw[he];exact hc) (ho.imp fun w k=>hy w k)
 exact ⟨g,cv,hv,hth,h1,h2⟩
theorem rPlace_any (s:List TyD) (A:zo) (c:Nat) (hv:zJ s=0) (w:World) (hs:TysR w A s) (p gi cu:Nat) (ix:List Int) (hwp:w.heap.size≤p):∀ (f:Nat) (t:Int) (S:Nat→Prop) (v:Value) (L:List TyA) (W:World),(0≤t∧t<(s.length:Int))→finD s f t→(∀q,q<w.heap.size→¬ S q)→L.length+2 * f≤100000→RtS A s.length c p (.slice (some ⟨gi,0,none⟩) s.length cu) S W v L→IxS s.length ix gi p v W→Below w.heap.size w W →
  Calls Tryz.prog 36 #[.pointer (some ⟨p,0,none⟩),.int .i64 t] W (RlPost s c p A (.slice (some ⟨gi,0,none⟩) s.length cu) ix f t S v L W):=by
 intro f
 induction f with
 | zero=>intro t S v L W _ h;exact h.elim
 | succ f ih =>
 intro t S v L W hr hf hS hz htd hxs hb
 obtain ⟨tn,rfl⟩:=Int.eq_ofNat_of_zero_le hr.1;have htn:tn<s.length:=by omega
 have hls:=zZ hv;have HTD:=zh htd;have HXS:=zh hxs;have HB:=zh hb;have HIH:=zh ih;have HSS:=zh hS;have HF:=zh hf;have HR:=zh hr;have HPL:=htd.plt;obtain ⟨⟨c0,c1,c2⟩,_⟩:=htd.cells;have i0:=hxs.cel tn htn;have h1:(0:Int)≤(tn:Int):=by omega
 have h2:(tn:Int)<(s.length:Int):=by omega
 clear ih hf hr hS htd hxs hb
 by_cases hix:0≤ixAt ix (tn:Int)
 ·have HPD:Hid (zY s ix (f+1) (tn:Int) (L.map (·.t))=(ixAt ix (tn:Int),L.map (·.t))):=by show _=_;unfold zY;rw[if_pos hix]
  generalize ixAt ix (tn:Int)=I at *
  go_enter Tryz.func36,Tryz.ntmps36
  go_wp2
  go_ret
  exact ⟨v,L,by rw[HPD.out];rfl,by rw[HPD.out],HTD.out,Chg.refl _ _ _,fun _ _=>rfl⟩
 obtain ⟨b,o,As,cs,Am,cm,rfl,htr,t0,t1,t2,t3,t4,t5,t6,t7,t8,t9⟩:=hs.at10 htn;have HOX:Hid (∀ (W':World) {S':Nat→Prop},Below w.heap.size w W'→(∀q,q<w.heap.size→¬ S' q)→Off S' W' fun u=>TyR u s[tn] As Am):=fun W' S' h1 h2=>ty_old htn htr h1 h2
 replace t0:=zA HB.out t0;replace t1:=zA HB.out t1;replace t2:=zA HB.out t2;replace t3:=zA HB.out t3;replace t4:=zA HB.out t4;replace t5:=zA HB.out t5;replace t6:=zA HB.out t6;replace t7:=zA HB.out t7;replace t8:=zA HB.out t8;replace t9:=zA HB.out t9;have HX:=zP htn;have HCG:Hid ((7≤(s[tn]).kind)↔compK (s[tn]).kind):=by have:=comp_ge hv HR.out;rwa [HX] at this
 have HFE:Hid (compK (s[tn]).kind→finD s f (s[tn]).elem):=fun h=>by have:=HF.out;unfold finD at this;rw[HX] at this;exact this h
 have HER:Hid (compK (s[tn]).kind→0≤(s[tn]).elem∧(s[tn]).elem<(s.length:Int)):=fun h=>by have:=yP hv HR.out (by rw[HX];exact h);rwa [HX] at this
 have HKR:Hid ((s[tn]).kind=8→(0≤(s[tn]).key∧(s[tn]).key<(s.length:Int))∧finD s f (s[tn]).key):=fun h=>by
  have hk:=key_rng hv HR.out (by rw[HX];exact h)
  rw[HX] at hk;refine ⟨hk.1,?_⟩;have hfe:=HFE.out (.inr (.inl h))
  cases f with
  | zero=>exact hfe.elim
  | succ f=>unfold finD;exact fun hc=>absurd hc (not_comp4 hk.2)
 have HPD:Hid (∃R1 R2,R1=(if (s[tn]).kind=8 then zY s ix f (s[tn]).key (L.map (·.t)++[s[tn]]) else ((s[tn]).key,L.map (·.t)++[s[tn]]))∧R2=(if compK (s[tn]).kind then zY s ix f (s[tn]).elem (R1.2.set L.length ((s[tn]).ke R1.1 (s[tn]).elem)) else ((s[tn]).elem,R1.2.set L.length ((s[tn]).ke R1.1 (s[tn]).elem)))∧zY s ix (f+1) (tn:Int) (L.map (·.t))=((L.length:Int),R2.2.set L.length ((s[tn]).ke R1.1 R2.1))):=by
  have h:=placeD_steps (s:=s) (ix:=ix) (f:=f) (t:=(tn:Int)) (out:=L.map (·.t)) hix rfl rfl;rw[HX,List.length_map] at h;exact ⟨_,_,rfl,rfl,h⟩
 have HLG:=zh (fun (u:Int) (M:List TyD)=>placeD_ge (s:=s) (ix:=ix) f u M)
 have HK1:=zh (fun (h:(s[tn]).kind=8) (M:List TyD)=>(placeD_le (ix:=ix) hv f (s[tn]).key M (HKR.out h).1).2 (by have:=(key_rng hv HR.out (by rw[HX];exact h)).2;rw[HX] at this;exact not_comp4 this))
 clear HF HR htr;generalize s[tn]=x at *;obtain ⟨R1,R2,hR1,hR2,hPD⟩:=HPD.out;have HPE:=zh hPD;have HE1:=zh hR1;have HE2:=zh hR2;clear HPD hPD hR1 hR2;have HLB:Hid (R1.2.length≤L.length+2∧L.length+1≤R1.2.length):=by
  show _∧_
  rw[HE1.out]
  split
  ·rename_i h8
   have k1:=HK1.out h8 (L.map (·.t)++[x]);have k2:=HLG.out x.key (L.map (·.t)++[x]);rw[List.length_append,List.length_map,List.length_singleton] at k1 k2
   omega
  ·rw[List.length_append,List.length_map,List.length_singleton];omega
 have hq:¬ (0:Int)≤ixAt ix (tn:Int):=hix;generalize ixAt ix (tn:Int)=I at *;obtain ⟨U,hU⟩:∃U,U=Value.slice (some ⟨gi,0,none⟩) s.length cu:=⟨_,rfl⟩;obtain ⟨Av,cv,rfl⟩:=HTD.out.val;have HBX:=zh (zD W (x.box As cs Am cm));have HXX:=zh (heap_alloc_new W (x.box As cs Am cm));have HTX:=zh (HTD.out.below HBX.out);have HXX2:=zh (HXS.out.below HBX.out);have HOB:=zh (fun q hq=>(HTD.out.ownlt (q:=q) hq).2)
 have HNS:Hid (∀q,q<w.heap.size→∀ (v':Value) (W':World),p<q∨True→¬ S q):=fun q h _ _ _=>HSS.out q h
 have HOX2:Hid (Off (fun q=>S q∨(Value.slice Av L.length cv).ownBlock=some q) (W.alloc (x.box As cs Am cm)) fun u=>TyR u x As Am):=by
  refine HOX.out _ (zB HB.out HBX.out) fun q hq h=>?_
  rcases h with h|h
  ·exact HSS.out q hq h
  ·have:=HTD.out.ownlt h;omega
 go_enter Tryz.func36,Tryz.ntmps36
 go_upto_region 5 with fail
 have HUU:=zh hU;rw[←hU] at HTD HTX HIH;rw[←hU];clear t0 t1 t2 t3 t4 t5 t6 t7 t8 t9 c0 c1 c2 i0 hU HNS;have HZ2:Hid (W.heap.size<(W.alloc (x.box As cs Am cm)).heap.size):=by show _<_;simp
 have HOZ:Hid ((Value.slice Av L.length cv).ownBlock≠some W.heap.size):=fun e=>by have:=HOB.out _ e;omega
 generalize W.alloc (x.box As cs Am cm)=W2 at *;have HTB:Hid (TBox W2 W.heap.size x As cs Am cm):=HXX.out;have HAP:=zh (fun w' (k:Kp (Value.slice Av L.length cv) W2 w')=>ap_holdR HTX.out HTB.out HOZ.out k)
 refine yK (S:=(fun w'=>((w'.cell? ⟨p,1,none⟩=some (.slice Av L.length cv)∧w'.frozen? ⟨p,1,none⟩=false)∧(w'.cell? ⟨W.heap.size,0,none⟩=some (.int .i64 x.kind)∧w'.cell? ⟨W.heap.size,1,none⟩=some (.string x.name)∧w'.cell? ⟨W.heap.size,2,none⟩=some (.int .i64 x.low)∧w'.cell? ⟨W.heap.size,3,none⟩=some (.int .i64 x.high)∧w'.cell? ⟨W.heap.size,4,none⟩=some (.int .i64 x.max)∧w'.cell? ⟨W.heap.size,5,none⟩=some (.slice As x.syms.length cs)∧w'.cell? ⟨W.heap.size,6,none⟩=some (.slice Am x.mems.length cm)∧w'.cell? ⟨W.heap.size,7,none⟩=some (.int .i64 x.key)∧w'.cell? ⟨W.heap.size,8,none⟩=some (.int .i64 x.elem)∧w'.cell? ⟨W.heap.size,9,none⟩=some (.bool x.open_)))∧Hid (Kp (.slice Av L.length cv) W2 w'))) 12 (by kernel_rfl) ?_ (fun zH_=>?_)
 ·(try dsimp only);exact HAP.out _ (Kp.of (zC (Below.refl _ _) 1))
 refine tC 0 ?_;refine tC 1 ?_;refine tC 2 ?_;refine tC 3 ?_;refine tC 4 ?_;refine tB 5 ?_;try simp only[ps]
 refine tB 6 ?_;refine tS 7 (fun K hK=>?_)
 go_simp
 refine hK.out _ _ ?_ (fun zH_=>?_)
 ·(try dsimp only);exact HAP.out _ (zH_.2.out.below (zD _ _))
 clear hK K;refine tS 8 (fun K hK=>?_)
 (have HW6:=zh (HTX.out.own.below (zB (zC (Below.refl W2.heap.size W2) 1) (zD _ (x.box As cs Am cm))));have HZ6:Hid (p+1≤((W2.drewN 1).alloc (x.box As cs Am cm)).heap.size):=(by show _≤_;have:=HZ2.out;simp;omega);refine step_append_o elem_ty (by rfl) (.tmp 43) (.tmp 45) (by rfl) (p+1) (.slice Av L.length cv) L.length (L.flatMap TyA.cells) (by rfl) HW6.out W2.heap.size 0 1 1 (⟨x,As,cs,Am,cm⟩:TyA).cells (by rfl) rfl (zT (W2.drewN 1) (⟨x,As,cs,Am,cm⟩:TyA).cells 50) (tyA_one _) (by omega) (by omega) HZ6.out ?_;intro v8 w8 ho8 hg8 hv8;obtain ⟨A8,c8,rfl,_⟩:=OwnL.reads (OwnL.snoc (enc:=TyA.cells) (x:=(⟨x,As,cs,Am,cm⟩:TyA)) ho8);have HN8:=zh (HTX.out.next (x:=(⟨x,As,cs,Am,cm⟩:TyA)) HOX2.out (zB (zC (Below.refl W2.heap.size W2) 1) (zD _ (x.box As cs Am cm))) ho8 hg8 hv8);have HG8:=zh hg8;clear ho8 hg8 hv8)
 refine hK.out _ _ ?_ (fun zH_=>?_)
 ·(try dsimp only);exact HAP.out _ (zH_.2.out.grown HG8.out)
 clear hK K;refine tC 9 ?_;refine tC 10 ?_;refine tC 11 ?_;try simp only[ps]
 refine yQ (rs:=[12]) (by kernel_rfl) (by simp) ?_
 refine AllReadyB.last rfl (by kernel_rfl) (fun K hK=>?_) AllReadyB.nil
 (obtain ⟨⟨⟨hc2,hf2⟩,_⟩,_⟩:=zH_;go_simp)
 refine hK.out _ _ ?_;clear hK K
 (try clear zH_)
 refine wpAny_done (by kernel_rfl) ?_ _
 have he8:(L++[(⟨x,As,cs,Am,cm⟩:TyA)]).length=L.length+1:=by simp
 have HM8:Hid ((L++[(⟨x,As,cs,Am,cm⟩:TyA)]).map (·.t)=L.map (·.t)++[x]):=by show _=_;simp
 have HL8:Hid ((L++[(⟨x,As,cs,Am,cm⟩:TyA)])[L.length]? = some ⟨x,As,cs,Am,cm⟩):=by show _=_;simp
 have HN9:=HN8.out;rw[he8] at HN9;have HT5:=zh HN9.1;have HC5:=zh HN9.2;clear hc2 hf2 HN8 HN9 HG8 HAP;generalize w8.setCell ⟨p,1,none⟩ (.slice A8 (L.length+1) c8)=W5 at *;have HTB5:Hid (TBox W5 W.heap.size x As cs Am cm):=(HC5.out.oth _ (by omega) HZ2.out HOZ.out).trans HTB.out
 have HX5:=zh (HXX2.out.chg HC5.out);have HO5:Hid ((Value.slice A8 (L.length+1) c8).ownBlock≠some W.heap.size):=fun e=>(HC5.out.own _ e).elim HOZ.out fun h=>by have:=HZ2.out;omega
 have HCW:=zh ((Chg.of (v := .slice Av L.length cv) HBX.out (Nat.le_of_lt HPL)).trans HC5.out);have HBW:=zh (HB.out.trans (HCW.out.bel.mono hwp));obtain ⟨b0,b1,b2,b3,b4,b5,b6,b7,b8,b9⟩:=zI HTB5.out
 go_upto_if 52 with fail
 go_cut [7] (fun s7 wx=>∃ (v9:Value) (L9:List TyA),Hid (RtS (some ⟨b,o,none⟩) s.length c p U S wx v9 L9∧TBox wx W.heap.size x As cs Am cm∧Chg p (.slice Av L.length cv) v9 W wx∧v9.ownBlock≠some W.heap.size∧IxS s.length ix gi p v9 wx∧L9.map (·.t)=R1.2.set L.length (x.ke R1.1 x.elem)∧L9[L.length]? = some ⟨x.ke R1.1 x.elem,As,cs,Am,cm⟩∧∀j,j<L.length→L9[j]? = L[j]?))
 case first =>
  by_cases h8:x.kind=8
  ·have q1:(x.kind==8)=true:=by simp[h8]
   have HR1:=zh (HE1.out.trans (if_pos h8));have HK8:=zh (HKR.out h8);clear h8;go_wp2_with fail;refine (HIH.out x.key _ _ _ W5 HK8.out.1 HK8.out.2 HSS.out ?_ HT5.out HX5.out HBW.out).mono ?_
   ·rw[he8];omega
   rintro e w6 ⟨v6,L6,rfl,hm6,ht6,hc6,hp6⟩;rw[HM8.out,←HR1.out] at hm6;rw[HM8.out,←HR1.out];have hl6:L6[L.length]? = some ⟨x,As,cs,Am,cm⟩:=(hp6 L.length (by rw[he8];omega)).trans HL8.out
   have hll:L.length<L6.length:=(List.getElem?_eq_some_iff.1 hl6).1;obtain ⟨g,c6,rfl,hth,hts,hcs⟩:=ht6.fld hl6 (y:=x.ke R1.1 x.elem) (j:=7) (z := .int .i64 R1.1) (by omega) rfl fun w h=>⟨h.name,h.syms,h.mems⟩
   have HT6:=zh ht6;have HTS:=zh hts;have HCS:=zh hcs;have HTB6:Hid (TBox w6 W.heap.size x As cs Am cm):=(hc6.oth _ (by omega) HTB5.out.blt HO5.out).trans HTB5.out
   have HO6:Hid ((Value.slice (some ⟨g,0,none⟩) L6.length c6).ownBlock≠some W.heap.size):=fun e=>(hc6.own _ e).elim HO5.out fun h=>by have:=HTB5.out.blt;omega
   have HX6:=zh ((HX5.out.chg hc6).chg hcs);have HC6:=zh ((HCW.out.trans hc6).trans hcs);have HTB7:Hid (TBox (w6.setCell ⟨g,L.length * 10+7,none⟩ (.int .i64 R1.1)) W.heap.size x As cs Am cm):=(hcs.oth _ (by omega) HTB6.out.blt HO6.out).trans HTB6.out
   have HM6:Hid ((L6.set L.length ⟨x.ke R1.1 x.elem,As,cs,Am,cm⟩).map (·.t)=R1.2.set L.length (x.ke R1.1 x.elem)):=by show _=_;rw[List.map_set,hm6]
   have HP6:Hid (∀j,j<L.length→(L6.set L.length (⟨x.ke R1.1 x.elem,As,cs,Am,cm⟩:TyA))[j]? = L[j]?):=fun j hj=>by
    rw[List.getElem?_set_ne (by omega)]
    exact (hp6 j (by rw[he8];omega)).trans (List.getElem?_append_left hj)
   have HS6:Hid ((L6.set L.length (⟨x.ke R1.1 x.elem,As,cs,Am,cm⟩:TyA))[L.length]? = some ⟨x.ke R1.1 x.elem,As,cs,Am,cm⟩):=List.getElem?_set_self hll;have y1:=HT6.out.cells.1.2.1;have d1:(0:Int)≤(L.length:Int):=by omega
   have d2:(L.length:Int)<(L6.length:Int):=by omega
   obtain ⟨e7,e8⟩:=hth 7 (by omega)
   obtain ⟨q7,e7⟩:=Option.isSome_iff_exists.1 e7;clear hm6 ht6 hc6 hp6 hts hcs hl6 hth b0 b1 b2 b3 b4 b5 b6 b7 b8 b9;go_wp2;go_meet;exact ⟨_,_,HTS.out,HTB7.out,HC6.out,HO6.out,HX6.out,HM6.out,HS6.out,HP6.out⟩
  ·have q1:(x.kind==8)=false:=by simp[h8]
   have HR1:=zh (HE1.out.trans (if_neg h8));have HKE:Hid (x.ke R1.1 x.elem=x):=by show _=_;rw[HR1.out];rfl
   go_wp2
   go_meet
   exact ⟨_,_,HT5.out,HTB5.out,HCW.out,HO5.out,HX5.out,by rw[HM8.out,HKE.out,HR1.out];have h:=set_last (L.map (·.t)) x;rw[List.length_map] at h;exact h.symm,by rw[HKE.out];exact HL8.out,fun j hj=>List.getElem?_append_left hj⟩
 case rest =>
 obtain ⟨v9,L9,h9⟩:=hcut;have HT9:=zh h9.out.1;have HB9:=zh h9.out.2.1;have HC9:=zh h9.out.2.2.1;have HO9:=zh h9.out.2.2.2.1;have HX9:=zh h9.out.2.2.2.2.1;have HM9:=zh h9.out.2.2.2.2.2.1;have HS9:=zh h9.out.2.2.2.2.2.2.1;have HP9:=zh h9.out.2.2.2.2.2.2.2;clear h9 b0 b1 b2 b3 b4 b5 b6 b7 b8 b9;have HBW9:=zh (HB.out.trans (HC9.out.bel.mono hwp))
 have HL9:Hid (L9.length=R1.2.length):=by have:=congrArg List.length HM9.out;rwa [List.length_map,List.length_set] at this
 obtain ⟨b0,b1,b2,b3,b4,b5,b6,b7,b8,b9⟩:=zI HB9.out;obtain ⟨W9,rfl⟩:∃W9:World,W9=wc:=⟨_,rfl⟩
 go_upto_if 68 with fail
 go_cut [8] (fun s8 wx=>∃ (v9:Value) (L9:List TyA),Hid (RtS (some ⟨b,o,none⟩) s.length c p U S wx v9 L9∧Chg p (.slice Av L.length cv) v9 W wx∧L9.map (·.t)=R2.2.set L.length (x.ke R1.1 R2.1)∧∀j,j<L.length→L9[j]? = L[j]?))
 case first =>
  by_cases hc:compK x.kind
  ·have q1:(7:Int)≤x.kind:=HCG.out.2 hc
   have HR2:=zh (HE2.out.trans (if_pos hc));have HF2:=zh (HFE.out hc);have HE2:=zh (HER.out hc);clear hc HCG;go_wp2_with fail;refine (HIH.out x.elem _ _ _ W9 HE2.out HF2.out HSS.out ?_ HT9.out HX9.out HBW9.out).mono ?_
   ·rw[HL9.out];have:=HLB.out;omega
   rintro e w6 ⟨v6,L6,rfl,hm6,ht6,hc6,hp6⟩;rw[HM9.out,←HR2.out] at hm6;rw[HM9.out,←HR2.out];have hl9:L.length<L9.length:=(List.getElem?_eq_some_iff.1 HS9.out).1;have hl6:L6[L.length]? = some ⟨x.ke R1.1 x.elem,As,cs,Am,cm⟩:=(hp6 L.length hl9).trans HS9.out;have hll:L.length<L6.length:=(List.getElem?_eq_some_iff.1 hl6).1
   obtain ⟨g,c6,rfl,hth,hts,hcs⟩:=ht6.fld hl6 (y:=x.ke R1.1 R2.1) (j:=8) (z := .int .i64 R2.1) (by omega) rfl fun w h=>⟨h.name,h.syms,h.mems⟩
   have HT6:=zh ht6;have HTS:=zh hts;have HC6:=zh ((HC9.out.trans hc6).trans hcs);have HM6:Hid ((L6.set L.length ⟨x.ke R1.1 R2.1,As,cs,Am,cm⟩).map (·.t)=R2.2.set L.length (x.ke R1.1 R2.1)):=by show _=_;rw[List.map_set,hm6]
   have HP6:Hid (∀j,j<L.length→(L6.set L.length (⟨x.ke R1.1 R2.1,As,cs,Am,cm⟩:TyA))[j]? = L[j]?):=fun j hj=>by
    rw[List.getElem?_set_ne (by omega)]
    exact (hp6 j (by omega)).trans (HP9.out j hj)
   have y1:=HT6.out.cells.1.2.1;have d1:(0:Int)≤(L.length:Int):=by omega
   have d2:(L.length:Int)<(L6.length:Int):=by omega
   obtain ⟨e7,e8⟩:=hth 8 (by omega)
   obtain ⟨q7,e7⟩:=Option.isSome_iff_exists.1 e7;clear hm6 ht6 hc6 hp6 hts hcs hl6 hth b0 b1 b2 b3 b4 b5 b6 b7 b8 b9;go_wp2;go_meet;exact ⟨_,_,HTS.out,HC6.out,HM6.out,HP6.out⟩
  ·have q1:¬ (7:Int)≤x.kind:=fun h=>hc (HCG.out.1 h)
   have HR2:=zh (HE2.out.trans (if_neg hc));go_wp2;go_meet;exact ⟨_,_,HT9.out,HC9.out,by rw[HM9.out,HR2.out];simp only[List.set_set],HP9.out⟩
 case rest =>
 obtain ⟨v11,L11,h11⟩:=hcut;clear b0 b1 b2 b3 b4 b5 b6 b7 b8 b9;go_wp2;go_ret;exact ⟨v11,L11,by rw[HPE.out];rfl,by rw[HPE.out];exact h11.out.2.2.1,by rw[←HUU.out];exact h11.out.1,h11.out.2.1,h11.out.2.2.2⟩
def kindR (k:Int):ByteArray:=if k=6 then ⟨#[117,110,105,111,110,32]⟩ else if k=4 then ⟨#[101,110,117,109,32]⟩ else ⟨#[114,101,99,111,114,100,32]⟩
def head0 (x:TyD):ByteArray:=(if x.open_ then kindR x.kind++x.name++⟨#[32,111,112,101,110]⟩ else kindR x.kind++x.name)++⟨#[32,123]⟩
def symsR (b:ByteArray) (l:List SymD):ByteArray:=l.foldl (fun b y=>b++⟨#[32]⟩++decB y.id++⟨#[32]⟩++y.name++⟨#[59]⟩) b
def mHead (m:MemD):ByteArray:=(if m.critical then ⟨#[32]⟩++decB m.id++⟨#[33]⟩ else ⟨#[32]⟩++decB m.id)++⟨#[32]⟩++m.name++⟨#[58,32]⟩
def mTail (df:MemD→ByteArray) (m:MemD):ByteArray:=if m.hasDef then ⟨#[32,61,32]⟩++df m++⟨#[59]⟩ else ⟨#[59]⟩
def memsR (s:List TyD) (df:MemD→ByteArray) (a:TextD) (l:List MemD):TextD:=l.foldl (fun a m=>joinD ⟨#[]⟩ a (mHead m) (useD s (s.length+1) [] m.type) (mTail df m)) a
def declM (s:List TyD) (df:MemD→ByteArray) (x:TyD):TextD:=memsR s df (symsR (head0 x) x.syms,wordD x.name,false) x.mems
def declR (s:List TyD) (df:MemD→ByteArray) (x:TyD):TextD:=((declM s df x).1++⟨#[32,125,59,10]⟩,(declM s df x).2)
def yL (s:List TyD) (df:MemD→ByteArray) (l:List TyD):TextD:=l.foldl (fun a x=>if zL x.kind then joinD ⟨#[]⟩ a ⟨#[]⟩ (declR s df x) ⟨#[]⟩ else a) noT
def checkR (s:List TyD) (d:Int) (df:MemD→ByteArray):Int:=if zJ s≠0 then zJ s else if d≠0 then d else if (yL s df s).2.1 then 1 else if (yL s df s).2.2 then 9 else 0
def afterB (b:ByteArray) (l:List ByteArray):ByteArray:=l.foldl (fun b y=>b++sp1++y) b
theorem after_app (b:ByteArray) (l m:List ByteArray):afterB b (l++m)=afterB (afterB b l) m:=List.foldl_append
theorem joinTail_after:∀ (l:List ByteArray) (b:ByteArray),(afterB b l).data.toList=b.data.toList++Lib.joinTail sp1.data.toList (l.map (·.data.toList))
 | [],b=>by simp[afterB,Lib.joinTail]
 | y::l,b=>by
  show (afterB (b++sp1++y) l).data.toList=_
  rw[joinTail_after l];simp[Lib.joinTail,ByteArray.data_append,Array.toList_append,List.append_assoc]
theorem joinB_after (x:ByteArray) (l:List ByteArray):joinB (x::l) sp1=afterB x l:=by
 apply ByteArray.ext
 apply Array.toList_inj.1
 rw[joinTail_after];unfold joinB;rw[List.map_cons,Lib.join_cons]
section
variable {s:List TyD} {df:MemD→ByteArray}
theorem kindR_named {x:TyD} (h:zL x.kind=true):kindR x.kind=kindW x.kind++sp1:=by
 unfold zL at h;simp only[Bool.or_eq_true,decide_eq_true_eq] at h;unfold kindR kindW;have hk:x.kind=4∨x.kind=5∨x.kind=6:=by omega
 rcases hk with h|h|h <;> (rw[h];decide)
theorem syms_after:∀ (l:List SymD) (b:ByteArray),symsR b l=afterB b (l.map symT)
 | [],_=>rfl
 | y::l,b=>by
  show symsR (b++⟨#[32]⟩++decB y.id++⟨#[32]⟩++y.name++⟨#[59]⟩) l=afterB (b++sp1++symT y) (l.map symT)
  rw[syms_after l]
  congr 1
  unfold symT sp1;simp only[app_assoc]
theorem mems_after:∀ (l:List MemD) (a:TextD),(∀m∈l,textD s (s.length+1) m.type=(useD s (s.length+1) [] m.type).1)→(memsR s df a l).1=afterB a.1 (l.map (memT s df))
 | [],_,_=>rfl
 | m::l,a,h=>by
  show (memsR s df (joinD ⟨#[]⟩ a (mHead m) (useD s (s.length+1) [] m.type) (mTail df m)) l).1=afterB (a.1++sp1++memT s df m) (l.map (memT s df))
  rw[mems_after l _ fun m hm=>h m (List.mem_cons_of_mem _ hm)]
  congr 1
  unfold joinD memT mHead mTail sp1;rw[h m List.mem_cons_self]
  cases m.critical <;> cases m.hasDef <;> simp only[if_true,if_false,Bool.false_eq_true,app_assoc,nil_app,app_nil]
theorem head_after {x:TyD} (h:zL x.kind=true):head0 x=afterB (kindW x.kind) ([x.name]++(if x.open_ then [⟨#[111,112,101,110]⟩] else [])++[⟨#[123]⟩]):=by
 unfold head0;rw[kindR_named h];have e1:(⟨#[32,123]⟩:ByteArray)=sp1++⟨#[123]⟩:=by decide
 have e2:(⟨#[32,111,112,101,110]⟩:ByteArray)=sp1++⟨#[111,112,101,110]⟩:=by decide
 rw[e1,e2]
 cases x.open_ <;> simp only[afterB,if_true,if_false,Bool.false_eq_true,List.cons_append,List.nil_append,List.append_nil,List.foldl_cons,List.foldl_nil,app_assoc]
theorem decl_same {x:TyD} (hk:zL x.kind=true) (h:∀m∈x.mems,textD s (s.length+1) m.type=(useD s (s.length+1) [] m.type).1):declT s df x=(declR s df x).1:=by
 have e3:(⟨#[32,125,59,10]⟩:ByteArray)=sp1++⟨#[125,59]⟩++⟨#[10]⟩:=by decide
 have e:wordsT s df x=kindW x.kind::(([x.name]++(if x.open_ then [⟨#[111,112,101,110]⟩] else [])++[⟨#[123]⟩])++x.syms.map symT++x.mems.map (memT s df)++[⟨#[125,59]⟩]):=by
  unfold wordsT;simp only[List.cons_append,List.nil_append,List.append_assoc]
 unfold declT;rw[e,joinB_after,after_app,after_app,after_app,←head_after hk,←syms_after];unfold declR declM;simp only;rw[mems_after _ _ h,e3];simp only[afterB,List.foldl_cons,List.foldl_nil,app_assoc]
theorem whole_same:∀ (l:List TyD) (a:TextD) (b:ByteArray),a.1=b→(∀x∈l,zL x.kind=true→declT s df x=(declR s df x).1) →
  (l.foldl (fun a x=>if zL x.kind then joinD ⟨#[]⟩ a ⟨#[]⟩ (declR s df x) ⟨#[]⟩ else a) a).1=l.foldl (fun b x=>if zL x.kind then b++declT s df x else b) b
 | [],_,_,e,_=>e
 | x::l,a,b,e,h=>by
  rw[List.foldl_cons,List.foldl_cons];refine whole_same l _ _ ?_ fun y hy=>h y (List.mem_cons_of_mem _ hy)
  split
  ·rename_i hk
   rw[h x List.mem_cons_self hk,←e];simp only[joinD,nil_app,app_nil]
  ·exact e
theorem mems_flags:∀ (l:List MemD) (a:TextD),((memsR s df a l).2.1=true↔a.2.1=true∨∃m∈l,(useD s (s.length+1) [] m.type).2.1=true)∧((memsR s df a l).2.2=true↔a.2.2=true∨∃m∈l,(useD s (s.length+1) [] m.type).2.2=true)
 | [],a=>by simp[memsR]
 | m::l,a=>by
  have h:=mems_flags l (joinD ⟨#[]⟩ a (mHead m) (useD s (s.length+1) [] m.type) (mTail df m));have e:memsR s df a (m::l)=memsR s df (joinD ⟨#[]⟩ a (mHead m) (useD s (s.length+1) [] m.type) (mTail df m)) l:=rfl;rw[e,h.1,h.2];simp only[joinD,Bool.or_eq_true,List.mem_cons,exists_eq_or_imp,or_assoc,and_self]
theorem whole_flags:∀ (l:List TyD) (a:TextD),(∀x∈l,zL x.kind=true∨x.mems=[]) →
  ((l.foldl (fun a x=>if zL x.kind then joinD ⟨#[]⟩ a ⟨#[]⟩ (declR s df x) ⟨#[]⟩ else a) a).2.1=true↔a.2.1=true∨l.any badW=true∨∃u∈usesL l,(useD s (s.length+1) [] u).2.1=true) ∧
  ((l.foldl (fun a x=>if zL x.kind then joinD ⟨#[]⟩ a ⟨#[]⟩ (declR s df x) ⟨#[]⟩ else a) a).2.2=true↔a.2.2=true∨∃u∈usesL l,(useD s (s.length+1) [] u).2.2=true)
 | [],a,_=>by simp[usesL]
 | x::l,a,h=>by
  rw[List.foldl_cons];have ih:=whole_flags l (if zL x.kind then joinD ⟨#[]⟩ a ⟨#[]⟩ (declR s df x) ⟨#[]⟩ else a) fun y hy=>h y (List.mem_cons_of_mem _ hy)
  rw[ih.1,ih.2];have hu:∀ (P:Int→Prop),(∃u∈usesL (x::l),P u)↔(∃m∈x.mems,P m.type)∨∃u∈usesL l,P u:=fun P=>by
   unfold usesL;rw[List.flatMap_cons]
   constructor
   ·rintro ⟨u,hu,hp⟩
    rcases List.mem_append.1 hu with k|k
    ·obtain ⟨m,hm,rfl⟩:=List.mem_map.1 k
     exact .inl ⟨m,hm,hp⟩
    ·exact .inr ⟨u,k,hp⟩
   ·rintro (⟨m,hm,hp⟩|⟨u,hu,hp⟩)
    ·exact ⟨_,List.mem_append_left _ (List.mem_map.2 ⟨m,hm,rfl⟩),hp⟩
    ·exact ⟨u,List.mem_append_right _ hu,hp⟩
  rw[hu,hu,List.any_cons]
  cases hk:zL x.kind with
  | true =>
   have hm:=mems_flags (s:=s) (df:=df) x.mems (symsR (head0 x) x.syms,wordD x.name,false);have e:(declR s df x).2=(memsR s df (symsR (head0 x) x.syms,wordD x.name,false) x.mems).2:=rfl;simp only[if_true,joinD,e,Bool.or_eq_true,hm.1,hm.2,badW,hk,Bool.true_and,Bool.false_eq_true,false_or]
   constructor
   ·constructor
    ·rintro ((h|h|h)|h|h)
     ·exact .inl h
     ·exact .inr (.inl (.inl h))
     ·exact .inr (.inr (.inl h))
     ·exact .inr (.inl (.inr h))
     ·exact .inr (.inr (.inr h))
    ·rintro (h|(h|h)|h|h)
     ·exact .inl (.inl h)
     ·exact .inl (.inr (.inl h))
     ·exact .inr (.inl h)
     ·exact .inl (.inr (.inr h))
     ·exact .inr (.inr h)
   ·constructor
    ·rintro ((h|h)|h)
     ·exact .inl h
     ·exact .inr (.inl h)
     ·exact .inr (.inr h)
    ·rintro (h|h|h)
     ·exact .inl (.inl h)
     ·exact .inl (.inr h)
     ·exact .inr h
  | false =>
   have hm:x.mems=[]:=(h x List.mem_cons_self).elim (fun e=>by rw[hk] at e;cases e) id
   simp[hm,badW,hk]
theorem mems_named (hv:zJ s=0) {x:TyD} (hx:x∈s):zL x.kind=true∨x.mems=[]:=by
 have h:=(valid_tys hv hx).1;unfold formD at h;simp only[Bool.and_eq_true,decide_eq_true_eq] at h;have h3:=h.1.1.2
 by_cases hk:zL x.kind=true
 ·exact .inl hk
 right
 have hm:=congrArg TyD.mems h3;rw[hm];unfold zL at hk;simp only[Bool.or_eq_true,decide_eq_true_eq] at hk;unfold zV
 repeat' split
 all_goals first|rfl|(exfalso;omega)
theorem check_same (d:Int):checkR s d df=yN s d:=by
 unfold checkR yN
 by_cases hv:zJ s=0
 case neg=>rw[if_pos hv,if_pos hv]
 have e1:¬ zJ s≠0:=fun h=>h hv
 rw[if_neg e1,if_neg e1]
 by_cases hd:d=0
 case neg=>rw[if_pos hd,if_pos hd]
 have e2:¬ d≠0:=fun h=>h hd
 rw[if_neg e2,if_neg e2];have hw:=whole_flags (s:=s) (df:=df) s noT fun x hx=>mems_named hv hx
 have hr:=uses_rng hv;obtain ⟨_,n1⟩:=visits_ok hv (usesL s) (yH s.length) hr (VI.start s) (cntF_rep _);have hW:((usesL s).foldl (zU s (s.length+1)) (yH s.length)).word=true↔∃u∈usesL s,(useD s (s.length+1) [] u).2.1=true:=by
  constructor
  ·intro h
   rcases n1.w2 h with k|⟨u,hu,k⟩
   ·cases k
   ·obtain ⟨u1,_⟩:=use_flags hv (s.length+1) [] u (hr u hu) (PathOk.nil s u) (by simp)
    rcases u1.2 (.inl k) with k|⟨_,k,_⟩
    ·exact ⟨u,hu,k⟩
    ·cases k
  ·rintro ⟨u,hu,h⟩
   obtain ⟨u1,_⟩:=use_flags hv (s.length+1) [] u (hr u hu) (PathOk.nil s u) (by simp)
   rcases u1.1 (.inl h) with k|⟨_,k,_⟩
   ·exact n1.w1 ⟨u,hu,k⟩
   ·cases k
 have hC:((usesL s).foldl (zU s (s.length+1)) (yH s.length)).loop=true↔∃u∈usesL s,(useD s (s.length+1) [] u).2.2=true:=by
  constructor
  ·intro h
   rcases n1.c2 h with k|⟨u,hu,k⟩
   ·cases k
   ·obtain ⟨_,u2⟩:=use_flags hv (s.length+1) [] u (hr u hu) (PathOk.nil s u) (by simp)
    exact ⟨u,hu,u2.2 k⟩
  ·rintro ⟨u,hu,h⟩
   obtain ⟨_,u2⟩:=use_flags hv (s.length+1) [] u (hr u hu) (PathOk.nil s u) (by simp)
   exact n1.c1 ⟨u,hu,u2.1 h⟩
 unfold yL;unfold writtenD;simp only
 by_cases hb:s.any badW=true
 ·rw[if_pos hb,if_pos (hw.1.2 (.inr (.inl hb)))]
 rw[if_neg hb];have h1:((s.foldl (fun a x=>if zL x.kind then joinD ⟨#[]⟩ a ⟨#[]⟩ (declR s df x) ⟨#[]⟩ else a) noT).2.1=true)↔((usesL s).foldl (zU s (s.length+1)) (yH s.length)).word=true:=by
  rw[hw.1,hW];simp[noT,hb]
 have h2:((s.foldl (fun a x=>if zL x.kind then joinD ⟨#[]⟩ a ⟨#[]⟩ (declR s df x) ⟨#[]⟩ else a) noT).2.2=true)↔((usesL s).foldl (zU s (s.length+1)) (yH s.length)).loop=true:=by
  rw[hw.2,hC];simp[noT]
 simp only[h1,h2]
theorem whole_text {d:Int} (hc:yN s d=0):(yL s df s).1=printT s df s:=by
 obtain ⟨hv,_,_,_⟩:=check_parts hc;refine whole_same s noT _ rfl fun x hx hk=>decl_same hk fun m hm=>?_
 exact text_use hv _ [] m.type _ (mem_rng hv hx hm).2 (PathOk.nil s _) (by simp) (check_fin hc hx hm)
end
theorem isBuilderF_below {B b:Nat} {bs:List Value} {w w':World} (h:Lib.IsBuilderF 84 5 B b bs w) (hb:Below w.heap.size w w'):Lib.IsBuilderF 84 5 B b bs w':=by
 have hg:w.grownBy w' none:=⟨hb.os,hb.tape,hb.output,hb.size,fun k hk _=>hb.block k hk⟩
 have step:∀p,Lib.BuilderAtF 84 5 B b p bs w→Lib.BuilderAtF 84 5 B b p bs w':=fun p h=>by
  obtain ⟨hB,v,hbk,hown,hne⟩:=h;have hlt:=(zg.1 hbk).1;refine ⟨hB,v,(hb.block b hlt).trans hbk,?_,hne⟩
  rcases hv:v.ownBlock with _|g
  ·exact hown.kept hg (Or.inl hv)
  ·exact hown.kept hg (Or.inr (by rw[hv];simp))
 exact h.imp (step _) (step _)
def BldF (w:World) (B b:Nat) (s:ByteArray):Prop:=Lib.IsBuilderF 84 5 B b (Lib.strCells s) w
abbrev Oth (b:Nat) (w w':World):Prop:=Lib.OthersKept 5 (some b) w w'
section
variable {w w':World} {B b:Nat} {s:ByteArray}
theorem BldF.below (h:BldF w B b s) (hb:Below w.heap.size w w'):BldF w' B b s:=isBuilderF_below h hb
theorem BldF.new (w:World) (hB:B≤w.heap.size):BldF (w.alloc (.cells #[.pointer none,.slice none 0 0] 84)) B w.heap.size ⟨#[]⟩:=Lib.IsBuilderF.of (BldAt.new w hB)
theorem BldF.write (h:BldF w B b s) (x:ByteArray) (hl:s.size+x.size≤140737488355328) (hB:B≤w.heap.size) :
  Calls Tryz.prog 38 #[.pointer (some ⟨b,0,none⟩),.string x] w fun e w'=>e = .returned (.tuple #[.int .i64 x.size,.nilIface])∧BldF w' B b (s++x)∧Below B w w'∧Oth b w w' :=
 (Any.Builder_WriteString_k { Tryz.lays156 with } Tryz.Builder_Extra_156 B b (Lib.strCells s) x w h (by rw[Lib.strCells_length];exact hl) hB).mono fun _ _ ⟨h1,h2,h3,h4⟩=>⟨h1,by rw[strCells_app] at h2;exact Or.inr h2,h3,h4⟩
theorem BldF.str (h:BldF w B b s) (hB:B≤w.heap.size) :
  Calls Tryz.prog 41 #[.pointer (some ⟨b,0,none⟩)] w fun e w'=>e = .returned (.string s)∧Below B w w':=by
 have h':Lib.IsBuilderF 84 5 B b (Lib.byteCells s.data.toList) w:=by rw[←Lib.strCells_eq];exact h
 refine (Any.Builder_String_any_k Tryz.lays169 Tryz.Builder_Extra_169 B b s.data.toList w h' hB).mono fun _ _ ⟨h1,_,h3,_⟩=>⟨?_,h3⟩
 rw[h1]
end
theorem BldF.lt {w:World} {B b:Nat} {s:ByteArray} (h:BldF w B b s):b<w.heap.size:=by
 rcases h with ⟨_,_,h,_⟩|⟨_,_,h,_⟩ <;> exact (zg.1 h).1
theorem Oth.blk {b k:Nat} {w w':World} {cs:Array Value} {t:TypeId} {fz:Nat×Nat} (h:Oth b w w') (hk:w.heap[k]? = some (.cells cs t fz)) (hkb:k≠b) (ht:t≠5):w'.heap[k]? = some (.cells cs t fz) :=
 h k _ hk (fun e=>hkb (Option.some.inj e)) fun _ _ e=>by injection e with _ e2;exact ht e2
theorem OwnI.oth {w w':World} {base b:Nat} {v:Value} {l:List Int} (h:OwnI w base v l) (ho:Oth b w w') (hb:b<base):OwnI w' base v l :=
 OwnL.keep h fun g hg _ hv=>by
  obtain ⟨cur,fr,e⟩:=OwnL.block h hv;rw[e];exact ho.blk e (by omega) (by decide)
def ren167:Go.Shelf.Ren:=⟨fun|167=>151|240=>Tryz.lays156_ren.f 240|276=>Tryz.lays156_ren.f 276|n=>n,Tryz.lays156_ren.t,Tryz.lays156_ren.g⟩
theorem lays167:Go.Proofs.Lays.n167 Tryz.prog ren167:={ Tryz.lays156 with
 mixed:=by kernel_rfl
 f167:=Tryz.func151.trans (congrArg some (by kernel_rfl))
 f240:=Tryz.lays156.f240
 f276:=Tryz.lays156.f276
 t5:=Tryz.underlying5
 a5:=Tryz.isAgg5
 z5:=Tryz.sizeOf5
 v5:=Tryz.zeroValue5 }
theorem extra167:Builder.Extra Tryz.prog ren167:={
 sizeBuilder:=by kernel_rfl
 liesBuilder:=by kernel_rfl
 t5:=Tryz.underlying5
 a5:=Tryz.isAgg5
 z5:=Tryz.sizeOf5
 v5:=Tryz.zeroValue5
 infoByte:=by kernel_rfl
 cellsByte:=by kernel_rfl
 sizeByte:=by kernel_rfl
 neB5:=by decide }
def oneB (c:UInt8):ByteArray:=⟨#[c]⟩
theorem strCells_one (c:UInt8):Lib.strCells (oneB c)=[.int .u8 c.toNat]:=rfl
theorem BldF.byte {w:World} {B b:Nat} {s:ByteArray} (h:BldF w B b s) (c:UInt8) (hl:s.size+1≤140737488355328) (hB:B≤w.heap.size) :
  Calls Tryz.prog 151 #[.pointer (some ⟨b,0,none⟩),.int .u8 c.toNat] w fun e w'=>e = .returned .nilIface∧BldF w' B b (s++oneB c)∧Below B w w'∧Oth b w w' :=
 (Any.Builder_WriteByte_k lays167 extra167 B b (Lib.strCells s) c.toNat w h (by rw[Lib.strCells_length];exact hl) hB).mono fun _ _ ⟨h1,h2,h3,h4⟩=>⟨h1,by rw[←strCells_one,strCells_app] at h2;exact Or.inr h2,h3,h4⟩
theorem boolText_any (b:Bool) (w:World) :
  Calls Tryz.prog 149 #[.bool b] w fun e w'=>e = .returned (.string (if b then ⟨#[116,114,117,101]⟩ else ⟨#[102,97,108,115,101]⟩))∧w'=w :=
 (Tryz.strconv_FormatBool b w).mono fun _ _ ⟨h1,h2⟩=>⟨by rw[h1];cases b <;> rfl,h2⟩
theorem comma_any {w:World} {B b:Nat} {s:ByteArray} (h:BldF w B b s) (i:Nat) (hl:s.size+(if i=0 then (⟨#[]⟩:ByteArray) else ⟨#[44,32]⟩).size≤140737488355328) (hB:B≤w.heap.size) :
  Calls Tryz.prog 152 #[.pointer (some ⟨b,0,none⟩),.int .i64 i] w fun e w'=>e = .returned (.tuple #[])∧BldF w' B b (s++(if i=0 then ⟨#[]⟩ else ⟨#[44,32]⟩))∧Below B w w'∧Oth b w w':=by
 have H:=zh h;have HG:=zh hB;have hlt:=h.lt
 by_cases hi:i=0
 ·subst hi
  clear h hl
  go_enter Tryz.func152,Tryz.ntmps152
  go_wp2
  refine bodyPost_end (results_none (by rfl) _ _ _) rfl ⟨rfl,?_,Below.refl _ _,fun _ _ h _ _=>h⟩
  show BldF w B b (s++ByteArray.empty)
  rw[ByteArray.append_empty];exact H.out
 ·have HL:Hid (s.size+(⟨#[44,32]⟩:ByteArray).size≤140737488355328):=by rw[if_neg hi] at hl;exact hl
  have p1:(0:Int)<(i:Int):=by omega
  rw[if_neg hi];clear h hl hi
  go_enter Tryz.func152,Tryz.ntmps152
  go_wp2_with fail
  refine (H.out.write ⟨#[44,32]⟩ HL.out HG.out).mono ?_;rintro e w1 ⟨rfl,h1,h2,h3⟩;have H1:=zh h1;have H2:=zh h2;have H3:=zh h3;clear h1 h2 h3;go_wp2;refine bodyPost_end (results_none (by rfl) _ _ _) rfl ⟨rfl,H1.out,H2.out,H3.out⟩
theorem hexText_get (n:Nat) (h:n<16):(ByteArray.mk #[48,49,50,51,52,53,54,55,56,57,97,98,99,100,101,102]).data.getD n 0=hexB n:=by
 have:∀m:Fin 16,(ByteArray.mk #[48,49,50,51,52,53,54,55,56,57,97,98,99,100,101,102]).data.getD m.1 0=hexB m.1:=by decide
 exact this ⟨n,h⟩
theorem hexG (n:Nat) (h:n<16) {h'}:(ByteArray.mk #[48,49,50,51,52,53,54,55,56,57,97,98,99,100,101,102])[n]'h'=hexB n:=by
 rw[←hexText_get n h]
 show Array.getInternal _ n _=_
 rw[Array.getD_eq_getD_getElem?,Array.getElem?_eq_getElem (by exact h)]
 rfl
theorem quK_succ {s:ByteArray} {k:Nat} (h:k<s.size):quK s (k+1)=quK s k++quB s[k]:=by
 rw[quK]
 congr 2
 show s.data.getD k 0=s.data[k]
 rw[Array.getD_eq_getD_getElem?,Array.getElem?_eq_getElem h];rfl
theorem app_one (a:ByteArray) (x y:UInt8):a++oneB x++oneB y=a++(⟨#[x,y]⟩:ByteArray):=by
 rw[ByteArray.append_assoc];rfl
theorem quote_any (s:ByteArray) (hl:(quD s).size≤140737488355328) (w:World) :
  Calls Tryz.prog 150 #[.string s] w fun e w'=>e = .returned (.string (quD s))∧Below w.heap.size w w':=by
 have HL:Hid ((quK s s.size).size+1≤140737488355328):=by
  show _≤_
  unfold quD at hl;rw[ByteArray.size_append] at hl;exact hl
 have hz:s.size<9223372036854775807:=by
  have:∀k,k≤(quK s k).size:=fun k=>by
   induction k with
   | zero=>exact Nat.zero_le _
   | succ k ih =>
    have:1≤(quB (s.data.getD k 0)).size:=by
     unfold quB
     repeat' split
     all_goals (first|(show 1≤2;omega)|(show 1≤4;omega)|exact Nat.le_refl _)
    unfold quK;rw[ByteArray.size_append];omega
  have:=this s.size;have:=HL.out
  omega
 have HB0:=zh (zD w (.cells #[.pointer none,.slice none 0 0] 84));have HN0:=zh (BldF.new w (Nat.le_refl _));clear hl
 go_enter Tryz.func150,Tryz.ntmps150
 go_wp2_with fail
 have hs0:w.heap.size<(w.alloc (.cells #[.pointer none,.slice none 0 0] 84)).heap.size:=by simp
 generalize w.alloc (.cells #[.pointer none,.slice none 0 0] 84)=W1 at *;refine (HN0.out.byte 34 (by show 0+1≤_;omega) HB0.out.size).mono ?_
 rintro e w1 ⟨rfl,h1,h2,_⟩;have HN1:Hid (BldF w1 w.heap.size w.heap.size (quK s 0)):=by
  have e:(⟨#[]⟩:ByteArray)++oneB 34=quK s 0:=rfl;rw[e] at h1;exact h1
 have HB1:=zh (HB0.out.trans h2);clear h1 h2 hs0;go_wp2_with fail
 go_loopw [9] (fun i wr=>∃k:Nat,k≤s.size∧i = .int .i64 k∧Hid (BldF wr w.heap.size w.heap.size (quK s k)∧Below w.heap.size w wr)) (fun i _=>s.size - (intOf i).toNat)
 case atStart=>exact ⟨0,by omega,rfl,HN1.out,HB1.out⟩
 case round =>
  obtain ⟨k,hk,rfl,hh⟩:=hrel;have HN:=zh hh.out.1;have HB:=zh hh.out.2;clear hh
  by_cases hlt:k<s.size
  ·have HS1:=zh (quK_succ hlt)
   have HZ:Hid ((quK s (k+1)).size+1≤140737488355328):=by
    have:=HL.out;have:=quK_mono s (show k+1≤s.size by omega)
    show _≤_
    omega
   have h1:(0:Int)≤(k:Int):=by omega
   have h2:(k:Int)<(s.size:Int):=by omega
   go_upto_region 8 with fail
   generalize s[k]=ch at *;generalize hQ:quK s k=Q at *;have hch:ch.toNat<256:=ch.toNat_lt;have HT:Hid (∀X,X=quB ch→Q++X=quK s (k+1)):=fun X hX=>by rw[hX,HS1.out]
   have HZ2:Hid (∀X,X=quB ch→Q.size+X.size+1≤140737488355328):=fun X hX=>by
    have:=HZ.out;rw[←HT.out X hX,ByteArray.size_append] at this;exact this
   have HQB:Hid (quB ch=if ch.toNat=34∨ch.toNat=92 then ⟨#[92,ch]⟩ else if ch.toNat=10 then ⟨#[92,110]⟩ else if ch.toNat<32∨126<ch.toNat then ⟨#[92,120,hexB (ch.toNat / 16),hexB (ch.toNat % 16)]⟩ else ⟨#[ch]⟩):=rfl
   clear HS1 HZ hQ
   by_cases c1:ch.toNat=34∨ch.toNat=92
   ·have HC:=zh (HQB.out.trans (if_pos c1))
    have HZ3:=zh (HZ2.out _ HC.out.symm);have HT3:=zh (HT.out _ HC.out.symm);have HD:(ch.toNat=34)∨(¬ ch.toNat=34∧ch.toNat=92):=by omega
    clear c1 HC HZ2 HT HQB
    rcases HD with p34|⟨p34,p92⟩
    ·have q1:((ch.toNat:Int)==34)=true:=by simp[p34]
     clear p34;go_wp2_with fail;refine (HN.out.byte 92 (by have:=HZ3.out;rw[show (ByteArray.mk #[92,ch]).size=2 from rfl] at this;omega) HB.out.size).mono ?_
     rintro e w5 ⟨rfl,g1,g2,_⟩;have HN5:=zh g1;have HB5:=zh (HB.out.trans g2);clear g1 g2;go_wp2_with fail;refine (HN5.out.byte ch (by have:=HZ3.out;rw[show (ByteArray.mk #[92,ch]).size=2 from rfl] at this;rw[ByteArray.size_append];show _+1+1≤_;omega) HB5.out.size).mono ?_
     rintro e w6 ⟨rfl,g1,g2,_⟩;have HN6:=zh g1;have HB6:=zh (HB5.out.trans g2);clear g1 g2;have HF:Hid (BldF w6 w.heap.size w.heap.size (quK s (k+1))):=by
      have h:=HN6.out
      show BldF _ _ _ _
      rw[app_one,HT3.out] at h;exact h
     clear HN6;go_wp2;go_roundw
     case rel=>exact ⟨k+1,by omega,by go_num,HF.out,HB6.out⟩
     case measure=>simp[intOf];omega
    ·have q1:((ch.toNat:Int)==34)=false:=by simp;omega
     have q2:((ch.toNat:Int)==92)=true:=by simp[p92]
     clear p34 p92;go_wp2_with fail;refine (HN.out.byte 92 (by have:=HZ3.out;rw[show (ByteArray.mk #[92,ch]).size=2 from rfl] at this;omega) HB.out.size).mono ?_
     rintro e w5 ⟨rfl,g1,g2,_⟩;have HN5:=zh g1;have HB5:=zh (HB.out.trans g2);clear g1 g2;go_wp2_with fail;refine (HN5.out.byte ch (by have:=HZ3.out;rw[show (ByteArray.mk #[92,ch]).size=2 from rfl] at this;rw[ByteArray.size_append];show _+1+1≤_;omega) HB5.out.size).mono ?_
     rintro e w6 ⟨rfl,g1,g2,_⟩;have HN6:=zh g1;have HB6:=zh (HB5.out.trans g2);clear g1 g2;have HF:Hid (BldF w6 w.heap.size w.heap.size (quK s (k+1))):=by
      have h:=HN6.out
      show BldF _ _ _ _
      rw[app_one,HT3.out] at h;exact h
     clear HN6;go_wp2;go_roundw
     case rel=>exact ⟨k+1,by omega,by go_num,HF.out,HB6.out⟩
     case measure=>simp[intOf];omega
   ·have q1:((ch.toNat:Int)==34)=false:=by simp;omega
    have q2:((ch.toNat:Int)==92)=false:=by simp;omega
    have HQ1:=zh (HQB.out.trans (if_neg c1))
    by_cases c2:ch.toNat=10
    ·have HC:=zh (HQ1.out.trans (if_pos c2))
     have HZ3:=zh (HZ2.out _ HC.out.symm);have HT3:=zh (HT.out _ HC.out.symm);have q3:((ch.toNat:Int)==10)=true:=by simp[c2]
     clear c1 c2 HC HZ2 HT HQB HQ1;go_wp2_with fail;refine (HN.out.write ⟨#[92,110]⟩ (by have:=HZ3.out;omega) HB.out.size).mono ?_
     rintro e w5 ⟨rfl,g1,g2,_⟩;have HN5:=zh g1;have HB5:=zh (HB.out.trans g2);clear g1 g2;have HF:Hid (BldF w5 w.heap.size w.heap.size (quK s (k+1))):=by
      have h:=HN5.out
      show BldF _ _ _ _
      rw[HT3.out] at h;exact h
     clear HN5;go_wp2;go_roundw
     case rel=>exact ⟨k+1,by omega,by go_num,HF.out,HB5.out⟩
     case measure=>simp[intOf];omega
    ·have q3:((ch.toNat:Int)==10)=false:=by simp;omega
     have HQ2:=zh (HQ1.out.trans (if_neg c2))
     by_cases c3:ch.toNat<32∨126<ch.toNat
     ·have HC:=zh (HQ2.out.trans (if_pos c3))
      have HZ3:=zh (HZ2.out _ HC.out.symm);have HT3:=zh (HT.out _ HC.out.symm);have HD:(ch.toNat:Int)<32∨(¬ (ch.toNat:Int)<32∧(126:Int)<(ch.toNat:Int)):=by omega
      clear c1 c2 c3 HC HZ2 HT HQB HQ1 HQ2
      rcases HD with p1|⟨p1,p2⟩
      ·go_wp2_with fail
       refine (HN.out.write ⟨#[92,120]⟩ (by have:=HZ3.out;rw[show (ByteArray.mk #[92,120,hexB (ch.toNat / 16),hexB (ch.toNat % 16)]).size=4 from rfl] at this;show _+2≤_;omega) HB.out.size).mono ?_
       rintro e w5 ⟨rfl,g1,g2,_⟩;have HN5:=zh g1;have HB5:=zh (HB.out.trans g2);clear g1 g2;go_wp2_with fail;refine (HN5.out.byte _ (by have:=HZ3.out;rw[show (ByteArray.mk #[92,120,hexB (ch.toNat / 16),hexB (ch.toNat % 16)]).size=4 from rfl] at this;rw[ByteArray.size_append];show _+2+1≤_;omega) HB5.out.size).mono ?_
       rintro e w6 ⟨rfl,g1,g2,_⟩;have HN6:=zh g1;have HB6:=zh (HB5.out.trans g2);clear g1 g2;go_wp2_with fail;refine (HN6.out.byte _ (by have:=HZ3.out;rw[show (ByteArray.mk #[92,120,hexB (ch.toNat / 16),hexB (ch.toNat % 16)]).size=4 from rfl] at this;rw[ByteArray.size_append,ByteArray.size_append];show _+2+1+1≤_;omega) HB6.out.size).mono ?_
       rintro e w7 ⟨rfl,g1,g2,_⟩;have HN7:=zh g1;have HB7:=zh (HB6.out.trans g2);clear g1 g2;have HF:Hid (BldF w7 w.heap.size w.heap.size (quK s (k+1))):=by
        have h:=HN7.out
        show BldF _ _ _ _
        rw[hexG _ (by omega),hexG _ (by omega),show Q++(⟨#[92,120]⟩:ByteArray)++oneB (hexB (ch.toNat / 16))++oneB (hexB (ch.toNat % 16))=Q++(⟨#[92,120,hexB (ch.toNat / 16),hexB (ch.toNat % 16)]⟩:ByteArray) by rw[ByteArray.append_assoc,ByteArray.append_assoc];rfl,HT3.out] at h;exact h
       clear HN7;go_wp2;go_roundw
       case rel=>exact ⟨k+1,by omega,by go_num,HF.out,HB7.out⟩
       case measure=>simp[intOf];omega
      ·go_wp2_with fail
       refine (HN.out.write ⟨#[92,120]⟩ (by have:=HZ3.out;rw[show (ByteArray.mk #[92,120,hexB (ch.toNat / 16),hexB (ch.toNat % 16)]).size=4 from rfl] at this;show _+2≤_;omega) HB.out.size).mono ?_
       rintro e w5 ⟨rfl,g1,g2,_⟩;have HN5:=zh g1;have HB5:=zh (HB.out.trans g2);clear g1 g2;go_wp2_with fail;refine (HN5.out.byte _ (by have:=HZ3.out;rw[show (ByteArray.mk #[92,120,hexB (ch.toNat / 16),hexB (ch.toNat % 16)]).size=4 from rfl] at this;rw[ByteArray.size_append];show _+2+1≤_;omega) HB5.out.size).mono ?_
       rintro e w6 ⟨rfl,g1,g2,_⟩;have HN6:=zh g1;have HB6:=zh (HB5.out.trans g2);clear g1 g2;go_wp2_with fail;refine (HN6.out.byte _ (by have:=HZ3.out;rw[show (ByteArray.mk #[92,120,hexB (ch.toNat / 16),hexB (ch.toNat % 16)]).size=4 from rfl] at this;rw[ByteArray.size_append,ByteArray.size_append];show _+2+1+1≤_;omega) HB6.out.size).mono ?_
       rintro e w7 ⟨rfl,g1,g2,_⟩;have HN7:=zh g1;have HB7:=zh (HB6.out.trans g2);clear g1 g2;have HF:Hid (BldF w7 w.heap.size w.heap.size (quK s (k+1))):=by
        have h:=HN7.out
        show BldF _ _ _ _
        rw[hexG _ (by omega),hexG _ (by omega),show Q++(⟨#[92,120]⟩:ByteArray)++oneB (hexB (ch.toNat / 16))++oneB (hexB (ch.toNat % 16))=Q++(⟨#[92,120,hexB (ch.toNat / 16),hexB (ch.toNat % 16)]⟩:ByteArray) by rw[ByteArray.append_assoc,ByteArray.append_assoc];rfl,HT3.out] at h;exact h
       clear HN7;go_wp2;go_roundw
       case rel=>exact ⟨k+1,by omega,by go_num,HF.out,HB7.out⟩
       case measure=>simp[intOf];omega
     ·have HC:=zh (HQ2.out.trans (if_neg c3))
      have HZ3:=zh (HZ2.out _ HC.out.symm);have HT3:=zh (HT.out _ HC.out.symm);have p1:¬ (ch.toNat:Int)<32:=by omega
      have p2:¬ (126:Int)<(ch.toNat:Int):=by omega
      clear c1 c2 c3 HC HZ2 HT HQB HQ1 HQ2;go_wp2_with fail;refine (HN.out.byte ch (by have:=HZ3.out;rw[show (ByteArray.mk #[ch]).size=1 from rfl] at this;omega) HB.out.size).mono ?_
      rintro e w5 ⟨rfl,g1,g2,_⟩;have HN5:=zh g1;have HB5:=zh (HB.out.trans g2);clear g1 g2;have HF:Hid (BldF w5 w.heap.size w.heap.size (quK s (k+1))):=by
       have h:=HN5.out
       show BldF _ _ _ _
       rw[show Q++oneB ch=Q++(⟨#[ch]⟩:ByteArray) from rfl,HT3.out] at h;exact h
      clear HN5;go_wp2;go_roundw
      case rel=>exact ⟨k+1,by omega,by go_num,HF.out,HB5.out⟩
      case measure=>simp[intOf];omega
  ·obtain rfl:k=s.size:=by omega
   go_wp2_with fail
   refine (HN.out.byte 34 HL.out HB.out.size).mono ?_;rintro e w2 ⟨rfl,h1,h2,_⟩;have HN2:Hid (BldF w2 w.heap.size w.heap.size (quD s)):=h1;have HB2:=zh (HB.out.trans h2);clear h1 h2;go_wp2_with fail;refine (HN2.out.str HB2.out.size).mono ?_;rintro e w3 ⟨rfl,h3⟩;have HB3:=zh (HB2.out.trans h3);clear h3;go_wp2;go_ret;exact ⟨rfl,HB3.out⟩
theorem enc_asc {ch:UInt8} (h:ch.toNat<128):Utf8.encode (ch.toNat:Int)=⟨#[ch]⟩:=by
 have key:∀n:Fin 128,Utf8.encode ((UInt8.ofNat n.1).toNat:Int)=⟨#[UInt8.ofNat n.1]⟩:=by decide +kernel
 have:=key ⟨ch.toNat,h⟩;rw[show UInt8.ofNat ch.toNat=ch by simp] at this
 exact this
theorem hexX {m:Nat} (q:Nat) (h:q<16) (h':m<16):(⟨#[92,120]⟩:ByteArray)++(ByteArray.mk #[48,49,50,51,52,53,54,55,56,57,97,98,99,100,101,102]).extract q (q+1)++(ByteArray.mk #[48,49,50,51,52,53,54,55,56,57,97,98,99,100,101,102]).extract m (m+1)=⟨#[92,120,hexB q,hexB m]⟩:=by
 have key:∀n:Fin 16,(ByteArray.mk #[48,49,50,51,52,53,54,55,56,57,97,98,99,100,101,102]).extract n.1 (n.1+1)=⟨#[hexB n.1]⟩:=by decide +kernel
 rw[key ⟨q,h⟩,key ⟨m,h'⟩]
 rfl
theorem rQuoted_any (ch:UInt8) (w:World) :
  Calls Tryz.prog 182 #[.int .u8 ch.toNat] w fun e w'=>e = .returned (.string (quB ch))∧Below w.heap.size w w':=by
 have hch:ch.toNat<256:=ch.toNat_lt;have HQB:Hid (quB ch=if ch.toNat=34∨ch.toNat=92 then ⟨#[92,ch]⟩ else if ch.toNat=10 then ⟨#[92,110]⟩ else if ch.toNat<32∨126<ch.toNat then ⟨#[92,120,hexB (ch.toNat / 16),hexB (ch.toNat % 16)]⟩ else ⟨#[ch]⟩):=rfl
 have HEN:=zh (fun h=>enc_asc (ch:=ch) h)
 have HCH:Hid (ByteArray.mk #[92,ch]=⟨#[92]⟩++⟨#[ch]⟩):=rfl;obtain ⟨r,hr⟩:∃r,ch.toNat=r:=⟨_,rfl⟩;generalize quB ch=Q at *;generalize hC2:ByteArray.mk #[92,ch]=C2 at *;generalize hC1:ByteArray.mk #[ch]=C1 at *;have hz1:C1.size=1:=by rw[←hC1];rfl
 rw[hr] at HQB HEN hch;rw[hr];clear hr hC1 hC2;have u1:IntKind.i32.wrap (r:Int)=(r:Int):=by rw[IntKind.wrap_i32];omega
 go_enter Tryz.func182,Tryz.ntmps182
 by_cases c1:r=34∨r=92
 ·have HC:=zh (HQB.out.trans (if_pos c1))
  have HE:=zh (HEN.out (by omega))
  have n1:¬ 9223372036854775807<(⟨#[92]⟩:ByteArray).size+(Utf8.encode (r:Int)).size:=by rw[HE.out,hz1];show ¬ _<1+1;omega
  have n2:¬ 9223372036854775807<1+(Utf8.encode (r:Int)).size:=n1;have HD:(¬ r=92∧r=34)∨r=92:=by omega
  generalize hen:Utf8.encode (r:Int)=EN at *;clear c1 HQB HEN
  rcases HD with ⟨p92,p34⟩|p92
  ·have q1:((r:Int)==92)=false:=by simp;omega
   have q2:((r:Int)==34)=true:=by simp[p34]
   clear p92 p34;go_wp2;go_ret;exact ⟨by rw[HC.out,HCH.out,HE.out];rfl,Below.refl _ _⟩
  ·have q1:((r:Int)==92)=true:=by simp[p92]
   clear p92;go_wp2;go_ret;exact ⟨by rw[HC.out,HCH.out,HE.out];rfl,Below.refl _ _⟩
 ·have q1:((r:Int)==92)=false:=by simp;omega
  have q2:((r:Int)==34)=false:=by simp;omega
  have HQ1:=zh (HQB.out.trans (if_neg c1))
  by_cases c2:r=10
  ·have HC:=zh (HQ1.out.trans (if_pos c2))
   have q3:((r:Int)==10)=true:=by simp[c2]
   clear c1 c2 HQB HQ1 HEN;go_wp2;go_ret;exact ⟨by rw[HC.out];rfl,Below.refl _ _⟩
  ·have q3:((r:Int)==10)=false:=by simp;omega
   have HQ2:=zh (HQ1.out.trans (if_neg c2))
   by_cases c3:r<32∨126<r
   ·have HC:=zh (HQ2.out.trans (if_pos c3))
    have HD:(¬ (32:Int)≤(r:Int))∨((32:Int)≤(r:Int)∧¬ (r:Int)≤126):=by omega
    obtain ⟨q,hq⟩:∃q,q=r / 16:=⟨_,rfl⟩;obtain ⟨m,hm⟩:∃m,m=r % 16:=⟨_,rfl⟩;have hq16:q<16:=by omega
    have hm16:m<16:=by omega
    have ed1:(r:Int).tdiv 16=(q:Int):=by rw[hq];rfl
    have ed2:(r:Int) / 16=(q:Int):=by omega
    have em1:(r:Int).tmod 16=(m:Int):=by rw[hm];rfl
    have em2:(r:Int) % 16=(m:Int):=by omega
    have uq:IntKind.u8.wrap (q:Int)=(q:Int):=by rw[IntKind.wrap_u8];omega
    have um:IntKind.u8.wrap (m:Int)=(m:Int):=by rw[IntKind.wrap_u8];omega
    have uq1:IntKind.u8.wrap ((q:Int)+1)=(q:Int)+1:=by rw[IntKind.wrap_u8];omega
    have um1:IntKind.u8.wrap ((m:Int)+1)=(m:Int)+1:=by rw[IntKind.wrap_u8];omega
    have n5:¬ 9223372036854775807<2+(min (q+1) 16 - q):=by omega
    have n6:¬ 9223372036854775807<2+(min (q+1) 16 - q)+(min (m+1) 16 - m):=by omega
    have g1:(0:Int)≤(q:Int):=by omega
    have g2:(0:Int)≤(m:Int):=by omega
    have g3:(q:Int)≤(q:Int)+1:=by omega
    have g4:(m:Int)≤(m:Int)+1:=by omega
    have g5:(q:Int)+1≤16:=by omega
    have g6:(m:Int)+1≤16:=by omega
    rw[←hq,←hm] at HC;have HQM:=zh (And.intro hq16 hm16);clear c1 c2 c3 HQB HQ1 HQ2 HEN hq hm
    rcases HD with p1|⟨p1,p2⟩
    ·go_upto_region 8 with fail
     refine wp_region_held_drew (S:=(fun w'=>Hid (Below w.heap.size w w'))) (by kernel_rfl) ?_ (fun zH_=>?_)
     ·(try dsimp only);exact zC (Below.refl _ _) 1
     refine tL 0 ?_;refine tL 1 ?_;refine tL 2 ?_;refine tL 3 ?_;refine tL 4 ?_;refine tL 5 ?_;try simp only[ps]
     refine tL 6 ?_;refine tL 7 ?_;refine tL 8 ?_;refine tL 9 ?_;refine tL 10 ?_;refine tL 11 ?_;try simp only[ps]
     refine tL 12 ?_;refine tL 13 ?_;refine tL 14 ?_;refine tL 15 ?_;refine tL 16 ?_;refine wpAnyH_done (by kernel_rfl) ?_ _
     have HBZ:=zH_;clear zH_;go_wp2;go_ret;exact ⟨by rw[HC.out,←hexX q HQM.out.1 HQM.out.2];rfl,HBZ.out⟩
    ·go_upto_region 8 with fail
     refine wp_region_held_drew (S:=(fun w'=>Hid (Below w.heap.size w w'))) (by kernel_rfl) ?_ (fun zH_=>?_)
     ·(try dsimp only);exact zC (Below.refl _ _) 1
     refine tL 0 ?_;try simp only[ps]
     refine tL 1 ?_;refine tL 2 ?_;refine tL 3 ?_;refine tL 4 ?_;refine tL 5 ?_;refine tL 6 ?_;try simp only[ps]
     refine tL 7 ?_;refine tL 8 ?_;refine tL 9 ?_;refine tL 10 ?_;refine tL 11 ?_;refine tL 12 ?_;try simp only[ps]
     refine tL 13 ?_;refine tL 14 ?_;refine tL 15 ?_;refine tL 16 ?_;refine wpAnyH_done (by kernel_rfl) ?_ _
     have HBZ:=zH_;clear zH_;go_wp2;go_ret;exact ⟨by rw[HC.out,←hexX q HQM.out.1 HQM.out.2];rfl,HBZ.out⟩
   ·have HC:=zh (HQ2.out.trans (if_neg c3))
    have HE:=zh (HEN.out (by omega))
    have p1:(32:Int)≤(r:Int):=by omega
    have p2:(r:Int)≤126:=by omega
    generalize hen:Utf8.encode (r:Int)=EN at *;clear c1 c2 c3 HQB HQ1 HQ2 HEN;go_wp2;go_ret;exact ⟨by rw[HC.out,←HE.out];rfl,Below.refl _ _⟩
theorem quB_pos (c:UInt8):1≤(quB c).size:=by
 unfold quB
 repeat' split
 all_goals (first|(show 1≤2;omega)|(show 1≤4;omega)|exact Nat.le_refl _)
theorem quK_ge (s:ByteArray):∀k,k≤(quK s k).size
 | 0=>Nat.zero_le _
 | k+1=>by
  have:=quK_ge s k;have:=quB_pos (s.data.getD k 0);unfold quK;rw[ByteArray.size_append]
  omega
theorem rQuote_any (s:ByteArray) (hl:(quD s).size≤140737488355328) (w:World) :
  Calls Tryz.prog 173 #[.string s] w fun e w'=>e = .returned (.string (quD s))∧Below w.heap.size w w':=by
 have HL:Hid ((quK s s.size).size+1≤140737488355328):=by
  show _≤_
  unfold quD at hl;rw[ByteArray.size_append] at hl;exact hl
 have hz:s.size<9223372036854775807:=by have:=quK_ge s s.size;have:=HL.out;omega
 have HQ0:Hid (quK s 0=⟨#[34]⟩):=rfl;clear hl
 go_enter Tryz.func173,Tryz.ntmps173
 go_wp2_with fail
 go_loopw [3,4] (fun o i wr=>∃k:Nat,k≤s.size∧o = .string (quK s k)∧i = .int .i64 (k:Int)∧Hid (Below w.heap.size w wr)) (fun _ i _=>s.size - (intOf i).toNat)
 case atStart=>exact ⟨0,by omega,by rw[HQ0.out],rfl,Below.refl _ _⟩
 case round =>
  obtain ⟨k,hk,rfl,rfl,hh⟩:=hrel;obtain ⟨wk,rfl⟩:∃wk:World,wk=wr:=⟨_,rfl⟩;have HB:=zh hh.out;clear hh
  by_cases hlt:k<s.size
  ·have HS1:=zh (quK_succ hlt)
   have h1:(0:Int)≤(k:Int):=by omega
   have h2:(k:Int)<(s.size:Int):=by omega
   have hsz:=quK_mono s (show k+1≤s.size by omega)
   rw[HS1.out,ByteArray.size_append] at hsz;have n1:¬ 9223372036854775807<(quK s k).size+(quB s[k]).size:=by have:=HL.out;omega
   have HCL:=zh (rQuoted_any s[k]);clear hsz;go_wp2_with fail;refine (HCL.out _).mono ?_;rintro e w2 ⟨rfl,hb2⟩;have HB2:=zh (zB HB.out hb2);clear hb2;go_wp2;go_roundw
   case rel=>exact ⟨k+1,by omega,by rw[HS1.out],by go_num,HB2.out⟩
   case measure=>simp[intOf];omega
  ·obtain rfl:k=s.size:=by omega
   have HD:Hid (quD s=quK s s.size++⟨#[34]⟩):=rfl;have n1:¬ 9223372036854775807<(quK s s.size).size+(⟨#[34]⟩:ByteArray).size:=by have:=HL.out;show ¬ _<_+1;omega
   have n2:¬ 9223372036854775807<(quK s s.size).size+1:=n1;go_wp2;go_ret;exact ⟨by rw[HD.out];rfl,HB.out⟩
end Go.Proofs.YtdfolgmcggdjdaaGreatDoor


