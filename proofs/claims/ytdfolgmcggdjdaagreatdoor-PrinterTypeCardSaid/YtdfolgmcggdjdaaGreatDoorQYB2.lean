/-
  Walks: place.
-/
import Derived.Test.YtdfolgmcggdjdaaGreatDoorQYB1
namespace Go.Proofs.YtdfolgmcggdjdaaGreatDoor
open Go.RowKit
set_option maxHeartbeats 16000000
set_option maxRecDepth 100000
section
variable {A:Option Addr} {n c p gi:Nat} {ix:List Int} {S S':Nat→Prop} {W W' W0:World} {v v1:Value} {L:List TyA}
theorem TdS.mono (h:TdS A n c p gi ix S W v L) (hs:∀q,S' q→S q) (hp:S' p):TdS A n c p gi ix S' W v L :=
 ⟨h.blk,h.ixb,h.lt,hp,h.len,h.own,fun x hx=>(h.off x hx).mono fun q _ h'=>h'.imp (hs q) id⟩
theorem TdS.other (h : TdS A n c p gi ix S W v L) {g : Nat} (hS : S g) (h1 : g ≠ p) (h2 : g ≠ gi) (h3 : v.ownBlock ≠ some g) (j : Nat) (u : Value) : TdS A n c p gi ix S (W.setCell ⟨g, j, none⟩ u) v L :=
  ⟨(heap_setCell_other _ _ _ _ (by simpa using h1.symm)).trans h.blk, (heap_setCell_other _ _ _ _ (by simpa using h2.symm)).trans h.ixb, h.lt, h.sp, h.len,
    h.own.keep fun q _ _ hq => heap_setCell_other _ _ _ _ (fun e => h3 (by have e : q = g := e; rw [← e]; exact hq)), fun x hx => (h.off x hx).set u (.inl hS)⟩
theorem Chg.new (h:Chg p v v1 W0 W) {g:Nat} (hg:W0.heap.size≤g) (hp:p≤g) (j:Nat) (u:Value):Chg p v v1 W0 (W.setCell ⟨g,j,none⟩ u) :=
 ⟨h.bel.setCell (p:=⟨g,j,none⟩) hp u,fun q h1 h2 h3=>(heap_setCell_other _ _ _ _ (by simp only;omega)).trans (h.oth q h1 h2 h3),h.own⟩
end
structure Kp (v:Value) (W W':World):Prop where
 size:W.heap.size≤W'.heap.size
 oth:∀q,q<W.heap.size→v.ownBlock≠some q→W'.heap[q]? = W.heap[q]?
theorem Kp.of {v:Value} {W W':World} (h:Below W.heap.size W W'):Kp v W W':=⟨h.size,fun q hq _=>h.block q hq⟩
theorem Kp.below {v:Value} {W W' W2:World} (h:Kp v W W') (hb:Below W'.heap.size W' W2):Kp v W W2 :=
 ⟨Nat.le_trans h.size hb.size,fun q hq hv=>(hb.block q (Nat.lt_of_lt_of_le hq h.size)).trans (h.oth q hq hv)⟩
theorem Kp.grown {v:Value} {W W' W2:World} (h:Kp v W W') (hg:W'.grownBy W2 v.ownBlock):Kp v W W2 :=
 ⟨Nat.le_trans h.size hg.size,fun q hq hv=>(grown_block hg (Nat.lt_of_lt_of_le hq h.size) fun k hk e=>hv (by rw[hk,e])).trans (h.oth q hq hv)⟩
theorem tbox_cells {W:World} {b:Nat} {t:TyD} {As:Option Addr} {cs:Nat} {Am:Option Addr} {cm:Nat} (h:TBox W b t As cs Am cm) :
  W.cell? ⟨b,0,none⟩=some (.int .i64 t.kind)∧W.cell? ⟨b,1,none⟩=some (.string t.name)∧W.cell? ⟨b,2,none⟩=some (.int .i64 t.low)∧W.cell? ⟨b,3,none⟩=some (.int .i64 t.high)∧W.cell? ⟨b,4,none⟩=some (.int .i64 t.max)∧W.cell? ⟨b,5,none⟩=some (.slice As t.syms.length cs)∧W.cell? ⟨b,6,none⟩=some (.slice Am t.mems.length cm)∧W.cell? ⟨b,7,none⟩=some (.int .i64 t.key)∧W.cell? ⟨b,8,none⟩=some (.int .i64 t.elem)∧W.cell? ⟨b,9,none⟩=some (.bool t.open_) :=
 ⟨h.cell 0,h.cell 1,h.cell 2,h.cell 3,h.cell 4,h.cell 5,h.cell 6,h.cell 7,h.cell 8,h.cell 9⟩
theorem tbox_key {W:World} {b:Nat} {t:TyD} {As:Option Addr} {cs:Nat} {Am:Option Addr} {cm:Nat} (h:TBox W b t As cs Am cm) (z:Int):TBox (W.setCell ⟨b,7,none⟩ (.int .i64 z)) b (t.ke z t.elem) As cs Am cm:=by
 have:=heap_setCell_same _ _ 7 _ _ (.int .i64 z) h
 unfold TBox;rw[this];simp[TyD.ke]
theorem tbox_elem {W:World} {b:Nat} {t:TyD} {As:Option Addr} {cs:Nat} {Am:Option Addr} {cm:Nat} (h:TBox W b t As cs Am cm) (z:Int):TBox (W.setCell ⟨b,8,none⟩ (.int .i64 z)) b (t.ke t.key z) As cs Am cm:=by
 have:=heap_setCell_same _ _ 8 _ _ (.int .i64 z) h
 unfold TBox;rw[this];simp[TyD.ke]
theorem inner_pos (t:TyD):(0<(zU t).length)↔compK t.kind:=by
 unfold zU compK
 by_cases h7:t.kind=7
 ·simp[h7]
 by_cases h8:t.kind=8
 ·simp[h8]
 by_cases h9:t.kind=9
 ·simp[h9]
 ·simp[h7,h8,h9]
theorem inner_two (t:TyD):(zU t).length≤2:=by
 unfold zU
 split
 ·simp
 ·split <;> simp
theorem ap_hold {A:Option Addr} {n c p gi:Nat} {ix:List Int} {S:Nat→Prop} {W w':World} {v:Value} {L:List TyA} (h:TdS A n c p gi ix S W v L) {b:Nat} {t:TyD} {As:Option Addr} {cs:Nat} {Am:Option Addr} {cm:Nat} (hb:TBox W b t As cs Am cm) (hn:v.ownBlock≠some b) (k:Kp v W w') :
  ((w'.cell? ⟨p,2,none⟩=some v∧w'.frozen? ⟨p,2,none⟩=false)∧(w'.cell? ⟨b,0,none⟩=some (.int .i64 t.kind)∧w'.cell? ⟨b,1,none⟩=some (.string t.name)∧w'.cell? ⟨b,2,none⟩=some (.int .i64 t.low)∧w'.cell? ⟨b,3,none⟩=some (.int .i64 t.high)∧w'.cell? ⟨b,4,none⟩=some (.int .i64 t.max)∧w'.cell? ⟨b,5,none⟩=some (.slice As t.syms.length cs)∧w'.cell? ⟨b,6,none⟩=some (.slice Am t.mems.length cm)∧w'.cell? ⟨b,7,none⟩=some (.int .i64 t.key)∧w'.cell? ⟨b,8,none⟩=some (.int .i64 t.elem)∧w'.cell? ⟨b,9,none⟩=some (.bool t.open_)))∧Hid (Kp v W w'):=by
 have h1:w'.heap[p]? = some (tdO A n c gi v):=(k.oth p h.plt fun e=>by have:=h.ownlt e;omega).trans h.blk
 have h2:TBox w' b t As cs Am cm:=(k.oth b hb.blt hn).trans hb
 unfold tdO at h1
 exact ⟨⟨⟨by rw[cell_of_row _ _ _ _ _ _ h1];rfl,frozen_of_row _ _ _ _ _ h1⟩,tbox_cells h2⟩,k⟩
def PlPost (s:List TyD) (c p gi:Nat) (A:Option Addr) (ix:List Int) (f:Nat) (t:Int) (S:Nat→Prop) (v:Value) (L:List TyA) (W:World) (e:Ending) (W':World):Prop :=
 ∃v' L',e = .returned (.int .i64 (placeD s ix f t (L.map (·.t))).1)∧L'.map (·.t)=(placeD s ix f t (L.map (·.t))).2∧TdS A s.length c p gi ix S W' v' L'∧Chg p v v' W W'∧∀j,j<L.length→L'[j]? = L[j]?
theorem ty_old {s:List TyD} {S:Nat→Prop} {w W:World} {As:Option Addr} {Am:Option Addr} {k:Nat} (hk:k<s.length) (htr:TyR w s[k] As Am) (hb:Below w.heap.size w W) (hS:∀q,q<w.heap.size→¬ S q):Off S W fun u=>TyR u s[k] As Am:=fun u hu =>
 htr.low fun q hq=>(hu q (hS q hq) (by have:=hb.size;omega)).trans (hb.block q hq)
theorem place_any (s:List TyD) (A:Option Addr) (c:Nat) (hv:zG s=0) (w:World) (hs:TysR w A s) (p gi:Nat) (ix:List Int) (hgi:w.heap.size≤gi):∀ (f:Nat) (t:Int) (S:Nat→Prop) (v:Value) (L:List TyA) (W:World),(0≤t∧t<(s.length:Int))→finD s f t→(∀q,q<w.heap.size→¬ S q)→L.length+2 * f≤100000→TdS A s.length c p gi ix S W v L→Below w.heap.size w W →
  Calls Tryz.prog 34 #[.pointer (some ⟨p,0,none⟩),.int .i64 t] W (PlPost s c p gi A ix f t S v L W):=by
 intro f
 induction f with
 | zero=>intro t S v L W _ h;exact h.elim
 | succ f ih =>
 intro t S v L W hr hf hS hz htd hb
 obtain ⟨tn,rfl⟩:=Int.eq_ofNat_of_zero_le hr.1
 have htn:tn<s.length:=by omega
 have hls:=yD hv
 have HTD:=zh htd
 have HB:=zh hb
 have HIH:=zh ih
 have HSS:=zh hS
 have HF:=zh hf
 have HR:=zh hr
 have HPL:=htd.plt
 have HGP:=htd.lt
 obtain ⟨⟨c0,c1,c2⟩,_⟩:=htd.cells
 obtain ⟨i0,_⟩:=htd.ixc htn
 have h1:(0:Int)≤(tn:Int):=by omega
 have h2:(tn:Int)<(s.length:Int):=by omega
 clear ih hf hr hS htd hb
 by_cases hix:0≤ixAt ix (tn:Int)
 ·have HPD:Hid (placeD s ix (f+1) (tn:Int) (L.map (·.t))=(ixAt ix (tn:Int),L.map (·.t))):=by show _=_;unfold placeD;rw[if_pos hix]
  generalize ixAt ix (tn:Int)=I at *
  go_enter Tryz.func34,Tryz.ntmps34
  go_wp2
  go_ret
  exact ⟨v,L,by rw[HPD.out];rfl,by rw[HPD.out],HTD.out,Chg.refl _ _ _,fun _ _=>rfl⟩
 obtain ⟨b,o,As,cs,Am,cm,rfl,htr,t0,t1,t2,t3,t4,t5,t6,t7,t8,t9⟩:=hs.at10 htn
 have HOX:Hid (∀ (W':World) {S':Nat→Prop},Below w.heap.size w W'→(∀q,q<w.heap.size→¬ S' q)→Off S' W' fun u=>TyR u s[tn] As Am):=fun W' S' h1 h2=>ty_old htn htr h1 h2
 replace t0:=zB HB.out t0
 replace t1:=zB HB.out t1
 replace t2:=zB HB.out t2
 replace t3:=zB HB.out t3
 replace t4:=zB HB.out t4
 replace t5:=zB HB.out t5
 replace t6:=zB HB.out t6
 replace t7:=zB HB.out t7
 replace t8:=zB HB.out t8
 replace t9:=zB HB.out t9
 have HX:=tyAt_nat htn
 have HFE:Hid (compK (s[tn]).kind→finD s f (s[tn]).elem):=fun h=>by have:=HF.out;unfold finD at this;rw[HX] at this;exact this h
 have HER:Hid (compK (s[tn]).kind→0≤(s[tn]).elem∧(s[tn]).elem<(s.length:Int)):=fun h=>by have:=yB hv HR.out (by rw[HX];exact h);rwa [HX] at this
 have HKR:Hid ((s[tn]).kind=8→(0≤(s[tn]).key∧(s[tn]).key<(s.length:Int))∧finD s f (s[tn]).key):=fun h=>by
  have hk:=key_rng hv HR.out (by rw[HX];exact h)
  rw[HX] at hk
  refine ⟨hk.1,?_⟩
  have hfe:=HFE.out (.inr (.inl h))
  cases f with
  | zero=>exact hfe.elim
  | succ f=>unfold finD;exact fun hc=>absurd hc (not_comp4 hk.2)
 have HPD:Hid (∃R1 R2,R1=(if (s[tn]).kind=8 then placeD s ix f (s[tn]).key (L.map (·.t)++[s[tn]]) else ((s[tn]).key,L.map (·.t)++[s[tn]]))∧R2=(if compK (s[tn]).kind then placeD s ix f (s[tn]).elem R1.2 else ((s[tn]).elem,R1.2))∧placeD s ix (f+1) (tn:Int) (L.map (·.t))=((L.length:Int),R2.2.set L.length ((s[tn]).ke R1.1 R2.1))):=by
  refine ⟨_,_,rfl,rfl,?_⟩
  rw[placeD,if_neg hix,HX]
  simp only[List.length_map]
 have HLE:=zh (fun (u:Int) (M:List TyD) (h:0≤u∧u<(s.length:Int))=>(placeD_le (ix:=ix) hv f u M h).1)
 have HLG:=zh (fun (u:Int) (M:List TyD)=>placeD_ge (s:=s) (ix:=ix) f u M)
 have HK1:=zh (fun (h:(s[tn]).kind=8) (M:List TyD)=>(placeD_le (ix:=ix) hv f (s[tn]).key M (HKR.out h).1).2 (by have:=(key_rng hv HR.out (by rw[HX];exact h)).2;rw[HX] at this;exact not_comp4 this))
 clear HF HR htr
 generalize s[tn]=x at *
 obtain ⟨R1,R2,hR1,hR2,hPD⟩:=HPD.out
 have HPE:=zh hPD
 have HE1:=zh hR1
 have HE2:=zh hR2
 clear HPD hPD hR1 hR2
 have hq:¬ (0:Int)≤ixAt ix (tn:Int):=hix
 generalize ixAt ix (tn:Int)=I at *
 obtain ⟨Av,cv,rfl⟩:=HTD.out.val
 have HBX:=zh (zD W (x.box As cs Am cm))
 have HXX:=zh (heap_alloc_new W (x.box As cs Am cm))
 have HTX:=zh (HTD.out.sets (S':=fun q=>S q∨q=W.heap.size) HBX.out (fun q hq h=>h.elim id fun e=>absurd e (by omega)) (.inl HTD.out.sp))
 have HOB:=zh (fun q hq=>(HTD.out.ownlt (q:=q) hq).2)
 have HOX2:Hid (Off (fun q=>(S q∨q=W.heap.size)∨(Value.slice Av L.length cv).ownBlock=some q) (W.alloc (x.box As cs Am cm)) fun u=>TyR u x As Am):=by
  refine HOX.out _ (zA HB.out HBX.out) fun q hq h=>?_
  rcases h with (h|h)|h
  ·exact HSS.out q hq h
  ·have:=HB.out.size;omega
  ·have:=HTD.out.ownlt h;omega
 go_enter Tryz.func34,Tryz.ntmps34
 go_upto_region 5 with fail
 clear t0 t1 t2 t3 t4 t5 t6 t7 t8 t9 c0 c1 c2 i0
 have HZ2:Hid (W.heap.size<(W.alloc (x.box As cs Am cm)).heap.size):=by show _<_;simp
 have HOZ:Hid ((Value.slice Av L.length cv).ownBlock≠some W.heap.size):=fun e=>by have:=HOB.out _ e;omega
 generalize W.alloc (x.box As cs Am cm)=W2 at *
 have HTB:Hid (TBox W2 W.heap.size x As cs Am cm):=HXX.out
 have HAP:=zh (fun w' (k:Kp (Value.slice Av L.length cv) W2 w')=>ap_hold HTX.out HTB.out HOZ.out k)
 refine wp_region_B (S:=(fun w'=>((w'.cell? ⟨p,2,none⟩=some (.slice Av L.length cv)∧w'.frozen? ⟨p,2,none⟩=false)∧(w'.cell? ⟨W.heap.size,0,none⟩=some (.int .i64 x.kind)∧w'.cell? ⟨W.heap.size,1,none⟩=some (.string x.name)∧w'.cell? ⟨W.heap.size,2,none⟩=some (.int .i64 x.low)∧w'.cell? ⟨W.heap.size,3,none⟩=some (.int .i64 x.high)∧w'.cell? ⟨W.heap.size,4,none⟩=some (.int .i64 x.max)∧w'.cell? ⟨W.heap.size,5,none⟩=some (.slice As x.syms.length cs)∧w'.cell? ⟨W.heap.size,6,none⟩=some (.slice Am x.mems.length cm)∧w'.cell? ⟨W.heap.size,7,none⟩=some (.int .i64 x.key)∧w'.cell? ⟨W.heap.size,8,none⟩=some (.int .i64 x.elem)∧w'.cell? ⟨W.heap.size,9,none⟩=some (.bool x.open_)))∧Hid (Kp (.slice Av L.length cv) W2 w'))) 12 (by kernel_rfl) ?_ (fun zH_=>?_)
 ·(try dsimp only);exact HAP.out _ (Kp.of (zE (Below.refl _ _) 1))
 refine tC 0 _ zH_ ?_
 try simp only[ps]
 refine tC 1 _ zH_ ?_
 try simp only[ps]
 refine tC 2 _ zH_ ?_
 try simp only[ps]
 refine tC 3 _ zH_ ?_
 try simp only[ps]
 refine tC 4 _ zH_ ?_
 try simp only[ps]
 refine tB 5 _ zH_ ?_
 try simp only[ps]
 refine tB 6 _ zH_ ?_
 try simp only[ps]
 refine tS 7 (fun K hK=>?_)
 go_simp
 refine hK.out _ _ ?_ (fun zH_=>?_)
 ·(try dsimp only);exact HAP.out _ (zH_.2.out.below (zD _ _))
 clear hK K
 try simp only[ps]
 refine tS 8 (fun K hK=>?_)
 (have HW6:=zh (HTX.out.own.below (zA (zE (Below.refl W2.heap.size W2) 1) (zD _ (x.box As cs Am cm))));have HZ6:Hid (p+1≤((W2.drewN 1).alloc (x.box As cs Am cm)).heap.size):=(by show _≤_;have:=HZ2.out;simp;omega);refine step_append_o elem_ty (by rfl) (.tmp 41) (.tmp 43) (by rfl) (p+1) (.slice Av L.length cv) L.length (L.flatMap TyA.cells) (by rfl) HW6.out W2.heap.size 0 1 1 (⟨x,As,cs,Am,cm⟩:TyA).cells (by rfl) rfl (zS (W2.drewN 1) (⟨x,As,cs,Am,cm⟩:TyA).cells 50) (tyA_one _) (by omega) (by omega) HZ6.out ?_;intro v8 w8 ho8 hg8 hv8;obtain ⟨A8,c8,rfl,_⟩:=OwnL.reads (OwnL.snoc (enc:=TyA.cells) (x:=(⟨x,As,cs,Am,cm⟩:TyA)) ho8);have HN8:=zh (HTX.out.next (x:=(⟨x,As,cs,Am,cm⟩:TyA)) HOX2.out (zA (zE (Below.refl W2.heap.size W2) 1) (zD _ (x.box As cs Am cm))) ho8 hg8 hv8);have HG8:=zh hg8;clear ho8 hg8 hv8)
 refine hK.out _ _ ?_ (fun zH_=>?_)
 ·(try dsimp only);exact HAP.out _ (zH_.2.out.grown HG8.out)
 clear hK K
 try simp only[ps]
 refine tC 9 _ zH_ ?_
 try simp only[ps]
 refine tC 10 _ zH_ ?_
 try simp only[ps]
 refine tC 11 _ zH_ ?_
 try simp only[ps]
 refine anyB_ready (rs:=[12]) (by kernel_rfl) (by simp) ?_
 refine AllReadyB.last rfl (by kernel_rfl) (fun K hK=>?_) AllReadyB.nil
 (obtain ⟨⟨⟨hc2,hf2⟩,_⟩,_⟩:=zH_;go_simp)
 refine hK.out _ _ ?_
 clear hK K
 (try clear zH_)
 try simp only[ps]
 refine wpAny_done (by kernel_rfl) ?_ _
 have he8:(L++[(⟨x,As,cs,Am,cm⟩:TyA)]).length=L.length+1:=by simp
 have HM8:Hid ((L++[(⟨x,As,cs,Am,cm⟩:TyA)]).map (·.t)=L.map (·.t)++[x]):=by show _=_;simp
 have HN9:=HN8.out
 rw[he8] at HN9
 have HT5:=zh HN9.1
 have HC5:=zh HN9.2
 clear hc2 hf2 HN8 HN9 HG8 HAP
 generalize w8.setCell ⟨p,2,none⟩ (.slice A8 (L.length+1) c8)=W5 at *
 have HTB5:Hid (TBox W5 W.heap.size x As cs Am cm):=(HC5.out.oth _ (by omega) HZ2.out HOZ.out).trans HTB.out
 have HO5:Hid ((Value.slice A8 (L.length+1) c8).ownBlock≠some W.heap.size):=fun e=>(HC5.out.own _ e).elim HOZ.out fun h=>by have:=HZ2.out;omega
 have HCW:=zh ((Chg.of (v := .slice Av L.length cv) HBX.out (Nat.le_of_lt HPL)).trans HC5.out)
 have HBW:=zh (HB.out.trans (HCW.out.bel.mono (by omega)))
 obtain ⟨b0,b1,b2,b3,b4,b5,b6,b7,b8,b9⟩:=tbox_cells HTB5.out
 go_upto_if 50 with fail
 go_cut [] (fun wx=>∃ (v9:Value) (L9:List TyA),Hid (TdS (some ⟨b,o,none⟩) s.length c p gi ix (fun q=>S q∨q=W.heap.size) wx v9 L9∧TBox wx W.heap.size (x.ke R1.1 x.elem) As cs Am cm∧Chg p (.slice Av L.length cv) v9 W wx∧v9.ownBlock≠some W.heap.size∧L9.map (·.t)=R1.2∧∀j,j<L.length→L9[j]? = L[j]?))
 case first =>
  by_cases h8:x.kind=8
  ·have q1:(x.kind==8)=true:=by simp[h8]
   have HR1:=zh (HE1.out.trans (if_pos h8))
   have HK8:=zh (HKR.out h8)
   clear h8
   go_wp2_with fail
   refine (HIH.out x.key _ _ _ W5 HK8.out.1 HK8.out.2 ?_ ?_ HT5.out HBW.out).mono ?_
   ·intro q hq h
    rcases h with h|h
    ·exact HSS.out q hq h
    ·have:=HB.out.size;omega
   ·rw[he8];omega
   rintro e w6 ⟨v6,L6,rfl,hm6,ht6,hc6,hp6⟩
   rw[HM8.out,←HR1.out] at hm6
   rw[HM8.out,←HR1.out]
   have HM6:=zh hm6
   have HT6:=zh ht6
   have HC6:=zh hc6
   have HP6:=zh hp6
   have HTB6:Hid (TBox w6 W.heap.size x As cs Am cm):=(HC6.out.oth _ (by omega) HTB5.out.blt HO5.out).trans HTB5.out
   have HO6:Hid (v6.ownBlock≠some W.heap.size):=fun e=>(HC6.out.own _ e).elim HO5.out fun h=>by have:=HTB5.out.blt;omega
   clear hm6 ht6 hc6 hp6 b0 b1 b2 b3 b4 b5 b6 b7 b8 b9
   have d7:=HTB6.out.cell 7
   have df:w6.frozen? ⟨W.heap.size,7,none⟩=false:=frozen_of_row _ _ _ _ _ HTB6.out
   go_wp2
   go_meet
   exact ⟨v6,L6,HT6.out.other (.inr rfl) (by omega) (by omega) HO6.out 7 _,by rw[HR1.out];exact tbox_key HTB6.out _,(HCW.out.trans HC6.out).new (Nat.le_refl _) (Nat.le_of_lt HPL) 7 _,HO6.out,HM6.out,fun j hj=>(HP6.out j (by rw[he8];omega)).trans (List.getElem?_append_left hj)⟩
  ·have q1:(x.kind==8)=false:=by simp[h8]
   have HR1:=zh (HE1.out.trans (if_neg h8))
   go_wp2
   go_meet
   exact ⟨_,_,HT5.out,by rw[HR1.out];exact HTB5.out,HCW.out,HO5.out,by rw[HM8.out,HR1.out],fun j hj=>List.getElem?_append_left hj⟩
 case rest =>
 obtain ⟨v9,L9,h9⟩:=hcut
 have HT9:=zh h9.out.1
 have HB9:=zh h9.out.2.1
 have HC9:=zh h9.out.2.2.1
 have HO9:=zh h9.out.2.2.2.1
 have HM9:=zh h9.out.2.2.2.2.1
 have HP9:=zh h9.out.2.2.2.2.2
 clear h9 b0 b1 b2 b3 b4 b5 b6 b7 b8 b9
 have HBW9:=zh (HB.out.trans (HC9.out.bel.mono (by omega)))
 have HL9:Hid (L9.length=R1.2.length):=by have:=congrArg List.length HM9.out;rwa [List.length_map] at this
 have HLB:Hid (R1.2.length≤L.length+2∧L.length+1≤R1.2.length):=by
  show _∧_
  rw[HE1.out]
  split
  ·rename_i h8
   have k1:=HK1.out h8 (L.map (·.t)++[x])
   have k2:=HLG.out x.key (L.map (·.t)++[x])
   rw[List.length_append,List.length_map,List.length_singleton] at k1 k2
   omega
  ·rw[List.length_append,List.length_map,List.length_singleton];omega
 obtain ⟨b0,b1,b2,b3,b4,b5,b6,b7,b8,b9⟩:=tbox_cells HB9.out
 go_wp2_with fail
 refine (inner_any (x.ke R1.1 x.elem) As cs Am cm wc).mono ?_
 rintro e w10 ⟨Ai,ci,rfl,_,hb10⟩
 have HT10:=zh (HT9.out.below hb10)
 have HB10:=zh (HB9.out.below hb10)
 have HC10:=zh (HC9.out.trans (Chg.of hb10 (by have:=HC9.out.bel.size;omega)))
 have HBW10:=zh (zA HBW9.out hb10)
 have HIL:Hid ((0<(zU (x.ke R1.1 x.elem)).length)↔compK x.kind):=inner_pos (x.ke R1.1 x.elem)
 have hil:(zU (x.ke R1.1 x.elem)).length≤2:=inner_two _
 clear hb10 b0 b1 b2 b3 b4 b5 b6 b7 b8 b9
 obtain ⟨b0,b1,b2,b3,b4,b5,b6,b7,b8,b9⟩:=tbox_cells HB10.out
 generalize (zU (x.ke R1.1 x.elem)).length=il at *
 go_upto_if 59 with fail
 go_cut [] (fun wx=>∃ (v9:Value) (L9:List TyA),Hid (TdS (some ⟨b,o,none⟩) s.length c p gi ix (fun q=>S q∨q=W.heap.size) wx v9 L9∧TBox wx W.heap.size (x.ke R1.1 R2.1) As cs Am cm∧Chg p (.slice Av L.length cv) v9 W wx∧v9.ownBlock≠some W.heap.size∧L9.map (·.t)=R2.2∧∀j,j<L.length→L9[j]? = L[j]?))
 case first =>
  by_cases hc:compK x.kind
  ·have q1:(0:Int)<(il:Int):=by have:=HIL.out.2 hc;omega
   have HR2:=zh (HE2.out.trans (if_pos hc))
   have HF2:=zh (HFE.out hc)
   have HE2:=zh (HER.out hc)
   clear hc HIL
   go_wp2_with fail
   refine (HIH.out x.elem _ _ _ w10 HE2.out HF2.out ?_ ?_ HT10.out HBW10.out).mono ?_
   ·intro q hq h
    rcases h with h|h
    ·exact HSS.out q hq h
    ·have:=HB.out.size;omega
   ·rw[HL9.out];have:=HLB.out;omega
   rintro e w6 ⟨v6,L6,rfl,hm6,ht6,hc6,hp6⟩
   rw[HM9.out,←HR2.out] at hm6
   rw[HM9.out]
   have HM6:=zh hm6
   have HT6:=zh ht6
   have HC6:=zh hc6
   have HP6:=zh hp6
   have HTB6:Hid (TBox w6 W.heap.size (x.ke R1.1 x.elem) As cs Am cm):=(HC6.out.oth _ (by omega) HB10.out.blt HO9.out).trans HB10.out
   have HO6:Hid (v6.ownBlock≠some W.heap.size):=fun e=>(HC6.out.own _ e).elim HO9.out fun h=>by have:=HB10.out.blt;omega
   clear hm6 ht6 hc6 hp6 b0 b1 b2 b3 b4 b5 b6 b7 b8 b9
   have d7:=HTB6.out.cell 8
   have df:w6.frozen? ⟨W.heap.size,8,none⟩=false:=frozen_of_row _ _ _ _ _ HTB6.out
   go_wp2
   go_meet
   exact ⟨v6,L6,HT6.out.other (.inr rfl) (by omega) (by omega) HO6.out 8 _,by rw[HR2.out];exact tbox_elem HTB6.out _,(HC10.out.trans HC6.out).new (Nat.le_refl _) (Nat.le_of_lt HPL) 8 _,HO6.out,HM6.out,fun j hj=>(HP6.out j (by rw[HL9.out];have:=HLB.out;omega)).trans (HP9.out j hj)⟩
  ·have q1:¬ (0:Int)<(il:Int):=fun h=>hc (HIL.out.1 (by omega))
   have HR2:=zh (HE2.out.trans (if_neg hc))
   go_wp2
   go_meet
   exact ⟨_,_,HT10.out,by rw[HR2.out];exact HB10.out,HC10.out,HO9.out,by rw[HR2.out];exact HM9.out,HP9.out⟩
 case rest =>
 obtain ⟨v11,L11,h11⟩:=hcut
 have HT11:=zh h11.out.1
 have HB11:=zh h11.out.2.1
 have HC11:=zh h11.out.2.2.1
 have HM11:=zh h11.out.2.2.2.2.1
 have HP11:=zh h11.out.2.2.2.2.2
 clear h11 b0 b1 b2 b3 b4 b5 b6 b7 b8 b9
 have hlt:L.length<L11.length:=by
  have h1:=congrArg List.length HM11.out
  rw[List.length_map] at h1
  rw[h1]
  have h2:R1.2.length≤R2.2.length:=by
   rw[HE2.out]
   split
   ·exact HLG.out _ _
   ·exact Nat.le_refl _
  have:=HLB.out;omega
 obtain ⟨g,c11,rfl,hgl,_,hth⟩:=HT11.out.at_ hlt
 have HTH:=zh hth
 have HS10:=zh (And.intro (HT11.out.cells).1.2.2 (tbox_cells HB11.out))
 have d1:(0:Int)≤(L.length:Int):=by omega
 have d2:(L.length:Int)<(L11.length:Int):=by omega
 have HBW11:=zh (HB.out.trans (HC11.out.bel.mono (by omega)))
 clear hth
 go_wp2_with fail
 refine wp_region_B (S:=(fun w'=>(w'.cell? ⟨p,2,none⟩=some (.slice (some ⟨g,0,none⟩) L11.length c11)∧(w'.cell? ⟨W.heap.size,0,none⟩=some (.int .i64 x.kind)∧w'.cell? ⟨W.heap.size,1,none⟩=some (.string x.name)∧w'.cell? ⟨W.heap.size,2,none⟩=some (.int .i64 x.low)∧w'.cell? ⟨W.heap.size,3,none⟩=some (.int .i64 x.high)∧w'.cell? ⟨W.heap.size,4,none⟩=some (.int .i64 x.max)∧w'.cell? ⟨W.heap.size,5,none⟩=some (.slice As x.syms.length cs)∧w'.cell? ⟨W.heap.size,6,none⟩=some (.slice Am x.mems.length cm)∧w'.cell? ⟨W.heap.size,7,none⟩=some (.int .i64 R1.1)∧w'.cell? ⟨W.heap.size,8,none⟩=some (.int .i64 R2.1)∧w'.cell? ⟨W.heap.size,9,none⟩=some (.bool x.open_))))) 8 (by kernel_rfl) ?_ (fun zH_=>?_)
 ·(try dsimp only);exact HS10.out
 refine tC 0 _ zH_ ?_
 try simp only[ps]
 refine tC 1 _ zH_ ?_
 try simp only[ps]
 refine tC 2 _ zH_ ?_
 try simp only[ps]
 refine tC 3 _ zH_ ?_
 try simp only[ps]
 refine tB 4 _ zH_ ?_
 try simp only[ps]
 refine tC 5 _ zH_ ?_
 try simp only[ps]
 refine tB 6 _ zH_ ?_
 try simp only[ps]
 refine tC 7 _ zH_ ?_
 try simp only[ps]
 refine anyB_ready (rs:=[8]) (by kernel_rfl) (by simp) ?_
 refine AllReadyB.last rfl (by kernel_rfl) (fun K hK=>?_) AllReadyB.nil
 (simp only[List.getElem_toArray,List.getElem_cons_zero,List.getElem_cons_succ];rw[if_pos (by rfl)];refine wp_store_mid 50 (.tmp 72) (.tmp 71) rfl (g) (L.length * 10) (#[.int .i64 x.kind,.string x.name,.int .i64 x.low,.int .i64 x.high,.int .i64 x.max,.slice As x.syms.length cs,.slice Am x.mems.length cm,.int .i64 R1.1,.int .i64 R2.1,.bool x.open_]) (by rfl) (by rfl) ?_ ?_ ?_ ?_;(exact HTH.out);(exact ty_info);(exact ty_one (x.ke R1.1 R2.1) As cs Am cm))
 refine hK.out _ _ ?_
 clear hK K
 (try clear zH_)
 try simp only[ps]
 refine wpAny_done (by kernel_rfl) ?_ _
 have HB12:=zh (zE (Below.refl wc.heap.size wc) 1)
 have hO:Off (fun q=>(S q∨q=W.heap.size)∨(Value.slice (some ⟨g,0,none⟩) L11.length c11).ownBlock=some q) (wc.drewN 1) fun u=>TyR u (x.ke R1.1 R2.1) As Am:=(HOX.out _ (zA HBW11.out HB12.out) fun q hq h=>by
  rcases h with (h|h)|h
  ·exact HSS.out q hq h
  ·have:=HB.out.size;omega
  ·have:=(HT11.out.ownlt h).1;omega).imp fun u h=>⟨h.name,h.syms,h.mems⟩
 have HST:=zh ((HT11.out.below HB12.out).setT hlt rfl (x:=(⟨x.ke R1.1 R2.1,As,cs,Am,cm⟩:TyA)) hO)
 clear hO
 go_wp2
 go_ret
 refine ⟨_,L11.set L.length ⟨x.ke R1.1 R2.1,As,cs,Am,cm⟩,by rw[HPE.out];rfl,?_,HST.out.1.mono (S':=S) (fun q h => .inl h) HTD.out.sp,(HC11.out.trans (Chg.of HB12.out (by have:=HC11.out.bel.size;omega))).trans HST.out.2,fun j hj=>?_⟩
 ·rw[HPE.out,List.map_set,HM11.out]
 ·rw[List.getElem?_set_ne (by omega)];exact HP11.out j hj
end Go.Proofs.YtdfolgmcggdjdaaGreatDoor


