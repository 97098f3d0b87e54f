/-
  Walks: the reference's Tidy.
-/
import Derived.Test.YtdfolgmcggdjdaaGreatDoorQGF2
import Derived.Test.YtdfolgmcggdjdaaGreatDoorQYC1
import Derived.Test.YtdfolgmcggdjdaaGreatDoorQGA3
namespace Go.Proofs.YtdfolgmcggdjdaaGreatDoor
open Go.RowKit
set_option maxHeartbeats 16000000
set_option maxRecDepth 100000
def CkSaid (s:List TyD) (A:zo) (c:Nat) (d:Int):Prop:=∀w,TysR w A s→Tab w →
  Calls Tryz.prog 35 #[.agg #[.slice A s.length c]] w fun e w'=>∃z:TextD,e = .returned (.tuple #[tv z,.int .i64 (yN s d)])∧Below w.heap.size w w'
section
variable {p base:Nat} {u v v':Value} {W W':World} {ix:List Int} {L:List TyA}
theorem own_ne {b b':Nat} (hu:OwnI W b u ix) (hv:OwnL 50 10 TyA.cells W b' v L) {q:Nat} (hq:u.ownBlock=some q):v.ownBlock≠some q:=fun e=>by
 obtain ⟨c1,f1,e1⟩:=OwnL.block hu hq;obtain ⟨c2,f2,e2⟩:=hv.block e;rw[e1] at e2
 injection e2 with e2
 injection e2 with _ e3
 exact absurd e3 (by decide)
theorem ownU_chg (hu:OwnI W (p+1) u ix) (hv:OwnL 50 10 TyA.cells W (p+1) v L) (k:Chg p v v' W W'):OwnI W' (p+1) u ix :=
 OwnL.keep hu fun g hg hlt hq=>k.oth g (by omega) hlt (own_ne hu hv hq)
theorem enc_map:∀ (l:List Int),l.flatMap encI=l.map (Value.int .i64)
 | []=>rfl
 | x::l=>by rw[List.flatMap_cons,enc_map l];rfl
theorem ownU_at (hu:OwnI W base u ix) {n:Nat} (hn:ix.length=n) (h0:0<n):∃g cu,u = .slice (some ⟨g,0,none⟩) n cu∧base≤g∧g<W.heap.size∧(∀t,t<n→W.cell? ⟨g,t,none⟩=some (.int .i64 (ixAt ix (t:Int))))∧∀j,W.frozen? ⟨g,j,none⟩=false:=by
 obtain ⟨A,c,e,_,_,hr⟩:=OwnL.reads hu;obtain ⟨g,rfl,hg,hrg⟩:=hr (fun e=>by rw[e] at hn;simp at hn;omega)
 rw[hn] at e;refine ⟨g,c,e,hg,?_,fun t ht=>?_,fun j=>?_⟩
 ·subst e
  exact (World.ownsRow.lt hu g rfl).2
 ·have h:=hrg t (.int .i64 ix[t]) (by rw[enc_map,List.getElem?_map,zl (by omega)];rfl)
  rw[Nat.zero_add] at h;rw[h];unfold ixAt;rw[Int.toNat_natCast,List.getD_eq_getElem?_getD,zl (by omega)];rfl
 ·subst e
  have hu':W.ownsRow base 3 1 (.slice (some ⟨g,0,none⟩) n c) ix.length (ix.flatMap encI):=hu;rw[←hn] at hu';exact World.ownsRow.frozenAt hu' j
theorem ownU_set {g n cu:Nat} (hu:OwnI W base (.slice (some ⟨g,0,none⟩) n cu) ix) (t:Nat) (z:Int):OwnI (W.setCell ⟨g,t,none⟩ (.int .i64 z)) base (.slice (some ⟨g,0,none⟩) n cu) (ix.set t z):=by
 have hu':W.ownsRow base 3 1 (.slice (some ⟨g,0,none⟩) n cu) ix.length (ix.flatMap encI):=hu
 show (W.setCell ⟨g,t,none⟩ (.int .i64 z)).ownsRow base 3 1 (.slice (some ⟨g,0,none⟩) n cu) (ix.set t z).length ((ix.set t z).flatMap encI)
 rw[List.length_set,enc_map,List.map_set];rw[enc_map] at hu';obtain ⟨A,c,e,_⟩:=OwnL.reads hu;have en:n=ix.length:=by injection e
 subst en;exact (World.ownsRow.stored hu' t (.int .i64 z)).1
theorem ixs_of (hu:OwnI W (p+1) u ix) (hv:OwnL 50 10 TyA.cells W (p+1) v L) {n:Nat} (hn:ix.length=n) (h0:0<n):∃gi cu,u = .slice (some ⟨gi,0,none⟩) n cu∧IxS n ix gi p v W:=by
 obtain ⟨g,cu,rfl,hg,hlt,hc,_⟩:=ownU_at hu hn h0;exact ⟨g,cu,rfl,hc,hlt,by omega,own_ne hu hv rfl⟩
end
theorem memX_of {l:List MemD} {w0 W:World} {base:Nat} {v4:Value} {css:List (List Value)} (h1:css.length=l.length) (h2:∀ (i:Nat) x cs,l[i]? = some x→css[i]? = some cs→MemD.At w0 x cs) (h3:∀cs∈css,cs.length=13) (h:W.ownsRow base 71 13 v4 css.length css.flatten) :
  ∃B d,v4 = .slice B l.length d∧RowX 71 13 (MatL w0) W base B d l:=by
 have ho:OwnC 71 13 W base v4 css:=by
  show W.ownsRow base 71 13 v4 css.length (css.flatMap fun cs=>cs)
  rw[flatMap_self];exact h
 obtain ⟨B,d,rfl,_⟩:=OwnL.reads ho;rw[h1] at ho ⊢;exact ⟨B,d,rfl,css,ho,h1,h3,fun i x cs hx hc u hu=>MemD.at_low hu (h2 i x cs hx hc)⟩
theorem rTidy_any (s:List TyD) (d:Int) (A:zo) (c:Nat) (hd:CkSaid s A c d) (w:World) (hs:TysR w A s) (htb:Tab w) :
  Calls Tryz.prog 9 #[.agg #[.slice A s.length c]] w (TidyPost s d w):=by
 have hln:=hs.1.lt (by omega)
 have HS:=zh hs;have HTAB:=zh htb;have HD:=zh hd;have HB0:=zh (zB (zD w (.cells #[.slice A s.length c] 27)) (zD _ (.cells #[.slice none 0 0] 27)));have HX0:=zh (zw w (.cells #[.slice A s.length c] 27) (.cells #[.slice none 0 0] 27));have HR0:Hid (((w.alloc (.cells #[.slice A s.length c] 27)).alloc (.cells #[.slice none 0 0] 27)).heap[w.heap.size+1]? = some (.cells #[.slice none 0 0] 27)):=by
  have:=heap_alloc_new (w.alloc (.cells #[.slice A s.length c] 27)) (.cells #[.slice none 0 0] 27)
  show _=_
  simpa using this
 clear hs hd htb
 go_enter Tryz.func9,Tryz.ntmps9
 go_wp2_with fail
 generalize (w.alloc (.cells #[.slice A s.length c] 27)).alloc (.cells #[.slice none 0 0] 27)=W1 at *;refine (HD.out W1 (HS.out.below HB0.out) (HTAB.out.below HB0.out)).mono ?_;rintro e w1' ⟨z,rfl,hb1⟩;go_upto_region 2 with fail
 have HB1:=zh (zB HB0.out (zB hb1 (zD w1' (tbox z))));have HX1:=zh (zF (zF HX0.out hb1) (zD w1' (tbox z)));have HR1:=zh (zF (zF HR0.out hb1) (zD w1' (tbox z)));generalize w1'.alloc _=w1 at *;have x0:=zb HX1.out;have rr:=zb HR1.out;have rf:w1.frozen? ⟨w.heap.size+1,0,none⟩=false:=frozen_of_row _ _ _ _ _ HR1.out;clear hb1 HX0 HR0
 by_cases hc:yN s d=0
 case neg =>
  have q1:(yN s d != 0)=true:=by simp[hc]
  have HT:Hid (tidyE s d=yN s d):=by show _=_;unfold tidyE;rw[if_pos hc]
  have HNZ:Hid (tidyE s d≠0):=by rw[HT.out];exact hc
  clear hc;go_wp2_with fail;have r0:=World.cell?_setCell_same w1 ⟨w.heap.size+1,0,none⟩ (.slice none 0 0) rr;have HEN:=zh (tidy_bad HNZ.out (HB1.out.setCell (p:=⟨w.heap.size+1,0,none⟩) (Nat.le_succ _) (.slice none 0 0)));rw[HT.out] at HEN;refine bodyPost_ret (v := .tuple #[.agg #[.slice none 0 0],.slice none 0 0,.int .i64 (yN s d)]) (by simp[results,Tryz.results9,go_sem,r0]) rfl HEN.out
 obtain ⟨hv,hd0,_,_⟩:=check_parts hc;have HV:=zh hv;have hls:=zZ hv;have HFN:=zh (fun (t:TyD) (ht:t∈s) (m:MemD) (hm:m∈t.mems)=>check_fin hc ht hm)
 have HTE:Hid (tidyE s d=if 32<(tidyL s).length then 3 else 0):=by show _=_;unfold tidyE;rw[if_neg (by simp[hc])]
 rw[hc];clear hc hv hd0 HD;go_upto_region 5 with fail
 have HLT:Hid (w.heap.size+1<w1.heap.size):=(zg.1 HR1.out).1;have HTD:Hid (RtS A s.length c w1.heap.size (.slice none 0 0) (fun q=>w.heap.size≤q) (w1.alloc (rdO A s.length c (.slice none 0 0) (.slice none 0 0))) (.slice none 0 0) []) :=
  ⟨heap_alloc_new _ _,by have:=HLT.out;show _≤_;omega,OwnL.nil _ _,fun x hx=>by cases hx⟩
 have HB7:=zh (zD w1 (rdO A s.length c (.slice none 0 0) (.slice none 0 0)));have HX7:=zh (zF HX1.out HB7.out);have HR7:=zh (zF HR1.out HB7.out);have HB77:=zh (zB HB1.out HB7.out);unfold rdO at HTD HB7 HX7 HR7 HB77;clear x0 rr rf;generalize w1.alloc _=W7 at *;generalize w1.heap.size=p at *;have HLG:Hid (w.heap.size+2≤p):=by show _≤_;have:=HLT.out;omega
 have HPW:=zh HTD.out.plt;clear HLT HX1 HR1 HB7 HB1;have x7:=zb HX7.out;go_wp2_with fail
 go_loopw [8] (fun k wr=>∃ (t:Nat) (u v:Value) (L:List TyA),t≤s.length∧k = .int .i64 (t:Int)∧Hid (RtS A s.length c p u (fun q=>w.heap.size≤q) wr v L∧OwnI wr (p+1) u ((t1D s t).1.take t)∧L.map (·.t)=(t1D s t).2∧(∀x∈L,OldX w s x)∧Below p W7 wr)) (fun k _=>s.length - (intOf k).toNat)
 case atStart=>exact ⟨0,_,_,[],Nat.zero_le _,rfl,HTD.out,OwnL.nil _ _,rfl,(fun x hx=>by cases hx),Below.refl _ _⟩
 case round =>
  obtain ⟨t,u,v,L,htl,rfl,hh⟩:=hrel;obtain ⟨wk,rfl⟩:∃wk:World,wk=wr:=⟨_,rfl⟩;have HT:=zh hh.out.1;have HU:=zh hh.out.2.1;have HM:=zh hh.out.2.2.1;have HO:=zh hh.out.2.2.2.1;have HBR:=zh hh.out.2.2.2.2;have HBW:=zh (HB77.out.trans (HBR.out.mono (by have:=HLG.out;omega)))
  have HXK:Hid (wk.heap[w.heap.size]? = some (.cells #[.slice A s.length c] 27)):=(HBR.out.block _ (by have:=HLG.out;omega)).trans HX7.out
  clear hh x7;have x7:=zb HXK.out
  by_cases hlt:t<s.length
  ·obtain ⟨b,o,As,cs,Am,cm,rfl,htr,t0,t1,t2,t3,t4,t5,t6,t7,t8,t9⟩:=HS.out.at10 hlt
   have HTR:=zh htr;have HTT:=zh (And.intro t0 (And.intro t1 (And.intro t2 (And.intro t3 (And.intro t4 (And.intro t5 (And.intro t6 (And.intro t7 (And.intro t8 t9)))))))));have h1:(0:Int)≤(t:Int):=by omega
   have h2:(t:Int)<(s.length:Int):=by omega
   have HMH:=zh (List.getElem_mem hlt);have HNX:=zh (t1D_succ (s:=s) t);have HTK:=zh (t1D_take1 (s:=s) hlt);rw[zP hlt] at HNX HTK;have HIL:Hid (((t1D s t).1.take t).length=t):=by show _=_;rw[List.length_take,(t1D_len (s:=s) t).1];omega
   generalize s[t]=x at *;have HLM:Hid (L.length=(t1D s t).2.length∧L.length≤t):=by
    have h:=congrArg List.length HM.out;rw[List.length_map] at h;have:=(t1D_len (s:=s) t).2;exact ⟨h,by omega⟩
   have HN2:Hid ((t1D s (t+1)).2=if zL x.kind then (t1D s t).2++[x] else (t1D s t).2):=by show _=_;rw[HNX.out];split <;> rfl
   clear HNX;generalize (t1D s t).1.take t=I2 at *;generalize (t1D s t).2=O2 at *;obtain ⟨Av,cv,rfl⟩:=HT.out.val;obtain ⟨Au,cu,rfl,_⟩:=OwnL.reads HU.out;rw[HIL.out] at HT HU;clear htr t0 t1 t2 t3 t4 t5 t6 t7 t8 t9;have HTA:=zh (HT.out.below (zD wk (.cells #[.int .i64 (-1)] 3)));have HUA:Hid (OwnI (wk.alloc (.cells #[.int .i64 (-1)] 3)) (p+1) (.slice Au t cu) I2):=OwnL.alloc HU.out _
   have HPZ:Hid (p+1≤(wk.alloc (.cells #[.int .i64 (-1)] 3)).heap.size):=by show _≤_;have:=HT.out.plt;simp;omega
   obtain ⟨y0,y1,y2⟩:=HT.out.cells.1;have y3:=HTA.out.cells.2.2;have hil:=HIL.out
   go_upto_region 9 with (at_builtin;refine zR yF _ rfl (.tmp 36) (.tmp 37) rfl (p+1) (.slice Au t cu) I2.length (I2.flatMap encI) rfl HUA.out wk.heap.size 0 1 1 [.int .i64 (-1)] rfl rfl (zT wk [.int .i64 (-1)] 3) (by simp[Value.oneCell']) (by omega) (by omega) HPZ.out ?_;intro u8 w8 ho8 hg8;have HO8:Hid (OwnI w8 (p+1) u8 (I2++[-1])):=OwnL.snoc (enc:=encI) (x:=-1) ho8;obtain ⟨A8,c8,hu8,_⟩:=OwnL.reads HO8.out;rw[List.length_append,hil,List.length_singleton] at hu8;subst hu8;have HT8:=zh (HT.out.nextU HU.out (fun q hq=>by have:=HLG.out;show _≤_;omega) (zD wk (.cells #[.int .i64 (-1)] 3)) (u8 := .slice A8 (t+1) c8) hg8);have HB8:Hid (Below p wk (w8.setCell ⟨p,2,none⟩ (.slice A8 (t+1) c8))):=(((zD wk (.cells #[.int .i64 (-1)] 3)).mono (Nat.le_of_lt HT.out.plt)).grown hg8 (by have:=HPZ.out;omega) (fun q hq=>by have:=OwnL.lt HUA.out q hq;omega)).setCell (p:=⟨p,2,none⟩) (Nat.le_refl _) _;have HU8:Hid (OwnI (w8.setCell ⟨p,2,none⟩ (.slice A8 (t+1) c8)) (p+1) (.slice A8 (t+1) c8) (I2++[-1])):=OwnL.keep HO8.out (fun g hg1 _ _=>heap_setCell_other _ _ _ _ (by simp only;omega));have y8:w8.frozen? ⟨p,2,none⟩=false:=(World.frozen?_of_block (w:=wk.alloc (.cells #[.int .i64 (-1)] 3)) (w':=w8) (a:=⟨p,2,none⟩) (grown_block hg8 HTA.out.plt (fun k hk (e:p=k)=>by have:=OwnL.lt HUA.out k hk;omega))).trans y3;have y9:w8.cell? ⟨p,2,none⟩=some (.slice Au t cu):=(World.cell?_of_block (w:=wk.alloc (.cells #[.int .i64 (-1)] 3)) (w':=w8) (a:=⟨p,2,none⟩) (grown_block hg8 HTA.out.plt (fun k hk (e:p=k)=>by have:=OwnL.lt HUA.out k hk;omega))).trans HTA.out.cells.1.2.2;clear ho8 hg8)
   clear x7 y0 y1 y2 y3;generalize w8.setCell ⟨p,2,none⟩ (.slice A8 (t+1) c8)=W8 at *;have HBG:=zh (HBR.out.trans HB8.out);have HBW8:=zh (HB77.out.trans (HBG.out.mono (by have:=HLG.out;omega)))
   have HXK8:Hid (W8.heap[w.heap.size]? = some (.cells #[.slice (some ⟨b,o,none⟩) s.length c] 27)):=(HBG.out.block _ (by have:=HLG.out;omega)).trans HX7.out
   have x7:=zb HXK8.out;have t0:=zA HBW8.out HTT.out.1;go_wp2_with fail;refine (rNamed_any x.kind W8).mono ?_;rintro e w9 ⟨rfl,rfl⟩
   cases hkn:zL x.kind with
   | false =>
    rw[hkn,if_neg (by simp)] at HN2
    rw[hkn,if_neg (by simp)] at HTK
    clear hkn;go_wp2;go_roundw
    case rel=>exact ⟨t+1,_,_,L,by omega,by go_num,HT8.out,by rw[HTK.out];exact HU8.out,by rw[HN2.out];exact HM.out,HO.out,HBG.out⟩
    case measure=>simp[intOf];omega
   | true =>
    rw[hkn,if_pos rfl] at HN2;rw[hkn,if_pos rfl] at HTK;clear hkn t0 x7;have hi2:(I2++[-1]).length=t+1:=by rw[List.length_append,hil,List.length_singleton]
    obtain ⟨g8,cu8,hg8,hgb,hgl,hgc,hgf⟩:=ownU_at HU8.out hi2 (by omega)
    injection hg8 with hg8 _ hcu
    subst hg8;subst hcu;have HGB:=zh (And.intro hgb hgl);have y4:=hgc t (by omega)
    have y5:=hgf t;have HC9:Hid (W8.cell? ⟨p,2,none⟩=some (.slice (some ⟨g8,0,none⟩) (t+1) c8)∧W8.cell? ⟨p,1,none⟩=some (.slice Av L.length cv)):=⟨HT8.out.cells.1.2.2,HT8.out.cells.1.2.1⟩;have h5:(t:Int)<(t:Int)+1:=by omega
    have h6:(t:Int)<((t+1:Nat):Int):=by omega
    have HNE:=zh (own_ne HU8.out HT8.out.own (q:=g8) rfl);clear hgc hgf hgb hgl;go_wp2_with fail;refine yK (S:=(fun w'=>(w'.cell? ⟨p,2,none⟩=some (.slice (some ⟨g8,0,none⟩) (t+1) c8)∧w'.cell? ⟨p,1,none⟩=some (.slice Av L.length cv)))) 12 (by kernel_rfl) ?_ (fun zH_=>?_)
    ·(try dsimp only);exact HC9.out
    refine tC 0 ?_;try simp only[ps]
    refine tC 1 ?_;try simp only[ps]
    refine tC 2 ?_;try simp only[ps]
    refine tB 3 ?_;try simp only[ps]
    refine tC 4 ?_;try simp only[ps]
    refine tC 5 ?_;try simp only[ps]
    refine tC 6 ?_;try simp only[ps]
    refine tC 7 ?_;try simp only[ps]
    refine tC 8 ?_;try simp only[ps]
    refine tB 9 ?_;try simp only[ps]
    refine tC 10 ?_;try simp only[ps]
    refine tC 11 ?_;try simp only[ps]
    refine yQ (rs:=[12]) (by kernel_rfl) (by simp) ?_
    refine AllReadyB.last rfl (by kernel_rfl) (fun K hK=>?_) AllReadyB.nil
    go_simp
    refine hK.out _ _ ?_;clear hK K
    (try clear zH_)
    try simp only[ps]
    refine wpAny_done (by kernel_rfl) ?_ _
    have HT9:Hid (RtS (some ⟨b,o,none⟩) s.length c p (.slice (some ⟨g8,0,none⟩) (t+1) c8) (fun q=>w.heap.size≤q) (W8.setCell ⟨g8,t,none⟩ (.int .i64 (L.length:Int))).drew (.slice Av L.length cv) L):=(HT8.out.other (g:=g8) (show w.heap.size≤g8 by have:=HLG.out;have:=HGB.out.1;omega) (by have:=HGB.out.1;omega) HNE.out t _).below (zC (Below.refl _ _) 1)
    have HU9:Hid (OwnI (W8.setCell ⟨g8,t,none⟩ (.int .i64 (L.length:Int))).drew (p+1) (.slice (some ⟨g8,0,none⟩) (t+1) c8) ((I2++[-1]).set t (L.length:Int))):=OwnL.below (ownU_set HU8.out t _) (zC (Below.refl _ _) 1);have HB9:Hid (Below p W8 (W8.setCell ⟨g8,t,none⟩ (.int .i64 (L.length:Int))).drew):=zC ((Below.refl p W8).setCell (p:=⟨g8,t,none⟩) (by have:=HGB.out.1;simp only;omega) _) 1
    clear y4 y5 HC9 h5 h6;generalize (W8.setCell ⟨g8,t,none⟩ (.int .i64 (L.length:Int))).drew=W9 at *;have HBG9:=zh (HBG.out.trans HB9.out);have HBW9:=zh (HB77.out.trans (HBG9.out.mono (by have:=HLG.out;omega)))
    have HXK9:Hid (W9.heap[w.heap.size]? = some (.cells #[.slice (some ⟨b,o,none⟩) s.length c] 27)):=(HBG9.out.block _ (by have:=HLG.out;omega)).trans HX7.out
    have HOF:Hid (Off (fun q=>w.heap.size≤q∨(Value.slice Av L.length cv).ownBlock=some q) W9 fun u=>TyR u x As Am):=off_old HTR.out HBW9.out fun q hq h=>by
     rcases h with h|h
     ·omega
     ·have:=(HT9.out.ownlt h).1;have:=HLG.out;omega
    have HAP:Hid (∀w',Kp (Value.slice Av L.length cv) W9 w'→(((w'.cell? ⟨p,1,none⟩=some (.slice Av L.length cv)∧w'.frozen? ⟨p,1,none⟩=false)∧w'.cell? ⟨w.heap.size,0,none⟩=some (.slice (some ⟨b,o,none⟩) s.length c))∧(w'.cell? ⟨b,o+t * 10,none⟩=some (.int .i64 x.kind)∧w'.cell? ⟨b,o+t * 10+1,none⟩=some (.string x.name)∧w'.cell? ⟨b,o+t * 10+2,none⟩=some (.int .i64 x.low)∧w'.cell? ⟨b,o+t * 10+3,none⟩=some (.int .i64 x.high)∧w'.cell? ⟨b,o+t * 10+4,none⟩=some (.int .i64 x.max)∧w'.cell? ⟨b,o+t * 10+5,none⟩=some (.slice As x.syms.length cs)∧w'.cell? ⟨b,o+t * 10+6,none⟩=some (.slice Am x.mems.length cm)∧w'.cell? ⟨b,o+t * 10+7,none⟩=some (.int .i64 x.key)∧w'.cell? ⟨b,o+t * 10+8,none⟩=some (.int .i64 x.elem)∧w'.cell? ⟨b,o+t * 10+9,none⟩=some (.bool x.open_)))∧Hid (Kp (Value.slice Av L.length cv) W9 w')):=fun w' k=>by
     have hpb:w'.heap[p]? = some (rdO (some ⟨b,o,none⟩) s.length c (.slice Av L.length cv) (.slice (some ⟨g8,0,none⟩) (t+1) c8)):=(k.oth p HT9.out.plt fun e=>by have:=HT9.out.ownlt e;omega).trans HT9.out.blk
     unfold rdO at hpb;have hold:∀ {a:Addr} {y:Value},w.cell? a=some y→w'.cell? a=some y:=fun {a y} h=>(World.cell?_of_block (w:=w) (w':=w') (a:=a) ((k.oth a.block (Nat.lt_of_lt_of_le (zN h) HBW9.out.size) fun e=>by have:=(HT9.out.ownlt e).1;have:=HLG.out;have:=zN h;omega).trans (HBW9.out.block a.block (zN h)))).trans h
     have hsb:=(k.oth w.heap.size (by have:=HT9.out.plt;have:=HLG.out;omega) fun e=>by have:=(HT9.out.ownlt e).1;have:=HLG.out;omega).trans HXK9.out
     exact ⟨⟨⟨⟨by rw[cell_of_row _ _ _ _ _ _ hpb];rfl,frozen_of_row _ _ _ _ _ hpb⟩,by rw[cell_of_row _ _ _ _ _ _ hsb];rfl⟩,hold HTT.out.1,hold HTT.out.2.1,hold HTT.out.2.2.1,hold HTT.out.2.2.2.1,hold HTT.out.2.2.2.2.1,hold HTT.out.2.2.2.2.2.1,hold HTT.out.2.2.2.2.2.2.1,hold HTT.out.2.2.2.2.2.2.2.1,hold HTT.out.2.2.2.2.2.2.2.2.1,hold HTT.out.2.2.2.2.2.2.2.2.2⟩,k⟩
    have HPL9:=zh HT9.out.plt;go_wp2_with fail
    refine yK (S:=(fun w'=>(((w'.cell? ⟨p,1,none⟩=some (.slice Av L.length cv)∧w'.frozen? ⟨p,1,none⟩=false)∧w'.cell? ⟨w.heap.size,0,none⟩=some (.slice (some ⟨b,o,none⟩) s.length c))∧(w'.cell? ⟨b,o+t * 10,none⟩=some (.int .i64 x.kind)∧w'.cell? ⟨b,o+t * 10+1,none⟩=some (.string x.name)∧w'.cell? ⟨b,o+t * 10+2,none⟩=some (.int .i64 x.low)∧w'.cell? ⟨b,o+t * 10+3,none⟩=some (.int .i64 x.high)∧w'.cell? ⟨b,o+t * 10+4,none⟩=some (.int .i64 x.max)∧w'.cell? ⟨b,o+t * 10+5,none⟩=some (.slice As x.syms.length cs)∧w'.cell? ⟨b,o+t * 10+6,none⟩=some (.slice Am x.mems.length cm)∧w'.cell? ⟨b,o+t * 10+7,none⟩=some (.int .i64 x.key)∧w'.cell? ⟨b,o+t * 10+8,none⟩=some (.int .i64 x.elem)∧w'.cell? ⟨b,o+t * 10+9,none⟩=some (.bool x.open_)))∧Hid (Kp (.slice Av L.length cv) W9 w'))) 16 (by kernel_rfl) ?_ (fun zH_=>?_)
    ·(try dsimp only);exact HAP.out _ (Kp.of (zC (Below.refl _ _) 1))
    refine tC 0 ?_;try simp only[ps]
    refine tC 1 ?_;try simp only[ps]
    refine tC 2 ?_;try simp only[ps]
    refine tC 3 ?_;try simp only[ps]
    refine tC 4 ?_;try simp only[ps]
    refine tB 5 ?_;try simp only[ps]
    refine tC 6 ?_;try simp only[ps]
    refine tB 7 ?_;try simp only[ps]
    refine tC 8 ?_;try simp only[ps]
    refine tC 9 ?_;try simp only[ps]
    refine tB 10 ?_;try simp only[ps]
    refine tS 11 (fun K hK=>?_)
    go_simp
    refine hK.out _ _ ?_ (fun zH_=>?_)
    ·(try dsimp only);exact HAP.out _ (zH_.2.out.below (zD _ _))
    clear hK K;try simp only[ps]
    refine tS 12 (fun K hK=>?_)
    (have HW6:=zh (HT9.out.own.below (zB (zC (Below.refl W9.heap.size W9) 1) (zD _ (x.box As cs Am cm))));have HZ6:Hid (p+1≤((W9.drewN 1).alloc (x.box As cs Am cm)).heap.size):=(by show _≤_;have:=HPL9.out;simp;omega);have hll:=HLM.out.2;refine step_append_o elem_ty (by rfl) (.tmp 65) (.tmp 71) (by rfl) (p+1) (.slice Av L.length cv) L.length (L.flatMap TyA.cells) (by rfl) HW6.out W9.heap.size 0 1 1 (⟨x,As,cs,Am,cm⟩:TyA).cells (by rfl) rfl (zT (W9.drewN 1) (⟨x,As,cs,Am,cm⟩:TyA).cells 50) (tyA_one _) (by omega) (by omega) HZ6.out ?_;intro v8 wv8 ho8 hg8 hv8;obtain ⟨Av8,cv8,rfl,_⟩:=OwnL.reads (OwnL.snoc (enc:=TyA.cells) (x:=(⟨x,As,cs,Am,cm⟩:TyA)) ho8);have HN8:=zh (HT9.out.next (x:=(⟨x,As,cs,Am,cm⟩:TyA)) HOF.out (zB (zC (Below.refl W9.heap.size W9) 1) (zD _ (x.box As cs Am cm))) ho8 hg8 hv8);have HG8:=zh hg8;clear ho8 hg8 hv8)
    refine hK.out _ _ ?_ (fun zH_=>?_)
    ·(try dsimp only);exact HAP.out _ (zH_.2.out.grown HG8.out)
    clear hK K;try simp only[ps]
    refine tC 13 ?_;try simp only[ps]
    refine tC 14 ?_;try simp only[ps]
    refine tC 15 ?_;try simp only[ps]
    refine yQ (rs:=[16]) (by kernel_rfl) (by simp) ?_
    refine AllReadyB.last rfl (by kernel_rfl) (fun K hK=>?_) AllReadyB.nil
    (obtain ⟨⟨⟨⟨hc2,hf2⟩,_⟩,_⟩,_⟩:=zH_;go_simp)
    refine hK.out _ _ ?_;clear hK K
    (try clear zH_)
    try simp only[ps]
    refine wpAny_done (by kernel_rfl) ?_ _
    have he8:(L++[(⟨x,As,cs,Am,cm⟩:TyA)]).length=L.length+1:=by simp
    have HN9:=HN8.out;rw[he8] at HN9;have HTN:=zh HN9.1;have HCN:=zh HN9.2;have HUN:=zh (ownU_chg HU9.out HT9.out.own HCN.out);clear hc2 hf2 HN8 HN9 HG8 HAP;generalize wv8.setCell ⟨p,1,none⟩ (.slice Av8 (L.length+1) cv8)=W10 at *;go_wp2;go_roundw
    case rel =>
     refine ⟨t+1,_,.slice Av8 (L.length+1) cv8,L++[⟨x,As,cs,Am,cm⟩],by omega,by go_num,HTN.out,?_,?_,fun y hy=>?_,HBG9.out.trans HCN.out.bel⟩
     ·rw[HTK.out,←HLM.out.1];exact HUN.out
     ·rw[HN2.out,List.map_append,HM.out];rfl
     ·rcases List.mem_append.1 hy with k|k
      ·exact HO.out y k
      ·obtain rfl:y=⟨x,As,cs,Am,cm⟩:=by simpa using k
       exact ⟨HMH.out,HTR.out⟩
    case measure=>simp[intOf];omega
  ·obtain rfl:t=s.length:=by omega
   obtain ⟨v0,hv0⟩:∃v0,v0=v:=⟨_,rfl⟩;obtain ⟨u0,hu0⟩:∃u0,u0=u:=⟨_,rfl⟩;obtain ⟨Av,cv,rfl⟩:=HT.out.val;have y7:=HT.out.cells.1.2.1;have HRB:=zh (fun W (hb:Below p W7 W)=>(hb.block _ (by have:=HLG.out;omega)).trans HR7.out)
   rw[List.take_of_length_le (by rw[(t1D_len (s:=s) s.length).1];exact Nat.le_refl _)] at HU
   go_wp2_with fail
   rw[←hv0] at HT;rw[←hu0] at HT HU;clear y7 x7 hu0;have HT8:Hid (RtS A s.length c p u0 (fun q=>q=p∨q=w.heap.size+1) wk v0 L):=HT.out.mono (fun q h=>by have:=HLG.out;rcases h with h|h <;> omega) (.inl rfl)
   have HLN:Hid (L.length=(t1D s s.length).2.length∧L.length≤32):=by
    have h:=congrArg List.length HM.out;rw[List.length_map] at h;have:=(t1D_len (s:=s) s.length).2;exact ⟨h,by omega⟩
   have HTL:Hid (tidyL s=t2D s (t1D s s.length).1 (t1D s s.length).2 L.length):=by show _=_;rw[HLN.out.1];rfl
   obtain ⟨ix,hix⟩:∃ix,ix=(t1D s s.length).1:=⟨_,rfl⟩;obtain ⟨out0,ho0⟩:∃o0,o0=(t1D s s.length).2:=⟨_,rfl⟩;have HIX:=zh hix;have HIN:Hid (ix.length=s.length):=by show _=_;rw[hix];exact (t1D_len (s:=s) s.length).1
   rw[←hix] at HU;rw[←ho0] at HM;rw[←hix,←ho0] at HTL;clear hix ho0 HT
   go_loopw [10] (fun k wr=>∃ (t:Nat) (v:Value) (M:List TyA),t≤L.length∧k = .int .i64 (t:Int)∧Hid (RtS A s.length c p u0 (fun q=>q=p∨q=w.heap.size+1) wr v M∧OwnI wr (p+1) u0 ix∧M.map (·.t)=t2D s ix out0 t∧(∀j x,t≤j→j<L.length→M[j]? = some x→OldX w s x)∧(L.length≤M.length∧M.length≤32+t * 1056)∧Below p W7 wr)) (fun k _=>L.length - (intOf k).toNat)
   case atStart=>exact ⟨0,v0,L,Nat.zero_le _,rfl,HT8.out,HU.out,HM.out,(fun j x _ _ hx=>HO.out x (List.mem_of_getElem? hx)),⟨Nat.le_refl _,by have:=HLN.out.2;omega⟩,HBR.out⟩
   case round =>
    obtain ⟨t,v,M,htl,rfl,hh⟩:=hrel;obtain ⟨wi,rfl⟩:∃wi:World,wi=wr:=⟨_,rfl⟩;have HT:=zh hh.out.1;have HUI:=zh hh.out.2.1;have HMM:=zh hh.out.2.2.1;have HOO:=zh hh.out.2.2.2.1;have HLL:=zh hh.out.2.2.2.2.1;have HBB:=zh hh.out.2.2.2.2.2;have HBW':=zh (HB77.out.trans (HBB.out.mono (by have:=HLG.out;omega)))
    clear hh
    by_cases hlt:t<L.length
    ·have hlm:t<M.length:=by have:=HLL.out.1;omega
     have hs0:0<s.length:=by have:=(t1D_len (s:=s) s.length).2;have:=HLN.out.1;omega
     have h1:(0:Int)≤(t:Int):=by omega
     have h2:(t:Int)<(L.length:Int):=by omega
     have h3:(t:Int)<(M.length:Int):=by omega
     obtain ⟨gi,cui,hu1,hix1⟩:=ixs_of HUI.out HT.out.own HIN.out hs0;have HU1:=zh hu1;clear hu1;obtain ⟨g,cm0,rfl,hgl,hrg,hth⟩:=HT.out.at_ hlm;have HOX:=zh (HOO.out t _ (Nat.le_refl _) hlt (zl hlm));obtain ⟨x,hx⟩:∃x,M[t]=x:=⟨_,rfl⟩;have HXE:Hid (M[t]? = some x):=(zl hlm).trans (congrArg some hx);rw[hx] at HOX hrg;clear hx;have x16:=HT.out.cells.1.2.1
     have c16:wi.cell? ⟨g,t * 10+6,none⟩=some (.slice x.Am x.t.mems.length x.cm):=hrg 6 _ rfl;have HPL:=zh HT.out.plt;have HBO:=zh (fun q (hq:(Value.slice (some ⟨g,0,none⟩) M.length cm0).ownBlock=some q)=>HT.out.ownlt hq)
     have HSO:Hid (∀q,q<w.heap.size→¬ ((q=p∨q=w.heap.size+1)∨(Value.slice (some ⟨g,0,none⟩) M.length cm0).ownBlock=some q)):=by
      intro q hq h
      have:=HLG.out
      rcases h with (h|h)|h
      ·omega
      ·omega
      ·have:=(HBO.out q h).1;omega
     clear hrg hth;obtain ⟨css,k1,k2,k3,k4⟩:=RowsR.cells (fun x cs h=>(MemD.at_one h).1) HOX.out.2.mems
     have HK1:=zh k1;have HK2:=zh k2;have HK3:=zh k3;have HK4:Hid (css≠[]→∃b o,x.Am=some ⟨b,o,none⟩∧(wi.alloc (.cells #[] 71)).rangeAt b o css.flatten):=fun hn=>by
      obtain ⟨b,o,e,hr⟩:=k4 (fun e=>hn (List.eq_nil_of_length_eq_zero (by rw[k1,e];rfl)))
      exact ⟨b,o,e,range_below (zB HBW'.out (zD _ _)) hr⟩
     have HOne:Hid (∀cs∈css,∀u∈cs,u.oneCell'=true):=fun cs hc=>by
      obtain ⟨i,hi,rfl⟩:=List.getElem_of_mem hc;exact (MemD.at_one (k2 i (x.t.mems)[i] _ (zl (by omega)) (zl hi))).2
     have HMS:Hid (x.t.mems.length≤16∧(∀m∈x.t.mems,0≤m.type∧m.type<(s.length:Int))∧∀m∈x.t.mems,finD s (s.length+1) m.type) :=
      ⟨mems_le HV.out HOX.out.1,fun m hm=>(mem_rng HV.out HOX.out.1 hm).2,fun m hm=>HFN.out _ HOX.out.1 m hm⟩
     have hc16:css.length≤16:=by rw[k1];exact HMS.out.1
     have HEM:Hid (World.ownsRow (wi.alloc (.cells #[] 71)) wi.heap.size 71 13 (.slice (some ⟨wi.heap.size,0,none⟩) 0 0) 0 []):=own_empty wi wi.heap.size 71 13 (Nat.le_refl _);have HBE:=zh (zD wi (.cells #[] 71));clear k1 k2 k3 k4;have x17:=zA HBE.out x16;have c17:=zA HBE.out c16
     go_wp2_with (at_builtin;refine wpList_append_e elem_mem _ rfl (.tmp 87) (.tmp 96) rfl wi.heap.size _ rfl HEM.out css x.t.mems.length HK1.out.symm x.Am x.cm rfl HK3.out HOne.out HK4.out (by omega) (by omega) HBE.out.size ?_;intro v4 w7 ho4 hg4;obtain ⟨Bm,dm,rfl,hr7⟩:=memX_of HK1.out HK2.out HK3.out ho4;have HR7m:=zh hr7;have HB7':Hid (Below wi.heap.size wi w7):=HBE.out.grown hg4 HBE.out.size (fun q hq=>(World.ownsRow.lt HEM.out q hq).1);clear ho4 hg4 hr7)
     have HT7:Hid (RtS A s.length c p u0 (fun q=>(q=p∨q=w.heap.size+1)∨(Value.slice Bm x.t.mems.length dm).ownBlock=some q) w7 (.slice (some ⟨g,0,none⟩) M.length cm0) M) :=
      HT.out.sets HB7'.out (fun q hq h=>h.elim id fun e=>by have:=(HR7m.out.lt e).1;omega) (.inl (.inl rfl))
     have HU7:Hid (OwnI w7 (p+1) u0 ix):=OwnL.below HUI.out HB7'.out;have HB7:=zh (HBB.out.trans (HB7'.out.mono (Nat.le_of_lt HPL.out)));have HSP:Hid (∀q,(Value.slice Bm x.t.mems.length dm).ownBlock=some q→(wi.heap.size≤q)∧(Value.slice (some ⟨g,0,none⟩) M.length cm0).ownBlock≠some q):=fun q hq=>⟨(HR7m.out.lt hq).1,fun e=>by have:=(HBO.out q e).2;have:=(HR7m.out.lt hq).1;omega⟩
     clear x16 c16 x17 c17 HEM HBE HK1 HK2 HK3 HK4 HOne hc16;obtain ⟨O1,hO1⟩:∃O1,O1=M.map (·.t):=⟨_,rfl⟩;have HO1:=zh hO1;have HO2:Hid (O1=t2D s ix out0 t):=hO1.trans HMM.out;have HOG:Hid (O1.getD t zeroT=x.t):=by
      show _=_
      rw[hO1,List.getD_eq_getElem?_getD,List.getElem?_map,HXE.out];rfl
     have HOL:Hid (O1.length=M.length):=by show _=_;rw[hO1,List.length_map]
     have HS3:Hid (∀q,q<w.heap.size→¬ ((q=p∨q=w.heap.size+1)∨(Value.slice Bm x.t.mems.length dm).ownBlock=some q)):=by
      intro q hq h
      rcases h with h|h
      ·exact HSO.out q hq (.inl h)
      ·have:=(HSP.out q h).1;have:=HBW'.out.size;omega
     clear hO1
     go_loopw [12] (fun k wr=>∃ (i:Nat) (v':Value) (L':List TyA),i≤x.t.mems.length∧k = .int .i64 (i:Int)∧Hid (RtS A s.length c p u0 (fun q=>(q=p∨q=w.heap.size+1)∨(Value.slice Bm x.t.mems.length dm).ownBlock=some q) wr v' L'∧OwnI wr (p+1) u0 ix∧Below p W7 wr∧RowX 71 13 (MatL w) wr wi.heap.size Bm dm (midM s ix x.t.mems O1 i)∧(∀q,(Value.slice Bm x.t.mems.length dm).ownBlock=some q→v'.ownBlock≠some q)∧L'.map (·.t)=(yB s ix (x.t.mems.take i) O1).2∧∀j,j<M.length→L'[j]? = M[j]?)) (fun k _=>x.t.mems.length - (intOf k).toNat)
     case atStart=>exact ⟨0,_,M,Nat.zero_le _,rfl,HT7.out,HU7.out,HB7.out,by rw[midM_zero];exact HR7m.out,fun q hq=>(HSP.out q hq).2,by rw[placeMs_zero];exact HO1.out.symm,fun _ _=>rfl⟩
     case round =>
      obtain ⟨i,v',L',hil,rfl,hh⟩:=hrel;obtain ⟨wj,rfl⟩:∃wj:World,wj=wr:=⟨_,rfl⟩;have HTd:=zh hh.out.1;have HUd:=zh hh.out.2.1;have HBd:=zh hh.out.2.2.1;have HRX:=zh hh.out.2.2.2.1;have HSV:=zh hh.out.2.2.2.2.1;have HMP:=zh hh.out.2.2.2.2.2.1;have HPR:=zh hh.out.2.2.2.2.2.2;have HBWd:=zh (HB77.out.trans (HBd.out.mono (by have:=HLG.out;omega)))
      have HLd:Hid (L'.length≤M.length+i * 66∧M.length≤L'.length):=by
       have h:=congrArg List.length HMP.out;rw[List.length_map] at h;have:=placeMs_len2 (ix:=ix) (out:=O1) HV.out HMS.out.2.1 i hil;rw[HOL.out] at this;exact ⟨by omega,by omega⟩
      clear hh
      by_cases hli:i<x.t.mems.length
      ·have hlm2:i<(midM s ix x.t.mems O1 i).length:=by rw[midM_len hil];exact hli
       obtain ⟨gl,cs,rfl,hbl,hgw,hcl,hat,hrg,hfr⟩:=HRX.out.at_ hlm2;rw[midM_get hli] at hat;obtain ⟨A1,c1,A2,c2,A3,c3,rfl,_⟩:=hat.parts;have d2:wj.cell? ⟨gl,i * 13+2,none⟩=some (.int .i64 (x.t.mems[i]).type):=hrg 2 _ rfl;have HFR:=zh (hfr (i * 13+2));have HMI:=zh (List.getElem_mem hli);have HMG:=zh (midM_get (s:=s) (ix:=ix) (out:=O1) hli hlm2);have HSU:=zh (midM_succ (s:=s) (ix:=ix) (out:=O1) hli)
       have HPU:=zh (placeMs_succ (s:=s) (ix:=ix) (out:=O1) hli);generalize x.t.mems[i]=m at *;have HPm:=zh (And.intro (HMS.out.2.1 m HMI.out) (HMS.out.2.2 m HMI.out));clear hat hrg hfr hcl;have HGL2:Hid (wi.heap.size≤gl∧gl<wj.heap.size):=⟨hbl,hgw⟩;have HSVg:=zh (HSV.out gl rfl);have hms16:=HMS.out.1;have i1:(0:Int)≤(i:Int):=by omega
       have i2:(i:Int)<(x.t.mems.length:Int):=by omega
       have HD2:=zh d2;have HLz:Hid (L'.length+2 * (s.length+1)≤100000):=by
        show _≤_
        have:=HLd.out.1;have:=HLL.out.2;have:=HMS.out.1;have:=HLN.out.2;have h3:=Nat.mul_le_mul_right 1056 (show t≤31 by omega)
        have h4:=Nat.mul_le_mul_right 66 (show i≤16 by omega)
        omega
       obtain ⟨gi,cui,hu1,hix1⟩:=ixs_of HUd.out HTd.out.own HIN.out hs0;have HIX1:=zh hix1;have HTd1:Hid (RtS A s.length c p (.slice (some ⟨gi,0,none⟩) s.length cui) (fun q=>(q=p∨q=w.heap.size+1)∨(Value.slice (some ⟨gl,0,none⟩) x.t.mems.length dm).ownBlock=some q) wj v' L'):=hu1▸HTd.out
       have HU1:=zh hu1;clear hu1 hix1;obtain ⟨z,hz⟩:∃z,z=(zY s ix (s.length+1) m.type (yB s ix (x.t.mems.take i) O1).2).1:=⟨_,rfl⟩;have HZ:=zh hz;clear hz;go_wp2_with fail;refine (rPlace_any s A c HV.out w HS.out p gi cui ix (by have:=HLG.out;omega) (s.length+1) m.type _ v' L' _ HPm.out.1 HPm.out.2 HS3.out HLz.out HTd1.out HIX1.out HBWd.out).mono ?_
       rintro e w8 ⟨v8,L8,rfl,hm8,ht8,hc8,hp8⟩;rw[HMP.out,←HZ.out];rw[HMP.out] at hm8;rw[←HU1.out] at ht8;have HM8:=zh hm8;have HT8d:=zh ht8;have HC8:=zh hc8;have HP8:=zh hp8;have HU8:=zh (ownU_chg HUd.out HTd.out.own hc8);have HK8:Hid (w8.heap[gl]? = wj.heap[gl]?):=hc8.oth gl (by have:=HGL2.out.1;have:=HPL.out;omega) HGL2.out.2 HSVg.out
       have HV8:Hid (v8.ownBlock≠some gl):=fun e=>(hc8.own _ e).elim HSVg.out fun h=>by have:=HGL2.out.2;omega
       have HUG:Hid (∀q,u0.ownBlock=some q→q≠gl):=fun q hq e=>by
        obtain ⟨a1,f1,e1⟩:=OwnL.block HUd.out hq;have h13:(Value.slice (some ⟨gl,0,none⟩) (midM s ix x.t.mems O1 i).length dm).ownBlock=some gl:=rfl;obtain ⟨css,hro,_⟩:=HRX.out;obtain ⟨a2,f2,e2⟩:=OwnL.block hro h13;subst e;rw[e1] at e2
        injection e2 with e2
        injection e2 with _ e3
        exact absurd e3 (by decide)
       clear hm8 ht8 hc8 hp8 d2;have d8:w8.cell? ⟨gl,i * 13+2,none⟩=some (.int .i64 m.type):=(World.cell?_of_block (w:=wj) (w':=w8) (a:=⟨gl,i * 13+2,none⟩) HK8.out).trans HD2.out;have f8:w8.frozen? ⟨gl,i * 13+2,none⟩=false:=(World.frozen?_of_block (w:=wj) (w':=w8) (a:=⟨gl,i * 13+2,none⟩) HK8.out).trans HFR.out;go_wp2;go_roundw
       case rel =>
        refine ⟨i+1,v8,L8,by omega,by go_num,HT8d.out.other (g:=gl) (.inr rfl) (by have:=HGL2.out.1;have:=HPL.out;omega) HV8.out _ _,?_,?_,?_,fun q hq e=>?_,?_,fun j hj=>?_⟩
        ·exact OwnL.keep HU8.out fun q _ _ hq=>heap_setCell_other _ _ _ _ (HUG.out q hq)
        ·exact (HBd.out.trans HC8.out.bel).setCell (p:=⟨gl,i * 13+2,none⟩) (by have:=HGL2.out.1;have:=HPL.out;simp only;omega) _
        ·have hk:RowX 71 13 (MatL w) w8 wi.heap.size (some ⟨gl,0,none⟩) dm (midM s ix x.t.mems O1 i):=HRX.out.keep fun q _ _ hq=>by
          have:gl=q:=by simpa[Value.ownBlock] using hq
          rw[←this];exact HK8.out
         have hs:=hk.set (i:=i) hlm2 rfl (j:=2) (by omega) (.int .i64 z) (x:={ m with type:=z }) fun cs hc=>by
          rw[HMG.out] at hc;exact hc.type z
         rw[HZ.out,HSU.out] at hs;rw[HZ.out];exact hs
        ·have:gl=q:=by simpa[Value.ownBlock] using hq
         exact HV8.out (by rw[this];exact e)
        ·rw[HPU.out];exact HM8.out
        ·exact (HP8.out j (by have:=HLd.out.2;omega)).trans (HPR.out j hj)
       case measure=>simp[intOf];omega
      ·obtain rfl:i=x.t.mems.length:=by omega
       rw[midM_all] at HRX;rw[List.take_length] at HMP;have HNL:Hid ((yB s ix x.t.mems O1).1.length=x.t.mems.length):=by
        have:=placeMs_len1 (s:=s) (ix:=ix) (ms:=x.t.mems) (out:=O1) x.t.mems.length (Nat.le_refl _)
        rwa [List.take_length] at this
       have htL:t<L'.length:=by have:=HLd.out.2;omega
       have HET:Hid (L'[t]? = some x):=(HPR.out t hlm).trans HXE.out;have hET:L'[t]=x:=Option.some.inj ((zl htL).symm.trans HET.out);have HEG:=zh hET;obtain ⟨g2,cv2,rfl,hgl2,hrg2,hth2⟩:=HTd.out.at_ htL;rw[hET] at hrg2;clear hET;have ht31:t≤31:=by have:=HLN.out.2;omega
       have j1:(0:Int)≤(t:Int):=by omega
       have j2:(t:Int)<(L'.length:Int):=by omega
       have y7:=HTd.out.cells.1.2.1;have y6:wj.cell? ⟨g2,t * 10+6,none⟩=some (.slice x.Am x.t.mems.length x.cm):=hrg2 6 _ rfl;have yf:wj.frozen? ⟨g2,t * 10+6,none⟩=false:=(hth2 6 (by omega)).2
       have HSO2:Hid (∀q,q<w.heap.size→¬ ((q=p∨q=w.heap.size+1)∨(Value.slice (some ⟨g2,0,none⟩) L'.length cv2).ownBlock=some q)):=by
        intro q hq h
        have:=HLG.out
        rcases h with (h|h)|h
        ·omega
        ·omega
        ·have:=(HTd.out.ownlt h).1;omega
       have HOF:Hid (Off (fun q=>(q=p∨q=w.heap.size+1)∨(Value.slice (some ⟨g2,0,none⟩) L'.length cv2).ownBlock=some q) wj fun u=>TyR u { x.t with mems:=(yB s ix x.t.mems O1).1 } x.As Bm):=by
        refine off_mems (x:=x.t) (HTd.out.off _ (List.mem_of_getElem? HET.out)) HBWd.out HSO2.out (fun q h=>h.elim (fun h => .inl (.inl h)) .inr) HRX.out (fun q hq h=>?_) (by rw[HNL.out];have:=HMS.out.1;unfold Lim;omega) rfl rfl rfl
        rw[HNL.out] at hq;have hge:=(HSP.out q hq).1;have:=HPL.out;have:=HLG.out
        rcases h with (h|h)|h
        ·omega
        ·omega
        ·exact HSV.out q hq h
       have HUG2:Hid (∀q,u0.ownBlock=some q→q≠g2):=fun q hq e=>own_ne HUd.out HTd.out.own (e▸hq) rfl
       clear hrg2 hth2;go_wp2;go_roundw
       case rel =>
        have HS9:=(HTd.out.mono (S':=fun q=>q=p∨q=w.heap.size+1) (fun q h => .inl h) (.inl rfl)).setC (i:=t) htL rfl (j:=6) (by omega) (z := .slice Bm x.t.mems.length dm) (x:=⟨{ x.t with mems:=(yB s ix x.t.mems O1).1 },x.As,x.cs,Bm,dm⟩) (by rw[HEG.out];unfold TyA.cells;simp only[TyD.cs,HNL.out];rfl) HOF.out
        refine ⟨t+1,.slice (some ⟨g2,0,none⟩) L'.length cv2,L'.set t ⟨{ x.t with mems:=(yB s ix x.t.mems O1).1 },x.As,x.cs,Bm,dm⟩,by omega,by go_num,HS9.1,?_,?_,fun j y h1 h2 hy=>?_,⟨?_,?_⟩,HBd.out.trans HS9.2.bel⟩
        ·exact OwnL.keep HUd.out fun q _ _ hq=>heap_setCell_other _ _ _ _ (HUG2.out q hq)
        ·rw[t2D_succ,←HO2.out,HOG.out,List.map_set,HMP.out]
        ·rw[List.getElem?_set_ne (by omega),HPR.out j (by have:=HLL.out.1;omega)] at hy
         exact HOO.out j y (by omega) h2 hy
        ·rw[List.length_set];have:=HLd.out.2;have:=HLL.out.1;omega
        ·rw[List.length_set]
         have:=HLd.out.1;have:=HLL.out.2;have:=HMS.out.1;have h4:=Nat.mul_le_mul_right 66 (show x.t.mems.length≤16 from HMS.out.1)
         omega
       case measure=>simp[intOf];omega
    ·obtain rfl:t=L.length:=by omega
     obtain ⟨Av2,cv2,rfl⟩:=HT.out.val;obtain ⟨Bu,du,rfl,_⟩:=OwnL.reads HUI.out;rw[HIN.out] at HT HUI;have x7:=HT.out.cells.1.2.1;have HTM:Hid (M.map (·.t)=tidyL s):=HMM.out.trans HTL.out.symm;have HML:Hid (M.length=(tidyL s).length):=by have h:=congrArg List.length HTM.out;rw[List.length_map] at h;exact h
     have rr:=zb (HRB.out _ HBB.out);have rf:wi.frozen? ⟨w.heap.size+1,0,none⟩=false:=frozen_of_row _ _ _ _ _ (HRB.out _ HBB.out);clear HOO HLL HLN HO HM HRB HFN
     by_cases hbig:32<M.length
     ·have q1:(32:Int)<(M.length:Int):=by omega
      have HT3:Hid (tidyE s d=3):=by show _=_;rw[HTE.out,←HML.out];exact if_pos hbig
      clear hbig;go_wp2_with fail;have r0:=World.cell?_setCell_same wi ⟨w.heap.size+1,0,none⟩ (.slice none 0 0) rr;have HEN:=zh (tidy_bad (s:=s) (d:=d) (by rw[HT3.out];decide) (HBW'.out.setCell (p:=⟨w.heap.size+1,0,none⟩) (Nat.le_succ _) (.slice none 0 0)))
      rw[HT3.out] at HEN;refine bodyPost_ret (v := .tuple #[.agg #[.slice none 0 0],.slice none 0 0,.int .i64 3]) (by simp[results,Tryz.results9,go_sem,r0]) rfl HEN.out
     ·have q1:¬ (32:Int)<(M.length:Int):=by omega
      have HT3:Hid (tidyE s d=0):=by show _=_;rw[HTE.out,←HML.out];exact if_neg hbig
      have HMB:Hid (M.length≤32):=by show _≤_;omega
      have HC26:Hid (wi.cell? ⟨p,1,none⟩=some (.slice Av2 M.length cv2)∧wi.cell? ⟨p,2,none⟩=some (.slice Bu s.length du)):=⟨HT.out.cells.1.2.1,HT.out.cells.1.2.2⟩;have HPN:Hid (w.heap.size+1≠p):=by show _≠_;have:=HLG.out;omega
      clear hbig;go_wp2_with fail;clear x7;refine wp_region_held_drew (S:=(fun w'=>(w'.cell? ⟨p,1,none⟩=some (.slice Av2 M.length cv2)∧w'.cell? ⟨p,2,none⟩=some (.slice Bu s.length du)))) (by kernel_rfl) ?_ (fun zH_=>?_)
      ·(try dsimp only);exact HC26.out
      refine tL 0 ?_;try simp only[ps]
      refine tL 1 ?_;try simp only[ps]
      refine tL 2 ?_;try simp only[ps]
      refine tL 3 ?_;try simp only[ps]
      refine tL 4 ?_;try simp only[ps]
      refine tL 5 ?_;try simp only[ps]
      refine tL 6 ?_;try simp only[ps]
      refine tL 7 ?_;try simp only[ps]
      refine tR 8 (fun K hK=>?_)
      go_simp
      refine hK.out _ _ ?_ (fun zH_=>?_)
      ·(try dsimp only);exact ⟨(World.cell?_setCell_other _ _ _ _ (by simp only[ne_eq,Addr.mk.injEq,not_and];intro h;exact absurd h HPN.out)).trans zH_.1,(World.cell?_setCell_other _ _ _ _ (by simp only[ne_eq,Addr.mk.injEq,not_and];intro h;exact absurd h HPN.out)).trans zH_.2⟩
      clear hK K;try simp only[ps]
      refine tL 9 ?_;try simp only[ps]
      refine tL 10 ?_;try simp only[ps]
      refine wpAnyH_done (by kernel_rfl) ?_ _
      have HTF:Hid (RtS A s.length c p (.slice Bu s.length du) (fun q=>q=p∨q=w.heap.size+1) (wi.setCell ⟨w.heap.size+1,0,none⟩ (.slice Av2 M.length cv2)).drew (.slice Av2 M.length cv2) M) :=
       (HT.out.other (g:=w.heap.size+1) (.inr rfl) HPN.out (fun e=>by have:=(HT.out.ownlt e).1;have:=HLG.out;omega) 0 _).below (zC (Below.refl _ _) 1)
      have HUF:Hid (OwnI (wi.setCell ⟨w.heap.size+1,0,none⟩ (.slice Av2 M.length cv2)).drew (p+1) (.slice Bu s.length du) ix) :=
       OwnL.below (OwnL.keep HUI.out fun q hq _ _=>heap_setCell_other _ _ _ _ (by have:=HLG.out;simp only;omega)) (zC (Below.refl _ _) 1)
      have HBF:Hid (Below w.heap.size w (wi.setCell ⟨w.heap.size+1,0,none⟩ (.slice Av2 M.length cv2)).drew):=zC (HBW'.out.setCell (p:=⟨w.heap.size+1,0,none⟩) (Nat.le_succ _) _) 1;have r0:(wi.setCell ⟨w.heap.size+1,0,none⟩ (.slice Av2 M.length cv2)).drew.cell? ⟨w.heap.size+1,0,none⟩=some (.slice Av2 M.length cv2):=World.cell?_setCell_same wi ⟨w.heap.size+1,0,none⟩ (.slice Av2 M.length cv2) rr
      clear zH_ rr rf;generalize (wi.setCell ⟨w.heap.size+1,0,none⟩ (.slice Av2 M.length cv2)).drew=W9 at *;go_wp2;have HIL:Hid ((t1D s s.length).1.length=s.length):=(t1D_len s.length).1;have HRW:=zh (OwnL.rows (bytes:=120) HTF.out.own (fun _=>rfl) (by have:=HMB.out;unfold Lim;omega) (at_:=fun x cs=>TyD.At W9 x.t cs) (fun x hx=>⟨x.As,x.cs,x.Am,x.cm,rfl,(HTF.out.off x hx).out⟩))
      have HIW:=zh (OwnI.ints HUF.out (by rw[HIN.out];unfold Lim;omega))
      refine bodyPost_ret (v := .tuple #[.agg #[.slice Av2 M.length cv2],.slice Bu s.length du,.int .i64 0]) (by simp[results,Tryz.results9,go_sem,r0]) rfl ⟨Av2,cv2,Bu,du,?_,?_,?_,HBF.out⟩
      ·unfold tidyT tidyI;rw[HT3.out,if_pos rfl,if_pos rfl,HIL.out,←HML.out]
      ·unfold tidyT;rw[HT3.out,if_pos rfl,←HTM.out]
       obtain ⟨A',c',e,hr⟩:=HRW.out
       injection e with e
       rw[e];exact tys_map hr
      ·unfold tidyI;rw[HT3.out,if_pos rfl,←HIX.out]
       obtain ⟨A',c',e,hr⟩:=HIW.out
       injection e with e
       rw[e];exact hr
end Go.Proofs.YtdfolgmcggdjdaaGreatDoor


