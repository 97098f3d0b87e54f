/-
  Walks: symbols and members, in package schema (written by gen_sc4.py).
-/
import Derived.Test.YtdfolgmcggdjdaaGreatDoorQSCA
import Derived.Test.YtdfolgmcggdjdaaGreatDoorQDM
import Derived.Deep.DeepCutAuto
namespace Go.Proofs.YtdfolgmcggdjdaaGreatDoor
open Go.RowKit
set_option maxHeartbeats 16000000
set_option maxRecDepth 100000
theorem zV {W:World} {b:Nat} {o:Obj} (h:W.heap[b]? = some o) (o2:Obj):(W.alloc o2).heap[b]? = some o :=
 ((zD W o2).block b (zg.1 h).1).trans h
theorem tmp_sz {W:World} {b b':Nat} {o:Obj} (h:W.heap[b]? = some o) (e:b=b'):W.heap[b']? = some o:=e▸h
theorem zZ {W:World} {b:Nat} {u:Value} {E:TypeId} {fr:Nat×Nat} (h:W.heap[b]? = some (.cells #[u] E fr)):W.rangeAt b 0 [u]:=fun j v hj=>by
 rw[Nat.zero_add,cell_of_row _ _ _ _ _ _ h]
 simpa using hj
theorem zR {α:Type} {E E2 size:Nat} {enc:α→List Value} {W w':World} {b base:Nat} {cur:Array Value} {fr:Nat×Nat} {v:Value} {l:List α} (h:W.heap[b]? = some (.cells cur E fr)) (h2:OwnL E2 size enc W base v l) (hE:E≠E2) (hg:W.grownBy w' v.ownBlock):w'.heap[b]? = some (.cells cur E fr) :=
 (grown_block hg (zg.1 h).1 fun k hk e=>by
  subst e
  obtain ⟨c2,f2,e2⟩:=h2.block hk
  rw[h] at e2
  injection e2 with e2
  injection e2 with _ e3
  exact hE e3).trans h
theorem zF {w W:World} (h:Below w.heap.size w W∧w.heap.size≤W.heap.size) (o:Obj):Below w.heap.size w (W.alloc o)∧w.heap.size≤(W.alloc o).heap.size :=
 ⟨h.1.alloc h.2 o,by simp;omega⟩
theorem zP {α:Type} {E size:Nat} {enc:α→List Value} {w W w':World} {v:Value} {l:List α} (h:Below w.heap.size w W∧w.heap.size≤W.heap.size) (h2:OwnL E size enc W w.heap.size v l) (hg:W.grownBy w' v.ownBlock):Below w.heap.size w w'∧w.heap.size≤w'.heap.size :=
 ⟨h.1.grown hg h.2 h2.lt,Nat.le_trans h.2 hg.size⟩
theorem hold_sym {W:World} {b:Nat} {s:SymD} (h:W.heap[b]? = some (.cells #[.int .i64 s.id,.string s.name] 55 (0,0))) :
  (W.cell? ⟨b,0,none⟩=some (.int .i64 s.id)∧W.cell? ⟨b,1,none⟩=some (.string s.name))∧Hid (W.heap[b]? = some (.cells #[.int .i64 s.id,.string s.name] 55 (0,0))) :=
 ⟨⟨by rw[cell_of_row _ _ _ _ _ _ h];rfl,by rw[cell_of_row _ _ _ _ _ _ h];rfl⟩,h⟩
def MBox (W:World) (b:Nat) (m:MemD) (A1:Option Addr) (c1:Nat) (A2:Option Addr) (c2:Nat) (A3:Option Addr) (c3:Nat):Prop:=W.heap[b]? = some (.cells #[.int .i64 m.id,.string m.name,.int .i64 m.type,.bool m.critical,.bool m.hasDef,.int .i64 m.dflt.kind,.bool m.dflt.bool,.int .i64 m.dflt.int,.string m.dflt.str,.int .i64 m.dflt.id,.slice A1 m.dflt.keys.length c1,.slice A2 m.dflt.items.length c2,.slice A3 m.dflt.rest.length c3] 71 (0,0))
theorem MBox.cell {W:World} {b:Nat} {m:MemD} {A1:Option Addr} {c1:Nat} {A2:Option Addr} {c2:Nat} {A3:Option Addr} {c3:Nat} (h:MBox W b m A1 c1 A2 c2 A3 c3) (j:Nat):W.cell? ⟨b,j,none⟩=(#[.int .i64 m.id,.string m.name,.int .i64 m.type,.bool m.critical,.bool m.hasDef,.int .i64 m.dflt.kind,.bool m.dflt.bool,.int .i64 m.dflt.int,.string m.dflt.str,.int .i64 m.dflt.id,.slice A1 m.dflt.keys.length c1,.slice A2 m.dflt.items.length c2,.slice A3 m.dflt.rest.length c3]:Array Value)[j]? := cell_of_row _ _ _ _ _ _ h
theorem zW {W:World} {b:Nat} {m:MemD} {A1:Option Addr} {c1:Nat} {A2:Option Addr} {c2:Nat} {A3:Option Addr} {c3:Nat} (h:MBox W b m A1 c1 A2 c2 A3 c3) :
  (W.cell? ⟨b,0,none⟩=some (.int .i64 m.id)∧W.cell? ⟨b,1,none⟩=some (.string m.name))∧Hid (MBox W b m A1 c1 A2 c2 A3 c3):=⟨⟨h.cell 0,h.cell 1⟩,h⟩
structure RwSt (ids:List Int) (nms:List ByteArray) (w:World) (a b:Value) (wr:World):Prop where
 o1:OwnI wr w.heap.size a ids
 o2:OwnS wr w.heap.size b nms
 bel:Below w.heap.size w wr
theorem SymsR.name_ok {w:World} {A:Option Addr} {l:List SymD} (h:SymsR w A l):∀s∈l,SOk s.name:=fun s hs=>by
 obtain ⟨i,hi,rfl⟩:=List.getElem_of_mem hs
 obtain ⟨b,o,_,h1,_⟩:=h.at2 hi
 exact h1
theorem MemsR.name_ok {w:World} {A:Option Addr} {l:List MemD} (h:MemsR w A l):∀s∈l,SOk s.name:=fun s hs=>by
 obtain ⟨i,hi,rfl⟩:=List.getElem_of_mem hs
 obtain ⟨b,o,A1,c1,A2,c2,A3,c3,_,h1,_⟩:=h.at13 hi
 exact h1.name
theorem ids_own {ids:List Int} {nms:List ByteArray} {l:List (Int×ByteArray)} (h1:l.map (·.1)=ids) (h2:l.map (·.2)=nms) {w wr:World} {a b:Value} (hs:RwSt ids nms w a b wr) (hl:Lim 16 l.length) (hok:∀s∈nms,SOk s) :
  Calls Tryz.prog 125 #[a,b] wr (SamePost (idsD l) wr):=by
 subst h1;subst h2
 have hl8:Lim 8 l.length:=by unfold Lim at *;omega
 obtain ⟨A,c,rfl,hA⟩:=OwnI.ints hs.o1 (by rw[List.length_map];exact hl8)
 obtain ⟨B,d,rfl,hB⟩:=OwnS.strs hs.o2 (by rw[List.length_map];exact hl) hok
 rw[List.length_map,List.length_map]
 exact ids_any l A B c d wr hA hB
theorem syms_any (l:List SymD) (A:Option Addr) (c:Nat) (w:World) (hl:SymsR w A l) :
  Calls Tryz.prog 104 #[.slice A l.length c] w (SamePost (symsD l) w):=by
 have hn:=hl.1.lt (by omega)
 have HLM:=zh hl.1
 have HL:=zh hl
 clear hl
 go_enter Tryz.func104,Tryz.ntmps104
 go_wp2
 go_loopw [9,3,4] (fun i a b wr=>∃k:Nat,k≤l.length∧i = .int .i64 k∧Hid (RwSt ((l.take k).map fun s=>s.id) ((l.take k).map fun s=>s.name) w a b wr)) (fun i _ _ _=>l.length - (intOf i).toNat)
 case atStart=>exact ⟨0,by omega,rfl,OwnL.nil _ _,OwnL.nil _ _,Below.refl _ _⟩
 case round =>
  obtain ⟨k,hk,rfl,hh⟩:=hrel
  obtain ⟨wo,rfl⟩:∃wo:World,wo=wr:=⟨_,rfl⟩
  by_cases hlt:k<l.length
  ·obtain ⟨b,o,rfl,hsok,a0,a1⟩:=(HL.out.below hh.out.bel).at2 hlt
   have HT1:Hid ((l.take (k+1)).map (fun s=>s.id)=(l.take k).map (fun s=>s.id)++[(l[k]).id]):=by
    show _=_;rw[List.take_succ_eq_append_getElem hlt,List.map_append];rfl
   have HT2:Hid ((l.take (k+1)).map (fun s=>s.name)=(l.take k).map (fun s=>s.name)++[(l[k]).name]):=by
    show _=_;rw[List.take_succ_eq_append_getElem hlt,List.map_append];rfl
   have HLN:Hid (k+1≤5864062014805):=by have:=HLM.out;unfold Lim at this;show _≤_;omega
   have h1:(0:Int)≤(k:Int):=by omega
   have h2:(k:Int)<(l.length:Int):=by omega
   have hz1:=zK a0
   simp only at hz1
   have HOA1:=zh (OwnL.alloc hh.out.o1 (l[k]).box)
   have HOA2:=zh (OwnL.alloc hh.out.o2 (l[k]).box)
   have HBA:=zh (hh.out.bel.alloc hh.out.bel.size (l[k]).box)
   have HBS:Hid (w.heap.size≤(wo.alloc (l[k]).box).heap.size):=by have:=hh.out.bel.size;show _≤_;simp;omega
   have HX:=zh (heap_alloc_new wo (l[k]).box)
   clear hsok
   go_wp2_with fail
   generalize wo.alloc (l[k]).box=wc at *
   refine wp_region_held_drew (S:=(fun w'=>(w'.cell? ⟨wo.heap.size,0,none⟩=some (.int .i64 (l[k]).id)∧w'.cell? ⟨wo.heap.size,1,none⟩=some (.string (l[k]).name))∧Hid (w'.heap[wo.heap.size]? = some (.cells #[.int .i64 (l[k]).id,.string (l[k]).name] 55 (0,0))))) (by kernel_rfl) ?_ (fun zH_=>?_)
   ·(try dsimp only);exact hold_sym (W:=wc.drew) HX.out
   (have HO1:Hid (OwnI wc.drew w.heap.size u3 ((l.take k).map fun s=>s.id)):=OwnL.below HOA1.out (zE (Below.refl _ _) 1);have HO2:Hid (OwnS wc.drew w.heap.size u4 ((l.take k).map fun s=>s.name)):=OwnL.below HOA2.out (zE (Below.refl _ _) 1);have HBB:Hid (Below w.heap.size w wc.drew∧w.heap.size≤wc.drew.heap.size):=And.intro (zE HBA.out 1) HBS.out;clear HOA1 HOA2 HBA HBS HX;generalize wc.drew=wd at *)
   refine tL 0 _ zH_ ?_
   try simp only[ps]
   refine tL 1 _ zH_ ?_
   try simp only[ps]
   refine tL 2 _ zH_ ?_
   try simp only[ps]
   refine tL 5 _ zH_ ?_
   try simp only[ps]
   refine tL 6 _ zH_ ?_
   try simp only[ps]
   refine tL 7 _ zH_ ?_
   try simp only[ps]
   refine wpAnyH_ready (rs:=[3,8]) (by kernel_rfl) (by simp) ?_
   refine (AllReadyH.cons rfl (fun K hK=>?_) (AllReadyH.cons rfl (fun K hK=>?_) AllReadyH.nil))
   ·
    go_simp
    refine hK.out _ _ ?_ (fun zH_=>?_)
    ·(try dsimp only);exact hold_sym (zV zH_.2.out _)
    clear hK K
    try simp only[ps]
    refine wpAnyH_ready (rs:=[4,8]) (by kernel_rfl) (by simp) ?_
    refine (AllReadyH.cons rfl (fun K hK=>?_) (AllReadyH.cons rfl (fun K hK=>?_) AllReadyH.nil))
    ·
     (refine zL zY (by rfl) (.tmp 13) (.tmp 16) (by rfl) w.heap.size u3 _ _ (by rfl) (OwnL.alloc HO1.out (.cells #[.int .i64 (l[k]).id] 3)) wd.heap.size 0 1 1 [.int .i64 (l[k]).id] (by rfl) rfl (zZ (tmp_sz (heap_alloc_new wd (.cells #[.int .i64 (l[k]).id] 3)) (by simp))) (by simp[Value.oneCell']) (by have:=HLN.out;simp;omega) (by have:=HLN.out;simp;omega) (zF HBB.out (.cells #[.int .i64 (l[k]).id] 3)).2 ?_;intro vq1 wq1 ho1 hg1)
     refine hK.out _ _ ?_ (fun zH_=>?_)
     ·(try dsimp only);exact hold_sym (zR zH_.2.out (OwnL.alloc HO1.out _) (by decide) hg1)
     clear hK K
     try simp only[ps]
     refine tR 8 (fun K hK=>?_)
     go_simp
     refine hK.out _ _ ?_ (fun zH_=>?_)
     ·(try dsimp only);exact hold_sym (zV zH_.2.out _)
     clear hK K
     try simp only[ps]
     refine tR 9 (fun K hK=>?_)
     (refine zL elem_str (by rfl) (.tmp 18) (.tmp 21) (by rfl) w.heap.size u4 _ _ (by rfl) (OwnL.alloc (OwnL.other (OwnL.alloc HO2.out (.cells #[.int .i64 (l[k]).id] 3)) (OwnL.alloc HO1.out (.cells #[.int .i64 (l[k]).id] 3)) (by decide) hg1) (.cells #[.string (l[k]).name] 9)) wq1.heap.size 0 1 1 [.string (l[k]).name] (by rfl) rfl (zZ (tmp_sz (heap_alloc_new wq1 (.cells #[.string (l[k]).name] 9)) (by simp))) (by simp[Value.oneCell']) (by have:=HLN.out;simp;omega) (by have:=HLN.out;simp;omega) (zF (zP (zF HBB.out (.cells #[.int .i64 (l[k]).id] 3)) (OwnL.alloc HO1.out (.cells #[.int .i64 (l[k]).id] 3)) hg1) (.cells #[.string (l[k]).name] 9)).2 ?_;intro vq2 wq2 ho2 hg2)
     refine hK.out _ _ ?_ (fun zH_=>?_)
     ·(try dsimp only);exact hold_sym (zR zH_.2.out (OwnL.alloc (OwnL.other (OwnL.alloc HO2.out _) (OwnL.alloc HO1.out _) (by decide) hg1) _) (by decide) hg2)
     clear hK K
     try simp only[ps]
     refine tL 10 _ zH_ ?_
     try simp only[ps]
     refine tL 11 _ zH_ ?_
     try simp only[ps]
     refine wpAnyH_done (by kernel_rfl) ?_ _
     (have HE1:=zh (OwnL.other (OwnL.alloc (OwnL.snoc (x:=(l[k]).id) ho1) (.cells #[.string (l[k]).name] 9)) (OwnL.alloc (OwnL.other (OwnL.alloc HO2.out (.cells #[.int .i64 (l[k]).id] 3)) (OwnL.alloc HO1.out (.cells #[.int .i64 (l[k]).id] 3)) (by decide) hg1) (.cells #[.string (l[k]).name] 9)) (by decide) hg2);have HE2:=zh (OwnL.snoc (x:=(l[k]).name) ho2);have HEB:=zh (zP (zF (zP (zF HBB.out (.cells #[.int .i64 (l[k]).id] 3)) (OwnL.alloc HO1.out (.cells #[.int .i64 (l[k]).id] 3)) hg1) (.cells #[.string (l[k]).name] 9)) (OwnL.alloc (OwnL.other (OwnL.alloc HO2.out (.cells #[.int .i64 (l[k]).id] 3)) (OwnL.alloc HO1.out (.cells #[.int .i64 (l[k]).id] 3)) (by decide) hg1) (.cells #[.string (l[k]).name] 9)) hg2).1;(go_wp2;go_roundw;(case rel=>exact ⟨k+1,by omega,by go_num,(by rw[HT1.out];exact HE1.out),(by rw[HT2.out];exact HE2.out),HEB.out⟩);(case measure=>simp[intOf];omega)))
    ·
     go_simp
     refine hK.out _ _ ?_ (fun zH_=>?_)
     ·(try dsimp only);exact hold_sym (zV zH_.2.out _)
     clear hK K
     try simp only[ps]
     refine tR 4 (fun K hK=>?_)
     (refine zL zY (by rfl) (.tmp 13) (.tmp 16) (by rfl) w.heap.size u3 _ _ (by rfl) (OwnL.alloc (OwnL.alloc HO1.out (.cells #[.int .i64 (l[k]).id] 3)) (.cells #[.string (l[k]).name] 9)) wd.heap.size 0 1 1 [.int .i64 (l[k]).id] (by rfl) rfl (zZ (tmp_sz (zV (heap_alloc_new wd (.cells #[.int .i64 (l[k]).id] 3)) (.cells #[.string (l[k]).name] 9)) (by simp))) (by simp[Value.oneCell']) (by have:=HLN.out;simp;omega) (by have:=HLN.out;simp;omega) (zF (zF HBB.out (.cells #[.int .i64 (l[k]).id] 3)) (.cells #[.string (l[k]).name] 9)).2 ?_;intro vq1 wq1 ho1 hg1)
     refine hK.out _ _ ?_ (fun zH_=>?_)
     ·(try dsimp only);exact hold_sym (zR zH_.2.out (OwnL.alloc (OwnL.alloc HO1.out _) _) (by decide) hg1)
     clear hK K
     try simp only[ps]
     refine tR 9 (fun K hK=>?_)
     (refine zL elem_str (by rfl) (.tmp 18) (.tmp 21) (by rfl) w.heap.size u4 _ _ (by rfl) (OwnL.other (OwnL.alloc (OwnL.alloc HO2.out (.cells #[.int .i64 (l[k]).id] 3)) (.cells #[.string (l[k]).name] 9)) (OwnL.alloc (OwnL.alloc HO1.out (.cells #[.int .i64 (l[k]).id] 3)) (.cells #[.string (l[k]).name] 9)) (by decide) hg1) (wd.heap.size+1) 0 1 1 [.string (l[k]).name] (by rfl) rfl (zZ (tmp_sz (zR (heap_alloc_new (World.alloc wd (.cells #[.int .i64 (l[k]).id] 3)) (.cells #[.string (l[k]).name] 9)) (OwnL.alloc (OwnL.alloc HO1.out (.cells #[.int .i64 (l[k]).id] 3)) (.cells #[.string (l[k]).name] 9)) (by decide) hg1) (by simp))) (by simp[Value.oneCell']) (by have:=HLN.out;simp;omega) (by have:=HLN.out;simp;omega) (zP (zF (zF HBB.out (.cells #[.int .i64 (l[k]).id] 3)) (.cells #[.string (l[k]).name] 9)) (OwnL.alloc (OwnL.alloc HO1.out (.cells #[.int .i64 (l[k]).id] 3)) (.cells #[.string (l[k]).name] 9)) hg1).2 ?_;intro vq2 wq2 ho2 hg2)
     refine hK.out _ _ ?_ (fun zH_=>?_)
     ·(try dsimp only);exact hold_sym (zR zH_.2.out (OwnL.other (OwnL.alloc (OwnL.alloc HO2.out _) _) (OwnL.alloc (OwnL.alloc HO1.out _) _) (by decide) hg1) (by decide) hg2)
     clear hK K
     try simp only[ps]
     refine tL 10 _ zH_ ?_
     try simp only[ps]
     refine tL 11 _ zH_ ?_
     try simp only[ps]
     refine wpAnyH_done (by kernel_rfl) ?_ _
     (have HE1:=zh (OwnL.other (OwnL.snoc (x:=(l[k]).id) ho1) (OwnL.other (OwnL.alloc (OwnL.alloc HO2.out (.cells #[.int .i64 (l[k]).id] 3)) (.cells #[.string (l[k]).name] 9)) (OwnL.alloc (OwnL.alloc HO1.out (.cells #[.int .i64 (l[k]).id] 3)) (.cells #[.string (l[k]).name] 9)) (by decide) hg1) (by decide) hg2);have HE2:=zh (OwnL.snoc (x:=(l[k]).name) ho2);have HEB:=zh (zP (zP (zF (zF HBB.out (.cells #[.int .i64 (l[k]).id] 3)) (.cells #[.string (l[k]).name] 9)) (OwnL.alloc (OwnL.alloc HO1.out (.cells #[.int .i64 (l[k]).id] 3)) (.cells #[.string (l[k]).name] 9)) hg1) (OwnL.other (OwnL.alloc (OwnL.alloc HO2.out (.cells #[.int .i64 (l[k]).id] 3)) (.cells #[.string (l[k]).name] 9)) (OwnL.alloc (OwnL.alloc HO1.out (.cells #[.int .i64 (l[k]).id] 3)) (.cells #[.string (l[k]).name] 9)) (by decide) hg1) hg2).1;(go_wp2;go_roundw;(case rel=>exact ⟨k+1,by omega,by go_num,(by rw[HT1.out];exact HE1.out),(by rw[HT2.out];exact HE2.out),HEB.out⟩);(case measure=>simp[intOf];omega)))
   ·
    go_simp
    refine hK.out _ _ ?_ (fun zH_=>?_)
    ·(try dsimp only);exact hold_sym (zV zH_.2.out _)
    clear hK K
    try simp only[ps]
    refine tR 3 (fun K hK=>?_)
    go_simp
    refine hK.out _ _ ?_ (fun zH_=>?_)
    ·(try dsimp only);exact hold_sym (zV zH_.2.out _)
    clear hK K
    try simp only[ps]
    refine tR 4 (fun K hK=>?_)
    (refine zL zY (by rfl) (.tmp 13) (.tmp 16) (by rfl) w.heap.size u3 _ _ (by rfl) (OwnL.alloc (OwnL.alloc HO1.out (.cells #[.string (l[k]).name] 9)) (.cells #[.int .i64 (l[k]).id] 3)) (wd.heap.size+1) 0 1 1 [.int .i64 (l[k]).id] (by rfl) rfl (zZ (tmp_sz (heap_alloc_new (World.alloc wd (.cells #[.string (l[k]).name] 9)) (.cells #[.int .i64 (l[k]).id] 3)) (by simp))) (by simp[Value.oneCell']) (by have:=HLN.out;simp;omega) (by have:=HLN.out;simp;omega) (zF (zF HBB.out (.cells #[.string (l[k]).name] 9)) (.cells #[.int .i64 (l[k]).id] 3)).2 ?_;intro vq1 wq1 ho1 hg1)
    refine hK.out _ _ ?_ (fun zH_=>?_)
    ·(try dsimp only);exact hold_sym (zR zH_.2.out (OwnL.alloc (OwnL.alloc HO1.out _) _) (by decide) hg1)
    clear hK K
    try simp only[ps]
    refine tR 9 (fun K hK=>?_)
    (refine zL elem_str (by rfl) (.tmp 18) (.tmp 21) (by rfl) w.heap.size u4 _ _ (by rfl) (OwnL.other (OwnL.alloc (OwnL.alloc HO2.out (.cells #[.string (l[k]).name] 9)) (.cells #[.int .i64 (l[k]).id] 3)) (OwnL.alloc (OwnL.alloc HO1.out (.cells #[.string (l[k]).name] 9)) (.cells #[.int .i64 (l[k]).id] 3)) (by decide) hg1) wd.heap.size 0 1 1 [.string (l[k]).name] (by rfl) rfl (zZ (tmp_sz (zR (zV (heap_alloc_new wd (.cells #[.string (l[k]).name] 9)) (.cells #[.int .i64 (l[k]).id] 3)) (OwnL.alloc (OwnL.alloc HO1.out (.cells #[.string (l[k]).name] 9)) (.cells #[.int .i64 (l[k]).id] 3)) (by decide) hg1) (by simp))) (by simp[Value.oneCell']) (by have:=HLN.out;simp;omega) (by have:=HLN.out;simp;omega) (zP (zF (zF HBB.out (.cells #[.string (l[k]).name] 9)) (.cells #[.int .i64 (l[k]).id] 3)) (OwnL.alloc (OwnL.alloc HO1.out (.cells #[.string (l[k]).name] 9)) (.cells #[.int .i64 (l[k]).id] 3)) hg1).2 ?_;intro vq2 wq2 ho2 hg2)
    refine hK.out _ _ ?_ (fun zH_=>?_)
    ·(try dsimp only);exact hold_sym (zR zH_.2.out (OwnL.other (OwnL.alloc (OwnL.alloc HO2.out _) _) (OwnL.alloc (OwnL.alloc HO1.out _) _) (by decide) hg1) (by decide) hg2)
    clear hK K
    try simp only[ps]
    refine tL 10 _ zH_ ?_
    try simp only[ps]
    refine tL 11 _ zH_ ?_
    try simp only[ps]
    refine wpAnyH_done (by kernel_rfl) ?_ _
    (have HE1:=zh (OwnL.other (OwnL.snoc (x:=(l[k]).id) ho1) (OwnL.other (OwnL.alloc (OwnL.alloc HO2.out (.cells #[.string (l[k]).name] 9)) (.cells #[.int .i64 (l[k]).id] 3)) (OwnL.alloc (OwnL.alloc HO1.out (.cells #[.string (l[k]).name] 9)) (.cells #[.int .i64 (l[k]).id] 3)) (by decide) hg1) (by decide) hg2);have HE2:=zh (OwnL.snoc (x:=(l[k]).name) ho2);have HEB:=zh (zP (zP (zF (zF HBB.out (.cells #[.string (l[k]).name] 9)) (.cells #[.int .i64 (l[k]).id] 3)) (OwnL.alloc (OwnL.alloc HO1.out (.cells #[.string (l[k]).name] 9)) (.cells #[.int .i64 (l[k]).id] 3)) hg1) (OwnL.other (OwnL.alloc (OwnL.alloc HO2.out (.cells #[.string (l[k]).name] 9)) (.cells #[.int .i64 (l[k]).id] 3)) (OwnL.alloc (OwnL.alloc HO1.out (.cells #[.string (l[k]).name] 9)) (.cells #[.int .i64 (l[k]).id] 3)) (by decide) hg1) hg2).1;(go_wp2;go_roundw;(case rel=>exact ⟨k+1,by omega,by go_num,(by rw[HT1.out];exact HE1.out),(by rw[HT2.out];exact HE2.out),HEB.out⟩);(case measure=>simp[intOf];omega)))
  ·have hh':=hh.out
   rw[List.take_of_length_le (by omega)] at hh'
   have HS:=zh hh'
   clear hh'
   by_cases h0:l=[]
   ·subst h0
    have HD:=zh (show symsD []=false by rfl)
    go_wp2
    go_ret
    exact ⟨by rw[HD.out];rfl,HS.out.bel⟩
   ·have hpos:0<l.length:=List.length_pos_iff.2 h0
    have HD:=zh (show symsD l=idsD (l.map fun s=>(s.id,s.name)) by unfold symsD;simp[h0])
    clear h0
    go_wp2_with fail
    refine (ids_own (l:=l.map fun s=>(s.id,s.name)) (by simp) (by simp) HS.out (by have:=HLM.out;unfold Lim at *;rw[List.length_map];omega) (by intro s hs;obtain ⟨x,hx,rfl⟩:=List.mem_map.1 hs;exact HL.out.name_ok x hx)).mono ?_
    rintro e w2 ⟨rfl,hb2⟩
    go_wp2
    go_ret
    exact ⟨by rw[HD.out];rfl,zA HS.out.bel hb2⟩
end Go.Proofs.YtdfolgmcggdjdaaGreatDoor


