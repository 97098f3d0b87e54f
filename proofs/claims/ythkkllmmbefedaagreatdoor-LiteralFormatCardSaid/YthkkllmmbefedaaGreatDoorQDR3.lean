/-
  Walks: the members of a draft's node.
-/
import Derived.Test.YthkkllmmbefedaaGreatDoorQDR2
import Derived.Test.YthkkllmmbefedaaGreatDoorQGA10
namespace Go.Proofs.YthkkllmmbefedaaGreatDoor
open Go.RowKit
set_option maxHeartbeats 16000000
set_option maxRecDepth 100000
def encM (m:MemD):List Value:=m.cs none 0 none 0 none 0
theorem encM_one (m:MemD):∀u∈encM m,u.oneCell'=true:=fun u hu=>by
 unfold encM at hu;simp only[List.mem_cons,List.mem_nil_iff,or_false] at hu
 rcases hu with rfl|rfl|rfl|rfl|rfl|rfl|rfl|rfl|rfl|rfl|rfl|rfl|rfl <;> rfl
theorem enc_low {n:Nat} (hn:n≤20):Utf8.encode (97+(n:Int))=⟨#[UInt8.ofNat (97+n)]⟩∧Utf8.encode (65+(n:Int))=⟨#[UInt8.ofNat (65+n)]⟩:=by
 have h:∀m:Fin 21,Utf8.encode (97+((m.1:Nat):Int))=⟨#[UInt8.ofNat (97+m.1)]⟩∧Utf8.encode (65+((m.1:Nat):Int))=⟨#[UInt8.ofNat (65+m.1)]⟩:=by decide +kernel
 exact h ⟨n,by omega⟩
theorem nm_app (c:UInt8) (n:Nat):(⟨#[c]⟩:ByteArray)++(⟨#[UInt8.ofNat (97+n)]⟩:ByteArray)=nmM c n:=by
 refine bytes_ext ?_;rw[app_list];rfl
abbrev OwnM:=OwnL 118 13 encM
structure PtSt (w W:World) (A:zo) (d:List NodeD) (c:Nat) (x:NodeD) (A':zo) (c':Nat):Prop where
 db:DBox w W A d c
 nb:NBox W (w.heap.size+1) x A' c'
 nr:NodeR W x A'
theorem PtSt.below {w W W':World} {A:zo} {d:List NodeD} {c:Nat} {x:NodeD} {A':zo} {c':Nat} (h:PtSt w W A d c x A' c') (hb:Below W.heap.size W W'):PtSt w W' A d c x A' c' :=
 ⟨h.db.step hb,h.nb.below hb,h.nr.below hb⟩
theorem PtSt.new {w:World} {A:zo} {d:List NodeD} {c:Nat} (h:NodesR w A d) {x:NodeD} {A':zo} (hx:NodeR w x A') (c':Nat):PtSt w ((w.alloc (.cells #[.slice A d.length c] 24)).alloc (x.box A' c')) A d c x A' c':=by
 have hz:(w.alloc (.cells #[.slice A d.length c] 24)).heap.size=w.heap.size+1:=by simp
 have:=NBox.new (w.alloc (.cells #[.slice A d.length c] 24)) x A' c';rw[hz] at this;exact ⟨(DBox.new h).step (zD _ _),this,hx.below (zI _ _ _)⟩
structure MsSt (rec:Bool) (n k base:Nat) (W:World) (v:Value) (ms:List MemD):Prop where
 own:OwnM W base v ms
 ok:MsOk rec n k ms
 flat:∀m∈ms,FlatV m.dflt
theorem MsSt.below {rec:Bool} {n k base:Nat} {W W':World} {v:Value} {ms:List MemD} (h:MsSt rec n k base W v ms) (hb:Below W.heap.size W W'):MsSt rec n k base W' v ms:=⟨h.own.below hb,h.ok,h.flat⟩
def setA (cs:Array Value) (o:Nat):List Value→Array Value
 | []=>cs
 | v::vs=>setA (cs.setIfInBounds o v) (o+1) vs
theorem heap_setCells_row {g:Nat} {T:TypeId}:∀ (vs:List Value) (o:Nat) (W:World) (cs:Array Value),W.heap[g]? = some (.cells cs T (0,0))→(W.setCells g o vs).heap[g]? = some (.cells (setA cs o vs) T (0,0))
 | [],_,_,_,h=>h
 | v::vs,o,W,cs,h=>heap_setCells_row vs (o+1) (W.setCell ⟨g,o,none⟩ v) (cs.setIfInBounds o v) (heap_setCell_same _ _ _ _ _ _ h)
theorem mb_row {W:World} {mb:Nat} {T:TypeId} {a0 a1 a2 a3 a4 a5 a6 a7 a8 a9 a10 a11 a12:Value} (h:W.heap[mb]? = some (.cells #[a0,a1,a2,a3,a4,a5,a6,a7,a8,a9,a10,a11,a12] T (0,0))) (b5 b6 b7 b8 b9 b10 b11 b12:Value) :
  (W.setCells mb 5 [b5,b6,b7,b8,b9,b10,b11,b12]).heap[mb]? = some (.cells #[a0,a1,a2,a3,a4,b5,b6,b7,b8,b9,b10,b11,b12] T (0,0)):=by
 rw[heap_setCells_row _ _ _ _ h];simp[setA]
theorem mb_there {W:World} {mb:Nat} {T:TypeId} {a0 a1 a2 a3 a4 a5 a6 a7 a8 a9 a10 a11 a12:Value} (h:W.heap[mb]? = some (.cells #[a0,a1,a2,a3,a4,a5,a6,a7,a8,a9,a10,a11,a12] T (0,0))):W.there mb 5 8:=fun j hj=>by
 refine ⟨?_,frozen_of_row _ _ _ _ _ h⟩;rw[cell_of_row _ _ _ _ _ _ h]
 match j,hj with
 | 0,_=>rfl
 | 1,_=>rfl
 | 2,_=>rfl
 | 3,_=>rfl
 | 4,_=>rfl
 | 5,_=>rfl
 | 6,_=>rfl
 | 7,_=>rfl
theorem mb_cells {W:World} {mb:Nat} {T:TypeId} {a0 a1 a2 a3 a4 a5 a6 a7 a8 a9 a10 a11 a12:Value} (h:W.heap[mb]? = some (.cells #[a0,a1,a2,a3,a4,a5,a6,a7,a8,a9,a10,a11,a12] T (0,0))) :
  W.cell? ⟨mb,0,none⟩=some a0∧W.cell? ⟨mb,1,none⟩=some a1∧W.cell? ⟨mb,2,none⟩=some a2∧W.cell? ⟨mb,3,none⟩=some a3∧W.cell? ⟨mb,4,none⟩=some a4∧W.cell? ⟨mb,5,none⟩=some a5∧W.cell? ⟨mb,6,none⟩=some a6∧W.cell? ⟨mb,7,none⟩=some a7∧W.cell? ⟨mb,8,none⟩=some a8∧W.cell? ⟨mb,9,none⟩=some a9∧W.cell? ⟨mb,10,none⟩=some a10∧W.cell? ⟨mb,11,none⟩=some a11∧W.cell? ⟨mb,12,none⟩=some a12:=by
 refine ⟨?_,?_,?_,?_,?_,?_,?_,?_,?_,?_,?_,?_,?_⟩ <;> (rw[cell_of_row _ _ _ _ _ _ h];rfl)
theorem PtSt.keep {w W W':World} {A:zo} {d:List NodeD} {c:Nat} {x:NodeD} {A':zo} {c':Nat} (h:PtSt w W A d c x A' c') (hd:NodesR w A d) (hx:NodeR w x A') (hb:Below w.heap.size w W') (hs:W.heap.size≤W'.heap.size) (hk:∀q,q<w.heap.size+2→W'.heap[q]? = W.heap[q]?):PtSt w W' A d c x A' c' :=
 ⟨⟨Nat.lt_of_lt_of_le h.db.lt hs,(World.cell?_of_block (w:=W) (w':=W') (a:=⟨w.heap.size,0,none⟩) (hk _ (by simp only;omega))).trans h.db.cell,hd.below hb,hb⟩,(hk _ (by omega)).trans h.nb,hx.below hb⟩
theorem PtSt.bel {w W:World} {A:zo} {d:List NodeD} {c:Nat} {x:NodeD} {A':zo} {c':Nat} (h:PtSt w W A d c x A' c'):Below w.heap.size w W:=h.db.below
theorem PtSt.sz {w W:World} {A:zo} {d:List NodeD} {c:Nat} {x:NodeD} {A':zo} {c':Nat} (h:PtSt w W A d c x A' c'):w.heap.size+2≤W.heap.size:=by have:=h.nb.blt;omega
theorem MsSt.snoc {rec:Bool} {n k base:Nat} {W W':World} {v v':Value} {ms:List MemD} (h:MsSt rec n k base W v ms) {m:MemD} (hi:m.id=(k:Int)+1) (hn:m.name=nmM 109 (k+1)) (ht:0≤m.type∧m.type<(n:Int)) (hm:memOk rec m=true) (hf:FlatV m.dflt) (ho:W'.ownsRow base 118 13 v' (ms.length+1) (ms.flatMap encM++encM m)):MsSt rec n (k+1) base W' v' (ms++[m]) :=
 ⟨OwnL.snoc ho,h.ok.snoc (by rw[hi];simp) hn ht hm,fun y hy=>by
  rcases List.mem_append.1 hy with a|a
  ·exact h.flat y a
  ·obtain rfl:y=m:=by simpa using a
   exact hf⟩
def PartsPost (rec:Bool) (n:Nat) (w:World) (e:Ending) (w':World):Prop:=∃v ms,e = .returned v∧MsSt rec n 12 w.heap.size w' v ms∧Below w.heap.size w w'
theorem parts_any (d : List NodeD) (i : Nat) (rec : Bool) (A : zo) (c : Nat) (w : World) (hd : NodesR w A d) (hi : i < d.length) :
    Calls Tryz.prog 39 #[draftV A d.length c, .int .i64 i, .bool rec] w (PartsPost rec d.length w) := by
  have hn := hd.1.lt (by omega)
  obtain ⟨b, o, A', c', rfl, hr, c0, c1, c2, c3, c4⟩ := hd.at5 hi;generalize d.getD i node0 = x at *;have HI := zh (PtSt.new (c := c) hd hr c');have HD0 := zh hd;have HR0 := zh hr;have h1 : (0:Int) ≤ (i:Int) := by omega
  have h2 : (i : Int) < (d.length : Int) := by omega
  have hz := zL c0;simp only at hz;clear hd hr
  go_enter Tryz.func39, Tryz.ntmps39
  go_wp2
  clear c0 c1 c2 c3 c4;generalize (w.alloc (.cells #[.slice (some ⟨b, o, none⟩) d.length c] 24)).alloc (x.box A' c') = wc at *
  go_loopw [8, 9] (fun v s wr => ∃ (k : Nat) (ms : List MemD), k ≤ 12 ∧ s = .int .i64 ((k : Int) + 1) ∧ Hid (MsSt rec d.length k (w.heap.size + 2) wr v ms ∧ PtSt w wr (some ⟨b, o, none⟩) d c x A' c')) (fun _ s _ => 13 - (intOf s).toNat)
  case atStart => exact ⟨0, [], by omega, rfl, ⟨OwnL.nil _ _, MsOk.nil _ _ _, fun _ h => by cases h⟩, HI.out⟩
  case round =>
    obtain ⟨k, ms, hk, rfl, hh⟩ := hrel;obtain ⟨wo, rfl⟩ : ∃ wo : World, wo = wr := ⟨_, rfl⟩;have HMS := zh hh.out.1;have HPT := zh hh.out.2;clear hh
    by_cases hlt : k < 12
    · have hkt : (k : Int) + 1 ≤ 12 := by omega
      have HLT := zh hlt;clear hlt;go_wp2
      go_loopw [8, 10] (fun v s wr => ∃ q : Nat, q ≤ x.parts.length ∧ s = .int .i64 (q : Int) ∧ Hid (MsSt rec d.length k (w.heap.size + 2) wr v ms ∧ PtSt w wr (some ⟨b, o, none⟩) d c x A' c')) (fun _ s _ => x.parts.length - (intOf s).toNat)
      case atStart => exact ⟨0, by omega, rfl, HMS.out, HPT.out⟩
      case round =>
        obtain ⟨q, hq, rfl, hh⟩ := hrel;obtain ⟨wi, rfl⟩ : ∃ wi : World, wi = wr := ⟨_, rfl⟩;have HMI := zh hh.out.1;have HPI := zh hh.out.2;have hpn : x.parts.length ≤ 140737488355328 := by have := hh.out.2.nr.parts.1; unfold Lim at this; omega
        have n4 : wi.cell? ⟨w.heap.size + 1, 4, none⟩ = some (.slice A' x.parts.length c') := hh.out.2.nb.cell 4;have hnl := hh.out.2.nb.blt;clear hh
        by_cases hql : q < x.parts.length
        · obtain ⟨pb, po, rfl, ⟨p1, p2, p3⟩, e0, e1, e2⟩ := HPI.out.nr.parts.at3 hql
          generalize x.parts[q] = pp at *;have hdc := HPI.out.db.cell;have hdl := HPI.out.db.lt;have hpe := zL e0;simp only at hpe;have g1 : (0:Int) ≤ (q:Int) := by omega
          have g2 : (q : Int) < (x.parts.length : Int) := by omega
          have HPB := zh (zD wi (.cells #[.int .u8 pp.id, .int .u8 pp.type, .int .u8 pp.flag] 121));have HPX := zh (heap_alloc_new wi (.cells #[.int .u8 pp.id, .int .u8 pp.type, .int .u8 pp.flag] 121));go_wp2_with fail;refine (target_any d i pp.type _ c _ (HPI.out.below HPB.out).db.nodes hi p2).mono ?_;rintro e w3 ⟨rfl, hb3⟩;have HTT := zh (@targetD_ok d i pp.type hi);generalize targetD d i pp.type = T at *
          have HP3 := zh ((HPI.out.below HPB.out).below hb3);have HM3 := zh ((HMI.out.below HPB.out).below hb3);have hpx := (hb3.block _ (zg.1 HPX.out).1).trans HPX.out;have f0 : w3.cell? ⟨wi.heap.size, 0, none⟩ = some (.int .u8 pp.id) := by rw [cell_of_row _ _ _ _ _ _ hpx]; rfl
          have f2 : w3.cell? ⟨wi.heap.size, 2, none⟩ = some (.int .u8 pp.flag) := by rw [cell_of_row _ _ _ _ _ _ hpx]; rfl
          have hf := zL f0;have hdc3 := HP3.out.db.cell;have hdl3 := HP3.out.db.lt;simp only at hf;clear hpx hb3 e0 e1 e2 hdc hdl hpe n4 hnl;obtain ⟨E1, hE1⟩ : ∃ E, (1 + (pp.id : Int) % 12 != (k : Int) + 1) = E := ⟨_, rfl⟩
          cases E1 with
          | true =>
            go_wp2
            go_roundw
            case rel => exact ⟨q + 1, by omega, by go_num, HM3.out, HP3.out⟩
            case measure => simp [intOf]; omega
          | false =>
            by_cases hT : T < 0
            · go_wp2
              go_roundw
              case rel => exact ⟨q + 1, by omega, by go_num, HM3.out, HP3.out⟩
              case measure => simp [intOf]; omega
            · have hTd : decide (T < 0) = false := decide_eq_false hT
              have HTN := zh (HTT.out hT);obtain ⟨tn, rfl⟩ := Int.eq_ofNat_of_zero_le HTN.out.1;clear hT HTT;obtain ⟨S, hS⟩ : ∃ S, Utf8.encode (97 + ((k : Int) + 1)) = S := ⟨_, rfl⟩;have HS : Hid (S = ⟨#[UInt8.ofNat (97 + (k + 1))]⟩) := by have := (enc_low (n := k + 1) (by omega)).1; rw [← hS]; exact this
              have hds : ¬ 9223372036854775807 < 1 + S.size := by have : S.size = 1 := by rw [HS.out]; rfl
                                                                  omega
              cases rec with
              | false =>
                go_upto_region 17 with fail
                have hx4 := heap_alloc_new w3 (.cells #[.int .i64 ((k : Int) + 1), .string ((⟨#[109]⟩ : ByteArray) ++ S), .int .i64 (tn : Int), .bool false, .bool false, .int .i64 0, .bool false, .int .i64 0, .string ⟨#[]⟩, .int .i64 0, .slice none 0 0, .slice none 0 0, .slice none 0 0] 118)
                have hp4 := HP3.out.below (zD w3 (.cells #[.int .i64 ((k : Int) + 1), .string ((⟨#[109]⟩ : ByteArray) ++ S), .int .i64 (tn : Int), .bool false, .bool false, .int .i64 0, .bool false, .int .i64 0, .string ⟨#[]⟩, .int .i64 0, .slice none 0 0, .slice none 0 0, .slice none 0 0] 118))
                have hm4 := HM3.out.below (zD w3 (.cells #[.int .i64 ((k : Int) + 1), .string ((⟨#[109]⟩ : ByteArray) ++ S), .int .i64 (tn : Int), .bool false, .bool false, .int .i64 0, .bool false, .int .i64 0, .string ⟨#[]⟩, .int .i64 0, .slice none 0 0, .slice none 0 0, .slice none 0 0] 118));have HX4 := zh hx4;have HP4 := zh hp4;have HM4 := zh hm4
                obtain ⟨m0, m1, m2, m3, m4, m5, m6, m7, m8, m9, m10, m11, m12⟩ := mb_cells hx4;have hmb := (zg.1 hx4).1;clear hx4 hp4 hm4;generalize w3.alloc (.cells #[.int .i64 ((k : Int) + 1), .string ((⟨#[109]⟩ : ByteArray) ++ S), .int .i64 (tn : Int), .bool false, .bool false, .int .i64 0, .bool false, .int .i64 0, .string ⟨#[]⟩, .int .i64 0, .slice none 0 0, .slice none 0 0, .slice none 0 0] 118) = W4 at *
                have HO1 := zh (OwnL.alloc HM4.out.own (.cells #[.int .i64 ((k : Int) + 1), .string ((⟨#[109]⟩ : ByteArray) ++ S), .int .i64 (tn : Int), .bool false, .bool false, .int .i64 0, .bool false, .int .i64 0, .string ⟨#[]⟩, .int .i64 0, .slice none 0 0, .slice none 0 0, .slice none 0 0] 118))
                have HRN : Hid ((W4.alloc (.cells #[.int .i64 ((k : Int) + 1), .string ((⟨#[109]⟩ : ByteArray) ++ S), .int .i64 (tn : Int), .bool false, .bool false, .int .i64 0, .bool false, .int .i64 0, .string ⟨#[]⟩, .int .i64 0, .slice none 0 0, .slice none 0 0, .slice none 0 0] 118)).rangeAt W4.heap.size 0 [.int .i64 ((k : Int) + 1), .string ((⟨#[109]⟩ : ByteArray) ++ S), .int .i64 (tn : Int), .bool false, .bool false, .int .i64 0, .bool false, .int .i64 0, .string ⟨#[]⟩, .int .i64 0, .slice none 0 0, .slice none 0 0, .slice none 0 0]) := zh (zR W4 [.int .i64 ((k : Int) + 1), .string ((⟨#[109]⟩ : ByteArray) ++ S), .int .i64 (tn : Int), .bool false, .bool false, .int .i64 0, .bool false, .int .i64 0, .string ⟨#[]⟩, .int .i64 0, .slice none 0 0, .slice none 0 0, .slice none 0 0] 118)
                have HZ7 : Hid (w.heap.size + 2 ≤ (W4.alloc (.cells #[.int .i64 ((k : Int) + 1), .string ((⟨#[109]⟩ : ByteArray) ++ S), .int .i64 (tn : Int), .bool false, .bool false, .int .i64 0, .bool false, .int .i64 0, .string ⟨#[]⟩, .int .i64 0, .slice none 0 0, .slice none 0 0, .slice none 0 0] 118)).heap.size) := by have := HP4.out.sz; show _ ≤ _; simp; omega
                have HML := zh (HM4.out.ok.mono (k' := 12) (by omega)).len
                go_wp2_with (at_builtin; refine yG elem_mem _ rfl (.tmp 85) (.tmp 87) rfl (w.heap.size + 2) _ _ _ rfl HO1.out W4.heap.size 0 1 1 [.int .i64 ((k : Int) + 1), .string ((⟨#[109]⟩ : ByteArray) ++ S), .int .i64 (tn : Int), .bool false, .bool false, .int .i64 0, .bool false, .int .i64 0, .string ⟨#[]⟩, .int .i64 0, .slice none 0 0, .slice none 0 0, .slice none 0 0] rfl rfl HRN.out (encM_one ⟨(k : Int) + 1, (⟨#[109]⟩ : ByteArray) ++ S, (tn : Int), false, false, zeroV⟩) (by have := HML.out; omega) (by have := HML.out; omega) HZ7.out ?_; intro v8 w8 ho8 hg8)
                go_roundw
                case rel =>
                  refine ⟨k + 1, ms ++ [⟨(k : Int) + 1, (⟨#[109]⟩ : ByteArray) ++ S, (tn : Int), false, false, zeroV⟩], by omega, by go_num, ?_⟩
                  have HG : Hid (Below w.heap.size w w8 ∧ W4.heap.size ≤ w8.heap.size ∧ ∀ q, q < w.heap.size + 2 → w8.heap[q]? = W4.heap[q]?) := by
                    have hnew := zD W4 (.cells #[.int .i64 ((k : Int) + 1), .string ((⟨#[109]⟩ : ByteArray) ++ S), .int .i64 (tn : Int), .bool false, .bool false, .int .i64 0, .bool false, .int .i64 0, .string ⟨#[]⟩, .int .i64 0, .slice none 0 0, .slice none 0 0, .slice none 0 0] 118)
                    refine ⟨(zB HP4.out.bel hnew).grown hg8 (zB HP4.out.bel hnew).size (fun q hq => by have := HO1.out.lt q hq; omega), Nat.le_trans hnew.size hg8.size, fun q hq => ?_⟩
                    exact (yA hg8 (by have := HZ7.out; omega) (fun j hj e => by have := HO1.out.lt j hj; omega)).trans (hnew.block q (by have := HP4.out.sz; omega))
                  exact ⟨MsSt.snoc (m := ⟨(k : Int) + 1, (⟨#[109]⟩ : ByteArray) ++ S, (tn : Int), false, false, zeroV⟩) HM4.out rfl (by rw [HS.out]; exact nm_app 109 (k + 1)) HTN.out rfl ⟨(by decide : (⟨#[]⟩ : ByteArray).size ≤ 1 ∧ (0 : Int) ≠ 5 ∧ (0 : Int) ≠ 6), rfl, rfl, rfl⟩ ho8, HP4.out.keep HD0.out HR0.out HG.out.1 HG.out.2.1 HG.out.2.2⟩
                case measure => simp [intOf]; omega
              | true =>
                obtain ⟨E3, hE3⟩ : ∃ E, ((pp.flag : Int) % 4 == 1) = E := ⟨_, rfl⟩;obtain ⟨E4, hE4⟩ : ∃ E, decide (2 ≤ (pp.flag : Int) % 4) = E := ⟨_, rfl⟩
                cases E3 with
                | true =>
                  have hE5 : E4 = false := by rw [← hE4]; simp at hE3; simp; omega
                  subst hE5;go_upto_region 17 with fail
                  have hx4 := heap_alloc_new w3 (.cells #[.int .i64 ((k : Int) + 1), .string ((⟨#[109]⟩ : ByteArray) ++ S), .int .i64 (tn : Int), .bool true, .bool false, .int .i64 0, .bool false, .int .i64 0, .string ⟨#[]⟩, .int .i64 0, .slice none 0 0, .slice none 0 0, .slice none 0 0] 118)
                  have hp4 := HP3.out.below (zD w3 (.cells #[.int .i64 ((k : Int) + 1), .string ((⟨#[109]⟩ : ByteArray) ++ S), .int .i64 (tn : Int), .bool true, .bool false, .int .i64 0, .bool false, .int .i64 0, .string ⟨#[]⟩, .int .i64 0, .slice none 0 0, .slice none 0 0, .slice none 0 0] 118))
                  have hm4 := HM3.out.below (zD w3 (.cells #[.int .i64 ((k : Int) + 1), .string ((⟨#[109]⟩ : ByteArray) ++ S), .int .i64 (tn : Int), .bool true, .bool false, .int .i64 0, .bool false, .int .i64 0, .string ⟨#[]⟩, .int .i64 0, .slice none 0 0, .slice none 0 0, .slice none 0 0] 118));have HX4 := zh hx4;have HP4 := zh hp4;have HM4 := zh hm4
                  obtain ⟨m0, m1, m2, m3, m4, m5, m6, m7, m8, m9, m10, m11, m12⟩ := mb_cells hx4;have hmb := (zg.1 hx4).1;clear hx4 hp4 hm4;generalize w3.alloc (.cells #[.int .i64 ((k : Int) + 1), .string ((⟨#[109]⟩ : ByteArray) ++ S), .int .i64 (tn : Int), .bool true, .bool false, .int .i64 0, .bool false, .int .i64 0, .string ⟨#[]⟩, .int .i64 0, .slice none 0 0, .slice none 0 0, .slice none 0 0] 118) = W4 at *
                  have HO1 := zh (OwnL.alloc HM4.out.own (.cells #[.int .i64 ((k : Int) + 1), .string ((⟨#[109]⟩ : ByteArray) ++ S), .int .i64 (tn : Int), .bool true, .bool false, .int .i64 0, .bool false, .int .i64 0, .string ⟨#[]⟩, .int .i64 0, .slice none 0 0, .slice none 0 0, .slice none 0 0] 118))
                  have HRN : Hid ((W4.alloc (.cells #[.int .i64 ((k : Int) + 1), .string ((⟨#[109]⟩ : ByteArray) ++ S), .int .i64 (tn : Int), .bool true, .bool false, .int .i64 0, .bool false, .int .i64 0, .string ⟨#[]⟩, .int .i64 0, .slice none 0 0, .slice none 0 0, .slice none 0 0] 118)).rangeAt W4.heap.size 0 [.int .i64 ((k : Int) + 1), .string ((⟨#[109]⟩ : ByteArray) ++ S), .int .i64 (tn : Int), .bool true, .bool false, .int .i64 0, .bool false, .int .i64 0, .string ⟨#[]⟩, .int .i64 0, .slice none 0 0, .slice none 0 0, .slice none 0 0]) := zh (zR W4 [.int .i64 ((k : Int) + 1), .string ((⟨#[109]⟩ : ByteArray) ++ S), .int .i64 (tn : Int), .bool true, .bool false, .int .i64 0, .bool false, .int .i64 0, .string ⟨#[]⟩, .int .i64 0, .slice none 0 0, .slice none 0 0, .slice none 0 0] 118)
                  have HZ7 : Hid (w.heap.size + 2 ≤ (W4.alloc (.cells #[.int .i64 ((k : Int) + 1), .string ((⟨#[109]⟩ : ByteArray) ++ S), .int .i64 (tn : Int), .bool true, .bool false, .int .i64 0, .bool false, .int .i64 0, .string ⟨#[]⟩, .int .i64 0, .slice none 0 0, .slice none 0 0, .slice none 0 0] 118)).heap.size) := by have := HP4.out.sz; show _ ≤ _; simp; omega
                  have HML := zh (HM4.out.ok.mono (k' := 12) (by omega)).len
                  go_wp2_with (at_builtin; refine yG elem_mem _ rfl (.tmp 85) (.tmp 87) rfl (w.heap.size + 2) _ _ _ rfl HO1.out W4.heap.size 0 1 1 [.int .i64 ((k : Int) + 1), .string ((⟨#[109]⟩ : ByteArray) ++ S), .int .i64 (tn : Int), .bool true, .bool false, .int .i64 0, .bool false, .int .i64 0, .string ⟨#[]⟩, .int .i64 0, .slice none 0 0, .slice none 0 0, .slice none 0 0] rfl rfl HRN.out (encM_one ⟨(k : Int) + 1, (⟨#[109]⟩ : ByteArray) ++ S, (tn : Int), true, false, zeroV⟩) (by have := HML.out; omega) (by have := HML.out; omega) HZ7.out ?_; intro v8 w8 ho8 hg8)
                  go_roundw
                  case rel =>
                    refine ⟨k + 1, ms ++ [⟨(k : Int) + 1, (⟨#[109]⟩ : ByteArray) ++ S, (tn : Int), true, false, zeroV⟩], by omega, by go_num, ?_⟩
                    have HG : Hid (Below w.heap.size w w8 ∧ W4.heap.size ≤ w8.heap.size ∧ ∀ q, q < w.heap.size + 2 → w8.heap[q]? = W4.heap[q]?) := by
                      have hnew := zD W4 (.cells #[.int .i64 ((k : Int) + 1), .string ((⟨#[109]⟩ : ByteArray) ++ S), .int .i64 (tn : Int), .bool true, .bool false, .int .i64 0, .bool false, .int .i64 0, .string ⟨#[]⟩, .int .i64 0, .slice none 0 0, .slice none 0 0, .slice none 0 0] 118)
                      refine ⟨(zB HP4.out.bel hnew).grown hg8 (zB HP4.out.bel hnew).size (fun q hq => by have := HO1.out.lt q hq; omega), Nat.le_trans hnew.size hg8.size, fun q hq => ?_⟩
                      exact (yA hg8 (by have := HZ7.out; omega) (fun j hj e => by have := HO1.out.lt j hj; omega)).trans (hnew.block q (by have := HP4.out.sz; omega))
                    exact ⟨MsSt.snoc (m := ⟨(k : Int) + 1, (⟨#[109]⟩ : ByteArray) ++ S, (tn : Int), true, false, zeroV⟩) HM4.out rfl (by rw [HS.out]; exact nm_app 109 (k + 1)) HTN.out rfl ⟨(by decide : (⟨#[]⟩ : ByteArray).size ≤ 1 ∧ (0 : Int) ≠ 5 ∧ (0 : Int) ≠ 6), rfl, rfl, rfl⟩ ho8, HP4.out.keep HD0.out HR0.out HG.out.1 HG.out.2.1 HG.out.2.2⟩
                  case measure => simp [intOf]; omega
                | false =>
                  cases E4 with
                  | false =>
                    go_upto_region 17 with fail
                    have hx4 := heap_alloc_new w3 (.cells #[.int .i64 ((k : Int) + 1), .string ((⟨#[109]⟩ : ByteArray) ++ S), .int .i64 (tn : Int), .bool false, .bool false, .int .i64 0, .bool false, .int .i64 0, .string ⟨#[]⟩, .int .i64 0, .slice none 0 0, .slice none 0 0, .slice none 0 0] 118)
                    have hp4 := HP3.out.below (zD w3 (.cells #[.int .i64 ((k : Int) + 1), .string ((⟨#[109]⟩ : ByteArray) ++ S), .int .i64 (tn : Int), .bool false, .bool false, .int .i64 0, .bool false, .int .i64 0, .string ⟨#[]⟩, .int .i64 0, .slice none 0 0, .slice none 0 0, .slice none 0 0] 118))
                    have hm4 := HM3.out.below (zD w3 (.cells #[.int .i64 ((k : Int) + 1), .string ((⟨#[109]⟩ : ByteArray) ++ S), .int .i64 (tn : Int), .bool false, .bool false, .int .i64 0, .bool false, .int .i64 0, .string ⟨#[]⟩, .int .i64 0, .slice none 0 0, .slice none 0 0, .slice none 0 0] 118));have HX4 := zh hx4;have HP4 := zh hp4;have HM4 := zh hm4
                    obtain ⟨m0, m1, m2, m3, m4, m5, m6, m7, m8, m9, m10, m11, m12⟩ := mb_cells hx4;have hmb := (zg.1 hx4).1;clear hx4 hp4 hm4;generalize w3.alloc (.cells #[.int .i64 ((k : Int) + 1), .string ((⟨#[109]⟩ : ByteArray) ++ S), .int .i64 (tn : Int), .bool false, .bool false, .int .i64 0, .bool false, .int .i64 0, .string ⟨#[]⟩, .int .i64 0, .slice none 0 0, .slice none 0 0, .slice none 0 0] 118) = W4 at *
                    have HO1 := zh (OwnL.alloc HM4.out.own (.cells #[.int .i64 ((k : Int) + 1), .string ((⟨#[109]⟩ : ByteArray) ++ S), .int .i64 (tn : Int), .bool false, .bool false, .int .i64 0, .bool false, .int .i64 0, .string ⟨#[]⟩, .int .i64 0, .slice none 0 0, .slice none 0 0, .slice none 0 0] 118))
                    have HRN : Hid ((W4.alloc (.cells #[.int .i64 ((k : Int) + 1), .string ((⟨#[109]⟩ : ByteArray) ++ S), .int .i64 (tn : Int), .bool false, .bool false, .int .i64 0, .bool false, .int .i64 0, .string ⟨#[]⟩, .int .i64 0, .slice none 0 0, .slice none 0 0, .slice none 0 0] 118)).rangeAt W4.heap.size 0 [.int .i64 ((k : Int) + 1), .string ((⟨#[109]⟩ : ByteArray) ++ S), .int .i64 (tn : Int), .bool false, .bool false, .int .i64 0, .bool false, .int .i64 0, .string ⟨#[]⟩, .int .i64 0, .slice none 0 0, .slice none 0 0, .slice none 0 0]) := zh (zR W4 [.int .i64 ((k : Int) + 1), .string ((⟨#[109]⟩ : ByteArray) ++ S), .int .i64 (tn : Int), .bool false, .bool false, .int .i64 0, .bool false, .int .i64 0, .string ⟨#[]⟩, .int .i64 0, .slice none 0 0, .slice none 0 0, .slice none 0 0] 118)
                    have HZ7 : Hid (w.heap.size + 2 ≤ (W4.alloc (.cells #[.int .i64 ((k : Int) + 1), .string ((⟨#[109]⟩ : ByteArray) ++ S), .int .i64 (tn : Int), .bool false, .bool false, .int .i64 0, .bool false, .int .i64 0, .string ⟨#[]⟩, .int .i64 0, .slice none 0 0, .slice none 0 0, .slice none 0 0] 118)).heap.size) := by have := HP4.out.sz; show _ ≤ _; simp; omega
                    have HML := zh (HM4.out.ok.mono (k' := 12) (by omega)).len
                    go_wp2_with (at_builtin; refine yG elem_mem _ rfl (.tmp 85) (.tmp 87) rfl (w.heap.size + 2) _ _ _ rfl HO1.out W4.heap.size 0 1 1 [.int .i64 ((k : Int) + 1), .string ((⟨#[109]⟩ : ByteArray) ++ S), .int .i64 (tn : Int), .bool false, .bool false, .int .i64 0, .bool false, .int .i64 0, .string ⟨#[]⟩, .int .i64 0, .slice none 0 0, .slice none 0 0, .slice none 0 0] rfl rfl HRN.out (encM_one ⟨(k : Int) + 1, (⟨#[109]⟩ : ByteArray) ++ S, (tn : Int), false, false, zeroV⟩) (by have := HML.out; omega) (by have := HML.out; omega) HZ7.out ?_; intro v8 w8 ho8 hg8)
                    go_roundw
                    case rel =>
                      refine ⟨k + 1, ms ++ [⟨(k : Int) + 1, (⟨#[109]⟩ : ByteArray) ++ S, (tn : Int), false, false, zeroV⟩], by omega, by go_num, ?_⟩
                      have HG : Hid (Below w.heap.size w w8 ∧ W4.heap.size ≤ w8.heap.size ∧ ∀ q, q < w.heap.size + 2 → w8.heap[q]? = W4.heap[q]?) := by
                        have hnew := zD W4 (.cells #[.int .i64 ((k : Int) + 1), .string ((⟨#[109]⟩ : ByteArray) ++ S), .int .i64 (tn : Int), .bool false, .bool false, .int .i64 0, .bool false, .int .i64 0, .string ⟨#[]⟩, .int .i64 0, .slice none 0 0, .slice none 0 0, .slice none 0 0] 118)
                        refine ⟨(zB HP4.out.bel hnew).grown hg8 (zB HP4.out.bel hnew).size (fun q hq => by have := HO1.out.lt q hq; omega), Nat.le_trans hnew.size hg8.size, fun q hq => ?_⟩
                        exact (yA hg8 (by have := HZ7.out; omega) (fun j hj e => by have := HO1.out.lt j hj; omega)).trans (hnew.block q (by have := HP4.out.sz; omega))
                      exact ⟨MsSt.snoc (m := ⟨(k : Int) + 1, (⟨#[109]⟩ : ByteArray) ++ S, (tn : Int), false, false, zeroV⟩) HM4.out rfl (by rw [HS.out]; exact nm_app 109 (k + 1)) HTN.out rfl ⟨(by decide : (⟨#[]⟩ : ByteArray).size ≤ 1 ∧ (0 : Int) ≠ 5 ∧ (0 : Int) ≠ 6), rfl, rfl, rfl⟩ ho8, HP4.out.keep HD0.out HR0.out HG.out.1 HG.out.2.1 HG.out.2.2⟩
                    case measure => simp [intOf]; omega
                  | true =>
                    obtain ⟨fq, hfq⟩ : ∃ fq : Nat, fq = pp.flag / 4 := ⟨_, rfl⟩;have efq : (pp.flag : Int) / 4 = (fq : Int) := by rw [hfq]; simp
                    have hfl : fq < 256 := by omega
                    clear hfq;go_wp2_with fail;have hx3 := heap_alloc_new w3 (.cells #[.int .i64 ((k : Int) + 1), .string ((⟨#[109]⟩ : ByteArray) ++ S), .int .i64 (tn : Int), .bool false, .bool false, .int .i64 0, .bool false, .int .i64 0, .string ⟨#[]⟩, .int .i64 0, .slice none 0 0, .slice none 0 0, .slice none 0 0] 118)
                    have hp3 := HP3.out.below (zD w3 (.cells #[.int .i64 ((k : Int) + 1), .string ((⟨#[109]⟩ : ByteArray) ++ S), .int .i64 (tn : Int), .bool false, .bool false, .int .i64 0, .bool false, .int .i64 0, .string ⟨#[]⟩, .int .i64 0, .slice none 0 0, .slice none 0 0, .slice none 0 0] 118))
                    have hm3 := HM3.out.below (zD w3 (.cells #[.int .i64 ((k : Int) + 1), .string ((⟨#[109]⟩ : ByteArray) ++ S), .int .i64 (tn : Int), .bool false, .bool false, .int .i64 0, .bool false, .int .i64 0, .string ⟨#[]⟩, .int .i64 0, .slice none 0 0, .slice none 0 0, .slice none 0 0] 118));refine (initial_any d tn fq _ c _ hp3.db.nodes (by have := HTN.out; omega) (by omega)).mono ?_
                    rintro e w5 ⟨x5, ok, rfl, hfl5, hz5, hb5⟩;obtain ⟨xk, xb, xi, xs, xn, ks, is, rs⟩ := x5;obtain ⟨hs5, hk5, hi5, hr5⟩ := hfl5;simp only [Val.keys, Val.items, Val.rest, Val.str] at hk5 hi5 hr5 hs5;subst hk5 hi5 hr5
                    dsimp only [Val.v, Val.kind, Val.bool, Val.int, Val.str, Val.id, Val.keys, Val.items, Val.rest, List.length_nil]
                    have HS5 := zh hs5;have HZ5 := zh hz5;have hx5 := (hb5.block _ (zg.1 hx3).1).trans hx3;have hp5 := hp3.below hb5;have hm5 := hm3.below hb5;have HTH := zh (mb_there hx5);have hmb := (zg.1 hx5).1;have h3z := HP3.out.sz;have hx6 := mb_row hx5 (.int .i64 xk) (.bool xb) (.int .i64 xi) (.string xs) (.int .i64 xn) (.slice none 0 0) (.slice none 0 0) (.slice none 0 0);have HX6 := zh hx6
                    have HP6 := zh (hp5.keep (W' := w5.setCells w3.heap.size 5 [.int .i64 xk, .bool xb, .int .i64 xi, .string xs, .int .i64 xn, .slice none 0 0, .slice none 0 0, .slice none 0 0]) HD0.out HR0.out (yC _ (by omega) _ _ _ hp5.bel) (by rw [size_setCells]; exact Nat.le_refl _) (fun q hq => zN (by omega) _ _ _))
                    have HM6 : Hid (MsSt true d.length k (w.heap.size + 2) (w5.setCells w3.heap.size 5 [.int .i64 xk, .bool xb, .int .i64 xi, .string xs, .int .i64 xn, .slice none 0 0, .slice none 0 0, .slice none 0 0]) u8 ms) := ⟨hm5.own.keep fun g _ _ hg => zN (fun e => by have := (World.ownsRow.lt HM3.out.own g hg).2; omega) _ _ _, hm5.ok, hm5.flat⟩
                    have f4 := frozen_of_row _ _ 4 _ _ hx6;have c4 := (mb_cells hx6).2.2.2.2.1;have hm6 := (zg.1 hx6).1;clear hx3 hp3 hm3 hb5 hs5 hz5 hx5 hp5 hm5 hmb h3z hx6
                    go_upto_region 17 with (refine wpList_store_mid rfl 28 (.tmp 83) (.tmp 81) rfl w3.heap.size 5 #[.int .i64 xk, .bool xb, .int .i64 xi, .string xs, .int .i64 xn, .slice none 0 0, .slice none 0 0, .slice none 0 0] (by rfl) (by rfl) ?_ ?_ ?_ ?_; (exact HTH.out); (exact zW); (exact val_one (Val.mk xk xb xi xs xn [] [] []) none 0 none 0 none 0); (generalize w5.setCells w3.heap.size 5 [.int .i64 xk, .bool xb, .int .i64 xi, .string xs, .int .i64 xn, .slice none 0 0, .slice none 0 0, .slice none 0 0] = W6 at *))
                    have h3z := HP3.out.sz
                    have hx4 : (W6.setCell ⟨w3.heap.size, 4, none⟩ (.bool ok)).heap[w3.heap.size]? = some (.cells #[.int .i64 ((k : Int) + 1), .string ((⟨#[109]⟩ : ByteArray) ++ S), .int .i64 (tn : Int), .bool false, .bool ok, .int .i64 xk, .bool xb, .int .i64 xi, .string xs, .int .i64 xn, .slice none 0 0, .slice none 0 0, .slice none 0 0] 118 (0, 0)) := by rw [heap_setCell_same _ _ 4 _ _ _ HX6.out]; simp
                    have hp4 := HP6.out.keep (W' := W6.setCell ⟨w3.heap.size, 4, none⟩ (.bool ok)) HD0.out HR0.out (HP6.out.bel.setCell (p := ⟨w3.heap.size, 4, none⟩) (by simp only; omega) _) (by simp) (fun q hq => heap_setCell_other _ _ _ _ (by simp only; omega))
                    have hm4 : MsSt true d.length k (w.heap.size + 2) (W6.setCell ⟨w3.heap.size, 4, none⟩ (.bool ok)) u8 ms := ⟨HM6.out.own.keep fun g _ _ hg => heap_setCell_other _ _ _ _ (fun e => by have := (World.ownsRow.lt HM3.out.own g hg).2; simp only at e; omega), HM6.out.ok, HM6.out.flat⟩
                    clear f4 c4 hm6 h3z HX6 HP6 HM6;have HX4 := zh hx4;have HP4 := zh hp4;have HM4 := zh hm4;obtain ⟨m0, m1, m2, m3, m4, m5, m6, m7, m8, m9, m10, m11, m12⟩ := mb_cells hx4;have hmb := (zg.1 hx4).1;clear hx4 hp4 hm4;generalize W6.setCell ⟨w3.heap.size, 4, none⟩ (.bool ok) = W4 at *
                    have HO1 := zh (OwnL.alloc HM4.out.own (.cells #[.int .i64 ((k : Int) + 1), .string ((⟨#[109]⟩ : ByteArray) ++ S), .int .i64 (tn : Int), .bool false, .bool ok, .int .i64 xk, .bool xb, .int .i64 xi, .string xs, .int .i64 xn, .slice none 0 0, .slice none 0 0, .slice none 0 0] 118))
                    have HRN : Hid ((W4.alloc (.cells #[.int .i64 ((k : Int) + 1), .string ((⟨#[109]⟩ : ByteArray) ++ S), .int .i64 (tn : Int), .bool false, .bool ok, .int .i64 xk, .bool xb, .int .i64 xi, .string xs, .int .i64 xn, .slice none 0 0, .slice none 0 0, .slice none 0 0] 118)).rangeAt W4.heap.size 0 [.int .i64 ((k : Int) + 1), .string ((⟨#[109]⟩ : ByteArray) ++ S), .int .i64 (tn : Int), .bool false, .bool ok, .int .i64 xk, .bool xb, .int .i64 xi, .string xs, .int .i64 xn, .slice none 0 0, .slice none 0 0, .slice none 0 0]) := zh (zR W4 [.int .i64 ((k : Int) + 1), .string ((⟨#[109]⟩ : ByteArray) ++ S), .int .i64 (tn : Int), .bool false, .bool ok, .int .i64 xk, .bool xb, .int .i64 xi, .string xs, .int .i64 xn, .slice none 0 0, .slice none 0 0, .slice none 0 0] 118)
                    have HZ7 : Hid (w.heap.size + 2 ≤ (W4.alloc (.cells #[.int .i64 ((k : Int) + 1), .string ((⟨#[109]⟩ : ByteArray) ++ S), .int .i64 (tn : Int), .bool false, .bool ok, .int .i64 xk, .bool xb, .int .i64 xi, .string xs, .int .i64 xn, .slice none 0 0, .slice none 0 0, .slice none 0 0] 118)).heap.size) := by have := HP4.out.sz; show _ ≤ _; simp; omega
                    have HML := zh (HM4.out.ok.mono (k' := 12) (by omega)).len
                    go_wp2_with (at_builtin; refine yG elem_mem _ rfl (.tmp 85) (.tmp 87) rfl (w.heap.size + 2) _ _ _ rfl HO1.out W4.heap.size 0 1 1 [.int .i64 ((k : Int) + 1), .string ((⟨#[109]⟩ : ByteArray) ++ S), .int .i64 (tn : Int), .bool false, .bool ok, .int .i64 xk, .bool xb, .int .i64 xi, .string xs, .int .i64 xn, .slice none 0 0, .slice none 0 0, .slice none 0 0] rfl rfl HRN.out (encM_one ⟨(k : Int) + 1, (⟨#[109]⟩ : ByteArray) ++ S, (tn : Int), false, ok, Val.mk xk xb xi xs xn [] [] []⟩) (by have := HML.out; omega) (by have := HML.out; omega) HZ7.out ?_; intro v8 w8 ho8 hg8)
                    go_roundw
                    case rel =>
                      refine ⟨k + 1, ms ++ [⟨(k : Int) + 1, (⟨#[109]⟩ : ByteArray) ++ S, (tn : Int), false, ok, Val.mk xk xb xi xs xn [] [] []⟩], by omega, by go_num, ?_⟩
                      have HG : Hid (Below w.heap.size w w8 ∧ W4.heap.size ≤ w8.heap.size ∧ ∀ q, q < w.heap.size + 2 → w8.heap[q]? = W4.heap[q]?) := by
                        have hnew := zD W4 (.cells #[.int .i64 ((k : Int) + 1), .string ((⟨#[109]⟩ : ByteArray) ++ S), .int .i64 (tn : Int), .bool false, .bool ok, .int .i64 xk, .bool xb, .int .i64 xi, .string xs, .int .i64 xn, .slice none 0 0, .slice none 0 0, .slice none 0 0] 118)
                        refine ⟨(zB HP4.out.bel hnew).grown hg8 (zB HP4.out.bel hnew).size (fun q hq => by have := HO1.out.lt q hq; omega), Nat.le_trans hnew.size hg8.size, fun q hq => ?_⟩
                        exact (yA hg8 (by have := HZ7.out; omega) (fun j hj e => by have := HO1.out.lt j hj; omega)).trans (hnew.block q (by have := HP4.out.sz; omega))
                      exact ⟨MsSt.snoc (m := ⟨(k : Int) + 1, (⟨#[109]⟩ : ByteArray) ++ S, (tn : Int), false, ok, Val.mk xk xb xi xs xn [] [] []⟩) HM4.out rfl (by rw [HS.out]; exact nm_app 109 (k + 1)) HTN.out (by cases ok with
                        | true => rfl
                        | false => (have := HZ5.out rfl; rw [this]; rfl)) ⟨HS5.out, rfl, rfl, rfl⟩ ho8, HP4.out.keep HD0.out HR0.out HG.out.1 HG.out.2.1 HG.out.2.2⟩
                    case measure => simp [intOf]; omega
        · go_wp2
          go_roundw
          case rel => exact ⟨k + 1, ms, by omega, by go_num, ⟨HMI.out.own, HMI.out.ok.mono (by omega), HMI.out.flat⟩, HPI.out⟩
          case measure => simp [intOf]; omega
    · have hkt : ¬ ((k : Int) + 1 ≤ 12) := by omega
      obtain rfl : k = 12 := by omega
      go_wp2
      go_ret
      exact ⟨_, ms, rfl, ⟨⟨HMS.out.own.1, HMS.out.own.2.imp id fun ⟨g, cap, cur, h1, h2, h3⟩ => ⟨g, cap, cur, h1, by omega, h3⟩⟩, HMS.out.ok, HMS.out.flat⟩, HPT.out.bel⟩
end Go.Proofs.YthkkllmmbefedaaGreatDoor


