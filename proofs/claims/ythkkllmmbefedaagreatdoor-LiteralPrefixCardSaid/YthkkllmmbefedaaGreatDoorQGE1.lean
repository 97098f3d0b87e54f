/-
  Walks: literal.Read: its value lies in new blocks.
-/
import Derived.Test.YthkkllmmbefedaaGreatDoorQGE0
namespace Go.Proofs.YthkkllmmbefedaaGreatDoor
open Go.RowKit Go.Proofs.Tryz
set_option maxHeartbeats 16000000
set_option maxRecDepth 100000
theorem QV (l:List AJ) (k:Bool):Mi l k=(CS 1 l).bind fun p=>if p.1.text=⟨#[116,114,117,101]⟩ then .ok (true,p.2,k) else if p.1.text=⟨#[102,97,108,115,101]⟩ then .ok (false,p.2,k) else .error 2:=rfl
variable {l:List AJ}
theorem Iq {f:Int->List AJ->Bool->PR Val} {x:Aa} {k:Bool}:
  (x.kind=1->Ci false f x l k=(Mi l k).bind fun p => .ok (.mk 1 p.1 0 ⟨#[]⟩ 0 [] [] [],p.2))/\(x.kind=2->Ci false f x l k=(CS 2 l).bind fun p => .ok (.mk 2 false p.1.int ⟨#[]⟩ 0 [] [] [],p.2,k)) /\
  (x.kind=3->Ci false f x l k=(CS 3 l).bind fun p => .ok (.mk 3 false 0 p.1.str 0 [] [] [],p.2,k))/\(x.kind=4->Ci false f x l k=(Eu false x l k).bind fun p => .ok (.mk 4 false 0 ⟨#[]⟩ p.1 [] [] [],p.2)) /\
  (x.kind=5->Ci false f x l k=XQ 5 (JN false f x l k))/\(x.kind=6->Ci false f x l k=Qi 6 (FD false f x l k))/\(x.kind=7->Ci false f x l k=ZN 7 (IW f x l k))/\(x.kind=8->Ci false f x l k=Xr 8 (IV f x l k))/\(x.kind=9->Ci false f x l k=U7 9 (Hr f x l k)):=by
 unfold Ci;refine ⟨fun h=>?_,fun h=>?_,fun h=>?_,fun h=>?_,fun h=>?_,fun h=>?_,fun h=>?_,fun h=>?_,fun h=>?_⟩ <;> (rw[h];rfl)
variable {e t:Int} {W:World}
theorem Q0 {C:Eh} {Wb:World} {p q:Nat} {kd:Int} {r:List AJ} {k:Bool} (hb0:Ah C.b W Wb) (hq:W.heap.size<=q/\q<p) (hlb:C.b<W.heap.size) {wx:World} {bo:Bool} {it:Int} {st:ByteArray} {di:Int} {vk vi vr:Value} {K I:List Aj} {R:List Af} {r':List AJ} {k':Bool} {e':Int} (hr:CJ C wx r' k' e') (hv:Hw p wx kd bo it st di vk vi vr K I R) (hb:Ah C.b Wb wx) (hl:r'.length<=r.length) (hz:K.length<=2000000/\I.length<=2000000/\R.length<=2000000) (hs:Wb.heap[q]? = some zO) (h1:e≠0->e'=e) (h2:e=0->match Ag false C.s t r k with
   | .ok (v,r1,k1)=>v = .mk kd bo it st di (K.map (·.v)) (I.map (·.v)) R/\r'=r1/\k'=k1/\e'=0
   | .error e1=>e'=e1):
  ∃A1 c1 A2 c2 A3 c3,vk = .slice A1 K.length c1/\vi = .slice A2 I.length c2/\vr = .slice A3 R.length c3/\wx.heap[q]? = some zO /\
   tq C t W r k e (.returned (.agg #[.int .i64 kd,.bool bo,.int .i64 it,.string st,.int .i64 di,.slice A1 K.length c1,.slice A2 I.length c2,.slice A3 R.length c3])) (Go.Proofs.YthkkllmmbefedaaGreatDoor.q8 wx q (.int .i64 kd) (.bool bo) (.int .i64 it) (.string st) (.int .i64 di) (.slice A1 K.length c1) (.slice A2 I.length c2) (.slice A3 R.length c3)):=by
 obtain ⟨A1,c1,A2,c2,A3,c3,e1,e2,e3,ho⟩:=hv.fin (by unfold EF;omega) (by unfold EF;omega) (by unfold EF;omega)
 refine ⟨A1,c1,A2,c2,A3,c3,e1,e2,e3,Cr hs hb (by omega),⟨.mk kd bo it st di (K.map (·.v)) (I.map (·.v)) R,A1,c1,A2,c2,A3,c3⟩,?_,?_,?_,r',k',e',hr.ACu (by omega) _ _ _ _ _ _ _ _,hl,h1,fun h0=>?_⟩
 ·show Ending.returned (.agg #[.int .i64 kd,.bool bo,.int .i64 it,.string st,.int .i64 di,.slice A1 K.length c1,.slice A2 I.length c2,.slice A3 R.length c3]) = .returned (.agg #[.int .i64 kd,.bool bo,.int .i64 it,.string st,.int .i64 di,.slice A1 (K.map (·.v)).length c1,.slice A2 (I.map (·.v)).length c2,.slice A3 R.length c3])
  rw[AAt,AAt]
 ·exact (EI ho (B:=q) (AAM hq.2) _ _ _ _ _ _ _ _).mono fun s _ hs=>by have:=hq.1;omega
 ·exact (hb0.trans hb).eight _ _ _ _ _ _ _ _ hq.1 hlb
 ·have h3:=h2 h0
  cases hw:Ag false C.s t r k with
  | error e1=>rw[hw] at h3;exact h3
  | ok z=>rw[hw] at h3;exact ⟨h3.1.symm,h3.2⟩
theorem Wt {C : Eh} (hv : zQ C.s = 0) {n : Nat} (ih : EB C n) : EB C (n + 1) := by
  intro t W r k e hn hr h
  obtain ⟨tn, rfl⟩ := AAh hr.1;have htn : tn < C.s.length := by omega
  obtain ⟨bq, oq, As, cs, Am, cm, hA, htr, t0, t1, t2, t3, t4, t5, t6, t7, t8, t9⟩ := h.ok.ty.J3 htn;have xR : Hid (Ag false C.s (tn : Int) r k = Ci false (Ag false C.s) C.s[tn] r k) := by show _ = _; rw [Yi, zT htn]
  have eX : Hid (1 <= (C.s[tn]).kind /\ (C.s[tn]).kind <= 9) := by have := Fh hv hr; rw [zT htn] at this; exact this
  have nZ : Hid (Ev (C.s[tn]).kind -> 0 <= (C.s[tn]).elem /\ (C.s[tn]).elem < (C.s.length : Int)) := by have := Jz hv hr; rw [zT htn] at this; exact this
  have nR : Hid ((C.s[tn]).kind = 8 -> 0 <= (C.s[tn]).key /\ (C.s[tn]).key < (C.s.length : Int)) := fun hk => by have := (MR hv hr (by rw [zT htn]; exact hk)).1; rw [zT htn] at this; exact this
  have HMR : Hid ((C.s[tn]).kind = 5 \/ (C.s[tn]).kind = 6 -> ∀ y ∈ (C.s[tn]).AA, 0 <= y.type /\ y.type < (C.s.length : Int)) := fun hk y hy => (qM hv (AAL htn) hy).2
  have hls := NC hv;have Ie := zh htr;have Ob := zh h;have HN : Hid (r.length <= n) := by show _ <= _; omega
  have Ed := zh ih;have Ih := zh h.lt;generalize C.s[tn] = x at *;have HBA := zh (zI W (Ql C) zO);have uG : Hid (((W.alloc (Ql C)).alloc zO).heap[W.heap.size]? = some (Ql C)) := Au (AAA W (Ql C)) (zD _ _);have Ou : Hid (((W.alloc (Ql C)).alloc zO).heap[W.heap.size + 1]? = some zO) := by
    show _ = _
    have := AAA (W.alloc (Ql C)) zO;rw [show (W.alloc (Ql C)).heap.size = W.heap.size + 1 by simp] at this
    exact this
  have hza : ((W.alloc (Ql C)).alloc zO).heap.size = W.heap.size + 2 := by simp
  have HZA := zh hza;clear h ih hn htr hv hr
  go_enter func79, ntmps79
  go_upto_region 1 with fail
  generalize (W.alloc (Ql C)).alloc zO = Wa at *;have HR1 := zh (Ob.O.below HBA);obtain ⟨⟨c0, _, _, _, _⟩, _⟩ := HR1.O.cells;rw [hA] at c0;have rr : Wa.cell? ⟨W.heap.size, 0, none⟩ = some (.pointer (some ⟨C.b, 0, none⟩)) := by rw [AAC _ _ _ _ _ _ uG.O]; rfl
  have i0 : (0 : Int) <= (tn : Int) := by omega
  have i1 : (tn : Int) < (C.s.length : Int) := by omega
  have AGc : (C.s.length : Int) <= 32 := by omega
  replace t0 := zA HR1.O.up t0;replace t1 := zA HR1.O.up t1;replace t2 := zA HR1.O.up t2;replace t3 := zA HR1.O.up t3;replace t4 := zA HR1.O.up t4;replace t5 := zA HR1.O.up t5;replace t6 := zA HR1.O.up t6;replace t7 := zA HR1.O.up t7;replace t8 := zA HR1.O.up t8;replace t9 := zA HR1.O.up t9;clear hA hza;go_upto_region 3 with fail
  clear t0 t1 t2 t3 t4 t5 t6 t7 t8 t9 c0 rr i0 i1;have Ll := zh (zD Wa (x.box As cs Am cm));have hzb : (Wa.alloc (x.box As cs Am cm)).heap.size = Wa.heap.size + 1 := by simp
  have LD : Hid (IA C (Wa.alloc (x.box As cs Am cm)) (Wa.heap.size + 1) x.kind ((Wa.alloc (x.box As cs Am cm)).alloc (I8 x.kind false 0 ⟨#[]⟩ 0 AP AP AP)) r k e 0 AP AP AP [] [] []) := by
    have h1 := Hw.new (Wa.alloc (x.box As cs Am cm)) x.kind;rw [hzb] at h1;have h2 := HR1.O.below Ll;exact ⟨h2.below (zD _ _), h1, Ah.of (zD _ _) (AAM h2.lt), Nat.le_of_eq hzb, h2.lt⟩
  have BL : Hid (((Wa.alloc (x.box As cs Am cm)).alloc (I8 x.kind false 0 ⟨#[]⟩ 0 AP AP AP)).heap[Wa.heap.size]? = some (x.box As cs Am cm)) := Au (AAA Wa _) (zD _ _);have sG : Hid (((Wa.alloc (x.box As cs Am cm)).alloc (I8 x.kind false 0 ⟨#[]⟩ 0 AP AP AP)).heap[W.heap.size]? = some (Ql C)) := Au (Au uG Ll) (zD _ _);have ABk := zh (Au Ou Ll)
  have HB0 := zh (Ah.of (zB HBA Ll) (AAM Ih));have AD1 := zh (Au uG Ll);unfold I8 at LD BL sG;generalize Wa.alloc (x.box As cs Am cm) = Wb at *;generalize Wb.alloc _ = Wc at *;obtain ⟨px, hpx⟩ : ∃ px, Wa.heap.size = px := ⟨_, rfl⟩;obtain ⟨p, hp⟩ : ∃ p, px + 1 = p := ⟨_, rfl⟩;have HLO : Hid (W.heap.size + 2 = px /\ px + 1 = p) := ⟨by rw [<- hpx, HZA.O], hp⟩
  rw [hpx, hp] at LD;rw [hpx] at BL;rw [hpx, hp];clear hpx hp hzb Ll HBA uG Ou HR1 Ob HZA;have rr : Wc.cell? ⟨W.heap.size, 0, none⟩ = some (.pointer (some ⟨C.b, 0, none⟩)) := by rw [AAC _ _ _ _ _ _ sG.O]; rfl
  have rz := LD.O.rd.zero
  by_cases he : e = 0
  case neg =>
    have q1 : (e != 0) = true := by simp [he]
    obtain ⟨A1, c1, A2, c2, A3, c3, e1, e2, e3, g1, g2⟩ := Q0 (t := (tn : Int)) HB0 (q := W.heap.size + 1) (by have := HLO.O; omega) Ih LD.O.rd LD.O.vb LD.O.fr (AAF _) z3 ABk (fun _ => rfl) (fun h => absurd h he)
    injection e1 with e1 e4 e5
    injection e2 with e2 e6 e7
    injection e3 with e3 e8 e9
    subst e1 e2 e3 e5 e7 e9;have HG2 := zh g2;have Ky := zh (Gx g1 (.int .i64 x.kind) (.bool false) (.int .i64 0) (.string ⟨#[]⟩) (.int .i64 0) AP AP AP);obtain ⟨⟨x0, x1, x2, x3, x4, x5, x6, x7⟩, y0, y1, y2, y3, y4, y5, y6, y7⟩ := zK g1;obtain ⟨⟨v0, v1, v2, v3, v4, v5, v6, v7⟩, _⟩ := LD.O.vb.cells;clear e4 e6 e8;go_wp2
    clear x0 x1 x2 x3 x4 x5 x6 x7 y0 y1 y2 y3 y4 y5 y6 y7 v0 v1 v2 v3 v4 v5 v6 v7;unfold Go.Proofs.YthkkllmmbefedaaGreatDoor.q8 Go.Proofs.YthkkllmmbefedaaGreatDoor.q5 at HG2 Ky;generalize World.setCell _ _ _ = W9 at *;obtain ⟨⟨x0, x1, x2, x3, x4, x5, x6, x7⟩, _⟩ := zK Ky
    refine bodyPost_ret (v := .agg #[.int .i64 x.kind, .bool false, .int .i64 0, .string ⟨#[]⟩, .int .i64 0, AP, AP, AP]) (by simp [results, results79, go_sem, x0, x1, x2, x3, x4, x5, x6, x7]) rfl HG2
  subst he;obtain ⟨b0, b1, b2, b3, b4, b5, b6, b7, b8, b9⟩ := zG (show Ca Wc px x As cs Am cm from BL.O)
  go_upto_block 0 with fail
  clear b0 b1 b2 b3 b4 b5 b6 b7 b8 b9
  go_cut [] (fun wx => Hid (VaP C Wb p x.kind r (Ci false (Ag false C.s) x r k) wx))
  case first =>
    have hkk : x.kind = 1 \/ x.kind = 2 \/ x.kind = 3 \/ x.kind = 4 \/ x.kind = 5 \/ x.kind = 6 \/ x.kind = 7 \/ x.kind = 8 \/ x.kind = 9 := by have := eX.O; omega
    rcases hkk with hk | hk | hk | hk | hk | hk | hk | hk | hk
    · as_aux_lemma =>
      have q1 : (x.kind == 1) = true := by simp [hk]
      have HB := zh ((Iq (f := Ag false C.s) (x := x) (l := r) (k := k)).1 hk);have HK := zh hk;clear hk;go_wp2_with fail;refine (Br 1 LD.O.rd).mono ?_
      intro y w4 h4
      obtain ⟨t0, r1, e1, rfl, g1, g2, g3⟩ := F5 h4;have Lx := zh (LD.O.BK g1 g2);have OA := zh g3;have fd2 := IX;have fd3 := Jv;have WW := zh (Lx.O.below (zD w4 (.cells #[.int .i64 t0.kind, .string t0.text, .int .i64 t0.int, .string t0.str, .int .i64 t0.line] 59)));obtain ⟨⟨_, c1, _, _, _, _, _, _⟩, cf⟩ := WW.O.vb.cells;have f1 := cf 1
      have HRP : Hid (w4.heap[W.heap.size]? = some (Ql C)) := Cr sG g1 (by have := Ih.O; omega)
      have vH : w4.cell? ⟨W.heap.size, 0, none⟩ = some (.pointer (some ⟨C.b, 0, none⟩)) := by rw [AAC _ _ _ _ _ _ HRP.O]; rfl
      have hlp := zL vH;simp only at hlp;have hpl : Hid (p < w4.heap.size) := Lx.O.vb.lt
      have rZ : Hid (∀ b : Bool, IA C Wb p x.kind (w4.alloc (.cells #[.int .i64 t0.kind, .string t0.text, .int .i64 t0.int, .string t0.str, .int .i64 t0.line] 59)) r1 k e1 0 AP AP AP [] [] [] -> Hw p ((w4.alloc (.cells #[.int .i64 t0.kind, .string t0.text, .int .i64 t0.int, .string t0.str, .int .i64 t0.line] 59)).setCell ⟨p, 1, none⟩ (.bool b)) x.kind b 0 ⟨#[]⟩ 0 AP AP AP [] [] [] /\ CJ C ((w4.alloc (.cells #[.int .i64 t0.kind, .string t0.text, .int .i64 t0.int, .string t0.str, .int .i64 t0.line] 59)).setCell ⟨p, 1, none⟩ (.bool b)) r1 k e1 /\ Ah C.b Wb ((w4.alloc (.cells #[.int .i64 t0.kind, .string t0.text, .int .i64 t0.int, .string t0.str, .int .i64 t0.line] 59)).setCell ⟨p, 1, none⟩ (.bool b))) := fun b h => ⟨h.vb.NI (j := 1) rfl h.vb.str, h.rd.FN (by have := h.bp; omega) (by have := h.bp; have := h.rd.ok.ge; omega) 1 _, ⟨h.fr.Cm.setCell (p := ⟨p, 1, none⟩) (AAM h.bp) _, fun q hq hl => (AAE _ _ _ _ (by have := h.lo; simp only; omega)).trans (h.fr.FN q hq hl)⟩⟩
      have Kw : Hid (∀ b : Bool, ((w4.alloc (.cells #[.int .i64 t0.kind, .string t0.text, .int .i64 t0.int, .string t0.str, .int .i64 t0.line] 59)).setCell ⟨p, 1, none⟩ (.bool b)).heap[w4.heap.size]? = some (sU t0)) := fun b => (AAE _ _ _ _ (by have := hpl.O; simp only; omega)).trans (AAA w4 _)
      clear h4 g1 g2 g3 cf;have ht := OA.O.tk
      by_cases h1 : t0.text = ⟨#[116, 114, 117, 101]⟩
      · have l1 : (t0.text.toList == ([116, 114, 117, 101] : List UInt8)) = true := by rw [G8]; exact AAJ h1
        have HP : Hid (e1 = 0 /\ Ci false (Ag false C.s) x r k = .ok (.mk 1 true 0 ⟨#[]⟩ 0 [] [] [], r1, k)) := by
          show _ /\ _
          rw [HB.O, QV]
          cases hk1 : CS 1 r with
          | error e => rcases OA.O.2 with ⟨g, _⟩ | ⟨_, g, _⟩
                       · rw [hk1] at g; cases g
                       · rw [g] at h1; exact absurd h1 (by decide)
          | ok q => rw [hk1] at ht; rw [zM, <- ht.1, AAB h1, <- ht.2.1]; exact ⟨ht.2.2.1, rfl⟩
        clear h1 ht;go_upto_region 9 with fail
        have HG := zh (rZ.O true WW);have fO := zh (Kw.O true);generalize World.setCell (World.alloc w4 _) _ _ = W5 at *;obtain ⟨⟨_, c1', _⟩, _⟩ := HG.O.1.cells;obtain ⟨⟨_, n1, _, _, _⟩, _⟩ := Bd fO;clear c1 f1;go_wp2;go_meet;obtain ⟨g1, g2, g3⟩ := HG.O
        exact ⟨true, 0, ⟨#[]⟩, 0, _, _, _, [], [], [], r1, k, e1, g2, g1, g3, OA.O.1.1, z3, by rw [HP.O.2]; exact ⟨by rw [HK.O]; rfl, rfl, rfl, HP.O.1⟩⟩
      have l1 : (t0.text.toList == ([116, 114, 117, 101] : List UInt8)) = false := by rw [G8]; exact AAP h1
      by_cases h2 : t0.text = ⟨#[102, 97, 108, 115, 101]⟩
      · have l2 : (t0.text.toList == ([102, 97, 108, 115, 101] : List UInt8)) = true := by rw [G8]; exact AAJ h2
        have HP : Hid (e1 = 0 /\ Ci false (Ag false C.s) x r k = .ok (.mk 1 false 0 ⟨#[]⟩ 0 [] [] [], r1, k)) := by
          show _ /\ _
          rw [HB.O, QV]
          cases hk1 : CS 1 r with
          | error e => rcases OA.O.2 with ⟨g, _⟩ | ⟨_, g, _⟩
                       · rw [hk1] at g; cases g
                       · rw [g] at h2; exact absurd h2 (by decide)
          | ok q => rw [hk1] at ht; rw [zM, <- ht.1, Pd h1, AAB h2, <- ht.2.1]; exact ⟨ht.2.2.1, rfl⟩
        clear h1 h2 ht;go_upto_region 9 with fail
        have HG := zh (rZ.O false WW);have fO := zh (Kw.O false);generalize World.setCell (World.alloc w4 _) _ _ = W5 at *;obtain ⟨⟨_, c1', _⟩, _⟩ := HG.O.1.cells;obtain ⟨⟨_, n1, _, _, _⟩, _⟩ := Bd fO;clear c1 f1;go_wp2;go_meet;obtain ⟨g1, g2, g3⟩ := HG.O
        exact ⟨false, 0, ⟨#[]⟩, 0, _, _, _, [], [], [], r1, k, e1, g2, g1, g3, OA.O.1.1, z3, by rw [HP.O.2]; exact ⟨by rw [HK.O]; rfl, rfl, rfl, HP.O.1⟩⟩
      · have l2 : (t0.text.toList == ([102, 97, 108, 115, 101] : List UInt8)) = false := by rw [G8]; exact AAP h2
        have HP : Hid (Ci false (Ag false C.s) x r k = .error (lS e1 2)) := by
          show _ = _
          rw [HB.O, QV]
          rcases OA.O.2 with ⟨g, j, _⟩ | ⟨g, _, _, j⟩
          · rw [g, zM]; simp only; rw [Pd h1, Pd h2, j]; rfl
          · rw [g, j]; rfl
        clear h1 h2 ht;go_upto_region 9 with fail
        have HG0 := zh (rZ.O false WW);have fO := zh (Kw.O false);generalize World.setCell (World.alloc w4 _) _ _ = W5 at *;obtain ⟨⟨_, c1', _⟩, _⟩ := HG0.O.1.cells;obtain ⟨⟨_, n1, _, _, _⟩, _⟩ := Bd fO;clear c1 f1
        have rr5 : W5.cell? ⟨W.heap.size, 0, none⟩ = some (.pointer (some ⟨C.b, 0, none⟩)) := by rw [AAC _ _ _ _ _ _ (Cr AD1 HG0.O.2.2 (by have := Ih.O; omega))]; rfl
        go_wp2_with fail
        obtain ⟨g1, g2, g3⟩ := HG0.O;refine (Bc 2 g2).mono ?_;rintro y w6 ⟨rfl, g4, g5⟩;have HG := zh (And.intro (g1.BK g5 WW.O.bp) (And.intro g4 (g3.trans g5)));clear g1 g2 g3 g4 g5;go_wp2;go_meet;exact ⟨false, 0, ⟨#[]⟩, 0, _, _, _, [], [], [], r1, k, _, HG.O.2.1, HG.O.1, HG.O.2.2, OA.O.1.1, z3, by rw [HP.O]⟩
    · as_aux_lemma =>
      have q1 : (x.kind == 1) = false := by simp [hk]
      have q2 : (x.kind == 2) = true := by simp [hk]
      have HB := zh ((Iq (f := Ag false C.s) (x := x) (l := r) (k := k)).2.1 hk);have HK := zh hk;clear hk;go_wp2_with fail;refine (Br 2 LD.O.rd).mono ?_
      intro y w4 h4
      obtain ⟨t0, r1, e1, rfl, g1, g2, g3⟩ := F5 h4;have Lx := zh (LD.O.BK g1 g2);have OA := zh g3;have fd2 := IX;have fd3 := Jv;obtain ⟨⟨_, _, c2, _, _, _, _, _⟩, cf⟩ := Lx.O.vb.cells;have fz := cf 2;clear h4 g1 g2 g3 cf
      have HG : Hid (Hw p (w4.setCell ⟨p, 2, none⟩ (.int .i64 t0.int)) x.kind false t0.int ⟨#[]⟩ 0 AP AP AP [] [] [] /\ CJ C (w4.setCell ⟨p, 2, none⟩ (.int .i64 t0.int)) r1 k e1 /\ Ah C.b Wb (w4.setCell ⟨p, 2, none⟩ (.int .i64 t0.int))) := by
        have h := Lx.O;exact ⟨h.vb.NI (j := 2) rfl (Lx.O.vb.str), h.rd.FN (by have := h.bp; omega) (by have := h.bp; have := h.rd.ok.ge; omega) 2 _, ⟨h.fr.Cm.setCell (p := ⟨p, 2, none⟩) (AAM h.bp) _, fun q hq hl => (AAE _ _ _ _ (by have := h.lo; simp only; omega)).trans (h.fr.FN q hq hl)⟩⟩
      have HP : Hid (match Ci false (Ag false C.s) x r k with
        | .ok (v, r1', k1) => v = .mk x.kind false t0.int ⟨#[]⟩ 0 [] [] [] /\ r1 = r1' /\ k = k1 /\ e1 = 0
        | .error e => e1 = e) := by
        show match Ci false (Ag false C.s) x r k with
        | .ok (v, r1', k1) => v = .mk x.kind false t0.int ⟨#[]⟩ 0 [] [] [] /\ r1 = r1' /\ k = k1 /\ e1 = 0
        | .error e => e1 = e
        have ht := OA.O.tk;rw [HB.O, HK.O]
        cases hk1 : CS 2 r with
        | error e => rw [hk1] at ht; exact ht.1
        | ok q => rw [hk1] at ht; rw [zM, <- ht.1, <- ht.2.1]; exact ⟨rfl, rfl, rfl, ht.2.2.1⟩
      go_wp2
      go_meet
      exact ⟨false, t0.int, ⟨#[]⟩, 0, _, _, _, [], [], [], r1, k, e1, HG.O.2.1, HG.O.1, HG.O.2.2, OA.O.1.1, z3, HP.O⟩
    · as_aux_lemma =>
      have q1 : (x.kind == 1) = false := by simp [hk]
      have q2 : (x.kind == 2) = false := by simp [hk]
      have q3 : (x.kind == 3) = true := by simp [hk]
      have HB := zh ((Iq (f := Ag false C.s) (x := x) (l := r) (k := k)).2.2.1 hk);have HK := zh hk;clear hk;go_wp2_with fail;refine (Br 3 LD.O.rd).mono ?_
      intro y w4 h4
      obtain ⟨t0, r1, e1, rfl, g1, g2, g3⟩ := F5 h4;have Lx := zh (LD.O.BK g1 g2);have OA := zh g3;have fd2 := IX;have fd3 := Jv;obtain ⟨⟨_, _, _, c3, _, _, _, _⟩, cf⟩ := Lx.O.vb.cells;have fz := cf 3;clear h4 g1 g2 g3 cf
      have HG : Hid (Hw p (w4.setCell ⟨p, 3, none⟩ (.string t0.str)) x.kind false 0 t0.str 0 AP AP AP [] [] [] /\ CJ C (w4.setCell ⟨p, 3, none⟩ (.string t0.str)) r1 k e1 /\ Ah C.b Wb (w4.setCell ⟨p, 3, none⟩ (.string t0.str))) := by
        have h := Lx.O;exact ⟨h.vb.NI (j := 3) rfl (OA.O.1.2.2), h.rd.FN (by have := h.bp; omega) (by have := h.bp; have := h.rd.ok.ge; omega) 3 _, ⟨h.fr.Cm.setCell (p := ⟨p, 3, none⟩) (AAM h.bp) _, fun q hq hl => (AAE _ _ _ _ (by have := h.lo; simp only; omega)).trans (h.fr.FN q hq hl)⟩⟩
      have HP : Hid (match Ci false (Ag false C.s) x r k with
        | .ok (v, r1', k1) => v = .mk x.kind false 0 t0.str 0 [] [] [] /\ r1 = r1' /\ k = k1 /\ e1 = 0
        | .error e => e1 = e) := by
        show match Ci false (Ag false C.s) x r k with
        | .ok (v, r1', k1) => v = .mk x.kind false 0 t0.str 0 [] [] [] /\ r1 = r1' /\ k = k1 /\ e1 = 0
        | .error e => e1 = e
        have ht := OA.O.tk;rw [HB.O, HK.O]
        cases hk1 : CS 3 r with
        | error e => rw [hk1] at ht; exact ht.1
        | ok q => rw [hk1] at ht; rw [zM, <- ht.1, <- ht.2.1]; exact ⟨rfl, rfl, rfl, ht.2.2.1⟩
      go_wp2
      go_meet
      exact ⟨false, 0, t0.str, 0, _, _, _, [], [], [], r1, k, e1, HG.O.2.1, HG.O.1, HG.O.2.2, OA.O.1.1, z3, HP.O⟩
    · as_aux_lemma =>
      have q1 : (x.kind == 1) = false := by simp [hk]
      have q2 : (x.kind == 2) = false := by simp [hk]
      have q3 : (x.kind == 3) = false := by simp [hk]
      have q4 : (x.kind == 4) = true := by simp [hk]
      have HB := zh ((Iq (f := Ag false C.s) (x := x) (l := r) (k := k)).2.2.2.1 hk);have HK := zh hk;clear hk;obtain ⟨b0, b1, b2, b3, b4, b5, b6, b7, b8, b9⟩ := zG (show Ca Wc px x As cs Am cm from BL.O);go_wp2_with fail;refine (lT LD.O.rd Ie).mono ?_;rintro y w4 ⟨d, rfl, g1, r1, k1, e1, g2, g3, g4⟩;have Lx := zh (LD.O.BK g1 g2);have Ky := zh g3
      obtain ⟨⟨_, _, _, _, c4, _, _, _⟩, cf⟩ := Lx.O.vb.cells;have f4 := cf 4;have HD := zh (Lx.O.vG d);have HP : Hid (match Ci false (Ag false C.s) x r k with
        | .ok (v, r1', k1') => v = .mk x.kind false 0 ⟨#[]⟩ d [] [] [] /\ r1 = r1' /\ k1 = k1' /\ e1 = 0
        | .error e => e1 = e) := by
        show match Ci false (Ag false C.s) x r k with
        | .ok (v, r1', k1') => v = .mk x.kind false 0 ⟨#[]⟩ d [] [] [] /\ r1 = r1' /\ k1 = k1' /\ e1 = 0
        | .error e => e1 = e
        rw [HB.O, HK.O]
        cases hk1 : Eu false x r k with
        | error e => rw [hk1] at g4; exact g4
        | ok q => rw [hk1] at g4; rw [zM, <- g4.1]; exact ⟨rfl, g4.2⟩
      clear g1 g2 g3 g4 cf b0 b1 b2 b3 b4 b5 b6 b7 b8 b9;go_wp2;go_meet;exact ⟨false, 0, ⟨#[]⟩, d, _, _, _, [], [], [], r1, k1, e1, HD.O.rd, HD.O.vb, HD.O.fr, Ky.O, z3, HP.O⟩
    · as_aux_lemma =>
      have q1 : (x.kind == 1) = false := by simp [hk]
      have q2 : (x.kind == 2) = false := by simp [hk]
      have q3 : (x.kind == 3) = false := by simp [hk]
      have q4 : (x.kind == 4) = false := by simp [hk]
      have q5 : (x.kind == 5) = true := by simp [hk]
      have HB := zh ((Iq (f := Ag false C.s) (x := x) (l := r) (k := k)).2.2.2.2.1 hk);have HK := zh hk;clear hk;obtain ⟨b0, b1, b2, b3, b4, b5, b6, b7, b8, b9⟩ := zG (show Ca Wc px x As cs Am cm from BL.O);go_wp2_with fail;refine (XP Ed Ie LD HN (HMR.O (.inl HK.O))).mono ?_;rintro y w4 ⟨rfl, g1⟩;have HF := zh g1.va;clear g1 b0 b1 b2 b3 b4 b5 b6 b7 b8 b9;go_wp2
      go_meet
      rw [HB.O];have := HF.O;rw [HK.O] at this ⊢;exact this
    · as_aux_lemma =>
      have q1 : (x.kind == 1) = false := by simp [hk]
      have q2 : (x.kind == 2) = false := by simp [hk]
      have q3 : (x.kind == 3) = false := by simp [hk]
      have q4 : (x.kind == 4) = false := by simp [hk]
      have q5 : (x.kind == 5) = false := by simp [hk]
      have q6 : (x.kind == 6) = true := by simp [hk]
      have HB := zh ((Iq (f := Ag false C.s) (x := x) (l := r) (k := k)).2.2.2.2.2.1 hk);have HK := zh hk;clear hk;obtain ⟨b0, b1, b2, b3, b4, b5, b6, b7, b8, b9⟩ := zG (show Ca Wc px x As cs Am cm from BL.O);go_wp2_with fail;refine (aF Ed Ie LD HN (HMR.O (.inr HK.O))).mono ?_;rintro y w4 ⟨rfl, g1⟩;have HF := zh g1.va;clear g1 b0 b1 b2 b3 b4 b5 b6 b7 b8 b9;go_wp2
      go_meet
      rw [HB.O];have := HF.O;rw [HK.O] at this ⊢;exact this
    · as_aux_lemma =>
      have q1 : (x.kind == 1) = false := by simp [hk]
      have q2 : (x.kind == 2) = false := by simp [hk]
      have q3 : (x.kind == 3) = false := by simp [hk]
      have q4 : (x.kind == 4) = false := by simp [hk]
      have q5 : (x.kind == 5) = false := by simp [hk]
      have q6 : (x.kind == 6) = false := by simp [hk]
      have q7 : (x.kind == 7) = true := by simp [hk]
      have HB := zh ((Iq (f := Ag false C.s) (x := x) (l := r) (k := k)).2.2.2.2.2.2.1 hk);have HK := zh hk;clear hk;go_wp2_with fail;refine (BS ⟨#[91]⟩ LD.O.rd).mono ?_
      intro y w4 h4
      obtain rfl := h4.1;obtain ⟨hb4, r2, e2, hr4, hs4⟩ := FJ h4;have Lx := zh (LD.O.BK hb4 hr4);have UF := zh hs4;have HRP := zh (Cr sG hb4 (by have := Ih.O; omega))
      have HXP := zh (Cr BL hb4 (by have := Ih.O; have := HLO.O; omega))
      have vH : w4.cell? ⟨W.heap.size, 0, none⟩ = some (.pointer (some ⟨C.b, 0, none⟩)) := by rw [AAC _ _ _ _ _ _ HRP.O]; rfl
      have rz4 := Lx.O.rd.zero;clear h4 hb4 hr4 hs4;have hs := En UF
      by_cases hz : e2 = 0
      · have q10 : (e2 == 0) = true := by simp [hz]
        have HZ := zh hz;have HVF : Hid (CZ C ⟨Wb, x, As, cs, Am, cm, p, W.heap.size, px, p⟩ w4 r2 k 0 0 AP AP AP [] [] []) := by
          have h := Lx.O;rw [hz] at h;exact ⟨h.rd, h.vb, h.fr, h.lo, h.lb, Ie.O, HRP.O, HXP.O, .inl rfl⟩
        obtain ⟨HP, EP⟩ : Hid (Ci false (Ag false C.s) x r k = ZN 7 (OO (Ag false C.s) x r2 k)) /\ Hid (r2.length < r.length) := by
          cases hsy : Ay ⟨#[91]⟩ r with
          | error e => rw [hsy] at hs; exact absurd hz hs.2
          | ok l =>
            rw [hsy] at hs;obtain ⟨rfl, _⟩ := hs;exact ⟨by show _ = _; rw [HB.O, ZO, hsy]; rfl, (zU hsy).1.2⟩
        clear hz hs;go_wp2_with fail;refine (bS Ed rfl (nZ.O (by unfold Ev; rw [HK.O]; decide)) HVF (by have := EP.O; have := HN.O; omega)).mono ?_
        rintro y w6 ⟨rfl, h6⟩;have H6 := zh h6.va;clear h6;go_wp2;go_meet;rw [HP.O];obtain ⟨bo, it, st, di, vk, vi, vr, K, I, R, r', k', e', j1, j2, j3, j4, j5, j6⟩ := H6.O;refine ⟨bo, it, st, di, vk, vi, vr, K, I, R, r', k', e', j1, j2, j3, by have := EP.O; omega, j5, ?_⟩
        have hj : (⟨Wb, x, As, cs, Am, cm, p, W.heap.size, px, p⟩ : Vx).x.kind = 7 := HK.O;rw [hj] at j6;rw [HK.O];exact j6
      · have q10 : (e2 == 0) = false := by simp [hz]
        have HP : Hid (Ci false (Ag false C.s) x r k = .error e2) := by
          show _ = _
          rw [HB.O, ZO]
          cases hsy : Ay ⟨#[91]⟩ r with
          | error e => rw [hsy] at hs; rw [hs.1]; rfl
          | ok l => rw [hsy] at hs; exact absurd hs.2 hz
        clear hz hs;go_wp2;go_meet;exact ⟨false, 0, ⟨#[]⟩, 0, _, _, _, [], [], [], r2, k, e2, Lx.O.rd, Lx.O.vb, Lx.O.fr, UF.O.1, z3, by rw [HP.O]⟩
    · as_aux_lemma =>
      have q1 : (x.kind == 1) = false := by simp [hk]
      have q2 : (x.kind == 2) = false := by simp [hk]
      have q3 : (x.kind == 3) = false := by simp [hk]
      have q4 : (x.kind == 4) = false := by simp [hk]
      have q5 : (x.kind == 5) = false := by simp [hk]
      have q6 : (x.kind == 6) = false := by simp [hk]
      have q7 : (x.kind == 7) = false := by simp [hk]
      have q8 : (x.kind == 8) = true := by simp [hk]
      have HB := zh ((Iq (f := Ag false C.s) (x := x) (l := r) (k := k)).2.2.2.2.2.2.2.1 hk);have HK := zh hk;clear hk;obtain ⟨b0, b1, b2, b3, b4, b5, b6, b7, b8, b9⟩ := zG (show Ca Wc px x As cs Am cm from BL.O);go_wp2_with fail;refine (Vp Ed Ie LD HN (nR.O HK) (nZ.O (by unfold Ev; rw [HK.O]; decide))).mono ?_
      rintro y w4 ⟨rfl, g1⟩;have HF := zh g1.va;clear g1 b0 b1 b2 b3 b4 b5 b6 b7 b8 b9;go_wp2;go_meet;rw [HB.O];have := HF.O;rw [HK.O] at this ⊢;exact this
    · as_aux_lemma =>
      have q1 : (x.kind == 1) = false := by simp [hk]
      have q2 : (x.kind == 2) = false := by simp [hk]
      have q3 : (x.kind == 3) = false := by simp [hk]
      have q4 : (x.kind == 4) = false := by simp [hk]
      have q5 : (x.kind == 5) = false := by simp [hk]
      have q6 : (x.kind == 6) = false := by simp [hk]
      have q7 : (x.kind == 7) = false := by simp [hk]
      have q8 : (x.kind == 8) = false := by simp [hk]
      have q9 : (x.kind == 9) = true := by simp [hk]
      have HB := zh ((Iq (f := Ag false C.s) (x := x) (l := r) (k := k)).2.2.2.2.2.2.2.2 hk);have HK := zh hk;clear hk;obtain ⟨b0, b1, b2, b3, b4, b5, b6, b7, b8, b9⟩ := zG (show Ca Wc px x As cs Am cm from BL.O);go_wp2_with fail;refine (Sy Ed LD HN (nZ.O (by unfold Ev; rw [HK.O]; decide))).mono ?_
      rintro y w4 ⟨rfl, g1⟩;have HF := zh g1.va;clear g1 b0 b1 b2 b3 b4 b5 b6 b7 b8 b9;go_wp2;go_meet;rw [HB.O];have := HF.O;rw [HK.O] at this ⊢;exact this
  case rest =>
  obtain ⟨W5, rfl⟩ : ∃ W : World, W = wc := ⟨_, rfl⟩;obtain ⟨bo, it, st, di, vk, vi, vr, K, I, R, r', k', e', j1, j2, j3, j4, j5, j6⟩ := hcut.O;rw [<- xR.O] at j6;obtain ⟨A1, c1, A2, c2, A3, c3, rfl, rfl, rfl, g1, g2⟩ := Q0 (t := (tn : Int)) (e := 0) HB0 (q := W.heap.size + 1) (by have := HLO.O; omega) Ih j1 j2 j3 j4 j5 ABk (fun h => absurd rfl h) (fun _ => j6)
  have HG2 := zh g2;have Ky := zh (Gx g1 (.int .i64 x.kind) (.bool bo) (.int .i64 it) (.string st) (.int .i64 di) (.slice A1 K.length c1) (.slice A2 I.length c2) (.slice A3 R.length c3));obtain ⟨⟨x0, x1, x2, x3, x4, x5, x6, x7⟩, y0, y1, y2, y3, y4, y5, y6, y7⟩ := zK g1;obtain ⟨⟨v0, v1, v2, v3, v4, v5, v6, v7⟩, _⟩ := j2.cells;clear g1 g2 hcut j1 j2 j3 j4 j5 j6;go_wp2
  clear x0 x1 x2 x3 x4 x5 x6 x7 y0 y1 y2 y3 y4 y5 y6 y7 v0 v1 v2 v3 v4 v5 v6 v7;unfold Go.Proofs.YthkkllmmbefedaaGreatDoor.q8 Go.Proofs.YthkkllmmbefedaaGreatDoor.q5 at HG2 Ky;generalize World.setCell _ _ _ = W9 at *;obtain ⟨⟨x0, x1, x2, x3, x4, x5, x6, x7⟩, _⟩ := zK Ky
  refine bodyPost_ret (v := .agg #[.int .i64 x.kind, .bool bo, .int .i64 it, .string st, .int .i64 di, .slice A1 K.length c1, .slice A2 I.length c2, .slice A3 R.length c3]) (by simp [results, results79, go_sem, x0, x1, x2, x3, x4, x5, x6, x7]) rfl HG2
theorem Ut {C:Eh} (hv:zQ C.s=0):∀n,EB C n
 | 0=>fun _ _ _ _ _ h=>absurd h (Nat.not_lt_zero _)
 | n+1=>Wt hv (Ut hv n)
def LrP (s:List Aa) (A:zo) (c:Nat) (l:List AJ) (AL:zo) (cL:Nat) (t:Int) (w:World) (y:Ending) (w':World):Prop :=
 ∃ (x:Aj) (b:Nat),y = .returned (.tuple #[x.v.v x.A1 x.c1 x.A2 x.c2 x.A3 x.c3,.pointer (some ⟨b,0,none⟩)])/\Off (fun q=>q<w.heap.size) w' (fun u=>Ar u x.v x.A1 x.A2 x.A3)/\Below w.heap.size w w'/\∃r' k' e',CJ ⟨w,s,A,c,l,AL,cL,b⟩ w' r' k' e' /\
  (if t<0\/(s.length:Int)<=t then e'=4 else match CU false s t l with
   | .ok (v,r,k)=>x.v=v/\r'=r/\k'=k/\e'=0
   | .error e1=>e'=e1)
variable {s:List Aa}
theorem Rm (hv:zQ s=0) (A:zo) (c:Nat) (t:Int) (l:List AJ) (AL:zo) (cL:Nat) (hl:l.length<=1000000) (w:World) (hs:DC w A s) (ht:Ew w AL l):
  Calls prog 50 #[.agg #[.slice A s.length c],.int .i64 t,.slice AL l.length cL] w (LrP s A c l AL cL t w):=by
 have HS:=zh hs;have HT:=zh ht;have HL:=zh hl;have HV:=zh hv;have hls:=NC hv;have HB2:=zh (zI w (.cells #[.slice A s.length c] 31) zO);have UE:=zh (zw w (.cells #[.slice A s.length c] 31) zO);have WO:Hid (((w.alloc (.cells #[.slice A s.length c] 31)).alloc zO).heap[w.heap.size+1]? = some zO):=by
  show _=_
  have:=AAA (w.alloc (.cells #[.slice A s.length c] 31)) zO;rw[show (w.alloc (.cells #[.slice A s.length c] 31)).heap.size=w.heap.size+1 by simp] at this
  exact this
 have hz2:((w.alloc (.cells #[.slice A s.length c] 31)).alloc zO).heap.size=w.heap.size+2:=by simp
 have HZ2:=zh hz2;clear hs ht hl hv hz2
 go_enter func50,ntmps50
 go_upto_region 1 with fail
 generalize (w.alloc (.cells #[.slice A s.length c] 31)).alloc zO=W2 at *;have x0:=zb UE;go_upto_region 2 with fail
 have Ej:Hid (CJ ⟨w,s,A,c,l,AL,cL,W2.heap.size⟩ (W2.alloc (Eh.o ⟨w,s,A,c,l,AL,cL,W2.heap.size⟩ 0 false 0)) l false 0):=by
  refine ⟨⟨HS.O,HT.O,by show w.heap.size<=W2.heap.size;rw[HZ2.O];omega,HL.O⟩,?_,List.suffix_refl _,HB2.O.trans ((zD W2 _).mono HB2.O.size)⟩
  show _=some (Eh.o _ (l.length - l.length) false 0)
  rw[Nat.sub_self];exact AAA W2 _
 have Ko:=zh (zD W2 (Eh.o ⟨w,s,A,c,l,AL,cL,W2.heap.size⟩ 0 false 0));unfold Eh.o at Ej Ko;simp only at Ej Ko;generalize W2.alloc _=W3 at *;have WL:=zh (Au UE Ko);have WM:=zh (Au WO Ko);have HB3:=zh (HB2.O.trans (Ko.O.mono HB2.O.size));clear x0;have x0:=zb WL;obtain ⟨b,hb⟩:∃b,W2.heap.size=b:=⟨_,rfl⟩
 have Ll:Hid (b=w.heap.size+2):=by show _=_;rw[<-hb];exact HZ2.O
 rw[hb] at Ej;rw[hb];clear hb Ko UE WO HB2 HZ2
 by_cases hr:t<0\/(s.length:Int)<=t
 ·have HR:=zh hr
  have HC:Hid (decide (t<0)=true\/(decide (t<0)=false/\(t >= (s.length:Int)))):=by
   rcases Int.lt_or_le t 0 with h|h
   ·exact .inl (AAJ h)
   ·exact .inr ⟨AAP (by omega),hr.resolve_left (by omega)⟩
  have Li:Hid (∀w5,CJ ⟨w,s,A,c,l,AL,cL,b⟩ w5 l false (lS 0 4)->Ah b W3 w5->w5.heap[w.heap.size+1]? = some zO/\LrP s A c l AL cL t w (.returned (.tuple #[zeroV.v none 0 none 0 none 0,.pointer (some ⟨b,0,none⟩)])) (Go.Proofs.YthkkllmmbefedaaGreatDoor.q8 w5 (w.heap.size+1) (.int .i64 0) (.bool false) (.int .i64 0) (.string ⟨#[]⟩) (.int .i64 0) AP AP AP)):=fun w5 h1 h2=>by
   refine ⟨Cr WM h2 (by have:=Ll.O;omega),⟨zeroV,none,0,none,0,none,0⟩,b,rfl,(fun u _=>L6 u),?_,l,false,_,Uv h1 (B:=w.heap.size+1) (by have:=Ll.O;show _≠b;omega) (by show w.heap.size<=_;omega) _ _ _ _ _ _ _ _,?_⟩
   ·exact Bb (HB3.O.trans (h2.Cm.mono (by have:=Ll.O;omega))) (q:=w.heap.size+1) (by omega) _ _ _ _ _ _ _ _
   ·rw[AAB HR.O];rfl
  have hcc:=HC.O;clear hr
  rcases hcc with g1|⟨g1,g2⟩
  ·go_wp2_with fail
   refine (Bc 4 Ej).mono ?_;rintro y w5 ⟨rfl,j1,j2⟩;obtain ⟨k1,k2⟩:=Li.O _ j1 j2;have Z0:=zh (Gx k1 (.int .i64 0) (.bool false) (.int .i64 0) (.string ⟨#[]⟩) (.int .i64 0) AP AP AP);have Oc:=zh k2;obtain ⟨⟨z0,z1,z2,z3,z4,z5,z6,z7⟩,y0,y1,y2,y3,y4,y5,y6,y7⟩:=zK k1;clear j1 j2 k1 k2;go_wp2;clear z0 z1 z2 z3 z4 z5 z6 z7 y0 y1 y2 y3 y4 y5 y6 y7;unfold Go.Proofs.YthkkllmmbefedaaGreatDoor.q8 Go.Proofs.YthkkllmmbefedaaGreatDoor.q5 at Z0 Oc
   generalize World.setCell _ _ _=W9 at *;obtain ⟨⟨z0,z1,z2,z3,z4,z5,z6,z7⟩,_⟩:=zK Z0
   exact bodyPost_ret (v := .tuple #[zeroV.v none 0 none 0 none 0,.pointer (some ⟨b,0,none⟩)]) (by simp[results,results50,go_sem,z0,z1,z2,z3,z4,z5,z6,z7];exact ⟨rfl,rfl,rfl,rfl,rfl,rfl,rfl,rfl⟩) rfl Oc
  ·go_wp2_with fail
   refine (Bc 4 Ej).mono ?_;rintro y w5 ⟨rfl,j1,j2⟩;obtain ⟨k1,k2⟩:=Li.O _ j1 j2;have Z0:=zh (Gx k1 (.int .i64 0) (.bool false) (.int .i64 0) (.string ⟨#[]⟩) (.int .i64 0) AP AP AP);have Oc:=zh k2;obtain ⟨⟨z0,z1,z2,z3,z4,z5,z6,z7⟩,y0,y1,y2,y3,y4,y5,y6,y7⟩:=zK k1;clear j1 j2 k1 k2;go_wp2;clear z0 z1 z2 z3 z4 z5 z6 z7 y0 y1 y2 y3 y4 y5 y6 y7;unfold Go.Proofs.YthkkllmmbefedaaGreatDoor.q8 Go.Proofs.YthkkllmmbefedaaGreatDoor.q5 at Z0 Oc
   generalize World.setCell _ _ _=W9 at *;obtain ⟨⟨z0,z1,z2,z3,z4,z5,z6,z7⟩,_⟩:=zK Z0
   exact bodyPost_ret (v := .tuple #[zeroV.v none 0 none 0 none 0,.pointer (some ⟨b,0,none⟩)]) (by simp[results,results50,go_sem,z0,z1,z2,z3,z4,z5,z6,z7];exact ⟨rfl,rfl,rfl,rfl,rfl,rfl,rfl,rfl⟩) rfl Oc
 ·have HR:=zh hr
  have g1:¬ t<0:=fun h=>hr (.inl h)
  have g2:¬ (s.length:Int)<=t:=fun h=>hr (.inr h)
  clear hr;go_wp2_with fail;refine (Ut (C:=⟨w,s,A,c,l,AL,cL,b⟩) HV (l.length+1) t _ l false 0 (AB1 _) ⟨by omega,by show t<(s.length:Int);omega⟩ Ej).mono ?_
  rintro y w5 ⟨x,rfl,j1,j2,r5,k5,e5,j3,j4,j5,j6⟩;have CO:=zh (Cr WM j2 (by have:=Ll.O;show _≠b;omega))
  have Ky:=zh (Gx CO (.int .i64 x.v.kind) (.bool x.v.bool) (.int .i64 x.v.int) (.string x.v.str) (.int .i64 x.v.id) (.slice x.A1 x.v.keys.length x.c1) (.slice x.A2 x.v.items.length x.c2) (.slice x.A3 x.v.rest.length x.c3))
  have fK:=zh ((EI j1 (B:=w.heap.size+1) (by show _<_;exact (zg.1 WM).1) (.int .i64 x.v.kind) (.bool x.v.bool) (.int .i64 x.v.int) (.string x.v.str) (.int .i64 x.v.id) (.slice x.A1 x.v.keys.length x.c1) (.slice x.A2 x.v.items.length x.c2) (.slice x.A3 x.v.rest.length x.c3)).mono fun s _ (hs:s<w.heap.size)=>by have:=(zg.1 WM).1;omega)
  have HR9:=zh (Uv j3 (B:=w.heap.size+1) (by have:=Ll.O;show _≠b;omega) (by show w.heap.size<=_;omega) (.int .i64 x.v.kind) (.bool x.v.bool) (.int .i64 x.v.int) (.string x.v.str) (.int .i64 x.v.id) (.slice x.A1 x.v.keys.length x.c1) (.slice x.A2 x.v.items.length x.c2) (.slice x.A3 x.v.rest.length x.c3))
  have Ij:=zh (Bb (HB3.O.trans (j2.Cm.mono (by have:=Ll.O;show _<=b;omega))) (q:=w.heap.size+1) (by omega) (.int .i64 x.v.kind) (.bool x.v.bool) (.int .i64 x.v.int) (.string x.v.str) (.int .i64 x.v.id) (.slice x.A1 x.v.keys.length x.c1) (.slice x.A2 x.v.items.length x.c2) (.slice x.A3 x.v.rest.length x.c3))
  have HJ6:=zh (j6 rfl);obtain ⟨⟨z0,z1,z2,z3,z4,z5,z6,z7⟩,y0,y1,y2,y3,y4,y5,y6,y7⟩:=zK CO;clear j1 j2 j3 j4 j5 j6;go_wp2;clear z0 z1 z2 z3 z4 z5 z6 z7 y0 y1 y2 y3 y4 y5 y6 y7;unfold Go.Proofs.YthkkllmmbefedaaGreatDoor.q8 Go.Proofs.YthkkllmmbefedaaGreatDoor.q5 at Ky fK HR9 Ij;generalize World.setCell _ _ _=W9 at *
  obtain ⟨⟨z0,z1,z2,z3,z4,z5,z6,z7⟩,_⟩:=zK Ky;refine bodyPost_ret (v := .tuple #[x.v.v x.A1 x.c1 x.A2 x.c2 x.A3 x.c3,.pointer (some ⟨b,0,none⟩)]) (by simp[results,results50,go_sem,z0,z1,z2,z3,z4,z5,z6,z7]) rfl ?_
  refine ⟨x,b,rfl,fK.O,Ij.O,r5,k5,e5,HR9.O,?_⟩;rw[Pd HR.O];exact HJ6.O
def RdP (s:List Aa) (t:Int) (l:List AJ) (w:World) (y:Ending) (w':World):Prop :=
 ∃x:Aj,y = .returned (.tuple #[x.v.v x.A1 x.c1 x.A2 x.c2 x.A3 x.c3,.int .i64 (Ea false s t l).2.1,.int .i64 (Ea false s t l).2.2])/\x.v=(Ea false s t l).1/\Ar w' x.v x.A1 x.A2 x.A3/\Below w.heap.size w w'
variable {w:World}
theorem RdP.low {W':World} {y:Ending} (h:RdP s t l w y W) (hb:Below W.heap.size W W'):RdP s t l w y W':=by
 obtain ⟨x,h1,h2,h3,h4⟩:=h;exact ⟨x,h1,h2,h3.below hb,h4.trans (hb.mono h4.size)⟩
def xB (s:List Aa) (t:Int) (l:List AJ) (w:World) (y:Ending) (w':World):Prop :=
 ∃x:Aj,y = .returned (.tuple #[x.v.v x.A1 x.c1 x.A2 x.c2 x.A3 x.c3,.int .i64 (Ea false s t l).2.1,.int .i64 (Ea false s t l).2.2])/\x.v=(Ea false s t l).1/\Off (fun q=>q<w.heap.size) w' (fun u=>Ar u x.v x.A1 x.A2 x.A3)/\Below w.heap.size w w'
theorem jI {w':World} {x:Aj} {n:Int} (h:(x.v,n,e)=Ea false s t l) (hr:Off (fun q=>q<w.heap.size) w' (fun u=>Ar u x.v x.A1 x.A2 x.A3)) (hb:Below w.heap.size w w'):xB s t l w (.returned (.tuple #[x.v.v x.A1 x.c1 x.A2 x.c2 x.A3 x.c3,.int .i64 n,.int .i64 e])) w':=by
 refine ⟨x,?_,by rw[<-h],hr,hb⟩
 rw[<-h]
theorem xB.low {W':World} {y:Ending} (h:xB s t l w y W) (hb:Below W.heap.size W W'):xB s t l w y W':=by
 obtain ⟨x,h1,h2,h3,h4⟩:=h;exact ⟨x,h1,h2,h3.low hb,h4.trans (hb.mono h4.size)⟩
theorem NN {W5:World} {q:Nat} {n:Int} (hz:W5.heap[q]? = some zO) (hb:Below w.heap.size w W5) (hq:w.heap.size<=q) (h:Ea false s t l=(zeroV,n,e)):
  (Go.Proofs.YthkkllmmbefedaaGreatDoor.q8 W5 q (.int .i64 0) (.bool false) (.int .i64 0) (.string ⟨#[]⟩) (.int .i64 0) AP AP AP).heap[q]? = some zO/\xB s t l w (.returned (.tuple #[zeroV.v none 0 none 0 none 0,.int .i64 n,.int .i64 e])) (Go.Proofs.YthkkllmmbefedaaGreatDoor.q8 W5 q (.int .i64 0) (.bool false) (.int .i64 0) (.string ⟨#[]⟩) (.int .i64 0) AP AP AP) :=
 ⟨Gx hz _ _ _ _ _ _ _ _,jI (x:=⟨zeroV,none,0,none,0,none,0⟩) h.symm (fun u _=>L6 u) (Bb hb hq _ _ _ _ _ _ _ _)⟩
theorem Ni (hv:zQ s=0) (hn:DW s) (A:zo) (c:Nat) (t:Int) (l:List AJ) (AL:zo) (cL:Nat) (hl:l.length<=1000000) (w:World) (hs:DC w A s) (ht:Ew w AL l):
  Calls prog 31 #[.agg #[.slice A s.length c],.int .i64 t,.slice AL l.length cL] w (xB s t l w):=by
 have HS:=zh hs;have HT:=zh ht;have HL:=zh hl;have HV:=zh hv;have HN:=zh hn;have HB2:=zh (zI w (.cells #[.slice A s.length c] 31) zO);have UE:=zh (zw w (.cells #[.slice A s.length c] 31) zO);have WO:Hid (((w.alloc (.cells #[.slice A s.length c] 31)).alloc zO).heap[w.heap.size+1]? = some zO):=by
  show _=_
  have:=AAA (w.alloc (.cells #[.slice A s.length c] 31)) zO;rw[show (w.alloc (.cells #[.slice A s.length c] 31)).heap.size=w.heap.size+1 by simp] at this
  exact this
 clear hs ht hl hv hn
 go_enter func31,ntmps31
 go_upto_region 1 with fail
 generalize (w.alloc (.cells #[.slice A s.length c] 31)).alloc zO=W2 at *;have x0:=zb UE;go_wp2_with fail;refine (Rm HV A c t l AL cL HL W2 (HS.O.below HB2) (HT.O.below HB2)).mono ?_;rintro y w3 ⟨x,b,rfl,h1,h2,r3,k3,e3,h3,h4⟩;have HO3:=zh h1;have HR3:=zh h3;have HJ:=zh h4;have HB3:=zh (zB HB2 h2);have WL:=zh (Au UE h2);have WM:=zh (Au WO h2)
 have GJ:=zh ((zg.1 WO).1);clear x0 h1 h2 h3 h4 UE WO HB2;go_upto_region 2 with fail
 have BL:=zh (zD w3 (.cells x.cells.toArray 28));have fI:Hid ((w3.alloc (.cells x.cells.toArray 28)).heap[w3.heap.size]? = some (.cells x.cells.toArray 28)):=AAA w3 _;have HR4:=zh (HR3.O.below BL);have xu:=zh (HO3.O.low BL);have ED:=zh (zB HB3 BL);have Qa:=zh (Au WL BL);have J9:=zh (Au WM BL)
 unfold Aj.cells at BL fI HR4 xu ED Qa J9;generalize w3.alloc _=W4 at *;generalize w3.heap.size=q at *;have HW2:Hid (∀W5,Below W4.heap.size W4 W5->W5.heap[w.heap.size+1]? = some zO/\Below w.heap.size w W5):=fun W5 hb=>⟨Au J9 hb,zB ED hb⟩
 have hbq:b≠w.heap.size+1:=Gr HR4.O.blk J9 (by decide)
 have ADR:¬ w.heap.size+1=b:=fun e=>hbq e.symm
 by_cases he:e3=0
 case neg =>
  have q1:(e3 != 0)=true:=by simp[he]
  have M9:Hid (Ea false s t l=(zeroV,0,e3)):=by
   show _=_
   have hj:=HJ.O;unfold Ea
   by_cases hr:t<0\/(s.length:Int)<=t
   ·rw[AAB hr] at hj ⊢;rw[hj]
   ·rw[Pd hr] at hj ⊢
    cases hp:CU false s t l with
    | error e=>rw[hp] at hj;rw[hj]
    | ok p=>rw[hp] at hj;exact absurd hj.2.2.2 he
  obtain ⟨⟨c0,c1,c2,c3,c4⟩,_⟩:=HR4.O.cells;clear he;go_upto_region 3 with fail
  obtain ⟨⟨z0,z1,z2,z3,z4,z5,z6,z7⟩,y0,y1,y2,y3,y4,y5,y6,y7⟩:=zK J9
  go_region
  have HK:=zh (NN J9 ED (q:=w.heap.size+1) (by omega) M9)
  clear z0 z1 z2 z3 z4 z5 z6 z7 y0 y1 y2 y3 y4 y5 y6 y7;unfold Go.Proofs.YthkkllmmbefedaaGreatDoor.q8 Go.Proofs.YthkkllmmbefedaaGreatDoor.q5 at HK;generalize World.setCell _ _ _=W9 at *;obtain ⟨⟨z0,z1,z2,z3,z4,z5,z6,z7⟩,_⟩:=zK HK.O.1;go_wp2
  refine bodyPost_ret (v := .tuple #[zeroV.v none 0 none 0 none 0,.int .i64 0,.int .i64 e3]) (by simp[results,results31,go_sem,z0,z1,z2,z3,z4,z5,z6,z7];exact SH) rfl ?_
  exact HK.O.2.low (zC (Pe _ _) 1)
 subst he;have eH:Hid (¬ (t<0\/(s.length:Int)<=t)):=fun hr=>by have hj:=HJ.O;rw[AAB hr] at hj;cases hj
 have uG:Hid (CU false s t l = .ok (x.v,r3,k3)):=by
  show _=_
  have hj:=HJ.O;rw[Pd eH.O] at hj
  cases hp:CU false s t l with
  | error e=>rw[hp] at hj;exact absurd (hj▸hp) (GK false s t l false)
  | ok p =>
   obtain ⟨v,r,k⟩:=p;rw[hp] at hj;obtain ⟨j1,j2,j3,_⟩:=hj;rw[j1,j2,j3]
 have Ou:Hid (Ea false s t l=if k3=true\/BX s false t x.v=false then (zeroV,0,1) else (x.v,((l.length - r3.length:Nat):Int),0)):=by
  show _=_
  unfold Ea;rw[Pd eH.O,uG.O]
 obtain ⟨⟨c0,c1,c2,c3,c4⟩,_⟩:=HR4.O.cells
 cases k3 with
 | true =>
  have M9:Hid (Ea false s t l=(zeroV,0,1)):=by show _=_;rw[Ou.O,AAB (.inl rfl)]
  obtain ⟨⟨z0,z1,z2,z3,z4,z5,z6,z7⟩,y0,y1,y2,y3,y4,y5,y6,y7⟩:=zK J9;go_wp2;have HK:=zh (NN J9 ED (q:=w.heap.size+1) (by omega) M9)
  clear z0 z1 z2 z3 z4 z5 z6 z7 y0 y1 y2 y3 y4 y5 y6 y7;unfold Go.Proofs.YthkkllmmbefedaaGreatDoor.q8 Go.Proofs.YthkkllmmbefedaaGreatDoor.q5 at HK;generalize World.setCell _ _ _=W9 at *;obtain ⟨⟨z0,z1,z2,z3,z4,z5,z6,z7⟩,_⟩:=zK HK.O.1
  refine bodyPost_ret (v := .tuple #[zeroV.v none 0 none 0 none 0,.int .i64 0,.int .i64 1]) (by simp[results,results31,go_sem,z0,z1,z2,z3,z4,z5,z6,z7];exact SH) rfl ?_
  exact HK.O.2
 | false =>
  have s0:=zb Qa;obtain ⟨⟨v0,v1,v2,v3,v4,v5,v6,v7⟩,_⟩:=zK fI;go_wp2_with fail;refine (Vh A c HV HN t x _ (HS.O.below ED) xu.O.O).mono ?_;rintro y w5 ⟨rfl,hb5⟩;have PE:=zh (HW2.O _ hb5);have HV5:=zh (Au fI hb5);have nU:=zh (HR4.O.below hb5);have JM:=zh (xu.O.low hb5)
  cases hf:BX s false t x.v with
  | false =>
   have M9:Hid (Ea false s t l=(zeroV,0,1)):=by show _=_;rw[Ou.O,AAB (.inr hf)]
   obtain ⟨⟨z0,z1,z2,z3,z4,z5,z6,z7⟩,y0,y1,y2,y3,y4,y5,y6,y7⟩:=zK PE.O.1;clear hf hb5;go_wp2;have HK:=zh (NN PE.O.1 PE.O.2 (q:=w.heap.size+1) (by omega) M9)
   clear z0 z1 z2 z3 z4 z5 z6 z7 y0 y1 y2 y3 y4 y5 y6 y7;unfold Go.Proofs.YthkkllmmbefedaaGreatDoor.q8 Go.Proofs.YthkkllmmbefedaaGreatDoor.q5 at HK;generalize World.setCell _ _ _=W9 at *;obtain ⟨⟨z0,z1,z2,z3,z4,z5,z6,z7⟩,_⟩:=zK HK.O.1
   refine bodyPost_ret (v := .tuple #[zeroV.v none 0 none 0 none 0,.int .i64 0,.int .i64 1]) (by simp[results,results31,go_sem,z0,z1,z2,z3,z4,z5,z6,z7];exact SH) rfl ?_
   exact HK.O.2
  | true =>
   have M9:Hid ((x.v,((l.length - r3.length:Nat):Int),(0:Int))=Ea false s t l):=by show _=_;rw[Ou.O,Pd (by rw[hf];simp)]
   clear hf hb5 v0 v1 v2 v3 v4 v5 v6 v7 c0 c1 c2 c3 c4 s0;go_upto_region 6 with fail
   obtain ⟨⟨c0,c1,c2,c3,c4⟩,_⟩:=nU.O.cells;obtain ⟨⟨v0,v1,v2,v3,v4,v5,v6,v7⟩,_⟩:=zK HV5;obtain ⟨⟨z0,z1,z2,z3,z4,z5,z6,z7⟩,y0,y1,y2,y3,y4,y5,y6,y7⟩:=zK PE.O.1
   go_region
   have HK:=zh (Gx PE.O.1 (.int .i64 x.v.kind) (.bool x.v.bool) (.int .i64 x.v.int) (.string x.v.str) (.int .i64 x.v.id) (.slice x.A1 x.v.keys.length x.c1) (.slice x.A2 x.v.items.length x.c2) (.slice x.A3 x.v.rest.length x.c3))
   have Oc:=zh (jI M9 ((EI JM (B:=w.heap.size+1) GJ (.int .i64 x.v.kind) (.bool x.v.bool) (.int .i64 x.v.int) (.string x.v.str) (.int .i64 x.v.id) (.slice x.A1 x.v.keys.length x.c1) (.slice x.A2 x.v.items.length x.c2) (.slice x.A3 x.v.rest.length x.c3)).mono fun q _ (h:q<w.heap.size)=>by have:=GJ.O;show q<_;omega) (Bb PE.O.2 (q:=w.heap.size+1) (by omega) (.int .i64 x.v.kind) (.bool x.v.bool) (.int .i64 x.v.int) (.string x.v.str) (.int .i64 x.v.id) (.slice x.A1 x.v.keys.length x.c1) (.slice x.A2 x.v.items.length x.c2) (.slice x.A3 x.v.rest.length x.c3)))
   clear z0 z1 z2 z3 z4 z5 z6 z7 y0 y1 y2 y3 y4 y5 y6 y7;unfold Go.Proofs.YthkkllmmbefedaaGreatDoor.q8 Go.Proofs.YthkkllmmbefedaaGreatDoor.q5 at HK Oc;generalize World.setCell _ _ _=W9 at *;obtain ⟨⟨z0,z1,z2,z3,z4,z5,z6,z7⟩,_⟩:=zK HK;go_wp2
   refine bodyPost_ret (v := .tuple #[x.v.v x.A1 x.c1 x.A2 x.c2 x.A3 x.c3,.int .i64 ((l.length - r3.length:Nat):Int),.int .i64 0]) (by simp[results,results31,go_sem,z0,z1,z2,z3,z4,z5,z6,z7]) rfl ?_
   exact Oc.O.low (zC (Pe _ _) 1)
