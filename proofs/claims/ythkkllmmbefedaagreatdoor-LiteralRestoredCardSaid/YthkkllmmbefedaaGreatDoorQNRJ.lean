/-
  Walks: the literal's reader: value.
-/
import Derived.Test.YthkkllmmbefedaaGreatDoorQGD0
import Derived.Test.YthkkllmmbefedaaGreatDoorQGA8
namespace Go.Proofs.YthkkllmmbefedaaGreatDoor
open Go.RowKit
set_option maxHeartbeats 16000000
set_option maxRecDepth 100000
theorem Pg (l:List AJ) (k:Bool):MH l k=(CG 1 l).bind fun p=>if p.1.text=⟨#[116,114,117,101]⟩ then .ok (true,p.2,k) else if p.1.text=⟨#[102,97,108,115,101]⟩ then .ok (false,p.2,k) else .error 2:=rfl
theorem IG {f:Int->List AJ->Bool->PR Val} {x:Aa} {l:List AJ} {k:Bool} :
  (x.kind=1->CY false f x l k=(MH l k).bind fun p => .ok (.mk 1 p.1 0 ⟨#[]⟩ 0 [] [] [],p.2))/\(x.kind=2->CY false f x l k=(CG 2 l).bind fun p => .ok (.mk 2 false p.1.int ⟨#[]⟩ 0 [] [] [],p.2,k)) /\
  (x.kind=3->CY false f x l k=(CG 3 l).bind fun p => .ok (.mk 3 false 0 p.1.str 0 [] [] [],p.2,k))/\(x.kind=4->CY false f x l k=(Ea false x l k).bind fun p => .ok (.mk 4 false 0 ⟨#[]⟩ p.1 [] [] [],p.2)) /\
  (x.kind=5->CY false f x l k=Vq 5 (Iq false f x l k))/\(x.kind=6->CY false f x l k=Px 6 (Ej false f x l k))/\(x.kind=7->CY false f x l k=X3 7 (Hg f x l k))/\(x.kind=8->CY false f x l k=WK 8 (Hf f x l k))/\(x.kind=9->CY false f x l k=UB 9 (Gp f x l k)):=by
 unfold CY;refine ⟨fun h=>?_,fun h=>?_,fun h=>?_,fun h=>?_,fun h=>?_,fun h=>?_,fun h=>?_,fun h=>?_,fun h=>?_⟩ <;> (rw[h];rfl)
theorem QJ {C:EB} {W Wb:World} {p q:Nat} {kd t:Int} {r:List AJ} {k:Bool} {e:Int} (hb0:Ah C.b W Wb) (hq:W.heap.size<=q/\q<p) (hlb:C.b<W.heap.size) {wx:World} {bo:Bool} {it:Int} {st:ByteArray} {di:Int} {vk vi vr:Value} {K I:List Aj} {R:List Af} {r':List AJ} {k':Bool} {e':Int}
  (hr:Bv C wx r' k' e') (hv:Gt p wx kd bo it st di vk vi vr K I R) (hb:Ah C.b Wb wx) (hl:r'.length<=r.length) (hz:K.length<=2000000/\I.length<=2000000/\R.length<=2000000) (hs:Wb.heap[q]? = some zO)
  (h1:e≠0->e'=e) (h2:e=0->match Ag false C.s t r k with
   | .ok (v,r1,k1)=>v = .mk kd bo it st di (K.map (·.v)) (I.map (·.v)) R/\r'=r1/\k'=k1/\e'=0
   | .error e1=>e'=e1) :
  ∃A1 c1 A2 c2 A3 c3,vk = .slice A1 K.length c1/\vi = .slice A2 I.length c2/\vr = .slice A3 R.length c3/\wx.heap[q]? = some zO /\
   pX C t W r k e (.returned (.agg #[.int .i64 kd,.bool bo,.int .i64 it,.string st,.int .i64 di,.slice A1 K.length c1,.slice A2 I.length c2,.slice A3 R.length c3])) (Go.Proofs.YthkkllmmbefedaaGreatDoor.q8 wx q (.int .i64 kd) (.bool bo) (.int .i64 it) (.string st) (.int .i64 di) (.slice A1 K.length c1) (.slice A2 I.length c2) (.slice A3 R.length c3)):=by
 obtain ⟨A1,c1,A2,c2,A3,c3,e1,e2,e3,ho⟩:=hv.fin (by unfold EK;omega) (by unfold EK;omega) (by unfold EK;omega)
 refine ⟨A1,c1,A2,c2,A3,c3,e1,e2,e3,Cg hs hb (by omega),⟨.mk kd bo it st di (K.map (·.v)) (I.map (·.v)) R,A1,c1,A2,c2,A3,c3⟩,?_,?_,?_,r',k',e',hr.AAx (by omega) _ _ _ _ _ _ _ _,hl,h1,fun h0=>?_⟩
 ·show Ending.returned (.agg #[.int .i64 kd,.bool bo,.int .i64 it,.string st,.int .i64 di,.slice A1 K.length c1,.slice A2 I.length c2,.slice A3 R.length c3]) = .returned (.agg #[.int .i64 kd,.bool bo,.int .i64 it,.string st,.int .i64 di,.slice A1 (K.map (·.v)).length c1,.slice A2 (I.map (·.v)).length c2,.slice A3 R.length c3])
  rw[AAd,AAd]
 ·exact (EU ho (B:=q) (AAV hq.2) _ _ _ _ _ _ _ _).mono fun s _ hs=>by have:=hq.1;omega
 ·exact (hb0.trans hb).eight _ _ _ _ _ _ _ _ hq.1 hlb
 ·have h3:=h2 h0
  cases hw:Ag false C.s t r k with
  | error e1=>rw[hw] at h3;exact h3
  | ok z=>rw[hw] at h3;exact ⟨h3.1.symm,h3.2⟩
theorem VW {C : EB} (hv : zQ C.s = 0) {n : Nat} (ih : Dp C n) : Dp C (n + 1) := by
  intro t W r k e hn hr h
  obtain ⟨tn, rfl⟩ := AAY hr.1;have htn : tn < C.s.length := by omega
  obtain ⟨bq, oq, As, cs, Am, cm, hA, htr, t0, t1, t2, t3, t4, t5, t6, t7, t8, t9⟩ := h.ok.ty.JX htn;have tu : Hid (Ag false C.s (tn : Int) r k = CY false (Ag false C.s) C.s[tn] r k) := by show _ = _; rw [XO, zT htn]
  have aV : Hid (1 <= (C.s[tn]).kind /\ (C.s[tn]).kind <= 9) := by have := FI hv hr; rw [zT htn] at this; exact this
  have kC : Hid (Eb (C.s[tn]).kind -> 0 <= (C.s[tn]).elem /\ (C.s[tn]).elem < (C.s.length : Int)) := by have := JV hv hr; rw [zT htn] at this; exact this
  have jg : Hid ((C.s[tn]).kind = 8 -> 0 <= (C.s[tn]).key /\ (C.s[tn]).key < (C.s.length : Int)) := fun hk => by have := (Lr hv hr (by rw [zT htn]; exact hk)).1; rw [zT htn] at this; exact this
  have HMR : Hid ((C.s[tn]).kind = 5 \/ (C.s[tn]).kind = 6 -> ∀ y ∈ (C.s[tn]).AA, 0 <= y.type /\ y.type < (C.s.length : Int)) := fun hk y hy => (mX hv (AAU htn) hy).2
  have hls := MZ hv;have Hz := zh htr;have MW := zh h;have HN : Hid (r.length <= n) := by show _ <= _; omega
  have EI := zh ih;have KV := zh h.lt;generalize C.s[tn] = x at *;have aZ := zh (zI W (P6 C) zO);have vP : Hid (((W.alloc (P6 C)).alloc zO).heap[W.heap.size]? = some (P6 C)) := Aw (AAL W (P6 C)) (zD _ _);have uJ : Hid (((W.alloc (P6 C)).alloc zO).heap[W.heap.size + 1]? = some zO) := by
    show _ = _
    have := AAL (W.alloc (P6 C)) zO;rw [show (W.alloc (P6 C)).heap.size = W.heap.size + 1 by simp] at this
    exact this
  have hza : ((W.alloc (P6 C)).alloc zO).heap.size = W.heap.size + 2 := by simp
  have HZA := zh hza;clear h ih hn htr hv hr
  go_enter Tryz.func79, Tryz.ntmps79
  go_upto_region 1 with fail
  generalize (W.alloc (P6 C)).alloc zO = Wa at *;have HR1 := zh (MW.out.below aZ);obtain ⟨⟨c0, _, _, _, _⟩, _⟩ := HR1.out.cells;rw [hA] at c0;have rr : Wa.cell? ⟨W.heap.size, 0, none⟩ = some (.pointer (some ⟨C.b, 0, none⟩)) := by rw [AAN _ _ _ _ _ _ vP.out]; rfl
  have i0 : (0 : Int) <= (tn : Int) := by omega
  have i1 : (tn : Int) < (C.s.length : Int) := by omega
  have AEX : (C.s.length : Int) <= 32 := by omega
  replace t0 := zA HR1.out.up t0;replace t1 := zA HR1.out.up t1;replace t2 := zA HR1.out.up t2;replace t3 := zA HR1.out.up t3;replace t4 := zA HR1.out.up t4;replace t5 := zA HR1.out.up t5;replace t6 := zA HR1.out.up t6;replace t7 := zA HR1.out.up t7;replace t8 := zA HR1.out.up t8;replace t9 := zA HR1.out.up t9;clear hA hza;go_upto_region 3 with fail
  clear t0 t1 t2 t3 t4 t5 t6 t7 t8 t9 c0 rr i0 i1;have LC := zh (zD Wa (x.box As cs Am cm));have hzb : (Wa.alloc (x.box As cs Am cm)).heap.size = Wa.heap.size + 1 := by simp
  have Kl : Hid (Gy C (Wa.alloc (x.box As cs Am cm)) (Wa.heap.size + 1) x.kind ((Wa.alloc (x.box As cs Am cm)).alloc (IU x.kind false 0 ⟨#[]⟩ 0 AP AP AP)) r k e 0 AP AP AP [] [] []) := by
    have h1 := Gt.new (Wa.alloc (x.box As cs Am cm)) x.kind;rw [hzb] at h1;have h2 := HR1.out.below LC;exact ⟨h2.below (zD _ _), h1, Ah.of (zD _ _) (AAV h2.lt), Nat.le_of_eq hzb, h2.lt⟩
  have BS : Hid (((Wa.alloc (x.box As cs Am cm)).alloc (IU x.kind false 0 ⟨#[]⟩ 0 AP AP AP)).heap[Wa.heap.size]? = some (x.box As cs Am cm)) := Aw (AAL Wa _) (zD _ _);have oU : Hid (((Wa.alloc (x.box As cs Am cm)).alloc (IU x.kind false 0 ⟨#[]⟩ 0 AP AP AP)).heap[W.heap.size]? = some (P6 C)) := Aw (Aw vP LC) (zD _ _);have yY := zh (Aw uJ LC)
  have HB0 := zh (Ah.of (zB aZ LC) (AAV KV));have ABw := zh (Aw vP LC);unfold IU at Kl BS oU;generalize Wa.alloc (x.box As cs Am cm) = Wb at *;generalize Wb.alloc _ = Wc at *;obtain ⟨px, hpx⟩ : ∃ px, Wa.heap.size = px := ⟨_, rfl⟩;obtain ⟨p, hp⟩ : ∃ p, px + 1 = p := ⟨_, rfl⟩;have HLO : Hid (W.heap.size + 2 = px /\ px + 1 = p) := ⟨by rw [<- hpx, HZA.out], hp⟩
  rw [hpx, hp] at Kl;rw [hpx] at BS;rw [hpx, hp];clear hpx hp hzb LC aZ vP uJ HR1 MW HZA;have rr : Wc.cell? ⟨W.heap.size, 0, none⟩ = some (.pointer (some ⟨C.b, 0, none⟩)) := by rw [AAN _ _ _ _ _ _ oU.out]; rfl
  have rz := Kl.out.rd.zero
  by_cases he : e = 0
  case neg =>
    have q1 : (e != 0) = true := by simp [he]
    obtain ⟨A1, c1, A2, c2, A3, c3, e1, e2, e3, g1, g2⟩ := QJ (t := (tn : Int)) HB0 (q := W.heap.size + 1) (by have := HLO.out; omega) KV Kl.out.rd Kl.out.vb Kl.out.fr (AAP _) z3 yY (fun _ => rfl) (fun h => absurd h he)
    injection e1 with e1 e4 e5
    injection e2 with e2 e6 e7
    injection e3 with e3 e8 e9
    subst e1 e2 e3 e5 e7 e9;have HG2 := zh g2;have KW := zh (Gr g1 (.int .i64 x.kind) (.bool false) (.int .i64 0) (.string ⟨#[]⟩) (.int .i64 0) AP AP AP);obtain ⟨⟨x0, x1, x2, x3, x4, x5, x6, x7⟩, y0, y1, y2, y3, y4, y5, y6, y7⟩ := zK g1;obtain ⟨⟨v0, v1, v2, v3, v4, v5, v6, v7⟩, _⟩ := Kl.out.vb.cells;clear e4 e6 e8;go_wp2
    clear x0 x1 x2 x3 x4 x5 x6 x7 y0 y1 y2 y3 y4 y5 y6 y7 v0 v1 v2 v3 v4 v5 v6 v7;unfold Go.Proofs.YthkkllmmbefedaaGreatDoor.q8 Go.Proofs.YthkkllmmbefedaaGreatDoor.q5 at HG2 KW;generalize World.setCell _ _ _ = W9 at *;obtain ⟨⟨x0, x1, x2, x3, x4, x5, x6, x7⟩, _⟩ := zK KW
    refine bodyPost_ret (v := .agg #[.int .i64 x.kind, .bool false, .int .i64 0, .string ⟨#[]⟩, .int .i64 0, AP, AP, AP]) (by simp [results, Tryz.results79, go_sem, x0, x1, x2, x3, x4, x5, x6, x7]) rfl HG2
  subst he;obtain ⟨b0, b1, b2, b3, b4, b5, b6, b7, b8, b9⟩ := zG (show CS Wc px x As cs Am cm from BS.out)
  go_upto_block 0 with fail
  clear b0 b1 b2 b3 b4 b5 b6 b7 b8 b9
  go_cut [] (fun wx => Hid (VaP C Wb p x.kind r (CY false (Ag false C.s) x r k) wx))
  case first =>
    have hkk : x.kind = 1 \/ x.kind = 2 \/ x.kind = 3 \/ x.kind = 4 \/ x.kind = 5 \/ x.kind = 6 \/ x.kind = 7 \/ x.kind = 8 \/ x.kind = 9 := by have := aV.out; omega
    rcases hkk with hk | hk | hk | hk | hk | hk | hk | hk | hk
    · as_aux_lemma =>
      have q1 : (x.kind == 1) = true := by simp [hk]
      have HB := zh ((IG (f := Ag false C.s) (x := x) (l := r) (k := k)).1 hk);have HK := zh hk;clear hk;go_wp2_with fail;refine (Bp 1 Kl.out.rd).mono ?_
      intro y w4 h4
      obtain ⟨t0, r1, e1, rfl, g1, g2, g3⟩ := FU h4;have LP := zh (Kl.out.BJ g1 g2);have NN := zh g3;have xI := Hr;have fd3 := JR;have VD := zh (LP.out.below (zD w4 (.cells #[.int .i64 t0.kind, .string t0.text, .int .i64 t0.int, .string t0.str, .int .i64 t0.line] 59)));obtain ⟨⟨_, c1, _, _, _, _, _, _⟩, cf⟩ := VD.out.vb.cells;have f1 := cf 1
      have HRP : Hid (w4.heap[W.heap.size]? = some (P6 C)) := Cg oU g1 (by have := KV.out; omega)
      have qi : w4.cell? ⟨W.heap.size, 0, none⟩ = some (.pointer (some ⟨C.b, 0, none⟩)) := by rw [AAN _ _ _ _ _ _ HRP.out]; rfl
      have hlp := zL qi;simp only at hlp;have hpl : Hid (p < w4.heap.size) := LP.out.vb.lt
      have oM : Hid (∀ b : Bool, Gy C Wb p x.kind (w4.alloc (.cells #[.int .i64 t0.kind, .string t0.text, .int .i64 t0.int, .string t0.str, .int .i64 t0.line] 59)) r1 k e1 0 AP AP AP [] [] [] -> Gt p ((w4.alloc (.cells #[.int .i64 t0.kind, .string t0.text, .int .i64 t0.int, .string t0.str, .int .i64 t0.line] 59)).setCell ⟨p, 1, none⟩ (.bool b)) x.kind b 0 ⟨#[]⟩ 0 AP AP AP [] [] [] /\ Bv C ((w4.alloc (.cells #[.int .i64 t0.kind, .string t0.text, .int .i64 t0.int, .string t0.str, .int .i64 t0.line] 59)).setCell ⟨p, 1, none⟩ (.bool b)) r1 k e1 /\ Ah C.b Wb ((w4.alloc (.cells #[.int .i64 t0.kind, .string t0.text, .int .i64 t0.int, .string t0.str, .int .i64 t0.line] 59)).setCell ⟨p, 1, none⟩ (.bool b))) := fun b h => ⟨h.vb.Mf (j := 1) rfl h.vb.str, h.rd.Eu (by have := h.bp; omega) (by have := h.bp; have := h.rd.ok.ge; omega) 1 _, ⟨h.fr.Bz.setCell (p := ⟨p, 1, none⟩) (AAV h.bp) _, fun q hq hl => (AAO _ _ _ _ (by have := h.lo; simp only; omega)).trans (h.fr.Eu q hq hl)⟩⟩
      have KJ : Hid (∀ b : Bool, ((w4.alloc (.cells #[.int .i64 t0.kind, .string t0.text, .int .i64 t0.int, .string t0.str, .int .i64 t0.line] 59)).setCell ⟨p, 1, none⟩ (.bool b)).heap[w4.heap.size]? = some (o6 t0)) := fun b => (AAO _ _ _ _ (by have := hpl.out; simp only; omega)).trans (AAL w4 _)
      clear h4 g1 g2 g3 cf;have ht := NN.out.tk
      by_cases h1 : t0.text = ⟨#[116, 114, 117, 101]⟩
      · have l1 : (t0.text.toList == ([116, 114, 117, 101] : List UInt8)) = true := by rw [Gh]; exact AAT h1
        have HP : Hid (e1 = 0 /\ CY false (Ag false C.s) x r k = .ok (.mk 1 true 0 ⟨#[]⟩ 0 [] [] [], r1, k)) := by
          show _ /\ _
          rw [HB.out, Pg]
          cases hk1 : CG 1 r with
          | error e => rcases NN.out.2 with ⟨g, _⟩ | ⟨_, g, _⟩
                       · rw [hk1] at g; cases g
                       · rw [g] at h1; exact absurd h1 (by decide)
          | ok q => rw [hk1] at ht; rw [zM, <- ht.1, AAH h1, <- ht.2.1]; exact ⟨ht.2.2.1, rfl⟩
        clear h1 ht;go_upto_region 9 with fail
        have HG := zh (oM.out true VD);have yT := zh (KJ.out true);generalize World.setCell (World.alloc w4 _) _ _ = W5 at *;obtain ⟨⟨_, c1', _⟩, _⟩ := HG.out.1.cells;obtain ⟨⟨_, n1, _, _, _⟩, _⟩ := Bb yT;clear c1 f1;go_wp2;go_meet;obtain ⟨g1, g2, g3⟩ := HG.out
        exact ⟨true, 0, ⟨#[]⟩, 0, _, _, _, [], [], [], r1, k, e1, g2, g1, g3, NN.out.1.1, z3, by rw [HP.out.2]; exact ⟨by rw [HK.out]; rfl, rfl, rfl, HP.out.1⟩⟩
      have l1 : (t0.text.toList == ([116, 114, 117, 101] : List UInt8)) = false := by rw [Gh]; exact AAZ h1
      by_cases h2 : t0.text = ⟨#[102, 97, 108, 115, 101]⟩
      · have l2 : (t0.text.toList == ([102, 97, 108, 115, 101] : List UInt8)) = true := by rw [Gh]; exact AAT h2
        have HP : Hid (e1 = 0 /\ CY false (Ag false C.s) x r k = .ok (.mk 1 false 0 ⟨#[]⟩ 0 [] [] [], r1, k)) := by
          show _ /\ _
          rw [HB.out, Pg]
          cases hk1 : CG 1 r with
          | error e => rcases NN.out.2 with ⟨g, _⟩ | ⟨_, g, _⟩
                       · rw [hk1] at g; cases g
                       · rw [g] at h2; exact absurd h2 (by decide)
          | ok q => rw [hk1] at ht; rw [zM, <- ht.1, Pd h1, AAH h2, <- ht.2.1]; exact ⟨ht.2.2.1, rfl⟩
        clear h1 h2 ht;go_upto_region 9 with fail
        have HG := zh (oM.out false VD);have yT := zh (KJ.out false);generalize World.setCell (World.alloc w4 _) _ _ = W5 at *;obtain ⟨⟨_, c1', _⟩, _⟩ := HG.out.1.cells;obtain ⟨⟨_, n1, _, _, _⟩, _⟩ := Bb yT;clear c1 f1;go_wp2;go_meet;obtain ⟨g1, g2, g3⟩ := HG.out
        exact ⟨false, 0, ⟨#[]⟩, 0, _, _, _, [], [], [], r1, k, e1, g2, g1, g3, NN.out.1.1, z3, by rw [HP.out.2]; exact ⟨by rw [HK.out]; rfl, rfl, rfl, HP.out.1⟩⟩
      · have l2 : (t0.text.toList == ([102, 97, 108, 115, 101] : List UInt8)) = false := by rw [Gh]; exact AAZ h2
        have HP : Hid (CY false (Ag false C.s) x r k = .error (iH e1 2)) := by
          show _ = _
          rw [HB.out, Pg]
          rcases NN.out.2 with ⟨g, j, _⟩ | ⟨g, _, _, j⟩
          · rw [g, zM]; simp only; rw [Pd h1, Pd h2, j]; rfl
          · rw [g, j]; rfl
        clear h1 h2 ht;go_upto_region 9 with fail
        have HG0 := zh (oM.out false VD);have yT := zh (KJ.out false);generalize World.setCell (World.alloc w4 _) _ _ = W5 at *;obtain ⟨⟨_, c1', _⟩, _⟩ := HG0.out.1.cells;obtain ⟨⟨_, n1, _, _, _⟩, _⟩ := Bb yT;clear c1 f1
        have rr5 : W5.cell? ⟨W.heap.size, 0, none⟩ = some (.pointer (some ⟨C.b, 0, none⟩)) := by rw [AAN _ _ _ _ _ _ (Cg ABw HG0.out.2.2 (by have := KV.out; omega))]; rfl
        go_wp2_with fail
        obtain ⟨g1, g2, g3⟩ := HG0.out;refine (BZ 2 g2).mono ?_;rintro y w6 ⟨rfl, g4, g5⟩;have HG := zh (And.intro (g1.BJ g5 VD.out.bp) (And.intro g4 (g3.trans g5)));clear g1 g2 g3 g4 g5;go_wp2;go_meet;exact ⟨false, 0, ⟨#[]⟩, 0, _, _, _, [], [], [], r1, k, _, HG.out.2.1, HG.out.1, HG.out.2.2, NN.out.1.1, z3, by rw [HP.out]⟩
    · as_aux_lemma =>
      have q1 : (x.kind == 1) = false := by simp [hk]
      have q2 : (x.kind == 2) = true := by simp [hk]
      have HB := zh ((IG (f := Ag false C.s) (x := x) (l := r) (k := k)).2.1 hk);have HK := zh hk;clear hk;go_wp2_with fail;refine (Bp 2 Kl.out.rd).mono ?_
      intro y w4 h4
      obtain ⟨t0, r1, e1, rfl, g1, g2, g3⟩ := FU h4;have LP := zh (Kl.out.BJ g1 g2);have NN := zh g3;have xI := Hr;have fd3 := JR;obtain ⟨⟨_, _, c2, _, _, _, _, _⟩, cf⟩ := LP.out.vb.cells;have fz := cf 2;clear h4 g1 g2 g3 cf
      have HG : Hid (Gt p (w4.setCell ⟨p, 2, none⟩ (.int .i64 t0.int)) x.kind false t0.int ⟨#[]⟩ 0 AP AP AP [] [] [] /\ Bv C (w4.setCell ⟨p, 2, none⟩ (.int .i64 t0.int)) r1 k e1 /\ Ah C.b Wb (w4.setCell ⟨p, 2, none⟩ (.int .i64 t0.int))) := by
        have h := LP.out;exact ⟨h.vb.Mf (j := 2) rfl (LP.out.vb.str), h.rd.Eu (by have := h.bp; omega) (by have := h.bp; have := h.rd.ok.ge; omega) 2 _, ⟨h.fr.Bz.setCell (p := ⟨p, 2, none⟩) (AAV h.bp) _, fun q hq hl => (AAO _ _ _ _ (by have := h.lo; simp only; omega)).trans (h.fr.Eu q hq hl)⟩⟩
      have HP : Hid (match CY false (Ag false C.s) x r k with
        | .ok (v, r1', k1) => v = .mk x.kind false t0.int ⟨#[]⟩ 0 [] [] [] /\ r1 = r1' /\ k = k1 /\ e1 = 0
        | .error e => e1 = e) := by
        show match CY false (Ag false C.s) x r k with
        | .ok (v, r1', k1) => v = .mk x.kind false t0.int ⟨#[]⟩ 0 [] [] [] /\ r1 = r1' /\ k = k1 /\ e1 = 0
        | .error e => e1 = e
        have ht := NN.out.tk;rw [HB.out, HK.out]
        cases hk1 : CG 2 r with
        | error e => rw [hk1] at ht; exact ht.1
        | ok q => rw [hk1] at ht; rw [zM, <- ht.1, <- ht.2.1]; exact ⟨rfl, rfl, rfl, ht.2.2.1⟩
      go_wp2
      go_meet
      exact ⟨false, t0.int, ⟨#[]⟩, 0, _, _, _, [], [], [], r1, k, e1, HG.out.2.1, HG.out.1, HG.out.2.2, NN.out.1.1, z3, HP.out⟩
    · as_aux_lemma =>
      have q1 : (x.kind == 1) = false := by simp [hk]
      have q2 : (x.kind == 2) = false := by simp [hk]
      have q3 : (x.kind == 3) = true := by simp [hk]
      have HB := zh ((IG (f := Ag false C.s) (x := x) (l := r) (k := k)).2.2.1 hk);have HK := zh hk;clear hk;go_wp2_with fail;refine (Bp 3 Kl.out.rd).mono ?_
      intro y w4 h4
      obtain ⟨t0, r1, e1, rfl, g1, g2, g3⟩ := FU h4;have LP := zh (Kl.out.BJ g1 g2);have NN := zh g3;have xI := Hr;have fd3 := JR;obtain ⟨⟨_, _, _, c3, _, _, _, _⟩, cf⟩ := LP.out.vb.cells;have fz := cf 3;clear h4 g1 g2 g3 cf
      have HG : Hid (Gt p (w4.setCell ⟨p, 3, none⟩ (.string t0.str)) x.kind false 0 t0.str 0 AP AP AP [] [] [] /\ Bv C (w4.setCell ⟨p, 3, none⟩ (.string t0.str)) r1 k e1 /\ Ah C.b Wb (w4.setCell ⟨p, 3, none⟩ (.string t0.str))) := by
        have h := LP.out;exact ⟨h.vb.Mf (j := 3) rfl (NN.out.1.2.2), h.rd.Eu (by have := h.bp; omega) (by have := h.bp; have := h.rd.ok.ge; omega) 3 _, ⟨h.fr.Bz.setCell (p := ⟨p, 3, none⟩) (AAV h.bp) _, fun q hq hl => (AAO _ _ _ _ (by have := h.lo; simp only; omega)).trans (h.fr.Eu q hq hl)⟩⟩
      have HP : Hid (match CY false (Ag false C.s) x r k with
        | .ok (v, r1', k1) => v = .mk x.kind false 0 t0.str 0 [] [] [] /\ r1 = r1' /\ k = k1 /\ e1 = 0
        | .error e => e1 = e) := by
        show match CY false (Ag false C.s) x r k with
        | .ok (v, r1', k1) => v = .mk x.kind false 0 t0.str 0 [] [] [] /\ r1 = r1' /\ k = k1 /\ e1 = 0
        | .error e => e1 = e
        have ht := NN.out.tk;rw [HB.out, HK.out]
        cases hk1 : CG 3 r with
        | error e => rw [hk1] at ht; exact ht.1
        | ok q => rw [hk1] at ht; rw [zM, <- ht.1, <- ht.2.1]; exact ⟨rfl, rfl, rfl, ht.2.2.1⟩
      go_wp2
      go_meet
      exact ⟨false, 0, t0.str, 0, _, _, _, [], [], [], r1, k, e1, HG.out.2.1, HG.out.1, HG.out.2.2, NN.out.1.1, z3, HP.out⟩
    · as_aux_lemma =>
      have q1 : (x.kind == 1) = false := by simp [hk]
      have q2 : (x.kind == 2) = false := by simp [hk]
      have q3 : (x.kind == 3) = false := by simp [hk]
      have q4 : (x.kind == 4) = true := by simp [hk]
      have HB := zh ((IG (f := Ag false C.s) (x := x) (l := r) (k := k)).2.2.2.1 hk);have HK := zh hk;clear hk;obtain ⟨b0, b1, b2, b3, b4, b5, b6, b7, b8, b9⟩ := zG (show CS Wc px x As cs Am cm from BS.out);go_wp2_with fail;refine (iI Kl.out.rd Hz).mono ?_;rintro y w4 ⟨d, rfl, g1, r1, k1, e1, g2, g3, g4⟩;have LP := zh (Kl.out.BJ g1 g2);have KW := zh g3
      obtain ⟨⟨_, _, _, _, c4, _, _, _⟩, cf⟩ := LP.out.vb.cells;have f4 := cf 4;have HD := zh (LP.out.qh d);have HP : Hid (match CY false (Ag false C.s) x r k with
        | .ok (v, r1', k1') => v = .mk x.kind false 0 ⟨#[]⟩ d [] [] [] /\ r1 = r1' /\ k1 = k1' /\ e1 = 0
        | .error e => e1 = e) := by
        show match CY false (Ag false C.s) x r k with
        | .ok (v, r1', k1') => v = .mk x.kind false 0 ⟨#[]⟩ d [] [] [] /\ r1 = r1' /\ k1 = k1' /\ e1 = 0
        | .error e => e1 = e
        rw [HB.out, HK.out]
        cases hk1 : Ea false x r k with
        | error e => rw [hk1] at g4; exact g4
        | ok q => rw [hk1] at g4; rw [zM, <- g4.1]; exact ⟨rfl, g4.2⟩
      clear g1 g2 g3 g4 cf b0 b1 b2 b3 b4 b5 b6 b7 b8 b9;go_wp2;go_meet;exact ⟨false, 0, ⟨#[]⟩, d, _, _, _, [], [], [], r1, k1, e1, HD.out.rd, HD.out.vb, HD.out.fr, KW.out, z3, HP.out⟩
    · as_aux_lemma =>
      have q1 : (x.kind == 1) = false := by simp [hk]
      have q2 : (x.kind == 2) = false := by simp [hk]
      have q3 : (x.kind == 3) = false := by simp [hk]
      have q4 : (x.kind == 4) = false := by simp [hk]
      have q5 : (x.kind == 5) = true := by simp [hk]
      have HB := zh ((IG (f := Ag false C.s) (x := x) (l := r) (k := k)).2.2.2.2.1 hk);have HK := zh hk;clear hk;obtain ⟨b0, b1, b2, b3, b4, b5, b6, b7, b8, b9⟩ := zG (show CS Wc px x As cs Am cm from BS.out);go_wp2_with fail;refine (Vp EI Hz Kl HN (HMR.out (.inl HK.out))).mono ?_;rintro y w4 ⟨rfl, g1⟩;have HF := zh g1.va;clear g1 b0 b1 b2 b3 b4 b5 b6 b7 b8 b9;go_wp2
      go_meet
      rw [HB.out];have := HF.out;rw [HK.out] at this ⊢;exact this
    · as_aux_lemma =>
      have q1 : (x.kind == 1) = false := by simp [hk]
      have q2 : (x.kind == 2) = false := by simp [hk]
      have q3 : (x.kind == 3) = false := by simp [hk]
      have q4 : (x.kind == 4) = false := by simp [hk]
      have q5 : (x.kind == 5) = false := by simp [hk]
      have q6 : (x.kind == 6) = true := by simp [hk]
      have HB := zh ((IG (f := Ag false C.s) (x := x) (l := r) (k := k)).2.2.2.2.2.1 hk);have HK := zh hk;clear hk;obtain ⟨b0, b1, b2, b3, b4, b5, b6, b7, b8, b9⟩ := zG (show CS Wc px x As cs Am cm from BS.out);go_wp2_with fail;refine (Yp EI Hz Kl HN (HMR.out (.inr HK.out))).mono ?_;rintro y w4 ⟨rfl, g1⟩;have HF := zh g1.va;clear g1 b0 b1 b2 b3 b4 b5 b6 b7 b8 b9;go_wp2
      go_meet
      rw [HB.out];have := HF.out;rw [HK.out] at this ⊢;exact this
    · as_aux_lemma =>
      have q1 : (x.kind == 1) = false := by simp [hk]
      have q2 : (x.kind == 2) = false := by simp [hk]
      have q3 : (x.kind == 3) = false := by simp [hk]
      have q4 : (x.kind == 4) = false := by simp [hk]
      have q5 : (x.kind == 5) = false := by simp [hk]
      have q6 : (x.kind == 6) = false := by simp [hk]
      have q7 : (x.kind == 7) = true := by simp [hk]
      have HB := zh ((IG (f := Ag false C.s) (x := x) (l := r) (k := k)).2.2.2.2.2.2.1 hk);have HK := zh hk;clear hk;go_wp2_with fail;refine (BO ⟨#[91]⟩ Kl.out.rd).mono ?_
      intro y w4 h4
      obtain rfl := h4.1;obtain ⟨hb4, r2, e2, hr4, hs4⟩ := Eo h4;have LP := zh (Kl.out.BJ hb4 hr4);have Sr := zh hs4;have HRP := zh (Cg oU hb4 (by have := KV.out; omega))
      have HXP := zh (Cg BS hb4 (by have := KV.out; have := HLO.out; omega))
      have qi : w4.cell? ⟨W.heap.size, 0, none⟩ = some (.pointer (some ⟨C.b, 0, none⟩)) := by rw [AAN _ _ _ _ _ _ HRP.out]; rfl
      have rz4 := LP.out.rd.zero;clear h4 hb4 hr4 hs4;have hs := EQ Sr
      by_cases hz : e2 = 0
      · have q10 : (e2 == 0) = true := by simp [hz]
        have HZ := zh hz;have HVF : Hid (CR C ⟨Wb, x, As, cs, Am, cm, p, W.heap.size, px, p⟩ w4 r2 k 0 0 AP AP AP [] [] []) := by
          have h := LP.out;rw [hz] at h;exact ⟨h.rd, h.vb, h.fr, h.lo, h.lb, Hz.out, HRP.out, HXP.out, .inl rfl⟩
        obtain ⟨HP, Dz⟩ : Hid (CY false (Ag false C.s) x r k = X3 7 (Ng (Ag false C.s) x r2 k)) /\ Hid (r2.length < r.length) := by
          cases hsy : Aq ⟨#[91]⟩ r with
          | error e => rw [hsy] at hs; exact absurd hz hs.2
          | ok l =>
            rw [hsy] at hs;obtain ⟨rfl, _⟩ := hs;exact ⟨by show _ = _; rw [HB.out, X4, hsy]; rfl, (zU hsy).1.2⟩
        clear hz hs;go_wp2_with fail;refine (ZX EI rfl (kC.out (by unfold Eb; rw [HK.out]; decide)) HVF (by have := Dz.out; have := HN.out; omega)).mono ?_
        rintro y w6 ⟨rfl, h6⟩;have H6 := zh h6.va;clear h6;go_wp2;go_meet;rw [HP.out];obtain ⟨bo, it, st, di, vk, vi, vr, K, I, R, r', k', e', j1, j2, j3, j4, j5, j6⟩ := H6.out;refine ⟨bo, it, st, di, vk, vi, vr, K, I, R, r', k', e', j1, j2, j3, by have := Dz.out; omega, j5, ?_⟩
        have hj : (⟨Wb, x, As, cs, Am, cm, p, W.heap.size, px, p⟩ : Vx).x.kind = 7 := HK.out;rw [hj] at j6;rw [HK.out];exact j6
      · have q10 : (e2 == 0) = false := by simp [hz]
        have HP : Hid (CY false (Ag false C.s) x r k = .error e2) := by
          show _ = _
          rw [HB.out, X4]
          cases hsy : Aq ⟨#[91]⟩ r with
          | error e => rw [hsy] at hs; rw [hs.1]; rfl
          | ok l => rw [hsy] at hs; exact absurd hs.2 hz
        clear hz hs;go_wp2;go_meet;exact ⟨false, 0, ⟨#[]⟩, 0, _, _, _, [], [], [], r2, k, e2, LP.out.rd, LP.out.vb, LP.out.fr, Sr.out.1, z3, by rw [HP.out]⟩
    · as_aux_lemma =>
      have q1 : (x.kind == 1) = false := by simp [hk]
      have q2 : (x.kind == 2) = false := by simp [hk]
      have q3 : (x.kind == 3) = false := by simp [hk]
      have q4 : (x.kind == 4) = false := by simp [hk]
      have q5 : (x.kind == 5) = false := by simp [hk]
      have q6 : (x.kind == 6) = false := by simp [hk]
      have q7 : (x.kind == 7) = false := by simp [hk]
      have q8 : (x.kind == 8) = true := by simp [hk]
      have HB := zh ((IG (f := Ag false C.s) (x := x) (l := r) (k := k)).2.2.2.2.2.2.2.1 hk);have HK := zh hk;clear hk;obtain ⟨b0, b1, b2, b3, b4, b5, b6, b7, b8, b9⟩ := zG (show CS Wc px x As cs Am cm from BS.out);go_wp2_with fail;refine (Ul EI Hz Kl HN (jg.out HK) (kC.out (by unfold Eb; rw [HK.out]; decide))).mono ?_
      rintro y w4 ⟨rfl, g1⟩;have HF := zh g1.va;clear g1 b0 b1 b2 b3 b4 b5 b6 b7 b8 b9;go_wp2;go_meet;rw [HB.out];have := HF.out;rw [HK.out] at this ⊢;exact this
    · as_aux_lemma =>
      have q1 : (x.kind == 1) = false := by simp [hk]
      have q2 : (x.kind == 2) = false := by simp [hk]
      have q3 : (x.kind == 3) = false := by simp [hk]
      have q4 : (x.kind == 4) = false := by simp [hk]
      have q5 : (x.kind == 5) = false := by simp [hk]
      have q6 : (x.kind == 6) = false := by simp [hk]
      have q7 : (x.kind == 7) = false := by simp [hk]
      have q8 : (x.kind == 8) = false := by simp [hk]
      have q9 : (x.kind == 9) = true := by simp [hk]
      have HB := zh ((IG (f := Ag false C.s) (x := x) (l := r) (k := k)).2.2.2.2.2.2.2.2 hk);have HK := zh hk;clear hk;obtain ⟨b0, b1, b2, b3, b4, b5, b6, b7, b8, b9⟩ := zG (show CS Wc px x As cs Am cm from BS.out);go_wp2_with fail;refine (Rq EI Kl HN (kC.out (by unfold Eb; rw [HK.out]; decide))).mono ?_
      rintro y w4 ⟨rfl, g1⟩;have HF := zh g1.va;clear g1 b0 b1 b2 b3 b4 b5 b6 b7 b8 b9;go_wp2;go_meet;rw [HB.out];have := HF.out;rw [HK.out] at this ⊢;exact this
  case rest =>
  obtain ⟨W5, rfl⟩ : ∃ W : World, W = wc := ⟨_, rfl⟩;obtain ⟨bo, it, st, di, vk, vi, vr, K, I, R, r', k', e', j1, j2, j3, j4, j5, j6⟩ := hcut.out;rw [<- tu.out] at j6;obtain ⟨A1, c1, A2, c2, A3, c3, rfl, rfl, rfl, g1, g2⟩ := QJ (t := (tn : Int)) (e := 0) HB0 (q := W.heap.size + 1) (by have := HLO.out; omega) KV j1 j2 j3 j4 j5 yY (fun h => absurd rfl h) (fun _ => j6)
  have HG2 := zh g2;have KW := zh (Gr g1 (.int .i64 x.kind) (.bool bo) (.int .i64 it) (.string st) (.int .i64 di) (.slice A1 K.length c1) (.slice A2 I.length c2) (.slice A3 R.length c3));obtain ⟨⟨x0, x1, x2, x3, x4, x5, x6, x7⟩, y0, y1, y2, y3, y4, y5, y6, y7⟩ := zK g1;obtain ⟨⟨v0, v1, v2, v3, v4, v5, v6, v7⟩, _⟩ := j2.cells;clear g1 g2 hcut j1 j2 j3 j4 j5 j6;go_wp2
  clear x0 x1 x2 x3 x4 x5 x6 x7 y0 y1 y2 y3 y4 y5 y6 y7 v0 v1 v2 v3 v4 v5 v6 v7;unfold Go.Proofs.YthkkllmmbefedaaGreatDoor.q8 Go.Proofs.YthkkllmmbefedaaGreatDoor.q5 at HG2 KW;generalize World.setCell _ _ _ = W9 at *;obtain ⟨⟨x0, x1, x2, x3, x4, x5, x6, x7⟩, _⟩ := zK KW
  refine bodyPost_ret (v := .agg #[.int .i64 x.kind, .bool bo, .int .i64 it, .string st, .int .i64 di, .slice A1 K.length c1, .slice A2 I.length c2, .slice A3 R.length c3]) (by simp [results, Tryz.results79, go_sem, x0, x1, x2, x3, x4, x5, x6, x7]) rfl HG2
end Go.Proofs.YthkkllmmbefedaaGreatDoor



