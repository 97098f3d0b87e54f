/-
  Walks: the literal's reader: value.
-/
import Derived.Test.YthkkllmmbefedaaGreatDoorQGD0
import Derived.Test.YthkkllmmbefedaaGreatDoorQGA8
namespace Go.Proofs.YthkkllmmbefedaaGreatDoor
open Go.RowKit
set_option maxHeartbeats 16000000
set_option maxRecDepth 100000
theorem MG (l:List AB) (k:Bool):IL l k=(Bg 1 l).bind fun p=>if p.1.text=⟨#[116,114,117,101]⟩ then .ok (true,p.2,k) else if p.1.text=⟨#[102,97,108,115,101]⟩ then .ok (false,p.2,k) else .error 2:=rfl
theorem Ii {f:Int->List AB->Bool->PR Val} {x:AZ} {l:List AB} {k:Bool} :
  (x.kind=1->CO false f x l k=(IL l k).bind fun p => .ok (.mk 1 p.1 0 ⟨#[]⟩ 0 [] [] [],p.2))/\(x.kind=2->CO false f x l k=(Bg 2 l).bind fun p => .ok (.mk 2 false p.1.int ⟨#[]⟩ 0 [] [] [],p.2,k)) /\
  (x.kind=3->CO false f x l k=(Bg 3 l).bind fun p => .ok (.mk 3 false 0 p.1.str 0 [] [] [],p.2,k))/\(x.kind=4->CO false f x l k=(CY false x l k).bind fun p => .ok (.mk 4 false 0 ⟨#[]⟩ p.1 [] [] [],p.2)) /\
  (x.kind=5->CO false f x l k=Mr 5 (H9 false f x l k))/\(x.kind=6->CO false f x l k=Hu 6 (Co false f x l k))/\(x.kind=7->CO false f x l k=Km 7 (Gv f x l k))/\(x.kind=8->CO false f x l k=M4 8 (G6 f x l k))/\(x.kind=9->CO false f x l k=Ot 9 (Fg f x l k)):=by
 unfold CO;refine ⟨fun h=>?_,fun h=>?_,fun h=>?_,fun h=>?_,fun h=>?_,fun h=>?_,fun h=>?_,fun h=>?_,fun h=>?_⟩ <;> (rw[h];rfl)
theorem QE {C:CZ} {W Wb:World} {p q:Nat} {kd t:Int} {r:List AB} {k:Bool} {e:Int} (hb0:Ah C.b W Wb) (hq:W.heap.size<=q/\q<p) (hlb:C.b<W.heap.size) {wx:World} {bo:Bool} {it:Int} {st:ByteArray} {di:Int} {vk vi vr:Value} {K I:List BX} {R:List Ac} {r':List AB} {k':Bool} {e':Int}
  (hr:CF C wx r' k' e') (hv:Gf p wx kd bo it st di vk vi vr K I R) (hb:Ah C.b Wb wx) (hl:r'.length<=r.length) (hz:K.length<=2000000/\I.length<=2000000/\R.length<=2000000) (hs:Wb.heap[q]? = some zO)
  (h1:e≠0->e'=e) (h2:e=0->match AP false C.s t r k with
   | .ok (v,r1,k1)=>v = .mk kd bo it st di (K.map (·.v)) (I.map (·.v)) R/\r'=r1/\k'=k1/\e'=0
   | .error e1=>e'=e1) :
  ∃A1 c1 A2 c2 A3 c3,vk = .slice A1 K.length c1/\vi = .slice A2 I.length c2/\vr = .slice A3 R.length c3/\wx.heap[q]? = some zO /\
   nJ C t W r k e (.returned (.agg #[.int .i64 kd,.bool bo,.int .i64 it,.string st,.int .i64 di,.slice A1 K.length c1,.slice A2 I.length c2,.slice A3 R.length c3])) (Go.Proofs.YthkkllmmbefedaaGreatDoor.q8 wx q (.int .i64 kd) (.bool bo) (.int .i64 it) (.string st) (.int .i64 di) (.slice A1 K.length c1) (.slice A2 I.length c2) (.slice A3 R.length c3)):=by
 obtain ⟨A1,c1,A2,c2,A3,c3,e1,e2,e3,ho⟩:=hv.fin (by unfold D9;omega) (by unfold D9;omega) (by unfold D9;omega)
 refine ⟨A1,c1,A2,c2,A3,c3,e1,e2,e3,Ai hs hb (by omega),⟨.mk kd bo it st di (K.map (·.v)) (I.map (·.v)) R,A1,c1,A2,c2,A3,c3⟩,?_,?_,?_,r',k',e',hr.bS (by omega) _ _ _ _ _ _ _ _,hl,h1,fun h0=>?_⟩
 ·show Ending.returned (.agg #[.int .i64 kd,.bool bo,.int .i64 it,.string st,.int .i64 di,.slice A1 K.length c1,.slice A2 I.length c2,.slice A3 R.length c3]) = .returned (.agg #[.int .i64 kd,.bool bo,.int .i64 it,.string st,.int .i64 di,.slice A1 (K.map (·.v)).length c1,.slice A2 (I.map (·.v)).length c2,.slice A3 R.length c3])
  rw[AAk,AAk]
 ·exact (FJ ho (B:=q) (AAT hq.2) _ _ _ _ _ _ _ _).mono fun s _ hs=>by have:=hq.1;omega
 ·exact (hb0.trans hb).eight _ _ _ _ _ _ _ _ hq.1 hlb
 ·have h3:=h2 h0
  cases hw:AP false C.s t r k with
  | error e1=>rw[hw] at h3;exact h3
  | ok z=>rw[hw] at h3;exact ⟨h3.1.symm,h3.2⟩
theorem Vg {C : CZ} (hv : zQ C.s = 0) {n : Nat} (ih : Dt C n) : Dt C (n + 1) := by
  intro t W r k e hn hr h
  obtain ⟨tn, rfl⟩ := AAh hr.1;have htn : tn < C.s.length := by omega
  obtain ⟨bq, oq, As, cs, Am, cm, hA, htr, t0, t1, t2, t3, t4, t5, t6, t7, t8, t9⟩ := h.ok.ty.JM htn;have XK : Hid (AP false C.s (tn : Int) r k = CO false (AP false C.s) C.s[tn] r k) := by show _ = _; rw [RP, zT htn]
  have gy : Hid (1 <= (C.s[tn]).kind /\ (C.s[tn]).kind <= 9) := by have := IC hv hr; rw [zT htn] at this; exact this
  have rV : Hid (Eg (C.s[tn]).kind -> 0 <= (C.s[tn]).elem /\ (C.s[tn]).elem < (C.s.length : Int)) := by have := U2 hv hr; rw [zT htn] at this; exact this
  have HYR : Hid ((C.s[tn]).kind = 8 -> 0 <= (C.s[tn]).key /\ (C.s[tn]).key < (C.s.length : Int)) := fun hk => by have := (YB hv hr (by rw [zT htn]; exact hk)).1; rw [zT htn] at this; exact this
  have vX : Hid ((C.s[tn]).kind = 5 \/ (C.s[tn]).kind = 6 -> ∀ y ∈ (C.s[tn]).AA, 0 <= y.type /\ y.type < (C.s.length : Int)) := fun hk y hy => (X8 hv (AAW htn) hy).2
  have hls := F9 hv;have F7 := zh htr;have Nk := zh h;have HN : Hid (r.length <= n) := by show _ <= _; omega
  have Df := zh ih;have Fq := zh h.lt;generalize C.s[tn] = x at *;have iQ := zh (zI W (Pk C) zO);have mH : Hid (((W.alloc (Pk C)).alloc zO).heap[W.heap.size]? = some (Pk C)) := CW (AAA W (Pk C)) (zD _ _);have OQ : Hid (((W.alloc (Pk C)).alloc zO).heap[W.heap.size + 1]? = some zO) := by
    show _ = _
    have := AAA (W.alloc (Pk C)) zO;rw [show (W.alloc (Pk C)).heap.size = W.heap.size + 1 by simp] at this
    exact this
  have hza : ((W.alloc (Pk C)).alloc zO).heap.size = W.heap.size + 2 := by simp
  have sQ := zh hza;clear h ih hn htr hv hr
  go_enter Tryz.func79, Tryz.ntmps79
  go_upto_region 1 with fail
  generalize (W.alloc (Pk C)).alloc zO = Wa at *;have HR1 := zh (Nk.out.below iQ);obtain ⟨⟨c0, _, _, _, _⟩, _⟩ := HR1.out.cells;rw [hA] at c0;have rr : Wa.cell? ⟨W.heap.size, 0, none⟩ = some (.pointer (some ⟨C.b, 0, none⟩)) := by rw [AAB _ _ _ _ _ _ mH.out]; rfl
  have i0 : (0 : Int) <= (tn : Int) := by omega
  have i1 : (tn : Int) < (C.s.length : Int) := by omega
  have x9 : (C.s.length : Int) <= 32 := by omega
  replace t0 := zA HR1.out.up t0;replace t1 := zA HR1.out.up t1;replace t2 := zA HR1.out.up t2;replace t3 := zA HR1.out.up t3;replace t4 := zA HR1.out.up t4;replace t5 := zA HR1.out.up t5;replace t6 := zA HR1.out.up t6;replace t7 := zA HR1.out.up t7;replace t8 := zA HR1.out.up t8;replace t9 := zA HR1.out.up t9;clear hA hza;go_upto_region 3 with fail
  clear t0 t1 t2 t3 t4 t5 t6 t7 t8 t9 c0 rr i0 i1;have JJ := zh (zD Wa (x.box As cs Am cm));have hzb : (Wa.alloc (x.box As cs Am cm)).heap.size = Wa.heap.size + 1 := by simp
  have Ku : Hid (Hr C (Wa.alloc (x.box As cs Am cm)) (Wa.heap.size + 1) x.kind ((Wa.alloc (x.box As cs Am cm)).alloc (NH x.kind false 0 ⟨#[]⟩ 0 AJ AJ AJ)) r k e 0 AJ AJ AJ [] [] []) := by
    have h1 := Gf.new (Wa.alloc (x.box As cs Am cm)) x.kind;rw [hzb] at h1;have h2 := HR1.out.below JJ;exact ⟨h2.below (zD _ _), h1, Ah.of (zD _ _) (AAT h2.lt), Nat.le_of_eq hzb, h2.lt⟩
  have BI : Hid (((Wa.alloc (x.box As cs Am cm)).alloc (NH x.kind false 0 ⟨#[]⟩ 0 AJ AJ AJ)).heap[Wa.heap.size]? = some (x.box As cs Am cm)) := CW (AAA Wa _) (zD _ _);have mG : Hid (((Wa.alloc (x.box As cs Am cm)).alloc (NH x.kind false 0 ⟨#[]⟩ 0 AJ AJ AJ)).heap[W.heap.size]? = some (Pk C)) := CW (CW mH JJ) (zD _ _);have MQ := zh (CW OQ JJ)
  have HB0 := zh (Ah.of (zB iQ JJ) (AAT Fq));have AAU := zh (CW mH JJ);unfold NH at Ku BI mG;generalize Wa.alloc (x.box As cs Am cm) = Wb at *;generalize Wb.alloc _ = Wc at *;obtain ⟨px, hpx⟩ : ∃ px, Wa.heap.size = px := ⟨_, rfl⟩;obtain ⟨p, hp⟩ : ∃ p, px + 1 = p := ⟨_, rfl⟩;have JS : Hid (W.heap.size + 2 = px /\ px + 1 = p) := ⟨by rw [<- hpx, sQ.out], hp⟩
  rw [hpx, hp] at Ku;rw [hpx] at BI;rw [hpx, hp];clear hpx hp hzb JJ iQ mH OQ HR1 Nk sQ;have rr : Wc.cell? ⟨W.heap.size, 0, none⟩ = some (.pointer (some ⟨C.b, 0, none⟩)) := by rw [AAB _ _ _ _ _ _ mG.out]; rfl
  have rz := Ku.out.rd.zero
  by_cases he : e = 0
  case neg =>
    have q1 : (e != 0) = true := by simp [he]
    obtain ⟨A1, c1, A2, c2, A3, c3, e1, e2, e3, g1, g2⟩ := QE (t := (tn : Int)) HB0 (q := W.heap.size + 1) (by have := JS.out; omega) Fq Ku.out.rd Ku.out.vb Ku.out.fr (AAQ _) z3 MQ (fun _ => rfl) (fun h => absurd h he)
    injection e1 with e1 e4 e5
    injection e2 with e2 e6 e7
    injection e3 with e3 e8 e9
    subst e1 e2 e3 e5 e7 e9;have HG2 := zh g2;have Br := zh (Cw g1 (.int .i64 x.kind) (.bool false) (.int .i64 0) (.string ⟨#[]⟩) (.int .i64 0) AJ AJ AJ);obtain ⟨⟨x0, x1, x2, x3, x4, x5, x6, x7⟩, y0, y1, y2, y3, y4, y5, y6, y7⟩ := zK g1;obtain ⟨⟨v0, v1, v2, v3, v4, v5, v6, v7⟩, _⟩ := Ku.out.vb.cells;clear e4 e6 e8;go_wp2
    clear x0 x1 x2 x3 x4 x5 x6 x7 y0 y1 y2 y3 y4 y5 y6 y7 v0 v1 v2 v3 v4 v5 v6 v7;unfold Go.Proofs.YthkkllmmbefedaaGreatDoor.q8 Go.Proofs.YthkkllmmbefedaaGreatDoor.q5 at HG2 Br;generalize World.setCell _ _ _ = W9 at *;obtain ⟨⟨x0, x1, x2, x3, x4, x5, x6, x7⟩, _⟩ := zK Br
    refine bodyPost_ret (v := .agg #[.int .i64 x.kind, .bool false, .int .i64 0, .string ⟨#[]⟩, .int .i64 0, AJ, AJ, AJ]) (by simp [results, Tryz.results79, go_sem, x0, x1, x2, x3, x4, x5, x6, x7]) rfl HG2
  subst he;obtain ⟨b0, b1, b2, b3, b4, b5, b6, b7, b8, b9⟩ := zG (show Bf Wc px x As cs Am cm from BI.out)
  go_upto_block 0 with fail
  clear b0 b1 b2 b3 b4 b5 b6 b7 b8 b9
  go_cut [] (fun wx => Hid (VaP C Wb p x.kind r (CO false (AP false C.s) x r k) wx))
  case first =>
    have hkk : x.kind = 1 \/ x.kind = 2 \/ x.kind = 3 \/ x.kind = 4 \/ x.kind = 5 \/ x.kind = 6 \/ x.kind = 7 \/ x.kind = 8 \/ x.kind = 9 := by have := gy.out; omega
    rcases hkk with hk | hk | hk | hk | hk | hk | hk | hk | hk
    · as_aux_lemma =>
      have q1 : (x.kind == 1) = true := by simp [hk]
      have HB := zh ((Ii (f := AP false C.s) (x := x) (l := r) (k := k)).1 hk);have HK := zh hk;clear hk;go_wp2_with fail;refine (Bo 1 Ku.out.rd).mono ?_
      intro y w4 h4
      obtain ⟨t0, r1, e1, rfl, g1, g2, g3⟩ := Fa h4;have GI := zh (Ku.out.BF g1 g2);have KU := zh g3;have sP := FM;have sO := FL;have Gn := zh (GI.out.below (zD w4 (.cells #[.int .i64 t0.kind, .string t0.text, .int .i64 t0.int, .string t0.str, .int .i64 t0.line] 59)));obtain ⟨⟨_, c1, _, _, _, _, _, _⟩, cf⟩ := Gn.out.vb.cells;have f1 := cf 1
      have wY : Hid (w4.heap[W.heap.size]? = some (Pk C)) := Ai mG g1 (by have := Fq.out; omega)
      have oQ : w4.cell? ⟨W.heap.size, 0, none⟩ = some (.pointer (some ⟨C.b, 0, none⟩)) := by rw [AAB _ _ _ _ _ _ wY.out]; rfl
      have hlp := zL oQ;simp only at hlp;have hpl : Hid (p < w4.heap.size) := GI.out.vb.lt
      have Nj : Hid (∀ b : Bool, Hr C Wb p x.kind (w4.alloc (.cells #[.int .i64 t0.kind, .string t0.text, .int .i64 t0.int, .string t0.str, .int .i64 t0.line] 59)) r1 k e1 0 AJ AJ AJ [] [] [] -> Gf p ((w4.alloc (.cells #[.int .i64 t0.kind, .string t0.text, .int .i64 t0.int, .string t0.str, .int .i64 t0.line] 59)).setCell ⟨p, 1, none⟩ (.bool b)) x.kind b 0 ⟨#[]⟩ 0 AJ AJ AJ [] [] [] /\ CF C ((w4.alloc (.cells #[.int .i64 t0.kind, .string t0.text, .int .i64 t0.int, .string t0.str, .int .i64 t0.line] 59)).setCell ⟨p, 1, none⟩ (.bool b)) r1 k e1 /\ Ah C.b Wb ((w4.alloc (.cells #[.int .i64 t0.kind, .string t0.text, .int .i64 t0.int, .string t0.str, .int .i64 t0.line] 59)).setCell ⟨p, 1, none⟩ (.bool b))) := fun b h => ⟨h.vb.Tk (j := 1) rfl h.vb.str, h.rd.Ef (by have := h.bp; omega) (by have := h.bp; have := h.rd.ok.ge; omega) 1 _, ⟨h.fr.Ch.setCell (p := ⟨p, 1, none⟩) (AAT h.bp) _, fun q hq hl => (AAO _ _ _ _ (by have := h.lo; simp only; omega)).trans (h.fr.Ef q hq hl)⟩⟩
      have P7 : Hid (∀ b : Bool, ((w4.alloc (.cells #[.int .i64 t0.kind, .string t0.text, .int .i64 t0.int, .string t0.str, .int .i64 t0.line] 59)).setCell ⟨p, 1, none⟩ (.bool b)).heap[w4.heap.size]? = some (bG t0)) := fun b => (AAO _ _ _ _ (by have := hpl.out; simp only; omega)).trans (AAA w4 _)
      clear h4 g1 g2 g3 cf;have ht := KU.out.tk
      by_cases h1 : t0.text = ⟨#[116, 114, 117, 101]⟩
      · have l1 : (t0.text.toList == ([116, 114, 117, 101] : List UInt8)) = true := by rw [Gu]; exact AAM h1
        have HP : Hid (e1 = 0 /\ CO false (AP false C.s) x r k = .ok (.mk 1 true 0 ⟨#[]⟩ 0 [] [] [], r1, k)) := by
          show _ /\ _
          rw [HB.out, MG]
          cases hk1 : Bg 1 r with
          | error e => rcases KU.out.2 with ⟨g, _⟩ | ⟨_, g, _⟩
                       · rw [hk1] at g; cases g
                       · rw [g] at h1; exact absurd h1 (by decide)
          | ok q => rw [hk1] at ht; rw [zM, <- ht.1, AAC h1, <- ht.2.1]; exact ⟨ht.2.2.1, rfl⟩
        clear h1 ht;go_upto_region 9 with fail
        have HG := zh (Nj.out true Gn);have YU := zh (P7.out true);generalize World.setCell (World.alloc w4 _) _ _ = W5 at *;obtain ⟨⟨_, c1', _⟩, _⟩ := HG.out.1.cells;obtain ⟨⟨_, n1, _, _, _⟩, _⟩ := Ao YU;clear c1 f1;go_wp2;go_meet;obtain ⟨g1, g2, g3⟩ := HG.out
        exact ⟨true, 0, ⟨#[]⟩, 0, _, _, _, [], [], [], r1, k, e1, g2, g1, g3, KU.out.1.1, z3, by rw [HP.out.2]; exact ⟨by rw [HK.out]; rfl, rfl, rfl, HP.out.1⟩⟩
      have l1 : (t0.text.toList == ([116, 114, 117, 101] : List UInt8)) = false := by rw [Gu]; exact AAE h1
      by_cases h2 : t0.text = ⟨#[102, 97, 108, 115, 101]⟩
      · have l2 : (t0.text.toList == ([102, 97, 108, 115, 101] : List UInt8)) = true := by rw [Gu]; exact AAM h2
        have HP : Hid (e1 = 0 /\ CO false (AP false C.s) x r k = .ok (.mk 1 false 0 ⟨#[]⟩ 0 [] [] [], r1, k)) := by
          show _ /\ _
          rw [HB.out, MG]
          cases hk1 : Bg 1 r with
          | error e => rcases KU.out.2 with ⟨g, _⟩ | ⟨_, g, _⟩
                       · rw [hk1] at g; cases g
                       · rw [g] at h2; exact absurd h2 (by decide)
          | ok q => rw [hk1] at ht; rw [zM, <- ht.1, Pe h1, AAC h2, <- ht.2.1]; exact ⟨ht.2.2.1, rfl⟩
        clear h1 h2 ht;go_upto_region 9 with fail
        have HG := zh (Nj.out false Gn);have YU := zh (P7.out false);generalize World.setCell (World.alloc w4 _) _ _ = W5 at *;obtain ⟨⟨_, c1', _⟩, _⟩ := HG.out.1.cells;obtain ⟨⟨_, n1, _, _, _⟩, _⟩ := Ao YU;clear c1 f1;go_wp2;go_meet;obtain ⟨g1, g2, g3⟩ := HG.out
        exact ⟨false, 0, ⟨#[]⟩, 0, _, _, _, [], [], [], r1, k, e1, g2, g1, g3, KU.out.1.1, z3, by rw [HP.out.2]; exact ⟨by rw [HK.out]; rfl, rfl, rfl, HP.out.1⟩⟩
      · have l2 : (t0.text.toList == ([102, 97, 108, 115, 101] : List UInt8)) = false := by rw [Gu]; exact AAE h2
        have HP : Hid (CO false (AP false C.s) x r k = .error (JE e1 2)) := by
          show _ = _
          rw [HB.out, MG]
          rcases KU.out.2 with ⟨g, j, _⟩ | ⟨g, _, _, j⟩
          · rw [g, zM]; simp only; rw [Pe h1, Pe h2, j]; rfl
          · rw [g, j]; rfl
        clear h1 h2 ht;go_upto_region 9 with fail
        have HG0 := zh (Nj.out false Gn);have YU := zh (P7.out false);generalize World.setCell (World.alloc w4 _) _ _ = W5 at *;obtain ⟨⟨_, c1', _⟩, _⟩ := HG0.out.1.cells;obtain ⟨⟨_, n1, _, _, _⟩, _⟩ := Ao YU;clear c1 f1
        have rr5 : W5.cell? ⟨W.heap.size, 0, none⟩ = some (.pointer (some ⟨C.b, 0, none⟩)) := by rw [AAB _ _ _ _ _ _ (Ai AAU HG0.out.2.2 (by have := Fq.out; omega))]; rfl
        go_wp2_with fail
        obtain ⟨g1, g2, g3⟩ := HG0.out;refine (Bc 2 g2).mono ?_;rintro y w6 ⟨rfl, g4, g5⟩;have HG := zh (And.intro (g1.BF g5 Gn.out.bp) (And.intro g4 (g3.trans g5)));clear g1 g2 g3 g4 g5;go_wp2;go_meet;exact ⟨false, 0, ⟨#[]⟩, 0, _, _, _, [], [], [], r1, k, _, HG.out.2.1, HG.out.1, HG.out.2.2, KU.out.1.1, z3, by rw [HP.out]⟩
    · as_aux_lemma =>
      have q1 : (x.kind == 1) = false := by simp [hk]
      have q2 : (x.kind == 2) = true := by simp [hk]
      have HB := zh ((Ii (f := AP false C.s) (x := x) (l := r) (k := k)).2.1 hk);have HK := zh hk;clear hk;go_wp2_with fail;refine (Bo 2 Ku.out.rd).mono ?_
      intro y w4 h4
      obtain ⟨t0, r1, e1, rfl, g1, g2, g3⟩ := Fa h4;have GI := zh (Ku.out.BF g1 g2);have KU := zh g3;have sP := FM;have sO := FL;obtain ⟨⟨_, _, c2, _, _, _, _, _⟩, cf⟩ := GI.out.vb.cells;have fz := cf 2;clear h4 g1 g2 g3 cf
      have HG : Hid (Gf p (w4.setCell ⟨p, 2, none⟩ (.int .i64 t0.int)) x.kind false t0.int ⟨#[]⟩ 0 AJ AJ AJ [] [] [] /\ CF C (w4.setCell ⟨p, 2, none⟩ (.int .i64 t0.int)) r1 k e1 /\ Ah C.b Wb (w4.setCell ⟨p, 2, none⟩ (.int .i64 t0.int))) := by
        have h := GI.out;exact ⟨h.vb.Tk (j := 2) rfl (GI.out.vb.str), h.rd.Ef (by have := h.bp; omega) (by have := h.bp; have := h.rd.ok.ge; omega) 2 _, ⟨h.fr.Ch.setCell (p := ⟨p, 2, none⟩) (AAT h.bp) _, fun q hq hl => (AAO _ _ _ _ (by have := h.lo; simp only; omega)).trans (h.fr.Ef q hq hl)⟩⟩
      have HP : Hid (match CO false (AP false C.s) x r k with
        | .ok (v, r1', k1) => v = .mk x.kind false t0.int ⟨#[]⟩ 0 [] [] [] /\ r1 = r1' /\ k = k1 /\ e1 = 0
        | .error e => e1 = e) := by
        show match CO false (AP false C.s) x r k with
        | .ok (v, r1', k1) => v = .mk x.kind false t0.int ⟨#[]⟩ 0 [] [] [] /\ r1 = r1' /\ k = k1 /\ e1 = 0
        | .error e => e1 = e
        have ht := KU.out.tk;rw [HB.out, HK.out]
        cases hk1 : Bg 2 r with
        | error e => rw [hk1] at ht; exact ht.1
        | ok q => rw [hk1] at ht; rw [zM, <- ht.1, <- ht.2.1]; exact ⟨rfl, rfl, rfl, ht.2.2.1⟩
      go_wp2
      go_meet
      exact ⟨false, t0.int, ⟨#[]⟩, 0, _, _, _, [], [], [], r1, k, e1, HG.out.2.1, HG.out.1, HG.out.2.2, KU.out.1.1, z3, HP.out⟩
    · as_aux_lemma =>
      have q1 : (x.kind == 1) = false := by simp [hk]
      have q2 : (x.kind == 2) = false := by simp [hk]
      have q3 : (x.kind == 3) = true := by simp [hk]
      have HB := zh ((Ii (f := AP false C.s) (x := x) (l := r) (k := k)).2.2.1 hk);have HK := zh hk;clear hk;go_wp2_with fail;refine (Bo 3 Ku.out.rd).mono ?_
      intro y w4 h4
      obtain ⟨t0, r1, e1, rfl, g1, g2, g3⟩ := Fa h4;have GI := zh (Ku.out.BF g1 g2);have KU := zh g3;have sP := FM;have sO := FL;obtain ⟨⟨_, _, _, c3, _, _, _, _⟩, cf⟩ := GI.out.vb.cells;have fz := cf 3;clear h4 g1 g2 g3 cf
      have HG : Hid (Gf p (w4.setCell ⟨p, 3, none⟩ (.string t0.str)) x.kind false 0 t0.str 0 AJ AJ AJ [] [] [] /\ CF C (w4.setCell ⟨p, 3, none⟩ (.string t0.str)) r1 k e1 /\ Ah C.b Wb (w4.setCell ⟨p, 3, none⟩ (.string t0.str))) := by
        have h := GI.out;exact ⟨h.vb.Tk (j := 3) rfl (KU.out.1.2.2), h.rd.Ef (by have := h.bp; omega) (by have := h.bp; have := h.rd.ok.ge; omega) 3 _, ⟨h.fr.Ch.setCell (p := ⟨p, 3, none⟩) (AAT h.bp) _, fun q hq hl => (AAO _ _ _ _ (by have := h.lo; simp only; omega)).trans (h.fr.Ef q hq hl)⟩⟩
      have HP : Hid (match CO false (AP false C.s) x r k with
        | .ok (v, r1', k1) => v = .mk x.kind false 0 t0.str 0 [] [] [] /\ r1 = r1' /\ k = k1 /\ e1 = 0
        | .error e => e1 = e) := by
        show match CO false (AP false C.s) x r k with
        | .ok (v, r1', k1) => v = .mk x.kind false 0 t0.str 0 [] [] [] /\ r1 = r1' /\ k = k1 /\ e1 = 0
        | .error e => e1 = e
        have ht := KU.out.tk;rw [HB.out, HK.out]
        cases hk1 : Bg 3 r with
        | error e => rw [hk1] at ht; exact ht.1
        | ok q => rw [hk1] at ht; rw [zM, <- ht.1, <- ht.2.1]; exact ⟨rfl, rfl, rfl, ht.2.2.1⟩
      go_wp2
      go_meet
      exact ⟨false, 0, t0.str, 0, _, _, _, [], [], [], r1, k, e1, HG.out.2.1, HG.out.1, HG.out.2.2, KU.out.1.1, z3, HP.out⟩
    · as_aux_lemma =>
      have q1 : (x.kind == 1) = false := by simp [hk]
      have q2 : (x.kind == 2) = false := by simp [hk]
      have q3 : (x.kind == 3) = false := by simp [hk]
      have q4 : (x.kind == 4) = true := by simp [hk]
      have HB := zh ((Ii (f := AP false C.s) (x := x) (l := r) (k := k)).2.2.2.1 hk);have HK := zh hk;clear hk;obtain ⟨b0, b1, b2, b3, b4, b5, b6, b7, b8, b9⟩ := zG (show Bf Wc px x As cs Am cm from BI.out);go_wp2_with fail;refine (fG Ku.out.rd F7).mono ?_;rintro y w4 ⟨d, rfl, g1, r1, k1, e1, g2, g3, g4⟩;have GI := zh (Ku.out.BF g1 g2);have Br := zh g3
      obtain ⟨⟨_, _, _, _, c4, _, _, _⟩, cf⟩ := GI.out.vb.cells;have f4 := cf 4;have HD := zh (GI.out.Rb d);have HP : Hid (match CO false (AP false C.s) x r k with
        | .ok (v, r1', k1') => v = .mk x.kind false 0 ⟨#[]⟩ d [] [] [] /\ r1 = r1' /\ k1 = k1' /\ e1 = 0
        | .error e => e1 = e) := by
        show match CO false (AP false C.s) x r k with
        | .ok (v, r1', k1') => v = .mk x.kind false 0 ⟨#[]⟩ d [] [] [] /\ r1 = r1' /\ k1 = k1' /\ e1 = 0
        | .error e => e1 = e
        rw [HB.out, HK.out]
        cases hk1 : CY false x r k with
        | error e => rw [hk1] at g4; exact g4
        | ok q => rw [hk1] at g4; rw [zM, <- g4.1]; exact ⟨rfl, g4.2⟩
      clear g1 g2 g3 g4 cf b0 b1 b2 b3 b4 b5 b6 b7 b8 b9;go_wp2;go_meet;exact ⟨false, 0, ⟨#[]⟩, d, _, _, _, [], [], [], r1, k1, e1, HD.out.rd, HD.out.vb, HD.out.fr, Br.out, z3, HP.out⟩
    · as_aux_lemma =>
      have q1 : (x.kind == 1) = false := by simp [hk]
      have q2 : (x.kind == 2) = false := by simp [hk]
      have q3 : (x.kind == 3) = false := by simp [hk]
      have q4 : (x.kind == 4) = false := by simp [hk]
      have q5 : (x.kind == 5) = true := by simp [hk]
      have HB := zh ((Ii (f := AP false C.s) (x := x) (l := r) (k := k)).2.2.2.2.1 hk);have HK := zh hk;clear hk;obtain ⟨b0, b1, b2, b3, b4, b5, b6, b7, b8, b9⟩ := zG (show Bf Wc px x As cs Am cm from BI.out);go_wp2_with fail;refine (Vw Df F7 Ku HN (vX.out (.inl HK.out))).mono ?_;rintro y w4 ⟨rfl, g1⟩;have HF := zh g1.va;clear g1 b0 b1 b2 b3 b4 b5 b6 b7 b8 b9;go_wp2
      go_meet
      rw [HB.out];have := HF.out;rw [HK.out] at this ⊢;exact this
    · as_aux_lemma =>
      have q1 : (x.kind == 1) = false := by simp [hk]
      have q2 : (x.kind == 2) = false := by simp [hk]
      have q3 : (x.kind == 3) = false := by simp [hk]
      have q4 : (x.kind == 4) = false := by simp [hk]
      have q5 : (x.kind == 5) = false := by simp [hk]
      have q6 : (x.kind == 6) = true := by simp [hk]
      have HB := zh ((Ii (f := AP false C.s) (x := x) (l := r) (k := k)).2.2.2.2.2.1 hk);have HK := zh hk;clear hk;obtain ⟨b0, b1, b2, b3, b4, b5, b6, b7, b8, b9⟩ := zG (show Bf Wc px x As cs Am cm from BI.out);go_wp2_with fail;refine (Ym Df F7 Ku HN (vX.out (.inr HK.out))).mono ?_;rintro y w4 ⟨rfl, g1⟩;have HF := zh g1.va;clear g1 b0 b1 b2 b3 b4 b5 b6 b7 b8 b9;go_wp2
      go_meet
      rw [HB.out];have := HF.out;rw [HK.out] at this ⊢;exact this
    · as_aux_lemma =>
      have q1 : (x.kind == 1) = false := by simp [hk]
      have q2 : (x.kind == 2) = false := by simp [hk]
      have q3 : (x.kind == 3) = false := by simp [hk]
      have q4 : (x.kind == 4) = false := by simp [hk]
      have q5 : (x.kind == 5) = false := by simp [hk]
      have q6 : (x.kind == 6) = false := by simp [hk]
      have q7 : (x.kind == 7) = true := by simp [hk]
      have HB := zh ((Ii (f := AP false C.s) (x := x) (l := r) (k := k)).2.2.2.2.2.2.1 hk);have HK := zh hk;clear hk;go_wp2_with fail;refine (BV ⟨#[91]⟩ Ku.out.rd).mono ?_
      intro y w4 h4
      obtain rfl := h4.1;obtain ⟨hb4, r2, e2, hr4, hs4⟩ := Eh h4;have GI := zh (Ku.out.BF hb4 hr4);have IY := zh hs4;have wY := zh (Ai mG hb4 (by have := Fq.out; omega))
      have HXP := zh (Ai BI hb4 (by have := Fq.out; have := JS.out; omega))
      have oQ : w4.cell? ⟨W.heap.size, 0, none⟩ = some (.pointer (some ⟨C.b, 0, none⟩)) := by rw [AAB _ _ _ _ _ _ wY.out]; rfl
      have rz4 := GI.out.rd.zero;clear h4 hb4 hr4 hs4;have hs := Bl IY
      by_cases hz : e2 = 0
      · have q10 : (e2 == 0) = true := by simp [hz]
        have HZ := zh hz;have HVF : Hid (CX C ⟨Wb, x, As, cs, Am, cm, p, W.heap.size, px, p⟩ w4 r2 k 0 0 AJ AJ AJ [] [] []) := by
          have h := GI.out;rw [hz] at h;exact ⟨h.rd, h.vb, h.fr, h.lo, h.lb, F7.out, wY.out, HXP.out, .inl rfl⟩
        obtain ⟨HP, Dm⟩ : Hid (CO false (AP false C.s) x r k = Km 7 (Fu (AP false C.s) x r2 k)) /\ Hid (r2.length < r.length) := by
          cases hsy : BG ⟨#[91]⟩ r with
          | error e => rw [hsy] at hs; exact absurd hz hs.2
          | ok l =>
            rw [hsy] at hs;obtain ⟨rfl, _⟩ := hs;exact ⟨by show _ = _; rw [HB.out, OJ, hsy]; rfl, (zU hsy).1.2⟩
        clear hz hs;go_wp2_with fail;refine (Za Df rfl (rV.out (by unfold Eg; rw [HK.out]; decide)) HVF (by have := Dm.out; have := HN.out; omega)).mono ?_
        rintro y w6 ⟨rfl, h6⟩;have H6 := zh h6.va;clear h6;go_wp2;go_meet;rw [HP.out];obtain ⟨bo, it, st, di, vk, vi, vr, K, I, R, r', k', e', j1, j2, j3, j4, j5, j6⟩ := H6.out;refine ⟨bo, it, st, di, vk, vi, vr, K, I, R, r', k', e', j1, j2, j3, by have := Dm.out; omega, j5, ?_⟩
        have hj : (⟨Wb, x, As, cs, Am, cm, p, W.heap.size, px, p⟩ : Vx).x.kind = 7 := HK.out;rw [hj] at j6;rw [HK.out];exact j6
      · have q10 : (e2 == 0) = false := by simp [hz]
        have HP : Hid (CO false (AP false C.s) x r k = .error e2) := by
          show _ = _
          rw [HB.out, OJ]
          cases hsy : BG ⟨#[91]⟩ r with
          | error e => rw [hsy] at hs; rw [hs.1]; rfl
          | ok l => rw [hsy] at hs; exact absurd hs.2 hz
        clear hz hs;go_wp2;go_meet;exact ⟨false, 0, ⟨#[]⟩, 0, _, _, _, [], [], [], r2, k, e2, GI.out.rd, GI.out.vb, GI.out.fr, IY.out.1, z3, by rw [HP.out]⟩
    · as_aux_lemma =>
      have q1 : (x.kind == 1) = false := by simp [hk]
      have q2 : (x.kind == 2) = false := by simp [hk]
      have q3 : (x.kind == 3) = false := by simp [hk]
      have q4 : (x.kind == 4) = false := by simp [hk]
      have q5 : (x.kind == 5) = false := by simp [hk]
      have q6 : (x.kind == 6) = false := by simp [hk]
      have q7 : (x.kind == 7) = false := by simp [hk]
      have q8 : (x.kind == 8) = true := by simp [hk]
      have HB := zh ((Ii (f := AP false C.s) (x := x) (l := r) (k := k)).2.2.2.2.2.2.2.1 hk);have HK := zh hk;clear hk;obtain ⟨b0, b1, b2, b3, b4, b5, b6, b7, b8, b9⟩ := zG (show Bf Wc px x As cs Am cm from BI.out);go_wp2_with fail;refine (Uy Df F7 Ku HN (HYR.out HK) (rV.out (by unfold Eg; rw [HK.out]; decide))).mono ?_
      rintro y w4 ⟨rfl, g1⟩;have HF := zh g1.va;clear g1 b0 b1 b2 b3 b4 b5 b6 b7 b8 b9;go_wp2;go_meet;rw [HB.out];have := HF.out;rw [HK.out] at this ⊢;exact this
    · as_aux_lemma =>
      have q1 : (x.kind == 1) = false := by simp [hk]
      have q2 : (x.kind == 2) = false := by simp [hk]
      have q3 : (x.kind == 3) = false := by simp [hk]
      have q4 : (x.kind == 4) = false := by simp [hk]
      have q5 : (x.kind == 5) = false := by simp [hk]
      have q6 : (x.kind == 6) = false := by simp [hk]
      have q7 : (x.kind == 7) = false := by simp [hk]
      have q8 : (x.kind == 8) = false := by simp [hk]
      have q9 : (x.kind == 9) = true := by simp [hk]
      have HB := zh ((Ii (f := AP false C.s) (x := x) (l := r) (k := k)).2.2.2.2.2.2.2.2 hk);have HK := zh hk;clear hk;obtain ⟨b0, b1, b2, b3, b4, b5, b6, b7, b8, b9⟩ := zG (show Bf Wc px x As cs Am cm from BI.out);go_wp2_with fail;refine (R3 Df Ku HN (rV.out (by unfold Eg; rw [HK.out]; decide))).mono ?_
      rintro y w4 ⟨rfl, g1⟩;have HF := zh g1.va;clear g1 b0 b1 b2 b3 b4 b5 b6 b7 b8 b9;go_wp2;go_meet;rw [HB.out];have := HF.out;rw [HK.out] at this ⊢;exact this
  case rest =>
  obtain ⟨W5, rfl⟩ : ∃ W : World, W = wc := ⟨_, rfl⟩;obtain ⟨bo, it, st, di, vk, vi, vr, K, I, R, r', k', e', j1, j2, j3, j4, j5, j6⟩ := hcut.out;rw [<- XK.out] at j6;obtain ⟨A1, c1, A2, c2, A3, c3, rfl, rfl, rfl, g1, g2⟩ := QE (t := (tn : Int)) (e := 0) HB0 (q := W.heap.size + 1) (by have := JS.out; omega) Fq j1 j2 j3 j4 j5 MQ (fun h => absurd rfl h) (fun _ => j6)
  have HG2 := zh g2;have Br := zh (Cw g1 (.int .i64 x.kind) (.bool bo) (.int .i64 it) (.string st) (.int .i64 di) (.slice A1 K.length c1) (.slice A2 I.length c2) (.slice A3 R.length c3));obtain ⟨⟨x0, x1, x2, x3, x4, x5, x6, x7⟩, y0, y1, y2, y3, y4, y5, y6, y7⟩ := zK g1;obtain ⟨⟨v0, v1, v2, v3, v4, v5, v6, v7⟩, _⟩ := j2.cells;clear g1 g2 hcut j1 j2 j3 j4 j5 j6;go_wp2
  clear x0 x1 x2 x3 x4 x5 x6 x7 y0 y1 y2 y3 y4 y5 y6 y7 v0 v1 v2 v3 v4 v5 v6 v7;unfold Go.Proofs.YthkkllmmbefedaaGreatDoor.q8 Go.Proofs.YthkkllmmbefedaaGreatDoor.q5 at HG2 Br;generalize World.setCell _ _ _ = W9 at *;obtain ⟨⟨x0, x1, x2, x3, x4, x5, x6, x7⟩, _⟩ := zK Br
  refine bodyPost_ret (v := .agg #[.int .i64 x.kind, .bool bo, .int .i64 it, .string st, .int .i64 di, .slice A1 K.length c1, .slice A2 I.length c2, .slice A3 R.length c3]) (by simp [results, Tryz.results79, go_sem, x0, x1, x2, x3, x4, x5, x6, x7]) rfl HG2
end Go.Proofs.YthkkllmmbefedaaGreatDoor



