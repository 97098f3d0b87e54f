/-
  Walks: sheaveref06.Same, where the tokens are the same but for their lines.
-/
import Derived.Test.YthkkllmmbefedaaGreatDoorQSXLT
import Derived.Test.YthkkllmmbefedaaGreatDoorQGA5
import Derived.Test.YthkkllmmbefedaaGreatDoorQGA6
import Derived.Test.YthkkllmmbefedaaGreatDoorQGA7
import Derived.Test.YthkkllmmbefedaaGreatDoorQGA4
namespace Go.Proofs.YthkkllmmbefedaaGreatDoor
open Go.RowKit
set_option maxHeartbeats 16000000
set_option maxRecDepth 100000
theorem tok_self:Tryz.prog.underlying 59=some (.struct (Tryz.prog.fieldsOf 59)):=by
 unfold Program.fieldsOf;rw[Tryz.underlying59]
theorem run_equalIn_tok (d:Nat) (k:Int) (t:ByteArray) (n:Int) (s:ByteArray) (l:Int) (w:World):(Op.equalIn (d+2) 59 (.agg #[.int .i64 k,.string t,.int .i64 n,.string s,.int .i64 l]) (.agg #[.int .i64 k,.string t,.int .i64 n,.string s,.int .i64 l])).run Tryz.prog w = .ok true w:=by
 rw[run_equalIn_struct w (d+1) 59 _ _ tok_self (by kernel_rfl)]
 unfold Program.fieldsOf;rw[Tryz.underlying59];simp only;rw[eqF_num w d _ _ _ _ k k .i64 .i64 (by decide) (part_num w _ .i64 .i64 _ _ k Tryz.underlying3 rfl) (part_num w _ .i64 .i64 _ _ k Tryz.underlying3 rfl) Tryz.underlying3,if_pos rfl,
  eqF_str w d _ _ _ _ t t (by decide) (part_str w _ _ _ t Tryz.underlying9 rfl) (part_str w _ _ _ t Tryz.underlying9 rfl) Tryz.underlying9,if_pos rfl,
  eqF_num w d _ _ _ _ n n .i64 .i64 (by decide) (part_num w _ .i64 .i64 _ _ n Tryz.underlying2 rfl) (part_num w _ .i64 .i64 _ _ n Tryz.underlying2 rfl) Tryz.underlying2,if_pos rfl,
  eqF_str w d _ _ _ _ s s (by decide) (part_str w _ _ _ s Tryz.underlying9 rfl) (part_str w _ _ _ s Tryz.underlying9 rfl) Tryz.underlying9,if_pos rfl,
  eqF_num w d _ _ _ _ l l .i64 .i64 (by decide) (part_num w _ .i64 .i64 _ _ l Tryz.underlying3 rfl) (part_num w _ .i64 .i64 _ _ l Tryz.underlying3 rfl) Tryz.underlying3,if_pos rfl]
 rfl
theorem run_neq_tok (k:Int) (t:ByteArray) (n:Int) (s:ByteArray) (l:Int) (w:World):(binOp .neq 59 (.agg #[.int .i64 k,.string t,.int .i64 n,.string s,.int .i64 l]) (.agg #[.int .i64 k,.string t,.int .i64 n,.string s,.int .i64 l])).run Tryz.prog w = .ok (.bool false) w:=by
 rw[run_neq_struct,run_equalIn_tok 9998];rfl
abbrev tokO (k:Int) (t:ByteArray) (n:Int) (s:ByteArray) (l:Int):Obj := .cells #[.int .i64 k,.string t,.int .i64 n,.string s,.int .i64 l] 59
abbrev tokC (k:Int) (t:ByteArray) (n:Int) (s:ByteArray) (l:Int):List Value:=[.int .i64 k,.string t,.int .i64 n,.string s,.int .i64 l]
theorem tokO_there {w:World} {b:Nat} {k:Int} {t:ByteArray} {n:Int} {s:ByteArray} {l:Int} (h:w.heap[b]? = some (tokO k t n s l)):w.there b 0 5:=fun j hj=>by
 rw[Nat.zero_add];refine ⟨?_,frozen_of_row _ _ _ _ _ h⟩;rw[cell_of_row _ _ _ _ _ _ h]
 match j,hj with
 | 0,_=>rfl
 | 1,_=>rfl
 | 2,_=>rfl
 | 3,_=>rfl
 | 4,_=>rfl
theorem tokO_info:(Tryz.prog.info? 59).map (·.size)=some 5:=by kernel_rfl
theorem tokO_one (k:Int) (t:ByteArray) (n:Int) (s:ByteArray) (l:Int):((tokC k t n s l).toArray).all (·.oneCell')=true:=by simp[Value.oneCell']
theorem tokO_set {w:World} {p:Nat} {k:Int} {t:ByteArray} {n:Int} {s:ByteArray} {l:Int} (h:w.heap[p]? = some (tokO k t n s l)) (k':Int) (t':ByteArray) (n':Int) (s':ByteArray) (l':Int):(w.setCells p 0 (tokC k' t' n' s' l')).heap[p]? = some (tokO k' t' n' s' l'):=by
 have h0:=heap_setCell_same _ _ 0 _ _ (.int .i64 k') h;have h1:=heap_setCell_same _ _ 1 _ _ (.string t') h0;have h2:=heap_setCell_same _ _ 2 _ _ (.int .i64 n') h1;have h3:=heap_setCell_same _ _ 3 _ _ (.string s') h2;exact heap_setCell_same _ _ 4 _ _ (.int .i64 l') h3
theorem tokO_line {w:World} {p:Nat} {k:Int} {t:ByteArray} {n:Int} {s:ByteArray} {l:Int} (h:w.heap[p]? = some (tokO k t n s l)) (l':Int):(w.setCell ⟨p,4,none⟩ (.int .i64 l')).heap[p]? = some (tokO k t n s l'):=heap_setCell_same _ _ 4 _ _ (.int .i64 l') h
theorem tokO_cells {w:World} {p:Nat} {k:Int} {t:ByteArray} {n:Int} {s:ByteArray} {l:Int} (h:w.heap[p]? = some (tokO k t n s l)):w.cell? ⟨p,0,none⟩=some (.int .i64 k)∧w.cell? ⟨p,1,none⟩=some (.string t)∧w.cell? ⟨p,2,none⟩=some (.int .i64 n)∧w.cell? ⟨p,3,none⟩=some (.string s)∧w.cell? ⟨p,4,none⟩=some (.int .i64 l)∧w.frozen? ⟨p,4,none⟩=false:=by
 refine ⟨?_,?_,?_,?_,?_,frozen_of_row _ _ _ _ _ h⟩ <;> (rw[cell_of_row _ _ _ _ _ _ h];rfl)
structure SmS (w:World) (x y:TokD) (P Q:Nat) (wx:World):Prop where
 ne:P≠Q
 hp:w.heap.size≤P
 hq:w.heap.size≤Q
 p:wx.heap[P]? = some (tokO x.kind x.text x.int x.str x.line)
 q:wx.heap[Q]? = some (tokO y.kind y.text y.int y.str y.line)
 bel:Below w.heap.size w wx
theorem smS_end {w wx:World} {x y:TokD} {P Q:Nat} (hne:P≠Q) (hp:w.heap.size≤P) (hq:w.heap.size≤Q) {k:Int} {t:ByteArray} {n:Int} {s:ByteArray} {l:Int} {k':Int} {t':ByteArray} {n':Int} {s':ByteArray} {l':Int}
  (h1:wx.heap[P]? = some (tokO k t n s l)) (h2:wx.heap[Q]? = some (tokO k' t' n' s' l')) (hb:Below w.heap.size w wx) :
  SmS w x y P Q ((wx.setCells P 0 (tokC x.kind x.text x.int x.str x.line)).setCells Q 0 (tokC y.kind y.text y.int y.str y.line)) :=
 ⟨hne,hp,hq,(zN hne _ _ _).trans (tokO_set h1 _ _ _ _ _),tokO_set ((zN (fun e=>hne e.symm) _ _ _).trans h2) _ _ _ _ _,yC _ hq _ _ _ (yC _ hp _ _ _ hb)⟩
theorem strip_get {l m:List TokD} (h:l.map stripT=m.map stripT) {i:Nat} (hi:i<l.length) (hm:i<m.length):l[i].kind=m[i].kind∧l[i].text=m[i].text∧l[i].int=m[i].int∧l[i].str=m[i].str:=by
 have h1:(l.map stripT)[i]? = (m.map stripT)[i]? := by rw[h]
 rw[List.getElem?_map,List.getElem?_map,zl hi,zl hm] at h1;have h2:stripT l[i]=stripT m[i]:=Option.some.inj h1;unfold stripT at h2
 injection h2 with a b c d e
 exact ⟨a,b,c,d⟩
abbrev tokZ:Obj:=tokO 0 ⟨#[]⟩ 0 ⟨#[]⟩ 0
theorem tok_two (w:World):((w.alloc tokZ).alloc tokZ).heap[w.heap.size]? = some tokZ∧((w.alloc tokZ).alloc tokZ).heap[w.heap.size+1]? = some tokZ:=by
 refine ⟨zE (heap_alloc_new w tokZ) (zD _ _),?_⟩;have h:=heap_alloc_new (w.alloc tokZ) tokZ
 rwa [show (w.alloc tokZ).heap.size=w.heap.size+1 by simp] at h
theorem r06Same_any (l m:List TokD) (A B:zo) (c d:Nat) (w:World) (hl:ToksR w A l) (hm:ToksR w B m) (h:l.map stripT=m.map stripT) :
  Calls Tryz.prog 21 #[.slice A l.length c,.slice B m.length d] w (SamePost true w):=by
 have hlen:m.length=l.length:=by have:=congrArg List.length h;simpa using this.symm
 have hnl:l.length≤140737488355328:=hl.1.lt (by omega)
 have HL:=zh hl;have HM:=zh hm;have HH:=zh h;rw[hlen];have HLN:=zh hlen;have hb0:((l.length:Int) != (l.length:Int))=false:=by simp
 clear hl hm h hlen
 go_enter Tryz.func21,Tryz.ntmps21
 go_wp2
 go_loopw [5] (fun i wr=>∃k:Nat,k≤l.length∧i = .int .i64 k∧Hid (Below w.heap.size w wr)) (fun i _=>l.length - (intOf i).toNat)
 case atStart=>exact ⟨0,by omega,rfl,Below.refl _ _⟩
 case round =>
  obtain ⟨k,hk,rfl,hbw⟩:=hrel;obtain ⟨wo,rfl⟩:∃wo:World,wo=wr:=⟨_,rfl⟩;have HB:=zh hbw.out;clear hbw
  by_cases hlt:k<l.length
  ·have hltm:k<m.length:=by have:=HLN.out;omega
   obtain ⟨b,o,rfl,_,r1⟩:=HL.out.at5 hlt;obtain ⟨b',o',rfl,_,r2⟩:=HM.out.at5 hltm;have HK:Hid (∀w',Below w.heap.size w w'→(w'.cell? ⟨b,o+k * 5,none⟩=some (.int .i64 l[k].kind)∧w'.cell? ⟨b,o+k * 5+1,none⟩=some (.string l[k].text)∧w'.cell? ⟨b,o+k * 5+2,none⟩=some (.int .i64 l[k].int)∧w'.cell? ⟨b,o+k * 5+3,none⟩=some (.string l[k].str)∧w'.cell? ⟨b,o+k * 5+4,none⟩=some (.int .i64 l[k].line)) ∧
     w'.cell? ⟨b',o'+k * 5,none⟩=some (.int .i64 m[k].kind)∧w'.cell? ⟨b',o'+k * 5+1,none⟩=some (.string m[k].text)∧w'.cell? ⟨b',o'+k * 5+2,none⟩=some (.int .i64 m[k].int)∧w'.cell? ⟨b',o'+k * 5+3,none⟩=some (.string m[k].str)∧w'.cell? ⟨b',o'+k * 5+4,none⟩=some (.int .i64 m[k].line)):=fun w' hb=>by
    have q1:=range_below hb r1;have q2:=range_below hb r2;exact ⟨⟨q1 0 _ rfl,q1 1 _ rfl,q1 2 _ rfl,q1 3 _ rfl,q1 4 _ rfl⟩,q2 0 _ rfl,q2 1 _ rfl,q2 2 _ rfl,q2 3 _ rfl,q2 4 _ rfl⟩
   have HEQ:=zh (strip_get HH.out hlt hltm);have h1:(0:Int)≤(k:Int):=by omega
   have h2:(k:Int)<(l.length:Int):=by omega
   have HZ2:=zh (tok_two wo);have HBZ:Hid (Below w.heap.size w ((wo.alloc tokZ).alloc tokZ).drew):=zC (zB (zB HB.out (zD _ _)) (zD _ _)) 1;clear r1 r2;generalize l[k]=x at *;generalize m[k]=y at *;go_upto_region 6 with fail
   go_cut [6,7] (fun p q wx=>∃P Q:Nat,p = .pointer (some ⟨P,0,none⟩)∧q = .pointer (some ⟨Q,0,none⟩)∧Hid (SmS w x y P Q wx))
   case first =>
    refine wp_region_held_drew (S:=(fun w'=>((w'.cell? ⟨b,o+k * 5,none⟩=some (.int .i64 x.kind)∧w'.cell? ⟨b,o+k * 5+1,none⟩=some (.string x.text)∧w'.cell? ⟨b,o+k * 5+2,none⟩=some (.int .i64 x.int)∧w'.cell? ⟨b,o+k * 5+3,none⟩=some (.string x.str)∧w'.cell? ⟨b,o+k * 5+4,none⟩=some (.int .i64 x.line))∧w'.cell? ⟨b',o'+k * 5,none⟩=some (.int .i64 y.kind)∧w'.cell? ⟨b',o'+k * 5+1,none⟩=some (.string y.text)∧w'.cell? ⟨b',o'+k * 5+2,none⟩=some (.int .i64 y.int)∧w'.cell? ⟨b',o'+k * 5+3,none⟩=some (.string y.str)∧w'.cell? ⟨b',o'+k * 5+4,none⟩=some (.int .i64 y.line))∧Hid (Below w.heap.size w w'))) (by kernel_rfl) ?_ (fun zH_=>?_)
    ·(try dsimp only);exact ⟨HK.out _ (zC HB.out 1),zC HB.out 1⟩
    refine tL 0 ?_;refine tL 1 ?_;refine tL 2 ?_;refine tL 3 ?_;refine tL 4 ?_;refine tL 5 ?_;try simp only[ps]
    refine tL 6 ?_;refine tL 7 ?_;refine wpAnyH_ready (rs:=[8,9]) (by kernel_rfl) (by simp) ?_
    refine (AllReadyH.cons rfl (fun K hK=>?_) (AllReadyH.cons rfl (fun K hK=>?_) AllReadyH.nil))
    ·
     go_simp
     refine hK.out _ _ ?_ (fun zH_=>?_)
     ·(try dsimp only);exact ⟨HK.out _ (zB zH_.2.out (zD _ _)),zB zH_.2.out (zD _ _)⟩
     clear hK K;refine tR 9 (fun K hK=>?_)
     go_simp
     refine hK.out _ _ ?_ (fun zH_=>?_)
     ·(try dsimp only);exact ⟨HK.out _ (zB zH_.2.out (zD _ _)),zB zH_.2.out (zD _ _)⟩
     clear hK K;refine tR 10 (fun K hK=>?_)
     (simp only[List.getElem_toArray,List.getElem_cons_zero,List.getElem_cons_succ];rw[if_pos (by rfl)];refine wp_store_mid 59 (.tmp 6) (.tmp 22) rfl (wo.heap.size) (0) ((tokC x.kind x.text x.int x.str x.line).toArray) (by rfl) (by rfl) ?_ ?_ ?_ ?_;(exact tokO_there HZ2.out.1);(exact tokO_info);(exact tokO_one x.kind x.text x.int x.str x.line))
     refine hK.out _ _ ?_ (fun zH_=>?_)
     ·(try dsimp only);(refine ⟨HK.out _ ?_,?_⟩ <;> exact yC _ (by have:=HB.out.size;omega) _ _ _ zH_.2.out)
     clear hK K;refine tR 11 (fun K hK=>?_)
     (simp only[List.getElem_toArray,List.getElem_cons_zero,List.getElem_cons_succ];rw[if_pos (by rfl)];refine wp_store_mid 59 (.tmp 7) (.tmp 26) rfl (wo.heap.size+1) (0) ((tokC y.kind y.text y.int y.str y.line).toArray) (by rfl) (by rfl) ?_ ?_ ?_ ?_;(exact tokO_there ((zN (by omega) _ _ _).trans HZ2.out.2));(exact tokO_info);(exact tokO_one y.kind y.text y.int y.str y.line))
     refine hK.out _ _ ?_ (fun zH_=>?_)
     ·(try dsimp only);(refine ⟨HK.out _ ?_,?_⟩ <;> exact yC _ (by have:=HB.out.size;omega) _ _ _ zH_.2.out)
     clear hK K;try simp only[ps]
     refine wpAnyH_done (by kernel_rfl) ?_ _
     (have HZE:=zh (smS_end (w:=w) (wx:=((wo.alloc tokZ).alloc tokZ).drew) (x:=x) (y:=y) (P:=wo.heap.size) (Q:=wo.heap.size+1) (by omega) HB.out.size (by have:=HB.out.size;omega) HZ2.out.1 HZ2.out.2 HBZ.out);go_wp2;go_meet;exact ⟨_,_,rfl,rfl,HZE.out⟩)
    ·
     go_simp
     refine hK.out _ _ ?_ (fun zH_=>?_)
     ·(try dsimp only);exact ⟨HK.out _ (zB zH_.2.out (zD _ _)),zB zH_.2.out (zD _ _)⟩
     clear hK K;refine tR 8 (fun K hK=>?_)
     go_simp
     refine hK.out _ _ ?_ (fun zH_=>?_)
     ·(try dsimp only);exact ⟨HK.out _ (zB zH_.2.out (zD _ _)),zB zH_.2.out (zD _ _)⟩
     clear hK K;refine tR 10 (fun K hK=>?_)
     (simp only[List.getElem_toArray,List.getElem_cons_zero,List.getElem_cons_succ];rw[if_pos (by rfl)];refine wp_store_mid 59 (.tmp 6) (.tmp 22) rfl (wo.heap.size+1) (0) ((tokC x.kind x.text x.int x.str x.line).toArray) (by rfl) (by rfl) ?_ ?_ ?_ ?_;(exact tokO_there HZ2.out.2);(exact tokO_info);(exact tokO_one x.kind x.text x.int x.str x.line))
     refine hK.out _ _ ?_ (fun zH_=>?_)
     ·(try dsimp only);(refine ⟨HK.out _ ?_,?_⟩ <;> exact yC _ (by have:=HB.out.size;omega) _ _ _ zH_.2.out)
     clear hK K;refine tR 11 (fun K hK=>?_)
     (simp only[List.getElem_toArray,List.getElem_cons_zero,List.getElem_cons_succ];rw[if_pos (by rfl)];refine wp_store_mid 59 (.tmp 7) (.tmp 26) rfl (wo.heap.size) (0) ((tokC y.kind y.text y.int y.str y.line).toArray) (by rfl) (by rfl) ?_ ?_ ?_ ?_;(exact tokO_there ((zN (by omega) _ _ _).trans HZ2.out.1));(exact tokO_info);(exact tokO_one y.kind y.text y.int y.str y.line))
     refine hK.out _ _ ?_ (fun zH_=>?_)
     ·(try dsimp only);(refine ⟨HK.out _ ?_,?_⟩ <;> exact yC _ (by have:=HB.out.size;omega) _ _ _ zH_.2.out)
     clear hK K;refine wpAnyH_done (by kernel_rfl) ?_ _
     (have HZE:=zh (smS_end (w:=w) (wx:=((wo.alloc tokZ).alloc tokZ).drew) (x:=x) (y:=y) (P:=wo.heap.size+1) (Q:=wo.heap.size) (by omega) (by have:=HB.out.size;omega) HB.out.size HZ2.out.2 HZ2.out.1 HBZ.out);go_wp2;go_meet;exact ⟨_,_,rfl,rfl,HZE.out⟩)
   case rest =>
   obtain ⟨P,Q,rfl,rfl,hcc⟩:=hcut;obtain ⟨W2,rfl⟩:∃W2:World,W2=wc:=⟨_,rfl⟩;have HSM:=zh hcc.out;clear hcc;have heq:∀w,(binOp .neq 59 (.agg #[.int .i64 x.kind,.string x.text,.int .i64 x.int,.string x.str,.int .i64 0]) (.agg #[.int .i64 y.kind,.string y.text,.int .i64 y.int,.string y.str,.int .i64 0])).run Tryz.prog w = .ok (.bool false) w:=fun w=>by
    rw[HEQ.out.1,HEQ.out.2.1,HEQ.out.2.2.1,HEQ.out.2.2.2];exact run_neq_tok _ _ _ _ _ w
   have HP1:=zh (tokO_line HSM.out.p 0);have HQ1:=zh ((heap_setCell_other W2 ⟨P,4,none⟩ Q (.int .i64 0) (fun e=>HSM.out.ne e.symm)).trans HSM.out.q)
   have HQ2:=zh (tokO_line HQ1.out 0);have HP2:=zh ((heap_setCell_other (W2.setCell ⟨P,4,none⟩ (.int .i64 0)) ⟨Q,4,none⟩ P (.int .i64 0) HSM.out.ne).trans HP1.out);have HB2:Hid (Below w.heap.size w ((W2.setCell ⟨P,4,none⟩ (.int .i64 0)).setCell ⟨Q,4,none⟩ (.int .i64 0))):=(HSM.out.bel.setCell (p:=⟨P,4,none⟩) HSM.out.hp _).setCell (p:=⟨Q,4,none⟩) HSM.out.hq _
   obtain ⟨_,_,_,_,p4,pf⟩:=tokO_cells HSM.out.p;obtain ⟨_,_,_,_,q4,qf⟩:=tokO_cells HQ1.out;go_upto_region 8 with fail
   clear p4 pf q4 qf;generalize (W2.setCell ⟨P,4,none⟩ (.int .i64 0)).setCell ⟨Q,4,none⟩ (.int .i64 0)=W4 at *;obtain ⟨p0,p1,p2,p3,p4,_⟩:=tokO_cells HP2.out;obtain ⟨q0,q1,q2,q3,q4,_⟩:=tokO_cells HQ2.out;go_wp2;go_roundw
   case rel=>exact ⟨k+1,by omega,by go_num,HB2.out⟩
   case measure=>simp[intOf];omega
  ·go_wp2
   go_ret
   exact ⟨rfl,HB.out⟩
end Go.Proofs.YthkkllmmbefedaaGreatDoor


