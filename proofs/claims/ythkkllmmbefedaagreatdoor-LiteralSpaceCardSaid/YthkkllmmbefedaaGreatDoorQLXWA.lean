/-
  Walks: lexer.token: symbols.
-/
import Derived.Test.YthkkllmmbefedaaGreatDoorQGL0
import Derived.Test.YthkkllmmbefedaaGreatDoorQGA6
namespace Go.Proofs.YthkkllmmbefedaaGreatDoor
open Go.RowKit
set_option maxHeartbeats 16000000
set_option maxRecDepth 100000
theorem tok_info:(Tryz.prog.info? 59).map (·.size)=some 5:=by kernel_rfl
theorem tok_one (a:ByteArray):(#[Value.int .i64 4,.string a,.int .i64 0,.string ⟨#[]⟩,.int .i64 0]).all (·.oneCell')=true:=by simp[Value.oneCell']
theorem tok_there {w:World} {b:Nat} (h:w.heap[b]? = some (.cells #[.int .i64 0,.string ⟨#[]⟩,.int .i64 0,.string ⟨#[]⟩,.int .i64 0] 59 (0,0))):w.there b 0 5:=fun j hj=>by
 rw[Nat.zero_add];refine ⟨?_,frozen_of_row _ _ _ _ _ h⟩;rw[cell_of_row _ _ _ _ _ _ h]
 match j,hj with
 | 0,_=>rfl
 | 1,_=>rfl
 | 2,_=>rfl
 | 3,_=>rfl
 | 4,_=>rfl
theorem tok_cells {w:World} {b:Nat} {a:ByteArray} (h:w.heap[b]? = some (.cells #[.int .i64 0,.string ⟨#[]⟩,.int .i64 0,.string ⟨#[]⟩,.int .i64 0] 59 (0,0))) :
  ∀j (u:Value),[Value.int .i64 4,.string a,.int .i64 0,.string ⟨#[]⟩,.int .i64 0][j]? = some u→(w.setCells b 0 [.int .i64 4,.string a,.int .i64 0,.string ⟨#[]⟩,.int .i64 0]).cell? ⟨b,j,none⟩=some u:=fun j u hj=>by
 have:=World.rangeAt_setCells_same w b 0 [Value.int .i64 4,.string a,.int .i64 0,.string ⟨#[]⟩,.int .i64 0] (tok_there h) j u hj
 rwa [Nat.zero_add] at this
theorem symB_get {k:Nat} (_hk:k<symsT.length) (h:k<symsB.length):symsB[k]=bA symsT[k]:=by simp only[symsB,List.getElem_map];rfl
theorem symB_size {k:Nat} (hk:k<symsT.length):(bA symsT[k]).size≤2:=by
 have e:(bA symsT[k]).size=symsT[k].length:=List.size_toArray;rw[e]
 rcases symsT_len _ (List.getElem_mem hk) with h|h <;> omega
theorem sym_end {w w':World} {s:ByteArray} {k:Nat} (hk:k<symsT.length) (ht:tokL s.data.toList=(symL s.data.toList).map fun n=>(⟨4,bA (s.data.toList.take n),0,⟨#[]⟩,0⟩,n)) (h1:symL s.data.toList=some symsT[k].length) (h2:s.data.toList.take symsT[k].length=symsT[k]) (hb:Below w.heap.size w w') {a:ByteArray} (ha:a=bA symsT[k]) :
  TkPost w s.data.toList (.returned (.tuple #[.agg #[.int .i64 4,.string a,.int .i64 0,.string ⟨#[]⟩,.int .i64 0],.int .i64 a.size,.bool true])) w':=by
 rw[h1] at ht;subst ha;exact tk_some ht hb (by rw[h2];rfl) (by show ((symsT[k].toArray.size:Nat):Int)=_;rw[List.size_toArray]) rfl
theorem tok_sy1 (s:ByteArray) (hs:s.size≤140737488355328) (h1:0<s.size) (h45:s[0].toNat≠45) (hl0:isLetB s[0]=false) (hd0:zZ s[0]=false) (hc:s[0].toNat≠34) (hsy:symL s.data.toList≠none) (w:World) {A:zo} {c:Nat} (hE:SymE w A c):Calls Tryz.prog 77 #[.string s] w (TkPost w s.data.toList):=by
 have HTK:=zh (tok_sy (list0 h1) hl0 hd0 (by simp[h45]) hc)
 have hl:letC (s[0].toNat:Int)=false:=hl0;have HD:Hid (digI (s[0].toNat:Int)=false):=hd0;have q2:((s[0].toNat:Int)==34)=false:=by simp;omega
 have q1:((s[0].toNat:Int)==45)=false:=by simp;omega
 have HD1:=HD;clear h45;have HSN:=zh hsy;have HE1:=zh (hE.below (zI w (.cells #[.string s] 9) (.cells #[.int .i64 0,.string ⟨#[]⟩,.int .i64 0,.string ⟨#[]⟩,.int .i64 0] 59)));have HEW:=zh hE;clear hE hl0 hd0 hsy hc;have HSZ:=zh hs;have HLF:=zh hl;obtain ⟨HB1,HX0,HX1⟩:=zy w (.cells #[.string s] 9) (.cells #[.int .i64 0,.string ⟨#[]⟩,.int .i64 0,.string ⟨#[]⟩,.int .i64 0] 59);clear hl
 go_enter Tryz.func77,Tryz.ntmps77
 go_upto_region 1 with fail
 generalize (w.alloc (.cells #[.string s] 9)).alloc (.cells #[.int .i64 0,.string ⟨#[]⟩,.int .i64 0,.string ⟨#[]⟩,.int .i64 0] 59)=W1 at *;have x0:W1.cell? ⟨w.heap.size,0,none⟩=some (.string s):=by rw[cell_of_row _ _ _ _ _ _ HX0.out];rfl
 have y0:=HE1.out.cell;have HX0b:=zh x0;go_wp2_with (first|(go_at_call 116;refine (yI _ _).mono ?_;rintro e w' ⟨rfl,rfl⟩;rw[HLF.out])|(go_at_call 117;refine (isDigit_any _ _).mono ?_;rintro e w' ⟨rfl,rfl⟩;first|rw[HD.out]|rw[HD1.out]));refine (idxTok_any s w.heap.size symsB A c W1 HE1.out.rows HX0b.out).mono ?_;rintro e w5 ⟨i,rfl,hi,hb⟩
 rcases idx_sym hi with ⟨_,h⟩|⟨k,hk,rfl,hs1,hs2⟩
 ·exact absurd h HSN.out
 have HX5:=zh (nblkL HX1.out hb);have HB5:=zh (zB HB1.out hb);have HSY:=zh (HE1.out.below hb);have hlB:symsB.length=18:=rfl;have hk18:k<18:=hk;obtain ⟨b,o,rfl,hr1,a0⟩:=HSY.out.rows.at1 (show k<symsB.length by rw[hlB];exact hk18)
 have y5:=HSY.out.cell;have HF:=zh (fun w' (h:Below w.heap.size w w') a (ha:a=bA symsT[k])=>sym_end (w:=w) (w':=w') hk HTK.out hs1 hs2 h ha)
 have HSB:=zh (symB_get hk (by rw[hlB];exact hk18))
 have HC0:=zh HEW.out.cell;have HC1:Hid (w.cell? ⟨b,o+k,none⟩=some (.string (symsB[k]'(by rw[hlB];exact hk18)))):=by
  obtain ⟨b',o',e,_,h⟩:=HEW.out.rows.at1 (show k<symsB.length by rw[hlB];exact hk18)
  injection e with e
  injection e with e1 e2
  subst e1 e2;exact h
 generalize symsB[k]'(by rw[hlB];exact hk18)=sy at *
 have hss:sy.size≤2:=by rw[HSB.out];exact symB_size hk
 have n0:(0:Int)≤(k:Int):=by omega
 have n1:(k:Int)<18:=by omega
 have n2:¬ (k:Int)<0:=by omega
 clear hb hi x0 y0 hs1 hs2 hr1;have l0:=zL y5;have l1:=zL a0;simp only at l0 l1;have l2:=(zg.1 HX5.out).1;go_upto_region 16 with fail
 refine wp_region_held_drew (S:=(fun w'=>(w'.cell? ⟨0,0,none⟩=some (.slice (some ⟨b,o,none⟩) 18 c)∧w'.cell? ⟨b,o+k,none⟩=some (.string sy))∧Hid (Below w.heap.size w w'))) (by kernel_rfl) ?_ (fun zH_=>?_)
 ·(try dsimp only);exact ⟨⟨zA (zC HB5.out 1) HC0.out,zA (zC HB5.out 1) HC1.out⟩,zC HB5.out 1⟩
 refine tL 0 ?_;try simp only[ps]
 refine tL 1 ?_;try simp only[ps]
 refine tL 2 ?_;try simp only[ps]
 refine tL 3 ?_;try simp only[ps]
 refine tL 4 ?_;try simp only[ps]
 refine tL 5 ?_;try simp only[ps]
 refine tL 6 ?_;try simp only[ps]
 refine tL 7 ?_;try simp only[ps]
 refine tL 8 ?_;try simp only[ps]
 refine tL 9 ?_;try simp only[ps]
 refine tR 10 (fun K hK=>?_)
 (simp only[List.getElem_toArray,List.getElem_cons_zero,List.getElem_cons_succ];rw[if_pos (by rfl)];refine wp_store_mid 59 (.tmp 2) (.tmp 93) rfl (w.heap.size+1) (0) (#[.int .i64 4,.string sy,.int .i64 0,.string ⟨#[]⟩,.int .i64 0]) (by rfl) (by rfl) ?_ ?_ ?_ ?_;(exact tok_there HX5.out);(exact tok_info);(exact tok_one sy))
 refine hK.out _ _ ?_ (fun zH_=>?_)
 ·(try dsimp only);exact ⟨⟨zA (yC _ (Nat.le_succ _) _ _ _ zH_.2.out) HC0.out,zA (yC _ (Nat.le_succ _) _ _ _ zH_.2.out) HC1.out⟩,yC _ (Nat.le_succ _) _ _ _ zH_.2.out⟩
 clear hK K;try simp only[ps]
 refine tL 11 ?_;try simp only[ps]
 refine tL 12 ?_;try simp only[ps]
 refine wpAnyH_done (by kernel_rfl) ?_ _
 have t0:=tok_cells (a:=sy) (w:=w5.drew) HX5.out 0 _ rfl;have t1:=tok_cells (a:=sy) (w:=w5.drew) HX5.out 1 _ rfl;have t2:=tok_cells (a:=sy) (w:=w5.drew) HX5.out 2 _ rfl;have t3:=tok_cells (a:=sy) (w:=w5.drew) HX5.out 3 _ rfl;have t4:=tok_cells (a:=sy) (w:=w5.drew) HX5.out 4 _ rfl;go_wp2
 refine bodyPost_ret (v := .tuple #[.agg #[.int .i64 4,.string sy,.int .i64 0,.string ⟨#[]⟩,.int .i64 0],.int .i64 sy.size,.bool true]) (by simp[results,Tryz.results77,go_sem,t0,t1,t2,t3,t4]) rfl ?_
 exact HF.out _ zH_.2.out sy HSB.out
theorem tok_sy3 (s:ByteArray) (hs:s.size≤140737488355328) (h1:0<s.size) (h45:s[0].toNat=45) (h2:1<s.size) (hd1:zZ s[1]=false) (hl0:isLetB s[0]=false) (hd0:zZ s[0]=false) (hc:s[0].toNat≠34) (hsy:symL s.data.toList≠none) (w:World) {A:zo} {c:Nat} (hE:SymE w A c):Calls Tryz.prog 77 #[.string s] w (TkPost w s.data.toList):=by
 have HTK:=zh (tok_sy (list0 h1) hl0 hd0 (by rw[snd_head h2,hd1,Bool.and_false]) hc)
 have hl:letC (s[0].toNat:Int)=false:=hl0;have HD:Hid (digI (s[0].toNat:Int)=false):=hd0;have q2:((s[0].toNat:Int)==34)=false:=by simp;omega
 have q1:((s[0].toNat:Int)==45)=true:=by simp[h45]
 have i1:(1:Int)<(s.size:Int):=by omega
 have HD1:Hid (digI (s[1].toNat:Int)=false):=hd1;clear h45 hd1;have HSN:=zh hsy;have HE1:=zh (hE.below (zI w (.cells #[.string s] 9) (.cells #[.int .i64 0,.string ⟨#[]⟩,.int .i64 0,.string ⟨#[]⟩,.int .i64 0] 59)));have HEW:=zh hE;clear hE hl0 hd0 hsy hc;have HSZ:=zh hs;have HLF:=zh hl
 obtain ⟨HB1,HX0,HX1⟩:=zy w (.cells #[.string s] 9) (.cells #[.int .i64 0,.string ⟨#[]⟩,.int .i64 0,.string ⟨#[]⟩,.int .i64 0] 59);clear hl
 go_enter Tryz.func77,Tryz.ntmps77
 go_upto_region 1 with fail
 generalize (w.alloc (.cells #[.string s] 9)).alloc (.cells #[.int .i64 0,.string ⟨#[]⟩,.int .i64 0,.string ⟨#[]⟩,.int .i64 0] 59)=W1 at *;have x0:W1.cell? ⟨w.heap.size,0,none⟩=some (.string s):=by rw[cell_of_row _ _ _ _ _ _ HX0.out];rfl
 have y0:=HE1.out.cell;have HX0b:=zh x0;go_wp2_with (first|(go_at_call 116;refine (yI _ _).mono ?_;rintro e w' ⟨rfl,rfl⟩;rw[HLF.out])|(go_at_call 117;refine (isDigit_any _ _).mono ?_;rintro e w' ⟨rfl,rfl⟩;first|rw[HD.out]|rw[HD1.out]));refine (idxTok_any s w.heap.size symsB A c W1 HE1.out.rows HX0b.out).mono ?_;rintro e w5 ⟨i,rfl,hi,hb⟩
 rcases idx_sym hi with ⟨_,h⟩|⟨k,hk,rfl,hs1,hs2⟩
 ·exact absurd h HSN.out
 have HX5:=zh (nblkL HX1.out hb);have HB5:=zh (zB HB1.out hb);have HSY:=zh (HE1.out.below hb);have hlB:symsB.length=18:=rfl;have hk18:k<18:=hk;obtain ⟨b,o,rfl,hr1,a0⟩:=HSY.out.rows.at1 (show k<symsB.length by rw[hlB];exact hk18)
 have y5:=HSY.out.cell;have HF:=zh (fun w' (h:Below w.heap.size w w') a (ha:a=bA symsT[k])=>sym_end (w:=w) (w':=w') hk HTK.out hs1 hs2 h ha)
 have HSB:=zh (symB_get hk (by rw[hlB];exact hk18))
 have HC0:=zh HEW.out.cell;have HC1:Hid (w.cell? ⟨b,o+k,none⟩=some (.string (symsB[k]'(by rw[hlB];exact hk18)))):=by
  obtain ⟨b',o',e,_,h⟩:=HEW.out.rows.at1 (show k<symsB.length by rw[hlB];exact hk18)
  injection e with e
  injection e with e1 e2
  subst e1 e2;exact h
 generalize symsB[k]'(by rw[hlB];exact hk18)=sy at *
 have hss:sy.size≤2:=by rw[HSB.out];exact symB_size hk
 have n0:(0:Int)≤(k:Int):=by omega
 have n1:(k:Int)<18:=by omega
 have n2:¬ (k:Int)<0:=by omega
 clear hb hi x0 y0 hs1 hs2 hr1;have l0:=zL y5;have l1:=zL a0;simp only at l0 l1;have l2:=(zg.1 HX5.out).1;go_upto_region 16 with fail
 refine wp_region_held_drew (S:=(fun w'=>(w'.cell? ⟨0,0,none⟩=some (.slice (some ⟨b,o,none⟩) 18 c)∧w'.cell? ⟨b,o+k,none⟩=some (.string sy))∧Hid (Below w.heap.size w w'))) (by kernel_rfl) ?_ (fun zH_=>?_)
 ·(try dsimp only);exact ⟨⟨zA (zC HB5.out 1) HC0.out,zA (zC HB5.out 1) HC1.out⟩,zC HB5.out 1⟩
 refine tL 0 ?_;try simp only[ps]
 refine tL 1 ?_;try simp only[ps]
 refine tL 2 ?_;try simp only[ps]
 refine tL 3 ?_;try simp only[ps]
 refine tL 4 ?_;try simp only[ps]
 refine tL 5 ?_;try simp only[ps]
 refine tL 6 ?_;try simp only[ps]
 refine tL 7 ?_;try simp only[ps]
 refine tL 8 ?_;try simp only[ps]
 refine tL 9 ?_;try simp only[ps]
 refine tR 10 (fun K hK=>?_)
 (simp only[List.getElem_toArray,List.getElem_cons_zero,List.getElem_cons_succ];rw[if_pos (by rfl)];refine wp_store_mid 59 (.tmp 2) (.tmp 93) rfl (w.heap.size+1) (0) (#[.int .i64 4,.string sy,.int .i64 0,.string ⟨#[]⟩,.int .i64 0]) (by rfl) (by rfl) ?_ ?_ ?_ ?_;(exact tok_there HX5.out);(exact tok_info);(exact tok_one sy))
 refine hK.out _ _ ?_ (fun zH_=>?_)
 ·(try dsimp only);exact ⟨⟨zA (yC _ (Nat.le_succ _) _ _ _ zH_.2.out) HC0.out,zA (yC _ (Nat.le_succ _) _ _ _ zH_.2.out) HC1.out⟩,yC _ (Nat.le_succ _) _ _ _ zH_.2.out⟩
 clear hK K;try simp only[ps]
 refine tL 11 ?_;try simp only[ps]
 refine tL 12 ?_;try simp only[ps]
 refine wpAnyH_done (by kernel_rfl) ?_ _
 have t0:=tok_cells (a:=sy) (w:=w5.drew) HX5.out 0 _ rfl;have t1:=tok_cells (a:=sy) (w:=w5.drew) HX5.out 1 _ rfl;have t2:=tok_cells (a:=sy) (w:=w5.drew) HX5.out 2 _ rfl;have t3:=tok_cells (a:=sy) (w:=w5.drew) HX5.out 3 _ rfl;have t4:=tok_cells (a:=sy) (w:=w5.drew) HX5.out 4 _ rfl;go_wp2
 refine bodyPost_ret (v := .tuple #[.agg #[.int .i64 4,.string sy,.int .i64 0,.string ⟨#[]⟩,.int .i64 0],.int .i64 sy.size,.bool true]) (by simp[results,Tryz.results77,go_sem,t0,t1,t2,t3,t4]) rfl ?_
 exact HF.out _ zH_.2.out sy HSB.out
end Go.Proofs.YthkkllmmbefedaaGreatDoor


