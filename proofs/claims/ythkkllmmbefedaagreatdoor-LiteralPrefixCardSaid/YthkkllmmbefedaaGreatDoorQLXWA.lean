/-
  Walks: lexer.token: symbols.
-/
import Derived.Test.YthkkllmmbefedaaGreatDoorQGL0
namespace Go.Proofs.YthkkllmmbefedaaGreatDoor
open Go.RowKit Tryz
set_option maxHeartbeats 16000000
set_option maxRecDepth 100000
theorem Uc:(prog.info? 59).map (·.size)=some 5:=by kernel_rfl
theorem Yp (a:ByteArray):(#[Value.int .i64 4,.string a,.int .i64 0,.string ⟨#[]⟩,.int .i64 0]).all (·.oneCell')=true:=by simp[Value.oneCell']
variable {w:World}
theorem NG {b:Nat} (h:w.heap[b]? = some (.cells #[.int .i64 0,.string ⟨#[]⟩,.int .i64 0,.string ⟨#[]⟩,.int .i64 0] 59 (0,0))):w.there b 0 5:=fun j hj=>by
 rw[Nat.zero_add];refine ⟨?_,AAG _ _ _ _ _ h⟩;rw[AAC _ _ _ _ _ _ h]
 match j,hj with
 | 0,_=>rfl
 | 1,_=>rfl
 | 2,_=>rfl
 | 3,_=>rfl
 | 4,_=>rfl
theorem DY {b:Nat} {a:ByteArray} (h:w.heap[b]? = some (.cells #[.int .i64 0,.string ⟨#[]⟩,.int .i64 0,.string ⟨#[]⟩,.int .i64 0] 59 (0,0))):
  ∀j (u:Value),[Value.int .i64 4,.string a,.int .i64 0,.string ⟨#[]⟩,.int .i64 0][j]? = some u->(w.setCells b 0 [.int .i64 4,.string a,.int .i64 0,.string ⟨#[]⟩,.int .i64 0]).cell? ⟨b,j,none⟩=some u:=fun j u hj=>by
 have:=World.rangeAt_setCells_same w b 0 [Value.int .i64 4,.string a,.int .i64 0,.string ⟨#[]⟩,.int .i64 0] (NG h) j u hj
 rwa [Nat.zero_add] at this
variable {k:Nat}
theorem Uh (_hk:k<Ao.length) (h:k<Dg.length):Dg[k]=bA Ao[k]:=by simp only[Dg,List.getElem_map];rfl
theorem RB (hk:k<Ao.length):(bA Ao[k]).size<=2:=by
 have e:(bA Ao[k]).size=Ao[k].length:=List.size_toArray;rw[e]
 rcases aL _ (AAL hk) with h|h <;> omega
theorem Yw {w':World} {s:ByteArray} (hk:k<Ao.length) (ht:CP s.data.toList=(Ck s.data.toList).map fun n=>(⟨4,bA (s.data.toList.take n),0,⟨#[]⟩,0⟩,n)) (h1:Ck s.data.toList=some Ao[k].length) (h2:s.data.toList.take Ao[k].length=Ao[k]) (hb:Below w.heap.size w w') {a:ByteArray} (ha:a=bA Ao[k]):
  Ey w s.data.toList (.returned (.tuple #[.agg #[.int .i64 4,.string a,.int .i64 0,.string ⟨#[]⟩,.int .i64 0],.int .i64 a.size,.bool true])) w':=by
 rw[h1] at ht;subst ha;exact SQ ht hb (by rw[h2];rfl) (by show ((Ao[k].toArray.size:Nat):Int)=_;rw[List.size_toArray]) rfl
theorem oP (s:ByteArray) (hs:s.size<=140737488355328) (h1:0<s.size) (h45:s[0].toNat≠45) (hl0:BM s[0]=false) (hd0:zZ s[0]=false) (hc:s[0].toNat≠34) (hsy:Ck s.data.toList≠none) (w:World) {A:zo} {c:Nat} (hE:Lc w A c):Calls prog 77 #[.string s] w (Ey w s.data.toList):=by
 have PG:=zh (PZ (G9 h1) hl0 hd0 (by simp[h45]) hc)
 have hl:Dn (s[0].toNat:Int)=false:=hl0;have HD:Hid (FX (s[0].toNat:Int)=false):=hd0;have q2:((s[0].toNat:Int)==34)=false:=by simp;omega
 have q1:((s[0].toNat:Int)==45)=false:=by simp;omega
 have HD1:=HD;clear h45;have fP:=zh hsy;have PO:=zh (hE.below (zI w (.cells #[.string s] 9) (.cells #[.int .i64 0,.string ⟨#[]⟩,.int .i64 0,.string ⟨#[]⟩,.int .i64 0] 59)));have HEW:=zh hE;clear hE hl0 hd0 hsy hc;have E5:=zh hs;have YV:=zh hl;obtain ⟨HB1,HX0,Ei⟩:=zy w (.cells #[.string s] 9) (.cells #[.int .i64 0,.string ⟨#[]⟩,.int .i64 0,.string ⟨#[]⟩,.int .i64 0] 59);clear hl
 go_enter func77,ntmps77
 go_upto_region 1 with fail
 generalize (w.alloc (.cells #[.string s] 9)).alloc (.cells #[.int .i64 0,.string ⟨#[]⟩,.int .i64 0,.string ⟨#[]⟩,.int .i64 0] 59)=W1 at *;have x0:W1.cell? ⟨w.heap.size,0,none⟩=some (.string s):=by rw[AAC _ _ _ _ _ _ HX0.O];rfl
 have y0:=PO.O.cell;have Tn:=zh x0;go_wp2_with (first|(go_at_call 116;refine (yI _ _).mono ?_;rintro e w' ⟨rfl,rfl⟩;rw[YV.O])|(go_at_call 117;refine (Bj _ _).mono ?_;rintro e w' ⟨rfl,rfl⟩;first|rw[HD.O]|rw[HD1.O]));refine (Gg s w.heap.size Dg A c W1 PO.O.rows Tn).mono ?_;rintro e w5 ⟨i,rfl,hi,hb⟩
 rcases MV hi with ⟨_,h⟩|⟨k,hk,rfl,hs1,hs2⟩
 ·exact absurd h fP
 have CO:=zh (QB Ei hb);have Aq:=zh (zB HB1 hb);have Mv:=zh (PO.O.below hb);have hlB:Dg.length=18:=rfl;have QI:k<18:=hk;obtain ⟨b,o,rfl,hr1,a0⟩:=Mv.O.rows.fF (show k<Dg.length by rw[hlB];exact QI)
 have y5:=Mv.O.cell;have HF:=zh (fun w' (h:Below w.heap.size w w') a (ha:a=bA Ao[k])=>Yw (w:=w) (w':=w') hk PG hs1 hs2 h ha)
 have HSB:=zh (Uh hk (by rw[hlB];exact QI))
 have HC0:=zh HEW.O.cell;have WZ:Hid (w.cell? ⟨b,o+k,none⟩=some (.string (Dg[k]'(by rw[hlB];exact QI)))):=by
  obtain ⟨b',o',e,_,h⟩:=HEW.O.rows.fF (show k<Dg.length by rw[hlB];exact QI)
  injection e with e
  injection e with e1 e2
  subst e1 e2;exact h
 generalize Dg[k]'(by rw[hlB];exact QI)=sy at *
 have hss:sy.size<=2:=by rw[HSB.O];exact RB hk
 have n0:(0:Int)<=(k:Int):=by omega
 have n1:(k:Int)<18:=by omega
 have n2:¬ (k:Int)<0:=by omega
 clear hb hi x0 y0 hs1 hs2 hr1;have l0:=zL y5;have l1:=zL a0;simp only at l0 l1;have l2:=(zg.1 CO).1;go_upto_region 16 with fail
 refine wp_region_held_drew (S:=(fun w'=>(w'.cell? ⟨0,0,none⟩=some (.slice (some ⟨b,o,none⟩) 18 c)/\w'.cell? ⟨b,o+k,none⟩=some (.string sy))/\Hid (Below w.heap.size w w'))) (by kernel_rfl) ?_ (fun AQ=>?_)
 ·(try dsimp only);exact ⟨⟨zA (zC Aq 1) HC0,zA (zC Aq 1) WZ⟩,zC Aq 1⟩
 refine tL 0 ?_;try simp only[ps]
 refine tL 1 ?_;try simp only[ps]
 refine tL 2 ?_;try simp only[ps]
 refine tL 3 ?_;try simp only[ps]
 refine tL 4 ?_;try simp only[ps]
 refine tL 5 ?_;try simp only[ps]
 refine tL 6 ?_;try simp only[ps]
 refine tL 7 ?_;try simp only[ps]
 refine tL 8 ?_;try simp only[ps]
 refine tL 9 ?_;try simp only[ps]
 refine tR 10 (fun K hK=>?_)
 (simp only[List.getElem_toArray,List.getElem_cons_zero,List.getElem_cons_succ];rw[AAB (by rfl)];refine wp_store_mid 59 (.tmp 2) (.tmp 93) rfl (w.heap.size+1) (0) (#[.int .i64 4,.string sy,.int .i64 0,.string ⟨#[]⟩,.int .i64 0]) (by rfl) (by rfl) ?_ ?_ ?_ ?_;(exact NG CO);(exact Uc);(exact Yp sy))
 refine hK.out _ _ ?_ (fun AQ=>?_)
 ·(try dsimp only);exact ⟨⟨zA (yC _ (Nat.le_succ _) _ _ _ AQ.2.O) HC0,zA (yC _ (Nat.le_succ _) _ _ _ AQ.2.O) WZ⟩,yC _ (Nat.le_succ _) _ _ _ AQ.2.O⟩
 clear hK K;try simp only[ps]
 refine tL 11 ?_;try simp only[ps]
 refine tL 12 ?_;try simp only[ps]
 refine wpAnyH_done (by kernel_rfl) ?_ _
 have t0:=DY (a:=sy) (w:=w5.drew) CO 0 _ rfl;have t1:=DY (a:=sy) (w:=w5.drew) CO 1 _ rfl;have t2:=DY (a:=sy) (w:=w5.drew) CO 2 _ rfl;have t3:=DY (a:=sy) (w:=w5.drew) CO 3 _ rfl;have t4:=DY (a:=sy) (w:=w5.drew) CO 4 _ rfl;go_wp2
 refine bodyPost_ret (v := .tuple #[.agg #[.int .i64 4,.string sy,.int .i64 0,.string ⟨#[]⟩,.int .i64 0],.int .i64 sy.size,.bool true]) (by simp[results,results77,go_sem,t0,t1,t2,t3,t4]) rfl ?_
 exact HF.O _ AQ.2.O sy HSB
