/-
  Walks: lexer.token: symbols.
-/
import Derived.Test.YthkkllmmbefedaaGreatDoorQGL0
import Derived.Test.YthkkllmmbefedaaGreatDoorQGA6
namespace Go.Proofs.YthkkllmmbefedaaGreatDoor
open Go.RowKit
set_option maxHeartbeats 16000000
set_option maxRecDepth 100000
theorem SI:(Tryz.prog.info? 59).map (·.size)=some 5:=by kernel_rfl
theorem WG (a:ByteArray):(#[Value.int .i64 4,.string a,.int .i64 0,.string ⟨#[]⟩,.int .i64 0]).all (·.oneCell')=true:=by simp[Value.oneCell']
variable {w:World}
theorem LZ {b:Nat} (h:w.heap[b]? = some (.cells #[.int .i64 0,.string ⟨#[]⟩,.int .i64 0,.string ⟨#[]⟩,.int .i64 0] 59 (0,0))):w.there b 0 5:=fun j hj=>by
 rw[Nat.zero_add];refine ⟨?_,AAL _ _ _ _ _ h⟩;rw[AAE _ _ _ _ _ _ h]
 match j,hj with
 | 0,_=>rfl
 | 1,_=>rfl
 | 2,_=>rfl
 | 3,_=>rfl
 | 4,_=>rfl
theorem Cu {b:Nat} {a:ByteArray} (h:w.heap[b]? = some (.cells #[.int .i64 0,.string ⟨#[]⟩,.int .i64 0,.string ⟨#[]⟩,.int .i64 0] 59 (0,0))):
  ∀j (u:Value),[Value.int .i64 4,.string a,.int .i64 0,.string ⟨#[]⟩,.int .i64 0][j]? = some u->(w.setCells b 0 [.int .i64 4,.string a,.int .i64 0,.string ⟨#[]⟩,.int .i64 0]).cell? ⟨b,j,none⟩=some u:=fun j u hj=>by
 have:=World.rangeAt_setCells_same w b 0 [Value.int .i64 4,.string a,.int .i64 0,.string ⟨#[]⟩,.int .i64 0] (LZ h) j u hj
 rwa [Nat.zero_add] at this
variable {k:Nat}
theorem SQ (_hk:k<BO.length) (h:k<Cz.length):Cz[k]=bA BO[k]:=by simp only[Cz,List.getElem_map];rfl
theorem PU (hk:k<BO.length):(bA BO[k]).size<=2:=by
 have e:(bA BO[k]).size=BO[k].length:=List.size_toArray;rw[e]
 rcases Xk _ (AAK hk) with h|h <;> omega
theorem WK {w':World} {s:ByteArray} (hk:k<BO.length) (ht:EK s.data.toList=(FM s.data.toList).map fun n=>(⟨4,bA (s.data.toList.take n),0,⟨#[]⟩,0⟩,n)) (h1:FM s.data.toList=some BO[k].length) (h2:s.data.toList.take BO[k].length=BO[k]) (hb:Below w.heap.size w w') {a:ByteArray} (ha:a=bA BO[k]):
  EG w s.data.toList (.returned (.tuple #[.agg #[.int .i64 4,.string a,.int .i64 0,.string ⟨#[]⟩,.int .i64 0],.int .i64 a.size,.bool true])) w':=by
 rw[h1] at ht;subst ha;exact Qg ht hb (by rw[h2];rfl) (by show ((BO[k].toArray.size:Nat):Int)=_;rw[List.size_toArray]) rfl
theorem iI (s:ByteArray) (hs:s.size<=140737488355328) (h1:0<s.size) (h45:s[0].toNat≠45) (hl0:CP s[0]=false) (hd0:zZ s[0]=false) (hc:s[0].toNat≠34) (hsy:FM s.data.toList≠none) (w:World) {A:zo} {c:Nat} (hE:J8 w A c):Calls Tryz.prog 77 #[.string s] w (EG w s.data.toList):=by
 have NS:=zh (Nb (I4 h1) hl0 hd0 (by simp[h45]) hc)
 have hl:IU (s[0].toNat:Int)=false:=hl0;have HD:Hid (IV (s[0].toNat:Int)=false):=hd0;have q2:((s[0].toNat:Int)==34)=false:=by simp;omega
 have q1:((s[0].toNat:Int)==45)=false:=by simp;omega
 have HD1:=HD;clear h45;have ZT:=zh hsy;have Mk:=zh (hE.below (zI w (.cells #[.string s] 9) (.cells #[.int .i64 0,.string ⟨#[]⟩,.int .i64 0,.string ⟨#[]⟩,.int .i64 0] 59)));have l8:=zh hE;clear hE hl0 hd0 hsy hc;have FR:=zh hs;have Vu:=zh hl;obtain ⟨HB1,HX0,Ei⟩:=zy w (.cells #[.string s] 9) (.cells #[.int .i64 0,.string ⟨#[]⟩,.int .i64 0,.string ⟨#[]⟩,.int .i64 0] 59);clear hl
 go_enter Tryz.func77,Tryz.ntmps77
 go_upto_region 1 with fail
 generalize (w.alloc (.cells #[.string s] 9)).alloc (.cells #[.int .i64 0,.string ⟨#[]⟩,.int .i64 0,.string ⟨#[]⟩,.int .i64 0] 59)=W1 at *;have x0:W1.cell? ⟨w.heap.size,0,none⟩=some (.string s):=by rw[AAE _ _ _ _ _ _ HX0.out];rfl
 have y0:=Mk.out.cell;have Rh:=zh x0;go_wp2_with (first|(go_at_call 116;refine (yI _ _).mono ?_;rintro e w' ⟨rfl,rfl⟩;rw[Vu.out])|(go_at_call 117;refine (Bf _ _).mono ?_;rintro e w' ⟨rfl,rfl⟩;first|rw[HD.out]|rw[HD1.out]));refine (Fu s w.heap.size Cz A c W1 Mk.out.rows Rh).mono ?_;rintro e w5 ⟨i,rfl,hi,hb⟩
 rcases Kw hi with ⟨_,h⟩|⟨k,hk,rfl,hs1,hs2⟩
 ·exact absurd h ZT
 have Bg:=zh (Nv Ei hb);have Ap:=zh (zB HB1 hb);have Oz:=zh (Mk.out.below hb);have hlB:Cz.length=18:=rfl;have OB:k<18:=hk;obtain ⟨b,o,rfl,hr1,a0⟩:=Oz.out.rows.UD (show k<Cz.length by rw[hlB];exact OB)
 have y5:=Oz.out.cell;have HF:=zh (fun w' (h:Below w.heap.size w w') a (ha:a=bA BO[k])=>WK (w:=w) (w':=w') hk NS hs1 hs2 h ha)
 have qO:=zh (SQ hk (by rw[hlB];exact OB))
 have wL:=zh l8.out.cell;have UR:Hid (w.cell? ⟨b,o+k,none⟩=some (.string (Cz[k]'(by rw[hlB];exact OB)))):=by
  obtain ⟨b',o',e,_,h⟩:=l8.out.rows.UD (show k<Cz.length by rw[hlB];exact OB)
  injection e with e
  injection e with e1 e2
  subst e1 e2;exact h
 generalize Cz[k]'(by rw[hlB];exact OB)=sy at *
 have hss:sy.size<=2:=by rw[qO.out];exact PU hk
 have n0:(0:Int)<=(k:Int):=by omega
 have n1:(k:Int)<18:=by omega
 have n2:¬ (k:Int)<0:=by omega
 clear hb hi x0 y0 hs1 hs2 hr1;have l0:=zL y5;have l1:=zL a0;simp only at l0 l1;have l2:=(zg.1 Bg).1;go_upto_region 16 with fail
 refine wp_region_held_drew (S:=(fun w'=>(w'.cell? ⟨0,0,none⟩=some (.slice (some ⟨b,o,none⟩) 18 c)/\w'.cell? ⟨b,o+k,none⟩=some (.string sy))/\Hid (Below w.heap.size w w'))) (by kernel_rfl) ?_ (fun AO=>?_)
 ·(try dsimp only);exact ⟨⟨zA (zC Ap 1) wL,zA (zC Ap 1) UR⟩,zC Ap 1⟩
 refine tL 0 ?_;try simp only[ps]
 refine tL 1 ?_;try simp only[ps]
 refine tL 2 ?_;try simp only[ps]
 refine tL 3 ?_;try simp only[ps]
 refine tL 4 ?_;try simp only[ps]
 refine tL 5 ?_;try simp only[ps]
 refine tL 6 ?_;try simp only[ps]
 refine tL 7 ?_;try simp only[ps]
 refine tL 8 ?_;try simp only[ps]
 refine tL 9 ?_;try simp only[ps]
 refine tR 10 (fun K hK=>?_)
 (simp only[List.getElem_toArray,List.getElem_cons_zero,List.getElem_cons_succ];rw[AAG (by rfl)];refine wp_store_mid 59 (.tmp 2) (.tmp 93) rfl (w.heap.size+1) (0) (#[.int .i64 4,.string sy,.int .i64 0,.string ⟨#[]⟩,.int .i64 0]) (by rfl) (by rfl) ?_ ?_ ?_ ?_;(exact LZ Bg);(exact SI);(exact WG sy))
 refine hK.out _ _ ?_ (fun AO=>?_)
 ·(try dsimp only);exact ⟨⟨zA (yC _ (Nat.le_succ _) _ _ _ AO.2.out) wL,zA (yC _ (Nat.le_succ _) _ _ _ AO.2.out) UR⟩,yC _ (Nat.le_succ _) _ _ _ AO.2.out⟩
 clear hK K;try simp only[ps]
 refine tL 11 ?_;try simp only[ps]
 refine tL 12 ?_;try simp only[ps]
 refine wpAnyH_done (by kernel_rfl) ?_ _
 have t0:=Cu (a:=sy) (w:=w5.drew) Bg 0 _ rfl;have t1:=Cu (a:=sy) (w:=w5.drew) Bg 1 _ rfl;have t2:=Cu (a:=sy) (w:=w5.drew) Bg 2 _ rfl;have t3:=Cu (a:=sy) (w:=w5.drew) Bg 3 _ rfl;have t4:=Cu (a:=sy) (w:=w5.drew) Bg 4 _ rfl;go_wp2
 refine bodyPost_ret (v := .tuple #[.agg #[.int .i64 4,.string sy,.int .i64 0,.string ⟨#[]⟩,.int .i64 0],.int .i64 sy.size,.bool true]) (by simp[results,Tryz.results77,go_sem,t0,t1,t2,t3,t4]) rfl ?_
 exact HF.out _ AO.2.out sy qO
theorem iH (s:ByteArray) (hs:s.size<=140737488355328) (h1:0<s.size) (h45:s[0].toNat=45) (h2:1<s.size) (hd1:zZ s[1]=false) (hl0:CP s[0]=false) (hd0:zZ s[0]=false) (hc:s[0].toNat≠34) (hsy:FM s.data.toList≠none) (w:World) {A:zo} {c:Nat} (hE:J8 w A c):Calls Tryz.prog 77 #[.string s] w (EG w s.data.toList):=by
 have NS:=zh (Nb (I4 h1) hl0 hd0 (by rw[Nh h2,hd1,Bool.and_false]) hc)
 have hl:IU (s[0].toNat:Int)=false:=hl0;have HD:Hid (IV (s[0].toNat:Int)=false):=hd0;have q2:((s[0].toNat:Int)==34)=false:=by simp;omega
 have q1:((s[0].toNat:Int)==45)=true:=by simp[h45]
 have i1:(1:Int)<(s.size:Int):=by omega
 have HD1:Hid (IV (s[1].toNat:Int)=false):=hd1;clear h45 hd1;have ZT:=zh hsy;have Mk:=zh (hE.below (zI w (.cells #[.string s] 9) (.cells #[.int .i64 0,.string ⟨#[]⟩,.int .i64 0,.string ⟨#[]⟩,.int .i64 0] 59)));have l8:=zh hE;clear hE hl0 hd0 hsy hc;have FR:=zh hs;have Vu:=zh hl
 obtain ⟨HB1,HX0,Ei⟩:=zy w (.cells #[.string s] 9) (.cells #[.int .i64 0,.string ⟨#[]⟩,.int .i64 0,.string ⟨#[]⟩,.int .i64 0] 59);clear hl
 go_enter Tryz.func77,Tryz.ntmps77
 go_upto_region 1 with fail
 generalize (w.alloc (.cells #[.string s] 9)).alloc (.cells #[.int .i64 0,.string ⟨#[]⟩,.int .i64 0,.string ⟨#[]⟩,.int .i64 0] 59)=W1 at *;have x0:W1.cell? ⟨w.heap.size,0,none⟩=some (.string s):=by rw[AAE _ _ _ _ _ _ HX0.out];rfl
 have y0:=Mk.out.cell;have Rh:=zh x0;go_wp2_with (first|(go_at_call 116;refine (yI _ _).mono ?_;rintro e w' ⟨rfl,rfl⟩;rw[Vu.out])|(go_at_call 117;refine (Bf _ _).mono ?_;rintro e w' ⟨rfl,rfl⟩;first|rw[HD.out]|rw[HD1.out]));refine (Fu s w.heap.size Cz A c W1 Mk.out.rows Rh).mono ?_;rintro e w5 ⟨i,rfl,hi,hb⟩
 rcases Kw hi with ⟨_,h⟩|⟨k,hk,rfl,hs1,hs2⟩
 ·exact absurd h ZT
 have Bg:=zh (Nv Ei hb);have Ap:=zh (zB HB1 hb);have Oz:=zh (Mk.out.below hb);have hlB:Cz.length=18:=rfl;have OB:k<18:=hk;obtain ⟨b,o,rfl,hr1,a0⟩:=Oz.out.rows.UD (show k<Cz.length by rw[hlB];exact OB)
 have y5:=Oz.out.cell;have HF:=zh (fun w' (h:Below w.heap.size w w') a (ha:a=bA BO[k])=>WK (w:=w) (w':=w') hk NS hs1 hs2 h ha)
 have qO:=zh (SQ hk (by rw[hlB];exact OB))
 have wL:=zh l8.out.cell;have UR:Hid (w.cell? ⟨b,o+k,none⟩=some (.string (Cz[k]'(by rw[hlB];exact OB)))):=by
  obtain ⟨b',o',e,_,h⟩:=l8.out.rows.UD (show k<Cz.length by rw[hlB];exact OB)
  injection e with e
  injection e with e1 e2
  subst e1 e2;exact h
 generalize Cz[k]'(by rw[hlB];exact OB)=sy at *
 have hss:sy.size<=2:=by rw[qO.out];exact PU hk
 have n0:(0:Int)<=(k:Int):=by omega
 have n1:(k:Int)<18:=by omega
 have n2:¬ (k:Int)<0:=by omega
 clear hb hi x0 y0 hs1 hs2 hr1;have l0:=zL y5;have l1:=zL a0;simp only at l0 l1;have l2:=(zg.1 Bg).1;go_upto_region 16 with fail
 refine wp_region_held_drew (S:=(fun w'=>(w'.cell? ⟨0,0,none⟩=some (.slice (some ⟨b,o,none⟩) 18 c)/\w'.cell? ⟨b,o+k,none⟩=some (.string sy))/\Hid (Below w.heap.size w w'))) (by kernel_rfl) ?_ (fun AO=>?_)
 ·(try dsimp only);exact ⟨⟨zA (zC Ap 1) wL,zA (zC Ap 1) UR⟩,zC Ap 1⟩
 refine tL 0 ?_;try simp only[ps]
 refine tL 1 ?_;try simp only[ps]
 refine tL 2 ?_;try simp only[ps]
 refine tL 3 ?_;try simp only[ps]
 refine tL 4 ?_;try simp only[ps]
 refine tL 5 ?_;try simp only[ps]
 refine tL 6 ?_;try simp only[ps]
 refine tL 7 ?_;try simp only[ps]
 refine tL 8 ?_;try simp only[ps]
 refine tL 9 ?_;try simp only[ps]
 refine tR 10 (fun K hK=>?_)
 (simp only[List.getElem_toArray,List.getElem_cons_zero,List.getElem_cons_succ];rw[AAG (by rfl)];refine wp_store_mid 59 (.tmp 2) (.tmp 93) rfl (w.heap.size+1) (0) (#[.int .i64 4,.string sy,.int .i64 0,.string ⟨#[]⟩,.int .i64 0]) (by rfl) (by rfl) ?_ ?_ ?_ ?_;(exact LZ Bg);(exact SI);(exact WG sy))
 refine hK.out _ _ ?_ (fun AO=>?_)
 ·(try dsimp only);exact ⟨⟨zA (yC _ (Nat.le_succ _) _ _ _ AO.2.out) wL,zA (yC _ (Nat.le_succ _) _ _ _ AO.2.out) UR⟩,yC _ (Nat.le_succ _) _ _ _ AO.2.out⟩
 clear hK K;try simp only[ps]
 refine tL 11 ?_;try simp only[ps]
 refine tL 12 ?_;try simp only[ps]
 refine wpAnyH_done (by kernel_rfl) ?_ _
 have t0:=Cu (a:=sy) (w:=w5.drew) Bg 0 _ rfl;have t1:=Cu (a:=sy) (w:=w5.drew) Bg 1 _ rfl;have t2:=Cu (a:=sy) (w:=w5.drew) Bg 2 _ rfl;have t3:=Cu (a:=sy) (w:=w5.drew) Bg 3 _ rfl;have t4:=Cu (a:=sy) (w:=w5.drew) Bg 4 _ rfl;go_wp2
 refine bodyPost_ret (v := .tuple #[.agg #[.int .i64 4,.string sy,.int .i64 0,.string ⟨#[]⟩,.int .i64 0],.int .i64 sy.size,.bool true]) (by simp[results,Tryz.results77,go_sem,t0,t1,t2,t3,t4]) rfl ?_
 exact HF.out _ AO.2.out sy qO
end Go.Proofs.YthkkllmmbefedaaGreatDoor



