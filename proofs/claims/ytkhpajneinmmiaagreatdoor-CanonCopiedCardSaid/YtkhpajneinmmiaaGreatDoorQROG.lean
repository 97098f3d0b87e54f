/-
  The boxes of two roots that come from a pair.
-/
import Derived.Test.YtkhpajneinmmiaaGreatDoorQCAA
import Derived.Test.YtkhpajneinmmiaaGreatDoorQDM
import Derived.Test.YtkhpajneinmmiaaGreatDoorQCP2
import Derived.Test.YtkhpajneinmmiaaGreatDoorQCH1
import Derived.Test.YtkhpajneinmmiaaGreatDoorQDR4
import Derived.Test.YtkhpajneinmmiaaGreatDoorQJJ
import Derived.Test.YtkhpajneinmmiaaGreatDoorQPL
import Derived.Deep.DeepCutAuto
namespace Go.Proofs.YtkhpajneinmmiaaGreatDoor
open Go.RowKit
set_option maxHeartbeats 16000000
set_option maxRecDepth 100000
theorem there_boxR {w:World} {b:Nat} (h:w.heap[b]? = some zboxR):w.there b 0 2:=fun j hj=>by
 rw[Nat.zero_add]
 refine ⟨?_,frozen_of_row _ _ _ _ _ h⟩
 rw[cell_of_row _ _ _ _ _ _ h]
 match j,hj with
 | 0,_=>rfl
 | 1,_=>rfl
theorem root_info:(Tryz.prog.info? 32).map (·.size)=some 2:=by kernel_rfl
theorem root_onet (A:Option Addr) (n c:Nat) (t:Int):(#[Value.slice A n c,.int .i64 t]).all (·.oneCell')=true:=by simp[Value.oneCell']
theorem root_sett {w:World} {b:Nat} (h:w.heap[b]? = some zboxR) (A:Option Addr) (n c:Nat) (t:Int):(w.setCells b 0 [.slice A n c,.int .i64 t]).heap[b]? = some (rootB A n c t):=by
 rw[World.setCells,World.setCells,World.setCells,heap_setCell_same _ _ 1 _ _ _ (heap_setCell_same _ _ 0 _ _ _ h)]
 rfl
theorem root_bes2 {w:World} {b:Nat} (h:w.heap[b]? = some zboxR) (vs:List Value):Bes2 b w (w.setCells b 0 vs):=⟨⟨_,_,_,_,_,_,h⟩,fun _ hq _=>zI hq _ _ _⟩
abbrev pchV (A:Option Addr) (n c:Nat) (B:Option Addr) (m d:Nat) (p q:Nat):Value := .agg #[.slice A n c,.slice B m d,.int .u8 p,.int .u8 q]
abbrev pairB (A:Option Addr) (n c:Nat) (B:Option Addr) (m d:Nat) (p q:Nat):Obj := .cells #[.slice A n c,.slice B m d,.int .u8 p,.int .u8 q] 27
def RootOk (s:List TyD) (i:Nat):Prop:=zQ s=0∧Short s∧1≤s.length∧s.length≤5∧i<s.length
def RootsPost (w:World) (e:Ending) (w':World):Prop :=
 ∃A c s i B d u k ok,e = .returned (.tuple #[rootV A s.length c ((i:Nat):Int),rootV B u.length d ((k:Nat):Int),.bool ok])∧TysR w' A s∧TysR w' B u∧(ok=true→RootOk s i∧RootOk u k)∧Below w.heap.size w w'
theorem tys_nil (w:World) (A:Option Addr):TysR w A []:=⟨by unfold Lim;simp,fun h=>absurd rfl h⟩
theorem roots_no {w w':World} (hb:Below w.heap.size w w'):RootsPost w (.returned (.tuple #[rootV none 0 0 0,rootV none 0 0 0,.bool false])) w' :=
 ⟨none,0,[],0,none,0,[],0,false,rfl,tys_nil _ _,tys_nil _ _,(fun h=>by cases h),hb⟩
theorem ro_keep {w':World} {a b c g:Nat} {P1 P2 P3 P4:Value} (h1:a≠g) (h2:b≠g) (h3:c≠g) (vs:List Value)
  (h:(((w'.cell? ⟨a,2,none⟩=some P1∧w'.cell? ⟨a,3,none⟩=some P2)∧w'.cell? ⟨b,0,none⟩=some P3)∧w'.cell? ⟨c,0,none⟩=some P4)∧Hid (Below 0 w' w')) :
  ((((w'.setCells g 0 vs).cell? ⟨a,2,none⟩=some P1∧(w'.setCells g 0 vs).cell? ⟨a,3,none⟩=some P2)∧(w'.setCells g 0 vs).cell? ⟨b,0,none⟩=some P3)∧(w'.setCells g 0 vs).cell? ⟨c,0,none⟩=some P4)∧Hid (Below 0 (w'.setCells g 0 vs) (w'.setCells g 0 vs)):=by
 have key:∀q o,q≠g→(w'.setCells g 0 vs).cell? ⟨q,o,none⟩=w'.cell? ⟨q,o,none⟩:=fun q o hq=>World.cell?_of_block (w:=w') (a:=⟨q,o,none⟩) (zI hq _ _ _)
 rw[key a 2 h1,key a 3 h1,key b 0 h2,key c 0 h3]
 exact ⟨h.1,Below.refl _ _⟩
theorem ro_end {w W3 : World} {s u : List TyD} {A1 A3 : Option Addr} {c1 c3 i k : Nat} (hb : Below w.heap.size w W3) (h1 : W3.heap[w.heap.size + 1]? = some zboxR) (h2 : W3.heap[w.heap.size + 1 + 1]? = some zboxR) (hs : TysR W3 A1 s) (hu : TysR W3 A3 u) :
    (((W3.drew.setCells (w.heap.size + 1) 0 [.slice A1 s.length c1, .int .i64 (i : Int)]).setCells (w.heap.size + 1 + 1) 0 [.slice A3 u.length c3, .int .i64 (k : Int)]).cell? ⟨w.heap.size + 1, 0, none⟩ = some (.slice A1 s.length c1) ∧
     ((W3.drew.setCells (w.heap.size + 1) 0 [.slice A1 s.length c1, .int .i64 (i : Int)]).setCells (w.heap.size + 1 + 1) 0 [.slice A3 u.length c3, .int .i64 (k : Int)]).cell? ⟨w.heap.size + 1, 1, none⟩ = some (.int .i64 (i : Int)) ∧
     ((W3.drew.setCells (w.heap.size + 1) 0 [.slice A1 s.length c1, .int .i64 (i : Int)]).setCells (w.heap.size + 1 + 1) 0 [.slice A3 u.length c3, .int .i64 (k : Int)]).cell? ⟨w.heap.size + 1 + 1, 0, none⟩ = some (.slice A3 u.length c3) ∧
     ((W3.drew.setCells (w.heap.size + 1) 0 [.slice A1 s.length c1, .int .i64 (i : Int)]).setCells (w.heap.size + 1 + 1) 0 [.slice A3 u.length c3, .int .i64 (k : Int)]).cell? ⟨w.heap.size + 1 + 1, 1, none⟩ = some (.int .i64 (k : Int))) ∧
    TysR ((W3.drew.setCells (w.heap.size + 1) 0 [.slice A1 s.length c1, .int .i64 (i : Int)]).setCells (w.heap.size + 1 + 1) 0 [.slice A3 u.length c3, .int .i64 (k : Int)]) A1 s ∧
    TysR ((W3.drew.setCells (w.heap.size + 1) 0 [.slice A1 s.length c1, .int .i64 (i : Int)]).setCells (w.heap.size + 1 + 1) 0 [.slice A3 u.length c3, .int .i64 (k : Int)]) A3 u ∧
    Below w.heap.size w ((W3.drew.setCells (w.heap.size + 1) 0 [.slice A1 s.length c1, .int .i64 (i : Int)]).setCells (w.heap.size + 1 + 1) 0 [.slice A3 u.length c3, .int .i64 (k : Int)]) := by
  have hb' : Below w.heap.size w W3.drew := hb.drew
  have h1' : W3.drew.heap[w.heap.size + 1]? = some zboxR := h1
  have h2' : W3.drew.heap[w.heap.size + 1 + 1]? = some zboxR := h2
  have hs' : TysR W3.drew A1 s := hs.below (zE (Below.refl _ _) 1)
  have hu' : TysR W3.drew A3 u := hu.below (zE (Below.refl _ _) 1)
  generalize W3.drew = W at *
  have k1 := root_sett h1' A1 s.length c1 (i : Int)
  have k2 : (W.setCells (w.heap.size + 1) 0 [.slice A1 s.length c1, .int .i64 (i : Int)]).heap[w.heap.size + 1 + 1]? = some zboxR := (zI (by omega) _ _ _).trans h2'
  have hs2 := hs'.bes2 (root_bes2 h1' [.slice A1 s.length c1, .int .i64 (i : Int)])
  have hu2 := hu'.bes2 (root_bes2 h1' [.slice A1 s.length c1, .int .i64 (i : Int)])
  have hb2 : Below w.heap.size w (W.setCells (w.heap.size + 1) 0 [.slice A1 s.length c1, .int .i64 (i : Int)]) := zV _ (by omega) _ _ _ hb'
  generalize W.setCells (w.heap.size + 1) 0 [.slice A1 s.length c1, .int .i64 (i : Int)] = W2 at *
  have k3 := root_sett k2 A3 u.length c3 (k : Int)
  have k4 : (W2.setCells (w.heap.size + 1 + 1) 0 [.slice A3 u.length c3, .int .i64 (k : Int)]).heap[w.heap.size + 1]? = _ := (zI (by omega) _ _ _).trans k1
  refine ⟨⟨?_, ?_, ?_, ?_⟩, hs2.bes2 (root_bes2 k2 _), hu2.bes2 (root_bes2 k2 _), zV _ (by omega) _ _ _ hb2⟩
  · rw [cell_of_row _ _ _ _ _ _ k4]; rfl
  · rw [cell_of_row _ _ _ _ _ _ k4]; rfl
  · rw [cell_of_row _ _ _ _ _ _ k3]; rfl
  · rw [cell_of_row _ _ _ _ _ _ k3]; rfl
theorem roots_any (d:List NodeD) (l:List ChgD) (p q:Nat) (A:Option Addr) (c:Nat) (B:Option Addr) (cb:Nat) (w:World) (hd:NodesR w A d) (hl:ChgsR w B l) (hp:p<256) (hq:q<256) :
  Calls Tryz.prog 11 #[pchV A d.length c B l.length cb p q] w (RootsPost w):=by
 have hln:=hl.1.lt (by omega)
 have HD:=zh hd
 have HL:=zh hl
 have HB0:=zh (yR w (pairB A d.length c B l.length cb p q) zboxR zboxR)
 have HX0:=zh (yS (yS (heap_alloc_new w (pairB A d.length c B l.length cb p q)) zboxR) zboxR)
 have HR1:Hid ((((w.alloc (pairB A d.length c B l.length cb p q)).alloc zboxR).alloc zboxR).heap[w.heap.size+1]? = some zboxR):=by
  have:=heap_alloc_new (w.alloc (pairB A d.length c B l.length cb p q)) zboxR
  refine yS ?_ zboxR
  rw[←this];simp
 have HR2:Hid ((((w.alloc (pairB A d.length c B l.length cb p q)).alloc zboxR).alloc zboxR).heap[w.heap.size+1+1]? = some zboxR):=by
  have:=heap_alloc_new ((w.alloc (pairB A d.length c B l.length cb p q)).alloc zboxR) zboxR
  show _=_
  rw[←this];simp
 have HZ0:Hid ((((w.alloc (pairB A d.length c B l.length cb p q)).alloc zboxR).alloc zboxR).heap.size=w.heap.size+3):=by show _=_;simp
 clear hd hl
 go_enter Tryz.func11,Tryz.ntmps11
 go_wp2_with fail
 generalize ((w.alloc (pairB A d.length c B l.length cb p q)).alloc zboxR).alloc zboxR=W0 at *
 refine (of_any d A c _ (HD.out.below HB0.out)).mono ?_
 rintro e w1 ⟨A1,c1,s,ok1,rfl,hs,hok1,_,hb1⟩
 have HOK1:=zh hok1
 have HSZ1:Hid (W0.heap.size≤w1.heap.size):=hb1.size
 have HN1:=zh (zA hb1 (zD w1 (.cells #[.slice A1 s.length c1] 30)))
 have HS1:=zh (hs.below (zD w1 (.cells #[.slice A1 s.length c1] 30)))
 have HY1:=zh (heap_alloc_new w1 (.cells #[.slice A1 s.length c1] 30))
 have x0:(w1.alloc (.cells #[.slice A1 s.length c1] 30)).cell? ⟨w.heap.size,0,none⟩=some (.slice A d.length c):=by
  rw[cell_of_row _ _ _ _ _ _ ((HN1.out.block _ (zg.1 HX0.out).1).trans HX0.out)];rfl
 have x1:(w1.alloc (.cells #[.slice A1 s.length c1] 30)).cell? ⟨w.heap.size,1,none⟩=some (.slice B l.length cb):=by
  rw[cell_of_row _ _ _ _ _ _ ((HN1.out.block _ (zg.1 HX0.out).1).trans HX0.out)];rfl
 clear hs hok1 hb1
 go_wp2_with fail
 generalize w1.alloc (.cells #[.slice A1 s.length c1] 30)=W1 at *
 refine (changed_any d l A c B cb _ (HD.out.below (zA HB0.out HN1.out)) (HL.out.below (zA HB0.out HN1.out))).mono ?_
 rintro e w2 ⟨A2,c2,d2,rfl,hd2,hb2⟩
 have HD2:=zh hd2
 have HN2:=zh hb2
 clear x0 x1 hd2 hb2
 go_wp2_with fail
 refine (of_any d2 A2 c2 _ HD2.out).mono ?_
 rintro e w3 ⟨A3,c3,u,ok2,rfl,hu,hok2,_,hb3⟩
 have HOK2:=zh hok2
 have HN3:=zh (zA HN1.out (zA HN2.out (zA hb3 (zD w3 (.cells #[.slice A3 u.length c3] 30)))))
 have HS3:=zh (HS1.out.below (zA HN2.out (zA hb3 (zD w3 (.cells #[.slice A3 u.length c3] 30)))))
 have HU3:=zh (hu.below (zD w3 (.cells #[.slice A3 u.length c3] 30)))
 have HY3:=zh (yS ((hb3.block _ (by have:=HN2.out.size;have:=(zg.1 HY1.out).1;omega)).trans ((HN2.out.block _ (zg.1 HY1.out).1).trans HY1.out)) (.cells #[.slice A3 u.length c3] 30))
 have HT3:=zh (heap_alloc_new w3 (.cells #[.slice A3 u.length c3] 30))
 have HLT:Hid (w.heap.size+3≤w1.heap.size∧w1.heap.size<w3.heap.size):=by
  show _∧_
  have h1:=HZ0.out
  have h2:=HSZ1.out
  have h3:=HN2.out.size
  have h4:=hb3.size
  have h5:=(zg.1 HY1.out).1
  omega
 have HB3:=zh (zA HB0.out HN3.out)
 have HRR1:=zh ((HN3.out.block _ (by have:=HZ0.out;omega)).trans HR1.out)
 have HRR2:=zh ((HN3.out.block _ (by have:=HZ0.out;omega)).trans HR2.out)
 have HXX:=zh ((HN3.out.block _ (zg.1 HX0.out).1).trans HX0.out)
 clear hu hok2 hb3
 go_upto_region 3 with fail
 generalize w3.alloc (.cells #[.slice A3 u.length c3] 30)=W3 at *
 by_cases hg:ok1=true∧ok2=true∧l.length≤4
 case neg =>
  have r0:W3.cell? ⟨w.heap.size+1,0,none⟩=some (.slice none 0 0):=by rw[cell_of_row _ _ _ _ _ _ HRR1.out];rfl
  have r1:W3.cell? ⟨w.heap.size+1,1,none⟩=some (.int .i64 0):=by rw[cell_of_row _ _ _ _ _ _ HRR1.out];rfl
  have s0:W3.cell? ⟨w.heap.size+1+1,0,none⟩=some (.slice none 0 0):=by rw[cell_of_row _ _ _ _ _ _ HRR2.out];rfl
  have s1:W3.cell? ⟨w.heap.size+1+1,1,none⟩=some (.int .i64 0):=by rw[cell_of_row _ _ _ _ _ _ HRR2.out];rfl
  have f0:=frozen_of_row _ _ 0 _ _ HRR1.out
  have f1:=frozen_of_row _ _ 1 _ _ HRR1.out
  have f2:=frozen_of_row _ _ 0 _ _ HRR2.out
  have f3:=frozen_of_row _ _ 1 _ _ HRR2.out
  have x1:W3.cell? ⟨w.heap.size,1,none⟩=some (.slice B l.length cb):=by rw[cell_of_row _ _ _ _ _ _ HXX.out];rfl
  have hl4:ok1=true→ok2=true→decide ((4:Int)<(l.length:Int))=true:=fun h1 h2=>by
   have:¬ l.length≤4:=fun h=>hg ⟨h1,h2,h⟩
   simp;omega
  have HBF:Hid (∀a b c d,Below w.heap.size w ((((W3.setCell ⟨w.heap.size+1,0,none⟩ a).setCell ⟨w.heap.size+1,1,none⟩ b).setCell ⟨w.heap.size+1+1,0,none⟩ c).setCell ⟨w.heap.size+1+1,1,none⟩ d)):=fun a b c d =>
   (((HB3.out.setCell (p:=⟨w.heap.size+1,0,none⟩) (by simp only;omega) a).setCell (p:=⟨w.heap.size+1,1,none⟩) (by simp only;omega) b).setCell (p:=⟨w.heap.size+1+1,0,none⟩) (by simp only;omega) c).setCell (p:=⟨w.heap.size+1+1,1,none⟩) (by simp only;omega) d
  clear hg
  cases ok1 with
  | false =>
   go_wp2
   refine bodyPost_ret (v := .tuple #[rootV none 0 0 0,rootV none 0 0 0,.bool false]) (by simp[results,Tryz.results11,go_sem,r0,r1,s0,s1]) rfl (roots_no (HBF.out _ _ _ _))
  | true =>
   cases ok2 with
   | false =>
    go_wp2
    refine bodyPost_ret (v := .tuple #[rootV none 0 0 0,rootV none 0 0 0,.bool false]) (by simp[results,Tryz.results11,go_sem,r0,r1,s0,s1]) rfl (roots_no (HBF.out _ _ _ _))
   | true =>
    have hl5:=hl4 rfl rfl
    clear hl4
    go_wp2
    refine bodyPost_ret (v := .tuple #[rootV none 0 0 0,rootV none 0 0 0,.bool false]) (by simp[results,Tryz.results11,go_sem,r0,r1,s0,s1]) rfl (roots_no (HBF.out _ _ _ _))
 obtain ⟨rfl,rfl,hl4⟩:=hg
 have hl5:decide ((4:Int)<(l.length:Int))=false:=by simp;omega
 have x1:W3.cell? ⟨w.heap.size,1,none⟩=some (.slice B l.length cb):=by rw[cell_of_row _ _ _ _ _ _ HXX.out];rfl
 obtain ⟨hv1,hsh1,hsl1,hd1,hd5⟩:=HOK1.out rfl
 obtain ⟨hv2,hsh2,hsl2,hd3,hd6⟩:=HOK2.out rfl
 have HV1:=zh (And.intro hv1 hsh1)
 have HV2:=zh (And.intro hv2 hsh2)
 have hs1:1≤s.length:=by omega
 have hs5:s.length≤5:=by omega
 have hu1:1≤u.length:=by omega
 have hu5:u.length≤5:=by omega
 clear hv1 hsh1 hsl1 hd1 hd5 hv2 hsh2 hsl2 hd3 hd6 HOK1 HOK2 HD HL
 obtain ⟨i,hi⟩:∃i:Nat,i=p % s.length:=⟨_,rfl⟩
 have hil:i<s.length:=by rw[hi];exact Nat.mod_lt _ (by omega)
 have er1:(p:Int).tmod (s.length:Int)=(i:Int):=by rw[hi];rfl
 have er2:(p:Int) % (s.length:Int)=(i:Int):=by rw[hi];simp
 have er3:(IntKind.i64.wrap (p:Int)).tmod (s.length:Int)=(i:Int):=by rw[IntWalk.i64_in _ (by omega)];exact er1
 have er4:(wrap64 (p:Int)).tmod (s.length:Int)=(i:Int):=by rw[IntWalk.wrap64_in _ (by omega)];exact er1
 obtain ⟨k,hk⟩:∃k:Nat,k=q % u.length:=⟨_,rfl⟩
 have hkl:k<u.length:=by rw[hk];exact Nat.mod_lt _ (by omega)
 have ek1:(q:Int).tmod (u.length:Int)=(k:Int):=by rw[hk];rfl
 have ek2:(q:Int) % (u.length:Int)=(k:Int):=by rw[hk];simp
 have ek3:(IntKind.i64.wrap (q:Int)).tmod (u.length:Int)=(k:Int):=by rw[IntWalk.i64_in _ (by omega)];exact ek1
 have ek4:(wrap64 (q:Int)).tmod (u.length:Int)=(k:Int):=by rw[IntWalk.wrap64_in _ (by omega)];exact ek1
 have hnz1:¬ ((s.length:Int)=0):=by omega
 have hnz2:¬ ((u.length:Int)=0):=by omega
 have hnil1:¬ (s=[]):=fun e=>by rw[e] at hs1;simp at hs1
 have hnil2:¬ (u=[]):=fun e=>by rw[e] at hu1;simp at hu1
 have HIL:=zh (And.intro hil hkl)
 have HCL:Hid ((((W3.cell? ⟨w.heap.size,2,none⟩=some (.int .u8 (p:Int))∧W3.cell? ⟨w.heap.size,3,none⟩=some (.int .u8 (q:Int)))∧W3.cell? ⟨w1.heap.size,0,none⟩=some (.slice A1 s.length c1))∧W3.cell? ⟨w3.heap.size,0,none⟩=some (.slice A3 u.length c3))):=by
  refine zh ⟨⟨⟨?_,?_⟩,?_⟩,?_⟩
  ·rw[cell_of_row _ _ _ _ _ _ HXX.out];rfl
  ·rw[cell_of_row _ _ _ _ _ _ HXX.out];rfl
  ·rw[cell_of_row _ _ _ _ _ _ HY3.out];rfl
  ·rw[cell_of_row _ _ _ _ _ _ HT3.out];rfl
 clear hi hk hil hkl
 go_wp2
 clear x1
 refine wp_region_held_drew (S:=(fun w'=>(((w'.cell? ⟨w.heap.size,2,none⟩=some (.int .u8 (p:Int))∧w'.cell? ⟨w.heap.size,3,none⟩=some (.int .u8 (q:Int)))∧w'.cell? ⟨w1.heap.size,0,none⟩=some (.slice A1 s.length c1))∧w'.cell? ⟨w3.heap.size,0,none⟩=some (.slice A3 u.length c3))∧Hid (Below 0 w' w'))) (by kernel_rfl) ?_ (fun zH_=>?_)
 ·(try dsimp only);exact ⟨HCL.out,Below.refl _ _⟩
 refine tL 0 _ zH_ ?_
 try simp only[ps]
 refine tL 1 _ zH_ ?_
 try simp only[ps]
 refine tL 2 _ zH_ ?_
 try simp only[ps]
 refine tL 3 _ zH_ ?_
 try simp only[ps]
 refine tL 4 _ zH_ ?_
 try simp only[ps]
 refine tL 5 _ zH_ ?_
 try simp only[ps]
 refine tL 6 _ zH_ ?_
 try simp only[ps]
 refine tL 7 _ zH_ ?_
 try simp only[ps]
 refine tL 8 _ zH_ ?_
 try simp only[ps]
 refine tL 9 _ zH_ ?_
 try simp only[ps]
 refine tL 10 _ zH_ ?_
 try simp only[ps]
 refine tL 11 _ zH_ ?_
 try simp only[ps]
 refine tL 12 _ zH_ ?_
 try simp only[ps]
 refine tL 13 _ zH_ ?_
 try simp only[ps]
 refine tL 14 _ zH_ ?_
 try simp only[ps]
 refine tL 15 _ zH_ ?_
 try simp only[ps]
 refine tL 16 _ zH_ ?_
 try simp only[ps]
 refine tL 17 _ zH_ ?_
 try simp only[ps]
 refine tR 18 (fun K hK=>?_)
 (simp only[List.getElem_toArray,List.getElem_cons_zero,List.getElem_cons_succ];rw[if_pos (by rfl)];refine wp_store_mid 32 (.tmp 2) (.tmp 46) rfl (w.heap.size+1) (0) (#[.slice A1 s.length c1,.int .i64 (i:Int)]) (by rfl) (by rfl) ?_ ?_ ?_ ?_;(exact there_boxR HRR1.out);(exact root_info);(exact root_onet A1 s.length c1 (i:Int)))
 refine hK.out _ _ ?_ (fun zH_=>?_)
 ·(try dsimp only);exact ro_keep (by omega) (by have:=HLT.out;omega) (by have:=HLT.out;omega) _ zH_
 clear hK K
 try simp only[ps]
 refine tR 19 (fun K hK=>?_)
 (simp only[List.getElem_toArray,List.getElem_cons_zero,List.getElem_cons_succ];rw[if_pos (by rfl)];refine wp_store_mid 32 (.tmp 3) (.tmp 55) rfl (w.heap.size+1+1) (0) (#[.slice A3 u.length c3,.int .i64 (k:Int)]) (by rfl) (by rfl) ?_ ?_ ?_ ?_;(exact there_boxR ((zI (by omega) _ _ _).trans HRR2.out));(exact root_info);(exact root_onet A3 u.length c3 (k:Int)))
 refine hK.out _ _ ?_ (fun zH_=>?_)
 ·(try dsimp only);exact ro_keep (by omega) (by have:=HLT.out;omega) (by have:=HLT.out;omega) _ zH_
 clear hK K
 try simp only[ps]
 refine tL 20 _ zH_ ?_
 try simp only[ps]
 refine wpAnyH_done (by kernel_rfl) ?_ _
 have HE:=zh (ro_end (i:=i) (k:=k) HB3.out HRR1.out HRR2.out HS3.out HU3.out (A1:=A1) (c1:=c1) (A3:=A3) (c3:=c3))
 generalize (W3.drew.setCells (w.heap.size+1) 0 [.slice A1 s.length c1,.int .i64 (i:Int)]).setCells (w.heap.size+1+1) 0 [.slice A3 u.length c3,.int .i64 (k:Int)]=W9 at *
 obtain ⟨r0,r1,s0,s1⟩:=HE.out.1
 go_wp2
 exact bodyPost_ret (v := .tuple #[rootV A1 s.length c1 (i:Int),rootV A3 u.length c3 (k:Int),.bool true]) (by simp[results,Tryz.results11,go_sem,r0,r1,s0,s1]) rfl ⟨A1,c1,s,i,A3,c3,u,k,true,rfl,HE.out.2.1,HE.out.2.2.1,fun _=>⟨⟨HV1.out.1,HV1.out.2,hs1,hs5,HIL.out.1⟩,⟨HV2.out.1,HV2.out.2,hu1,hu5,HIL.out.2⟩⟩,HE.out.2.2.2⟩
open Go.ChangeShapes Go.WideShapes Go.ChangeAt Go.RowKit Go.Deep
set_option maxRecDepth 100000
section
variable {H:Type} {enc:TypeId×Value→H} {W:World}
instance:Inhabited ChgD:=⟨⟨0,0,0,0⟩⟩
theorem open_change {n:Nat} {cs:List Value} {d:DataW H} {ps:List MemPlace} (h:DataW.trod enc Tryz.prog W 0 (fun _=>true) true n 118 cs=some (d,ps)):∃r:ChgD,r.At cs:=by
 obtain ⟨xs,m,_,_,hlen,hxl,hf⟩:=DataW.trod_struct Tryz.underlying118 h
 have hc:Tryz.prog.cellsOf 118=4:=by kernel_rfl
 have hc8:Tryz.prog.cellsOf 5=1:=by kernel_rfl
 rw[hc] at hlen
 simp only[List.size_toArray,List.length_cons,List.length_nil] at hxl
 match cs,hlen,xs,hxl with
 | [c0,c1,c2,c3],_,[x0,x1,x2,x3],_ =>
  have h0:DataW.trod enc Tryz.prog W 0 (fun _=>true) true m 5 (([c0,c1,c2,c3].drop 0).take (Tryz.prog.cellsOf 5))=some x0:=hf 0 _ rfl
  rw[hc8] at h0
  have h1:DataW.trod enc Tryz.prog W 0 (fun _=>true) true m 5 (([c0,c1,c2,c3].drop 1).take (Tryz.prog.cellsOf 5))=some x1:=hf 1 _ rfl
  rw[hc8] at h1
  have h2:DataW.trod enc Tryz.prog W 0 (fun _=>true) true m 5 (([c0,c1,c2,c3].drop 2).take (Tryz.prog.cellsOf 5))=some x2:=hf 2 _ rfl
  rw[hc8] at h2
  have h3:DataW.trod enc Tryz.prog W 0 (fun _=>true) true m 5 (([c0,c1,c2,c3].drop 3).take (Tryz.prog.cellsOf 5))=some x3:=hf 3 _ rfl
  rw[hc8] at h3
  obtain ⟨k0,b0,e0⟩:=open_u8 h0
  obtain ⟨k1,b1,e1⟩:=open_u8 h1
  obtain ⟨k2,b2,e2⟩:=open_u8 h2
  obtain ⟨k3,b3,e3⟩:=open_u8 h3
  injection (show [c0]=[Value.int .u8 k0] from e0) with g0 _
  injection (show [c1]=[Value.int .u8 k1] from e1) with g1 _
  injection (show [c2]=[Value.int .u8 k2] from e2) with g2 _
  injection (show [c3]=[Value.int .u8 k3] from e3) with g3 _
  subst g0;subst g1;subst g2;subst g3
  exact ⟨⟨k0,k1,k2,k3⟩,⟨b0,b1,b2,b3⟩,rfl⟩
def PairR (w:World) (A:Option Addr) (s:List NodeD) (B:Option Addr) (l:List ChgD) (p q:Nat):Prop:=NodesR w A s∧ChgsR w B l∧p<256∧q<256
theorem open_pairA {r:Reach} {b0:Nat} {v:Value} {d:DataW H} {p:List MemPlace} (hv:Value.okWide Tryz.prog W r b0 27 v) (h:DataW.Trod enc Tryz.prog W 0 (fun _=>true) true 27 v d p) (hz:Sz 27 d) :
  ∃ (A:Option Addr) (c:Nat) (s:List NodeD) (B:Option Addr) (e:Nat) (l:List ChgD) (i k:Nat),v=pchV A s.length c B l.length e i k∧PairR W A s B l i k:=by
 obtain ⟨⟨cs⟩,rfl,hcz⟩:=agg_cells Tryz.underlying27 hv
 obtain ⟨fuel,hf⟩:=h
 have hc:Tryz.prog.cellsOf 27=4:=by kernel_rfl
 have hc8:Tryz.prog.cellsOf 5=1:=by kernel_rfl
 have hcd:Tryz.prog.cellsOf 24=1:=by kernel_rfl
 have hcc:Tryz.prog.cellsOf 25=1:=by kernel_rfl
 match cs,hcz.trans hc with
 | [c0,c1,c2,c3],_ =>
  obtain ⟨xs,m,_,hx,_,hxl,hi⟩:=DataW.trod_struct Tryz.underlying27 hf
  have hdd:d = .agg (xs.map (·.1)):=congrArg Prod.fst hx
  subst hdd
  have hs:=sz_parts Tryz.underlying27 hz
  simp only[List.size_toArray,List.length_cons,List.length_nil] at hxl
  match xs,hxl with
  | [x0,x1,x2,x3],_ =>
   have h0:DataW.trod enc Tryz.prog W 0 (fun _=>true) true m 24 (([c0,c1,c2,c3].drop 0).take (Tryz.prog.cellsOf 24))=some x0:=hi 0 _ rfl
   have h1:DataW.trod enc Tryz.prog W 0 (fun _=>true) true m 25 (([c0,c1,c2,c3].drop 1).take (Tryz.prog.cellsOf 25))=some x1:=hi 1 _ rfl
   have h2:DataW.trod enc Tryz.prog W 0 (fun _=>true) true m 5 (([c0,c1,c2,c3].drop 2).take (Tryz.prog.cellsOf 5))=some x2:=hi 2 _ rfl
   have h3:DataW.trod enc Tryz.prog W 0 (fun _=>true) true m 5 (([c0,c1,c2,c3].drop 3).take (Tryz.prog.cellsOf 5))=some x3:=hi 3 _ rfl
   rw[hcd] at h0
   rw[hcc] at h1
   rw[hc8] at h2 h3
   obtain ⟨A,c,s,e0,hr⟩:=open_draft (d:=x0.1) (ps:=x0.2) h0 (sz_each hs 0 _ _ rfl rfl)
   obtain ⟨B,e,l,e1,hr2⟩:=open_rows (α:=ChgD) (bytes:=4) Tryz.underlying25 (show Tryz.prog.cellsOf 118=4 by kernel_rfl) (by kernel_rfl) (by omega) (at_:=ChgD.At) (fun y cs hy=>by obtain ⟨_,rfl⟩:=hy;rfl) (d:=x1.1) (ps:=x1.2) h1 (sz_each hs 1 _ _ rfl rfl) (fun d' _ n' cs' ps' ht _=>open_change ht)
   obtain ⟨k2,b2,e2⟩:=open_u8 h2
   obtain ⟨k3,b3,e3⟩:=open_u8 h3
   injection (show [c0]=[Value.slice A s.length c] from e0) with g0 _
   injection (show [c1]=[Value.slice B l.length e] from e1) with g1 _
   injection (show [c2]=[Value.int .u8 k2] from e2) with g2 _
   injection (show [c3]=[Value.int .u8 k3] from e3) with g3 _
   subst g0;subst g1;subst g2;subst g3
   exact ⟨A,c,s,B,e,l,k2,k3,rfl,hr,hr2,b2,b3⟩
end
theorem rootOk_err {s:List TyD} {i:Nat} (h:RootOk s i):zH s (i:Int)=0:=yN h.1 h.2.2.2.2
structure LqS (w1 w2:World) (A1:Option Addr) (a:List TyD) (c1 i:Nat) (A2:Option Addr) (b:List TyD) (c2 k:Nat) (w':World):Prop where
 two:TwoB w1 w' A1 a.length c1 (i:Int) A2 b.length c2 (k:Int)
 a:TysR w' A1 a
 b:TysR w' A2 b
 bel:Below w2.heap.size w2 w'
theorem LqS.step {w1 w2:World} {A1:Option Addr} {a:List TyD} {c1 i:Nat} {A2:Option Addr} {b:List TyD} {c2 k:Nat} {w' w'':World} (h:LqS w1 w2 A1 a c1 i A2 b c2 k w') (hb:Below w'.heap.size w' w''):LqS w1 w2 A1 a c1 i A2 b c2 k w'' :=
 ⟨h.two.below hb,h.a.below hb,h.b.below hb,zA h.bel hb⟩
theorem LqS.hold {w1 w2:World} {A1:Option Addr} {a:List TyD} {c1 i:Nat} {A2:Option Addr} {b:List TyD} {c2 k:Nat} {w':World} (h:LqS w1 w2 A1 a c1 i A2 b c2 k w') :
  (w'.cell? ⟨w1.heap.size,0,none⟩=some (.slice A1 a.length c1)∧w'.cell? ⟨w1.heap.size,1,none⟩=some (.int .i64 (i:Int))∧w'.cell? ⟨w1.heap.size+1,0,none⟩=some (.slice A2 b.length c2)∧w'.cell? ⟨w1.heap.size+1,1,none⟩=some (.int .i64 (k:Int)))∧Hid (LqS w1 w2 A1 a c1 i A2 b c2 k w') :=
 ⟨(yB h.two).1,h⟩
end Go.Proofs.YtkhpajneinmmiaaGreatDoor


