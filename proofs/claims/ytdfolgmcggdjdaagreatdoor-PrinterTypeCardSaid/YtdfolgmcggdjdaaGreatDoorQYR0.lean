/-
  Walks: slices.Repeat of one number.
-/
import Derived.Test.YtdfolgmcggdjdaaGreatDoorShelfB
import Derived.Test.YtdfolgmcggdjdaaGreatDoorQCP2
import Derived.Laws.CopyOwn
namespace Go.Proofs.YtdfolgmcggdjdaaGreatDoor
open Go.RowKit
set_option maxHeartbeats 16000000
set_option maxRecDepth 100000
theorem mk_ints (n:Nat) (hn:n≤1000) (w:World) :
  (Instr.makeSlice 31 (.int .i64 (n:Int)) (.int .i64 (n:Int))).run Tryz.prog w = .ok (.slice (some ⟨w.heap.size,0,none⟩) n n) (w.alloc (.cells (List.replicate n (.int .i64 0)).toArray 3)):=by
 obtain ⟨i,hi,hz,hsz,hb⟩:=info_parts (show (Tryz.prog.info? 3).map (fun i=>(i.zero,i.size,i.bytes))=some (some (.int .i64 0),1,8) by kernel_rfl)
 have hb':(i.bytes:Int) * (n:Int)≤281474976710656:=by rw[hb];omega
 have hr:=run_make (P:=Tryz.prog) w 31 3 i (.int .i64 0) Tryz.underlying31 hi hz .i64 .i64 n n (by omega) (Int.le_refl _) hb' (by omega)
 simp only[Int.toNat_natCast,hsz,Nat.mul_one,show (Value.int .i64 0).cells = #[.int .i64 0] from rfl] at hr
 rw[hr]
 have:madeCells #[.int .i64 0] n=(List.replicate n (.int .i64 0)).toArray:=by
  apply Array.ext'
  rw[toList_madeCells_one]
 simp only[this]
def RK (n k:Nat):List Value:=List.replicate k (Value.int .i64 (-1))++List.replicate (n - k) (Value.int .i64 0)
theorem rk_splice {n j m:Nat} (h:j+m≤n):splice (RK n j) j (List.replicate m (Value.int .i64 (-1)))=RK n (j+m):=by
 unfold splice RK
 rw[List.take_left' (by simp),List.length_replicate,List.drop_append,List.length_replicate,List.drop_eq_nil_of_le (by simp),List.drop_replicate,List.nil_append,←List.append_assoc,List.replicate_append_replicate]
 congr 2
 omega
theorem rk_len {n j:Nat} (h:j≤n):(RK n j).length=n:=by unfold RK;simp;omega
theorem rk_get {n j k:Nat} (h:k<j):(RK n j)[k]? = some (.int .i64 (-1)):=by
 unfold RK
 rw[List.getElem?_append_left (by simp;exact h),List.getElem?_replicate,if_pos h]
theorem rk_cell {w:World} {g n j k:Nat} (h:w.heap[g]? = some (.cells (RK n j).toArray 3 (0,0))) (hk:k<j):w.cell? ((⟨g,0,none⟩:Addr).add k)=some (.int .i64 (-1)):=by
 rw[Addr.add_mid,Nat.zero_add,cell_of_row _ _ _ _ _ _ h,List.getElem?_toArray]
 exact rk_get hk
theorem repeat_any (n:Nat) (hn:n≤1000) (b:Nat) (w:World) (hx:w.cell? ⟨b,0,none⟩=some (.int .i64 (-1))) :
  Calls Tryz.prog 30 #[.slice (some ⟨b,0,none⟩) 1 1,.int .i64 n] w fun e w'=>e = .returned (.slice (some ⟨w.heap.size,0,none⟩) n n)∧w'.heap[w.heap.size]? = some (.cells (RK n n).toArray 3 (0,0))∧Below w.heap.size w w':=by
 have hmk:=mk_ints n hn
 have HX:=zh hx
 have n0:¬ (n:Int)<0:=by omega
 have hmu:(n:Int) % 18446744073709551616=n:=Int.emod_eq_of_lt (by omega) (by omega)
 clear hx
 go_enter Tryz.func30,Tryz.ntmps30
 have hz1:1 * n / 18446744073709551616=0:=by omega
 have hz2:1 * n % 18446744073709551616=n:=by omega
 have n1:¬ (n:Int) > 9223372036854775807:=by omega
 have n2:¬ (9223372036854775807:Int)<(n:Int):=by omega
 go_wp2_with fail
 refine (Tryz.bits_Mul 1 n (by omega) (by omega) _).mono ?_
 rintro e w ⟨rfl,rfl⟩
 rw[hz1,hz2]
 have HB2:=zh (zD w (.cells (Array.replicate n (.int .i64 0)) 3))
 have HC2:Hid ((w.alloc (.cells (Array.replicate n (.int .i64 0)) 3)).heap[w.heap.size]? = some (.cells (RK n 0).toArray 3 (0,0))):=(heap_alloc_new w _).trans (by simp[RK])
 have HX2:=zh (zB HB2.out HX.out)
 obtain ⟨cs0,hcs0⟩:∃cs0,cs0=List.replicate (Nat.min 1 n) (Value.int .i64 (-1)):=⟨_,rfl⟩
 have HCS:=zh hcs0
 have HL0:Hid (cs0.length=Nat.min 1 n):=by show _=_;rw[hcs0,List.length_replicate]
 have HR0:Hid (splice (RK n 0) 0 cs0=RK n (Nat.min 1 n)):=by show _=_;rw[hcs0,rk_splice (by rw[Nat.zero_add];exact Nat.min_le_right _ _),Nat.zero_add]
 have HO0:Hid (∀v∈cs0,v.oneCell'=true):=by intro v hv;rw[hcs0] at hv;rw[List.eq_of_mem_replicate hv];rfl
 have HG0:Hid (∀j v,cs0[j]? = some v→j=0∧v = .int .i64 (-1)):=by
  intro j v hj
  rw[hcs0] at hj
  obtain ⟨h1,h2⟩:=List.getElem?_eq_some_iff.1 hj
  simp at h1 h2
  have:Nat.min 1 n≤1:=Nat.min_le_left 1 n
  exact ⟨by omega,h2.symm⟩
 clear hcs0
 go_wp2_with (refine wpList_copy_splice rfl (.tmp 31) (.tmp 32) 31 31 rfl 3 Tryz.underlying31 (by kernel_rfl) (some ⟨w.heap.size,0,none⟩) (some ⟨b,0,none⟩) n n 1 1 rfl rfl w.heap.size 0 (RK n 0) 3 ?_ cs0 ?_ ?_ ?_ ?_ w.heap.size w ?_ ?_ ?_;(exact HC2.out);(exact HL0.out);(intro _;exact ⟨rfl,⟨b,0,none⟩,rfl,fun j v hj=>by obtain ⟨rfl,rfl⟩:=HG0.out j v hj;exact HX2.out⟩);(rw[HL0.out,rk_len (Nat.zero_le _),Nat.zero_add];exact Nat.min_le_right _ _);(exact HO0.out);(exact HB2.out);(exact Nat.le_refl _);intro w3 hg3 hb3)
 rw[HR0.out] at hg3
 rw[HL0.out]
 have HM1:Hid (Nat.min 1 n≤n∧(0<n→0<Nat.min 1 n)):=⟨Nat.min_le_right _ _,fun h=>by have:Nat.min 1 n=1:=Nat.min_eq_left h;omega⟩
 clear HL0 HR0 HO0 HG0 HCS HX2 HC2 HB2 hz1 hz2
 generalize Nat.min 1 n=m1 at *
 clear cs0
 go_loopw [8] (fun k wr=>∃j:Nat,k = .int .i64 (j:Int)∧Hid ((j≤n∧(0<n→0<j))∧wr.heap[w.heap.size]? = some (.cells (RK n j).toArray 3 (0,0))∧Below w.heap.size w wr)) (fun k _=>n - (intOf k).toNat)
 case atStart=>exact ⟨m1,rfl,HM1.out,hg3.out,hb3⟩
 case round =>
  obtain ⟨j,rfl,hh⟩:=hrel
  have HJ:=zh hh.out.1
  have HR:=zh hh.out.2.1
  have HB:=zh hh.out.2.2
  clear hh hg3 hb3
  by_cases hlt:j<n
  ·have q1:(j:Int)<(n:Int):=by omega
   have q2:(0:Int)≤(j:Int):=by omega
   have q3:(j:Int)≤(n:Int):=by omega
   have hj0:0<j:=HJ.out.2 (by omega)
   obtain ⟨m,hm⟩:∃m,m=Nat.min j (n - j):=⟨_,rfl⟩
   have hm1:m≤j:=hm▸Nat.min_le_left _ _
   have hm2:m≤n - j:=hm▸Nat.min_le_right _ _
   have hm0:0<m:=by rw[hm];exact Nat.lt_min.2 ⟨hj0,by omega⟩
   have HS:=zh (rk_splice (n:=n) (j:=j) (m:=m) (by omega))
   have HM:=zh hm
   clear hm
   have HGI:Hid (goInt ((List.replicate m (Value.int .i64 (-1))).length:Int) = .int .i64 (m:Int)):=by show _=_;rw[List.length_replicate];rfl
   have HWR:Hid (IntKind.i64.wrap ((j:Int)+(m:Int))=(j:Int)+(m:Int)):=by show _=_;rw[IntKind.wrap_i64];omega
   go_wp2_with fail
   refine wp_region_any (by kernel_rfl) ?_
   (try (change wpAny _ _ _ _ _ _ _ (World.drew _)))
   refine tkA 0 ?v0 rfl (by kernel_rfl) (.inl ⟨by rfl,?y0⟩) ?_
   case y0=>(intro w;go_simp;try with_reducible rfl)
   try simp only[ps]
   refine tkA 1 ?v1 rfl (by kernel_rfl) (.inl ⟨by rfl,?y1⟩) ?_
   case y1=>(intro w;go_simp;try with_reducible rfl)
   try simp only[ps]
   refine tkA 2 ?v2 rfl (by kernel_rfl) (.inl ⟨by rfl,?y2⟩) ?_
   case y2=>(intro w;go_simp;try with_reducible rfl)
   try simp only[ps]
   refine tkA 3 ?v3 rfl (by kernel_rfl) (.inl ⟨by rfl,?y3⟩) ?_
   case y3=>(intro w;go_simp;try with_reducible rfl)
   try simp only[ps]
   refine tkA 4 ?v4 rfl (by kernel_rfl) (.inl ⟨by rfl,?y4⟩) ?_
   case y4=>(intro w;go_simp;try with_reducible rfl)
   try simp only[ps]
   refine tkA 5 ?v5 rfl (by kernel_rfl) (.inl ⟨by rfl,?y5⟩) ?_
   case y5=>(intro w;go_simp;try with_reducible rfl)
   try simp only[ps]
   refine tkA 6 ?v6 rfl (by kernel_rfl) (.inl ⟨by rfl,?y6⟩) ?_
   case y6=>(intro w;go_simp;try with_reducible rfl)
   try simp only[ps]
   refine wpAny_ready (rs:=[7]) (by kernel_rfl) (by simp) ?_
   refine (AllReady.cons rfl (fun K hK=>?_) AllReady.nil)
   (refine step_copy_splice rfl (.tmp 41) (.tmp 44) 31 31 rfl 3 Tryz.underlying31 (by kernel_rfl) (some ⟨w.heap.size,j,none⟩) (some ⟨w.heap.size,0,none⟩) (n - j) (n - j) j n (by show Value.slice (if n=j then _ else _) _ _=_;rw[if_neg (by omega)]) (by rfl) w.heap.size j (RK n j) 3 ?_ (List.replicate m (.int .i64 (-1))) ?_ ?_ ?_ ?_ w.heap.size w ?_ ?_ ?_;(exact HR.out);(rw[List.length_replicate];exact HM.out);(intro _;exact ⟨rfl,⟨w.heap.size,0,none⟩,rfl,fun k v hk=>by obtain ⟨hk1,hk2⟩:=List.getElem?_eq_some_iff.1 hk;rw[List.length_replicate] at hk1;rw[List.getElem_replicate] at hk2;subst hk2;exact rk_cell HR.out (by omega)⟩);(rw[List.length_replicate,rk_len HJ.out.1];omega);(exact fun v hv=>by rw[List.eq_of_mem_replicate hv];rfl);(exact zE HB.out 1);(exact Nat.le_refl _);intro w4 hg4 hb4;rw[HGI.out])
   refine hK _ _ ?_
   clear hK K
   try simp only[ps]
   refine tkA 8 ?v7 rfl (by kernel_rfl) (.inl ⟨by rfl,?y7⟩) ?_
   case y7=>(intro w;go_simp;try with_reducible rfl)
   try simp only[ps]
   refine tkA 9 ?v8 rfl (by kernel_rfl) (.inl ⟨by rfl,?y8⟩) ?_
   case y8=>(intro w;go_simp;try with_reducible rfl)
   try simp only[ps]
   refine wpAny_done (by kernel_rfl) ?_ _
   rw[HS.out] at hg4
   rw[HWR.out]
   go_wp2
   go_roundw
   case rel=>exact ⟨j+m,by go_num,⟨by omega,fun _=>by omega⟩,hg4.out,hb4⟩
   case measure=>simp[intOf];omega
  ·have HK:=zh (show j=n by have:=HJ.out.1;omega)
   have q1:¬ (j:Int)<(n:Int):=by omega
   go_wp2
   go_ret
   exact ⟨rfl,by have:=HR.out;rw[HK.out] at this;exact this,HB.out⟩
end Go.Proofs.YtdfolgmcggdjdaaGreatDoor


