/-
  Walks: awake.
-/
import Derived.Test.YtdfolgmcggdjdaaGreatDoorQYF0
namespace Go.Proofs.YtdfolgmcggdjdaaGreatDoor
open Go.RowKit
set_option maxHeartbeats 16000000
set_option maxRecDepth 100000
theorem ex_nodef:NoDef exS:=by
 intro t ht m hm
 simp only[exS,List.mem_cons,List.mem_nil_iff,or_false] at ht
 rcases ht with rfl|rfl|rfl
 ·cases hm
 ·obtain rfl:m=exM1:=by simpa using hm
  rfl
 ·cases hm
theorem ex_nodefU:NoDef exU:=by
 intro t ht m hm
 simp only[exU,List.mem_cons,List.mem_nil_iff,or_false] at ht
 rcases ht with rfl|rfl
 ·obtain rfl:m={ exM1 with type:=1 }:=by simpa using hm
  rfl
 ·cases hm
theorem ex_num:Num64 exS:=by
 intro t ht
 simp only[exS,List.mem_cons,List.mem_nil_iff,or_false] at ht
 rcases ht with rfl|rfl|rfl <;> (unfold In64;decide)
theorem ex_said (A:Option Addr) (c:Nat):DefSaid exS A c 0:=by have:=DefSaid.none A c ex_nodef;rwa [ex_valid] at this
theorem ex_saidU (A:Option Addr) (c:Nat):DefSaid exU A c 0:=by have:=DefSaid.none A c ex_nodefU;rwa [ex_validU] at this
theorem ex_df (A:Option Addr) (c:Nat):checkD exS 0=0→∀t∈exS,∀m∈t.mems,DfOk exS A c (fun _=>⟨#[]⟩) m:=fun _ t ht m hm =>
 ⟨by show (ByteArray.mk #[]).size≤_;decide,fun h=>by rw[ex_nodef t ht m hm] at h;cases h⟩
theorem ex_typeIs {x:ByteArray} {e:Int} (h:TypeIs exS 2 x e):x=⟨#[105,110,116,40,48,46,46,57,41]⟩∧e=0:=by
 have hr:refErr exS 2=0:=by decide +kernel
 have ht:(useD exS (exS.length+1) [] 2).1=⟨#[105,110,116,40,48,46,46,57,41]⟩:=by decide +kernel
 unfold TypeIs at h
 rw[if_neg (by rw[ex_valid];simp),if_neg (by decide),hr,if_pos rfl,ht] at h
 exact ⟨h.2,h.1⟩
theorem awake_any (w:World) (htab:Tab w):Calls Tryz.prog 7 #[] w (SamePost true w):=by
 have HTB:=zh htab
 clear htab
 go_enter Tryz.func7,Tryz.ntmps7
 go_wp2_with fail
 refine (example_any _).mono ?_
 rintro e w1 ⟨A1,c1,rfl,hs1,hb1⟩
 have HS1:=zh hs1
 have HB1:=zh hb1
 clear hs1 hb1
 go_wp2_with fail
 refine (print_any exS 0 (fun _=>⟨#[]⟩) A1 c1 (ex_said A1 c1) ex_num (ex_df A1 c1) w1 HS1.out (HTB.out.below HB1.out)).mono ?_
 rintro e w2 ⟨rfl,hb2⟩
 have HB2:=zh (zA HB1.out hb2)
 rw[ex_print]
 clear hb2
 go_wp2_with fail
 refine (example_any _).mono ?_
 rintro e w3 ⟨A3,c3,rfl,hs3,hb3⟩
 have HS3:=zh hs3
 have HB3:=zh (zA HB2.out hb3)
 clear hs3 hb3
 go_wp2_with fail
 refine (tidy_any exS 0 A3 c3 (ex_said A3 c3) w3 HS3.out).mono ?_
 rintro e w4 ⟨A4,c4,B4,d4,rfl,ht4,hi4,hb4⟩
 rw[ex_tidyT] at ht4
 rw[ex_tidyI] at hi4
 rw[ex_tidyE,ex_tidyI,ex_tidyT]
 have HBX:=zh (zD w4 (.cells #[.slice A4 exU.length c4] 27))
 have HX4:=zh (heap_alloc_new w4 (.cells #[.slice A4 exU.length c4] 27))
 have HT4:=zh (ht4.below HBX.out)
 have HI4:=zh (hi4.below HBX.out)
 have HB4:=zh (zA (zA HB3.out hb4) HBX.out)
 clear hb4 ht4 hi4
 go_wp2_with fail
 generalize w4.alloc (.cells #[.slice A4 exU.length c4] 27)=W4 at *
 refine (example_any _).mono ?_
 rintro e w5 ⟨A5,c5,rfl,hs5,hb5⟩
 have HS5:=zh hs5
 have HB5:=zh (zA HB4.out hb5)
 have HI5:=zh (HI4.out.below hb5)
 have HT5:=zh (HT4.out.below hb5)
 have HX5:=zh (yE HX4.out hb5)
 clear hs5 hb5
 go_wp2_with fail
 refine (outline_any exS A5 c5 w5 HS5.out (HTB.out.below HB5.out)).mono ?_
 rintro e w6 ⟨rfl,hb6⟩
 rw[ex_out]
 have HB6:=zh (zA HB5.out hb6)
 have HI6:=zh (HI5.out.below hb6)
 have HT6:=zh (HT5.out.below hb6)
 have HX6:=zh (yE HX5.out hb6)
 clear hb6
 go_wp2_with fail
 refine (example_any _).mono ?_
 rintro e w7 ⟨A7,c7,rfl,hs7,hb7⟩
 have HS7:=zh hs7
 have HB7:=zh (zA HB6.out hb7)
 have HI7:=zh (HI6.out.below hb7)
 have HT7:=zh (HT6.out.below hb7)
 have HX7:=zh (yE HX6.out hb7)
 clear hs7 hb7
 go_wp2_with fail
 refine (type_any exS 2 A7 c7 ex_num w7 HS7.out (HTB.out.below HB7.out)).mono ?_
 rintro e w8 ⟨x8,e8,rfl,hx8,hb8⟩
 obtain ⟨rfl,rfl⟩:=ex_typeIs hx8
 have HB8:=zh (zA HB7.out hb8)
 have HI8:=zh (HI7.out.below hb8)
 have HT8:=zh (HT7.out.below hb8)
 have HX8:=zh (yE HX7.out hb8)
 have x3:w8.cell? ⟨w4.heap.size,0,none⟩=some (.slice A4 exU.length c4):=by rw[cell_of_row _ _ _ _ _ _ HX8.out];rfl
 have hlu:exU.length=2:=rfl
 clear hx8 hb8
 go_wp2_with fail
 clear x3
 have HBY:=zh (zD w8 (.cells #[.int .i64 (-1),.int .i64 0,.int .i64 (-1)] 3))
 have HIY:Hid (IntsR (w8.alloc (.cells #[.int .i64 (-1),.int .i64 0,.int .i64 (-1)] 3)) (some ⟨w8.heap.size,0,none⟩) [-1,0,-1]):=ints_at (heap_alloc_new w8 _) (by decide)
 refine (equalInts_any [-1,0,-1] [-1,0,-1] B4 (some ⟨w8.heap.size,0,none⟩) d4 3 _ (HI8.out.below HBY.out) HIY.out).mono ?_
 rintro e w9 ⟨rfl,hb9⟩
 rw[show decide (([-1,0,-1]:List Int)=[-1,0,-1])=true by decide]
 have HB9:=zh (zA (zA HB8.out HBY.out) hb9)
 have HT9:=zh ((HT8.out.below HBY.out).below hb9)
 have HX9:=zh (yE (yE HX8.out HBY.out) hb9)
 clear hb9
 go_wp2_with fail
 refine (example_any _).mono ?_
 rintro e w10 ⟨A10,c10,rfl,hs10,hb10⟩
 have HS10:=zh hs10
 have HB10:=zh (zA HB9.out hb10)
 have HT10:=zh (HT9.out.below hb10)
 have HX10:=zh (yE HX9.out hb10)
 clear hs10 hb10
 go_wp2_with fail
 refine (isTidy_any exS 0 A10 c10 (ex_said A10 c10) w10 HS10.out).mono ?_
 rintro e w11 ⟨rfl,hb11⟩
 rw[show decide (tidyE exS 0=0∧tidyT exS 0=exS)=false from decide_eq_false fun h=>ex_ne (ex_tidyT▸h.2)]
 have HB11:=zh (zA HB10.out hb11)
 have HT11:=zh (HT10.out.below hb11)
 have HX11:=zh (yE HX10.out hb11)
 have x3:w11.cell? ⟨w4.heap.size,0,none⟩=some (.slice A4 exU.length c4):=by rw[cell_of_row _ _ _ _ _ _ HX11.out];rfl
 clear hb11
 go_wp2_with fail
 refine (isTidy_any exU 0 A4 c4 (ex_saidU A4 c4) w11 HT11.out).mono ?_
 rintro e w12 ⟨rfl,hb12⟩
 rw[show decide (tidyE exU 0=0∧tidyT exU 0=exU)=true from decide_eq_true ⟨ex_tidyEU,ex_tidyTU⟩]
 have HB12:=zh (zA HB11.out hb12)
 clear hb12
 go_wp2
 go_ret
 exact ⟨rfl,HB12.out⟩
end Go.Proofs.YtdfolgmcggdjdaaGreatDoor


