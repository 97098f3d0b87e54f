/-
  Walks: schema.Uses, Outline.
-/
import Derived.Test.YtdfolgmcggdjdaaGreatDoorQYD1
namespace Go.Proofs.YtdfolgmcggdjdaaGreatDoor
open Go.RowKit
set_option maxHeartbeats 16000000
set_option maxRecDepth 100000
theorem toD_le2 (x:TyD):(toD x).length≤x.mems.length+2:=by
 by_cases h8:x.kind=8
 ·rw[toD_tail8 h8];simp
 by_cases h7:x.kind=7∨x.kind=9
 ·rw[toD_tail1 h7];simp
 unfold toD usesD
 rw[if_neg h8,if_neg h7]
 simp
theorem usesO_any (s:List TyD) (tn:Nat) (A:Option Addr) (c:Nat) (hv:zG s=0) (htn:tn<s.length) (x:TyD) (hx:s[tn]=x) (w:World) (hs:TysR w A s) :
  Calls Tryz.prog 47 #[.agg #[.slice A s.length c],.int .i64 (tn:Int)] w fun e w'=>∃v base,e = .returned (.tuple #[v,.int .i64 0])∧OwnI w' base v (onceL (toD x))∧w.heap.size≤base∧Below w.heap.size w w':=by
 have hls:=yD hv
 have HS:=zh hs
 have HV:=zh hv
 have HB0:=zh (zD w (.cells #[.slice A s.length c] 27))
 have HX0:=zh (heap_alloc_new w (.cells #[.slice A s.length c] 27))
 have HKR:Hid (1≤x.kind∧x.kind≤9):=by have:=kind_rng (t:=(tn:Int)) hv (by omega);rwa [tyAt_nat htn,hx] at this
 have HML:Hid (x.mems.length≤16):=mems_le hv (hx▸List.getElem_mem htn)
 clear hs hv
 go_enter Tryz.func47,Tryz.ntmps47
 go_wp2_with fail
 generalize w.alloc (.cells #[.slice A s.length c] 27)=W1 at *
 refine (known_any s (tn:Int) A c HV.out (by omega) W1 (HS.out.below HB0.out)).mono ?_
 rintro e w1 ⟨rfl,hb1⟩
 have HB1:=zh (zA HB0.out hb1)
 obtain ⟨b,o,As,cs,Am,cm,rfl,htr,t0,t1,t2,t3,t4,t5,t6,t7,t8,t9⟩:=(HS.out.below HB1.out).at10 htn
 have x0:w1.cell? ⟨w.heap.size,0,none⟩=some (.slice (some ⟨b,o,none⟩) s.length c):=by rw[cell_of_row _ _ _ _ _ _ (yE HX0.out hb1)];rfl
 have HTR:=zh htr
 have h1:(0:Int)≤(tn:Int):=by omega
 have h2:(tn:Int)<(s.length:Int):=by omega
 clear hb1 htr
 rw[hx] at HTR t0 t1 t2 t3 t4 t5 t6 t7 t8 t9
 clear hx
 go_wp2_with fail
 refine (scUses_any x HKR.out.2 As cs Am cm w1 HTR.out).mono ?_
 rintro e w2 ⟨v2,rfl,ho2,hb2⟩
 have htl:(toD x).length≤18:=by have:=toD_le2 x;have:=HML.out;omega
 obtain ⟨B2,d2,rfl,hi2⟩:=OwnI.ints ho2 (by unfold Lim;omega)
 have HI2:=zh hi2
 have HB2:=zh (zA HB1.out hb2)
 clear ho2 hi2 hb2 t0 t1 t2 t3 t4 t5 t6 t7 t8 t9 x0
 have HOL:=zh (once_len (toD x))
 obtain ⟨U,hU⟩:∃U,U=toD x:=⟨_,rfl⟩
 have HU:=zh hU
 rw[←hU] at HI2 HOL htl
 rw[←hU]
 clear hU
 have HOT:=zh (fun (k:Nat) (h:k<U.length)=>once_take h)
 go_wp2
 go_loopw [23,7] (fun i v wr=>∃k:Nat,k≤U.length∧i = .int .i64 (k:Int)∧Hid (OwnI wr w2.heap.size v (onceL (U.take k))∧Below w2.heap.size w2 wr)) (fun i _ _=>U.length - (intOf i).toNat)
 case atStart=>exact ⟨0,by omega,rfl,OwnL.nil _ _,Below.refl _ _⟩
 case round =>
  obtain ⟨k,hk,rfl,hh⟩:=hrel
  have HO:=zh hh.out.1
  have HBR:=zh hh.out.2
  have hol:=HOL.out k hk
  clear hh
  by_cases hlt:k<U.length
  ·obtain ⟨b3,o3,rfl,i3⟩:=(HI2.out.below HBR.out).at1 hlt
   have j1:(0:Int)≤(k:Int):=by omega
   have j2:(k:Int)<(U.length:Int):=by omega
   have HT:=zh (HOT.out k hlt)
   obtain ⟨Av,cv,rfl,hiv⟩:=OwnI.ints HO.out (by unfold Lim;omega)
   have HIV:=zh hiv
   clear hiv
   generalize U[k]=u at *
   generalize onceL (U.take k)=O at *
   go_wp2_with fail
   refine (containsI_any O u Av cv wr HIV.out).mono ?_
   rintro e w5 ⟨rfl,hb5⟩
   have HB5:=zh (zA HBR.out hb5)
   have HO5:=zh (HO.out.below hb5)
   clear hb5 i3
   by_cases hm:u∈O
   ·have q1:decide (u∈O)=true:=decide_eq_true hm
    have HT2:=zh (HT.out.trans (if_pos hm))
    clear hm
    go_wp2
    go_roundw
    case rel=>exact ⟨k+1,by omega,by go_num,by rw[HT2.out];exact HO5.out,HB5.out⟩
    case measure=>simp[intOf];omega
   ·have q1:decide (u∈O)=false:=decide_eq_false hm
    have HT2:=zh (HT.out.trans (if_neg hm))
    clear hm
    have HO6:Hid (OwnL 3 1 encI (World.alloc w5 (.cells #[.int .i64 u] 3)) w2.heap.size _ _):=OwnL.alloc HO5.out _
    have HR6:Hid ((World.alloc w5 (.cells #[.int .i64 u] 3)).rangeAt w5.heap.size 0 [.int .i64 u]):=zS w5 [.int .i64 u] 3
    have HB6:Hid (Below w2.heap.size w2 (World.alloc w5 (.cells #[.int .i64 u] 3))∧w2.heap.size≤(World.alloc w5 (.cells #[.int .i64 u] 3)).heap.size):=⟨Below.alloc HB5.out (Below.size HB5.out) _,by have:=Below.size HB5.out;simp;omega⟩
    go_wp2_with (at_builtin;refine zJ zY _ rfl (.tmp 31) (.tmp 33) rfl w2.heap.size _ _ _ rfl HO6.out w5.heap.size 0 1 1 [.int .i64 u] rfl rfl HR6.out (by simp[Value.oneCell']) (by omega) (by omega) HB6.out.2 ?_;intro v8 w8 ho8 hg8)
    go_roundw
    case rel=>exact ⟨k+1,by omega,by go_num,by rw[HT2.out];exact OwnL.snoc (x:=u) ho8,HB6.out.1.grown hg8 HB6.out.2 HO6.out.lt⟩
    case measure=>simp[intOf];omega
  ·obtain rfl:k=U.length:=by omega
   rw[List.take_length] at HO hol
   obtain ⟨Av,cv,rfl,hiv⟩:=OwnI.ints HO.out (by unfold Lim;omega)
   have HBF:=zh (zA HB2.out HBR.out)
   clear hiv
   go_wp2
   go_ret2
   rw[←HU.out]
   exact ⟨_,w2.heap.size,rfl,HO.out,HB2.out.size,HBF.out⟩
end Go.Proofs.YtdfolgmcggdjdaaGreatDoor


