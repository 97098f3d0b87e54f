/-
  Walks: the types that a type uses (written by gen_us.py).
-/
import Derived.Test.YtdfolgmcggdjdaaGreatDoorQDM
import Derived.Test.YtdfolgmcggdjdaaGreatDoorQEQ0
import Derived.Test.YtdfolgmcggdjdaaGreatDoorQPL
import Derived.StillTailTactics
namespace Go.Proofs.YtdfolgmcggdjdaaGreatDoor
open Go.RowKit
set_option maxHeartbeats 16000000
set_option maxRecDepth 100000
theorem OwnL.base {α:Type} {E size:Nat} {enc:α→List Value} {w:World} {base base':Nat} {v:Value} {l:List α} (h:OwnL E size enc w base v l) (hb:base'≤base):OwnL E size enc w base' v l:=by
 refine ⟨h.1,?_⟩
 rcases h.2 with h0|⟨g,cap,cur,hv,hg0,h1⟩
 ·exact .inl h0
 ·exact .inr ⟨g,cap,cur,hv,Nat.le_trans hb hg0,h1⟩
def OwnPost {α:Type} (E size:Nat) (enc:α→List Value) (l:List α) (w:World) (e:Ending) (w':World):Prop:=∃v,e = .returned v∧OwnL E size enc w' w.heap.size v l∧Below w.heap.size w w'
theorem toD_tail8 {t:TyD} (h:t.kind=8):toD t=t.mems.map (·.type)++[t.key]++[t.elem]:=by simp[toD,usesD,h,Function.comp_def]
theorem toD_tail1 {t:TyD} (h:t.kind=7∨t.kind=9):toD t=t.mems.map (·.type)++[t.elem]:=by rcases h with h|h <;> simp[toD,usesD,h,Function.comp_def]
theorem toD_tail0 {t:TyD} (h:t.kind<7∨9<t.kind):toD t=t.mems.map (·.type):=by
 simp only[toD,usesD];rw[if_neg (by omega),if_neg (by omega)];simp[Function.comp_def]
theorem scUses_any (t:TyD) (h9:t.kind≤9) (As:Option Addr) (cs:Nat) (Am:Option Addr) (cm:Nat) (w:World) (ht:TyR w t As Am) :
  Calls Tryz.prog 74 #[t.v As cs Am cm] w (OwnPost 3 1 encI (toD t) w):=by
 have hn:=ht.mems.1.lt (by omega)
 have HLM:=zh ht.mems.1
 have HM:=zh ht.mems
 clear ht
 go_enter Tryz.func74,Tryz.ntmps74
 go_wp2
 have HM1:=zh (HM.out.below (zD w (t.box As cs Am cm)))
 have HB1:=zh (zD w (t.box As cs Am cm))
 have HC1:Hid (∀j u,(t.cs As cs Am cm)[j]? = some u→(w.alloc (t.box As cs Am cm)).cell? ⟨w.heap.size,j,none⟩=some u):=fun j u hj=>by
  rw[cell_of_row _ _ _ _ _ _ (heap_alloc_new w _)];simpa using hj
 have HZ1:Hid (w.heap.size<(w.alloc (t.box As cs Am cm)).heap.size):=by show _<_;simp
 generalize (w.alloc (t.box As cs Am cm))=w1 at *
 go_loopw [9,3] (fun i a wr=>∃k:Nat,k≤t.mems.length∧i = .int .i64 k∧Hid (OwnL 3 1 encI wr w1.heap.size a ((t.mems.take k).map (fun m:MemD=>m.type))∧Below w1.heap.size w1 wr)) (fun i _ _=>t.mems.length - (intOf i).toNat)
 case atStart=>exact ⟨0,by omega,rfl,OwnL.nil _ _,Below.refl _ _⟩
 case round =>
  obtain ⟨k,hk,rfl,hh⟩:=hrel
  obtain ⟨wo,rfl⟩:∃wo:World,wo=wr:=⟨_,rfl⟩
  have hbl:=hh.out.2
  have k0:=zB hbl (HC1.out 0 _ rfl)
  have k6:=zB hbl (HC1.out 6 _ rfl)
  have k7:=zB hbl (HC1.out 7 _ rfl)
  have k8:=zB hbl (HC1.out 8 _ rfl)
  have HBO:=zh (zA HB1.out hbl)
  have HBL:=zh hbl
  have HOO:=zh hh.out.1
  have hzz:w.heap.size<wo.heap.size:=Nat.lt_of_lt_of_le HZ1.out hbl.size
  clear hbl
  by_cases hlt:k<t.mems.length
  ·obtain ⟨b,o,A1,c1,A2,c2,A3,c3,rfl,hr1,a0,a1,a2,a3,a4,a5,a6,a7,a8,a9,a10,a11,a12⟩:=HM1.out.at13 hlt
   clear hr1
   have hb1:=zK a0
   simp only at hb1
   replace a0:=zB HBL.out a0
   replace a1:=zB HBL.out a1
   replace a2:=zB HBL.out a2
   replace a3:=zB HBL.out a3
   replace a4:=zB HBL.out a4
   replace a5:=zB HBL.out a5
   replace a6:=zB HBL.out a6
   replace a7:=zB HBL.out a7
   replace a8:=zB HBL.out a8
   replace a9:=zB HBL.out a9
   replace a10:=zB HBL.out a10
   replace a11:=zB HBL.out a11
   replace a12:=zB HBL.out a12
   have HT1:Hid (((t.mems.take (k+1)).map (fun m:MemD=>m.type))=((t.mems.take k).map (fun m:MemD=>m.type))++[(fun m:MemD=>m.type) t.mems[k]]):=by
    show _=_;rw[List.take_succ_eq_append_getElem hlt,List.map_append];rfl
   have HLN:Hid (k+1≤879609302220):=by have:=HLM.out;unfold Lim at this;show _≤_;omega
   have h1:(0:Int)≤(k:Int):=by omega
   have h2:(k:Int)<(t.mems.length:Int):=by omega
   have hz1:=zK a0
   simp only at hz1
   have HO2:Hid (OwnL 3 1 encI ((wo.alloc ((t.mems[k]).box A1 c1 A2 c2 A3 c3)).alloc (.cells #[.int .i64 (t.mems[k]).type] 3)) w1.heap.size u3 ((t.mems.take k).map (fun m:MemD=>m.type))):=OwnL.alloc (OwnL.alloc HOO.out _) _
   have HR2:Hid (((wo.alloc ((t.mems[k]).box A1 c1 A2 c2 A3 c3)).alloc (.cells #[.int .i64 (t.mems[k]).type] 3)).rangeAt (wo.heap.size+1) 0 [.int .i64 (t.mems[k]).type]):=zh (by have:=zS (wo.alloc ((t.mems[k]).box A1 c1 A2 c2 A3 c3)) [.int .i64 (t.mems[k]).type] 3;simpa using this)
   have HS2:Hid (w1.heap.size≤((wo.alloc ((t.mems[k]).box A1 c1 A2 c2 A3 c3)).alloc (.cells #[.int .i64 (t.mems[k]).type] 3)).heap.size):=by have:=HBL.out.size;show _≤_;simp;omega
   have HB2:Hid (Below w1.heap.size w1 ((wo.alloc ((t.mems[k]).box A1 c1 A2 c2 A3 c3)).alloc (.cells #[.int .i64 (t.mems[k]).type] 3))):=(HBL.out.alloc HBL.out.size _).alloc (by have:=HBL.out.size;simp;omega) _
   go_wp2_with (at_builtin;refine zJ zY _ rfl (.tmp 13) (.tmp 16) rfl w1.heap.size _ _ _ rfl HO2.out (wo.heap.size+1) 0 1 1 [.int .i64 (t.mems[k]).type] rfl rfl HR2.out (by simp[Value.oneCell']) (by have:=HLN.out;simp;omega) (by have:=HLN.out;simp;omega) HS2.out ?_;intro v8 w8 ho8 hg8)
   go_roundw
   case rel=>exact ⟨k+1,by omega,by go_num,(by rw[HT1.out];exact OwnL.snoc (x:=(fun m:MemD=>m.type) t.mems[k]) ho8),HB2.out.grown hg8 HS2.out HO2.out.lt⟩
   case measure=>simp[intOf];omega
  ·have HOE:Hid (OwnL 3 1 encI wo w1.heap.size u3 (t.mems.map (fun m:MemD=>m.type))):=by have:=HOO.out;rwa [List.take_of_length_le (by omega)] at this
   have HLN:Hid (t.mems.length+2≤879609302223):=by have:=HLM.out;unfold Lim at this;show _≤_;omega
   have HW:Hid (w.heap.size≤w1.heap.size):=by have:=HZ1.out;show _≤_;omega
   clear HOO
   by_cases e8:t.kind=8
   ·have HD:=zh (toD_tail8 e8)
    have q8:(t.kind==8)=true:=by simp[e8]
    have q7:(t.kind==7)=false:=by simp[e8]
    have q6:decide (7≤t.kind)=true:=by simp[e8]
    clear e8
    have HO3:Hid (OwnL 3 1 encI (World.alloc wo (.cells #[.int .i64 t.key] 3)) w1.heap.size _ _):=OwnL.alloc HOE.out _
    have HR3:Hid ((World.alloc wo (.cells #[.int .i64 t.key] 3)).rangeAt wo.heap.size 0 [.int .i64 t.key]):=zS wo [.int .i64 t.key] 3
    have HB3:Hid (Below w1.heap.size w1 (World.alloc wo (.cells #[.int .i64 t.key] 3))∧w1.heap.size≤(World.alloc wo (.cells #[.int .i64 t.key] 3)).heap.size):=⟨Below.alloc HBL.out (Below.size HBL.out) _,by have:=Below.size HBL.out;simp;omega⟩
    go_wp2_with (first|(at_builtin;refine zJ zY _ rfl (.tmp 22) (.tmp 25) rfl w1.heap.size _ _ _ rfl HO3.out wo.heap.size 0 1 1 [.int .i64 t.key] rfl rfl HR3.out (by simp[Value.oneCell']) (by have:=HLN.out;simp;omega) (by have:=HLN.out;simp;omega) HB3.out.2 ?_;intro v8 w8 ho8 hg8;have HO5:=zh (OwnL.snoc (x:=t.key) ho8);have HB5:=zh (HB3.out.1.grown hg8 HB3.out.2 HO3.out.lt);have HO4:Hid (OwnL 3 1 encI (World.alloc w8 (.cells #[.int .i64 t.elem] 3)) w1.heap.size _ _):=OwnL.alloc HO5.out _;have HR4:Hid ((World.alloc w8 (.cells #[.int .i64 t.elem] 3)).rangeAt w8.heap.size 0 [.int .i64 t.elem]):=zS w8 [.int .i64 t.elem] 3;have HB4:Hid (Below w1.heap.size w1 (World.alloc w8 (.cells #[.int .i64 t.elem] 3))∧w1.heap.size≤(World.alloc w8 (.cells #[.int .i64 t.elem] 3)).heap.size):=⟨Below.alloc HB5.out (Below.size HB5.out) _,by have:=Below.size HB5.out;simp;omega⟩;(try clear ho8);have g0:=zB HB5.out (HC1.out 0 _ rfl);have g8:=zB HB5.out (HC1.out 8 _ rfl))|(at_builtin;refine zJ zY _ rfl (.tmp 30) (.tmp 33) rfl w1.heap.size _ _ _ rfl HO4.out w8.heap.size 0 1 1 [.int .i64 t.elem] rfl rfl HR4.out (by simp[Value.oneCell']) (by have:=HLN.out;simp;omega) (by have:=HLN.out;simp;omega) HB4.out.2 ?_;intro v9 w9 ho9 hg9))
    go_ret
    refine ⟨_,rfl,?_,zA HB1.out (HB4.out.1.grown hg9 HB4.out.2 HO4.out.lt)⟩
    rw[HD.out]
    exact OwnL.base (OwnL.snoc (x:=t.elem) ho9) HW.out
   by_cases e7:t.kind=7
   ·have HD:=zh (toD_tail1 (t:=t) (by omega))
    have q7:(t.kind==7)=true:=by simp[e7]
    have q8:(t.kind==8)=false:=by simp[e7]
    have q9:(t.kind==9)=false:=by simp[e7]
    have q6:decide (7≤t.kind)=true:=by simp[e7]
    clear e7 e8
    have HO3:Hid (OwnL 3 1 encI (World.alloc wo (.cells #[.int .i64 t.elem] 3)) w1.heap.size _ _):=OwnL.alloc HOE.out _
    have HR3:Hid ((World.alloc wo (.cells #[.int .i64 t.elem] 3)).rangeAt wo.heap.size 0 [.int .i64 t.elem]):=zS wo [.int .i64 t.elem] 3
    have HB3:Hid (Below w1.heap.size w1 (World.alloc wo (.cells #[.int .i64 t.elem] 3))∧w1.heap.size≤(World.alloc wo (.cells #[.int .i64 t.elem] 3)).heap.size):=⟨Below.alloc HBL.out (Below.size HBL.out) _,by have:=Below.size HBL.out;simp;omega⟩
    go_wp2_with (at_builtin;refine zJ zY _ rfl (.tmp 30) (.tmp 33) rfl w1.heap.size _ _ _ rfl HO3.out wo.heap.size 0 1 1 [.int .i64 t.elem] rfl rfl HR3.out (by simp[Value.oneCell']) (by have:=HLN.out;simp;omega) (by have:=HLN.out;simp;omega) HB3.out.2 ?_;intro v8 w8 ho8 hg8)
    go_ret
    refine ⟨_,rfl,?_,zA HB1.out (HB3.out.1.grown hg8 HB3.out.2 HO3.out.lt)⟩
    rw[HD.out]
    exact OwnL.base (OwnL.snoc (x:=t.elem) ho8) HW.out
   by_cases e9:t.kind=9
   ·have HD:=zh (toD_tail1 (t:=t) (by omega))
    have q7:(t.kind==7)=false:=by simp[e9]
    have q8:(t.kind==8)=false:=by simp[e9]
    have q9:(t.kind==9)=true:=by simp[e9]
    have q6:decide (7≤t.kind)=true:=by simp[e9]
    clear e7 e8 e9
    have HO3:Hid (OwnL 3 1 encI (World.alloc wo (.cells #[.int .i64 t.elem] 3)) w1.heap.size _ _):=OwnL.alloc HOE.out _
    have HR3:Hid ((World.alloc wo (.cells #[.int .i64 t.elem] 3)).rangeAt wo.heap.size 0 [.int .i64 t.elem]):=zS wo [.int .i64 t.elem] 3
    have HB3:Hid (Below w1.heap.size w1 (World.alloc wo (.cells #[.int .i64 t.elem] 3))∧w1.heap.size≤(World.alloc wo (.cells #[.int .i64 t.elem] 3)).heap.size):=⟨Below.alloc HBL.out (Below.size HBL.out) _,by have:=Below.size HBL.out;simp;omega⟩
    go_wp2_with (at_builtin;refine zJ zY _ rfl (.tmp 30) (.tmp 33) rfl w1.heap.size _ _ _ rfl HO3.out wo.heap.size 0 1 1 [.int .i64 t.elem] rfl rfl HR3.out (by simp[Value.oneCell']) (by have:=HLN.out;simp;omega) (by have:=HLN.out;simp;omega) HB3.out.2 ?_;intro v8 w8 ho8 hg8)
    go_ret
    refine ⟨_,rfl,?_,zA HB1.out (HB3.out.1.grown hg8 HB3.out.2 HO3.out.lt)⟩
    rw[HD.out]
    exact OwnL.base (OwnL.snoc (x:=t.elem) ho8) HW.out
   have hk0:t.kind<7∨9<t.kind:=by omega
   have HD:=zh (toD_tail0 (t:=t) hk0)
   have q7:(t.kind==7)=false:=by simp[e7]
   have q8:(t.kind==8)=false:=by simp[e8]
   have q9:(t.kind==9)=false:=by simp[e9]
   have q6:decide (7≤t.kind)=false:=by simp;omega
   clear e7 e8 e9 hk0
   go_wp2
   go_ret
   refine ⟨_,rfl,?_,HBO.out⟩
   rw[HD.out]
   exact OwnL.base HOE.out HW.out
theorem rUses7_any (t:TyD) (As:Option Addr) (cs:Nat) (Am:Option Addr) (cm:Nat) (w:World) (ht:TyR w t As Am) :
  Calls Tryz.prog 79 #[t.v As cs Am cm] w (OwnPost 3 1 encI (toD t) w):=by
 have hn:=ht.mems.1.lt (by omega)
 have HLM:=zh ht.mems.1
 have HM:=zh ht.mems
 clear ht
 go_enter Tryz.func79,Tryz.ntmps79
 go_wp2
 have HM1:=zh (HM.out.below (zD w (t.box As cs Am cm)))
 have HB1:=zh (zD w (t.box As cs Am cm))
 have HC1:Hid (∀j u,(t.cs As cs Am cm)[j]? = some u→(w.alloc (t.box As cs Am cm)).cell? ⟨w.heap.size,j,none⟩=some u):=fun j u hj=>by
  rw[cell_of_row _ _ _ _ _ _ (heap_alloc_new w _)];simpa using hj
 have HZ1:Hid (w.heap.size<(w.alloc (t.box As cs Am cm)).heap.size):=by show _<_;simp
 generalize (w.alloc (t.box As cs Am cm))=w1 at *
 go_loopw [4,3] (fun i a wr=>∃k:Nat,k≤t.mems.length∧i = .int .i64 k∧Hid (OwnL 3 1 encI wr w1.heap.size a ((t.mems.take k).map (fun m:MemD=>m.type))∧Below w1.heap.size w1 wr)) (fun i _ _=>t.mems.length - (intOf i).toNat)
 case atStart=>exact ⟨0,by omega,rfl,OwnL.nil _ _,Below.refl _ _⟩
 case round =>
  obtain ⟨k,hk,rfl,hh⟩:=hrel
  obtain ⟨wo,rfl⟩:∃wo:World,wo=wr:=⟨_,rfl⟩
  have hbl:=hh.out.2
  have k0:=zB hbl (HC1.out 0 _ rfl)
  have k6:=zB hbl (HC1.out 6 _ rfl)
  have k7:=zB hbl (HC1.out 7 _ rfl)
  have k8:=zB hbl (HC1.out 8 _ rfl)
  have HBO:=zh (zA HB1.out hbl)
  have HBL:=zh hbl
  have HOO:=zh hh.out.1
  have hzz:w.heap.size<wo.heap.size:=Nat.lt_of_lt_of_le HZ1.out hbl.size
  clear hbl
  by_cases hlt:k<t.mems.length
  ·obtain ⟨b,o,A1,c1,A2,c2,A3,c3,rfl,hr1,a0,a1,a2,a3,a4,a5,a6,a7,a8,a9,a10,a11,a12⟩:=HM1.out.at13 hlt
   clear hr1
   have hb1:=zK a0
   simp only at hb1
   replace a0:=zB HBL.out a0
   replace a1:=zB HBL.out a1
   replace a2:=zB HBL.out a2
   replace a3:=zB HBL.out a3
   replace a4:=zB HBL.out a4
   replace a5:=zB HBL.out a5
   replace a6:=zB HBL.out a6
   replace a7:=zB HBL.out a7
   replace a8:=zB HBL.out a8
   replace a9:=zB HBL.out a9
   replace a10:=zB HBL.out a10
   replace a11:=zB HBL.out a11
   replace a12:=zB HBL.out a12
   have HT1:Hid (((t.mems.take (k+1)).map (fun m:MemD=>m.type))=((t.mems.take k).map (fun m:MemD=>m.type))++[(fun m:MemD=>m.type) t.mems[k]]):=by
    show _=_;rw[List.take_succ_eq_append_getElem hlt,List.map_append];rfl
   have HLN:Hid (k+1≤879609302220):=by have:=HLM.out;unfold Lim at this;show _≤_;omega
   have h1:(0:Int)≤(k:Int):=by omega
   have h2:(k:Int)<(t.mems.length:Int):=by omega
   have hz1:=zK a0
   simp only at hz1
   have HO2:Hid (OwnL 3 1 encI (wo.alloc (.cells #[.int .i64 (t.mems[k]).type] 3)) w1.heap.size u3 ((t.mems.take k).map (fun m:MemD=>m.type))):=OwnL.alloc HOO.out _
   have HR2:Hid ((wo.alloc (.cells #[.int .i64 (t.mems[k]).type] 3)).rangeAt wo.heap.size 0 [.int .i64 (t.mems[k]).type]):=zh (by have:=zS wo [.int .i64 (t.mems[k]).type] 3;simpa using this)
   have HS2:Hid (w1.heap.size≤(wo.alloc (.cells #[.int .i64 (t.mems[k]).type] 3)).heap.size):=by have:=HBL.out.size;show _≤_;simp;omega
   have HB2:Hid (Below w1.heap.size w1 (wo.alloc (.cells #[.int .i64 (t.mems[k]).type] 3))):=HBL.out.alloc HBL.out.size _
   go_wp2_with (at_builtin;refine zJ zY _ rfl (.tmp 12) (.tmp 19) rfl w1.heap.size _ _ _ rfl HO2.out wo.heap.size 0 1 1 [.int .i64 (t.mems[k]).type] rfl rfl HR2.out (by simp[Value.oneCell']) (by have:=HLN.out;simp;omega) (by have:=HLN.out;simp;omega) HS2.out ?_;intro v8 w8 ho8 hg8)
   go_roundw
   case rel=>exact ⟨k+1,by omega,by go_num,(by rw[HT1.out];exact OwnL.snoc (x:=(fun m:MemD=>m.type) t.mems[k]) ho8),HB2.out.grown hg8 HS2.out HO2.out.lt⟩
   case measure=>simp[intOf];omega
  ·have HOE:Hid (OwnL 3 1 encI wo w1.heap.size u3 (t.mems.map (fun m:MemD=>m.type))):=by have:=HOO.out;rwa [List.take_of_length_le (by omega)] at this
   have HLN:Hid (t.mems.length+2≤879609302223):=by have:=HLM.out;unfold Lim at this;show _≤_;omega
   have HW:Hid (w.heap.size≤w1.heap.size):=by have:=HZ1.out;show _≤_;omega
   clear HOO
   by_cases e8:t.kind=8
   ·have HD:=zh (toD_tail8 e8)
    have q8:(t.kind==8)=true:=by simp[e8]
    have q7:(t.kind==7)=false:=by simp[e8]
    clear e8
    have HO3:Hid (OwnL 3 1 encI (World.alloc wo (.cells #[.int .i64 t.key] 3)) w1.heap.size _ _):=OwnL.alloc HOE.out _
    have HR3:Hid ((World.alloc wo (.cells #[.int .i64 t.key] 3)).rangeAt wo.heap.size 0 [.int .i64 t.key]):=zS wo [.int .i64 t.key] 3
    have HB3:Hid (Below w1.heap.size w1 (World.alloc wo (.cells #[.int .i64 t.key] 3))∧w1.heap.size≤(World.alloc wo (.cells #[.int .i64 t.key] 3)).heap.size):=⟨Below.alloc HBL.out (Below.size HBL.out) _,by have:=Below.size HBL.out;simp;omega⟩
    go_wp2_with (first|(at_builtin;refine zJ zY _ rfl (.tmp 24) (.tmp 27) rfl w1.heap.size _ _ _ rfl HO3.out wo.heap.size 0 1 1 [.int .i64 t.key] rfl rfl HR3.out (by simp[Value.oneCell']) (by have:=HLN.out;simp;omega) (by have:=HLN.out;simp;omega) HB3.out.2 ?_;intro v8 w8 ho8 hg8;have HO5:=zh (OwnL.snoc (x:=t.key) ho8);have HB5:=zh (HB3.out.1.grown hg8 HB3.out.2 HO3.out.lt);have HO4:Hid (OwnL 3 1 encI (World.alloc w8 (.cells #[.int .i64 t.elem] 3)) w1.heap.size _ _):=OwnL.alloc HO5.out _;have HR4:Hid ((World.alloc w8 (.cells #[.int .i64 t.elem] 3)).rangeAt w8.heap.size 0 [.int .i64 t.elem]):=zS w8 [.int .i64 t.elem] 3;have HB4:Hid (Below w1.heap.size w1 (World.alloc w8 (.cells #[.int .i64 t.elem] 3))∧w1.heap.size≤(World.alloc w8 (.cells #[.int .i64 t.elem] 3)).heap.size):=⟨Below.alloc HB5.out (Below.size HB5.out) _,by have:=Below.size HB5.out;simp;omega⟩;(try clear ho8);have g0:=zB HB5.out (HC1.out 0 _ rfl);have g8:=zB HB5.out (HC1.out 8 _ rfl))|(at_builtin;refine zJ zY _ rfl (.tmp 42) (.tmp 45) rfl w1.heap.size _ _ _ rfl HO4.out w8.heap.size 0 1 1 [.int .i64 t.elem] rfl rfl HR4.out (by simp[Value.oneCell']) (by have:=HLN.out;simp;omega) (by have:=HLN.out;simp;omega) HB4.out.2 ?_;intro v9 w9 ho9 hg9))
    go_ret
    refine ⟨_,rfl,?_,zA HB1.out (HB4.out.1.grown hg9 HB4.out.2 HO4.out.lt)⟩
    rw[HD.out]
    exact OwnL.base (OwnL.snoc (x:=t.elem) ho9) HW.out
   by_cases e7:t.kind=7
   ·have HD:=zh (toD_tail1 (t:=t) (by omega))
    have q7:(t.kind==7)=true:=by simp[e7]
    have q8:(t.kind==8)=false:=by simp[e7]
    have q9:(t.kind==9)=false:=by simp[e7]
    clear e7 e8
    have HO3:Hid (OwnL 3 1 encI (World.alloc wo (.cells #[.int .i64 t.elem] 3)) w1.heap.size _ _):=OwnL.alloc HOE.out _
    have HR3:Hid ((World.alloc wo (.cells #[.int .i64 t.elem] 3)).rangeAt wo.heap.size 0 [.int .i64 t.elem]):=zS wo [.int .i64 t.elem] 3
    have HB3:Hid (Below w1.heap.size w1 (World.alloc wo (.cells #[.int .i64 t.elem] 3))∧w1.heap.size≤(World.alloc wo (.cells #[.int .i64 t.elem] 3)).heap.size):=⟨Below.alloc HBL.out (Below.size HBL.out) _,by have:=Below.size HBL.out;simp;omega⟩
    go_wp2_with (at_builtin;refine zJ zY _ rfl (.tmp 42) (.tmp 45) rfl w1.heap.size _ _ _ rfl HO3.out wo.heap.size 0 1 1 [.int .i64 t.elem] rfl rfl HR3.out (by simp[Value.oneCell']) (by have:=HLN.out;simp;omega) (by have:=HLN.out;simp;omega) HB3.out.2 ?_;intro v8 w8 ho8 hg8)
    go_ret
    refine ⟨_,rfl,?_,zA HB1.out (HB3.out.1.grown hg8 HB3.out.2 HO3.out.lt)⟩
    rw[HD.out]
    exact OwnL.base (OwnL.snoc (x:=t.elem) ho8) HW.out
   by_cases e9:t.kind=9
   ·have HD:=zh (toD_tail1 (t:=t) (by omega))
    have q7:(t.kind==7)=false:=by simp[e9]
    have q8:(t.kind==8)=false:=by simp[e9]
    have q9:(t.kind==9)=true:=by simp[e9]
    clear e7 e8 e9
    have HO3:Hid (OwnL 3 1 encI (World.alloc wo (.cells #[.int .i64 t.elem] 3)) w1.heap.size _ _):=OwnL.alloc HOE.out _
    have HR3:Hid ((World.alloc wo (.cells #[.int .i64 t.elem] 3)).rangeAt wo.heap.size 0 [.int .i64 t.elem]):=zS wo [.int .i64 t.elem] 3
    have HB3:Hid (Below w1.heap.size w1 (World.alloc wo (.cells #[.int .i64 t.elem] 3))∧w1.heap.size≤(World.alloc wo (.cells #[.int .i64 t.elem] 3)).heap.size):=⟨Below.alloc HBL.out (Below.size HBL.out) _,by have:=Below.size HBL.out;simp;omega⟩
    go_wp2_with (at_builtin;refine zJ zY _ rfl (.tmp 42) (.tmp 45) rfl w1.heap.size _ _ _ rfl HO3.out wo.heap.size 0 1 1 [.int .i64 t.elem] rfl rfl HR3.out (by simp[Value.oneCell']) (by have:=HLN.out;simp;omega) (by have:=HLN.out;simp;omega) HB3.out.2 ?_;intro v8 w8 ho8 hg8)
    go_ret
    refine ⟨_,rfl,?_,zA HB1.out (HB3.out.1.grown hg8 HB3.out.2 HO3.out.lt)⟩
    rw[HD.out]
    exact OwnL.base (OwnL.snoc (x:=t.elem) ho8) HW.out
   have hk0:t.kind<7∨9<t.kind:=by omega
   have HD:=zh (toD_tail0 (t:=t) hk0)
   have q7:(t.kind==7)=false:=by simp[e7]
   have q8:(t.kind==8)=false:=by simp[e8]
   have q9:(t.kind==9)=false:=by simp[e9]
   clear e7 e8 e9 hk0
   go_wp2
   go_ret
   refine ⟨_,rfl,?_,HBO.out⟩
   rw[HD.out]
   exact OwnL.base HOE.out HW.out
end Go.Proofs.YtdfolgmcggdjdaaGreatDoor


