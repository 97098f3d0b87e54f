/-
  Walks: the fields of a kind, in the reference.
-/
import Derived.Test.YtdfolgmcggdjdaaGreatDoorQRV2
import Derived.Test.YtdfolgmcggdjdaaGreatDoorQSC6
namespace Go.Proofs.YtdfolgmcggdjdaaGreatDoor
open Go.RowKit
set_option maxHeartbeats 16000000
set_option maxRecDepth 100000
def PlainPost (t:TyD) (As:zo) (_cs:Nat) (Am:zo) (_cm:Nat) (w:World) (e:Ending) (w':World):Prop :=
 ∃Bs ds Bm dm,e = .returned ((zV t).v Bs ds Bm dm)∧(((zV t).syms=[]∨(Bs=As∧(zV t).syms=t.syms))∧((zV t).mems=[]∨(Bm=Am∧(zV t).mems=t.mems)))∧Below w.heap.size w w'
theorem plain_tyR {w:World} {t:TyD} {As Am Bs Bm:zo} (h:TyR w t As Am) (hs:((zV t).syms=[]∨(Bs=As∧(zV t).syms=t.syms))∧((zV t).mems=[]∨(Bm=Am∧(zV t).mems=t.mems))):TyR w (zV t) Bs Bm:=by
 refine ⟨?_,?_,?_⟩
 ·have:(zV t).name=t.name∨(zV t).name=⟨#[]⟩:=by
   unfold zV
   repeat' split
   all_goals simp[zeroT]
  rcases this with e|e
  ·rw[e];exact h.name
  ·rw[e];exact sok_empty
 ·rcases hs.1 with e|⟨rfl,e⟩
  ·rw[e];exact RowsR.nil _ _ _ _ _
  ·rw[e];exact h.syms
 ·rcases hs.2 with e|⟨rfl,e⟩
  ·rw[e];exact RowsR.nil _ _ _ _ _
  ·rw[e];exact h.mems
theorem plain1_any (t:TyD) (hkind:t.kind=1) (As:zo) (cs:Nat) (Am:zo) (cm:Nat) (w:World) :
  Calls Tryz.prog 108 #[t.v As cs Am cm] w (PlainPost t As cs Am cm w):=by
 have HV:Hid (t.v As cs Am cm = .agg #[.int .i64 1,.string t.name,.int .i64 t.low,.int .i64 t.high,.int .i64 t.max,.slice As t.syms.length cs,.slice Am t.mems.length cm,.int .i64 t.key,.int .i64 t.elem,.bool t.open_]):=by show _=_;rw[←hkind]
 have HP:=zh (show zV t={ zeroT with kind:=1 } by unfold zV;simp[hkind])
 rw[HV.out];clear HV hkind
 go_enter Tryz.func108,Tryz.ntmps108
 go_wp2
 unfold PlainPost;rw[HP.out];exact bodyPost_ret (v:=TyD.v { zeroT with kind:=1 } none 0 none 0) (by simp[results,Tryz.results108,go_sem,zeroT]) rfl ⟨none,0,none,0,rfl,⟨.inl rfl,.inl rfl⟩,zE _ _ _⟩
theorem plain2_any (t:TyD) (hkind:t.kind=2) (As:zo) (cs:Nat) (Am:zo) (cm:Nat) (w:World) :
  Calls Tryz.prog 108 #[t.v As cs Am cm] w (PlainPost t As cs Am cm w):=by
 have HV:Hid (t.v As cs Am cm = .agg #[.int .i64 2,.string t.name,.int .i64 t.low,.int .i64 t.high,.int .i64 t.max,.slice As t.syms.length cs,.slice Am t.mems.length cm,.int .i64 t.key,.int .i64 t.elem,.bool t.open_]):=by show _=_;rw[←hkind]
 have HP:=zh (show zV t={ zeroT with kind:=2,low:=t.low,high:=t.high } by unfold zV;simp[hkind])
 rw[HV.out];clear HV hkind
 go_enter Tryz.func108,Tryz.ntmps108
 go_wp2
 unfold PlainPost;rw[HP.out];exact bodyPost_ret (v:=TyD.v { zeroT with kind:=2,low:=t.low,high:=t.high } none 0 none 0) (by simp[results,Tryz.results108,go_sem,zeroT]) rfl ⟨none,0,none,0,rfl,⟨.inl rfl,.inl rfl⟩,zE _ _ _⟩
theorem plain3_any (t:TyD) (hkind:t.kind=3) (As:zo) (cs:Nat) (Am:zo) (cm:Nat) (w:World) :
  Calls Tryz.prog 108 #[t.v As cs Am cm] w (PlainPost t As cs Am cm w):=by
 have HV:Hid (t.v As cs Am cm = .agg #[.int .i64 3,.string t.name,.int .i64 t.low,.int .i64 t.high,.int .i64 t.max,.slice As t.syms.length cs,.slice Am t.mems.length cm,.int .i64 t.key,.int .i64 t.elem,.bool t.open_]):=by show _=_;rw[←hkind]
 have HP:=zh (show zV t={ zeroT with kind:=3,max:=t.max } by unfold zV;simp[hkind])
 rw[HV.out];clear HV hkind
 go_enter Tryz.func108,Tryz.ntmps108
 go_wp2
 unfold PlainPost;rw[HP.out];exact bodyPost_ret (v:=TyD.v { zeroT with kind:=3,max:=t.max } none 0 none 0) (by simp[results,Tryz.results108,go_sem,zeroT]) rfl ⟨none,0,none,0,rfl,⟨.inl rfl,.inl rfl⟩,zE _ _ _⟩
theorem plain4_any (t:TyD) (hkind:t.kind=4) (As:zo) (cs:Nat) (Am:zo) (cm:Nat) (w:World) :
  Calls Tryz.prog 108 #[t.v As cs Am cm] w (PlainPost t As cs Am cm w):=by
 have HV:Hid (t.v As cs Am cm = .agg #[.int .i64 4,.string t.name,.int .i64 t.low,.int .i64 t.high,.int .i64 t.max,.slice As t.syms.length cs,.slice Am t.mems.length cm,.int .i64 t.key,.int .i64 t.elem,.bool t.open_]):=by show _=_;rw[←hkind]
 have HP:=zh (show zV t={ zeroT with kind:=4,name:=t.name,syms:=t.syms,open_:=t.open_ } by unfold zV;simp[hkind])
 rw[HV.out];clear HV hkind
 go_enter Tryz.func108,Tryz.ntmps108
 go_wp2
 unfold PlainPost;rw[HP.out];exact bodyPost_ret (v:=TyD.v { zeroT with kind:=4,name:=t.name,syms:=t.syms,open_:=t.open_ } As cs none 0) (by simp[results,Tryz.results108,go_sem,zeroT]) rfl ⟨As,cs,none,0,rfl,⟨.inr ⟨rfl,rfl⟩,.inl rfl⟩,zE _ _ _⟩
theorem plain5_any (t:TyD) (hkind:t.kind=5) (As:zo) (cs:Nat) (Am:zo) (cm:Nat) (w:World) :
  Calls Tryz.prog 108 #[t.v As cs Am cm] w (PlainPost t As cs Am cm w):=by
 have HV:Hid (t.v As cs Am cm = .agg #[.int .i64 5,.string t.name,.int .i64 t.low,.int .i64 t.high,.int .i64 t.max,.slice As t.syms.length cs,.slice Am t.mems.length cm,.int .i64 t.key,.int .i64 t.elem,.bool t.open_]):=by show _=_;rw[←hkind]
 have HP:=zh (show zV t={ zeroT with kind:=5,name:=t.name,mems:=t.mems } by unfold zV;simp[hkind])
 rw[HV.out];clear HV hkind
 go_enter Tryz.func108,Tryz.ntmps108
 go_wp2
 unfold PlainPost;rw[HP.out];exact bodyPost_ret (v:=TyD.v { zeroT with kind:=5,name:=t.name,mems:=t.mems } none 0 Am cm) (by simp[results,Tryz.results108,go_sem,zeroT]) rfl ⟨none,0,Am,cm,rfl,⟨.inl rfl,.inr ⟨rfl,rfl⟩⟩,zE _ _ _⟩
theorem plain6_any (t:TyD) (hkind:t.kind=6) (As:zo) (cs:Nat) (Am:zo) (cm:Nat) (w:World) :
  Calls Tryz.prog 108 #[t.v As cs Am cm] w (PlainPost t As cs Am cm w):=by
 have HV:Hid (t.v As cs Am cm = .agg #[.int .i64 6,.string t.name,.int .i64 t.low,.int .i64 t.high,.int .i64 t.max,.slice As t.syms.length cs,.slice Am t.mems.length cm,.int .i64 t.key,.int .i64 t.elem,.bool t.open_]):=by show _=_;rw[←hkind]
 have HP:=zh (show zV t={ zeroT with kind:=6,name:=t.name,mems:=t.mems,open_:=t.open_ } by unfold zV;simp[hkind])
 rw[HV.out];clear HV hkind
 go_enter Tryz.func108,Tryz.ntmps108
 go_wp2
 unfold PlainPost;rw[HP.out];exact bodyPost_ret (v:=TyD.v { zeroT with kind:=6,name:=t.name,mems:=t.mems,open_:=t.open_ } none 0 Am cm) (by simp[results,Tryz.results108,go_sem,zeroT]) rfl ⟨none,0,Am,cm,rfl,⟨.inl rfl,.inr ⟨rfl,rfl⟩⟩,zE _ _ _⟩
theorem plain7_any (t:TyD) (hkind:t.kind=7) (As:zo) (cs:Nat) (Am:zo) (cm:Nat) (w:World) :
  Calls Tryz.prog 108 #[t.v As cs Am cm] w (PlainPost t As cs Am cm w):=by
 have HV:Hid (t.v As cs Am cm = .agg #[.int .i64 7,.string t.name,.int .i64 t.low,.int .i64 t.high,.int .i64 t.max,.slice As t.syms.length cs,.slice Am t.mems.length cm,.int .i64 t.key,.int .i64 t.elem,.bool t.open_]):=by show _=_;rw[←hkind]
 have HP:=zh (show zV t={ zeroT with kind:=7,max:=t.max,elem:=t.elem } by unfold zV;simp[hkind])
 rw[HV.out];clear HV hkind
 go_enter Tryz.func108,Tryz.ntmps108
 go_wp2
 unfold PlainPost;rw[HP.out];exact bodyPost_ret (v:=TyD.v { zeroT with kind:=7,max:=t.max,elem:=t.elem } none 0 none 0) (by simp[results,Tryz.results108,go_sem,zeroT]) rfl ⟨none,0,none,0,rfl,⟨.inl rfl,.inl rfl⟩,zE _ _ _⟩
theorem plain8_any (t:TyD) (hkind:t.kind=8) (As:zo) (cs:Nat) (Am:zo) (cm:Nat) (w:World) :
  Calls Tryz.prog 108 #[t.v As cs Am cm] w (PlainPost t As cs Am cm w):=by
 have HV:Hid (t.v As cs Am cm = .agg #[.int .i64 8,.string t.name,.int .i64 t.low,.int .i64 t.high,.int .i64 t.max,.slice As t.syms.length cs,.slice Am t.mems.length cm,.int .i64 t.key,.int .i64 t.elem,.bool t.open_]):=by show _=_;rw[←hkind]
 have HP:=zh (show zV t={ zeroT with kind:=8,max:=t.max,key:=t.key,elem:=t.elem } by unfold zV;simp[hkind])
 rw[HV.out];clear HV hkind
 go_enter Tryz.func108,Tryz.ntmps108
 go_wp2
 unfold PlainPost;rw[HP.out];exact bodyPost_ret (v:=TyD.v { zeroT with kind:=8,max:=t.max,key:=t.key,elem:=t.elem } none 0 none 0) (by simp[results,Tryz.results108,go_sem,zeroT]) rfl ⟨none,0,none,0,rfl,⟨.inl rfl,.inl rfl⟩,zE _ _ _⟩
theorem plain9_any (t:TyD) (hkind:t.kind=9) (As:zo) (cs:Nat) (Am:zo) (cm:Nat) (w:World) :
  Calls Tryz.prog 108 #[t.v As cs Am cm] w (PlainPost t As cs Am cm w):=by
 have HV:Hid (t.v As cs Am cm = .agg #[.int .i64 9,.string t.name,.int .i64 t.low,.int .i64 t.high,.int .i64 t.max,.slice As t.syms.length cs,.slice Am t.mems.length cm,.int .i64 t.key,.int .i64 t.elem,.bool t.open_]):=by show _=_;rw[←hkind]
 have HP:=zh (show zV t={ zeroT with kind:=9,elem:=t.elem } by unfold zV;simp[hkind])
 rw[HV.out];clear HV hkind
 go_enter Tryz.func108,Tryz.ntmps108
 go_wp2
 unfold PlainPost;rw[HP.out];exact bodyPost_ret (v:=TyD.v { zeroT with kind:=9,elem:=t.elem } none 0 none 0) (by simp[results,Tryz.results108,go_sem,zeroT]) rfl ⟨none,0,none,0,rfl,⟨.inl rfl,.inl rfl⟩,zE _ _ _⟩
theorem plain_any (t:TyD) (h1:1≤t.kind) (h9:t.kind≤9) (As:zo) (cs:Nat) (Am:zo) (cm:Nat) (w:World) :
  Calls Tryz.prog 108 #[t.v As cs Am cm] w (PlainPost t As cs Am cm w):=by
 have:t.kind=1∨t.kind=2∨t.kind=3∨t.kind=4∨t.kind=5∨t.kind=6∨t.kind=7∨t.kind=8∨t.kind=9:=by omega
 rcases this with h|h|h|h|h|h|h|h|h
 ·exact plain1_any t h As cs Am cm w
 ·exact plain2_any t h As cs Am cm w
 ·exact plain3_any t h As cs Am cm w
 ·exact plain4_any t h As cs Am cm w
 ·exact plain5_any t h As cs Am cm w
 ·exact plain6_any t h As cs Am cm w
 ·exact plain7_any t h As cs Am cm w
 ·exact plain8_any t h As cs Am cm w
 ·exact plain9_any t h As cs Am cm w
end Go.Proofs.YtdfolgmcggdjdaaGreatDoor


