/-
  What the examples answer: plain Lean.
-/
import Derived.Test.YtdfolgmcggdjdaaGreatDoorQYD3
namespace Go.Proofs.YtdfolgmcggdjdaaGreatDoor
set_option maxHeartbeats 16000000
set_option maxRecDepth 100000
def exM1:MemD:=⟨1,⟨#[120]⟩,0,false,false,zeroV⟩
def exS:List TyD:=[{ zeroT with kind:=7,max:=3,elem:=1 },{ zeroT with kind:=5,name:=⟨#[80]⟩,mems:=[exM1] },{ zeroT with kind:=2,high:=9 }]
def exU:List TyD:=[{ zeroT with kind:=5,name:=⟨#[80]⟩,mems:=[{ exM1 with type:=1 }] },{ zeroT with kind:=7,max:=3,elem:=0 }]
theorem ex_valid:zG exS=0:=by decide +kernel
theorem ex_validU:zG exU=0:=by decide +kernel
theorem ex_check:checkD exS 0=0:=by decide +kernel
theorem ex_checkU:checkD exU 0=0:=by decide +kernel
theorem ex_tidyL:tidyL exS=exU:=by decide +kernel
theorem ex_tidyU:tidyL exU=exU:=by decide +kernel
theorem ex_ix:(t1D exS exS.length).1=[-1,0,-1]:=by decide +kernel
theorem ex_tidyE:tidyE exS 0=0:=by unfold tidyE;rw[if_neg (by rw[ex_check];simp),ex_tidyL];rfl
theorem ex_tidyEU:tidyE exU 0=0:=by unfold tidyE;rw[if_neg (by rw[ex_checkU];simp),ex_tidyU];rfl
theorem ex_tidyT:tidyT exS 0=exU:=by unfold tidyT;rw[if_pos ex_tidyE,ex_tidyL]
theorem ex_tidyTU:tidyT exU 0=exU:=by unfold tidyT;rw[if_pos ex_tidyEU,ex_tidyU]
theorem ex_tidyI:tidyI exS 0=[-1,0,-1]:=by unfold tidyI;rw[if_pos ex_tidyE,ex_ix]
theorem ex_ne:¬ exU=exS:=by decide +kernel
abbrev exText:ByteArray:=⟨#[114,101,99,111,114,100,32,80,32,123,32,49,32,120,58,32,108,105,115,116,40,80,44,32,51,41,59,32,125,59,10]⟩
theorem ex_print:printD exS 0 (fun _=>⟨#[]⟩)=(exText,0):=by decide +kernel
theorem ex_out:outE exS=(⟨#[48,58,32,108,105,115,116,32,45,62,32,49,10,49,58,32,114,101,99,111,114,100,32,80,32,45,62,32,48,10,50,58,32,105,110,116,10]⟩,0):=by decide +kernel
end Go.Proofs.YtdfolgmcggdjdaaGreatDoor


