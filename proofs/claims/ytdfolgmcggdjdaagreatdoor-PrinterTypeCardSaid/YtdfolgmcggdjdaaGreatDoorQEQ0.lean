/-
  Comparing structs of a number and a string by '==' and '!='.
-/
import Derived.Test.YtdfolgmcggdjdaaGreatDoorQDM
import Derived.Lib.Bytealg
namespace Go.Proofs.YtdfolgmcggdjdaaGreatDoor
open Go.RowKit
set_option maxHeartbeats 16000000
set_option maxRecDepth 100000
theorem zM (a b:ByteArray):(a.toList==b.toList)=decide (a=b):=by
 rw[Lib.toList_data,Lib.toList_data]
 by_cases h:a=b
 ·subst h;simp
 ·have:¬ a.data.toList=b.data.toList:=fun e=>h (Go.WideShapes.bytes_inj e)
  rw[decide_eq_false h];simpa using this
section
variable {P:Program} (w:World)
theorem part_num {P:Program} (w:World) (t:TypeId) (k k':IntKind) (cs:Array Value) (off:Nat) (n:Int) (ht:P.underlying t=some (.int k')) (hc:cs[off]? = some (.int k n)) :
  (part t cs off).run P w = .ok (.int k n) w:=by
 unfold part
 simp[go_sem,isAgg,run_underlying ht,hc]
theorem part_str {P:Program} (w:World) (t:TypeId) (cs:Array Value) (off:Nat) (n:ByteArray) (ht:P.underlying t=some .string) (hc:cs[off]? = some (.string n)) :
  (part t cs off).run P w = .ok (.string n) w:=by
 unfold part
 simp[go_sem,isAgg,run_underlying ht,hc]
theorem eqF_num (d : Nat) (xs ys : Array Value) (f : Field) (fs : List Field) (a b : Int) (k k' : IntKind) (hn : f.name ≠ "_")
  (hx:(part f.type xs f.offset).run P w = .ok (.int k a) w) (hy:(part f.type ys f.offset).run P w = .ok (.int k b) w) (ht:P.underlying f.type=some (.int k')) :
  (Op.eqFields (d+1) xs ys (f::fs)).run P w=if a=b then (Op.eqFields (d+1) xs ys fs).run P w else .ok false w:=by
 simp only[Op.eqFields,if_pos hn,Sem.run_bind,hx,hy,Result.andThen_ok,run_equalIn_int w d f.type k k' a b ht]
 by_cases h:a=b
 ·subst h;simp
 ·have:(a==b)=false:=by simpa using h
  simp[this,h]
theorem eqF_str (d : Nat) (xs ys : Array Value) (f : Field) (fs : List Field) (a b : ByteArray) (hn : f.name ≠ "_")
  (hx:(part f.type xs f.offset).run P w = .ok (.string a) w) (hy:(part f.type ys f.offset).run P w = .ok (.string b) w) (ht:P.underlying f.type=some .string) :
  (Op.eqFields (d+1) xs ys (f::fs)).run P w=if a=b then (Op.eqFields (d+1) xs ys fs).run P w else .ok false w:=by
 simp only[Op.eqFields,if_pos hn,Sem.run_bind,hx,hy,Result.andThen_ok,run_equalIn_string w d f.type a b ht,zM]
 by_cases h:a=b
 ·subst h;simp
 ·simp[h]
end
theorem raw_self:Tryz.prog.underlying 124=some (.struct (Tryz.prog.fieldsOf 124)):=by
 unfold Program.fieldsOf;rw[Tryz.underlying124]
theorem run_equalIn_raw (d:Nat) (a b:Int) (s t:ByteArray) (w:World):(Op.equalIn (d+2) 124 (.agg #[.int .i64 a,.string s]) (.agg #[.int .i64 b,.string t])).run Tryz.prog w = .ok (decide (a=b∧s=t)) w:=by
 rw[run_equalIn_struct w (d+1) 124 _ _ raw_self (by kernel_rfl)]
 unfold Program.fieldsOf
 rw[Tryz.underlying124]
 simp only
 rw[eqF_num w d _ _ _ _ a b .i64 .i64 (by decide) (part_num w _ .i64 .i64 _ _ a Tryz.underlying3 rfl) (part_num w _ .i64 .i64 _ _ b Tryz.underlying3 rfl) Tryz.underlying3,
  eqF_str w d _ _ _ _ s t (by decide) (part_str w _ _ _ s Tryz.underlying9 rfl) (part_str w _ _ _ t Tryz.underlying9 rfl) Tryz.underlying9]
 by_cases h:a=b <;> by_cases h2:s=t <;> simp[h,h2,Op.eqFields]
theorem run_neq_raw (a b:Int) (s t:ByteArray) (w:World):(binOp .neq 124 (.agg #[.int .i64 a,.string s]) (.agg #[.int .i64 b,.string t])).run Tryz.prog w = .ok (.bool (!decide (a=b∧s=t))) w:=by
 rw[run_neq_struct,run_equalIn_raw 9998];rfl
theorem sym_self:Tryz.prog.underlying 55=some (.struct (Tryz.prog.fieldsOf 55)):=by
 unfold Program.fieldsOf;rw[Tryz.underlying55]
theorem run_equalIn_sym (d:Nat) (a b:Int) (s t:ByteArray) (w:World):(Op.equalIn (d+2) 55 (.agg #[.int .i64 a,.string s]) (.agg #[.int .i64 b,.string t])).run Tryz.prog w = .ok (decide (a=b∧s=t)) w:=by
 rw[run_equalIn_struct w (d+1) 55 _ _ sym_self (by kernel_rfl)]
 unfold Program.fieldsOf
 rw[Tryz.underlying55]
 simp only
 rw[eqF_num w d _ _ _ _ a b .i64 .i64 (by decide) (part_num w _ .i64 .i64 _ _ a Tryz.underlying3 rfl) (part_num w _ .i64 .i64 _ _ b Tryz.underlying3 rfl) Tryz.underlying3,
  eqF_str w d _ _ _ _ s t (by decide) (part_str w _ _ _ s Tryz.underlying9 rfl) (part_str w _ _ _ t Tryz.underlying9 rfl) Tryz.underlying9]
 by_cases h:a=b <;> by_cases h2:s=t <;> simp[h,h2,Op.eqFields]
theorem run_neq_sym (a b:Int) (s t:ByteArray) (w:World):(binOp .neq 55 (.agg #[.int .i64 a,.string s]) (.agg #[.int .i64 b,.string t])).run Tryz.prog w = .ok (.bool (!decide (a=b∧s=t))) w:=by
 rw[run_neq_struct,run_equalIn_sym 9998];rfl
theorem take_eq_of {α:Type} {l m:List α} {k:Nat} (hl:k<l.length) (hm:k<m.length) (h:l.take k=m.take k) (he:l[k]=m[k]):l.take (k+1)=m.take (k+1):=by
 rw[List.take_succ_eq_append_getElem hl,List.take_succ_eq_append_getElem hm,h,he]
theorem take_ne_of {α:Type} [DecidableEq α] {l m:List α} {k:Nat} (hl:k<l.length) (hm:k<m.length) (he:¬ l[k]=m[k]):decide (l=m)=false :=
 decide_eq_false fun e=>he (by subst e;rfl)
theorem take_all {α:Type} [DecidableEq α] {l m:List α} {k:Nat} (hk:¬ k<l.length) (hlen:l.length=m.length) (h:l.take k=m.take k):decide (l=m)=true :=
 decide_eq_true (by rwa [List.take_of_length_le (by omega),List.take_of_length_le (by omega)] at h)
theorem RawD.ext_iff' (x y:RawD):(x.id=y.id∧x.data=y.data)↔x=y:=by
 cases x;cases y;simp
theorem SymD.ext_iff' (x y:SymD):(x.id=y.id∧x.name=y.name)↔x=y:=by
 cases x;cases y;simp
theorem Lim.lt {b n:Nat} (h:Lim b n) (hb:0<b):n≤140737488355328:=Nat.le_trans (Nat.le_mul_of_pos_right n hb) h
theorem equalRaws_any (l m:List RawD) (A B:Option Addr) (c d:Nat) (w:World) (hl:RawsR w A l) (hm:RawsR w B m) :
  Calls Tryz.prog 121 #[.slice A l.length c,.slice B m.length d] w fun e w'=>e = .returned (.bool (decide (l=m)))∧Below w.heap.size w w':=by
 have hn:=hl.1.lt (by omega)
 by_cases hlen:l.length=m.length
 ·rw[←hlen]
  have hb0:((l.length:Int) != (l.length:Int))=false:=by simp
  have HL:=zh hl
  have HM:=zh hm
  have HE:=zh hlen
  clear hl hm hlen
  go_enter Tryz.func121,Tryz.ntmps121
  go_wp2
  go_loopw [13] (fun i wr=>∃k:Nat,k≤l.length∧i = .int .i64 k∧Hid (l.take k=m.take k)∧Hid (Below w.heap.size w wr)) (fun i _=>l.length - (intOf i).toNat)
  case atStart=>exact ⟨0,by omega,rfl,rfl,Below.refl _ _⟩
  case round =>
   obtain ⟨k,hk,rfl,htk,hbw⟩:=hrel
   by_cases hlt:k<l.length
   ·have hlt':k<m.length:=by have:=HE.out;omega
    obtain ⟨b,o,rfl,_,c0,c1⟩:=(HL.out.below hbw.out).at2 hlt
    obtain ⟨b',o',rfl,_,d0,d1⟩:=(HM.out.below hbw.out).at2 hlt'
    have h1:(0:Int)≤(k:Int):=by omega
    have h2:(k:Int)<(l.length:Int):=by omega
    by_cases he:l[k]=m[k]
    ·have heq:∀w,(binOp .neq 124 (.agg #[.int .i64 (l[k]).id,.string (l[k]).data]) (.agg #[.int .i64 (m[k]).id,.string (m[k]).data])).run Tryz.prog w = .ok (.bool false) w:=fun w=>by rw[run_neq_raw,decide_eq_true ((RawD.ext_iff' _ _).2 he)];rfl
     have HQ:=zh (take_eq_of hlt hlt' htk.out he)
     clear he
     go_wp2
     go_quiet (fail)
     go_wp2
     go_roundw
     case rel=>exact ⟨k+1,by omega,by go_num,HQ.out,zE hbw.out _⟩
     case measure=>simp[intOf];omega
    ·have heq:∀w,(binOp .neq 124 (.agg #[.int .i64 (l[k]).id,.string (l[k]).data]) (.agg #[.int .i64 (m[k]).id,.string (m[k]).data])).run Tryz.prog w = .ok (.bool true) w:=fun w=>by rw[run_neq_raw,decide_eq_false (fun e=>he ((RawD.ext_iff' _ _).1 e))];rfl
     have HQ:=zh (take_ne_of hlt hlt' he)
     clear he
     go_wp2
     go_quiet (fail)
     go_wp2
     go_ret
     exact ⟨by rw[HQ.out];rfl,zE hbw.out _⟩
   ·have HQ:=zh (take_all hlt HE.out htk.out)
    go_wp2
    go_ret
    exact ⟨by rw[HQ.out];rfl,hbw.out⟩
 ·have hb0:((l.length:Int) != (m.length:Int))=true:=bne_iff_ne.2 (by omega)
  have HQ:=zh (show decide (l=m)=false from decide_eq_false fun e=>hlen (by rw[e]))
  clear hlen
  go_enter Tryz.func121,Tryz.ntmps121
  go_wp2
  go_ret
  exact ⟨by rw[HQ.out];rfl,Below.refl _ _⟩
theorem equalSyms_any (l m:List SymD) (A B:Option Addr) (c d:Nat) (w:World) (hl:SymsR w A l) (hm:SymsR w B m) :
  Calls Tryz.prog 99 #[.slice A l.length c,.slice B m.length d] w fun e w'=>e = .returned (.bool (decide (l=m)))∧Below w.heap.size w w':=by
 have hn:=hl.1.lt (by omega)
 by_cases hlen:l.length=m.length
 ·rw[←hlen]
  have hb0:((l.length:Int) != (l.length:Int))=false:=by simp
  have HL:=zh hl
  have HM:=zh hm
  have HE:=zh hlen
  clear hl hm hlen
  go_enter Tryz.func99,Tryz.ntmps99
  go_wp2
  go_loopw [13] (fun i wr=>∃k:Nat,k≤l.length∧i = .int .i64 k∧Hid (l.take k=m.take k)∧Hid (Below w.heap.size w wr)) (fun i _=>l.length - (intOf i).toNat)
  case atStart=>exact ⟨0,by omega,rfl,rfl,Below.refl _ _⟩
  case round =>
   obtain ⟨k,hk,rfl,htk,hbw⟩:=hrel
   by_cases hlt:k<l.length
   ·have hlt':k<m.length:=by have:=HE.out;omega
    obtain ⟨b,o,rfl,_,c0,c1⟩:=(HL.out.below hbw.out).at2 hlt
    obtain ⟨b',o',rfl,_,d0,d1⟩:=(HM.out.below hbw.out).at2 hlt'
    have h1:(0:Int)≤(k:Int):=by omega
    have h2:(k:Int)<(l.length:Int):=by omega
    by_cases he:l[k]=m[k]
    ·have heq:∀w,(binOp .neq 55 (.agg #[.int .i64 (l[k]).id,.string (l[k]).name]) (.agg #[.int .i64 (m[k]).id,.string (m[k]).name])).run Tryz.prog w = .ok (.bool false) w:=fun w=>by rw[run_neq_sym,decide_eq_true ((SymD.ext_iff' _ _).2 he)];rfl
     have HQ:=zh (take_eq_of hlt hlt' htk.out he)
     clear he
     go_wp2
     go_quiet (fail)
     go_wp2
     go_roundw
     case rel=>exact ⟨k+1,by omega,by go_num,HQ.out,zE hbw.out _⟩
     case measure=>simp[intOf];omega
    ·have heq:∀w,(binOp .neq 55 (.agg #[.int .i64 (l[k]).id,.string (l[k]).name]) (.agg #[.int .i64 (m[k]).id,.string (m[k]).name])).run Tryz.prog w = .ok (.bool true) w:=fun w=>by rw[run_neq_sym,decide_eq_false (fun e=>he ((SymD.ext_iff' _ _).1 e))];rfl
     have HQ:=zh (take_ne_of hlt hlt' he)
     clear he
     go_wp2
     go_quiet (fail)
     go_wp2
     go_ret
     exact ⟨by rw[HQ.out];rfl,zE hbw.out _⟩
   ·have HQ:=zh (take_all hlt HE.out htk.out)
    go_wp2
    go_ret
    exact ⟨by rw[HQ.out];rfl,hbw.out⟩
 ·have hb0:((l.length:Int) != (m.length:Int))=true:=bne_iff_ne.2 (by omega)
  have HQ:=zh (show decide (l=m)=false from decide_eq_false fun e=>hlen (by rw[e]))
  clear hlen
  go_enter Tryz.func99,Tryz.ntmps99
  go_wp2
  go_ret
  exact ⟨by rw[HQ.out];rfl,Below.refl _ _⟩
end Go.Proofs.YtdfolgmcggdjdaaGreatDoor


