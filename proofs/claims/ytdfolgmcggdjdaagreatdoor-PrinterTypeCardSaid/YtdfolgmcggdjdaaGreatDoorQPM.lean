/-
  The tidy form: plain Lean.
-/
import Derived.Test.YtdfolgmcggdjdaaGreatDoorQPL
import Derived.Test.YtdfolgmcggdjdaaGreatDoorQDM
import Derived.Lib.ItoaLen
import Derived.Lib.Join
namespace Go.Proofs.YtdfolgmcggdjdaaGreatDoor
set_option maxHeartbeats 16000000
set_option maxRecDepth 100000
def Num64 (s:List TyD):Prop:=∀t∈s,In64 t.low∧In64 t.high
theorem decB_le {n:Int} (h:In64 n):(decB n).size≤21:=Lib.itoa_length_le n h.1 h.2
theorem zX (a b:ByteArray):(a++b).size=a.size+b.size:=by simp
section
variable {s:List TyD} {t:Int}
theorem max_rng (hv:zG s=0) (hr:0≤t∧t<(s.length:Int)):0≤(tyAt s t).max∧(tyAt s t).max≤200:=by
 have h:=(valid_tys hv (tyAt_mem hr)).1
 unfold formD at h
 simp only[Bool.and_eq_true,decide_eq_true_eq] at h
 obtain ⟨⟨⟨⟨h1,h2⟩,h3⟩,h4⟩,h5⟩:=h
 by_cases k3:(tyAt s t).kind=3
 ·unfold caseD at h5
  rw[if_neg (by omega),if_pos k3] at h5
  simpa using h5
 by_cases k7:(tyAt s t).kind=7∨(tyAt s t).kind=8
 ·unfold caseD at h5
  rw[if_neg (by omega),if_neg (by omega),if_neg (by omega),if_neg (by omega),if_neg (by omega),if_pos k7] at h5
  simp only[Bool.and_eq_true,decide_eq_true_eq] at h5
  omega
 ·have:(tyAt s t).max=0:=by
   have hm:=congrArg TyD.max h3
   rw[hm]
   unfold zO
   repeat' split
   all_goals first|rfl|(exfalso;omega)
  omega
theorem max_in (hv:zG s=0) (hr:0≤t∧t<(s.length:Int)):In64 (tyAt s t).max:=by
 have:=max_rng hv hr
 unfold In64;omega
theorem name_le (hv:zG s=0) (hr:0≤t∧t<(s.length:Int)) (hn:zH (tyAt s t).kind=true):(tyAt s t).name.size≤24:=by
 have h:=(valid_tys hv (tyAt_mem hr)).1
 unfold formD at h
 simp only[Bool.and_eq_true,decide_eq_true_eq,hn] at h
 obtain ⟨⟨⟨_,_⟩,h4⟩,_⟩:=h
 have h4:nameB (tyAt s t).name=true:=by simpa using h4
 unfold nameB at h4
 simp only[Bool.and_eq_true,decide_eq_true_eq] at h4
 exact h4.1.1.2
theorem intT_le (hn:Num64 s) (hr:0≤t∧t<(s.length:Int)):(intT (tyAt s t)).size≤49:=by
 obtain ⟨h1,h2⟩:=hn _ (tyAt_mem hr)
 have k1:=decB_le h1
 have k2:=decB_le h2
 unfold intT
 simp only[zX]
 show 4+_+2+_+1≤49
 omega
theorem limT_le (hv:zG s=0) (hr:0≤t∧t<(s.length:Int)):(limT (tyAt s t)).size≤24:=by
 have k1:=decB_le (max_in hv hr)
 unfold limT
 simp only[zX]
 show 2+_+1≤24
 omega
theorem strT_le (hv:zG s=0) (hr:0≤t∧t<(s.length:Int)):(strT (tyAt s t)).size≤49:=by
 have k1:=decB_le (max_in hv hr)
 unfold strT
 simp only[zX]
 show 7+_+1≤49
 omega
theorem named_of (h:¬ (tyAt s t).kind=1) (h2:¬ (tyAt s t).kind=2) (h3:¬ (tyAt s t).kind=3) (h7:¬ (tyAt s t).kind=7) (h8:¬ (tyAt s t).kind=8) (h9:¬ (tyAt s t).kind=9) (hk:1≤(tyAt s t).kind∧(tyAt s t).kind≤9):zH (tyAt s t).kind=true:=by
 unfold zH
 simp only[Bool.or_eq_true,decide_eq_true_eq]
 omega
theorem use_key_le (hv:zG s=0) (hn:Num64 s) {u:Int} (hr:0≤u∧u<(s.length:Int)) (hk:1≤(tyAt s u).kind∧(tyAt s u).kind≤4):∀ (f:Nat) (path:List Int),(useD s f path u).1.size≤49
 | 0,_=>by unfold useD noT;show 0≤49;omega
 | f+1,path=>by
  unfold useD
  by_cases h4:zH (tyAt s u).kind=true
  ·rw[if_pos h4]
   have:=name_le hv hr h4
   show (tyAt s u).name.size≤49
   omega
  rw[if_neg h4]
  split
  ·show 0≤49;omega
  have hks:(tyAt s u).kind=1∨(tyAt s u).kind=2∨(tyAt s u).kind=3:=by
   have:¬ (tyAt s u).kind=4:=fun e=>h4 (by rw[e];rfl)
   omega
  rcases hks with h|h|h
  ·rw[if_pos h];show 4≤49;omega
  ·rw[if_neg (by omega),if_pos h];exact intT_le hn hr
  ·rw[if_neg (by omega),if_neg (by omega),if_pos h];exact strT_le hv hr
theorem use_le (hv:zG s=0) (hn:Num64 s):∀ (f:Nat) (path:List Int) (t:Int),(0≤t∧t<(s.length:Int))→(useD s f path t).1.size≤100 * f
 | 0,_,_,_=>by unfold useD noT;show 0≤0;omega
 | f+1,path,t,hr=>by
  have hk:=kind_rng hv hr
  unfold useD
  by_cases h4:zH (tyAt s t).kind=true
  ·rw[if_pos h4]
   have:=name_le hv hr h4
   show (tyAt s t).name.size≤_
   omega
  rw[if_neg h4]
  split
  ·show 0≤_;omega
  by_cases h1:(tyAt s t).kind=1
  ·rw[if_pos h1];show 4≤_;omega
  rw[if_neg h1]
  by_cases h2:(tyAt s t).kind=2
  ·rw[if_pos h2];have:=intT_le hn hr;show (intT _).size≤_;omega
  rw[if_neg h2]
  by_cases h3:(tyAt s t).kind=3
  ·rw[if_pos h3];have:=strT_le hv hr;show (strT _).size≤_;omega
  rw[if_neg h3]
  have hl:=limT_le hv hr
  by_cases h7:(tyAt s t).kind=7
  ·rw[if_pos h7]
   have ih:=use_le hv hn f (path++[t]) _ (yB hv hr (.inl h7))
   show (_++_++_++_++_:ByteArray).size≤_
   simp only[zX,noT]
   show 5+_+0+0+_≤_
   omega
  rw[if_neg h7]
  by_cases h8:(tyAt s t).kind=8
  ·rw[if_pos h8]
   have ih:=use_le hv hn f (path++[t]) _ (yB hv hr (.inr (.inl h8)))
   obtain ⟨k1,k2⟩:=key_rng hv hr h8
   have ik:=use_key_le hv hn k1 k2 f (path++[t])
   show (_++_++_++_++_:ByteArray).size≤_
   simp only[zX]
   show 4+_+2+_+_≤_
   omega
  rw[if_neg h8]
  have h9:(tyAt s t).kind=9:=by
   have k4:¬ (tyAt s t).kind=4:=fun e=>h4 (by rw[e];rfl)
   have k5:¬ (tyAt s t).kind=5:=fun e=>h4 (by rw[e];rfl)
   have k6:¬ (tyAt s t).kind=6:=fun e=>h4 (by rw[e];rfl)
   omega
  have ih:=use_le hv hn f (path++[t]) _ (yB hv hr (.inr (.inr h9)))
  show (_++_++_++_++_:ByteArray).size≤_
  simp only[zX,noT]
  show 9+_+0+0+1≤_
  omega
theorem text_le (hv:zG s=0) (hn:Num64 s):∀ (f:Nat) (t:Int),(0≤t∧t<(s.length:Int))→finD s f t→(textD s f t).size≤100 * f
 | 0,_,_,h=>h.elim
 | f+1,t,hr,hf=>by
  have hk:=kind_rng hv hr
  unfold textD
  by_cases h1:(tyAt s t).kind=1
  ·rw[if_pos h1];show 4≤_;omega
  rw[if_neg h1]
  by_cases h2:(tyAt s t).kind=2
  ·rw[if_pos h2];have:=intT_le hn hr;omega
  rw[if_neg h2]
  by_cases h3:(tyAt s t).kind=3
  ·rw[if_pos h3];have:=strT_le hv hr;omega
  rw[if_neg h3]
  have hl:=limT_le hv hr
  by_cases h7:(tyAt s t).kind=7
  ·rw[if_pos h7]
   have ih:=text_le hv hn f _ (yB hv hr (.inl h7)) (hf (.inl h7))
   simp only[zX]
   show 5+_+_≤_
   omega
  rw[if_neg h7]
  by_cases h8:(tyAt s t).kind=8
  ·rw[if_pos h8]
   have ih:=text_le hv hn f _ (yB hv hr (.inr (.inl h8))) (hf (.inr (.inl h8)))
   obtain ⟨k1,k2⟩:=key_rng hv hr h8
   have ik:(textD s f (tyAt s t).key).size≤49:=by
    cases f with
    | zero=>exact (hf (.inr (.inl h8))).elim
    | succ f =>
     unfold textD
     have hks:(tyAt s (tyAt s t).key).kind=1∨(tyAt s (tyAt s t).key).kind=2∨(tyAt s (tyAt s t).key).kind=3∨(tyAt s (tyAt s t).key).kind=4:=by omega
     rcases hks with h|h|h|h
     ·rw[if_pos h];show 4≤_;omega
     ·rw[if_neg (by omega),if_pos h];exact intT_le hn k1
     ·rw[if_neg (by omega),if_neg (by omega),if_pos h];exact strT_le hv k1
     ·rw[if_neg (by omega),if_neg (by omega),if_neg (by omega),if_neg (by omega),if_neg (by omega),if_neg (by omega)]
      have:=name_le hv k1 (by rw[h];rfl)
      omega
   simp only[zX]
   show 4+_+2+_+_≤_
   omega
  rw[if_neg h8]
  by_cases h9:(tyAt s t).kind=9
  ·rw[if_pos h9]
   have ih:=text_le hv hn f _ (yB hv hr (.inr (.inr h9))) (hf (.inr (.inr h9)))
   simp only[zX]
   show 9+_+1≤_
   omega
  ·rw[if_neg h9]
   have:=name_le hv hr (named_of h1 h2 h3 h7 h8 h9 hk)
   omega
end
def sp1:ByteArray:=⟨#[32]⟩
def memT (s:List TyD) (df:MemD→ByteArray) (m:MemD):ByteArray :=
 decB m.id++(if m.critical then ⟨#[33]⟩ else ⟨#[]⟩)++(⟨#[32]⟩++m.name++⟨#[58,32]⟩++textD s (s.length+1) m.type)++(if m.hasDef then ⟨#[32,61,32]⟩++df m else ⟨#[]⟩)++⟨#[59]⟩
def symT (y:SymD):ByteArray:=decB y.id++⟨#[32]⟩++y.name++⟨#[59]⟩
def kindW (k:Int):ByteArray:=if k=4 then ⟨#[101,110,117,109]⟩ else if k=5 then ⟨#[114,101,99,111,114,100]⟩ else if k=6 then ⟨#[117,110,105,111,110]⟩ else ⟨#[]⟩
def wordsT (s:List TyD) (df:MemD→ByteArray) (x:TyD):List ByteArray :=
 [kindW x.kind,x.name]++(if x.open_ then [⟨#[111,112,101,110]⟩] else [])++[⟨#[123]⟩]++x.syms.map symT++x.mems.map (memT s df)++[⟨#[125,59]⟩]
def joinB (l:List ByteArray) (sep:ByteArray):ByteArray:=⟨(Lib.join (l.map (·.data.toList)) sep.data.toList).toArray⟩
def declT (s:List TyD) (df:MemD→ByteArray) (x:TyD):ByteArray:=joinB (wordsT s df x) sp1++⟨#[10]⟩
def printT (s:List TyD) (df:MemD→ByteArray) (l:List TyD):ByteArray:=l.foldl (fun b x=>if zH x.kind then b++declT s df x else b) ⟨#[]⟩
theorem lens_le (n:Nat):∀ (l:List ByteArray),(∀y∈l,y.size≤n)→Lib.lens (l.map (·.data.toList))≤l.length * n
 | [],_=>by show 0≤_;omega
 | y::r,h=>by
  have h1:=h y List.mem_cons_self
  have h2:=lens_le n r fun z hz=>h z (List.mem_cons_of_mem _ hz)
  rw[List.length_cons,Nat.succ_mul,List.map_cons]
  unfold Lib.lens at h2 ⊢
  rw[List.map_cons,List.sum_cons,Array.length_toList]
  have:y.data.size=y.size:=rfl
  omega
theorem join_len_le (l:List ByteArray) (n:Nat) (h:∀x∈l,x.size≤n):(Lib.join (l.map (·.data.toList)) sp1.data.toList).length≤l.length * (n+1):=by
 cases l with
 | nil=>show 0≤_;omega
 | cons x l =>
  have h1:=lens_le n (x::l) h
  rw[List.map_cons] at h1
  rw[List.map_cons,Lib.join_length,List.length_map]
  show 1 * l.length+_≤_
  rw[List.length_cons] at *
  rw[Nat.mul_add]
  omega
theorem joinB_le (l:List ByteArray) (n:Nat) (h:∀x∈l,x.size≤n):(joinB l sp1).size≤l.length * (n+1):=by
 have:=join_len_le l n h
 unfold joinB
 show Array.size _≤_
 rw[List.size_toArray]
 exact this
section
variable {s:List TyD} {df:MemD→ByteArray}
theorem memT_le {m:MemD} {n:Nat} (hi:In64 m.id) (hn:m.name.size≤24) (hd:(df m).size≤n) (ht:(textD s (s.length+1) m.type).size≤3300):(memT s df m).size≤3400+n:=by
 have k1:=decB_le hi
 unfold memT
 simp only[zX]
 have k2:(if m.critical then (⟨#[33]⟩:ByteArray) else ⟨#[]⟩).size≤1:=by split <;> decide
 have k3:(if m.hasDef then (⟨#[32,61,32]⟩:ByteArray)++df m else ⟨#[]⟩).size≤3+n:=by
  split
  ·rw[zX];show 3+_≤_;omega
  ·show 0≤_;omega
 show _+_+(1+_+2+_)+_+1≤_
 omega
theorem symT_le {y:SymD} (hi:In64 y.id) (hn:y.name.size≤24):(symT y).size≤47:=by
 have k1:=decB_le hi
 unfold symT
 simp only[zX]
 show _+1+_+1≤_
 omega
theorem kindW_le (k:Int):(kindW k).size≤6:=by unfold kindW;(repeat' split) <;> decide
end
theorem ids_rng:∀ (L:List (Int×ByteArray)) (b:Int) (K:List ByteArray),idsOk b K L=true→∀x∈L,(1≤x.1∧x.1≤1000)∧x.2.size≤24
 | [],_,_,_,x,hx=>by cases hx
 | y::L,b,K,h,x,hx=>by
  rw[idsOk] at h
  simp only[Bool.and_eq_true,decide_eq_true_eq] at h
  obtain ⟨⟨⟨⟨⟨h1,h2⟩,_⟩,_⟩,h5⟩,h6⟩:=h
  rcases List.mem_cons.1 hx with e|e
  ·subst e
   unfold nameB at h5
   simp only[Bool.and_eq_true,decide_eq_true_eq] at h5
   exact ⟨⟨h1,h2⟩,h5.1.1.2⟩
  ·exact ids_rng L _ _ h6 x e
section
variable {s:List TyD} {t:TyD}
theorem mem_rng (hv:zG s=0) (ht:t∈s) {m:MemD} (hm:m∈t.mems):((1≤m.id∧m.id≤1000)∧m.name.size≤24)∧(0≤m.type∧m.type<(s.length:Int)):=by
 have h:=(valid_tys hv ht).1
 unfold formD at h
 simp only[Bool.and_eq_true,decide_eq_true_eq] at h
 obtain ⟨⟨⟨⟨h1,h2⟩,h3⟩,h4⟩,h5⟩:=h
 have key:∀b,memsD b t.mems=true→((1≤m.id∧m.id≤1000)∧m.name.size≤24):=fun b hb=>by
  unfold memsD idsD at hb
  simp only[Bool.and_eq_true] at hb
  exact ids_rng _ _ _ hb.1.2.1 _ (List.mem_map.2 ⟨m,hm,rfl⟩)
 refine ⟨?_,(valid_tys hv ht).2 _ (List.mem_map.2 ⟨(m.id,m.type),?_,rfl⟩)⟩
 ·by_cases k5:t.kind=5
  ·unfold caseD at h5
   rw[if_neg (by omega),if_neg (by omega),if_neg (by omega),if_pos k5] at h5
   exact key _ h5
  by_cases k6:t.kind=6
  ·unfold caseD at h5
   rw[if_neg (by omega),if_neg (by omega),if_neg (by omega),if_neg (by omega),if_pos k6] at h5
   exact key _ h5
  ·exfalso
   have:t.mems=[]:=by
    rw[h3];unfold zO
    (repeat' split) <;> first|rfl|(exfalso;omega)
   rw[this] at hm
   cases hm
 ·unfold usesD
  simp only[List.mem_append,List.mem_map]
  exact .inl ⟨m,hm,rfl⟩
theorem sym_rng (hv:zG s=0) (ht:t∈s) {y:SymD} (hy:y∈t.syms):((1≤y.id∧y.id≤1000)∧y.name.size≤24)∧t.syms.length≤16:=by
 have h:=(valid_tys hv ht).1
 unfold formD at h
 simp only[Bool.and_eq_true,decide_eq_true_eq] at h
 obtain ⟨⟨⟨⟨h1,h2⟩,h3⟩,h4⟩,h5⟩:=h
 by_cases k4:t.kind=4
 ·unfold caseD at h5
  rw[if_neg (by omega),if_neg (by omega),if_pos k4] at h5
  unfold symsD idsD at h5
  simp only[Bool.and_eq_true,decide_eq_true_eq,List.length_map] at h5
  exact ⟨ids_rng _ _ _ h5.1.1 _ (List.mem_map.2 ⟨y,hy,rfl⟩),h5.1.2⟩
 ·exfalso
  have:t.syms=[]:=by
   rw[h3];unfold zO
   (repeat' split) <;> first|rfl|(exfalso;omega)
  rw[this] at hy
  cases hy
end
def ixAt (ix:List Int) (t:Int):Int:=ix.getD t.toNat 0
def TyD.ke (x:TyD) (k e:Int):TyD:={ x with key:=k,elem:=e }
def placeD (s:List TyD) (ix:List Int):Nat→Int→List TyD→Int×List TyD
 | 0,_,out=>(0,out)
 | f+1,t,out =>
  if 0≤ixAt ix t then (ixAt ix t,out)
  else
   let x:=tyAt s t
   let r1:=if x.kind=8 then placeD s ix f x.key (out++[x]) else (x.key,out++[x])
   let r2:=if compK x.kind then placeD s ix f x.elem r1.2 else (x.elem,r1.2)
   ((out.length:Int),r2.2.set out.length (x.ke r1.1 r2.1))
def yC (s:List TyD) (ix:List Int) (ms:List MemD) (out:List TyD):List MemD×List TyD :=
 ms.foldl (fun a m=>(a.1++[{ m with type:=(placeD s ix (s.length+1) m.type a.2).1 }],(placeD s ix (s.length+1) m.type a.2).2)) ([],out)
def t1D (s:List TyD) (k:Nat):List Int×List TyD :=
 (List.range k).foldl (fun a (t:Nat)=>if zH (tyAt s t).kind then (a.1.set t (a.2.length:Int),a.2++[tyAt s t]) else a) (List.replicate s.length (-1),[])
def t2D (s:List TyD) (ix:List Int) (out:List TyD) (m:Nat):List TyD :=
 (List.range m).foldl (fun out i=>(yC s ix (out.getD i zeroT).mems out).2.set i { out.getD i zeroT with mems:=(yC s ix (out.getD i zeroT).mems out).1 }) out
def tidyL (s:List TyD):List TyD:=t2D s (t1D s s.length).1 (t1D s s.length).2 (t1D s s.length).2.length
section
variable {s:List TyD} {ix:List Int}
theorem placeD_ge:∀ (f:Nat) (t:Int) (out:List TyD),out.length≤(placeD s ix f t out).2.length
 | 0,_,out=>Nat.le_refl _
 | f+1,t,out=>by
  unfold placeD
  split
  ·exact Nat.le_refl _
  simp only[List.length_set]
  have h1:(out++[tyAt s t]).length≤(if (tyAt s t).kind=8 then placeD s ix f (tyAt s t).key (out++[tyAt s t]) else ((tyAt s t).key,out++[tyAt s t])).2.length:=by
   split
   ·exact placeD_ge f _ _
   ·exact Nat.le_refl _
  rw[List.length_append] at h1
  simp only[List.length_singleton] at h1
  split
  ·have:=placeD_ge f (tyAt s t).elem (if (tyAt s t).kind=8 then placeD s ix f (tyAt s t).key (out++[tyAt s t]) else ((tyAt s t).key,out++[tyAt s t])).2
   omega
  ·simp only;omega
theorem placeD_le (hv:zG s=0):∀ (f:Nat) (t:Int) (out:List TyD),(0≤t∧t<(s.length:Int))→(placeD s ix f t out).2.length≤out.length+2 * f∧(¬ compK (tyAt s t).kind→(placeD s ix f t out).2.length≤out.length+1)
 | 0,_,out,_=>⟨Nat.le_refl _,fun _=>Nat.le_succ _⟩
 | f+1,t,out,hr=>by
  unfold placeD
  split
  ·exact ⟨by simp only;omega,fun _=>by simp only;omega⟩
  simp only[List.length_set]
  by_cases h8:(tyAt s t).kind=8
  ·obtain ⟨k1,k2⟩:=key_rng hv hr h8
   have hc:compK (tyAt s t).kind := .inr (.inl h8)
   rw[if_pos h8,if_pos hc]
   have h1:=(placeD_le hv f (tyAt s t).key (out++[tyAt s t]) k1).2 (not_comp4 k2)
   have h2:=(placeD_le hv f (tyAt s t).elem (placeD s ix f (tyAt s t).key (out++[tyAt s t])).2 (yB hv hr hc)).1
   rw[List.length_append,List.length_singleton] at h1
   refine ⟨?_,fun h=>absurd hc h⟩
   cases f with
   | zero =>
    show (out++[tyAt s t]).length≤_
    rw[List.length_append,List.length_singleton];omega
   | succ f=>omega
  ·rw[if_neg h8]
   by_cases hc:compK (tyAt s t).kind
   ·rw[if_pos hc]
    have h2:=(placeD_le hv f (tyAt s t).elem (out++[tyAt s t]) (yB hv hr hc)).1
    rw[List.length_append,List.length_singleton] at h2
    exact ⟨by simp only;omega,fun h=>absurd hc h⟩
   ·rw[if_neg hc]
    simp only[List.length_append,List.length_singleton]
    exact ⟨by omega,fun _=>Nat.le_refl _⟩
end
end Go.Proofs.YtdfolgmcggdjdaaGreatDoor


