/-
  Schemas with two copies of each type: plain Lean.
-/
import Derived.Test.YtdfolgmcggdjdaaGreatDoorRGA0
import Derived.Test.YtdfolgmcggdjdaaGreatDoorRGA1
import Derived.Test.YtdfolgmcggdjdaaGreatDoorRGA2
import Derived.Test.YtdfolgmcggdjdaaGreatDoorRGH0
import Derived.Test.YtdfolgmcggdjdaaGreatDoorRGF0
namespace Go.Proofs.YtdfolgmcggdjdaaGreatDoor
set_option maxHeartbeats 16000000
set_option maxRecDepth 100000
structure PartD where
 id:Nat
 type:Nat
 flag:Nat
 deriving DecidableEq
structure NodeD where
 kind:Nat
 a:Nat
 b:Nat
 c:Nat
 parts:List PartD
 deriving DecidableEq
def node0:NodeD:=⟨0,0,0,0,[]⟩
def kindN (d:List NodeD) (i:Nat):Int:=1+(((d.getD i node0).kind % 9:Nat):Int)
def hollowD (k:Int):Bool:=decide (7≤k)
def fstN (n:Nat) (p:Nat→Bool):Int:=match (List.range n).find? p with|some k=>(k:Int)|none => -1
def targetD (d:List NodeD) (i code:Nat):Int :=
 if hollowD (kindN d (code % d.length))||decide (code % d.length<i) then ((code % d.length:Nat):Int)
 else if 0<i then ((code % d.length % i:Nat):Int)
 else fstN d.length fun k=>hollowD (kindN d k)
def keyD (d:List NodeD) (code:Nat):Int:=match (List.range d.length).find? (fun k=>keyKind (kindN d ((code+k) % d.length))) with|some k=>(((code+k) % d.length:Nat):Int)|none => -1
def lowN (x:NodeD):Int:=((x.a % 7:Nat):Int) - 3
def highN (x:NodeD):Int:=lowN x+((x.b % 6:Nat):Int)
def idsN (x:NodeD):List Int :=
 let l:=((List.range 6).filter fun i=>(x.a >>> i) % 2==1).map fun i=>((i+1:Nat):Int)
 if l=[] then [1] else l
def nmT (i:Nat):ByteArray:=⟨#[UInt8.ofNat (65+i)]⟩
def nmM (c:UInt8) (n:Nat):ByteArray:=⟨#[c,UInt8.ofNat (97+n)]⟩
theorem u8_inj {a b:Nat} (ha:a<256) (hb:b<256) (h:UInt8.ofNat a=UInt8.ofNat b):a=b:=by
 have:=congrArg UInt8.toNat h;simp only[UInt8.toNat_ofNat'] at this
 omega
theorem nmM_inj {c:UInt8} {n m:Nat} (hn:n≤20) (hm:m≤20) (h:nmM c n=nmM c m):n=m:=by
 unfold nmM at h
 injection h with h
 have h2:=congrArg Array.toList h;simp only[List.cons.injEq,true_and,and_true] at h2;have:=u8_inj (by omega) (by omega) h2
 omega
theorem nmT_inj {n m:Nat} (hn:n≤20) (hm:m≤20) (h:nmT n=nmT m):n=m:=by
 unfold nmT at h
 injection h with h
 have h2:=congrArg Array.toList h;simp only[List.cons.injEq,and_true] at h2;have:=u8_inj (by omega) (by omega) h2
 omega
theorem nmT_ok {n:Nat} (hn:n≤20):nameB (nmT n)=true:=by
 have:∀m:Fin 21,nameB (nmT m.1)=true:=by decide +kernel
 exact this ⟨n,by omega⟩
theorem nmM_ok {c:UInt8} (hc:c=109∨c=115) {n:Nat} (hn:n≤20):nameB (nmM c n)=true:=by
 have h1:∀m:Fin 21,nameB (nmM 109 m.1)=true:=by decide +kernel
 have h2:∀m:Fin 21,nameB (nmM 115 m.1)=true:=by decide +kernel
 rcases hc with rfl|rfl
 ·exact h1 ⟨n,by omega⟩
 ·exact h2 ⟨n,by omega⟩
theorem idsOk_nm {c:UInt8} (hc:c=109∨c=115):∀ (L:List (Int×ByteArray)) (b:Int) (seen:List ByteArray),0≤b→(L.map (·.1)).Pairwise (· < ·)→(∀x∈L,b<x.1∧x.1≤12∧x.2=nmM c x.1.toNat)→(∀x∈seen,∃i:Nat,(i:Int)≤b∧x=nmM c i)→b≤12→idsOk b seen L=true
 | [],_,_,_,_,_,_,_=>rfl
 | x::L,b,seen,h0,hp,hx,hs,hb=>by
  obtain ⟨h1,h2,h3⟩:=hx x (List.mem_cons_self ..);rw[List.map_cons,List.pairwise_cons] at hp;rw[idsOk];simp only[Bool.and_eq_true,decide_eq_true_eq];refine ⟨⟨⟨⟨⟨by omega,by omega⟩,h1⟩,?_⟩,?_⟩,?_⟩
  ·have:memD x.2 seen=false:=by
    cases hm:memD x.2 seen with
    | false=>rfl
    | true =>
     obtain ⟨j,hj,e⟩:=hs _ (memD_iff.1 hm);rw[h3] at e;have:=nmM_inj (by omega) (by omega) e
     omega
   rw[this];rfl
  ·rw[h3];exact nmM_ok hc (by omega)
  ·refine idsOk_nm hc L x.1 _ (by omega) hp.2 (fun y hy=>?_) (fun y hy=>?_) h2
   ·have a:=hx y (List.mem_cons_of_mem _ hy)
    have b:=hp.1 y.1 (List.mem_map_of_mem hy);exact ⟨b,a.2⟩
   ·rcases List.mem_append.1 hy with k|k
    ·obtain ⟨j,hj,e⟩:=hs y k
     exact ⟨j,by omega,e⟩
    ·obtain rfl:y=x.2:=by simpa using k
     exact ⟨x.1.toNat,by omega,h3⟩
theorem asc_len:∀ (L:List Int) (b k:Int),L.Pairwise (· < ·)→(∀x∈L,b<x∧x≤k)→b≤k→(L.length:Int)≤k - b
 | [],b,k,_,_,h=>by simp;omega
 | x::L,b,k,hp,hx,h=>by
  rw[List.pairwise_cons] at hp;have a:=hx x (List.mem_cons_self ..);have:=asc_len L x k hp.2 (fun y hy=>⟨hp.1 y hy,(hx y (List.mem_cons_of_mem _ hy)).2⟩) (by omega)
  rw[List.length_cons]
  omega
theorem idsD_nm {c:UInt8} (hc:c=109∨c=115) {L:List (Int×ByteArray)} (hp:(L.map (·.1)).Pairwise (· < ·)) (hx:∀x∈L,0<x.1∧x.1≤12∧x.2=nmM c x.1.toNat):idsD L=true:=by
 unfold idsD;rw[Bool.and_eq_true];refine ⟨idsOk_nm hc L 0 [] (by omega) hp hx (fun x hx=>by cases hx) (by omega),?_⟩
 have:=asc_len (L.map (·.1)) 0 12 hp (fun y hy=>by obtain ⟨x,h1,rfl⟩:=List.mem_map.1 hy;exact ⟨(hx x h1).1,(hx x h1).2.1⟩) (by omega)
 rw[List.length_map] at this;exact decide_eq_true (by omega)
def MsOk (rec:Bool) (n:Nat) (k:Int) (ms:List MemD):Prop :=
 (ms.map (·.id)).Pairwise (· < ·)∧∀m∈ms,(0<m.id∧m.id≤k)∧m.name=nmM 109 m.id.toNat∧(0≤m.type∧m.type<(n:Int))∧memOk rec m=true
theorem MsOk.nil (rec:Bool) (n:Nat) (k:Int):MsOk rec n k []:=⟨List.Pairwise.nil,fun _ h=>by cases h⟩
theorem MsOk.mono {rec:Bool} {n:Nat} {k k':Int} {ms:List MemD} (h:MsOk rec n k ms) (hk:k≤k'):MsOk rec n k' ms :=
 ⟨h.1,fun m hm=>⟨⟨(h.2 m hm).1.1,Int.le_trans (h.2 m hm).1.2 hk⟩,(h.2 m hm).2⟩⟩
theorem MsOk.snoc {rec:Bool} {n:Nat} {k:Nat} {ms:List MemD} (h:MsOk rec n k ms) {m:MemD} (hi:m.id=((k+1:Nat):Int)) (hn:m.name=nmM 109 (k+1)) (ht:0≤m.type∧m.type<(n:Int)) (hm:memOk rec m=true):MsOk rec n ((k+1:Nat):Int) (ms++[m]):=by
 refine ⟨?_,fun x hx=>?_⟩
 ·rw[List.map_append,List.pairwise_append]
  refine ⟨h.1,by simp,fun a ha b hb=>?_⟩
  obtain ⟨x,h1,rfl⟩:=List.mem_map.1 ha;obtain rfl:b=m.id:=by simpa using hb
  have:=(h.2 x h1).1
  omega
 ·rcases List.mem_append.1 hx with a|a
  ·exact (h.mono (by omega)).2 x a
  ·obtain rfl:x=m:=by simpa using a
   exact ⟨by omega,by rw[hn,hi];rfl,ht,hm⟩
theorem MsOk.len {rec:Bool} {n:Nat} {ms:List MemD} (h:MsOk rec n 12 ms):ms.length≤12:=by
 have:=asc_len (ms.map (·.id)) 0 12 h.1 (fun y hy=>by obtain ⟨x,h1,rfl⟩:=List.mem_map.1 hy;exact (h.2 x h1).1) (by omega)
 rw[List.length_map] at this
 omega
theorem MsOk.mems {rec:Bool} {n:Nat} {ms:List MemD} (h:MsOk rec n 12 ms) (hne:rec=true∨ms≠[]):memsD rec ms=true:=by
 unfold memsD;rw[Bool.and_eq_true,Bool.and_eq_true];refine ⟨⟨List.all_eq_true.2 fun m hm=>(h.2 m hm).2.2.2,idsD_nm (.inl rfl) ?_ fun x hx=>?_⟩,?_⟩
 ·rw[List.map_map];exact h.1
 ·obtain ⟨m,h1,rfl⟩:=List.mem_map.1 hx
  exact ⟨(h.2 m h1).1.1,(h.2 m h1).1.2,(h.2 m h1).2.1⟩
 ·rcases hne with e|e
  ·rw[e];rfl
  ·simp[e]
def symsN (x:NodeD):List SymD:=(idsN x).map fun n=>⟨n,nmM 115 n.toNat⟩
theorem idsN_ok (x : NodeD) : (idsN x).Pairwise (· < ·) ∧ (∀ n ∈ idsN x, 0 < n ∧ n ≤ 6) ∧ idsN x ≠ [] := by
  have h : ∀ p : Nat → Bool, ((((List.range 6).filter p).map fun i => ((i + 1 : Nat) : Int)).Pairwise (· < ·)) ∧ ∀ n ∈ ((List.range 6).filter p).map (fun i => ((i + 1 : Nat) : Int)), 0 < n ∧ n ≤ 6 := fun p => by
    refine ⟨?_, fun n hn => ?_⟩
    · rw [List.pairwise_map]
      refine List.Pairwise.filter p (List.Pairwise.imp (fun h => ?_) List.pairwise_lt_range)
      omega
    · obtain ⟨i, h1, rfl⟩ := List.mem_map.1 hn
      have := List.mem_range.1 (List.mem_filter.1 h1).1
      omega
  unfold idsN;simp only
  split
  · exact ⟨List.pairwise_singleton .., fun n hn => by obtain rfl : n = 1 := by simpa using hn
                                                      omega, by simp⟩
  · rename_i hne
    exact ⟨(h _).1, (h _).2, hne⟩
theorem symsN_ok (x:NodeD):symsD (symsN x)=true:=by
 obtain ⟨h1,h2,h3⟩:=idsN_ok x;unfold symsD symsN;rw[Bool.and_eq_true];refine ⟨idsD_nm (.inr rfl) ?_ fun y hy=>?_,by simpa using h3⟩
 ·rw[List.map_map,List.map_map]
  have:(idsN x).map (((fun y:Int×ByteArray=>y.1)∘(fun s:SymD=>(s.id,s.name)))∘fun n=>⟨n,nmM 115 n.toNat⟩)=idsN x:=by
   simp[Function.comp_def]
  rw[this];exact h1
 ·rw[List.map_map] at hy
  obtain ⟨n,hn,rfl⟩:=List.mem_map.1 hy;have:=h2 n hn;exact ⟨this.1,by simp only[Function.comp];omega,rfl⟩
def FlatV (x:Val):Prop:=(x.str.size≤1∧x.kind≠5∧x.kind≠6)∧x.keys=[]∧x.items=[]∧x.rest=[]
structure TyOk (d:List NodeD) (i:Nat) (t:TyD):Prop where
 form:formD t=true
 name:t.name=if zL t.kind then nmT i else ⟨#[]⟩
 uses:∀u∈toD t,0≤u∧u<(d.length:Int)
 kind:keyKind (kindN d i)=true→t.kind=kindN d i
 key:t.kind=8→keyKind (kindN d t.key.toNat)=true∧0≤t.key∧t.key<(d.length:Int)
 mems:∀m∈t.mems,m.name.size=2
 syms:∀m∈t.syms,m.name.size=2
 flat:∀m∈t.mems,FlatV m.dflt
 num:In64 t.low∧In64 t.high
def DraftOk (d:List NodeD) (s:List TyD):Prop:=s.length=d.length∧∀i (h:i<s.length),TyOk d i s[i]
def Short (s:List TyD):Prop:=∀t∈s,t.name.size≤1∧(∀m∈t.mems,m.name.size≤2)∧∀m∈t.syms,m.name.size≤2
theorem draft_valid {d:List NodeD} {s:List TyD} (h:DraftOk d s) (hl:d.length≤5):zJ s=0:=by
 obtain ⟨h1,h2⟩:=h;refine valid_of (by omega) fun i hi=>?_
 have ho:=h2 i hi;refine tyErr_of ho.form (fun hn hm=>?_) (by rw[h1];exact ho.uses) (fun hk=>?_)
 ·obtain ⟨t,ht,e⟩:=List.mem_map.1 hm
  obtain ⟨j,hj,e2⟩:=List.getElem_of_mem ht;have hji:j<i:=by rw[List.length_take] at hj;omega
  rw[List.getElem_take] at e2;have hoj:=h2 j (by omega)
  rw[e2] at hoj;rw[ho.name] at hn e;rw[hoj.name] at e
  by_cases a:zL (s[i]).kind=true
  ·rw[if_pos a] at e hn
   by_cases b:zL t.kind=true
   ·rw[if_pos b] at e
    have:=nmT_inj (by omega) (by omega) e
    omega
   ·rw[if_neg b] at e;exact hn e.symm
  ·rw[if_neg a] at hn;exact hn rfl
 ·obtain ⟨a,b,c⟩:=ho.key hk
  have hkl:(s[i]).key.toNat<s.length:=by omega
  have:=(h2 _ hkl).kind a;rw[List.getD_eq_getElem?_getD,zl hkl,Option.getD_some,this];exact a
theorem draft_short {d:List NodeD} {s:List TyD} (h:DraftOk d s):Short s:=fun t ht=>by
 obtain ⟨i,hi,rfl⟩:=List.getElem_of_mem ht;have ho:=h.2 i hi;refine ⟨?_,fun m hm=>Nat.le_of_eq (ho.mems m hm),fun m hm=>Nat.le_of_eq (ho.syms m hm)⟩
 rw[ho.name]
 split
 ·exact Nat.le_of_eq rfl
 ·exact Nat.zero_le _
theorem draft_flat {d:List NodeD} {s:List TyD} (h:DraftOk d s):∀t∈s,∀m∈t.mems,FlatV m.dflt:=fun t ht=>by
 obtain ⟨i,hi,rfl⟩:=List.getElem_of_mem ht;exact (h.2 i hi).flat
theorem draft_num {d:List NodeD} {s:List TyD} (h:DraftOk d s):∀t∈s,In64 t.low∧In64 t.high:=fun t ht=>by
 obtain ⟨i,hi,rfl⟩:=List.getElem_of_mem ht;exact (h.2 i hi).num
theorem in64_0:In64 0∧In64 0:=by unfold In64;omega
theorem low_num (x:NodeD):In64 (lowN x)∧In64 (highN x):=by unfold In64 highN lowN;omega
theorem form_of {i:Nat} {t:TyD} (hi:i≤20) (h1:1≤t.kind∧t.kind≤9) (h2:t=zV t) (h3:t.name=if zL t.kind then nmT i else ⟨#[]⟩) (h4:caseD t=true):formD t=true:=by
 unfold formD;simp only[Bool.and_eq_true,decide_eq_true_eq];refine ⟨⟨⟨h1,h2⟩,?_⟩,h4⟩
 cases hn:zL t.kind with
 | false=>rfl
 | true=>rw[h3,if_pos hn,nmT_ok hi];rfl
theorem toD_mems {t:TyD} (hk:¬ (t.kind=8∨t.kind=7∨t.kind=9)):toD t=t.mems.map (·.type):=by
 unfold toD usesD;rw[if_neg (fun e=>hk (.inl e)),if_neg (fun e=>hk (.inr e)),List.append_nil,List.map_map];rfl
section
variable {d:List NodeD} {i:Nat}
theorem tyOk_bool (hi:i≤20) (hk:kindN d i=1):TyOk d i { zeroT with kind:=1 } :=
 ⟨form_of hi ⟨by show (1:Int)≤(1:Int);decide,by show (1:Int)≤(9:Int);decide⟩ rfl rfl rfl,rfl,(by rw[toD_mems (by show ¬ ((1:Int)=8∨(1:Int)=7∨(1:Int)=9);decide)];intro u hu;cases hu),fun _=>hk.symm,(fun h=>by cases h),(fun _ h=>by cases h),(fun _ h=>by cases h),(fun _ h=>by cases h),in64_0⟩
theorem tyOk_int (hi:i≤20) (hk:kindN d i=2) {a b:Int} (hab:a≤b) (hn:In64 a∧In64 b):TyOk d i { zeroT with kind:=2,low:=a,high:=b } :=
 ⟨form_of hi ⟨by show (1:Int)≤(2:Int);decide,by show (2:Int)≤(9:Int);decide⟩ rfl rfl (decide_eq_true hab),rfl,(by rw[toD_mems (by show ¬ ((2:Int)=8∨(2:Int)=7∨(2:Int)=9);decide)];intro u hu;cases hu),fun _=>hk.symm,(fun h=>by cases h),(fun _ h=>by cases h),(fun _ h=>by cases h),(fun _ h=>by cases h),hn⟩
theorem tyOk_str (hi:i≤20) (hk:kindN d i=3) {a:Int} (ha:0≤a∧a≤3):TyOk d i { zeroT with kind:=3,max:=a } :=
 ⟨form_of hi ⟨by show (1:Int)≤(3:Int);decide,by show (3:Int)≤(9:Int);decide⟩ rfl rfl (by unfold caseD;simp;omega),rfl,(by rw[toD_mems (by show ¬ ((3:Int)=8∨(3:Int)=7∨(3:Int)=9);decide)];intro u hu;cases hu),fun _=>hk.symm,(fun h=>by cases h),(fun _ h=>by cases h),(fun _ h=>by cases h),(fun _ h=>by cases h),in64_0⟩
theorem tyOk_enum (hi:i≤20) (hk:kindN d i=4) (x:NodeD) (o:Bool):TyOk d i { zeroT with kind:=4,name:=nmT i,syms:=symsN x,open_:=o } :=
 ⟨form_of hi ⟨by show (1:Int)≤(4:Int);decide,by show (4:Int)≤(9:Int);decide⟩ rfl rfl (symsN_ok x),rfl,(by rw[toD_mems (by show ¬ ((4:Int)=8∨(4:Int)=7∨(4:Int)=9);decide)];intro u hu;cases hu),fun _=>hk.symm,(fun h=>by cases h),(fun _ h=>by cases h),(fun m hm=>by
  obtain ⟨n,_,rfl⟩:=List.mem_map.1 (show m∈symsN x from hm)
  rfl),(fun _ h=>by cases h),in64_0⟩
theorem MsOk.size {rec:Bool} {n:Nat} {ms:List MemD} (h:MsOk rec n 12 ms):∀m∈ms,m.name.size=2:=fun m hm=>by rw[(h.2 m hm).2.1];rfl
theorem MsOk.types {rec:Bool} {n:Nat} {ms:List MemD} (h:MsOk rec n 12 ms):∀u∈ms.map (·.type),0≤u∧u<(n:Int):=fun u hu=>by
 obtain ⟨m,hm,rfl⟩:=List.mem_map.1 hu;exact (h.2 m hm).2.2.1
theorem tyOk_rec (hi:i≤20) (hk:keyKind (kindN d i)=false) {ms:List MemD} (h:MsOk true d.length 12 ms) (hf:∀m∈ms,FlatV m.dflt):TyOk d i { zeroT with kind:=5,name:=nmT i,mems:=ms } :=
 ⟨form_of hi ⟨by show (1:Int)≤(5:Int);decide,by show (5:Int)≤(9:Int);decide⟩ rfl rfl (h.mems (.inl rfl)),rfl,(by rw[toD_mems (by show ¬ ((5:Int)=8∨(5:Int)=7∨(5:Int)=9);decide)];exact h.types),(fun e=>by rw[hk] at e;cases e),(fun h=>by cases h),h.size,(fun _ h=>by cases h),hf,in64_0⟩
theorem tyOk_union (hi:i≤20) (hk:keyKind (kindN d i)=false) {ms:List MemD} (h:MsOk false d.length 12 ms) (hf:∀m∈ms,FlatV m.dflt) (hne:ms≠[]) (o:Bool):TyOk d i { zeroT with kind:=6,name:=nmT i,mems:=ms,open_:=o } :=
 ⟨form_of hi ⟨by show (1:Int)≤(6:Int);decide,by show (6:Int)≤(9:Int);decide⟩ rfl rfl (h.mems (.inr hne)),rfl,(by rw[toD_mems (by show ¬ ((6:Int)=8∨(6:Int)=7∨(6:Int)=9);decide)];exact h.types),(fun e=>by rw[hk] at e;cases e),(fun h=>by cases h),h.size,(fun _ h=>by cases h),hf,in64_0⟩
theorem tyOk_list (hi:i≤20) (hk:keyKind (kindN d i)=false) {a b:Int} (ha:0≤a∧a≤3) (hb:0≤b∧b<(d.length:Int)):TyOk d i { zeroT with kind:=7,max:=a,elem:=b } :=
 ⟨form_of hi ⟨by show (1:Int)≤(7:Int);decide,by show (7:Int)≤(9:Int);decide⟩ rfl rfl (by unfold caseD;simp;omega),rfl,(fun u hu=>by rw[show u=b by simpa[toD,usesD,show zeroT.mems=[] from rfl] using hu];exact hb),(fun e=>by rw[hk] at e;cases e),(fun h=>by cases h),(fun _ h=>by cases h),(fun _ h=>by cases h),(fun _ h=>by cases h),in64_0⟩
theorem tyOk_map (hi:i≤20) (hk:keyKind (kindN d i)=false) {a b c:Int} (ha:0≤a∧a≤3) (hb:0≤b∧b<(d.length:Int)) (hc:0≤c∧c<(d.length:Int)) (hkc:keyKind (kindN d c.toNat)=true):TyOk d i { zeroT with kind:=8,max:=a,key:=c,elem:=b } :=
 ⟨form_of hi ⟨by show (1:Int)≤(8:Int);decide,by show (8:Int)≤(9:Int);decide⟩ rfl rfl (by unfold caseD;simp;omega),rfl,(fun u hu=>by
  have:u=c∨u=b:=by simpa[toD,usesD,show zeroT.mems=[] from rfl] using hu
  rcases this with rfl|rfl
  ·exact hc
  ·exact hb),(fun e=>by rw[hk] at e;cases e),(fun _=>⟨hkc,hc⟩),(fun _ h=>by cases h),(fun _ h=>by cases h),(fun _ h=>by cases h),in64_0⟩
theorem tyOk_opt (hi:i≤20) (hk:keyKind (kindN d i)=false) {b:Int} (hb:0≤b∧b<(d.length:Int)):TyOk d i { zeroT with kind:=9,elem:=b } :=
 ⟨form_of hi ⟨by show (1:Int)≤(9:Int);decide,by show (9:Int)≤(9:Int);decide⟩ rfl rfl rfl,rfl,(fun u hu=>by rw[show u=b by simpa[toD,usesD,show zeroT.mems=[] from rfl] using hu];exact hb),(fun e=>by rw[hk] at e;cases e),(fun h=>by cases h),(fun _ h=>by cases h),(fun _ h=>by cases h),(fun _ h=>by cases h),in64_0⟩
end
theorem kindN_range (d:List NodeD) (i:Nat):1≤kindN d i∧kindN d i≤9:=by unfold kindN;omega
theorem keyD_ok {d:List NodeD} {code:Nat} (h:¬ keyD d code<0):(0≤keyD d code∧keyD d code<(d.length:Int))∧keyKind (kindN d (keyD d code).toNat)=true:=by
 unfold keyD at h ⊢
 split
 ·rename_i k hk
  have h1:=List.find?_some hk;have h2:=List.mem_range.1 (List.mem_of_find?_eq_some hk);have h3:(code+k) % d.length<d.length:=Nat.mod_lt _ (by omega)
  exact ⟨⟨by omega,by omega⟩,h1⟩
 ·rename_i hk
  rw[hk] at h;exact absurd (show (-1:Int)<0 by decide) h
theorem targetD_ok {d:List NodeD} {i code:Nat} (hi:i<d.length) (h:¬ targetD d i code<0):0≤targetD d i code∧targetD d i code<(d.length:Int):=by
 refine ⟨by omega,?_⟩
 have h3:code % d.length<d.length:=Nat.mod_lt _ (by omega)
 unfold targetD at h ⊢
 split
 ·omega
 ·split
  ·have:code % d.length % i<i:=Nat.mod_lt _ (by assumption)
   omega
  ·unfold fstN
   split
   ·rename_i k hk
    have h2:=List.mem_range.1 (List.mem_of_find?_eq_some hk)
    omega
   ·omega
theorem low_high (x:NodeD):lowN x≤highN x:=by unfold highN;omega
open Go.RowKit
theorem write_k7 {s:List TyD} {A:zo} {c n:Nat} (_hv:zJ s=0) (hn:Num64 s) (ih:WriteAt s A c n):WriteK s A c n 7:=by
 intro t v A1 c1 A2 c2 A3 c3 w0 w B b T e hf hs hr htb hg hb0 hB hbl hsz
 obtain ⟨i0,i1,i2,i3⟩:=fitF_out hf;obtain ⟨tn,rfl⟩:=Int.eq_ofNat_of_zero_le i0;have htn:tn<s.length:=by omega
 have hln:=hs.1.lt (by omega)
 rw[zP htn] at i2 i3 e;have HL0:Hid (litF s (n+1) (tn:Int) v=litB (litF s n) s[tn] v):=by show _=_;rw[litF,zP htn]
 have HXN:=zh (hn _ (List.getElem_mem htn));obtain ⟨HBW,H5,H7⟩:=zy w (.cells #[.slice A s.length c] 27) (v.box A1 c1 A2 c2 A3 c3);have HIH:=zh ih;have HS:=zh hs;have HR:=zh hr;have HTB:=zh htb;have HG:=zh hg;have HB0:=zh hb0;have HGE:=zh hB;have HBL:=zh hbl;have hblt:=hbl.lt;obtain ⟨L,hL⟩:∃L,litF s (n+1) (tn:Int) v=L:=⟨_,rfl⟩;rw[hL] at hsz HL0;simp only[hL];have HSZ:=zh hsz
 have HU:Hid (Below w0.heap.size w0 ((w.alloc (.cells #[.slice A s.length c] 27)).alloc (v.box A1 c1 A2 c2 A3 c3))):=(hb0.trans (HBW.out.mono hB)).mono hg;obtain ⟨bq,oq,As,cs,Am,cm,hA,htr,t0,t1,t2,t3,t4,t5,t6,t7,t8,t9⟩:=hs.at10 htn;clear hL hf ih hs hr htb hg hb0 hB hbl hsz _hv hn i0 i1;subst hA;generalize s[tn]=x at *;have HTR:=zh htr;have HFB:=zh i3;have HVK:=zh (i2.trans e);have HK:=zh e
 clear htr i3 i2 e;replace t0:=zA HU.out t0;replace t1:=zA HU.out t1;replace t2:=zA HU.out t2;replace t3:=zA HU.out t3;replace t4:=zA HU.out t4;replace t5:=zA HU.out t5;replace t6:=zA HU.out t6;replace t7:=zA HU.out t7;replace t8:=zA HU.out t8;replace t9:=zA HU.out t9;have h1:(0:Int)≤(tn:Int):=by omega
 have h2:(tn:Int)<(s.length:Int):=by omega
 go_enter Tryz.func119,Tryz.ntmps119
 go_upto_region 1 with fail
 have hsz2:Hid (((w.alloc (.cells #[.slice (some ⟨bq,oq,none⟩) s.length c] 27)).alloc (v.box A1 c1 A2 c2 A3 c3)).heap.size=w.heap.size+2):=by show _=_;simp
 generalize (w.alloc (.cells #[.slice (some ⟨bq,oq,none⟩) s.length c] 27)).alloc (v.box A1 c1 A2 c2 A3 c3)=W2 at *;have x0:=zb H5.out;go_upto_region 2 with fail
 clear t0 t1 t2 t3 t4 t5 t6 t7 t8 t9 x0;have HBX:=zh (zD W2 (x.box As cs Am cm));have ST:Hid (WrSt s (some ⟨bq,oq,none⟩) c x As cs Am cm v A1 c1 A2 c2 A3 c3 B b w.heap.size (w.heap.size+1) W2.heap.size w (W2.alloc (x.box As cs Am cm)) (T)):=by
  have hz:=hsz2.out;have hge:=HGE.out;exact ⟨(HBL.out.below HBW.out).below HBX.out,(HBW.out.mono HGE.out).trans (HBX.out.mono (by omega)),oth_trans (yO HBW.out) (yO HBX.out),by omega,by omega,by omega,zF H5.out HBX.out,zF H7.out HBX.out,heap_alloc_new W2 _,by have:=HGE.out;have:=HBX.out.size;omega⟩
 generalize W2.alloc (x.box As cs Am cm)=W3 at *;generalize W2.heap.size=p8 at *;clear hsz2 hblt HBW H5 H7 HBL HU HBX h1 h2;obtain ⟨q1,q2,q3,q4,q5,q6,q7⟩:=zk7 HK.out;obtain ⟨v0,v1,v2,v3,v4,v5,v6,v7⟩:=zH ST.out.h7;obtain ⟨b0,b1,b2,b3,b4,b5,b6,b7,b8,b9⟩:=zI ST.out.h8;have x0:=ST.out.c5;have HL:=zh (HL0.out.trans (lit7 HK.out));have HF:=zh (fit7 HK.out HFB.out);have hli:=HR.out.items.1.lt (by omega)
 have HZ:Hid (T.size+(1+(catL (v.items.map (litF s n x.elem))).size+1)≤140737488355328):=by have:=HSZ.out;rw[HL.out,zG,zG] at this;exact this
 go_wp2_with fail
 refine (ST.out.bld.byte 91 (by have:=HZ.out;omega) ST.out.ge).mono ?_
 rintro e' w5 ⟨rfl,g1,g2,g3⟩;have ST5:=zh (ST.out.step g1 g2 g3);clear g1 g2 g3;clear v0 v1 v2 v3 v4 v5 v6 v7 b0 b1 b2 b3 b4 b5 b6 b7 b8 b9 x0;obtain ⟨v0,v1,v2,v3,v4,v5,v6,v7⟩:=zH ST5.out.h7;obtain ⟨b0,b1,b2,b3,b4,b5,b6,b7,b8,b9⟩:=zI ST5.out.h8;have x0:=ST5.out.c5;go_wp2_with fail
 go_loopw [187] (fun i wr=>∃k:Nat,k≤v.items.length∧i = .int .i64 (k:Int)∧Hid (WrSt s (some ⟨bq,oq,none⟩) c x As cs Am cm v A1 c1 A2 c2 A3 c3 B b w.heap.size (w.heap.size+1) p8 w wr (T++oneB 91++catK (fun i=>(v.items.map (litF s n x.elem)).getD i ⟨#[]⟩) k))) (fun i _=>v.items.length - (intOf i).toNat)
 case atStart=>exact ⟨0,by omega,rfl,by have h:=ST5.out;rw[show T++oneB 91=T++oneB 91++catK (fun i=>(v.items.map (litF s n x.elem)).getD i ⟨#[]⟩) 0 from (app_nil _).symm] at h;exact h⟩
 case round =>
  obtain ⟨k,hk,rfl,hh⟩:=hrel;have STr:=zh hh.out;clear v0 v1 v2 v3 v4 v5 v6 v7 b0 b1 b2 b3 b4 b5 b6 b7 b8 b9 x0 hh
  by_cases hlt:k<v.items.length
  ·obtain ⟨ib,io,E1,e1,E2,e2,E3,e3,hI,hir,a0,a1,a2,a3,a4,a5,a6,a7⟩:=HR.out.items.at8 hlt
   have HIR:=zh hir;clear hir;replace a0:=zA (STr.out.up HB0.out HG.out) a0;replace a1:=zA (STr.out.up HB0.out HG.out) a1;replace a2:=zA (STr.out.up HB0.out HG.out) a2;replace a3:=zA (STr.out.up HB0.out HG.out) a3;replace a4:=zA (STr.out.up HB0.out HG.out) a4;replace a5:=zA (STr.out.up HB0.out HG.out) a5;replace a6:=zA (STr.out.up HB0.out HG.out) a6;replace a7:=zA (STr.out.up HB0.out HG.out) a7
   have hmem:=HF.out _ (List.getElem_mem hlt);have HPT:=zh (catL_part (l:=v.items.map (litF s n x.elem)) (k:=k) (by simpa using hlt))
   have HCS:=zh (catL_step (l:=v.items.map (litF s n x.elem)) (k:=k) (by simpa using hlt))
   rw[List.getElem_map] at HPT HCS;generalize v.items[k]=y at *;have HFY:=zh hmem;clear hmem;generalize hCK:catK (fun i=>(v.items.map (litF s n x.elem)).getD i ⟨#[]⟩) k=CK at *
   generalize hCM:(if k=0 then (⟨#[]⟩:ByteArray) else ⟨#[44,32]⟩)=CM at *
   have HSZ2:Hid ((T++oneB 91++CK).size+CM.size+(litF s n x.elem y).size≤140737488355328):=by have:=HZ.out;have:=HPT.out;rw[zG,zG];show _+1+_+_+_≤_;omega
   subst hI;have h1:(0:Int)≤(k:Int):=by omega
   have h2:(k:Int)<(v.items.length:Int):=by omega
   have hblt:=STr.out.bld.lt;have HNB:=zh (zD wr (y.box E1 e1 E2 e2 E3 e3));have HYB:=zh (heap_alloc_new wr (y.box E1 e1 E2 e2 E3 e3));have STa:=zh (STr.out.below HNB.out);obtain ⟨v0,v1,v2,v3,v4,v5,v6,v7⟩:=zH STr.out.h7;obtain ⟨b0,b1,b2,b3,b4,b5,b6,b7,b8,b9⟩:=zI STr.out.h8;have x0:=STr.out.c5;go_upto_region 42 with fail
   clear v0 v1 v2 v3 v4 v5 v6 v7 b0 b1 b2 b3 b4 b5 b6 b7 b8 b9 x0 a0 a1 a2 a3 a4 a5 a6 a7;generalize wr.alloc (y.box E1 e1 E2 e2 E3 e3)=W4 at *;generalize wr.heap.size=p18 at *;have hne:p18≠b:=by omega
   go_wp2_with fail
   refine (comma_any STa.out.bld k (by rw[hCM];have:=HSZ2.out;omega) STa.out.ge).mono ?_
   rintro e' w6 ⟨rfl,g1,g2,g3⟩;rw[hCM] at g1;have ST6:=zh (STa.out.step g1 g2 g3);have HY6:=zh (g3.blk HYB.out hne (by decide))
   clear g1 g2 g3;obtain ⟨v0,v1,v2,v3,v4,v5,v6,v7⟩:=zH ST6.out.h7;obtain ⟨b0,b1,b2,b3,b4,b5,b6,b7,b8,b9⟩:=zI ST6.out.h8;have x0:=ST6.out.c5;obtain ⟨y0,y1,y2,y3,y4,y5,y6,y7⟩:=zH HY6.out;go_wp2_with fail;refine (HIH.out x.elem y E1 e1 E2 e2 E3 e3 w0 _ B b _ HFY.out HS.out HIR.out HTB.out HG.out (HB0.out.trans ST6.out.fr) ST6.out.ge ST6.out.bld (by have:=HSZ2.out;rw[zG];omega)).mono ?_
   rintro e' w7 ⟨rfl,g1,g2,g3⟩;have ST7:=zh (ST6.out.step g1 g2 g3);clear g1 g2 g3;clear v0 v1 v2 v3 v4 v5 v6 v7 b0 b1 b2 b3 b4 b5 b6 b7 b8 b9 x0 y0 y1 y2 y3 y4 y5 y6 y7;have HE:Hid (T++oneB 91++CK++CM++litF s n x.elem y=T++oneB 91++catK (fun i=>(v.items.map (litF s n x.elem)).getD i ⟨#[]⟩) (k+1)):=by show _=_;rw[HCS.out];simp only[ByteArray.append_assoc]
   go_wp2
   go_roundw
   case rel=>exact ⟨k+1,by omega,by go_num,by have h:=ST7.out;rw[HE.out] at h;exact h⟩
   case measure=>simp[intOf];omega
  ·obtain rfl:k=v.items.length:=by omega
   have HE:Hid (catK (fun i=>(v.items.map (litF s n x.elem)).getD i ⟨#[]⟩) v.items.length=catL (v.items.map (litF s n x.elem))):=by show _=_;unfold catL;rw[List.length_map]
   have STe:=STr;rw[HE.out] at STe;go_wp2_with fail;refine (STe.out.bld.byte 93 (by have:=HZ.out;rw[zG,zG];show _+1+_+1≤_;omega) STe.out.ge).mono ?_
   rintro e' w8 ⟨rfl,g1,g2,g3⟩;have ST8:=zh (STe.out.step g1 g2 g3);clear g1 g2 g3;go_wp2;refine bodyPost_end (results_none Tryz.results119 _ _ _) rfl ⟨rfl,by rw[HL.out];(have h:=ST8.out.bld;simp only[ByteArray.append_assoc] at h ⊢;exact h),ST8.out.fr,ST8.out.ot⟩
open Go.RowKit
theorem write_k9 {s:List TyD} {A:zo} {c n:Nat} (_hv:zJ s=0) (hn:Num64 s) (ih:WriteAt s A c n):WriteK s A c n 9:=by
 intro t v A1 c1 A2 c2 A3 c3 w0 w B b T e hf hs hr htb hg hb0 hB hbl hsz
 obtain ⟨i0,i1,i2,i3⟩:=fitF_out hf;obtain ⟨tn,rfl⟩:=Int.eq_ofNat_of_zero_le i0;have htn:tn<s.length:=by omega
 have hln:=hs.1.lt (by omega)
 rw[zP htn] at i2 i3 e;have HL0:Hid (litF s (n+1) (tn:Int) v=litB (litF s n) s[tn] v):=by show _=_;rw[litF,zP htn]
 have HXN:=zh (hn _ (List.getElem_mem htn));obtain ⟨HBW,H5,H7⟩:=zy w (.cells #[.slice A s.length c] 27) (v.box A1 c1 A2 c2 A3 c3);have HIH:=zh ih;have HS:=zh hs;have HR:=zh hr;have HTB:=zh htb;have HG:=zh hg;have HB0:=zh hb0;have HGE:=zh hB;have HBL:=zh hbl;have hblt:=hbl.lt;obtain ⟨L,hL⟩:∃L,litF s (n+1) (tn:Int) v=L:=⟨_,rfl⟩;rw[hL] at hsz HL0;simp only[hL];have HSZ:=zh hsz
 have HU:Hid (Below w0.heap.size w0 ((w.alloc (.cells #[.slice A s.length c] 27)).alloc (v.box A1 c1 A2 c2 A3 c3))):=(hb0.trans (HBW.out.mono hB)).mono hg;obtain ⟨bq,oq,As,cs,Am,cm,hA,htr,t0,t1,t2,t3,t4,t5,t6,t7,t8,t9⟩:=hs.at10 htn;clear hL hf ih hs hr htb hg hb0 hB hbl hsz _hv hn i0 i1;subst hA;generalize s[tn]=x at *;have HTR:=zh htr;have HFB:=zh i3;have HVK:=zh (i2.trans e);have HK:=zh e
 clear htr i3 i2 e;replace t0:=zA HU.out t0;replace t1:=zA HU.out t1;replace t2:=zA HU.out t2;replace t3:=zA HU.out t3;replace t4:=zA HU.out t4;replace t5:=zA HU.out t5;replace t6:=zA HU.out t6;replace t7:=zA HU.out t7;replace t8:=zA HU.out t8;replace t9:=zA HU.out t9;have h1:(0:Int)≤(tn:Int):=by omega
 have h2:(tn:Int)<(s.length:Int):=by omega
 go_enter Tryz.func119,Tryz.ntmps119
 go_upto_region 1 with fail
 have hsz2:Hid (((w.alloc (.cells #[.slice (some ⟨bq,oq,none⟩) s.length c] 27)).alloc (v.box A1 c1 A2 c2 A3 c3)).heap.size=w.heap.size+2):=by show _=_;simp
 generalize (w.alloc (.cells #[.slice (some ⟨bq,oq,none⟩) s.length c] 27)).alloc (v.box A1 c1 A2 c2 A3 c3)=W2 at *;have x0:=zb H5.out;go_upto_region 2 with fail
 clear t0 t1 t2 t3 t4 t5 t6 t7 t8 t9 x0;have HBX:=zh (zD W2 (x.box As cs Am cm));have ST:Hid (WrSt s (some ⟨bq,oq,none⟩) c x As cs Am cm v A1 c1 A2 c2 A3 c3 B b w.heap.size (w.heap.size+1) W2.heap.size w (W2.alloc (x.box As cs Am cm)) (T)):=by
  have hz:=hsz2.out;have hge:=HGE.out;exact ⟨(HBL.out.below HBW.out).below HBX.out,(HBW.out.mono HGE.out).trans (HBX.out.mono (by omega)),oth_trans (yO HBW.out) (yO HBX.out),by omega,by omega,by omega,zF H5.out HBX.out,zF H7.out HBX.out,heap_alloc_new W2 _,by have:=HGE.out;have:=HBX.out.size;omega⟩
 generalize W2.alloc (x.box As cs Am cm)=W3 at *;generalize W2.heap.size=p8 at *;clear hsz2 hblt HBW H5 H7 HBL HU HBX h1 h2;have q1:(x.kind==1)=false:=by simp[HK.out]
 have q2:(x.kind==2)=false:=by simp[HK.out]
 have q3:(x.kind==3)=false:=by simp[HK.out]
 have q4:(x.kind==4)=false:=by simp[HK.out]
 have q5:(x.kind==5)=false:=by simp[HK.out]
 have q6:(x.kind==6)=false:=by simp[HK.out]
 have q7:(x.kind==7)=false:=by simp[HK.out]
 have q8:(x.kind==8)=false:=by simp[HK.out]
 have q9:(x.kind==9)=true:=by simp[HK.out]
 obtain ⟨v0,v1,v2,v3,v4,v5,v6,v7⟩:=zH ST.out.h7;obtain ⟨b0,b1,b2,b3,b4,b5,b6,b7,b8,b9⟩:=zI ST.out.h8;have x0:=ST.out.c5;have HL1:=zh (HL0.out.trans (lit9 HK.out));have HF:=zh (fit9 HK.out HFB.out)
 by_cases hi:v.items=[]
 ·have HL:Hid (L=⟨#[110,111,110,101]⟩):=by show _=_;rw[HL1.out,hi]
  have HZ:Hid (T.size+(⟨#[110,111,110,101]⟩:ByteArray).size≤140737488355328):=by have:=HSZ.out;rw[HL.out] at this;exact this
  have z1:((v.items.length:Int)==0)=true:=by rw[hi];rfl
  clear hi;go_wp2_with fail;refine (ST.out.bld.write _ (HZ.out) ST.out.ge).mono ?_;rintro e' w5 ⟨rfl,g1,g2,g3⟩;have ST5:=zh (ST.out.step g1 g2 g3);clear g1 g2 g3;go_wp2;refine bodyPost_ret (results_none Tryz.results119 _ _ _) rfl ⟨rfl,by rw[HL.out];exact ST5.out.bld,ST5.out.fr,ST5.out.ot⟩
 ·have hlt:0<v.items.length:=List.length_pos_iff.2 hi
  obtain ⟨ib,io,E1,e1,E2,e2,E3,e3,hI,hir,a0,a1,a2,a3,a4,a5,a6,a7⟩:=HR.out.items.at8 hlt;have HIR:=zh hir;have HA:=zh (And.intro a0 (And.intro a1 (And.intro a2 (And.intro a3 (And.intro a4 (And.intro a5 (And.intro a6 a7)))))));clear hir a0 a1 a2 a3 a4 a5 a6 a7;have hmem:=HF.out.2 _ (List.getElem_mem hlt)
  have HL:Hid (L=⟨#[115,111,109,101,40]⟩++litF s n x.elem v.items[0]++⟨#[41]⟩):=HL0.out.trans (lit9_some HK.out hlt);have HZ:Hid (T.size+(5+(litF s n x.elem v.items[0]).size+1)≤140737488355328):=by have:=HSZ.out;rw[HL.out,zG,zG] at this;exact this
  have z1:((v.items.length:Int)==0)=false:=by simp[hi]
  generalize v.items[0]=y at *;have HFY:=zh hmem;clear hmem hi;subst hI;have h2:(0:Int)<(v.items.length:Int):=by omega
  go_wp2_with fail
  refine (ST.out.bld.write _ ?_ ST.out.ge).mono ?_
  ·have:=HZ.out;show _+5≤_;omega
  rintro e' w5 ⟨rfl,g1,g2,g3⟩;have ST5:=zh (ST.out.step g1 g2 g3);clear g1 g2 g3;clear v0 v1 v2 v3 v4 v5 v6 v7 b0 b1 b2 b3 b4 b5 b6 b7 b8 b9 x0
  have HCC:Hid (∀w' T',WrSt s (some ⟨bq,oq,none⟩) c x As cs Am cm v A1 c1 (some ⟨ib,io,none⟩) c2 A3 c3 B b w.heap.size (w.heap.size+1) p8 w w' (T')→(w'.cell? ⟨w.heap.size,0,none⟩=some (.slice (some ⟨bq,oq,none⟩) s.length c)∧w'.cell? ⟨p8,8,none⟩=some (.int .i64 x.elem)∧w'.cell? ⟨w.heap.size+1,6,none⟩=some (.slice (some ⟨ib,io,none⟩) v.items.length c2)∧w'.cell? ⟨ib,io,none⟩=some (.int .i64 y.kind)∧w'.cell? ⟨ib,io+1,none⟩=some (.bool y.bool)∧w'.cell? ⟨ib,io+2,none⟩=some (.int .i64 y.int)∧w'.cell? ⟨ib,io+3,none⟩=some (.string y.str)∧w'.cell? ⟨ib,io+4,none⟩=some (.int .i64 y.id)∧w'.cell? ⟨ib,io+5,none⟩=some (.slice E1 y.keys.length e1)∧w'.cell? ⟨ib,io+6,none⟩=some (.slice E2 y.items.length e2)∧w'.cell? ⟨ib,io+7,none⟩=some (.slice E3 y.rest.length e3))):=fun w' T' st=>by
   obtain ⟨v0,v1,v2,v3,v4,v5,v6,v7⟩:=zH st.h7;obtain ⟨b0,b1,b2,b3,b4,b5,b6,b7,b8,b9⟩:=zI st.h8;have u:=st.up HB0.out HG.out;obtain ⟨a0,a1,a2,a3,a4,a5,a6,a7⟩:=HA.out;exact ⟨st.c5,b8,v6,zA u (by simpa using a0),zA u (by simpa using a1),zA u (by simpa using a2),zA u (by simpa using a3),zA u (by simpa using a4),zA u (by simpa using a5),zA u (by simpa using a6),zA u (by simpa using a7)⟩
  go_upto_region 63 with fail
  refine wp_region_held_drew (S:=(fun w'=>(w'.cell? ⟨w.heap.size,0,none⟩=some (.slice (some ⟨bq,oq,none⟩) s.length c)∧w'.cell? ⟨p8,8,none⟩=some (.int .i64 x.elem)∧w'.cell? ⟨w.heap.size+1,6,none⟩=some (.slice (some ⟨ib,io,none⟩) v.items.length c2)∧w'.cell? ⟨ib,io,none⟩=some (.int .i64 y.kind)∧w'.cell? ⟨ib,io+1,none⟩=some (.bool y.bool)∧w'.cell? ⟨ib,io+2,none⟩=some (.int .i64 y.int)∧w'.cell? ⟨ib,io+3,none⟩=some (.string y.str)∧w'.cell? ⟨ib,io+4,none⟩=some (.int .i64 y.id)∧w'.cell? ⟨ib,io+5,none⟩=some (.slice E1 y.keys.length e1)∧w'.cell? ⟨ib,io+6,none⟩=some (.slice E2 y.items.length e2)∧w'.cell? ⟨ib,io+7,none⟩=some (.slice E3 y.rest.length e3))∧Hid (Below B w0 w))) (by kernel_rfl) ?_ (fun zH_=>?_)
  ·(try dsimp only);exact ⟨HCC.out _ _ (ST5.out.below (zC (Below.refl _ _) 1)),HB0.out⟩
  refine tL 0 ?_;refine tL 1 ?_;refine tL 2 ?_;refine tL 3 ?_;refine tL 4 ?_;refine tL 5 ?_;try simp only[ps]
  refine tL 6 ?_;refine tL 7 ?_;refine tR 8 (fun K hK=>?_)
  go_simp
  (refine (HIH.out x.elem y E1 e1 E2 e2 E3 e3 w0 _ B b _ HFY.out HS.out HIR.out HTB.out HG.out (HB0.out.trans (ST5.out.below (zC (Below.refl _ _) 1)).fr) (ST5.out.below (zC (Below.refl _ _) 1)).ge (ST5.out.below (zC (Below.refl _ _) 1)).bld (by have:=HZ.out;rw[zG];show _+5+_≤_;omega)).mono ?_;rintro e' w6 ⟨rfl,g1,g2,g3⟩;have ST6:=zh ((ST5.out.below (zC (Below.refl _ _) 1)).step g1 g2 g3);clear g1 g2 g3)
  refine hK.out _ _ ?_ (fun zH_=>?_)
  ·(try dsimp only);exact ⟨HCC.out _ _ ST6.out,HB0.out⟩
  clear hK K;refine wpAnyH_done (by kernel_rfl) ?_ _
  clear zH_;go_wp2_with fail;refine (ST6.out.bld.byte 41 (by have:=HZ.out;rw[zG,zG];show _+5+_+1≤_;omega) ST6.out.ge).mono ?_
  rintro e' w7 ⟨rfl,g1,g2,g3⟩;have ST7:=zh (ST6.out.step g1 g2 g3);clear g1 g2 g3;go_wp2;refine bodyPost_end (results_none Tryz.results119 _ _ _) rfl ⟨rfl,by rw[HL.out];(have h:=ST7.out.bld;simp only[ByteArray.append_assoc] at h ⊢;exact h),ST7.out.fr,ST7.out.ot⟩
def addX (x:Bool) (s:ByteArray):ByteArray:=if x then s++⟨#[120]⟩ else s
theorem app_list (s u:ByteArray):(s++u).data.toList=s.data.toList++u.data.toList:=by
 rw[ByteArray.data_append];simp
theorem bytes_ext {s u:ByteArray} (h:s.data.toList=u.data.toList):s=u:=by
 cases s;cases u;congr;exact Array.toList_inj.1 h
def Sh (n:Nat) (a b:Int):Prop:=b=a∨b=a+(n:Int)
def cpM (x:Bool) (m:MemD) (u:Int):MemD:={ m with name:=addX x m.name,type:=u }
def cpS (x:Bool) (s:SymD):SymD:={ s with name:=addX x s.name }
def cpN (x:Bool) (s:ByteArray):ByteArray:=if s=⟨#[]⟩ then s else addX x s
def cpT (x:Bool) (t:TyD) (ms:List MemD) (k e:Int):TyD:={ t with name:=cpN x t.name,syms:=t.syms.map (cpS x),mems:=ms,key:=k,elem:=e }
def MsSh (n:Nat) (x:Bool):List MemD→List MemD→Prop
 | [],[]=>True
 | m::r,c::q=>(∃u,Sh n m.type u∧c=cpM x m u)∧MsSh n x r q
 | _,_=>False
structure CpIs (n:Nat) (x:Bool) (t:TyD) (ms:List MemD) (k e:Int):Prop where
 mems:MsSh n x t.mems ms
 key:if t.kind=8 then Sh n t.key k else k=t.key
 elem:if t.kind=8∨t.kind=7∨t.kind=9 then Sh n t.elem e else e=t.elem
theorem MsSh.len {n:Nat} {x:Bool}:∀ {l m:List MemD},MsSh n x l m→m.length=l.length
 | [],[],_=>rfl
 | a::l,b::m,h=>by rw[List.length_cons,List.length_cons,MsSh.len h.2]
 | [],_::_,h=>h.elim
 | _::_,[],h=>h.elim
theorem MsSh.ids {n:Nat} {x:Bool}:∀ {l m:List MemD},MsSh n x l m→(m.map fun y=>(y.id,y.name))=(l.map fun y=>(y.id,y.name)).map fun y=>(y.1,addX x y.2)
 | [],[],_=>rfl
 | a::l,b::m,h=>by
  obtain ⟨⟨u,_,e⟩,h2⟩:=h;rw[List.map_cons,List.map_cons,List.map_cons,MsSh.ids h2,e];rfl
 | [],_::_,h=>h.elim
 | _::_,[],h=>h.elim
theorem MsSh.all {n:Nat} {x r:Bool}:∀ {l m:List MemD},MsSh n x l m→m.all (memOk r)=l.all (memOk r)
 | [],[],_=>rfl
 | a::l,b::m,h=>by
  obtain ⟨⟨u,_,e⟩,h2⟩:=h;rw[List.all_cons,List.all_cons,MsSh.all h2,e];rfl
 | [],_::_,h=>h.elim
 | _::_,[],h=>h.elim
def UsSh (n:Nat):List (Int×Int)→List (Int×Int)→Prop
 | [],[]=>True
 | u::r,v::q=>(v.1=u.1∧Sh n u.2 v.2)∧UsSh n r q
 | _,_=>False
theorem UsSh.app {n:Nat}:∀ {a b c d:List (Int×Int)},UsSh n a b→UsSh n c d→UsSh n (a++c) (b++d)
 | [],[],_,_,_,h=>h
 | _::_,_::_,_,_,h1,h2=>⟨h1.1,UsSh.app h1.2 h2⟩
 | [],_::_,_,_,h,_=>h.elim
 | _::_,[],_,_,h,_=>h.elim
theorem MsSh.uses {n:Nat} {x:Bool}:∀ {l m:List MemD},MsSh n x l m→UsSh n (l.map fun y=>(y.id,y.type)) (m.map fun y=>(y.id,y.type))
 | [],[],_=>trivial
 | a::l,b::m,h=>by
  obtain ⟨⟨u,hs,e⟩,h2⟩:=h;rw[List.map_cons,List.map_cons,e];exact ⟨⟨rfl,hs⟩,MsSh.uses h2⟩
 | [],_::_,h=>h.elim
 | _::_,[],h=>h.elim
theorem UsSh.mem {n:Nat}:∀ {l m:List (Int×Int)},UsSh n l m→∀v∈m,∃u∈l,v.1=u.1∧Sh n u.2 v.2
 | [],[],_,v,hv=>by cases hv
 | a::l,b::m,h,v,hv=>by
  rcases List.mem_cons.1 hv with e|e
  ·rw[e];exact ⟨a,List.mem_cons_self,h.1⟩
  ·obtain ⟨u,h1,h2⟩:=UsSh.mem h.2 v e
   exact ⟨u,List.mem_cons_of_mem _ h1,h2⟩
 | [],_::_,h,_,_=>h.elim
 | _::_,[],h,_,_=>h.elim
section
variable {n:Nat} {x:Bool} {t:TyD} {ms:List MemD} {k e:Int}
theorem CpIs.uses (h:CpIs n x t ms k e):UsSh n (usesD t) (usesD (cpT x t ms k e)):=by
 unfold usesD;refine UsSh.app h.mems.uses ?_
 show UsSh n _ (if t.kind=8 then [(0,k),(-1,e)] else if t.kind=7∨t.kind=9 then [(-1,e)] else [])
 have hk:=h.key;have he:=h.elem
 by_cases h8:t.kind=8
 ·rw[if_pos h8] at hk
  rw[if_pos (.inl h8)] at he;rw[if_pos h8,if_pos h8];exact ⟨⟨rfl,hk⟩,⟨rfl,he⟩,trivial⟩
 ·rw[if_neg h8,if_neg h8]
  by_cases h7:t.kind=7∨t.kind=9
  ·rw[if_pos (.inr h7)] at he
   rw[if_pos h7,if_pos h7];exact ⟨⟨rfl,he⟩,trivial⟩
  ·rw[if_neg h7,if_neg h7]
   exact trivial
end
section
variable {s c:List TyD}
end
end Go.Proofs.YtdfolgmcggdjdaaGreatDoor


