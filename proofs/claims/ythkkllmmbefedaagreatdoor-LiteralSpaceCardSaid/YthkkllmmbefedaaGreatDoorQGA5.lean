/-
  Walks: symbols and members, in package schema (written by gen_sc4.py).
-/
import Derived.Test.YthkkllmmbefedaaGreatDoorQGA4
import Derived.Test.YthkkllmmbefedaaGreatDoorQGA2
import Derived.Test.YthkkllmmbefedaaGreatDoorQGA0
import Derived.Deep.DeepCutAuto
import Derived.Lib.Bytealg
namespace Go.Proofs.YthkkllmmbefedaaGreatDoor
set_option maxHeartbeats 16000000
set_option maxRecDepth 100000
theorem ids_all:∀ (L:List (Int×ByteArray)) (b:Int) (K:List ByteArray),idsOk b K L=true →
  (∀x∈L,b<x.1∧1≤x.1∧x.1≤1000∧nameB x.2=true∧memD x.2 K=false)∧(L.map (·.1)).Nodup∧(L.map (·.2)).Nodup
 | [],_,_,_=>⟨fun _ h=>(by cases h),List.nodup_nil,List.nodup_nil⟩
 | x::L,b,K,h=>by
  rw[idsOk] at h;simp only[Bool.and_eq_true,decide_eq_true_eq,Bool.not_eq_true'] at h;obtain ⟨⟨⟨⟨⟨h1,h2⟩,h3⟩,h4⟩,h5⟩,h6⟩:=h;obtain ⟨g1,g2,g3⟩:=ids_all L x.1 (K++[x.2]) h6;have hk:∀y∈L,y.2≠x.2∧memD y.2 K=false:=fun y hy=>by
   have:=(g1 y hy).2.2.2.2;rw[memD_snoc,Bool.or_eq_false_iff] at this;exact ⟨of_decide_eq_false this.2,this.1⟩
  refine ⟨fun y hy=>?_,?_,?_⟩
  ·rcases List.mem_cons.1 hy with rfl|hy
   ·exact ⟨h3,h1,h2,h5,h4⟩
   ·have:=g1 y hy
    exact ⟨by omega,this.2.1,this.2.2.1,this.2.2.2.1,(hk y hy).2⟩
  ·rw[List.map_cons,List.nodup_cons]
   refine ⟨fun hm=>?_,g2⟩
   obtain ⟨y,hy,he⟩:=List.mem_map.1 hm;have:=(g1 y hy).1
   omega
  ·rw[List.map_cons,List.nodup_cons]
   refine ⟨fun hm=>?_,g3⟩
   obtain ⟨y,hy,he⟩:=List.mem_map.1 hm;exact (hk y hy).1 he
theorem idsD_all {L:List (Int×ByteArray)} (h:idsD L=true):(∀x∈L,1≤x.1∧x.1≤1000∧nameB x.2=true)∧(L.map (·.1)).Nodup∧(L.map (·.2)).Nodup:=by
 unfold idsD at h;rw[Bool.and_eq_true] at h;obtain ⟨h1,h2,h3⟩:=ids_all L 0 [] h.1;exact ⟨fun x hx=>⟨(h1 x hx).2.1,(h1 x hx).2.2.1,(h1 x hx).2.2.2.1⟩,h2,h3⟩
theorem form_lists {t:TyD} (h:formD t=true):(t.syms=[]∨idsD (t.syms.map fun s=>(s.id,s.name))=true)∧(t.mems=[]∨idsD (t.mems.map fun m=>(m.id,m.name))=true):=by
 unfold formD at h;simp only[Bool.and_eq_true,decide_eq_true_eq] at h;obtain ⟨⟨⟨⟨hk1,hk2⟩,hp⟩,_⟩,hc⟩:=h;unfold caseD at hc;have key:∀u:TyD,t=u→t.syms=u.syms∧t.mems=u.mems:=fun u e=>by rw[←e];exact ⟨rfl,rfl⟩
 by_cases h4:t.kind=4
 ·rw[if_neg (by omega),if_neg (by omega),if_pos h4] at hc
  unfold plainD at hp;rw[if_neg (by omega),if_neg (by omega),if_neg (by omega),if_pos h4] at hp
  unfold symsD at hc;rw[Bool.and_eq_true] at hc;exact ⟨Or.inr hc.1,Or.inl (key _ hp).2⟩
 ·by_cases h5:t.kind=5
  ·rw[if_neg (by omega),if_neg (by omega),if_neg (by omega),if_pos h5] at hc
   unfold plainD at hp;rw[if_neg (by omega),if_neg (by omega),if_neg (by omega),if_neg (by omega),if_pos h5] at hp
   unfold memsD at hc;simp only[Bool.and_eq_true] at hc;exact ⟨Or.inl (key _ hp).1,Or.inr hc.1.2⟩
  ·by_cases h6:t.kind=6
   ·rw[if_neg (by omega),if_neg (by omega),if_neg (by omega),if_neg (by omega),if_pos h6] at hc
    unfold plainD at hp;rw[if_neg (by omega),if_neg (by omega),if_neg (by omega),if_neg (by omega),if_neg (by omega),if_pos h6] at hp
    unfold memsD at hc;simp only[Bool.and_eq_true] at hc;exact ⟨Or.inl (key _ hp).1,Or.inr hc.1.2⟩
   ·have:(plainD t).syms=[]∧(plainD t).mems=[]:=by
     unfold plainD;rw[if_neg h4,if_neg h5,if_neg h6]
     repeat' split
     all_goals exact ⟨rfl,rfl⟩
    exact ⟨Or.inl ((key _ hp).1.trans this.1),Or.inl ((key _ hp).2.trans this.2)⟩
theorem tyAt_or (s:List TyD) (t:Int):tyAt s t=zeroT∨tyAt s t∈s:=by
 unfold tyAt;rw[List.getD_eq_getElem?_getD]
 cases h:s[t.toNat]? with
 | none=>exact Or.inl rfl
 | some x=>exact Or.inr (List.mem_of_getElem? h)
theorem schOk {s:List TyD} (hv:zQ s=0) (hn:Num64 s):SchOk s:=by
 have hf:∀t,(∀y∈(tyAt s t).syms,(1≤y.id∧y.id≤1000)∧nameB y.name=true)∧(∀y∈(tyAt s t).mems,(1≤y.id∧y.id≤1000)∧nameB y.name=true) ∧
   ((tyAt s t).syms.map SymD.id).Nodup∧((tyAt s t).mems.map MemD.id).Nodup∧((tyAt s t).syms.map SymD.name).Nodup∧((tyAt s t).mems.map MemD.name).Nodup:=fun t=>by
  rcases tyAt_or s t with h|h
  ·rw[h]
   exact ⟨fun _ h=>(by cases h),fun _ h=>(by cases h),List.nodup_nil,List.nodup_nil,List.nodup_nil,List.nodup_nil⟩
  ·obtain ⟨h1,h2⟩:=form_lists (valid_tys hv h).1
   generalize tyAt s t=x at *;have hs:(∀y∈x.syms,(1≤y.id∧y.id≤1000)∧nameB y.name=true)∧(x.syms.map SymD.id).Nodup∧(x.syms.map SymD.name).Nodup:=by
    rcases h1 with h1|h1
    ·rw[h1];exact ⟨fun _ h=>(by cases h),List.nodup_nil,List.nodup_nil⟩
    ·obtain ⟨g1,g2,g3⟩:=idsD_all h1
     rw[List.map_map] at g2 g3;exact ⟨fun y hy=>by
      have:=g1 _ (List.mem_map_of_mem hy);exact ⟨⟨this.1,this.2.1⟩,this.2.2⟩,g2,g3⟩
   have hm:(∀y∈x.mems,(1≤y.id∧y.id≤1000)∧nameB y.name=true)∧(x.mems.map MemD.id).Nodup∧(x.mems.map MemD.name).Nodup:=by
    rcases h2 with h2|h2
    ·rw[h2];exact ⟨fun _ h=>(by cases h),List.nodup_nil,List.nodup_nil⟩
    ·obtain ⟨g1,g2,g3⟩:=idsD_all h2
     rw[List.map_map] at g2 g3;exact ⟨fun y hy=>by
      have:=g1 _ (List.mem_map_of_mem hy);exact ⟨⟨this.1,this.2.1⟩,this.2.2⟩,g2,g3⟩
   exact ⟨hs.1,hm.1,hs.2.1,hm.2.1,hs.2.2,hm.2.2⟩
 refine ⟨fun t=>?_,fun t=>(hf t).2.2.1,fun t=>?_,fun t h0 h1=>?_⟩
 ·obtain ⟨g1,g2,g3,g4,g5,g6⟩:=hf t
  exact ⟨⟨fun y hy=>(g1 y hy).1,fun y hy=>(g2 y hy).1⟩,g4,g5,g6⟩
 ·obtain ⟨g1,g2,_⟩:=hf t
  have hb:-9223372036854775808≤(tyAt s t).low∧(tyAt s t).high≤9223372036854775807:=by
   rcases tyAt_or s t with h|h
   ·rw[h];exact ⟨by decide,by decide⟩
   ·exact ⟨(hn _ h).1.1,(hn _ h).2.2⟩
  exact ⟨fun y hy=>(g1 y hy).2,fun y hy=>(g2 y hy).2,hb.1,hb.2⟩
 ·have h:=(valid_tys hv (tyAt_mem ⟨h0,h1⟩)).1
  unfold formD at h;simp only[Bool.and_eq_true,decide_eq_true_eq] at h;exact ⟨h.1.1.1.1,h.1.1.1.2⟩
mutual
def kV:Val→Nat
 | .mk _ _ _ s _ ks is rs=>10+s.size+rs.length+kR rs+kL ks+kL is
def kL:List Val→Nat
 | []=>0
 | v::l=>kV v+kL l
def kR:List RawD→Nat
 | []=>0
 | r::l=>r.data.size+kR l
end
def szR:List RawD→Int→Int
 | [],n=>n
 | r::l,n=>if n<0 then n else szR l (n - r.data.size)
mutual
def szV:Val→Int→Int
 | .mk _ _ _ s _ ks is rs,n=>szL is (szL ks (szR rs (n - (10+s.size+rs.length))))
def szL:List Val→Int→Int
 | [],n=>n
 | v::l,n=>if n<0 then n else szL l (szV v n)
end
theorem szR_le:∀ (l:List RawD) (n:Int),szR l n≤n
 | [],_=>by rw[szR];exact Int.le_refl _
 | r::l,n=>by
  rw[szR];split
  ·exact Int.le_refl _
  ·have:=szR_le l (n - r.data.size);omega
mutual
theorem szV_le:∀ (v:Val) (n:Int),szV v n≤n
 | .mk _ _ _ s _ ks is rs,n=>by
  rw[szV];have h1:=szR_le rs (n - (10+s.size+rs.length));have h2:=szL_le ks (szR rs (n - (10+s.size+rs.length)));have h3:=szL_le is (szL ks (szR rs (n - (10+s.size+rs.length))))
  omega
theorem szL_le:∀ (l:List Val) (n:Int),szL l n≤n
 | [],_=>by rw[szL];exact Int.le_refl _
 | v::l,n=>by
  rw[szL];split
  ·exact Int.le_refl _
  ·have h1:=szV_le v n
   have h2:=szL_le l (szV v n)
   omega
end
theorem szR_eq:∀ (l:List RawD) (n:Int),0≤szR l n→szR l n=n - kR l
 | [],n,_=>by rw[szR,kR];omega
 | r::l,n,h=>by
  rw[szR] at h ⊢
  split at h
  ·omega
  ·rename_i hn
   rw[if_neg hn,kR];have:=szR_eq l _ h
   omega
mutual
theorem szV_eq:∀ (v:Val) (n:Int),0≤szV v n→szV v n=n - kV v
 | .mk _ _ _ s _ ks is rs,n,h=>by
  rw[szV] at h ⊢;rw[kV];have h3:=szL_eq is _ h;have g3:=szL_le is (szL ks (szR rs (n - (10+s.size+rs.length))));have h2:=szL_eq ks (szR rs (n - (10+s.size+rs.length))) (by omega)
  have g2:=szL_le ks (szR rs (n - (10+s.size+rs.length)));have h1:=szR_eq rs (n - (10+s.size+rs.length)) (by omega)
  omega
theorem szL_eq:∀ (l:List Val) (n:Int),0≤szL l n→szL l n=n - kL l
 | [],n,_=>by rw[szL,kL];omega
 | v::l,n,h=>by
  rw[szL] at h ⊢
  split at h
  ·omega
  ·rename_i hn
   rw[if_neg hn,kL];have h2:=szL_eq l _ h;have g2:=szL_le l (szV v n);have h1:=szV_eq v n (by omega)
   omega
end
theorem id_size {n:Int} (h:1≤n∧n≤1000):(decB n).size≤4:=by
 have:∀m:Fin 1001,(Lib.itoa ((m.1:Nat):Int)).length≤4:=by decide +kernel
 have h2:=this ⟨n.toNat,by omega⟩
 show (Lib.itoa n).toArray.size≤4
 rw[List.size_toArray];have e:((n.toNat:Nat):Int)=n:=by omega
 simp only[e] at h2;exact h2
theorem name_size {s:ByteArray} (h:nameB s=true):s.size≤24:=by
 unfold nameB at h;simp only[Bool.and_eq_true,decide_eq_true_eq] at h;exact h.1.1.2
theorem cat_le:∀ (l:List ByteArray),(catL l).size≤(l.map fun b=>b.size+2).sum:=by
 intro l
 rw[cat_size];have:∀m:List ByteArray,(jnL (m.map fun b=>b.data.toList)).length≤(m.map fun b=>b.size+2).sum:=fun m=>by
  induction m with
  | nil=>exact Nat.le_refl _
  | cons x r ih =>
   cases r with
   | nil =>
    show x.data.toList.length≤x.size+2+0
    have:x.data.toList.length=x.size:=rfl
    omega
   | cons y q =>
    show (x.data.toList++44::32::jnL ((y::q).map fun b=>b.data.toList)).length≤x.size+2+((y::q).map fun b=>b.size+2).sum
    have hx:x.data.toList.length=x.size:=rfl;rw[List.length_append,List.length_cons,List.length_cons,hx]
    omega
 exact this l
theorem sum_leL {α:Type} (f:α→Nat) (g:α→Nat):∀l:List α,(∀x∈l,f x≤g x)→(l.map f).sum≤(l.map g).sum
 | [],_=>Nat.le_refl _
 | x::l,h=>by
  rw[List.map_cons,List.map_cons,List.sum_cons,List.sum_cons];have h1:=h x (List.mem_cons_self ..);have h2:=sum_leL f g l fun y hy=>h y (List.mem_cons_of_mem _ hy)
  omega
theorem kL_map:∀l:List Val,(l.map fun v=>12 * kV v).sum=12 * kL l
 | []=>rfl
 | v::l=>by rw[List.map_cons,List.sum_cons,kL_map l,kL];omega
theorem kR_map:∀l:List RawD,(l.map fun r=>12 * (1+r.data.size)).sum=12 * (l.length+kR l)
 | []=>rfl
 | v::l=>by rw[List.map_cons,List.sum_cons,kR_map l,kR,List.length_cons];omega
def LenK (f:Int→Val→ByteArray) (t:Int) (v:Val):Prop:=(f t v).size+28≤12 * kV v
theorem kV_eq (v:Val):kV v=10+v.str.size+v.rest.length+kR v.rest+kL v.keys+kL v.items:=by
 obtain ⟨_,_,_,_,_,_,_,_⟩:=v;rw[kV];rfl
theorem zip_le:∀ (ms:List MemD) (vs:List Val) (c:MemD×Val→Nat),vs.length=ms.length→(∀p∈ms.zip vs,c p≤12 * kV p.2)→((ms.zip vs).map c).sum≤12 * kL vs
 | [],[],_,_,_=>Nat.zero_le _
 | [],_::_,_,h,_=>by cases h
 | _::_,[],_,h,_=>by cases h
 | m::ms,v::vs,c,hl,h=>by
  have h1:=h (m,v) (List.mem_cons_self ..);have h2:=zip_le ms vs c (by simpa using hl) fun p hp=>h p (List.mem_cons_of_mem _ hp)
  rw[List.zip_cons_cons,List.map_cons,List.sum_cons,kL];simp only at h1
  omega
theorem zip2_le:∀ (ks vs:List Val) (c:Val×Val→Nat),vs.length=ks.length→(∀p∈ks.zip vs,c p≤12 * kV p.1+12 * kV p.2)→((ks.zip vs).map c).sum≤12 * kL ks+12 * kL vs
 | [],[],_,_,_=>Nat.zero_le _
 | [],_::_,_,h,_=>by cases h
 | _::_,[],_,h,_=>by cases h
 | m::ms,v::vs,c,hl,h=>by
  have h1:=h (m,v) (List.mem_cons_self ..);have h2:=zip2_le ms vs c (by simpa using hl) fun p hp=>h p (List.mem_cons_of_mem _ hp)
  rw[List.zip_cons_cons,List.map_cons,List.sum_cons,kL,kL];simp only at h1
  omega
theorem val_kv {s:List TyD} (hN:∀t,NamOk (tyAt s t)) (hI:∀t,IdsT (tyAt s t)) (hK:∀t,0≤t→t<(s.length:Int)→1≤(tyAt s t).kind∧(tyAt s t).kind≤9):∀ (n:Nat) (t:Int) (v:Val),fitF s false n t v=true→LenK (litF s n) t v
 | 0,_,_,h=>by cases h
 | n+1,t,v,hfit=>by
  obtain ⟨h1,h2,hk,hp,hf⟩:=fit_parts hfit;have hkr:=hK t h1 h2;have ih:=val_kv hN hI hK n;have hx:=hN t;have hy:=hI t;unfold LenK;rw[litF,kV_eq];generalize tyAt s t=x at *;have hc:x.kind=1∨x.kind=2∨x.kind=3∨x.kind=4∨x.kind=5∨x.kind=6∨x.kind=7∨x.kind=8∨x.kind=9:=by omega
  unfold fitB at hf
  rcases hc with hc|hc|hc|hc|hc|hc|hc|hc|hc
  ·unfold litB
   rw[if_pos hc];have:(if v.bool then (⟨#[116,114,117,101]⟩:ByteArray) else ⟨#[102,97,108,115,101]⟩).size≤5:=by split <;> decide
   omega
  ·rw[if_pos hc] at hf
   simp only[Bool.and_eq_true,decide_eq_true_eq] at hf;unfold litB;rw[if_neg (by omega),if_pos hc]
   have g3:=hx.low;have g4:=hx.high;have:=decB_le (n:=v.int) ⟨by omega,by omega⟩
   omega
  ·unfold litB
   rw[if_neg (by omega),if_neg (by omega),if_pos hc]
   have:=quD_le v.str
   omega
  ·rw[if_neg (by omega),if_neg (by omega),if_pos hc] at hf
   unfold litB;rw[if_neg (by omega),if_neg (by omega),if_neg (by omega),if_pos hc]
   cases hm:x.syms.find? fun y=>decide (y.id=v.id) with
   | some y =>
    have:=name_size (hx.syms y (List.mem_of_find?_eq_some hm));simp only
    omega
   | none =>
    have hno:(x.syms.any fun y=>decide (y.id=v.id))=false:=by
     rw[List.any_eq_false]
     intro y hy hd
     exact (List.find?_eq_none.1 hm y hy) hd
    rw[hno,Bool.false_or,Bool.and_eq_true] at hf;have:=id_size (free_iff.1 hf.2);simp only;rw[ByteArray.size_append,one_size]
    omega
  ·rw[if_neg (by omega),if_neg (by omega),if_neg (by omega),if_pos hc] at hf
   simp only[Bool.and_eq_true] at hf;unfold litB;rw[if_neg (by omega),if_neg (by omega),if_neg (by omega),if_neg (by omega),if_pos hc]
   rw[ByteArray.size_append,ByteArray.size_append,one_size,one_size];have hl:=of_decide_eq_true hf.1.1.1;have h3:=cat_le ((x.mems.zip v.items).map (memP (litF s n))++v.rest.map rawP);rw[List.map_append,List.sum_append,List.map_map,List.map_map] at h3;have h4:=zip_le x.mems v.items ((fun b:ByteArray=>b.size+2)∘memP (litF s n)) hl fun p hp=>by
    obtain ⟨i,hi,he⟩:=List.mem_iff_getElem.1 hp;rw[List.getElem_zip] at he;rw[List.length_zip] at hi;subst he;have:=ih _ _ (okZips _ _ hf.2 i (by omega) (by omega))
    have hn:=name_size (hx.mems _ (List.getElem_mem (show i<x.mems.length by omega)))
    unfold LenK at this
    show (memP (litF s n) _).size+2≤_
    unfold memP;rw[ByteArray.size_append,ByteArray.size_append]
    show _+2+_+2≤_
    simp only
    omega
   have h5:=sum_leL ((fun b:ByteArray=>b.size+2)∘rawP) (fun r=>12 * (1+r.data.size)) v.rest fun r hr=>by
    have h6:=id_size (free_iff.1 (okRaws hf.1.2 r hr));have h7:=quD_le r.data
    show (rawP r).size+2≤_
    unfold rawP;rw[ByteArray.size_append,ByteArray.size_append]
    show _+2+_+2≤_
    omega
   rw[kR_map] at h5
   omega
  ·rw[if_neg (by omega),if_neg (by omega),if_neg (by omega),if_neg (by omega),if_pos hc] at hf
   cases hm:x.mems.find? fun m=>decide (m.id=v.id) with
   | some m =>
    rw[hm] at hf;simp only[Bool.and_eq_true] at hf;obtain ⟨w,hw⟩:=List.length_eq_one_iff.1 (of_decide_eq_true hf.1.1);rw[hw] at hf;have hw2:fitF s false n m.type w=true:=by simpa using hf.2
    have:=ih _ _ hw2;have hn:=name_size (hx.mems m (List.mem_of_find?_eq_some hm));unfold LenK at this;have hkl:kL v.items=kV w:=by rw[hw,kL,kL];rfl
    rw[lit6s _ hc hm hw,ByteArray.size_append,ByteArray.size_append,ByteArray.size_append,one_size,one_size]
    omega
   | none =>
    rw[hm] at hf;simp only[Bool.and_eq_true] at hf;obtain ⟨w,hw⟩:=List.length_eq_one_iff.1 (of_decide_eq_true hf.1.2);have h6:=id_size (free_iff.1 hf.1.1.1.2);have h7:=quD_le w.data;have hkr:kR v.rest=w.data.size:=by rw[hw,kR,kR];rfl
    rw[lit6n _ hc hm hw,ByteArray.size_append,ByteArray.size_append,ByteArray.size_append,ByteArray.size_append,one_size,one_size,one_size]
    omega
  ·rw[if_neg (by omega),if_neg (by omega),if_neg (by omega),if_neg (by omega),if_neg (by omega),if_pos hc] at hf
   simp only[Bool.and_eq_true,List.all_eq_true] at hf;unfold litB;rw[if_neg (by omega),if_neg (by omega),if_neg (by omega),if_neg (by omega),if_neg (by omega),if_neg (by omega),if_pos hc]
   rw[ByteArray.size_append,ByteArray.size_append,one_size,one_size];have h3:=cat_le (v.items.map (litF s n x.elem));rw[List.map_map] at h3;have h4:=sum_leL ((fun b:ByteArray=>b.size+2)∘litF s n x.elem) (fun w=>12 * kV w) v.items fun w hw=>by
    have:=ih _ _ (hf.2 w hw);unfold LenK at this
    show (litF s n x.elem w).size+2≤_
    omega
   rw[kL_map] at h4
   omega
  ·rw[if_neg (by omega),if_neg (by omega),if_neg (by omega),if_neg (by omega),if_neg (by omega),if_neg (by omega),if_pos hc] at hf
   simp only[Bool.and_eq_true,List.all_eq_true] at hf;have hl:v.items.length=v.keys.length:=of_decide_eq_true hf.1.1.1.2;rw[lit8k _ hc,ByteArray.size_append,ByteArray.size_append,ByteArray.size_append,one_size,one_size];have h3:=cat_le ((v.keys.zip v.items).map (entP (litF s n x.key) (litF s n x.elem)));rw[List.map_map] at h3
   have h4:=zip2_le v.keys v.items ((fun b:ByteArray=>b.size+2)∘entP (litF s n x.key) (litF s n x.elem)) hl fun p hp=>by
    obtain ⟨p1,p2⟩:=p;have hm:=List.of_mem_zip hp;have g1:=ih _ _ (hf.1.1.2 p1 hm.1);have g2:=ih _ _ (hf.2 p2 hm.2);unfold LenK at g1 g2
    show (entP _ _ _).size+2≤_
    unfold entP;rw[ByteArray.size_append,ByteArray.size_append]
    show _+4+_+2≤_
    simp only
    omega
   have h5:(if v.keys.length=0 then (⟨#[45,62]⟩:ByteArray) else ⟨#[]⟩).size≤2:=by split <;> decide
   omega
  ·rw[if_neg (by omega),if_neg (by omega),if_neg (by omega),if_neg (by omega),if_neg (by omega),if_neg (by omega),if_neg (by omega),if_pos hc] at hf
   simp only[Bool.and_eq_true,List.all_eq_true] at hf
   cases hi:v.items with
   | nil =>
    rw[lit9n _ hc hi]
    show 4+28≤_
    omega
   | cons w q =>
    have:=ih _ _ (hf.2 w (by rw[hi];exact List.mem_cons_self ..))
    unfold LenK at this;rw[lit9s _ hc hi,ByteArray.size_append,ByteArray.size_append,one_size,kL]
    show 5+_+1+28≤_
    omega
def stepA (x:TyD) (v:Val) (p:Int):Option (Nat×Int) :=
 if x.kind=5 then (x.mems.findIdx? fun m=>decide (m.id=p)).map fun k=>(k,(x.mems.getD k ⟨0,⟨#[]⟩,0,false,false,zeroV⟩).type)
 else if x.kind=6 then (if p=v.id then (x.mems.find? fun m=>decide (m.id=p)).map fun m=>(0,m.type) else none)
 else if 0≤p then some (p.toNat,x.elem) else none
def atV (s:List TyD):Int→Val→List Int→Option (Val×Int)
 | t,v,[]=>some (v,t)
 | t,v,p::r=>match stepA (tyAt s t) v p with
  | none=>none
  | some (k,u)=>match v.items[k]? with
   | none=>none
   | some w=>atV s u w r
def pathT (s:List TyD):Int→List Int→ByteArray
 | _,[]=>⟨#[]⟩
 | t,p::r=>match (tyAt s t).mems.find? fun m=>decide (m.id=p) with
  | some m=>⟨#[46]⟩++m.name++pathT s m.type r
  | none=>⟨#[91]⟩++decB p++⟨#[93]⟩++pathT s (tyAt s t).elem r
structure MemK (s:List TyD):Prop where
 no:∀t,(tyAt s t).kind≠5→(tyAt s t).kind≠6→(tyAt s t).mems=[]
theorem part_size (v:Val) {y:Val} (hy:y∈v.keys∨y∈v.items):SizeOf.sizeOf y<SizeOf.sizeOf v:=by
 obtain ⟨k,b,i,st,id,ks,is,r⟩:=v;simp only[Val.mk.sizeOf_spec]
 rcases hy with h|h
 ·have:=List.sizeOf_lt_of_mem (show y∈ks from h);omega
 ·have:=List.sizeOf_lt_of_mem (show y∈is from h);omega
theorem pos_size (v:Val):0<SizeOf.sizeOf v:=by
 obtain ⟨k,b,i,st,id,ks,is,r⟩:=v;simp only[Val.mk.sizeOf_spec]
 omega
theorem fitB_mono {pl:Bool} {f g:Int→Val→Bool} {x:TyD} {v:Val} (h:∀t y,(y∈v.keys∨y∈v.items)→f t y=true→g t y=true) (hf:fitB f pl x v=true):fitB g pl x v=true:=by
 unfold fitB at hf ⊢
 by_cases h2:x.kind=2
 ·rw[if_pos h2] at hf ⊢;exact hf
 rw[if_neg h2] at hf ⊢
 by_cases h3:x.kind=3
 ·rw[if_pos h3] at hf ⊢;exact hf
 rw[if_neg h3] at hf ⊢
 by_cases h4:x.kind=4
 ·rw[if_pos h4] at hf ⊢;exact hf
 rw[if_neg h4] at hf ⊢
 by_cases h5:x.kind=5
 ·rw[if_pos h5] at hf ⊢
  rw[Bool.and_eq_true,List.all_eq_true] at hf ⊢;refine ⟨hf.1,fun p hp=>h _ _ (Or.inr ?_) (hf.2 p hp)⟩
  obtain ⟨a,b⟩:=p;exact (List.of_mem_zip hp).2
 rw[if_neg h5] at hf ⊢
 by_cases h6:x.kind=6
 ·rw[if_pos h6] at hf ⊢
  cases hm:x.mems.find? fun m=>decide (m.id=v.id) with
  | none=>rw[hm] at hf;exact hf
  | some m =>
   rw[hm] at hf;simp only[Bool.and_eq_true,List.all_eq_true] at hf ⊢;exact ⟨hf.1,fun y hy=>h _ _ (Or.inr hy) (hf.2 y hy)⟩
 rw[if_neg h6] at hf ⊢
 by_cases h7:x.kind=7
 ·rw[if_pos h7] at hf ⊢
  simp only[Bool.and_eq_true,List.all_eq_true] at hf ⊢;exact ⟨hf.1,fun y hy=>h _ _ (Or.inr hy) (hf.2 y hy)⟩
 rw[if_neg h7] at hf ⊢
 by_cases h8:x.kind=8
 ·rw[if_pos h8] at hf ⊢
  simp only[Bool.and_eq_true,List.all_eq_true] at hf ⊢;exact ⟨⟨⟨hf.1.1.1,fun y hy=>h _ _ (Or.inl hy) (hf.1.1.2 y hy)⟩,hf.1.2⟩,fun y hy=>h _ _ (Or.inr hy) (hf.2 y hy)⟩
 rw[if_neg h8] at hf ⊢
 by_cases h9:x.kind=9
 ·rw[if_pos h9] at hf ⊢
  simp only[Bool.and_eq_true,List.all_eq_true] at hf ⊢;exact ⟨hf.1,fun y hy=>h _ _ (Or.inr hy) (hf.2 y hy)⟩
 rw[if_neg h9]
theorem fitF_more {s:List TyD} {pl:Bool}:∀ (n:Nat) (t:Int) (v:Val),fitF s pl n t v=true→fitF s pl (n+1) t v=true
 | 0,_,_,h=>by cases h
 | n+1,t,v,h=>by
  rw[fitF] at h ⊢
  split at h
  ·cases h
  ·rename_i h1
   rw[if_neg h1]
   split at h
   ·cases h
   ·rename_i h2
    rw[if_neg h2];exact fitB_mono (fun u y _ hy=>fitF_more n u y hy) h
theorem fitF_up {s:List TyD} {pl:Bool} {t:Int} {v:Val} {n:Nat} (h:fitF s pl n t v=true):∀m,n≤m→fitF s pl m t v=true:=fun m hm=>by
 induction m with
 | zero=>rw[Nat.le_zero.1 hm] at h;exact h
 | succ m ih =>
  rcases Nat.lt_or_ge m n with h1|h1
  ·rw[show m+1=n by omega];exact h
  ·exact fitF_more m t v (ih h1)
theorem fitF_size {s:List TyD} {pl:Bool}:∀ (n:Nat) (t:Int) (v:Val),fitF s pl n t v=true→fitF s pl (SizeOf.sizeOf v) t v=true
 | 0,_,_,h=>by cases h
 | n+1,t,v,h=>by
  obtain ⟨k,hk⟩:∃k,SizeOf.sizeOf v=k+1:=⟨SizeOf.sizeOf v - 1,by have:=pos_size v;omega⟩
  rw[hk];rw[fitF] at h ⊢
  split at h
  ·cases h
  ·rename_i h1
   rw[if_neg h1]
   split at h
   ·cases h
   ·rename_i h2
    rw[if_neg h2];exact fitB_mono (fun u y hy hf=>fitF_up (fitF_size n u y hf) k (by have:=part_size v hy;omega)) h
theorem okV_fit {s:List TyD} {t:Int} {v:Val} (h:okV s t v):fitV s false t v=true:=by
 obtain ⟨n,h⟩:=h;exact fitF_size n t v h
open Go.RowKit
def BarePost (v:Val) (w:World) (e:Ending) (w':World):Prop:=∃B1 d1 B2 d2 B3 d3,e = .returned ((bareD v).v B1 d1 B2 d2 B3 d3)∧Below w.heap.size w w'
theorem below_nwV (w:World) (o1 o2 o3:Obj):Below w.heap.size w (((w.alloc o1).alloc o2).alloc o3):=zB (zB (zD w o1) (zD _ o2)) (zD _ o3)
theorem bare_bool (v:Val) (hk:v.kind=1) (A1:zo) (c1:Nat) (A2:zo) (c2:Nat) (A3:zo) (c3:Nat) (w:World) :
  Calls Tryz.prog 146 #[v.v A1 c1 A2 c2 A3 c3] w (BarePost v w):=by
 have HB:Hid (bareD v = .mk 1 v.bool 0 ⟨#[]⟩ 0 [] [] []):=by show _=_;unfold bareD;simp[hk]
 have HBL:=zh (fun o1 o2 o3=>below_nwV w o1 o2 o3)
 go_enter Tryz.func146,Tryz.ntmps146
 go_wp2
 refine bodyPost_ret (v:=Val.v (.mk 1 v.bool 0 ⟨#[]⟩ 0 [] [] []) none 0 none 0 none 0) (by simp only[results,Tryz.results146];go_simp;exact ⟨rfl,rfl,rfl,rfl,rfl,rfl,rfl,rfl⟩) rfl ⟨_,_,_,_,_,_,by rw[HB.out],HBL.out _ _ _⟩
theorem bare_int (v:Val) (hk:v.kind=2) (A1:zo) (c1:Nat) (A2:zo) (c2:Nat) (A3:zo) (c3:Nat) (w:World) :
  Calls Tryz.prog 146 #[v.v A1 c1 A2 c2 A3 c3] w (BarePost v w):=by
 have HB:Hid (bareD v = .mk 2 false v.int ⟨#[]⟩ 0 [] [] []):=by show _=_;unfold bareD;simp[hk]
 have HBL:=zh (fun o1 o2 o3=>below_nwV w o1 o2 o3)
 go_enter Tryz.func146,Tryz.ntmps146
 go_wp2
 refine bodyPost_ret (v:=Val.v (.mk 2 false v.int ⟨#[]⟩ 0 [] [] []) none 0 none 0 none 0) (by simp only[results,Tryz.results146];go_simp;exact ⟨rfl,rfl,rfl,rfl,rfl,rfl,rfl,rfl⟩) rfl ⟨_,_,_,_,_,_,by rw[HB.out],HBL.out _ _ _⟩
theorem bare_str (v:Val) (hk:v.kind=3) (A1:zo) (c1:Nat) (A2:zo) (c2:Nat) (A3:zo) (c3:Nat) (w:World) :
  Calls Tryz.prog 146 #[v.v A1 c1 A2 c2 A3 c3] w (BarePost v w):=by
 have HB:Hid (bareD v = .mk 3 false 0 v.str 0 [] [] []):=by show _=_;unfold bareD;simp[hk]
 have HBL:=zh (fun o1 o2 o3=>below_nwV w o1 o2 o3)
 go_enter Tryz.func146,Tryz.ntmps146
 go_wp2
 refine bodyPost_ret (v:=Val.v (.mk 3 false 0 v.str 0 [] [] []) none 0 none 0 none 0) (by simp only[results,Tryz.results146];go_simp;exact ⟨rfl,rfl,rfl,rfl,rfl,rfl,rfl,rfl⟩) rfl ⟨_,_,_,_,_,_,by rw[HB.out],HBL.out _ _ _⟩
theorem bare_enum (v:Val) (hk:v.kind=4) (A1:zo) (c1:Nat) (A2:zo) (c2:Nat) (A3:zo) (c3:Nat) (w:World) :
  Calls Tryz.prog 146 #[v.v A1 c1 A2 c2 A3 c3] w (BarePost v w):=by
 have HB:Hid (bareD v = .mk 4 false 0 ⟨#[]⟩ v.id [] [] []):=by show _=_;unfold bareD;simp[hk]
 have HBL:=zh (fun o1 o2 o3=>below_nwV w o1 o2 o3)
 go_enter Tryz.func146,Tryz.ntmps146
 go_wp2
 refine bodyPost_ret (v:=Val.v (.mk 4 false 0 ⟨#[]⟩ v.id [] [] []) none 0 none 0 none 0) (by simp only[results,Tryz.results146];go_simp;exact ⟨rfl,rfl,rfl,rfl,rfl,rfl,rfl,rfl⟩) rfl ⟨_,_,_,_,_,_,by rw[HB.out],HBL.out _ _ _⟩
theorem bare_list (v:Val) (hk:v.kind=7) (A1:zo) (c1:Nat) (A2:zo) (c2:Nat) (A3:zo) (c3:Nat) (w:World) :
  Calls Tryz.prog 146 #[v.v A1 c1 A2 c2 A3 c3] w (BarePost v w):=by
 have HB:Hid (bareD v = .mk 7 false 0 ⟨#[]⟩ 0 [] v.items []):=by show _=_;unfold bareD;simp[hk]
 have HBL:=zh (fun o1 o2 o3=>below_nwV w o1 o2 o3)
 go_enter Tryz.func146,Tryz.ntmps146
 go_wp2
 refine bodyPost_ret (v:=Val.v (.mk 7 false 0 ⟨#[]⟩ 0 [] v.items []) none 0 A2 c2 none 0) (by simp only[results,Tryz.results146];go_simp;exact ⟨rfl,rfl,rfl,rfl,rfl,rfl,rfl,rfl⟩) rfl ⟨_,_,_,_,_,_,by rw[HB.out],HBL.out _ _ _⟩
theorem bare_opt (v:Val) (hk:v.kind=9) (A1:zo) (c1:Nat) (A2:zo) (c2:Nat) (A3:zo) (c3:Nat) (w:World) :
  Calls Tryz.prog 146 #[v.v A1 c1 A2 c2 A3 c3] w (BarePost v w):=by
 have HB:Hid (bareD v = .mk 9 false 0 ⟨#[]⟩ 0 [] v.items []):=by show _=_;unfold bareD;simp[hk]
 have HBL:=zh (fun o1 o2 o3=>below_nwV w o1 o2 o3)
 go_enter Tryz.func146,Tryz.ntmps146
 go_wp2
 refine bodyPost_ret (v:=Val.v (.mk 9 false 0 ⟨#[]⟩ 0 [] v.items []) none 0 A2 c2 none 0) (by simp only[results,Tryz.results146];go_simp;exact ⟨rfl,rfl,rfl,rfl,rfl,rfl,rfl,rfl⟩) rfl ⟨_,_,_,_,_,_,by rw[HB.out],HBL.out _ _ _⟩
theorem bare_rec (v:Val) (hk:v.kind=5) (A1:zo) (c1:Nat) (A2:zo) (c2:Nat) (A3:zo) (c3:Nat) (w:World) :
  Calls Tryz.prog 146 #[v.v A1 c1 A2 c2 A3 c3] w (BarePost v w):=by
 have HB:Hid (bareD v = .mk 5 false 0 ⟨#[]⟩ 0 [] v.items v.rest):=by show _=_;unfold bareD;simp[hk]
 have HBL:=zh (fun o1 o2 o3=>zC (below_nwV w o1 o2 o3) 1)
 go_enter Tryz.func146,Tryz.ntmps146
 go_upto_region 12 with fail
 refine wp_region_held_drew (S:=(fun w'=>(w'.cell? ⟨w.heap.size,6,none⟩=some (.slice A2 v.items.length c2)∧w'.cell? ⟨w.heap.size,7,none⟩=some (.slice A3 v.rest.length c3)))) (by kernel_rfl) ?_ (fun zH_=>?_)
 ·(try dsimp only);go_simp
 refine tL 0 ?_;refine tL 1 ?_;refine tL 2 ?_;refine tL 3 ?_;refine tL 4 ?_;refine tR 5 (fun K hK=>?_)
 go_simp
 refine hK.out _ _ ?_ (fun zH_=>?_)
 ·(try dsimp only);go_simp
 clear hK K;try simp only[ps]
 refine tL 6 ?_;refine tR 7 (fun K hK=>?_)
 go_simp
 refine hK.out _ _ ?_ (fun zH_=>?_)
 ·(try dsimp only);go_simp
 clear hK K;refine wpAnyH_done (by kernel_rfl) ?_ _
 clear zH_;go_wp2;refine bodyPost_ret (v:=Val.v (.mk 5 false 0 ⟨#[]⟩ 0 [] v.items v.rest) none 0 A2 c2 A3 c3) (by simp only[results,Tryz.results146];go_simp;exact ⟨rfl,rfl,rfl,rfl,rfl,rfl,rfl,rfl⟩) rfl ⟨_,_,_,_,_,_,by rw[HB.out],HBL.out _ _ _⟩
theorem bare_uni (v:Val) (hk:v.kind=6) (A1:zo) (c1:Nat) (A2:zo) (c2:Nat) (A3:zo) (c3:Nat) (w:World) :
  Calls Tryz.prog 146 #[v.v A1 c1 A2 c2 A3 c3] w (BarePost v w):=by
 have HB:Hid (bareD v = .mk 6 false 0 ⟨#[]⟩ v.id [] v.items v.rest):=by show _=_;unfold bareD;simp[hk]
 have HBL:=zh (fun o1 o2 o3=>zC (below_nwV w o1 o2 o3) 1)
 go_enter Tryz.func146,Tryz.ntmps146
 go_upto_region 14 with fail
 refine wp_region_held_drew (S:=(fun w'=>(w'.cell? ⟨w.heap.size,4,none⟩=some (.int .i64 v.id)∧w'.cell? ⟨w.heap.size,6,none⟩=some (.slice A2 v.items.length c2)∧w'.cell? ⟨w.heap.size,7,none⟩=some (.slice A3 v.rest.length c3)))) (by kernel_rfl) ?_ (fun zH_=>?_)
 ·(try dsimp only);go_simp
 refine tL 0 ?_;refine tL 1 ?_;refine tL 2 ?_;refine tL 3 ?_;refine tL 4 ?_;refine tL 5 ?_;try simp only[ps]
 refine tL 6 ?_;refine tR 7 (fun K hK=>?_)
 go_simp
 refine hK.out _ _ ?_ (fun zH_=>?_)
 ·(try dsimp only);go_simp
 clear hK K;refine tL 8 ?_;refine tR 9 (fun K hK=>?_)
 go_simp
 refine hK.out _ _ ?_ (fun zH_=>?_)
 ·(try dsimp only);go_simp
 clear hK K;refine tL 10 ?_;refine tR 11 (fun K hK=>?_)
 go_simp
 refine hK.out _ _ ?_ (fun zH_=>?_)
 ·(try dsimp only);go_simp
 clear hK K;try simp only[ps]
 refine wpAnyH_done (by kernel_rfl) ?_ _
 clear zH_;go_wp2;refine bodyPost_ret (v:=Val.v (.mk 6 false 0 ⟨#[]⟩ v.id [] v.items v.rest) none 0 A2 c2 A3 c3) (by simp only[results,Tryz.results146];go_simp;exact ⟨rfl,rfl,rfl,rfl,rfl,rfl,rfl,rfl⟩) rfl ⟨_,_,_,_,_,_,by rw[HB.out],HBL.out _ _ _⟩
theorem bare_map (v:Val) (hk:v.kind=8) (A1:zo) (c1:Nat) (A2:zo) (c2:Nat) (A3:zo) (c3:Nat) (w:World) :
  Calls Tryz.prog 146 #[v.v A1 c1 A2 c2 A3 c3] w (BarePost v w):=by
 have HB:Hid (bareD v = .mk 8 false 0 ⟨#[]⟩ 0 v.keys v.items []):=by show _=_;unfold bareD;simp[hk]
 have HBL:=zh (fun o1 o2 o3=>zC (below_nwV w o1 o2 o3) 1)
 go_enter Tryz.func146,Tryz.ntmps146
 go_upto_region 16 with fail
 refine wp_region_held_drew (S:=(fun w'=>(w'.cell? ⟨w.heap.size,5,none⟩=some (.slice A1 v.keys.length c1)∧w'.cell? ⟨w.heap.size,6,none⟩=some (.slice A2 v.items.length c2)))) (by kernel_rfl) ?_ (fun zH_=>?_)
 ·(try dsimp only);go_simp
 refine tL 0 ?_;refine tL 1 ?_;refine tL 2 ?_;refine tL 3 ?_;refine tL 4 ?_;refine tR 5 (fun K hK=>?_)
 go_simp
 refine hK.out _ _ ?_ (fun zH_=>?_)
 ·(try dsimp only);go_simp
 clear hK K;try simp only[ps]
 refine tL 6 ?_;refine tR 7 (fun K hK=>?_)
 go_simp
 refine hK.out _ _ ?_ (fun zH_=>?_)
 ·(try dsimp only);go_simp
 clear hK K;refine wpAnyH_done (by kernel_rfl) ?_ _
 clear zH_;go_wp2;refine bodyPost_ret (v:=Val.v (.mk 8 false 0 ⟨#[]⟩ 0 v.keys v.items []) A1 c1 A2 c2 none 0) (by simp only[results,Tryz.results146];go_simp;exact ⟨rfl,rfl,rfl,rfl,rfl,rfl,rfl,rfl⟩) rfl ⟨_,_,_,_,_,_,by rw[HB.out],HBL.out _ _ _⟩
theorem bare_any (v:Val) (h:1≤v.kind∧v.kind≤9) (A1:zo) (c1:Nat) (A2:zo) (c2:Nat) (A3:zo) (c3:Nat) (w:World) :
  Calls Tryz.prog 146 #[v.v A1 c1 A2 c2 A3 c3] w (BarePost v w):=by
 have hk:v.kind=1∨v.kind=2∨v.kind=3∨v.kind=4∨v.kind=5∨v.kind=6∨v.kind=7∨v.kind=8∨v.kind=9:=by omega
 rcases hk with h|h|h|h|h|h|h|h|h
 ·exact bare_bool v h A1 c1 A2 c2 A3 c3 w
 ·exact bare_int v h A1 c1 A2 c2 A3 c3 w
 ·exact bare_str v h A1 c1 A2 c2 A3 c3 w
 ·exact bare_enum v h A1 c1 A2 c2 A3 c3 w
 ·exact bare_rec v h A1 c1 A2 c2 A3 c3 w
 ·exact bare_uni v h A1 c1 A2 c2 A3 c3 w
 ·exact bare_list v h A1 c1 A2 c2 A3 c3 w
 ·exact bare_map v h A1 c1 A2 c2 A3 c3 w
 ·exact bare_opt v h A1 c1 A2 c2 A3 c3 w
open Go.RowKit
theorem bytes_beq (a b:ByteArray):(a.toList==b.toList)=decide (a=b):=by
 rw[Lib.toList_data,Lib.toList_data]
 by_cases h:a=b
 ·subst h;simp
 ·have:¬ a.data.toList=b.data.toList:=fun e=>h (Go.WideShapes.bytes_inj e)
  rw[decide_eq_false h];simpa using this
section
variable {P:Program} (w:World)
end
theorem Lim.lt {b n:Nat} (h:Lim b n) (hb:0<b):n≤140737488355328:=Nat.le_trans (Nat.le_mul_of_pos_right n hb) h
open Go.RowKit
def SamePost (b:Bool) (w:World) (e:Ending) (w':World):Prop:=e = .returned (.bool b)∧Below w.heap.size w w'
open Go.RowKit
theorem yI (n : Int) (w : World) : Calls Tryz.prog 116 #[.int .u8 n] w fun e w' => e = .returned (.bool (letC n)) ∧ w = w' := by
  by_cases h1 : n = 95
  · subst h1
    go_enter Tryz.func116, Tryz.ntmps116
    go_wp2
    go_ret
    exact ⟨rfl, rfl⟩
  have e1 : (n == 95) = false := by simp [h1]
  by_cases h2 : 97 ≤ n <;> by_cases h3 : n ≤ 122 <;> by_cases h4 : 65 ≤ n <;> by_cases h5 : n ≤ 90
  all_goals first
    | (exfalso; omega)
    | (have HL := zh (show letC n = _ by unfold letC; simp only [h1, h2, h3, h4, h5]; rfl)
       clear h1
       go_enter Tryz.func116, Tryz.ntmps116
       go_wp2
       go_ret
       exact ⟨by rw [HL.out]; rfl, rfl⟩)
theorem isDigit_any (n : Int) (w : World) : Calls Tryz.prog 117 #[.int .u8 n] w fun e w' => e = .returned (.bool (digI n)) ∧ w = w' := by
  by_cases h2 : 48 ≤ n <;> by_cases h3 : n ≤ 57
  all_goals
    (have HL := zh (show digI n = _ by unfold digI; simp only [h2, h3]; rfl)
     go_enter Tryz.func117, Tryz.ntmps117
     go_wp2
     go_ret
     exact ⟨by rw [HL.out]; rfl, rfl⟩)
open Go.RowKit
theorem bytes_cons {s:ByteArray} (h:0<s.size):s.toList≠[]:=by
 intro e
 rw[Lib.toList_data] at e;have:s.data.toList.length=s.size:=by simp
 rw[e] at this;simp at this;omega
open Go.RowKit
abbrev kS:ByteArray→Value:=Value.string
open Go.RowKit
def MBox (W:World) (b:Nat) (m:MemD) (A1:zo) (c1:Nat) (A2:zo) (c2:Nat) (A3:zo) (c3:Nat):Prop:=W.heap[b]? = some (.cells #[.int .i64 m.id,.string m.name,.int .i64 m.type,.bool m.critical,.bool m.hasDef,.int .i64 m.dflt.kind,.bool m.dflt.bool,.int .i64 m.dflt.int,.string m.dflt.str,.int .i64 m.dflt.id,.slice A1 m.dflt.keys.length c1,.slice A2 m.dflt.items.length c2,.slice A3 m.dflt.rest.length c3] 118 (0,0))
theorem MBox.cell {W:World} {b:Nat} {m:MemD} {A1:zo} {c1:Nat} {A2:zo} {c2:Nat} {A3:zo} {c3:Nat} (h:MBox W b m A1 c1 A2 c2 A3 c3) (j:Nat):W.cell? ⟨b,j,none⟩=(#[.int .i64 m.id,.string m.name,.int .i64 m.type,.bool m.critical,.bool m.hasDef,.int .i64 m.dflt.kind,.bool m.dflt.bool,.int .i64 m.dflt.int,.string m.dflt.str,.int .i64 m.dflt.id,.slice A1 m.dflt.keys.length c1,.slice A2 m.dflt.items.length c2,.slice A3 m.dflt.rest.length c3]:Array Value)[j]? := cell_of_row _ _ _ _ _ _ h
end Go.Proofs.YthkkllmmbefedaaGreatDoor


