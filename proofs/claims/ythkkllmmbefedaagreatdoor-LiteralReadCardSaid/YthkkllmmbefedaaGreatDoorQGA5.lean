/-
  Walks: symbols and members, in package schema (written by gen_sc4.py).
-/
import Derived.Test.YthkkllmmbefedaaGreatDoorQGA4
import Derived.Test.YthkkllmmbefedaaGreatDoorQGA2
import Derived.Test.YthkkllmmbefedaaGreatDoorQGA0
import Derived.Deep.DeepCutAuto
import Derived.Lib.Bytealg
namespace Go.Proofs.YthkkllmmbefedaaGreatDoor
set_option maxHeartbeats 16000000
set_option maxRecDepth 100000
theorem YD:∀ (L:List (Int×ByteArray)) (b:Int) (K:List ByteArray),Nb b K L=true ->
  (∀x∈L,b<x.1/\1<=x.1/\x.1<=1000/\CV x.2=true/\K6 x.2 K=false)/\(L.map (·.1)).Nodup/\(L.map (·.2)).Nodup
 | [],_,_,_=>⟨fun _ h=>(by cases h),List.nodup_nil,List.nodup_nil⟩
 | x::L,b,K,h=>by
  rw[Nb] at h;simp only[AAG,AAY,Bool.not_eq_true'] at h;obtain ⟨⟨⟨⟨⟨h1,h2⟩,h3⟩,h4⟩,h5⟩,h6⟩:=h;obtain ⟨g1,g2,g3⟩:=YD L x.1 (K++[x.2]) h6;have hk:∀y∈L,y.2≠x.2/\K6 y.2 K=false:=fun y hy=>by
   have:=(g1 y hy).2.2.2.2;rw[Qj,Bool.or_eq_false_iff] at this;exact ⟨of_decide_eq_false this.2,this.1⟩
  refine ⟨fun y hy=>?_,?_,?_⟩
  ·rcases AAf.1 hy with rfl|hy
   ·exact ⟨h3,h1,h2,h5,h4⟩
   ·have:=g1 y hy
    exact ⟨by omega,this.2.1,this.2.2.1,this.2.2.2.1,(hk y hy).2⟩
  ·rw[ABB,List.nodup_cons]
   refine ⟨fun hm=>?_,g2⟩
   obtain ⟨y,hy,he⟩:=List.mem_map.1 hm;have:=(g1 y hy).1
   omega
  ·rw[ABB,List.nodup_cons]
   refine ⟨fun hm=>?_,g3⟩
   obtain ⟨y,hy,he⟩:=List.mem_map.1 hm;exact (hk y hy).1 he
theorem Um {L:List (Int×ByteArray)} (h:SL L=true):(∀x∈L,1<=x.1/\x.1<=1000/\CV x.2=true)/\(L.map (·.1)).Nodup/\(L.map (·.2)).Nodup:=by
 unfold SL at h;rw[AAG] at h;obtain ⟨h1,h2,h3⟩:=YD L 0 [] h.1;exact ⟨fun x hx=>⟨(h1 x hx).2.1,(h1 x hx).2.2.1,(h1 x hx).2.2.2.1⟩,h2,h3⟩
theorem Wn {t:AZ} (h:GZ t=true):(t.Ab=[]\/SL (t.Ab.map fun s=>(s.id,s.name))=true)/\(t.AA=[]\/SL (t.AA.map fun m=>(m.id,m.name))=true):=by
 unfold GZ at h;simp only[AAG,AAY] at h;obtain ⟨⟨⟨⟨hk1,hk2⟩,hp⟩,_⟩,hc⟩:=h;unfold Kq at hc;have key:∀u:AZ,t=u->t.Ab=u.Ab/\t.AA=u.AA:=fun u e=>by rw[<-e];exact ⟨rfl,rfl⟩
 by_cases h4:t.kind=4
 ·rw[Pe (by omega),Pe (by omega),AAC h4] at hc
  unfold Fe at hp;rw[Pe (by omega),Pe (by omega),Pe (by omega),AAC h4] at hp
  unfold Xj at hc;rw[AAG] at hc;exact ⟨Or.inr hc.1,Or.inl (key _ hp).2⟩
 ·by_cases h5:t.kind=5
  ·rw[Pe (by omega),Pe (by omega),Pe (by omega),AAC h5] at hc
   unfold Fe at hp;rw[Pe (by omega),Pe (by omega),Pe (by omega),Pe (by omega),AAC h5] at hp
   unfold NV at hc;simp only[AAG] at hc;exact ⟨Or.inl (key _ hp).1,Or.inr hc.1.2⟩
  ·by_cases h6:t.kind=6
   ·rw[Pe (by omega),Pe (by omega),Pe (by omega),Pe (by omega),AAC h6] at hc
    unfold Fe at hp;rw[Pe (by omega),Pe (by omega),Pe (by omega),Pe (by omega),Pe (by omega),AAC h6] at hp
    unfold NV at hc;simp only[AAG] at hc;exact ⟨Or.inl (key _ hp).1,Or.inr hc.1.2⟩
   ·have:(Fe t).Ab=[]/\(Fe t).AA=[]:=by
     unfold Fe;rw[Pe h4,Pe h5,Pe h6]
     repeat' split
     all_goals exact ⟨rfl,rfl⟩
    exact ⟨Or.inl ((key _ hp).1.trans this.1),Or.inl ((key _ hp).2.trans this.2)⟩
theorem RQ (s:List AZ) (t:Int):AR s t=Ar\/AR s t∈s:=by
 unfold AR;rw[AAi]
 cases h:s[t.toNat]? with
 | none=>exact Or.inl rfl
 | some x=>exact Or.inr (AAz h)
theorem bU {s:List AZ} (hv:zQ s=0) (hn:Ca s):YR s:=by
 have hf:∀t,(∀y∈(AR s t).Ab,(1<=y.id/\y.id<=1000)/\CV y.name=true)/\(∀y∈(AR s t).AA,(1<=y.id/\y.id<=1000)/\CV y.name=true) /\
   ((AR s t).Ab.map CB.id).Nodup/\((AR s t).AA.map AY.id).Nodup/\((AR s t).Ab.map CB.name).Nodup/\((AR s t).AA.map AY.name).Nodup:=fun t=>by
  rcases RQ s t with h|h
  ·rw[h]
   exact ⟨fun _ h=>(by cases h),fun _ h=>(by cases h),List.nodup_nil,List.nodup_nil,List.nodup_nil,List.nodup_nil⟩
  ·obtain ⟨h1,h2⟩:=Wn (Dk hv h).1
   generalize AR s t=x at *;have hs:(∀y∈x.Ab,(1<=y.id/\y.id<=1000)/\CV y.name=true)/\(x.Ab.map CB.id).Nodup/\(x.Ab.map CB.name).Nodup:=by
    rcases h1 with h1|h1
    ·rw[h1];exact ⟨fun _ h=>(by cases h),List.nodup_nil,List.nodup_nil⟩
    ·obtain ⟨g1,g2,g3⟩:=Um h1
     rw[List.map_map] at g2 g3;exact ⟨fun y hy=>by
      have:=g1 _ (List.mem_map_of_mem hy);exact ⟨⟨this.1,this.2.1⟩,this.2.2⟩,g2,g3⟩
   have hm:(∀y∈x.AA,(1<=y.id/\y.id<=1000)/\CV y.name=true)/\(x.AA.map AY.id).Nodup/\(x.AA.map AY.name).Nodup:=by
    rcases h2 with h2|h2
    ·rw[h2];exact ⟨fun _ h=>(by cases h),List.nodup_nil,List.nodup_nil⟩
    ·obtain ⟨g1,g2,g3⟩:=Um h2
     rw[List.map_map] at g2 g3;exact ⟨fun y hy=>by
      have:=g1 _ (List.mem_map_of_mem hy);exact ⟨⟨this.1,this.2.1⟩,this.2.2⟩,g2,g3⟩
   exact ⟨hs.1,hm.1,hs.2.1,hm.2.1,hs.2.2,hm.2.2⟩
 refine ⟨fun t=>?_,fun t=>(hf t).2.2.1,fun t=>?_,fun t h0 h1=>?_⟩
 ·obtain ⟨g1,g2,g3,g4,g5,g6⟩:=hf t
  exact ⟨⟨fun y hy=>(g1 y hy).1,fun y hy=>(g2 y hy).1⟩,g4,g5,g6⟩
 ·obtain ⟨g1,g2,_⟩:=hf t
  have hb:-9223372036854775808<=(AR s t).low/\(AR s t).high<=9223372036854775807:=by
   rcases RQ s t with h|h
   ·rw[h];exact ⟨by decide,by decide⟩
   ·exact ⟨(hn _ h).1.1,(hn _ h).2.2⟩
  exact ⟨fun y hy=>(g1 y hy).2,fun y hy=>(g2 y hy).2,hb.1,hb.2⟩
 ·have h:=(Dk hv (GK ⟨h0,h1⟩)).1
  unfold GZ at h;simp only[AAG,AAY] at h;exact ⟨h.1.1.1.1,h.1.1.1.2⟩
variable {s:ByteArray}
theorem ZP (h:CV s=true):s.size<=24:=by
 unfold CV at h;simp only[AAG,AAY] at h;exact h.1.1.2
def Oa (x:AZ) (v:Val) (p:Int):Option (Nat×Int) :=
 if x.kind=5 then (x.AA.findIdx? fun m=>decide (m.id=p)).map fun k=>(k,(x.AA.getD k ⟨0,⟨#[]⟩,0,false,false,zeroV⟩).type)
 else if x.kind=6 then (if p=v.id then (x.AA.find? fun m=>decide (m.id=p)).map fun m=>(0,m.type) else none)
 else if 0<=p then some (p.toNat,x.elem) else none
def IQ (s:List AZ):Int->Val->List Int->Option (Val×Int)
 | t,v,[]=>some (v,t)
 | t,v,p::r=>match Oa (AR s t) v p with
  | none=>none
  | some (k,u)=>match v.items[k]? with
   | none=>none
   | some w=>IQ s u w r
def GQ (s:List AZ):Int->List Int->ByteArray
 | _,[]=>⟨#[]⟩
 | t,p::r=>match (AR s t).AA.find? fun m=>decide (m.id=p) with
  | some m=>⟨#[46]⟩++m.name++GQ s m.type r
  | none=>⟨#[91]⟩++FP p++⟨#[93]⟩++GQ s (AR s t).elem r
structure vH (s:List AZ):Prop where
 no:∀t,(AR s t).kind≠5->(AR s t).kind≠6->(AR s t).AA=[]
theorem ZJ (v:Val) {y:Val} (hy:y∈v.keys\/y∈v.items):SizeOf.sizeOf y<SizeOf.sizeOf v:=by
 obtain ⟨k,b,i,st,id,ks,is,r⟩:=v;simp only[Val.mk.sizeOf_spec]
 rcases hy with h|h
 ·have:=List.sizeOf_lt_of_mem (show y∈ks from h);omega
 ·have:=List.sizeOf_lt_of_mem (show y∈is from h);omega
theorem UN (v:Val):0<SizeOf.sizeOf v:=by
 obtain ⟨k,b,i,st,id,ks,is,r⟩:=v;simp only[Val.mk.sizeOf_spec]
 omega
variable {v:Val}
theorem Qv {pl:Bool} {f g:Int->Val->Bool} {x:AZ} (h:∀t y,(y∈v.keys\/y∈v.items)->f t y=true->g t y=true) (hf:AX f pl x v=true):AX g pl x v=true:=by
 unfold AX at hf ⊢
 by_cases h2:x.kind=2
 ·rw[AAC h2] at hf ⊢;exact hf
 rw[Pe h2] at hf ⊢
 by_cases h3:x.kind=3
 ·rw[AAC h3] at hf ⊢;exact hf
 rw[Pe h3] at hf ⊢
 by_cases h4:x.kind=4
 ·rw[AAC h4] at hf ⊢;exact hf
 rw[Pe h4] at hf ⊢
 by_cases h5:x.kind=5
 ·rw[AAC h5] at hf ⊢
  rw[AAG,AAq] at hf ⊢;refine ⟨hf.1,fun p hp=>h _ _ (Or.inr ?_) (hf.2 p hp)⟩
  obtain ⟨a,b⟩:=p;exact (List.of_mem_zip hp).2
 rw[Pe h5] at hf ⊢
 by_cases h6:x.kind=6
 ·rw[AAC h6] at hf ⊢
  cases hm:x.AA.find? fun m=>decide (m.id=v.id) with
  | none=>rw[hm] at hf;exact hf
  | some m =>
   rw[hm] at hf;simp only[AAG,AAq] at hf ⊢;exact ⟨hf.1,fun y hy=>h _ _ (Or.inr hy) (hf.2 y hy)⟩
 rw[Pe h6] at hf ⊢
 by_cases h7:x.kind=7
 ·rw[AAC h7] at hf ⊢
  simp only[AAG,AAq] at hf ⊢;exact ⟨hf.1,fun y hy=>h _ _ (Or.inr hy) (hf.2 y hy)⟩
 rw[Pe h7] at hf ⊢
 by_cases h8:x.kind=8
 ·rw[AAC h8] at hf ⊢
  simp only[AAG,AAq] at hf ⊢;exact ⟨⟨⟨hf.1.1.1,fun y hy=>h _ _ (Or.inl hy) (hf.1.1.2 y hy)⟩,hf.1.2⟩,fun y hy=>h _ _ (Or.inr hy) (hf.2 y hy)⟩
 rw[Pe h8] at hf ⊢
 by_cases h9:x.kind=9
 ·rw[AAC h9] at hf ⊢
  simp only[AAG,AAq] at hf ⊢;exact ⟨hf.1,fun y hy=>h _ _ (Or.inr hy) (hf.2 y hy)⟩
 rw[Pe h9]
theorem Qu {s:List AZ} {pl:Bool}:∀ (n:Nat) (t:Int) (v:Val),AQ s pl n t v=true->AQ s pl (n+1) t v=true
 | 0,_,_,h=>by cases h
 | n+1,t,v,h=>by
  rw[AQ] at h ⊢
  split at h
  ·cases h
  ·rename_i h1
   rw[Pe h1]
   split at h
   ·cases h
   ·rename_i h2
    rw[Pe h2];exact Qv (fun u y _ hy=>Qu n u y hy) h
theorem lC {s:List AZ} {pl:Bool} {t:Int} {n:Nat} (h:AQ s pl n t v=true):∀m,n<=m->AQ s pl m t v=true:=fun m hm=>by
 induction m with
 | zero=>rw[Nat.le_zero.1 hm] at h;exact h
 | succ m ih =>
  rcases Nat.lt_or_ge m n with h1|h1
  ·rw[show m+1=n by omega];exact h
  ·exact Qu m t v (ih h1)
theorem Es {s:List AZ} {pl:Bool}:∀ (n:Nat) (t:Int) (v:Val),AQ s pl n t v=true->AQ s pl (SizeOf.sizeOf v) t v=true
 | 0,_,_,h=>by cases h
 | n+1,t,v,h=>by
  obtain ⟨k,hk⟩:∃k,SizeOf.sizeOf v=k+1:=⟨SizeOf.sizeOf v - 1,by have:=UN v;omega⟩
  rw[hk];rw[AQ] at h ⊢
  split at h
  ·cases h
  ·rename_i h1
   rw[Pe h1]
   split at h
   ·cases h
   ·rename_i h2
    rw[Pe h2];exact Qv (fun u y hy hf=>lC (Es n u y hf) k (by have:=ZJ v hy;omega)) h
theorem X0 {s:List AZ} {t:Int} (h:okV s t v):CQ s false t v=true:=by
 obtain ⟨n,h⟩:=h;exact Es n t v h
open Go.RowKit
def D8 (v:Val) (w:World) (e:Ending) (w':World):Prop:=∃B1 d1 B2 d2 B3 d3,e = .returned ((Bh v).v B1 d1 B2 d2 B3 d3)/\Below w.heap.size w w'
theorem Dl (w:World) (o1 o2 o3:Obj):Below w.heap.size w (((w.alloc o1).alloc o2).alloc o3):=zB (zB (zD w o1) (zD _ o2)) (zD _ o3)
theorem Z4 (v:Val) (hk:v.kind=1) (A1:zo) (c1:Nat) (A2:zo) (c2:Nat) (A3:zo) (c3:Nat) (w:World) :
  Calls Tryz.prog 146 #[v.v A1 c1 A2 c2 A3 c3] w (D8 v w):=by
 have HB:Hid (Bh v = .mk 1 v.bool 0 ⟨#[]⟩ 0 [] [] []):=by show _=_;unfold Bh;simp[hk]
 have LU:=zh (fun o1 o2 o3=>Dl w o1 o2 o3)
 go_enter Tryz.func146,Tryz.ntmps146
 go_wp2
 refine bodyPost_ret (v:=Val.v (.mk 1 v.bool 0 ⟨#[]⟩ 0 [] [] []) none 0 none 0 none 0) (by simp only[results,Tryz.results146];go_simp;exact ⟨rfl,rfl,rfl,rfl,rfl,rfl,rfl,rfl⟩) rfl ⟨_,_,_,_,_,_,by rw[HB.out],LU.out _ _ _⟩
theorem fu (v:Val) (hk:v.kind=2) (A1:zo) (c1:Nat) (A2:zo) (c2:Nat) (A3:zo) (c3:Nat) (w:World) :
  Calls Tryz.prog 146 #[v.v A1 c1 A2 c2 A3 c3] w (D8 v w):=by
 have HB:Hid (Bh v = .mk 2 false v.int ⟨#[]⟩ 0 [] [] []):=by show _=_;unfold Bh;simp[hk]
 have LU:=zh (fun o1 o2 o3=>Dl w o1 o2 o3)
 go_enter Tryz.func146,Tryz.ntmps146
 go_wp2
 refine bodyPost_ret (v:=Val.v (.mk 2 false v.int ⟨#[]⟩ 0 [] [] []) none 0 none 0 none 0) (by simp only[results,Tryz.results146];go_simp;exact ⟨rfl,rfl,rfl,rfl,rfl,rfl,rfl,rfl⟩) rfl ⟨_,_,_,_,_,_,by rw[HB.out],LU.out _ _ _⟩
theorem fV (v:Val) (hk:v.kind=3) (A1:zo) (c1:Nat) (A2:zo) (c2:Nat) (A3:zo) (c3:Nat) (w:World) :
  Calls Tryz.prog 146 #[v.v A1 c1 A2 c2 A3 c3] w (D8 v w):=by
 have HB:Hid (Bh v = .mk 3 false 0 v.str 0 [] [] []):=by show _=_;unfold Bh;simp[hk]
 have LU:=zh (fun o1 o2 o3=>Dl w o1 o2 o3)
 go_enter Tryz.func146,Tryz.ntmps146
 go_wp2
 refine bodyPost_ret (v:=Val.v (.mk 3 false 0 v.str 0 [] [] []) none 0 none 0 none 0) (by simp only[results,Tryz.results146];go_simp;exact ⟨rfl,rfl,rfl,rfl,rfl,rfl,rfl,rfl⟩) rfl ⟨_,_,_,_,_,_,by rw[HB.out],LU.out _ _ _⟩
theorem Z0 (v:Val) (hk:v.kind=4) (A1:zo) (c1:Nat) (A2:zo) (c2:Nat) (A3:zo) (c3:Nat) (w:World) :
  Calls Tryz.prog 146 #[v.v A1 c1 A2 c2 A3 c3] w (D8 v w):=by
 have HB:Hid (Bh v = .mk 4 false 0 ⟨#[]⟩ v.id [] [] []):=by show _=_;unfold Bh;simp[hk]
 have LU:=zh (fun o1 o2 o3=>Dl w o1 o2 o3)
 go_enter Tryz.func146,Tryz.ntmps146
 go_wp2
 refine bodyPost_ret (v:=Val.v (.mk 4 false 0 ⟨#[]⟩ v.id [] [] []) none 0 none 0 none 0) (by simp only[results,Tryz.results146];go_simp;exact ⟨rfl,rfl,rfl,rfl,rfl,rfl,rfl,rfl⟩) rfl ⟨_,_,_,_,_,_,by rw[HB.out],LU.out _ _ _⟩
theorem Zz (v:Val) (hk:v.kind=7) (A1:zo) (c1:Nat) (A2:zo) (c2:Nat) (A3:zo) (c3:Nat) (w:World) :
  Calls Tryz.prog 146 #[v.v A1 c1 A2 c2 A3 c3] w (D8 v w):=by
 have HB:Hid (Bh v = .mk 7 false 0 ⟨#[]⟩ 0 [] v.items []):=by show _=_;unfold Bh;simp[hk]
 have LU:=zh (fun o1 o2 o3=>Dl w o1 o2 o3)
 go_enter Tryz.func146,Tryz.ntmps146
 go_wp2
 refine bodyPost_ret (v:=Val.v (.mk 7 false 0 ⟨#[]⟩ 0 [] v.items []) none 0 A2 c2 none 0) (by simp only[results,Tryz.results146];go_simp;exact ⟨rfl,rfl,rfl,rfl,rfl,rfl,rfl,rfl⟩) rfl ⟨_,_,_,_,_,_,by rw[HB.out],LU.out _ _ _⟩
theorem fe (v:Val) (hk:v.kind=9) (A1:zo) (c1:Nat) (A2:zo) (c2:Nat) (A3:zo) (c3:Nat) (w:World) :
  Calls Tryz.prog 146 #[v.v A1 c1 A2 c2 A3 c3] w (D8 v w):=by
 have HB:Hid (Bh v = .mk 9 false 0 ⟨#[]⟩ 0 [] v.items []):=by show _=_;unfold Bh;simp[hk]
 have LU:=zh (fun o1 o2 o3=>Dl w o1 o2 o3)
 go_enter Tryz.func146,Tryz.ntmps146
 go_wp2
 refine bodyPost_ret (v:=Val.v (.mk 9 false 0 ⟨#[]⟩ 0 [] v.items []) none 0 A2 c2 none 0) (by simp only[results,Tryz.results146];go_simp;exact ⟨rfl,rfl,rfl,rfl,rfl,rfl,rfl,rfl⟩) rfl ⟨_,_,_,_,_,_,by rw[HB.out],LU.out _ _ _⟩
theorem fZ (v:Val) (hk:v.kind=5) (A1:zo) (c1:Nat) (A2:zo) (c2:Nat) (A3:zo) (c3:Nat) (w:World) :
  Calls Tryz.prog 146 #[v.v A1 c1 A2 c2 A3 c3] w (D8 v w):=by
 have HB:Hid (Bh v = .mk 5 false 0 ⟨#[]⟩ 0 [] v.items v.rest):=by show _=_;unfold Bh;simp[hk]
 have LU:=zh (fun o1 o2 o3=>zC (Dl w o1 o2 o3) 1)
 go_enter Tryz.func146,Tryz.ntmps146
 go_upto_region 12 with fail
 refine wp_region_held_drew (S:=(fun w'=>(w'.cell? ⟨w.heap.size,6,none⟩=some (.slice A2 v.items.length c2)/\w'.cell? ⟨w.heap.size,7,none⟩=some (.slice A3 v.rest.length c3)))) (by kernel_rfl) ?_ (fun AU=>?_)
 ·(try dsimp only);go_simp
 refine tL 0 ?_;refine tL 1 ?_;refine tL 2 ?_;refine tL 3 ?_;refine tL 4 ?_;refine tR 5 (fun K hK=>?_)
 go_simp
 refine hK.out _ _ ?_ (fun AU=>?_)
 ·(try dsimp only);go_simp
 clear hK K;try simp only[ps]
 refine tL 6 ?_;refine tR 7 (fun K hK=>?_)
 go_simp
 refine hK.out _ _ ?_ (fun AU=>?_)
 ·(try dsimp only);go_simp
 clear hK K;refine wpAnyH_done (by kernel_rfl) ?_ _
 clear AU;go_wp2;refine bodyPost_ret (v:=Val.v (.mk 5 false 0 ⟨#[]⟩ 0 [] v.items v.rest) none 0 A2 c2 A3 c3) (by simp only[results,Tryz.results146];go_simp;exact ⟨rfl,rfl,rfl,rfl,rfl,rfl,rfl,rfl⟩) rfl ⟨_,_,_,_,_,_,by rw[HB.out],LU.out _ _ _⟩
theorem fU (v:Val) (hk:v.kind=6) (A1:zo) (c1:Nat) (A2:zo) (c2:Nat) (A3:zo) (c3:Nat) (w:World) :
  Calls Tryz.prog 146 #[v.v A1 c1 A2 c2 A3 c3] w (D8 v w):=by
 have HB:Hid (Bh v = .mk 6 false 0 ⟨#[]⟩ v.id [] v.items v.rest):=by show _=_;unfold Bh;simp[hk]
 have LU:=zh (fun o1 o2 o3=>zC (Dl w o1 o2 o3) 1)
 go_enter Tryz.func146,Tryz.ntmps146
 go_upto_region 14 with fail
 refine wp_region_held_drew (S:=(fun w'=>(w'.cell? ⟨w.heap.size,4,none⟩=some (.int .i64 v.id)/\w'.cell? ⟨w.heap.size,6,none⟩=some (.slice A2 v.items.length c2)/\w'.cell? ⟨w.heap.size,7,none⟩=some (.slice A3 v.rest.length c3)))) (by kernel_rfl) ?_ (fun AU=>?_)
 ·(try dsimp only);go_simp
 refine tL 0 ?_;refine tL 1 ?_;refine tL 2 ?_;refine tL 3 ?_;refine tL 4 ?_;refine tL 5 ?_;try simp only[ps]
 refine tL 6 ?_;refine tR 7 (fun K hK=>?_)
 go_simp
 refine hK.out _ _ ?_ (fun AU=>?_)
 ·(try dsimp only);go_simp
 clear hK K;refine tL 8 ?_;refine tR 9 (fun K hK=>?_)
 go_simp
 refine hK.out _ _ ?_ (fun AU=>?_)
 ·(try dsimp only);go_simp
 clear hK K;refine tL 10 ?_;refine tR 11 (fun K hK=>?_)
 go_simp
 refine hK.out _ _ ?_ (fun AU=>?_)
 ·(try dsimp only);go_simp
 clear hK K;try simp only[ps]
 refine wpAnyH_done (by kernel_rfl) ?_ _
 clear AU;go_wp2;refine bodyPost_ret (v:=Val.v (.mk 6 false 0 ⟨#[]⟩ v.id [] v.items v.rest) none 0 A2 c2 A3 c3) (by simp only[results,Tryz.results146];go_simp;exact ⟨rfl,rfl,rfl,rfl,rfl,rfl,rfl,rfl⟩) rfl ⟨_,_,_,_,_,_,by rw[HB.out],LU.out _ _ _⟩
theorem fo (v:Val) (hk:v.kind=8) (A1:zo) (c1:Nat) (A2:zo) (c2:Nat) (A3:zo) (c3:Nat) (w:World) :
  Calls Tryz.prog 146 #[v.v A1 c1 A2 c2 A3 c3] w (D8 v w):=by
 have HB:Hid (Bh v = .mk 8 false 0 ⟨#[]⟩ 0 v.keys v.items []):=by show _=_;unfold Bh;simp[hk]
 have LU:=zh (fun o1 o2 o3=>zC (Dl w o1 o2 o3) 1)
 go_enter Tryz.func146,Tryz.ntmps146
 go_upto_region 16 with fail
 refine wp_region_held_drew (S:=(fun w'=>(w'.cell? ⟨w.heap.size,5,none⟩=some (.slice A1 v.keys.length c1)/\w'.cell? ⟨w.heap.size,6,none⟩=some (.slice A2 v.items.length c2)))) (by kernel_rfl) ?_ (fun AU=>?_)
 ·(try dsimp only);go_simp
 refine tL 0 ?_;refine tL 1 ?_;refine tL 2 ?_;refine tL 3 ?_;refine tL 4 ?_;refine tR 5 (fun K hK=>?_)
 go_simp
 refine hK.out _ _ ?_ (fun AU=>?_)
 ·(try dsimp only);go_simp
 clear hK K;try simp only[ps]
 refine tL 6 ?_;refine tR 7 (fun K hK=>?_)
 go_simp
 refine hK.out _ _ ?_ (fun AU=>?_)
 ·(try dsimp only);go_simp
 clear hK K;refine wpAnyH_done (by kernel_rfl) ?_ _
 clear AU;go_wp2;refine bodyPost_ret (v:=Val.v (.mk 8 false 0 ⟨#[]⟩ 0 v.keys v.items []) A1 c1 A2 c2 none 0) (by simp only[results,Tryz.results146];go_simp;exact ⟨rfl,rfl,rfl,rfl,rfl,rfl,rfl,rfl⟩) rfl ⟨_,_,_,_,_,_,by rw[HB.out],LU.out _ _ _⟩
theorem fw (v:Val) (h:1<=v.kind/\v.kind<=9) (A1:zo) (c1:Nat) (A2:zo) (c2:Nat) (A3:zo) (c3:Nat) (w:World) :
  Calls Tryz.prog 146 #[v.v A1 c1 A2 c2 A3 c3] w (D8 v w):=by
 have hk:v.kind=1\/v.kind=2\/v.kind=3\/v.kind=4\/v.kind=5\/v.kind=6\/v.kind=7\/v.kind=8\/v.kind=9:=by omega
 rcases hk with h|h|h|h|h|h|h|h|h
 ·exact Z4 v h A1 c1 A2 c2 A3 c3 w
 ·exact fu v h A1 c1 A2 c2 A3 c3 w
 ·exact fV v h A1 c1 A2 c2 A3 c3 w
 ·exact Z0 v h A1 c1 A2 c2 A3 c3 w
 ·exact fZ v h A1 c1 A2 c2 A3 c3 w
 ·exact fU v h A1 c1 A2 c2 A3 c3 w
 ·exact Zz v h A1 c1 A2 c2 A3 c3 w
 ·exact fo v h A1 c1 A2 c2 A3 c3 w
 ·exact fe v h A1 c1 A2 c2 A3 c3 w
open Go.RowKit
theorem bytes_beq (a b:ByteArray):(a.toList==b.toList)=decide (a=b):=by
 rw[Lib.toList_data,Lib.toList_data]
 by_cases h:a=b
 ·subst h;simp
 ·have:¬ a.data.toList=b.data.toList:=fun e=>h (Go.WideShapes.bytes_inj e)
  rw[AAE h];simpa using this
section
variable {P:Program} (w:World)
theorem UQ {P:Program} (w:World) (t:TypeId) (k k':IntKind) (cs:Array Value) (off:Nat) (n:Int) (ht:P.underlying t=some (.int k')) (hc:cs[off]? = some (.int k n)) :
  (part t cs off).run P w = .ok (.int k n) w:=by
 unfold part;simp[go_sem,isAgg,run_underlying ht,hc]
theorem UO {P:Program} (w:World) (t:TypeId) (cs:Array Value) (off:Nat) (n:ByteArray) (ht:P.underlying t=some .string) (hc:cs[off]? = some (.string n)) :
  (part t cs off).run P w = .ok (.string n) w:=by
 unfold part;simp[go_sem,isAgg,run_underlying ht,hc]
theorem lH (d : Nat) (xs ys : Array Value) (f : Field) (fs : List Field) (a b : Int) (k k' : IntKind) (hn : f.name ≠ "_")
  (hx:(part f.type xs f.offset).run P w = .ok (.int k a) w) (hy:(part f.type ys f.offset).run P w = .ok (.int k b) w) (ht:P.underlying f.type=some (.int k')) :
  (Op.eqFields (d+1) xs ys (f::fs)).run P w=if a=b then (Op.eqFields (d+1) xs ys fs).run P w else .ok false w:=by
 simp only[Op.eqFields,AAC hn,Sem.run_bind,hx,hy,Result.andThen_ok,run_equalIn_int w d f.type k k' a b ht]
 by_cases h:a=b
 ·subst h;simp
 ·have:(a==b)=false:=by simpa using h
  simp[this,h]
theorem lG (d : Nat) (xs ys : Array Value) (f : Field) (fs : List Field) (a b : ByteArray) (hn : f.name ≠ "_")
  (hx:(part f.type xs f.offset).run P w = .ok (.string a) w) (hy:(part f.type ys f.offset).run P w = .ok (.string b) w) (ht:P.underlying f.type=some .string) :
  (Op.eqFields (d+1) xs ys (f::fs)).run P w=if a=b then (Op.eqFields (d+1) xs ys fs).run P w else .ok false w:=by
 simp only[Op.eqFields,AAC hn,Sem.run_bind,hx,hy,Result.andThen_ok,run_equalIn_string w d f.type a b ht,bytes_beq]
 by_cases h:a=b
 ·subst h;simp
 ·simp[h]
end
theorem cB:Tryz.prog.underlying 97=some (.struct (Tryz.prog.fieldsOf 97)):=by
 unfold Program.fieldsOf;rw[Tryz.underlying97]
theorem Nq (d:Nat) (a b:Int) (s t:ByteArray) (w:World):(Op.equalIn (d+2) 97 (.agg #[.int .i64 a,.string s]) (.agg #[.int .i64 b,.string t])).run Tryz.prog w = .ok (decide (a=b/\s=t)) w:=by
 rw[run_equalIn_struct w (d+1) 97 _ _ cB (by kernel_rfl)]
 unfold Program.fieldsOf;rw[Tryz.underlying97];simp only;rw[lH w d _ _ _ _ a b .i64 .i64 (by decide) (UQ w _ .i64 .i64 _ _ a Tryz.underlying3 rfl) (UQ w _ .i64 .i64 _ _ b Tryz.underlying3 rfl) Tryz.underlying3,
  lG w d _ _ _ _ s t (by decide) (UO w _ _ _ s Tryz.underlying9 rfl) (UO w _ _ _ t Tryz.underlying9 rfl) Tryz.underlying9]
 by_cases h:a=b <;> by_cases h2:s=t <;> simp[h,h2,Op.eqFields]
theorem NT (a b:Int) (s t:ByteArray) (w:World):(binOp .neq 97 (.agg #[.int .i64 a,.string s]) (.agg #[.int .i64 b,.string t])).run Tryz.prog w = .ok (.bool (!decide (a=b/\s=t))) w:=by
 rw[run_neq_struct,Nq 9998];rfl
variable {k:Nat}
theorem OZ {α:Type} {l m:List α} (hl:k<l.length) (hm:k<m.length) (h:l.take k=m.take k) (he:l[k]=m[k]):l.take (k+1)=m.take (k+1):=by
 rw[ABD hl,ABD hm,h,he]
theorem OY {α:Type} [DecidableEq α] {l m:List α} (hl:k<l.length) (hm:k<m.length) (he:¬ l[k]=m[k]):decide (l=m)=false :=
 AAE fun e=>he (by subst e;rfl)
theorem Td {α:Type} [DecidableEq α] {l m:List α} (hk:¬ k<l.length) (hlen:l.length=m.length) (h:l.take k=m.take k):decide (l=m)=true :=
 AAM (by rwa [List.take_of_length_le (by omega),List.take_of_length_le (by omega)] at h)
theorem Ac.ext_iff' (x y:Ac):(x.id=y.id/\x.data=y.data)↔x=y:=by
 cases x;cases y;simp
theorem CB.ext_iff' (x y:CB):(x.id=y.id/\x.name=y.name)↔x=y:=by
 cases x;cases y;simp
theorem D9.lt {b n:Nat} (h:D9 b n) (hb:0<b):n<=140737488355328:=Nat.le_trans (Nat.le_mul_of_pos_right n hb) h
open Go.RowKit
theorem Val.ext_iff' (x y:Val):x=y↔(x.kind=y.kind/\x.bool=y.bool/\x.int=y.int/\x.str=y.str/\x.id=y.id/\x.rest=y.rest/\x.keys=y.keys/\x.items=y.items):=by
 obtain ⟨k,b,i,s,d,ks,is,r⟩:=x;obtain ⟨k',b',i',s',d',ks',is',r'⟩:=y;simp only[Val.mk.injEq,Val.kind,Val.bool,Val.int,Val.str,Val.id,Val.rest,Val.keys,Val.items]
 constructor
 ·rintro ⟨a1,a2,a3,a4,a5,a6,a7,a8⟩;exact ⟨a1,a2,a3,a4,a5,a8,a6,a7⟩
 ·rintro ⟨a1,a2,a3,a4,a5,a8,a6,a7⟩;exact ⟨a1,a2,a3,a4,a5,a6,a7,a8⟩
theorem JY {x y:Val} (h:¬ (x.kind=y.kind/\x.bool=y.bool/\x.int=y.int/\x.str=y.str/\x.id=y.id/\x.rest=y.rest/\x.keys=y.keys/\x.items=y.items)):decide (x=y)=false :=
 AAE fun e=>h ((Val.ext_iff' x y).1 e)
def IW (b:Bool) (w:World) (e:Ending) (w':World):Prop:=e = .returned (.bool b)/\Below w.heap.size w w'
open Go.RowKit
theorem yI (n : Int) (w : World) : Calls Tryz.prog 116 #[.int .u8 n] w fun e w' => e = .returned (.bool (DT n)) /\ w = w' := by
  by_cases h1 : n = 95
  · subst h1
    go_enter Tryz.func116, Tryz.ntmps116
    go_wp2
    go_ret
    exact ⟨rfl, rfl⟩
  have e1 : (n == 95) = false := by simp [h1]
  by_cases h2 : 97 <= n <;> by_cases h3 : n <= 122 <;> by_cases h4 : 65 <= n <;> by_cases h5 : n <= 90
  all_goals first
    | (exfalso; omega)
    | (have HL := zh (show DT n = _ by unfold DT; simp only [h1, h2, h3, h4, h5]; rfl)
       clear h1
       go_enter Tryz.func116, Tryz.ntmps116
       go_wp2
       go_ret
       exact ⟨by rw [HL.out]; rfl, rfl⟩)
theorem Ce (n : Int) (w : World) : Calls Tryz.prog 82 #[.int .u8 n] w fun e w' => e = .returned (.bool (DT n)) /\ w = w' := by
  by_cases h1 : n = 95
  · subst h1
    go_enter Tryz.func82, Tryz.ntmps82
    go_wp2
    go_ret
    exact ⟨rfl, rfl⟩
  have e1 : (n == 95) = false := by simp [h1]
  by_cases h2 : 97 <= n <;> by_cases h3 : n <= 122 <;> by_cases h4 : 65 <= n <;> by_cases h5 : n <= 90
  all_goals first
    | (exfalso; omega)
    | (have HL := zh (show DT n = _ by unfold DT; simp only [h1, h2, h3, h4, h5]; rfl)
       clear h1
       go_enter Tryz.func82, Tryz.ntmps82
       go_wp2
       go_ret
       exact ⟨by rw [HL.out]; rfl, rfl⟩)
theorem BZ (n : Int) (w : World) : Calls Tryz.prog 117 #[.int .u8 n] w fun e w' => e = .returned (.bool (Eb n)) /\ w = w' := by
  by_cases h2 : 48 <= n <;> by_cases h3 : n <= 57
  all_goals
    (have HL := zh (show Eb n = _ by unfold Eb; simp only [h2, h3]; rfl)
     go_enter Tryz.func117, Tryz.ntmps117
     go_wp2
     go_ret
     exact ⟨by rw [HL.out]; rfl, rfl⟩)
theorem Cv (n : Int) (w : World) : Calls Tryz.prog 83 #[.int .u8 n] w fun e w' => e = .returned (.bool (Eb n)) /\ w = w' := by
  by_cases h2 : 48 <= n <;> by_cases h3 : n <= 57
  all_goals
    (have HL := zh (show Eb n = _ by unfold Eb; simp only [h2, h3]; rfl)
     go_enter Tryz.func83, Tryz.ntmps83
     go_wp2
     go_ret
     exact ⟨by rw [HL.out]; rfl, rfl⟩)
open Go.RowKit
theorem Iw (h:0<s.size):s.toList≠[]:=by
 intro e
 rw[Lib.toList_data] at e;have:s.data.toList.length=s.size:=by simp
 rw[e] at this;simp at this;omega
theorem Qg (h:0<s.size):s.data.toList.getD 0 0=s[0]:=by
 have h':0<s.data.toList.length:=by simpa using h
 rw[AAi,zl h'];rfl
theorem dS (h:24<s.size):CV s=false:=by
 unfold CV;simp;omega
theorem ZQ (h:0<s.size) (hl:DT ((s[0].toNat:Nat):Int)=false):CV s=false:=by
 unfold CV;rw[Qg h,hl];simp
theorem dU (h:k<s.size) (hl:Ko s[k]=false):CV s=false:=by
 have:s.data.toList.all Ko=false:=by
  rw[List.all_eq_false];refine ⟨s[k],?_,by simp[hl]⟩
  exact AAW (l:=s.data.toList) (by simpa using h)
 unfold CV;rw[this];simp
theorem ZR (h:0<s.size) (h2:s.size<=24) (hl:DT ((s[0].toNat:Nat):Int)=true) (ha:∀k (hk:k<s.size),Ko s[k]=true):CV s=true:=by
 unfold CV;rw[Qg h,hl];have:s.data.toList.all Ko=true:=by
  rw[AAq]
  intro c hc
  obtain ⟨k,hk,rfl⟩:=AAs hc;exact ha k (by simpa using hk)
 rw[this];simp[h,h2]
theorem Kl (s:ByteArray) (hs:Dc s) (w:World):Calls Tryz.prog 84 #[.string s] w fun e w'=>e = .returned (.bool (CV s))/\w=w':=by
 unfold Dc at hs
 by_cases h0:s.size=0
 ·obtain rfl:s=⟨#[]⟩:=by
   obtain ⟨d⟩:=s;have:d.size=0:=h0;rw[Array.eq_empty_of_size_eq_zero this]
  clear hs h0
  go_enter Tryz.func84,Tryz.ntmps84
  go_wp2
  go_ret
  exact ⟨by rfl,rfl⟩
 have hp:0<s.size:=by omega
 have hne:=Iw hp;have hne2:s.toList.isEmpty=false:=by simpa using hne
 by_cases hbig:24<s.size
 ·have HN:=zh (dS hbig)
  clear h0
  go_enter Tryz.func84,Tryz.ntmps84
  go_wp2
  go_ret
  exact ⟨by rw[HN.out];rfl,rfl⟩
 have hle:s.size<=24:=by omega
 cases hl:DT ((s[0].toNat:Nat):Int) with
 | false =>
  have HN:=zh (ZQ hp hl);have HL:=zh hl;clear h0 hbig hl
  go_enter Tryz.func84,Tryz.ntmps84
  go_wp2_with (go_at_call 82;refine (Ce _ _).mono ?_;rintro e w' ⟨rfl,rfl⟩;rw[HL.out])
  go_ret
  exact ⟨by rw[HN.out];rfl,rfl⟩
 | true =>
  have HL:=zh hl;clear h0 hbig hl
  go_enter Tryz.func84,Tryz.ntmps84
  go_wp2_with (go_at_call 82;refine (Ce _ _).mono ?_;rintro e w' ⟨rfl,rfl⟩;rw[HL.out])
  go_loop [3] (fun i=>∃k:Nat,k<=s.size/\i = .int .i64 k/\Hid (∀j (hj:j<s.size),j<k->Ko s[j]=true)) (fun i=>s.size - (intOf i).toNat)
  case atStart=>exact ⟨0,by omega,rfl,fun j hj h=>absurd h (by omega)⟩
  case round =>
   obtain ⟨k,hk,rfl,hh⟩:=hrel
   by_cases hlt:k<s.size
   ·cases h1:DT ((s[k].toNat:Nat):Int) with
    | true =>
     have HC:Hid (Ko s[k]=true):=by show _=_;unfold Ko;rw[h1];rfl
     have H1:=zh h1;clear h1;go_wp2_with (go_at_call 82;refine (Ce _ _).mono ?_;rintro e w' ⟨rfl,rfl⟩;rw[H1.out])
     go_round
     case rel =>
      refine ⟨k+1,by omega,by go_num,fun j hj hjk=>?_⟩
      by_cases e:j=k
      ·subst e;exact HC.out
      ·exact hh.out j hj (by omega)
     case measure=>simp[intOf];omega
    | false =>
     cases h2:Eb ((s[k].toNat:Nat):Int) with
     | true =>
      have HC:Hid (Ko s[k]=true):=by show _=_;unfold Ko;rw[h1,h2];rfl
      have H1:=zh h1;have H2:=zh h2;clear h1 h2;go_wp2_with (first|(go_at_call 82;refine (Ce _ _).mono ?_;rintro e w' ⟨rfl,rfl⟩;rw[H1.out])|(go_at_call 83;refine (Cv _ _).mono ?_;rintro e w' ⟨rfl,rfl⟩;rw[H2.out]))
      go_round
      case rel =>
       refine ⟨k+1,by omega,by go_num,fun j hj hjk=>?_⟩
       by_cases e:j=k
       ·subst e;exact HC.out
       ·exact hh.out j hj (by omega)
      case measure=>simp[intOf];omega
     | false =>
      have HN:=zh (dU hlt (show Ko s[k]=false by unfold Ko;rw[h1,h2];rfl))
      have H1:=zh h1;have H2:=zh h2;clear h1 h2;go_wp2_with (first|(go_at_call 82;refine (Ce _ _).mono ?_;rintro e w' ⟨rfl,rfl⟩;rw[H1.out])|(go_at_call 83;refine (Cv _ _).mono ?_;rintro e w' ⟨rfl,rfl⟩;rw[H2.out]));go_ret;exact ⟨by rw[HN.out];rfl,rfl⟩
   ·have HN:=zh (ZR hp hle HL fun k hk=>hh.out k hk (by omega))
    go_wp2
    go_ret
    exact ⟨by rw[HN.out];rfl,rfl⟩
open Go.RowKit
abbrev kS:ByteArray->Value:=Value.string
open Go.RowKit
def vI (W:World) (b:Nat) (m:AY) (A1:zo) (c1:Nat) (A2:zo) (c2:Nat) (A3:zo) (c3:Nat):Prop:=W.heap[b]? = some (.cells #[.int .i64 m.id,.string m.name,.int .i64 m.type,.bool m.critical,.bool m.G7,.int .i64 m.dflt.kind,.bool m.dflt.bool,.int .i64 m.dflt.int,.string m.dflt.str,.int .i64 m.dflt.id,.slice A1 m.dflt.keys.length c1,.slice A2 m.dflt.items.length c2,.slice A3 m.dflt.rest.length c3] 118 (0,0))
theorem vI.cell {W:World} {b:Nat} {m:AY} {A1:zo} {c1:Nat} {A2:zo} {c2:Nat} {A3:zo} {c3:Nat} (h:vI W b m A1 c1 A2 c2 A3 c3) (j:Nat):W.cell? ⟨b,j,none⟩=(#[.int .i64 m.id,.string m.name,.int .i64 m.type,.bool m.critical,.bool m.G7,.int .i64 m.dflt.kind,.bool m.dflt.bool,.int .i64 m.dflt.int,.string m.dflt.str,.int .i64 m.dflt.id,.slice A1 m.dflt.keys.length c1,.slice A2 m.dflt.items.length c2,.slice A3 m.dflt.rest.length c3]:Array Value)[j]? := AAB _ _ _ _ _ _ h
end Go.Proofs.YthkkllmmbefedaaGreatDoor



