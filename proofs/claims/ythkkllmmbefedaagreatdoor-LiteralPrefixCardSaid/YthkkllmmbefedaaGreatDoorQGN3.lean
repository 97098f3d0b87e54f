/-
  A row of types that is built (as in canon's CA0).
-/
import Derived.Test.YthkkllmmbefedaaGreatDoorQGB1
namespace Go.Proofs.YthkkllmmbefedaaGreatDoor
set_option maxHeartbeats 16000000
set_option maxRecDepth 100000
theorem bU {d:List AR} {code k:Nat} (hk:k<d.length) (h:BV (Ab d k)=true):¬ Ee d code<0:=by
 unfold Ee
 split
 ·omega
 ·rename_i hn
  exfalso
  have:=List.find?_eq_none.1 hn ((k+d.length - code % d.length) % d.length) (List.mem_range.2 (Nat.mod_lt _ (by omega)))
  apply this
  have hm:code % d.length<d.length:=Nat.mod_lt _ (by omega)
  have e:(code+(k+d.length - code % d.length) % d.length) % d.length=k:=by
   rw[Nat.add_mod_mod,<-Nat.mod_add_mod];rw[show code % d.length+(k+d.length - code % d.length)=k+d.length by omega,Nat.add_mod_right,Nat.mod_eq_of_lt hk]
  rw[e];exact h
theorem VR (d:List AR) (a b:Nat):Ee d a<0↔Ee d b<0:=by
 have h:∀a b,Ee d b<0->Ee d a<0:=fun a b hb=>by
  by_cases ha:Ee d a<0
  ·exact ha
  ·obtain ⟨h1,h2⟩:=ZR ha
   exact absurd hb (bU (by omega) h2)
 exact ⟨h b a,h a b⟩
structure Zo (d:List AR) (i:Nat) (x:AR) (t:Aa):Prop where
 kind:t.kind=ME d i\/(Ab d i=6/\t.kind=5)
 int:Ab d i=2->t.low=F7 x/\t.high=Fp x
 max:0<=t.max/\t.max<=3
 str:Ab d i=3->t.max=((x.a % 4:Nat):Int)
 AX:t.AX=[]\/t.AX=Em x
 enum:Ab d i=4->t.AX=Em x
 mem:∀m∈t.AA,mW d i m
 mo:∃rec,EM rec d.length 12 t.AA
 ne:t.kind=6->t.AA≠[]
theorem MB {d:List AR} {i:Nat} {k:Int} (h:Ab d i=k) (h8:k≠8):k=ME d i:=by unfold ME;rw[Pd (by omega)];exact h.symm
section
variable {d:List AR} {i:Nat} {x:AR}
theorem iA (hk:Ab d i=1):Zo d i x { Ai with kind:=1 } :=
 ⟨.inl (MB (k:=1) hk (by decide)),by omega,⟨Int.le_refl _,by show (0:Int)<=3;decide⟩,by omega,.inl rfl,by omega,(fun _ h=>by cases h),⟨true,EM.nil _ _ _⟩,(fun h=>by cases h)⟩
theorem oM (hk:Ab d i=2):Zo d i x { Ai with kind:=2,low:=F7 x,high:=Fp x } :=
 ⟨.inl (MB (k:=2) hk (by decide)),fun _=>⟨rfl,rfl⟩,⟨Int.le_refl _,by show (0:Int)<=3;decide⟩,by omega,.inl rfl,by omega,(fun _ h=>by cases h),⟨true,EM.nil _ _ _⟩,(fun h=>by cases h)⟩
variable {a:Int}
theorem oJ (hk:Ab d i=3) (ha:0<=a/\a<=3) (hv:a=((x.a % 4:Nat):Int)):Zo d i x { Ai with kind:=3,max:=a } :=
 ⟨.inl (MB (k:=3) hk (by decide)),by omega,ha,fun _=>hv,.inl rfl,by omega,(fun _ h=>by cases h),⟨true,EM.nil _ _ _⟩,(fun h=>by cases h)⟩
theorem gy (hk:Ab d i=4) (o:Bool):Zo d i x { Ai with kind:=4,name:=M7 i,AX:=Em x,open_:=o } :=
 ⟨.inl (MB (k:=4) hk (by decide)),by omega,⟨Int.le_refl _,by show (0:Int)<=3;decide⟩,by omega,.inr rfl,fun _=>rfl,(fun _ h=>by cases h),⟨true,EM.nil _ _ _⟩,(fun h=>by cases h)⟩
theorem Yo (hk:Ab d i=5\/Ab d i=6) {ms:List Ac} {rec:Bool} (h:EM rec d.length 12 ms) (hm:∀m∈ms,mW d i m):Zo d i x { Ai with kind:=5,name:=M7 i,AA:=ms } :=
 ⟨hk.imp (fun e=>MB (k:=5) e (by decide)) (fun e=>⟨e,rfl⟩),by omega,⟨Int.le_refl _,by show (0:Int)<=3;decide⟩,by omega,.inl rfl,by omega,hm,⟨rec,h⟩,(fun h=>by cases h)⟩
theorem aJ (hk:Ab d i=6) {ms:List Ac} (h:EM false d.length 12 ms) (hm:∀m∈ms,mW d i m) (hne:ms≠[]) (o:Bool):Zo d i x { Ai with kind:=6,name:=M7 i,AA:=ms,open_:=o } :=
 ⟨.inl (MB (k:=6) hk (by decide)),by omega,⟨Int.le_refl _,by show (0:Int)<=3;decide⟩,by omega,.inl rfl,by omega,hm,⟨false,h⟩,fun _=>hne⟩
variable {b:Int}
theorem UZ (hk:Ab d i=7\/(Ab d i=8/\∃c,Ee d c<0)) (ha:0<=a/\a<=3):Zo d i x { Ai with kind:=7,max:=a,elem:=b } :=
 ⟨.inl (hk.elim (fun e=>MB (k:=7) e (by decide)) (fun e=>by obtain ⟨h8,c,hc⟩:=e;exact sS h8 ((VR d c 0).1 hc))),by omega,ha,by omega,.inl rfl,by omega,(fun _ h=>by cases h),⟨true,EM.nil _ _ _⟩,(fun h=>by cases h)⟩
theorem oL (hk:Ab d i=8) {c:Int} {q:Nat} (hq:¬ Ee d q<0) (ha:0<=a/\a<=3):Zo d i x { Ai with kind:=8,max:=a,key:=c,elem:=b } :=
 ⟨.inl (sQ hk (fun h=>hq ((VR d 0 q).1 h))),by omega,ha,by omega,.inl rfl,by omega,(fun _ h=>by cases h),⟨true,EM.nil _ _ _⟩,(fun h=>by cases h)⟩
theorem oK (hk:Ab d i=9):Zo d i x { Ai with kind:=9,elem:=b } :=
 ⟨.inl (MB (k:=9) hk (by decide)),by omega,⟨Int.le_refl _,by show (0:Int)<=3;decide⟩,by omega,.inl rfl,by omega,(fun _ h=>by cases h),⟨true,EM.nil _ _ _⟩,(fun h=>by cases h)⟩
end
open Go.RowKit
structure FC (po:Nat) (wr:World) (v:Value) (L:List Lu):Prop where
 own:AZ 87 10 Lu.cells wr (po+1) v L
 off:∀x∈L,Off (fun q=>q<=po\/v.ownBlock=some q) wr fun u=>J4 u x.t x.As x.Am
variable {L:List Lu} {po:Nat} {v:Value} {w' wr:World}
theorem FC.below (h:FC po wr v L) (hb:Below wr.heap.size wr w'):FC po w' v L:=⟨h.own.below hb,fun x hx=>(h.off x hx).low hb⟩
theorem FC.nil (po:Nat) (wr:World):FC po wr (.slice none 0 0) []:=⟨AZ.nil _ _,fun x hx=>by cases hx⟩
theorem FC.set (h:FC po wr v L) (hs:wr.heap.size<=w'.heap.size) {b:Nat} (hb:b<=po) (hk:∀q,q≠b->q<wr.heap.size->w'.heap[q]? = wr.heap[q]?):FC po w' v L :=
 ⟨h.own.keep fun g h1 h2 _=>hk g (by omega) h2,fun x hx=>(h.off x hx).step hs fun q hq hl=>hk q (fun e=>hq (.inl (e▸hb))) hl⟩
theorem FC.snoc {v':Value} {x:Lu} (h:FC po wr v L) (hx:Off (fun q=>q<=po\/v.ownBlock=some q) wr fun u=>J4 u x.t x.As x.Am) (ho:w'.ownsRow (po+1) 87 10 v' (L.length+1) (L.flatMap Lu.cells++x.cells)) (hg:wr.grownBy w' v.ownBlock) (hv:v'.ownBlock=v.ownBlock\/v'.ownBlock=some wr.heap.size):FC po w' v' (L++[x]):=by
 refine ⟨AZ.snoc ho,fun y hy=>?_⟩
 have hy':Off (fun q=>q<=po\/v.ownBlock=some q) wr fun u=>J4 u y.t y.As y.Am:=by
  rcases ABY.1 hy with k|k
  ·exact h.off y k
  ·obtain rfl:y=x:=by simpa using k
   exact hx
 intro u hu
 refine hy' u fun q hq hl=>?_
 have hqw:w'.heap[q]? = wr.heap[q]? := yA hg hl fun k hk e=>hq (.inr (by rw[hk,e]))
 rw[<-hqw];refine hu q (fun hs=>hs.elim (fun h1=>hq (.inl h1)) fun h2=>?_) (ABa hl hg.size)
 rcases hv with e|e
 ·exact hq (.inr (e▸h2))
 ·rw[e] at h2
  have:=ABW h2
  omega
theorem FC.rows (h:FC po wr v L) (hl:L.length<=1000):∃A c,v = .slice A L.length c/\DC wr A (L.map (·.t)):=by
 obtain ⟨A,c,hv,hr⟩:=AZ.rows (bytes:=120) h.own (fun _=>rfl) (by unfold EF;omega) (at_:=fun x cs=>Aa.At wr x.t cs) (fun x hx=>⟨x.As,x.cs,x.Am,x.cm,rfl,(h.off x hx).O⟩)
 refine ⟨A,c,hv,by unfold EF;rw[AAt];omega,fun hn=>?_⟩
 obtain ⟨b,o,e,hi⟩:=hr.2 (fun e=>hn (by rw[e];rfl))
 refine ⟨b,o,e,fun i x hx=>?_⟩
 rw[List.getElem?_map] at hx;obtain ⟨y,hy,rfl⟩:=ABc.1 hx;exact hi i y hy
