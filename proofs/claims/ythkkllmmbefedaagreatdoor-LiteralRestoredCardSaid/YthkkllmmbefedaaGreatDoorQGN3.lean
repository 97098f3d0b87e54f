/-
  A row of types that is built (as in canon's CA0).
-/
import Derived.Test.YthkkllmmbefedaaGreatDoorQGB1
namespace Go.Proofs.YthkkllmmbefedaaGreatDoor
set_option maxHeartbeats 16000000
set_option maxRecDepth 100000
theorem ZY {d:List AR} {code k:Nat} (hk:k<d.length) (h:BU (AZ d k)=true):¬ EJ d code<0:=by
 unfold EJ
 split
 ·omega
 ·rename_i hn
  exfalso
  have:=List.find?_eq_none.1 hn ((k+d.length - code % d.length) % d.length) (List.mem_range.2 (Nat.mod_lt _ (by omega)))
  apply this
  have hm:code % d.length<d.length:=Nat.mod_lt _ (by omega)
  have e:(code+(k+d.length - code % d.length) % d.length) % d.length=k:=by
   rw[Nat.add_mod_mod,<-Nat.mod_add_mod];rw[show code % d.length+(k+d.length - code % d.length)=k+d.length by omega,Nat.add_mod_right,Nat.mod_eq_of_lt hk]
  rw[e];exact h
theorem UO (d:List AR) (a b:Nat):EJ d a<0↔EJ d b<0:=by
 have h:∀a b,EJ d b<0->EJ d a<0:=fun a b hb=>by
  by_cases ha:EJ d a<0
  ·exact ha
  ·obtain ⟨h1,h2⟩:=X8 ha
   exact absurd hb (ZY (by omega) h2)
 exact ⟨h b a,h a b⟩
structure YR (d:List AR) (i:Nat) (x:AR) (t:Aa):Prop where
 kind:t.kind=LX d i\/(AZ d i=6/\t.kind=5)
 int:AZ d i=2->t.low=FX x/\t.high=FK x
 max:0<=t.max/\t.max<=3
 str:AZ d i=3->t.max=((x.a % 4:Nat):Int)
 AV:t.AV=[]\/t.AV=EP x
 enum:AZ d i=4->t.AV=EP x
 mem:∀m∈t.AA,jI d i m
 mo:∃rec,Dx rec d.length 12 t.AA
 ne:t.kind=6->t.AA≠[]
theorem LW {d:List AR} {i:Nat} {k:Int} (h:AZ d i=k) (h8:k≠8):k=LX d i:=by unfold LX;rw[Pd (by omega)];exact h.symm
section
variable {d:List AR} {i:Nat} {x:AR}
theorem dA (hk:AZ d i=1):YR d i x { Ai with kind:=1 } :=
 ⟨.inl (LW (k:=1) hk (by decide)),by omega,⟨Int.le_refl _,by show (0:Int)<=3;decide⟩,by omega,.inl rfl,by omega,(fun _ h=>by cases h),⟨true,Dx.nil _ _ _⟩,(fun h=>by cases h)⟩
theorem kU (hk:AZ d i=2):YR d i x { Ai with kind:=2,low:=FX x,high:=FK x } :=
 ⟨.inl (LW (k:=2) hk (by decide)),fun _=>⟨rfl,rfl⟩,⟨Int.le_refl _,by show (0:Int)<=3;decide⟩,by omega,.inl rfl,by omega,(fun _ h=>by cases h),⟨true,Dx.nil _ _ _⟩,(fun h=>by cases h)⟩
variable {a:Int}
theorem kP (hk:AZ d i=3) (ha:0<=a/\a<=3) (hv:a=((x.a % 4:Nat):Int)):YR d i x { Ai with kind:=3,max:=a } :=
 ⟨.inl (LW (k:=3) hk (by decide)),by omega,ha,fun _=>hv,.inl rfl,by omega,(fun _ h=>by cases h),⟨true,Dx.nil _ _ _⟩,(fun h=>by cases h)⟩
theorem cu (hk:AZ d i=4) (o:Bool):YR d i x { Ai with kind:=4,name:=MS i,AV:=EP x,open_:=o } :=
 ⟨.inl (LW (k:=4) hk (by decide)),by omega,⟨Int.le_refl _,by show (0:Int)<=3;decide⟩,by omega,.inr rfl,fun _=>rfl,(fun _ h=>by cases h),⟨true,Dx.nil _ _ _⟩,(fun h=>by cases h)⟩
theorem XV (hk:AZ d i=5\/AZ d i=6) {ms:List AY} {rec:Bool} (h:Dx rec d.length 12 ms) (hm:∀m∈ms,jI d i m):YR d i x { Ai with kind:=5,name:=MS i,AA:=ms } :=
 ⟨hk.imp (fun e=>LW (k:=5) e (by decide)) (fun e=>⟨e,rfl⟩),by omega,⟨Int.le_refl _,by show (0:Int)<=3;decide⟩,by omega,.inl rfl,by omega,hm,⟨rec,h⟩,(fun h=>by cases h)⟩
theorem Yu (hk:AZ d i=6) {ms:List AY} (h:Dx false d.length 12 ms) (hm:∀m∈ms,jI d i m) (hne:ms≠[]) (o:Bool):YR d i x { Ai with kind:=6,name:=MS i,AA:=ms,open_:=o } :=
 ⟨.inl (LW (k:=6) hk (by decide)),by omega,⟨Int.le_refl _,by show (0:Int)<=3;decide⟩,by omega,.inl rfl,by omega,hm,⟨false,h⟩,fun _=>hne⟩
variable {b:Int}
theorem TM (hk:AZ d i=7\/(AZ d i=8/\∃c,EJ d c<0)) (ha:0<=a/\a<=3):YR d i x { Ai with kind:=7,max:=a,elem:=b } :=
 ⟨.inl (hk.elim (fun e=>LW (k:=7) e (by decide)) (fun e=>by obtain ⟨h8,c,hc⟩:=e;exact o5 h8 ((UO d c 0).1 hc))),by omega,ha,by omega,.inl rfl,by omega,(fun _ h=>by cases h),⟨true,Dx.nil _ _ _⟩,(fun h=>by cases h)⟩
theorem kT (hk:AZ d i=8) {c:Int} {q:Nat} (hq:¬ EJ d q<0) (ha:0<=a/\a<=3):YR d i x { Ai with kind:=8,max:=a,key:=c,elem:=b } :=
 ⟨.inl (oz hk (fun h=>hq ((UO d 0 q).1 h))),by omega,ha,by omega,.inl rfl,by omega,(fun _ h=>by cases h),⟨true,Dx.nil _ _ _⟩,(fun h=>by cases h)⟩
theorem kQ (hk:AZ d i=9):YR d i x { Ai with kind:=9,elem:=b } :=
 ⟨.inl (LW (k:=9) hk (by decide)),by omega,⟨Int.le_refl _,by show (0:Int)<=3;decide⟩,by omega,.inl rfl,by omega,(fun _ h=>by cases h),⟨true,Dx.nil _ _ _⟩,(fun h=>by cases h)⟩
end
open Go.RowKit
structure Ei (po:Nat) (wr:World) (v:Value) (L:List LK):Prop where
 own:Ab 87 10 LK.cells wr (po+1) v L
 off:∀x∈L,Off (fun q=>q<=po\/v.ownBlock=some q) wr fun u=>JY u x.t x.As x.Am
variable {L:List LK} {po:Nat} {v:Value} {w' wr:World}
theorem Ei.below (h:Ei po wr v L) (hb:Below wr.heap.size wr w'):Ei po w' v L:=⟨h.own.below hb,fun x hx=>(h.off x hx).low hb⟩
theorem Ei.nil (po:Nat) (wr:World):Ei po wr (.slice none 0 0) []:=⟨Ab.nil _ _,fun x hx=>by cases hx⟩
theorem Ei.set (h:Ei po wr v L) (hs:wr.heap.size<=w'.heap.size) {b:Nat} (hb:b<=po) (hk:∀q,q≠b->q<wr.heap.size->w'.heap[q]? = wr.heap[q]?):Ei po w' v L :=
 ⟨h.own.keep fun g h1 h2 _=>hk g (by omega) h2,fun x hx=>(h.off x hx).step hs fun q hq hl=>hk q (fun e=>hq (.inl (e▸hb))) hl⟩
theorem Ei.snoc {v':Value} {x:LK} (h:Ei po wr v L) (hx:Off (fun q=>q<=po\/v.ownBlock=some q) wr fun u=>JY u x.t x.As x.Am) (ho:w'.ownsRow (po+1) 87 10 v' (L.length+1) (L.flatMap LK.cells++x.cells)) (hg:wr.grownBy w' v.ownBlock) (hv:v'.ownBlock=v.ownBlock\/v'.ownBlock=some wr.heap.size):Ei po w' v' (L++[x]):=by
 refine ⟨Ab.snoc ho,fun y hy=>?_⟩
 have hy':Off (fun q=>q<=po\/v.ownBlock=some q) wr fun u=>JY u y.t y.As y.Am:=by
  rcases AAm.1 hy with k|k
  ·exact h.off y k
  ·obtain rfl:y=x:=by simpa using k
   exact hx
 intro u hu
 refine hy' u fun q hq hl=>?_
 have hqw:w'.heap[q]? = wr.heap[q]? := yA hg hl fun k hk e=>hq (.inr (by rw[hk,e]))
 rw[<-hqw];refine hu q (fun hs=>hs.elim (fun h1=>hq (.inl h1)) fun h2=>?_) (AA2 hl hg.size)
 rcases hv with e|e
 ·exact hq (.inr (e▸h2))
 ·rw[e] at h2
  have:=AAh h2
  omega
theorem Ei.rows (h:Ei po wr v L) (hl:L.length<=1000):∃A c,v = .slice A L.length c/\C8 wr A (L.map (·.t)):=by
 obtain ⟨A,c,hv,hr⟩:=Ab.rows (bytes:=120) h.own (fun _=>rfl) (by unfold EK;omega) (at_:=fun x cs=>Aa.At wr x.t cs) (fun x hx=>⟨x.As,x.cs,x.Am,x.cm,rfl,(h.off x hx).out⟩)
 refine ⟨A,c,hv,by unfold EK;rw[AAd];omega,fun hn=>?_⟩
 obtain ⟨b,o,e,hi⟩:=hr.2 (fun e=>hn (by rw[e];rfl))
 refine ⟨b,o,e,fun i x hx=>?_⟩
 rw[List.getElem?_map] at hx;obtain ⟨y,hy,rfl⟩:=AA4.1 hx;exact hi i y hy
end Go.Proofs.YthkkllmmbefedaaGreatDoor



