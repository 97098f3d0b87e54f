/-
  A row of types that is built (as in canon's CA0).
-/
import Derived.Test.YthkkllmmbefedaaGreatDoorQGB1
namespace Go.Proofs.YthkkllmmbefedaaGreatDoor
set_option maxHeartbeats 16000000
set_option maxRecDepth 100000
theorem YV {d:List AX} {code k:Nat} (hk:k<d.length) (h:Bc (Ac d k)=true):¬ Dz d code<0:=by
 unfold Dz
 split
 ·omega
 ·rename_i hn
  exfalso
  have:=List.find?_eq_none.1 hn ((k+d.length - code % d.length) % d.length) (List.mem_range.2 (Nat.mod_lt _ (by omega)))
  apply this
  have hm:code % d.length<d.length:=Nat.mod_lt _ (by omega)
  have e:(code+(k+d.length - code % d.length) % d.length) % d.length=k:=by
   rw[Nat.add_mod_mod,<-Nat.mod_add_mod];rw[show code % d.length+(k+d.length - code % d.length)=k+d.length by omega,Nat.add_mod_right,Nat.mod_eq_of_lt hk]
  rw[e];exact h
theorem TV (d:List AX) (a b:Nat):Dz d a<0↔Dz d b<0:=by
 have h:∀a b,Dz d b<0->Dz d a<0:=fun a b hb=>by
  by_cases ha:Dz d a<0
  ·exact ha
  ·obtain ⟨h1,h2⟩:=Wt ha
   exact absurd hb (YV (by omega) h2)
 exact ⟨h b a,h a b⟩
structure XO (d:List AX) (i:Nat) (x:AX) (t:Ae):Prop where
 kind:t.kind=Kc d i\/(Ac d i=6/\t.kind=5)
 int:Ac d i=2->t.low=FD x/\t.high=Ep x
 max:0<=t.max/\t.max<=3
 str:Ac d i=3->t.max=((x.a % 4:Nat):Int)
 Aj:t.Aj=[]\/t.Aj=D8 x
 enum:Ac d i=4->t.Aj=D8 x
 mem:∀m∈t.AA,eY d i m
 mo:∃rec,Dm rec d.length 12 t.AA
 ne:t.kind=6->t.AA≠[]
theorem Ka {d:List AX} {i:Nat} {k:Int} (h:Ac d i=k) (h8:k≠8):k=Kc d i:=by unfold Kc;rw[Pd (by omega)];exact h.symm
section
variable {d:List AX} {i:Nat} {x:AX}
theorem Zu (hk:Ac d i=1):XO d i x { Al with kind:=1 } :=
 ⟨.inl (Ka (k:=1) hk (by decide)),by omega,⟨Int.le_refl _,by show (0:Int)<=3;decide⟩,by omega,.inl rfl,by omega,(fun _ h=>by cases h),⟨true,Dm.nil _ _ _⟩,(fun h=>by cases h)⟩
theorem iE (hk:Ac d i=2):XO d i x { Al with kind:=2,low:=FD x,high:=Ep x } :=
 ⟨.inl (Ka (k:=2) hk (by decide)),fun _=>⟨rfl,rfl⟩,⟨Int.le_refl _,by show (0:Int)<=3;decide⟩,by omega,.inl rfl,by omega,(fun _ h=>by cases h),⟨true,Dm.nil _ _ _⟩,(fun h=>by cases h)⟩
variable {a:Int}
theorem iB (hk:Ac d i=3) (ha:0<=a/\a<=3) (hv:a=((x.a % 4:Nat):Int)):XO d i x { Al with kind:=3,max:=a } :=
 ⟨.inl (Ka (k:=3) hk (by decide)),by omega,ha,fun _=>hv,.inl rfl,by omega,(fun _ h=>by cases h),⟨true,Dm.nil _ _ _⟩,(fun h=>by cases h)⟩
theorem Zt (hk:Ac d i=4) (o:Bool):XO d i x { Al with kind:=4,name:=LU i,Aj:=D8 x,open_:=o } :=
 ⟨.inl (Ka (k:=4) hk (by decide)),by omega,⟨Int.le_refl _,by show (0:Int)<=3;decide⟩,by omega,.inr rfl,fun _=>rfl,(fun _ h=>by cases h),⟨true,Dm.nil _ _ _⟩,(fun h=>by cases h)⟩
theorem WE (hk:Ac d i=5\/Ac d i=6) {ms:List AZ} {rec:Bool} (h:Dm rec d.length 12 ms) (hm:∀m∈ms,eY d i m):XO d i x { Al with kind:=5,name:=LU i,AA:=ms } :=
 ⟨hk.imp (fun e=>Ka (k:=5) e (by decide)) (fun e=>⟨e,rfl⟩),by omega,⟨Int.le_refl _,by show (0:Int)<=3;decide⟩,by omega,.inl rfl,by omega,hm,⟨rec,h⟩,(fun h=>by cases h)⟩
theorem Xi (hk:Ac d i=6) {ms:List AZ} (h:Dm false d.length 12 ms) (hm:∀m∈ms,eY d i m) (hne:ms≠[]) (o:Bool):XO d i x { Al with kind:=6,name:=LU i,AA:=ms,open_:=o } :=
 ⟨.inl (Ka (k:=6) hk (by decide)),by omega,⟨Int.le_refl _,by show (0:Int)<=3;decide⟩,by omega,.inl rfl,by omega,hm,⟨false,h⟩,fun _=>hne⟩
variable {b:Int}
theorem SF (hk:Ac d i=7\/(Ac d i=8/\∃c,Dz d c<0)) (ha:0<=a/\a<=3):XO d i x { Al with kind:=7,max:=a,elem:=b } :=
 ⟨.inl (hk.elim (fun e=>Ka (k:=7) e (by decide)) (fun e=>by obtain ⟨h8,c,hc⟩:=e;exact mI h8 ((TV d c 0).1 hc))),by omega,ha,by omega,.inl rfl,by omega,(fun _ h=>by cases h),⟨true,Dm.nil _ _ _⟩,(fun h=>by cases h)⟩
theorem iD (hk:Ac d i=8) {c:Int} {q:Nat} (hq:¬ Dz d q<0) (ha:0<=a/\a<=3):XO d i x { Al with kind:=8,max:=a,key:=c,elem:=b } :=
 ⟨.inl (mH hk (fun h=>hq ((TV d 0 q).1 h))),by omega,ha,by omega,.inl rfl,by omega,(fun _ h=>by cases h),⟨true,Dm.nil _ _ _⟩,(fun h=>by cases h)⟩
theorem iC (hk:Ac d i=9):XO d i x { Al with kind:=9,elem:=b } :=
 ⟨.inl (Ka (k:=9) hk (by decide)),by omega,⟨Int.le_refl _,by show (0:Int)<=3;decide⟩,by omega,.inl rfl,by omega,(fun _ h=>by cases h),⟨true,Dm.nil _ _ _⟩,(fun h=>by cases h)⟩
end
open Go.RowKit
structure EN (po:Nat) (wr:World) (v:Value) (L:List KN):Prop where
 own:Ad 87 10 KN.cells wr (po+1) v L
 off:∀x∈L,Off (fun q=>q<=po\/v.ownBlock=some q) wr fun u=>KM u x.t x.As x.Am
variable {L:List KN} {po:Nat} {v:Value} {w' wr:World}
theorem EN.below (h:EN po wr v L) (hb:Below wr.heap.size wr w'):EN po w' v L:=⟨h.own.below hb,fun x hx=>(h.off x hx).low hb⟩
theorem EN.nil (po:Nat) (wr:World):EN po wr (.slice none 0 0) []:=⟨Ad.nil _ _,fun x hx=>by cases hx⟩
theorem EN.set (h:EN po wr v L) (hs:wr.heap.size<=w'.heap.size) {b:Nat} (hb:b<=po) (hk:∀q,q≠b->q<wr.heap.size->w'.heap[q]? = wr.heap[q]?):EN po w' v L :=
 ⟨h.own.keep fun g h1 h2 _=>hk g (by omega) h2,fun x hx=>(h.off x hx).step hs fun q hq hl=>hk q (fun e=>hq (.inl (e▸hb))) hl⟩
theorem EN.snoc {v':Value} {x:KN} (h:EN po wr v L) (hx:Off (fun q=>q<=po\/v.ownBlock=some q) wr fun u=>KM u x.t x.As x.Am) (ho:w'.ownsRow (po+1) 87 10 v' (L.length+1) (L.flatMap KN.cells++x.cells)) (hg:wr.grownBy w' v.ownBlock) (hv:v'.ownBlock=v.ownBlock\/v'.ownBlock=some wr.heap.size):EN po w' v' (L++[x]):=by
 refine ⟨Ad.snoc ho,fun y hy=>?_⟩
 have hy':Off (fun q=>q<=po\/v.ownBlock=some q) wr fun u=>KM u y.t y.As y.Am:=by
  rcases AAo.1 hy with k|k
  ·exact h.off y k
  ·obtain rfl:y=x:=by simpa using k
   exact hx
 intro u hu
 refine hy' u fun q hq hl=>?_
 have y9:w'.heap[q]? = wr.heap[q]? := yA hg hl fun k hk e=>hq (.inr (by rw[hk,e]))
 rw[<-y9];refine hu q (fun hs=>hs.elim (fun h1=>hq (.inl h1)) fun h2=>?_) (AAq hl hg.size)
 rcases hv with e|e
 ·exact hq (.inr (e▸h2))
 ·rw[e] at h2
  have:=AAm h2
  omega
theorem EN.rows (h:EN po wr v L) (hl:L.length<=1000):∃A c,v = .slice A L.length c/\CQ wr A (L.map (·.t)):=by
 obtain ⟨A,c,hv,hr⟩:=Ad.rows (bytes:=120) h.own (fun _=>rfl) (by unfold DU;omega) (at_:=fun x cs=>Ae.At wr x.t cs) (fun x hx=>⟨x.As,x.cs,x.Am,x.cm,rfl,(h.off x hx).out⟩)
 refine ⟨A,c,hv,by unfold DU;rw[AAZ];omega,fun hn=>?_⟩
 obtain ⟨b,o,e,hi⟩:=hr.2 (fun e=>hn (by rw[e];rfl))
 refine ⟨b,o,e,fun i x hx=>?_⟩
 rw[List.getElem?_map] at hx;obtain ⟨y,hy,rfl⟩:=AAs.1 hx;exact hi i y hy
end Go.Proofs.YthkkllmmbefedaaGreatDoor



