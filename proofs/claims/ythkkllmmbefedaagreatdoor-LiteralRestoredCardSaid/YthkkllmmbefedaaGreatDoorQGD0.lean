/-
  Walks: sheaveref08.Equal.
-/
import Derived.Test.YthkkllmmbefedaaGreatDoorQNRH
import Derived.Test.YthkkllmmbefedaaGreatDoorQGA6
import Derived.Test.YthkkllmmbefedaaGreatDoorQVC1
namespace Go.Proofs.YthkkllmmbefedaaGreatDoor
open Go.RowKit
set_option maxHeartbeats 16000000
set_option maxRecDepth 100000
def X3 (kd:Int) (P:PR (List Val)):PR Val:=P.bind fun p => .ok (.mk kd false 0 ⟨#[]⟩ 0 [] p.1 [],p.2)
def Ng (f:Int->List AJ->Bool->PR Val) (x:Aa) (l1:List AJ) (k:Bool):PR (List Val) :=
 if BX ⟨#[93]⟩ l1=true then .ok ([],l1.tail,k) else (KP (f x.elem) l1 k).bind fun p=>(Aq ⟨#[93]⟩ p.2.1).bind fun l2 => .ok (p.1,l2,p.2.2)
theorem X4 (f:Int->List AJ->Bool->PR Val) (x:Aa) (l:List AJ) (k:Bool):Hg f x l k=(Aq ⟨#[91]⟩ l).bind fun l1=>Ng f x l1 k:=rfl
section
variable {C:EB} {V:Vx}
def LiI (C:EB) (V:Vx) (Rt:PR (List Val)) (n0:Nat) (W:World) (r:List AJ) (k:Bool):Prop:=∃vi I,CR C V W r k 0 0 AP vi AP [] I []/\(I.length+r.length<=C.l.length/\r.length<=n0)/\IX (Ag false C.s V.x.elem) Rt (I.map (·.v)) r k
def LiJ (C:EB) (V:Vx) (Rt:PR (List Val)) (n0:Nat) (W:World) (r:List AJ) (k:Bool):Prop:=∃vi I,CR C V W r k 0 0 AP vi AP [] I []/\(I.length+r.length<=C.l.length/\r.length<=n0)/\(BX ⟨#[44]⟩ r=true->IX (Ag false C.s V.x.elem) Rt (I.map (·.v)) r.tail k)/\(BX ⟨#[44]⟩ r=false->Rt = .ok (I.map (·.v),r,k))
def LiF (C:EB) (V:Vx) (P:PR (List Val)) (n0:Nat) (W:World) (r:List AJ) (k:Bool):Prop:=∃vi I,CR C V W r k 0 0 AP vi AP [] I []/\(I.length<=2000000/\r.length<=n0)/\P = .ok (I.map (·.v),r,k)
def LiE (C:EB) (V:Vx) (P:PR (List Val)) (n0:Nat) (W:World) (e:Int):Prop:=∃vi I r k,CR C V W r k e 0 AP vi AP [] I []/\(I.length<=2000000/\r.length<=n0)/\P = .error e
theorem liC {n:Nat} (ih:Dp C n) (_hpv:V.pv=V.p) (he:0<=V.x.elem/\V.x.elem<(C.s.length:Int)) {n0:Nat} (hn:n0<n) {Rt P:PR (List Val)} (hP:P=Rt.bind fun p=>(Aq ⟨#[93]⟩ p.2.1).bind fun l2 => .ok (p.1,l2,p.2.2)) :
  RG C ⟨#[93]⟩ 128 [.pointer (some ⟨V.p,0,none⟩),.pointer (some ⟨V.pr,0,none⟩),.pointer (some ⟨V.px,0,none⟩)] (LiI C V Rt n0) (LiJ C V Rt n0) (LiF C V P n0) (LiE C V P n0) where
 iS:=fun W r k h=>by obtain ⟨_,_,h,_⟩:=h;exact h.rd
 jS:=fun W r k h=>by obtain ⟨_,_,h,_⟩:=h;exact h.rd
 part:=fun W r k ⟨vi,I,h,⟨h1,h2⟩,h3⟩=>by
  have SE:=h.rd.ok.len;refine (VX ih h (by omega) he (by omega)).mono ?_
  rintro y W' ⟨rfl,x,Gd,r',k',e',g1,g2,g3,g4⟩;refine ⟨rfl,r',k',e',g1.rd,g2,fun e=>?_,fun hne=>?_⟩
  ·subst e
   have g5:=g4 rfl
   cases hp:Ag false C.s V.x.elem r k with
   | error e1=>rw[hp] at g5;exact absurd (g5▸hp) (Gf false _ _ _ _)
   | ok q =>
    obtain ⟨a,r1,k1⟩:=q;rw[hp] at g5;obtain ⟨rfl,rfl,rfl,_⟩:=g5;have hlt:=(G5 false C.s V.x.elem _ _ _ _ _ hp).2;refine ⟨Gd,I++[x],g1,⟨by simp;omega,by omega⟩,fun hc=>?_,fun hc=>?_⟩
    ·rw[List.map_append];exact h3.comma (G5 false C.s V.x.elem) hp hc
    ·rw[List.map_append];exact h3.fin (G5 false C.s V.x.elem) hp hc
  ·have g5:=g4 rfl
   cases hp:Ag false C.s V.x.elem r k with
   | error e1 =>
    rw[hp] at g5;obtain rfl:e'=e1:=g5;exact ⟨Gd,_,r',k',g1,⟨by simp;omega,by omega⟩,by rw[hP,h3.bad (G5 false C.s V.x.elem) hp];rfl⟩
   | ok q =>
    rw[hp] at g5;exact absurd g5.2.2.2 hne
 comma:=fun W r k W' ⟨vi,I,h,⟨h1,h2⟩,h3,h4⟩ hc hb hr=>by
  have:=JL hc;exact ⟨vi,I,h.BJ hb hr,⟨by omega,by omega⟩,h3 hc⟩
 fin:=fun W r k W' ⟨vi,I,h,⟨h1,h2⟩,h3,h4⟩ hc ht hb hr=>by
  have:=JL ht;have SE:=h.rd.ok.len;refine ⟨vi,I,h.BJ hb hr,⟨by omega,by omega⟩,?_⟩
  rw[hP,h4 hc,zM];unfold Aq;simp only;rw[AAH ht]
  rfl
 bad:=fun W r k W' ⟨vi,I,h,⟨h1,h2⟩,h3,h4⟩ hc ht hb hr=>by
  have SE:=h.rd.ok.len;refine ⟨vi,I,r,k,h.BJ hb hr,⟨by omega,by omega⟩,?_⟩
  rw[hP,h4 hc,zM];unfold Aq;simp only;rw[Pd (by rw[ht];simp)]
  rfl
theorem ZX {n:Nat} (ih:Dp C n) (hpv:V.pv=V.p) (he:0<=V.x.elem/\V.x.elem<(C.s.length:Int)) {W:World} {r:List AJ} {k:Bool} (h:CR C V W r k 0 0 AP AP AP [] [] []) (hn:r.length<n) :
  Calls Tryz.prog 127 #[.pointer (some ⟨C.b,0,none⟩),.string ⟨#[93]⟩,.func (.func 128) #[] #[.pointer (some ⟨V.p,0,none⟩),.pointer (some ⟨V.pr,0,none⟩),.pointer (some ⟨V.px,0,none⟩)]] W fun y W'=>y = .returned (.tuple #[]) /\
   GY C V.W0 V.p V.x.kind r (X3 V.x.kind (Ng (Ag false C.s) V.x r k)) W':=by
 have hl1:=h.rd.Ta.length_le;have SE:=h.rd.ok.len
 by_cases hi:BX ⟨#[93]⟩ r=true
 ·have hQ:Ng (Ag false C.s) V.x r k = .ok ([],r.tail,k):=by unfold Ng;rw[AAH hi]
  have hc:=liC (V:=V) (C:=C) ih hpv he (n0:=r.length) hn (Rt := .error 0) (P := .error 0) rfl
  refine (Nf (F:=fun W' r' k'=>GY C V.W0 V.p V.x.kind r (X3 V.x.kind (Ng (Ag false C.s) V.x r k)) W') (Er:=fun _ _=>False) { iS:=fun _ _ _ (h:False)=>h.elim,jS:=fun _ _ _ (h:False)=>h.elim,part:=fun _ _ _ (h:False)=>h.elim,comma:=fun _ _ _ _ (h:False)=>h.elim,fin:=fun _ _ _ _ (h:False)=>h.elim,bad:=fun _ _ _ _ (h:False)=>h.elim } h.rd (fun _ W' g1 g2=>?_) (fun g=>by rw[hi] at g;cases g)).mono ?_
  ·have:=JL hi
   exact Fw (h.BJ g1 g2).fl (by omega) ⟨by simp,by simp,by simp⟩ rfl (by rw[hQ];rfl)
  ·rintro y w6 ⟨rfl,r6,k6,e6,g1,g2,g3⟩
   refine ⟨rfl,?_⟩
   by_cases hz:e6=0
   ·exact g2 hz
   ·exact (g3 hz).elim
 ·have hi':BX ⟨#[93]⟩ r=false:=by simpa using hi
  have hc:=liC (V:=V) (C:=C) ih hpv he (n0:=r.length) hn (Rt:=KP (Ag false C.s V.x.elem) r k) rfl;have hQ:Ng (Ag false C.s) V.x r k=(KP (Ag false C.s V.x.elem) r k).bind fun p=>(Aq ⟨#[93]⟩ p.2.1).bind fun l2 => .ok (p.1,l2,p.2.2):=by unfold Ng;rw[Pd hi]
  refine (Nf hc h.rd (fun g=>absurd g hi) (fun _ W' g1 g2=>⟨AP,[],h.BJ g1 g2,⟨by simp;omega,AAP _⟩,IX.start _ _ _⟩)).mono ?_
  rintro y w6 ⟨rfl,r6,k6,e6,g1,g2,g3⟩;refine ⟨rfl,?_⟩
  by_cases hz:e6=0
  ·subst hz
   obtain ⟨vi,I,j1,⟨j2,j3⟩,j4⟩:=g2 rfl;exact Fw j1.fl j3 ⟨by simp,j2,by simp⟩ rfl (by rw[hQ,j4];rfl)
  ·obtain ⟨vi,I,r7,k7,j1,⟨j2,j3⟩,j4⟩:=g3 hz
   exact Bu j1.fl j3 ⟨by simp,j2,by simp⟩ (by rw[hQ,j4];rfl)
end
def VaP (C:EB) (W0:World) (p:Nat) (kd:Int) (r:List AJ) (P:PR Val) (W':World):Prop:=∃bo it st di vk vi vr K I R r' k' e',Bv C W' r' k' e'/\Gt p W' kd bo it st di vk vi vr K I R/\Ah C.b W0 W'/\r'.length<=r.length/\(K.length<=2000000/\I.length<=2000000/\R.length<=2000000) /\
 match P with
 | .ok (v,r1,k1)=>v = .mk kd bo it st di (K.map (·.v)) (I.map (·.v)) R/\r'=r1/\k'=k1/\e'=0
 | .error e1=>e'=e1
variable {p:Nat}
theorem GY.va {C:EB} {W0:World} {kd:Int} {r:List AJ} {P:PR Val} {W':World} (h:GY C W0 p kd r P W'):VaP C W0 p kd r P W':=by
 obtain ⟨di,vk,vi,vr,K,I,R,r',k',e',h1,h2,h3,h4⟩:=h;exact ⟨false,0,⟨#[]⟩,di,vk,vi,vr,K,I,R,r',k',e',h1.rd,h1.vb,h1.fr,h2,h3,h4⟩
abbrev q8 (w:World) (p:Nat) (v0 v1 v2 v3 v4 v5 v6 v7:Value):World:=(((q5 w p v0 v1 v2 v3 v4).setCell ⟨p,5,none⟩ v5).setCell ⟨p,6,none⟩ v6).setCell ⟨p,7,none⟩ v7
variable {w:World}
theorem Gr {a0 a1 a2 a3 a4 a5 a6 a7:Value} {T:TypeId} (h:w.heap[p]? = some (.cells #[a0,a1,a2,a3,a4,a5,a6,a7] T)) (v0 v1 v2 v3 v4 v5 v6 v7:Value):(q8 w p v0 v1 v2 v3 v4 v5 v6 v7).heap[p]? = some (.cells #[v0,v1,v2,v3,v4,v5,v6,v7] T):=by
 have h0:=AAW _ _ 0 _ _ v0 h;simp only[ABV,List.set_cons_zero] at h0;have h1:=AAW _ _ 1 _ _ v1 h0;simp only[ABV,List.set_cons_zero,List.set_cons_succ] at h1;have h2:=AAW _ _ 2 _ _ v2 h1;simp only[ABV,List.set_cons_zero,List.set_cons_succ] at h2;have h3:=AAW _ _ 3 _ _ v3 h2
 simp only[ABV,List.set_cons_zero,List.set_cons_succ] at h3;have h4:=AAW _ _ 4 _ _ v4 h3;simp only[ABV,List.set_cons_zero,List.set_cons_succ] at h4;have h5:=AAW _ _ 5 _ _ v5 h4;simp only[ABV,List.set_cons_zero,List.set_cons_succ] at h5;have h6:=AAW _ _ 6 _ _ v6 h5
 simp only[ABV,List.set_cons_zero,List.set_cons_succ] at h6;have h7:=AAW _ _ 7 _ _ v7 h6;simp only[ABV,List.set_cons_zero,List.set_cons_succ] at h7;exact h7
variable {B:Nat}
theorem Ah.eight {b:Nat} {w':World} (h:Ah b w w') (v0 v1 v2 v3 v4 v5 v6 v7:Value) (hB:w.heap.size<=B) (hb:b<w.heap.size):Ah b w (q8 w' B v0 v1 v2 v3 v4 v5 v6 v7) :=
 (((h.five v0 v1 v2 v3 v4 hB hb).two 5 v5 hB hb).two 6 v6 hB hb).two 7 v7 hB hb
theorem Bv.AAx {C:EB} {r:List AJ} {k:Bool} {e:Int} (h:Bv C w r k e) (hB:C.b<B) (v0 v1 v2 v3 v4 v5 v6 v7:Value):Bv C (q8 w B v0 v1 v2 v3 v4 v5 v6 v7) r k e:=by
 have hz:C.w0.heap.size<=B:=by have:=h.ok.ge;omega
 exact (((h.P5 hB v0 v1 v2 v3 v4).Eu (by omega) hz 5 v5).Eu (by omega) hz 6 v6).Eu (by omega) hz 7 v7
theorem EU {S:Nat->Prop} {P:World->Prop} (h:Off S w P) (hB:S B) (v0 v1 v2 v3 v4 v5 v6 v7:Value):Off S (q8 w B v0 v1 v2 v3 v4 v5 v6 v7) P :=
 (((((((h.set v0 hB).set v1 hB).set v2 hB).set v3 hB).set v4 hB).set v5 hB).set v6 hB).set v7 hB
theorem zK {a0 a1 a2 a3 a4 a5 a6 a7:Value} {T:TypeId} (h:w.heap[p]? = some (.cells #[a0,a1,a2,a3,a4,a5,a6,a7] T)):(w.cell? ⟨p,0,none⟩=some a0/\w.cell? ⟨p,1,none⟩=some a1/\w.cell? ⟨p,2,none⟩=some a2/\w.cell? ⟨p,3,none⟩=some a3/\w.cell? ⟨p,4,none⟩=some a4/\w.cell? ⟨p,5,none⟩=some a5/\w.cell? ⟨p,6,none⟩=some a6/\w.cell? ⟨p,7,none⟩=some a7) /\
  (w.frozen? ⟨p,0,none⟩=false/\w.frozen? ⟨p,1,none⟩=false/\w.frozen? ⟨p,2,none⟩=false/\w.frozen? ⟨p,3,none⟩=false/\w.frozen? ⟨p,4,none⟩=false/\w.frozen? ⟨p,5,none⟩=false/\w.frozen? ⟨p,6,none⟩=false/\w.frozen? ⟨p,7,none⟩=false):=by
 refine ⟨⟨?_,?_,?_,?_,?_,?_,?_,?_⟩,AAR _ _ _ _ _ h,AAR _ _ _ _ _ h,AAR _ _ _ _ _ h,AAR _ _ _ _ _ h,AAR _ _ _ _ _ h,AAR _ _ _ _ _ h,AAR _ _ _ _ _ h,AAR _ _ _ _ _ h⟩ <;> (rw[AAN _ _ _ _ _ _ h];rfl)
theorem Ro (x y:Val) (A1:zo) (c1:Nat) (A2:zo) (c2:Nat) (A3:zo) (c3:Nat) (B1:zo) (d1:Nat) (B2:zo) (d2:Nat) (B3:zo) (d3:Nat) (w:World) (hx:Ao w x A1 A2 A3) (hy:Ao w y B1 B2 B3) :
  Calls Tryz.prog 18 #[x.v A1 c1 A2 c2 A3 c3,y.v B1 d1 B2 d2 B3 d3] w (Hy (decide (x=y)) w):=by
 have HB0:=zh (zI w (x.box A1 c1 A2 c2 A3 c3) (y.box B1 d1 B2 d2 B3 d3));have HX0:=zh (IE w (x.box A1 c1 A2 c2 A3 c3) (y.box B1 d1 B2 d2 B3 d3));have HS:=zh (Qh x y A1 c1 A2 c2 A3 c3 B1 d1 B2 d2 B3 d3 _ (hx.below HB0) (hy.below HB0));clear hx hy;generalize decide (x=y)=bb at *
 go_enter Tryz.func18,Tryz.ntmps18
 go_upto_region 1 with fail
 generalize (w.alloc (x.box A1 c1 A2 c2 A3 c3)).alloc (y.box B1 d1 B2 d2 B3 d3)=W0 at *;obtain ⟨v0,v1,v2,v3,v4,v5,v6,v7⟩:=TG HX0.out.1;obtain ⟨u0,u1,u2,u3,u4,u5,u6,u7⟩:=TG HX0.out.2.1;go_wp2_with fail;refine HS.out.mono ?_;rintro e w2 ⟨rfl,hb2⟩;have HB2:=zh (zB HB0 hb2);clear hb2 v0 v1 v2 v3 v4 v5 v6 v7 u0 u1 u2 u3 u4 u5 u6 u7;go_wp2;go_ret;exact ⟨rfl,HB2.out⟩
end Go.Proofs.YthkkllmmbefedaaGreatDoor



