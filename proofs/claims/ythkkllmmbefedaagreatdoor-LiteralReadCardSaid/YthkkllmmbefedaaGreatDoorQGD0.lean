/-
  Walks: sheaveref08.Equal.
-/
import Derived.Test.YthkkllmmbefedaaGreatDoorQNRH
import Derived.Test.YthkkllmmbefedaaGreatDoorQGA6
import Derived.Test.YthkkllmmbefedaaGreatDoorQVC1
namespace Go.Proofs.YthkkllmmbefedaaGreatDoor
open Go.RowKit
set_option maxHeartbeats 16000000
set_option maxRecDepth 100000
def Km (kd:Int) (P:PR (List Val)):PR Val:=P.bind fun p => .ok (.mk kd false 0 ⟨#[]⟩ 0 [] p.1 [],p.2)
def Fu (f:Int->List AB->Bool->PR Val) (x:AZ) (l1:List AB) (k:Bool):PR (List Val) :=
 if Ba ⟨#[93]⟩ l1=true then .ok ([],l1.tail,k) else (JK (f x.elem) l1 k).bind fun p=>(BG ⟨#[93]⟩ p.2.1).bind fun l2 => .ok (p.1,l2,p.2.2)
theorem OJ (f:Int->List AB->Bool->PR Val) (x:AZ) (l:List AB) (k:Bool):Gv f x l k=(BG ⟨#[91]⟩ l).bind fun l1=>Fu f x l1 k:=rfl
section
variable {C:CZ} {V:Vx}
def LiI (C:CZ) (V:Vx) (Rt:PR (List Val)) (n0:Nat) (W:World) (r:List AB) (k:Bool):Prop:=∃vi I,CX C V W r k 0 0 AJ vi AJ [] I []/\(I.length+r.length<=C.l.length/\r.length<=n0)/\Ev (AP false C.s V.x.elem) Rt (I.map (·.v)) r k
def LiJ (C:CZ) (V:Vx) (Rt:PR (List Val)) (n0:Nat) (W:World) (r:List AB) (k:Bool):Prop:=∃vi I,CX C V W r k 0 0 AJ vi AJ [] I []/\(I.length+r.length<=C.l.length/\r.length<=n0)/\(Ba ⟨#[44]⟩ r=true->Ev (AP false C.s V.x.elem) Rt (I.map (·.v)) r.tail k)/\(Ba ⟨#[44]⟩ r=false->Rt = .ok (I.map (·.v),r,k))
def LiF (C:CZ) (V:Vx) (P:PR (List Val)) (n0:Nat) (W:World) (r:List AB) (k:Bool):Prop:=∃vi I,CX C V W r k 0 0 AJ vi AJ [] I []/\(I.length<=2000000/\r.length<=n0)/\P = .ok (I.map (·.v),r,k)
def LiE (C:CZ) (V:Vx) (P:PR (List Val)) (n0:Nat) (W:World) (e:Int):Prop:=∃vi I r k,CX C V W r k e 0 AJ vi AJ [] I []/\(I.length<=2000000/\r.length<=n0)/\P = .error e
theorem liC {n:Nat} (ih:Dt C n) (_hpv:V.pv=V.p) (he:0<=V.x.elem/\V.x.elem<(C.s.length:Int)) {n0:Nat} (hn:n0<n) {Rt P:PR (List Val)} (hP:P=Rt.bind fun p=>(BG ⟨#[93]⟩ p.2.1).bind fun l2 => .ok (p.1,l2,p.2.2)) :
  RA C ⟨#[93]⟩ 128 [.pointer (some ⟨V.p,0,none⟩),.pointer (some ⟨V.pr,0,none⟩),.pointer (some ⟨V.px,0,none⟩)] (LiI C V Rt n0) (LiJ C V Rt n0) (LiF C V P n0) (LiE C V P n0) where
 iS:=fun W r k h=>by obtain ⟨_,_,h,_⟩:=h;exact h.rd
 jS:=fun W r k h=>by obtain ⟨_,_,h,_⟩:=h;exact h.rd
 part:=fun W r k ⟨vi,I,h,⟨h1,h2⟩,h3⟩=>by
  have Ny:=h.rd.ok.len;refine (Vh ih h (by omega) he (by omega)).mono ?_
  rintro y W' ⟨rfl,x,Me,r',k',e',g1,g2,g3,g4⟩;refine ⟨rfl,r',k',e',g1.rd,g2,fun e=>?_,fun hne=>?_⟩
  ·subst e
   have g5:=g4 rfl
   cases hp:AP false C.s V.x.elem r k with
   | error e1=>rw[hp] at g5;exact absurd (g5▸hp) (Cm false _ _ _ _)
   | ok q =>
    obtain ⟨a,r1,k1⟩:=q;rw[hp] at g5;obtain ⟨rfl,rfl,rfl,_⟩:=g5;have hlt:=(Dv false C.s V.x.elem _ _ _ _ _ hp).2;refine ⟨Me,I++[x],g1,⟨by simp;omega,by omega⟩,fun hc=>?_,fun hc=>?_⟩
    ·rw[List.map_append];exact h3.comma (Dv false C.s V.x.elem) hp hc
    ·rw[List.map_append];exact h3.fin (Dv false C.s V.x.elem) hp hc
  ·have g5:=g4 rfl
   cases hp:AP false C.s V.x.elem r k with
   | error e1 =>
    rw[hp] at g5;obtain rfl:e'=e1:=g5;exact ⟨Me,_,r',k',g1,⟨by simp;omega,by omega⟩,by rw[hP,h3.bad (Dv false C.s V.x.elem) hp];rfl⟩
   | ok q =>
    rw[hp] at g5;exact absurd g5.2.2.2 hne
 comma:=fun W r k W' ⟨vi,I,h,⟨h1,h2⟩,h3,h4⟩ hc hb hr=>by
  have:=Jl hc;exact ⟨vi,I,h.BF hb hr,⟨by omega,by omega⟩,h3 hc⟩
 fin:=fun W r k W' ⟨vi,I,h,⟨h1,h2⟩,h3,h4⟩ hc ht hb hr=>by
  have:=Jl ht;have Ny:=h.rd.ok.len;refine ⟨vi,I,h.BF hb hr,⟨by omega,by omega⟩,?_⟩
  rw[hP,h4 hc,zM];unfold BG;simp only;rw[AAC ht]
  rfl
 bad:=fun W r k W' ⟨vi,I,h,⟨h1,h2⟩,h3,h4⟩ hc ht hb hr=>by
  have Ny:=h.rd.ok.len;refine ⟨vi,I,r,k,h.BF hb hr,⟨by omega,by omega⟩,?_⟩
  rw[hP,h4 hc,zM];unfold BG;simp only;rw[Pe (by rw[ht];simp)]
  rfl
theorem Za {n:Nat} (ih:Dt C n) (hpv:V.pv=V.p) (he:0<=V.x.elem/\V.x.elem<(C.s.length:Int)) {W:World} {r:List AB} {k:Bool} (h:CX C V W r k 0 0 AJ AJ AJ [] [] []) (hn:r.length<n) :
  Calls Tryz.prog 127 #[.pointer (some ⟨C.b,0,none⟩),.string ⟨#[93]⟩,.func (.func 128) #[] #[.pointer (some ⟨V.p,0,none⟩),.pointer (some ⟨V.pr,0,none⟩),.pointer (some ⟨V.px,0,none⟩)]] W fun y W'=>y = .returned (.tuple #[]) /\
   Gl C V.W0 V.p V.x.kind r (Km V.x.kind (Fu (AP false C.s) V.x r k)) W':=by
 have hl1:=h.rd.LH.length_le;have Ny:=h.rd.ok.len
 by_cases hi:Ba ⟨#[93]⟩ r=true
 ·have hQ:Fu (AP false C.s) V.x r k = .ok ([],r.tail,k):=by unfold Fu;rw[AAC hi]
  have hc:=liC (V:=V) (C:=C) ih hpv he (n0:=r.length) hn (Rt := .error 0) (P := .error 0) rfl
  refine (NY (F:=fun W' r' k'=>Gl C V.W0 V.p V.x.kind r (Km V.x.kind (Fu (AP false C.s) V.x r k)) W') (Er:=fun _ _=>False) { iS:=fun _ _ _ (h:False)=>h.elim,jS:=fun _ _ _ (h:False)=>h.elim,part:=fun _ _ _ (h:False)=>h.elim,comma:=fun _ _ _ _ (h:False)=>h.elim,fin:=fun _ _ _ _ (h:False)=>h.elim,bad:=fun _ _ _ _ (h:False)=>h.elim } h.rd (fun _ W' g1 g2=>?_) (fun g=>by rw[hi] at g;cases g)).mono ?_
  ·have:=Jl hi
   exact F4 (h.BF g1 g2).fl (by omega) ⟨by simp,by simp,by simp⟩ rfl (by rw[hQ];rfl)
  ·rintro y w6 ⟨rfl,r6,k6,e6,g1,g2,g3⟩
   refine ⟨rfl,?_⟩
   by_cases hz:e6=0
   ·exact g2 hz
   ·exact (g3 hz).elim
 ·have hi':Ba ⟨#[93]⟩ r=false:=by simpa using hi
  have hc:=liC (V:=V) (C:=C) ih hpv he (n0:=r.length) hn (Rt:=JK (AP false C.s V.x.elem) r k) rfl;have hQ:Fu (AP false C.s) V.x r k=(JK (AP false C.s V.x.elem) r k).bind fun p=>(BG ⟨#[93]⟩ p.2.1).bind fun l2 => .ok (p.1,l2,p.2.2):=by unfold Fu;rw[Pe hi]
  refine (NY hc h.rd (fun g=>absurd g hi) (fun _ W' g1 g2=>⟨AJ,[],h.BF g1 g2,⟨by simp;omega,AAQ _⟩,Ev.start _ _ _⟩)).mono ?_
  rintro y w6 ⟨rfl,r6,k6,e6,g1,g2,g3⟩;refine ⟨rfl,?_⟩
  by_cases hz:e6=0
  ·subst hz
   obtain ⟨vi,I,j1,⟨j2,j3⟩,j4⟩:=g2 rfl;exact F4 j1.fl j3 ⟨by simp,j2,by simp⟩ rfl (by rw[hQ,j4];rfl)
  ·obtain ⟨vi,I,r7,k7,j1,⟨j2,j3⟩,j4⟩:=g3 hz
   exact Bw j1.fl j3 ⟨by simp,j2,by simp⟩ (by rw[hQ,j4];rfl)
end
def VaP (C:CZ) (W0:World) (p:Nat) (kd:Int) (r:List AB) (P:PR Val) (W':World):Prop:=∃bo it st di vk vi vr K I R r' k' e',CF C W' r' k' e'/\Gf p W' kd bo it st di vk vi vr K I R/\Ah C.b W0 W'/\r'.length<=r.length/\(K.length<=2000000/\I.length<=2000000/\R.length<=2000000) /\
 match P with
 | .ok (v,r1,k1)=>v = .mk kd bo it st di (K.map (·.v)) (I.map (·.v)) R/\r'=r1/\k'=k1/\e'=0
 | .error e1=>e'=e1
variable {p:Nat}
theorem Gl.va {C:CZ} {W0:World} {kd:Int} {r:List AB} {P:PR Val} {W':World} (h:Gl C W0 p kd r P W'):VaP C W0 p kd r P W':=by
 obtain ⟨di,vk,vi,vr,K,I,R,r',k',e',h1,h2,h3,h4⟩:=h;exact ⟨false,0,⟨#[]⟩,di,vk,vi,vr,K,I,R,r',k',e',h1.rd,h1.vb,h1.fr,h2,h3,h4⟩
abbrev q8 (w:World) (p:Nat) (v0 v1 v2 v3 v4 v5 v6 v7:Value):World:=(((q5 w p v0 v1 v2 v3 v4).setCell ⟨p,5,none⟩ v5).setCell ⟨p,6,none⟩ v6).setCell ⟨p,7,none⟩ v7
variable {w:World}
theorem Cw {a0 a1 a2 a3 a4 a5 a6 a7:Value} {T:TypeId} (h:w.heap[p]? = some (.cells #[a0,a1,a2,a3,a4,a5,a6,a7] T)) (v0 v1 v2 v3 v4 v5 v6 v7:Value):(q8 w p v0 v1 v2 v3 v4 v5 v6 v7).heap[p]? = some (.cells #[v0,v1,v2,v3,v4,v5,v6,v7] T):=by
 have h0:=AAV _ _ 0 _ _ v0 h;simp only[AAd,List.set_cons_zero] at h0;have h1:=AAV _ _ 1 _ _ v1 h0;simp only[AAd,List.set_cons_zero,List.set_cons_succ] at h1;have h2:=AAV _ _ 2 _ _ v2 h1;simp only[AAd,List.set_cons_zero,List.set_cons_succ] at h2;have h3:=AAV _ _ 3 _ _ v3 h2
 simp only[AAd,List.set_cons_zero,List.set_cons_succ] at h3;have h4:=AAV _ _ 4 _ _ v4 h3;simp only[AAd,List.set_cons_zero,List.set_cons_succ] at h4;have h5:=AAV _ _ 5 _ _ v5 h4;simp only[AAd,List.set_cons_zero,List.set_cons_succ] at h5;have h6:=AAV _ _ 6 _ _ v6 h5
 simp only[AAd,List.set_cons_zero,List.set_cons_succ] at h6;have h7:=AAV _ _ 7 _ _ v7 h6;simp only[AAd,List.set_cons_zero,List.set_cons_succ] at h7;exact h7
variable {B:Nat}
theorem Ah.eight {b:Nat} {w':World} (h:Ah b w w') (v0 v1 v2 v3 v4 v5 v6 v7:Value) (hB:w.heap.size<=B) (hb:b<w.heap.size):Ah b w (q8 w' B v0 v1 v2 v3 v4 v5 v6 v7) :=
 (((h.five v0 v1 v2 v3 v4 hB hb).two 5 v5 hB hb).two 6 v6 hB hb).two 7 v7 hB hb
theorem CF.bS {C:CZ} {r:List AB} {k:Bool} {e:Int} (h:CF C w r k e) (hB:C.b<B) (v0 v1 v2 v3 v4 v5 v6 v7:Value):CF C (q8 w B v0 v1 v2 v3 v4 v5 v6 v7) r k e:=by
 have hz:C.w0.heap.size<=B:=by have:=h.ok.ge;omega
 exact (((h.Yz hB v0 v1 v2 v3 v4).Ef (by omega) hz 5 v5).Ef (by omega) hz 6 v6).Ef (by omega) hz 7 v7
theorem FJ {S:Nat->Prop} {P:World->Prop} (h:Off S w P) (hB:S B) (v0 v1 v2 v3 v4 v5 v6 v7:Value):Off S (q8 w B v0 v1 v2 v3 v4 v5 v6 v7) P :=
 (((((((h.set v0 hB).set v1 hB).set v2 hB).set v3 hB).set v4 hB).set v5 hB).set v6 hB).set v7 hB
theorem zK {a0 a1 a2 a3 a4 a5 a6 a7:Value} {T:TypeId} (h:w.heap[p]? = some (.cells #[a0,a1,a2,a3,a4,a5,a6,a7] T)):(w.cell? ⟨p,0,none⟩=some a0/\w.cell? ⟨p,1,none⟩=some a1/\w.cell? ⟨p,2,none⟩=some a2/\w.cell? ⟨p,3,none⟩=some a3/\w.cell? ⟨p,4,none⟩=some a4/\w.cell? ⟨p,5,none⟩=some a5/\w.cell? ⟨p,6,none⟩=some a6/\w.cell? ⟨p,7,none⟩=some a7) /\
  (w.frozen? ⟨p,0,none⟩=false/\w.frozen? ⟨p,1,none⟩=false/\w.frozen? ⟨p,2,none⟩=false/\w.frozen? ⟨p,3,none⟩=false/\w.frozen? ⟨p,4,none⟩=false/\w.frozen? ⟨p,5,none⟩=false/\w.frozen? ⟨p,6,none⟩=false/\w.frozen? ⟨p,7,none⟩=false):=by
 refine ⟨⟨?_,?_,?_,?_,?_,?_,?_,?_⟩,AAK _ _ _ _ _ h,AAK _ _ _ _ _ h,AAK _ _ _ _ _ h,AAK _ _ _ _ _ h,AAK _ _ _ _ _ h,AAK _ _ _ _ _ h,AAK _ _ _ _ _ h,AAK _ _ _ _ _ h⟩ <;> (rw[AAB _ _ _ _ _ _ h];rfl)
theorem Rz (x y:Val) (A1:zo) (c1:Nat) (A2:zo) (c2:Nat) (A3:zo) (c3:Nat) (B1:zo) (d1:Nat) (B2:zo) (d2:Nat) (B3:zo) (d3:Nat) (w:World) (hx:BO w x A1 A2 A3) (hy:BO w y B1 B2 B3) :
  Calls Tryz.prog 18 #[x.v A1 c1 A2 c2 A3 c3,y.v B1 d1 B2 d2 B3 d3] w (IW (decide (x=y)) w):=by
 have HB0:=zh (zI w (x.box A1 c1 A2 c2 A3 c3) (y.box B1 d1 B2 d2 B3 d3));have HX0:=zh (Ig w (x.box A1 c1 A2 c2 A3 c3) (y.box B1 d1 B2 d2 B3 d3));have HS:=zh (Qb x y A1 c1 A2 c2 A3 c3 B1 d1 B2 d2 B3 d3 _ (hx.below HB0) (hy.below HB0));clear hx hy;generalize decide (x=y)=bb at *
 go_enter Tryz.func18,Tryz.ntmps18
 go_upto_region 1 with fail
 generalize (w.alloc (x.box A1 c1 A2 c2 A3 c3)).alloc (y.box B1 d1 B2 d2 B3 d3)=W0 at *;obtain ⟨v0,v1,v2,v3,v4,v5,v6,v7⟩:=TQ HX0.out.1;obtain ⟨u0,u1,u2,u3,u4,u5,u6,u7⟩:=TQ HX0.out.2.1;go_wp2_with fail;refine HS.out.mono ?_;rintro e w2 ⟨rfl,hb2⟩;have HB2:=zh (zB HB0 hb2);clear hb2 v0 v1 v2 v3 v4 v5 v6 v7 u0 u1 u2 u3 u4 u5 u6 u7;go_wp2;go_ret;exact ⟨rfl,HB2.out⟩
end Go.Proofs.YthkkllmmbefedaaGreatDoor



