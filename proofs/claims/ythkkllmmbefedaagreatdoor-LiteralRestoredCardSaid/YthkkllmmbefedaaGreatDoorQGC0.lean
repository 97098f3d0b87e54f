/-
  Walks: the literal's reader: union.
-/
import Derived.Test.YthkkllmmbefedaaGreatDoorQGR0
import Derived.Test.YthkkllmmbefedaaGreatDoorQGA8
namespace Go.Proofs.YthkkllmmbefedaaGreatDoor
open Go.RowKit
set_option maxHeartbeats 16000000
set_option maxRecDepth 100000
structure Gy (C:EB) (W0:World) (p:Nat) (kd:Int) (W:World) (r:List AJ) (k:Bool) (e di:Int) (vk vi vr:Value) (K I:List Aj) (R:List Af):Prop where
 rd:Bv C W r k e
 vb:Gt p W kd false 0 ⟨#[]⟩ di vk vi vr K I R
 fr:Ah C.b W0 W
 lo:W0.heap.size<=p
 lb:C.b<W0.heap.size
abbrev AP:Value := .slice none 0 0
def GY (C:EB) (W0:World) (p:Nat) (kd:Int) (r:List AJ) (P:PR Val) (W':World):Prop:=∃di vk vi vr K I R r' k' e',Gy C W0 p kd W' r' k' e' di vk vi vr K I R/\r'.length<=r.length/\(K.length<=2000000/\I.length<=2000000/\R.length<=2000000) /\
 match P with
 | .ok (v,r1,k1)=>v = .mk kd false 0 ⟨#[]⟩ di (K.map (·.v)) (I.map (·.v)) R/\r'=r1/\k'=k1/\e'=0
 | .error e1=>e'=e1
section
variable {C:EB} {W0 W W':World} {p:Nat} {kd:Int} {r r':List AJ} {k k':Bool} {e e' di:Int} {vk vi vr:Value} {K I:List Aj} {R:List Af} {V:Vx}
theorem CR.fl (h:CR C V W r k e di vk vi vr K I R):Gy C V.W0 V.p V.x.kind W r k e di vk vi vr K I R:=⟨h.rd,h.vb,h.fr,h.lo,h.lb⟩
theorem Gy.bp (h:Gy C W0 p kd W r k e di vk vi vr K I R):C.b<p:=AA2 h.lb h.lo
theorem Gy.BJ (h:Gy C W0 p kd W r k e di vk vi vr K I R) (hb:Ah C.b W W') (hr:Bv C W' r' k' e'):Gy C W0 p kd W' r' k' e' di vk vi vr K I R:=⟨hr,h.vb.BJ hb h.bp,h.fr.trans hb,h.lo,h.lb⟩
theorem Gy.below (h:Gy C W0 p kd W r k e di vk vi vr K I R) (hb:Below W.heap.size W W'):Gy C W0 p kd W' r k e di vk vi vr K I R:=h.BJ (h.rd.BJ hb) (h.rd.below hb)
abbrev P6 (C:EB):Obj := .cells #[.pointer (some ⟨C.b,0,none⟩)] 103
abbrev vX (p:Nat):Obj := .cells #[.pointer (some ⟨p,0,none⟩)] 172
theorem Gy.three {x:Aa} (h:Gy C W0 p x.kind W r k e di vk vi vr K I R) {As:zo} {cs:Nat} {Am:zo} {cm:Nat} (ht:JY C.w0 x As Am) :
  CR C ⟨W0,x,As,cs,Am,cm,p,W.heap.size,W.heap.size+1,W.heap.size+2⟩ (((W.alloc (P6 C)).alloc (x.box As cs Am cm)).alloc (vX p)) r k e di vk vi vr K I R:=by
 have hb1:=zI W (P6 C) (x.box As cs Am cm);have hb2:=zD ((W.alloc (P6 C)).alloc (x.box As cs Am cm)) (vX p);have hb:=zB hb1 hb2;have hf:=h.below hb;refine ⟨hf.rd,hf.vb,hf.fr,h.lo,h.lb,ht,?_,?_,.inr ?_⟩
 ·exact Aw (Aw (AAL W (P6 C)) (zD _ _)) hb2
 ·have:=AAL (W.alloc (P6 C)) (x.box As cs Am cm)
  rw[show (W.alloc (P6 C)).heap.size=W.heap.size+1 by simp] at this
  exact Aw this hb2
 ·have:=AAL ((W.alloc (P6 C)).alloc (x.box As cs Am cm)) (vX p)
  rw[show ((W.alloc (P6 C)).alloc (x.box As cs Am cm)).heap.size=W.heap.size+2 by simp] at this
  exact this
theorem Gy.pvp (h:Gy C W0 p kd W r k e di vk vi vr K I R):W.heap.size+2≠p:=by have:=h.vb.lt;omega
end
def gB (f:Int->List AJ->Bool->PR Val) (x:Aa) (l1:List AJ) (k:Bool):PR (List (Val×Val)) :=
 if BX ⟨#[45,62]⟩ l1=true then (Aq ⟨#[93]⟩ l1.tail).bind fun l2 => .ok ([],l2,k)
  else if BX ⟨#[93]⟩ l1=true then .error 2
  else (KP (DZ f x) l1 k).bind fun p=>(Aq ⟨#[93]⟩ p.2.1).bind fun l2 => .ok (p.1,l2,p.2.2)
theorem rR (f:Int->List AJ->Bool->PR Val) (x:Aa) (l:List AJ) (k:Bool):Hf f x l k=(Aq ⟨#[91]⟩ l).bind fun l1=>gB f x l1 k:=rfl
def WK (kd:Int) (P:PR (List (Val×Val))):PR Val:=P.bind fun p => .ok (.mk kd false 0 ⟨#[]⟩ 0 (p.1.map Prod.fst) (p.1.map Prod.snd) [],p.2)
def GD (K I:List Aj):List (Val×Val):=(K.map (·.v)).zip (I.map (·.v))
variable {I K:List Aj}
theorem NZ (h:K.length=I.length) (x y:Aj):GD (K++[x]) (I++[y])=GD K I++[(x.v,y.v)]:=by
 unfold GD;rw[List.map_append,List.map_append,List.zip_append (by simp[h])]
 rfl
theorem V9 (h:K.length=I.length):(GD K I).map Prod.fst=K.map (·.v):=by
 unfold GD;exact List.map_fst_zip (by simp[h])
theorem V5 (h:K.length=I.length):(GD K I).map Prod.snd=I.map (·.v):=by
 unfold GD;exact List.map_snd_zip (by simp[h])
section
variable {C:EB} {V:Vx}
def EnI (C:EB) (V:Vx) (Rt:PR (List (Val×Val))) (W:World) (r:List AJ) (k:Bool):Prop:=∃vk vi K I,CR C V W r k 0 0 vk vi AP K I []/\(K.length=I.length/\I.length+r.length<=C.l.length)/\IX (DZ (Ag false C.s) V.x) Rt (GD K I) r k
def EnJ (C:EB) (V:Vx) (Rt:PR (List (Val×Val))) (W:World) (r:List AJ) (k:Bool):Prop:=∃vk vi K I,CR C V W r k 0 0 vk vi AP K I []/\(K.length=I.length/\I.length+r.length<=C.l.length)/\(BX ⟨#[44]⟩ r=true->IX (DZ (Ag false C.s) V.x) Rt (GD K I) r.tail k)/\(BX ⟨#[44]⟩ r=false->Rt = .ok (GD K I,r,k))
def EnF (C:EB) (V:Vx) (Rt:PR (List (Val×Val))) (W:World) (r:List AJ) (k:Bool):Prop:=∃vk vi K I,CR C V W r k 0 0 vk vi AP K I []/\(K.length=I.length/\I.length+r.length<=C.l.length)/\∃l,Rt = .ok (GD K I,l,k)/\Aq ⟨#[93]⟩ l = .ok r
def EnE (C:EB) (V:Vx) (Rt:PR (List (Val×Val))) (n0:Nat) (W:World) (e:Int):Prop:=∃vk vi K I r k,CR C V W r k e 0 vk vi AP K I []/\(K.length<=2000000/\I.length<=2000000)/\r.length<=n0/\(Rt.bind fun p=>(Aq ⟨#[93]⟩ p.2.1).bind fun l2 => .ok (p.1,l2,p.2.2):PR (List (Val×Val))) = .error e
theorem L8 (s:List Aa) (x:Aa):Dec (DZ (Ag false s) x):=JU (fun t=>G5 false s t) x
theorem sO {s:List Aa} {x:Aa} {l:List AJ} {k:Bool}:DZ (Ag false s) x l k ≠ .error 0:=fun h=>by
 unfold DZ at h
 rcases MI h with h|⟨p,_,h⟩
 ·exact Gf false _ _ _ _ h
 ·rcases MI h with h|⟨l1,_,h⟩
  ·exact Ef _ _ h
  ·rcases MI h with h|⟨q,_,h⟩
   ·exact Gf false _ _ _ _ h
   ·cases h
theorem ABb {n:Nat} (ih:Dp C n) (hpv:V.pv≠V.p) (he1:0<=V.x.key/\V.x.key<(C.s.length:Int)) (he:0<=V.x.elem/\V.x.elem<(C.s.length:Int)) {r0:List AJ} (hn:r0.length<n) {Rt:PR (List (Val×Val))} :
  RG C ⟨#[93]⟩ 162 [.pointer (some ⟨V.pv,0,none⟩),.pointer (some ⟨V.pr,0,none⟩),.pointer (some ⟨V.px,0,none⟩)] (fun W r k=>EnI C V Rt W r k/\r.length<=r0.length) (fun W r k=>EnJ C V Rt W r k/\r.length<=r0.length) (EnF C V Rt) (EnE C V Rt r0.length) where
 iS:=fun W r k h=>by obtain ⟨⟨_,_,_,_,h,_⟩,_⟩:=h;exact h.rd
 jS:=fun W r k h=>by obtain ⟨⟨_,_,_,_,h,_⟩,_⟩:=h;exact h.rd
 part:=fun W r k ⟨⟨vk,vi,K,I,h,⟨h1,h2⟩,h3⟩,h4⟩=>by
  have SE:=h.rd.ok.len;refine (SH ih h hpv (by omega) he1 he (by omega) (by omega)).mono ?_
  rintro y W' ⟨rfl,x,z,Kn,Gd,r',k',e',g1,g2,g3⟩;refine ⟨rfl,r',k',e',g1.rd,g2,fun e=>?_,fun hne=>?_⟩
  ·subst e
   cases hp:DZ (Ag false C.s) V.x r k with
   | error e1=>rw[hp] at g3;exact absurd (g3▸hp) sO
   | ok q =>
    obtain ⟨⟨a,b⟩,r1,k1⟩:=q;rw[hp] at g3;obtain ⟨j1,j2,rfl,rfl,_⟩:=g3;have hlt:=(L8 C.s V.x _ _ _ _ _ hp).2;have hx:((x.v,z.v):Val×Val)=(a,b):=by rw[j1,j2]
    refine ⟨⟨Kn,Gd,K++[x],I++[z],g1,⟨by simp[h1],by simp;omega⟩,fun hc=>?_,fun hc=>?_⟩,by omega⟩
    ·rw[NZ h1,hx];exact h3.comma (L8 _ _) hp hc
    ·rw[NZ h1,hx];exact h3.fin (L8 _ _) hp hc
  ·cases hp:DZ (Ag false C.s) V.x r k with
   | error e1 =>
    rw[hp] at g3;obtain rfl:e'=e1:=g3;exact ⟨Kn,Gd,_,_,r',k',g1,⟨by simp;omega,by simp;omega⟩,by omega,by rw[h3.bad (L8 _ _) hp];rfl⟩
   | ok q =>
    rw[hp] at g3;exact absurd g3.2.2.2.2 hne
 comma:=fun W r k W' ⟨⟨vk,vi,K,I,h,⟨h1,h2⟩,h3,h4⟩,h5⟩ hc hb hr=>by
  have:=JL hc;exact ⟨⟨vk,vi,K,I,h.BJ hb hr,⟨h1,by omega⟩,h3 hc⟩,by omega⟩
 fin:=fun W r k W' ⟨⟨vk,vi,K,I,h,⟨h1,h2⟩,h3,h4⟩,h5⟩ hc ht hb hr=>by
  have:=JL ht;exact ⟨vk,vi,K,I,h.BJ hb hr,⟨h1,by omega⟩,r,h4 hc,by unfold Aq;rw[AAH ht]⟩
 bad:=fun W r k W' ⟨⟨vk,vi,K,I,h,⟨h1,h2⟩,h3,h4⟩,h5⟩ hc ht hb hr=>by
  have SE:=h.rd.ok.len;refine ⟨vk,vi,K,I,r,k,h.BJ hb hr,⟨by omega,by omega⟩,h5,?_⟩
  rw[h4 hc,zM];unfold Aq;simp only;rw[Pd (by rw[ht];simp)]
  rfl
end
section
variable {C:EB} {W0 W':World} {p:Nat} {kd:Int} {r r':List AJ} {k k':Bool} {e' di:Int} {vk vi vr:Value} {K I:List Aj} {R:List Af}
theorem Bu {P:PR Val} (h:Gy C W0 p kd W' r' k' e' di vk vi vr K I R) (hl:r'.length<=r.length) (hz:K.length<=2000000/\I.length<=2000000/\R.length<=2000000) (hp:P = .error e'):GY C W0 p kd r P W' :=
 ⟨di,vk,vi,vr,K,I,R,r',k',e',h,hl,hz,by rw[hp]⟩
theorem Fw {P:PR Val} (h:Gy C W0 p kd W' r' k' 0 di vk vi vr K I R) (hl:r'.length<=r.length) (hz:K.length<=2000000/\I.length<=2000000/\R.length<=2000000) {v:Val} (hv:v = .mk kd false 0 ⟨#[]⟩ di (K.map (·.v)) (I.map (·.v)) R) (hp:P = .ok (v,r',k')):GY C W0 p kd r P W' :=
 ⟨di,vk,vi,vr,K,I,R,r',k',0,h,hl,hz,by rw[hp];exact ⟨hv,rfl,rfl,rfl⟩⟩
end
theorem UJ (kd e:Int):WK kd (.error e) = .error e:=rfl
theorem X0 (kd:Int) (L:List (Val×Val)) (l:List AJ) (k:Bool):WK kd (.ok (L,l,k)) = .ok (.mk kd false 0 ⟨#[]⟩ 0 (L.map Prod.fst) (L.map Prod.snd) [],l,k):=rfl
theorem z3:([]:List Aj).length<=2000000/\([]:List Aj).length<=2000000/\([]:List Af).length<=2000000:=⟨by decide,by decide,by decide⟩
variable {k:Bool} {r:List AJ} {cm cs n p:Nat} {C:EB} {x:Aa} {W W0:World} {Am As:zo}
theorem Ul (ih:Dp C n) (ht:JY C.w0 x As Am) (h:Gy C W0 p x.kind W r k 0 0 AP AP AP [] [] []) (hn:r.length<=n) (he1:0<=x.key/\x.key<(C.s.length:Int)) (he:0<=x.elem/\x.elem<(C.s.length:Int)):
  Calls Tryz.prog 129 #[.pointer (some ⟨C.b,0,none⟩),x.v As cs Am cm,.pointer (some ⟨p,0,none⟩)] W fun y W'=>y = .returned (.tuple #[])/\GY C W0 p x.kind r (WK x.kind (Hf (Ag false C.s) x r k)) W':=by
 have oN:=zh (h.three (cs:=cs) (cm:=cm) ht);have QD:=zh h.pvp;have HN:=zh hn;have EI:=zh ih;have Oc:=zh he1;have KX:=zh he;have uU:=zh (rR (Ag false C.s) x r k);clear h ih hn he1 he ht
 go_enter Tryz.func129,Tryz.ntmps129
 go_upto_region 1 with fail
 generalize ((W.alloc (P6 C)).alloc (x.box As cs Am cm)).alloc (vX p)=W1 at *;generalize hV:(⟨W0,x,As,cs,Am,cm,p,W.heap.size,W.heap.size+1,W.heap.size+2⟩:Vx)=V at *;have HX:Hid (V.x=x/\V.p=p/\V.W0=W0):=by rw[<-hV];exact ⟨rfl,rfl,rfl⟩
 have e1:W.heap.size=V.pr:=by rw[<-hV]
 have e2:W.heap.size+1=V.px:=by rw[<-hV]
 have e3:W.heap.size+2=V.pv:=by rw[<-hV]
 have e4:p=V.p:=by rw[<-hV]
 have qA:Hid (V.pv≠V.p):=by show _≠_;rw[<-e3,<-e4];exact QD.out
 rw[show W.heap.size+1+1=V.pv from e3,e2,e1];clear hV e1 e2 e3 QD;have Kl:Hid (∀W' r' k' e' di vk vi vr K I R,CR C V W' r' k' e' di vk vi vr K I R->Gy C W0 p x.kind W' r' k' e' di vk vi vr K I R):=fun W' r' k' e' di vk vi vr K I R h=>by
  have:=h.fl;obtain ⟨g1,g2,g3⟩:=HX.out;rw[g1,g2,g3] at this;exact this
 clear e4;have rr:=(oN.out.reads (Ah.refl _ _)).1.2.2.2.1
 go_upto_if 12 with (go_at_call 126;refine (BO ⟨#[91]⟩ oN.out.rd).mono ?_;intro y w3 h3;obtain rfl:=h3.1;obtain ⟨hb3,r1,e1,hr3,hs3⟩:=Eo h3;have Je:=zh (oN.out.BJ hb3 hr3);have Gx:=zh hs3;have rr3:=(Je.out.reads (Ah.refl _ _)).1.2.2.2.1;have rz3:=hr3.zero;clear h3 hb3 hr3 hs3)
 have MV:=zh (EQ Gx)
 by_cases he:e1=0
 case neg =>
  have q1:(e1 != 0)=true:=by simp[he]
  have HP:Hid (WK x.kind (Hf (Ag false C.s) x r k) = .error e1):=by
   show _=_
   have hs:=MV.out;rw[uU.out]
   cases hsy:Aq ⟨#[91]⟩ r with
   | error e2=>rw[hsy] at hs;rw[hs.1];rfl
   | ok l=>rw[hsy] at hs;exact absurd hs.2 he
  clear he;go_wp2;refine bodyPost_ret (results_none Tryz.results129 _ _ _) rfl ⟨rfl,Bu (Kl.out _ _ _ _ _ _ _ _ _ _ _ Je) Gx.out.1 z3 HP⟩
 subst he;obtain ⟨HQ,Dz⟩:Hid (Hf (Ag false C.s) x r k=gB (Ag false C.s) x r1 k)/\Hid (r1.length<r.length):=by
  have hs:=MV.out
  cases hsy:Aq ⟨#[91]⟩ r with
  | error e2=>rw[hsy] at hs;exact absurd rfl hs.2
  | ok l =>
   rw[hsy] at hs;obtain ⟨rfl,_⟩:=hs;exact ⟨by show _=_;rw[uU.out,hsy];rfl,(zU hsy).1.2⟩
 clear MV Gx uU rr oN
 cases ha:BX ⟨#[45,62]⟩ r1 with
 | true =>
  have HA:=zh ha;have HP:Hid (Hf (Ag false C.s) x r k=(Aq ⟨#[93]⟩ r1.tail).bind fun l2 => .ok ([],l2,k)):=by show _=_;rw[HQ.out];unfold gB;rw[AAH ha]
  obtain ⟨t,q,rfl,_,_⟩:=Cr ha;clear ha;go_wp2_with (first|(go_at_call 160;refine (zX ⟨#[45,62]⟩ Je.out.rd).mono ?_;rintro y w4 ⟨rfl,hb4⟩;rw[HA.out];have FP:=zh (Je.out.below hb4);have qi:=(FP.out.reads (Ah.refl _ _)).1.2.2.2.1;obtain ⟨i,hi,c2,f2,hi2,U7⟩:=FP.out.rd.af;clear hb4));have HV5:=zh (FP.out.BJ ((Ah.refl _ _).set 2 (.int .i64 ((i:Int)+1))) (U7.out.1 _ _ _ FP.out.rd))
  refine (BO ⟨#[93]⟩ HV5.out.rd).mono ?_
  intro y w6 h6
  obtain rfl:=h6.1;obtain ⟨hb6,r6,e6,hr6,hs6⟩:=Eo h6;have DL:=zh (Kl.out _ _ _ _ _ _ _ _ _ _ _ (HV5.out.BJ hb6 hr6));have MV:=zh (EQ hs6);have oW:=zh hs6.1;clear h6 hb6 hr6 hs6;go_wp2;refine bodyPost_ret (results_none Tryz.results129 _ _ _) rfl ⟨rfl,?_⟩;have hl:r6.length<=r.length:=by have:=oW.out;have:=Dz.out;rw[AAS] at this;omega
  have hs:=MV.out;have hp:=HP.out;rw[List.tail_cons] at hp
  cases hsy:Aq ⟨#[93]⟩ q with
  | error e2 =>
   rw[hsy] at hs hp;rw[Cv] at hp;have h9:WK x.kind (Hf (Ag false C.s) x r k) = .error e6:=by rw[hp,UJ,hs.1]
   exact Bu DL hl z3 h9
  | ok l =>
   rw[hsy] at hs hp;obtain ⟨rfl,rfl⟩:=hs;exact Fw DL hl z3 rfl (by rw[hp,zM,X0];rfl)
 | false =>
  have HA:=zh ha
  cases hb:BX ⟨#[93]⟩ r1 with
  | true =>
   have HB:=zh hb;have HP:Hid (WK x.kind (Hf (Ag false C.s) x r k) = .error 2):=by show _=_;rw[HQ.out];unfold gB;rw[Pd (by rw[ha];simp),AAH hb];rfl
   clear ha hb;go_wp2_with fail;refine (zX ⟨#[45,62]⟩ Je.out.rd).mono ?_;rintro y w4 ⟨rfl,hb4⟩;rw[HA.out];have FP:=zh (Je.out.below hb4);have qi:=(FP.out.reads (Ah.refl _ _)).1.2.2.2.1;clear hb4;go_wp2_with fail;refine (zX ⟨#[93]⟩ FP.out.rd).mono ?_;rintro y w5 ⟨rfl,hb5⟩;rw[HB.out];have HV5:=zh (FP.out.below hb5);have rr5:=(HV5.out.reads (Ah.refl _ _)).1.2.2.2.1;clear hb5;go_wp2_with fail
   refine (BZ 2 HV5.out.rd).mono ?_;rintro y w6 ⟨rfl,g1,g2⟩;have DL:=zh (Kl.out _ _ _ _ _ _ _ _ _ _ _ (HV5.out.BJ g2 g1));clear g1 g2;go_wp2;refine bodyPost_ret (results_none Tryz.results129 _ _ _) rfl ⟨rfl,Bu DL (AAV Dz) z3 HP⟩
  | false =>
   have HB:=zh hb;have HP:Hid (Hf (Ag false C.s) x r k=(KP (DZ (Ag false C.s) x) r1 k).bind fun p=>(Aq ⟨#[93]⟩ p.2.1).bind fun l2 => .ok (p.1,l2,p.2.2)):=by show _=_;rw[HQ.out];unfold gB;rw[Pd (by rw[ha];simp),Pd (by rw[hb];simp)]
   clear ha hb;go_wp2_with fail;refine (zX ⟨#[45,62]⟩ Je.out.rd).mono ?_;rintro y w4 ⟨rfl,hb4⟩;rw[HA.out];have FP:=zh (Je.out.below hb4);have qi:=(FP.out.reads (Ah.refl _ _)).1.2.2.2.1;clear hb4;go_wp2_with fail;refine (zX ⟨#[93]⟩ FP.out.rd).mono ?_;rintro y w5 ⟨rfl,hb5⟩;rw[HB.out];have HV5:=zh (FP.out.below hb5);have rr5:=(HV5.out.reads (Ah.refl _ _)).1.2.2.2.1;clear hb5;go_wp2_with fail
   have tZ:Hid (V.x=x):=HX.out.1;have hc:=ABb (C:=C) (V:=V) EI qA (by rw[tZ.out];exact Oc.out) (by rw[tZ.out];exact KX.out) (r0:=r1) (by have:=Dz.out;have:=HN.out;omega) (Rt:=KP (DZ (Ag false C.s) V.x) r1 k)
   refine (P9 hc HV5.out.rd (fun h=>by rw[HB.out] at h;cases h) (fun _ W' g1 g2=>⟨⟨AP,AP,[],[],HV5.out.BJ g1 g2,⟨rfl,by have:=g2.Ta.length_le;simp;omega⟩,IX.start _ _ _⟩,AAP _⟩)).mono ?_
   rintro y w6 ⟨rfl,r6,k6,e6,g1,g2,g3⟩;have HG2:=zh g2;have KW:=zh g3;have uN:=zh g1;clear g1 g2 g3 hc;go_wp2;refine bodyPost_end (results_none Tryz.results129 _ _ _) rfl ⟨rfl,?_⟩
   by_cases hz:e6=0
   ·subst hz
    obtain ⟨vk,vi,K,I,g1,⟨g2,g3⟩,l,g4,g5⟩:=HG2.out rfl;rw[tZ.out] at g4;have hlt:=(zU g5).1.2;have hl:=(OL (L8 C.s x) _ _ _ _ _ _ g4).2;have h6:=g1.rd.ok.len;refine Fw (Kl.out _ _ _ _ _ _ _ _ _ _ _ g1) (by have:=Dz.out;omega) ⟨by omega,by omega,by simp⟩ ?_ (by rw[HP.out,g4,zM,g5,zM,X0])
    rw[V9 g2,V5 g2]
   ·obtain ⟨vk,vi,K,I,r7,k7,g1,⟨g2,g3⟩,g5,g4⟩:=KW.out hz
    rw[tZ.out] at g4;refine Bu (Kl.out _ _ _ _ _ _ _ _ _ _ _ g1) (by have:=Dz.out;omega) ⟨by omega,by omega,by simp⟩ (by rw[HP.out,g4,UJ])
def Vq (kd:Int) (P:KS):PR Val:=P.bind fun p => .ok (.mk kd false 0 ⟨#[]⟩ 0 [] p.1.1 p.1.2,p.2)
theorem eB (kd e:Int):Vq kd (.error e) = .error e:=rfl
theorem lX (kd:Int) (a:List Val) (b:List Af) (l:List AJ) (k:Bool):Vq kd (.ok ((a,b),l,k)) = .ok (.mk kd false 0 ⟨#[]⟩ 0 [] a b,l,k):=rfl
section
variable {C:EB} {V:Vx}
def RcI (C:EB) (V:Vx) (Rt:KS) (n0:Nat) (W:World) (r:List AJ) (k:Bool):Prop:=∃vi vr I R,CR C V W r k 0 0 AP vi vr [] I R/\(I.length<=V.x.AA.length/\I.length+R.length+r.length<=C.l.length/\r.length<=n0)/\ML (Ag false C.s) Rt (I.map (·.v)) R (V.x.AA.drop I.length) r k
def RcJ (C:EB) (V:Vx) (Rt:KS) (n0:Nat) (W:World) (r:List AJ) (k:Bool):Prop:=∃vi vr I R,CR C V W r k 0 0 AP vi vr [] I R/\(I.length<=V.x.AA.length/\I.length+R.length+r.length<=C.l.length/\r.length<=n0)/\Pk (Ag false C.s) Rt (I.map (·.v)) R (V.x.AA.drop I.length) r k
def RcF (C:EB) (V:Vx) (Rt:KS) (n0:Nat) (W:World) (r:List AJ) (k:Bool):Prop:=∃vi vr I R,CR C V W r k 0 0 AP vi vr [] I R/\(I.length+R.length+r.length<=C.l.length/\r.length<=n0)/\Rt = .ok ((I.map (·.v),R),r,k)
def RcE (C:EB) (V:Vx) (Rt:KS) (n0:Nat) (W:World) (e:Int):Prop:=∃vi vr I R r k,CR C V W r k e 0 AP vi vr [] I R/\(I.length<=2000000/\R.length<=2000000)/\r.length<=n0/\Rt = .error e
theorem Ti {n:Nat} (ih:Dp C n) {W:World} {r:List AJ} {k:Bool} {vk vi vr:Value} {KL I:List Aj} {R:List Af} (h:CR C V W r k 0 0 vk vi vr KL I R) (hpv:V.pv≠V.p) (hn:r.length<n)
  (he:∀y∈V.x.AA,0<=y.type/\y.type<(C.s.length:Int)) {Rt:KS} (hR:ML (Ag false C.s) Rt (I.map (·.v)) R (V.x.AA.drop I.length) r k) (hl:I.length+R.length<=1000000) (hi:I.length<=V.x.AA.length) :
  Calls Tryz.prog 161 #[.pointer (some ⟨V.pv,0,none⟩),.pointer (some ⟨V.px,0,none⟩),.pointer (some ⟨V.pr,0,none⟩)] W fun y W'=>y = .returned (.tuple #[])/\xS C V Rt r vk KL I R W':=by
 by_cases h1:I.length<V.x.AA.length
 ·exact Tg ih h hpv hn he hR hl h1
 ·exact Tf h hpv hR hl (by omega)
theorem recC {n:Nat} (ih:Dp C n) (hpv:V.pv≠V.p) (he:∀y∈V.x.AA,0<=y.type/\y.type<(C.s.length:Int)) {n0:Nat} (hn:n0<n) {Rt:KS} :
  RG C ⟨#[125]⟩ 161 [.pointer (some ⟨V.pv,0,none⟩),.pointer (some ⟨V.px,0,none⟩),.pointer (some ⟨V.pr,0,none⟩)] (RcI C V Rt n0) (RcJ C V Rt n0) (RcF C V Rt n0) (RcE C V Rt n0) where
 iS:=fun W r k h=>by obtain ⟨_,_,_,_,h,_⟩:=h;exact h.rd
 jS:=fun W r k h=>by obtain ⟨_,_,_,_,h,_⟩:=h;exact h.rd
 part:=fun W r k ⟨vi,vr,I,R,h,⟨h1,h2,h3⟩,h4⟩=>by
  have SE:=h.rd.ok.len;refine (Ti ih h hpv (by omega) he h4 (by omega) h1).mono ?_
  rintro y W' ⟨rfl,Gd,jX,I',R',r',k',e',g1,g2,g3,g5,g6⟩;refine ⟨rfl,r',k',e',g1.rd,g2,fun e=>?_,fun hne=>?_⟩
  ·obtain ⟨j1,j2,j3⟩:=g5 e
   subst e;exact ⟨Gd,jX,I',R',g1,⟨j2,by omega,by omega⟩,j1⟩
  ·exact ⟨Gd,jX,I',R',r',k',g1,g3,by omega,g6 hne⟩
 comma:=fun W r k W' ⟨vi,vr,I,R,h,⟨h1,h2,h3⟩,h4⟩ hc hb hr=>by
  have:=JL hc;exact ⟨vi,vr,I,R,h.BJ hb hr,⟨h1,by omega,by omega⟩,h4.comma hc⟩
 fin:=fun W r k W' ⟨vi,vr,I,R,h,⟨h1,h2,h3⟩,h4⟩ hc ht hb hr=>by
  have:=JL ht;exact ⟨vi,vr,I,R,h.BJ hb hr,⟨by omega,by omega⟩,h4.fin hc ht⟩
 bad:=fun W r k W' ⟨vi,vr,I,R,h,⟨h1,h2,h3⟩,h4⟩ hc ht hb hr=>by
  have SE:=h.rd.ok.len;exact ⟨vi,vr,I,R,r,k,h.BJ hb hr,⟨by omega,by omega⟩,h3,h4.bad hc ht⟩
end
theorem Vp (ih:Dp C n) (ht:JY C.w0 x As Am) (h:Gy C W0 p x.kind W r k 0 0 AP AP AP [] [] []) (hn:r.length<=n) (he:∀y∈x.AA,0<=y.type/\y.type<(C.s.length:Int)):
  Calls Tryz.prog 124 #[.pointer (some ⟨C.b,0,none⟩),x.v As cs Am cm,.pointer (some ⟨p,0,none⟩)] W fun y W'=>y = .returned (.tuple #[])/\GY C W0 p x.kind r (Vq x.kind (Iq false (Ag false C.s) x r k)) W':=by
 have oN:=zh (h.three (cs:=cs) (cm:=cm) ht);have QD:=zh h.pvp;have HN:=zh hn;have EI:=zh ih;have KX:=zh he;have uU:=zh (lZ (f:=Ag false C.s) x r k);clear h ih hn he ht
 go_enter Tryz.func124,Tryz.ntmps124
 go_upto_region 1 with fail
 generalize ((W.alloc (P6 C)).alloc (x.box As cs Am cm)).alloc (vX p)=W1 at *;generalize hV:(⟨W0,x,As,cs,Am,cm,p,W.heap.size,W.heap.size+1,W.heap.size+2⟩:Vx)=V at *;have HX:Hid (V.x=x/\V.p=p/\V.W0=W0):=by rw[<-hV];exact ⟨rfl,rfl,rfl⟩
 have e1:W.heap.size=V.pr:=by rw[<-hV]
 have e2:W.heap.size+1=V.px:=by rw[<-hV]
 have e3:W.heap.size+2=V.pv:=by rw[<-hV]
 have e4:p=V.p:=by rw[<-hV]
 have qA:Hid (V.pv≠V.p):=by show _≠_;rw[<-e3,<-e4];exact QD.out
 rw[show W.heap.size+1+1=V.pv from e3,e2,e1];clear hV e1 e2 e3 QD;have Kl:Hid (∀W' r' k' e' di vk vi vr K I R,CR C V W' r' k' e' di vk vi vr K I R->Gy C W0 p x.kind W' r' k' e' di vk vi vr K I R):=fun W' r' k' e' di vk vi vr K I R h=>by
  have:=h.fl;obtain ⟨g1,g2,g3⟩:=HX.out;rw[g1,g2,g3] at this;exact this
 clear e4;have rr:=(oN.out.reads (Ah.refl _ _)).1.2.2.2.1
 go_upto_if 12 with (go_at_call 126;refine (BO ⟨#[123]⟩ oN.out.rd).mono ?_;intro y w3 h3;obtain rfl:=h3.1;obtain ⟨hb3,r1,e1,hr3,hs3⟩:=Eo h3;have Je:=zh (oN.out.BJ hb3 hr3);have Gx:=zh hs3;have rr3:=(Je.out.reads (Ah.refl _ _)).1.2.2.2.1;have rm3:=(Je.out.reads (Ah.refl _ _)).1.2.2.2.2.1;rw[HX.out.1] at rm3;have rz3:=hr3.zero;clear h3 hb3 hr3 hs3)
 have MV:=zh (EQ Gx)
 by_cases he:e1=0
 case neg =>
  have q1:(e1 != 0)=true:=by simp[he]
  have HP:Hid (Vq x.kind (Iq false (Ag false C.s) x r k) = .error e1):=by
   show _=_
   have hs:=MV.out;rw[uU.out]
   cases hsy:Aq ⟨#[123]⟩ r with
   | error e2=>rw[hsy] at hs;rw[hs.1];rfl
   | ok l=>rw[hsy] at hs;exact absurd hs.2 he
  clear he;go_wp2;refine bodyPost_ret (results_none Tryz.results124 _ _ _) rfl ⟨rfl,Bu (Kl.out _ _ _ _ _ _ _ _ _ _ _ Je) Gx.out.1 z3 HP⟩
 subst he;obtain ⟨HQ,Dz⟩:Hid (Iq false (Ag false C.s) x r k=Rm (Ag false C.s) x.AA r1 k)/\Hid (r1.length<r.length):=by
  have hs:=MV.out
  cases hsy:Aq ⟨#[123]⟩ r with
  | error e2=>rw[hsy] at hs;exact absurd rfl hs.2
  | ok l =>
   rw[hsy] at hs;obtain ⟨rfl,_⟩:=hs;exact ⟨by show _=_;rw[uU.out,hsy];rfl,(zU hsy).1.2⟩
 have tZ:Hid (V.x=x):=HX.out.1;clear MV Gx uU rr oN;have Ji:Hid (∀W5,CR C V W5 r1 k 0 0 AP AP AP [] [] []->(BX ⟨#[125]⟩ r1=true->x.AA=[]) ->
   Calls Tryz.prog 127 #[.pointer (some ⟨C.b,0,none⟩),.string ⟨#[125]⟩,.func (.func 161) #[] #[.pointer (some ⟨V.pv,0,none⟩),.pointer (some ⟨V.px,0,none⟩),.pointer (some ⟨V.pr,0,none⟩)]] W5 fun y W'=>y = .returned (.tuple #[])/\GY C W0 p x.kind r (Vq x.kind (Iq false (Ag false C.s) x r k)) W'):=fun W5 h5 hm=>by
  have hl1:=h5.rd.Ta.length_le;have hc:=recC (C:=C) (V:=V) EI qA (by rw[tZ.out];exact KX.out) (n0:=r1.length) (by have:=Dz.out;have:=HN.out;omega) (Rt:=Rm (Ag false C.s) x.AA r1 k)
  refine (R4 hc h5.rd (fun h W' g1 g2=>?_) (fun h W' g1 g2=>⟨AP,AP,[],[],h5.BJ g1 g2,⟨by simp,by simp;omega,AAP _⟩,by rw[tZ.out];exact ML.start h⟩)).mono ?_
  ·have:=JL h
   refine ⟨AP,AP,[],[],h5.BJ g1 g2,⟨by simp;omega,by omega⟩,?_⟩
   rw[hm h];exact Y8 h
  ·rintro y w6 ⟨rfl,r6,k6,e6,g1,g2,g3⟩
   refine ⟨rfl,?_⟩;have hlt:=Dz.out;have h6:=h5.rd.ok.len
   by_cases hz:e6=0
   ·subst hz
    obtain ⟨vi,vr,I,R,j1,⟨j2,j3⟩,j4⟩:=g2 rfl;exact Fw (Kl.out _ _ _ _ _ _ _ _ _ _ _ j1) (by omega) ⟨by simp,by omega,by omega⟩ rfl (by rw[HQ.out,j4,lX];rfl)
   ·obtain ⟨vi,vr,I,R,r7,k7,j1,⟨j2,j3⟩,j4,j5⟩:=g3 hz
    exact Bu (Kl.out _ _ _ _ _ _ _ _ _ _ _ j1) (by omega) ⟨by simp,j2,j3⟩ (by rw[HQ.out,j5,eB])
 by_cases hm:x.AA=[]
 ·have q2:¬ (0:Int)<(x.AA.length:Int):=by rw[hm];simp
  have HM:=zh hm;clear hm;go_wp2_with fail;refine (Ji.out _ (Je.out.below (zC (Pe _ _) 0)) (fun _=>HM.out)).mono ?_
  rintro y w6 ⟨rfl,h6⟩;have H6:=zh h6;clear h6;go_wp2;refine bodyPost_end (results_none Tryz.results124 _ _ _) rfl ⟨rfl,H6.out⟩
 ·have q2:(0:Int)<(x.AA.length:Int):=by have:=List.length_pos_iff.2 hm;omega
  cases hb:BX ⟨#[125]⟩ r1 with
  | true =>
   have HB:=zh hb;have HP:Hid (Vq x.kind (Iq false (Ag false C.s) x r k) = .error 2):=by show _=_;rw[HQ.out,eD hm hb];rfl
   clear hm hb;go_wp2_with fail;refine (zX ⟨#[125]⟩ Je.out.rd).mono ?_;rintro y w4 ⟨rfl,hb4⟩;rw[HB.out];have FP:=zh (Je.out.below hb4);have qi:=(FP.out.reads (Ah.refl _ _)).1.2.2.2.1;clear hb4;go_wp2_with fail;refine (BZ 2 FP.out.rd).mono ?_;rintro y w6 ⟨rfl,g1,g2⟩;have DL:=zh (Kl.out _ _ _ _ _ _ _ _ _ _ _ (FP.out.BJ g2 g1));clear g1 g2;go_wp2
   refine bodyPost_ret (results_none Tryz.results124 _ _ _) rfl ⟨rfl,Bu DL (AAV Dz) z3 HP⟩
  | false =>
   have HB:=zh hb;clear hm hb;go_wp2_with fail;refine (zX ⟨#[125]⟩ Je.out.rd).mono ?_;rintro y w4 ⟨rfl,hb4⟩;rw[HB.out];have FP:=zh (Je.out.below hb4);have qi:=(FP.out.reads (Ah.refl _ _)).1.2.2.2.1;clear hb4;go_wp2_with fail;refine (Ji.out _ FP (fun h=>by rw[HB.out] at h;cases h)).mono ?_
   rintro y w6 ⟨rfl,h6⟩;have H6:=zh h6;clear h6;go_wp2;refine bodyPost_end (results_none Tryz.results124 _ _ _) rfl ⟨rfl,H6.out⟩
def UB (kd:Int) (P:PR (List Val)):PR Val:=P.bind fun p => .ok (.mk kd false 0 ⟨#[]⟩ 0 [] p.1 [],p.2)
theorem Ll (kd e:Int):UB kd (.error e) = .error e:=rfl
theorem Xr (kd:Int) (a:List Val) (l:List AJ) (k:Bool):UB kd (.ok (a,l,k)) = .ok (.mk kd false 0 ⟨#[]⟩ 0 [] a [],l,k):=rfl
theorem Gh (a:ByteArray) (l:List UInt8):(a.toList==l)=decide (a=⟨l.toArray⟩):=by
 have h:(⟨l.toArray⟩:ByteArray).toList=l:=by rw[Lib.toList_data]
 have:=bytes_beq a ⟨l.toArray⟩
 rwa [h] at this
section
variable {C:EB} {W0 W W':World} {p:Nat} {kd:Int} {r r':List AJ} {k k':Bool} {e e' di:Int}
theorem Gy.one (h:Gy C W0 p kd W r k e di AP AP AP [] [] []) {W6:World} (hb:Ah C.b W W6) (hr:Bv C W6 r' k' e') {x:Aj} (hx:Off (fun q=>q<W.heap.size) W6 fun u=>Ao u x.v x.A1 x.A2 x.A3) :
  Gy C W0 p kd ((W6.alloc (.cells x.cells.toArray 28)).setCell ⟨p,6,none⟩ (.slice (some ⟨W6.heap.size,0,none⟩) 1 1)) r' k' e' di AP (.slice (some ⟨W6.heap.size,0,none⟩) 1 1) AP [] [x] []:=by
 have h6:=h.BJ hb hr;have ho:(W6.alloc (.cells x.cells.toArray 28)).ownsRow (p+1) 28 8 (.slice (some ⟨W6.heap.size,0,none⟩) 1 1) 1 ([]++x.cells):=by
  exact World.ownsRow_lit (base:=p+1) (e:=28) (size:=8) W6 x.cells.toArray 1 h6.vb.lt (by unfold maxLen;omega) rfl
 obtain ⟨g1,g2,g3⟩:=h6.vb.item (x:=x) (v8 := .slice (some ⟨W6.heap.size,0,none⟩) 1 1) (w8:=W6.alloc (.cells x.cells.toArray 28)) (hx.mono fun q _ hq=>by
  have hl:=h.vb.lt
  rcases hq with e|e|e|e
  ·omega
  ·cases e
  ·cases e
  ·cases e) (Pe _ _) ho (World.grownBy_alloc W6 _ none) (.inr rfl)
 exact ⟨⟨h6.rd.ok,(g2.block _ h6.bp).trans h6.rd.blk,h6.rd.Ta,h6.rd.up.trans (g2.mono (by have:=h6.bp;have:=h6.rd.ok.ge;omega))⟩,g1,h6.fr.up g2 h6.lo (AAV h6.bp),h6.lo,h6.lb⟩
theorem Cg {b q:Nat} {w w':World} {o:Obj} (h:w.heap[q]? = some o) (hb:Ah b w w') (hq:q≠b):w'.heap[q]? = some o:=(hb.Eu q hq (zg.1 h).1).trans h
end
theorem Rq (ih:Dp C n) (h:Gy C W0 p x.kind W r k 0 0 AP AP AP [] [] []) (hn:r.length<=n) (he:0<=x.elem/\x.elem<(C.s.length:Int)):
  Calls Tryz.prog 130 #[.pointer (some ⟨C.b,0,none⟩),x.v As cs Am cm,.pointer (some ⟨p,0,none⟩)] W fun y W'=>y = .returned (.tuple #[])/\GY C W0 p x.kind r (UB x.kind (Gp (Ag false C.s) x r k)) W':=by
 have HF0:=zh (h.below (zD W (x.box As cs Am cm)));have HX0:=zh (AAL W (x.box As cs Am cm));have HXB:Hid (W.heap.size≠C.b):=by have:=h.rd.lt;show _≠_;omega
 have HN:=zh hn;have EI:=zh ih;have KX:=zh he;have Sv:Hid (Gp (Ag false C.s) x r k=(CG 1 r).bind fun p=>if p.1.text=⟨#[110,111,110,101]⟩ then .ok ([],p.2,k)
  else if p.1.text=⟨#[115,111,109,101]⟩ then (Aq ⟨#[40]⟩ p.2).bind fun l2=>(Ag false C.s x.elem l2 k).bind fun q=>(Aq ⟨#[41]⟩ q.2.1).bind fun l4 => .ok ([q.1],l4,q.2.2)
  else .error 2):=rfl
 clear h ih hn he
 go_enter Tryz.func130,Tryz.ntmps130
 go_upto_region 1 with fail
 generalize W.alloc (x.box As cs Am cm)=W1 at *
 go_cut [6] (fun s wx=>∃tb t0 r1 e1,s = .pointer (some ⟨tb,0,none⟩)/\Hid (Gy C W0 p x.kind wx r1 k e1 0 AP AP AP [] [] []/\wx.heap[W.heap.size]? = some (x.box As cs Am cm)/\wx.heap[tb]? = some (o6 t0)/\Wx 1 r t0 r1 e1))
 case first =>
  go_wp2_with (go_at_call 122;refine (Bp 1 HF0.out.rd).mono ?_;intro y w3 h3;obtain ⟨t0,r1,e1,rfl,g1,g2,g3⟩:=FU h3;have Ob:=zh (HF0.out.BJ g1 g2);have Iz:=zh (Cg HX0 g1 HXB);have I5:=zh g3;clear h3 g1 g2 g3)
  go_meet
  exact ⟨_,t0,r1,e1,rfl,Ob.out.below (zD _ _),Aw Iz (zD _ _),AAL _ _,I5.out⟩
 case rest =>
 obtain ⟨W3,rfl⟩:∃W:World,W=wc:=⟨_,rfl⟩;obtain ⟨tb,t0,r1,e1,rfl,h3⟩:=hcut;have Ob:=zh h3.out.1;have Iz:=zh h3.out.2.1;have I5:=zh h3.out.2.2.2;obtain ⟨⟨_,x1,_,_,_⟩,_⟩:=Bb h3.out.2.2.1;clear h3 HF0 HX0;have rz:=Ob.out.rd.zero
 by_cases hz:e1=0
 case neg =>
  have q1:(e1 != 0)=true:=by simp[hz]
  have HP:Hid (UB x.kind (Gp (Ag false C.s) x r k) = .error e1):=by
   show _=_
   have ht:=I5.out.tk;rw[Sv.out]
   cases hk:CG 1 r with
   | error e2=>rw[hk] at ht;rw[ht.1];rfl
   | ok q=>rw[hk] at ht;exact absurd ht.2.2.1 hz
  clear hz;go_wp2;refine bodyPost_ret (results_none Tryz.results130 _ _ _) rfl ⟨rfl,Bu Ob I5.out.1.1 z3 HP⟩
 subst hz;obtain ⟨Yb,Dz⟩:Hid (Gp (Ag false C.s) x r k=if t0.text=⟨#[110,111,110,101]⟩ then .ok ([],r1,k)
  else if t0.text=⟨#[115,111,109,101]⟩ then (Aq ⟨#[40]⟩ r1).bind fun l2=>(Ag false C.s x.elem l2 k).bind fun q=>(Aq ⟨#[41]⟩ q.2.1).bind fun l4 => .ok ([q.1],l4,q.2.2)
  else .error 2)/\Hid (r1.length<r.length):=by
  have ht:=I5.out.tk
  cases hk:CG 1 r with
  | error e2=>rw[hk] at ht;exact absurd rfl ht.2
  | ok q =>
   rw[hk] at ht;refine ⟨?_,ht.2.2.2⟩
   show _=_
   rw[Sv.out,hk,zM,ht.1,ht.2.1]
 clear Sv I5
 by_cases h1:t0.text=⟨#[110,111,110,101]⟩
 ·have q2:(t0.text.toList==([110,111,110,101]:List UInt8))=true:=by rw[Gh];exact AAT h1
  have HP:Hid (UB x.kind (Gp (Ag false C.s) x r k) = .ok (.mk x.kind false 0 ⟨#[]⟩ 0 [] [] [],r1,k)):=by show _=_;rw[Yb.out,AAH h1,Xr]
  clear h1;go_wp2;refine bodyPost_ret (results_none Tryz.results130 _ _ _) rfl ⟨rfl,Fw Ob (AAV Dz) z3 rfl HP⟩
 have q2:(t0.text.toList==([110,111,110,101]:List UInt8))=false:=by rw[Gh];exact AAZ h1
 by_cases h2:t0.text=⟨#[115,111,109,101]⟩
 case neg =>
  have q3:(t0.text.toList==([115,111,109,101]:List UInt8))=false:=by rw[Gh];exact AAZ h2
  have HP:Hid (UB x.kind (Gp (Ag false C.s) x r k) = .error 2):=by show _=_;rw[Yb.out,Pd h1,Pd h2,Ll]
  clear h1 h2;go_wp2_with fail;refine (BZ 2 Ob.out.rd).mono ?_;rintro y w6 ⟨rfl,g1,g2⟩;have NS:=zh (Ob.out.BJ g2 g1);clear g1 g2;go_wp2;refine bodyPost_ret (results_none Tryz.results130 _ _ _) rfl ⟨rfl,Bu NS (AAV Dz) z3 HP⟩
 have q3:(t0.text.toList==([115,111,109,101]:List UInt8))=true:=by rw[Gh];exact AAT h2
 have HP:Hid (Gp (Ag false C.s) x r k=(Aq ⟨#[40]⟩ r1).bind fun l2=>(Ag false C.s x.elem l2 k).bind fun q=>(Aq ⟨#[41]⟩ q.2.1).bind fun l4 => .ok ([q.1],l4,q.2.2)):=by show _=_;rw[Yb.out,Pd h1,AAH h2]
 clear h1 h2 Yb;go_wp2_with fail;refine (BO ⟨#[40]⟩ Ob.out.rd).mono ?_
 intro y w4 h4
 obtain rfl:=h4.1;obtain ⟨hb4,r2,e2,hr4,hs4⟩:=Eo h4;have LP:=zh (Ob.out.BJ hb4 hr4);have av:=zh (Cg Iz hb4 HXB);have Sr:=zh hs4;have x8:w4.cell? ⟨W.heap.size,8,none⟩=some (.int .i64 x.elem):=by rw[AAN _ _ _ _ _ _ av.out];rfl
 clear h4 hb4 hr4 hs4 rz x1;go_wp2_with fail;refine (EI.out x.elem _ r2 k e2 (by have:=Sr.out.1;have:=Dz.out;have:=HN.out;omega) KX LP.out.rd).mono ?_
 rintro y w5 ⟨xa,rfl,g1,g2,r5,k5,e5,g3,g4,g5,g6⟩;have NS:=zh (LP.out.one g2 g3 g1);have HV5:=zh (LP.out.BJ g2 g3);have MX:=zh g4;have Nu:=zh g5;have Nt:=zh g6;obtain ⟨⟨_,_,_,_,_,_,c6,_⟩,cf⟩:=(HV5.out.vb.below (zD w5 (.cells xa.cells.toArray 28))).cells;have f6:=cf 6;clear g1 g2 g3 g4 g5 g6 cf;have HE2:Hid (Uw ⟨#[40]⟩ r1 0 r2 e2):=Sr.out;unfold Aj.cells Val.cs at NS c6 f6
 go_upto_region 7 with fail
 generalize World.setCell (World.alloc w5 _) _ _=W6 at *;have Sk:Hid (([]:List Aj).length<=2000000/\[xa].length<=2000000/\([]:List Af).length<=2000000):=⟨by simp,by simp,by simp⟩
 have rz:=NS.out.rd.zero
 by_cases hz:e5=0
 case neg =>
  have q1:(e5==0)=false:=by simp[hz]
  have HP5:Hid (UB x.kind (Gp (Ag false C.s) x r k) = .error e5):=by
   show _=_
   have hs:=EQ HE2;rw[HP.out]
   cases hsy:Aq ⟨#[40]⟩ r1 with
   | error e=>rw[hsy] at hs;rw[Cv,Ll,Nu.out hs.2,hs.1]
   | ok l =>
    rw[hsy] at hs;have hv:=Nt.out hs.2;rw[zM,<-hs.1]
    cases hw:Ag false C.s x.elem r2 k with
    | error e=>rw[hw] at hv;rw[Cv,Ll,hv]
    | ok q=>rw[hw] at hv;exact absurd hv.2.2.2 hz
  clear hz;go_wp2;refine bodyPost_end (results_none Tryz.results130 _ _ _) rfl ⟨rfl,Bu NS (by have:=MX.out;have:=Sr.out.1;have:=Dz.out;omega) Sk HP5⟩
 subst hz;obtain ⟨HP5,HLV⟩:Hid (Gp (Ag false C.s) x r k=(Aq ⟨#[41]⟩ r5).bind fun l4 => .ok ([xa.v],l4,k5))/\Hid (r5.length<=r.length):=by
  have hs:=EQ HE2;refine ⟨?_,by have:=MX.out;have:=Sr.out.1;have:=Dz.out;show _<=_;omega⟩
  show _=_
  rw[HP.out]
  cases hsy:Aq ⟨#[40]⟩ r1 with
  | error e =>
   rw[hsy] at hs;exact absurd (Nu.out hs.2) (fun g=>hs.2 g.symm)
  | ok l =>
   rw[hsy] at hs;have hv:=Nt.out hs.2;rw[zM,<-hs.1]
   cases hw:Ag false C.s x.elem r2 k with
   | error e =>
    rw[hw] at hv;exact absurd (hv▸hw) (Gf false _ _ _ _)
   | ok q =>
    obtain ⟨v,r1',k1'⟩:=q;rw[hw] at hv;obtain ⟨rfl,rfl,rfl,_⟩:=hv
    rfl
 go_wp2_with fail
 refine (BO ⟨#[41]⟩ NS.out.rd).mono ?_
 intro y w7 h7
 obtain rfl:=h7.1;obtain ⟨F4,r7,e7,hr7,hs7⟩:=Eo h7;have aX:=zh (NS.out.BJ F4 hr7);have uI:=zh hs7;clear h7 F4 hr7 hs7;go_wp2;refine bodyPost_end (results_none Tryz.results130 _ _ _) rfl ⟨rfl,?_⟩;have hs:=EQ uI;have wY:r7.length<=r.length:=by have:=uI.out.1;have:=HLV.out;omega
 have hp:=HP5.out
 cases hsy:Aq ⟨#[41]⟩ r5 with
 | error e2=>rw[hsy] at hs hp;exact Bu aX wY Sk (by rw[hp,Cv,Ll,hs.1])
 | ok l =>
  rw[hsy] at hs hp;obtain ⟨rfl,rfl⟩:=hs;exact Fw aX wY Sk rfl (by rw[hp,zM,Xr];rfl)
theorem Vk (n:Int) (t:Aa) (As:zo) (cs:Nat) (Am:zo) (cm:Nat) (w:World) (ht:JY w t As Am) :
  Calls Tryz.prog 68 #[t.v As cs Am cm,.int .i64 n] w fun e w'=>∃r:Int,e = .returned (.tuple #[.int .i64 r,.bool (t.AV.any fun y=>decide (y.id=n))])/\Below w.heap.size w w' :=
 (Mh n t As cs Am cm w ht).mono fun e w' ⟨h1,h2⟩=>⟨_,h1.trans (by rw[FJ]),h2⟩
theorem PX {α:Type} {p:α->Bool}:∀ (l:List α) (i:Nat) (hi:i<l.length),p l[i]=true->(∀j (h:j<l.length),j<i->p l[j]=false)->l.find? p=some l[i]
 | [],i,hi,_,_=>absurd hi (Nat.not_lt_zero _)
 | a::l,0,_,h,_=>by
  have h':p a=true:=h;rw[List.find?_cons_of_pos h'];rfl
 | a::l,i+1,hi,h,hn=>by
  rw[List.find?_cons_of_neg (by have:=hn 0 (by simp) (by omega);simp at this;simp[this])]
  exact PX l i (by simpa using hi) h fun j hj hl=>hn (j+1) (by simpa using hj) (by omega)
theorem Ug {α:Type} {p:α->Bool} {l:List α} (h:∀j (hj:j<l.length),p l[j]=false):l.find? p=none:=by
 rw[List.find?_eq_none]
 intro x hx
 obtain ⟨j,hj,rfl⟩:=ABT hx;rw[h j hj];simp
def EmP (C:EB) (W:World) (r:List AJ) (P:PR Int) (y:Ending) (W':World):Prop:=∃d:Int,y = .returned (.int .i64 d)/\Ah C.b W W'/\∃r' k' e',Bv C W' r' k' e'/\r'.length<=r.length/\match P with
 | .ok (v,r1,k1)=>d=v/\r'=r1/\k'=k1/\e'=0
 | .error e1=>e'=e1
theorem iI (h:Bv C W r k 0) (ht:JY C.w0 x As Am):
  Calls Tryz.prog 123 #[.pointer (some ⟨C.b,0,none⟩),x.v As cs Am cm] W (EmP C W r (Ea false x r k)):=by
 have HW1:=zh (h.BJ (zD W (x.box As cs Am cm)));have HR1:=zh (h.below (zD W (x.box As cs Am cm)));have EH:=zh (AAL W (x.box As cs Am cm));have Dz:=zh h.lt;have HXB:Hid (W.heap.size≠C.b):=by have:=h.lt;show _≠_;omega
 have Ed:=zh ht;have Sv:Hid (Ea false x r k=if BX ⟨#[64]⟩ r=true then (CG 2 r.tail).bind fun p=>(if Nh x p.1.int=true then .ok (p.1.int,p.2,true) else .ok (p.1.int,p.2,k))
  else (CG 1 r).bind fun p =>
   match x.AV.find? fun y=>decide (y.name=p.1.text) with
   | some y => .ok (y.id,p.2,k)
   | none => .error 4):=by
  show _=_
  unfold Ea
  split
  ·congr 1
  ·rfl
 clear h ht
 go_enter Tryz.func123,Tryz.ntmps123
 go_upto_region 1 with fail
 generalize W.alloc (x.box As cs Am cm)=W1 at *
 cases hi:BX ⟨#[64]⟩ r with
 | true =>
  have HI:=zh hi;rw[AAH hi] at Sv;obtain ⟨t,q,rfl,_,_⟩:=Cr hi;clear hi;go_wp2_with fail;refine (zX ⟨#[64]⟩ HR1).mono ?_;rintro y w2 ⟨rfl,hb2⟩;rw[HI.out];have HR2:=zh (HR1.out.below hb2);have HW2:=zh (HW1.out.below hb2 Dz);have NK:=zh (Aw EH hb2);obtain ⟨i,hi,c2,f2,hi2,HN⟩:=HR2.out.af;clear hb2;go_wp2_with fail;have HR3:=zh (HN.out.1 _ _ _ HR2)
  have HW3:=zh (HW2.out.set 2 (.int .i64 ((i:Int)+1)));have Iz:=zh ((AAO w2 ⟨C.b,2,none⟩ _ (.int .i64 ((i:Int)+1)) HXB).trans NK);refine (Bp 2 HR3).mono ?_
  intro y w4 h4
  obtain ⟨t0,r1,e1,rfl,g1,g2,g3⟩:=FU h4;have HR4:=zh g2;have vI:=zh (HW3.out.trans g1);have av:=zh (Cg Iz g1 HXB);have NN:=zh g3;have xI:=Hr;obtain ⟨b0,b1,b2,b3,b4,b5,b6,b7,b8,b9⟩:=zG (show CS w4 W.heap.size x As cs Am cm from av.out);clear h4 g1 g2 g3;go_wp2_with fail;refine (Vk t0.int x As cs Am cm _ (Ed.out.below HR4.out.up)).mono ?_
  rintro y w5 ⟨ix,rfl,hb5⟩;have jO:=zh (HR4.out.below hb5);have RI:=zh (vI.out.below hb5 Dz);have c3:=jO.out.cells.1.2.2.2.1;have f3:=jO.out.cells.2 3;have vV:Hid (Nh x t0.int=x.AV.any fun y=>decide (y.id=t0.int)):=rfl
  clear hb5 b0 b1 b2 b3 b4 b5 b6 b7 b8 b9;generalize (x.AV.any fun y=>decide (y.id=t0.int))=kn at *
  have Ji:Hid (∀W6 k6,Bv C W6 r1 k6 e1->Ah C.b W W6->(k6=(k||kn))->EmP C W (t::q) (Ea false x (t::q) k) (.returned (.int .i64 t0.int)) W6):=fun W6 k6 h1 h2 h3=>by
   refine ⟨_,rfl,h2,r1,k6,e1,h1,by have:=NN.out.1.1;simp;omega,?_⟩
   have ht:=NN.out.tk;rw[Sv.out,List.tail_cons]
   cases hk:CG 2 q with
   | error e=>rw[hk] at ht;exact ht.1
   | ok p =>
    rw[hk] at ht;rw[zM,<-ht.1,<-ht.2.1,vV.out]
    cases kn with
    | true=>rw[AAH rfl];exact ⟨rfl,rfl,by rw[h3];simp,ht.2.2.1⟩
    | false=>rw[Pd (by simp)];exact ⟨rfl,rfl,by rw[h3];simp,ht.2.2.1⟩
  cases k with
  | true =>
   go_wp2
   go_ret
   exact Ji.out _ true (jO.out.vz true) (RI.out.set 3 _) rfl
  | false =>
   go_wp2
   go_ret
   exact Ji.out _ kn (jO.out.vz kn) (RI.out.set 3 _) rfl
 | false =>
  have HI:=zh hi;rw[Pd (by rw[hi];simp)] at Sv
  clear hi;go_wp2_with fail;refine (zX ⟨#[64]⟩ HR1).mono ?_;rintro y w2 ⟨rfl,hb2⟩;rw[HI.out];have HR2:=zh (HR1.out.below hb2);have HW2:=zh (HW1.out.below hb2 Dz);have NK:=zh (Aw EH hb2);clear hb2;go_upto_region 7 with fail
  go_cut [8] (fun s wx=>∃tb t0 r1 e1,s = .pointer (some ⟨tb,0,none⟩)/\Hid (Ah C.b W wx/\Bv C wx r1 k e1/\wx.heap[W.heap.size]? = some (x.box As cs Am cm)/\wx.heap[tb]? = some (o6 t0)/\Wx 1 r t0 r1 e1))
  case first =>
   go_wp2_with (go_at_call 122;refine (Bp 1 HR2).mono ?_;intro y w3 h3;obtain ⟨t0,r1,e1,rfl,g1,g2,g3⟩:=FU h3;have HW3:=zh (HW2.out.trans g1);have HR3:=zh g2;have Iz:=zh (Cg NK g1 HXB);have I5:=zh g3;clear h3 g1 g2 g3)
   go_meet
   exact ⟨_,t0,r1,e1,rfl,HW3.out.below (zD _ _) Dz,HR3.out.below (zD _ _),Aw Iz (zD _ _),AAL _ _,I5.out⟩
  case rest =>
  obtain ⟨W3,rfl⟩:∃W:World,W=wc:=⟨_,rfl⟩;obtain ⟨tb,t0,r1,e1,rfl,h3⟩:=hcut;have HW3:=zh h3.out.1;have HR3:=zh h3.out.2.1;have Iz:=zh h3.out.2.2.1;have HB3:=zh h3.out.2.2.2.1;have I5:=zh h3.out.2.2.2.2;clear h3;have rz:=HR3.out.zero
  by_cases hz:e1=0
  case neg =>
   have q1:(e1 != 0)=true:=by simp[hz]
   have HP:Hid (Ea false x r k = .error e1):=by
    show _=_
    have ht:=I5.out.tk;rw[Sv.out]
    cases hk:CG 1 r with
    | error e2=>rw[hk] at ht;rw[ht.1];rfl
    | ok q=>rw[hk] at ht;exact absurd ht.2.2.1 hz
   clear hz;go_wp2;go_ret;exact ⟨_,rfl,HW3.out,r1,k,e1,HR3.out,I5.out.1.1,by rw[HP.out]⟩
  subst hz;have HP:Hid (Ea false x r k=match x.AV.find? fun y=>decide (y.name=t0.text) with
   | some y => .ok (y.id,r1,k)
   | none => .error 4):=by
   show _=_
   have ht:=I5.out.tk;rw[Sv.out]
   cases hk:CG 1 r with
   | error e2=>rw[hk] at ht;exact absurd rfl ht.2
   | ok q =>
    rw[hk] at ht;rw[zM,<-ht.1,<-ht.2.1]
  have jy:=zh I5.out.1.1;have x5:W3.cell? ⟨W.heap.size,5,none⟩=some (.slice As x.AV.length cs):=by rw[AAN _ _ _ _ _ _ Iz.out];rfl
  have hln:=Ed.out.AV.1;unfold EK at hln;have rY:(x.AV.length:Int)<=1000000000000000:=by omega
  clear I5 Sv hln;go_wp2
  go_loopw [50] (fun a wr=>∃i:Nat,i<=x.AV.length/\a = .int .i64 (i:Int)/\Hid (Below W3.heap.size W3 wr/\∀j (hj:j<x.AV.length),j<i->decide ((x.AV[j]).name=t0.text)=false)) (fun a _=>x.AV.length - (intOf a).toNat)
  case atStart=>exact ⟨0,by omega,rfl,Pe _ _,fun j _ h=>absurd h (by omega)⟩
  case round =>
   obtain ⟨i,hi,rfl,hh⟩:=hrel;have HB:=zh hh.out.1;have OY:=zh hh.out.2;clear hh
   by_cases hlt:i<x.AV.length
   ·obtain ⟨sb,so,rfl,hr1,a0,a1⟩:=(Ed.out.AV.below (HR3.out.below HB).up).at2 hlt
    obtain ⟨⟨_,n1,_,_,_⟩,_⟩:=Bb (Aw HB3 HB);have h1:(0:Int)<=(i:Int):=by omega
    have h2:(i:Int)<(x.AV.length:Int):=by omega
    clear hr1
    by_cases hnm:(x.AV[i]).name=t0.text
    ·have q2:((x.AV[i]).name.toList==t0.text.toList)=true:=by rw[bytes_beq];exact AAT hnm
     have Yh:Hid (Ea false x r k = .ok ((x.AV[i]).id,r1,k)):=by
      show _=_
      rw[HP.out,PX (p:=fun y=>decide (y.name=t0.text)) x.AV i hlt (AAT hnm) OY.out]
     clear hnm;have htb:=zL n1;simp only at htb;go_wp2;go_ret;exact ⟨_,rfl,(HW3.out.below HB Dz).below (zD _ _) Dz,r1,k,0,(HR3.out.below HB).below (zD _ _),jy.out,by rw[Yh.out];exact ⟨rfl,rfl,rfl,rfl⟩⟩
    ·have q2:((x.AV[i]).name.toList==t0.text.toList)=false:=by rw[bytes_beq];exact AAZ hnm
     have VQ:Hid (∀j (hj:j<x.AV.length),j<i+1->decide ((x.AV[j]).name=t0.text)=false):=fun j hj hji=>by
      by_cases e:j=i
      ·subst e;exact AAZ hnm
      ·exact OY.out j hj (by omega)
     clear hnm;have htb:=zL n1;simp only at htb;go_wp2;go_roundw
     case rel=>exact ⟨i+1,by omega,by go_num,zB HB (zD _ _),VQ.out⟩
     case measure=>simp[intOf];omega
   ·have Yh:Hid (Ea false x r k = .error 4):=by
     show _=_
     rw[HP.out,Ug (p:=fun y=>decide (y.name=t0.text)) fun j hj=>OY.out j hj (by omega)]
    have h2:¬ (i:Int)<(x.AV.length:Int):=by omega
    go_wp2_with fail
    refine (BZ 4 (HR3.out.below HB)).mono ?_;rintro y w6 ⟨rfl,g1,g2⟩;have uN:=zh g1;have FE:=zh ((HW3.out.below HB Dz).trans g2);clear g1 g2;go_wp2;go_ret;exact ⟨_,rfl,FE.out,r1,k,_,uN.out,jy.out,by rw[Yh.out];rfl⟩
def Px (kd:Int) (P:PR (Int×List Val×List Af)):PR Val:=P.bind fun p => .ok (.mk kd false 0 ⟨#[]⟩ p.1.1 [] p.1.2.1 p.1.2.2,p.2)
theorem TK (kd e:Int):Px kd (.error e) = .error e:=rfl
theorem XR (kd d:Int) (a:List Val) (b:List Af) (l:List AJ) (k:Bool):Px kd (.ok ((d,a,b),l,k)) = .ok (.mk kd false 0 ⟨#[]⟩ d [] a b,l,k):=rfl
section
variable {C:EB} {W0 W W':World} {p:Nat} {kd:Int} {r r':List AJ} {k k':Bool} {e e' di:Int} {vk vi vr:Value} {K I:List Aj} {R:List Af}
theorem Gy.qh (h:Gy C W0 p kd W r k e di vk vi vr K I R) (d:Int):Gy C W0 p kd (W.setCell ⟨p,4,none⟩ (.int .i64 d)) r k e d vk vi vr K I R :=
 ⟨h.rd.Eu (by have:=h.bp;omega) (by have:=h.bp;have:=h.rd.ok.ge;omega) 4 _,h.vb.Mf (j:=4) rfl h.vb.str,⟨h.fr.Bz.setCell (p:=⟨p,4,none⟩) (AAV h.bp) _,fun q hq hl=>(AAO _ _ _ _ (by have:=h.lo;simp only;omega)).trans (h.fr.Eu q hq hl)⟩,h.lo,h.lb⟩
theorem Gy.mK (h:Gy C W0 p kd W r k e di AP AP AP [] [] []) {x:Af} (hx:Dk x.data) :
  Gy C W0 p kd ((W.alloc (dm x)).setCell ⟨p,7,none⟩ (.slice (some ⟨W.heap.size,0,none⟩) 1 1)) r k e di AP AP (.slice (some ⟨W.heap.size,0,none⟩) 1 1) [] [] [x]:=by
 have ho:(W.alloc (dm x)).ownsRow (p+1) 97 2 (.slice (some ⟨W.heap.size,0,none⟩) 1 1) 1 ([]++encR x) :=
  World.ownsRow_lit (base:=p+1) (e:=97) (size:=2) W (encR x).toArray 1 h.vb.lt (by unfold maxLen;omega) rfl
 obtain ⟨g1,g2,g3⟩:=h.vb.Vu (x:=x) (v8 := .slice (some ⟨W.heap.size,0,none⟩) 1 1) (w8:=W.alloc (dm x)) hx (Pe _ _) ho (World.grownBy_alloc W _ none) (.inr rfl);exact ⟨⟨h.rd.ok,(g2.block _ h.bp).trans h.rd.blk,h.rd.Ta,h.rd.up.trans (g2.mono (by have:=h.bp;have:=h.rd.ok.ge;omega))⟩,g1,h.fr.up g2 h.lo (AAV h.bp),h.lo,h.lb⟩
end
theorem qU {q:List AJ} {t0:AJ} {r1:List AJ} {e1:Int} (h1:Wx 2 q t0 r1 e1) {r2:List AJ} {e2:Int} (h2:Uw ⟨#[40]⟩ r1 e1 r2 e2) {t1:AJ} {r3:List AJ} {e3:Int} (h3:(e2≠0/\r3=r2/\e3=e2)\/(e2=0/\Wx 3 r2 t1 r3 e3)) {r4:List AJ} {e4:Int} (h4:Uw ⟨#[41]⟩ r3 e3 r4 e4):
  match ((CG 2 q).bind fun p=>(Aq ⟨#[40]⟩ p.2).bind fun l2=>(CG 3 l2).bind fun q=>(Aq ⟨#[41]⟩ q.2).bind fun l4 => .ok ((Qx false p.1.int,[],[⟨Qx false p.1.int,q.1.str⟩]),l4,k):PR (Int×List Val×List Af)) with
  | .ok (v,r',k')=>v=(t0.int,[],[⟨t0.int,t1.str⟩])/\r4=r'/\k'=k/\e4=0/\e2=0
  | .error e=>e4=e:=by
 have ht:=h1.tk
 cases hk:CG 2 q with
 | error e =>
  rw[hk] at ht;obtain ⟨g1,g2⟩:=ht;rw[Cv]
  rcases h2.2 with ⟨_,_,j⟩|⟨j,_⟩
  ·rcases h3 with ⟨_,_,i⟩|⟨i,_⟩
   ·rcases h4.2 with ⟨_,_,l⟩|⟨l,_⟩
    ·show e4=e;omega
    ·omega
   ·omega
  ·exact absurd j g2
 | ok p =>
  obtain ⟨u,l⟩:=p;rw[hk] at ht;obtain ⟨rfl,rfl,rfl,_⟩:=ht;rw[zM];have hs:=EQ h2;simp only
  cases hsy:Aq ⟨#[40]⟩ r1 with
  | error e =>
   rw[hsy] at hs;rw[Cv]
   rcases h3 with ⟨_,_,i⟩|⟨i,_⟩
   ·rcases h4.2 with ⟨_,_,l⟩|⟨l,_⟩
    ·show e4=e;have:=hs.1;omega
    ·exact absurd l (by have:=hs.2;omega)
   ·exact absurd i hs.2
  | ok l2 =>
   rw[hsy] at hs;obtain ⟨rfl,rfl⟩:=hs;rw[zM]
   rcases h3 with ⟨i,_⟩|⟨_,h3⟩
   ·exact absurd rfl i
   have hu:=h3.tk
   cases hk3:CG 3 r2 with
   | error e =>
    rw[hk3] at hu;rw[Cv]
    rcases h4.2 with ⟨_,_,l⟩|⟨l,_⟩
    ·show e4=e;have:=hu.1;omega
    ·exact absurd l hu.2
   | ok z =>
    obtain ⟨v,q2⟩:=z;rw[hk3] at hu;obtain ⟨rfl,rfl,rfl,_⟩:=hu;rw[zM];have hs4:=EQ h4;simp only
    cases wW:Aq ⟨#[41]⟩ r3 with
    | error e=>rw[wW] at hs4;rw[Cv];exact hs4.1
    | ok l4 =>
     rw[wW] at hs4;rw[zM];exact ⟨rfl,hs4.1,rfl,hs4.2,trivial⟩
theorem kJ {f:Int->List AJ->Bool->PR Val} (hnz:∀t l k,f t l k ≠ .error 0) {id ty:Int} {r1:List AJ} {r2:List AJ} {e2:Int} (h2:Uw ⟨#[40]⟩ r1 0 r2 e2) {x:Val} {r5:List AJ} {k5:Bool} {e5:Int} (hn:e2≠0->e5=e2) (hv:e2=0->match f ty r2 k with
   | .ok (v,r',k')=>x=v/\r5=r'/\k5=k'/\e5=0
   | .error e=>e5=e) {r7:List AJ} {e7:Int} (h7:Uw ⟨#[41]⟩ r5 e5 r7 e7):
  match ((Aq ⟨#[40]⟩ r1).bind fun l2=>(f ty l2 k).bind fun q=>(Aq ⟨#[41]⟩ q.2.1).bind fun l4 => .ok ((id,[q.1],[]),l4,q.2.2):PR (Int×List Val×List Af)) with
  | .ok (v,r',k')=>v=(id,[x],[])/\r7=r'/\k5=k'/\e7=0
  | .error e=>e7=e:=by
 have hs:=EQ h2
 cases hsy:Aq ⟨#[40]⟩ r1 with
 | error e =>
  rw[hsy] at hs;rw[Cv];have:=hn hs.2
  rcases h7.2 with ⟨_,_,l⟩|⟨l,_⟩
  ·show e7=e;have:=hs.1;omega
  ·exact absurd l (by have:=hs.2;omega)
 | ok l2 =>
  rw[hsy] at hs;obtain ⟨rfl,rfl⟩:=hs;rw[zM];have hv:=hv rfl
  cases hw:f ty r2 k with
  | error e =>
   rw[hw] at hv;simp only at hv;rw[Cv];have hz:e5≠0:=fun g=>hnz _ _ _ (g▸hv▸hw)
   rcases h7.2 with ⟨_,_,l⟩|⟨l,_⟩
   ·show e7=e;omega
   ·exact absurd l hz
  | ok q =>
   obtain ⟨v,r',k'⟩:=q;rw[hw] at hv;obtain ⟨rfl,rfl,rfl,rfl⟩:=hv;rw[zM];have hs7:=EQ h7;simp only
   cases wV:Aq ⟨#[41]⟩ r5 with
   | error e=>rw[wV] at hs7;rw[Cv];exact hs7.1
   | ok l4 =>
    rw[wV] at hs7;rw[zM];exact ⟨rfl,hs7.1,rfl,hs7.2⟩
theorem bX (h:Gy C W0 p x.kind W r k 0 0 AP AP AP [] [] []) (hat:BX ⟨#[64]⟩ r=true):
  Calls Tryz.prog 125 #[.pointer (some ⟨C.b,0,none⟩),x.v As cs Am cm,.pointer (some ⟨p,0,none⟩)] W fun y W'=>y = .returned (.tuple #[])/\GY C W0 p x.kind r (Px x.kind (Ej false (Ag false C.s) x r k)) W':=by
 have qL:=zh (h.below (zD W (x.box As cs Am cm)));have GX:=zh h.bp;obtain ⟨HP,HI⟩:Hid (Ej false (Ag false C.s) x r k=(CG 2 r.tail).bind fun p=>(Aq ⟨#[40]⟩ p.2).bind fun l2=>(CG 3 l2).bind fun q=>(Aq ⟨#[41]⟩ q.2).bind fun l4 => .ok ((Qx false p.1.int,[],[⟨Qx false p.1.int,q.1.str⟩]),l4,k))/\Hid (BX ⟨#[64]⟩ r=true):=by
  refine ⟨?_,hat⟩
  show _=_
  unfold Ej;rw[AAH hat]
 obtain ⟨t,q,rfl,_,_⟩:=Cr hat;clear h hat
 go_enter Tryz.func125,Tryz.ntmps125
 go_upto_region 1 with fail
 generalize W.alloc (x.box As cs Am cm)=W1 at *;go_wp2_with fail;refine (zX ⟨#[64]⟩ qL.out.rd).mono ?_;rintro y w2 ⟨rfl,hb2⟩;rw[HI.out];have qK:=zh (qL.out.below hb2);obtain ⟨i,hi,c2,f2,hi2,HN⟩:=qK.out.rd.af;clear hb2;go_wp2_with fail;have Ob:=zh (qK.out.BJ ((Ah.refl _ _).set 2 (.int .i64 ((i:Int)+1))) (HN.out.1 _ _ _ qK.out.rd));refine (Bp 2 Ob.out.rd).mono ?_
 intro y w4 h4
 obtain ⟨t0,r1,e1,rfl,g1,g2,g3⟩:=FU h4;have LP:=zh (Ob.out.BJ g1 g2);have NN:=zh g3;have xI:=Hr;obtain ⟨⟨_,_,_,_,c4,_,_,_⟩,cf⟩:=LP.out.vb.cells;have f4:=cf 4;clear h4 g1 g2 g3 cf;go_upto_region 4 with fail
 have VD:=zh (LP.out.qh t0.int);generalize w4.setCell ⟨p,4,none⟩ (.int .i64 t0.int)=W5 at *;clear c4 f4 c2 f2;have rz:=VD.out.rd.zero
 go_upto_if 28 with fail
 go_cut [] (fun wx=>∃r2 e2,Hid (Gy C W0 p x.kind wx r2 k e2 t0.int AP AP AP [] [] []/\Uw ⟨#[40]⟩ r1 e1 r2 e2))
 case first =>
  by_cases he:e1=0
  ·have q1:(e1==0)=true:=by simp[he]
   have DL:Hid (Gy C W0 p x.kind W5 r1 k 0 t0.int AP AP AP [] [] []):=by have:=VD.out;rw[he] at this;exact this
   have HE:=zh he;clear he rz;go_wp2_with (go_at_call 126;refine (BO ⟨#[40]⟩ DL.out.rd).mono ?_;intro y w3 h3;obtain rfl:=h3.1;have Gx:=zh (Eo h3);clear h3);go_meet;obtain ⟨hb,r',e',g1,g2⟩:=Gx.out;exact ⟨r',e',DL.out.BJ hb g1,by rw[HE.out];exact g2⟩
  ·have q1:(e1==0)=false:=by simp[he]
   have HE:=zh he;clear he rz;go_wp2;go_meet;exact ⟨r1,e1,VD.out,Me HE⟩
 case rest =>
 obtain ⟨W6,rfl⟩:∃W:World,W=wc:=⟨_,rfl⟩;obtain ⟨r2,e2,h6⟩:=hcut;have NS:=zh h6.out.1;have pz:=zh h6.out.2;clear h6 VD rz LP Ob qK;have rz:=NS.out.rd.zero
 go_upto_if 35 with fail
 go_cut [] (fun wx=>∃t1 r3 e3 vr R,Hid (Gy C W0 p x.kind wx r3 k e3 t0.int AP AP vr [] [] R/\R.length<=1/\r3.length<=r2.length/\((e2≠0/\r3=r2/\e3=e2)\/(e2=0/\Wx 3 r2 t1 r3 e3))/\(e2=0->R=[⟨t0.int,t1.str⟩])))
 case first =>
  by_cases he:e2=0
  ·have q1:(e2==0)=true:=by simp[he]
   have DL:Hid (Gy C W0 p x.kind W6 r2 k 0 t0.int AP AP AP [] [] []):=by have:=NS.out;rw[he] at this;exact this
   have HE:=zh he;have KV:Hid (C.b<W6.heap.size):=DL.out.rd.lt;clear he rz;have E8:=zh (fun (w':World) (hb:Ah C.b W6 w')=>(DL.out.vb.BJ hb GX).cells.1.2.2.2.2.1)
   have fd3:=JR;go_upto_region 7 with fail
   refine yE (S:=(fun w'=>w'.cell? ⟨p,4,none⟩=some (.int .i64 t0.int)/\Hid (Ah C.b W6 w'))) 12 (by kernel_rfl) ?_ (fun AQ=>?_)
   ·(try dsimp only);(have hk:=Ah.of (zC (Pe _ _) 1) (AAV KV);exact ⟨E8.out _ hk,hk⟩)
   refine tC 0 ?_;refine tC 1 ?_;refine tC 2 ?_;refine tC 3 ?_;refine tB 4 ?_;refine tC 5 ?_;try simp only[ps]
   refine tS 6 (fun K hK=>?_)
   go_simp
   (refine (Bp 3 (DL.out.below (zC (Pe _ _) 1)).rd).mono ?_;intro y w7 h7;obtain ⟨t1,r3,e3,rfl,g1,g2,g3⟩:=FU h7;have Ca:=zh ((Ah.of (zC (Pe W6.heap.size W6) 1) (AAV KV)).trans g1);have aX:=zh (DL.out.BJ Ca g2);have HQ7:=zh g3;clear h7 g1 g2 g3)
   refine hK.out _ _ ?_ (fun AQ=>?_)
   ·(try dsimp only);exact ⟨E8.out _ Ca,Ca.out⟩
   clear hK K;refine tC 7 ?_;refine tC 8 ?_;refine tS 9 (fun K hK=>?_)
   go_simp
   refine hK.out _ _ ?_ (fun AQ=>?_)
   ·(try dsimp only);exact ⟨E8.out _ (Ca.out.below (zD _ _) KV),Ca.out.below (zD w7 (dm ⟨t0.int,t1.str⟩)) KV⟩
   clear hK K;refine tC 10 ?_;refine tC 11 ?_;try simp only[ps]
   refine zV (rs:=[12]) (by kernel_rfl) (by simp) ?_
   refine AB.last rfl (by kernel_rfl) (fun K hK=>?_) AB.nil
   (have qJ:=zh (aX.out.below (zD w7 (dm ⟨t0.int,t1.str⟩)));have c7:=qJ.out.vb.cells.1.2.2.2.2.2.2.2;have f7:=qJ.out.vb.cells.2 7;go_simp)
   refine hK.out _ _ ?_;clear hK K
   (try clear AQ)
   refine wpAny_done (by kernel_rfl) ?_ _
   (have HR8:=zh (aX.out.mK (x:=⟨t0.int,t1.str⟩) HQ7.out.1.2.2);go_wp2;go_meet;exact ⟨t1,r3,e3,_,_,HR8.out,by simp,HQ7.out.1.1,.inr ⟨HE.out,HQ7.out⟩,fun _=>rfl⟩)
  ·have q1:(e2==0)=false:=by simp[he]
   have HE:=zh he;clear he rz;go_wp2;go_meet;exact ⟨KO,r2,e2,_,_,NS.out,by simp,AAP _,.inl ⟨HE.out,rfl,rfl⟩,fun g=>absurd g HE⟩
 case rest =>
 obtain ⟨W7,rfl⟩:∃W:World,W=wc:=⟨_,rfl⟩;obtain ⟨t1,r3,e3,vr,R,h7⟩:=hcut;have aX:=zh h7.out.1;have I6:Hid (∀W' r4 e4,Gy C W0 p x.kind W' r4 k e4 t0.int AP AP vr [] [] R->Uw ⟨#[41]⟩ r3 e3 r4 e4->GY C W0 p x.kind (t::q) (Px x.kind (Ej false (Ag false C.s) x (t::q) k)) W'):=fun W' r4 e4 g1 g2=>by
  obtain ⟨_,h1,h2,h3,h4⟩:=h7.out;have hu:=qU (k:=k) NN pz h3 g2;have hl:r4.length<=(t::q).length:=by have:=g2.1;have:=pz.out.1;have:=NN.out.1.1;simp;omega
  have hp:=HP.out;rw[List.tail_cons] at hp;rw[hp]
  revert hu
  cases ((CG 2 q).bind fun p=>(Aq ⟨#[40]⟩ p.2).bind fun l2=>(CG 3 l2).bind fun q=>(Aq ⟨#[41]⟩ q.2).bind fun l4 => .ok ((Qx false p.1.int,[],[⟨Qx false p.1.int,q.1.str⟩]),l4,k):PR (Int×List Val×List Af)) with
  | error e=>exact fun hu=>Bu g1 hl ⟨by simp,by simp,by omega⟩ (by rw[TK];exact congrArg _ hu.symm)
  | ok z =>
   obtain ⟨⟨a,b,c⟩,l,k'⟩:=z
   intro hu
   obtain ⟨j1,j2,j3,j4,j5⟩:=hu
   injection j1 with j1 j6
   injection j6 with j6 j7
   subst j1 j2 j3 j4 j6 j7;rw[XR];exact Fw g1 hl ⟨by simp,by simp,by omega⟩ (by rw[h4 j5];rfl) rfl
 clear h7 NS rz NN pz;have rz:=aX.out.rd.zero
 by_cases he:e3=0
 ·have q1:(e3==0)=true:=by simp[he]
  subst he;clear rz;have rz:=aX.out.rd.zero;go_wp2_with fail;refine (BO ⟨#[41]⟩ aX.out.rd).mono ?_
  intro y w8 h8
  obtain rfl:=h8.1;obtain ⟨EM,r4,e4,nL,pO⟩:=Eo h8;have qJ:=zh (aX.out.BJ EM nL);have yX:=zh pO;clear h8 EM nL pO;go_wp2;refine bodyPost_ret (results_none Tryz.results125 _ _ _) rfl ⟨rfl,I6.out _ _ _ qJ yX⟩
 ·have q1:(e3==0)=false:=by simp[he]
  have HE:=zh he;clear he;go_wp2;refine bodyPost_ret (results_none Tryz.results125 _ _ _) rfl ⟨rfl,I6.out _ _ _ aX (Me HE)⟩
end Go.Proofs.YthkkllmmbefedaaGreatDoor



