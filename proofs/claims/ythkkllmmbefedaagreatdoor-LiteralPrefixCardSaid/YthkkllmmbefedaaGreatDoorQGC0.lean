/-
  Walks: the literal's reader: union.
-/
import Derived.Test.YthkkllmmbefedaaGreatDoorQGR0
namespace Go.Proofs.YthkkllmmbefedaaGreatDoor
open Go.RowKit Tryz
set_option maxHeartbeats 16000000
set_option maxRecDepth 100000
structure IA (C:Eh) (W0:World) (p:Nat) (kd:Int) (W:World) (r:List AJ) (k:Bool) (e di:Int) (vk vi vr:Value) (K I:List Aj) (R:List Af):Prop where
 rd:CJ C W r k e
 vb:Hw p W kd false 0 ⟨#[]⟩ di vk vi vr K I R
 fr:Ah C.b W0 W
 lo:W0.heap.size<=p
 lb:C.b<W0.heap.size
abbrev AP:Value := .slice none 0 0
def Gv (C:Eh) (W0:World) (p:Nat) (kd:Int) (r:List AJ) (P:PR Val) (W':World):Prop:=∃di vk vi vr K I R r' k' e',IA C W0 p kd W' r' k' e' di vk vi vr K I R/\r'.length<=r.length/\(K.length<=2000000/\I.length<=2000000/\R.length<=2000000) /\
 match P with
 | .ok (v,r1,k1)=>v = .mk kd false 0 ⟨#[]⟩ di (K.map (·.v)) (I.map (·.v)) R/\r'=r1/\k'=k1/\e'=0
 | .error e1=>e'=e1
section
variable {C:Eh} {W0 W W':World} {p:Nat} {kd:Int} {r r':List AJ} {k k':Bool} {e e' di:Int} {vk vi vr:Value} {K I:List Aj} {R:List Af} {V:Vx}
theorem CZ.fl (h:CZ C V W r k e di vk vi vr K I R):IA C V.W0 V.p V.x.kind W r k e di vk vi vr K I R:=⟨h.rd,h.vb,h.fr,h.lo,h.lb⟩
theorem IA.bp (h:IA C W0 p kd W r k e di vk vi vr K I R):C.b<p:=ABa h.lb h.lo
theorem IA.BK (h:IA C W0 p kd W r k e di vk vi vr K I R) (hb:Ah C.b W W') (hr:CJ C W' r' k' e'):IA C W0 p kd W' r' k' e' di vk vi vr K I R:=⟨hr,h.vb.BK hb h.bp,h.fr.trans hb,h.lo,h.lb⟩
theorem IA.below (h:IA C W0 p kd W r k e di vk vi vr K I R) (hb:Below W.heap.size W W'):IA C W0 p kd W' r k e di vk vi vr K I R:=h.BK (h.rd.BK hb) (h.rd.below hb)
abbrev Ql (C:Eh):Obj := .cells #[.pointer (some ⟨C.b,0,none⟩)] 103
abbrev vvO (p:Nat):Obj := .cells #[.pointer (some ⟨p,0,none⟩)] 172
theorem IA.three {x:Aa} (h:IA C W0 p x.kind W r k e di vk vi vr K I R) {As:zo} {cs:Nat} {Am:zo} {cm:Nat} (ht:J4 C.w0 x As Am) :
  CZ C ⟨W0,x,As,cs,Am,cm,p,W.heap.size,W.heap.size+1,W.heap.size+2⟩ (((W.alloc (Ql C)).alloc (x.box As cs Am cm)).alloc (vvO p)) r k e di vk vi vr K I R:=by
 have hb1:=zI W (Ql C) (x.box As cs Am cm);have hb2:=zD ((W.alloc (Ql C)).alloc (x.box As cs Am cm)) (vvO p);have hb:=zB hb1 hb2;have hf:=h.below hb;refine ⟨hf.rd,hf.vb,hf.fr,h.lo,h.lb,ht,?_,?_,.inr ?_⟩
 ·exact Au (Au (AAA W (Ql C)) (zD _ _)) hb2
 ·have:=AAA (W.alloc (Ql C)) (x.box As cs Am cm)
  rw[show (W.alloc (Ql C)).heap.size=W.heap.size+1 by simp] at this
  exact Au this hb2
 ·have:=AAA ((W.alloc (Ql C)).alloc (x.box As cs Am cm)) (vvO p)
  rw[show ((W.alloc (Ql C)).alloc (x.box As cs Am cm)).heap.size=W.heap.size+2 by simp] at this
  exact this
theorem IA.pvp (h:IA C W0 p kd W r k e di vk vi vr K I R):W.heap.size+2≠p:=by have:=h.vb.lt;omega
end
def kG (f:Int->List AJ->Bool->PR Val) (x:Aa) (l1:List AJ) (k:Bool):PR (List (Val×Val)) :=
 if Ba ⟨#[45,62]⟩ l1=true then (Ay ⟨#[93]⟩ l1.tail).bind fun l2 => .ok ([],l2,k)
  else if Ba ⟨#[93]⟩ l1=true then .error 2
  else (Kt (Dr f x) l1 k).bind fun p=>(Ay ⟨#[93]⟩ p.2.1).bind fun l2 => .ok (p.1,l2,p.2.2)
theorem vw (f:Int->List AJ->Bool->PR Val) (x:Aa) (l:List AJ) (k:Bool):IV f x l k=(Ay ⟨#[91]⟩ l).bind fun l1=>kG f x l1 k:=rfl
def Xr (kd:Int) (P:PR (List (Val×Val))):PR Val:=P.bind fun p => .ok (.mk kd false 0 ⟨#[]⟩ 0 (p.1.map Prod.fst) (p.1.map Prod.snd) [],p.2)
def Gc (K I:List Aj):List (Val×Val):=(K.map (·.v)).zip (I.map (·.v))
variable {I K:List Aj}
theorem OI (h:K.length=I.length) (x y:Aj):Gc (K++[x]) (I++[y])=Gc K I++[(x.v,y.v)]:=by
 unfold Gc;rw[List.map_append,List.map_append,List.zip_append (by simp[h])]
 rfl
theorem Xg (h:K.length=I.length):(Gc K I).map Prod.fst=K.map (·.v):=by
 unfold Gc;exact List.map_fst_zip (by simp[h])
theorem Xf (h:K.length=I.length):(Gc K I).map Prod.snd=I.map (·.v):=by
 unfold Gc;exact List.map_snd_zip (by simp[h])
section
variable {C:Eh} {V:Vx}
def EnI (C:Eh) (V:Vx) (Rt:PR (List (Val×Val))) (W:World) (r:List AJ) (k:Bool):Prop:=∃vk vi K I,CZ C V W r k 0 0 vk vi AP K I []/\(K.length=I.length/\I.length+r.length<=C.l.length)/\JB (Dr (Ag false C.s) V.x) Rt (Gc K I) r k
def EnJ (C:Eh) (V:Vx) (Rt:PR (List (Val×Val))) (W:World) (r:List AJ) (k:Bool):Prop:=∃vk vi K I,CZ C V W r k 0 0 vk vi AP K I []/\(K.length=I.length/\I.length+r.length<=C.l.length)/\(Ba ⟨#[44]⟩ r=true->JB (Dr (Ag false C.s) V.x) Rt (Gc K I) r.tail k)/\(Ba ⟨#[44]⟩ r=false->Rt = .ok (Gc K I,r,k))
def EnF (C:Eh) (V:Vx) (Rt:PR (List (Val×Val))) (W:World) (r:List AJ) (k:Bool):Prop:=∃vk vi K I,CZ C V W r k 0 0 vk vi AP K I []/\(K.length=I.length/\I.length+r.length<=C.l.length)/\∃l,Rt = .ok (Gc K I,l,k)/\Ay ⟨#[93]⟩ l = .ok r
def EnE (C:Eh) (V:Vx) (Rt:PR (List (Val×Val))) (n0:Nat) (W:World) (e:Int):Prop:=∃vk vi K I r k,CZ C V W r k e 0 vk vi AP K I []/\(K.length<=2000000/\I.length<=2000000)/\r.length<=n0/\(Rt.bind fun p=>(Ay ⟨#[93]⟩ p.2.1).bind fun l2 => .ok (p.1,l2,p.2.2):PR (List (Val×Val))) = .error e
theorem Mc (s:List Aa) (x:Aa):Dec (Dr (Ag false s) x):=Jy (fun t=>IC false s t) x
theorem wS {s:List Aa} {x:Aa} {l:List AJ} {k:Bool}:Dr (Ag false s) x l k ≠ .error 0:=fun h=>by
 unfold Dr at h
 rcases Mj h with h|⟨p,_,h⟩
 ·exact GK false _ _ _ _ h
 ·rcases Mj h with h|⟨l1,_,h⟩
  ·exact E8 _ _ h
  ·rcases Mj h with h|⟨q,_,h⟩
   ·exact GK false _ _ _ _ h
   ·cases h
theorem ADa {n:Nat} (ih:EB C n) (hpv:V.pv≠V.p) (he1:0<=V.x.key/\V.x.key<(C.s.length:Int)) (he:0<=V.x.elem/\V.x.elem<(C.s.length:Int)) {r0:List AJ} (hn:r0.length<n) {Rt:PR (List (Val×Val))} :
  R7 C ⟨#[93]⟩ 162 [.pointer (some ⟨V.pv,0,none⟩),.pointer (some ⟨V.pr,0,none⟩),.pointer (some ⟨V.px,0,none⟩)] (fun W r k=>EnI C V Rt W r k/\r.length<=r0.length) (fun W r k=>EnJ C V Rt W r k/\r.length<=r0.length) (EnF C V Rt) (EnE C V Rt r0.length) where
 iS:=fun W r k h=>by obtain ⟨⟨_,_,_,_,h,_⟩,_⟩:=h;exact h.rd
 jS:=fun W r k h=>by obtain ⟨⟨_,_,_,_,h,_⟩,_⟩:=h;exact h.rd
 part:=fun W r k ⟨⟨vk,vi,K,I,h,⟨h1,h2⟩,h3⟩,h4⟩=>by
  have TW:=h.rd.ok.len;refine (Tc ih h hpv (by omega) he1 he (by omega) (by omega)).mono ?_
  rintro y W' ⟨rfl,x,z,LF,G5,r',k',e',g1,g2,g3⟩;refine ⟨rfl,r',k',e',g1.rd,g2,fun e=>?_,fun hne=>?_⟩
  ·subst e
   cases hp:Dr (Ag false C.s) V.x r k with
   | error e1=>rw[hp] at g3;exact absurd (g3▸hp) wS
   | ok q =>
    obtain ⟨⟨a,b⟩,r1,k1⟩:=q;rw[hp] at g3;obtain ⟨j1,j2,rfl,rfl,_⟩:=g3;have hlt:=(Mc C.s V.x _ _ _ _ _ hp).2;have hx:((x.v,z.v):Val×Val)=(a,b):=by rw[j1,j2]
    refine ⟨⟨LF,G5,K++[x],I++[z],g1,⟨by simp[h1],by simp;omega⟩,fun hc=>?_,fun hc=>?_⟩,by omega⟩
    ·rw[OI h1,hx];exact h3.comma (Mc _ _) hp hc
    ·rw[OI h1,hx];exact h3.fin (Mc _ _) hp hc
  ·cases hp:Dr (Ag false C.s) V.x r k with
   | error e1 =>
    rw[hp] at g3;obtain rfl:e'=e1:=g3;exact ⟨LF,G5,_,_,r',k',g1,⟨by simp;omega,by simp;omega⟩,by omega,by rw[h3.bad (Mc _ _) hp];rfl⟩
   | ok q =>
    rw[hp] at g3;exact absurd g3.2.2.2.2 hne
 comma:=fun W r k W' ⟨⟨vk,vi,K,I,h,⟨h1,h2⟩,h3,h4⟩,h5⟩ hc hb hr=>by
  have:=Jq hc;exact ⟨⟨vk,vi,K,I,h.BK hb hr,⟨h1,by omega⟩,h3 hc⟩,by omega⟩
 fin:=fun W r k W' ⟨⟨vk,vi,K,I,h,⟨h1,h2⟩,h3,h4⟩,h5⟩ hc ht hb hr=>by
  have:=Jq ht;exact ⟨vk,vi,K,I,h.BK hb hr,⟨h1,by omega⟩,r,h4 hc,by unfold Ay;rw[AAB ht]⟩
 bad:=fun W r k W' ⟨⟨vk,vi,K,I,h,⟨h1,h2⟩,h3,h4⟩,h5⟩ hc ht hb hr=>by
  have TW:=h.rd.ok.len;refine ⟨vk,vi,K,I,r,k,h.BK hb hr,⟨by omega,by omega⟩,h5,?_⟩
  rw[h4 hc,zM];unfold Ay;simp only;rw[Pd (by rw[ht];simp)]
  rfl
end
section
variable {C:Eh} {W0 W':World} {p:Nat} {kd:Int} {r r':List AJ} {k k':Bool} {e' di:Int} {vk vi vr:Value} {K I:List Aj} {R:List Af}
theorem CG {P:PR Val} (h:IA C W0 p kd W' r' k' e' di vk vi vr K I R) (hl:r'.length<=r.length) (hz:K.length<=2000000/\I.length<=2000000/\R.length<=2000000) (hp:P = .error e'):Gv C W0 p kd r P W' :=
 ⟨di,vk,vi,vr,K,I,R,r',k',e',h,hl,hz,by rw[hp]⟩
theorem GR {P:PR Val} (h:IA C W0 p kd W' r' k' 0 di vk vi vr K I R) (hl:r'.length<=r.length) (hz:K.length<=2000000/\I.length<=2000000/\R.length<=2000000) {v:Val} (hv:v = .mk kd false 0 ⟨#[]⟩ di (K.map (·.v)) (I.map (·.v)) R) (hp:P = .ok (v,r',k')):Gv C W0 p kd r P W' :=
 ⟨di,vk,vi,vr,K,I,R,r',k',0,h,hl,hz,by rw[hp];exact ⟨hv,rfl,rfl,rfl⟩⟩
end
theorem VH (kd e:Int):Xr kd (.error e) = .error e:=rfl
theorem ZM (kd:Int) (L:List (Val×Val)) (l:List AJ) (k:Bool):Xr kd (.ok (L,l,k)) = .ok (.mk kd false 0 ⟨#[]⟩ 0 (L.map Prod.fst) (L.map Prod.snd) [],l,k):=rfl
theorem z3:([]:List Aj).length<=2000000/\([]:List Aj).length<=2000000/\([]:List Af).length<=2000000:=⟨by decide,by decide,by decide⟩
variable {k:Bool} {r:List AJ} {cm cs n p:Nat} {C:Eh} {x:Aa} {W W0:World} {Am As:zo}
theorem Vp (ih:EB C n) (ht:J4 C.w0 x As Am) (h:IA C W0 p x.kind W r k 0 0 AP AP AP [] [] []) (hn:r.length<=n) (he1:0<=x.key/\x.key<(C.s.length:Int)) (he:0<=x.elem/\x.elem<(C.s.length:Int)):
  Calls prog 129 #[.pointer (some ⟨C.b,0,none⟩),x.v As cs Am cm,.pointer (some ⟨p,0,none⟩)] W fun y W'=>y = .returned (.tuple #[])/\Gv C W0 p x.kind r (Xr x.kind (IV (Ag false C.s) x r k)) W':=by
 have rq:=zh (h.three (cs:=cs) (cm:=cm) ht);have Qu:=zh h.pvp;have HN:=zh hn;have Ed:=zh ih;have PO:=zh he1;have Kz:=zh he;have yJ:=zh (vw (Ag false C.s) x r k);clear h ih hn he1 he ht
 go_enter func129,ntmps129
 go_upto_region 1 with fail
 generalize ((W.alloc (Ql C)).alloc (x.box As cs Am cm)).alloc (vvO p)=W1 at *;generalize hV:(⟨W0,x,As,cs,Am,cm,p,W.heap.size,W.heap.size+1,W.heap.size+2⟩:Vx)=V at *;have HX:Hid (V.x=x/\V.p=p/\V.W0=W0):=by rw[<-hV];exact ⟨rfl,rfl,rfl⟩
 have e1:W.heap.size=V.pr:=by rw[<-hV]
 have e2:W.heap.size+1=V.px:=by rw[<-hV]
 have e3:W.heap.size+2=V.pv:=by rw[<-hV]
 have e4:p=V.p:=by rw[<-hV]
 have uF:Hid (V.pv≠V.p):=by show _≠_;rw[<-e3,<-e4];exact Qu.O
 rw[show W.heap.size+1+1=V.pv from e3,e2,e1];clear hV e1 e2 e3 Qu;have LD:Hid (∀W' r' k' e' di vk vi vr K I R,CZ C V W' r' k' e' di vk vi vr K I R->IA C W0 p x.kind W' r' k' e' di vk vi vr K I R):=fun W' r' k' e' di vk vi vr K I R h=>by
  have:=h.fl;obtain ⟨g1,g2,g3⟩:=HX.O;rw[g1,g2,g3] at this;exact this
 clear e4;have rr:=(rq.O.reads (Ah.refl _ _)).1.2.2.2.1
 go_upto_if 12 with (go_at_call 126;refine (BS ⟨#[91]⟩ rq.O.rd).mono ?_;intro y w3 h3;obtain rfl:=h3.1;obtain ⟨hb3,r1,e1,hr3,hs3⟩:=FJ h3;have KA:=zh (rq.O.BK hb3 hr3);have H9:=zh hs3;have rr3:=(KA.O.reads (Ah.refl _ _)).1.2.2.2.1;have rz3:=hr3.zero;clear h3 hb3 hr3 hs3)
 have Mv:=zh (En H9)
 by_cases he:e1=0
 case neg =>
  have q1:(e1 != 0)=true:=by simp[he]
  have HP:Hid (Xr x.kind (IV (Ag false C.s) x r k) = .error e1):=by
   show _=_
   have hs:=Mv.O;rw[yJ.O]
   cases hsy:Ay ⟨#[91]⟩ r with
   | error e2=>rw[hsy] at hs;rw[hs.1];rfl
   | ok l=>rw[hsy] at hs;exact absurd hs.2 he
  clear he;go_wp2;refine bodyPost_ret (results_none results129 _ _ _) rfl ⟨rfl,CG (LD.O _ _ _ _ _ _ _ _ _ _ _ KA) H9.O.1 z3 HP⟩
 subst he;obtain ⟨HQ,EP⟩:Hid (IV (Ag false C.s) x r k=kG (Ag false C.s) x r1 k)/\Hid (r1.length<r.length):=by
  have hs:=Mv.O
  cases hsy:Ay ⟨#[91]⟩ r with
  | error e2=>rw[hsy] at hs;exact absurd rfl hs.2
  | ok l =>
   rw[hsy] at hs;obtain ⟨rfl,_⟩:=hs;exact ⟨by show _=_;rw[yJ.O,hsy];rfl,(zU hsy).1.2⟩
 clear Mv H9 yJ rr rq
 cases ha:Ba ⟨#[45,62]⟩ r1 with
 | true =>
  have HA:=zh ha;have HP:Hid (IV (Ag false C.s) x r k=(Ay ⟨#[93]⟩ r1.tail).bind fun l2 => .ok ([],l2,k)):=by show _=_;rw[HQ.O];unfold kG;rw[AAB ha]
  obtain ⟨t,q,rfl,_,_⟩:=DR ha;clear ha;go_wp2_with (first|(go_at_call 160;refine (zX ⟨#[45,62]⟩ KA.O.rd).mono ?_;rintro y w4 ⟨rfl,hb4⟩;rw[HA.O];have Fx:=zh (KA.O.below hb4);have vH:=(Fx.O.reads (Ah.refl _ _)).1.2.2.2.1;obtain ⟨i,hi,c2,f2,hi2,WS⟩:=Fx.O.rd.fB;clear hb4));have HV5:=zh (Fx.O.BK ((Ah.refl _ _).set 2 (.int .i64 ((i:Int)+1))) (WS.O.1 _ _ _ Fx.O.rd))
  refine (BS ⟨#[93]⟩ HV5.O.rd).mono ?_
  intro y w6 h6
  obtain rfl:=h6.1;obtain ⟨hb6,r6,e6,hr6,hs6⟩:=FJ h6;have Dw:=zh (LD.O _ _ _ _ _ _ _ _ _ _ _ (HV5.O.BK hb6 hr6));have Mv:=zh (En hs6);have sH:=zh hs6.1;clear h6 hb6 hr6 hs6;go_wp2;refine bodyPost_ret (results_none results129 _ _ _) rfl ⟨rfl,?_⟩;have hl:r6.length<=r.length:=by have:=sH.O;have:=EP.O;rw[AAI] at this;omega
  have hs:=Mv.O;have hp:=HP.O;rw[List.tail_cons] at hp
  cases hsy:Ay ⟨#[93]⟩ q with
  | error e2 =>
   rw[hsy] at hs hp;rw[DV] at hp;have h9:Xr x.kind (IV (Ag false C.s) x r k) = .error e6:=by rw[hp,VH,hs.1]
   exact CG Dw hl z3 h9
  | ok l =>
   rw[hsy] at hs hp;obtain ⟨rfl,rfl⟩:=hs;exact GR Dw hl z3 rfl (by rw[hp,zM,ZM];rfl)
 | false =>
  have HA:=zh ha
  cases hb:Ba ⟨#[93]⟩ r1 with
  | true =>
   have HB:=zh hb;have HP:Hid (Xr x.kind (IV (Ag false C.s) x r k) = .error 2):=by show _=_;rw[HQ.O];unfold kG;rw[Pd (by rw[ha];simp),AAB hb];rfl
   clear ha hb;go_wp2_with fail;refine (zX ⟨#[45,62]⟩ KA.O.rd).mono ?_;rintro y w4 ⟨rfl,hb4⟩;rw[HA.O];have Fx:=zh (KA.O.below hb4);have vH:=(Fx.O.reads (Ah.refl _ _)).1.2.2.2.1;clear hb4;go_wp2_with fail;refine (zX ⟨#[93]⟩ Fx.O.rd).mono ?_;rintro y w5 ⟨rfl,hb5⟩;rw[HB.O];have HV5:=zh (Fx.O.below hb5);have rr5:=(HV5.O.reads (Ah.refl _ _)).1.2.2.2.1;clear hb5;go_wp2_with fail
   refine (Bc 2 HV5.O.rd).mono ?_;rintro y w6 ⟨rfl,g1,g2⟩;have Dw:=zh (LD.O _ _ _ _ _ _ _ _ _ _ _ (HV5.O.BK g2 g1));clear g1 g2;go_wp2;refine bodyPost_ret (results_none results129 _ _ _) rfl ⟨rfl,CG Dw (AAM EP) z3 HP⟩
  | false =>
   have HB:=zh hb;have HP:Hid (IV (Ag false C.s) x r k=(Kt (Dr (Ag false C.s) x) r1 k).bind fun p=>(Ay ⟨#[93]⟩ p.2.1).bind fun l2 => .ok (p.1,l2,p.2.2)):=by show _=_;rw[HQ.O];unfold kG;rw[Pd (by rw[ha];simp),Pd (by rw[hb];simp)]
   clear ha hb;go_wp2_with fail;refine (zX ⟨#[45,62]⟩ KA.O.rd).mono ?_;rintro y w4 ⟨rfl,hb4⟩;rw[HA.O];have Fx:=zh (KA.O.below hb4);have vH:=(Fx.O.reads (Ah.refl _ _)).1.2.2.2.1;clear hb4;go_wp2_with fail;refine (zX ⟨#[93]⟩ Fx.O.rd).mono ?_;rintro y w5 ⟨rfl,hb5⟩;rw[HB.O];have HV5:=zh (Fx.O.below hb5);have rr5:=(HV5.O.reads (Ah.refl _ _)).1.2.2.2.1;clear hb5;go_wp2_with fail
   have xO:Hid (V.x=x):=HX.O.1;have hc:=ADa (C:=C) (V:=V) Ed uF (by rw[xO.O];exact PO.O) (by rw[xO.O];exact Kz.O) (r0:=r1) (by have:=EP.O;have:=HN.O;omega) (Rt:=Kt (Dr (Ag false C.s) V.x) r1 k)
   refine (Qq hc HV5.O.rd (fun h=>by rw[HB.O] at h;cases h) (fun _ W' g1 g2=>⟨⟨AP,AP,[],[],HV5.O.BK g1 g2,⟨rfl,by have:=g2.Uk.length_le;simp;omega⟩,JB.start _ _ _⟩,AAF _⟩)).mono ?_
   rintro y w6 ⟨rfl,r6,k6,e6,g1,g2,g3⟩;have HG2:=zh g2;have Ky:=zh g3;have HR6:=zh g1;clear g1 g2 g3 hc;go_wp2;refine bodyPost_end (results_none results129 _ _ _) rfl ⟨rfl,?_⟩
   by_cases hz:e6=0
   ·subst hz
    obtain ⟨vk,vi,K,I,g1,⟨g2,g3⟩,l,g4,g5⟩:=HG2.O rfl;rw[xO.O] at g4;have hlt:=(zU g5).1.2;have hl:=(O1 (Mc C.s x) _ _ _ _ _ _ g4).2;have h6:=g1.rd.ok.len;refine GR (LD.O _ _ _ _ _ _ _ _ _ _ _ g1) (by have:=EP.O;omega) ⟨by omega,by omega,by simp⟩ ?_ (by rw[HP.O,g4,zM,g5,zM,ZM])
    rw[Xg g2,Xf g2]
   ·obtain ⟨vk,vi,K,I,r7,k7,g1,⟨g2,g3⟩,g5,g4⟩:=Ky.O hz
    rw[xO.O] at g4;refine CG (LD.O _ _ _ _ _ _ _ _ _ _ _ g1) (by have:=EP.O;omega) ⟨by omega,by omega,by simp⟩ (by rw[HP.O,g4,VH])
def XQ (kd:Int) (P:Kv):PR Val:=P.bind fun p => .ok (.mk kd false 0 ⟨#[]⟩ 0 [] p.1.1 p.1.2,p.2)
theorem jG (kd e:Int):XQ kd (.error e) = .error e:=rfl
theorem pI (kd:Int) (a:List Val) (b:List Af) (l:List AJ) (k:Bool):XQ kd (.ok ((a,b),l,k)) = .ok (.mk kd false 0 ⟨#[]⟩ 0 [] a b,l,k):=rfl
section
variable {C:Eh} {V:Vx}
def RcI (C:Eh) (V:Vx) (Rt:Kv) (n0:Nat) (W:World) (r:List AJ) (k:Bool):Prop:=∃vi vr I R,CZ C V W r k 0 0 AP vi vr [] I R/\(I.length<=V.x.AA.length/\I.length+R.length+r.length<=C.l.length/\r.length<=n0)/\Mr (Ag false C.s) Rt (I.map (·.v)) R (V.x.AA.drop I.length) r k
def RcJ (C:Eh) (V:Vx) (Rt:Kv) (n0:Nat) (W:World) (r:List AJ) (k:Bool):Prop:=∃vi vr I R,CZ C V W r k 0 0 AP vi vr [] I R/\(I.length<=V.x.AA.length/\I.length+R.length+r.length<=C.l.length/\r.length<=n0)/\QX (Ag false C.s) Rt (I.map (·.v)) R (V.x.AA.drop I.length) r k
def RcF (C:Eh) (V:Vx) (Rt:Kv) (n0:Nat) (W:World) (r:List AJ) (k:Bool):Prop:=∃vi vr I R,CZ C V W r k 0 0 AP vi vr [] I R/\(I.length+R.length+r.length<=C.l.length/\r.length<=n0)/\Rt = .ok ((I.map (·.v),R),r,k)
def RcE (C:Eh) (V:Vx) (Rt:Kv) (n0:Nat) (W:World) (e:Int):Prop:=∃vi vr I R r k,CZ C V W r k e 0 AP vi vr [] I R/\(I.length<=2000000/\R.length<=2000000)/\r.length<=n0/\Rt = .error e
theorem Ur {n:Nat} (ih:EB C n) {W:World} {r:List AJ} {k:Bool} {vk vi vr:Value} {KL I:List Aj} {R:List Af} (h:CZ C V W r k 0 0 vk vi vr KL I R) (hpv:V.pv≠V.p) (hn:r.length<n)
  (he:∀y∈V.x.AA,0<=y.type/\y.type<(C.s.length:Int)) {Rt:Kv} (hR:Mr (Ag false C.s) Rt (I.map (·.v)) R (V.x.AA.drop I.length) r k) (hl:I.length+R.length<=1000000) (hi:I.length<=V.x.AA.length) :
  Calls prog 161 #[.pointer (some ⟨V.pv,0,none⟩),.pointer (some ⟨V.px,0,none⟩),.pointer (some ⟨V.pr,0,none⟩)] W fun y W'=>y = .returned (.tuple #[])/\RcP C V Rt r vk KL I R W':=by
 by_cases h1:I.length<V.x.AA.length
 ·exact Uq ih h hpv hn he hR hl h1
 ·exact Uo h hpv hR hl (by omega)
theorem recC {n:Nat} (ih:EB C n) (hpv:V.pv≠V.p) (he:∀y∈V.x.AA,0<=y.type/\y.type<(C.s.length:Int)) {n0:Nat} (hn:n0<n) {Rt:Kv} :
  R7 C ⟨#[125]⟩ 161 [.pointer (some ⟨V.pv,0,none⟩),.pointer (some ⟨V.px,0,none⟩),.pointer (some ⟨V.pr,0,none⟩)] (RcI C V Rt n0) (RcJ C V Rt n0) (RcF C V Rt n0) (RcE C V Rt n0) where
 iS:=fun W r k h=>by obtain ⟨_,_,_,_,h,_⟩:=h;exact h.rd
 jS:=fun W r k h=>by obtain ⟨_,_,_,_,h,_⟩:=h;exact h.rd
 part:=fun W r k ⟨vi,vr,I,R,h,⟨h1,h2,h3⟩,h4⟩=>by
  have TW:=h.rd.ok.len;refine (Ur ih h hpv (by omega) he h4 (by omega) h1).mono ?_
  rintro y W' ⟨rfl,G5,nM,I',R',r',k',e',g1,g2,g3,g5,g6⟩;refine ⟨rfl,r',k',e',g1.rd,g2,fun e=>?_,fun hne=>?_⟩
  ·obtain ⟨j1,j2,j3⟩:=g5 e
   subst e;exact ⟨G5,nM,I',R',g1,⟨j2,by omega,by omega⟩,j1⟩
  ·exact ⟨G5,nM,I',R',r',k',g1,g3,by omega,g6 hne⟩
 comma:=fun W r k W' ⟨vi,vr,I,R,h,⟨h1,h2,h3⟩,h4⟩ hc hb hr=>by
  have:=Jq hc;exact ⟨vi,vr,I,R,h.BK hb hr,⟨h1,by omega,by omega⟩,h4.comma hc⟩
 fin:=fun W r k W' ⟨vi,vr,I,R,h,⟨h1,h2,h3⟩,h4⟩ hc ht hb hr=>by
  have:=Jq ht;exact ⟨vi,vr,I,R,h.BK hb hr,⟨by omega,by omega⟩,h4.fin hc ht⟩
 bad:=fun W r k W' ⟨vi,vr,I,R,h,⟨h1,h2,h3⟩,h4⟩ hc ht hb hr=>by
  have TW:=h.rd.ok.len;exact ⟨vi,vr,I,R,r,k,h.BK hb hr,⟨by omega,by omega⟩,h3,h4.bad hc ht⟩
end
theorem XP (ih:EB C n) (ht:J4 C.w0 x As Am) (h:IA C W0 p x.kind W r k 0 0 AP AP AP [] [] []) (hn:r.length<=n) (he:∀y∈x.AA,0<=y.type/\y.type<(C.s.length:Int)):
  Calls prog 124 #[.pointer (some ⟨C.b,0,none⟩),x.v As cs Am cm,.pointer (some ⟨p,0,none⟩)] W fun y W'=>y = .returned (.tuple #[])/\Gv C W0 p x.kind r (XQ x.kind (JN false (Ag false C.s) x r k)) W':=by
 have rq:=zh (h.three (cs:=cs) (cm:=cm) ht);have Qu:=zh h.pvp;have HN:=zh hn;have Ed:=zh ih;have Kz:=zh he;have yJ:=zh (pK (f:=Ag false C.s) x r k);clear h ih hn he ht
 go_enter func124,ntmps124
 go_upto_region 1 with fail
 generalize ((W.alloc (Ql C)).alloc (x.box As cs Am cm)).alloc (vvO p)=W1 at *;generalize hV:(⟨W0,x,As,cs,Am,cm,p,W.heap.size,W.heap.size+1,W.heap.size+2⟩:Vx)=V at *;have HX:Hid (V.x=x/\V.p=p/\V.W0=W0):=by rw[<-hV];exact ⟨rfl,rfl,rfl⟩
 have e1:W.heap.size=V.pr:=by rw[<-hV]
 have e2:W.heap.size+1=V.px:=by rw[<-hV]
 have e3:W.heap.size+2=V.pv:=by rw[<-hV]
 have e4:p=V.p:=by rw[<-hV]
 have uF:Hid (V.pv≠V.p):=by show _≠_;rw[<-e3,<-e4];exact Qu.O
 rw[show W.heap.size+1+1=V.pv from e3,e2,e1];clear hV e1 e2 e3 Qu;have LD:Hid (∀W' r' k' e' di vk vi vr K I R,CZ C V W' r' k' e' di vk vi vr K I R->IA C W0 p x.kind W' r' k' e' di vk vi vr K I R):=fun W' r' k' e' di vk vi vr K I R h=>by
  have:=h.fl;obtain ⟨g1,g2,g3⟩:=HX.O;rw[g1,g2,g3] at this;exact this
 clear e4;have rr:=(rq.O.reads (Ah.refl _ _)).1.2.2.2.1
 go_upto_if 12 with (go_at_call 126;refine (BS ⟨#[123]⟩ rq.O.rd).mono ?_;intro y w3 h3;obtain rfl:=h3.1;obtain ⟨hb3,r1,e1,hr3,hs3⟩:=FJ h3;have KA:=zh (rq.O.BK hb3 hr3);have H9:=zh hs3;have rr3:=(KA.O.reads (Ah.refl _ _)).1.2.2.2.1;have rm3:=(KA.O.reads (Ah.refl _ _)).1.2.2.2.2.1;rw[HX.O.1] at rm3;have rz3:=hr3.zero;clear h3 hb3 hr3 hs3)
 have Mv:=zh (En H9)
 by_cases he:e1=0
 case neg =>
  have q1:(e1 != 0)=true:=by simp[he]
  have HP:Hid (XQ x.kind (JN false (Ag false C.s) x r k) = .error e1):=by
   show _=_
   have hs:=Mv.O;rw[yJ.O]
   cases hsy:Ay ⟨#[123]⟩ r with
   | error e2=>rw[hsy] at hs;rw[hs.1];rfl
   | ok l=>rw[hsy] at hs;exact absurd hs.2 he
  clear he;go_wp2;refine bodyPost_ret (results_none results124 _ _ _) rfl ⟨rfl,CG (LD.O _ _ _ _ _ _ _ _ _ _ _ KA) H9.O.1 z3 HP⟩
 subst he;obtain ⟨HQ,EP⟩:Hid (JN false (Ag false C.s) x r k=Sl (Ag false C.s) x.AA r1 k)/\Hid (r1.length<r.length):=by
  have hs:=Mv.O
  cases hsy:Ay ⟨#[123]⟩ r with
  | error e2=>rw[hsy] at hs;exact absurd rfl hs.2
  | ok l =>
   rw[hsy] at hs;obtain ⟨rfl,_⟩:=hs;exact ⟨by show _=_;rw[yJ.O,hsy];rfl,(zU hsy).1.2⟩
 have xO:Hid (V.x=x):=HX.O.1;clear Mv H9 yJ rr rq;have Li:Hid (∀W5,CZ C V W5 r1 k 0 0 AP AP AP [] [] []->(Ba ⟨#[125]⟩ r1=true->x.AA=[]) ->
   Calls prog 127 #[.pointer (some ⟨C.b,0,none⟩),.string ⟨#[125]⟩,.func (.func 161) #[] #[.pointer (some ⟨V.pv,0,none⟩),.pointer (some ⟨V.px,0,none⟩),.pointer (some ⟨V.pr,0,none⟩)]] W5 fun y W'=>y = .returned (.tuple #[])/\Gv C W0 p x.kind r (XQ x.kind (JN false (Ag false C.s) x r k)) W'):=fun W5 h5 hm=>by
  have hl1:=h5.rd.Uk.length_le;have hc:=recC (C:=C) (V:=V) Ed uF (by rw[xO.O];exact Kz.O) (n0:=r1.length) (by have:=EP.O;have:=HN.O;omega) (Rt:=Sl (Ag false C.s) x.AA r1 k)
  refine (TN hc h5.rd (fun h W' g1 g2=>?_) (fun h W' g1 g2=>⟨AP,AP,[],[],h5.BK g1 g2,⟨by simp,by simp;omega,AAF _⟩,by rw[xO.O];exact Mr.start h⟩)).mono ?_
  ·have:=Jq h
   refine ⟨AP,AP,[],[],h5.BK g1 g2,⟨by simp;omega,by omega⟩,?_⟩
   rw[hm h];exact aY h
  ·rintro y w6 ⟨rfl,r6,k6,e6,g1,g2,g3⟩
   refine ⟨rfl,?_⟩;have hlt:=EP.O;have h6:=h5.rd.ok.len
   by_cases hz:e6=0
   ·subst hz
    obtain ⟨vi,vr,I,R,j1,⟨j2,j3⟩,j4⟩:=g2 rfl;exact GR (LD.O _ _ _ _ _ _ _ _ _ _ _ j1) (by omega) ⟨by simp,by omega,by omega⟩ rfl (by rw[HQ.O,j4,pI];rfl)
   ·obtain ⟨vi,vr,I,R,r7,k7,j1,⟨j2,j3⟩,j4,j5⟩:=g3 hz
    exact CG (LD.O _ _ _ _ _ _ _ _ _ _ _ j1) (by omega) ⟨by simp,j2,j3⟩ (by rw[HQ.O,j5,jG])
 by_cases hm:x.AA=[]
 ·have q2:¬ (0:Int)<(x.AA.length:Int):=by rw[hm];simp
  have HM:=zh hm;clear hm;go_wp2_with fail;refine (Li.O _ (KA.O.below (zC (Pe _ _) 0)) (fun _=>HM.O)).mono ?_
  rintro y w6 ⟨rfl,h6⟩;have H6:=zh h6;clear h6;go_wp2;refine bodyPost_end (results_none results124 _ _ _) rfl ⟨rfl,H6.O⟩
 ·have q2:(0:Int)<(x.AA.length:Int):=by have:=List.length_pos_iff.2 hm;omega
  cases hb:Ba ⟨#[125]⟩ r1 with
  | true =>
   have HB:=zh hb;have HP:Hid (XQ x.kind (JN false (Ag false C.s) x r k) = .error 2):=by show _=_;rw[HQ.O,jH hm hb];rfl
   clear hm hb;go_wp2_with fail;refine (zX ⟨#[125]⟩ KA.O.rd).mono ?_;rintro y w4 ⟨rfl,hb4⟩;rw[HB.O];have Fx:=zh (KA.O.below hb4);have vH:=(Fx.O.reads (Ah.refl _ _)).1.2.2.2.1;clear hb4;go_wp2_with fail;refine (Bc 2 Fx.O.rd).mono ?_;rintro y w6 ⟨rfl,g1,g2⟩;have Dw:=zh (LD.O _ _ _ _ _ _ _ _ _ _ _ (Fx.O.BK g2 g1));clear g1 g2;go_wp2
   refine bodyPost_ret (results_none results124 _ _ _) rfl ⟨rfl,CG Dw (AAM EP) z3 HP⟩
  | false =>
   have HB:=zh hb;clear hm hb;go_wp2_with fail;refine (zX ⟨#[125]⟩ KA.O.rd).mono ?_;rintro y w4 ⟨rfl,hb4⟩;rw[HB.O];have Fx:=zh (KA.O.below hb4);have vH:=(Fx.O.reads (Ah.refl _ _)).1.2.2.2.1;clear hb4;go_wp2_with fail;refine (Li.O _ Fx (fun h=>by rw[HB.O] at h;cases h)).mono ?_
   rintro y w6 ⟨rfl,h6⟩;have H6:=zh h6;clear h6;go_wp2;refine bodyPost_end (results_none results124 _ _ _) rfl ⟨rfl,H6.O⟩
def U7 (kd:Int) (P:PR (List Val)):PR Val:=P.bind fun p => .ok (.mk kd false 0 ⟨#[]⟩ 0 [] p.1 [],p.2)
theorem MP (kd e:Int):U7 kd (.error e) = .error e:=rfl
theorem ZE (kd:Int) (a:List Val) (l:List AJ) (k:Bool):U7 kd (.ok (a,l,k)) = .ok (.mk kd false 0 ⟨#[]⟩ 0 [] a [],l,k):=rfl
theorem G8 (a:ByteArray) (l:List UInt8):(a.toList==l)=decide (a=⟨l.toArray⟩):=by
 have h:(⟨l.toArray⟩:ByteArray).toList=l:=by rw[Lib.toList_data]
 have:=bytes_beq a ⟨l.toArray⟩
 rwa [h] at this
section
variable {C:Eh} {W0 W W':World} {p:Nat} {kd:Int} {r r':List AJ} {k k':Bool} {e e' di:Int}
theorem IA.one (h:IA C W0 p kd W r k e di AP AP AP [] [] []) {W6:World} (hb:Ah C.b W W6) (hr:CJ C W6 r' k' e') {x:Aj} (hx:Off (fun q=>q<W.heap.size) W6 fun u=>Ar u x.v x.A1 x.A2 x.A3) :
  IA C W0 p kd ((W6.alloc (.cells x.cells.toArray 28)).setCell ⟨p,6,none⟩ (.slice (some ⟨W6.heap.size,0,none⟩) 1 1)) r' k' e' di AP (.slice (some ⟨W6.heap.size,0,none⟩) 1 1) AP [] [x] []:=by
 have h6:=h.BK hb hr;have ho:(W6.alloc (.cells x.cells.toArray 28)).ownsRow (p+1) 28 8 (.slice (some ⟨W6.heap.size,0,none⟩) 1 1) 1 ([]++x.cells):=by
  exact World.ownsRow_lit (base:=p+1) (e:=28) (size:=8) W6 x.cells.toArray 1 h6.vb.lt (by unfold maxLen;omega) rfl
 obtain ⟨g1,g2,g3⟩:=h6.vb.item (x:=x) (v8 := .slice (some ⟨W6.heap.size,0,none⟩) 1 1) (w8:=W6.alloc (.cells x.cells.toArray 28)) (hx.mono fun q _ hq=>by
  have hl:=h.vb.lt
  rcases hq with e|e|e|e
  ·omega
  ·cases e
  ·cases e
  ·cases e) (Pe _ _) ho (World.grownBy_alloc W6 _ none) (.inr rfl)
 exact ⟨⟨h6.rd.ok,(g2.block _ h6.bp).trans h6.rd.blk,h6.rd.Uk,h6.rd.up.trans (g2.mono (by have:=h6.bp;have:=h6.rd.ok.ge;omega))⟩,g1,h6.fr.up g2 h6.lo (AAM h6.bp),h6.lo,h6.lb⟩
theorem Cr {b q:Nat} {w w':World} {o:Obj} (h:w.heap[q]? = some o) (hb:Ah b w w') (hq:q≠b):w'.heap[q]? = some o:=(hb.FN q hq (zg.1 h).1).trans h
end
theorem Sy (ih:EB C n) (h:IA C W0 p x.kind W r k 0 0 AP AP AP [] [] []) (hn:r.length<=n) (he:0<=x.elem/\x.elem<(C.s.length:Int)):
  Calls prog 130 #[.pointer (some ⟨C.b,0,none⟩),x.v As cs Am cm,.pointer (some ⟨p,0,none⟩)] W fun y W'=>y = .returned (.tuple #[])/\Gv C W0 p x.kind r (U7 x.kind (Hr (Ag false C.s) x r k)) W':=by
 have HF0:=zh (h.below (zD W (x.box As cs Am cm)));have HX0:=zh (AAA W (x.box As cs Am cm));have HXB:Hid (W.heap.size≠C.b):=by have:=h.rd.lt;show _≠_;omega
 have HN:=zh hn;have Ed:=zh ih;have Kz:=zh he;have UG:Hid (Hr (Ag false C.s) x r k=(CS 1 r).bind fun p=>if p.1.text=⟨#[110,111,110,101]⟩ then .ok ([],p.2,k)
  else if p.1.text=⟨#[115,111,109,101]⟩ then (Ay ⟨#[40]⟩ p.2).bind fun l2=>(Ag false C.s x.elem l2 k).bind fun q=>(Ay ⟨#[41]⟩ q.2.1).bind fun l4 => .ok ([q.1],l4,q.2.2)
  else .error 2):=rfl
 clear h ih hn he
 go_enter func130,ntmps130
 go_upto_region 1 with fail
 generalize W.alloc (x.box As cs Am cm)=W1 at *
 go_cut [6] (fun s wx=>∃tb t0 r1 e1,s = .pointer (some ⟨tb,0,none⟩)/\Hid (IA C W0 p x.kind wx r1 k e1 0 AP AP AP [] [] []/\wx.heap[W.heap.size]? = some (x.box As cs Am cm)/\wx.heap[tb]? = some (sU t0)/\YN 1 r t0 r1 e1))
 case first =>
  go_wp2_with (go_at_call 122;refine (Br 1 HF0.O.rd).mono ?_;intro y w3 h3;obtain ⟨t0,r1,e1,rfl,g1,g2,g3⟩:=F5 h3;have PN:=zh (HF0.O.BK g1 g2);have JR:=zh (Cr HX0 g1 HXB);have JU:=zh g3;clear h3 g1 g2 g3)
  go_meet
  exact ⟨_,t0,r1,e1,rfl,PN.O.below (zD _ _),Au JR (zD _ _),AAA _ _,JU.O⟩
 case rest =>
 obtain ⟨W3,rfl⟩:∃W:World,W=wc:=⟨_,rfl⟩;obtain ⟨tb,t0,r1,e1,rfl,h3⟩:=hcut;have PN:=zh h3.O.1;have JR:=zh h3.O.2.1;have JU:=zh h3.O.2.2.2;obtain ⟨⟨_,x1,_,_,_⟩,_⟩:=Bd h3.O.2.2.1;clear h3 HF0 HX0;have rz:=PN.O.rd.zero
 by_cases hz:e1=0
 case neg =>
  have q1:(e1 != 0)=true:=by simp[hz]
  have HP:Hid (U7 x.kind (Hr (Ag false C.s) x r k) = .error e1):=by
   show _=_
   have ht:=JU.O.tk;rw[UG.O]
   cases hk:CS 1 r with
   | error e2=>rw[hk] at ht;rw[ht.1];rfl
   | ok q=>rw[hk] at ht;exact absurd ht.2.2.1 hz
  clear hz;go_wp2;refine bodyPost_ret (results_none results130 _ _ _) rfl ⟨rfl,CG PN JU.O.1.1 z3 HP⟩
 subst hz;obtain ⟨Zz,EP⟩:Hid (Hr (Ag false C.s) x r k=if t0.text=⟨#[110,111,110,101]⟩ then .ok ([],r1,k)
  else if t0.text=⟨#[115,111,109,101]⟩ then (Ay ⟨#[40]⟩ r1).bind fun l2=>(Ag false C.s x.elem l2 k).bind fun q=>(Ay ⟨#[41]⟩ q.2.1).bind fun l4 => .ok ([q.1],l4,q.2.2)
  else .error 2)/\Hid (r1.length<r.length):=by
  have ht:=JU.O.tk
  cases hk:CS 1 r with
  | error e2=>rw[hk] at ht;exact absurd rfl ht.2
  | ok q =>
   rw[hk] at ht;refine ⟨?_,ht.2.2.2⟩
   show _=_
   rw[UG.O,hk,zM,ht.1,ht.2.1]
 clear UG JU
 by_cases h1:t0.text=⟨#[110,111,110,101]⟩
 ·have q2:(t0.text.toList==([110,111,110,101]:List UInt8))=true:=by rw[G8];exact AAJ h1
  have HP:Hid (U7 x.kind (Hr (Ag false C.s) x r k) = .ok (.mk x.kind false 0 ⟨#[]⟩ 0 [] [] [],r1,k)):=by show _=_;rw[Zz.O,AAB h1,ZE]
  clear h1;go_wp2;refine bodyPost_ret (results_none results130 _ _ _) rfl ⟨rfl,GR PN (AAM EP) z3 rfl HP⟩
 have q2:(t0.text.toList==([110,111,110,101]:List UInt8))=false:=by rw[G8];exact AAP h1
 by_cases h2:t0.text=⟨#[115,111,109,101]⟩
 case neg =>
  have q3:(t0.text.toList==([115,111,109,101]:List UInt8))=false:=by rw[G8];exact AAP h2
  have HP:Hid (U7 x.kind (Hr (Ag false C.s) x r k) = .error 2):=by show _=_;rw[Zz.O,Pd h1,Pd h2,MP]
  clear h1 h2;go_wp2_with fail;refine (Bc 2 PN.O.rd).mono ?_;rintro y w6 ⟨rfl,g1,g2⟩;have OD:=zh (PN.O.BK g2 g1);clear g1 g2;go_wp2;refine bodyPost_ret (results_none results130 _ _ _) rfl ⟨rfl,CG OD (AAM EP) z3 HP⟩
 have q3:(t0.text.toList==([115,111,109,101]:List UInt8))=true:=by rw[G8];exact AAJ h2
 have HP:Hid (Hr (Ag false C.s) x r k=(Ay ⟨#[40]⟩ r1).bind fun l2=>(Ag false C.s x.elem l2 k).bind fun q=>(Ay ⟨#[41]⟩ q.2.1).bind fun l4 => .ok ([q.1],l4,q.2.2)):=by show _=_;rw[Zz.O,Pd h1,AAB h2]
 clear h1 h2 Zz;go_wp2_with fail;refine (BS ⟨#[40]⟩ PN.O.rd).mono ?_
 intro y w4 h4
 obtain rfl:=h4.1;obtain ⟨hb4,r2,e2,hr4,hs4⟩:=FJ h4;have Lx:=zh (PN.O.BK hb4 hr4);have fJ:=zh (Cr JR hb4 HXB);have UF:=zh hs4;have x8:w4.cell? ⟨W.heap.size,8,none⟩=some (.int .i64 x.elem):=by rw[AAC _ _ _ _ _ _ fJ.O];rfl
 clear h4 hb4 hr4 hs4 rz x1;go_wp2_with fail;refine (Ed.O x.elem _ r2 k e2 (by have:=UF.O.1;have:=EP.O;have:=HN.O;omega) Kz Lx.O.rd).mono ?_
 rintro y w5 ⟨xa,rfl,g1,g2,r5,k5,e5,g3,g4,g5,g6⟩;have OD:=zh (Lx.O.one g2 g3 g1);have HV5:=zh (Lx.O.BK g2 g3);have NA:=zh g4;have Oe:=zh g5;have Od:=zh g6;obtain ⟨⟨_,_,_,_,_,_,c6,_⟩,cf⟩:=(HV5.O.vb.below (zD w5 (.cells xa.cells.toArray 28))).cells;have f6:=cf 6;clear g1 g2 g3 g4 g5 g6 cf;have HE2:Hid (WA ⟨#[40]⟩ r1 0 r2 e2):=UF.O;unfold Aj.cells Val.cs at OD c6 f6
 go_upto_region 7 with fail
 generalize World.setCell (World.alloc w5 _) _ _=W6 at *;have UJ:Hid (([]:List Aj).length<=2000000/\[xa].length<=2000000/\([]:List Af).length<=2000000):=⟨by simp,by simp,by simp⟩
 have rz:=OD.O.rd.zero
 by_cases hz:e5=0
 case neg =>
  have q1:(e5==0)=false:=by simp[hz]
  have HP5:Hid (U7 x.kind (Hr (Ag false C.s) x r k) = .error e5):=by
   show _=_
   have hs:=En HE2;rw[HP.O]
   cases hsy:Ay ⟨#[40]⟩ r1 with
   | error e=>rw[hsy] at hs;rw[DV,MP,Oe.O hs.2,hs.1]
   | ok l =>
    rw[hsy] at hs;have hv:=Od.O hs.2;rw[zM,<-hs.1]
    cases hw:Ag false C.s x.elem r2 k with
    | error e=>rw[hw] at hv;rw[DV,MP,hv]
    | ok q=>rw[hw] at hv;exact absurd hv.2.2.2 hz
  clear hz;go_wp2;refine bodyPost_end (results_none results130 _ _ _) rfl ⟨rfl,CG OD (by have:=NA.O;have:=UF.O.1;have:=EP.O;omega) UJ HP5⟩
 subst hz;obtain ⟨HP5,HLV⟩:Hid (Hr (Ag false C.s) x r k=(Ay ⟨#[41]⟩ r5).bind fun l4 => .ok ([xa.v],l4,k5))/\Hid (r5.length<=r.length):=by
  have hs:=En HE2;refine ⟨?_,by have:=NA.O;have:=UF.O.1;have:=EP.O;show _<=_;omega⟩
  show _=_
  rw[HP.O]
  cases hsy:Ay ⟨#[40]⟩ r1 with
  | error e =>
   rw[hsy] at hs;exact absurd (Oe.O hs.2) (fun g=>hs.2 g.symm)
  | ok l =>
   rw[hsy] at hs;have hv:=Od.O hs.2;rw[zM,<-hs.1]
   cases hw:Ag false C.s x.elem r2 k with
   | error e =>
    rw[hw] at hv;exact absurd (hv▸hw) (GK false _ _ _ _)
   | ok q =>
    obtain ⟨v,r1',k1'⟩:=q;rw[hw] at hv;obtain ⟨rfl,rfl,rfl,_⟩:=hv
    rfl
 go_wp2_with fail
 refine (BS ⟨#[41]⟩ OD.O.rd).mono ?_
 intro y w7 h7
 obtain rfl:=h7.1;obtain ⟨Gj,r7,e7,hr7,hs7⟩:=FJ h7;have eZ:=zh (OD.O.BK Gj hr7);have xV:=zh hs7;clear h7 Gj hr7 hs7;go_wp2;refine bodyPost_end (results_none results130 _ _ _) rfl ⟨rfl,?_⟩;have hs:=En xV;have hl7:r7.length<=r.length:=by have:=xV.O.1;have:=HLV.O;omega
 have hp:=HP5.O
 cases hsy:Ay ⟨#[41]⟩ r5 with
 | error e2=>rw[hsy] at hs hp;exact CG eZ hl7 UJ (by rw[hp,DV,MP,hs.1])
 | ok l =>
  rw[hsy] at hs hp;obtain ⟨rfl,rfl⟩:=hs;exact GR eZ hl7 UJ rfl (by rw[hp,zM,ZE];rfl)
theorem XJ (n:Int) (t:Aa) (As:zo) (cs:Nat) (Am:zo) (cm:Nat) (w:World) (ht:J4 w t As Am) :
  Calls prog 68 #[t.v As cs Am cm,.int .i64 n] w fun e w'=>∃r:Int,e = .returned (.tuple #[.int .i64 r,.bool (t.AX.any fun y=>decide (y.id=n))])/\Below w.heap.size w w' :=
 (NK n t As cs Am cm w ht).mono fun e w' ⟨h1,h2⟩=>⟨_,h1.trans (by rw[Fj]),h2⟩
theorem QO {α:Type} {p:α->Bool}:∀ (l:List α) (i:Nat) (hi:i<l.length),p l[i]=true->(∀j (h:j<l.length),j<i->p l[j]=false)->l.find? p=some l[i]
 | [],i,hi,_,_=>absurd hi (Nat.not_lt_zero _)
 | a::l,0,_,h,_=>by
  have h':p a=true:=h;rw[List.find?_cons_of_pos h'];rfl
 | a::l,i+1,hi,h,hn=>by
  rw[List.find?_cons_of_neg (by have:=hn 0 (by simp) (by omega);simp at this;simp[this])]
  exact QO l i (by simpa using hi) h fun j hj hl=>hn (j+1) (by simpa using hj) (by omega)
theorem Vl {α:Type} {p:α->Bool} {l:List α} (h:∀j (hj:j<l.length),p l[j]=false):l.find? p=none:=by
 rw[List.find?_eq_none]
 intro x hx
 obtain ⟨j,hj,rfl⟩:=ABi hx;rw[h j hj];simp
def EmP (C:Eh) (W:World) (r:List AJ) (P:PR Int) (y:Ending) (W':World):Prop:=∃d:Int,y = .returned (.int .i64 d)/\Ah C.b W W'/\∃r' k' e',CJ C W' r' k' e'/\r'.length<=r.length/\match P with
 | .ok (v,r1,k1)=>d=v/\r'=r1/\k'=k1/\e'=0
 | .error e1=>e'=e1
theorem lT (h:CJ C W r k 0) (ht:J4 C.w0 x As Am):
  Calls prog 123 #[.pointer (some ⟨C.b,0,none⟩),x.v As cs Am cm] W (EmP C W r (Eu false x r k)):=by
 have HW1:=zh (h.BK (zD W (x.box As cs Am cm)));have HR1:=zh (h.below (zD W (x.box As cs Am cm)));have Ei:=zh (AAA W (x.box As cs Am cm));have EP:=zh h.lt;have HXB:Hid (W.heap.size≠C.b):=by have:=h.lt;show _≠_;omega
 have EY:=zh ht;have UG:Hid (Eu false x r k=if Ba ⟨#[64]⟩ r=true then (CS 2 r.tail).bind fun p=>(if OP x p.1.int=true then .ok (p.1.int,p.2,true) else .ok (p.1.int,p.2,k))
  else (CS 1 r).bind fun p =>
   match x.AX.find? fun y=>decide (y.name=p.1.text) with
   | some y => .ok (y.id,p.2,k)
   | none => .error 4):=by
  show _=_
  unfold Eu
  split
  ·congr 1
  ·rfl
 clear h ht
 go_enter func123,ntmps123
 go_upto_region 1 with fail
 generalize W.alloc (x.box As cs Am cm)=W1 at *
 cases hi:Ba ⟨#[64]⟩ r with
 | true =>
  have HI:=zh hi;rw[AAB hi] at UG;obtain ⟨t,q,rfl,_,_⟩:=DR hi;clear hi;go_wp2_with fail;refine (zX ⟨#[64]⟩ HR1).mono ?_;rintro y w2 ⟨rfl,hb2⟩;rw[HI.O];have HR2:=zh (HR1.O.below hb2);have HW2:=zh (HW1.O.below hb2 EP);have N9:=zh (Au Ei hb2);obtain ⟨i,hi,c2,f2,hi2,HN⟩:=HR2.O.fB;clear hb2;go_wp2_with fail;have HR3:=zh (HN.O.1 _ _ _ HR2)
  have HW3:=zh (HW2.O.set 2 (.int .i64 ((i:Int)+1)));have JR:=zh ((AAE w2 ⟨C.b,2,none⟩ _ (.int .i64 ((i:Int)+1)) HXB.O).trans N9);refine (Br 2 HR3).mono ?_
  intro y w4 h4
  obtain ⟨t0,r1,e1,rfl,g1,g2,g3⟩:=F5 h4;have HR4:=zh g2;have zk:=zh (HW3.O.trans g1);have fJ:=zh (Cr JR g1 HXB);have OA:=zh g3;have fd2:=IX;obtain ⟨b0,b1,b2,b3,b4,b5,b6,b7,b8,b9⟩:=zG (show Ca w4 W.heap.size x As cs Am cm from fJ.O);clear h4 g1 g2 g3;go_wp2_with fail;refine (XJ t0.int x As cs Am cm _ (EY.O.below HR4.O.up)).mono ?_
  rintro y w5 ⟨ix,rfl,hb5⟩;have nU:=zh (HR4.O.below hb5);have PE:=zh (zk.O.below hb5 EP);have c3:=nU.O.cells.1.2.2.2.1;have f3:=nU.O.cells.2 3;have HKN:Hid (OP x t0.int=x.AX.any fun y=>decide (y.id=t0.int)):=rfl
  clear hb5 b0 b1 b2 b3 b4 b5 b6 b7 b8 b9;generalize (x.AX.any fun y=>decide (y.id=t0.int))=kn at *
  have Li:Hid (∀W6 k6,CJ C W6 r1 k6 e1->Ah C.b W W6->(k6=(k||kn))->EmP C W (t::q) (Eu false x (t::q) k) (.returned (.int .i64 t0.int)) W6):=fun W6 k6 h1 h2 h3=>by
   refine ⟨_,rfl,h2,r1,k6,e1,h1,by have:=OA.O.1.1;simp;omega,?_⟩
   have ht:=OA.O.tk;rw[UG.O,List.tail_cons]
   cases hk:CS 2 q with
   | error e=>rw[hk] at ht;exact ht.1
   | ok p =>
    rw[hk] at ht;rw[zM,<-ht.1,<-ht.2.1,HKN.O]
    cases kn with
    | true=>rw[AAB rfl];exact ⟨rfl,rfl,by rw[h3];simp,ht.2.2.1⟩
    | false=>rw[Pd (by simp)];exact ⟨rfl,rfl,by rw[h3];simp,ht.2.2.1⟩
  cases k with
  | true =>
   go_wp2
   go_ret
   exact Li.O _ true (nU.O.AAU true) (PE.O.set 3 _) rfl
  | false =>
   go_wp2
   go_ret
   exact Li.O _ kn (nU.O.AAU kn) (PE.O.set 3 _) rfl
 | false =>
  have HI:=zh hi;rw[Pd (by rw[hi];simp)] at UG
  clear hi;go_wp2_with fail;refine (zX ⟨#[64]⟩ HR1).mono ?_;rintro y w2 ⟨rfl,hb2⟩;rw[HI.O];have HR2:=zh (HR1.O.below hb2);have HW2:=zh (HW1.O.below hb2 EP);have N9:=zh (Au Ei hb2);clear hb2;go_upto_region 7 with fail
  go_cut [8] (fun s wx=>∃tb t0 r1 e1,s = .pointer (some ⟨tb,0,none⟩)/\Hid (Ah C.b W wx/\CJ C wx r1 k e1/\wx.heap[W.heap.size]? = some (x.box As cs Am cm)/\wx.heap[tb]? = some (sU t0)/\YN 1 r t0 r1 e1))
  case first =>
   go_wp2_with (go_at_call 122;refine (Br 1 HR2).mono ?_;intro y w3 h3;obtain ⟨t0,r1,e1,rfl,g1,g2,g3⟩:=F5 h3;have HW3:=zh (HW2.O.trans g1);have HR3:=zh g2;have JR:=zh (Cr N9 g1 HXB);have JU:=zh g3;clear h3 g1 g2 g3)
   go_meet
   exact ⟨_,t0,r1,e1,rfl,HW3.O.below (zD _ _) EP,HR3.O.below (zD _ _),Au JR (zD _ _),AAA _ _,JU.O⟩
  case rest =>
  obtain ⟨W3,rfl⟩:∃W:World,W=wc:=⟨_,rfl⟩;obtain ⟨tb,t0,r1,e1,rfl,h3⟩:=hcut;have HW3:=zh h3.O.1;have HR3:=zh h3.O.2.1;have JR:=zh h3.O.2.2.1;have HB3:=zh h3.O.2.2.2.1;have JU:=zh h3.O.2.2.2.2;clear h3;have rz:=HR3.O.zero
  by_cases hz:e1=0
  case neg =>
   have q1:(e1 != 0)=true:=by simp[hz]
   have HP:Hid (Eu false x r k = .error e1):=by
    show _=_
    have ht:=JU.O.tk;rw[UG.O]
    cases hk:CS 1 r with
    | error e2=>rw[hk] at ht;rw[ht.1];rfl
    | ok q=>rw[hk] at ht;exact absurd ht.2.2.1 hz
   clear hz;go_wp2;go_ret;exact ⟨_,rfl,HW3.O,r1,k,e1,HR3.O,JU.O.1.1,by rw[HP.O]⟩
  subst hz;have HP:Hid (Eu false x r k=match x.AX.find? fun y=>decide (y.name=t0.text) with
   | some y => .ok (y.id,r1,k)
   | none => .error 4):=by
   show _=_
   have ht:=JU.O.tk;rw[UG.O]
   cases hk:CS 1 r with
   | error e2=>rw[hk] at ht;exact absurd rfl ht.2
   | ok q =>
    rw[hk] at ht;rw[zM,<-ht.1,<-ht.2.1]
  have nY:=zh JU.O.1.1;have x5:W3.cell? ⟨W.heap.size,5,none⟩=some (.slice As x.AX.length cs):=by rw[AAC _ _ _ _ _ _ JR.O];rfl
  have hln:=EY.O.AX.1;unfold EF at hln;have wE:(x.AX.length:Int)<=1000000000000000:=by omega
  clear JU UG hln;go_wp2
  go_loopw [50] (fun a wr=>∃i:Nat,i<=x.AX.length/\a = .int .i64 (i:Int)/\Hid (Below W3.heap.size W3 wr/\∀j (hj:j<x.AX.length),j<i->decide ((x.AX[j]).name=t0.text)=false)) (fun a _=>x.AX.length - (intOf a).toNat)
  case atStart=>exact ⟨0,by omega,rfl,Pe _ _,fun j _ h=>absurd h (by omega)⟩
  case round =>
   obtain ⟨i,hi,rfl,hh⟩:=hrel;have HB:=zh hh.O.1;have PK:=zh hh.O.2;clear hh
   by_cases hlt:i<x.AX.length
   ·obtain ⟨sb,so,rfl,hr1,a0,a1⟩:=(EY.O.AX.below (HR3.O.below HB).up).at2 hlt
    obtain ⟨⟨_,n1,_,_,_⟩,_⟩:=Bd (Au HB3 HB);have h1:(0:Int)<=(i:Int):=by omega
    have h2:(i:Int)<(x.AX.length:Int):=by omega
    clear hr1
    by_cases hnm:(x.AX[i]).name=t0.text
    ·have q2:((x.AX[i]).name.toList==t0.text.toList)=true:=by rw[bytes_beq];exact AAJ hnm
     have Wo:Hid (Eu false x r k = .ok ((x.AX[i]).id,r1,k)):=by
      show _=_
      rw[HP.O,QO (p:=fun y=>decide (y.name=t0.text)) x.AX i hlt (AAJ hnm) PK.O]
     clear hnm;have htb:=zL n1;simp only at htb;go_wp2;go_ret;exact ⟨_,rfl,(HW3.O.below HB EP).below (zD _ _) EP,r1,k,0,(HR3.O.below HB).below (zD _ _),nY.O,by rw[Wo.O];exact ⟨rfl,rfl,rfl,rfl⟩⟩
    ·have q2:((x.AX[i]).name.toList==t0.text.toList)=false:=by rw[bytes_beq];exact AAP hnm
     have SB:Hid (∀j (hj:j<x.AX.length),j<i+1->decide ((x.AX[j]).name=t0.text)=false):=fun j hj hji=>by
      by_cases e:j=i
      ·subst e;exact AAP hnm
      ·exact PK.O j hj (by omega)
     clear hnm;have htb:=zL n1;simp only at htb;go_wp2;go_roundw
     case rel=>exact ⟨i+1,by omega,by go_num,zB HB (zD _ _),SB.O⟩
     case measure=>simp[intOf];omega
   ·have Wo:Hid (Eu false x r k = .error 4):=by
     show _=_
     rw[HP.O,Vl (p:=fun y=>decide (y.name=t0.text)) fun j hj=>PK.O j hj (by omega)]
    have h2:¬ (i:Int)<(x.AX.length:Int):=by omega
    go_wp2_with fail
    refine (Bc 4 (HR3.O.below HB)).mono ?_;rintro y w6 ⟨rfl,g1,g2⟩;have HR6:=zh g1;have Fa:=zh ((HW3.O.below HB EP).trans g2);clear g1 g2;go_wp2;go_ret;exact ⟨_,rfl,Fa.O,r1,k,_,HR6.O,nY.O,by rw[Wo.O];rfl⟩
def Qi (kd:Int) (P:PR (Int×List Val×List Af)):PR Val:=P.bind fun p => .ok (.mk kd false 0 ⟨#[]⟩ p.1.1 [] p.1.2.1 p.1.2.2,p.2)
theorem UW (kd e:Int):Qi kd (.error e) = .error e:=rfl
theorem Yl (kd d:Int) (a:List Val) (b:List Af) (l:List AJ) (k:Bool):Qi kd (.ok ((d,a,b),l,k)) = .ok (.mk kd false 0 ⟨#[]⟩ d [] a b,l,k):=rfl
section
variable {C:Eh} {W0 W W':World} {p:Nat} {kd:Int} {r r':List AJ} {k k':Bool} {e e' di:Int} {vk vi vr:Value} {K I:List Aj} {R:List Af}
theorem IA.vG (h:IA C W0 p kd W r k e di vk vi vr K I R) (d:Int):IA C W0 p kd (W.setCell ⟨p,4,none⟩ (.int .i64 d)) r k e d vk vi vr K I R :=
 ⟨h.rd.FN (by have:=h.bp;omega) (by have:=h.bp;have:=h.rd.ok.ge;omega) 4 _,h.vb.NI (j:=4) rfl h.vb.str,⟨h.fr.Cm.setCell (p:=⟨p,4,none⟩) (AAM h.bp) _,fun q hq hl=>(AAE _ _ _ _ (by have:=h.lo;simp only;omega)).trans (h.fr.FN q hq hl)⟩,h.lo,h.lb⟩
theorem IA.qC (h:IA C W0 p kd W r k e di AP AP AP [] [] []) {x:Af} (hx:Cw x.data) :
  IA C W0 p kd ((W.alloc (jC x)).setCell ⟨p,7,none⟩ (.slice (some ⟨W.heap.size,0,none⟩) 1 1)) r k e di AP AP (.slice (some ⟨W.heap.size,0,none⟩) 1 1) [] [] [x]:=by
 have ho:(W.alloc (jC x)).ownsRow (p+1) 97 2 (.slice (some ⟨W.heap.size,0,none⟩) 1 1) 1 ([]++encR x) :=
  World.ownsRow_lit (base:=p+1) (e:=97) (size:=2) W (encR x).toArray 1 h.vb.lt (by unfold maxLen;omega) rfl
 obtain ⟨g1,g2,g3⟩:=h.vb.XW (x:=x) (v8 := .slice (some ⟨W.heap.size,0,none⟩) 1 1) (w8:=W.alloc (jC x)) hx (Pe _ _) ho (World.grownBy_alloc W _ none) (.inr rfl);exact ⟨⟨h.rd.ok,(g2.block _ h.bp).trans h.rd.blk,h.rd.Uk,h.rd.up.trans (g2.mono (by have:=h.bp;have:=h.rd.ok.ge;omega))⟩,g1,h.fr.up g2 h.lo (AAM h.bp),h.lo,h.lb⟩
end
theorem uY {q:List AJ} {t0:AJ} {r1:List AJ} {e1:Int} (h1:YN 2 q t0 r1 e1) {r2:List AJ} {e2:Int} (h2:WA ⟨#[40]⟩ r1 e1 r2 e2) {t1:AJ} {r3:List AJ} {e3:Int} (h3:(e2≠0/\r3=r2/\e3=e2)\/(e2=0/\YN 3 r2 t1 r3 e3)) {r4:List AJ} {e4:Int} (h4:WA ⟨#[41]⟩ r3 e3 r4 e4):
  match ((CS 2 q).bind fun p=>(Ay ⟨#[40]⟩ p.2).bind fun l2=>(CS 3 l2).bind fun q=>(Ay ⟨#[41]⟩ q.2).bind fun l4 => .ok ((Rq false p.1.int,[],[⟨Rq false p.1.int,q.1.str⟩]),l4,k):PR (Int×List Val×List Af)) with
  | .ok (v,r',k')=>v=(t0.int,[],[⟨t0.int,t1.str⟩])/\r4=r'/\k'=k/\e4=0/\e2=0
  | .error e=>e4=e:=by
 have ht:=h1.tk
 cases hk:CS 2 q with
 | error e =>
  rw[hk] at ht;obtain ⟨g1,g2⟩:=ht;rw[DV]
  rcases h2.2 with ⟨_,_,j⟩|⟨j,_⟩
  ·rcases h3 with ⟨_,_,i⟩|⟨i,_⟩
   ·rcases h4.2 with ⟨_,_,l⟩|⟨l,_⟩
    ·show e4=e;omega
    ·omega
   ·omega
  ·exact absurd j g2
 | ok p =>
  obtain ⟨u,l⟩:=p;rw[hk] at ht;obtain ⟨rfl,rfl,rfl,_⟩:=ht;rw[zM];have hs:=En h2;simp only
  cases hsy:Ay ⟨#[40]⟩ r1 with
  | error e =>
   rw[hsy] at hs;rw[DV]
   rcases h3 with ⟨_,_,i⟩|⟨i,_⟩
   ·rcases h4.2 with ⟨_,_,l⟩|⟨l,_⟩
    ·show e4=e;have:=hs.1;omega
    ·exact absurd l (by have:=hs.2;omega)
   ·exact absurd i hs.2
  | ok l2 =>
   rw[hsy] at hs;obtain ⟨rfl,rfl⟩:=hs;rw[zM]
   rcases h3 with ⟨i,_⟩|⟨_,h3⟩
   ·exact absurd rfl i
   have hu:=h3.tk
   cases hk3:CS 3 r2 with
   | error e =>
    rw[hk3] at hu;rw[DV]
    rcases h4.2 with ⟨_,_,l⟩|⟨l,_⟩
    ·show e4=e;have:=hu.1;omega
    ·exact absurd l hu.2
   | ok z =>
    obtain ⟨v,q2⟩:=z;rw[hk3] at hu;obtain ⟨rfl,rfl,rfl,_⟩:=hu;rw[zM];have hs4:=En h4;simp only
    cases AAq:Ay ⟨#[41]⟩ r3 with
    | error e=>rw[AAq] at hs4;rw[DV];exact hs4.1
    | ok l4 =>
     rw[AAq] at hs4;rw[zM];exact ⟨rfl,hs4.1,rfl,hs4.2,trivial⟩
theorem oF {f:Int->List AJ->Bool->PR Val} (hnz:∀t l k,f t l k ≠ .error 0) {id ty:Int} {r1:List AJ} {r2:List AJ} {e2:Int} (h2:WA ⟨#[40]⟩ r1 0 r2 e2) {x:Val} {r5:List AJ} {k5:Bool} {e5:Int} (hn:e2≠0->e5=e2) (hv:e2=0->match f ty r2 k with
   | .ok (v,r',k')=>x=v/\r5=r'/\k5=k'/\e5=0
   | .error e=>e5=e) {r7:List AJ} {e7:Int} (h7:WA ⟨#[41]⟩ r5 e5 r7 e7):
  match ((Ay ⟨#[40]⟩ r1).bind fun l2=>(f ty l2 k).bind fun q=>(Ay ⟨#[41]⟩ q.2.1).bind fun l4 => .ok ((id,[q.1],[]),l4,q.2.2):PR (Int×List Val×List Af)) with
  | .ok (v,r',k')=>v=(id,[x],[])/\r7=r'/\k5=k'/\e7=0
  | .error e=>e7=e:=by
 have hs:=En h2
 cases hsy:Ay ⟨#[40]⟩ r1 with
 | error e =>
  rw[hsy] at hs;rw[DV];have:=hn hs.2
  rcases h7.2 with ⟨_,_,l⟩|⟨l,_⟩
  ·show e7=e;have:=hs.1;omega
  ·exact absurd l (by have:=hs.2;omega)
 | ok l2 =>
  rw[hsy] at hs;obtain ⟨rfl,rfl⟩:=hs;rw[zM];have hv:=hv rfl
  cases hw:f ty r2 k with
  | error e =>
   rw[hw] at hv;simp only at hv;rw[DV];have hz:e5≠0:=fun g=>hnz _ _ _ (g▸hv▸hw)
   rcases h7.2 with ⟨_,_,l⟩|⟨l,_⟩
   ·show e7=e;omega
   ·exact absurd l hz
  | ok q =>
   obtain ⟨v,r',k'⟩:=q;rw[hw] at hv;obtain ⟨rfl,rfl,rfl,rfl⟩:=hv;rw[zM];have hs7:=En h7;simp only
   cases AAp:Ay ⟨#[41]⟩ r5 with
   | error e=>rw[AAp] at hs7;rw[DV];exact hs7.1
   | ok l4 =>
    rw[AAp] at hs7;rw[zM];exact ⟨rfl,hs7.1,rfl,hs7.2⟩
theorem gU (h:IA C W0 p x.kind W r k 0 0 AP AP AP [] [] []) (hat:Ba ⟨#[64]⟩ r=true):
  Calls prog 125 #[.pointer (some ⟨C.b,0,none⟩),x.v As cs Am cm,.pointer (some ⟨p,0,none⟩)] W fun y W'=>y = .returned (.tuple #[])/\Gv C W0 p x.kind r (Qi x.kind (FD false (Ag false C.s) x r k)) W':=by
 have uR:=zh (h.below (zD W (x.box As cs Am cm)));have GJ:=zh h.bp;obtain ⟨HP,HI⟩:Hid (FD false (Ag false C.s) x r k=(CS 2 r.tail).bind fun p=>(Ay ⟨#[40]⟩ p.2).bind fun l2=>(CS 3 l2).bind fun q=>(Ay ⟨#[41]⟩ q.2).bind fun l4 => .ok ((Rq false p.1.int,[],[⟨Rq false p.1.int,q.1.str⟩]),l4,k))/\Hid (Ba ⟨#[64]⟩ r=true):=by
  refine ⟨?_,hat⟩
  show _=_
  unfold FD;rw[AAB hat]
 obtain ⟨t,q,rfl,_,_⟩:=DR hat;clear h hat
 go_enter func125,ntmps125
 go_upto_region 1 with fail
 generalize W.alloc (x.box As cs Am cm)=W1 at *;go_wp2_with fail;refine (zX ⟨#[64]⟩ uR.O.rd).mono ?_;rintro y w2 ⟨rfl,hb2⟩;rw[HI.O];have uQ:=zh (uR.O.below hb2);obtain ⟨i,hi,c2,f2,hi2,HN⟩:=uQ.O.rd.fB;clear hb2;go_wp2_with fail;have PN:=zh (uQ.O.BK ((Ah.refl _ _).set 2 (.int .i64 ((i:Int)+1))) (HN.O.1 _ _ _ uQ.O.rd));refine (Br 2 PN.O.rd).mono ?_
 intro y w4 h4
 obtain ⟨t0,r1,e1,rfl,g1,g2,g3⟩:=F5 h4;have Lx:=zh (PN.O.BK g1 g2);have OA:=zh g3;have fd2:=IX;obtain ⟨⟨_,_,_,_,c4,_,_,_⟩,cf⟩:=Lx.O.vb.cells;have f4:=cf 4;clear h4 g1 g2 g3 cf;go_upto_region 4 with fail
 have WW:=zh (Lx.O.vG t0.int);generalize w4.setCell ⟨p,4,none⟩ (.int .i64 t0.int)=W5 at *;clear c4 f4 c2 f2;have rz:=WW.O.rd.zero
 go_upto_if 28 with fail
 go_cut [] (fun wx=>∃r2 e2,Hid (IA C W0 p x.kind wx r2 k e2 t0.int AP AP AP [] [] []/\WA ⟨#[40]⟩ r1 e1 r2 e2))
 case first =>
  by_cases he:e1=0
  ·have q1:(e1==0)=true:=by simp[he]
   have Dw:Hid (IA C W0 p x.kind W5 r1 k 0 t0.int AP AP AP [] [] []):=by have:=WW.O;rw[he] at this;exact this
   have HE:=zh he;clear he rz;go_wp2_with (go_at_call 126;refine (BS ⟨#[40]⟩ Dw.O.rd).mono ?_;intro y w3 h3;obtain rfl:=h3.1;have H9:=zh (FJ h3);clear h3);go_meet;obtain ⟨hb,r',e',g1,g2⟩:=H9.O;exact ⟨r',e',Dw.O.BK hb g1,by rw[HE.O];exact g2⟩
  ·have q1:(e1==0)=false:=by simp[he]
   have HE:=zh he;clear he rz;go_wp2;go_meet;exact ⟨r1,e1,WW.O,NH HE⟩
 case rest =>
 obtain ⟨W6,rfl⟩:∃W:World,W=wc:=⟨_,rfl⟩;obtain ⟨r2,e2,h6⟩:=hcut;have OD:=zh h6.O.1;have uE:=zh h6.O.2;clear h6 WW rz Lx PN uQ;have rz:=OD.O.rd.zero
 go_upto_if 35 with fail
 go_cut [] (fun wx=>∃t1 r3 e3 vr R,Hid (IA C W0 p x.kind wx r3 k e3 t0.int AP AP vr [] [] R/\R.length<=1/\r3.length<=r2.length/\((e2≠0/\r3=r2/\e3=e2)\/(e2=0/\YN 3 r2 t1 r3 e3))/\(e2=0->R=[⟨t0.int,t1.str⟩])))
 case first =>
  by_cases he:e2=0
  ·have q1:(e2==0)=true:=by simp[he]
   have Dw:Hid (IA C W0 p x.kind W6 r2 k 0 t0.int AP AP AP [] [] []):=by have:=OD.O;rw[he] at this;exact this
   have HE:=zh he;have Ih:Hid (C.b<W6.heap.size):=Dw.O.rd.lt;clear he rz;have Ej:=zh (fun (w':World) (hb:Ah C.b W6 w')=>(Dw.O.vb.BK hb GJ).cells.1.2.2.2.2.1)
   have fd3:=Jv;go_upto_region 7 with fail
   refine yE (S:=(fun w'=>w'.cell? ⟨p,4,none⟩=some (.int .i64 t0.int)/\Hid (Ah C.b W6 w'))) 12 (by kernel_rfl) ?_ (fun AQ=>?_)
   ·(try dsimp only);(have hk:=Ah.of (zC (Pe _ _) 1) (AAM Ih);exact ⟨Ej.O _ hk,hk⟩)
   refine tC 0 ?_;refine tC 1 ?_;refine tC 2 ?_;refine tC 3 ?_;refine tB 4 ?_;refine tC 5 ?_;try simp only[ps]
   refine tS 6 (fun K hK=>?_)
   go_simp
   (refine (Br 3 (Dw.O.below (zC (Pe _ _) 1)).rd).mono ?_;intro y w7 h7;obtain ⟨t1,r3,e3,rfl,g1,g2,g3⟩:=F5 h7;have Bv:=zh ((Ah.of (zC (Pe W6.heap.size W6) 1) (AAM Ih)).trans g1);have eZ:=zh (Dw.O.BK Bv g2);have HQ7:=zh g3;clear h7 g1 g2 g3)
   refine hK.out _ _ ?_ (fun AQ=>?_)
   ·(try dsimp only);exact ⟨Ej.O _ Bv,Bv.O⟩
   clear hK K;refine tC 7 ?_;refine tC 8 ?_;refine tS 9 (fun K hK=>?_)
   go_simp
   refine hK.out _ _ ?_ (fun AQ=>?_)
   ·(try dsimp only);exact ⟨Ej.O _ (Bv.O.below (zD _ _) Ih),Bv.O.below (zD w7 (jC ⟨t0.int,t1.str⟩)) Ih⟩
   clear hK K;refine tC 10 ?_;refine tC 11 ?_;try simp only[ps]
   refine zV (rs:=[12]) (by kernel_rfl) (by simp) ?_
   refine AB.last rfl (by kernel_rfl) (fun K hK=>?_) AB.nil
   (have uP:=zh (eZ.O.below (zD w7 (jC ⟨t0.int,t1.str⟩)));have c7:=uP.O.vb.cells.1.2.2.2.2.2.2.2;have f7:=uP.O.vb.cells.2 7;go_simp)
   refine hK.out _ _ ?_;clear hK K
   (try clear AQ)
   refine wpAny_done (by kernel_rfl) ?_ _
   (have HR8:=zh (eZ.O.qC (x:=⟨t0.int,t1.str⟩) HQ7.O.1.2.2);go_wp2;go_meet;exact ⟨t1,r3,e3,_,_,HR8.O,by simp,HQ7.O.1.1,.inr ⟨HE.O,HQ7.O⟩,fun _=>rfl⟩)
  ·have q1:(e2==0)=false:=by simp[he]
   have HE:=zh he;clear he rz;go_wp2;go_meet;exact ⟨Kr,r2,e2,_,_,OD.O,by simp,AAF _,.inl ⟨HE.O,rfl,rfl⟩,fun g=>absurd g HE⟩
 case rest =>
 obtain ⟨W7,rfl⟩:∃W:World,W=wc:=⟨_,rfl⟩;obtain ⟨t1,r3,e3,vr,R,h7⟩:=hcut;have eZ:=zh h7.O.1;have JV:Hid (∀W' r4 e4,IA C W0 p x.kind W' r4 k e4 t0.int AP AP vr [] [] R->WA ⟨#[41]⟩ r3 e3 r4 e4->Gv C W0 p x.kind (t::q) (Qi x.kind (FD false (Ag false C.s) x (t::q) k)) W'):=fun W' r4 e4 g1 g2=>by
  obtain ⟨_,h1,h2,h3,h4⟩:=h7.O;have hu:=uY (k:=k) OA uE h3 g2;have hl:r4.length<=(t::q).length:=by have:=g2.1;have:=uE.O.1;have:=OA.O.1.1;simp;omega
  have hp:=HP.O;rw[List.tail_cons] at hp;rw[hp]
  revert hu
  cases ((CS 2 q).bind fun p=>(Ay ⟨#[40]⟩ p.2).bind fun l2=>(CS 3 l2).bind fun q=>(Ay ⟨#[41]⟩ q.2).bind fun l4 => .ok ((Rq false p.1.int,[],[⟨Rq false p.1.int,q.1.str⟩]),l4,k):PR (Int×List Val×List Af)) with
  | error e=>exact fun hu=>CG g1 hl ⟨by simp,by simp,by omega⟩ (by rw[UW];exact congrArg _ hu.symm)
  | ok z =>
   obtain ⟨⟨a,b,c⟩,l,k'⟩:=z
   intro hu
   obtain ⟨j1,j2,j3,j4,j5⟩:=hu
   injection j1 with j1 j6
   injection j6 with j6 j7
   subst j1 j2 j3 j4 j6 j7;rw[Yl];exact GR g1 hl ⟨by simp,by simp,by omega⟩ (by rw[h4 j5];rfl) rfl
 clear h7 OD rz OA uE;have rz:=eZ.O.rd.zero
 by_cases he:e3=0
 ·have q1:(e3==0)=true:=by simp[he]
  subst he;clear rz;have rz:=eZ.O.rd.zero;go_wp2_with fail;refine (BS ⟨#[41]⟩ eZ.O.rd).mono ?_
  intro y w8 h8
  obtain rfl:=h8.1;obtain ⟨FU,r4,e4,hr8,tN⟩:=FJ h8;have uP:=zh (eZ.O.BK FU hr8);have HS8:=zh tN;clear h8 FU hr8 tN;go_wp2;refine bodyPost_ret (results_none results125 _ _ _) rfl ⟨rfl,JV.O _ _ _ uP HS8⟩
 ·have q1:(e3==0)=false:=by simp[he]
  have HE:=zh he;clear he;go_wp2;refine bodyPost_ret (results_none results125 _ _ _) rfl ⟨rfl,JV.O _ _ _ eZ (NH HE)⟩
