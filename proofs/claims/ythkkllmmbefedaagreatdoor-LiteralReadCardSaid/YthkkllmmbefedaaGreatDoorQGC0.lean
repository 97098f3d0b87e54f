/-
  Walks: the literal's reader: union.
-/
import Derived.Test.YthkkllmmbefedaaGreatDoorQGR0
import Derived.Test.YthkkllmmbefedaaGreatDoorQGA8
namespace Go.Proofs.YthkkllmmbefedaaGreatDoor
open Go.RowKit
set_option maxHeartbeats 16000000
set_option maxRecDepth 100000
structure Hr (C:CZ) (W0:World) (p:Nat) (kd:Int) (W:World) (r:List AB) (k:Bool) (e di:Int) (vk vi vr:Value) (K I:List BX) (R:List Ac):Prop where
 rd:CF C W r k e
 vb:Gf p W kd false 0 ⟨#[]⟩ di vk vi vr K I R
 fr:Ah C.b W0 W
 lo:W0.heap.size<=p
 lb:C.b<W0.heap.size
abbrev AJ:Value := .slice none 0 0
def Gl (C:CZ) (W0:World) (p:Nat) (kd:Int) (r:List AB) (P:PR Val) (W':World):Prop:=∃di vk vi vr K I R r' k' e',Hr C W0 p kd W' r' k' e' di vk vi vr K I R/\r'.length<=r.length/\(K.length<=2000000/\I.length<=2000000/\R.length<=2000000) /\
 match P with
 | .ok (v,r1,k1)=>v = .mk kd false 0 ⟨#[]⟩ di (K.map (·.v)) (I.map (·.v)) R/\r'=r1/\k'=k1/\e'=0
 | .error e1=>e'=e1
section
variable {C:CZ} {W0 W W':World} {p:Nat} {kd:Int} {r r':List AB} {k k':Bool} {e e' di:Int} {vk vi vr:Value} {K I:List BX} {R:List Ac} {V:Vx}
theorem CX.fl (h:CX C V W r k e di vk vi vr K I R):Hr C V.W0 V.p V.x.kind W r k e di vk vi vr K I R:=⟨h.rd,h.vb,h.fr,h.lo,h.lb⟩
theorem Hr.bp (h:Hr C W0 p kd W r k e di vk vi vr K I R):C.b<p:=AAt h.lb h.lo
theorem Hr.BF (h:Hr C W0 p kd W r k e di vk vi vr K I R) (hb:Ah C.b W W') (hr:CF C W' r' k' e'):Hr C W0 p kd W' r' k' e' di vk vi vr K I R:=⟨hr,h.vb.BF hb h.bp,h.fr.trans hb,h.lo,h.lb⟩
theorem Hr.below (h:Hr C W0 p kd W r k e di vk vi vr K I R) (hb:Below W.heap.size W W'):Hr C W0 p kd W' r k e di vk vi vr K I R:=h.BF (h.rd.BF hb) (h.rd.below hb)
abbrev Pk (C:CZ):Obj := .cells #[.pointer (some ⟨C.b,0,none⟩)] 103
abbrev tK (p:Nat):Obj := .cells #[.pointer (some ⟨p,0,none⟩)] 172
theorem Hr.three {x:AZ} (h:Hr C W0 p x.kind W r k e di vk vi vr K I R) {As:zo} {cs:Nat} {Am:zo} {cm:Nat} (ht:Ic C.w0 x As Am) :
  CX C ⟨W0,x,As,cs,Am,cm,p,W.heap.size,W.heap.size+1,W.heap.size+2⟩ (((W.alloc (Pk C)).alloc (x.box As cs Am cm)).alloc (tK p)) r k e di vk vi vr K I R:=by
 have hb1:=zI W (Pk C) (x.box As cs Am cm);have hb2:=zD ((W.alloc (Pk C)).alloc (x.box As cs Am cm)) (tK p);have hb:=zB hb1 hb2;have hf:=h.below hb;refine ⟨hf.rd,hf.vb,hf.fr,h.lo,h.lb,ht,?_,?_,.inr ?_⟩
 ·exact CW (CW (AAA W (Pk C)) (zD _ _)) hb2
 ·have:=AAA (W.alloc (Pk C)) (x.box As cs Am cm)
  rw[show (W.alloc (Pk C)).heap.size=W.heap.size+1 by simp] at this
  exact CW this hb2
 ·have:=AAA ((W.alloc (Pk C)).alloc (x.box As cs Am cm)) (tK p)
  rw[show ((W.alloc (Pk C)).alloc (x.box As cs Am cm)).heap.size=W.heap.size+2 by simp] at this
  exact this
theorem Hr.pvp (h:Hr C W0 p kd W r k e di vk vi vr K I R):W.heap.size+2≠p:=by have:=h.vb.lt;omega
end
def Lp (f:Int->List AB->Bool->PR Val) (x:AZ) (l1:List AB) (k:Bool):PR (List (Val×Val)) :=
 if Ba ⟨#[45,62]⟩ l1=true then (BG ⟨#[93]⟩ l1.tail).bind fun l2 => .ok ([],l2,k)
  else if Ba ⟨#[93]⟩ l1=true then .error 2
  else (JK (Bb f x) l1 k).bind fun p=>(BG ⟨#[93]⟩ p.2.1).bind fun l2 => .ok (p.1,l2,p.2.2)
theorem WQ (f:Int->List AB->Bool->PR Val) (x:AZ) (l:List AB) (k:Bool):G6 f x l k=(BG ⟨#[91]⟩ l).bind fun l1=>Lp f x l1 k:=rfl
def M4 (kd:Int) (P:PR (List (Val×Val))):PR Val:=P.bind fun p => .ok (.mk kd false 0 ⟨#[]⟩ 0 (p.1.map Prod.fst) (p.1.map Prod.snd) [],p.2)
def Dq (K I:List BX):List (Val×Val):=(K.map (·.v)).zip (I.map (·.v))
variable {I K:List BX}
theorem Ji (h:K.length=I.length) (x y:BX):Dq (K++[x]) (I++[y])=Dq K I++[(x.v,y.v)]:=by
 unfold Dq;rw[List.map_append,List.map_append,List.zip_append (by simp[h])]
 rfl
theorem Oq (h:K.length=I.length):(Dq K I).map Prod.fst=K.map (·.v):=by
 unfold Dq;exact List.map_fst_zip (by simp[h])
theorem Oo (h:K.length=I.length):(Dq K I).map Prod.snd=I.map (·.v):=by
 unfold Dq;exact List.map_snd_zip (by simp[h])
section
variable {C:CZ} {V:Vx}
def EnI (C:CZ) (V:Vx) (Rt:PR (List (Val×Val))) (W:World) (r:List AB) (k:Bool):Prop:=∃vk vi K I,CX C V W r k 0 0 vk vi AJ K I []/\(K.length=I.length/\I.length+r.length<=C.l.length)/\Ev (Bb (AP false C.s) V.x) Rt (Dq K I) r k
def EnJ (C:CZ) (V:Vx) (Rt:PR (List (Val×Val))) (W:World) (r:List AB) (k:Bool):Prop:=∃vk vi K I,CX C V W r k 0 0 vk vi AJ K I []/\(K.length=I.length/\I.length+r.length<=C.l.length)/\(Ba ⟨#[44]⟩ r=true->Ev (Bb (AP false C.s) V.x) Rt (Dq K I) r.tail k)/\(Ba ⟨#[44]⟩ r=false->Rt = .ok (Dq K I,r,k))
def EnF (C:CZ) (V:Vx) (Rt:PR (List (Val×Val))) (W:World) (r:List AB) (k:Bool):Prop:=∃vk vi K I,CX C V W r k 0 0 vk vi AJ K I []/\(K.length=I.length/\I.length+r.length<=C.l.length)/\∃l,Rt = .ok (Dq K I,l,k)/\BG ⟨#[93]⟩ l = .ok r
def EnE (C:CZ) (V:Vx) (Rt:PR (List (Val×Val))) (n0:Nat) (W:World) (e:Int):Prop:=∃vk vi K I r k,CX C V W r k e 0 vk vi AJ K I []/\(K.length<=2000000/\I.length<=2000000)/\r.length<=n0/\(Rt.bind fun p=>(BG ⟨#[93]⟩ p.2.1).bind fun l2 => .ok (p.1,l2,p.2.2):PR (List (Val×Val))) = .error e
theorem L8 (s:List AZ) (x:AZ):Dec (Bb (AP false s) x):=IJ (fun t=>Dv false s t) x
theorem qF {s:List AZ} {x:AZ} {l:List AB} {k:Bool}:Bb (AP false s) x l k ≠ .error 0:=fun h=>by
 unfold Bb at h
 rcases Gd h with h|⟨p,_,h⟩
 ·exact Cm false _ _ _ _ h
 ·rcases Gd h with h|⟨l1,_,h⟩
  ·exact EW _ _ h
  ·rcases Gd h with h|⟨q,_,h⟩
   ·exact Cm false _ _ _ _ h
   ·cases h
theorem yj {n:Nat} (ih:Dt C n) (hpv:V.pv≠V.p) (he1:0<=V.x.key/\V.x.key<(C.s.length:Int)) (he:0<=V.x.elem/\V.x.elem<(C.s.length:Int)) {r0:List AB} (hn:r0.length<n) {Rt:PR (List (Val×Val))} :
  RA C ⟨#[93]⟩ 162 [.pointer (some ⟨V.pv,0,none⟩),.pointer (some ⟨V.pr,0,none⟩),.pointer (some ⟨V.px,0,none⟩)] (fun W r k=>EnI C V Rt W r k/\r.length<=r0.length) (fun W r k=>EnJ C V Rt W r k/\r.length<=r0.length) (EnF C V Rt) (EnE C V Rt r0.length) where
 iS:=fun W r k h=>by obtain ⟨⟨_,_,_,_,h,_⟩,_⟩:=h;exact h.rd
 jS:=fun W r k h=>by obtain ⟨⟨_,_,_,_,h,_⟩,_⟩:=h;exact h.rd
 part:=fun W r k ⟨⟨vk,vi,K,I,h,⟨h1,h2⟩,h3⟩,h4⟩=>by
  have Ny:=h.rd.ok.len;refine (SX ih h hpv (by omega) he1 he (by omega) (by omega)).mono ?_
  rintro y W' ⟨rfl,x,z,Xe,Me,r',k',e',g1,g2,g3⟩;refine ⟨rfl,r',k',e',g1.rd,g2,fun e=>?_,fun hne=>?_⟩
  ·subst e
   cases hp:Bb (AP false C.s) V.x r k with
   | error e1=>rw[hp] at g3;exact absurd (g3▸hp) qF
   | ok q =>
    obtain ⟨⟨a,b⟩,r1,k1⟩:=q;rw[hp] at g3;obtain ⟨j1,j2,rfl,rfl,_⟩:=g3;have hlt:=(L8 C.s V.x _ _ _ _ _ hp).2;have hx:((x.v,z.v):Val×Val)=(a,b):=by rw[j1,j2]
    refine ⟨⟨Xe,Me,K++[x],I++[z],g1,⟨by simp[h1],by simp;omega⟩,fun hc=>?_,fun hc=>?_⟩,by omega⟩
    ·rw[Ji h1,hx];exact h3.comma (L8 _ _) hp hc
    ·rw[Ji h1,hx];exact h3.fin (L8 _ _) hp hc
  ·cases hp:Bb (AP false C.s) V.x r k with
   | error e1 =>
    rw[hp] at g3;obtain rfl:e'=e1:=g3;exact ⟨Xe,Me,_,_,r',k',g1,⟨by simp;omega,by simp;omega⟩,by omega,by rw[h3.bad (L8 _ _) hp];rfl⟩
   | ok q =>
    rw[hp] at g3;exact absurd g3.2.2.2.2 hne
 comma:=fun W r k W' ⟨⟨vk,vi,K,I,h,⟨h1,h2⟩,h3,h4⟩,h5⟩ hc hb hr=>by
  have:=Jl hc;exact ⟨⟨vk,vi,K,I,h.BF hb hr,⟨h1,by omega⟩,h3 hc⟩,by omega⟩
 fin:=fun W r k W' ⟨⟨vk,vi,K,I,h,⟨h1,h2⟩,h3,h4⟩,h5⟩ hc ht hb hr=>by
  have:=Jl ht;exact ⟨vk,vi,K,I,h.BF hb hr,⟨h1,by omega⟩,r,h4 hc,by unfold BG;rw[AAC ht]⟩
 bad:=fun W r k W' ⟨⟨vk,vi,K,I,h,⟨h1,h2⟩,h3,h4⟩,h5⟩ hc ht hb hr=>by
  have Ny:=h.rd.ok.len;refine ⟨vk,vi,K,I,r,k,h.BF hb hr,⟨by omega,by omega⟩,h5,?_⟩
  rw[h4 hc,zM];unfold BG;simp only;rw[Pe (by rw[ht];simp)]
  rfl
end
section
variable {C:CZ} {W0 W':World} {p:Nat} {kd:Int} {r r':List AB} {k k':Bool} {e' di:Int} {vk vi vr:Value} {K I:List BX} {R:List Ac}
theorem Bw {P:PR Val} (h:Hr C W0 p kd W' r' k' e' di vk vi vr K I R) (hl:r'.length<=r.length) (hz:K.length<=2000000/\I.length<=2000000/\R.length<=2000000) (hp:P = .error e'):Gl C W0 p kd r P W' :=
 ⟨di,vk,vi,vr,K,I,R,r',k',e',h,hl,hz,by rw[hp]⟩
theorem F4 {P:PR Val} (h:Hr C W0 p kd W' r' k' 0 di vk vi vr K I R) (hl:r'.length<=r.length) (hz:K.length<=2000000/\I.length<=2000000/\R.length<=2000000) {v:Val} (hv:v = .mk kd false 0 ⟨#[]⟩ di (K.map (·.v)) (I.map (·.v)) R) (hp:P = .ok (v,r',k')):Gl C W0 p kd r P W' :=
 ⟨di,vk,vi,vr,K,I,R,r',k',0,h,hl,hz,by rw[hp];exact ⟨hv,rfl,rfl,rfl⟩⟩
end
theorem Ud (kd e:Int):M4 kd (.error e) = .error e:=rfl
theorem SE (kd:Int) (L:List (Val×Val)) (l:List AB) (k:Bool):M4 kd (.ok (L,l,k)) = .ok (.mk kd false 0 ⟨#[]⟩ 0 (L.map Prod.fst) (L.map Prod.snd) [],l,k):=rfl
theorem z3:([]:List BX).length<=2000000/\([]:List BX).length<=2000000/\([]:List Ac).length<=2000000:=⟨by decide,by decide,by decide⟩
variable {k:Bool} {r:List AB} {cm cs n p:Nat} {C:CZ} {x:AZ} {W W0:World} {Am As:zo}
theorem Uy (ih:Dt C n) (ht:Ic C.w0 x As Am) (h:Hr C W0 p x.kind W r k 0 0 AJ AJ AJ [] [] []) (hn:r.length<=n) (he1:0<=x.key/\x.key<(C.s.length:Int)) (he:0<=x.elem/\x.elem<(C.s.length:Int)):
  Calls Tryz.prog 129 #[.pointer (some ⟨C.b,0,none⟩),x.v As cs Am cm,.pointer (some ⟨p,0,none⟩)] W fun y W'=>y = .returned (.tuple #[])/\Gl C W0 p x.kind r (M4 x.kind (G6 (AP false C.s) x r k)) W':=by
 have l6:=zh (h.three (cs:=cs) (cm:=cm) ht);have OT:=zh h.pvp;have HN:=zh hn;have Df:=zh ih;have Mc:=zh he1;have MU:=zh he;have VR:=zh (WQ (AP false C.s) x r k);clear h ih hn he1 he ht
 go_enter Tryz.func129,Tryz.ntmps129
 go_upto_region 1 with fail
 generalize ((W.alloc (Pk C)).alloc (x.box As cs Am cm)).alloc (tK p)=W1 at *;generalize hV:(⟨W0,x,As,cs,Am,cm,p,W.heap.size,W.heap.size+1,W.heap.size+2⟩:Vx)=V at *;have HX:Hid (V.x=x/\V.p=p/\V.W0=W0):=by rw[<-hV];exact ⟨rfl,rfl,rfl⟩
 have e1:W.heap.size=V.pr:=by rw[<-hV]
 have e2:W.heap.size+1=V.px:=by rw[<-hV]
 have e3:W.heap.size+2=V.pv:=by rw[<-hV]
 have e4:p=V.p:=by rw[<-hV]
 have HPW:Hid (V.pv≠V.p):=by show _≠_;rw[<-e3,<-e4];exact OT.out
 rw[show W.heap.size+1+1=V.pv from e3,e2,e1];clear hV e1 e2 e3 OT;have Ku:Hid (∀W' r' k' e' di vk vi vr K I R,CX C V W' r' k' e' di vk vi vr K I R->Hr C W0 p x.kind W' r' k' e' di vk vi vr K I R):=fun W' r' k' e' di vk vi vr K I R h=>by
  have:=h.fl;obtain ⟨g1,g2,g3⟩:=HX.out;rw[g1,g2,g3] at this;exact this
 clear e4;have rr:=(l6.out.reads (Ah.refl _ _)).1.2.2.2.1
 go_upto_if 12 with (go_at_call 126;refine (BV ⟨#[91]⟩ l6.out.rd).mono ?_;intro y w3 h3;obtain rfl:=h3.1;obtain ⟨hb3,r1,e1,hr3,hs3⟩:=Eh h3;have FX:=zh (l6.out.BF hb3 hr3);have Ie:=zh hs3;have rr3:=(FX.out.reads (Ah.refl _ _)).1.2.2.2.1;have rz3:=hr3.zero;clear h3 hb3 hr3 hs3)
 have NM:=zh (Bl Ie)
 by_cases he:e1=0
 case neg =>
  have q1:(e1 != 0)=true:=by simp[he]
  have HP:Hid (M4 x.kind (G6 (AP false C.s) x r k) = .error e1):=by
   show _=_
   have hs:=NM.out;rw[VR.out]
   cases hsy:BG ⟨#[91]⟩ r with
   | error e2=>rw[hsy] at hs;rw[hs.1];rfl
   | ok l=>rw[hsy] at hs;exact absurd hs.2 he
  clear he;go_wp2;refine bodyPost_ret (results_none Tryz.results129 _ _ _) rfl ⟨rfl,Bw (Ku.out _ _ _ _ _ _ _ _ _ _ _ FX) Ie.out.1 z3 HP⟩
 subst he;obtain ⟨HQ,Dm⟩:Hid (G6 (AP false C.s) x r k=Lp (AP false C.s) x r1 k)/\Hid (r1.length<r.length):=by
  have hs:=NM.out
  cases hsy:BG ⟨#[91]⟩ r with
  | error e2=>rw[hsy] at hs;exact absurd rfl hs.2
  | ok l =>
   rw[hsy] at hs;obtain ⟨rfl,_⟩:=hs;exact ⟨by show _=_;rw[VR.out,hsy];rfl,(zU hsy).1.2⟩
 clear NM Ie VR rr l6
 cases ha:Ba ⟨#[45,62]⟩ r1 with
 | true =>
  have HA:=zh ha;have HP:Hid (G6 (AP false C.s) x r k=(BG ⟨#[93]⟩ r1.tail).bind fun l2 => .ok ([],l2,k)):=by show _=_;rw[HQ.out];unfold Lp;rw[AAC ha]
  obtain ⟨t,q,rfl,_,_⟩:=BN ha;clear ha;go_wp2_with (first|(go_at_call 160;refine (zX ⟨#[45,62]⟩ FX.out.rd).mono ?_;rintro y w4 ⟨rfl,hb4⟩;rw[HA.out];have Db:=zh (FX.out.below hb4);have oQ:=(Db.out.reads (Ah.refl _ _)).1.2.2.2.1;obtain ⟨i,hi,c2,f2,hi2,XQ⟩:=Db.out.rd.Pb;clear hb4));have HV5:=zh (Db.out.BF ((Ah.refl _ _).set 2 (.int .i64 ((i:Int)+1))) (XQ.out.1 _ _ _ Db.out.rd))
  refine (BV ⟨#[93]⟩ HV5.out.rd).mono ?_
  intro y w6 h6
  obtain rfl:=h6.1;obtain ⟨hb6,r6,e6,hr6,hs6⟩:=Eh h6;have DN:=zh (Ku.out _ _ _ _ _ _ _ _ _ _ _ (HV5.out.BF hb6 hr6));have NM:=zh (Bl hs6);have aJ:=zh hs6.1;clear h6 hb6 hr6 hs6;go_wp2;refine bodyPost_ret (results_none Tryz.results129 _ _ _) rfl ⟨rfl,?_⟩;have hl:r6.length<=r.length:=by have:=aJ.out;have:=Dm.out;rw[AAS] at this;omega
  have hs:=NM.out;have hp:=HP.out;rw[List.tail_cons] at hp
  cases hsy:BG ⟨#[93]⟩ q with
  | error e2 =>
   rw[hsy] at hs hp;rw[Aj] at hp;have h9:M4 x.kind (G6 (AP false C.s) x r k) = .error e6:=by rw[hp,Ud,hs.1]
   exact Bw DN hl z3 h9
  | ok l =>
   rw[hsy] at hs hp;obtain ⟨rfl,rfl⟩:=hs;exact F4 DN hl z3 rfl (by rw[hp,zM,SE];rfl)
 | false =>
  have HA:=zh ha
  cases hb:Ba ⟨#[93]⟩ r1 with
  | true =>
   have HB:=zh hb;have HP:Hid (M4 x.kind (G6 (AP false C.s) x r k) = .error 2):=by show _=_;rw[HQ.out];unfold Lp;rw[Pe (by rw[ha];simp),AAC hb];rfl
   clear ha hb;go_wp2_with fail;refine (zX ⟨#[45,62]⟩ FX.out.rd).mono ?_;rintro y w4 ⟨rfl,hb4⟩;rw[HA.out];have Db:=zh (FX.out.below hb4);have oQ:=(Db.out.reads (Ah.refl _ _)).1.2.2.2.1;clear hb4;go_wp2_with fail;refine (zX ⟨#[93]⟩ Db.out.rd).mono ?_;rintro y w5 ⟨rfl,hb5⟩;rw[HB.out];have HV5:=zh (Db.out.below hb5);have rr5:=(HV5.out.reads (Ah.refl _ _)).1.2.2.2.1;clear hb5;go_wp2_with fail
   refine (Bc 2 HV5.out.rd).mono ?_;rintro y w6 ⟨rfl,g1,g2⟩;have DN:=zh (Ku.out _ _ _ _ _ _ _ _ _ _ _ (HV5.out.BF g2 g1));clear g1 g2;go_wp2;refine bodyPost_ret (results_none Tryz.results129 _ _ _) rfl ⟨rfl,Bw DN (AAT Dm) z3 HP⟩
  | false =>
   have HB:=zh hb;have HP:Hid (G6 (AP false C.s) x r k=(JK (Bb (AP false C.s) x) r1 k).bind fun p=>(BG ⟨#[93]⟩ p.2.1).bind fun l2 => .ok (p.1,l2,p.2.2)):=by show _=_;rw[HQ.out];unfold Lp;rw[Pe (by rw[ha];simp),Pe (by rw[hb];simp)]
   clear ha hb;go_wp2_with fail;refine (zX ⟨#[45,62]⟩ FX.out.rd).mono ?_;rintro y w4 ⟨rfl,hb4⟩;rw[HA.out];have Db:=zh (FX.out.below hb4);have oQ:=(Db.out.reads (Ah.refl _ _)).1.2.2.2.1;clear hb4;go_wp2_with fail;refine (zX ⟨#[93]⟩ Db.out.rd).mono ?_;rintro y w5 ⟨rfl,hb5⟩;rw[HB.out];have HV5:=zh (Db.out.below hb5);have rr5:=(HV5.out.reads (Ah.refl _ _)).1.2.2.2.1;clear hb5;go_wp2_with fail
   have qf:Hid (V.x=x):=HX.out.1;have hc:=yj (C:=C) (V:=V) Df HPW (by rw[qf.out];exact Mc.out) (by rw[qf.out];exact MU.out) (r0:=r1) (by have:=Dm.out;have:=HN.out;omega) (Rt:=JK (Bb (AP false C.s) V.x) r1 k)
   refine (Pt hc HV5.out.rd (fun h=>by rw[HB.out] at h;cases h) (fun _ W' g1 g2=>⟨⟨AJ,AJ,[],[],HV5.out.BF g1 g2,⟨rfl,by have:=g2.LH.length_le;simp;omega⟩,Ev.start _ _ _⟩,AAQ _⟩)).mono ?_
   rintro y w6 ⟨rfl,r6,k6,e6,g1,g2,g3⟩;have HG2:=zh g2;have Br:=zh g3;have mE:=zh g1;clear g1 g2 g3 hc;go_wp2;refine bodyPost_end (results_none Tryz.results129 _ _ _) rfl ⟨rfl,?_⟩
   by_cases hz:e6=0
   ·subst hz
    obtain ⟨vk,vi,K,I,g1,⟨g2,g3⟩,l,g4,g5⟩:=HG2.out rfl;rw[qf.out] at g4;have hlt:=(zU g5).1.2;have hl:=(OD (L8 C.s x) _ _ _ _ _ _ g4).2;have h6:=g1.rd.ok.len;refine F4 (Ku.out _ _ _ _ _ _ _ _ _ _ _ g1) (by have:=Dm.out;omega) ⟨by omega,by omega,by simp⟩ ?_ (by rw[HP.out,g4,zM,g5,zM,SE])
    rw[Oq g2,Oo g2]
   ·obtain ⟨vk,vi,K,I,r7,k7,g1,⟨g2,g3⟩,g5,g4⟩:=Br.out hz
    rw[qf.out] at g4;refine Bw (Ku.out _ _ _ _ _ _ _ _ _ _ _ g1) (by have:=Dm.out;omega) ⟨by omega,by omega,by simp⟩ (by rw[HP.out,g4,Ud])
def Mr (kd:Int) (P:Kb):PR Val:=P.bind fun p => .ok (.mk kd false 0 ⟨#[]⟩ 0 [] p.1.1 p.1.2,p.2)
theorem bX (kd e:Int):Mr kd (.error e) = .error e:=rfl
theorem jV (kd:Int) (a:List Val) (b:List Ac) (l:List AB) (k:Bool):Mr kd (.ok ((a,b),l,k)) = .ok (.mk kd false 0 ⟨#[]⟩ 0 [] a b,l,k):=rfl
section
variable {C:CZ} {V:Vx}
def RcI (C:CZ) (V:Vx) (Rt:Kb) (n0:Nat) (W:World) (r:List AB) (k:Bool):Prop:=∃vi vr I R,CX C V W r k 0 0 AJ vi vr [] I R/\(I.length<=V.x.AA.length/\I.length+R.length+r.length<=C.l.length/\r.length<=n0)/\ML (AP false C.s) Rt (I.map (·.v)) R (V.x.AA.drop I.length) r k
def RcJ (C:CZ) (V:Vx) (Rt:Kb) (n0:Nat) (W:World) (r:List AB) (k:Bool):Prop:=∃vi vr I R,CX C V W r k 0 0 AJ vi vr [] I R/\(I.length<=V.x.AA.length/\I.length+R.length+r.length<=C.l.length/\r.length<=n0)/\PG (AP false C.s) Rt (I.map (·.v)) R (V.x.AA.drop I.length) r k
def RcF (C:CZ) (V:Vx) (Rt:Kb) (n0:Nat) (W:World) (r:List AB) (k:Bool):Prop:=∃vi vr I R,CX C V W r k 0 0 AJ vi vr [] I R/\(I.length+R.length+r.length<=C.l.length/\r.length<=n0)/\Rt = .ok ((I.map (·.v),R),r,k)
def RcE (C:CZ) (V:Vx) (Rt:Kb) (n0:Nat) (W:World) (e:Int):Prop:=∃vi vr I R r k,CX C V W r k e 0 AJ vi vr [] I R/\(I.length<=2000000/\R.length<=2000000)/\r.length<=n0/\Rt = .error e
theorem Tt {n:Nat} (ih:Dt C n) {W:World} {r:List AB} {k:Bool} {vk vi vr:Value} {KL I:List BX} {R:List Ac} (h:CX C V W r k 0 0 vk vi vr KL I R) (hpv:V.pv≠V.p) (hn:r.length<n)
  (he:∀y∈V.x.AA,0<=y.type/\y.type<(C.s.length:Int)) {Rt:Kb} (hR:ML (AP false C.s) Rt (I.map (·.v)) R (V.x.AA.drop I.length) r k) (hl:I.length+R.length<=1000000) (hi:I.length<=V.x.AA.length) :
  Calls Tryz.prog 161 #[.pointer (some ⟨V.pv,0,none⟩),.pointer (some ⟨V.px,0,none⟩),.pointer (some ⟨V.pr,0,none⟩)] W fun y W'=>y = .returned (.tuple #[])/\vC C V Rt r vk KL I R W':=by
 by_cases h1:I.length<V.x.AA.length
 ·exact Tq ih h hpv hn he hR hl h1
 ·exact Tp h hpv hR hl (by omega)
theorem recC {n:Nat} (ih:Dt C n) (hpv:V.pv≠V.p) (he:∀y∈V.x.AA,0<=y.type/\y.type<(C.s.length:Int)) {n0:Nat} (hn:n0<n) {Rt:Kb} :
  RA C ⟨#[125]⟩ 161 [.pointer (some ⟨V.pv,0,none⟩),.pointer (some ⟨V.px,0,none⟩),.pointer (some ⟨V.pr,0,none⟩)] (RcI C V Rt n0) (RcJ C V Rt n0) (RcF C V Rt n0) (RcE C V Rt n0) where
 iS:=fun W r k h=>by obtain ⟨_,_,_,_,h,_⟩:=h;exact h.rd
 jS:=fun W r k h=>by obtain ⟨_,_,_,_,h,_⟩:=h;exact h.rd
 part:=fun W r k ⟨vi,vr,I,R,h,⟨h1,h2,h3⟩,h4⟩=>by
  have Ny:=h.rd.ok.len;refine (Tt ih h hpv (by omega) he h4 (by omega) h1).mono ?_
  rintro y W' ⟨rfl,Me,aV,I',R',r',k',e',g1,g2,g3,g5,g6⟩;refine ⟨rfl,r',k',e',g1.rd,g2,fun e=>?_,fun hne=>?_⟩
  ·obtain ⟨j1,j2,j3⟩:=g5 e
   subst e;exact ⟨Me,aV,I',R',g1,⟨j2,by omega,by omega⟩,j1⟩
  ·exact ⟨Me,aV,I',R',r',k',g1,g3,by omega,g6 hne⟩
 comma:=fun W r k W' ⟨vi,vr,I,R,h,⟨h1,h2,h3⟩,h4⟩ hc hb hr=>by
  have:=Jl hc;exact ⟨vi,vr,I,R,h.BF hb hr,⟨h1,by omega,by omega⟩,h4.comma hc⟩
 fin:=fun W r k W' ⟨vi,vr,I,R,h,⟨h1,h2,h3⟩,h4⟩ hc ht hb hr=>by
  have:=Jl ht;exact ⟨vi,vr,I,R,h.BF hb hr,⟨by omega,by omega⟩,h4.fin hc ht⟩
 bad:=fun W r k W' ⟨vi,vr,I,R,h,⟨h1,h2,h3⟩,h4⟩ hc ht hb hr=>by
  have Ny:=h.rd.ok.len;exact ⟨vi,vr,I,R,r,k,h.BF hb hr,⟨by omega,by omega⟩,h3,h4.bad hc ht⟩
end
theorem Vw (ih:Dt C n) (ht:Ic C.w0 x As Am) (h:Hr C W0 p x.kind W r k 0 0 AJ AJ AJ [] [] []) (hn:r.length<=n) (he:∀y∈x.AA,0<=y.type/\y.type<(C.s.length:Int)):
  Calls Tryz.prog 124 #[.pointer (some ⟨C.b,0,none⟩),x.v As cs Am cm,.pointer (some ⟨p,0,none⟩)] W fun y W'=>y = .returned (.tuple #[])/\Gl C W0 p x.kind r (Mr x.kind (H9 false (AP false C.s) x r k)) W':=by
 have l6:=zh (h.three (cs:=cs) (cm:=cm) ht);have OT:=zh h.pvp;have HN:=zh hn;have Df:=zh ih;have MU:=zh he;have VR:=zh (jX (f:=AP false C.s) x r k);clear h ih hn he ht
 go_enter Tryz.func124,Tryz.ntmps124
 go_upto_region 1 with fail
 generalize ((W.alloc (Pk C)).alloc (x.box As cs Am cm)).alloc (tK p)=W1 at *;generalize hV:(⟨W0,x,As,cs,Am,cm,p,W.heap.size,W.heap.size+1,W.heap.size+2⟩:Vx)=V at *;have HX:Hid (V.x=x/\V.p=p/\V.W0=W0):=by rw[<-hV];exact ⟨rfl,rfl,rfl⟩
 have e1:W.heap.size=V.pr:=by rw[<-hV]
 have e2:W.heap.size+1=V.px:=by rw[<-hV]
 have e3:W.heap.size+2=V.pv:=by rw[<-hV]
 have e4:p=V.p:=by rw[<-hV]
 have HPW:Hid (V.pv≠V.p):=by show _≠_;rw[<-e3,<-e4];exact OT.out
 rw[show W.heap.size+1+1=V.pv from e3,e2,e1];clear hV e1 e2 e3 OT;have Ku:Hid (∀W' r' k' e' di vk vi vr K I R,CX C V W' r' k' e' di vk vi vr K I R->Hr C W0 p x.kind W' r' k' e' di vk vi vr K I R):=fun W' r' k' e' di vk vi vr K I R h=>by
  have:=h.fl;obtain ⟨g1,g2,g3⟩:=HX.out;rw[g1,g2,g3] at this;exact this
 clear e4;have rr:=(l6.out.reads (Ah.refl _ _)).1.2.2.2.1
 go_upto_if 12 with (go_at_call 126;refine (BV ⟨#[123]⟩ l6.out.rd).mono ?_;intro y w3 h3;obtain rfl:=h3.1;obtain ⟨hb3,r1,e1,hr3,hs3⟩:=Eh h3;have FX:=zh (l6.out.BF hb3 hr3);have Ie:=zh hs3;have rr3:=(FX.out.reads (Ah.refl _ _)).1.2.2.2.1;have rm3:=(FX.out.reads (Ah.refl _ _)).1.2.2.2.2.1;rw[HX.out.1] at rm3;have rz3:=hr3.zero;clear h3 hb3 hr3 hs3)
 have NM:=zh (Bl Ie)
 by_cases he:e1=0
 case neg =>
  have q1:(e1 != 0)=true:=by simp[he]
  have HP:Hid (Mr x.kind (H9 false (AP false C.s) x r k) = .error e1):=by
   show _=_
   have hs:=NM.out;rw[VR.out]
   cases hsy:BG ⟨#[123]⟩ r with
   | error e2=>rw[hsy] at hs;rw[hs.1];rfl
   | ok l=>rw[hsy] at hs;exact absurd hs.2 he
  clear he;go_wp2;refine bodyPost_ret (results_none Tryz.results124 _ _ _) rfl ⟨rfl,Bw (Ku.out _ _ _ _ _ _ _ _ _ _ _ FX) Ie.out.1 z3 HP⟩
 subst he;obtain ⟨HQ,Dm⟩:Hid (H9 false (AP false C.s) x r k=Rm (AP false C.s) x.AA r1 k)/\Hid (r1.length<r.length):=by
  have hs:=NM.out
  cases hsy:BG ⟨#[123]⟩ r with
  | error e2=>rw[hsy] at hs;exact absurd rfl hs.2
  | ok l =>
   rw[hsy] at hs;obtain ⟨rfl,_⟩:=hs;exact ⟨by show _=_;rw[VR.out,hsy];rfl,(zU hsy).1.2⟩
 have qf:Hid (V.x=x):=HX.out.1;clear NM Ie VR rr l6;have Gp:Hid (∀W5,CX C V W5 r1 k 0 0 AJ AJ AJ [] [] []->(Ba ⟨#[125]⟩ r1=true->x.AA=[]) ->
   Calls Tryz.prog 127 #[.pointer (some ⟨C.b,0,none⟩),.string ⟨#[125]⟩,.func (.func 161) #[] #[.pointer (some ⟨V.pv,0,none⟩),.pointer (some ⟨V.px,0,none⟩),.pointer (some ⟨V.pr,0,none⟩)]] W5 fun y W'=>y = .returned (.tuple #[])/\Gl C W0 p x.kind r (Mr x.kind (H9 false (AP false C.s) x r k)) W'):=fun W5 h5 hm=>by
  have hl1:=h5.rd.LH.length_le;have hc:=recC (C:=C) (V:=V) Df HPW (by rw[qf.out];exact MU.out) (n0:=r1.length) (by have:=Dm.out;have:=HN.out;omega) (Rt:=Rm (AP false C.s) x.AA r1 k)
  refine (SF hc h5.rd (fun h W' g1 g2=>?_) (fun h W' g1 g2=>⟨AJ,AJ,[],[],h5.BF g1 g2,⟨by simp,by simp;omega,AAQ _⟩,by rw[qf.out];exact ML.start h⟩)).mono ?_
  ·have:=Jl h
   refine ⟨AJ,AJ,[],[],h5.BF g1 g2,⟨by simp;omega,by omega⟩,?_⟩
   rw[hm h];exact Y2 h
  ·rintro y w6 ⟨rfl,r6,k6,e6,g1,g2,g3⟩
   refine ⟨rfl,?_⟩;have hlt:=Dm.out;have h6:=h5.rd.ok.len
   by_cases hz:e6=0
   ·subst hz
    obtain ⟨vi,vr,I,R,j1,⟨j2,j3⟩,j4⟩:=g2 rfl;exact F4 (Ku.out _ _ _ _ _ _ _ _ _ _ _ j1) (by omega) ⟨by simp,by omega,by omega⟩ rfl (by rw[HQ.out,j4,jV];rfl)
   ·obtain ⟨vi,vr,I,R,r7,k7,j1,⟨j2,j3⟩,j4,j5⟩:=g3 hz
    exact Bw (Ku.out _ _ _ _ _ _ _ _ _ _ _ j1) (by omega) ⟨by simp,j2,j3⟩ (by rw[HQ.out,j5,bX])
 by_cases hm:x.AA=[]
 ·have q2:¬ (0:Int)<(x.AA.length:Int):=by rw[hm];simp
  have HM:=zh hm;clear hm;go_wp2_with fail;refine (Gp.out _ (FX.out.below (zC (Pd _ _) 0)) (fun _=>HM.out)).mono ?_
  rintro y w6 ⟨rfl,h6⟩;have H6:=zh h6;clear h6;go_wp2;refine bodyPost_end (results_none Tryz.results124 _ _ _) rfl ⟨rfl,H6.out⟩
 ·have q2:(0:Int)<(x.AA.length:Int):=by have:=List.length_pos_iff.2 hm;omega
  cases hb:Ba ⟨#[125]⟩ r1 with
  | true =>
   have HB:=zh hb;have HP:Hid (Mr x.kind (H9 false (AP false C.s) x r k) = .error 2):=by show _=_;rw[HQ.out,bY hm hb];rfl
   clear hm hb;go_wp2_with fail;refine (zX ⟨#[125]⟩ FX.out.rd).mono ?_;rintro y w4 ⟨rfl,hb4⟩;rw[HB.out];have Db:=zh (FX.out.below hb4);have oQ:=(Db.out.reads (Ah.refl _ _)).1.2.2.2.1;clear hb4;go_wp2_with fail;refine (Bc 2 Db.out.rd).mono ?_;rintro y w6 ⟨rfl,g1,g2⟩;have DN:=zh (Ku.out _ _ _ _ _ _ _ _ _ _ _ (Db.out.BF g2 g1));clear g1 g2;go_wp2
   refine bodyPost_ret (results_none Tryz.results124 _ _ _) rfl ⟨rfl,Bw DN (AAT Dm) z3 HP⟩
  | false =>
   have HB:=zh hb;clear hm hb;go_wp2_with fail;refine (zX ⟨#[125]⟩ FX.out.rd).mono ?_;rintro y w4 ⟨rfl,hb4⟩;rw[HB.out];have Db:=zh (FX.out.below hb4);have oQ:=(Db.out.reads (Ah.refl _ _)).1.2.2.2.1;clear hb4;go_wp2_with fail;refine (Gp.out _ Db (fun h=>by rw[HB.out] at h;cases h)).mono ?_
   rintro y w6 ⟨rfl,h6⟩;have H6:=zh h6;clear h6;go_wp2;refine bodyPost_end (results_none Tryz.results124 _ _ _) rfl ⟨rfl,H6.out⟩
def Ot (kd:Int) (P:PR (List Val)):PR Val:=P.bind fun p => .ok (.mk kd false 0 ⟨#[]⟩ 0 [] p.1 [],p.2)
theorem Ll (kd e:Int):Ot kd (.error e) = .error e:=rfl
theorem Xz (kd:Int) (a:List Val) (l:List AB) (k:Bool):Ot kd (.ok (a,l,k)) = .ok (.mk kd false 0 ⟨#[]⟩ 0 [] a [],l,k):=rfl
theorem Gu (a:ByteArray) (l:List UInt8):(a.toList==l)=decide (a=⟨l.toArray⟩):=by
 have h:(⟨l.toArray⟩:ByteArray).toList=l:=by rw[Lib.toList_data]
 have:=bytes_beq a ⟨l.toArray⟩
 rwa [h] at this
section
variable {C:CZ} {W0 W W':World} {p:Nat} {kd:Int} {r r':List AB} {k k':Bool} {e e' di:Int}
theorem Hr.one (h:Hr C W0 p kd W r k e di AJ AJ AJ [] [] []) {W6:World} (hb:Ah C.b W W6) (hr:CF C W6 r' k' e') {x:BX} (hx:Off (fun q=>q<W.heap.size) W6 fun u=>BO u x.v x.A1 x.A2 x.A3) :
  Hr C W0 p kd ((W6.alloc (.cells x.cells.toArray 28)).setCell ⟨p,6,none⟩ (.slice (some ⟨W6.heap.size,0,none⟩) 1 1)) r' k' e' di AJ (.slice (some ⟨W6.heap.size,0,none⟩) 1 1) AJ [] [x] []:=by
 have h6:=h.BF hb hr;have ho:(W6.alloc (.cells x.cells.toArray 28)).ownsRow (p+1) 28 8 (.slice (some ⟨W6.heap.size,0,none⟩) 1 1) 1 ([]++x.cells):=by
  exact World.ownsRow_lit (base:=p+1) (e:=28) (size:=8) W6 x.cells.toArray 1 h6.vb.lt (by unfold maxLen;omega) rfl
 obtain ⟨g1,g2,g3⟩:=h6.vb.item (x:=x) (v8 := .slice (some ⟨W6.heap.size,0,none⟩) 1 1) (w8:=W6.alloc (.cells x.cells.toArray 28)) (hx.mono fun q _ hq=>by
  have hl:=h.vb.lt
  rcases hq with e|e|e|e
  ·omega
  ·cases e
  ·cases e
  ·cases e) (Pd _ _) ho (World.grownBy_alloc W6 _ none) (.inr rfl)
 exact ⟨⟨h6.rd.ok,(g2.block _ h6.bp).trans h6.rd.blk,h6.rd.LH,h6.rd.up.trans (g2.mono (by have:=h6.bp;have:=h6.rd.ok.ge;omega))⟩,g1,h6.fr.up g2 h6.lo (AAT h6.bp),h6.lo,h6.lb⟩
theorem Ai {b q:Nat} {w w':World} {o:Obj} (h:w.heap[q]? = some o) (hb:Ah b w w') (hq:q≠b):w'.heap[q]? = some o:=(hb.Ef q hq (zg.1 h).1).trans h
end
theorem R3 (ih:Dt C n) (h:Hr C W0 p x.kind W r k 0 0 AJ AJ AJ [] [] []) (hn:r.length<=n) (he:0<=x.elem/\x.elem<(C.s.length:Int)):
  Calls Tryz.prog 130 #[.pointer (some ⟨C.b,0,none⟩),x.v As cs Am cm,.pointer (some ⟨p,0,none⟩)] W fun y W'=>y = .returned (.tuple #[])/\Gl C W0 p x.kind r (Ot x.kind (Fg (AP false C.s) x r k)) W':=by
 have HF0:=zh (h.below (zD W (x.box As cs Am cm)));have HX0:=zh (AAA W (x.box As cs Am cm));have HXB:Hid (W.heap.size≠C.b):=by have:=h.rd.lt;show _≠_;omega
 have HN:=zh hn;have Df:=zh ih;have MU:=zh he;have LF:Hid (Fg (AP false C.s) x r k=(Bg 1 r).bind fun p=>if p.1.text=⟨#[110,111,110,101]⟩ then .ok ([],p.2,k)
  else if p.1.text=⟨#[115,111,109,101]⟩ then (BG ⟨#[40]⟩ p.2).bind fun l2=>(AP false C.s x.elem l2 k).bind fun q=>(BG ⟨#[41]⟩ q.2.1).bind fun l4 => .ok ([q.1],l4,q.2.2)
  else .error 2):=rfl
 clear h ih hn he
 go_enter Tryz.func130,Tryz.ntmps130
 go_upto_region 1 with fail
 generalize W.alloc (x.box As cs Am cm)=W1 at *
 go_cut [6] (fun s wx=>∃tb t0 r1 e1,s = .pointer (some ⟨tb,0,none⟩)/\Hid (Hr C W0 p x.kind wx r1 k e1 0 AJ AJ AJ [] [] []/\wx.heap[W.heap.size]? = some (x.box As cs Am cm)/\wx.heap[tb]? = some (bG t0)/\Q6 1 r t0 r1 e1))
 case first =>
  go_wp2_with (go_at_call 122;refine (Bo 1 HF0.out.rd).mono ?_;intro y w3 h3;obtain ⟨t0,r1,e1,rfl,g1,g2,g3⟩:=Fa h3;have GJ:=zh (HF0.out.BF g1 g2);have JQ:=zh (Ai HX0 g1 HXB);have EJ:=zh g3;clear h3 g1 g2 g3)
  go_meet
  exact ⟨_,t0,r1,e1,rfl,GJ.out.below (zD _ _),CW JQ (zD _ _),AAA _ _,EJ.out⟩
 case rest =>
 obtain ⟨W3,rfl⟩:∃W:World,W=wc:=⟨_,rfl⟩;obtain ⟨tb,t0,r1,e1,rfl,h3⟩:=hcut;have GJ:=zh h3.out.1;have JQ:=zh h3.out.2.1;have EJ:=zh h3.out.2.2.2;obtain ⟨⟨_,x1,_,_,_⟩,_⟩:=Ao h3.out.2.2.1;clear h3 HF0 HX0;have rz:=GJ.out.rd.zero
 by_cases hz:e1=0
 case neg =>
  have q1:(e1 != 0)=true:=by simp[hz]
  have HP:Hid (Ot x.kind (Fg (AP false C.s) x r k) = .error e1):=by
   show _=_
   have ht:=EJ.out.tk;rw[LF.out]
   cases hk:Bg 1 r with
   | error e2=>rw[hk] at ht;rw[ht.1];rfl
   | ok q=>rw[hk] at ht;exact absurd ht.2.2.1 hz
  clear hz;go_wp2;refine bodyPost_ret (results_none Tryz.results130 _ _ _) rfl ⟨rfl,Bw GJ EJ.out.1.1 z3 HP⟩
 subst hz;obtain ⟨wh,Dm⟩:Hid (Fg (AP false C.s) x r k=if t0.text=⟨#[110,111,110,101]⟩ then .ok ([],r1,k)
  else if t0.text=⟨#[115,111,109,101]⟩ then (BG ⟨#[40]⟩ r1).bind fun l2=>(AP false C.s x.elem l2 k).bind fun q=>(BG ⟨#[41]⟩ q.2.1).bind fun l4 => .ok ([q.1],l4,q.2.2)
  else .error 2)/\Hid (r1.length<r.length):=by
  have ht:=EJ.out.tk
  cases hk:Bg 1 r with
  | error e2=>rw[hk] at ht;exact absurd rfl ht.2
  | ok q =>
   rw[hk] at ht;refine ⟨?_,ht.2.2.2⟩
   show _=_
   rw[LF.out,hk,zM,ht.1,ht.2.1]
 clear LF EJ
 by_cases h1:t0.text=⟨#[110,111,110,101]⟩
 ·have q2:(t0.text.toList==([110,111,110,101]:List UInt8))=true:=by rw[Gu];exact AAM h1
  have HP:Hid (Ot x.kind (Fg (AP false C.s) x r k) = .ok (.mk x.kind false 0 ⟨#[]⟩ 0 [] [] [],r1,k)):=by show _=_;rw[wh.out,AAC h1,Xz]
  clear h1;go_wp2;refine bodyPost_ret (results_none Tryz.results130 _ _ _) rfl ⟨rfl,F4 GJ (AAT Dm) z3 rfl HP⟩
 have q2:(t0.text.toList==([110,111,110,101]:List UInt8))=false:=by rw[Gu];exact AAE h1
 by_cases h2:t0.text=⟨#[115,111,109,101]⟩
 case neg =>
  have q3:(t0.text.toList==([115,111,109,101]:List UInt8))=false:=by rw[Gu];exact AAE h2
  have HP:Hid (Ot x.kind (Fg (AP false C.s) x r k) = .error 2):=by show _=_;rw[wh.out,Pe h1,Pe h2,Ll]
  clear h1 h2;go_wp2_with fail;refine (Bc 2 GJ.out.rd).mono ?_;rintro y w6 ⟨rfl,g1,g2⟩;have Dn:=zh (GJ.out.BF g2 g1);clear g1 g2;go_wp2;refine bodyPost_ret (results_none Tryz.results130 _ _ _) rfl ⟨rfl,Bw Dn (AAT Dm) z3 HP⟩
 have q3:(t0.text.toList==([115,111,109,101]:List UInt8))=true:=by rw[Gu];exact AAM h2
 have HP:Hid (Fg (AP false C.s) x r k=(BG ⟨#[40]⟩ r1).bind fun l2=>(AP false C.s x.elem l2 k).bind fun q=>(BG ⟨#[41]⟩ q.2.1).bind fun l4 => .ok ([q.1],l4,q.2.2)):=by show _=_;rw[wh.out,Pe h1,AAC h2]
 clear h1 h2 wh;go_wp2_with fail;refine (BV ⟨#[40]⟩ GJ.out.rd).mono ?_
 intro y w4 h4
 obtain rfl:=h4.1;obtain ⟨hb4,r2,e2,hr4,hs4⟩:=Eh h4;have GI:=zh (GJ.out.BF hb4 hr4);have RD:=zh (Ai JQ hb4 HXB);have IY:=zh hs4;have x8:w4.cell? ⟨W.heap.size,8,none⟩=some (.int .i64 x.elem):=by rw[AAB _ _ _ _ _ _ RD.out];rfl
 clear h4 hb4 hr4 hs4 rz x1;go_wp2_with fail;refine (Df.out x.elem _ r2 k e2 (by have:=IY.out.1;have:=Dm.out;have:=HN.out;omega) MU GI.out.rd).mono ?_
 rintro y w5 ⟨xa,rfl,g1,g2,r5,k5,e5,g3,g4,g5,g6⟩;have Dn:=zh (GI.out.one g2 g3 g1);have HV5:=zh (GI.out.BF g2 g3);have Gm:=zh g4;have Hq:=zh g5;have Ma:=zh g6;obtain ⟨⟨_,_,_,_,_,_,c6,_⟩,cf⟩:=(HV5.out.vb.below (zD w5 (.cells xa.cells.toArray 28))).cells;have f6:=cf 6;clear g1 g2 g3 g4 g5 g6 cf;have HE2:Hid (Jy ⟨#[40]⟩ r1 0 r2 e2):=IY.out;unfold BX.cells Val.cs at Dn c6 f6
 go_upto_region 7 with fail
 generalize World.setCell (World.alloc w5 _) _ _=W6 at *;have QB:Hid (([]:List BX).length<=2000000/\[xa].length<=2000000/\([]:List Ac).length<=2000000):=⟨by simp,by simp,by simp⟩
 have rz:=Dn.out.rd.zero
 by_cases hz:e5=0
 case neg =>
  have q1:(e5==0)=false:=by simp[hz]
  have HP5:Hid (Ot x.kind (Fg (AP false C.s) x r k) = .error e5):=by
   show _=_
   have hs:=Bl HE2;rw[HP.out]
   cases hsy:BG ⟨#[40]⟩ r1 with
   | error e=>rw[hsy] at hs;rw[Aj,Ll,Hq.out hs.2,hs.1]
   | ok l =>
    rw[hsy] at hs;have hv:=Ma.out hs.2;rw[zM,<-hs.1]
    cases hw:AP false C.s x.elem r2 k with
    | error e=>rw[hw] at hv;rw[Aj,Ll,hv]
    | ok q=>rw[hw] at hv;exact absurd hv.2.2.2 hz
  clear hz;go_wp2;refine bodyPost_end (results_none Tryz.results130 _ _ _) rfl ⟨rfl,Bw Dn (by have:=Gm.out;have:=IY.out.1;have:=Dm.out;omega) QB HP5⟩
 subst hz;obtain ⟨HP5,HLV⟩:Hid (Fg (AP false C.s) x r k=(BG ⟨#[41]⟩ r5).bind fun l4 => .ok ([xa.v],l4,k5))/\Hid (r5.length<=r.length):=by
  have hs:=Bl HE2;refine ⟨?_,by have:=Gm.out;have:=IY.out.1;have:=Dm.out;show _<=_;omega⟩
  show _=_
  rw[HP.out]
  cases hsy:BG ⟨#[40]⟩ r1 with
  | error e =>
   rw[hsy] at hs;exact absurd (Hq.out hs.2) (fun g=>hs.2 g.symm)
  | ok l =>
   rw[hsy] at hs;have hv:=Ma.out hs.2;rw[zM,<-hs.1]
   cases hw:AP false C.s x.elem r2 k with
   | error e =>
    rw[hw] at hv;exact absurd (hv▸hw) (Cm false _ _ _ _)
   | ok q =>
    obtain ⟨v,r1',k1'⟩:=q;rw[hw] at hv;obtain ⟨rfl,rfl,rfl,_⟩:=hv
    rfl
 go_wp2_with fail
 refine (BV ⟨#[41]⟩ Dn.out.rd).mono ?_
 intro y w7 h7
 obtain rfl:=h7.1;obtain ⟨FK,r7,e7,hr7,hs7⟩:=Eh h7;have Gj:=zh (Dn.out.BF FK hr7);have Vd:=zh hs7;clear h7 FK hr7 hs7;go_wp2;refine bodyPost_end (results_none Tryz.results130 _ _ _) rfl ⟨rfl,?_⟩;have hs:=Bl Vd;have hl7:r7.length<=r.length:=by have:=Vd.out.1;have:=HLV.out;omega
 have hp:=HP5.out
 cases hsy:BG ⟨#[41]⟩ r5 with
 | error e2=>rw[hsy] at hs hp;exact Bw Gj hl7 QB (by rw[hp,Aj,Ll,hs.1])
 | ok l =>
  rw[hsy] at hs hp;obtain ⟨rfl,rfl⟩:=hs;exact F4 Gj hl7 QB rfl (by rw[hp,zM,Xz];rfl)
theorem Vs (n:Int) (t:AZ) (As:zo) (cs:Nat) (Am:zo) (cm:Nat) (w:World) (ht:Ic w t As Am) :
  Calls Tryz.prog 68 #[t.v As cs Am cm,.int .i64 n] w fun e w'=>∃r:Int,e = .returned (.tuple #[.int .i64 r,.bool (t.Ab.any fun y=>decide (y.id=n))])/\Below w.heap.size w w' :=
 (QU n t As cs Am cm w ht).mono fun e w' ⟨h1,h2⟩=>⟨_,h1.trans (by rw[IE]),h2⟩
theorem Js {α:Type} {p:α->Bool}:∀ (l:List α) (i:Nat) (hi:i<l.length),p l[i]=true->(∀j (h:j<l.length),j<i->p l[j]=false)->l.find? p=some l[i]
 | [],i,hi,_,_=>absurd hi (Nat.not_lt_zero _)
 | a::l,0,_,h,_=>by
  have h':p a=true:=h;rw[List.find?_cons_of_pos h'];rfl
 | a::l,i+1,hi,h,hn=>by
  rw[List.find?_cons_of_neg (by have:=hn 0 (by simp) (by omega);simp at this;simp[this])]
  exact Js l i (by simpa using hi) h fun j hj hl=>hn (j+1) (by simpa using hj) (by omega)
theorem Lx {α:Type} {p:α->Bool} {l:List α} (h:∀j (hj:j<l.length),p l[j]=false):l.find? p=none:=by
 rw[List.find?_eq_none]
 intro x hx
 obtain ⟨j,hj,rfl⟩:=AAs hx;rw[h j hj];simp
def EmP (C:CZ) (W:World) (r:List AB) (P:PR Int) (y:Ending) (W':World):Prop:=∃d:Int,y = .returned (.int .i64 d)/\Ah C.b W W'/\∃r' k' e',CF C W' r' k' e'/\r'.length<=r.length/\match P with
 | .ok (v,r1,k1)=>d=v/\r'=r1/\k'=k1/\e'=0
 | .error e1=>e'=e1
theorem fG (h:CF C W r k 0) (ht:Ic C.w0 x As Am):
  Calls Tryz.prog 123 #[.pointer (some ⟨C.b,0,none⟩),x.v As cs Am cm] W (EmP C W r (CY false x r k)):=by
 have HW1:=zh (h.BF (zD W (x.box As cs Am cm)));have HR1:=zh (h.below (zD W (x.box As cs Am cm)));have EM:=zh (AAA W (x.box As cs Am cm));have Dm:=zh h.lt;have HXB:Hid (W.heap.size≠C.b):=by have:=h.lt;show _≠_;omega
 have OP:=zh ht;have LF:Hid (CY false x r k=if Ba ⟨#[64]⟩ r=true then (Bg 2 r.tail).bind fun p=>(if JB x p.1.int=true then .ok (p.1.int,p.2,true) else .ok (p.1.int,p.2,k))
  else (Bg 1 r).bind fun p =>
   match x.Ab.find? fun y=>decide (y.name=p.1.text) with
   | some y => .ok (y.id,p.2,k)
   | none => .error 4):=by
  show _=_
  unfold CY
  split
  ·congr 1
  ·rfl
 clear h ht
 go_enter Tryz.func123,Tryz.ntmps123
 go_upto_region 1 with fail
 generalize W.alloc (x.box As cs Am cm)=W1 at *
 cases hi:Ba ⟨#[64]⟩ r with
 | true =>
  have HI:=zh hi;rw[AAC hi] at LF;obtain ⟨t,q,rfl,_,_⟩:=BN hi;clear hi;go_wp2_with fail;refine (zX ⟨#[64]⟩ HR1).mono ?_;rintro y w2 ⟨rfl,hb2⟩;rw[HI.out];have HR2:=zh (HR1.out.below hb2);have HW2:=zh (HW1.out.below hb2 Dm);have F6:=zh (CW EM hb2);obtain ⟨i,hi,c2,f2,hi2,HN⟩:=HR2.out.Pb;clear hb2;go_wp2_with fail;have HR3:=zh (HN.out.1 _ _ _ HR2)
  have HW3:=zh (HW2.out.set 2 (.int .i64 ((i:Int)+1)));have JQ:=zh ((AAO w2 ⟨C.b,2,none⟩ _ (.int .i64 ((i:Int)+1)) HXB).trans F6);refine (Bo 2 HR3).mono ?_
  intro y w4 h4
  obtain ⟨t0,r1,e1,rfl,g1,g2,g3⟩:=Fa h4;have HR4:=zh g2;have sV:=zh (HW3.out.trans g1);have RD:=zh (Ai JQ g1 HXB);have KU:=zh g3;have sP:=FM;obtain ⟨b0,b1,b2,b3,b4,b5,b6,b7,b8,b9⟩:=zG (show Bf w4 W.heap.size x As cs Am cm from RD.out);clear h4 g1 g2 g3;go_wp2_with fail;refine (Vs t0.int x As cs Am cm _ (OP.out.below HR4.out.up)).mono ?_
  rintro y w5 ⟨ix,rfl,hb5⟩;have PV:=zh (HR4.out.below hb5);have YT:=zh (sV.out.below hb5 Dm);have c3:=PV.out.cells.1.2.2.2.1;have f3:=PV.out.cells.2 3;have vv:Hid (JB x t0.int=x.Ab.any fun y=>decide (y.id=t0.int)):=rfl
  clear hb5 b0 b1 b2 b3 b4 b5 b6 b7 b8 b9;generalize (x.Ab.any fun y=>decide (y.id=t0.int))=kn at *
  have Gp:Hid (∀W6 k6,CF C W6 r1 k6 e1->Ah C.b W W6->(k6=(k||kn))->EmP C W (t::q) (CY false x (t::q) k) (.returned (.int .i64 t0.int)) W6):=fun W6 k6 h1 h2 h3=>by
   refine ⟨_,rfl,h2,r1,k6,e1,h1,by have:=KU.out.1.1;simp;omega,?_⟩
   have ht:=KU.out.tk;rw[LF.out,List.tail_cons]
   cases hk:Bg 2 q with
   | error e=>rw[hk] at ht;exact ht.1
   | ok p =>
    rw[hk] at ht;rw[zM,<-ht.1,<-ht.2.1,vv.out]
    cases kn with
    | true=>rw[AAC rfl];exact ⟨rfl,rfl,by rw[h3];simp,ht.2.2.1⟩
    | false=>rw[Pe (by simp)];exact ⟨rfl,rfl,by rw[h3];simp,ht.2.2.1⟩
  cases k with
  | true =>
   go_wp2
   go_ret
   exact Gp.out _ true (PV.out.tV true) (YT.out.set 3 _) rfl
  | false =>
   go_wp2
   go_ret
   exact Gp.out _ kn (PV.out.tV kn) (YT.out.set 3 _) rfl
 | false =>
  have HI:=zh hi;rw[Pe (by rw[hi];simp)] at LF
  clear hi;go_wp2_with fail;refine (zX ⟨#[64]⟩ HR1).mono ?_;rintro y w2 ⟨rfl,hb2⟩;rw[HI.out];have HR2:=zh (HR1.out.below hb2);have HW2:=zh (HW1.out.below hb2 Dm);have F6:=zh (CW EM hb2);clear hb2;go_upto_region 7 with fail
  go_cut [8] (fun s wx=>∃tb t0 r1 e1,s = .pointer (some ⟨tb,0,none⟩)/\Hid (Ah C.b W wx/\CF C wx r1 k e1/\wx.heap[W.heap.size]? = some (x.box As cs Am cm)/\wx.heap[tb]? = some (bG t0)/\Q6 1 r t0 r1 e1))
  case first =>
   go_wp2_with (go_at_call 122;refine (Bo 1 HR2).mono ?_;intro y w3 h3;obtain ⟨t0,r1,e1,rfl,g1,g2,g3⟩:=Fa h3;have HW3:=zh (HW2.out.trans g1);have HR3:=zh g2;have JQ:=zh (Ai F6 g1 HXB);have EJ:=zh g3;clear h3 g1 g2 g3)
   go_meet
   exact ⟨_,t0,r1,e1,rfl,HW3.out.below (zD _ _) Dm,HR3.out.below (zD _ _),CW JQ (zD _ _),AAA _ _,EJ.out⟩
  case rest =>
  obtain ⟨W3,rfl⟩:∃W:World,W=wc:=⟨_,rfl⟩;obtain ⟨tb,t0,r1,e1,rfl,h3⟩:=hcut;have HW3:=zh h3.out.1;have HR3:=zh h3.out.2.1;have JQ:=zh h3.out.2.2.1;have HB3:=zh h3.out.2.2.2.1;have EJ:=zh h3.out.2.2.2.2;clear h3;have rz:=HR3.out.zero
  by_cases hz:e1=0
  case neg =>
   have q1:(e1 != 0)=true:=by simp[hz]
   have HP:Hid (CY false x r k = .error e1):=by
    show _=_
    have ht:=EJ.out.tk;rw[LF.out]
    cases hk:Bg 1 r with
    | error e2=>rw[hk] at ht;rw[ht.1];rfl
    | ok q=>rw[hk] at ht;exact absurd ht.2.2.1 hz
   clear hz;go_wp2;go_ret;exact ⟨_,rfl,HW3.out,r1,k,e1,HR3.out,EJ.out.1.1,by rw[HP.out]⟩
  subst hz;have HP:Hid (CY false x r k=match x.Ab.find? fun y=>decide (y.name=t0.text) with
   | some y => .ok (y.id,r1,k)
   | none => .error 4):=by
   show _=_
   have ht:=EJ.out.tk;rw[LF.out]
   cases hk:Bg 1 r with
   | error e2=>rw[hk] at ht;exact absurd rfl ht.2
   | ok q =>
    rw[hk] at ht;rw[zM,<-ht.1,<-ht.2.1]
  have mJ:=zh EJ.out.1.1;have x5:W3.cell? ⟨W.heap.size,5,none⟩=some (.slice As x.Ab.length cs):=by rw[AAB _ _ _ _ _ _ JQ.out];rfl
  have hln:=OP.out.Ab.1;unfold D9 at hln;have kW:(x.Ab.length:Int)<=1000000000000000:=by omega
  clear EJ LF hln;go_wp2
  go_loopw [50] (fun a wr=>∃i:Nat,i<=x.Ab.length/\a = .int .i64 (i:Int)/\Hid (Below W3.heap.size W3 wr/\∀j (hj:j<x.Ab.length),j<i->decide ((x.Ab[j]).name=t0.text)=false)) (fun a _=>x.Ab.length - (intOf a).toNat)
  case atStart=>exact ⟨0,by omega,rfl,Pd _ _,fun j _ h=>absurd h (by omega)⟩
  case round =>
   obtain ⟨i,hi,rfl,hh⟩:=hrel;have HB:=zh hh.out.1;have Ho:=zh hh.out.2;clear hh
   by_cases hlt:i<x.Ab.length
   ·obtain ⟨sb,so,rfl,hr1,a0,a1⟩:=(OP.out.Ab.below (HR3.out.below HB).up).at2 hlt
    obtain ⟨⟨_,n1,_,_,_⟩,_⟩:=Ao (CW HB3 HB);have h1:(0:Int)<=(i:Int):=by omega
    have h2:(i:Int)<(x.Ab.length:Int):=by omega
    clear hr1
    by_cases hnm:(x.Ab[i]).name=t0.text
    ·have q2:((x.Ab[i]).name.toList==t0.text.toList)=true:=by rw[bytes_beq];exact AAM hnm
     have JO:Hid (CY false x r k = .ok ((x.Ab[i]).id,r1,k)):=by
      show _=_
      rw[HP.out,Js (p:=fun y=>decide (y.name=t0.text)) x.Ab i hlt (AAM hnm) Ho.out]
     clear hnm;have htb:=zL n1;simp only at htb;go_wp2;go_ret;exact ⟨_,rfl,(HW3.out.below HB Dm).below (zD _ _) Dm,r1,k,0,(HR3.out.below HB).below (zD _ _),mJ.out,by rw[JO.out];exact ⟨rfl,rfl,rfl,rfl⟩⟩
    ·have q2:((x.Ab[i]).name.toList==t0.text.toList)=false:=by rw[bytes_beq];exact AAE hnm
     have OU:Hid (∀j (hj:j<x.Ab.length),j<i+1->decide ((x.Ab[j]).name=t0.text)=false):=fun j hj hji=>by
      by_cases e:j=i
      ·subst e;exact AAE hnm
      ·exact Ho.out j hj (by omega)
     clear hnm;have htb:=zL n1;simp only at htb;go_wp2;go_roundw
     case rel=>exact ⟨i+1,by omega,by go_num,zB HB (zD _ _),OU.out⟩
     case measure=>simp[intOf];omega
   ·have JO:Hid (CY false x r k = .error 4):=by
     show _=_
     rw[HP.out,Lx (p:=fun y=>decide (y.name=t0.text)) fun j hj=>Ho.out j hj (by omega)]
    have h2:¬ (i:Int)<(x.Ab.length:Int):=by omega
    go_wp2_with fail
    refine (Bc 4 (HR3.out.below HB)).mono ?_;rintro y w6 ⟨rfl,g1,g2⟩;have mE:=zh g1;have DL:=zh ((HW3.out.below HB Dm).trans g2);clear g1 g2;go_wp2;go_ret;exact ⟨_,rfl,DL.out,r1,k,_,mE.out,mJ.out,by rw[JO.out];rfl⟩
def Hu (kd:Int) (P:PR (Int×List Val×List Ac)):PR Val:=P.bind fun p => .ok (.mk kd false 0 ⟨#[]⟩ p.1.1 [] p.1.2.1 p.1.2.2,p.2)
theorem TU (kd e:Int):Hu kd (.error e) = .error e:=rfl
theorem Xg (kd d:Int) (a:List Val) (b:List Ac) (l:List AB) (k:Bool):Hu kd (.ok ((d,a,b),l,k)) = .ok (.mk kd false 0 ⟨#[]⟩ d [] a b,l,k):=rfl
section
variable {C:CZ} {W0 W W':World} {p:Nat} {kd:Int} {r r':List AB} {k k':Bool} {e e' di:Int} {vk vi vr:Value} {K I:List BX} {R:List Ac}
theorem Hr.Rb (h:Hr C W0 p kd W r k e di vk vi vr K I R) (d:Int):Hr C W0 p kd (W.setCell ⟨p,4,none⟩ (.int .i64 d)) r k e d vk vi vr K I R :=
 ⟨h.rd.Ef (by have:=h.bp;omega) (by have:=h.bp;have:=h.rd.ok.ge;omega) 4 _,h.vb.Tk (j:=4) rfl h.vb.str,⟨h.fr.Ch.setCell (p:=⟨p,4,none⟩) (AAT h.bp) _,fun q hq hl=>(AAO _ _ _ _ (by have:=h.lo;simp only;omega)).trans (h.fr.Ef q hq hl)⟩,h.lo,h.lb⟩
theorem Hr.pG (h:Hr C W0 p kd W r k e di AJ AJ AJ [] [] []) {x:Ac} (hx:Dc x.data) :
  Hr C W0 p kd ((W.alloc (Tn x)).setCell ⟨p,7,none⟩ (.slice (some ⟨W.heap.size,0,none⟩) 1 1)) r k e di AJ AJ (.slice (some ⟨W.heap.size,0,none⟩) 1 1) [] [] [x]:=by
 have ho:(W.alloc (Tn x)).ownsRow (p+1) 97 2 (.slice (some ⟨W.heap.size,0,none⟩) 1 1) 1 ([]++encR x) :=
  World.ownsRow_lit (base:=p+1) (e:=97) (size:=2) W (encR x).toArray 1 h.vb.lt (by unfold maxLen;omega) rfl
 obtain ⟨g1,g2,g3⟩:=h.vb.UA (x:=x) (v8 := .slice (some ⟨W.heap.size,0,none⟩) 1 1) (w8:=W.alloc (Tn x)) hx (Pd _ _) ho (World.grownBy_alloc W _ none) (.inr rfl);exact ⟨⟨h.rd.ok,(g2.block _ h.bp).trans h.rd.blk,h.rd.LH,h.rd.up.trans (g2.mono (by have:=h.bp;have:=h.rd.ok.ge;omega))⟩,g1,h.fr.up g2 h.lo (AAT h.bp),h.lo,h.lb⟩
end
theorem aZ {q:List AB} {t0:AB} {r1:List AB} {e1:Int} (h1:Q6 2 q t0 r1 e1) {r2:List AB} {e2:Int} (h2:Jy ⟨#[40]⟩ r1 e1 r2 e2) {t1:AB} {r3:List AB} {e3:Int} (h3:(e2≠0/\r3=r2/\e3=e2)\/(e2=0/\Q6 3 r2 t1 r3 e3)) {r4:List AB} {e4:Int} (h4:Jy ⟨#[41]⟩ r3 e3 r4 e4):
  match ((Bg 2 q).bind fun p=>(BG ⟨#[40]⟩ p.2).bind fun l2=>(Bg 3 l2).bind fun q=>(BG ⟨#[41]⟩ q.2).bind fun l4 => .ok ((GH false p.1.int,[],[⟨GH false p.1.int,q.1.str⟩]),l4,k):PR (Int×List Val×List Ac)) with
  | .ok (v,r',k')=>v=(t0.int,[],[⟨t0.int,t1.str⟩])/\r4=r'/\k'=k/\e4=0/\e2=0
  | .error e=>e4=e:=by
 have ht:=h1.tk
 cases hk:Bg 2 q with
 | error e =>
  rw[hk] at ht;obtain ⟨g1,g2⟩:=ht;rw[Aj]
  rcases h2.2 with ⟨_,_,j⟩|⟨j,_⟩
  ·rcases h3 with ⟨_,_,i⟩|⟨i,_⟩
   ·rcases h4.2 with ⟨_,_,l⟩|⟨l,_⟩
    ·show e4=e;omega
    ·omega
   ·omega
  ·exact absurd j g2
 | ok p =>
  obtain ⟨u,l⟩:=p;rw[hk] at ht;obtain ⟨rfl,rfl,rfl,_⟩:=ht;rw[zM];have hs:=Bl h2;simp only
  cases hsy:BG ⟨#[40]⟩ r1 with
  | error e =>
   rw[hsy] at hs;rw[Aj]
   rcases h3 with ⟨_,_,i⟩|⟨i,_⟩
   ·rcases h4.2 with ⟨_,_,l⟩|⟨l,_⟩
    ·show e4=e;have:=hs.1;omega
    ·exact absurd l (by have:=hs.2;omega)
   ·exact absurd i hs.2
  | ok l2 =>
   rw[hsy] at hs;obtain ⟨rfl,rfl⟩:=hs;rw[zM]
   rcases h3 with ⟨i,_⟩|⟨_,h3⟩
   ·exact absurd rfl i
   have hu:=h3.tk
   cases hk3:Bg 3 r2 with
   | error e =>
    rw[hk3] at hu;rw[Aj]
    rcases h4.2 with ⟨_,_,l⟩|⟨l,_⟩
    ·show e4=e;have:=hu.1;omega
    ·exact absurd l hu.2
   | ok z =>
    obtain ⟨v,q2⟩:=z;rw[hk3] at hu;obtain ⟨rfl,rfl,rfl,_⟩:=hu;rw[zM];have hs4:=Bl h4;simp only
    cases eO:BG ⟨#[41]⟩ r3 with
    | error e=>rw[eO] at hs4;rw[Aj];exact hs4.1
    | ok l4 =>
     rw[eO] at hs4;rw[zM];exact ⟨rfl,hs4.1,rfl,hs4.2,trivial⟩
theorem ic {f:Int->List AB->Bool->PR Val} (hnz:∀t l k,f t l k ≠ .error 0) {id ty:Int} {r1:List AB} {r2:List AB} {e2:Int} (h2:Jy ⟨#[40]⟩ r1 0 r2 e2) {x:Val} {r5:List AB} {k5:Bool} {e5:Int} (hn:e2≠0->e5=e2) (hv:e2=0->match f ty r2 k with
   | .ok (v,r',k')=>x=v/\r5=r'/\k5=k'/\e5=0
   | .error e=>e5=e) {r7:List AB} {e7:Int} (h7:Jy ⟨#[41]⟩ r5 e5 r7 e7):
  match ((BG ⟨#[40]⟩ r1).bind fun l2=>(f ty l2 k).bind fun q=>(BG ⟨#[41]⟩ q.2.1).bind fun l4 => .ok ((id,[q.1],[]),l4,q.2.2):PR (Int×List Val×List Ac)) with
  | .ok (v,r',k')=>v=(id,[x],[])/\r7=r'/\k5=k'/\e7=0
  | .error e=>e7=e:=by
 have hs:=Bl h2
 cases hsy:BG ⟨#[40]⟩ r1 with
 | error e =>
  rw[hsy] at hs;rw[Aj];have:=hn hs.2
  rcases h7.2 with ⟨_,_,l⟩|⟨l,_⟩
  ·show e7=e;have:=hs.1;omega
  ·exact absurd l (by have:=hs.2;omega)
 | ok l2 =>
  rw[hsy] at hs;obtain ⟨rfl,rfl⟩:=hs;rw[zM];have hv:=hv rfl
  cases hw:f ty r2 k with
  | error e =>
   rw[hw] at hv;simp only at hv;rw[Aj];have hz:e5≠0:=fun g=>hnz _ _ _ (g▸hv▸hw)
   rcases h7.2 with ⟨_,_,l⟩|⟨l,_⟩
   ·show e7=e;omega
   ·exact absurd l hz
  | ok q =>
   obtain ⟨v,r',k'⟩:=q;rw[hw] at hv;obtain ⟨rfl,rfl,rfl,rfl⟩:=hv;rw[zM];have hs7:=Bl h7;simp only
   cases eH:BG ⟨#[41]⟩ r5 with
   | error e=>rw[eH] at hs7;rw[Aj];exact hs7.1
   | ok l4 =>
    rw[eH] at hs7;rw[zM];exact ⟨rfl,hs7.1,rfl,hs7.2⟩
theorem aY (h:Hr C W0 p x.kind W r k 0 0 AJ AJ AJ [] [] []) (hat:Ba ⟨#[64]⟩ r=true):
  Calls Tryz.prog 125 #[.pointer (some ⟨C.b,0,none⟩),x.v As cs Am cm,.pointer (some ⟨p,0,none⟩)] W fun y W'=>y = .returned (.tuple #[])/\Gl C W0 p x.kind r (Hu x.kind (Co false (AP false C.s) x r k)) W':=by
 have Ki:=zh (h.below (zD W (x.box As cs Am cm)));have JI:=zh h.bp;obtain ⟨HP,HI⟩:Hid (Co false (AP false C.s) x r k=(Bg 2 r.tail).bind fun p=>(BG ⟨#[40]⟩ p.2).bind fun l2=>(Bg 3 l2).bind fun q=>(BG ⟨#[41]⟩ q.2).bind fun l4 => .ok ((GH false p.1.int,[],[⟨GH false p.1.int,q.1.str⟩]),l4,k))/\Hid (Ba ⟨#[64]⟩ r=true):=by
  refine ⟨?_,hat⟩
  show _=_
  unfold Co;rw[AAC hat]
 obtain ⟨t,q,rfl,_,_⟩:=BN hat;clear h hat
 go_enter Tryz.func125,Tryz.ntmps125
 go_upto_region 1 with fail
 generalize W.alloc (x.box As cs Am cm)=W1 at *;go_wp2_with fail;refine (zX ⟨#[64]⟩ Ki.out.rd).mono ?_;rintro y w2 ⟨rfl,hb2⟩;rw[HI.out];have Ht:=zh (Ki.out.below hb2);obtain ⟨i,hi,c2,f2,hi2,HN⟩:=Ht.out.rd.Pb;clear hb2;go_wp2_with fail;have GJ:=zh (Ht.out.BF ((Ah.refl _ _).set 2 (.int .i64 ((i:Int)+1))) (HN.out.1 _ _ _ Ht.out.rd));refine (Bo 2 GJ.out.rd).mono ?_
 intro y w4 h4
 obtain ⟨t0,r1,e1,rfl,g1,g2,g3⟩:=Fa h4;have GI:=zh (GJ.out.BF g1 g2);have KU:=zh g3;have sP:=FM;obtain ⟨⟨_,_,_,_,c4,_,_,_⟩,cf⟩:=GI.out.vb.cells;have f4:=cf 4;clear h4 g1 g2 g3 cf;go_upto_region 4 with fail
 have Gn:=zh (GI.out.Rb t0.int);generalize w4.setCell ⟨p,4,none⟩ (.int .i64 t0.int)=W5 at *;clear c4 f4 c2 f2;have rz:=Gn.out.rd.zero
 go_upto_if 28 with fail
 go_cut [] (fun wx=>∃r2 e2,Hid (Hr C W0 p x.kind wx r2 k e2 t0.int AJ AJ AJ [] [] []/\Jy ⟨#[40]⟩ r1 e1 r2 e2))
 case first =>
  by_cases he:e1=0
  ·have q1:(e1==0)=true:=by simp[he]
   have DN:Hid (Hr C W0 p x.kind W5 r1 k 0 t0.int AJ AJ AJ [] [] []):=by have:=Gn.out;rw[he] at this;exact this
   have HE:=zh he;clear he rz;go_wp2_with (go_at_call 126;refine (BV ⟨#[40]⟩ DN.out.rd).mono ?_;intro y w3 h3;obtain rfl:=h3.1;have Ie:=zh (Eh h3);clear h3);go_meet;obtain ⟨hb,r',e',g1,g2⟩:=Ie.out;exact ⟨r',e',DN.out.BF hb g1,by rw[HE.out];exact g2⟩
  ·have q1:(e1==0)=false:=by simp[he]
   have HE:=zh he;clear he rz;go_wp2;go_meet;exact ⟨r1,e1,Gn.out,Mk HE⟩
 case rest =>
 obtain ⟨W6,rfl⟩:∃W:World,W=wc:=⟨_,rfl⟩;obtain ⟨r2,e2,h6⟩:=hcut;have Dn:=zh h6.out.1;have XO:=zh h6.out.2;clear h6 Gn rz GI GJ Ht;have rz:=Dn.out.rd.zero
 go_upto_if 35 with fail
 go_cut [] (fun wx=>∃t1 r3 e3 vr R,Hid (Hr C W0 p x.kind wx r3 k e3 t0.int AJ AJ vr [] [] R/\R.length<=1/\r3.length<=r2.length/\((e2≠0/\r3=r2/\e3=e2)\/(e2=0/\Q6 3 r2 t1 r3 e3))/\(e2=0->R=[⟨t0.int,t1.str⟩])))
 case first =>
  by_cases he:e2=0
  ·have q1:(e2==0)=true:=by simp[he]
   have DN:Hid (Hr C W0 p x.kind W6 r2 k 0 t0.int AJ AJ AJ [] [] []):=by have:=Dn.out;rw[he] at this;exact this
   have HE:=zh he;have Fq:Hid (C.b<W6.heap.size):=DN.out.rd.lt;clear he rz;have Fp:=zh (fun (w':World) (hb:Ah C.b W6 w')=>(DN.out.vb.BF hb JI).cells.1.2.2.2.2.1)
   have sO:=FL;go_upto_region 7 with fail
   refine yE (S:=(fun w'=>w'.cell? ⟨p,4,none⟩=some (.int .i64 t0.int)/\Hid (Ah C.b W6 w'))) 12 (by kernel_rfl) ?_ (fun AU=>?_)
   ·(try dsimp only);(have hk:=Ah.of (zC (Pd _ _) 1) (AAT Fq);exact ⟨Fp.out _ hk,hk⟩)
   refine tC 0 ?_;refine tC 1 ?_;refine tC 2 ?_;refine tC 3 ?_;refine tB 4 ?_;refine tC 5 ?_;try simp only[ps]
   refine tS 6 (fun K hK=>?_)
   go_simp
   (refine (Bo 3 (DN.out.below (zC (Pd _ _) 1)).rd).mono ?_;intro y w7 h7;obtain ⟨t1,r3,e3,rfl,g1,g2,g3⟩:=Fa h7;have CJ:=zh ((Ah.of (zC (Pd W6.heap.size W6) 1) (AAT Fq)).trans g1);have Gj:=zh (DN.out.BF CJ g2);have gX:=zh g3;clear h7 g1 g2 g3)
   refine hK.out _ _ ?_ (fun AU=>?_)
   ·(try dsimp only);exact ⟨Fp.out _ CJ,CJ.out⟩
   clear hK K;refine tC 7 ?_;refine tC 8 ?_;refine tS 9 (fun K hK=>?_)
   go_simp
   refine hK.out _ _ ?_ (fun AU=>?_)
   ·(try dsimp only);exact ⟨Fp.out _ (CJ.out.below (zD _ _) Fq),CJ.out.below (zD w7 (Tn ⟨t0.int,t1.str⟩)) Fq⟩
   clear hK K;refine tC 10 ?_;refine tC 11 ?_;try simp only[ps]
   refine zV (rs:=[12]) (by kernel_rfl) (by simp) ?_
   refine AO.last rfl (by kernel_rfl) (fun K hK=>?_) AO.nil
   (have EL:=zh (Gj.out.below (zD w7 (Tn ⟨t0.int,t1.str⟩)));have c7:=EL.out.vb.cells.1.2.2.2.2.2.2.2;have f7:=EL.out.vb.cells.2 7;go_simp)
   refine hK.out _ _ ?_;clear hK K
   (try clear AU)
   refine wpAny_done (by kernel_rfl) ?_ _
   (have qw:=zh (Gj.out.pG (x:=⟨t0.int,t1.str⟩) gX.out.1.2.2);go_wp2;go_meet;exact ⟨t1,r3,e3,_,_,qw.out,by simp,gX.out.1.1,.inr ⟨HE.out,gX.out⟩,fun _=>rfl⟩)
  ·have q1:(e2==0)=false:=by simp[he]
   have HE:=zh he;clear he rz;go_wp2;go_meet;exact ⟨Dp,r2,e2,_,_,Dn.out,by simp,AAQ _,.inl ⟨HE.out,rfl,rfl⟩,fun g=>absurd g HE⟩
 case rest =>
 obtain ⟨W7,rfl⟩:∃W:World,W=wc:=⟨_,rfl⟩;obtain ⟨t1,r3,e3,vr,R,h7⟩:=hcut;have Gj:=zh h7.out.1;have EK:Hid (∀W' r4 e4,Hr C W0 p x.kind W' r4 k e4 t0.int AJ AJ vr [] [] R->Jy ⟨#[41]⟩ r3 e3 r4 e4->Gl C W0 p x.kind (t::q) (Hu x.kind (Co false (AP false C.s) x (t::q) k)) W'):=fun W' r4 e4 g1 g2=>by
  obtain ⟨_,h1,h2,h3,h4⟩:=h7.out;have hu:=aZ (k:=k) KU XO h3 g2;have hl:r4.length<=(t::q).length:=by have:=g2.1;have:=XO.out.1;have:=KU.out.1.1;simp;omega
  have hp:=HP.out;rw[List.tail_cons] at hp;rw[hp]
  revert hu
  cases ((Bg 2 q).bind fun p=>(BG ⟨#[40]⟩ p.2).bind fun l2=>(Bg 3 l2).bind fun q=>(BG ⟨#[41]⟩ q.2).bind fun l4 => .ok ((GH false p.1.int,[],[⟨GH false p.1.int,q.1.str⟩]),l4,k):PR (Int×List Val×List Ac)) with
  | error e=>exact fun hu=>Bw g1 hl ⟨by simp,by simp,by omega⟩ (by rw[TU];exact congrArg _ hu.symm)
  | ok z =>
   obtain ⟨⟨a,b,c⟩,l,k'⟩:=z
   intro hu
   obtain ⟨j1,j2,j3,j4,j5⟩:=hu
   injection j1 with j1 j6
   injection j6 with j6 j7
   subst j1 j2 j3 j4 j6 j7;rw[Xg];exact F4 g1 hl ⟨by simp,by simp,by omega⟩ (by rw[h4 j5];rfl) rfl
 clear h7 Dn rz KU XO;have rz:=Gj.out.rd.zero
 by_cases he:e3=0
 ·have q1:(e3==0)=true:=by simp[he]
  subst he;clear rz;have rz:=Gj.out.rd.zero;go_wp2_with fail;refine (BV ⟨#[41]⟩ Gj.out.rd).mono ?_
  intro y w8 h8
  obtain rfl:=h8.1;obtain ⟨IG,r4,e4,uP,nA⟩:=Eh h8;have EL:=zh (Gj.out.BF IG uP);have ql:=zh nA;clear h8 IG uP nA;go_wp2;refine bodyPost_ret (results_none Tryz.results125 _ _ _) rfl ⟨rfl,EK.out _ _ _ EL ql⟩
 ·have q1:(e3==0)=false:=by simp[he]
  have HE:=zh he;clear he;go_wp2;refine bodyPost_ret (results_none Tryz.results125 _ _ _) rfl ⟨rfl,EK.out _ _ _ Gj (Mk HE)⟩
end Go.Proofs.YthkkllmmbefedaaGreatDoor



