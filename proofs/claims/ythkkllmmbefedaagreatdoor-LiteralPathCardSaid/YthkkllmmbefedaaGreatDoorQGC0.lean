/-
  Walks: the literal's reader: union.
-/
import Derived.Test.YthkkllmmbefedaaGreatDoorQGR0
import Derived.Test.YthkkllmmbefedaaGreatDoorQGA8
namespace Go.Proofs.YthkkllmmbefedaaGreatDoor
open Go.RowKit
set_option maxHeartbeats 16000000
set_option maxRecDepth 100000
structure MQ (C:FK) (W0:World) (p:Nat) (kd:Int) (W:World) (r:List AQ) (k:Bool) (e di:Int) (vk vi vr:Value) (K I:List Au) (R:List Ak):Prop where
 rd:CX C W r k e
 vb:Gx p W kd false 0 ⟨#[]⟩ di vk vi vr K I R
 fr:Ay C.b W0 W
 lo:W0.heap.size<=p
 lb:C.b<W0.heap.size
abbrev AR:Value := .slice none 0 0
def Oa (C:FK) (W0:World) (p:Nat) (kd:Int) (r:List AQ) (P:PR Val) (W':World):Prop:=∃di vk vi vr K I R r' k' e',MQ C W0 p kd W' r' k' e' di vk vi vr K I R/\r'.length<=r.length/\(K.length<=2000000/\I.length<=2000000/\R.length<=2000000) /\
 match P with
 | .ok (v,r1,k1)=>v = .mk kd false 0 ⟨#[]⟩ di (K.map (·.v)) (I.map (·.v)) R/\r'=r1/\k'=k1/\e'=0
 | .error e1=>e'=e1
section
variable {C:FK} {W0 W W':World} {p:Nat} {kd:Int} {r r':List AQ} {k k':Bool} {e e' di:Int} {vk vi vr:Value} {K I:List Au} {R:List Ak} {V:Vx}
theorem Df.fl (h:Df C V W r k e di vk vi vr K I R):MQ C V.W0 V.p V.x.kind W r k e di vk vi vr K I R:=⟨h.rd,h.vb,h.fr,h.lo,h.lb⟩
theorem MQ.bp (h:MQ C W0 p kd W r k e di vk vi vr K I R):C.b<p:=AAq h.lb h.lo
theorem MQ.Cn (h:MQ C W0 p kd W r k e di vk vi vr K I R) (hb:Ay C.b W W') (hr:CX C W' r' k' e'):MQ C W0 p kd W' r' k' e' di vk vi vr K I R:=⟨hr,h.vb.Cn hb h.bp,h.fr.trans hb,h.lo,h.lb⟩
theorem MQ.below (h:MQ C W0 p kd W r k e di vk vi vr K I R) (hb:Below W.heap.size W W'):MQ C W0 p kd W' r k e di vk vi vr K I R:=h.Cn (h.rd.Cn hb) (h.rd.below hb)
abbrev Qr (C:FK):Obj := .cells #[.pointer (some ⟨C.b,0,none⟩)] 103
abbrev wX (p:Nat):Obj := .cells #[.pointer (some ⟨p,0,none⟩)] 172
theorem MQ.three {x:Ae} (h:MQ C W0 p x.kind W r k e di vk vi vr K I R) {As:zo} {cs:Nat} {Am:zo} {cm:Nat} (ht:KM C.w0 x As Am) :
  Df C ⟨W0,x,As,cs,Am,cm,p,W.heap.size,W.heap.size+1,W.heap.size+2⟩ (((W.alloc (Qr C)).alloc (x.box As cs Am cm)).alloc (wX p)) r k e di vk vi vr K I R:=by
 have hb1:=zI W (Qr C) (x.box As cs Am cm);have hb2:=zD ((W.alloc (Qr C)).alloc (x.box As cs Am cm)) (wX p);have hb:=zB hb1 hb2;have hf:=h.below hb;refine ⟨hf.rd,hf.vb,hf.fr,h.lo,h.lb,ht,?_,?_,.inr ?_⟩
 ·exact BR (BR (AAC W (Qr C)) (zD _ _)) hb2
 ·have:=AAC (W.alloc (Qr C)) (x.box As cs Am cm)
  rw[show (W.alloc (Qr C)).heap.size=W.heap.size+1 by simp] at this
  exact BR this hb2
 ·have:=AAC ((W.alloc (Qr C)).alloc (x.box As cs Am cm)) (wX p)
  rw[show ((W.alloc (Qr C)).alloc (x.box As cs Am cm)).heap.size=W.heap.size+2 by simp] at this
  exact this
theorem MQ.pvp (h:MQ C W0 p kd W r k e di vk vi vr K I R):W.heap.size+2≠p:=by have:=h.vb.lt;omega
end
def yh (kd:Int) (P:PR (List (Val×Val))):PR Val:=P.bind fun p => .ok (.mk kd false 0 ⟨#[]⟩ 0 (p.1.map Prod.fst) (p.1.map Prod.snd) [],p.2)
section
variable {C:FK} {V:Vx}
end
section
variable {C:FK} {W0 W':World} {p:Nat} {kd:Int} {r r':List AQ} {k k':Bool} {e' di:Int} {vk vi vr:Value} {K I:List Au} {R:List Ak}
theorem Fy {P:PR Val} (h:MQ C W0 p kd W' r' k' e' di vk vi vr K I R) (hl:r'.length<=r.length) (hz:K.length<=2000000/\I.length<=2000000/\R.length<=2000000) (hp:P = .error e'):Oa C W0 p kd r P W' :=
 ⟨di,vk,vi,vr,K,I,R,r',k',e',h,hl,hz,by rw[hp]⟩
theorem RL {P:PR Val} (h:MQ C W0 p kd W' r' k' 0 di vk vi vr K I R) (hl:r'.length<=r.length) (hz:K.length<=2000000/\I.length<=2000000/\R.length<=2000000) {v:Val} (hv:v = .mk kd false 0 ⟨#[]⟩ di (K.map (·.v)) (I.map (·.v)) R) (hp:P = .ok (v,r',k')):Oa C W0 p kd r P W' :=
 ⟨di,vk,vi,vr,K,I,R,r',k',0,h,hl,hz,by rw[hp];exact ⟨hv,rfl,rfl,rfl⟩⟩
end
theorem z3:([]:List Au).length<=2000000/\([]:List Au).length<=2000000/\([]:List Ak).length<=2000000:=⟨by decide,by decide,by decide⟩
def Uu (kd:Int) (P:Jg):PR Val:=P.bind fun p => .ok (.mk kd false 0 ⟨#[]⟩ 0 [] p.1.1 p.1.2,p.2)
theorem aQ (kd e:Int):Uu kd (.error e) = .error e:=rfl
theorem iq (kd:Int) (a:List Val) (b:List Ak) (l:List AQ) (k:Bool):Uu kd (.ok ((a,b),l,k)) = .ok (.mk kd false 0 ⟨#[]⟩ 0 [] a b,l,k):=rfl
section
variable {C:FK} {V:Vx}
def RcI (C:FK) (V:Vx) (Rt:Jg) (n0:Nat) (W:World) (r:List AQ) (k:Bool):Prop:=∃vi vr I R,Df C V W r k 0 0 AR vi vr [] I R/\(I.length<=V.x.AA.length/\I.length+R.length+r.length<=C.l.length/\r.length<=n0)/\LG (CU false C.s) Rt (I.map (·.v)) R (V.x.AA.drop I.length) r k
def RcJ (C:FK) (V:Vx) (Rt:Jg) (n0:Nat) (W:World) (r:List AQ) (k:Bool):Prop:=∃vi vr I R,Df C V W r k 0 0 AR vi vr [] I R/\(I.length<=V.x.AA.length/\I.length+R.length+r.length<=C.l.length/\r.length<=n0)/\OL (CU false C.s) Rt (I.map (·.v)) R (V.x.AA.drop I.length) r k
def RcF (C:FK) (V:Vx) (Rt:Jg) (n0:Nat) (W:World) (r:List AQ) (k:Bool):Prop:=∃vi vr I R,Df C V W r k 0 0 AR vi vr [] I R/\(I.length+R.length+r.length<=C.l.length/\r.length<=n0)/\Rt = .ok ((I.map (·.v),R),r,k)
def RcE (C:FK) (V:Vx) (Rt:Jg) (n0:Nat) (W:World) (e:Int):Prop:=∃vi vr I R r k,Df C V W r k e 0 AR vi vr [] I R/\(I.length<=2000000/\R.length<=2000000)/\r.length<=n0/\Rt = .error e
theorem Si {n:Nat} (ih:JH C n) {W:World} {r:List AQ} {k:Bool} {vk vi vr:Value} {KL I:List Au} {R:List Ak} (h:Df C V W r k 0 0 vk vi vr KL I R) (hpv:V.pv≠V.p) (hn:r.length<n)
  (he:∀y∈V.x.AA,0<=y.type/\y.type<(C.s.length:Int)) {Rt:Jg} (hR:LG (CU false C.s) Rt (I.map (·.v)) R (V.x.AA.drop I.length) r k) (hl:I.length+R.length<=1000000) (hi:I.length<=V.x.AA.length) :
  Calls Tryz.prog 161 #[.pointer (some ⟨V.pv,0,none⟩),.pointer (some ⟨V.px,0,none⟩),.pointer (some ⟨V.pr,0,none⟩)] W fun y W'=>y = .returned (.tuple #[])/\uw C V Rt r vk KL I R W':=by
 by_cases h1:I.length<V.x.AA.length
 ·exact Sg ih h hpv hn he hR hl h1
 ·exact Sd h hpv hR hl (by omega)
theorem recC {n:Nat} (ih:JH C n) (hpv:V.pv≠V.p) (he:∀y∈V.x.AA,0<=y.type/\y.type<(C.s.length:Int)) {n0:Nat} (hn:n0<n) {Rt:Jg} :
  mX C ⟨#[125]⟩ 161 [.pointer (some ⟨V.pv,0,none⟩),.pointer (some ⟨V.px,0,none⟩),.pointer (some ⟨V.pr,0,none⟩)] (RcI C V Rt n0) (RcJ C V Rt n0) (RcF C V Rt n0) (RcE C V Rt n0) where
 iS:=fun W r k h=>by obtain ⟨_,_,_,_,h,_⟩:=h;exact h.rd
 jS:=fun W r k h=>by obtain ⟨_,_,_,_,h,_⟩:=h;exact h.rd
 part:=fun W r k ⟨vi,vr,I,R,h,⟨h1,h2,h3⟩,h4⟩=>by
  have XA:=h.rd.ok.len;refine (Si ih h hpv (by omega) he h4 (by omega) h1).mono ?_
  rintro y W' ⟨rfl,Jv,fo,I',R',r',k',e',g1,g2,g3,g5,g6⟩;refine ⟨rfl,r',k',e',g1.rd,g2,fun e=>?_,fun hne=>?_⟩
  ·obtain ⟨j1,j2,j3⟩:=g5 e
   subst e;exact ⟨Jv,fo,I',R',g1,⟨j2,by omega,by omega⟩,j1⟩
  ·exact ⟨Jv,fo,I',R',r',k',g1,g3,by omega,g6 hne⟩
 comma:=fun W r k W' ⟨vi,vr,I,R,h,⟨h1,h2,h3⟩,h4⟩ hc hb hr=>by
  have:=VJ hc;exact ⟨vi,vr,I,R,h.Cn hb hr,⟨h1,by omega,by omega⟩,h4.comma hc⟩
 fin:=fun W r k W' ⟨vi,vr,I,R,h,⟨h1,h2,h3⟩,h4⟩ hc ht hb hr=>by
  have:=VJ ht;exact ⟨vi,vr,I,R,h.Cn hb hr,⟨by omega,by omega⟩,h4.fin hc ht⟩
 bad:=fun W r k W' ⟨vi,vr,I,R,h,⟨h1,h2,h3⟩,h4⟩ hc ht hb hr=>by
  have XA:=h.rd.ok.len;exact ⟨vi,vr,I,R,r,k,h.Cn hb hr,⟨by omega,by omega⟩,h3,h4.bad hc ht⟩
end
theorem Ut {C:FK} {W0:World} {p:Nat} {x:Ae} {As:zo} {cs:Nat} {Am:zo} {cm:Nat} {n:Nat} (ih:JH C n) {W:World} {r:List AQ} {k:Bool} (ht:KM C.w0 x As Am) (h:MQ C W0 p x.kind W r k 0 0 AR AR AR [] [] []) (hn:r.length<=n)
  (he:∀y∈x.AA,0<=y.type/\y.type<(C.s.length:Int)) :
  Calls Tryz.prog 124 #[.pointer (some ⟨C.b,0,none⟩),x.v As cs Am cm,.pointer (some ⟨p,0,none⟩)] W fun y W'=>y = .returned (.tuple #[])/\Oa C W0 p x.kind r (Uu x.kind (Kj false (CU false C.s) x r k)) W':=by
 have mh:=zh (h.three (cs:=cs) (cm:=cm) ht);have ZJ:=zh h.pvp;have HN:=zh hn;have E5:=zh ih;have LQ:=zh he;have HMP:=zh (iy (f:=CU false C.s) x r k);clear h ih hn he ht
 go_enter Tryz.func124,Tryz.ntmps124
 go_upto_region 1 with fail
 generalize ((W.alloc (Qr C)).alloc (x.box As cs Am cm)).alloc (wX p)=W1 at *;generalize hV:(⟨W0,x,As,cs,Am,cm,p,W.heap.size,W.heap.size+1,W.heap.size+2⟩:Vx)=V at *;have HX:Hid (V.x=x/\V.p=p/\V.W0=W0):=by rw[<-hV];exact ⟨rfl,rfl,rfl⟩
 have e1:W.heap.size=V.pr:=by rw[<-hV]
 have e2:W.heap.size+1=V.px:=by rw[<-hV]
 have e3:W.heap.size+2=V.pv:=by rw[<-hV]
 have e4:p=V.p:=by rw[<-hV]
 have sF:Hid (V.pv≠V.p):=by show _≠_;rw[<-e3,<-e4];exact ZJ.out
 rw[show W.heap.size+1+1=V.pv from e3,e2,e1];clear hV e1 e2 e3 ZJ;have Ua:Hid (∀W' r' k' e' di vk vi vr K I R,Df C V W' r' k' e' di vk vi vr K I R->MQ C W0 p x.kind W' r' k' e' di vk vi vr K I R):=fun W' r' k' e' di vk vi vr K I R h=>by
  have:=h.fl;obtain ⟨g1,g2,g3⟩:=HX.out;rw[g1,g2,g3] at this;exact this
 clear e4;have rr:=(mh.out.reads (Ay.refl _ _)).1.2.2.2.1
 go_upto_if 12 with (go_at_call 126;refine (FV ⟨#[123]⟩ mh.out.rd).mono ?_;intro y w3 h3;obtain rfl:=h3.1;obtain ⟨hb3,r1,e1,hr3,hs3⟩:=Nf h3;have Ri:=zh (mh.out.Cn hb3 hr3);have OU:=zh hs3;have rr3:=(Ri.out.reads (Ay.refl _ _)).1.2.2.2.1;have rm3:=(Ri.out.reads (Ay.refl _ _)).1.2.2.2.2.1;rw[HX.out.1] at rm3;have rz3:=hr3.zero;clear h3 hb3 hr3 hs3)
 have Oz:=zh (La OU)
 by_cases he:e1=0
 case neg =>
  have q1:(e1 != 0)=true:=by simp[he]
  have HP:Hid (Uu x.kind (Kj false (CU false C.s) x r k) = .error e1):=by
   show _=_
   have hs:=Oz.out;rw[HMP.out]
   cases hsy:Ee ⟨#[123]⟩ r with
   | error e2=>rw[hsy] at hs;rw[hs.1];rfl
   | ok l=>rw[hsy] at hs;exact absurd hs.2 he
  clear he;go_wp2;refine bodyPost_ret (results_none Tryz.results124 _ _ _) rfl ⟨rfl,Fy (Ua.out _ _ _ _ _ _ _ _ _ _ _ Ri) OU.out.1 z3 HP⟩
 subst he;obtain ⟨HQ,GV⟩:Hid (Kj false (CU false C.s) x r k=Qu (CU false C.s) x.AA r1 k)/\Hid (r1.length<r.length):=by
  have hs:=Oz.out
  cases hsy:Ee ⟨#[123]⟩ r with
  | error e2=>rw[hsy] at hs;exact absurd rfl hs.2
  | ok l =>
   rw[hsy] at hs;obtain ⟨rfl,_⟩:=hs;exact ⟨by show _=_;rw[HMP.out,hsy];rfl,(zU hsy).1.2⟩
 have HXK:Hid (V.x=x):=HX.out.1;clear Oz OU HMP rr mh;have Hy:Hid (∀W5,Df C V W5 r1 k 0 0 AR AR AR [] [] []->(Dj ⟨#[125]⟩ r1=true->x.AA=[]) ->
   Calls Tryz.prog 127 #[.pointer (some ⟨C.b,0,none⟩),.string ⟨#[125]⟩,.func (.func 161) #[] #[.pointer (some ⟨V.pv,0,none⟩),.pointer (some ⟨V.px,0,none⟩),.pointer (some ⟨V.pr,0,none⟩)]] W5 fun y W'=>y = .returned (.tuple #[])/\Oa C W0 p x.kind r (Uu x.kind (Kj false (CU false C.s) x r k)) W'):=fun W5 h5 hm=>by
  have hl1:=h5.rd.WN.length_le;have hc:=recC (C:=C) (V:=V) E5 sF (by rw[HXK.out];exact LQ.out) (n0:=r1.length) (by have:=GV.out;have:=HN.out;omega) (Rt:=Qu (CU false C.s) x.AA r1 k)
  refine (RA hc h5.rd (fun h W' g1 g2=>?_) (fun h W' g1 g2=>⟨AR,AR,[],[],h5.Cn g1 g2,⟨by simp,by simp;omega,AAH _⟩,by rw[HXK.out];exact LG.start h⟩)).mono ?_
  ·have:=VJ h
   refine ⟨AR,AR,[],[],h5.Cn g1 g2,⟨by simp;omega,by omega⟩,?_⟩
   rw[hm h];exact Xz h
  ·rintro y w6 ⟨rfl,r6,k6,e6,g1,g2,g3⟩
   refine ⟨rfl,?_⟩;have hlt:=GV.out;have h6:=h5.rd.ok.len
   by_cases hz:e6=0
   ·subst hz
    obtain ⟨vi,vr,I,R,j1,⟨j2,j3⟩,j4⟩:=g2 rfl;exact RL (Ua.out _ _ _ _ _ _ _ _ _ _ _ j1) (by omega) ⟨by simp,by omega,by omega⟩ rfl (by rw[HQ.out,j4,iq];rfl)
   ·obtain ⟨vi,vr,I,R,r7,k7,j1,⟨j2,j3⟩,j4,j5⟩:=g3 hz
    exact Fy (Ua.out _ _ _ _ _ _ _ _ _ _ _ j1) (by omega) ⟨by simp,j2,j3⟩ (by rw[HQ.out,j5,aQ])
 by_cases hm:x.AA=[]
 ·have q2:¬ (0:Int)<(x.AA.length:Int):=by rw[hm];simp
  have HM:=zh hm;clear hm;go_wp2_with fail;refine (Hy.out _ (Ri.out.below (zC (Pe _ _) 0)) (fun _=>HM.out)).mono ?_
  rintro y w6 ⟨rfl,h6⟩;have H6:=zh h6;clear h6;go_wp2;refine bodyPost_end (results_none Tryz.results124 _ _ _) rfl ⟨rfl,H6.out⟩
 ·have q2:(0:Int)<(x.AA.length:Int):=by have:=List.length_pos_iff.2 hm;omega
  cases hb:Dj ⟨#[125]⟩ r1 with
  | true =>
   have HB:=zh hb;have HP:Hid (Uu x.kind (Kj false (CU false C.s) x r k) = .error 2):=by show _=_;rw[HQ.out,aR hm hb];rfl
   clear hm hb;go_wp2_with fail;refine (zX ⟨#[125]⟩ Ri.out.rd).mono ?_;rintro y w4 ⟨rfl,hb4⟩;rw[HB.out];have MK:=zh (Ri.out.below hb4);have rr4:=(MK.out.reads (Ay.refl _ _)).1.2.2.2.1;clear hb4;go_wp2_with fail;refine (Ce 2 MK.out.rd).mono ?_;rintro y w6 ⟨rfl,g1,g2⟩;have OP:=zh (Ua.out _ _ _ _ _ _ _ _ _ _ _ (MK.out.Cn g2 g1));clear g1 g2;go_wp2
   refine bodyPost_ret (results_none Tryz.results124 _ _ _) rfl ⟨rfl,Fy OP (AAe GV) z3 HP⟩
  | false =>
   have HB:=zh hb;clear hm hb;go_wp2_with fail;refine (zX ⟨#[125]⟩ Ri.out.rd).mono ?_;rintro y w4 ⟨rfl,hb4⟩;rw[HB.out];have MK:=zh (Ri.out.below hb4);have rr4:=(MK.out.reads (Ay.refl _ _)).1.2.2.2.1;clear hb4;go_wp2_with fail;refine (Hy.out _ MK (fun h=>by rw[HB.out] at h;cases h)).mono ?_
   rintro y w6 ⟨rfl,h6⟩;have H6:=zh h6;clear h6;go_wp2;refine bodyPost_end (results_none Tryz.results124 _ _ _) rfl ⟨rfl,H6.out⟩
def TD (kd:Int) (P:PR (List Val)):PR Val:=P.bind fun p => .ok (.mk kd false 0 ⟨#[]⟩ 0 [] p.1 [],p.2)
theorem Kt (kd e:Int):TD kd (.error e) = .error e:=rfl
theorem Wj (kd:Int) (a:List Val) (l:List AQ) (k:Bool):TD kd (.ok (a,l,k)) = .ok (.mk kd false 0 ⟨#[]⟩ 0 [] a [],l,k):=rfl
theorem NK (a:ByteArray) (l:List UInt8):(a.toList==l)=decide (a=⟨l.toArray⟩):=by
 have h:(⟨l.toArray⟩:ByteArray).toList=l:=by rw[Lib.toList_data]
 have:=bytes_beq a ⟨l.toArray⟩
 rwa [h] at this
section
variable {C:FK} {W0 W W':World} {p:Nat} {kd:Int} {r r':List AQ} {k k':Bool} {e e' di:Int}
theorem MQ.one (h:MQ C W0 p kd W r k e di AR AR AR [] [] []) {W6:World} (hb:Ay C.b W W6) (hr:CX C W6 r' k' e') {x:Au} (hx:Off (fun q=>q<W.heap.size) W6 fun u=>Az u x.v x.A1 x.A2 x.A3) :
  MQ C W0 p kd ((W6.alloc (.cells x.cells.toArray 28)).setCell ⟨p,6,none⟩ (.slice (some ⟨W6.heap.size,0,none⟩) 1 1)) r' k' e' di AR (.slice (some ⟨W6.heap.size,0,none⟩) 1 1) AR [] [x] []:=by
 have h6:=h.Cn hb hr;have ho:(W6.alloc (.cells x.cells.toArray 28)).ownsRow (p+1) 28 8 (.slice (some ⟨W6.heap.size,0,none⟩) 1 1) 1 ([]++x.cells):=by
  exact World.ownsRow_lit (base:=p+1) (e:=28) (size:=8) W6 x.cells.toArray 1 h6.vb.lt (by unfold maxLen;omega) rfl
 obtain ⟨g1,g2,g3⟩:=h6.vb.item (x:=x) (v8 := .slice (some ⟨W6.heap.size,0,none⟩) 1 1) (w8:=W6.alloc (.cells x.cells.toArray 28)) (hx.mono fun q _ hq=>by
  have hl:=h.vb.lt
  rcases hq with e|e|e|e
  ·omega
  ·cases e
  ·cases e
  ·cases e) (Pe _ _) ho (World.grownBy_alloc W6 _ none) (.inr rfl)
 exact ⟨⟨h6.rd.ok,(g2.block _ h6.bp).trans h6.rd.blk,h6.rd.WN,h6.rd.up.trans (g2.mono (by have:=h6.bp;have:=h6.rd.ok.ge;omega))⟩,g1,h6.fr.up g2 h6.lo (AAe h6.bp),h6.lo,h6.lb⟩
theorem I5 {b q:Nat} {w w':World} {o:Obj} (h:w.heap[q]? = some o) (hb:Ay b w w') (hq:q≠b):w'.heap[q]? = some o:=(hb.FN q hq (zg.1 h).1).trans h
end
theorem Qz {C:FK} {W0:World} {p:Nat} {x:Ae} {As:zo} {cs:Nat} {Am:zo} {cm:Nat} {n:Nat} (ih:JH C n) {W:World} {r:List AQ} {k:Bool} (h:MQ C W0 p x.kind W r k 0 0 AR AR AR [] [] []) (hn:r.length<=n)
  (he:0<=x.elem/\x.elem<(C.s.length:Int)) :
  Calls Tryz.prog 130 #[.pointer (some ⟨C.b,0,none⟩),x.v As cs Am cm,.pointer (some ⟨p,0,none⟩)] W fun y W'=>y = .returned (.tuple #[])/\Oa C W0 p x.kind r (TD x.kind (Iw (CU false C.s) x r k)) W':=by
 have HF0:=zh (h.below (zD W (x.box As cs Am cm)));have HX0:=zh (AAC W (x.box As cs Am cm));have HXB:Hid (W.heap.size≠C.b):=by have:=h.rd.lt;show _≠_;omega
 have HN:=zh hn;have E5:=zh ih;have LQ:=zh he;have qZ:Hid (Iw (CU false C.s) x r k=(FY 1 r).bind fun p=>if p.1.text=⟨#[110,111,110,101]⟩ then .ok ([],p.2,k)
  else if p.1.text=⟨#[115,111,109,101]⟩ then (Ee ⟨#[40]⟩ p.2).bind fun l2=>(CU false C.s x.elem l2 k).bind fun q=>(Ee ⟨#[41]⟩ q.2.1).bind fun l4 => .ok ([q.1],l4,q.2.2)
  else .error 2):=rfl
 clear h ih hn he
 go_enter Tryz.func130,Tryz.ntmps130
 go_upto_region 1 with fail
 generalize W.alloc (x.box As cs Am cm)=W1 at *
 go_cut [6] (fun s wx=>∃tb t0 r1 e1,s = .pointer (some ⟨tb,0,none⟩)/\Hid (MQ C W0 p x.kind wx r1 k e1 0 AR AR AR [] [] []/\wx.heap[W.heap.size]? = some (x.box As cs Am cm)/\wx.heap[tb]? = some (sQ t0)/\gJ 1 r t0 r1 e1))
 case first =>
  go_wp2_with (go_at_call 122;refine (Fp 1 HF0.out.rd).mono ?_;intro y w3 h3;obtain ⟨t0,r1,e1,rfl,g1,g2,g3⟩:=Nc h3;have lu:=zh (HF0.out.Cn g1 g2);have MJ:=zh (I5 HX0 g1 HXB);have Oe:=zh g3;clear h3 g1 g2 g3)
  go_meet
  exact ⟨_,t0,r1,e1,rfl,lu.out.below (zD _ _),BR MJ (zD _ _),AAC _ _,Oe.out⟩
 case rest =>
 obtain ⟨W3,rfl⟩:∃W:World,W=wc:=⟨_,rfl⟩;obtain ⟨tb,t0,r1,e1,rfl,h3⟩:=hcut;have lu:=zh h3.out.1;have MJ:=zh h3.out.2.1;have Oe:=zh h3.out.2.2.2;obtain ⟨⟨_,x1,_,_,_⟩,_⟩:=DK h3.out.2.2.1;clear h3 HF0 HX0;have rz:=lu.out.rd.zero
 by_cases hz:e1=0
 case neg =>
  have q1:(e1 != 0)=true:=by simp[hz]
  have HP:Hid (TD x.kind (Iw (CU false C.s) x r k) = .error e1):=by
   show _=_
   have ht:=Oe.out.tk;rw[qZ.out]
   cases hk:FY 1 r with
   | error e2=>rw[hk] at ht;rw[ht.1];rfl
   | ok q=>rw[hk] at ht;exact absurd ht.2.2.1 hz
  clear hz;go_wp2;refine bodyPost_ret (results_none Tryz.results130 _ _ _) rfl ⟨rfl,Fy lu Oe.out.1.1 z3 HP⟩
 subst hz;obtain ⟨Og,GV⟩:Hid (Iw (CU false C.s) x r k=if t0.text=⟨#[110,111,110,101]⟩ then .ok ([],r1,k)
  else if t0.text=⟨#[115,111,109,101]⟩ then (Ee ⟨#[40]⟩ r1).bind fun l2=>(CU false C.s x.elem l2 k).bind fun q=>(Ee ⟨#[41]⟩ q.2.1).bind fun l4 => .ok ([q.1],l4,q.2.2)
  else .error 2)/\Hid (r1.length<r.length):=by
  have ht:=Oe.out.tk
  cases hk:FY 1 r with
  | error e2=>rw[hk] at ht;exact absurd rfl ht.2
  | ok q =>
   rw[hk] at ht;refine ⟨?_,ht.2.2.2⟩
   show _=_
   rw[qZ.out,hk,zM,ht.1,ht.2.1]
 clear qZ Oe
 by_cases h1:t0.text=⟨#[110,111,110,101]⟩
 ·have q2:(t0.text.toList==([110,111,110,101]:List UInt8))=true:=by rw[NK];exact AAX h1
  have HP:Hid (TD x.kind (Iw (CU false C.s) x r k) = .ok (.mk x.kind false 0 ⟨#[]⟩ 0 [] [] [],r1,k)):=by show _=_;rw[Og.out,AAG h1,Wj]
  clear h1;go_wp2;refine bodyPost_ret (results_none Tryz.results130 _ _ _) rfl ⟨rfl,RL lu (AAe GV) z3 rfl HP⟩
 have q2:(t0.text.toList==([110,111,110,101]:List UInt8))=false:=by rw[NK];exact AAU h1
 by_cases h2:t0.text=⟨#[115,111,109,101]⟩
 case neg =>
  have q3:(t0.text.toList==([115,111,109,101]:List UInt8))=false:=by rw[NK];exact AAU h2
  have HP:Hid (TD x.kind (Iw (CU false C.s) x r k) = .error 2):=by show _=_;rw[Og.out,Pd h1,Pd h2,Kt]
  clear h1 h2;go_wp2_with fail;refine (Ce 2 lu.out.rd).mono ?_;rintro y w6 ⟨rfl,g1,g2⟩;have ZN:=zh (lu.out.Cn g2 g1);clear g1 g2;go_wp2;refine bodyPost_ret (results_none Tryz.results130 _ _ _) rfl ⟨rfl,Fy ZN (AAe GV) z3 HP⟩
 have q3:(t0.text.toList==([115,111,109,101]:List UInt8))=true:=by rw[NK];exact AAX h2
 have HP:Hid (Iw (CU false C.s) x r k=(Ee ⟨#[40]⟩ r1).bind fun l2=>(CU false C.s x.elem l2 k).bind fun q=>(Ee ⟨#[41]⟩ q.2.1).bind fun l4 => .ok ([q.1],l4,q.2.2)):=by show _=_;rw[Og.out,Pd h1,AAG h2]
 clear h1 h2 Og;go_wp2_with fail;refine (FV ⟨#[40]⟩ lu.out.rd).mono ?_
 intro y w4 h4
 obtain rfl:=h4.1;obtain ⟨hb4,r2,e2,hr4,hs4⟩:=Nf h4;have rE:=zh (lu.out.Cn hb4 hr4);have mg:=zh (I5 MJ hb4 HXB);have fE:=zh hs4;have x8:w4.cell? ⟨W.heap.size,8,none⟩=some (.int .i64 x.elem):=by rw[AAE _ _ _ _ _ _ mg.out];rfl
 clear h4 hb4 hr4 hs4 rz x1;go_wp2_with fail;refine (E5.out x.elem _ r2 k e2 (by have:=fE.out.1;have:=GV.out;have:=HN.out;omega) LQ rE.out.rd).mono ?_
 rintro y w5 ⟨xa,rfl,g1,g2,r5,k5,e5,g3,g4,g5,g6⟩;have ZN:=zh (rE.out.one g2 g3 g1);have HV5:=zh (rE.out.Cn g2 g3);have nJ:=zh g4;have nI:=zh g5;have nH:=zh g6;obtain ⟨⟨_,_,_,_,_,_,c6,_⟩,cf⟩:=(HV5.out.vb.below (zD w5 (.cells xa.cells.toArray 28))).cells;have f6:=cf 6;clear g1 g2 g3 g4 g5 g6 cf;have HE2:Hid (mU ⟨#[40]⟩ r1 0 r2 e2):=fE.out;unfold Au.cells Val.cs at ZN c6 f6
 go_upto_region 7 with fail
 generalize World.setCell (World.alloc w5 _) _ _=W6 at *;have wD:Hid (([]:List Au).length<=2000000/\[xa].length<=2000000/\([]:List Ak).length<=2000000):=⟨by simp,by simp,by simp⟩
 have rz:=ZN.out.rd.zero
 by_cases hz:e5=0
 case neg =>
  have q1:(e5==0)=false:=by simp[hz]
  have HP5:Hid (TD x.kind (Iw (CU false C.s) x r k) = .error e5):=by
   show _=_
   have hs:=La HE2;rw[HP.out]
   cases hsy:Ee ⟨#[40]⟩ r1 with
   | error e=>rw[hsy] at hs;rw[K6,Kt,nI.out hs.2,hs.1]
   | ok l =>
    rw[hsy] at hs;have hv:=nH.out hs.2;rw[zM,<-hs.1]
    cases hw:CU false C.s x.elem r2 k with
    | error e=>rw[hw] at hv;rw[K6,Kt,hv]
    | ok q=>rw[hw] at hv;exact absurd hv.2.2.2 hz
  clear hz;go_wp2;refine bodyPost_end (results_none Tryz.results130 _ _ _) rfl ⟨rfl,Fy ZN (by have:=nJ.out;have:=fE.out.1;have:=GV.out;omega) wD HP5⟩
 subst hz;obtain ⟨HP5,HLV⟩:Hid (Iw (CU false C.s) x r k=(Ee ⟨#[41]⟩ r5).bind fun l4 => .ok ([xa.v],l4,k5))/\Hid (r5.length<=r.length):=by
  have hs:=La HE2;refine ⟨?_,by have:=nJ.out;have:=fE.out.1;have:=GV.out;show _<=_;omega⟩
  show _=_
  rw[HP.out]
  cases hsy:Ee ⟨#[40]⟩ r1 with
  | error e =>
   rw[hsy] at hs;exact absurd (nI.out hs.2) (fun g=>hs.2 g.symm)
  | ok l =>
   rw[hsy] at hs;have hv:=nH.out hs.2;rw[zM,<-hs.1]
   cases hw:CU false C.s x.elem r2 k with
   | error e =>
    rw[hw] at hv;exact absurd (hv▸hw) (Qc false _ _ _ _)
   | ok q =>
    obtain ⟨v,r1',k1'⟩:=q;rw[hw] at hv;obtain ⟨rfl,rfl,rfl,_⟩:=hv
    rfl
 go_wp2_with fail
 refine (FV ⟨#[41]⟩ ZN.out.rd).mono ?_
 intro y w7 h7
 obtain rfl:=h7.1;obtain ⟨FE,r7,e7,hr7,hs7⟩:=Nf h7;have xw:=zh (ZN.out.Cn FE hr7);have qP:=zh hs7;clear h7 FE hr7 hs7;go_wp2;refine bodyPost_end (results_none Tryz.results130 _ _ _) rfl ⟨rfl,?_⟩;have hs:=La qP;have uM:r7.length<=r.length:=by have:=qP.out.1;have:=HLV.out;omega
 have hp:=HP5.out
 cases hsy:Ee ⟨#[41]⟩ r5 with
 | error e2=>rw[hsy] at hs hp;exact Fy xw uM wD (by rw[hp,K6,Kt,hs.1])
 | ok l =>
  rw[hsy] at hs hp;obtain ⟨rfl,rfl⟩:=hs;exact RL xw uM wD rfl (by rw[hp,zM,Wj];rfl)
def yM (kd:Int) (P:PR (Int×List Val×List Ak)):PR Val:=P.bind fun p => .ok (.mk kd false 0 ⟨#[]⟩ p.1.1 [] p.1.2.1 p.1.2.2,p.2)
section
variable {C:FK} {W0 W W':World} {p:Nat} {kd:Int} {r r':List AQ} {k k':Bool} {e e' di:Int} {vk vi vr:Value} {K I:List Au} {R:List Ak}
theorem MQ.oL (h:MQ C W0 p kd W r k e di AR AR AR [] [] []) {x:Ak} (hx:Db x.data) :
  MQ C W0 p kd ((W.alloc (iZ x)).setCell ⟨p,7,none⟩ (.slice (some ⟨W.heap.size,0,none⟩) 1 1)) r k e di AR AR (.slice (some ⟨W.heap.size,0,none⟩) 1 1) [] [] [x]:=by
 have ho:(W.alloc (iZ x)).ownsRow (p+1) 97 2 (.slice (some ⟨W.heap.size,0,none⟩) 1 1) 1 ([]++encR x) :=
  World.ownsRow_lit (base:=p+1) (e:=97) (size:=2) W (encR x).toArray 1 h.vb.lt (by unfold maxLen;omega) rfl
 obtain ⟨g1,g2,g3⟩:=h.vb.Ux (x:=x) (v8 := .slice (some ⟨W.heap.size,0,none⟩) 1 1) (w8:=W.alloc (iZ x)) hx (Pe _ _) ho (World.grownBy_alloc W _ none) (.inr rfl);exact ⟨⟨h.rd.ok,(g2.block _ h.bp).trans h.rd.blk,h.rd.WN,h.rd.up.trans (g2.mono (by have:=h.bp;have:=h.rd.ok.ge;omega))⟩,g1,h.fr.up g2 h.lo (AAe h.bp),h.lo,h.lb⟩
end
end Go.Proofs.YthkkllmmbefedaaGreatDoor



