/-
  Walks: the literal's reader: union.
-/
import Derived.Test.YthkkllmmbefedaaGreatDoorQGR0
import Derived.Test.YthkkllmmbefedaaGreatDoorQGA8
namespace Go.Proofs.YthkkllmmbefedaaGreatDoor
open Go.RowKit
set_option maxHeartbeats 16000000
set_option maxRecDepth 100000
structure FlS (C:RCx) (W0:World) (p:Nat) (kd:Int) (W:World) (r:List TokD) (k:Bool) (e di:Int) (vk vi vr:Value) (K I:List VaA) (R:List RawD):Prop where
 rd:RdS C W r k e
 vb:VbS p W kd false 0 ⟨#[]⟩ di vk vi vr K I R
 fr:Bsd C.b W0 W
 lo:W0.heap.size≤p
 lb:C.b<W0.heap.size
abbrev nilS:Value := .slice none 0 0
def FillP (C:RCx) (W0:World) (p:Nat) (kd:Int) (r:List TokD) (P:PR Val) (W':World):Prop:=∃di vk vi vr K I R r' k' e',FlS C W0 p kd W' r' k' e' di vk vi vr K I R∧r'.length≤r.length∧(K.length≤2000000∧I.length≤2000000∧R.length≤2000000) ∧
 match P with
 | .ok (v,r1,k1)=>v = .mk kd false 0 ⟨#[]⟩ di (K.map (·.v)) (I.map (·.v)) R∧r'=r1∧k'=k1∧e'=0
 | .error e1=>e'=e1
section
variable {C:RCx} {W0 W W':World} {p:Nat} {kd:Int} {r r':List TokD} {k k':Bool} {e e' di:Int} {vk vi vr:Value} {K I:List VaA} {R:List RawD} {V:Vx}
theorem VfS.fl (h:VfS C V W r k e di vk vi vr K I R):FlS C V.W0 V.p V.x.kind W r k e di vk vi vr K I R:=⟨h.rd,h.vb,h.fr,h.lo,h.lb⟩
theorem FlS.bp (h:FlS C W0 p kd W r k e di vk vi vr K I R):C.b<p:=Nat.lt_of_lt_of_le h.lb h.lo
theorem FlS.bsd (h:FlS C W0 p kd W r k e di vk vi vr K I R) (hb:Bsd C.b W W') (hr:RdS C W' r' k' e'):FlS C W0 p kd W' r' k' e' di vk vi vr K I R:=⟨hr,h.vb.bsd hb h.bp,h.fr.trans hb,h.lo,h.lb⟩
theorem FlS.below (h:FlS C W0 p kd W r k e di vk vi vr K I R) (hb:Below W.heap.size W W'):FlS C W0 p kd W' r k e di vk vi vr K I R:=h.bsd (h.rd.bsd hb) (h.rd.below hb)
abbrev rrO (C:RCx):Obj := .cells #[.pointer (some ⟨C.b,0,none⟩)] 103
abbrev vvO (p:Nat):Obj := .cells #[.pointer (some ⟨p,0,none⟩)] 172
theorem FlS.three {x:TyD} (h:FlS C W0 p x.kind W r k e di vk vi vr K I R) {As:zo} {cs:Nat} {Am:zo} {cm:Nat} (ht:TyR C.w0 x As Am) :
  VfS C ⟨W0,x,As,cs,Am,cm,p,W.heap.size,W.heap.size+1,W.heap.size+2⟩ (((W.alloc (rrO C)).alloc (x.box As cs Am cm)).alloc (vvO p)) r k e di vk vi vr K I R:=by
 have hb1:=zI W (rrO C) (x.box As cs Am cm);have hb2:=zD ((W.alloc (rrO C)).alloc (x.box As cs Am cm)) (vvO p);have hb:=zB hb1 hb2;have hf:=h.below hb;refine ⟨hf.rd,hf.vb,hf.fr,h.lo,h.lb,ht,?_,?_,.inr ?_⟩
 ·exact nblk (nblk (heap_alloc_new W (rrO C)) (zD _ _)) hb2
 ·have:=heap_alloc_new (W.alloc (rrO C)) (x.box As cs Am cm)
  rw[show (W.alloc (rrO C)).heap.size=W.heap.size+1 by simp] at this
  exact nblk this hb2
 ·have:=heap_alloc_new ((W.alloc (rrO C)).alloc (x.box As cs Am cm)) (vvO p)
  rw[show ((W.alloc (rrO C)).alloc (x.box As cs Am cm)).heap.size=W.heap.size+2 by simp] at this
  exact this
theorem FlS.pvp (h:FlS C W0 p kd W r k e di vk vi vr K I R):W.heap.size+2≠p:=by have:=h.vb.lt;omega
end
def mapQ (f:Int→List TokD→Bool→PR Val) (x:TyD) (l1:List TokD) (k:Bool):PR (List (Val×Val)) :=
 if isP ⟨#[45,62]⟩ l1=true then (syP ⟨#[93]⟩ l1.tail).bind fun l2 => .ok ([],l2,k)
  else if isP ⟨#[93]⟩ l1=true then .error 2
  else (sepR (entrP f x) l1 k).bind fun p=>(syP ⟨#[93]⟩ p.2.1).bind fun l2 => .ok (p.1,l2,p.2.2)
theorem mapP_q (f:Int→List TokD→Bool→PR Val) (x:TyD) (l:List TokD) (k:Bool):mapP f x l k=(syP ⟨#[91]⟩ l).bind fun l1=>mapQ f x l1 k:=rfl
def mapV (kd:Int) (P:PR (List (Val×Val))):PR Val:=P.bind fun p => .ok (.mk kd false 0 ⟨#[]⟩ 0 (p.1.map Prod.fst) (p.1.map Prod.snd) [],p.2)
def pairsV (K I:List VaA):List (Val×Val):=(K.map (·.v)).zip (I.map (·.v))
theorem pairsV_snoc {K I:List VaA} (h:K.length=I.length) (x y:VaA):pairsV (K++[x]) (I++[y])=pairsV K I++[(x.v,y.v)]:=by
 unfold pairsV;rw[List.map_append,List.map_append,List.zip_append (by simp[h])]
 rfl
theorem pairsV_fst {K I:List VaA} (h:K.length=I.length):(pairsV K I).map Prod.fst=K.map (·.v):=by
 unfold pairsV;exact List.map_fst_zip (by simp[h])
theorem pairsV_snd {K I:List VaA} (h:K.length=I.length):(pairsV K I).map Prod.snd=I.map (·.v):=by
 unfold pairsV;exact List.map_snd_zip (by simp[h])
section
variable {C:RCx} {V:Vx}
def EnI (C:RCx) (V:Vx) (Rt:PR (List (Val×Val))) (W:World) (r:List TokD) (k:Bool):Prop:=∃vk vi K I,VfS C V W r k 0 0 vk vi nilS K I []∧(K.length=I.length∧I.length+r.length≤C.l.length)∧SepI (entrP (valR false C.s) V.x) Rt (pairsV K I) r k
def EnJ (C:RCx) (V:Vx) (Rt:PR (List (Val×Val))) (W:World) (r:List TokD) (k:Bool):Prop:=∃vk vi K I,VfS C V W r k 0 0 vk vi nilS K I []∧(K.length=I.length∧I.length+r.length≤C.l.length)∧(isP ⟨#[44]⟩ r=true→SepI (entrP (valR false C.s) V.x) Rt (pairsV K I) r.tail k)∧(isP ⟨#[44]⟩ r=false→Rt = .ok (pairsV K I,r,k))
def EnF (C:RCx) (V:Vx) (Rt:PR (List (Val×Val))) (W:World) (r:List TokD) (k:Bool):Prop:=∃vk vi K I,VfS C V W r k 0 0 vk vi nilS K I []∧(K.length=I.length∧I.length+r.length≤C.l.length)∧∃l,Rt = .ok (pairsV K I,l,k)∧syP ⟨#[93]⟩ l = .ok r
def EnE (C:RCx) (V:Vx) (Rt:PR (List (Val×Val))) (n0:Nat) (W:World) (e:Int):Prop:=∃vk vi K I r k,VfS C V W r k e 0 vk vi nilS K I []∧(K.length≤2000000∧I.length≤2000000)∧r.length≤n0∧(Rt.bind fun p=>(syP ⟨#[93]⟩ p.2.1).bind fun l2 => .ok (p.1,l2,p.2.2):PR (List (Val×Val))) = .error e
theorem ent_dec (s:List TyD) (x:TyD):Dec (entrP (valR false s) x):=entP_dec (fun t=>valR_dec false s t) x
theorem ent_nz {s:List TyD} {x:TyD} {l:List TokD} {k:Bool}:entrP (valR false s) x l k ≠ .error 0:=fun h=>by
 unfold entrP at h
 rcases bind_err h with h|⟨p,_,h⟩
 ·exact valR_nz false _ _ _ _ h
 ·rcases bind_err h with h|⟨l1,_,h⟩
  ·exact nz_sy _ _ h
  ·rcases bind_err h with h|⟨q,_,h⟩
   ·exact valR_nz false _ _ _ _ h
   ·cases h
theorem entC {n:Nat} (ih:ReadAt C n) (hpv:V.pv≠V.p) (he1:0≤V.x.key∧V.x.key<(C.s.length:Int)) (he:0≤V.x.elem∧V.x.elem<(C.s.length:Int)) {r0:List TokD} (hn:r0.length<n) {Rt:PR (List (Val×Val))} :
  ListC C ⟨#[93]⟩ 162 [.pointer (some ⟨V.pv,0,none⟩),.pointer (some ⟨V.pr,0,none⟩),.pointer (some ⟨V.px,0,none⟩)] (fun W r k=>EnI C V Rt W r k∧r.length≤r0.length) (fun W r k=>EnJ C V Rt W r k∧r.length≤r0.length) (EnF C V Rt) (EnE C V Rt r0.length) where
 iS:=fun W r k h=>by obtain ⟨⟨_,_,_,_,h,_⟩,_⟩:=h;exact h.rd
 jS:=fun W r k h=>by obtain ⟨⟨_,_,_,_,h,_⟩,_⟩:=h;exact h.rd
 part:=fun W r k ⟨⟨vk,vi,K,I,h,⟨h1,h2⟩,h3⟩,h4⟩=>by
  have hl6:=h.rd.ok.len;refine (entries1_any ih h hpv (by omega) he1 he (by omega) (by omega)).mono ?_
  rintro y W' ⟨rfl,x,z,vk',vi',r',k',e',g1,g2,g3⟩;refine ⟨rfl,r',k',e',g1.rd,g2,fun e=>?_,fun hne=>?_⟩
  ·subst e
   cases hp:entrP (valR false C.s) V.x r k with
   | error e1=>rw[hp] at g3;exact absurd (g3▸hp) ent_nz
   | ok q =>
    obtain ⟨⟨a,b⟩,r1,k1⟩:=q;rw[hp] at g3;obtain ⟨j1,j2,rfl,rfl,_⟩:=g3;have hlt:=(ent_dec C.s V.x _ _ _ _ _ hp).2;have hx:((x.v,z.v):Val×Val)=(a,b):=by rw[j1,j2]
    refine ⟨⟨vk',vi',K++[x],I++[z],g1,⟨by simp[h1],by simp;omega⟩,fun hc=>?_,fun hc=>?_⟩,by omega⟩
    ·rw[pairsV_snoc h1,hx];exact h3.comma (ent_dec _ _) hp hc
    ·rw[pairsV_snoc h1,hx];exact h3.fin (ent_dec _ _) hp hc
  ·cases hp:entrP (valR false C.s) V.x r k with
   | error e1 =>
    rw[hp] at g3;obtain rfl:e'=e1:=g3;exact ⟨vk',vi',_,_,r',k',g1,⟨by simp;omega,by simp;omega⟩,by omega,by rw[h3.bad (ent_dec _ _) hp];rfl⟩
   | ok q =>
    rw[hp] at g3;exact absurd g3.2.2.2.2 hne
 comma:=fun W r k W' ⟨⟨vk,vi,K,I,h,⟨h1,h2⟩,h3,h4⟩,h5⟩ hc hb hr=>by
  have:=isP_sz hc;exact ⟨⟨vk,vi,K,I,h.bsd hb hr,⟨h1,by omega⟩,h3 hc⟩,by omega⟩
 fin:=fun W r k W' ⟨⟨vk,vi,K,I,h,⟨h1,h2⟩,h3,h4⟩,h5⟩ hc ht hb hr=>by
  have:=isP_sz ht;exact ⟨vk,vi,K,I,h.bsd hb hr,⟨h1,by omega⟩,r,h4 hc,by unfold syP;rw[if_pos ht]⟩
 bad:=fun W r k W' ⟨⟨vk,vi,K,I,h,⟨h1,h2⟩,h3,h4⟩,h5⟩ hc ht hb hr=>by
  have hl6:=h.rd.ok.len;refine ⟨vk,vi,K,I,r,k,h.bsd hb hr,⟨by omega,by omega⟩,h5,?_⟩
  rw[h4 hc,zM];unfold syP;simp only;rw[if_neg (by rw[ht];simp)]
  rfl
end
section
variable {C:RCx} {W0 W':World} {p:Nat} {kd:Int} {r r':List TokD} {k k':Bool} {e' di:Int} {vk vi vr:Value} {K I:List VaA} {R:List RawD}
theorem fill_err {P:PR Val} (h:FlS C W0 p kd W' r' k' e' di vk vi vr K I R) (hl:r'.length≤r.length) (hz:K.length≤2000000∧I.length≤2000000∧R.length≤2000000) (hp:P = .error e'):FillP C W0 p kd r P W' :=
 ⟨di,vk,vi,vr,K,I,R,r',k',e',h,hl,hz,by rw[hp]⟩
theorem fill_ok {P:PR Val} (h:FlS C W0 p kd W' r' k' 0 di vk vi vr K I R) (hl:r'.length≤r.length) (hz:K.length≤2000000∧I.length≤2000000∧R.length≤2000000) {v:Val} (hv:v = .mk kd false 0 ⟨#[]⟩ di (K.map (·.v)) (I.map (·.v)) R) (hp:P = .ok (v,r',k')):FillP C W0 p kd r P W' :=
 ⟨di,vk,vi,vr,K,I,R,r',k',0,h,hl,hz,by rw[hp];exact ⟨hv,rfl,rfl,rfl⟩⟩
end
theorem mapV_err (kd e:Int):mapV kd (.error e) = .error e:=rfl
theorem mapV_ok (kd:Int) (L:List (Val×Val)) (l:List TokD) (k:Bool):mapV kd (.ok (L,l,k)) = .ok (.mk kd false 0 ⟨#[]⟩ 0 (L.map Prod.fst) (L.map Prod.snd) [],l,k):=rfl
theorem z3:([]:List VaA).length≤2000000∧([]:List VaA).length≤2000000∧([]:List RawD).length≤2000000:=⟨by decide,by decide,by decide⟩
theorem entries_any {C:RCx} {W0:World} {p:Nat} {x:TyD} {As:zo} {cs:Nat} {Am:zo} {cm:Nat} {n:Nat} (ih:ReadAt C n) {W:World} {r:List TokD} {k:Bool} (ht:TyR C.w0 x As Am) (h:FlS C W0 p x.kind W r k 0 0 nilS nilS nilS [] [] []) (hn:r.length≤n)
  (he1:0≤x.key∧x.key<(C.s.length:Int)) (he:0≤x.elem∧x.elem<(C.s.length:Int)) :
  Calls Tryz.prog 129 #[.pointer (some ⟨C.b,0,none⟩),x.v As cs Am cm,.pointer (some ⟨p,0,none⟩)] W fun y W'=>y = .returned (.tuple #[])∧FillP C W0 p x.kind r (mapV x.kind (mapP (valR false C.s) x r k)) W':=by
 have HV0:=zh (h.three (cs:=cs) (cm:=cm) ht);have HPV:=zh h.pvp;have HN:=zh hn;have HIH:=zh ih;have HE1:=zh he1;have HEL:=zh he;have HMP:=zh (mapP_q (valR false C.s) x r k);clear h ih hn he1 he ht
 go_enter Tryz.func129,Tryz.ntmps129
 go_upto_region 1 with fail
 generalize ((W.alloc (rrO C)).alloc (x.box As cs Am cm)).alloc (vvO p)=W1 at *;generalize hV:(⟨W0,x,As,cs,Am,cm,p,W.heap.size,W.heap.size+1,W.heap.size+2⟩:Vx)=V at *;have HX:Hid (V.x=x∧V.p=p∧V.W0=W0):=by rw[←hV];exact ⟨rfl,rfl,rfl⟩
 have e1:W.heap.size=V.pr:=by rw[←hV]
 have e2:W.heap.size+1=V.px:=by rw[←hV]
 have e3:W.heap.size+2=V.pv:=by rw[←hV]
 have e4:p=V.p:=by rw[←hV]
 have HPW:Hid (V.pv≠V.p):=by show _≠_;rw[←e3,←e4];exact HPV.out
 rw[show W.heap.size+1+1=V.pv from e3,e2,e1];clear hV e1 e2 e3 HPV;have HFL:Hid (∀W' r' k' e' di vk vi vr K I R,VfS C V W' r' k' e' di vk vi vr K I R→FlS C W0 p x.kind W' r' k' e' di vk vi vr K I R):=fun W' r' k' e' di vk vi vr K I R h=>by
  have:=h.fl;obtain ⟨g1,g2,g3⟩:=HX.out;rw[g1,g2,g3] at this;exact this
 clear e4;have rr:=(HV0.out.reads (Bsd.refl _ _)).1.2.2.2.1
 go_upto_if 12 with (go_at_call 126;refine (nrSym_any ⟨#[91]⟩ HV0.out.rd).mono ?_;intro y w3 h3;obtain rfl:=h3.1;obtain ⟨hb3,r1,e1,hr3,hs3⟩:=syQ_of h3;have HV3:=zh (HV0.out.bsd hb3 hr3);have HS3:=zh hs3;have rr3:=(HV3.out.reads (Bsd.refl _ _)).1.2.2.2.1;have rz3:=hr3.zero;clear h3 hb3 hr3 hs3)
 have HSY:=zh (syQ_sy HS3.out)
 by_cases he:e1=0
 case neg =>
  have q1:(e1 != 0)=true:=by simp[he]
  have HP:Hid (mapV x.kind (mapP (valR false C.s) x r k) = .error e1):=by
   show _=_
   have hs:=HSY.out;rw[HMP.out]
   cases hsy:syP ⟨#[91]⟩ r with
   | error e2=>rw[hsy] at hs;rw[hs.1];rfl
   | ok l=>rw[hsy] at hs;exact absurd hs.2 he
  clear he;go_wp2;refine bodyPost_ret (results_none Tryz.results129 _ _ _) rfl ⟨rfl,fill_err (HFL.out _ _ _ _ _ _ _ _ _ _ _ HV3.out) HS3.out.1 z3 HP.out⟩
 subst he;obtain ⟨HQ,HLT⟩:Hid (mapP (valR false C.s) x r k=mapQ (valR false C.s) x r1 k)∧Hid (r1.length<r.length):=by
  have hs:=HSY.out
  cases hsy:syP ⟨#[91]⟩ r with
  | error e2=>rw[hsy] at hs;exact absurd rfl hs.2
  | ok l =>
   rw[hsy] at hs;obtain ⟨rfl,_⟩:=hs;exact ⟨by show _=_;rw[HMP.out,hsy];rfl,(zU hsy).1.2⟩
 clear HSY HS3 HMP rr HV0
 cases ha:isP ⟨#[45,62]⟩ r1 with
 | true =>
  have HA:=zh ha;have HP:Hid (mapP (valR false C.s) x r k=(syP ⟨#[93]⟩ r1.tail).bind fun l2 => .ok ([],l2,k)):=by show _=_;rw[HQ.out];unfold mapQ;rw[if_pos ha]
  obtain ⟨t,q,rfl,_,_⟩:=isP_cons ha;clear ha;go_wp2_with (first|(go_at_call 160;refine (zX ⟨#[45,62]⟩ HV3.out.rd).mono ?_;rintro y w4 ⟨rfl,hb4⟩;rw[HA.out];have HV4:=zh (HV3.out.below hb4);have rr4:=(HV4.out.reads (Bsd.refl _ _)).1.2.2.2.1;obtain ⟨i,hi,c2,f2,hi2,HN5⟩:=HV4.out.rd.nxt;clear hb4));have HV5:=zh (HV4.out.bsd ((Bsd.refl _ _).set 2 (.int .i64 ((i:Int)+1))) (HN5.out.1 _ _ _ HV4.out.rd))
  refine (nrSym_any ⟨#[93]⟩ HV5.out.rd).mono ?_
  intro y w6 h6
  obtain rfl:=h6.1;obtain ⟨hb6,r6,e6,hr6,hs6⟩:=syQ_of h6;have HV6:=zh (HFL.out _ _ _ _ _ _ _ _ _ _ _ (HV5.out.bsd hb6 hr6));have HSY:=zh (syQ_sy hs6);have HL6:=zh hs6.1;clear h6 hb6 hr6 hs6;go_wp2;refine bodyPost_ret (results_none Tryz.results129 _ _ _) rfl ⟨rfl,?_⟩;have hl:r6.length≤r.length:=by have:=HL6.out;have:=HLT.out;rw[List.length_cons] at this;omega
  have hs:=HSY.out;have hp:=HP.out;rw[List.tail_cons] at hp
  cases hsy:syP ⟨#[93]⟩ q with
  | error e2 =>
   rw[hsy] at hs hp;rw[err_bind] at hp;have h9:mapV x.kind (mapP (valR false C.s) x r k) = .error e6:=by rw[hp,mapV_err,hs.1]
   exact fill_err HV6.out hl z3 h9
  | ok l =>
   rw[hsy] at hs hp;obtain ⟨rfl,rfl⟩:=hs;exact fill_ok HV6.out hl z3 rfl (by rw[hp,zM,mapV_ok];rfl)
 | false =>
  have HA:=zh ha
  cases hb:isP ⟨#[93]⟩ r1 with
  | true =>
   have HB:=zh hb;have HP:Hid (mapV x.kind (mapP (valR false C.s) x r k) = .error 2):=by show _=_;rw[HQ.out];unfold mapQ;rw[if_neg (by rw[ha];simp),if_pos hb];rfl
   clear ha hb;go_wp2_with fail;refine (zX ⟨#[45,62]⟩ HV3.out.rd).mono ?_;rintro y w4 ⟨rfl,hb4⟩;rw[HA.out];have HV4:=zh (HV3.out.below hb4);have rr4:=(HV4.out.reads (Bsd.refl _ _)).1.2.2.2.1;clear hb4;go_wp2_with fail;refine (zX ⟨#[93]⟩ HV4.out.rd).mono ?_;rintro y w5 ⟨rfl,hb5⟩;rw[HB.out];have HV5:=zh (HV4.out.below hb5);have rr5:=(HV5.out.reads (Bsd.refl _ _)).1.2.2.2.1;clear hb5;go_wp2_with fail
   refine (nrFail_any 2 HV5.out.rd).mono ?_;rintro y w6 ⟨rfl,g1,g2⟩;have HV6:=zh (HFL.out _ _ _ _ _ _ _ _ _ _ _ (HV5.out.bsd g2 g1));clear g1 g2;go_wp2;refine bodyPost_ret (results_none Tryz.results129 _ _ _) rfl ⟨rfl,fill_err HV6.out (Nat.le_of_lt HLT.out) z3 HP.out⟩
  | false =>
   have HB:=zh hb;have HP:Hid (mapP (valR false C.s) x r k=(sepR (entrP (valR false C.s) x) r1 k).bind fun p=>(syP ⟨#[93]⟩ p.2.1).bind fun l2 => .ok (p.1,l2,p.2.2)):=by show _=_;rw[HQ.out];unfold mapQ;rw[if_neg (by rw[ha];simp),if_neg (by rw[hb];simp)]
   clear ha hb;go_wp2_with fail;refine (zX ⟨#[45,62]⟩ HV3.out.rd).mono ?_;rintro y w4 ⟨rfl,hb4⟩;rw[HA.out];have HV4:=zh (HV3.out.below hb4);have rr4:=(HV4.out.reads (Bsd.refl _ _)).1.2.2.2.1;clear hb4;go_wp2_with fail;refine (zX ⟨#[93]⟩ HV4.out.rd).mono ?_;rintro y w5 ⟨rfl,hb5⟩;rw[HB.out];have HV5:=zh (HV4.out.below hb5);have rr5:=(HV5.out.reads (Bsd.refl _ _)).1.2.2.2.1;clear hb5;go_wp2_with fail
   have HXK:Hid (V.x=x):=HX.out.1;have hc:=entC (C:=C) (V:=V) HIH.out HPW.out (by rw[HXK.out];exact HE1.out) (by rw[HXK.out];exact HEL.out) (r0:=r1) (by have:=HLT.out;have:=HN.out;omega) (Rt:=sepR (entrP (valR false C.s) V.x) r1 k)
   refine (list_entries1 hc HV5.out.rd (fun h=>by rw[HB.out] at h;cases h) (fun _ W' g1 g2=>⟨⟨nilS,nilS,[],[],HV5.out.bsd g1 g2,⟨rfl,by have:=g2.sfx.length_le;simp;omega⟩,SepI.start _ _ _⟩,Nat.le_refl _⟩)).mono ?_
   rintro y w6 ⟨rfl,r6,k6,e6,g1,g2,g3⟩;have HG2:=zh g2;have HG3:=zh g3;have HR6:=zh g1;clear g1 g2 g3 hc;go_wp2;refine bodyPost_end (results_none Tryz.results129 _ _ _) rfl ⟨rfl,?_⟩
   by_cases hz:e6=0
   ·subst hz
    obtain ⟨vk,vi,K,I,g1,⟨g2,g3⟩,l,g4,g5⟩:=HG2.out rfl;rw[HXK.out] at g4;have hlt:=(zU g5).1.2;have hl:=(sepP_lt (ent_dec C.s x) _ _ _ _ _ _ g4).2;have h6:=g1.rd.ok.len;refine fill_ok (HFL.out _ _ _ _ _ _ _ _ _ _ _ g1) (by have:=HLT.out;omega) ⟨by omega,by omega,by simp⟩ ?_ (by rw[HP.out,g4,zM,g5,zM,mapV_ok])
    rw[pairsV_fst g2,pairsV_snd g2]
   ·obtain ⟨vk,vi,K,I,r7,k7,g1,⟨g2,g3⟩,g5,g4⟩:=HG3.out hz
    rw[HXK.out] at g4;refine fill_err (HFL.out _ _ _ _ _ _ _ _ _ _ _ g1) (by have:=HLT.out;omega) ⟨by omega,by omega,by simp⟩ (by rw[HP.out,g4,mapV_err])
def recV (kd:Int) (P:RecT):PR Val:=P.bind fun p => .ok (.mk kd false 0 ⟨#[]⟩ 0 [] p.1.1 p.1.2,p.2)
theorem recV_err (kd e:Int):recV kd (.error e) = .error e:=rfl
theorem recV_ok (kd:Int) (a:List Val) (b:List RawD) (l:List TokD) (k:Bool):recV kd (.ok ((a,b),l,k)) = .ok (.mk kd false 0 ⟨#[]⟩ 0 [] a b,l,k):=rfl
section
variable {C:RCx} {V:Vx}
def RcI (C:RCx) (V:Vx) (Rt:RecT) (n0:Nat) (W:World) (r:List TokD) (k:Bool):Prop:=∃vi vr I R,VfS C V W r k 0 0 nilS vi vr [] I R∧(I.length≤V.x.mems.length∧I.length+R.length+r.length≤C.l.length∧r.length≤n0)∧RecI (valR false C.s) Rt (I.map (·.v)) R (V.x.mems.drop I.length) r k
def RcJ (C:RCx) (V:Vx) (Rt:RecT) (n0:Nat) (W:World) (r:List TokD) (k:Bool):Prop:=∃vi vr I R,VfS C V W r k 0 0 nilS vi vr [] I R∧(I.length≤V.x.mems.length∧I.length+R.length+r.length≤C.l.length∧r.length≤n0)∧RecJ (valR false C.s) Rt (I.map (·.v)) R (V.x.mems.drop I.length) r k
def RcF (C:RCx) (V:Vx) (Rt:RecT) (n0:Nat) (W:World) (r:List TokD) (k:Bool):Prop:=∃vi vr I R,VfS C V W r k 0 0 nilS vi vr [] I R∧(I.length+R.length+r.length≤C.l.length∧r.length≤n0)∧Rt = .ok ((I.map (·.v),R),r,k)
def RcE (C:RCx) (V:Vx) (Rt:RecT) (n0:Nat) (W:World) (e:Int):Prop:=∃vi vr I R r k,VfS C V W r k e 0 nilS vi vr [] I R∧(I.length≤2000000∧R.length≤2000000)∧r.length≤n0∧Rt = .error e
theorem record1_any {n:Nat} (ih:ReadAt C n) {W:World} {r:List TokD} {k:Bool} {vk vi vr:Value} {KL I:List VaA} {R:List RawD} (h:VfS C V W r k 0 0 vk vi vr KL I R) (hpv:V.pv≠V.p) (hn:r.length<n)
  (he:∀y∈V.x.mems,0≤y.type∧y.type<(C.s.length:Int)) {Rt:RecT} (hR:RecI (valR false C.s) Rt (I.map (·.v)) R (V.x.mems.drop I.length) r k) (hl:I.length+R.length≤1000000) (hi:I.length≤V.x.mems.length) :
  Calls Tryz.prog 161 #[.pointer (some ⟨V.pv,0,none⟩),.pointer (some ⟨V.px,0,none⟩),.pointer (some ⟨V.pr,0,none⟩)] W fun y W'=>y = .returned (.tuple #[])∧RcP C V Rt r vk KL I R W':=by
 by_cases h1:I.length<V.x.mems.length
 ·exact record1_mem ih h hpv hn he hR hl h1
 ·exact record1_raw h hpv hR hl (by omega)
theorem recC {n:Nat} (ih:ReadAt C n) (hpv:V.pv≠V.p) (he:∀y∈V.x.mems,0≤y.type∧y.type<(C.s.length:Int)) {n0:Nat} (hn:n0<n) {Rt:RecT} :
  ListC C ⟨#[125]⟩ 161 [.pointer (some ⟨V.pv,0,none⟩),.pointer (some ⟨V.px,0,none⟩),.pointer (some ⟨V.pr,0,none⟩)] (RcI C V Rt n0) (RcJ C V Rt n0) (RcF C V Rt n0) (RcE C V Rt n0) where
 iS:=fun W r k h=>by obtain ⟨_,_,_,_,h,_⟩:=h;exact h.rd
 jS:=fun W r k h=>by obtain ⟨_,_,_,_,h,_⟩:=h;exact h.rd
 part:=fun W r k ⟨vi,vr,I,R,h,⟨h1,h2,h3⟩,h4⟩=>by
  have hl6:=h.rd.ok.len;refine (record1_any ih h hpv (by omega) he h4 (by omega) h1).mono ?_
  rintro y W' ⟨rfl,vi',vr',I',R',r',k',e',g1,g2,g3,g5,g6⟩;refine ⟨rfl,r',k',e',g1.rd,g2,fun e=>?_,fun hne=>?_⟩
  ·obtain ⟨j1,j2,j3⟩:=g5 e
   subst e;exact ⟨vi',vr',I',R',g1,⟨j2,by omega,by omega⟩,j1⟩
  ·exact ⟨vi',vr',I',R',r',k',g1,g3,by omega,g6 hne⟩
 comma:=fun W r k W' ⟨vi,vr,I,R,h,⟨h1,h2,h3⟩,h4⟩ hc hb hr=>by
  have:=isP_sz hc;exact ⟨vi,vr,I,R,h.bsd hb hr,⟨h1,by omega,by omega⟩,h4.comma hc⟩
 fin:=fun W r k W' ⟨vi,vr,I,R,h,⟨h1,h2,h3⟩,h4⟩ hc ht hb hr=>by
  have:=isP_sz ht;exact ⟨vi,vr,I,R,h.bsd hb hr,⟨by omega,by omega⟩,h4.fin hc ht⟩
 bad:=fun W r k W' ⟨vi,vr,I,R,h,⟨h1,h2,h3⟩,h4⟩ hc ht hb hr=>by
  have hl6:=h.rd.ok.len;exact ⟨vi,vr,I,R,r,k,h.bsd hb hr,⟨by omega,by omega⟩,h3,h4.bad hc ht⟩
end
theorem record_any {C:RCx} {W0:World} {p:Nat} {x:TyD} {As:zo} {cs:Nat} {Am:zo} {cm:Nat} {n:Nat} (ih:ReadAt C n) {W:World} {r:List TokD} {k:Bool} (ht:TyR C.w0 x As Am) (h:FlS C W0 p x.kind W r k 0 0 nilS nilS nilS [] [] []) (hn:r.length≤n)
  (he:∀y∈x.mems,0≤y.type∧y.type<(C.s.length:Int)) :
  Calls Tryz.prog 124 #[.pointer (some ⟨C.b,0,none⟩),x.v As cs Am cm,.pointer (some ⟨p,0,none⟩)] W fun y W'=>y = .returned (.tuple #[])∧FillP C W0 p x.kind r (recV x.kind (recP false (valR false C.s) x r k)) W':=by
 have HV0:=zh (h.three (cs:=cs) (cm:=cm) ht);have HPV:=zh h.pvp;have HN:=zh hn;have HIH:=zh ih;have HEL:=zh he;have HMP:=zh (recP_eq (f:=valR false C.s) x r k);clear h ih hn he ht
 go_enter Tryz.func124,Tryz.ntmps124
 go_upto_region 1 with fail
 generalize ((W.alloc (rrO C)).alloc (x.box As cs Am cm)).alloc (vvO p)=W1 at *;generalize hV:(⟨W0,x,As,cs,Am,cm,p,W.heap.size,W.heap.size+1,W.heap.size+2⟩:Vx)=V at *;have HX:Hid (V.x=x∧V.p=p∧V.W0=W0):=by rw[←hV];exact ⟨rfl,rfl,rfl⟩
 have e1:W.heap.size=V.pr:=by rw[←hV]
 have e2:W.heap.size+1=V.px:=by rw[←hV]
 have e3:W.heap.size+2=V.pv:=by rw[←hV]
 have e4:p=V.p:=by rw[←hV]
 have HPW:Hid (V.pv≠V.p):=by show _≠_;rw[←e3,←e4];exact HPV.out
 rw[show W.heap.size+1+1=V.pv from e3,e2,e1];clear hV e1 e2 e3 HPV;have HFL:Hid (∀W' r' k' e' di vk vi vr K I R,VfS C V W' r' k' e' di vk vi vr K I R→FlS C W0 p x.kind W' r' k' e' di vk vi vr K I R):=fun W' r' k' e' di vk vi vr K I R h=>by
  have:=h.fl;obtain ⟨g1,g2,g3⟩:=HX.out;rw[g1,g2,g3] at this;exact this
 clear e4;have rr:=(HV0.out.reads (Bsd.refl _ _)).1.2.2.2.1
 go_upto_if 12 with (go_at_call 126;refine (nrSym_any ⟨#[123]⟩ HV0.out.rd).mono ?_;intro y w3 h3;obtain rfl:=h3.1;obtain ⟨hb3,r1,e1,hr3,hs3⟩:=syQ_of h3;have HV3:=zh (HV0.out.bsd hb3 hr3);have HS3:=zh hs3;have rr3:=(HV3.out.reads (Bsd.refl _ _)).1.2.2.2.1;have rm3:=(HV3.out.reads (Bsd.refl _ _)).1.2.2.2.2.1;rw[HX.out.1] at rm3;have rz3:=hr3.zero;clear h3 hb3 hr3 hs3)
 have HSY:=zh (syQ_sy HS3.out)
 by_cases he:e1=0
 case neg =>
  have q1:(e1 != 0)=true:=by simp[he]
  have HP:Hid (recV x.kind (recP false (valR false C.s) x r k) = .error e1):=by
   show _=_
   have hs:=HSY.out;rw[HMP.out]
   cases hsy:syP ⟨#[123]⟩ r with
   | error e2=>rw[hsy] at hs;rw[hs.1];rfl
   | ok l=>rw[hsy] at hs;exact absurd hs.2 he
  clear he;go_wp2;refine bodyPost_ret (results_none Tryz.results124 _ _ _) rfl ⟨rfl,fill_err (HFL.out _ _ _ _ _ _ _ _ _ _ _ HV3.out) HS3.out.1 z3 HP.out⟩
 subst he;obtain ⟨HQ,HLT⟩:Hid (recP false (valR false C.s) x r k=recR (valR false C.s) x.mems r1 k)∧Hid (r1.length<r.length):=by
  have hs:=HSY.out
  cases hsy:syP ⟨#[123]⟩ r with
  | error e2=>rw[hsy] at hs;exact absurd rfl hs.2
  | ok l =>
   rw[hsy] at hs;obtain ⟨rfl,_⟩:=hs;exact ⟨by show _=_;rw[HMP.out,hsy];rfl,(zU hsy).1.2⟩
 have HXK:Hid (V.x=x):=HX.out.1;clear HSY HS3 HMP rr HV0;have HEND:Hid (∀W5,VfS C V W5 r1 k 0 0 nilS nilS nilS [] [] []→(isP ⟨#[125]⟩ r1=true→x.mems=[]) →
   Calls Tryz.prog 127 #[.pointer (some ⟨C.b,0,none⟩),.string ⟨#[125]⟩,.func (.func 161) #[] #[.pointer (some ⟨V.pv,0,none⟩),.pointer (some ⟨V.px,0,none⟩),.pointer (some ⟨V.pr,0,none⟩)]] W5 fun y W'=>y = .returned (.tuple #[])∧FillP C W0 p x.kind r (recV x.kind (recP false (valR false C.s) x r k)) W'):=fun W5 h5 hm=>by
  have hl1:=h5.rd.sfx.length_le;have hc:=recC (C:=C) (V:=V) HIH.out HPW.out (by rw[HXK.out];exact HEL.out) (n0:=r1.length) (by have:=HLT.out;have:=HN.out;omega) (Rt:=recR (valR false C.s) x.mems r1 k)
  refine (list_record1 hc h5.rd (fun h W' g1 g2=>?_) (fun h W' g1 g2=>⟨nilS,nilS,[],[],h5.bsd g1 g2,⟨by simp,by simp;omega,Nat.le_refl _⟩,by rw[HXK.out];exact RecI.start h⟩)).mono ?_
  ·have:=isP_sz h
   refine ⟨nilS,nilS,[],[],h5.bsd g1 g2,⟨by simp;omega,by omega⟩,?_⟩
   rw[hm h];exact recR_none h
  ·rintro y w6 ⟨rfl,r6,k6,e6,g1,g2,g3⟩
   refine ⟨rfl,?_⟩;have hlt:=HLT.out;have h6:=h5.rd.ok.len
   by_cases hz:e6=0
   ·subst hz
    obtain ⟨vi,vr,I,R,j1,⟨j2,j3⟩,j4⟩:=g2 rfl;exact fill_ok (HFL.out _ _ _ _ _ _ _ _ _ _ _ j1) (by omega) ⟨by simp,by omega,by omega⟩ rfl (by rw[HQ.out,j4,recV_ok];rfl)
   ·obtain ⟨vi,vr,I,R,r7,k7,j1,⟨j2,j3⟩,j4,j5⟩:=g3 hz
    exact fill_err (HFL.out _ _ _ _ _ _ _ _ _ _ _ j1) (by omega) ⟨by simp,j2,j3⟩ (by rw[HQ.out,j5,recV_err])
 by_cases hm:x.mems=[]
 ·have q2:¬ (0:Int)<(x.mems.length:Int):=by rw[hm];simp
  have HM:=zh hm;clear hm;go_wp2_with fail;refine (HEND.out _ (HV3.out.below (zC (Below.refl _ _) 0)) (fun _=>HM.out)).mono ?_
  rintro y w6 ⟨rfl,h6⟩;have H6:=zh h6;clear h6;go_wp2;refine bodyPost_end (results_none Tryz.results124 _ _ _) rfl ⟨rfl,H6.out⟩
 ·have q2:(0:Int)<(x.mems.length:Int):=by have:=List.length_pos_iff.2 hm;omega
  cases hb:isP ⟨#[125]⟩ r1 with
  | true =>
   have HB:=zh hb;have HP:Hid (recV x.kind (recP false (valR false C.s) x r k) = .error 2):=by show _=_;rw[HQ.out,recR_bad hm hb];rfl
   clear hm hb;go_wp2_with fail;refine (zX ⟨#[125]⟩ HV3.out.rd).mono ?_;rintro y w4 ⟨rfl,hb4⟩;rw[HB.out];have HV4:=zh (HV3.out.below hb4);have rr4:=(HV4.out.reads (Bsd.refl _ _)).1.2.2.2.1;clear hb4;go_wp2_with fail;refine (nrFail_any 2 HV4.out.rd).mono ?_;rintro y w6 ⟨rfl,g1,g2⟩;have HV6:=zh (HFL.out _ _ _ _ _ _ _ _ _ _ _ (HV4.out.bsd g2 g1));clear g1 g2;go_wp2
   refine bodyPost_ret (results_none Tryz.results124 _ _ _) rfl ⟨rfl,fill_err HV6.out (Nat.le_of_lt HLT.out) z3 HP.out⟩
  | false =>
   have HB:=zh hb;clear hm hb;go_wp2_with fail;refine (zX ⟨#[125]⟩ HV3.out.rd).mono ?_;rintro y w4 ⟨rfl,hb4⟩;rw[HB.out];have HV4:=zh (HV3.out.below hb4);have rr4:=(HV4.out.reads (Bsd.refl _ _)).1.2.2.2.1;clear hb4;go_wp2_with fail;refine (HEND.out _ HV4.out (fun h=>by rw[HB.out] at h;cases h)).mono ?_
   rintro y w6 ⟨rfl,h6⟩;have H6:=zh h6;clear h6;go_wp2;refine bodyPost_end (results_none Tryz.results124 _ _ _) rfl ⟨rfl,H6.out⟩
def optV (kd:Int) (P:PR (List Val)):PR Val:=P.bind fun p => .ok (.mk kd false 0 ⟨#[]⟩ 0 [] p.1 [],p.2)
theorem optV_err (kd e:Int):optV kd (.error e) = .error e:=rfl
theorem optV_ok (kd:Int) (a:List Val) (l:List TokD) (k:Bool):optV kd (.ok (a,l,k)) = .ok (.mk kd false 0 ⟨#[]⟩ 0 [] a [],l,k):=rfl
theorem lit_beq (a:ByteArray) (l:List UInt8):(a.toList==l)=decide (a=⟨l.toArray⟩):=by
 have h:(⟨l.toArray⟩:ByteArray).toList=l:=by rw[Lib.toList_data]
 have:=bytes_beq a ⟨l.toArray⟩
 rwa [h] at this
section
variable {C:RCx} {W0 W W':World} {p:Nat} {kd:Int} {r r':List TokD} {k k':Bool} {e e' di:Int}
theorem FlS.one (h:FlS C W0 p kd W r k e di nilS nilS nilS [] [] []) {W6:World} (hb:Bsd C.b W W6) (hr:RdS C W6 r' k' e') {x:VaA} (hx:Off (fun q=>q<W.heap.size) W6 fun u=>ValR u x.v x.A1 x.A2 x.A3) :
  FlS C W0 p kd ((W6.alloc (.cells x.cells.toArray 28)).setCell ⟨p,6,none⟩ (.slice (some ⟨W6.heap.size,0,none⟩) 1 1)) r' k' e' di nilS (.slice (some ⟨W6.heap.size,0,none⟩) 1 1) nilS [] [x] []:=by
 have h6:=h.bsd hb hr;have ho:(W6.alloc (.cells x.cells.toArray 28)).ownsRow (p+1) 28 8 (.slice (some ⟨W6.heap.size,0,none⟩) 1 1) 1 ([]++x.cells):=by
  exact World.ownsRow_lit (base:=p+1) (e:=28) (size:=8) W6 x.cells.toArray 1 h6.vb.lt (by unfold maxLen;omega) rfl
 obtain ⟨g1,g2,g3⟩:=h6.vb.item (x:=x) (v8 := .slice (some ⟨W6.heap.size,0,none⟩) 1 1) (w8:=W6.alloc (.cells x.cells.toArray 28)) (hx.mono fun q _ hq=>by
  have hl:=h.vb.lt
  rcases hq with e|e|e|e
  ·omega
  ·cases e
  ·cases e
  ·cases e) (Below.refl _ _) ho (World.grownBy_alloc W6 _ none) (.inr rfl)
 exact ⟨⟨h6.rd.ok,(g2.block _ h6.bp).trans h6.rd.blk,h6.rd.sfx,h6.rd.up.trans (g2.mono (by have:=h6.bp;have:=h6.rd.ok.ge;omega))⟩,g1,h6.fr.up g2 h6.lo (Nat.le_of_lt h6.bp),h6.lo,h6.lb⟩
theorem keep_blk {b q:Nat} {w w':World} {o:Obj} (h:w.heap[q]? = some o) (hb:Bsd b w w') (hq:q≠b):w'.heap[q]? = some o:=(hb.oth q hq (zg.1 h).1).trans h
end
theorem optional_any {C:RCx} {W0:World} {p:Nat} {x:TyD} {As:zo} {cs:Nat} {Am:zo} {cm:Nat} {n:Nat} (ih:ReadAt C n) {W:World} {r:List TokD} {k:Bool} (h:FlS C W0 p x.kind W r k 0 0 nilS nilS nilS [] [] []) (hn:r.length≤n)
  (he:0≤x.elem∧x.elem<(C.s.length:Int)) :
  Calls Tryz.prog 130 #[.pointer (some ⟨C.b,0,none⟩),x.v As cs Am cm,.pointer (some ⟨p,0,none⟩)] W fun y W'=>y = .returned (.tuple #[])∧FillP C W0 p x.kind r (optV x.kind (optP (valR false C.s) x r k)) W':=by
 have HF0:=zh (h.below (zD W (x.box As cs Am cm)));have HX0:=zh (heap_alloc_new W (x.box As cs Am cm));have HXB:Hid (W.heap.size≠C.b):=by have:=h.rd.lt;show _≠_;omega
 have HN:=zh hn;have HIH:=zh ih;have HEL:=zh he;have HP0:Hid (optP (valR false C.s) x r k=(tkP 1 r).bind fun p=>if p.1.text=⟨#[110,111,110,101]⟩ then .ok ([],p.2,k)
  else if p.1.text=⟨#[115,111,109,101]⟩ then (syP ⟨#[40]⟩ p.2).bind fun l2=>(valR false C.s x.elem l2 k).bind fun q=>(syP ⟨#[41]⟩ q.2.1).bind fun l4 => .ok ([q.1],l4,q.2.2)
  else .error 2):=rfl
 clear h ih hn he
 go_enter Tryz.func130,Tryz.ntmps130
 go_upto_region 1 with fail
 generalize W.alloc (x.box As cs Am cm)=W1 at *
 go_cut [6] (fun s wx=>∃tb t0 r1 e1,s = .pointer (some ⟨tb,0,none⟩)∧Hid (FlS C W0 p x.kind wx r1 k e1 0 nilS nilS nilS [] [] []∧wx.heap[W.heap.size]? = some (x.box As cs Am cm)∧wx.heap[tb]? = some (tkO t0)∧TkQ 1 r t0 r1 e1))
 case first =>
  go_wp2_with (go_at_call 122;refine (nrTake_any 1 HF0.out.rd).mono ?_;intro y w3 h3;obtain ⟨t0,r1,e1,rfl,g1,g2,g3⟩:=tkQ_of h3;have HF3:=zh (HF0.out.bsd g1 g2);have HX3:=zh (keep_blk HX0.out g1 HXB.out);have HQ3:=zh g3;clear h3 g1 g2 g3)
  go_meet
  exact ⟨_,t0,r1,e1,rfl,HF3.out.below (zD _ _),nblk HX3.out (zD _ _),heap_alloc_new _ _,HQ3.out⟩
 case rest =>
 obtain ⟨W3,rfl⟩:∃W:World,W=wc:=⟨_,rfl⟩;obtain ⟨tb,t0,r1,e1,rfl,h3⟩:=hcut;have HF3:=zh h3.out.1;have HX3:=zh h3.out.2.1;have HQ3:=zh h3.out.2.2.2;obtain ⟨⟨_,x1,_,_,_⟩,_⟩:=five_cells h3.out.2.2.1;clear h3 HF0 HX0;have rz:=HF3.out.rd.zero
 by_cases hz:e1=0
 case neg =>
  have q1:(e1 != 0)=true:=by simp[hz]
  have HP:Hid (optV x.kind (optP (valR false C.s) x r k) = .error e1):=by
   show _=_
   have ht:=HQ3.out.tk;rw[HP0.out]
   cases hk:tkP 1 r with
   | error e2=>rw[hk] at ht;rw[ht.1];rfl
   | ok q=>rw[hk] at ht;exact absurd ht.2.2.1 hz
  clear hz;go_wp2;refine bodyPost_ret (results_none Tryz.results130 _ _ _) rfl ⟨rfl,fill_err HF3.out HQ3.out.1.1 z3 HP.out⟩
 subst hz;obtain ⟨HP1,HLT⟩:Hid (optP (valR false C.s) x r k=if t0.text=⟨#[110,111,110,101]⟩ then .ok ([],r1,k)
  else if t0.text=⟨#[115,111,109,101]⟩ then (syP ⟨#[40]⟩ r1).bind fun l2=>(valR false C.s x.elem l2 k).bind fun q=>(syP ⟨#[41]⟩ q.2.1).bind fun l4 => .ok ([q.1],l4,q.2.2)
  else .error 2)∧Hid (r1.length<r.length):=by
  have ht:=HQ3.out.tk
  cases hk:tkP 1 r with
  | error e2=>rw[hk] at ht;exact absurd rfl ht.2
  | ok q =>
   rw[hk] at ht;refine ⟨?_,ht.2.2.2⟩
   show _=_
   rw[HP0.out,hk,zM,ht.1,ht.2.1]
 clear HP0 HQ3
 by_cases h1:t0.text=⟨#[110,111,110,101]⟩
 ·have q2:(t0.text.toList==([110,111,110,101]:List UInt8))=true:=by rw[lit_beq];exact decide_eq_true h1
  have HP:Hid (optV x.kind (optP (valR false C.s) x r k) = .ok (.mk x.kind false 0 ⟨#[]⟩ 0 [] [] [],r1,k)):=by show _=_;rw[HP1.out,if_pos h1,optV_ok]
  clear h1;go_wp2;refine bodyPost_ret (results_none Tryz.results130 _ _ _) rfl ⟨rfl,fill_ok HF3.out (Nat.le_of_lt HLT.out) z3 rfl HP.out⟩
 have q2:(t0.text.toList==([110,111,110,101]:List UInt8))=false:=by rw[lit_beq];exact decide_eq_false h1
 by_cases h2:t0.text=⟨#[115,111,109,101]⟩
 case neg =>
  have q3:(t0.text.toList==([115,111,109,101]:List UInt8))=false:=by rw[lit_beq];exact decide_eq_false h2
  have HP:Hid (optV x.kind (optP (valR false C.s) x r k) = .error 2):=by show _=_;rw[HP1.out,if_neg h1,if_neg h2,optV_err]
  clear h1 h2;go_wp2_with fail;refine (nrFail_any 2 HF3.out.rd).mono ?_;rintro y w6 ⟨rfl,g1,g2⟩;have HF6:=zh (HF3.out.bsd g2 g1);clear g1 g2;go_wp2;refine bodyPost_ret (results_none Tryz.results130 _ _ _) rfl ⟨rfl,fill_err HF6.out (Nat.le_of_lt HLT.out) z3 HP.out⟩
 have q3:(t0.text.toList==([115,111,109,101]:List UInt8))=true:=by rw[lit_beq];exact decide_eq_true h2
 have HP:Hid (optP (valR false C.s) x r k=(syP ⟨#[40]⟩ r1).bind fun l2=>(valR false C.s x.elem l2 k).bind fun q=>(syP ⟨#[41]⟩ q.2.1).bind fun l4 => .ok ([q.1],l4,q.2.2)):=by show _=_;rw[HP1.out,if_neg h1,if_pos h2]
 clear h1 h2 HP1;go_wp2_with fail;refine (nrSym_any ⟨#[40]⟩ HF3.out.rd).mono ?_
 intro y w4 h4
 obtain rfl:=h4.1;obtain ⟨hb4,r2,e2,hr4,hs4⟩:=syQ_of h4;have HF4:=zh (HF3.out.bsd hb4 hr4);have HX4:=zh (keep_blk HX3.out hb4 HXB.out);have HS4:=zh hs4;have x8:w4.cell? ⟨W.heap.size,8,none⟩=some (.int .i64 x.elem):=by rw[cell_of_row _ _ _ _ _ _ HX4.out];rfl
 clear h4 hb4 hr4 hs4 rz x1;go_wp2_with fail;refine (HIH.out x.elem _ r2 k e2 (by have:=HS4.out.1;have:=HLT.out;have:=HN.out;omega) HEL.out HF4.out.rd).mono ?_
 rintro y w5 ⟨xa,rfl,g1,g2,r5,k5,e5,g3,g4,g5,g6⟩;have HF6:=zh (HF4.out.one g2 g3 g1);have HV5:=zh (HF4.out.bsd g2 g3);have HG4:=zh g4;have HG5:=zh g5;have HG6:=zh g6;obtain ⟨⟨_,_,_,_,_,_,c6,_⟩,cf⟩:=(HV5.out.vb.below (zD w5 (.cells xa.cells.toArray 28))).cells;have f6:=cf 6;clear g1 g2 g3 g4 g5 g6 cf;have HE2:Hid (SyQ ⟨#[40]⟩ r1 0 r2 e2):=HS4.out;unfold VaA.cells Val.cs at HF6 c6 f6
 go_upto_region 7 with fail
 generalize World.setCell (World.alloc w5 _) _ _=W6 at *;have HL1:Hid (([]:List VaA).length≤2000000∧[xa].length≤2000000∧([]:List RawD).length≤2000000):=⟨by simp,by simp,by simp⟩
 have rz:=HF6.out.rd.zero
 by_cases hz:e5=0
 case neg =>
  have q1:(e5==0)=false:=by simp[hz]
  have HP5:Hid (optV x.kind (optP (valR false C.s) x r k) = .error e5):=by
   show _=_
   have hs:=syQ_sy HE2.out;rw[HP.out]
   cases hsy:syP ⟨#[40]⟩ r1 with
   | error e=>rw[hsy] at hs;rw[err_bind,optV_err,HG5.out hs.2,hs.1]
   | ok l =>
    rw[hsy] at hs;have hv:=HG6.out hs.2;rw[zM,←hs.1]
    cases hw:valR false C.s x.elem r2 k with
    | error e=>rw[hw] at hv;rw[err_bind,optV_err,hv]
    | ok q=>rw[hw] at hv;exact absurd hv.2.2.2 hz
  clear hz;go_wp2;refine bodyPost_end (results_none Tryz.results130 _ _ _) rfl ⟨rfl,fill_err HF6.out (by have:=HG4.out;have:=HS4.out.1;have:=HLT.out;omega) HL1.out HP5.out⟩
 subst hz;obtain ⟨HP5,HLV⟩:Hid (optP (valR false C.s) x r k=(syP ⟨#[41]⟩ r5).bind fun l4 => .ok ([xa.v],l4,k5))∧Hid (r5.length≤r.length):=by
  have hs:=syQ_sy HE2.out;refine ⟨?_,by have:=HG4.out;have:=HS4.out.1;have:=HLT.out;show _≤_;omega⟩
  show _=_
  rw[HP.out]
  cases hsy:syP ⟨#[40]⟩ r1 with
  | error e =>
   rw[hsy] at hs;exact absurd (HG5.out hs.2) (fun g=>hs.2 g.symm)
  | ok l =>
   rw[hsy] at hs;have hv:=HG6.out hs.2;rw[zM,←hs.1]
   cases hw:valR false C.s x.elem r2 k with
   | error e =>
    rw[hw] at hv;exact absurd (hv▸hw) (valR_nz false _ _ _ _)
   | ok q =>
    obtain ⟨v,r1',k1'⟩:=q;rw[hw] at hv;obtain ⟨rfl,rfl,rfl,_⟩:=hv
    rfl
 go_wp2_with fail
 refine (nrSym_any ⟨#[41]⟩ HF6.out.rd).mono ?_
 intro y w7 h7
 obtain rfl:=h7.1;obtain ⟨hb7,r7,e7,hr7,hs7⟩:=syQ_of h7;have HF7:=zh (HF6.out.bsd hb7 hr7);have HS7:=zh hs7;clear h7 hb7 hr7 hs7;go_wp2;refine bodyPost_end (results_none Tryz.results130 _ _ _) rfl ⟨rfl,?_⟩;have hs:=syQ_sy HS7.out;have hl7:r7.length≤r.length:=by have:=HS7.out.1;have:=HLV.out;omega
 have hp:=HP5.out
 cases hsy:syP ⟨#[41]⟩ r5 with
 | error e2=>rw[hsy] at hs hp;exact fill_err HF7.out hl7 HL1.out (by rw[hp,err_bind,optV_err,hs.1])
 | ok l =>
  rw[hsy] at hs hp;obtain ⟨rfl,rfl⟩:=hs;exact fill_ok HF7.out hl7 HL1.out rfl (by rw[hp,zM,optV_ok];rfl)
theorem scSymC_any (n:Int) (t:TyD) (As:zo) (cs:Nat) (Am:zo) (cm:Nat) (w:World) (ht:TyR w t As Am) :
  Calls Tryz.prog 68 #[t.v As cs Am cm,.int .i64 n] w fun e w'=>∃r:Int,e = .returned (.tuple #[.int .i64 r,.bool (t.syms.any fun y=>decide (y.id=n))])∧Below w.heap.size w w' :=
 (scSym_any n t As cs Am cm w ht).mono fun e w' ⟨h1,h2⟩=>⟨_,h1.trans (by rw[idxD_any]),h2⟩
theorem find_atL {α:Type} {p:α→Bool}:∀ (l:List α) (i:Nat) (hi:i<l.length),p l[i]=true→(∀j (h:j<l.length),j<i→p l[j]=false)→l.find? p=some l[i]
 | [],i,hi,_,_=>absurd hi (Nat.not_lt_zero _)
 | a::l,0,_,h,_=>by
  have h':p a=true:=h;rw[List.find?_cons_of_pos h'];rfl
 | a::l,i+1,hi,h,hn=>by
  rw[List.find?_cons_of_neg (by have:=hn 0 (by simp) (by omega);simp at this;simp[this])]
  exact find_atL l i (by simpa using hi) h fun j hj hl=>hn (j+1) (by simpa using hj) (by omega)
theorem find_noL {α:Type} {p:α→Bool} {l:List α} (h:∀j (hj:j<l.length),p l[j]=false):l.find? p=none:=by
 rw[List.find?_eq_none]
 intro x hx
 obtain ⟨j,hj,rfl⟩:=List.getElem_of_mem hx;rw[h j hj];simp
def EmP (C:RCx) (W:World) (r:List TokD) (P:PR Int) (y:Ending) (W':World):Prop:=∃d:Int,y = .returned (.int .i64 d)∧Bsd C.b W W'∧∃r' k' e',RdS C W' r' k' e'∧r'.length≤r.length∧match P with
 | .ok (v,r1,k1)=>d=v∧r'=r1∧k'=k1∧e'=0
 | .error e1=>e'=e1
theorem enum_any {C:RCx} {x:TyD} {As:zo} {cs:Nat} {Am:zo} {cm:Nat} {W:World} {r:List TokD} {k:Bool} (h:RdS C W r k 0) (ht:TyR C.w0 x As Am) :
  Calls Tryz.prog 123 #[.pointer (some ⟨C.b,0,none⟩),x.v As cs Am cm] W (EmP C W r (enumP false x r k)):=by
 have HW1:=zh (h.bsd (zD W (x.box As cs Am cm)));have HR1:=zh (h.below (zD W (x.box As cs Am cm)));have HX1:=zh (heap_alloc_new W (x.box As cs Am cm));have HLT:=zh h.lt;have HXB:Hid (W.heap.size≠C.b):=by have:=h.lt;show _≠_;omega
 have HTY:=zh ht;have HP0:Hid (enumP false x r k=if isP ⟨#[64]⟩ r=true then (tkP 2 r.tail).bind fun p=>(if knowP x p.1.int=true then .ok (p.1.int,p.2,true) else .ok (p.1.int,p.2,k))
  else (tkP 1 r).bind fun p =>
   match x.syms.find? fun y=>decide (y.name=p.1.text) with
   | some y => .ok (y.id,p.2,k)
   | none => .error 4):=by
  show _=_
  unfold enumP
  split
  ·congr 1
  ·rfl
 clear h ht
 go_enter Tryz.func123,Tryz.ntmps123
 go_upto_region 1 with fail
 generalize W.alloc (x.box As cs Am cm)=W1 at *
 cases hi:isP ⟨#[64]⟩ r with
 | true =>
  have HI:=zh hi;rw[if_pos hi] at HP0;obtain ⟨t,q,rfl,_,_⟩:=isP_cons hi;clear hi;go_wp2_with fail;refine (zX ⟨#[64]⟩ HR1.out).mono ?_;rintro y w2 ⟨rfl,hb2⟩;rw[HI.out];have HR2:=zh (HR1.out.below hb2);have HW2:=zh (HW1.out.below hb2 HLT.out);have HX2:=zh (nblk HX1.out hb2);obtain ⟨i,hi,c2,f2,hi2,HN⟩:=HR2.out.nxt;clear hb2;go_wp2_with fail;have HR3:=zh (HN.out.1 _ _ _ HR2.out)
  have HW3:=zh (HW2.out.set 2 (.int .i64 ((i:Int)+1)));have HX3:=zh ((heap_setCell_other w2 ⟨C.b,2,none⟩ _ (.int .i64 ((i:Int)+1)) HXB.out).trans HX2.out);refine (nrTake_any 2 HR3.out).mono ?_
  intro y w4 h4
  obtain ⟨t0,r1,e1,rfl,g1,g2,g3⟩:=tkQ_of h4;have HR4:=zh g2;have HW4:=zh (HW3.out.trans g1);have HX4:=zh (keep_blk HX3.out g1 HXB.out);have HQ4:=zh g3;have fd2:=fld_tok2;obtain ⟨b0,b1,b2,b3,b4,b5,b6,b7,b8,b9⟩:=zG (show TBox w4 W.heap.size x As cs Am cm from HX4.out);clear h4 g1 g2 g3;go_wp2_with fail;refine (scSymC_any t0.int x As cs Am cm _ (HTY.out.below HR4.out.up)).mono ?_
  rintro y w5 ⟨ix,rfl,hb5⟩;have HR5:=zh (HR4.out.below hb5);have HW5:=zh (HW4.out.below hb5 HLT.out);have c3:=HR5.out.cells.1.2.2.2.1;have f3:=HR5.out.cells.2 3;have HKN:Hid (knowP x t0.int=x.syms.any fun y=>decide (y.id=t0.int)):=rfl
  clear hb5 b0 b1 b2 b3 b4 b5 b6 b7 b8 b9;generalize (x.syms.any fun y=>decide (y.id=t0.int))=kn at *
  have HEND:Hid (∀W6 k6,RdS C W6 r1 k6 e1→Bsd C.b W W6→(k6=(k||kn))→EmP C W (t::q) (enumP false x (t::q) k) (.returned (.int .i64 t0.int)) W6):=fun W6 k6 h1 h2 h3=>by
   refine ⟨_,rfl,h2,r1,k6,e1,h1,by have:=HQ4.out.1.1;simp;omega,?_⟩
   have ht:=HQ4.out.tk;rw[HP0.out,List.tail_cons]
   cases hk:tkP 2 q with
   | error e=>rw[hk] at ht;exact ht.1
   | ok p =>
    rw[hk] at ht;rw[zM,←ht.1,←ht.2.1,HKN.out]
    cases kn with
    | true=>rw[if_pos rfl];exact ⟨rfl,rfl,by rw[h3];simp,ht.2.2.1⟩
    | false=>rw[if_neg (by simp)];exact ⟨rfl,rfl,by rw[h3];simp,ht.2.2.1⟩
  cases k with
  | true =>
   go_wp2
   go_ret
   exact HEND.out _ true (HR5.out.setK true) (HW5.out.set 3 _) rfl
  | false =>
   go_wp2
   go_ret
   exact HEND.out _ kn (HR5.out.setK kn) (HW5.out.set 3 _) rfl
 | false =>
  have HI:=zh hi;rw[if_neg (by rw[hi];simp)] at HP0
  clear hi;go_wp2_with fail;refine (zX ⟨#[64]⟩ HR1.out).mono ?_;rintro y w2 ⟨rfl,hb2⟩;rw[HI.out];have HR2:=zh (HR1.out.below hb2);have HW2:=zh (HW1.out.below hb2 HLT.out);have HX2:=zh (nblk HX1.out hb2);clear hb2;go_upto_region 7 with fail
  go_cut [8] (fun s wx=>∃tb t0 r1 e1,s = .pointer (some ⟨tb,0,none⟩)∧Hid (Bsd C.b W wx∧RdS C wx r1 k e1∧wx.heap[W.heap.size]? = some (x.box As cs Am cm)∧wx.heap[tb]? = some (tkO t0)∧TkQ 1 r t0 r1 e1))
  case first =>
   go_wp2_with (go_at_call 122;refine (nrTake_any 1 HR2.out).mono ?_;intro y w3 h3;obtain ⟨t0,r1,e1,rfl,g1,g2,g3⟩:=tkQ_of h3;have HW3:=zh (HW2.out.trans g1);have HR3:=zh g2;have HX3:=zh (keep_blk HX2.out g1 HXB.out);have HQ3:=zh g3;clear h3 g1 g2 g3)
   go_meet
   exact ⟨_,t0,r1,e1,rfl,HW3.out.below (zD _ _) HLT.out,HR3.out.below (zD _ _),nblk HX3.out (zD _ _),heap_alloc_new _ _,HQ3.out⟩
  case rest =>
  obtain ⟨W3,rfl⟩:∃W:World,W=wc:=⟨_,rfl⟩;obtain ⟨tb,t0,r1,e1,rfl,h3⟩:=hcut;have HW3:=zh h3.out.1;have HR3:=zh h3.out.2.1;have HX3:=zh h3.out.2.2.1;have HB3:=zh h3.out.2.2.2.1;have HQ3:=zh h3.out.2.2.2.2;clear h3;have rz:=HR3.out.zero
  by_cases hz:e1=0
  case neg =>
   have q1:(e1 != 0)=true:=by simp[hz]
   have HP:Hid (enumP false x r k = .error e1):=by
    show _=_
    have ht:=HQ3.out.tk;rw[HP0.out]
    cases hk:tkP 1 r with
    | error e2=>rw[hk] at ht;rw[ht.1];rfl
    | ok q=>rw[hk] at ht;exact absurd ht.2.2.1 hz
   clear hz;go_wp2;go_ret;exact ⟨_,rfl,HW3.out,r1,k,e1,HR3.out,HQ3.out.1.1,by rw[HP.out]⟩
  subst hz;have HP:Hid (enumP false x r k=match x.syms.find? fun y=>decide (y.name=t0.text) with
   | some y => .ok (y.id,r1,k)
   | none => .error 4):=by
   show _=_
   have ht:=HQ3.out.tk;rw[HP0.out]
   cases hk:tkP 1 r with
   | error e2=>rw[hk] at ht;exact absurd rfl ht.2
   | ok q =>
    rw[hk] at ht;rw[zM,←ht.1,←ht.2.1]
  have HL3:=zh HQ3.out.1.1;have x5:W3.cell? ⟨W.heap.size,5,none⟩=some (.slice As x.syms.length cs):=by rw[cell_of_row _ _ _ _ _ _ HX3.out];rfl
  have hln:=HTY.out.syms.1;unfold Lim at hln;have hln2:(x.syms.length:Int)≤1000000000000000:=by omega
  clear HQ3 HP0 hln;go_wp2
  go_loopw [50] (fun a wr=>∃i:Nat,i≤x.syms.length∧a = .int .i64 (i:Int)∧Hid (Below W3.heap.size W3 wr∧∀j (hj:j<x.syms.length),j<i→decide ((x.syms[j]).name=t0.text)=false)) (fun a _=>x.syms.length - (intOf a).toNat)
  case atStart=>exact ⟨0,by omega,rfl,Below.refl _ _,fun j _ h=>absurd h (by omega)⟩
  case round =>
   obtain ⟨i,hi,rfl,hh⟩:=hrel;have HB:=zh hh.out.1;have HNO:=zh hh.out.2;clear hh
   by_cases hlt:i<x.syms.length
   ·obtain ⟨sb,so,rfl,hr1,a0,a1⟩:=(HTY.out.syms.below (HR3.out.below HB.out).up).at2 hlt
    obtain ⟨⟨_,n1,_,_,_⟩,_⟩:=five_cells (nblk HB3.out HB.out);have h1:(0:Int)≤(i:Int):=by omega
    have h2:(i:Int)<(x.syms.length:Int):=by omega
    clear hr1
    by_cases hnm:(x.syms[i]).name=t0.text
    ·have q2:((x.syms[i]).name.toList==t0.text.toList)=true:=by rw[bytes_beq];exact decide_eq_true hnm
     have HFI:Hid (enumP false x r k = .ok ((x.syms[i]).id,r1,k)):=by
      show _=_
      rw[HP.out,find_atL (p:=fun y=>decide (y.name=t0.text)) x.syms i hlt (decide_eq_true hnm) HNO.out]
     clear hnm;have htb:=zL n1;simp only at htb;go_wp2;go_ret;exact ⟨_,rfl,(HW3.out.below HB.out HLT.out).below (zD _ _) HLT.out,r1,k,0,(HR3.out.below HB.out).below (zD _ _),HL3.out,by rw[HFI.out];exact ⟨rfl,rfl,rfl,rfl⟩⟩
    ·have q2:((x.syms[i]).name.toList==t0.text.toList)=false:=by rw[bytes_beq];exact decide_eq_false hnm
     have HN1:Hid (∀j (hj:j<x.syms.length),j<i+1→decide ((x.syms[j]).name=t0.text)=false):=fun j hj hji=>by
      by_cases e:j=i
      ·subst e;exact decide_eq_false hnm
      ·exact HNO.out j hj (by omega)
     clear hnm;have htb:=zL n1;simp only at htb;go_wp2;go_roundw
     case rel=>exact ⟨i+1,by omega,by go_num,zB HB.out (zD _ _),HN1.out⟩
     case measure=>simp[intOf];omega
   ·have HFI:Hid (enumP false x r k = .error 4):=by
     show _=_
     rw[HP.out,find_noL (p:=fun y=>decide (y.name=t0.text)) fun j hj=>HNO.out j hj (by omega)]
    have h2:¬ (i:Int)<(x.syms.length:Int):=by omega
    go_wp2_with fail
    refine (nrFail_any 4 (HR3.out.below HB.out)).mono ?_;rintro y w6 ⟨rfl,g1,g2⟩;have HR6:=zh g1;have HW6:=zh ((HW3.out.below HB.out HLT.out).trans g2);clear g1 g2;go_wp2;go_ret;exact ⟨_,rfl,HW6.out,r1,k,_,HR6.out,HL3.out,by rw[HFI.out];rfl⟩
def uniV (kd:Int) (P:PR (Int×List Val×List RawD)):PR Val:=P.bind fun p => .ok (.mk kd false 0 ⟨#[]⟩ p.1.1 [] p.1.2.1 p.1.2.2,p.2)
theorem uniV_err (kd e:Int):uniV kd (.error e) = .error e:=rfl
theorem uniV_ok (kd d:Int) (a:List Val) (b:List RawD) (l:List TokD) (k:Bool):uniV kd (.ok ((d,a,b),l,k)) = .ok (.mk kd false 0 ⟨#[]⟩ d [] a b,l,k):=rfl
section
variable {C:RCx} {W0 W W':World} {p:Nat} {kd:Int} {r r':List TokD} {k k':Bool} {e e' di:Int} {vk vi vr:Value} {K I:List VaA} {R:List RawD}
theorem FlS.setD (h:FlS C W0 p kd W r k e di vk vi vr K I R) (d:Int):FlS C W0 p kd (W.setCell ⟨p,4,none⟩ (.int .i64 d)) r k e d vk vi vr K I R :=
 ⟨h.rd.oth (by have:=h.bp;omega) (by have:=h.bp;have:=h.rd.ok.ge;omega) 4 _,h.vb.setX (j:=4) rfl h.vb.str,⟨h.fr.bel.setCell (p:=⟨p,4,none⟩) (Nat.le_of_lt h.bp) _,fun q hq hl=>(heap_setCell_other _ _ _ _ (by have:=h.lo;simp only;omega)).trans (h.fr.oth q hq hl)⟩,h.lo,h.lb⟩
theorem FlS.oneR (h:FlS C W0 p kd W r k e di nilS nilS nilS [] [] []) {x:RawD} (hx:SOk x.data) :
  FlS C W0 p kd ((W.alloc (rwO x)).setCell ⟨p,7,none⟩ (.slice (some ⟨W.heap.size,0,none⟩) 1 1)) r k e di nilS nilS (.slice (some ⟨W.heap.size,0,none⟩) 1 1) [] [] [x]:=by
 have ho:(W.alloc (rwO x)).ownsRow (p+1) 97 2 (.slice (some ⟨W.heap.size,0,none⟩) 1 1) 1 ([]++encR x) :=
  World.ownsRow_lit (base:=p+1) (e:=97) (size:=2) W (encR x).toArray 1 h.vb.lt (by unfold maxLen;omega) rfl
 obtain ⟨g1,g2,g3⟩:=h.vb.rawA (x:=x) (v8 := .slice (some ⟨W.heap.size,0,none⟩) 1 1) (w8:=W.alloc (rwO x)) hx (Below.refl _ _) ho (World.grownBy_alloc W _ none) (.inr rfl);exact ⟨⟨h.rd.ok,(g2.block _ h.bp).trans h.rd.blk,h.rd.sfx,h.rd.up.trans (g2.mono (by have:=h.bp;have:=h.rd.ok.ge;omega))⟩,g1,h.fr.up g2 h.lo (Nat.le_of_lt h.bp),h.lo,h.lb⟩
end
theorem uni_at {q:List TokD} {k:Bool} {t0:TokD} {r1:List TokD} {e1:Int} (h1:TkQ 2 q t0 r1 e1) {r2:List TokD} {e2:Int} (h2:SyQ ⟨#[40]⟩ r1 e1 r2 e2) {t1:TokD} {r3:List TokD} {e3:Int} (h3:(e2≠0∧r3=r2∧e3=e2)∨(e2=0∧TkQ 3 r2 t1 r3 e3)) {r4:List TokD} {e4:Int} (h4:SyQ ⟨#[41]⟩ r3 e3 r4 e4) :
  match ((tkP 2 q).bind fun p=>(syP ⟨#[40]⟩ p.2).bind fun l2=>(tkP 3 l2).bind fun q=>(syP ⟨#[41]⟩ q.2).bind fun l4 => .ok ((idF false p.1.int,[],[⟨idF false p.1.int,q.1.str⟩]),l4,k):PR (Int×List Val×List RawD)) with
  | .ok (v,r',k')=>v=(t0.int,[],[⟨t0.int,t1.str⟩])∧r4=r'∧k'=k∧e4=0∧e2=0
  | .error e=>e4=e:=by
 have ht:=h1.tk
 cases hk:tkP 2 q with
 | error e =>
  rw[hk] at ht;obtain ⟨g1,g2⟩:=ht;rw[err_bind]
  rcases h2.2 with ⟨_,_,j⟩|⟨j,_⟩
  ·rcases h3 with ⟨_,_,i⟩|⟨i,_⟩
   ·rcases h4.2 with ⟨_,_,l⟩|⟨l,_⟩
    ·show e4=e;omega
    ·omega
   ·omega
  ·exact absurd j g2
 | ok p =>
  obtain ⟨u,l⟩:=p;rw[hk] at ht;obtain ⟨rfl,rfl,rfl,_⟩:=ht;rw[zM];have hs:=syQ_sy h2;simp only
  cases hsy:syP ⟨#[40]⟩ r1 with
  | error e =>
   rw[hsy] at hs;rw[err_bind]
   rcases h3 with ⟨_,_,i⟩|⟨i,_⟩
   ·rcases h4.2 with ⟨_,_,l⟩|⟨l,_⟩
    ·show e4=e;have:=hs.1;omega
    ·exact absurd l (by have:=hs.2;omega)
   ·exact absurd i hs.2
  | ok l2 =>
   rw[hsy] at hs;obtain ⟨rfl,rfl⟩:=hs;rw[zM]
   rcases h3 with ⟨i,_⟩|⟨_,h3⟩
   ·exact absurd rfl i
   have hu:=h3.tk
   cases hk3:tkP 3 r2 with
   | error e =>
    rw[hk3] at hu;rw[err_bind]
    rcases h4.2 with ⟨_,_,l⟩|⟨l,_⟩
    ·show e4=e;have:=hu.1;omega
    ·exact absurd l hu.2
   | ok z =>
    obtain ⟨v,q2⟩:=z;rw[hk3] at hu;obtain ⟨rfl,rfl,rfl,_⟩:=hu;rw[zM];have hs4:=syQ_sy h4;simp only
    cases hsy4:syP ⟨#[41]⟩ r3 with
    | error e=>rw[hsy4] at hs4;rw[err_bind];exact hs4.1
    | ok l4 =>
     rw[hsy4] at hs4;rw[zM];exact ⟨rfl,hs4.1,rfl,hs4.2,trivial⟩
theorem uni_arm {f:Int→List TokD→Bool→PR Val} (hnz:∀t l k,f t l k ≠ .error 0) {id ty:Int} {r1:List TokD} {k:Bool} {r2:List TokD} {e2:Int} (h2:SyQ ⟨#[40]⟩ r1 0 r2 e2) {x:Val} {r5:List TokD} {k5:Bool} {e5:Int} (hn:e2≠0→e5=e2) (hv:e2=0→match f ty r2 k with
   | .ok (v,r',k')=>x=v∧r5=r'∧k5=k'∧e5=0
   | .error e=>e5=e) {r7:List TokD} {e7:Int} (h7:SyQ ⟨#[41]⟩ r5 e5 r7 e7) :
  match ((syP ⟨#[40]⟩ r1).bind fun l2=>(f ty l2 k).bind fun q=>(syP ⟨#[41]⟩ q.2.1).bind fun l4 => .ok ((id,[q.1],[]),l4,q.2.2):PR (Int×List Val×List RawD)) with
  | .ok (v,r',k')=>v=(id,[x],[])∧r7=r'∧k5=k'∧e7=0
  | .error e=>e7=e:=by
 have hs:=syQ_sy h2
 cases hsy:syP ⟨#[40]⟩ r1 with
 | error e =>
  rw[hsy] at hs;rw[err_bind];have:=hn hs.2
  rcases h7.2 with ⟨_,_,l⟩|⟨l,_⟩
  ·show e7=e;have:=hs.1;omega
  ·exact absurd l (by have:=hs.2;omega)
 | ok l2 =>
  rw[hsy] at hs;obtain ⟨rfl,rfl⟩:=hs;rw[zM];have hv:=hv rfl
  cases hw:f ty r2 k with
  | error e =>
   rw[hw] at hv;simp only at hv;rw[err_bind];have hz:e5≠0:=fun g=>hnz _ _ _ (g▸hv▸hw)
   rcases h7.2 with ⟨_,_,l⟩|⟨l,_⟩
   ·show e7=e;omega
   ·exact absurd l hz
  | ok q =>
   obtain ⟨v,r',k'⟩:=q;rw[hw] at hv;obtain ⟨rfl,rfl,rfl,rfl⟩:=hv;rw[zM];have hs7:=syQ_sy h7;simp only
   cases hsy7:syP ⟨#[41]⟩ r5 with
   | error e=>rw[hsy7] at hs7;rw[err_bind];exact hs7.1
   | ok l4 =>
    rw[hsy7] at hs7;rw[zM];exact ⟨rfl,hs7.1,rfl,hs7.2⟩
theorem union_at {C:RCx} {W0:World} {p:Nat} {x:TyD} {As:zo} {cs:Nat} {Am:zo} {cm:Nat} {W:World} {r:List TokD} {k:Bool} (h:FlS C W0 p x.kind W r k 0 0 nilS nilS nilS [] [] []) (hat:isP ⟨#[64]⟩ r=true) :
  Calls Tryz.prog 125 #[.pointer (some ⟨C.b,0,none⟩),x.v As cs Am cm,.pointer (some ⟨p,0,none⟩)] W fun y W'=>y = .returned (.tuple #[])∧FillP C W0 p x.kind r (uniV x.kind (uniP false (valR false C.s) x r k)) W':=by
 have HF1:=zh (h.below (zD W (x.box As cs Am cm)));have HLB:=zh h.bp;obtain ⟨HP,HI⟩:Hid (uniP false (valR false C.s) x r k=(tkP 2 r.tail).bind fun p=>(syP ⟨#[40]⟩ p.2).bind fun l2=>(tkP 3 l2).bind fun q=>(syP ⟨#[41]⟩ q.2).bind fun l4 => .ok ((idF false p.1.int,[],[⟨idF false p.1.int,q.1.str⟩]),l4,k))∧Hid (isP ⟨#[64]⟩ r=true):=by
  refine ⟨?_,hat⟩
  show _=_
  unfold uniP;rw[if_pos hat]
 obtain ⟨t,q,rfl,_,_⟩:=isP_cons hat;clear h hat
 go_enter Tryz.func125,Tryz.ntmps125
 go_upto_region 1 with fail
 generalize W.alloc (x.box As cs Am cm)=W1 at *;go_wp2_with fail;refine (zX ⟨#[64]⟩ HF1.out.rd).mono ?_;rintro y w2 ⟨rfl,hb2⟩;rw[HI.out];have HF2:=zh (HF1.out.below hb2);obtain ⟨i,hi,c2,f2,hi2,HN⟩:=HF2.out.rd.nxt;clear hb2;go_wp2_with fail;have HF3:=zh (HF2.out.bsd ((Bsd.refl _ _).set 2 (.int .i64 ((i:Int)+1))) (HN.out.1 _ _ _ HF2.out.rd));refine (nrTake_any 2 HF3.out.rd).mono ?_
 intro y w4 h4
 obtain ⟨t0,r1,e1,rfl,g1,g2,g3⟩:=tkQ_of h4;have HF4:=zh (HF3.out.bsd g1 g2);have HQ4:=zh g3;have fd2:=fld_tok2;obtain ⟨⟨_,_,_,_,c4,_,_,_⟩,cf⟩:=HF4.out.vb.cells;have f4:=cf 4;clear h4 g1 g2 g3 cf;go_upto_region 4 with fail
 have HF5:=zh (HF4.out.setD t0.int);generalize w4.setCell ⟨p,4,none⟩ (.int .i64 t0.int)=W5 at *;clear c4 f4 c2 f2;have rz:=HF5.out.rd.zero
 go_upto_if 28 with fail
 go_cut [] (fun wx=>∃r2 e2,Hid (FlS C W0 p x.kind wx r2 k e2 t0.int nilS nilS nilS [] [] []∧SyQ ⟨#[40]⟩ r1 e1 r2 e2))
 case first =>
  by_cases he:e1=0
  ·have q1:(e1==0)=true:=by simp[he]
   have HV6:Hid (FlS C W0 p x.kind W5 r1 k 0 t0.int nilS nilS nilS [] [] []):=by have:=HF5.out;rw[he] at this;exact this
   have HE:=zh he;clear he rz;go_wp2_with (go_at_call 126;refine (nrSym_any ⟨#[40]⟩ HV6.out.rd).mono ?_;intro y w3 h3;obtain rfl:=h3.1;have HS3:=zh (syQ_of h3);clear h3);go_meet;obtain ⟨hb,r',e',g1,g2⟩:=HS3.out;exact ⟨r',e',HV6.out.bsd hb g1,by rw[HE.out];exact g2⟩
  ·have q1:(e1==0)=false:=by simp[he]
   have HE:=zh he;clear he rz;go_wp2;go_meet;exact ⟨r1,e1,HF5.out,syQ_no HE.out⟩
 case rest =>
 obtain ⟨W6,rfl⟩:∃W:World,W=wc:=⟨_,rfl⟩;obtain ⟨r2,e2,h6⟩:=hcut;have HF6:=zh h6.out.1;have HQ6:=zh h6.out.2;clear h6 HF5 rz HF4 HF3 HF2;have rz:=HF6.out.rd.zero
 go_upto_if 35 with fail
 go_cut [] (fun wx=>∃t1 r3 e3 vr R,Hid (FlS C W0 p x.kind wx r3 k e3 t0.int nilS nilS vr [] [] R∧R.length≤1∧r3.length≤r2.length∧((e2≠0∧r3=r2∧e3=e2)∨(e2=0∧TkQ 3 r2 t1 r3 e3))∧(e2=0→R=[⟨t0.int,t1.str⟩])))
 case first =>
  by_cases he:e2=0
  ·have q1:(e2==0)=true:=by simp[he]
   have HV6:Hid (FlS C W0 p x.kind W6 r2 k 0 t0.int nilS nilS nilS [] [] []):=by have:=HF6.out;rw[he] at this;exact this
   have HE:=zh he;have HLW:Hid (C.b<W6.heap.size):=HV6.out.rd.lt;clear he rz;have HRD:=zh (fun (w':World) (hb:Bsd C.b W6 w')=>(HV6.out.vb.bsd hb HLB.out).cells.1.2.2.2.2.1)
   have fd3:=fld_tok3;go_upto_region 7 with fail
   refine yE (S:=(fun w'=>w'.cell? ⟨p,4,none⟩=some (.int .i64 t0.int)∧Hid (Bsd C.b W6 w'))) 12 (by kernel_rfl) ?_ (fun zH_=>?_)
   ·(try dsimp only);(have hk:=Bsd.of (zC (Below.refl _ _) 1) (Nat.le_of_lt HLW.out);exact ⟨HRD.out _ hk,hk⟩)
   refine tC 0 ?_;refine tC 1 ?_;refine tC 2 ?_;refine tC 3 ?_;refine tB 4 ?_;refine tC 5 ?_;try simp only[ps]
   refine tS 6 (fun K hK=>?_)
   go_simp
   (refine (nrTake_any 3 (HV6.out.below (zC (Below.refl _ _) 1)).rd).mono ?_;intro y w7 h7;obtain ⟨t1,r3,e3,rfl,g1,g2,g3⟩:=tkQ_of h7;have HB7:=zh ((Bsd.of (zC (Below.refl W6.heap.size W6) 1) (Nat.le_of_lt HLW.out)).trans g1);have HF7:=zh (HV6.out.bsd HB7.out g2);have HQ7:=zh g3;clear h7 g1 g2 g3)
   refine hK.out _ _ ?_ (fun zH_=>?_)
   ·(try dsimp only);exact ⟨HRD.out _ HB7.out,HB7.out⟩
   clear hK K;refine tC 7 ?_;refine tC 8 ?_;refine tS 9 (fun K hK=>?_)
   go_simp
   refine hK.out _ _ ?_ (fun zH_=>?_)
   ·(try dsimp only);exact ⟨HRD.out _ (HB7.out.below (zD _ _) HLW.out),HB7.out.below (zD w7 (rwO ⟨t0.int,t1.str⟩)) HLW.out⟩
   clear hK K;refine tC 10 ?_;refine tC 11 ?_;try simp only[ps]
   refine zV (rs:=[12]) (by kernel_rfl) (by simp) ?_
   refine AllReadyB.last rfl (by kernel_rfl) (fun K hK=>?_) AllReadyB.nil
   (have HF8:=zh (HF7.out.below (zD w7 (rwO ⟨t0.int,t1.str⟩)));have c7:=HF8.out.vb.cells.1.2.2.2.2.2.2.2;have f7:=HF8.out.vb.cells.2 7;go_simp)
   refine hK.out _ _ ?_;clear hK K
   (try clear zH_)
   refine wpAny_done (by kernel_rfl) ?_ _
   (have HR8:=zh (HF7.out.oneR (x:=⟨t0.int,t1.str⟩) HQ7.out.1.2.2);go_wp2;go_meet;exact ⟨t1,r3,e3,_,_,HR8.out,by simp,HQ7.out.1.1,.inr ⟨HE.out,HQ7.out⟩,fun _=>rfl⟩)
  ·have q1:(e2==0)=false:=by simp[he]
   have HE:=zh he;clear he rz;go_wp2;go_meet;exact ⟨zTok,r2,e2,_,_,HF6.out,by simp,Nat.le_refl _,.inl ⟨HE.out,rfl,rfl⟩,fun g=>absurd g HE.out⟩
 case rest =>
 obtain ⟨W7,rfl⟩:∃W:World,W=wc:=⟨_,rfl⟩;obtain ⟨t1,r3,e3,vr,R,h7⟩:=hcut;have HF7:=zh h7.out.1;have HFIN:Hid (∀W' r4 e4,FlS C W0 p x.kind W' r4 k e4 t0.int nilS nilS vr [] [] R→SyQ ⟨#[41]⟩ r3 e3 r4 e4→FillP C W0 p x.kind (t::q) (uniV x.kind (uniP false (valR false C.s) x (t::q) k)) W'):=fun W' r4 e4 g1 g2=>by
  obtain ⟨_,h1,h2,h3,h4⟩:=h7.out;have hu:=uni_at (k:=k) HQ4.out HQ6.out h3 g2;have hl:r4.length≤(t::q).length:=by have:=g2.1;have:=HQ6.out.1;have:=HQ4.out.1.1;simp;omega
  have hp:=HP.out;rw[List.tail_cons] at hp;rw[hp]
  revert hu
  cases ((tkP 2 q).bind fun p=>(syP ⟨#[40]⟩ p.2).bind fun l2=>(tkP 3 l2).bind fun q=>(syP ⟨#[41]⟩ q.2).bind fun l4 => .ok ((idF false p.1.int,[],[⟨idF false p.1.int,q.1.str⟩]),l4,k):PR (Int×List Val×List RawD)) with
  | error e=>exact fun hu=>fill_err g1 hl ⟨by simp,by simp,by omega⟩ (by rw[uniV_err];exact congrArg _ hu.symm)
  | ok z =>
   obtain ⟨⟨a,b,c⟩,l,k'⟩:=z
   intro hu
   obtain ⟨j1,j2,j3,j4,j5⟩:=hu
   injection j1 with j1 j6
   injection j6 with j6 j7
   subst j1 j2 j3 j4 j6 j7;rw[uniV_ok];exact fill_ok g1 hl ⟨by simp,by simp,by omega⟩ (by rw[h4 j5];rfl) rfl
 clear h7 HF6 rz HQ4 HQ6;have rz:=HF7.out.rd.zero
 by_cases he:e3=0
 ·have q1:(e3==0)=true:=by simp[he]
  subst he;clear rz;have rz:=HF7.out.rd.zero;go_wp2_with fail;refine (nrSym_any ⟨#[41]⟩ HF7.out.rd).mono ?_
  intro y w8 h8
  obtain rfl:=h8.1;obtain ⟨hb8,r4,e4,hr8,hs8⟩:=syQ_of h8;have HF8:=zh (HF7.out.bsd hb8 hr8);have HS8:=zh hs8;clear h8 hb8 hr8 hs8;go_wp2;refine bodyPost_ret (results_none Tryz.results125 _ _ _) rfl ⟨rfl,HFIN.out _ _ _ HF8.out HS8.out⟩
 ·have q1:(e3==0)=false:=by simp[he]
  have HE:=zh he;clear he;go_wp2;refine bodyPost_ret (results_none Tryz.results125 _ _ _) rfl ⟨rfl,HFIN.out _ _ _ HF7.out (syQ_no HE.out)⟩
end Go.Proofs.YthkkllmmbefedaaGreatDoor


