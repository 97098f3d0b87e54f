/-
  Walks: sheaveref08.Equal.
-/
import Derived.Test.YthkkllmmbefedaaGreatDoorQGC0
namespace Go.Proofs.YthkkllmmbefedaaGreatDoor
open Go.RowKit Tryz
set_option maxHeartbeats 16000000
set_option maxRecDepth 100000
variable {k:Bool} {r:List AJ} {p:Nat} {C:Eh} {W0:World}
theorem Wv {x:Aa} {As:zo} {cs:Nat} {Am:zo} {cm:Nat} {n:Nat} (ih:EB C n) {W:World} (ht:J4 C.w0 x As Am) (h:IA C W0 p x.kind W r k 0 0 AP AP AP [] [] []) (hn:r.length<=n) (he:∀y∈x.AA,0<=y.type/\y.type<(C.s.length:Int)) (hat:Ba ⟨#[64]⟩ r=false):
  Calls prog 125 #[.pointer (some ⟨C.b,0,none⟩),x.v As cs Am cm,.pointer (some ⟨p,0,none⟩)] W fun y W'=>y = .returned (.tuple #[])/\Gv C W0 p x.kind r (Qi x.kind (FD false (Ag false C.s) x r k)) W':=by
 have uR:=zh (h.below (zD W (x.box As cs Am cm)));have Ei:=zh (AAA W (x.box As cs Am cm));have HXB:Hid (W.heap.size≠C.b):=by have:=h.rd.lt;show _≠_;omega
 have GJ:=zh h.bp;have EY:=zh ht;have Ed:=zh ih;have Kz:=zh he;have HN:=zh hn;have HI:=zh hat;have UG:Hid (FD false (Ag false C.s) x r k=(CS 1 r).bind fun p =>
  match x.AA.find? fun y=>decide (y.name=p.1.text) with
  | none => .error 4
  | some y=>(Ay ⟨#[40]⟩ p.2).bind fun l2=>(Ag false C.s y.type l2 k).bind fun q=>(Ay ⟨#[41]⟩ q.2.1).bind fun l4 => .ok ((y.id,[q.1],[]),l4,q.2.2)):=by
  show _=_
  unfold FD;rw[Pd (by rw[hat];simp)]
  rfl
 clear h hat ih he hn ht
 go_enter func125,ntmps125
 go_upto_region 1 with fail
 generalize W.alloc (x.box As cs Am cm)=W1 at *;go_wp2_with fail;refine (zX ⟨#[64]⟩ uR.O.rd).mono ?_;rintro y w2 ⟨rfl,hb2⟩;rw[HI.O];have uQ:=zh (uR.O.below hb2);have N9:=zh (Au Ei hb2);clear hb2;go_upto_region 10 with fail
 go_cut [6] (fun s wx=>∃tb t0 r1 e1,s = .pointer (some ⟨tb,0,none⟩)/\Hid (IA C W0 p x.kind wx r1 k e1 0 AP AP AP [] [] []/\wx.heap[W.heap.size]? = some (x.box As cs Am cm)/\wx.heap[tb]? = some (sU t0)/\YN 1 r t0 r1 e1))
 case first =>
  go_wp2_with (go_at_call 122;refine (Br 1 uQ.O.rd).mono ?_;intro y w3 h3;obtain ⟨t0,r1,e1,rfl,g1,g2,g3⟩:=F5 h3;have PN:=zh (uQ.O.BK g1 g2);have JR:=zh (Cr N9 g1 HXB);have JU:=zh g3;clear h3 g1 g2 g3)
  go_meet
  exact ⟨_,t0,r1,e1,rfl,PN.O.below (zD _ _),Au JR (zD _ _),AAA _ _,JU.O⟩
 case rest =>
 obtain ⟨W3,rfl⟩:∃W:World,W=wc:=⟨_,rfl⟩;obtain ⟨tb,t0,r1,e1,rfl,h3⟩:=hcut;have PN:=zh h3.O.1;have JR:=zh h3.O.2.1;have HB3:=zh h3.O.2.2.1;have JU:=zh h3.O.2.2.2;clear h3 uR uQ Ei N9;have rz:=PN.O.rd.zero
 by_cases hz:e1=0
 case neg =>
  have q1:(e1 != 0)=true:=by simp[hz]
  have HP:Hid (Qi x.kind (FD false (Ag false C.s) x r k) = .error e1):=by
   show _=_
   have ht:=JU.O.tk;rw[UG.O]
   cases hk:CS 1 r with
   | error e2=>rw[hk] at ht;rw[ht.1];rfl
   | ok q=>rw[hk] at ht;exact absurd ht.2.2.1 hz
  clear hz;go_wp2;refine bodyPost_ret (results_none results125 _ _ _) rfl ⟨rfl,CG PN JU.O.1.1 z3 HP⟩
 subst hz;obtain ⟨HP,EP⟩:Hid (FD false (Ag false C.s) x r k=match x.AA.find? fun y=>decide (y.name=t0.text) with
  | none => .error 4
  | some y=>(Ay ⟨#[40]⟩ r1).bind fun l2=>(Ag false C.s y.type l2 k).bind fun q=>(Ay ⟨#[41]⟩ q.2.1).bind fun l4 => .ok ((y.id,[q.1],[]),l4,q.2.2))/\Hid (r1.length<r.length):=by
  have ht:=JU.O.tk
  cases hk:CS 1 r with
  | error e2=>rw[hk] at ht;exact absurd rfl ht.2
  | ok q =>
   rw[hk] at ht;refine ⟨?_,ht.2.2.2⟩
   show _=_
   rw[UG.O,hk,zM,<-ht.1,<-ht.2.1]
 have x6:W3.cell? ⟨W.heap.size,6,none⟩=some (.slice Am x.AA.length cm):=by rw[AAC _ _ _ _ _ _ JR.O];rfl
 have hln:=EY.O.AA.1;unfold EF at hln;have wE:(x.AA.length:Int)<=1000000000000000:=by omega
 clear JU UG hln;go_wp2
 go_loopw [65] (fun a wr=>∃i:Nat,i<=x.AA.length/\a = .int .i64 (i:Int)/\Hid (Below W3.heap.size W3 wr/\∀j (hj:j<x.AA.length),j<i->decide ((x.AA[j]).name=t0.text)=false)) (fun a _=>x.AA.length - (intOf a).toNat)
 case atStart=>exact ⟨0,by omega,rfl,Pe _ _,fun j _ h=>absurd h (by omega)⟩
 case round =>
  obtain ⟨i,hi,rfl,hh⟩:=hrel;have HB:=zh hh.O.1;have PK:=zh hh.O.2;clear hh
  by_cases hlt:i<x.AA.length
  ·obtain ⟨mb,mo,M1,m1,M2,m2,M3,m3,rfl,hmr,a0,a1,a2,a3,a4,a5,a6,a7,a8,a9,dY,dX,a12⟩:=(EY.O.AA.below (PN.O.below HB).rd.up).Mk hlt
   have Qv:=zh (Kz.O _ (AAL hlt));obtain ⟨⟨_,n1,_,_,_⟩,_⟩:=Bd (Au HB3 HB);have h1:(0:Int)<=(i:Int):=by omega
   have h2:(i:Int)<(x.AA.length:Int):=by omega
   have htb:=zL n1;simp only at htb;clear hmr;have HFA:Hid (decide ((x.AA[i]).name=t0.text)=true->x.AA.find? (fun y=>decide (y.name=t0.text))=some x.AA[i]):=fun h=>QO (p:=fun y=>decide (y.name=t0.text)) x.AA i hlt h PK.O
   have Tt:Hid (decide ((x.AA[i]).name=t0.text)=false->∀j (hj:j<x.AA.length),j<i+1->decide ((x.AA[j]).name=t0.text)=false):=fun hd j hj hji=>by
    by_cases e:j=i
    ·subst e;exact hd
    ·exact PK.O j hj (by omega)
   generalize x.AA[i]=m at *
   by_cases hnm:m.name=t0.text
   case neg =>
    have q2:(m.name.toList != t0.text.toList)=true:=by simp only[bne,bytes_beq,AAP hnm,Bool.not_false]
    have SB:=zh (Tt.O (AAP hnm));have q3:(m.name.toList==t0.text.toList)=false:=by rw[bytes_beq];exact AAP hnm
    clear hnm;go_wp2;go_roundw
    case rel=>exact ⟨i+1,by omega,by go_num,zB HB (zD _ _),SB.O⟩
    case measure=>simp[intOf];omega
   have q2:(m.name.toList==t0.text.toList)=true:=by rw[bytes_beq];exact AAJ hnm
   have HPM:Hid (FD false (Ag false C.s) x r k=(Ay ⟨#[40]⟩ r1).bind fun l2=>(Ag false C.s m.type l2 k).bind fun q=>(Ay ⟨#[41]⟩ q.2.1).bind fun l4 => .ok ((m.id,[q.1],[]),l4,q.2.2)):=by
    show _=_
    rw[HP.O,HFA.O (AAJ hnm)]
   clear hnm;have PL:=zh ((PN.O.below HB).below (zD wr (m.box M1 m1 M2 m2 M3 m3)));have WO:Hid ((wr.alloc (m.box M1 m1 M2 m2 M3 m3)).heap[wr.heap.size]? = some (m.box M1 m1 M2 m2 M3 m3)):=AAA wr _;obtain ⟨⟨_,_,_,_,c4,_,_,_⟩,cf⟩:=PL.O.vb.cells;have f4:=cf 4
   have HWB:Hid (wr.heap.size≠C.b/\wr.heap.size≠p):=by have h3:=(PN.O.below HB).rd.lt;have h4:=(PN.O.below HB).vb.lt;exact ⟨by omega,by omega⟩
   clear cf;go_upto_region 17 with fail
   clear c4 f4;have WW:=zh (PL.O.vG m.id);have CO:=zh ((AAE (wr.alloc (m.box M1 m1 M2 m2 M3 m3)) ⟨p,4,none⟩ wr.heap.size (.int .i64 m.id) HWB.O.2).trans WO);clear a0 a1 a2 a3 a4 a5 a6 a7 a8 a9 dY dX a12 n1 htb rz x6 q2;generalize World.setCell (World.alloc wr _) _ _=W5 at *;go_wp2_with fail;refine (BS ⟨#[40]⟩ WW.O.rd).mono ?_
   intro y w4 h4
   obtain rfl:=h4.1;obtain ⟨hb4,r2,e2,hr4,hs4⟩:=FJ h4;have Lx:=zh (WW.O.BK hb4 hr4);have fJ:=zh (Cr CO hb4 HWB.O.1);have UF:=zh hs4;have x2:w4.cell? ⟨wr.heap.size,2,none⟩=some (.int .i64 m.type):=by rw[AAC _ _ _ _ _ _ fJ.O];rfl
   clear h4 hb4 hr4 hs4;go_wp2_with fail;refine (Ed.O m.type _ r2 k e2 (by have:=UF.O.1;have:=EP.O;have:=HN.O;omega) Qv Lx.O.rd).mono ?_
   rintro y w5 ⟨xa,rfl,g1,g2,r5,k5,e5,g3,g4,g5,g6⟩;have OD:=zh (Lx.O.one g2 g3 g1);have HV5:=zh (Lx.O.BK g2 g3);have NA:=zh g4;have JV:Hid (∀W' r7 e7,IA C W0 p x.kind W' r7 k5 e7 m.id AP (.slice (some ⟨w5.heap.size,0,none⟩) 1 1) AP [] [xa] []->WA ⟨#[41]⟩ r5 e5 r7 e7->Gv C W0 p x.kind r (Qi x.kind (FD false (Ag false C.s) x r k)) W'):=fun W' r7 e7 j1 j2=>by
    have hu:=oF (GK false C.s) (id:=m.id) (ty:=m.type) UF (k:=k) g5 g6 j2;have hl:r7.length<=r.length:=by have:=j2.1;have:=NA.O;have:=UF.O.1;have:=EP.O;omega
    rw[HPM.O]
    revert hu
    cases ((Ay ⟨#[40]⟩ r1).bind fun l2=>(Ag false C.s m.type l2 k).bind fun q=>(Ay ⟨#[41]⟩ q.2.1).bind fun l4 => .ok ((m.id,[q.1],[]),l4,q.2.2):PR (Int×List Val×List Af)) with
    | error e=>exact fun hu=>CG j1 hl ⟨by simp,by simp,by simp⟩ (by rw[UW];exact congrArg _ hu.symm)
    | ok z =>
     obtain ⟨⟨a,b,c⟩,l,k'⟩:=z
     intro hu
     obtain ⟨j3,j4,j5,j6⟩:=hu
     injection j3 with j3 j7
     injection j7 with j7 j8
     subst j3 j4 j5 j6 j7 j8;rw[Yl];exact GR j1 hl ⟨by simp,by simp,by simp⟩ rfl rfl
   obtain ⟨⟨_,_,_,_,_,_,c6,_⟩,cf⟩:=(HV5.O.vb.below (zD w5 (.cells xa.cells.toArray 28))).cells;have f6:=cf 6;clear g1 g2 g3 g4 g5 g6 cf;unfold Aj.cells Val.cs at OD c6 f6;go_upto_region 19 with fail
   clear c6 f6;generalize World.setCell (World.alloc w5 _) _ _=W6 at *;have rz:=OD.O.rd.zero
   by_cases hz:e5=0
   ·have q1:(e5==0)=true:=by simp[hz]
    subst hz;clear rz;have rz:=OD.O.rd.zero;go_wp2_with fail;refine (BS ⟨#[41]⟩ OD.O.rd).mono ?_
    intro y w8 h8
    obtain rfl:=h8.1;obtain ⟨FU,r4,e4,hr8,tN⟩:=FJ h8;have uP:=zh (OD.O.BK FU hr8);have HS8:=zh tN;clear h8 FU hr8 tN;go_wp2;refine bodyPost_ret (results_none results125 _ _ _) rfl ⟨rfl,JV.O _ _ _ uP HS8⟩
   ·have q1:(e5==0)=false:=by simp[hz]
    have HE:=zh hz;clear hz;go_wp2;refine bodyPost_ret (results_none results125 _ _ _) rfl ⟨rfl,JV.O _ _ _ OD (NH HE)⟩
  ·have Wo:Hid (Qi x.kind (FD false (Ag false C.s) x r k) = .error 4):=by
    show _=_
    rw[HP.O,Vl (p:=fun y=>decide (y.name=t0.text)) fun j hj=>PK.O j hj (by omega)]
    rfl
   have h2:¬ (i:Int)<(x.AA.length:Int):=by omega
   go_wp2_with fail
   refine (Bc 4 (PN.O.below HB).rd).mono ?_;rintro y w6 ⟨rfl,g1,g2⟩;have OD:=zh ((PN.O.below HB).BK g2 g1);clear g1 g2;go_wp2;refine bodyPost_end (results_none results125 _ _ _) rfl ⟨rfl,CG OD (AAM EP) z3 Wo⟩
theorem aF {x:Aa} {As:zo} {cs:Nat} {Am:zo} {cm:Nat} {n:Nat} (ih:EB C n) {W:World} (ht:J4 C.w0 x As Am) (h:IA C W0 p x.kind W r k 0 0 AP AP AP [] [] []) (hn:r.length<=n) (he:∀y∈x.AA,0<=y.type/\y.type<(C.s.length:Int)):
  Calls prog 125 #[.pointer (some ⟨C.b,0,none⟩),x.v As cs Am cm,.pointer (some ⟨p,0,none⟩)] W fun y W'=>y = .returned (.tuple #[])/\Gv C W0 p x.kind r (Qi x.kind (FD false (Ag false C.s) x r k)) W':=by
 cases hat:Ba ⟨#[64]⟩ r with
 | true=>exact gU h hat
 | false=>exact Wv ih ht h hn he hat
def ZN (kd:Int) (P:PR (List Val)):PR Val:=P.bind fun p => .ok (.mk kd false 0 ⟨#[]⟩ 0 [] p.1 [],p.2)
def OO (f:Int->List AJ->Bool->PR Val) (x:Aa) (l1:List AJ) (k:Bool):PR (List Val) :=
 if Ba ⟨#[93]⟩ l1=true then .ok ([],l1.tail,k) else (Kt (f x.elem) l1 k).bind fun p=>(Ay ⟨#[93]⟩ p.2.1).bind fun l2 => .ok (p.1,l2,p.2.2)
theorem ZO (f:Int->List AJ->Bool->PR Val) (x:Aa) (l:List AJ) (k:Bool):IW f x l k=(Ay ⟨#[91]⟩ l).bind fun l1=>OO f x l1 k:=rfl
section
variable {C:Eh} {V:Vx}
def LiI (C:Eh) (V:Vx) (Rt:PR (List Val)) (n0:Nat) (W:World) (r:List AJ) (k:Bool):Prop:=∃vi I,CZ C V W r k 0 0 AP vi AP [] I []/\(I.length+r.length<=C.l.length/\r.length<=n0)/\JB (Ag false C.s V.x.elem) Rt (I.map (·.v)) r k
def LiJ (C:Eh) (V:Vx) (Rt:PR (List Val)) (n0:Nat) (W:World) (r:List AJ) (k:Bool):Prop:=∃vi I,CZ C V W r k 0 0 AP vi AP [] I []/\(I.length+r.length<=C.l.length/\r.length<=n0)/\(Ba ⟨#[44]⟩ r=true->JB (Ag false C.s V.x.elem) Rt (I.map (·.v)) r.tail k)/\(Ba ⟨#[44]⟩ r=false->Rt = .ok (I.map (·.v),r,k))
def LiF (C:Eh) (V:Vx) (P:PR (List Val)) (n0:Nat) (W:World) (r:List AJ) (k:Bool):Prop:=∃vi I,CZ C V W r k 0 0 AP vi AP [] I []/\(I.length<=2000000/\r.length<=n0)/\P = .ok (I.map (·.v),r,k)
def LiE (C:Eh) (V:Vx) (P:PR (List Val)) (n0:Nat) (W:World) (e:Int):Prop:=∃vi I r k,CZ C V W r k e 0 AP vi AP [] I []/\(I.length<=2000000/\r.length<=n0)/\P = .error e
theorem liC {n:Nat} (ih:EB C n) (_hpv:V.pv=V.p) (he:0<=V.x.elem/\V.x.elem<(C.s.length:Int)) {n0:Nat} (hn:n0<n) {Rt P:PR (List Val)} (hP:P=Rt.bind fun p=>(Ay ⟨#[93]⟩ p.2.1).bind fun l2 => .ok (p.1,l2,p.2.2)) :
  R7 C ⟨#[93]⟩ 128 [.pointer (some ⟨V.p,0,none⟩),.pointer (some ⟨V.pr,0,none⟩),.pointer (some ⟨V.px,0,none⟩)] (LiI C V Rt n0) (LiJ C V Rt n0) (LiF C V P n0) (LiE C V P n0) where
 iS:=fun W r k h=>by obtain ⟨_,_,h,_⟩:=h;exact h.rd
 jS:=fun W r k h=>by obtain ⟨_,_,h,_⟩:=h;exact h.rd
 part:=fun W r k ⟨vi,I,h,⟨h1,h2⟩,h3⟩=>by
  have TW:=h.rd.ok.len;refine (Wu ih h (by omega) he (by omega)).mono ?_
  rintro y W' ⟨rfl,x,G5,r',k',e',g1,g2,g3,g4⟩;refine ⟨rfl,r',k',e',g1.rd,g2,fun e=>?_,fun hne=>?_⟩
  ·subst e
   have g5:=g4 rfl
   cases hp:Ag false C.s V.x.elem r k with
   | error e1=>rw[hp] at g5;exact absurd (g5▸hp) (GK false _ _ _ _)
   | ok q =>
    obtain ⟨a,r1,k1⟩:=q;rw[hp] at g5;obtain ⟨rfl,rfl,rfl,_⟩:=g5;have hlt:=(IC false C.s V.x.elem _ _ _ _ _ hp).2;refine ⟨G5,I++[x],g1,⟨by simp;omega,by omega⟩,fun hc=>?_,fun hc=>?_⟩
    ·rw[List.map_append];exact h3.comma (IC false C.s V.x.elem) hp hc
    ·rw[List.map_append];exact h3.fin (IC false C.s V.x.elem) hp hc
  ·have g5:=g4 rfl
   cases hp:Ag false C.s V.x.elem r k with
   | error e1 =>
    rw[hp] at g5;obtain rfl:e'=e1:=g5;exact ⟨G5,_,r',k',g1,⟨by simp;omega,by omega⟩,by rw[hP,h3.bad (IC false C.s V.x.elem) hp];rfl⟩
   | ok q =>
    rw[hp] at g5;exact absurd g5.2.2.2 hne
 comma:=fun W r k W' ⟨vi,I,h,⟨h1,h2⟩,h3,h4⟩ hc hb hr=>by
  have:=Jq hc;exact ⟨vi,I,h.BK hb hr,⟨by omega,by omega⟩,h3 hc⟩
 fin:=fun W r k W' ⟨vi,I,h,⟨h1,h2⟩,h3,h4⟩ hc ht hb hr=>by
  have:=Jq ht;have TW:=h.rd.ok.len;refine ⟨vi,I,h.BK hb hr,⟨by omega,by omega⟩,?_⟩
  rw[hP,h4 hc,zM];unfold Ay;simp only;rw[AAB ht]
  rfl
 bad:=fun W r k W' ⟨vi,I,h,⟨h1,h2⟩,h3,h4⟩ hc ht hb hr=>by
  have TW:=h.rd.ok.len;refine ⟨vi,I,r,k,h.BK hb hr,⟨by omega,by omega⟩,?_⟩
  rw[hP,h4 hc,zM];unfold Ay;simp only;rw[Pd (by rw[ht];simp)]
  rfl
theorem bS {n:Nat} (ih:EB C n) (hpv:V.pv=V.p) (he:0<=V.x.elem/\V.x.elem<(C.s.length:Int)) {W:World} {r:List AJ} {k:Bool} (h:CZ C V W r k 0 0 AP AP AP [] [] []) (hn:r.length<n) :
  Calls prog 127 #[.pointer (some ⟨C.b,0,none⟩),.string ⟨#[93]⟩,.func (.func 128) #[] #[.pointer (some ⟨V.p,0,none⟩),.pointer (some ⟨V.pr,0,none⟩),.pointer (some ⟨V.px,0,none⟩)]] W fun y W'=>y = .returned (.tuple #[]) /\
   Gv C V.W0 V.p V.x.kind r (ZN V.x.kind (OO (Ag false C.s) V.x r k)) W':=by
 have hl1:=h.rd.Uk.length_le;have TW:=h.rd.ok.len
 by_cases hi:Ba ⟨#[93]⟩ r=true
 ·have hQ:OO (Ag false C.s) V.x r k = .ok ([],r.tail,k):=by unfold OO;rw[AAB hi]
  have hc:=liC (V:=V) (C:=C) ih hpv he (n0:=r.length) hn (Rt := .error 0) (P := .error 0) rfl
  refine (OM (F:=fun W' r' k'=>Gv C V.W0 V.p V.x.kind r (ZN V.x.kind (OO (Ag false C.s) V.x r k)) W') (Er:=fun _ _=>False) { iS:=fun _ _ _ (h:False)=>h.elim,jS:=fun _ _ _ (h:False)=>h.elim,part:=fun _ _ _ (h:False)=>h.elim,comma:=fun _ _ _ _ (h:False)=>h.elim,fin:=fun _ _ _ _ (h:False)=>h.elim,bad:=fun _ _ _ _ (h:False)=>h.elim } h.rd (fun _ W' g1 g2=>?_) (fun g=>by rw[hi] at g;cases g)).mono ?_
  ·have:=Jq hi
   exact GR (h.BK g1 g2).fl (by omega) ⟨by simp,by simp,by simp⟩ rfl (by rw[hQ];rfl)
  ·rintro y w6 ⟨rfl,r6,k6,e6,g1,g2,g3⟩
   refine ⟨rfl,?_⟩
   by_cases hz:e6=0
   ·exact g2 hz
   ·exact (g3 hz).elim
 ·have hi':Ba ⟨#[93]⟩ r=false:=by simpa using hi
  have hc:=liC (V:=V) (C:=C) ih hpv he (n0:=r.length) hn (Rt:=Kt (Ag false C.s V.x.elem) r k) rfl;have hQ:OO (Ag false C.s) V.x r k=(Kt (Ag false C.s V.x.elem) r k).bind fun p=>(Ay ⟨#[93]⟩ p.2.1).bind fun l2 => .ok (p.1,l2,p.2.2):=by unfold OO;rw[Pd hi]
  refine (OM hc h.rd (fun g=>absurd g hi) (fun _ W' g1 g2=>⟨AP,[],h.BK g1 g2,⟨by simp;omega,AAF _⟩,JB.start _ _ _⟩)).mono ?_
  rintro y w6 ⟨rfl,r6,k6,e6,g1,g2,g3⟩;refine ⟨rfl,?_⟩
  by_cases hz:e6=0
  ·subst hz
   obtain ⟨vi,I,j1,⟨j2,j3⟩,j4⟩:=g2 rfl;exact GR j1.fl j3 ⟨by simp,j2,by simp⟩ rfl (by rw[hQ,j4];rfl)
  ·obtain ⟨vi,I,r7,k7,j1,⟨j2,j3⟩,j4⟩:=g3 hz
   exact CG j1.fl j3 ⟨by simp,j2,by simp⟩ (by rw[hQ,j4];rfl)
end
def VaP (C:Eh) (W0:World) (p:Nat) (kd:Int) (r:List AJ) (P:PR Val) (W':World):Prop:=∃bo it st di vk vi vr K I R r' k' e',CJ C W' r' k' e'/\Hw p W' kd bo it st di vk vi vr K I R/\Ah C.b W0 W'/\r'.length<=r.length/\(K.length<=2000000/\I.length<=2000000/\R.length<=2000000) /\
 match P with
 | .ok (v,r1,k1)=>v = .mk kd bo it st di (K.map (·.v)) (I.map (·.v)) R/\r'=r1/\k'=k1/\e'=0
 | .error e1=>e'=e1
theorem Gv.va {kd:Int} {P:PR Val} {W':World} (h:Gv C W0 p kd r P W'):VaP C W0 p kd r P W':=by
 obtain ⟨di,vk,vi,vr,K,I,R,r',k',e',h1,h2,h3,h4⟩:=h;exact ⟨false,0,⟨#[]⟩,di,vk,vi,vr,K,I,R,r',k',e',h1.rd,h1.vb,h1.fr,h2,h3,h4⟩
abbrev q8 (w:World) (p:Nat) (v0 v1 v2 v3 v4 v5 v6 v7:Value):World:=(((q5 w p v0 v1 v2 v3 v4).setCell ⟨p,5,none⟩ v5).setCell ⟨p,6,none⟩ v6).setCell ⟨p,7,none⟩ v7
variable {w:World}
theorem Gx {a0 a1 a2 a3 a4 a5 a6 a7:Value} {T:TypeId} (h:w.heap[p]? = some (.cells #[a0,a1,a2,a3,a4,a5,a6,a7] T)) (v0 v1 v2 v3 v4 v5 v6 v7:Value):(q8 w p v0 v1 v2 v3 v4 v5 v6 v7).heap[p]? = some (.cells #[v0,v1,v2,v3,v4,v5,v6,v7] T):=by
 have h0:=AAK _ _ 0 _ _ v0 h;simp only[ABG,List.set_cons_zero] at h0;have h1:=AAK _ _ 1 _ _ v1 h0;simp only[ABG,List.set_cons_zero,List.set_cons_succ] at h1;have h2:=AAK _ _ 2 _ _ v2 h1;simp only[ABG,List.set_cons_zero,List.set_cons_succ] at h2;have h3:=AAK _ _ 3 _ _ v3 h2
 simp only[ABG,List.set_cons_zero,List.set_cons_succ] at h3;have h4:=AAK _ _ 4 _ _ v4 h3;simp only[ABG,List.set_cons_zero,List.set_cons_succ] at h4;have h5:=AAK _ _ 5 _ _ v5 h4;simp only[ABG,List.set_cons_zero,List.set_cons_succ] at h5;have h6:=AAK _ _ 6 _ _ v6 h5
 simp only[ABG,List.set_cons_zero,List.set_cons_succ] at h6;have h7:=AAK _ _ 7 _ _ v7 h6;simp only[ABG,List.set_cons_zero,List.set_cons_succ] at h7;exact h7
variable {B:Nat}
theorem Ah.eight {b:Nat} {w':World} (h:Ah b w w') (v0 v1 v2 v3 v4 v5 v6 v7:Value) (hB:w.heap.size<=B) (hb:b<w.heap.size):Ah b w (q8 w' B v0 v1 v2 v3 v4 v5 v6 v7) :=
 (((h.five v0 v1 v2 v3 v4 hB hb).two 5 v5 hB hb).two 6 v6 hB hb).two 7 v7 hB hb
theorem CJ.ACu {e:Int} (h:CJ C w r k e) (hB:C.b<B) (v0 v1 v2 v3 v4 v5 v6 v7:Value):CJ C (q8 w B v0 v1 v2 v3 v4 v5 v6 v7) r k e:=by
 have hz:C.w0.heap.size<=B:=by have:=h.ok.ge;omega
 exact (((h.Qk hB v0 v1 v2 v3 v4).FN (by omega) hz 5 v5).FN (by omega) hz 6 v6).FN (by omega) hz 7 v7
theorem EI {S:Nat->Prop} {P:World->Prop} (h:Off S w P) (hB:S B) (v0 v1 v2 v3 v4 v5 v6 v7:Value):Off S (q8 w B v0 v1 v2 v3 v4 v5 v6 v7) P :=
 (((((((h.set v0 hB).set v1 hB).set v2 hB).set v3 hB).set v4 hB).set v5 hB).set v6 hB).set v7 hB
theorem zK {a0 a1 a2 a3 a4 a5 a6 a7:Value} {T:TypeId} (h:w.heap[p]? = some (.cells #[a0,a1,a2,a3,a4,a5,a6,a7] T)):(w.cell? ⟨p,0,none⟩=some a0/\w.cell? ⟨p,1,none⟩=some a1/\w.cell? ⟨p,2,none⟩=some a2/\w.cell? ⟨p,3,none⟩=some a3/\w.cell? ⟨p,4,none⟩=some a4/\w.cell? ⟨p,5,none⟩=some a5/\w.cell? ⟨p,6,none⟩=some a6/\w.cell? ⟨p,7,none⟩=some a7) /\
  (w.frozen? ⟨p,0,none⟩=false/\w.frozen? ⟨p,1,none⟩=false/\w.frozen? ⟨p,2,none⟩=false/\w.frozen? ⟨p,3,none⟩=false/\w.frozen? ⟨p,4,none⟩=false/\w.frozen? ⟨p,5,none⟩=false/\w.frozen? ⟨p,6,none⟩=false/\w.frozen? ⟨p,7,none⟩=false):=by
 refine ⟨⟨?_,?_,?_,?_,?_,?_,?_,?_⟩,AAG _ _ _ _ _ h,AAG _ _ _ _ _ h,AAG _ _ _ _ _ h,AAG _ _ _ _ _ h,AAG _ _ _ _ _ h,AAG _ _ _ _ _ h,AAG _ _ _ _ _ h,AAG _ _ _ _ _ h⟩ <;> (rw[AAC _ _ _ _ _ _ h];rfl)
theorem Sv (x y:Val) (A1:zo) (c1:Nat) (A2:zo) (c2:Nat) (A3:zo) (c3:Nat) (B1:zo) (d1:Nat) (B2:zo) (d2:Nat) (B3:zo) (d3:Nat) (w:World) (hx:Ar w x A1 A2 A3) (hy:Ar w y B1 B2 B3) :
  Calls prog 18 #[x.v A1 c1 A2 c2 A3 c3,y.v B1 d1 B2 d2 B3 d3] w (Ic (decide (x=y)) w):=by
 have HB0:=zh (zI w (x.box A1 c1 A2 c2 A3 c3) (y.box B1 d1 B2 d2 B3 d3));have HX0:=zh (Ip w (x.box A1 c1 A2 c2 A3 c3) (y.box B1 d1 B2 d2 B3 d3));have HS:=zh (RU x y A1 c1 A2 c2 A3 c3 B1 d1 B2 d2 B3 d3 _ (hx.below HB0) (hy.below HB0));clear hx hy;generalize decide (x=y)=bb at *
 go_enter func18,ntmps18
 go_upto_region 1 with fail
 generalize (w.alloc (x.box A1 c1 A2 c2 A3 c3)).alloc (y.box B1 d1 B2 d2 B3 d3)=W0 at *;obtain ⟨v0,v1,v2,v3,v4,v5,v6,v7⟩:=Yg HX0.O.1;obtain ⟨u0,u1,u2,u3,u4,u5,u6,u7⟩:=Yg HX0.O.2.1;go_wp2_with fail;refine HS.O.mono ?_;rintro e w2 ⟨rfl,hb2⟩;have HB2:=zh (zB HB0 hb2);clear hb2 v0 v1 v2 v3 v4 v5 v6 v7 u0 u1 u2 u3 u4 u5 u6 u7;go_wp2;go_ret;exact ⟨rfl,HB2.O⟩
