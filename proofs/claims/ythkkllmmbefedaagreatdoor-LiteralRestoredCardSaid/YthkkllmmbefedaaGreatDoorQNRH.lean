/-
  Walks: the literal's reader: union, by name.
-/
import Derived.Test.YthkkllmmbefedaaGreatDoorQGC0
namespace Go.Proofs.YthkkllmmbefedaaGreatDoor
open Go.RowKit
set_option maxHeartbeats 16000000
set_option maxRecDepth 100000
theorem VY {C:EB} {W0:World} {p:Nat} {x:Aa} {As:zo} {cs:Nat} {Am:zo} {cm:Nat} {n:Nat} (ih:Dp C n) {W:World} {r:List AJ} {k:Bool} (ht:JY C.w0 x As Am) (h:Gy C W0 p x.kind W r k 0 0 AP AP AP [] [] []) (hn:r.length<=n)
  (he:∀y∈x.AA,0<=y.type/\y.type<(C.s.length:Int)) (hat:BX ⟨#[64]⟩ r=false) :
  Calls Tryz.prog 125 #[.pointer (some ⟨C.b,0,none⟩),x.v As cs Am cm,.pointer (some ⟨p,0,none⟩)] W fun y W'=>y = .returned (.tuple #[])/\GY C W0 p x.kind r (Px x.kind (Ej false (Ag false C.s) x r k)) W':=by
 have qL:=zh (h.below (zD W (x.box As cs Am cm)));have EH:=zh (AAL W (x.box As cs Am cm));have HXB:Hid (W.heap.size≠C.b):=by have:=h.rd.lt;show _≠_;omega
 have GX:=zh h.bp;have Ed:=zh ht;have EI:=zh ih;have KX:=zh he;have HN:=zh hn;have HI:=zh hat;have Sv:Hid (Ej false (Ag false C.s) x r k=(CG 1 r).bind fun p =>
  match x.AA.find? fun y=>decide (y.name=p.1.text) with
  | none => .error 4
  | some y=>(Aq ⟨#[40]⟩ p.2).bind fun l2=>(Ag false C.s y.type l2 k).bind fun q=>(Aq ⟨#[41]⟩ q.2.1).bind fun l4 => .ok ((y.id,[q.1],[]),l4,q.2.2)):=by
  show _=_
  unfold Ej;rw[Pd (by rw[hat];simp)]
  rfl
 clear h hat ih he hn ht
 go_enter Tryz.func125,Tryz.ntmps125
 go_upto_region 1 with fail
 generalize W.alloc (x.box As cs Am cm)=W1 at *;go_wp2_with fail;refine (zX ⟨#[64]⟩ qL.out.rd).mono ?_;rintro y w2 ⟨rfl,hb2⟩;rw[HI.out];have qK:=zh (qL.out.below hb2);have NK:=zh (Aw EH hb2);clear hb2;go_upto_region 10 with fail
 go_cut [6] (fun s wx=>∃tb t0 r1 e1,s = .pointer (some ⟨tb,0,none⟩)/\Hid (Gy C W0 p x.kind wx r1 k e1 0 AP AP AP [] [] []/\wx.heap[W.heap.size]? = some (x.box As cs Am cm)/\wx.heap[tb]? = some (o6 t0)/\Wx 1 r t0 r1 e1))
 case first =>
  go_wp2_with (go_at_call 122;refine (Bp 1 qK.out.rd).mono ?_;intro y w3 h3;obtain ⟨t0,r1,e1,rfl,g1,g2,g3⟩:=FU h3;have Ob:=zh (qK.out.BJ g1 g2);have Iz:=zh (Cg NK g1 HXB);have I5:=zh g3;clear h3 g1 g2 g3)
  go_meet
  exact ⟨_,t0,r1,e1,rfl,Ob.out.below (zD _ _),Aw Iz (zD _ _),AAL _ _,I5.out⟩
 case rest =>
 obtain ⟨W3,rfl⟩:∃W:World,W=wc:=⟨_,rfl⟩;obtain ⟨tb,t0,r1,e1,rfl,h3⟩:=hcut;have Ob:=zh h3.out.1;have Iz:=zh h3.out.2.1;have HB3:=zh h3.out.2.2.1;have I5:=zh h3.out.2.2.2;clear h3 qL qK EH NK;have rz:=Ob.out.rd.zero
 by_cases hz:e1=0
 case neg =>
  have q1:(e1 != 0)=true:=by simp[hz]
  have HP:Hid (Px x.kind (Ej false (Ag false C.s) x r k) = .error e1):=by
   show _=_
   have ht:=I5.out.tk;rw[Sv.out]
   cases hk:CG 1 r with
   | error e2=>rw[hk] at ht;rw[ht.1];rfl
   | ok q=>rw[hk] at ht;exact absurd ht.2.2.1 hz
  clear hz;go_wp2;refine bodyPost_ret (results_none Tryz.results125 _ _ _) rfl ⟨rfl,Bu Ob I5.out.1.1 z3 HP⟩
 subst hz;obtain ⟨HP,Dz⟩:Hid (Ej false (Ag false C.s) x r k=match x.AA.find? fun y=>decide (y.name=t0.text) with
  | none => .error 4
  | some y=>(Aq ⟨#[40]⟩ r1).bind fun l2=>(Ag false C.s y.type l2 k).bind fun q=>(Aq ⟨#[41]⟩ q.2.1).bind fun l4 => .ok ((y.id,[q.1],[]),l4,q.2.2))/\Hid (r1.length<r.length):=by
  have ht:=I5.out.tk
  cases hk:CG 1 r with
  | error e2=>rw[hk] at ht;exact absurd rfl ht.2
  | ok q =>
   rw[hk] at ht;refine ⟨?_,ht.2.2.2⟩
   show _=_
   rw[Sv.out,hk,zM,<-ht.1,<-ht.2.1]
 have x6:W3.cell? ⟨W.heap.size,6,none⟩=some (.slice Am x.AA.length cm):=by rw[AAN _ _ _ _ _ _ Iz.out];rfl
 have hln:=Ed.out.AA.1;unfold EK at hln;have rY:(x.AA.length:Int)<=1000000000000000:=by omega
 clear I5 Sv hln;go_wp2
 go_loopw [65] (fun a wr=>∃i:Nat,i<=x.AA.length/\a = .int .i64 (i:Int)/\Hid (Below W3.heap.size W3 wr/\∀j (hj:j<x.AA.length),j<i->decide ((x.AA[j]).name=t0.text)=false)) (fun a _=>x.AA.length - (intOf a).toNat)
 case atStart=>exact ⟨0,by omega,rfl,Pe _ _,fun j _ h=>absurd h (by omega)⟩
 case round =>
  obtain ⟨i,hi,rfl,hh⟩:=hrel;have HB:=zh hh.out.1;have OY:=zh hh.out.2;clear hh
  by_cases hlt:i<x.AA.length
  ·obtain ⟨mb,mo,M1,m1,M2,m2,M3,m3,rfl,hmr,a0,a1,a2,a3,a4,a5,a6,a7,a8,a9,aC,aB,a12⟩:=(Ed.out.AA.below (Ob.out.below HB).rd.up).K5 hlt
   have QE:=zh (KX.out _ (AAU hlt));obtain ⟨⟨_,n1,_,_,_⟩,_⟩:=Bb (Aw HB3 HB);have h1:(0:Int)<=(i:Int):=by omega
   have h2:(i:Int)<(x.AA.length:Int):=by omega
   have htb:=zL n1;simp only at htb;clear hmr;have HFA:Hid (decide ((x.AA[i]).name=t0.text)=true->x.AA.find? (fun y=>decide (y.name=t0.text))=some x.AA[i]):=fun h=>PX (p:=fun y=>decide (y.name=t0.text)) x.AA i hlt h OY.out
   have Si:Hid (decide ((x.AA[i]).name=t0.text)=false->∀j (hj:j<x.AA.length),j<i+1->decide ((x.AA[j]).name=t0.text)=false):=fun hd j hj hji=>by
    by_cases e:j=i
    ·subst e;exact hd
    ·exact OY.out j hj (by omega)
   generalize x.AA[i]=m at *
   by_cases hnm:m.name=t0.text
   case neg =>
    have q2:(m.name.toList != t0.text.toList)=true:=by simp only[bne,bytes_beq,AAZ hnm,Bool.not_false]
    have VQ:=zh (Si.out (AAZ hnm));have q3:(m.name.toList==t0.text.toList)=false:=by rw[bytes_beq];exact AAZ hnm
    clear hnm;go_wp2;go_roundw
    case rel=>exact ⟨i+1,by omega,by go_num,zB HB (zD _ _),VQ.out⟩
    case measure=>simp[intOf];omega
   have q2:(m.name.toList==t0.text.toList)=true:=by rw[bytes_beq];exact AAT hnm
   have HPM:Hid (Ej false (Ag false C.s) x r k=(Aq ⟨#[40]⟩ r1).bind fun l2=>(Ag false C.s m.type l2 k).bind fun q=>(Aq ⟨#[41]⟩ q.2.1).bind fun l4 => .ok ((m.id,[q.1],[]),l4,q.2.2)):=by
    show _=_
    rw[HP.out,HFA.out (AAT hnm)]
   clear hnm;have Oa:=zh ((Ob.out.below HB).below (zD wr (m.box M1 m1 M2 m2 M3 m3)));have aO:Hid ((wr.alloc (m.box M1 m1 M2 m2 M3 m3)).heap[wr.heap.size]? = some (m.box M1 m1 M2 m2 M3 m3)):=AAL wr _;obtain ⟨⟨_,_,_,_,c4,_,_,_⟩,cf⟩:=Oa.out.vb.cells;have f4:=cf 4
   have HWB:Hid (wr.heap.size≠C.b/\wr.heap.size≠p):=by have h3:=(Ob.out.below HB).rd.lt;have h4:=(Ob.out.below HB).vb.lt;exact ⟨by omega,by omega⟩
   clear cf;go_upto_region 17 with fail
   clear c4 f4;have VD:=zh (Oa.out.qh m.id);have CF:=zh ((AAO (wr.alloc (m.box M1 m1 M2 m2 M3 m3)) ⟨p,4,none⟩ wr.heap.size (.int .i64 m.id) HWB.out.2).trans aO);clear a0 a1 a2 a3 a4 a5 a6 a7 a8 a9 aC aB a12 n1 htb rz x6 q2;generalize World.setCell (World.alloc wr _) _ _=W5 at *;go_wp2_with fail;refine (BO ⟨#[40]⟩ VD.out.rd).mono ?_
   intro y w4 h4
   obtain rfl:=h4.1;obtain ⟨hb4,r2,e2,hr4,hs4⟩:=Eo h4;have LP:=zh (VD.out.BJ hb4 hr4);have av:=zh (Cg CF hb4 HWB.out.1);have Sr:=zh hs4;have x2:w4.cell? ⟨wr.heap.size,2,none⟩=some (.int .i64 m.type):=by rw[AAN _ _ _ _ _ _ av.out];rfl
   clear h4 hb4 hr4 hs4;go_wp2_with fail;refine (EI.out m.type _ r2 k e2 (by have:=Sr.out.1;have:=Dz.out;have:=HN.out;omega) QE LP.out.rd).mono ?_
   rintro y w5 ⟨xa,rfl,g1,g2,r5,k5,e5,g3,g4,g5,g6⟩;have NS:=zh (LP.out.one g2 g3 g1);have HV5:=zh (LP.out.BJ g2 g3);have MX:=zh g4;have I6:Hid (∀W' r7 e7,Gy C W0 p x.kind W' r7 k5 e7 m.id AP (.slice (some ⟨w5.heap.size,0,none⟩) 1 1) AP [] [xa] []->Uw ⟨#[41]⟩ r5 e5 r7 e7->GY C W0 p x.kind r (Px x.kind (Ej false (Ag false C.s) x r k)) W'):=fun W' r7 e7 j1 j2=>by
    have hu:=kJ (Gf false C.s) (id:=m.id) (ty:=m.type) Sr (k:=k) g5 g6 j2;have hl:r7.length<=r.length:=by have:=j2.1;have:=MX.out;have:=Sr.out.1;have:=Dz.out;omega
    rw[HPM.out]
    revert hu
    cases ((Aq ⟨#[40]⟩ r1).bind fun l2=>(Ag false C.s m.type l2 k).bind fun q=>(Aq ⟨#[41]⟩ q.2.1).bind fun l4 => .ok ((m.id,[q.1],[]),l4,q.2.2):PR (Int×List Val×List Af)) with
    | error e=>exact fun hu=>Bu j1 hl ⟨by simp,by simp,by simp⟩ (by rw[TK];exact congrArg _ hu.symm)
    | ok z =>
     obtain ⟨⟨a,b,c⟩,l,k'⟩:=z
     intro hu
     obtain ⟨j3,j4,j5,j6⟩:=hu
     injection j3 with j3 j7
     injection j7 with j7 j8
     subst j3 j4 j5 j6 j7 j8;rw[XR];exact Fw j1 hl ⟨by simp,by simp,by simp⟩ rfl rfl
   obtain ⟨⟨_,_,_,_,_,_,c6,_⟩,cf⟩:=(HV5.out.vb.below (zD w5 (.cells xa.cells.toArray 28))).cells;have f6:=cf 6;clear g1 g2 g3 g4 g5 g6 cf;unfold Aj.cells Val.cs at NS c6 f6;go_upto_region 19 with fail
   clear c6 f6;generalize World.setCell (World.alloc w5 _) _ _=W6 at *;have rz:=NS.out.rd.zero
   by_cases hz:e5=0
   ·have q1:(e5==0)=true:=by simp[hz]
    subst hz;clear rz;have rz:=NS.out.rd.zero;go_wp2_with fail;refine (BO ⟨#[41]⟩ NS.out.rd).mono ?_
    intro y w8 h8
    obtain rfl:=h8.1;obtain ⟨EM,r4,e4,nL,pO⟩:=Eo h8;have qJ:=zh (NS.out.BJ EM nL);have yX:=zh pO;clear h8 EM nL pO;go_wp2;refine bodyPost_ret (results_none Tryz.results125 _ _ _) rfl ⟨rfl,I6.out _ _ _ qJ yX⟩
   ·have q1:(e5==0)=false:=by simp[hz]
    have HE:=zh hz;clear hz;go_wp2;refine bodyPost_ret (results_none Tryz.results125 _ _ _) rfl ⟨rfl,I6.out _ _ _ NS (Me HE)⟩
  ·have Yh:Hid (Px x.kind (Ej false (Ag false C.s) x r k) = .error 4):=by
    show _=_
    rw[HP.out,Ug (p:=fun y=>decide (y.name=t0.text)) fun j hj=>OY.out j hj (by omega)]
    rfl
   have h2:¬ (i:Int)<(x.AA.length:Int):=by omega
   go_wp2_with fail
   refine (BZ 4 (Ob.out.below HB).rd).mono ?_;rintro y w6 ⟨rfl,g1,g2⟩;have NS:=zh ((Ob.out.below HB).BJ g2 g1);clear g1 g2;go_wp2;refine bodyPost_end (results_none Tryz.results125 _ _ _) rfl ⟨rfl,Bu NS (AAV Dz) z3 Yh⟩
theorem Yp {C:EB} {W0:World} {p:Nat} {x:Aa} {As:zo} {cs:Nat} {Am:zo} {cm:Nat} {n:Nat} (ih:Dp C n) {W:World} {r:List AJ} {k:Bool} (ht:JY C.w0 x As Am) (h:Gy C W0 p x.kind W r k 0 0 AP AP AP [] [] []) (hn:r.length<=n)
  (he:∀y∈x.AA,0<=y.type/\y.type<(C.s.length:Int)) :
  Calls Tryz.prog 125 #[.pointer (some ⟨C.b,0,none⟩),x.v As cs Am cm,.pointer (some ⟨p,0,none⟩)] W fun y W'=>y = .returned (.tuple #[])/\GY C W0 p x.kind r (Px x.kind (Ej false (Ag false C.s) x r k)) W':=by
 cases hat:BX ⟨#[64]⟩ r with
 | true=>exact bX h hat
 | false=>exact VY ih ht h hn he hat
end Go.Proofs.YthkkllmmbefedaaGreatDoor



