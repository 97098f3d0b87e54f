/-
  Walks: the literal's reader: union, by name.
-/
import Derived.Test.YthkkllmmbefedaaGreatDoorQGC0
namespace Go.Proofs.YthkkllmmbefedaaGreatDoor
open Go.RowKit
set_option maxHeartbeats 16000000
set_option maxRecDepth 100000
theorem Vi {C:CZ} {W0:World} {p:Nat} {x:AZ} {As:zo} {cs:Nat} {Am:zo} {cm:Nat} {n:Nat} (ih:Dt C n) {W:World} {r:List AB} {k:Bool} (ht:Ic C.w0 x As Am) (h:Hr C W0 p x.kind W r k 0 0 AJ AJ AJ [] [] []) (hn:r.length<=n)
  (he:∀y∈x.AA,0<=y.type/\y.type<(C.s.length:Int)) (hat:Ba ⟨#[64]⟩ r=false) :
  Calls Tryz.prog 125 #[.pointer (some ⟨C.b,0,none⟩),x.v As cs Am cm,.pointer (some ⟨p,0,none⟩)] W fun y W'=>y = .returned (.tuple #[])/\Gl C W0 p x.kind r (Hu x.kind (Co false (AP false C.s) x r k)) W':=by
 have Ki:=zh (h.below (zD W (x.box As cs Am cm)));have EM:=zh (AAA W (x.box As cs Am cm));have HXB:Hid (W.heap.size≠C.b):=by have:=h.rd.lt;show _≠_;omega
 have JI:=zh h.bp;have OP:=zh ht;have Df:=zh ih;have MU:=zh he;have HN:=zh hn;have HI:=zh hat;have LF:Hid (Co false (AP false C.s) x r k=(Bg 1 r).bind fun p =>
  match x.AA.find? fun y=>decide (y.name=p.1.text) with
  | none => .error 4
  | some y=>(BG ⟨#[40]⟩ p.2).bind fun l2=>(AP false C.s y.type l2 k).bind fun q=>(BG ⟨#[41]⟩ q.2.1).bind fun l4 => .ok ((y.id,[q.1],[]),l4,q.2.2)):=by
  show _=_
  unfold Co;rw[Pe (by rw[hat];simp)]
  rfl
 clear h hat ih he hn ht
 go_enter Tryz.func125,Tryz.ntmps125
 go_upto_region 1 with fail
 generalize W.alloc (x.box As cs Am cm)=W1 at *;go_wp2_with fail;refine (zX ⟨#[64]⟩ Ki.out.rd).mono ?_;rintro y w2 ⟨rfl,hb2⟩;rw[HI.out];have Ht:=zh (Ki.out.below hb2);have F6:=zh (CW EM hb2);clear hb2;go_upto_region 10 with fail
 go_cut [6] (fun s wx=>∃tb t0 r1 e1,s = .pointer (some ⟨tb,0,none⟩)/\Hid (Hr C W0 p x.kind wx r1 k e1 0 AJ AJ AJ [] [] []/\wx.heap[W.heap.size]? = some (x.box As cs Am cm)/\wx.heap[tb]? = some (bG t0)/\Q6 1 r t0 r1 e1))
 case first =>
  go_wp2_with (go_at_call 122;refine (Bo 1 Ht.out.rd).mono ?_;intro y w3 h3;obtain ⟨t0,r1,e1,rfl,g1,g2,g3⟩:=Fa h3;have GJ:=zh (Ht.out.BF g1 g2);have JQ:=zh (Ai F6 g1 HXB);have EJ:=zh g3;clear h3 g1 g2 g3)
  go_meet
  exact ⟨_,t0,r1,e1,rfl,GJ.out.below (zD _ _),CW JQ (zD _ _),AAA _ _,EJ.out⟩
 case rest =>
 obtain ⟨W3,rfl⟩:∃W:World,W=wc:=⟨_,rfl⟩;obtain ⟨tb,t0,r1,e1,rfl,h3⟩:=hcut;have GJ:=zh h3.out.1;have JQ:=zh h3.out.2.1;have HB3:=zh h3.out.2.2.1;have EJ:=zh h3.out.2.2.2;clear h3 Ki Ht EM F6;have rz:=GJ.out.rd.zero
 by_cases hz:e1=0
 case neg =>
  have q1:(e1 != 0)=true:=by simp[hz]
  have HP:Hid (Hu x.kind (Co false (AP false C.s) x r k) = .error e1):=by
   show _=_
   have ht:=EJ.out.tk;rw[LF.out]
   cases hk:Bg 1 r with
   | error e2=>rw[hk] at ht;rw[ht.1];rfl
   | ok q=>rw[hk] at ht;exact absurd ht.2.2.1 hz
  clear hz;go_wp2;refine bodyPost_ret (results_none Tryz.results125 _ _ _) rfl ⟨rfl,Bw GJ EJ.out.1.1 z3 HP⟩
 subst hz;obtain ⟨HP,Dm⟩:Hid (Co false (AP false C.s) x r k=match x.AA.find? fun y=>decide (y.name=t0.text) with
  | none => .error 4
  | some y=>(BG ⟨#[40]⟩ r1).bind fun l2=>(AP false C.s y.type l2 k).bind fun q=>(BG ⟨#[41]⟩ q.2.1).bind fun l4 => .ok ((y.id,[q.1],[]),l4,q.2.2))/\Hid (r1.length<r.length):=by
  have ht:=EJ.out.tk
  cases hk:Bg 1 r with
  | error e2=>rw[hk] at ht;exact absurd rfl ht.2
  | ok q =>
   rw[hk] at ht;refine ⟨?_,ht.2.2.2⟩
   show _=_
   rw[LF.out,hk,zM,<-ht.1,<-ht.2.1]
 have x6:W3.cell? ⟨W.heap.size,6,none⟩=some (.slice Am x.AA.length cm):=by rw[AAB _ _ _ _ _ _ JQ.out];rfl
 have hln:=OP.out.AA.1;unfold D9 at hln;have kW:(x.AA.length:Int)<=1000000000000000:=by omega
 clear EJ LF hln;go_wp2
 go_loopw [65] (fun a wr=>∃i:Nat,i<=x.AA.length/\a = .int .i64 (i:Int)/\Hid (Below W3.heap.size W3 wr/\∀j (hj:j<x.AA.length),j<i->decide ((x.AA[j]).name=t0.text)=false)) (fun a _=>x.AA.length - (intOf a).toNat)
 case atStart=>exact ⟨0,by omega,rfl,Pd _ _,fun j _ h=>absurd h (by omega)⟩
 case round =>
  obtain ⟨i,hi,rfl,hh⟩:=hrel;have HB:=zh hh.out.1;have Ho:=zh hh.out.2;clear hh
  by_cases hlt:i<x.AA.length
  ·obtain ⟨mb,mo,M1,m1,M2,m2,M3,m3,rfl,hmr,a0,a1,a2,a3,a4,a5,a6,a7,a8,a9,XC,XB,a12⟩:=(OP.out.AA.below (GJ.out.below HB).rd.up).MH hlt
   have RF:=zh (MU.out _ (AAW hlt));obtain ⟨⟨_,n1,_,_,_⟩,_⟩:=Ao (CW HB3 HB);have h1:(0:Int)<=(i:Int):=by omega
   have h2:(i:Int)<(x.AA.length:Int):=by omega
   have htb:=zL n1;simp only at htb;clear hmr;have iC:Hid (decide ((x.AA[i]).name=t0.text)=true->x.AA.find? (fun y=>decide (y.name=t0.text))=some x.AA[i]):=fun h=>Js (p:=fun y=>decide (y.name=t0.text)) x.AA i hlt h Ho.out
   have KV:Hid (decide ((x.AA[i]).name=t0.text)=false->∀j (hj:j<x.AA.length),j<i+1->decide ((x.AA[j]).name=t0.text)=false):=fun hd j hj hji=>by
    by_cases e:j=i
    ·subst e;exact hd
    ·exact Ho.out j hj (by omega)
   generalize x.AA[i]=m at *
   by_cases hnm:m.name=t0.text
   case neg =>
    have q2:(m.name.toList != t0.text.toList)=true:=by simp only[bne,bytes_beq,AAE hnm,Bool.not_false]
    have OU:=zh (KV.out (AAE hnm));have q3:(m.name.toList==t0.text.toList)=false:=by rw[bytes_beq];exact AAE hnm
    clear hnm;go_wp2;go_roundw
    case rel=>exact ⟨i+1,by omega,by go_num,zB HB (zD _ _),OU.out⟩
    case measure=>simp[intOf];omega
   have q2:(m.name.toList==t0.text.toList)=true:=by rw[bytes_beq];exact AAM hnm
   have HPM:Hid (Co false (AP false C.s) x r k=(BG ⟨#[40]⟩ r1).bind fun l2=>(AP false C.s m.type l2 k).bind fun q=>(BG ⟨#[41]⟩ q.2.1).bind fun l4 => .ok ((m.id,[q.1],[]),l4,q.2.2)):=by
    show _=_
    rw[HP.out,iC.out (AAM hnm)]
   clear hnm;have Kt:=zh ((GJ.out.below HB).below (zD wr (m.box M1 m1 M2 m2 M3 m3)));have P5:Hid ((wr.alloc (m.box M1 m1 M2 m2 M3 m3)).heap[wr.heap.size]? = some (m.box M1 m1 M2 m2 M3 m3)):=AAA wr _;obtain ⟨⟨_,_,_,_,c4,_,_,_⟩,cf⟩:=Kt.out.vb.cells;have f4:=cf 4
   have qg:Hid (wr.heap.size≠C.b/\wr.heap.size≠p):=by have h3:=(GJ.out.below HB).rd.lt;have h4:=(GJ.out.below HB).vb.lt;exact ⟨by omega,by omega⟩
   clear cf;go_upto_region 17 with fail
   clear c4 f4;have Gn:=zh (Kt.out.Rb m.id);have BK:=zh ((AAO (wr.alloc (m.box M1 m1 M2 m2 M3 m3)) ⟨p,4,none⟩ wr.heap.size (.int .i64 m.id) qg.out.2).trans P5);clear a0 a1 a2 a3 a4 a5 a6 a7 a8 a9 XC XB a12 n1 htb rz x6 q2;generalize World.setCell (World.alloc wr _) _ _=W5 at *;go_wp2_with fail;refine (BV ⟨#[40]⟩ Gn.out.rd).mono ?_
   intro y w4 h4
   obtain rfl:=h4.1;obtain ⟨hb4,r2,e2,hr4,hs4⟩:=Eh h4;have GI:=zh (Gn.out.BF hb4 hr4);have RD:=zh (Ai BK hb4 qg.out.1);have IY:=zh hs4;have x2:w4.cell? ⟨wr.heap.size,2,none⟩=some (.int .i64 m.type):=by rw[AAB _ _ _ _ _ _ RD.out];rfl
   clear h4 hb4 hr4 hs4;go_wp2_with fail;refine (Df.out m.type _ r2 k e2 (by have:=IY.out.1;have:=Dm.out;have:=HN.out;omega) RF GI.out.rd).mono ?_
   rintro y w5 ⟨xa,rfl,g1,g2,r5,k5,e5,g3,g4,g5,g6⟩;have Dn:=zh (GI.out.one g2 g3 g1);have HV5:=zh (GI.out.BF g2 g3);have Gm:=zh g4;have EK:Hid (∀W' r7 e7,Hr C W0 p x.kind W' r7 k5 e7 m.id AJ (.slice (some ⟨w5.heap.size,0,none⟩) 1 1) AJ [] [xa] []->Jy ⟨#[41]⟩ r5 e5 r7 e7->Gl C W0 p x.kind r (Hu x.kind (Co false (AP false C.s) x r k)) W'):=fun W' r7 e7 j1 j2=>by
    have hu:=ic (Cm false C.s) (id:=m.id) (ty:=m.type) IY (k:=k) g5 g6 j2;have hl:r7.length<=r.length:=by have:=j2.1;have:=Gm.out;have:=IY.out.1;have:=Dm.out;omega
    rw[HPM.out]
    revert hu
    cases ((BG ⟨#[40]⟩ r1).bind fun l2=>(AP false C.s m.type l2 k).bind fun q=>(BG ⟨#[41]⟩ q.2.1).bind fun l4 => .ok ((m.id,[q.1],[]),l4,q.2.2):PR (Int×List Val×List Ac)) with
    | error e=>exact fun hu=>Bw j1 hl ⟨by simp,by simp,by simp⟩ (by rw[TU];exact congrArg _ hu.symm)
    | ok z =>
     obtain ⟨⟨a,b,c⟩,l,k'⟩:=z
     intro hu
     obtain ⟨j3,j4,j5,j6⟩:=hu
     injection j3 with j3 j7
     injection j7 with j7 j8
     subst j3 j4 j5 j6 j7 j8;rw[Xg];exact F4 j1 hl ⟨by simp,by simp,by simp⟩ rfl rfl
   obtain ⟨⟨_,_,_,_,_,_,c6,_⟩,cf⟩:=(HV5.out.vb.below (zD w5 (.cells xa.cells.toArray 28))).cells;have f6:=cf 6;clear g1 g2 g3 g4 g5 g6 cf;unfold BX.cells Val.cs at Dn c6 f6;go_upto_region 19 with fail
   clear c6 f6;generalize World.setCell (World.alloc w5 _) _ _=W6 at *;have rz:=Dn.out.rd.zero
   by_cases hz:e5=0
   ·have q1:(e5==0)=true:=by simp[hz]
    subst hz;clear rz;have rz:=Dn.out.rd.zero;go_wp2_with fail;refine (BV ⟨#[41]⟩ Dn.out.rd).mono ?_
    intro y w8 h8
    obtain rfl:=h8.1;obtain ⟨IG,r4,e4,uP,nA⟩:=Eh h8;have EL:=zh (Dn.out.BF IG uP);have ql:=zh nA;clear h8 IG uP nA;go_wp2;refine bodyPost_ret (results_none Tryz.results125 _ _ _) rfl ⟨rfl,EK.out _ _ _ EL ql⟩
   ·have q1:(e5==0)=false:=by simp[hz]
    have HE:=zh hz;clear hz;go_wp2;refine bodyPost_ret (results_none Tryz.results125 _ _ _) rfl ⟨rfl,EK.out _ _ _ Dn (Mk HE)⟩
  ·have JO:Hid (Hu x.kind (Co false (AP false C.s) x r k) = .error 4):=by
    show _=_
    rw[HP.out,Lx (p:=fun y=>decide (y.name=t0.text)) fun j hj=>Ho.out j hj (by omega)]
    rfl
   have h2:¬ (i:Int)<(x.AA.length:Int):=by omega
   go_wp2_with fail
   refine (Bc 4 (GJ.out.below HB).rd).mono ?_;rintro y w6 ⟨rfl,g1,g2⟩;have Dn:=zh ((GJ.out.below HB).BF g2 g1);clear g1 g2;go_wp2;refine bodyPost_end (results_none Tryz.results125 _ _ _) rfl ⟨rfl,Bw Dn (AAT Dm) z3 JO⟩
theorem Ym {C:CZ} {W0:World} {p:Nat} {x:AZ} {As:zo} {cs:Nat} {Am:zo} {cm:Nat} {n:Nat} (ih:Dt C n) {W:World} {r:List AB} {k:Bool} (ht:Ic C.w0 x As Am) (h:Hr C W0 p x.kind W r k 0 0 AJ AJ AJ [] [] []) (hn:r.length<=n)
  (he:∀y∈x.AA,0<=y.type/\y.type<(C.s.length:Int)) :
  Calls Tryz.prog 125 #[.pointer (some ⟨C.b,0,none⟩),x.v As cs Am cm,.pointer (some ⟨p,0,none⟩)] W fun y W'=>y = .returned (.tuple #[])/\Gl C W0 p x.kind r (Hu x.kind (Co false (AP false C.s) x r k)) W':=by
 cases hat:Ba ⟨#[64]⟩ r with
 | true=>exact aY h hat
 | false=>exact Vi ih ht h hn he hat
end Go.Proofs.YthkkllmmbefedaaGreatDoor



