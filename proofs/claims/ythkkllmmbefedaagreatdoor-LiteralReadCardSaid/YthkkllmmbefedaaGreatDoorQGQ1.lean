/-
  Walks: the reference's reader: the items of a list.
-/
import Derived.Test.YthkkllmmbefedaaGreatDoorQGQ0
import Derived.Test.YthkkllmmbefedaaGreatDoorQGM0
namespace Go.Proofs.YthkkllmmbefedaaGreatDoor
open Go.RowKit
set_option maxHeartbeats 16000000
set_option maxRecDepth 100000
def Uw (kd:Int) (P:PR Int):PR Val:=P.bind fun p => .ok (.mk kd false 0 ⟨#[]⟩ p.1 [] [] [],p.2)
abbrev ng (kd:Int):Value := .agg #[.int .i64 kd,.bool false,.int .i64 0,.string ⟨#[]⟩,.int .i64 0,AJ,AJ,AJ]
variable {e e1 n:Int} {r r1:List AB} {t0:AB}
theorem OG (h:XG n r e t0 r1 e1):r1.length<=r.length:=by
 rcases h with ⟨_,_,h,_⟩|⟨_,h⟩
 ·rw[h];exact AAQ _
 ·exact h.1.1
theorem Ip (h:XG n r 0 t0 r1 e1):Q6 n r t0 r1 e1:=by
 rcases h with ⟨h,_⟩|⟨_,h⟩
 ·exact absurd rfl h
 ·exact h
variable {cm cs:Nat} {C:CZ} {x:AZ} {W:World} {Am As:zo}
theorem ZE (h:DW C W r 0) (ht:Ic C.w0 x As Am):
  Calls Tryz.prog 133 #[.pointer (some ⟨C.b,0,none⟩),x.v As cs Am cm,ng x.kind] W (QP C W r (Uw x.kind (CY true x r false))):=by
 have IZ:=zh (DX.new (cs:=cs) (cm:=cm) h ht);have OP:=zh ht;have LF:Hid (CY true x r false=if Ba ⟨#[64]⟩ r=true then (Bg 2 r.tail).bind fun p=>(if JB x (GH true p.1.int)=true then .ok (0,p.2,false) else .ok (GH true p.1.int,p.2,false))
  else (Bg 1 r).bind fun p =>
   match x.Ab.find? fun y=>decide (y.name=p.1.text) with
   | some y => .ok (y.id,p.2,false)
   | none => .error 4):=by
  show _=_
  unfold CY
  split
  ·congr 1
  ·rfl
 clear h ht
 go_enter Tryz.func133,Tryz.ntmps133
 go_upto_region 1 with fail
 unfold NH zO at IZ;generalize World.alloc (World.alloc (World.alloc W _) _) _=W1 at *;obtain ⟨px,hpx⟩:∃n,W.heap.size=n:=⟨_,rfl⟩;obtain ⟨p,hp⟩:∃n,px+1=n:=⟨_,rfl⟩;obtain ⟨q,hq⟩:∃n,px+2=n:=⟨_,rfl⟩;rw[hpx,hq,hp] at IZ;rw[show W.heap.size+1+1=q by rw[hpx];exact hq,hpx,hp]
 have Ki:=zh (show DX C W px p q x As cs Am cm W1 r 0 0 AJ AJ AJ [] [] [] from IZ.out);clear IZ hpx hp hq
 cases hi:Ba ⟨#[64]⟩ r with
 | true =>
  have HI:Hid (OO ⟨#[64]⟩ r 0=true):=by show _=_;unfold OO;rw[hi];rfl
  rw[AAC hi] at LF;obtain ⟨t,qq,rfl,_,_⟩:=BN hi;clear hi;go_wp2_with fail;refine (Bt ⟨#[64]⟩ Ki.out.rd).mono ?_;rintro y w2 ⟨rfl,hb2⟩;rw[HI.out];have Ht:=zh (Ki.out.below hb2);obtain ⟨i,hi,c2,f2,hi2,HN⟩:=Ht.out.rd.Pb;clear hb2;go_wp2_with fail;have GJ:=zh (Ht.out.BF ((Ah.refl _ _).set 2 (.int .i64 ((i:Int)+1))) (HN.out.1 _ _ Ht.out.rd));refine (Ow GJ.out.rd).mono ?_
  rintro y w4 ⟨t0,r1,e1,rfl,g1,g2,g3⟩;have GI:=zh (GJ.out.BF g1 g2);have KU:=zh (Ip g3);obtain ⟨⟨_,_,_,_,c4,_,_,_⟩,cf⟩:=GI.out.vb.cells;have f4:=cf 4;clear g1 g2 g3 cf;obtain ⟨Ka,O7⟩:∃z,GH true t0.int=z:=⟨_,rfl⟩;have Ph:=zh O7;rw[O7];clear O7;go_upto_region 4 with fail
  have Gn:=zh (GI.out.Rb Ka);generalize w4.setCell ⟨p,4,none⟩ (.int .i64 Ka)=W5 at *;clear c4 f4 c2 f2;have c4:=Gn.out.vb.cells.1.2.2.2.2.1;obtain ⟨b0,b1,b2,b3,b4,b5,b6,b7,b8,b9⟩:=zG (show Bf W5 px x As cs Am cm from Gn.out.bx);go_wp2_with fail;refine (UC Ka x As cs Am cm _ (OP.out.below Gn.out.rd.up)).mono ?_;rintro y w6 ⟨ix,rfl,_,hb6⟩;have Dn:=zh (Gn.out.below hb6)
  clear hb6 b0 b1 b2 b3 b4 b5 b6 b7 b8 b9 c4;have vv:Hid (JB x Ka=x.Ab.any fun y=>decide (y.id=Ka)):=rfl
  generalize (x.Ab.any fun y=>decide (y.id=Ka))=kn at *
  have Gp:Hid (∀d,d=(if kn=true then 0 else Ka)->match Uw x.kind (CY true x (t::qq) false) with
    | .ok (v,r2,_) => .mk x.kind false 0 ⟨#[]⟩ d [] [] []=v/\r1=r2/\e1=0
    | .error e2=>e1=e2):=fun d hd=>by
   have ht:=KU.out.tk;rw[LF.out,List.tail_cons]
   cases hk:Bg 2 qq with
   | error e=>rw[hk] at ht;exact ht.1
   | ok p =>
    rw[hk] at ht;rw[zM,<-ht.1,<-ht.2.1,Ph.out,vv.out]
    cases kn with
    | true=>rw[AAC rfl] at hd ⊢;subst hd;exact ⟨rfl,rfl,ht.2.2.1⟩
    | false=>rw[Pe (by simp)] at hd ⊢;subst hd;exact ⟨rfl,rfl,ht.2.2.1⟩
  have Ez:Hid (r1.length<=(t::qq).length):=by have:=KU.out.1.1;show _<=_;simp;omega
  cases kn with
  | true =>
   obtain ⟨⟨_,_,_,_,c4,_,_,_⟩,cf⟩:=Dn.out.vb.cells;have f4:=cf 4;clear cf;go_upto_region 7 with fail
   have Gj:=zh (Dn.out.Rb 0);clear c4 f4;generalize w6.setCell ⟨p,4,none⟩ (.int .i64 0)=W7 at *;have HG2:=zh (FI Gj Ez z3 (Gp.out _ rfl));have Br:=zh (Cw Gj.out.bq (.int .i64 x.kind) (.bool false) (.int .i64 0) (.string ⟨#[]⟩) (.int .i64 0) AJ AJ AJ);obtain ⟨⟨x0,x1,x2,x3,x4,x5,x6,x7⟩,y0,y1,y2,y3,y4,y5,y6,y7⟩:=zK Gj.out.bq
   obtain ⟨⟨v0,v1,v2,v3,v4,v5,v6,v7⟩,_⟩:=Gj.out.vb.cells;go_wp2;clear x0 x1 x2 x3 x4 x5 x6 x7 y0 y1 y2 y3 y4 y5 y6 y7 v0 v1 v2 v3 v4 v5 v6 v7;unfold q8 q5 at HG2 Br
   generalize World.setCell _ _ _=W9 at *;obtain ⟨⟨x0,x1,x2,x3,x4,x5,x6,x7⟩,_⟩:=zK Br
   refine bodyPost_ret (v := .agg #[.int .i64 x.kind,.bool false,.int .i64 0,.string ⟨#[]⟩,.int .i64 0,AJ,AJ,AJ]) (by simp[results,Tryz.results133,go_sem,x0,x1,x2,x3,x4,x5,x6,x7]) rfl HG2
  | false =>
   have HG2:=zh (FI Dn Ez z3 (Gp.out _ rfl));have Br:=zh (Cw Dn.out.bq (.int .i64 x.kind) (.bool false) (.int .i64 0) (.string ⟨#[]⟩) (.int .i64 Ka) AJ AJ AJ);obtain ⟨⟨x0,x1,x2,x3,x4,x5,x6,x7⟩,y0,y1,y2,y3,y4,y5,y6,y7⟩:=zK Dn.out.bq;obtain ⟨⟨v0,v1,v2,v3,v4,v5,v6,v7⟩,_⟩:=Dn.out.vb.cells;go_wp2;clear x0 x1 x2 x3 x4 x5 x6 x7 y0 y1 y2 y3 y4 y5 y6 y7 v0 v1 v2 v3 v4 v5 v6 v7
   unfold q8 q5 at HG2 Br;generalize World.setCell _ _ _=W9 at *;obtain ⟨⟨x0,x1,x2,x3,x4,x5,x6,x7⟩,_⟩:=zK Br
   refine bodyPost_ret (v := .agg #[.int .i64 x.kind,.bool false,.int .i64 0,.string ⟨#[]⟩,.int .i64 Ka,AJ,AJ,AJ]) (by simp[results,Tryz.results133,go_sem,x0,x1,x2,x3,x4,x5,x6,x7]) rfl HG2
 | false =>
  have HI:Hid (OO ⟨#[64]⟩ r 0=false):=by show _=_;unfold OO;rw[hi];rfl
  rw[Pe (by rw[hi];simp)] at LF
  clear hi;go_wp2_with fail;refine (Bt ⟨#[64]⟩ Ki.out.rd).mono ?_;rintro y w2 ⟨rfl,hb2⟩;rw[HI.out];have Ht:=zh (Ki.out.below hb2);clear hb2;have fd1:=Lv;go_wp2_with fail;refine (Cz 1 Ht.out.rd).mono ?_;rintro y w3 ⟨t0,r1,e1,rfl,g1,g2,g3⟩;have GJ:=zh (Ht.out.BF g1 g2);have EJ:=zh (Ip g3);clear g1 g2 g3;have XP:Hid (e1≠0->CY true x r false = .error e1):=fun hz=>by
   have ht:=EJ.out.tk;rw[LF.out]
   cases hk:Bg 1 r with
   | error e2=>rw[hk] at ht;rw[ht.1];rfl
   | ok q=>rw[hk] at ht;exact absurd ht.2.2.1 hz
  have HP:Hid (e1=0->CY true x r false=match x.Ab.find? fun y=>decide (y.name=t0.text) with
   | some y => .ok (y.id,r1,false)
   | none => .error 4):=fun hz=>by
   have ht:=EJ.out.tk;rw[LF.out]
   cases hk:Bg 1 r with
   | error e2=>rw[hk] at ht;exact absurd hz ht.2
   | ok q =>
    rw[hk] at ht;rw[zM,<-ht.1,<-ht.2.1]
  have mJ:=zh EJ.out.1.1;have x5:w3.cell? ⟨px,5,none⟩=some (.slice As x.Ab.length cs):=by rw[AAB _ _ _ _ _ _ GJ.out.bx];rfl
  have hln:=OP.out.Ab.1;unfold D9 at hln;have kW:(x.Ab.length:Int)<=1000000000000000:=by omega
  clear EJ LF hln;go_wp2
  go_loopw [10] (fun a wr=>∃i:Nat,i<=x.Ab.length/\a = .int .i64 (i:Int)/\Hid (Below w3.heap.size w3 wr/\∀j (hj:j<x.Ab.length),j<i->decide ((x.Ab[j]).name=t0.text)=false)) (fun a _=>x.Ab.length - (intOf a).toNat)
  case atStart=>exact ⟨0,by omega,rfl,Pd _ _,fun j _ h=>absurd h (by omega)⟩
  case round =>
   obtain ⟨i,hi,rfl,hh⟩:=hrel;have HB:=zh hh.out.1;have Ho:=zh hh.out.2;clear hh;have Kt:=zh (GJ.out.below HB);clear x5;have x5:wr.cell? ⟨px,5,none⟩=some (.slice As x.Ab.length cs):=by rw[AAB _ _ _ _ _ _ Kt.out.bx];rfl
   by_cases hlt:i<x.Ab.length
   ·obtain ⟨sb,so,rfl,hr1,a0,a1⟩:=(OP.out.Ab.below Kt.out.rd.up).at2 hlt
    have h1:(0:Int)<=(i:Int):=by omega
    have h2:(i:Int)<(x.Ab.length:Int):=by omega
    clear hr1
    by_cases hnm:(x.Ab[i]).name=t0.text
    ·have q2:((x.Ab[i]).name.toList==t0.text.toList)=true:=by rw[bytes_beq];exact AAM hnm
     have JO:Hid (match Uw x.kind (CY true x r false) with
       | .ok (v,r2,_) => .mk x.kind false 0 ⟨#[]⟩ (x.Ab[i]).id [] [] []=v/\r1=r2/\e1=0
       | .error e2=>e1=e2):=by
      show (match Uw x.kind (CY true x r false) with
       | .ok (v,r2,_) => .mk x.kind false 0 ⟨#[]⟩ (x.Ab[i]).id [] [] []=v/\r1=r2/\e1=0
       | .error e2=>e1=e2)
      by_cases hz:e1=0
      ·rw[HP.out hz,Js (p:=fun y=>decide (y.name=t0.text)) x.Ab i hlt (AAM hnm) Ho.out]
       exact ⟨rfl,rfl,hz⟩
      ·rw[XP.out hz]
       rfl
     clear hnm;generalize x.Ab[i]=sy at *;obtain ⟨⟨_,_,_,_,c4,_,_,_⟩,cf⟩:=Kt.out.vb.cells;have f4:=cf 4;clear cf;go_upto_region 14 with fail
     clear c4 f4 a0 a1 x5;have Gj:=zh (Kt.out.Rb sy.id);generalize wr.setCell ⟨p,4,none⟩ (.int .i64 sy.id)=W7 at *;have HG2:=zh (FI Gj mJ z3 JO);have Br:=zh (Cw Gj.out.bq (.int .i64 x.kind) (.bool false) (.int .i64 0) (.string ⟨#[]⟩) (.int .i64 sy.id) AJ AJ AJ);obtain ⟨⟨x0,x1,x2,x3,x4,x5,x6,x7⟩,y0,y1,y2,y3,y4,y5,y6,y7⟩:=zK Gj.out.bq
     obtain ⟨⟨v0,v1,v2,v3,v4,v5,v6,v7⟩,_⟩:=Gj.out.vb.cells;go_wp2;clear x0 x1 x2 x3 x4 x5 x6 x7 y0 y1 y2 y3 y4 y5 y6 y7 v0 v1 v2 v3 v4 v5 v6 v7;unfold q8 q5 at HG2 Br
     generalize World.setCell _ _ _=W9 at *;obtain ⟨⟨x0,x1,x2,x3,x4,x5,x6,x7⟩,_⟩:=zK Br
     refine bodyPost_ret (v := .agg #[.int .i64 x.kind,.bool false,.int .i64 0,.string ⟨#[]⟩,.int .i64 sy.id,AJ,AJ,AJ]) (by simp[results,Tryz.results133,go_sem,x0,x1,x2,x3,x4,x5,x6,x7]) rfl HG2
    ·have q2:((x.Ab[i]).name.toList==t0.text.toList)=false:=by rw[bytes_beq];exact AAE hnm
     have OU:Hid (∀j (hj:j<x.Ab.length),j<i+1->decide ((x.Ab[j]).name=t0.text)=false):=fun j hj hji=>by
      by_cases e:j=i
      ·subst e;exact AAE hnm
      ·exact Ho.out j hj (by omega)
     clear hnm;go_wp2;go_roundw
     case rel=>exact ⟨i+1,by omega,by go_num,HB.out,OU.out⟩
     case measure=>simp[intOf];omega
   ·have JO:Hid (match Uw x.kind (CY true x r false) with
       | .ok (v,r2,_) => .mk x.kind false 0 ⟨#[]⟩ 0 [] [] []=v/\r1=r2/\JE e1 4=0
       | .error e2=>JE e1 4=e2):=by
     show (match Uw x.kind (CY true x r false) with
       | .ok (v,r2,_) => .mk x.kind false 0 ⟨#[]⟩ 0 [] [] []=v/\r1=r2/\JE e1 4=0
       | .error e2=>JE e1 4=e2)
     by_cases hz:e1=0
     ·rw[HP.out hz,Lx (p:=fun y=>decide (y.name=t0.text)) fun j hj=>Ho.out j hj (by omega)]
      exact AAC hz
     ·rw[XP.out hz]
      exact Pe hz
    have h2:¬ (i:Int)<(x.Ab.length:Int):=by omega
    go_wp2_with fail
    refine (Di 4 Kt.out.rd).mono ?_;rintro y w6 ⟨rfl,g1,g2⟩;have Dn:=zh (Kt.out.BF g2 g1);clear g1 g2 x5;have HG2:=zh (FI Dn mJ z3 JO);have Br:=zh (Cw Dn.out.bq (.int .i64 x.kind) (.bool false) (.int .i64 0) (.string ⟨#[]⟩) (.int .i64 0) AJ AJ AJ);obtain ⟨⟨x0,x1,x2,x3,x4,x5,x6,x7⟩,y0,y1,y2,y3,y4,y5,y6,y7⟩:=zK Dn.out.bq
    obtain ⟨⟨v0,v1,v2,v3,v4,v5,v6,v7⟩,_⟩:=Dn.out.vb.cells;go_wp2;clear x0 x1 x2 x3 x4 x5 x6 x7 y0 y1 y2 y3 y4 y5 y6 y7 v0 v1 v2 v3 v4 v5 v6 v7;unfold q8 q5 at HG2 Br
    generalize World.setCell _ _ _=W9 at *;obtain ⟨⟨x0,x1,x2,x3,x4,x5,x6,x7⟩,_⟩:=zK Br
    refine bodyPost_ret (v := .agg #[.int .i64 x.kind,.bool false,.int .i64 0,.string ⟨#[]⟩,.int .i64 0,AJ,AJ,AJ]) (by simp[results,Tryz.results133,go_sem,x0,x1,x2,x3,x4,x5,x6,x7]) rfl HG2
theorem DW.zero {w:World} (h:DW C w r e):w.cell? ⟨C.b,3,none⟩=some (.int .i64 e):=h.cells.1.2.2.2
theorem kI (h:XG n r e t0 r1 e1):(e≠0/\r1=r/\e1=e)\/(e=0/\Q6 n r t0 r1 e1):=h.imp (fun g=>⟨g.1,g.2.2⟩) id
theorem X5 (h:XG n r e t0 r1 e1):Dc t0.str:=by
 rcases h with ⟨_,rfl,_⟩|⟨_,h⟩
 ·unfold Dc Dp;decide
 ·exact h.1.2.2
theorem iZ (m:Bool) {q:List AB} {k:Bool} (h1:Q6 2 q t0 r1 e1) {r2:List AB} {e2:Int} (h2:Jy ⟨#[40]⟩ r1 e1 r2 e2) {t1:AB} {r3:List AB} {e3:Int} (h3:(e2≠0/\r3=r2/\e3=e2)\/(e2=0/\Q6 3 r2 t1 r3 e3)) {r4:List AB} {e4:Int} (h4:Jy ⟨#[41]⟩ r3 e3 r4 e4):
  match ((Bg 2 q).bind fun p=>(BG ⟨#[40]⟩ p.2).bind fun l2=>(Bg 3 l2).bind fun q=>(BG ⟨#[41]⟩ q.2).bind fun l4 => .ok ((GH m p.1.int,[],[⟨GH m p.1.int,q.1.str⟩]),l4,k):PR (Int×List Val×List Ac)) with
  | .ok (v,r',_)=>v=(GH m t0.int,[],[⟨GH m t0.int,t1.str⟩])/\r4=r'/\e4=0
  | .error e=>e4=e:=by
 have hf:=aZ (k:=k) h1 h2 h3 h4;have ht:=h1.tk
 cases hk:Bg 2 q with
 | error e =>
  rw[hk,Aj] at hf;rw[Aj];exact hf
 | ok p =>
  obtain ⟨u,l⟩:=p;rw[hk] at ht hf;obtain ⟨rfl,rfl,rfl,_⟩:=ht;rw[zM] at hf ⊢;simp only at hf ⊢
  cases hsy:BG ⟨#[40]⟩ r1 with
  | error e=>rw[hsy,Aj] at hf;rw[Aj];exact hf
  | ok l2 =>
   rw[hsy,zM] at hf;rw[zM]
   cases hk3:Bg 3 l2 with
   | error e=>rw[hk3,Aj] at hf;rw[Aj];exact hf
   | ok z =>
    rw[hk3,zM] at hf;rw[zM]
    cases eO:BG ⟨#[41]⟩ z.2 with
    | error e=>rw[eO,Aj] at hf;rw[Aj];exact hf
    | ok l4 =>
     rw[eO,zM] at hf;rw[zM];obtain ⟨h1,h2,h3,h4,h5⟩:=hf
     injection h1 with h1 h6
     injection h6 with h6 h7
     injection h7 with h7 _
     injection h7 with h7 h8
     exact ⟨by rw[h8],h2,h4⟩
theorem ZB (h:DW C W r 0) (ht:Ic C.w0 x As Am) (hat:Ba ⟨#[64]⟩ r=true):
  Calls Tryz.prog 136 #[.pointer (some ⟨C.b,0,none⟩),x.v As cs Am cm,ng x.kind] W (QP C W r (Hu x.kind (Co true (AP true C.s) x r false))):=by
 have IZ:=zh (DX.new (cs:=cs) (cm:=cm) h ht);obtain ⟨HP,HI⟩:Hid (Co true (AP true C.s) x r false=(Bg 2 r.tail).bind fun p=>(BG ⟨#[40]⟩ p.2).bind fun l2=>(Bg 3 l2).bind fun q=>(BG ⟨#[41]⟩ q.2).bind fun l4 => .ok ((GH true p.1.int,[],[⟨GH true p.1.int,q.1.str⟩]),l4,false))/\Hid (OO ⟨#[64]⟩ r 0=true):=by
  refine ⟨?_,?_⟩
  ·show _=_
   unfold Co;rw[AAC hat]
  ·show _=_
   unfold OO;rw[hat];rfl
 obtain ⟨t,qq,rfl,_,_⟩:=BN hat;clear h ht hat
 go_enter Tryz.func136,Tryz.ntmps136
 go_upto_region 1 with fail
 unfold NH zO at IZ;generalize World.alloc (World.alloc (World.alloc W _) _) _=W1 at *;obtain ⟨px,hpx⟩:∃n,W.heap.size=n:=⟨_,rfl⟩;obtain ⟨p,hp⟩:∃n,px+1=n:=⟨_,rfl⟩;obtain ⟨q,hq⟩:∃n,px+2=n:=⟨_,rfl⟩;rw[hpx,hq,hp] at IZ;rw[show W.heap.size+1+1=q by rw[hpx];exact hq,hpx,hp]
 have Ki:=zh (show DX C W px p q x As cs Am cm W1 (t::qq) 0 0 AJ AJ AJ [] [] [] from IZ.out);clear IZ hpx hp hq;go_wp2_with fail;refine (Bt ⟨#[64]⟩ Ki.out.rd).mono ?_;rintro y w2 ⟨rfl,hb2⟩;rw[HI.out];have Ht:=zh (Ki.out.below hb2);obtain ⟨i,hi,c2,f2,hi2,HN⟩:=Ht.out.rd.Pb;clear hb2;go_wp2_with fail
 have GJ:=zh (Ht.out.BF ((Ah.refl _ _).set 2 (.int .i64 ((i:Int)+1))) (HN.out.1 _ _ Ht.out.rd));refine (Ow GJ.out.rd).mono ?_;rintro y w4 ⟨t0,r1,e1,rfl,g1,g2,g3⟩;have GI:=zh (GJ.out.BF g1 g2);have KU:=zh (Ip g3);obtain ⟨⟨_,_,_,_,c4,_,_,_⟩,cf⟩:=GI.out.vb.cells;have f4:=cf 4;clear g1 g2 g3 cf;obtain ⟨Ka,O7⟩:∃z,GH true t0.int=z:=⟨_,rfl⟩;have Ph:=zh O7;rw[O7];clear O7
 go_upto_region 4 with fail
 have Gn:=zh (GI.out.Rb Ka);generalize w4.setCell ⟨p,4,none⟩ (.int .i64 Ka)=W5 at *;clear c4 f4 c2 f2;go_wp2_with fail;refine (Ay ⟨#[40]⟩ Gn.out.rd).mono ?_;rintro y w6 ⟨rfl,g1,r2,e2,g2,g3⟩;have Dn:=zh (Gn.out.BF g1 g2);have XO:=zh g3;clear g1 g2 g3;go_upto_region 5 with fail
 go_cut [] (fun wx=>∃t1 r3 e3 g,Hid (DX C W px p q x As cs Am cm wx r3 e3 Ka AJ AJ (.slice (some ⟨g,0,none⟩) 1 1) [] [] [⟨Ka,t1.str⟩]/\XG 3 r2 e2 t1 r3 e3))
 case first =>
  have Fq:Hid (C.b<w6.heap.size):=Dn.out.rd.lt;have JI:=zh Dn.out.bp.2.1;have Fp:=zh (fun (w':World) (hb:Ah C.b w6 w')=>(Dn.out.vb.BF hb JI).cells.1.2.2.2.2.1)
  have sO:=FL;refine yE (S:=(fun w'=>w'.cell? ⟨p,4,none⟩=some (.int .i64 Ka)/\Hid (Ah C.b w6 w'))) 8 (by kernel_rfl) ?_ (fun AU=>?_)
  ·(try dsimp only);(have hk:=Ah.of (zC (Pd _ _) 1) (AAT Fq);exact ⟨Fp.out _ hk,hk⟩)
  refine tC 0 ?_;refine tB 1 ?_;refine tC 2 ?_;refine tS 3 (fun K hK=>?_)
  go_simp
  (refine (Cz 3 (Dn.out.below (zC (Pd _ _) 1)).rd).mono ?_;rintro y w7 ⟨t1,r3,e3,rfl,g1,g2,g3⟩;have CJ:=zh ((Ah.of (zC (Pd w6.heap.size w6) 1) (AAT Fq)).trans g1);have Gj:=zh (Dn.out.BF CJ g2);have gX:=zh g3;clear g1 g2 g3)
  refine hK.out _ _ ?_ (fun AU=>?_)
  ·(try dsimp only);exact ⟨Fp.out _ CJ,CJ.out⟩
  clear hK K;refine tC 4 ?_;refine tC 5 ?_;try simp only[ps]
  refine tS 6 (fun K hK=>?_)
  go_simp
  refine hK.out _ _ ?_ (fun AU=>?_)
  ·(try dsimp only);exact ⟨Fp.out _ (CJ.out.below (zD _ _) Fq),CJ.out.below (zD w7 (Tn ⟨Ka,t1.str⟩)) Fq⟩
  clear hK K;refine tC 7 ?_;refine zV (rs:=[8]) (by kernel_rfl) (by simp) ?_
  refine AO.last rfl (by kernel_rfl) (fun K hK=>?_) AO.nil
  (have EL:=zh (Gj.out.below (zD w7 (Tn ⟨Ka,t1.str⟩)));have c7:=EL.out.vb.cells.1.2.2.2.2.2.2.2;have f7:=EL.out.vb.cells.2 7;go_simp)
  refine hK.out _ _ ?_;clear hK K
  (try clear AU)
  refine wpAny_done (by kernel_rfl) ?_ _
  (have qw:=zh (Gj.out.pG (xr:=⟨Ka,t1.str⟩) (X5 gX));go_wp2;go_meet;exact ⟨t1,r3,e3,_,qw.out,gX.out⟩)
 case rest =>
 obtain ⟨W7,rfl⟩:∃W:World,W=wc:=⟨_,rfl⟩;obtain ⟨t1,r3,e3,g,h7⟩:=hcut;have Gj:=zh h7.out.1;have gX:=zh h7.out.2;clear h7;go_wp2_with fail;refine (Ay ⟨#[41]⟩ Gj.out.rd).mono ?_;rintro y w8 ⟨rfl,g1,r4,e4,g2,g3⟩;have EL:=zh (Gj.out.BF g1 g2);have I5:=zh g3;clear g1 g2 g3
 have Ez:Hid (r4.length<=(t::qq).length):=by have:=I5.out.1;have:=OG gX;have:=XO.out.1;have:=KU.out.1.1;show _<=_;simp;omega
 have JO:Hid (match Hu x.kind (Co true (AP true C.s) x (t::qq) false) with
   | .ok (v,r',_) => .mk x.kind false 0 ⟨#[]⟩ Ka [] [] [⟨Ka,t1.str⟩]=v/\r4=r'/\e4=0
   | .error e=>e4=e):=by
  have hu:=iZ true (k:=false) KU XO (kI gX) I5;have hp:=HP.out;rw[List.tail_cons] at hp;rw[hp];rw[Ph.out] at hu
  revert hu
  cases ((Bg 2 qq).bind fun p=>(BG ⟨#[40]⟩ p.2).bind fun l2=>(Bg 3 l2).bind fun q=>(BG ⟨#[41]⟩ q.2).bind fun l4 => .ok ((GH true p.1.int,[],[⟨GH true p.1.int,q.1.str⟩]),l4,false):PR (Int×List Val×List Ac)) with
  | error e=>exact fun hu=>hu
  | ok z =>
   obtain ⟨⟨a,b,c⟩,l,k'⟩:=z
   intro hu
   obtain ⟨j1,j2,j3⟩:=hu
   injection j1 with j1 j6
   injection j6 with j6 j7
   subst j1 j6 j7;exact ⟨rfl,j2,j3⟩
 have HG2:=zh (FI EL Ez ⟨by simp,by simp,by simp⟩ JO)
 have Br:=zh (Cw EL.out.bq (.int .i64 x.kind) (.bool false) (.int .i64 0) (.string ⟨#[]⟩) (.int .i64 Ka) AJ AJ (.slice (some ⟨g,0,none⟩) 1 1));obtain ⟨⟨x0,x1,x2,x3,x4,x5,x6,x7⟩,y0,y1,y2,y3,y4,y5,y6,y7⟩:=zK EL.out.bq;obtain ⟨⟨v0,v1,v2,v3,v4,v5,v6,v7⟩,_⟩:=EL.out.vb.cells;go_wp2;clear x0 x1 x2 x3 x4 x5 x6 x7 y0 y1 y2 y3 y4 y5 y6 y7 v0 v1 v2 v3 v4 v5 v6 v7
 unfold q8 q5 at HG2 Br;generalize World.setCell _ _ _=W9 at *;obtain ⟨⟨x0,x1,x2,x3,x4,x5,x6,x7⟩,_⟩:=zK Br
 refine bodyPost_ret (v := .agg #[.int .i64 x.kind,.bool false,.int .i64 0,.string ⟨#[]⟩,.int .i64 Ka,AJ,AJ,(.slice (some ⟨g,0,none⟩) 1 1)]) (by simp[results,Tryz.results136,go_sem,x0,x1,x2,x3,x4,x5,x6,x7]) rfl HG2
theorem TT {f:Int->List AB->Bool->PR Val} (hnz:∀t l k,f t l k ≠ .error 0) {id ty:Int} {r2:List AB} {e2:Int} (h2:Jy ⟨#[40]⟩ r1 e1 r2 e2) {xs:List Val} {r5:List AB} {e5:Int} (hn:e2≠0->e5=e2) (hv:e2=0->match f ty r2 false with
   | .ok (v,r',_)=>xs=[v]/\r5=r'/\e5=0
   | .error e=>e5=e) {r7:List AB} {e7:Int} (h7:Jy ⟨#[41]⟩ r5 e5 r7 e7):
  (e1≠0->e7=e1)/\(e1=0->match ((BG ⟨#[40]⟩ r1).bind fun l2=>(f ty l2 false).bind fun q=>(BG ⟨#[41]⟩ q.2.1).bind fun l4 => .ok ((id,[q.1],[]),l4,q.2.2):PR (Int×List Val×List Ac)) with
  | .ok (v,r',_)=>v=(id,xs,[])/\r7=r'/\e7=0
  | .error e=>e7=e):=by
 refine ⟨fun h1=>?_,fun h1=>?_⟩
 ·rcases h2.2 with ⟨_,_,g⟩|⟨g,_⟩
  ·have g5:=hn (by omega)
   rcases h7.2 with ⟨_,_,g7⟩|⟨g7,_⟩
   ·omega
   ·omega
  ·exact absurd g h1
 subst h1;have hs:=Bl h2
 cases hsy:BG ⟨#[40]⟩ r1 with
 | error e =>
  rw[hsy] at hs;rw[Aj];have:=hn hs.2
  rcases h7.2 with ⟨_,_,l⟩|⟨l,_⟩
  ·show e7=e;have:=hs.1;omega
  ·exact absurd l (by have:=hs.2;omega)
 | ok l2 =>
  rw[hsy] at hs;obtain ⟨rfl,rfl⟩:=hs;rw[zM];have hv:=hv rfl
  cases hw:f ty r2 false with
  | error e =>
   rw[hw] at hv;simp only at hv;rw[Aj];have hz:e5≠0:=fun g=>hnz _ _ _ (g▸hv▸hw)
   rcases h7.2 with ⟨_,_,l⟩|⟨l,_⟩
   ·show e7=e;omega
   ·exact absurd l hz
  | ok q =>
   obtain ⟨v,r',k'⟩:=q;rw[hw] at hv;obtain ⟨rfl,rfl,rfl⟩:=hv;rw[zM];have hs7:=Bl h7;simp only
   cases eH:BG ⟨#[41]⟩ r5 with
   | error e=>rw[eH] at hs7;rw[Aj];exact hs7.1
   | ok l4 =>
    rw[eH] at hs7;rw[zM];exact ⟨rfl,hs7.1,hs7.2⟩
theorem UK {n:Nat} (ih:Nh C n) (h:DW C W r 0) (ht:Ic C.w0 x As Am) (hn:r.length<=n) (he:∀y∈x.AA,0<=y.type/\y.type<(C.s.length:Int)) (hat:Ba ⟨#[64]⟩ r=false):
  Calls Tryz.prog 136 #[.pointer (some ⟨C.b,0,none⟩),x.v As cs Am cm,ng x.kind] W (QP C W r (Hu x.kind (Co true (AP true C.s) x r false))):=by
 have IZ:=zh (DX.new (cs:=cs) (cm:=cm) h ht);have OP:=zh ht;have Df:=zh ih;have MU:=zh he;have HN:=zh hn;have HI:Hid (OO ⟨#[64]⟩ r 0=false):=by show _=_;unfold OO;rw[hat];rfl
 have LF:Hid (Co true (AP true C.s) x r false=(Bg 1 r).bind fun p =>
  match x.AA.find? fun y=>decide (y.name=p.1.text) with
  | none => .error 4
  | some y=>(BG ⟨#[40]⟩ p.2).bind fun l2=>(AP true C.s y.type l2 false).bind fun q=>(BG ⟨#[41]⟩ q.2.1).bind fun l4 => .ok ((y.id,[q.1],[]),l4,q.2.2)):=by
  show _=_
  unfold Co;rw[Pe (by rw[hat];simp)]
  rfl
 clear h hat ih he hn ht
 go_enter Tryz.func136,Tryz.ntmps136
 go_upto_region 1 with fail
 unfold NH zO at IZ;generalize World.alloc (World.alloc (World.alloc W _) _) _=W1 at *;obtain ⟨px,hpx⟩:∃n,W.heap.size=n:=⟨_,rfl⟩;obtain ⟨p,hp⟩:∃n,px+1=n:=⟨_,rfl⟩;obtain ⟨q,hq⟩:∃n,px+2=n:=⟨_,rfl⟩;rw[hpx,hq,hp] at IZ;rw[show W.heap.size+1+1=q by rw[hpx];exact hq,hpx,hp]
 have Ki:=zh (show DX C W px p q x As cs Am cm W1 r 0 0 AJ AJ AJ [] [] [] from IZ.out);clear IZ hpx hp hq;go_wp2_with fail;refine (Bt ⟨#[64]⟩ Ki.out.rd).mono ?_;rintro y w2 ⟨rfl,hb2⟩;rw[HI.out];have Ht:=zh (Ki.out.below hb2);clear hb2;have fd1:=Lv;go_wp2_with fail;refine (Cz 1 Ht.out.rd).mono ?_;rintro y w3 ⟨t0,r1,e1,rfl,g1,g2,g3⟩;have GJ:=zh (Ht.out.BF g1 g2)
 have EJ:=zh (Ip g3);clear g1 g2 g3;have XP:Hid (e1≠0->Hu x.kind (Co true (AP true C.s) x r false) = .error e1):=fun hz=>by
  have ht:=EJ.out.tk;rw[LF.out]
  cases hk:Bg 1 r with
  | error e2=>rw[hk] at ht;rw[ht.1];rfl
  | ok q=>rw[hk] at ht;exact absurd ht.2.2.1 hz
 have HP:Hid (e1=0->r1.length<r.length/\Co true (AP true C.s) x r false=match x.AA.find? fun y=>decide (y.name=t0.text) with
  | none => .error 4
  | some y=>(BG ⟨#[40]⟩ r1).bind fun l2=>(AP true C.s y.type l2 false).bind fun q=>(BG ⟨#[41]⟩ q.2.1).bind fun l4 => .ok ((y.id,[q.1],[]),l4,q.2.2)):=fun hz=>by
  have ht:=EJ.out.tk
  cases hk:Bg 1 r with
  | error e2=>rw[hk] at ht;exact absurd hz ht.2
  | ok q =>
   rw[hk] at ht;refine ⟨ht.2.2.2,?_⟩;rw[LF.out,hk,zM,<-ht.1,<-ht.2.1]
 have mJ:=zh EJ.out.1.1;have x6:w3.cell? ⟨px,6,none⟩=some (.slice Am x.AA.length cm):=by rw[AAB _ _ _ _ _ _ GJ.out.bx];rfl
 have hln:=OP.out.AA.1;unfold D9 at hln;have kW:(x.AA.length:Int)<=1000000000000000:=by omega
 clear EJ LF hln;go_wp2
 go_loopw [8] (fun a wr=>∃i:Nat,i<=x.AA.length/\a = .int .i64 (i:Int)/\Hid (Below w3.heap.size w3 wr/\∀j (hj:j<x.AA.length),j<i->decide ((x.AA[j]).name=t0.text)=false)) (fun a _=>x.AA.length - (intOf a).toNat)
 case atStart=>exact ⟨0,by omega,rfl,Pd _ _,fun j _ h=>absurd h (by omega)⟩
 case round =>
  obtain ⟨i,hi,rfl,hh⟩:=hrel;have HB:=zh hh.out.1;have Ho:=zh hh.out.2;clear hh;have Kt:=zh (GJ.out.below HB);clear x6;have x6:wr.cell? ⟨px,6,none⟩=some (.slice Am x.AA.length cm):=by rw[AAB _ _ _ _ _ _ Kt.out.bx];rfl
  by_cases hlt:i<x.AA.length
  ·obtain ⟨mb,mo,M1,m1,M2,m2,M3,m3,rfl,hmr,a0,a1,a2,a3,a4,a5,a6,a7,a8,a9,XC,XB,a12⟩:=(OP.out.AA.below Kt.out.rd.up).MH hlt
   have RF:=zh (MU.out _ (AAW hlt));have h1:(0:Int)<=(i:Int):=by omega
   have h2:(i:Int)<(x.AA.length:Int):=by omega
   clear hmr;have iC:Hid (decide ((x.AA[i]).name=t0.text)=true->x.AA.find? (fun y=>decide (y.name=t0.text))=some x.AA[i]):=fun h=>Js (p:=fun y=>decide (y.name=t0.text)) x.AA i hlt h Ho.out
   have KV:Hid (decide ((x.AA[i]).name=t0.text)=false->∀j (hj:j<x.AA.length),j<i+1->decide ((x.AA[j]).name=t0.text)=false):=fun hd j hj hji=>by
    by_cases e:j=i
    ·subst e;exact hd
    ·exact Ho.out j hj (by omega)
   have HGT:Hid (x.AA[i]? = some x.AA[i]):=zl hlt;generalize x.AA[i]=m at *
   by_cases hnm:m.name=t0.text
   case neg =>
    have q2:(m.name.toList != t0.text.toList)=true:=by simp only[bne,bytes_beq,AAE hnm,Bool.not_false]
    have OU:=zh (KV.out (AAE hnm));have q3:(m.name.toList==t0.text.toList)=false:=by rw[bytes_beq];exact AAE hnm
    clear hnm;go_wp2;go_roundw
    case rel=>exact ⟨i+1,by omega,by go_num,HB.out,OU.out⟩
    case measure=>simp[intOf];omega
   have q2:(m.name.toList==t0.text.toList)=true:=by rw[bytes_beq];exact AAM hnm
   have q3:(m.name.toList != t0.text.toList)=false:=by simp only[bne,bytes_beq,AAM hnm,Bool.not_true]
   have HPM:Hid (e1=0->Co true (AP true C.s) x r false=(BG ⟨#[40]⟩ r1).bind fun l2=>(AP true C.s m.type l2 false).bind fun q=>(BG ⟨#[41]⟩ q.2.1).bind fun l4 => .ok ((m.id,[q.1],[]),l4,q.2.2)):=fun hz=>by
    rw[(HP.out hz).2,iC.out (AAM hnm)]
   clear hnm;obtain ⟨⟨_,_,_,_,c4,_,_,_⟩,cf⟩:=Kt.out.vb.cells;have f4:=cf 4;clear cf;go_upto_region 14 with fail
   clear c4 f4;have Gn:=zh (Kt.out.Rb m.id);have YZ:Hid (p≠px/\C.w0.heap.size<=p):=by have:=Kt.out.lo;have:=Kt.out.rd.ok.ge;have:=Kt.out.lb;exact ⟨by omega,by omega⟩
   clear a0 a1 a2 a3 a4 a5 a6 a7 a8 a9 XC XB a12 x6 q2 q3;generalize wr.setCell ⟨p,4,none⟩ (.int .i64 m.id)=W5 at *;go_wp2_with fail;refine (Ay ⟨#[40]⟩ Gn.out.rd).mono ?_;rintro y w4 ⟨rfl,g1,r2,e2,g2,g3⟩;have GI:=zh (Gn.out.BF g1 g2);have IY:=zh g3;clear g1 g2 g3;have AAv:Hid (e1≠0->e2≠0):=fun h=>by
    rcases IY.out.2 with ⟨g,_,g2⟩|⟨g,_⟩
    ·omega
    ·exact absurd g h
   have EK:Hid (∀xs r5 e5 r7 e7,(e2≠0->e5=e2)->(e2=0->match AP true C.s m.type r2 false with
     | .ok (v,r',_)=>xs=[v]/\r5=r'/\e5=0
     | .error e=>e5=e)->Jy ⟨#[41]⟩ r5 e5 r7 e7->match Hu x.kind (Co true (AP true C.s) x r false) with
     | .ok (v,r',_) => .mk x.kind false 0 ⟨#[]⟩ m.id [] xs []=v/\r7=r'/\e7=0
     | .error e=>e7=e):=fun xs r5 e5 r7 e7 j1 j2 j3=>by
    obtain ⟨k1,k2⟩:=TT (Cm true C.s) (id:=m.id) (ty:=m.type) IY j1 j2 j3
    by_cases hz:e1=0
    ·have hu:=k2 hz
     rw[HPM.out hz]
     revert hu
     cases ((BG ⟨#[40]⟩ r1).bind fun l2=>(AP true C.s m.type l2 false).bind fun q=>(BG ⟨#[41]⟩ q.2.1).bind fun l4 => .ok ((m.id,[q.1],[]),l4,q.2.2):PR (Int×List Val×List Ac)) with
     | error e=>exact fun hu=>hu
     | ok z =>
      obtain ⟨⟨a,b,c⟩,l,k'⟩:=z
      intro hu
      obtain ⟨j3,j4,j5⟩:=hu
      injection j3 with j3 j7
      injection j7 with j7 j8
      subst j3 j7 j8;exact ⟨rfl,j4,j5⟩
    ·rw[XP.out hz]
     exact k1 hz
   have rz:=GI.out.rd.zero
   by_cases hz:e2=0
   case neg =>
    have q1:(e2==0)=false:=by simp[hz]
    have HZ:=zh hz;clear hz;go_wp2_with fail;refine (Ay ⟨#[41]⟩ GI.out.rd).mono ?_;rintro y w8 ⟨rfl,g1,r7,e7,g2,g3⟩;have EL:=zh (GI.out.BF g1 g2);have JO:=zh (EK.out [] r2 e2 r7 e7 (fun _=>rfl) (fun h=>absurd h HZ) g3)
    have Ez:Hid (r7.length<=r.length):=by have:=g3.1;have:=IY.out.1;have:=mJ.out;show _<=_;omega
    clear g1 g2 g3 rz;have HG2:=zh (FI EL Ez z3 JO);have Br:=zh (Cw EL.out.bq (.int .i64 x.kind) (.bool false) (.int .i64 0) (.string ⟨#[]⟩) (.int .i64 m.id) AJ AJ AJ);obtain ⟨⟨x0,x1,x2,x3,x4,x5,x6,x7⟩,y0,y1,y2,y3,y4,y5,y6,y7⟩:=zK EL.out.bq;obtain ⟨⟨v0,v1,v2,v3,v4,v5,v6,v7⟩,_⟩:=EL.out.vb.cells;go_wp2
    clear x0 x1 x2 x3 x4 x5 x6 x7 y0 y1 y2 y3 y4 y5 y6 y7 v0 v1 v2 v3 v4 v5 v6 v7;unfold q8 q5 at HG2 Br;generalize World.setCell _ _ _=W9 at *
    obtain ⟨⟨x0,x1,x2,x3,x4,x5,x6,x7⟩,_⟩:=zK Br;refine bodyPost_ret (v := .agg #[.int .i64 x.kind,.bool false,.int .i64 0,.string ⟨#[]⟩,.int .i64 m.id,AJ,AJ,AJ]) (by simp[results,Tryz.results136,go_sem,x0,x1,x2,x3,x4,x5,x6,x7]) rfl HG2
   subst hz;have q1:((0:Int)==0)=true:=rfl;have HZ1:Hid (e1=0):=by
    show _=_
    by_cases h:e1=0
    ·exact h
    ·exact absurd rfl (AAv.out h)
   have x6:w4.cell? ⟨px,6,none⟩=some (.slice (some ⟨mb,mo,none⟩) x.AA.length cm):=by rw[AAB _ _ _ _ _ _ GI.out.bx];rfl
   have hm:x.AA[i]=m:=by
    have:=HGT.out;rw[zl hlt] at this;exact AAb this
   obtain ⟨mb',mo',M1',m1',M2',m2',M3',m3',Wj,_,_,_,a2,_⟩:=(OP.out.AA.below GI.out.rd.up).MH hlt
   injection Wj with Wj
   injection Wj with g1 g2
   subst g1 g2;rw[hm] at a2;clear hm;go_wp2_with fail;refine (Df.out m.type _ r2 (by have:=IY.out.1;have:=(HP.out HZ1).1;have:=HN.out;omega) RF GI.out.rd).mono ?_
   rintro y w5 ⟨xa,rfl,g1,g2,r5,e5,g3,g4,g5⟩;have HV5:=zh (GI.out.BF g2 g3);have Dn:=zh (HV5.out.one (GI.out.hot g1));have Gm:=zh g4;have Hq:=zh g5;obtain ⟨⟨_,_,_,_,_,_,c6,_⟩,cf⟩:=(HV5.out.vb.below (zD w5 (.cells xa.cells.toArray 28))).cells;have f6:=cf 6;clear g1 g2 g3 g4 g5 cf a2 x6 rz;unfold BX.cells Val.cs at Dn c6 f6;go_upto_region 17 with fail
   clear c6 f6;generalize World.setCell (World.alloc w5 _) _ _=W6 at *;go_wp2_with fail;refine (Ay ⟨#[41]⟩ Dn.out.rd).mono ?_;rintro y w8 ⟨rfl,g1,r7,e7,g2,g3⟩;have EL:=zh (Dn.out.BF g1 g2);have JO:=zh (EK.out [xa.v] r5 e5 r7 e7 (fun h=>absurd rfl h) (fun _=>by
    have hg:=Hq.out
    cases hv:AP true C.s m.type r2 false with
    | error e=>rw[hv] at hg;exact hg
    | ok z=>rw[hv] at hg;exact ⟨by rw[hg.1],hg.2⟩) g3)
   have Ez:Hid (r7.length<=r.length):=by have:=g3.1;have:=IY.out.1;have:=mJ.out;have:=Gm.out;show _<=_;omega
   clear g1 g2 g3;generalize w5.heap.size=gg at *;have HG2:=zh (FI EL Ez ⟨by simp,by simp,by simp⟩ JO)
   have Br:=zh (Cw EL.out.bq (.int .i64 x.kind) (.bool false) (.int .i64 0) (.string ⟨#[]⟩) (.int .i64 m.id) AJ (.slice (some ⟨gg,0,none⟩) 1 1) AJ);obtain ⟨⟨x0,x1,x2,x3,x4,x5,x6,x7⟩,y0,y1,y2,y3,y4,y5,y6,y7⟩:=zK EL.out.bq;obtain ⟨⟨v0,v1,v2,v3,v4,v5,v6,v7⟩,_⟩:=EL.out.vb.cells;go_wp2;clear x0 x1 x2 x3 x4 x5 x6 x7 y0 y1 y2 y3 y4 y5 y6 y7 v0 v1 v2 v3 v4 v5 v6 v7
   unfold q8 q5 at HG2 Br;generalize World.setCell _ _ _=W9 at *;obtain ⟨⟨x0,x1,x2,x3,x4,x5,x6,x7⟩,_⟩:=zK Br
   refine bodyPost_ret (v := .agg #[.int .i64 x.kind,.bool false,.int .i64 0,.string ⟨#[]⟩,.int .i64 m.id,AJ,(.slice (some ⟨gg,0,none⟩) 1 1),AJ]) (by simp[results,Tryz.results136,go_sem,x0,x1,x2,x3,x4,x5,x6,x7]) rfl HG2
  ·have JO:Hid (match Hu x.kind (Co true (AP true C.s) x r false) with
     | .ok (v,r',_) => .mk x.kind false 0 ⟨#[]⟩ 0 [] [] []=v/\r1=r'/\JE e1 4=0
     | .error e=>JE e1 4=e):=by
    show (match Hu x.kind (Co true (AP true C.s) x r false) with
     | .ok (v,r',_) => .mk x.kind false 0 ⟨#[]⟩ 0 [] [] []=v/\r1=r'/\JE e1 4=0
     | .error e=>JE e1 4=e)
    by_cases hz:e1=0
    ·rw[(HP.out hz).2,Lx (p:=fun y=>decide (y.name=t0.text)) fun j hj=>Ho.out j hj (by omega)]
     exact AAC hz
    ·rw[XP.out hz]
     exact Pe hz
   have h2:¬ (i:Int)<(x.AA.length:Int):=by omega
   go_wp2_with fail
   refine (Di 4 Kt.out.rd).mono ?_;rintro y w6 ⟨rfl,g1,g2⟩;have Dn:=zh (Kt.out.BF g2 g1);clear g1 g2 x6;have HG2:=zh (FI Dn mJ z3 JO);have Br:=zh (Cw Dn.out.bq (.int .i64 x.kind) (.bool false) (.int .i64 0) (.string ⟨#[]⟩) (.int .i64 0) AJ AJ AJ);obtain ⟨⟨x0,x1,x2,x3,x4,x5,x6,x7⟩,y0,y1,y2,y3,y4,y5,y6,y7⟩:=zK Dn.out.bq
   obtain ⟨⟨v0,v1,v2,v3,v4,v5,v6,v7⟩,_⟩:=Dn.out.vb.cells;go_wp2;clear x0 x1 x2 x3 x4 x5 x6 x7 y0 y1 y2 y3 y4 y5 y6 y7 v0 v1 v2 v3 v4 v5 v6 v7;unfold q8 q5 at HG2 Br
   generalize World.setCell _ _ _=W9 at *;obtain ⟨⟨x0,x1,x2,x3,x4,x5,x6,x7⟩,_⟩:=zK Br
   refine bodyPost_ret (v := .agg #[.int .i64 x.kind,.bool false,.int .i64 0,.string ⟨#[]⟩,.int .i64 0,AJ,AJ,AJ]) (by simp[results,Tryz.results136,go_sem,x0,x1,x2,x3,x4,x5,x6,x7]) rfl HG2
theorem WC {n:Nat} (ih:Nh C n) (h:DW C W r 0) (ht:Ic C.w0 x As Am) (hn:r.length<=n) (he:∀y∈x.AA,0<=y.type/\y.type<(C.s.length:Int)):
  Calls Tryz.prog 136 #[.pointer (some ⟨C.b,0,none⟩),x.v As cs Am cm,ng x.kind] W (QP C W r (Hu x.kind (Co true (AP true C.s) x r false))):=by
 cases hat:Ba ⟨#[64]⟩ r with
 | true=>exact ZB h ht hat
 | false=>exact UK ih h ht hn he hat
def OL (e:Int) (P:PR Val):PR Val:=if e=0 then P else .error e
def KF (s:List AZ):Prop:=∀t l v r k,AP true s t l false = .ok (v,r,k)->k=false
theorem QT {α:Type} {part:List AB->Bool->PR α} {Rt:PR (List α)} {acc:List α} (hd:Dec part) (h:Ev part Rt acc r1 false) (O5:∀v r k,part r1 false = .ok (v,r,k)->k=false) (hnz:part r1 false ≠ .error 0) {xv:α} {r6:List AB} {e6:Int} (hm:match part r1 false with
   | .ok (v,r',_)=>xv=v/\r6=r'/\e6=0
   | .error e'=>e6=e'):(e6≠0->Rt = .error e6)/\(e6=0->r6.length<r1.length/\(Ba ⟨#[44]⟩ r6=true->Ev part Rt (acc++[xv]) r6.tail false)/\(Ba ⟨#[44]⟩ r6=false->Rt = .ok (acc++[xv],r6,false))):=by
 cases hp:part r1 false with
 | error e' =>
  rw[hp] at hm;simp only at hm;subst hm;exact ⟨fun _=>h.bad hd hp,fun hz=>absurd (hz▸hp) hnz⟩
 | ok z =>
  obtain ⟨v,r',k'⟩:=z;rw[hp] at hm;obtain ⟨rfl,rfl,rfl⟩:=hm;have hk:=O5 _ _ _ hp;subst hk;exact ⟨fun h=>absurd rfl h,fun _=>⟨(hd _ _ _ _ _ hp).2,fun hc=>h.comma hd hp hc,fun hc=>h.fin hd hp hc⟩⟩
theorem DW.meas {w:World} (h:DW C w r e):iF C w=r.length:=by
 unfold iF;rw[h.cells.1.2.2.1];have:=h.LH.length_le;simp only[Int.toNat_natCast]
 omega
section
variable {C:CZ} {W0 W W' w8:World} {px p q:Nat} {x:AZ} {As:zo} {cs:Nat} {Am:zo} {cm:Nat} {r:List AB} {e di:Int} {vk vi vr:Value} {K I:List BX} {R:List Ac}
theorem DX.cells (h:DX C W0 px p q x As cs Am cm W r e di vk vi vr K I R) (hp:w8.heap[p]? = W.heap[p]?) (hx:w8.heap[px]? = W.heap[px]?) :
  ((w8.cell? ⟨p,5,none⟩=some vk/\w8.cell? ⟨p,6,none⟩=some vi/\w8.cell? ⟨p,7,none⟩=some vr)/\(w8.frozen? ⟨p,5,none⟩=false/\w8.frozen? ⟨p,6,none⟩=false/\w8.frozen? ⟨p,7,none⟩=false)) /\
  (w8.cell? ⟨px,0,none⟩=some (.int .i64 x.kind)/\w8.cell? ⟨px,6,none⟩=some (.slice Am x.AA.length cm)/\w8.cell? ⟨px,7,none⟩=some (.int .i64 x.key)/\w8.cell? ⟨px,8,none⟩=some (.int .i64 x.elem)):=by
 have hb:=hp.trans h.vb.blk;unfold NH at hb;obtain ⟨⟨_,_,_,_,_,c5,c6,c7⟩,_,_,_,_,_,f5,f6,f7⟩:=zK hb;obtain ⟨b0,b1,b2,b3,b4,b5,b6,b7,b8,b9⟩:=zG (show Bf w8 px x As cs Am cm from hx.trans h.bx);exact ⟨⟨⟨c5,c6,c7⟩,f5,f6,f7⟩,b0,b6,b7,b8⟩
theorem DX.reads (h:DX C W0 px p q x As cs Am cm W r e di vk vi vr K I R) (hb:Ah C.b W W') :
  ((W'.cell? ⟨p,5,none⟩=some vk/\W'.cell? ⟨p,6,none⟩=some vi/\W'.cell? ⟨p,7,none⟩=some vr)/\(W'.frozen? ⟨p,5,none⟩=false/\W'.frozen? ⟨p,6,none⟩=false/\W'.frozen? ⟨p,7,none⟩=false)) /\
  (W'.cell? ⟨px,0,none⟩=some (.int .i64 x.kind)/\W'.cell? ⟨px,6,none⟩=some (.slice Am x.AA.length cm)/\W'.cell? ⟨px,7,none⟩=some (.int .i64 x.key)/\W'.cell? ⟨px,8,none⟩=some (.int .i64 x.elem)):=by
 obtain ⟨b1,b2,b3⟩:=h.bp;exact h.cells (hb.Ef p (by omega) h.vb.lt) (hb.Ef px (by omega) (zg.1 h.bx).1)
theorem DX.after (h:DX C W0 px p q x As cs Am cm W r e di vk vi vr K I R) {row:Option Nat} (hg:W.grownBy w8 row) (hr:row=vk.ownBlock\/row=vi.ownBlock\/row=vr.ownBlock) :
  ((w8.cell? ⟨p,5,none⟩=some vk/\w8.cell? ⟨p,6,none⟩=some vi/\w8.cell? ⟨p,7,none⟩=some vr)/\(w8.frozen? ⟨p,5,none⟩=false/\w8.frozen? ⟨p,6,none⟩=false/\w8.frozen? ⟨p,7,none⟩=false)) /\
  (w8.cell? ⟨px,0,none⟩=some (.int .i64 x.kind)/\w8.cell? ⟨px,6,none⟩=some (.slice Am x.AA.length cm)/\w8.cell? ⟨px,7,none⟩=some (.int .i64 x.key)/\w8.cell? ⟨px,8,none⟩=some (.int .i64 x.elem)):=by
 obtain ⟨l1,l2,l3⟩:=h.own;have hlo:=h.lo;have hk:∀s,s<=q->s<W.heap.size->w8.heap[s]? = W.heap[s]? := fun s hs hl=>yA hg hl fun k hk e=>by
  rcases hr with e2|e2|e2
  ·have:=(l1 k (e2▸hk)).1;omega
  ·have:=(l2 k (e2▸hk)).1;omega
  ·have:=(l3 k (e2▸hk)).1;omega
 exact h.cells (hk p (by omega) h.vb.lt) (hk px (by omega) (zg.1 h.bx).1)
end
theorem ZC {n:Nat} (O5:KF C.s) (ih:Nh C n) (h:DW C W r e) (ht:Ic C.w0 x As Am) (hn:e=0->r.length<n) (he:0<=x.elem/\x.elem<(C.s.length:Int)) (hk:x.kind=7):
  Calls Tryz.prog 137 #[.pointer (some ⟨C.b,0,none⟩),x.v As cs Am cm,ng x.kind] W (QP C W r (OL e (Km x.kind (Fu (AP true C.s) x r false)))):=by
 have IZ:=zh (DX.new (cs:=cs) (cm:=cm) h ht);have Df:=zh ih;have MU:=zh he;have HN:=zh hn;have VW:=zh O5;have k7:(x.kind==7)=true:=by simp[hk]
 have k8:(x.kind==8)=false:=by simp[hk]
 have aJ:=zh h.ok.len;have sW:=zh h.LH.length_le;clear h ih he hn ht O5 hk
 go_enter Tryz.func137,Tryz.ntmps137
 go_upto_region 1 with fail
 unfold NH zO at IZ;generalize World.alloc (World.alloc (World.alloc W _) _) _=W1 at *;obtain ⟨px,hpx⟩:∃n,W.heap.size=n:=⟨_,rfl⟩;obtain ⟨p,hp⟩:∃n,px+1=n:=⟨_,rfl⟩;obtain ⟨q,hq⟩:∃n,px+2=n:=⟨_,rfl⟩;rw[hpx,hq,hp] at IZ;rw[show W.heap.size+1+1=q by rw[hpx];exact hq,hpx,hp]
 have Ki:=zh (show DX C W px p q x As cs Am cm W1 r e 0 AJ AJ AJ [] [] [] from IZ.out);clear IZ hpx hp hq;have p0:=(Ki.out.reads (Ah.refl _ _)).2.1
 cases hi:OO ⟨#[93]⟩ r e with
 | true =>
  have HI:=zh hi;obtain ⟨rfl,hpp⟩:=IU hi;have LP:=zh hpp;obtain ⟨t,qq,rfl,_,_⟩:=BN hpp;clear hi hpp;go_wp2_with fail;refine (Bt ⟨#[93]⟩ Ki.out.rd).mono ?_;rintro y w2 ⟨rfl,hb2⟩;rw[HI.out];have Ht:=zh (Ki.out.below hb2);obtain ⟨i,hi,c2,f2,hi2,KV⟩:=Ht.out.rd.Pb;clear hb2 p0;go_upto_region 7 with fail
  have GJ:=zh (Ht.out.BF ((Ah.refl _ _).set 2 (.int .i64 ((i:Int)+1))) (KV.out.1 _ _ Ht.out.rd));clear c2 f2;generalize w2.setCell ⟨C.b,2,none⟩ (.int .i64 ((i:Int)+1))=W3 at *;have JO:Hid (match OL 0 (Km x.kind (Fu (AP true C.s) x (t::qq) false)) with
    | .ok (v,r1,_) => .mk x.kind false 0 ⟨#[]⟩ 0 [] [] []=v/\qq=r1/\(0:Int)=0
    | .error e1=>(0:Int)=e1):=by
   rw[OL,AAC rfl];unfold Fu;rw[AAC LP.out];exact ⟨rfl,rfl,rfl⟩
  have HG2:=zh (FI GJ (show qq.length<=(t::qq).length by simp) z3 JO)
  have Br:=zh (Cw GJ.out.bq (.int .i64 x.kind) (.bool false) (.int .i64 0) (.string ⟨#[]⟩) (.int .i64 0) AJ AJ AJ);obtain ⟨⟨x0,x1,x2,x3,x4,x5,x6,x7⟩,y0,y1,y2,y3,y4,y5,y6,y7⟩:=zK GJ.out.bq;obtain ⟨⟨v0,v1,v2,v3,v4,v5,v6,v7⟩,_⟩:=GJ.out.vb.cells;go_wp2;clear x0 x1 x2 x3 x4 x5 x6 x7 y0 y1 y2 y3 y4 y5 y6 y7 v0 v1 v2 v3 v4 v5 v6 v7
  unfold q8 q5 at HG2 Br;generalize World.setCell _ _ _=W9 at *;obtain ⟨⟨x0,x1,x2,x3,x4,x5,x6,x7⟩,_⟩:=zK Br
  refine bodyPost_ret (v := .agg #[.int .i64 x.kind,.bool false,.int .i64 0,.string ⟨#[]⟩,.int .i64 0,AJ,AJ,AJ]) (by simp[results,Tryz.results137,go_sem,x0,x1,x2,x3,x4,x5,x6,x7]) rfl HG2
 | false =>
  have HI:=zh hi;have LF:Hid (e=0->Fu (AP true C.s) x r false=(JK (AP true C.s x.elem) r false).bind fun p=>(BG ⟨#[93]⟩ p.2.1).bind fun l2 => .ok (p.1,l2,p.2.2)):=fun hz=>by
   unfold OO at hi;rw[AAM hz,Bool.true_and] at hi;unfold Fu;rw[Pe (by rw[hi];simp)]
  clear hi;go_wp2_with fail;refine (Bt ⟨#[93]⟩ Ki.out.rd).mono ?_;rintro y w2 ⟨rfl,hb2⟩;rw[HI.out];have Ht:=zh (Ki.out.below hb2);clear hb2 p0;have LC:=zh (Ev.start (AP true C.s x.elem) r false);obtain ⟨Rt,uW⟩:∃R,JK (AP true C.s x.elem) r false=R:=⟨_,rfl⟩;rw[uW] at LF LC;clear uW
  have EK:Hid (∀ (I:List BX) r1 e1 r2 e2,(e≠0->e1=e)->(e=0->(e1≠0/\Rt = .error e1)\/(e1=0/\Rt = .ok (I.map (·.v),r1,false)))->Jy ⟨#[93]⟩ r1 e1 r2 e2->match OL e (Km x.kind (Fu (AP true C.s) x r false)) with
    | .ok (v,r',_) => .mk x.kind false 0 ⟨#[]⟩ 0 [] (I.map (·.v)) []=v/\r2=r'/\e2=0
    | .error e'=>e2=e'):=fun I r1 e1 r2 e2 j0 j1 j2=>by
   by_cases hz:e=0
   ·rw[OL,AAC hz,LF.out hz]
    rcases j1 hz with ⟨g1,g2⟩|⟨rfl,g2⟩
    ·rw[g2,Aj]
     rcases j2.2 with ⟨_,_,g⟩|⟨g,_⟩
     ·exact g
     ·exact absurd g g1
    ·rw[g2,zM]
     have hs:=Bl j2;simp only
     cases hsy:BG ⟨#[93]⟩ r1 with
     | error e3=>rw[hsy] at hs;rw[Aj];exact hs.1
     | ok l4=>rw[hsy] at hs;rw[zM];exact ⟨rfl,hs.1,hs.2⟩
   ·rw[OL,Pe hz]
    have:=j0 hz
    rcases j2.2 with ⟨_,_,g⟩|⟨g,_⟩
    ·show e2=e;omega
    ·omega
  go_wp2
  go_loopw [] (fun wr=>∃r1 e1 vi I,Hid (DX C W px p q x As cs Am cm wr r1 e1 0 AJ vi AJ [] I []/\(e1=0->I.length+r1.length<=C.l.length)/\I.length<=1000001/\r1.length<=r.length/\(e≠0->e1=e)/\(e1=0->Ev (AP true C.s x.elem) Rt (I.map (·.v)) r1 false)/\(e=0->e1≠0->Rt = .error e1))) (fun wr=>iF C wr)
  case atStart=>exact ⟨r,e,AJ,[],Ht.out,(fun _=>by have:=sW.out;simpa using this),by simp,AAQ _,fun _=>rfl,fun _=>LC.out,fun h1 h2=>absurd h1 h2⟩
  case round =>
   obtain ⟨r1,e1,vi,I,hI⟩:=hrel;have HF:=zh hI.out.1;have HI1:=zh hI.out.2.1;have HI2:=zh hI.out.2.2.1;have HI3:=zh hI.out.2.2.2.1;have HI4:=zh hI.out.2.2.2.2;clear hI;have rz:=HF.out.rd.zero
   by_cases hz:e1=0
   case neg =>
    have q1:(e1==0)=false:=by simp[hz]
    have HZ:=zh hz;clear hz;obtain ⟨A2,c2,rfl,_⟩:=HF.out.vb.oi.reads;go_wp2_with fail;refine (Ay ⟨#[93]⟩ HF.out.rd).mono ?_;rintro y w8 ⟨rfl,g1,r7,e7,g2,g3⟩;have EL:=zh (HF.out.BF g1 g2);have JO:=zh (EK.out I r1 e1 r7 e7 HI4.out.1 (fun h => .inl ⟨HZ.out,HI4.out.2.2 h HZ⟩) g3)
    have Ez:Hid (r7.length<=r.length):=by have:=g3.1;have:=HI3.out;show _<=_;omega
    have P9:Hid (I.length<=2000000):=by have:=HI2.out;show _<=_;omega
    clear g1 g2 g3 rz;have HG2:=zh (FI EL Ez ⟨by simp,P9.out,by simp⟩ JO)
    have Br:=zh (Cw EL.out.bq (.int .i64 x.kind) (.bool false) (.int .i64 0) (.string ⟨#[]⟩) (.int .i64 0) AJ (.slice A2 I.length c2) AJ);obtain ⟨⟨x0,x1,x2,x3,x4,x5,x6,x7⟩,y0,y1,y2,y3,y4,y5,y6,y7⟩:=zK EL.out.bq;obtain ⟨⟨v0,v1,v2,v3,v4,v5,v6,v7⟩,_⟩:=EL.out.vb.cells;go_wp2;clear x0 x1 x2 x3 x4 x5 x6 x7 y0 y1 y2 y3 y4 y5 y6 y7 v0 v1 v2 v3 v4 v5 v6 v7
    unfold q8 q5 at HG2 Br;generalize World.setCell _ _ _=W9 at *;obtain ⟨⟨x0,x1,x2,x3,x4,x5,x6,x7⟩,_⟩:=zK Br
    refine bodyPost_ret (v := .agg #[.int .i64 x.kind,.bool false,.int .i64 0,.string ⟨#[]⟩,.int .i64 0,AJ,(.slice A2 I.length c2),AJ]) (by simp[results,Tryz.results137,go_sem,x0,x1,x2,x3,x4,x5,x6,x7]) rfl HG2
   subst hz;have iP:Hid (e=0):=by
    show _=_
    by_cases h:e=0
    ·exact h
    ·exact (HI4.out.1 h).symm
   have gU:=zh (HI4.out.2.1 rfl);have Yc:=zh (HI1.out rfl);have gm:=zh HF.out.rd.meas;obtain ⟨A2,c2,rfl,_⟩:=HF.out.vb.oi.reads;have p0:=(HF.out.reads (Ah.refl _ _)).2.1;go_upto_region 13 with fail
   go_cut [] (fun wx=>∃xa vi r6 e6,Hid (DX C W px p q x As cs Am cm wx r6 e6 0 AJ vi AJ [] (I++[xa]) []/\r6.length<=r1.length/\match AP true C.s x.elem r1 false with
    | .ok (v,r',_)=>xa.v=v/\r6=r'/\e6=0
    | .error e'=>e6=e'))
   case first =>
    have JI:Hid (C.b<wr.heap.size):=HF.out.rd.lt;have Fp:=zh (fun (w':World) (hb:Ah C.b wr w')=>And.intro (HF.out.reads hb).1.1.2.1 (HF.out.reads hb).2.2.2.2)
    clear rz p0;refine yE (S:=(fun w'=>(w'.cell? ⟨p,6,none⟩=some (.slice A2 I.length c2)/\w'.cell? ⟨px,8,none⟩=some (.int .i64 x.elem))/\Hid True)) 9 (by kernel_rfl) ?_ (fun AU=>?_)
    ·(try dsimp only);exact ⟨Fp.out _ (Ah.of (zC (Pd _ _) 1) (AAT JI)),trivial⟩
    refine tC 0 ?_;refine tB 1 ?_;refine tC 2 ?_;refine tC 3 ?_;refine tB 4 ?_;refine tS 5 (fun K hK=>?_)
    go_simp
    (refine (Df.out x.elem _ r1 (by have:=HI3.out;have:=HN.out iP;omega) MU (HF.out.below (zC (Pd wr.heap.size wr) 1)).rd).mono ?_;rintro y w6 ⟨xa,rfl,g1,g2,r6,e6,g3,g4,g5⟩;have BA:=zh ((Ah.of (zC (Pd wr.heap.size wr) 1) (AAT JI)).trans g2);have IX:=zh (HF.out.hot g1);have Dn:=zh (HF.out.BF BA g3);have Gm:=zh g4;have Hq:=zh g5;clear g1 g2 g3 g4 g5)
    refine hK.out _ _ ?_ (fun AU=>?_)
    ·(try dsimp only);exact ⟨Fp.out _ BA,trivial⟩
    clear hK K;try simp only[ps]
    refine tS 6 (fun K hK=>?_)
    go_simp
    refine hK.out _ _ ?_ (fun AU=>?_)
    ·(try dsimp only);exact ⟨Fp.out _ (BA.out.below (zD w6 (.cells xa.cells.toArray 28)) JI),trivial⟩
    clear hK K;refine tS 7 (fun K hK=>?_)
    (have DL:=zh (Dn.out.below (zD w6 (.cells xa.cells.toArray 28)));have hll:=Yc.out;have Ny:=aJ.out;refine yH Bz (by rfl) (.tmp 64) (.tmp 69) (by rfl) (p+1) (.slice A2 I.length c2) I.length (I.flatMap BX.cells) (by rfl) DL.out.vb.oi w6.heap.size 0 1 1 xa.cells (by rfl) rfl (zR w6 xa.cells 28) (Gr xa) (by omega) (by omega) DL.out.vb.lt ?_;intro v8 w8 Bq Bp FW;obtain ⟨g,c8,rfl,hgg⟩:=CR Bq;have JU:=zh (Dn.out.item IX (zD w6 (.cells xa.cells.toArray 28)) Bq Bp FW);have I5:=zh (DL.out.after Bp (.inr (.inl rfl)));obtain ⟨⟨⟨_,c6,_⟩,_,f6,_⟩,_⟩:=I5.out;clear hll Ny Bq FW hgg)
    refine hK.out _ _ ?_ (fun AU=>?_)
    ·(try dsimp only);exact ⟨⟨I5.out.1.1.2.1,I5.out.2.2.2.2⟩,trivial⟩
    clear hK K;refine tC 8 ?_;refine zV (rs:=[9]) (by kernel_rfl) (by simp) ?_
    refine AO.last rfl (by kernel_rfl) (fun K hK=>?_) AO.nil
    go_simp
    refine hK.out _ _ ?_;clear hK K
    (try clear AU)
    refine wpAny_done (by kernel_rfl) ?_ _
    (go_wp2;go_meet;exact ⟨xa,_,r6,e6,JU.out,Gm.out,Hq.out⟩)
   case rest =>
   obtain ⟨W5,rfl⟩:∃W:World,W=wc:=⟨_,rfl⟩;obtain ⟨xa,vi,r6,e6,h6⟩:=hcut;have Dn:=zh h6.out.1;have sw:=zh h6.out.2.1;have Ya:=zh h6.out.2.2;clear h6 rz p0;have HST:Hid ((e6≠0->Rt = .error e6)/\(e6=0->r6.length<r1.length/\(Ba ⟨#[44]⟩ r6=true->Ev (AP true C.s x.elem) Rt ((I++[xa]).map (·.v)) r6.tail false)/\(Ba ⟨#[44]⟩ r6=false->Rt = .ok ((I++[xa]).map (·.v),r6,false)))):=by
    have h:=QT (Dv true C.s x.elem) gU (fun v r k hv=>VW.out _ _ _ _ _ hv) (Cm true C.s _ _ _) (xv:=xa.v) (r6:=r6) (e6:=e6) (by
     have hm:=Ya.out
     revert hm
     cases AP true C.s x.elem r1 false with
     | error e=>exact fun h=>h
     | ok z=>exact fun h=>h)
    rw[List.map_append];exact h
   have P9:Hid ((I++[xa]).length<=1000001):=by have:=Yc.out;have:=aJ.out;show _<=_;simp;omega
   have xE:Hid ((I++[xa]).length=I.length+1):=by show _=_;simp
   generalize I++[xa]=J at *;obtain ⟨A2,c2,rfl,_⟩:=Dn.out.vb.oi.reads
   cases hi:OO ⟨#[44]⟩ r6 e6 with
   | false =>
    have HI:=zh hi;have MX:Hid ((e6≠0/\Rt = .error e6)\/(e6=0/\Rt = .ok (J.map (·.v),r6,false))):=by
     by_cases hz:e6=0
     ·unfold OO at hi
      rw[AAM hz,Bool.true_and] at hi;exact .inr ⟨hz,(HST.out.2 hz).2.2 hi⟩
     ·exact .inl ⟨hz,HST.out.1 hz⟩
    clear hi;go_wp2_with fail;refine (Bt ⟨#[44]⟩ Dn.out.rd).mono ?_;rintro y w7 ⟨rfl,FK⟩;rw[HI.out];have Gj:=zh (Dn.out.below FK);clear FK;go_wp2_with fail;refine (Ay ⟨#[93]⟩ Gj.out.rd).mono ?_;rintro y w8 ⟨rfl,g1,r7,e7,g2,g3⟩;have EL:=zh (Gj.out.BF g1 g2);have JO:=zh (EK.out J r6 e6 r7 e7 (fun h=>absurd iP.out h) (fun h=>MX.out) g3)
    have Ez:Hid (r7.length<=r.length):=by have:=g3.1;have:=HI3.out;have:=sw.out;show _<=_;omega
    clear g1 g2 g3;have HG2:=zh (FI EL Ez ⟨by simp,by have:=P9.out;omega,by simp⟩ JO)
    have Br:=zh (Cw EL.out.bq (.int .i64 x.kind) (.bool false) (.int .i64 0) (.string ⟨#[]⟩) (.int .i64 0) AJ (.slice A2 J.length c2) AJ);obtain ⟨⟨x0,x1,x2,x3,x4,x5,x6,x7⟩,y0,y1,y2,y3,y4,y5,y6,y7⟩:=zK EL.out.bq;obtain ⟨⟨v0,v1,v2,v3,v4,v5,v6,v7⟩,_⟩:=EL.out.vb.cells;go_wp2;clear x0 x1 x2 x3 x4 x5 x6 x7 y0 y1 y2 y3 y4 y5 y6 y7 v0 v1 v2 v3 v4 v5 v6 v7
    unfold q8 q5 at HG2 Br;generalize World.setCell _ _ _=W9 at *;obtain ⟨⟨x0,x1,x2,x3,x4,x5,x6,x7⟩,_⟩:=zK Br
    refine bodyPost_ret (v := .agg #[.int .i64 x.kind,.bool false,.int .i64 0,.string ⟨#[]⟩,.int .i64 0,AJ,(.slice A2 J.length c2),AJ]) (by simp[results,Tryz.results137,go_sem,x0,x1,x2,x3,x4,x5,x6,x7]) rfl HG2
   | true =>
    have HI:=zh hi;obtain ⟨rfl,hpp⟩:=IU hi;have nO:=zh ((HST.out.2 rfl).2.1 hpp);have HLX:=zh (HST.out.2 rfl).1;obtain ⟨t,qq,rfl,_,_⟩:=BN hpp;clear hi hpp;go_wp2_with fail;refine (Bt ⟨#[44]⟩ Dn.out.rd).mono ?_;rintro y w7 ⟨rfl,FK⟩;rw[HI.out];have Gj:=zh (Dn.out.below FK);obtain ⟨i,hi,c3,f3,hi2,KV⟩:=Gj.out.rd.Pb;clear FK;go_wp2
    have mM:=zh (Gj.out.BF ((Ah.refl _ _).set 2 (.int .i64 ((i:Int)+1))) (KV.out.1 _ _ Gj.out.rd));clear c3 f3;generalize w7.setCell ⟨C.b,2,none⟩ (.int .i64 ((i:Int)+1))=W9 at *;have HM9:=zh mM.out.rd.meas;have hlx:=HLX.out;rw[AAS] at hlx;go_roundw
    case rel=>exact ⟨qq,0,_,J,mM.out,(fun _=>by have:=Yc.out;have:=xE.out;omega),P9.out,by have:=HI3.out;omega,fun h=>absurd iP.out h,fun _=>nO.out,fun _ h=>absurd rfl h⟩
    case measure=>rw[HM9.out,gm.out];omega
end Go.Proofs.YthkkllmmbefedaaGreatDoor



