/-
  Walks: the reference's reader: value.
-/
import Derived.Test.YthkkllmmbefedaaGreatDoorQNQB
namespace Go.Proofs.YthkkllmmbefedaaGreatDoor
open Go.RowKit
set_option maxHeartbeats 16000000
set_option maxRecDepth 100000
variable {kd:Int} {r:List AB} {p:Nat} {P:PR Val} {C:CZ} {W:World}
theorem Md {Wb:World} {q:Nat} (hb0:Ah C.b W Wb) (hq:W.heap.size<=q/\q<p) (hlb:C.b<W.heap.size) {wx:World} {bo:Bool} {it:Int} {st:ByteArray} {di:Int} {vk vi vr:Value} {K I:List BX} {R:List Ac} {r':List AB} {e':Int} (hr:DW C wx r' e') (hv:Gf p wx kd bo it st di vk vi vr K I R) (hb:Ah C.b Wb wx) (hl:r'.length<=r.length) (hz:K.length<=2000000/\I.length<=2000000/\R.length<=2000000) (hP:match P with
   | .ok (v,r1,_) => .mk kd bo it st di (K.map (·.v)) (I.map (·.v)) R=v/\r'=r1/\e'=0
   | .error e1=>e'=e1):
  QP C W r P (.returned (.agg #[.int .i64 kd,.bool bo,.int .i64 it,.string st,.int .i64 di,vk,vi,vr])) (Go.Proofs.YthkkllmmbefedaaGreatDoor.q8 wx q (.int .i64 kd) (.bool bo) (.int .i64 it) (.string st) (.int .i64 di) vk vi vr):=by
 obtain ⟨A1,c1,A2,c2,A3,c3,rfl,rfl,rfl,ho⟩:=hv.fin (by unfold D9;omega) (by unfold D9;omega) (by unfold D9;omega)
 refine ⟨⟨.mk kd bo it st di (K.map (·.v)) (I.map (·.v)) R,A1,c1,A2,c2,A3,c3⟩,?_,?_,?_,r',e',hr.bS (by omega) (by have:=hr.ok.ge;omega) _ _ _ _ _ _ _ _,hl,hP⟩
 ·show Ending.returned (.agg #[.int .i64 kd,.bool bo,.int .i64 it,.string st,.int .i64 di,.slice A1 K.length c1,.slice A2 I.length c2,.slice A3 R.length c3]) = .returned (.agg #[.int .i64 kd,.bool bo,.int .i64 it,.string st,.int .i64 di,.slice A1 (K.map (·.v)).length c1,.slice A2 (I.map (·.v)).length c2,.slice A3 R.length c3])
  rw[AAk,AAk]
 ·exact (FJ ho (B:=q) (AAT hq.2) _ _ _ _ _ _ _ _).mono fun s _ hs=>by have:=hq.1;omega
 ·exact (hb0.trans hb).eight _ _ _ _ _ _ _ _ hq.1 hlb
variable {e5:Int} {r5:List AB}
theorem LX {Wc:World} {q:Nat} (hb0:Ah C.b W Wc) (hq:W.heap.size<=q/\q<Wc.heap.size) (hlb:C.b<W.heap.size) {w5:World} {x:BX} (j1:Off (fun s=>s<Wc.heap.size) w5 fun u=>BO u x.v x.A1 x.A2 x.A3) (j2:Ah C.b Wc w5) (j3:DW C w5 r5 e5) (hl:r5.length<=r.length) (hP:match P with
   | .ok (v,r1,_)=>x.v=v/\r5=r1/\e5=0
   | .error e1=>e5=e1):
  QP C W r P (.returned (x.v.v x.A1 x.c1 x.A2 x.c2 x.A3 x.c3)) (Go.Proofs.YthkkllmmbefedaaGreatDoor.q8 w5 q (.int .i64 x.v.kind) (.bool x.v.bool) (.int .i64 x.v.int) (.string x.v.str) (.int .i64 x.v.id) (.slice x.A1 x.v.keys.length x.c1) (.slice x.A2 x.v.items.length x.c2) (.slice x.A3 x.v.rest.length x.c3)):=by
 refine ⟨x,rfl,?_,(hb0.trans j2).eight _ _ _ _ _ _ _ _ hq.1 hlb,r5,e5,j3.bS (by omega) (by have:=j3.ok.ge;omega) _ _ _ _ _ _ _ _,hl,hP⟩
 exact (FJ j1 (B:=q) hq.2 _ _ _ _ _ _ _ _).mono fun s _ hs=>by omega
theorem Ih {f:Int->List AB->Bool->PR Val} {x:AZ} {l:List AB} {k:Bool} :
  (x.kind=1->CO true f x l k=(IL l k).bind fun p => .ok (.mk 1 p.1 0 ⟨#[]⟩ 0 [] [] [],p.2))/\(x.kind=2->CO true f x l k=(Bg 2 l).bind fun p => .ok (.mk 2 false p.1.int ⟨#[]⟩ 0 [] [] [],p.2,k)) /\
  (x.kind=3->CO true f x l k=(Bg 3 l).bind fun p => .ok (.mk 3 false 0 p.1.str 0 [] [] [],p.2,k))/\(x.kind=4->CO true f x l k=Uw 4 (CY true x l k)) /\
  (x.kind=5->CO true f x l k=Mr 5 (H9 true f x l k))/\(x.kind=6->CO true f x l k=Hu 6 (Co true f x l k))/\(x.kind=7->CO true f x l k=Km 7 (Gv f x l k))/\(x.kind=8->CO true f x l k=M4 8 (G6 f x l k))/\(x.kind=9->CO true f x l k=Ot 9 (Fg f x l k)):=by
 unfold CO;refine ⟨fun h=>?_,fun h=>?_,fun h=>?_,fun h=>?_,fun h=>?_,fun h=>?_,fun h=>?_,fun h=>?_,fun h=>?_⟩ <;> (rw[h];rfl)
theorem oK {T:ByteArray} {r1:List AB} {e1:Int} (h:Jy T r 0 r1 e1) {g:List AB->PR Val} (hP:P=(BG T r).bind g):P=OL e1 (g r1):=by
 have hs:=Bl h;rw[hP]
 cases hsy:BG T r with
 | error e=>rw[hsy] at hs;rw[OL,Pe hs.2,hs.1];rfl
 | ok l=>rw[hsy] at hs;rw[OL,AAC hs.2,hs.1];rfl
theorem Ah.qM {b:Nat} {w w':World} (h:Ah b w w') (hp:w.heap.size<=p) (hb:b<=p) (j:Nat) (u:Value):Ah b w (w'.setCell ⟨p,j,none⟩ u) :=
 ⟨h.Ch.setCell (p:=⟨p,j,none⟩) hb u,fun q hq hl=>(AAO _ _ _ _ (by simp only;omega)).trans (h.Ef q hq hl)⟩
theorem dN {f:Int->List AB->Bool->PR Val} (hnz:∀t l k,f t l k ≠ .error 0) {ty:Int} {r1:List AB} {r2:List AB} {e2:Int} (h2:Jy ⟨#[40]⟩ r1 0 r2 e2) {xs:List Val} (hn:e2≠0->e5=e2) (hv:e2=0->match f ty r2 false with
   | .ok (v,r',_)=>xs=[v]/\r5=r'/\e5=0
   | .error e=>e5=e) {r7:List AB} {e7:Int} (h7:Jy ⟨#[41]⟩ r5 e5 r7 e7):
  match Ot kd ((BG ⟨#[40]⟩ r1).bind fun l2=>(f ty l2 false).bind fun q=>(BG ⟨#[41]⟩ q.2.1).bind fun l4 => .ok ([q.1],l4,q.2.2)) with
  | .ok (v,r',_) => .mk kd false 0 ⟨#[]⟩ 0 [] xs []=v/\r7=r'/\e7=0
  | .error e=>e7=e:=by
 have hu:=(TT hnz (id:=0) (ty:=ty) h2 hn hv h7).2 rfl
 revert hu
 cases BG ⟨#[40]⟩ r1 with
 | error e=>exact fun h=>h
 | ok l2 =>
  rw[zM,zM]
  cases f ty l2 false with
  | error e=>exact fun h=>h
  | ok q =>
   rw[zM,zM]
   cases BG ⟨#[41]⟩ q.2.1 with
   | error e=>exact fun h=>h
   | ok l4 =>
    intro h
    obtain ⟨h1,h2,h3⟩:=h
    injection h1 with _ h1
    injection h1 with h1 _
    exact ⟨by rw[<-h1],h2,h3⟩
theorem nk {Wb w5:World} {x:BX} (hv:Gf p W kd false 0 ⟨#[]⟩ 0 AJ AJ AJ [] [] []) (hw:Ah C.b W w5) (hbp:C.b<p) (hr:DW C w5 r5 e5) (hx:Off (fun s=>s<W.heap.size) w5 fun u=>BO u x.v x.A1 x.A2 x.A3) (hb:Ah C.b Wb W) (hlo:Wb.heap.size<=p):
  Gf p ((w5.alloc (.cells x.cells.toArray 28)).setCell ⟨p,6,none⟩ (.slice (some ⟨w5.heap.size,0,none⟩) 1 1)) kd false 0 ⟨#[]⟩ 0 AJ (.slice (some ⟨w5.heap.size,0,none⟩) 1 1) AJ [] [x] [] /\
  DW C ((w5.alloc (.cells x.cells.toArray 28)).setCell ⟨p,6,none⟩ (.slice (some ⟨w5.heap.size,0,none⟩) 1 1)) r5 e5/\Ah C.b Wb ((w5.alloc (.cells x.cells.toArray 28)).setCell ⟨p,6,none⟩ (.slice (some ⟨w5.heap.size,0,none⟩) 1 1)):=by
 have h6:=hv.BF hw hbp;have hl:=hv.lt;have ho:(w5.alloc (.cells x.cells.toArray 28)).ownsRow (p+1) 28 8 (.slice (some ⟨w5.heap.size,0,none⟩) 1 1) 1 ([]++x.cells) :=
  World.ownsRow_lit (base:=p+1) (e:=28) (size:=8) w5 x.cells.toArray 1 h6.lt (by unfold maxLen;omega) rfl
 obtain ⟨g1,g2,g3⟩:=h6.item (x:=x) (v8 := .slice (some ⟨w5.heap.size,0,none⟩) 1 1) (w8:=w5.alloc (.cells x.cells.toArray 28)) (hx.mono fun q _ hq=>by
  rcases hq with e|e|e|e
  ·omega
  ·cases e
  ·cases e
  ·cases e) (Pd _ _) ho (World.grownBy_alloc w5 _ none) (.inr rfl)
 exact ⟨g1,⟨hr.ok,(g2.block _ hbp).trans hr.blk,hr.LH,hr.up.trans (g2.mono (by have:=hr.ok.ge;omega))⟩,(hb.trans hw).up g2 hlo (AAT hbp)⟩
theorem UJ (hv:zQ C.s=0) (O5:KF C.s) {n:Nat} (ih:Nh C n):Nh C (n+1):=by
 intro t W r hn hr h
 obtain ⟨tn,rfl⟩:=AAh hr.1;have htn:tn<C.s.length:=by omega
 obtain ⟨bq,oq,As,cs,Am,cm,hA,htr,t0,t1,t2,t3,t4,t5,t6,t7,t8,t9⟩:=h.ok.ty.JM htn;have XK:Hid (AP true C.s (tn:Int) r false=CO true (AP true C.s) C.s[tn] r false):=by show _=_;rw[RP,zT htn]
 have gy:Hid (1<=(C.s[tn]).kind/\(C.s[tn]).kind<=9):=by have:=IC hv hr;rw[zT htn] at this;exact this
 have rV:Hid (Eg (C.s[tn]).kind->0<=(C.s[tn]).elem/\(C.s[tn]).elem<(C.s.length:Int)):=by have:=U2 hv hr;rw[zT htn] at this;exact this
 have HYR:Hid ((C.s[tn]).kind=8->0<=(C.s[tn]).key/\(C.s[tn]).key<(C.s.length:Int)):=fun hk=>by have:=(YB hv hr (by rw[zT htn];exact hk)).1;rw[zT htn] at this;exact this
 have vX:Hid ((C.s[tn]).kind=5\/(C.s[tn]).kind=6->∀y∈(C.s[tn]).AA,0<=y.type/\y.type<(C.s.length:Int)):=fun hk y hy=>(X8 hv (AAW htn) hy).2
 have hls:=F9 hv;have F7:=zh htr;have VW:=zh O5;have HN:Hid (r.length<=n):=by show _<=_;omega
 have Df:=zh ih;have Fq:=zh h.lt;generalize C.s[tn]=x at *;have iQ:=zh (zD W zO);have OQ:Hid ((W.alloc zO).heap[W.heap.size]? = some zO):=AAA W zO;have hza:(W.alloc zO).heap.size=W.heap.size+1:=by simp
 have Nk:=zh h;clear h ih hn htr hv hr O5
 go_enter Tryz.func81,Tryz.ntmps81
 go_upto_region 1 with fail
 generalize W.alloc zO=Wa at *;have HR1:=zh (Nk.out.below iQ);obtain ⟨⟨c0,_,_,_⟩,_⟩:=HR1.out.cells;rw[hA] at c0;have i0:(0:Int)<=(tn:Int):=by omega
 have i1:(tn:Int)<(C.s.length:Int):=by omega
 have x9:(C.s.length:Int)<=32:=by omega
 replace t0:=zA HR1.out.up t0;replace t1:=zA HR1.out.up t1;replace t2:=zA HR1.out.up t2;replace t3:=zA HR1.out.up t3;replace t4:=zA HR1.out.up t4;replace t5:=zA HR1.out.up t5;replace t6:=zA HR1.out.up t6;replace t7:=zA HR1.out.up t7;replace t8:=zA HR1.out.up t8;replace t9:=zA HR1.out.up t9;have sQ:=zh hza;clear hA hza;go_upto_region 3 with fail
 clear t0 t1 t2 t3 t4 t5 t6 t7 t8 t9 c0 i0 i1;have JJ:=zh (zD Wa (x.box As cs Am cm));have hzb:(Wa.alloc (x.box As cs Am cm)).heap.size=Wa.heap.size+1:=by simp
 have Nj:Hid (Gf (Wa.heap.size+1) ((Wa.alloc (x.box As cs Am cm)).alloc (NH x.kind false 0 ⟨#[]⟩ 0 AJ AJ AJ)) x.kind false 0 ⟨#[]⟩ 0 AJ AJ AJ [] [] []):=by
  have h1:=Gf.new (Wa.alloc (x.box As cs Am cm)) x.kind;rw[hzb] at h1;exact h1
 have xH:=zh (zD (Wa.alloc (x.box As cs Am cm)) (NH x.kind false 0 ⟨#[]⟩ 0 AJ AJ AJ));have BI:Hid (((Wa.alloc (x.box As cs Am cm)).alloc (NH x.kind false 0 ⟨#[]⟩ 0 AJ AJ AJ)).heap[Wa.heap.size]? = some (x.box As cs Am cm)):=CW (AAA Wa _) (zD _ _);have MQ:=zh (CW OQ JJ);have HR2:=zh (HR1.out.below JJ);unfold NH at Nj BI xH
 generalize Wa.alloc (x.box As cs Am cm)=Wb at *;generalize Wb.alloc _=Wc at *;have HR3:=zh (HR2.out.below xH);have HB0:=zh (Ah.of (zB iQ JJ) (AAT Fq));have HB1:=zh (HR2.out.BF xH);obtain ⟨px,hpx⟩:∃px,Wa.heap.size=px:=⟨_,rfl⟩;obtain ⟨p,hp⟩:∃p,px+1=p:=⟨_,rfl⟩
 have JS:Hid (W.heap.size+1=px/\px+1=p/\C.b<px):=⟨by rw[<-hpx,sQ.out],hp,by have:=Fq.out;rw[<-hpx,sQ.out];omega⟩
 rw[hpx,hp] at Nj;rw[hpx] at BI;have qg:Hid (Wb.heap.size=p):=by show _=_;rw[hzb,hpx,hp]
 rw[hpx,hp];clear hpx hp hzb JJ iQ OQ HR1 Nk sQ HR2 xH;obtain ⟨q,hq⟩:∃q,W.heap.size=q:=⟨_,rfl⟩;rw[hq] at MQ JS;rw[hq];have HQ:Hid (W.heap.size<=q/\q<p):=by have:=JS.out;exact ⟨by omega,by omega⟩
 have gV:=zh (Ai MQ HB1 (by have:=JS.out;have:=Fq.out;omega))
 clear hq;obtain ⟨b0,b1,b2,b3,b4,b5,b6,b7,b8,b9⟩:=zG (show Bf Wc px x As cs Am cm from BI.out);have hkk:x.kind=1\/x.kind=2\/x.kind=3\/x.kind=4\/x.kind=5\/x.kind=6\/x.kind=7\/x.kind=8\/x.kind=9:=by have:=gy.out;omega
 rcases hkk with hk|hk|hk|hk|hk|hk|hk|hk|hk
 ·have HK:=zh hk
  have q1:(x.kind==1)=true:=by simp[hk]
  have q2:(x.kind==2)=false:=by simp[hk]
  have q3:(x.kind==3)=false:=by simp[hk]
  have q4:(x.kind==4)=false:=by simp[hk]
  have q5:(x.kind==5)=false:=by simp[hk]
  have q6:(x.kind==6)=false:=by simp[hk]
  have q7:(x.kind==7)=false:=by simp[hk]
  have q8:(x.kind==8)=false:=by simp[hk]
  have J5:=zh (Ih (f:=AP true C.s) (x:=x) (l:=r) (k:=false)).1;clear hk;go_wp2_with fail;refine (Ov ⟨#[116,114,117,101]⟩ ⟨#[102,97,108,115,101]⟩ HR3).mono ?_;rintro y w3 ⟨t0,r1,e1,rfl,g1,g2,g3⟩;have FX:=zh (Nj.out.BF g1 (by have:=JS.out;omega))
  have HB3:=zh (HB1.out.trans g1);have EJ:=zh (Ip g2);obtain ⟨e9,TH⟩:∃z,(if t0.text≠⟨#[116,114,117,101]⟩/\t0.text≠⟨#[102,97,108,115,101]⟩ then JE e1 2 else e1)=z:=⟨_,rfl⟩
  rw[TH] at g3;have PV:=zh g3;obtain ⟨bb,hbb⟩:∃z,decide (t0.text=⟨#[116,114,117,101]⟩)=z:=⟨_,rfl⟩;rw[hbb];have LP:Hid (match AP true C.s (tn:Int) r false with
    | .ok (v,r',_) => .mk x.kind bb 0 ⟨#[]⟩ 0 [] [] []=v/\r1=r'/\e9=0
    | .error e'=>e9=e'):=by
   show (match AP true C.s (tn:Int) r false with
    | .ok (v,r',_) => .mk x.kind bb 0 ⟨#[]⟩ 0 [] [] []=v/\r1=r'/\e9=0
    | .error e'=>e9=e')
   rw[XK.out,J5.out HK,MG,HK.out];have ht:=EJ.out.tk
   cases hkk:Bg 1 r with
   | error e2 =>
    rw[hkk] at ht;rw[Aj]
    show e9=e2
    rw[<-TH,<-ht.1]
    split
    ·exact Pe ht.2
    ·rfl
   | ok z =>
    rw[hkk] at ht;obtain ⟨rfl,rfl,rfl,_⟩:=ht;rw[zM]
    by_cases h1:z.1.text=⟨#[116,114,117,101]⟩
    ·rw[AAC h1]
     rw[Pe (fun h=>h.1 h1)] at TH
     rw[AAM h1] at hbb;exact ⟨by rw[<-hbb],rfl,TH.symm⟩
    ·rw[Pe h1]
     rw[AAE h1] at hbb
     by_cases h2:z.1.text=⟨#[102,97,108,115,101]⟩
     ·rw[AAC h2]
      rw[Pe (fun h=>h.2 h2)] at TH
      exact ⟨by rw[<-hbb],rfl,TH.symm⟩
     ·rw[Pe h2]
      rw[AAC ⟨h1,h2⟩] at TH;exact TH.symm
  have Ez:=zh EJ.out.1.1;clear g1 g2 g3 TH hbb b0 b1 b2 b3 b4 b5 b6 b7 b8 b9;obtain ⟨⟨_,c1,_⟩,cf⟩:=FX.out.cells;have f1:=cf 1;clear cf;go_upto_region 26 with fail
  clear c1 f1;have Db:=zh (FX.out.Tk (j:=1) (u := .bool bb) (uo:=bb) (it':=0) (st':=⟨#[]⟩) (nG:=0) rfl FX.out.str);have HR4:=zh (PV.out.Ef (q:=p) (by have:=JS.out;omega) (by have:=JS.out;have:=PV.out.ok.ge;omega) 1 (.bool bb))
  have BD:=zh (HB3.out.qM (p:=p) (by have:=JS.out;have:=qg.out;omega) (by have:=JS.out;omega) 1 (.bool bb))
  generalize w3.setCell ⟨p,1,none⟩ (.bool bb)=W4 at *;have HG2:=zh (Md HB0 HQ Fq HR4 Db BD Ez z3 LP);have Kr:=zh (Ai MQ BD (by have:=HQ.out;have:=Fq.out;omega))
  have Br:=zh (Cw Kr (.int .i64 x.kind) (.bool bb) (.int .i64 0) (.string ⟨#[]⟩) (.int .i64 0) AJ AJ AJ);obtain ⟨⟨x0,x1,x2,x3,x4,x5,x6,x7⟩,y0,y1,y2,y3,y4,y5,y6,y7⟩:=zK Kr;obtain ⟨⟨v0,v1,v2,v3,v4,v5,v6,v7⟩,_⟩:=Db.out.cells;go_wp2;clear x0 x1 x2 x3 x4 x5 x6 x7 y0 y1 y2 y3 y4 y5 y6 y7 v0 v1 v2 v3 v4 v5 v6 v7
  unfold Go.Proofs.YthkkllmmbefedaaGreatDoor.q8 Go.Proofs.YthkkllmmbefedaaGreatDoor.q5 at HG2 Br;generalize World.setCell _ _ _=W9 at *;obtain ⟨⟨x0,x1,x2,x3,x4,x5,x6,x7⟩,_⟩:=zK Br
  refine bodyPost_ret (v := .agg #[.int .i64 x.kind,.bool bb,.int .i64 0,.string ⟨#[]⟩,.int .i64 0,AJ,AJ,AJ]) (by simp[results,Tryz.results81,go_sem,x0,x1,x2,x3,x4,x5,x6,x7]) rfl HG2
 ·have HK:=zh hk
  have q1:(x.kind==1)=false:=by simp[hk]
  have q2:(x.kind==2)=true:=by simp[hk]
  have q3:(x.kind==3)=false:=by simp[hk]
  have q4:(x.kind==4)=false:=by simp[hk]
  have q5:(x.kind==5)=false:=by simp[hk]
  have q6:(x.kind==6)=false:=by simp[hk]
  have q7:(x.kind==7)=false:=by simp[hk]
  have q8:(x.kind==8)=false:=by simp[hk]
  have J5:=zh (Ih (f:=AP true C.s) (x:=x) (l:=r) (k:=false)).2.1;clear hk;have fd:=FM;go_wp2_with fail;refine (Cz 2 HR3).mono ?_;rintro y w3 ⟨t0,r1,e1,rfl,g1,g2,g3⟩;have FX:=zh (Nj.out.BF g1 (by have:=JS.out;omega))
  have HB3:=zh (HB1.out.trans g1);have EJ:=zh (Ip g3);have PV:=zh g2;have LP:Hid (match AP true C.s (tn:Int) r false with
    | .ok (v,r',_) => .mk x.kind false t0.int ⟨#[]⟩ 0 [] [] []=v/\r1=r'/\e1=0
    | .error e'=>e1=e'):=by
   show (match AP true C.s (tn:Int) r false with
    | .ok (v,r',_) => .mk x.kind false t0.int ⟨#[]⟩ 0 [] [] []=v/\r1=r'/\e1=0
    | .error e'=>e1=e')
   rw[XK.out,J5.out HK,HK.out];have ht:=EJ.out.tk
   cases hkk:Bg 2 r with
   | error e2=>rw[hkk] at ht;exact ht.1
   | ok z =>
    rw[hkk] at ht;obtain ⟨rfl,rfl,rfl,_⟩:=ht;exact ⟨rfl,rfl,rfl⟩
  have Ez:=zh EJ.out.1.1;clear g1 g2 g3 b0 b1 b2 b3 b4 b5 b6 b7 b8 b9;obtain ⟨⟨_,_,c2,c3,_⟩,cf⟩:=FX.out.cells;have f2:=cf 2;have f3:=cf 3;clear cf;go_upto_region 26 with fail
  clear c2 c3 f2 f3;have Db:=zh (FX.out.Tk (j:=2) (u := .int .i64 t0.int) (uo:=false) (it':=t0.int) (st':=⟨#[]⟩) (nG:=0) rfl FX.out.str);have HR4:=zh (PV.out.Ef (q:=p) (by have:=JS.out;omega) (by have:=JS.out;have:=PV.out.ok.ge;omega) 2 (.int .i64 t0.int))
  have BD:=zh (HB3.out.qM (p:=p) (by have:=JS.out;have:=qg.out;omega) (by have:=JS.out;omega) 2 (.int .i64 t0.int))
  generalize w3.setCell ⟨p,2,none⟩ (.int .i64 t0.int)=W4 at *;have HG2:=zh (Md HB0 HQ Fq HR4 Db BD Ez z3 LP);have Kr:=zh (Ai MQ BD (by have:=HQ.out;have:=Fq.out;omega))
  have Br:=zh (Cw Kr (.int .i64 x.kind) (.bool false) (.int .i64 t0.int) (.string ⟨#[]⟩) (.int .i64 0) AJ AJ AJ);obtain ⟨⟨x0,x1,x2,x3,x4,x5,x6,x7⟩,y0,y1,y2,y3,y4,y5,y6,y7⟩:=zK Kr;obtain ⟨⟨v0,v1,v2,v3,v4,v5,v6,v7⟩,_⟩:=Db.out.cells;go_wp2;clear x0 x1 x2 x3 x4 x5 x6 x7 y0 y1 y2 y3 y4 y5 y6 y7 v0 v1 v2 v3 v4 v5 v6 v7
  unfold Go.Proofs.YthkkllmmbefedaaGreatDoor.q8 Go.Proofs.YthkkllmmbefedaaGreatDoor.q5 at HG2 Br;generalize World.setCell _ _ _=W9 at *;obtain ⟨⟨x0,x1,x2,x3,x4,x5,x6,x7⟩,_⟩:=zK Br
  refine bodyPost_ret (v := .agg #[.int .i64 x.kind,.bool false,.int .i64 t0.int,.string ⟨#[]⟩,.int .i64 0,AJ,AJ,AJ]) (by simp[results,Tryz.results81,go_sem,x0,x1,x2,x3,x4,x5,x6,x7]) rfl HG2
 ·have HK:=zh hk
  have q1:(x.kind==1)=false:=by simp[hk]
  have q2:(x.kind==2)=false:=by simp[hk]
  have q3:(x.kind==3)=true:=by simp[hk]
  have q4:(x.kind==4)=false:=by simp[hk]
  have q5:(x.kind==5)=false:=by simp[hk]
  have q6:(x.kind==6)=false:=by simp[hk]
  have q7:(x.kind==7)=false:=by simp[hk]
  have q8:(x.kind==8)=false:=by simp[hk]
  have J5:=zh (Ih (f:=AP true C.s) (x:=x) (l:=r) (k:=false)).2.2.1;clear hk;have fd:=FL;go_wp2_with fail;refine (Cz 3 HR3).mono ?_;rintro y w3 ⟨t0,r1,e1,rfl,g1,g2,g3⟩;have FX:=zh (Nj.out.BF g1 (by have:=JS.out;omega))
  have HB3:=zh (HB1.out.trans g1);have EJ:=zh (Ip g3);have PV:=zh g2;have LP:Hid (match AP true C.s (tn:Int) r false with
    | .ok (v,r',_) => .mk x.kind false 0 t0.str 0 [] [] []=v/\r1=r'/\e1=0
    | .error e'=>e1=e'):=by
   show (match AP true C.s (tn:Int) r false with
    | .ok (v,r',_) => .mk x.kind false 0 t0.str 0 [] [] []=v/\r1=r'/\e1=0
    | .error e'=>e1=e')
   rw[XK.out,J5.out HK,HK.out];have ht:=EJ.out.tk
   cases hkk:Bg 3 r with
   | error e2=>rw[hkk] at ht;exact ht.1
   | ok z =>
    rw[hkk] at ht;obtain ⟨rfl,rfl,rfl,_⟩:=ht;exact ⟨rfl,rfl,rfl⟩
  have Ez:=zh EJ.out.1.1;clear g1 g2 g3 b0 b1 b2 b3 b4 b5 b6 b7 b8 b9;obtain ⟨⟨_,_,c2,c3,_⟩,cf⟩:=FX.out.cells;have f2:=cf 2;have f3:=cf 3;clear cf;go_upto_region 26 with fail
  clear c2 c3 f2 f3;have Db:=zh (FX.out.Tk (j:=3) (u := .string t0.str) (uo:=false) (it':=0) (st':=t0.str) (nG:=0) rfl EJ.out.1.2.2);have HR4:=zh (PV.out.Ef (q:=p) (by have:=JS.out;omega) (by have:=JS.out;have:=PV.out.ok.ge;omega) 3 (.string t0.str))
  have BD:=zh (HB3.out.qM (p:=p) (by have:=JS.out;have:=qg.out;omega) (by have:=JS.out;omega) 3 (.string t0.str))
  generalize w3.setCell ⟨p,3,none⟩ (.string t0.str)=W4 at *;have HG2:=zh (Md HB0 HQ Fq HR4 Db BD Ez z3 LP);have Kr:=zh (Ai MQ BD (by have:=HQ.out;have:=Fq.out;omega))
  have Br:=zh (Cw Kr (.int .i64 x.kind) (.bool false) (.int .i64 0) (.string t0.str) (.int .i64 0) AJ AJ AJ);obtain ⟨⟨x0,x1,x2,x3,x4,x5,x6,x7⟩,y0,y1,y2,y3,y4,y5,y6,y7⟩:=zK Kr;obtain ⟨⟨v0,v1,v2,v3,v4,v5,v6,v7⟩,_⟩:=Db.out.cells;go_wp2;clear x0 x1 x2 x3 x4 x5 x6 x7 y0 y1 y2 y3 y4 y5 y6 y7 v0 v1 v2 v3 v4 v5 v6 v7
  unfold Go.Proofs.YthkkllmmbefedaaGreatDoor.q8 Go.Proofs.YthkkllmmbefedaaGreatDoor.q5 at HG2 Br;generalize World.setCell _ _ _=W9 at *;obtain ⟨⟨x0,x1,x2,x3,x4,x5,x6,x7⟩,_⟩:=zK Br
  refine bodyPost_ret (v := .agg #[.int .i64 x.kind,.bool false,.int .i64 0,.string t0.str,.int .i64 0,AJ,AJ,AJ]) (by simp[results,Tryz.results81,go_sem,x0,x1,x2,x3,x4,x5,x6,x7]) rfl HG2
 ·have HK:=zh hk
  have q1:(x.kind==1)=false:=by simp[hk]
  have q2:(x.kind==2)=false:=by simp[hk]
  have q3:(x.kind==3)=false:=by simp[hk]
  have q4:(x.kind==4)=true:=by simp[hk]
  have q5:(x.kind==5)=false:=by simp[hk]
  have q6:(x.kind==6)=false:=by simp[hk]
  have q7:(x.kind==7)=false:=by simp[hk]
  have q8:(x.kind==8)=false:=by simp[hk]
  have J5:=zh (Ih (f:=AP true C.s) (x:=x) (l:=r) (k:=false)).2.2.2.1;clear hk;have F8:=HB1;have Sy:=gV;have lm:Hid (p<=Wc.heap.size):=AAT Nj.out.lt;obtain ⟨⟨v0,v1,v2,v3,v4,v5,v6,v7⟩,_⟩:=Nj.out.cells;go_wp2_with fail;refine (ZE HR3 F7).mono ?_;rintro y w5 ⟨xa,rfl,j1,j2,r5,e5,j3,j4,j5⟩;clear v0 v1 v2 v3 v4 v5 v6 v7 b0 b1 b2 b3 b4 b5 b6 b7 b8 b9
  have XP:Hid (AP true C.s (tn:Int) r false=Uw x.kind (CY true x r false)):=by show _=_;rw[XK.out,J5.out HK,HK.out]
  have LP:=zh j5;rw[<-XP.out] at LP;have Ez:=zh j4;clear j4 j5;have HG2:=zh (LX (q:=q) (HB0.out.trans F8) (by have:=HQ.out;have:=lm.out;exact ⟨by omega,by omega⟩) Fq j1 j2 j3 Ez LP)
  have Kr:=zh (Ai Sy j2 (by have:=HQ.out;have:=Fq.out;omega))
  have Br:=zh (Cw Kr (.int .i64 xa.v.kind) (.bool xa.v.bool) (.int .i64 xa.v.int) (.string xa.v.str) (.int .i64 xa.v.id) (.slice xa.A1 xa.v.keys.length xa.c1) (.slice xa.A2 xa.v.items.length xa.c2) (.slice xa.A3 xa.v.rest.length xa.c3));obtain ⟨⟨x0,x1,x2,x3,x4,x5,x6,x7⟩,y0,y1,y2,y3,y4,y5,y6,y7⟩:=zK Kr;clear j1 j2 j3;go_wp2;clear x0 x1 x2 x3 x4 x5 x6 x7 y0 y1 y2 y3 y4 y5 y6 y7
  unfold Go.Proofs.YthkkllmmbefedaaGreatDoor.q8 Go.Proofs.YthkkllmmbefedaaGreatDoor.q5 at HG2 Br;generalize World.setCell _ _ _=W9 at *;obtain ⟨⟨x0,x1,x2,x3,x4,x5,x6,x7⟩,_⟩:=zK Br
  refine bodyPost_ret (v:=xa.v.v xa.A1 xa.c1 xa.A2 xa.c2 xa.A3 xa.c3) (by simp[results,Tryz.results81,go_sem,x0,x1,x2,x3,x4,x5,x6,x7]) rfl HG2
 ·have HK:=zh hk
  have q1:(x.kind==1)=false:=by simp[hk]
  have q2:(x.kind==2)=false:=by simp[hk]
  have q3:(x.kind==3)=false:=by simp[hk]
  have q4:(x.kind==4)=false:=by simp[hk]
  have q5:(x.kind==5)=true:=by simp[hk]
  have q6:(x.kind==6)=false:=by simp[hk]
  have q7:(x.kind==7)=false:=by simp[hk]
  have q8:(x.kind==8)=false:=by simp[hk]
  have J5:=zh (Ih (f:=AP true C.s) (x:=x) (l:=r) (k:=false)).2.2.2.2.1;clear hk;go_wp2_with fail;refine (Ay ⟨#[123]⟩ HR3).mono ?_;rintro y w4 ⟨rfl,g1,r1,e1,g2,g3⟩;have F8:=zh (HB1.out.trans g1);have Sy:=zh (Ai gV g1 (by have:=HQ.out;have:=Fq.out;omega))
  have lm:Hid (p<=w4.heap.size):=by have:=Nj.out.lt;have:=g1.size;show _<=_;omega
  have Db:=zh (Nj.out.BF g1 (by have:=JS.out;omega))
  have RD:=zh (Ai BI g1 (by have:=JS.out;omega))
  have HR4:=zh g2;have IY:=zh g3;clear g1 g2 g3 b0 b1 b2 b3 b4 b5 b6 b7 b8 b9;have vU:Hid (e1=0->r1.length<n):=fun hz=>by
   rcases IY.out.2 with ⟨h,_⟩|⟨_,⟨h,h2,_⟩|⟨_,h⟩⟩
   ·exact absurd rfl h
   ·obtain ⟨t,qq,rfl,_,_⟩:=BN h
    have:=HN.out;rw[h2,List.tail_cons];rw[AAS] at this
    omega
   ·omega
  obtain ⟨b0,b1,b2,b3,b4,b5,b6,b7,b8,b9⟩:=zG (show Bf w4 px x As cs Am cm from RD.out);obtain ⟨⟨v0,v1,v2,v3,v4,v5,v6,v7⟩,_⟩:=Db.out.cells;go_wp2_with fail;refine (UL VW Df HR4 F7 vU (vX.out (.inl HK.out))).mono ?_;rintro y w5 ⟨xa,rfl,j1,j2,r5,e5,j3,j4,j5⟩;clear v0 v1 v2 v3 v4 v5 v6 v7 b0 b1 b2 b3 b4 b5 b6 b7 b8 b9
  have XP:Hid (AP true C.s (tn:Int) r false=OL e1 (Mr x.kind (Tv (AP true C.s) x r1 false))):=by
   refine oK IY (g:=fun l=>Mr x.kind (Tv (AP true C.s) x l false)) ?_
   rw[XK.out,J5.out HK,HK.out]
   cases hsy:BG ⟨#[123]⟩ r with
   | error e=>rw[bZ,hsy];rfl
   | ok l=>rw[bZ,hsy];rfl
  have LP:=zh j5;rw[<-XP.out] at LP;have Ez:Hid (r5.length<=r.length):=by have:=IY.out.1;show _<=_;omega
  clear j4 j5;have HG2:=zh (LX (q:=q) (HB0.out.trans F8) (by have:=HQ.out;have:=lm.out;exact ⟨by omega,by omega⟩) Fq j1 j2 j3 Ez LP)
  have Kr:=zh (Ai Sy j2 (by have:=HQ.out;have:=Fq.out;omega))
  have Br:=zh (Cw Kr (.int .i64 xa.v.kind) (.bool xa.v.bool) (.int .i64 xa.v.int) (.string xa.v.str) (.int .i64 xa.v.id) (.slice xa.A1 xa.v.keys.length xa.c1) (.slice xa.A2 xa.v.items.length xa.c2) (.slice xa.A3 xa.v.rest.length xa.c3));obtain ⟨⟨x0,x1,x2,x3,x4,x5,x6,x7⟩,y0,y1,y2,y3,y4,y5,y6,y7⟩:=zK Kr;clear j1 j2 j3;go_wp2;clear x0 x1 x2 x3 x4 x5 x6 x7 y0 y1 y2 y3 y4 y5 y6 y7
  unfold Go.Proofs.YthkkllmmbefedaaGreatDoor.q8 Go.Proofs.YthkkllmmbefedaaGreatDoor.q5 at HG2 Br;generalize World.setCell _ _ _=W9 at *;obtain ⟨⟨x0,x1,x2,x3,x4,x5,x6,x7⟩,_⟩:=zK Br
  refine bodyPost_ret (v:=xa.v.v xa.A1 xa.c1 xa.A2 xa.c2 xa.A3 xa.c3) (by simp[results,Tryz.results81,go_sem,x0,x1,x2,x3,x4,x5,x6,x7]) rfl HG2
 ·have HK:=zh hk
  have q1:(x.kind==1)=false:=by simp[hk]
  have q2:(x.kind==2)=false:=by simp[hk]
  have q3:(x.kind==3)=false:=by simp[hk]
  have q4:(x.kind==4)=false:=by simp[hk]
  have q5:(x.kind==5)=false:=by simp[hk]
  have q6:(x.kind==6)=true:=by simp[hk]
  have q7:(x.kind==7)=false:=by simp[hk]
  have q8:(x.kind==8)=false:=by simp[hk]
  have J5:=zh (Ih (f:=AP true C.s) (x:=x) (l:=r) (k:=false)).2.2.2.2.2.1;clear hk;have F8:=HB1;have Sy:=gV;have lm:Hid (p<=Wc.heap.size):=AAT Nj.out.lt;obtain ⟨⟨v0,v1,v2,v3,v4,v5,v6,v7⟩,_⟩:=Nj.out.cells;go_wp2_with fail;refine (WC Df HR3 F7 HN (vX.out (.inr HK.out))).mono ?_;rintro y w5 ⟨xa,rfl,j1,j2,r5,e5,j3,j4,j5⟩
  clear v0 v1 v2 v3 v4 v5 v6 v7 b0 b1 b2 b3 b4 b5 b6 b7 b8 b9;have XP:Hid (AP true C.s (tn:Int) r false=Hu x.kind (Co true (AP true C.s) x r false)):=by show _=_;rw[XK.out,J5.out HK,HK.out]
  have LP:=zh j5;rw[<-XP.out] at LP;have Ez:=zh j4;clear j4 j5;have HG2:=zh (LX (q:=q) (HB0.out.trans F8) (by have:=HQ.out;have:=lm.out;exact ⟨by omega,by omega⟩) Fq j1 j2 j3 Ez LP)
  have Kr:=zh (Ai Sy j2 (by have:=HQ.out;have:=Fq.out;omega))
  have Br:=zh (Cw Kr (.int .i64 xa.v.kind) (.bool xa.v.bool) (.int .i64 xa.v.int) (.string xa.v.str) (.int .i64 xa.v.id) (.slice xa.A1 xa.v.keys.length xa.c1) (.slice xa.A2 xa.v.items.length xa.c2) (.slice xa.A3 xa.v.rest.length xa.c3));obtain ⟨⟨x0,x1,x2,x3,x4,x5,x6,x7⟩,y0,y1,y2,y3,y4,y5,y6,y7⟩:=zK Kr;clear j1 j2 j3;go_wp2;clear x0 x1 x2 x3 x4 x5 x6 x7 y0 y1 y2 y3 y4 y5 y6 y7
  unfold Go.Proofs.YthkkllmmbefedaaGreatDoor.q8 Go.Proofs.YthkkllmmbefedaaGreatDoor.q5 at HG2 Br;generalize World.setCell _ _ _=W9 at *;obtain ⟨⟨x0,x1,x2,x3,x4,x5,x6,x7⟩,_⟩:=zK Br
  refine bodyPost_ret (v:=xa.v.v xa.A1 xa.c1 xa.A2 xa.c2 xa.A3 xa.c3) (by simp[results,Tryz.results81,go_sem,x0,x1,x2,x3,x4,x5,x6,x7]) rfl HG2
 ·have HK:=zh hk
  have q1:(x.kind==1)=false:=by simp[hk]
  have q2:(x.kind==2)=false:=by simp[hk]
  have q3:(x.kind==3)=false:=by simp[hk]
  have q4:(x.kind==4)=false:=by simp[hk]
  have q5:(x.kind==5)=false:=by simp[hk]
  have q6:(x.kind==6)=false:=by simp[hk]
  have q7:(x.kind==7)=true:=by simp[hk]
  have q8:(x.kind==8)=false:=by simp[hk]
  have J5:=zh (Ih (f:=AP true C.s) (x:=x) (l:=r) (k:=false)).2.2.2.2.2.2.1;clear hk;go_wp2_with fail;refine (Ay ⟨#[91]⟩ HR3).mono ?_;rintro y w4 ⟨rfl,g1,r1,e1,g2,g3⟩;have F8:=zh (HB1.out.trans g1);have Sy:=zh (Ai gV g1 (by have:=HQ.out;have:=Fq.out;omega))
  have lm:Hid (p<=w4.heap.size):=by have:=Nj.out.lt;have:=g1.size;show _<=_;omega
  have Db:=zh (Nj.out.BF g1 (by have:=JS.out;omega))
  have RD:=zh (Ai BI g1 (by have:=JS.out;omega))
  have HR4:=zh g2;have IY:=zh g3;clear g1 g2 g3 b0 b1 b2 b3 b4 b5 b6 b7 b8 b9;have vU:Hid (e1=0->r1.length<n):=fun hz=>by
   rcases IY.out.2 with ⟨h,_⟩|⟨_,⟨h,h2,_⟩|⟨_,h⟩⟩
   ·exact absurd rfl h
   ·obtain ⟨t,qq,rfl,_,_⟩:=BN h
    have:=HN.out;rw[h2,List.tail_cons];rw[AAS] at this
    omega
   ·omega
  obtain ⟨b0,b1,b2,b3,b4,b5,b6,b7,b8,b9⟩:=zG (show Bf w4 px x As cs Am cm from RD.out);obtain ⟨⟨v0,v1,v2,v3,v4,v5,v6,v7⟩,_⟩:=Db.out.cells;go_wp2_with fail;refine (ZC VW Df HR4 F7 vU (rV.out (by have:=HK.out;unfold Eg;omega)) HK).mono ?_
  rintro y w5 ⟨xa,rfl,j1,j2,r5,e5,j3,j4,j5⟩;clear v0 v1 v2 v3 v4 v5 v6 v7 b0 b1 b2 b3 b4 b5 b6 b7 b8 b9;have XP:Hid (AP true C.s (tn:Int) r false=OL e1 (Km x.kind (Fu (AP true C.s) x r1 false))):=by
   refine oK IY (g:=fun l=>Km x.kind (Fu (AP true C.s) x l false)) ?_
   rw[XK.out,J5.out HK,HK.out]
   cases hsy:BG ⟨#[91]⟩ r with
   | error e=>rw[OJ,hsy];rfl
   | ok l=>rw[OJ,hsy];rfl
  have LP:=zh j5;rw[<-XP.out] at LP;have Ez:Hid (r5.length<=r.length):=by have:=IY.out.1;show _<=_;omega
  clear j4 j5;have HG2:=zh (LX (q:=q) (HB0.out.trans F8) (by have:=HQ.out;have:=lm.out;exact ⟨by omega,by omega⟩) Fq j1 j2 j3 Ez LP)
  have Kr:=zh (Ai Sy j2 (by have:=HQ.out;have:=Fq.out;omega))
  have Br:=zh (Cw Kr (.int .i64 xa.v.kind) (.bool xa.v.bool) (.int .i64 xa.v.int) (.string xa.v.str) (.int .i64 xa.v.id) (.slice xa.A1 xa.v.keys.length xa.c1) (.slice xa.A2 xa.v.items.length xa.c2) (.slice xa.A3 xa.v.rest.length xa.c3));obtain ⟨⟨x0,x1,x2,x3,x4,x5,x6,x7⟩,y0,y1,y2,y3,y4,y5,y6,y7⟩:=zK Kr;clear j1 j2 j3;go_wp2;clear x0 x1 x2 x3 x4 x5 x6 x7 y0 y1 y2 y3 y4 y5 y6 y7
  unfold Go.Proofs.YthkkllmmbefedaaGreatDoor.q8 Go.Proofs.YthkkllmmbefedaaGreatDoor.q5 at HG2 Br;generalize World.setCell _ _ _=W9 at *;obtain ⟨⟨x0,x1,x2,x3,x4,x5,x6,x7⟩,_⟩:=zK Br
  refine bodyPost_ret (v:=xa.v.v xa.A1 xa.c1 xa.A2 xa.c2 xa.A3 xa.c3) (by simp[results,Tryz.results81,go_sem,x0,x1,x2,x3,x4,x5,x6,x7]) rfl HG2
 ·have HK:=zh hk
  have q1:(x.kind==1)=false:=by simp[hk]
  have q2:(x.kind==2)=false:=by simp[hk]
  have q3:(x.kind==3)=false:=by simp[hk]
  have q4:(x.kind==4)=false:=by simp[hk]
  have q5:(x.kind==5)=false:=by simp[hk]
  have q6:(x.kind==6)=false:=by simp[hk]
  have q7:(x.kind==7)=false:=by simp[hk]
  have q8:(x.kind==8)=true:=by simp[hk]
  have J5:=zh (Ih (f:=AP true C.s) (x:=x) (l:=r) (k:=false)).2.2.2.2.2.2.2.1;clear hk;go_wp2_with fail;refine (Ay ⟨#[91]⟩ HR3).mono ?_;rintro y w4 ⟨rfl,g1,r1,e1,g2,g3⟩;have F8:=zh (HB1.out.trans g1);have Sy:=zh (Ai gV g1 (by have:=HQ.out;have:=Fq.out;omega))
  have lm:Hid (p<=w4.heap.size):=by have:=Nj.out.lt;have:=g1.size;show _<=_;omega
  have Db:=zh (Nj.out.BF g1 (by have:=JS.out;omega))
  have RD:=zh (Ai BI g1 (by have:=JS.out;omega))
  have HR4:=zh g2;have IY:=zh g3;clear g1 g2 g3 b0 b1 b2 b3 b4 b5 b6 b7 b8 b9;have vU:Hid (e1=0->r1.length<n):=fun hz=>by
   rcases IY.out.2 with ⟨h,_⟩|⟨_,⟨h,h2,_⟩|⟨_,h⟩⟩
   ·exact absurd rfl h
   ·obtain ⟨t,qq,rfl,_,_⟩:=BN h
    have:=HN.out;rw[h2,List.tail_cons];rw[AAS] at this
    omega
   ·omega
  obtain ⟨b0,b1,b2,b3,b4,b5,b6,b7,b8,b9⟩:=zG (show Bf w4 px x As cs Am cm from RD.out);obtain ⟨⟨v0,v1,v2,v3,v4,v5,v6,v7⟩,_⟩:=Db.out.cells;go_wp2_with fail;refine (dB VW Df HR4 F7 vU (HYR.out HK) (rV.out (by have:=HK.out;unfold Eg;omega)) HK).mono ?_
  rintro y w5 ⟨xa,rfl,j1,j2,r5,e5,j3,j4,j5⟩;clear v0 v1 v2 v3 v4 v5 v6 v7 b0 b1 b2 b3 b4 b5 b6 b7 b8 b9;have XP:Hid (AP true C.s (tn:Int) r false=OL e1 (M4 x.kind (Lp (AP true C.s) x r1 false))):=by
   refine oK IY (g:=fun l=>M4 x.kind (Lp (AP true C.s) x l false)) ?_
   rw[XK.out,J5.out HK,HK.out]
   cases hsy:BG ⟨#[91]⟩ r with
   | error e=>rw[WQ,hsy];rfl
   | ok l=>rw[WQ,hsy];rfl
  have LP:=zh j5;rw[<-XP.out] at LP;have Ez:Hid (r5.length<=r.length):=by have:=IY.out.1;show _<=_;omega
  clear j4 j5;have HG2:=zh (LX (q:=q) (HB0.out.trans F8) (by have:=HQ.out;have:=lm.out;exact ⟨by omega,by omega⟩) Fq j1 j2 j3 Ez LP)
  have Kr:=zh (Ai Sy j2 (by have:=HQ.out;have:=Fq.out;omega))
  have Br:=zh (Cw Kr (.int .i64 xa.v.kind) (.bool xa.v.bool) (.int .i64 xa.v.int) (.string xa.v.str) (.int .i64 xa.v.id) (.slice xa.A1 xa.v.keys.length xa.c1) (.slice xa.A2 xa.v.items.length xa.c2) (.slice xa.A3 xa.v.rest.length xa.c3));obtain ⟨⟨x0,x1,x2,x3,x4,x5,x6,x7⟩,y0,y1,y2,y3,y4,y5,y6,y7⟩:=zK Kr;clear j1 j2 j3;go_wp2;clear x0 x1 x2 x3 x4 x5 x6 x7 y0 y1 y2 y3 y4 y5 y6 y7
  unfold Go.Proofs.YthkkllmmbefedaaGreatDoor.q8 Go.Proofs.YthkkllmmbefedaaGreatDoor.q5 at HG2 Br;generalize World.setCell _ _ _=W9 at *;obtain ⟨⟨x0,x1,x2,x3,x4,x5,x6,x7⟩,_⟩:=zK Br
  refine bodyPost_ret (v:=xa.v.v xa.A1 xa.c1 xa.A2 xa.c2 xa.A3 xa.c3) (by simp[results,Tryz.results81,go_sem,x0,x1,x2,x3,x4,x5,x6,x7]) rfl HG2
 ·have HK:=zh hk
  have q1:(x.kind==1)=false:=by simp[hk]
  have q2:(x.kind==2)=false:=by simp[hk]
  have q3:(x.kind==3)=false:=by simp[hk]
  have q4:(x.kind==4)=false:=by simp[hk]
  have q5:(x.kind==5)=false:=by simp[hk]
  have q6:(x.kind==6)=false:=by simp[hk]
  have q7:(x.kind==7)=false:=by simp[hk]
  have q8:(x.kind==8)=false:=by simp[hk]
  have J5:=zh (Ih (f:=AP true C.s) (x:=x) (l:=r) (k:=false)).2.2.2.2.2.2.2.2;clear hk;go_wp2_with fail;refine (Ov ⟨#[115,111,109,101]⟩ ⟨#[110,111,110,101]⟩ HR3).mono ?_;rintro y w3 ⟨t0,r1,e1,rfl,g1,g2,g3⟩;have FX:=zh (Nj.out.BF g1 (by have:=JS.out;omega))
  have HB3:=zh (HB1.out.trans g1);have JQ:=zh (Ai BI g1 (by have:=JS.out;omega))
  have EJ:=zh (Ip g2);obtain ⟨e9,TH⟩:∃z,(if t0.text≠⟨#[115,111,109,101]⟩/\t0.text≠⟨#[110,111,110,101]⟩ then JE e1 2 else e1)=z:=⟨_,rfl⟩
  rw[TH] at g3;have PV:=zh g3;have OT:Hid (AP true C.s (tn:Int) r false=Ot x.kind (Fg (AP true C.s) x r false)):=by show _=_;rw[XK.out,J5.out HK,HK.out]
  have HOP:Hid (Fg (AP true C.s) x r false=(Bg 1 r).bind fun p=>if p.1.text=⟨#[110,111,110,101]⟩ then .ok ([],p.2,false)
    else if p.1.text=⟨#[115,111,109,101]⟩ then (BG ⟨#[40]⟩ p.2).bind fun l2=>(AP true C.s x.elem l2 false).bind fun q=>(BG ⟨#[41]⟩ q.2.1).bind fun l4 => .ok ([q.1],l4,q.2.2)
    else .error 2):=rfl
  have mD:Hid (t0.text=⟨#[115,111,109,101]⟩->e9=0/\e1=0/\r1.length<r.length/\Fg (AP true C.s) x r false=(BG ⟨#[40]⟩ r1).bind fun l2=>(AP true C.s x.elem l2 false).bind fun q=>(BG ⟨#[41]⟩ q.2.1).bind fun l4 => .ok ([q.1],l4,q.2.2)):=fun hs=>by
   rw[Pe (fun h=>h.1 hs)] at TH
   rcases EJ.out.2 with ⟨h1,h2,h3⟩|⟨_,h2,_⟩
   ·refine ⟨by omega,h2,h3,?_⟩
    rw[HOP.out,h1,zM,Pe (by rw[hs];decide),AAC hs]
   ·rw[h2] at hs
    exact absurd hs (by unfold Dp;decide)
  have Ho:Hid (t0.text≠⟨#[115,111,109,101]⟩->match AP true C.s (tn:Int) r false with
    | .ok (v,r',_) => .mk x.kind false 0 ⟨#[]⟩ 0 [] [] []=v/\r1=r'/\e9=0
    | .error e'=>e9=e'):=fun hs=>by
   rw[OT.out,HOP.out];have ht:=EJ.out.tk
   cases hkk:Bg 1 r with
   | error e2 =>
    rw[hkk] at ht;rw[Aj]
    show e9=e2
    rw[<-TH,<-ht.1]
    split
    ·exact Pe ht.2
    ·rfl
   | ok z =>
    rw[hkk] at ht;obtain ⟨rfl,rfl,rfl,_⟩:=ht;rw[zM]
    by_cases h2:z.1.text=⟨#[110,111,110,101]⟩
    ·rw[AAC h2]
     rw[Pe (fun h=>h.2 h2)] at TH
     exact ⟨rfl,rfl,TH.symm⟩
    ·rw[Pe h2,Pe hs]
     rw[AAC ⟨hs,h2⟩] at TH;exact TH.symm
  have QB:=zh EJ.out.1.1;clear g1 g2 g3 TH b0 b1 b2 b3 b4 b5 b6 b7 b8 b9;have rz:=PV.out.zero
  by_cases hs:t0.text=⟨#[115,111,109,101]⟩
  case neg =>
   have LP:=zh (Ho.out hs);have hd:decide (t0.text=⟨#[115,111,109,101]⟩)=false:=AAE hs;rw[hd];clear hs hd Ho mD rz;have HG2:=zh (Md HB0 HQ Fq PV FX HB3 QB z3 LP);have Kr:=zh (Ai MQ HB3 (by have:=HQ.out;have:=Fq.out;omega))
   have Br:=zh (Cw Kr (.int .i64 x.kind) (.bool false) (.int .i64 0) (.string ⟨#[]⟩) (.int .i64 0) AJ AJ AJ);obtain ⟨⟨x0,x1,x2,x3,x4,x5,x6,x7⟩,y0,y1,y2,y3,y4,y5,y6,y7⟩:=zK Kr;obtain ⟨⟨v0,v1,v2,v3,v4,v5,v6,v7⟩,_⟩:=FX.out.cells;go_wp2;clear x0 x1 x2 x3 x4 x5 x6 x7 y0 y1 y2 y3 y4 y5 y6 y7 v0 v1 v2 v3 v4 v5 v6 v7
   unfold Go.Proofs.YthkkllmmbefedaaGreatDoor.q8 Go.Proofs.YthkkllmmbefedaaGreatDoor.q5 at HG2 Br;generalize World.setCell _ _ _=W9 at *;obtain ⟨⟨x0,x1,x2,x3,x4,x5,x6,x7⟩,_⟩:=zK Br
   refine bodyPost_ret (v := .agg #[.int .i64 x.kind,.bool false,.int .i64 0,.string ⟨#[]⟩,.int .i64 0,AJ,AJ,AJ]) (by simp[results,Tryz.results81,go_sem,x0,x1,x2,x3,x4,x5,x6,x7]) rfl HG2
  obtain ⟨j1,j2,j3,j4⟩:=mD.out hs;have HOS:=zh j4;have Dm:=zh j3;subst j1;have hd:decide (t0.text=⟨#[115,111,109,101]⟩)=true:=AAM hs;rw[hd];clear hs hd Ho mD j2 j3 j4;go_wp2_with fail;refine (Ay ⟨#[40]⟩ PV).mono ?_;rintro y w4 ⟨rfl,g1,r2,e2,g2,g3⟩;have Db:=zh (FX.out.BF g1 (by have:=JS.out;omega))
  have BD:=zh (HB3.out.trans g1);have RD:=zh (Ai JQ g1 (by have:=JS.out;omega))
  have HR4:=zh g2;have IY:=zh g3;clear g1 g2 g3 rz;have rz:=HR4.out.zero;have EK:Hid (∀xs r5 e5 r7 e7,(e2≠0->e5=e2)->(e2=0->match AP true C.s x.elem r2 false with
    | .ok (v,r',_)=>xs=[v]/\r5=r'/\e5=0
    | .error e=>e5=e)->Jy ⟨#[41]⟩ r5 e5 r7 e7->match AP true C.s (tn:Int) r false with
    | .ok (v,r',_) => .mk x.kind false 0 ⟨#[]⟩ 0 [] xs []=v/\r7=r'/\e7=0
    | .error e'=>e7=e'):=fun xs r5 e5 r7 e7 j1 j2 j3=>by
   rw[OT.out,HOS.out];exact dN (Cm true C.s) IY j1 j2 j3
  by_cases hz:e2=0
  case neg =>
   have q9:(e2==0)=false:=by simp[hz]
   have HZ:=zh hz;clear hz;go_wp2_with fail;refine (Ay ⟨#[41]⟩ HR4).mono ?_;rintro y w6 ⟨rfl,g1,r7,e7,g2,g3⟩;have DN:=zh (Db.out.BF g1 (by have:=JS.out;omega))
   have BA:=zh (BD.out.trans g1);have mE:=zh g2;have LP:=zh (EK.out [] r2 e2 r7 e7 (fun _=>rfl) (fun h=>absurd h HZ) g3)
   have Ez:Hid (r7.length<=r.length):=by have:=g3.1;have:=IY.out.1;have:=QB.out;show _<=_;omega
   clear g1 g2 g3 rz;have HG2:=zh (Md HB0 HQ Fq mE DN BA Ez z3 LP);have Kr:=zh (Ai MQ BA (by have:=HQ.out;have:=Fq.out;omega))
   have Br:=zh (Cw Kr (.int .i64 x.kind) (.bool false) (.int .i64 0) (.string ⟨#[]⟩) (.int .i64 0) AJ AJ AJ);obtain ⟨⟨x0,x1,x2,x3,x4,x5,x6,x7⟩,y0,y1,y2,y3,y4,y5,y6,y7⟩:=zK Kr;obtain ⟨⟨v0,v1,v2,v3,v4,v5,v6,v7⟩,_⟩:=DN.out.cells;go_wp2;clear x0 x1 x2 x3 x4 x5 x6 x7 y0 y1 y2 y3 y4 y5 y6 y7 v0 v1 v2 v3 v4 v5 v6 v7
   unfold Go.Proofs.YthkkllmmbefedaaGreatDoor.q8 Go.Proofs.YthkkllmmbefedaaGreatDoor.q5 at HG2 Br;generalize World.setCell _ _ _=W9 at *;obtain ⟨⟨x0,x1,x2,x3,x4,x5,x6,x7⟩,_⟩:=zK Br
   refine bodyPost_ret (v := .agg #[.int .i64 x.kind,.bool false,.int .i64 0,.string ⟨#[]⟩,.int .i64 0,AJ,AJ,AJ]) (by simp[results,Tryz.results81,go_sem,x0,x1,x2,x3,x4,x5,x6,x7]) rfl HG2
  subst hz;have x8:w4.cell? ⟨px,8,none⟩=some (.int .i64 x.elem):=by rw[AAB _ _ _ _ _ _ RD.out];rfl
  go_wp2_with fail
  refine (Df.out x.elem _ r2 (by have:=IY.out.1;have:=Dm.out;have:=HN.out;omega) (rV.out (.inr (.inr HK.out))) HR4).mono ?_
  rintro y w5 ⟨xa,rfl,g1,g2,r5,e5,g3,g4,g5⟩;obtain ⟨h1,h2,h3⟩:=nk Db g2 (by have:=JS.out;omega) g3 g1 BD (Nat.le_of_eq qg)
  have DN:=zh h1;have mE:=zh h2;have BA:=zh h3;have Gm:=zh g4;have Hq:=zh g5;have HV5:=zh ((Db.out.BF g2 (by have:=JS.out;omega)).below (zD w5 (.cells xa.cells.toArray 28)))
  obtain ⟨⟨_,_,_,_,_,_,c6,_⟩,cf⟩:=HV5.out.cells;have f6:=cf 6;clear g1 g2 g3 g4 g5 cf h1 h2 h3 x8 rz;unfold BX.cells Val.cs at DN mE BA c6 f6;go_upto_region 8 with fail
  clear c6 f6;generalize World.setCell (World.alloc w5 _) _ _=W6 at *;go_wp2_with fail;refine (Ay ⟨#[41]⟩ mE).mono ?_;rintro y w8 ⟨rfl,g1,r7,e7,g2,g3⟩;have nN:=zh (DN.out.BF g1 (by have:=JS.out;omega))
  have FY:=zh (BA.out.trans g1);have qw:=zh g2;have LP:=zh (EK.out [xa.v] r5 e5 r7 e7 (fun h=>absurd rfl h) (fun _=>by
   have hg:=Hq.out
   cases hv:AP true C.s x.elem r2 false with
   | error e=>rw[hv] at hg;exact hg
   | ok z=>rw[hv] at hg;exact ⟨by rw[hg.1],hg.2⟩) g3)
  have Ez:Hid (r7.length<=r.length):=by have:=g3.1;have:=IY.out.1;have:=QB.out;have:=Gm.out;show _<=_;omega
  clear g1 g2 g3;generalize w5.heap.size=gg at *;have HG2:=zh (Md HB0 HQ Fq qw nN FY Ez ⟨by simp,by simp,by simp⟩ LP)
  have Kr:=zh (Ai MQ FY (by have:=HQ.out;have:=Fq.out;omega))
  have Br:=zh (Cw Kr (.int .i64 x.kind) (.bool false) (.int .i64 0) (.string ⟨#[]⟩) (.int .i64 0) AJ (.slice (some ⟨gg,0,none⟩) 1 1) AJ);obtain ⟨⟨x0,x1,x2,x3,x4,x5,x6,x7⟩,y0,y1,y2,y3,y4,y5,y6,y7⟩:=zK Kr;obtain ⟨⟨v0,v1,v2,v3,v4,v5,v6,v7⟩,_⟩:=nN.out.cells;go_wp2;clear x0 x1 x2 x3 x4 x5 x6 x7 y0 y1 y2 y3 y4 y5 y6 y7 v0 v1 v2 v3 v4 v5 v6 v7
  unfold Go.Proofs.YthkkllmmbefedaaGreatDoor.q8 Go.Proofs.YthkkllmmbefedaaGreatDoor.q5 at HG2 Br;generalize World.setCell _ _ _=W9 at *;obtain ⟨⟨x0,x1,x2,x3,x4,x5,x6,x7⟩,_⟩:=zK Br
  refine bodyPost_ret (v := .agg #[.int .i64 x.kind,.bool false,.int .i64 0,.string ⟨#[]⟩,.int .i64 0,AJ,(.slice (some ⟨gg,0,none⟩) 1 1),AJ]) (by simp[results,Tryz.results81,go_sem,x0,x1,x2,x3,x4,x5,x6,x7]) rfl HG2
end Go.Proofs.YthkkllmmbefedaaGreatDoor



