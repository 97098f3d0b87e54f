/-
  The frame of the reference's functions that read a part of a value.
-/
import Derived.Test.YthkkllmmbefedaaGreatDoorQGE0
import Derived.Test.YthkkllmmbefedaaGreatDoorQNRJ
namespace Go.Proofs.YthkkllmmbefedaaGreatDoor
open Go.RowKit
set_option maxHeartbeats 16000000
set_option maxRecDepth 100000
def CZ.q (C:CZ) (i:Nat) (e:Int):Obj := .cells #[.slice C.A C.s.length C.c,.slice C.AL C.l.length C.cL,.int .i64 i,.int .i64 e] 142
structure DW (C:CZ) (w:World) (r:List AB) (e:Int):Prop where
 ok:C.Ok
 blk:w.heap[C.b]? = some (C.q (C.l.length - r.length) e)
 LH:r <:+ C.l
 up:Below C.w0.heap.size C.w0 w
section
variable {C:CZ} {w w':World} {r r':List AB} {e e':Int}
theorem DW.lt (h:DW C w r e):C.b<w.heap.size:=(zg.1 h.blk).1
theorem DW.below (h:DW C w r e) (hb:Below w.heap.size w w'):DW C w' r e:=⟨h.ok,CW h.blk hb,h.LH,h.up.trans (hb.mono h.up.size)⟩
theorem DW.BF (h:DW C w r e) (hb:Below w.heap.size w w'):Ah C.b w w':=Ah.of hb (AAT h.lt)
theorem DW.cells (h:DW C w r e):(w.cell? ⟨C.b,0,none⟩=some (.slice C.A C.s.length C.c)/\w.cell? ⟨C.b,1,none⟩=some (.slice C.AL C.l.length C.cL)/\w.cell? ⟨C.b,2,none⟩=some (.int .i64 ((C.l.length - r.length:Nat):Int))/\w.cell? ⟨C.b,3,none⟩=some (.int .i64 e))/\(∀j,w.frozen? ⟨C.b,j,none⟩=false):=by
 have hb:=h.blk;unfold CZ.q at hb;refine ⟨⟨?_,?_,?_,?_⟩,fun j=>AAK _ _ _ _ _ hb⟩ <;> (rw[AAB _ _ _ _ _ _ hb];rfl)
theorem DW.setAt (h:DW C w r e) (hs:r' <:+ C.l) {i:Int} (hi:i=((C.l.length - r'.length:Nat):Int)):DW C (w.setCell ⟨C.b,2,none⟩ (.int .i64 i)) r' e:=by
 subst hi;refine ⟨h.ok,?_,hs,h.up.setCell (p:=⟨C.b,2,none⟩) h.ok.ge _⟩;have hb:=h.blk;unfold CZ.q at hb;rw[AAV _ _ 2 _ _ _ hb]
 rfl
theorem DW.oP (h:DW C w r e) (e':Int):DW C (w.setCell ⟨C.b,3,none⟩ (.int .i64 e')) r e':=by
 refine ⟨h.ok,?_,h.LH,h.up.setCell (p:=⟨C.b,3,none⟩) h.ok.ge _⟩;have hb:=h.blk;unfold CZ.q at hb;rw[AAV _ _ 3 _ _ _ hb]
 rfl
variable {t:AB}
theorem DW.RU (h:DW C w r e) {i:Nat} (hi:C.l[i]? = some t):∃bb o,C.AL=some ⟨bb,o,none⟩/\(Dc t.text/\Dc t.str) /\
  w.cell? ⟨bb,o+i * 5,none⟩=some (.int .i64 t.kind)/\w.cell? ⟨bb,o+i * 5+1,none⟩=some (.string t.text)/\w.cell? ⟨bb,o+i * 5+2,none⟩=some (.int .i64 t.int)/\w.cell? ⟨bb,o+i * 5+3,none⟩=some (.string t.str)/\w.cell? ⟨bb,o+i * 5+4,none⟩=some (.int .i64 t.line):=by
 obtain ⟨hi2,rfl⟩:=AAZ.1 hi;obtain ⟨bb,o,hA,h0,h1,h2,h3,h4,h5⟩:=h.ok.tk.cells hi2;exact ⟨bb,o,hA,h0,zA h.up h1,zA h.up h2,zA h.up h3,zA h.up h4,zA h.up h5⟩
theorem DW.fB {q:List AB} (h:DW C w (t::q) e):C.l[C.l.length - (t::q).length]? = some t:=by
 obtain ⟨p,hp⟩:=h.LH;have hl:C.l.length - (t::q).length=p.length:=by rw[<-hp];simp
 rw[hl,<-hp,AAw (AAQ _),Nat.sub_self]
 rfl
theorem DW.tail {q:List AB} (h:DW C w (t::q) e):q <:+ C.l/\(((C.l.length - (t::q).length:Nat):Int)+1=((C.l.length - q.length:Nat):Int)):=by
 have h1:=h.LH;have h2:=h1.length_le;rw[AAS] at h2 ⊢;exact ⟨(List.suffix_cons t q).trans h1,by omega⟩
end
variable {e:Int} {C:CZ} {w:World}
theorem DW.Pb {t:AB} {q:List AB} (h:DW C w (t::q) e):∃i:Nat,i+1<=1000000/\w.cell? ⟨C.b,2,none⟩=some (.int .i64 (i:Int))/\w.frozen? ⟨C.b,2,none⟩=false/\C.l[i]? = some t /\
  Hid ((∀w1 e1,DW C w1 (t::q) e1->DW C (w1.setCell ⟨C.b,2,none⟩ (.int .i64 ((i:Int)+1))) q e1)/\(∀w1 e1,DW C w1 q e1->w1.cell? ⟨C.b,2,none⟩=some (.int .i64 ((i:Int)+1)))):=by
 obtain ⟨⟨c0,c1,c2,c3⟩,hf⟩:=h.cells;have ht:=h.tail;have hs:=h.LH.length_le;have hl:=h.ok.len;have hl1:(t::q).length=q.length+1:=rfl;refine ⟨C.l.length - (t::q).length,by omega,c2,hf 2,h.fB,fun w1 e1 h1=>h1.setAt ht.1 ht.2,fun w1 e1 h1=>?_⟩
 rw[h1.cells.1.2.2.1,ht.2]
variable {r:List AB}
theorem DW.Ef (h:DW C w r e) {q:Nat} (hq:q≠C.b) (hz:C.w0.heap.size<=q) (j:Nat) (u:Value):DW C (w.setCell ⟨q,j,none⟩ u) r e :=
 ⟨h.ok,(AAO _ _ _ _ (by simpa using hq.symm)).trans h.blk,h.LH,h.up.setCell (p:=⟨q,j,none⟩) hz u⟩
theorem DW.mY (h:DW C w r e) {B:Nat} (hB:B≠C.b) (hz:C.w0.heap.size<=B) (v0 v1 v2 v3 v4:Value):DW C (q5 w B v0 v1 v2 v3 v4) r e :=
 ((((h.Ef hB hz 0 v0).Ef hB hz 1 v1).Ef hB hz 2 v2).Ef hB hz 3 v3).Ef hB hz 4 v4
theorem Di (x:Int) (h:DW C w r e):
  Calls Tryz.prog 163 #[.pointer (some ⟨C.b,0,none⟩),.int .i64 x] w fun y w'=>y = .returned (.tuple #[])/\DW C w' r (JE e x)/\Ah C.b w w':=by
 have HS:=zh h;obtain ⟨⟨c0,c1,c2,c3⟩,hf⟩:=h.cells;have f3:=hf 3;clear h hf
 by_cases he:e=0
 ·have q1:(e==0)=true:=by simp[he]
  have HR:Hid (JE e x=x):=AAC he;clear he
  go_enter Tryz.func163,Tryz.ntmps163
  go_wp2
  refine bodyPost_end (results_none Tryz.results163 _ _ _) rfl ⟨rfl,?_,(Ah.refl _ _).set _ _⟩;rw[HR.out];exact HS.out.oP x
 ·have q1:(e==0)=false:=by simp[he]
  have HR:Hid (JE e x=e):=Pe he;clear he
  go_enter Tryz.func163,Tryz.ntmps163
  go_wp2
  refine bodyPost_end (results_none Tryz.results163 _ _ _) rfl ⟨rfl,?_,Ah.refl _ _⟩;rw[HR.out];exact HS.out
def OO (T:ByteArray) (r:List AB) (e:Int):Bool:=decide (e=0)&&Ba T r
theorem Bt (T:ByteArray) (h:DW C w r e):
  Calls Tryz.prog 164 #[.pointer (some ⟨C.b,0,none⟩),.string T] w fun x w'=>x = .returned (.bool (OO T r e))/\Below w.heap.size w w':=by
 obtain ⟨⟨c0,c1,c2,c3⟩,hf⟩:=h.cells;have Ny:=h.ok.len;unfold OO
 by_cases he:e=0
 ·have q0:(e==0)=true:=by simp[he]
  rw[AAM he,Bool.true_and]
  cases r with
  | nil =>
   have z1:decide (((C.l.length - ([]:List AB).length:Nat):Int)<(C.l.length:Int))=false:=by simp
   clear h hf he
   go_enter Tryz.func164,Tryz.ntmps164
   go_wp2_with fail
   go_quiet (fail)
   go_wp2
   go_ret
   exact ⟨rfl,zC (Pd _ _) _⟩
  | cons t q =>
   have hgi:=h.fB;obtain ⟨bb,o,hA,_,t0,t1,t2,t3,t4⟩:=h.RU hgi;have hi:=(AAZ.1 hgi).1;rw[hA] at c1;have hq:Ba T (t::q)=(decide (t.kind=4)&&decide (t.text=T)):=rfl;rw[hq];clear h hf hq hgi he;generalize C.l.length - (t::q).length=i at *;have z1:decide ((i:Int)<(C.l.length:Int))=true:=by simp;omega
   have z2:(0:Int)<=(i:Int):=by omega
   have z3:(i:Int)<(C.l.length:Int):=by omega
   have HE:=zh (bytes_beq t.text T)
   by_cases hk:t.kind=4
   ·have q1:(t.kind==4)=true:=by simp[hk]
    rw[hk,<-bytes_beq];clear hk HE
    go_enter Tryz.func164,Tryz.ntmps164
    go_wp2_with fail
    go_quiet (fail)
    go_wp2
    go_ret
    exact ⟨rfl,zC (Pd _ _) _⟩
   ·have q1:(t.kind==4)=false:=by simp[hk]
    rw[AAE hk,Bool.false_and];clear hk HE
    go_enter Tryz.func164,Tryz.ntmps164
    go_wp2_with fail
    go_quiet (fail)
    go_wp2
    go_ret
    exact ⟨rfl,zC (Pd _ _) _⟩
 ·have q0:(e==0)=false:=by simp[he]
  rw[AAE he,Bool.false_and];clear h hf he
  go_enter Tryz.func164,Tryz.ntmps164
  go_wp2_with fail
  go_quiet (fail)
  go_wp2
  go_ret
  exact ⟨rfl,zC (Pd _ _) _⟩
theorem IU {T:ByteArray} (h:OO T r e=true):e=0/\Ba T r=true:=by
 unfold OO at h
 simpa using h
def SqP (C:CZ) (T:ByteArray) (w:World) (r:List AB) (e:Int) (y:Ending) (w':World):Prop:=y = .returned (.tuple #[])/\Ah C.b w w'/\∃r' e',DW C w' r' e'/\Jy T r e r' e'
theorem Ay (T:ByteArray) (h:DW C w r e):
  Calls Tryz.prog 134 #[.pointer (some ⟨C.b,0,none⟩),.string T] w (SqP C T w r e):=by
 have HS:=zh h;clear h
 cases hi:OO T r e with
 | false =>
  have HI:=zh hi;clear hi
  go_enter Tryz.func134,Tryz.ntmps134
  go_wp2_with (go_at_call 164;refine (Bt T HS).mono ?_;rintro x w1 ⟨rfl,hb1⟩;rw[HI.out];have HB1:=zh hb1;clear hb1)
  refine (Di 2 (HS.out.below HB1)).mono ?_;rintro x w2 ⟨rfl,h1,h2⟩;have H1:=zh h1;have H2:=zh h2;clear h1 h2;go_wp2;refine bodyPost_ret (results_none Tryz.results134 _ _ _) rfl ⟨rfl,(HS.out.BF HB1).trans H2,_,_,H1.out,AAQ _,?_⟩;have hi:=HI.out;unfold OO at hi;unfold JE
  by_cases he:e=0
  ·rw[AAM he,Bool.true_and] at hi
   exact .inr ⟨he,.inr ⟨hi,AAC he⟩⟩
  ·exact .inl ⟨he,rfl,Pe he⟩
 | true =>
  have HI:=zh hi;obtain ⟨rfl,hp⟩:=IU hi;have HP:=zh hp;obtain ⟨t,q,rfl,_,_⟩:=BN hp;clear hi hp
  go_enter Tryz.func134,Tryz.ntmps134
  go_wp2_with (go_at_call 164;refine (Bt T HS).mono ?_;rintro x w1 ⟨rfl,hb1⟩;rw[HI.out];have HB1:=zh hb1;have Kg:=zh (HS.out.below hb1);obtain ⟨i,hi,c2,f2,hi2,HN⟩:=Kg.out.Pb;clear hb1)
  refine bodyPost_end (results_none Tryz.results134 _ _ _) rfl ⟨rfl,(HS.out.BF HB1).trans ((Ah.refl _ _).set _ _),q,0,?_,by simp,.inr ⟨rfl,.inl ⟨HP.out,rfl,rfl⟩⟩⟩
  exact HN.out.1 _ _ Kg
def XG (n:Int) (r:List AB) (e:Int) (t0:AB) (r1:List AB) (e1:Int):Prop:=(e≠0/\t0=Dp/\r1=r/\e1=e)\/(e=0/\Q6 n r t0 r1 e1)
def NxP (C:CZ) (n:Int) (w:World) (r:List AB) (e:Int) (y:Ending) (w':World):Prop :=
 ∃t0 r1 e1,y = .returned (.agg #[.int .i64 t0.kind,.string t0.text,.int .i64 t0.int,.string t0.str,.int .i64 t0.line])/\Ah C.b w w'/\DW C w' r1 e1/\XG n r e t0 r1 e1
theorem DW.Yz (h:DW C w r e) {B:Nat} (hB:C.b<B) (v0 v1 v2 v3 v4:Value):DW C (q5 w B v0 v1 v2 v3 v4) r e :=
 h.mY (by omega) (by have:=h.ok.ge;omega) _ _ _ _ _
theorem uH {n:Int} (h:e≠0\/(e=0/\Bg n r = .error 2)):XG n r e Dp r (JE e 2):=by
 unfold JE
 rcases h with h|⟨h,h2⟩
 ·exact .inl ⟨h,rfl,rfl,Pe h⟩
 ·exact .inr ⟨h,⟨AAQ _,by unfold Dc Dp;decide,by unfold Dc Dp;decide⟩,.inr ⟨h2,rfl,rfl,AAC h⟩⟩
theorem Cz (n:Int) (h:DW C w r e):
  Calls Tryz.prog 132 #[.pointer (some ⟨C.b,0,none⟩),.int .i64 n] w (NxP C n w r e):=by
 have HB0:=zh (zD w (bG Dp));have HX0:=zh (AAA w (bG Dp));have HW:=zh (h.BF HB0);have HS:=zh (h.below HB0);have Dm:=zh h.lt;clear h
 go_enter Tryz.func132,Tryz.ntmps132
 go_upto_region 1 with fail
 unfold bG Dp at HB0 HX0 HW HS;simp only at HB0 HX0 HW HS;generalize w.alloc _=W1 at *
 by_cases hg:e=0/\∃t q,r=t::q/\t.kind=n
 ·obtain ⟨rfl,t,q,rfl,hk⟩:=hg
  have HK:Hid (Bg n (t::q) = .ok (t,q)):=by show _=_;rw[Bg,AAC hk]
  obtain ⟨⟨c0,c1,c2',c3⟩,hf⟩:=HS.out.cells;obtain ⟨i,hi,c2,f2,hgi,HN⟩:=HS.out.Pb;obtain ⟨bb,o,hA,hso,t0,t1,t2,t3,t4⟩:=HS.out.RU hgi;have hi2:=(AAZ.1 hgi).1;have nP:=zh hso;have HGI:=zh hgi;have HC:=zh (show DW C W1 (t::q) 0 from HS.out);rw[hA] at c1;have z1:decide ((i:Int) >= (C.l.length:Int))=false:=by simp;omega
  have z2:(0:Int)<=(i:Int):=by omega
  have z3:(i:Int)<(C.l.length:Int):=by omega
  have z4:(t.kind != n)=false:=by simp[hk]
  clear hk hso hf c2' hgi
  go_quiet (fail)
  go_upto_region 5 with fail
  have YW:=zh (HN.out.1 _ _ (HC.out.below (zC (Pd _ _) nq)));have BB:=zh ((HW.out.below (zC (Pd W1.heap.size W1) nq) Dm).set 2 (.int .i64 ((i:Int)+1)))
  have BK:Hid (((W1.drewN nq).setCell ⟨C.b,2,none⟩ (.int .i64 ((i:Int)+1))).heap[w.heap.size]? = some (.cells #[.int .i64 0,.string ⟨#[]⟩,.int .i64 0,.string ⟨#[]⟩,.int .i64 0] 59)):=(AAO _ _ _ _ (by have:=Dm.out;simp only;omega)).trans HX0
  clear t0 t1 t2 t3 t4 c0 c1 c2 c3 f2;generalize (W1.drewN nq).setCell ⟨C.b,2,none⟩ (.int .i64 ((i:Int)+1))=W5 at *;have c2:=HN.out.2 _ _ YW;obtain ⟨⟨c0,c1,_,c3⟩,_⟩:=YW.out.cells;obtain ⟨bb',o',hA',_,t0,t1,t2,t3,t4⟩:=YW.out.RU HGI;rw[hA] at hA' c1
  injection hA' with hA'
  injection hA' with g1 g2
  subst g1 g2;obtain ⟨⟨x0,x1,x2,x3,x4⟩,y0,y1,y2,y3,y4⟩:=Ao BK
  go_region
  clear t0 t1 t2 t3 t4 x0 x1 x2 x3 x4 y0 y1 y2 y3 y4 c0 c1 c2 c3;have IX:=zh (Wu BK (.int .i64 t.kind) (.string t.text) (.int .i64 t.int) (.string t.str) (.int .i64 t.line));have BA:=zh (BB.out.five (.int .i64 t.kind) (.string t.text) (.int .i64 t.int) (.string t.str) (.int .i64 t.line) (AAQ _) Dm)
  have qm:=zh (YW.out.Yz Dm (.int .i64 t.kind) (.string t.text) (.int .i64 t.int) (.string t.str) (.int .i64 t.line));unfold q5 at IX BA qm;generalize World.setCell _ _ _=W6 at *;have Gz:=zh (CW IX (zC (Pd _ _) 1))
  have Vd:=zh (qm.out.below (zC (Pd _ _) 1));have CJ:=zh (BA.out.below (zC (Pd _ _) 1) Dm)
  change Hid (W6.drew.heap[w.heap.size]? = _) at Gz
  change Hid (DW C W6.drew _ _) at Vd
  change Hid (Ah C.b w W6.drew) at CJ
  generalize W6.drew=W7 at *;obtain ⟨⟨t0,t1,t2,t3,t4⟩,_⟩:=Ao Gz;go_wp2;refine bodyPost_ret (v:=t.v) (by simp[results,Tryz.results132,go_sem,t0,t1,t2,t3,t4,AB.v]) rfl ?_
  exact ⟨t,q,0,rfl,CJ.out,Vd.out,.inr ⟨rfl,⟨by simp,nP.out.1,nP.out.2⟩,.inl ⟨HK.out,rfl,by simp⟩⟩⟩
 ·have HK:Hid (e≠0\/(e=0/\Bg n r = .error 2)):=by
   by_cases he:e=0
   ·exact .inr ⟨he,mW fun g=>hg ⟨he,g⟩⟩
   ·exact .inl he
  have Gp:Hid (∀W2 W3:World,DW C W2 r (JE e 2)->Ah C.b w W2->W3=q5 W2 w.heap.size (.int .i64 0) (.string ⟨#[]⟩) (.int .i64 0) (.string ⟨#[]⟩) (.int .i64 0)->NxP C n w r e (.returned Dp.v) W3):=fun W2 W3 h1 h2 e3=>by
   subst e3;exact ⟨Dp,r,_,rfl,h2.five _ _ _ _ _ (AAQ _) Dm,h1.Yz Dm _ _ _ _ _,uH HK⟩
  have aI:Hid (∀W2:World,Ah C.b W1 W2->W2.heap[w.heap.size]? = some (.cells #[.int .i64 0,.string ⟨#[]⟩,.int .i64 0,.string ⟨#[]⟩,.int .i64 0] 59)):=fun W2 h=>(h.Ef _ (by have:=Dm.out;omega) (zg.1 HX0).1).trans HX0
  obtain ⟨⟨c0,c1,c2,c3⟩,hf⟩:=HS.out.cells
  by_cases he:e=0
  ·have q0:(e != 0)=false:=by simp[he]
   have hk:¬ ∃t q,r=t::q/\t.kind=n:=fun g=>hg ⟨he,g⟩
   clear hg he
   cases r with
   | nil =>
    have z1:decide (((C.l.length - ([]:List AB).length:Nat):Int) >= (C.l.length:Int))=true:=by simp
    clear hk hf
    go_quiet (fail)
    go_wp2_with (go_at_call 163;refine (Di 2 (HS.out.below (zC (Pd _ _) nq))).mono ?_;rintro x w2 ⟨rfl,h1,h2⟩;have H1:=zh h1;have F6:=zh (aI.out _ ((Ah.of (zC (Pd _ _) nq) (by have:=Dm.out;have:=HB0.out.size;omega)).trans h2));have H2:=zh ((HW.out.below (zC (Pd W1.heap.size W1) nq) Dm).trans h2);clear h1 h2;obtain ⟨⟨x0,x1,x2,x3,x4⟩,y0,y1,y2,y3,y4⟩:=Ao F6)
    have JQ:=zh (Wu F6 (.int .i64 0) (.string ⟨#[]⟩) (.int .i64 0) (.string ⟨#[]⟩) (.int .i64 0));have Ye:=zh (Gp.out w2 _ H1 H2 rfl);unfold q5 at JQ Ye;generalize World.setCell _ _ _=W3 at *;obtain ⟨⟨t0,t1,t2,t3,t4⟩,_⟩:=Ao JQ
    refine bodyPost_ret (v:=Dp.v) (by simp[results,Tryz.results132,go_sem,t0,t1,t2,t3,t4,AB.v,Dp]) rfl Ye
   | cons t q =>
    obtain ⟨i,hi,c2',f2,hgi,HN⟩:=HS.out.Pb;obtain ⟨bb,o,hA,hso,t0,t1,t2,t3,t4⟩:=HS.out.RU hgi;have hi2:=(AAZ.1 hgi).1;rw[hA] at c1;have z1:decide ((i:Int) >= (C.l.length:Int))=false:=by simp;omega
    have z2:(0:Int)<=(i:Int):=by omega
    have z3:(i:Int)<(C.l.length:Int):=by omega
    have z4:(t.kind != n)=true:=by simp only[bne_iff_ne,ne_eq];exact fun e=>hk ⟨t,q,rfl,e⟩
    clear hk hso hf c2 hgi hi f2
    go_quiet (fail)
    clear t0 t1 t2 t3 t4
    go_wp2_with (go_at_call 163;refine (Di 2 (HS.out.below (zC (Pd _ _) nq))).mono ?_;rintro x w2 ⟨rfl,h1,h2⟩;have H1:=zh h1;have F6:=zh (aI.out _ ((Ah.of (zC (Pd _ _) nq) (by have:=Dm.out;have:=HB0.out.size;omega)).trans h2));have H2:=zh ((HW.out.below (zC (Pd W1.heap.size W1) nq) Dm).trans h2);clear h1 h2;obtain ⟨⟨x0,x1,x2,x3,x4⟩,y0,y1,y2,y3,y4⟩:=Ao F6)
    have JQ:=zh (Wu F6 (.int .i64 0) (.string ⟨#[]⟩) (.int .i64 0) (.string ⟨#[]⟩) (.int .i64 0));have Ye:=zh (Gp.out w2 _ H1 H2 rfl);unfold q5 at JQ Ye;generalize World.setCell _ _ _=W3 at *;obtain ⟨⟨t0,t1,t2,t3,t4⟩,_⟩:=Ao JQ
    refine bodyPost_ret (v:=Dp.v) (by simp[results,Tryz.results132,go_sem,t0,t1,t2,t3,t4,AB.v,Dp]) rfl Ye
  ·have q0:(e != 0)=true:=by simp[he]
   clear hg he hf
   go_quiet (fail)
   go_wp2_with (go_at_call 163;refine (Di 2 (HS.out.below (zC (Pd _ _) nq))).mono ?_;rintro x w2 ⟨rfl,h1,h2⟩;have H1:=zh h1;have F6:=zh (aI.out _ ((Ah.of (zC (Pd _ _) nq) (by have:=Dm.out;have:=HB0.out.size;omega)).trans h2));have H2:=zh ((HW.out.below (zC (Pd W1.heap.size W1) nq) Dm).trans h2);clear h1 h2;obtain ⟨⟨x0,x1,x2,x3,x4⟩,y0,y1,y2,y3,y4⟩:=Ao F6)
   have JQ:=zh (Wu F6 (.int .i64 0) (.string ⟨#[]⟩) (.int .i64 0) (.string ⟨#[]⟩) (.int .i64 0));have Ye:=zh (Gp.out w2 _ H1 H2 rfl);unfold q5 at JQ Ye;generalize World.setCell _ _ _=W3 at *;obtain ⟨⟨t0,t1,t2,t3,t4⟩,_⟩:=Ao JQ
   refine bodyPost_ret (v:=Dp.v) (by simp[results,Tryz.results132,go_sem,t0,t1,t2,t3,t4,AB.v,Dp]) rfl Ye
def WdP (C:CZ) (a b:ByteArray) (w:World) (r:List AB) (e:Int) (y:Ending) (w':World):Prop :=
 ∃t0 r1 e1,y = .returned (.bool (decide (t0.text=a)))/\Ah C.b w w'/\XG 1 r e t0 r1 e1/\DW C w' r1 (if t0.text≠a/\t0.text≠b then JE e1 2 else e1)
theorem Ov (a b:ByteArray) (h:DW C w r e):
  Calls Tryz.prog 131 #[.pointer (some ⟨C.b,0,none⟩),.string a,.string b] w (WdP C a b w r e):=by
 have HS:=zh h;have fd1:=Lv;clear h
 go_enter Tryz.func131,Tryz.ntmps131
 go_wp2_with fail
 refine (Cz 1 HS).mono ?_;rintro y w3 ⟨t0,r1,e1,rfl,g1,g2,g3⟩;have HW:=zh g1;have HR:=zh g2;have HQ:=zh g3;clear g1 g2 g3;have HA:=bytes_beq t0.text a;have HB:=bytes_beq t0.text b
 by_cases ha:t0.text=a
 ·have q1:(t0.text.toList==a.toList)=true:=by rw[HA,AAM ha]
  have q2:(t0.text.toList != a.toList)=false:=by rw[bne,q1];rfl
  have HE:Hid (decide (t0.text=a)=true):=AAM ha;have HC:Hid ((if t0.text≠a/\t0.text≠b then JE e1 2 else e1)=e1):=Pe fun g=>g.1 ha
  clear HA HB ha;go_wp2;go_ret;refine ⟨t0,r1,e1,by rw[HE.out];rfl,HW.out,HQ.out,?_⟩
  rw[HC.out];exact HR.out
 ·have q1:(t0.text.toList==a.toList)=false:=by rw[HA,AAE ha]
  have q2:(t0.text.toList != a.toList)=true:=by rw[bne,q1];rfl
  have HE:Hid (decide (t0.text=a)=false):=AAE ha
  by_cases hb:t0.text=b
  ·have q3:(t0.text.toList==b.toList)=true:=by rw[HB,AAM hb]
   have q4:(t0.text.toList != b.toList)=false:=by rw[bne,q3];rfl
   have HC:Hid ((if t0.text≠a/\t0.text≠b then JE e1 2 else e1)=e1):=Pe fun g=>g.2 hb
   clear HA HB ha hb;go_wp2;go_ret;refine ⟨t0,r1,e1,by rw[HE.out];rfl,HW.out,HQ.out,?_⟩
   rw[HC.out];exact HR.out
  ·have q3:(t0.text.toList==b.toList)=false:=by rw[HB,AAE hb]
   have q4:(t0.text.toList != b.toList)=true:=by rw[bne,q3];rfl
   have HC:Hid ((if t0.text≠a/\t0.text≠b then JE e1 2 else e1)=JE e1 2):=AAC ⟨ha,hb⟩
   clear HA HB ha hb;go_wp2_with (go_at_call 163;refine (Di 2 HR).mono ?_;rintro x w4 ⟨rfl,h1,h2⟩;have H1:=zh h1;have H2:=zh (HW.out.trans h2);clear h1 h2);go_ret;refine ⟨t0,r1,e1,by rw[HE.out];rfl,H2.out,HQ.out,?_⟩
   rw[HC.out];exact H1.out
def IdP (C:CZ) (w:World) (r:List AB) (e:Int) (y:Ending) (w':World):Prop :=
 ∃t0 r1 e1,y = .returned (.int .i64 (GH true t0.int))/\Ah C.b w w'/\DW C w' r1 e1/\XG 2 r e t0 r1 e1
theorem Ow (h:DW C w r e):
  Calls Tryz.prog 165 #[.pointer (some ⟨C.b,0,none⟩)] w (IdP C w r e):=by
 have HS:=zh h;have sP:=FM;clear h
 go_enter Tryz.func165,Tryz.ntmps165
 go_wp2_with fail
 refine (Cz 2 HS).mono ?_;rintro y w3 ⟨t0,r1,e1,rfl,g1,g2,g3⟩;have HW:=zh g1;have HR:=zh g2;have HQ:=zh g3;clear g1 g2 g3
 by_cases h0:t0.int<0
 ·have q1:decide (t0.int<0)=true:=AAM h0
  have HE:Hid (GH true t0.int=0):=AAC ⟨rfl,.inl h0⟩;clear h0;go_wp2;go_ret;exact ⟨t0,r1,e1,by rw[HE.out];rfl,HW.out,HR.out,HQ.out⟩
 ·have q1:decide (t0.int<0)=false:=AAE h0
  by_cases h1:1000000<t0.int
  ·have q2:decide (t0.int > 1000000)=true:=AAM h1
   have HE:Hid (GH true t0.int=0):=AAC ⟨rfl,.inr h1⟩;clear h0 h1;go_wp2;go_ret;exact ⟨t0,r1,e1,by rw[HE.out];rfl,HW.out,HR.out,HQ.out⟩
  ·have q2:decide (t0.int > 1000000)=false:=AAE h1
   have HE:Hid (GH true t0.int=t0.int):=Pe fun g=>g.2.elim h0 h1
   clear h0 h1;go_wp2;go_ret;exact ⟨t0,r1,e1,by rw[HE.out];rfl,HW.out,HR.out,HQ.out⟩
def QP (C:CZ) (W:World) (r:List AB) (P:PR Val) (y:Ending) (W':World):Prop:=∃x:BX,y = .returned (x.v.v x.A1 x.c1 x.A2 x.c2 x.A3 x.c3)/\Off (fun q=>q<W.heap.size) W' (fun u=>BO u x.v x.A1 x.A2 x.A3)/\Ah C.b W W' /\
 ∃r' e',DW C W' r' e'/\r'.length<=r.length/\match P with
  | .ok (v,r1,_)=>x.v=v/\r'=r1/\e'=0
  | .error e1=>e'=e1
def Nh (C:CZ) (n:Nat):Prop:=∀ (t:Int) (W:World) (r:List AB),r.length<n->(0<=t/\t<(C.s.length:Int))->DW C W r 0 ->
 Calls Tryz.prog 81 #[.pointer (some ⟨C.b,0,none⟩),.int .i64 t] W (QP C W r (AP true C.s t r false))
structure DX (C:CZ) (W0:World) (px p q:Nat) (x:AZ) (As:zo) (cs:Nat) (Am:zo) (cm:Nat) (W:World) (r:List AB) (e di:Int) (vk vi vr:Value) (K I:List BX) (R:List Ac):Prop where
 rd:DW C W r e
 vb:Gf p W x.kind false 0 ⟨#[]⟩ di vk vi vr K I R
 fr:Ah C.b W0 W
 lo:W0.heap.size<=px/\px<p/\q=p+1
 lb:C.b<W0.heap.size
 ty:Ic C.w0 x As Am
 bx:W.heap[px]? = some (x.box As cs Am cm)
 bq:W.heap[q]? = some zO
 ow:vk.ownBlock≠some q/\vi.ownBlock≠some q
 oq:∀y∈K++I,Off (RB q vk vi vr) W fun u=>BO u y.v y.A1 y.A2 y.A3
section
variable {C:CZ} {W0 W W':World} {px p q:Nat} {x:AZ} {As:zo} {cs:Nat} {Am:zo} {cm:Nat} {r r':List AB} {e e' di:Int} {vk vi vr:Value} {K I:List BX} {R:List Ac}
theorem DX.bp (h:DX C W0 px p q x As cs Am cm W r e di vk vi vr K I R):C.b<px/\C.b<p/\C.b<q:=by have:=h.lo;have:=h.lb;omega
theorem DX.BF (h:DX C W0 px p q x As cs Am cm W r e di vk vi vr K I R) (hb:Ah C.b W W') (hr:DW C W' r' e'):DX C W0 px p q x As cs Am cm W' r' e' di vk vi vr K I R:=by
 obtain ⟨b1,b2,b3⟩:=h.bp;exact ⟨hr,h.vb.BF hb b2,h.fr.trans hb,h.lo,h.lb,h.ty,Ai h.bx hb (by omega),Ai h.bq hb (by omega),h.ow,fun y hy=>hb.off (.inl (AAT b3)) (h.oq y hy)⟩
theorem DX.below (h:DX C W0 px p q x As cs Am cm W r e di vk vi vr K I R) (hb:Below W.heap.size W W'):DX C W0 px p q x As cs Am cm W' r e di vk vi vr K I R:=h.BF (h.rd.BF hb) (h.rd.below hb)
theorem DX.Rb (h:DX C W0 px p q x As cs Am cm W r e di vk vi vr K I R) (d:Int):DX C W0 px p q x As cs Am cm (W.setCell ⟨p,4,none⟩ (.int .i64 d)) r e d vk vi vr K I R:=by
 obtain ⟨b1,b2,b3⟩:=h.bp;have h1:=h.lo;have h2:=h.rd.ok.ge;have h3:=h.lb;exact ⟨h.rd.Ef (by omega) (by omega) 4 _,h.vb.Tk (j:=4) rfl h.vb.str,⟨h.fr.Ch.setCell (p:=⟨p,4,none⟩) (by show C.b<=p;omega) _,fun s hs hl=>(AAO _ _ _ _ (by simp only;omega)).trans (h.fr.Ef s hs hl)⟩,h.lo,h.lb,h.ty,
  (AAO _ _ _ _ (by simp only;omega)).trans h.bx,(AAO _ _ _ _ (by simp only;omega)).trans h.bq,h.ow,fun y hy=>(h.oq y hy).set _ (.inl (by simp only;omega))⟩
theorem DW.bS {w:World} (h:DW C w r e) {B:Nat} (hB:B≠C.b) (hz:C.w0.heap.size<=B) (v0 v1 v2 v3 v4 v5 v6 v7:Value):DW C (q8 w B v0 v1 v2 v3 v4 v5 v6 v7) r e :=
 (((h.mY hB hz v0 v1 v2 v3 v4).Ef hB hz 5 v5).Ef hB hz 6 v6).Ef hB hz 7 v7
theorem DX.new (h:DW C W r e) (ht:Ic C.w0 x As Am):DX C W W.heap.size (W.heap.size+1) (W.heap.size+2) x As cs Am cm (((W.alloc (x.box As cs Am cm)).alloc (NH x.kind false 0 ⟨#[]⟩ 0 AJ AJ AJ)).alloc zO) r e 0 AJ AJ AJ [] [] []:=by
 have s1:(W.alloc (x.box As cs Am cm)).heap.size=W.heap.size+1:=by simp
 have s2:((W.alloc (x.box As cs Am cm)).alloc (NH x.kind false 0 ⟨#[]⟩ 0 AJ AJ AJ)).heap.size=W.heap.size+2:=by simp
 have b1:=zD W (x.box As cs Am cm);have b2:=zD (W.alloc (x.box As cs Am cm)) (NH x.kind false 0 ⟨#[]⟩ 0 AJ AJ AJ);have b3:=zD ((W.alloc (x.box As cs Am cm)).alloc (NH x.kind false 0 ⟨#[]⟩ 0 AJ AJ AJ)) zO;have r1:=h.below b1;have r2:=r1.below b2;have r3:=r2.below b3
 refine ⟨r3,?_,((h.BF b1).trans (r1.BF b2)).trans (r2.BF b3),⟨AAQ _,by omega,by omega⟩,h.lt,ht,CW (CW (AAA _ _) b2) b3,?_,⟨(fun e=>by cases e),fun e=>by cases e⟩,fun y hy=>by cases hy⟩
 ·have hv:=Gf.new (W.alloc (x.box As cs Am cm)) x.kind
  rw[s1] at hv;exact hv.below b3
 ·have hq:=AAA ((W.alloc (x.box As cs Am cm)).alloc (NH x.kind false 0 ⟨#[]⟩ 0 AJ AJ AJ)) zO
  rw[s2] at hq;exact hq
theorem DX.own (h:DX C W0 px p q x As cs Am cm W r e di vk vi vr K I R):(∀s,vk.ownBlock=some s->q<s/\s<W.heap.size)/\(∀s,vi.ownBlock=some s->q<s/\s<W.heap.size)/\(∀s,vr.ownBlock=some s->q<s/\s<W.heap.size):=by
 obtain ⟨l1,l2,l3⟩:=Jo h.vb;have hlo:=h.lo;refine ⟨fun s hs=>?_,fun s hs=>?_,fun s hs=>?_⟩
 ·have h1:=l1 s hs
  have h2:s≠q:=fun e=>h.ow.1 (e▸hs)
  omega
 ·have h1:=l2 s hs
  have h2:s≠q:=fun e=>h.ow.2 (e▸hs)
  omega
 ·have h1:=l3 s hs
  have h2:s≠q:=fun e=>KG h.vb.Pp h.bq (by decide) (e▸hs)
  omega
variable {P:World->Prop}
theorem DX.hot (h:DX C W0 px p q x As cs Am cm W r e di vk vi vr K I R) (hx:Off (fun s=>s<W.heap.size) W' P):Off (RB q vk vi vr) W' P:=by
 obtain ⟨l1,l2,l3⟩:=h.own;have hq:=(zg.1 h.bq).1;refine hx.mono fun s _ hs=>?_
 rcases hs with e|e|e|e
 ·omega
 ·exact (l1 s e).2
 ·exact (l2 s e).2
 ·exact (l3 s e).2
theorem DX.X9 (h:DX C W0 px p q x As cs Am cm W r e di vk vi vr K I R) (hx:Off (RB q vk vi vr) W' P):Off (RB p vk vi vr) W' P:=by
 have hlo:=h.lo;exact hx.mono fun s _ hs=>hs.imp (fun e=>by omega) id
theorem DX.rest (h:DX C W0 px p q x As cs Am cm W r e di vk vi vr K I R) {W9:World} {Xe Me aV:Value} {K' I':List BX} {R':List Ac} {row:Option Nat} (hv:Gf p W9 x.kind false 0 ⟨#[]⟩ di Xe Me aV K' I' R') (hb:Below p W W9) (hk:∀s,s≠p->row≠some s->s<W.heap.size->W9.heap[s]? = W.heap[s]?)
  (hr:row≠some q) (ho:Xe.ownBlock≠some q/\Me.ownBlock≠some q) (hq:∀y∈K'++I',Off (RB q Xe Me aV) W9 fun u=>BO u y.v y.A1 y.A2 y.A3):DX C W0 px p q x As cs Am cm W9 r e di Xe Me aV K' I' R':=by
 obtain ⟨b1,b2,b3⟩:=h.bp;have hlo:=h.lo;have hge:=h.rd.ok.ge;exact ⟨⟨h.rd.ok,(hb.block _ b2).trans h.rd.blk,h.rd.LH,h.rd.up.trans (hb.mono (by omega))⟩,hv,h.fr.up hb (by omega) (by omega),h.lo,h.lb,h.ty,(hb.block _ (by omega)).trans h.bx,(hk q (by omega) hr (zg.1 h.bq).1).trans h.bq,ho,hq⟩
theorem R5 {S S':Nat->Prop} {w4 w8:World} {j:Nat} {v8:Value} {row:Option Nat} (hy:Off S w4 P) (hS:∀s,s<w4.heap.size->S' s->S s) (hrow:∀s,row=some s->S s) (hp:S p) (hg:w4.grownBy w8 row):Off S' (w8.setCell ⟨p,j,none⟩ v8) P:=by
 have hz:=hg.size;refine hy.grow hS (fun s hs hn=>?_) (by simp;omega)
 exact (AAO _ _ _ _ (by show s≠p;exact fun e=>hn (e▸hp))).trans (yA hg hs fun k hk e=>hn (e▸hrow k hk))
section
variable {xa:BX} {w4 w8:World} {v8:Value}
theorem DX.item (h:DX C W0 px p q x As cs Am cm W r e di vk vi vr K I R) (hx:Off (RB q vk vi vr) W fun u=>BO u xa.v xa.A1 xa.A2 xa.A3) (hb4:Below W.heap.size W w4) (ho:w8.ownsRow (p+1) 28 8 v8 (I.length+1) (I.flatMap BX.cells++xa.cells)) (hg:w4.grownBy w8 vi.ownBlock) (hv:v8.ownBlock=vi.ownBlock\/v8.ownBlock=some w4.heap.size) :
  DX C W0 px p q x As cs Am cm (w8.setCell ⟨p,6,none⟩ v8) r e di vk v8 vr K (I++[xa]) R:=by
 have hlo:=h.lo;have hz:=hb4.size;have hq:=(zg.1 h.bq).1;obtain ⟨h1,h2,h3⟩:=h.vb.item (h.X9 hx) hb4 ho hg hv;refine h.rest (row:=vi.ownBlock) h1 h2 h3 h.ow.2 ⟨h.ow.1,fun e=>?_⟩ fun y hy=>?_
 ·rcases hv with e2|e2
  ·exact h.ow.2 (e2▸e)
  ·rw[e2] at e;have:=AAb e;omega
 ·have hy':Off (RB q vk vi vr) w4 fun u=>BO u y.v y.A1 y.A2 y.A3:=by
   rw[<-AAx] at hy
   rcases AAl.1 hy with k|k
   ·exact (h.oq y k).low hb4
   ·obtain rfl:y=xa:=by simpa using k
    exact hx.low hb4
  refine R5 hy' (fun s hs hn=>?_) (fun s hs => .inr (.inr (.inl hs))) (.inl (by omega)) hg
  rcases hn with e|e|e|e
  ·exact .inl e
  ·exact .inr (.inl e)
  ·rcases hv with e2|e2
   ·exact .inr (.inr (.inl (e2▸e)))
   ·rw[e2] at e;have:=AAb e;omega
  ·exact .inr (.inr (.inr e))
theorem DX.key (h:DX C W0 px p q x As cs Am cm W r e di vk vi vr K I R) (hx:Off (RB q vk vi vr) W fun u=>BO u xa.v xa.A1 xa.A2 xa.A3) (hb4:Below W.heap.size W w4) (ho:w8.ownsRow (p+1) 28 8 v8 (K.length+1) (K.flatMap BX.cells++xa.cells)) (hg:w4.grownBy w8 vk.ownBlock) (hv:v8.ownBlock=vk.ownBlock\/v8.ownBlock=some w4.heap.size) :
  DX C W0 px p q x As cs Am cm (w8.setCell ⟨p,5,none⟩ v8) r e di v8 vi vr (K++[xa]) I R:=by
 have hlo:=h.lo;have hz:=hb4.size;have hq:=(zg.1 h.bq).1;obtain ⟨h1,h2,h3⟩:=h.vb.key (h.X9 hx) hb4 ho hg hv;refine h.rest (row:=vk.ownBlock) h1 h2 h3 h.ow.1 ⟨fun e=>?_,h.ow.2⟩ fun y hy=>?_
 ·rcases hv with e2|e2
  ·exact h.ow.1 (e2▸e)
  ·rw[e2] at e;have:=AAb e;omega
 ·have hy':Off (RB q vk vi vr) w4 fun u=>BO u y.v y.A1 y.A2 y.A3:=by
   rcases AAl.1 hy with k|k
   ·rcases AAl.1 k with k|k
    ·exact (h.oq y (AAn _ k)).low hb4
    ·obtain rfl:y=xa:=by simpa using k
     exact hx.low hb4
   ·exact (h.oq y (ABC _ k)).low hb4
  refine R5 hy' (fun s hs hn=>?_) (fun s hs => .inr (.inl hs)) (.inl (by omega)) hg
  rcases hn with e|e|e|e
  ·exact .inl e
  ·rcases hv with e2|e2
   ·exact .inr (.inl (e2▸e))
   ·rw[e2] at e;have:=AAb e;omega
  ·exact .inr (.inr (.inl e))
  ·exact .inr (.inr (.inr e))
theorem DX.UA (h:DX C W0 px p q x As cs Am cm W r e di vk vi vr K I R) {xr:Ac} (hx:Dc xr.data) (hb4:Below W.heap.size W w4) (ho:w8.ownsRow (p+1) 97 2 v8 (R.length+1) (R.flatMap encR++encR xr)) (hg:w4.grownBy w8 vr.ownBlock) (hv:v8.ownBlock=vr.ownBlock\/v8.ownBlock=some w4.heap.size) :
  DX C W0 px p q x As cs Am cm (w8.setCell ⟨p,7,none⟩ v8) r e di vk vi v8 K I (R++[xr]):=by
 have hlo:=h.lo;have hz:=hb4.size;have hq:=(zg.1 h.bq).1;obtain ⟨h1,h2,h3⟩:=h.vb.UA hx hb4 ho hg hv;refine h.rest (row:=vr.ownBlock) h1 h2 h3 (KG h.vb.Pp h.bq (by decide)) h.ow fun y hy=>?_
 refine R5 ((h.oq y hy).low hb4) (fun s hs hn=>?_) (fun s hs => .inr (.inr (.inr hs))) (.inl (by omega)) hg
 rcases hn with e|e|e|e
 ·exact .inl e
 ·exact .inr (.inl e)
 ·exact .inr (.inr (.inl e))
 ·rcases hv with e2|e2
  ·exact .inr (.inr (.inr (e2▸e)))
  ·rw[e2] at e;have:=AAb e;omega
end
theorem DX.one {W6:World} {xa:BX} (h:DX C W0 px p q x As cs Am cm W6 r e di AJ AJ AJ [] [] []) (hx:Off (RB q AJ AJ AJ) W6 fun u=>BO u xa.v xa.A1 xa.A2 xa.A3) :
  DX C W0 px p q x As cs Am cm ((W6.alloc (.cells xa.cells.toArray 28)).setCell ⟨p,6,none⟩ (.slice (some ⟨W6.heap.size,0,none⟩) 1 1)) r e di AJ (.slice (some ⟨W6.heap.size,0,none⟩) 1 1) AJ [] [xa] [] :=
 h.item (w8:=W6.alloc (.cells xa.cells.toArray 28)) hx (Pd _ _) (World.ownsRow_lit (base:=p+1) (e:=28) (size:=8) W6 xa.cells.toArray 1 h.vb.lt (by unfold maxLen;omega) rfl) (World.grownBy_alloc W6 _ none) (.inr rfl)
theorem DX.pG (h:DX C W0 px p q x As cs Am cm W r e di AJ AJ AJ [] [] []) {xr:Ac} (hx:Dc xr.data) :
  DX C W0 px p q x As cs Am cm ((W.alloc (Tn xr)).setCell ⟨p,7,none⟩ (.slice (some ⟨W.heap.size,0,none⟩) 1 1)) r e di AJ AJ (.slice (some ⟨W.heap.size,0,none⟩) 1 1) [] [] [xr] :=
 h.UA (w8:=W.alloc (Tn xr)) hx (Pd _ _) (World.ownsRow_lit (base:=p+1) (e:=97) (size:=2) W (encR xr).toArray 1 h.vb.lt (by unfold maxLen;omega) rfl) (World.grownBy_alloc W _ none) (.inr rfl)
theorem DX.fin (h:DX C W0 px p q x As cs Am cm W r e di vk vi vr K I R) (hK:D9 120 K.length) (hI:D9 120 I.length) (hR:D9 24 R.length):∃A1 c1 A2 c2 A3 c3,vk = .slice A1 K.length c1/\vi = .slice A2 I.length c2/\vr = .slice A3 R.length c3 /\
  Off (fun s=>s<=q) W fun u=>BO u (.mk x.kind false 0 ⟨#[]⟩ di (K.map (·.v)) (I.map (·.v)) R) A1 A2 A3:=by
 obtain ⟨l1,l2,l3⟩:=h.own;obtain ⟨A1,c1,rfl,_⟩:=h.vb.ok.reads;obtain ⟨A2,c2,rfl,_⟩:=h.vb.oi.reads;obtain ⟨A3,c3,rfl,_⟩:=h.vb.Pp.reads;refine ⟨A1,c1,A2,c2,A3,c3,rfl,rfl,rfl,fun u hu=>?_⟩
 have hk:∀s,q<s->s<W.heap.size->u.heap[s]? = W.heap[s]? := fun s hq hl=>hu s (by omega) hl
 have hv:∀y∈K++I,BO u y.v y.A1 y.A2 y.A3:=fun y hy=>h.oq y hy u fun s hq hl=>hu s (fun e=>hq (.inl e)) hl
 obtain ⟨B1,d1,e1,g1⟩:=(h.vb.ok.keep fun g _ hl hg=>hk g (l1 g hg).1 hl).rows (bytes:=120) (at_:=fun x cs=>Val.At u x.v cs) (fun _=>rfl) hK fun y hy=>Val.Fh.2 ⟨_,_,_,_,_,_,rfl,hv y (AAn _ hy)⟩
 obtain ⟨B2,d2,e2,g2⟩:=(h.vb.oi.keep fun g _ hl hg=>hk g (l2 g hg).1 hl).rows (bytes:=120) (at_:=fun x cs=>Val.At u x.v cs) (fun _=>rfl) hI fun y hy=>Val.Fh.2 ⟨_,_,_,_,_,_,rfl,hv y (ABC _ hy)⟩
 obtain ⟨B3,d3,e3,g3⟩:=(h.vb.Pp.keep fun g _ hl hg=>hk g (l3 g hg).1 hl).rows (bytes:=24) (at_:=Ac.At) (fun _=>rfl) hR fun y hy=>⟨h.vb.raw y hy,rfl⟩
 injection e1 with e1 _ _
 injection e2 with e2 _ _
 injection e3 with e3 _ _
 subst e1 e2 e3;exact ⟨h.vb.str,LY g1,LY g2,g3⟩
theorem FI (h:DX C W0 px p q x As cs Am cm W r' e' di vk vi vr K I R) (hl:r'.length<=r.length) (hz:K.length<=2000000/\I.length<=2000000/\R.length<=2000000) {P:PR Val} (hP:match P with
  | .ok (v,r1,_) => .mk x.kind false 0 ⟨#[]⟩ di (K.map (·.v)) (I.map (·.v)) R=v/\r'=r1/\e'=0
  | .error e1=>e'=e1) :
  QP C W0 r P (.returned (.agg #[.int .i64 x.kind,.bool false,.int .i64 0,.string ⟨#[]⟩,.int .i64 di,vk,vi,vr])) (q8 W q (.int .i64 x.kind) (.bool false) (.int .i64 0) (.string ⟨#[]⟩) (.int .i64 di) vk vi vr):=by
 obtain ⟨A1,c1,A2,c2,A3,c3,rfl,rfl,rfl,ho⟩:=h.fin (by unfold D9;omega) (by unfold D9;omega) (by unfold D9;omega)
 obtain ⟨b1,b2,b3⟩:=h.bp;have hlo:=h.lo;have hge:=h.rd.ok.ge;refine ⟨⟨.mk x.kind false 0 ⟨#[]⟩ di (K.map (·.v)) (I.map (·.v)) R,A1,c1,A2,c2,A3,c3⟩,?_,?_,?_,r',e',h.rd.bS (by omega) (by omega) _ _ _ _ _ _ _ _,hl,hP⟩
 ·show Ending.returned (.agg #[.int .i64 x.kind,.bool false,.int .i64 0,.string ⟨#[]⟩,.int .i64 di,.slice A1 K.length c1,.slice A2 I.length c2,.slice A3 R.length c3]) = .returned (.agg #[.int .i64 x.kind,.bool false,.int .i64 0,.string ⟨#[]⟩,.int .i64 di,.slice A1 (K.map (·.v)).length c1,.slice A2 (I.map (·.v)).length c2,.slice A3 R.length c3])
  rw[AAk,AAk]
 ·exact (FJ ho (B:=q) (AAQ _) _ _ _ _ _ _ _ _).mono fun s _ hs=>by omega
 ·exact h.fr.eight _ _ _ _ _ _ _ _ (by omega) h.lb
end
end Go.Proofs.YthkkllmmbefedaaGreatDoor



