/-
  Walks: sheaveref08.Paths.
-/
import Derived.Test.YthkkllmmbefedaaGreatDoorQGP0
import Derived.Test.YthkkllmmbefedaaGreatDoorQGM0
import Derived.Test.YthkkllmmbefedaaGreatDoorQGA8
import Derived.Test.YthkkllmmbefedaaGreatDoorQGA7
import Derived.Deep.CutBlock
namespace Go.Proofs.YthkkllmmbefedaaGreatDoor
open Go.RowKit
set_option maxHeartbeats 16000000
set_option maxRecDepth 100000
def mW (P:List (List Int)) (w:World) (e:Ending) (w':World):Prop:=∃ (L:List M6) (A:zo) (c:Nat),e = .returned (.slice A L.length c)/\L.map (·.p)=P/\Off (fun q=>q<w.heap.size) w' (fun u=>RZ u A L)/\Below w.heap.size w w'
def pu (s:List Ae) (n:Nat):Prop:=∀ (t:Int) (v:Val),SizeOf.sizeOf v<=n->kV v<=100000->BH s false t v=true->∀ (A:zo) (c:Nat) (A1:zo) (c1:Nat) (A2:zo) (c2:Nat) (A3:zo) (c3:Nat) (w:World),CQ w A s->Az w v A1 A2 A3 ->
 Calls Tryz.prog 30 #[.agg #[.slice A s.length c],.int .i64 t,v.v A1 c1 A2 c2 A3 c3] w (mW (FC s n t v) w)
theorem kC {v y:Val} (h:y∈v.items):kV y<=kV v:=by
 have:=bQ v;obtain ⟨i,hi,rfl⟩:=AAw h;have h1:=RD v.items (i+1);rw[ABC hi,RF,kL,kL] at h1
 omega
structure M5 (w:World) (s:List Ae) (A:zo) (c:Nat) (v:Val) (A1:zo) (c1:Nat) (A2:zo) (c2:Nat) (A3:zo) (c3:Nat) (y:Ae) (As:zo) (cs:Nat) (Am:zo) (cm:Nat) (qt:Nat) (v7:Value) (L:List M6) (wr:World):Prop where
 sb:wr.heap[w.heap.size]? = some (.cells #[.slice A s.length c] 31)
 vb:wr.heap[w.heap.size+1]? = some (v.box A1 c1 A2 c2 A3 c3)
 tb:BX wr qt y As cs Am cm
 ne:v7.ownBlock≠some qt
 Bb:Below w.heap.size w wr
 own:II (w.heap.size+2) wr v7 L
def fZ (W w8 wr:World) (v7:Value):Prop:=(∀q,W.heap.size<=q->q<w8.heap.size->wr.heap[q]? = w8.heap[q]?)/\(∀k,v7.ownBlock=some k->k<W.heap.size\/w8.heap.size<=k)/\w8.heap.size<=wr.heap.size
theorem fZ.below {W w8 wr w':World} {v7:Value} (h:fZ W w8 wr v7) (hb:Below wr.heap.size wr w'):fZ W w8 w' v7 :=
 ⟨fun q h1 h2=>(hb.block q (AAq h2 h.2.2)).trans (h.1 q h1 h2),h.2.1,Nat.le_trans h.2.2 hb.size⟩
theorem fZ.snoc {W w8 wr w':World} {v7 v':Value} (h:fZ W w8 wr v7) (hg:wr.grownBy w' v7.ownBlock) (hv:v'.ownBlock=v7.ownBlock\/v'.ownBlock=some wr.heap.size):fZ W w8 w' v':=by
 refine ⟨fun q h1 h2=>(yA hg (AAq h2 h.2.2) fun k hk e=>?_).trans (h.1 q h1 h2),fun k hk=>?_,Nat.le_trans h.2.2 hg.size⟩
 ·have:=h.2.1 k hk
  omega
 ·rcases hv with e|e
  ·exact h.2.1 k (e▸hk)
  ·rw[e] at hk
   have:=AAm hk;have:=h.2.2
   omega
section
variable {w:World} {s:List Ae} {A:zo} {c:Nat} {v:Val} {A1:zo} {c1:Nat} {A2:zo} {c2:Nat} {A3:zo} {c3:Nat} {y:Ae} {As:zo} {cs:Nat} {Am:zo} {cm:Nat} {qt:Nat} {v7 v':Value} {L:List M6} {wr w':World} {x:M6}
theorem M5.below (h:M5 w s A c v A1 c1 A2 c2 A3 c3 y As cs Am cm qt v7 L wr) (hb:Below wr.heap.size wr w'):M5 w s A c v A1 c1 A2 c2 A3 c3 y As cs Am cm qt v7 L w' :=
 ⟨zE h.sb hb,zE h.vb hb,zE h.tb hb,h.ne,zB h.Bb hb,h.own.below hb⟩
theorem M5.snoc (h:M5 w s A c v A1 c1 A2 c2 A3 c3 y As cs Am cm qt v7 L wr) (hx:Off (fun q=>q<w.heap.size+2\/v7.ownBlock=some q) wr fun u=>Bl u x.A x.p) (ho:w'.ownsRow (w.heap.size+2) 68 1 v' (L.length+1) (L.flatMap M6.cells++x.cells)) (hg:wr.grownBy w' v7.ownBlock) (hv:v'.ownBlock=v7.ownBlock\/v'.ownBlock=some wr.heap.size):M5 w s A c v A1 c1 A2 c2 A3 c3 y As cs Am cm qt v' (L++[x]) w':=by
 have hq:∀q o,wr.heap[q]? = some o->v7.ownBlock≠some q->w'.heap[q]? = some o:=fun q o h1 h2=>(yA hg (zg.1 h1).1 fun k hk e=>h2 (by rw[hk,e])).trans h1
 have ht:qt<wr.heap.size:=(zg.1 (show wr.heap[qt]? = some _ from h.tb)).1;refine ⟨hq _ _ h.sb fun e=>?_,hq _ _ h.vb fun e=>?_,hq _ _ h.tb h.ne,fun e=>?_,h.Bb.grown hg h.Bb.size fun k hk=>?_,h.own.snoc hx ho hg hv⟩
 ·have:=h.own.own.lt _ e;omega
 ·have:=h.own.own.lt _ e;omega
 ·rcases hv with e2|e2
  ·exact h.ne (e2▸e)
  ·rw[e2] at e
   have:=AAm e
   omega
 ·have:=h.own.own.lt _ hk;omega
theorem M5.yZ (h:M5 w s A c v A1 c1 A2 c2 A3 c3 y As cs Am cm qt v7 L wr) {A9:zo} {p:List Int} (hx:Off (fun q=>q<wr.heap.size) w' fun u=>Bl u A9 p) (o:Obj):Off (fun q=>q<w.heap.size+2\/v7.ownBlock=some q) (w'.alloc o) fun u=>Bl u A9 p:=by
 have h1:w.heap.size+1<wr.heap.size:=(zg.1 h.vb).1;refine (hx.low (zD w' o)).mono fun q _ hs=>?_
 show q<wr.heap.size
 rcases hs with hs|hs
 ·omega
 ·exact (World.ownsRow.lt h.own.own q hs).2
end
theorem YZ {w:World} {base:Nat} {v:Value} {n1:Int} {p:List Int} (h:w.ownsRow base 3 1 v (1+p.length) ([.int .i64 n1]++p.flatMap encI)) (hl:p.length<=100000):∃A c,v = .slice A (p.length+1) c/\Off (fun q=>q<base) w fun u=>Bl u A (n1::p):=by
 have ho:Jh w base v (n1::p):=by
  show w.ownsRow base 3 1 v (n1::p).length ((n1::p).flatMap encI)
  rw[AAS,Nat.add_comm];exact h
 have hlm:DU 8 (n1::p).length:=by unfold DU;rw[AAS];omega
 obtain ⟨A,c,rfl,_⟩:=Jh.ints ho hlm;exact ⟨A,c,rfl,Qx ho hlm⟩
theorem YX {w:World} {A:zo} {l:List Int} (h:Bl w A l):l.length≠0->∃b o,A=some ⟨b,o,none⟩/\w.rangeAt b o (l.flatMap encI):=fun hn=>by
 rw[List.flatMap_def];exact N9 h (fun e=>hn (by have:=congrArg List.length e;simpa using this))
theorem Yv (l:List Int):∀u∈l.flatMap encI,u.oneCell'=true:=fun u hu=>by
 obtain ⟨t,_,h⟩:=List.mem_flatMap.1 hu;rw[List.mem_singleton.1 h];rfl
theorem dG (l:List Int):(l.flatMap encI).length=l.length * 1:=by
 induction l with
 | nil=>rfl
 | cons a r ih=>rw[ABN,AAt,ih,AAS];show 1+_=_;omega
theorem U2 {s:List Ae} (hA:∀t,((AB s t).AA.map (·.id)).Pairwise (· < ·)) {n:Nat} (ih:pu s n):pu s (n+1):=by
 intro t v hn hk hf A c A1 c1 A2 c2 A3 c3 w hs hr
 obtain ⟨i0,i1,hkd⟩:=Kz hf;clear hkd;obtain ⟨m,rfl⟩:=AAT i0;have hm:m<s.length:=by omega
 have M7:Hid (AB s (m:Int)=s[m]):=zT hm;have HLEN:Hid (∀i,i<=v.items.length->(IK s n (m:Int) v i).length<=100000):=fun i hi=>by
  have h1:=(U3 hA (Kn hA n) hf hn i hi).2.2.1;have h2:=bQ v;have h3:=RD v.items i
  omega
 have fG:Hid (∀i (hi:i<v.items.length),BH s false (Bz (AB s (m:Int)) v i).2 v.items[i]=true/\SizeOf.sizeOf v.items[i]<=n/\kV v.items[i]<=100000/\∀p∈FC s n (Bz (AB s (m:Int)) v i).2 v.items[i],p.length<=100000):=fun i hi=>by
  have h0:=(Wh (hA _) hf hi).2;have h1:=J4 (AAK hi);have h2:=kC (AAK hi);refine ⟨h0,by omega,by omega,fun p hp=>?_⟩
  have h3:=(Kn hA n _ _ h0 (by omega)).each p hp
  omega
 have HUK:Hid ((AB s (m:Int)).kind=6->0<v.items.length->∃k:Nat,BD (fun m:AZ=>decide (m.id=v.id)) (AB s (m:Int)).AA=(k:Int)/\k<(AB s (m:Int)).AA.length):=fun h6 h0=>(LW hf h6 h0).2
 have HRC:Hid ((AB s (m:Int)).kind=5->v.items.length=(AB s (m:Int)).AA.length):=fun h5=>(F7 hf h5 0 []).1
 have HOS:Hid (∀i (hi:i<v.items.length),IK s n (m:Int) v (i+1)=IK s n (m:Int) v i++(FC s n (Bz (AB s (m:Int)) v i).2 v.items[i]).map fun p=>(Bz (AB s (m:Int)) v i).1::p):=fun i hi=>by
  rw[Py,getD_at hi]
 have O4:Hid (FC s (n+1) (m:Int) v=IK s n (m:Int) v v.items.length):=Po s n (m:Int) v;have E5:=zh ih;have HS:=zh hs;have HR:=zh hr;have lm:Hid (v.items.length<=140737488355328):=by have:=hr.items.1;unfold DU at this;show _<=_;omega
 obtain ⟨bq,oq,As,cs,Am,cm,Ym,htr,t0,t1,t2,t3,t4,t5,t6,t7,t8,t9⟩:=hs.FQ hm;subst Ym;rw[M7.out] at fG HUK HRC HOS;have Dv:=zh htr;have h1:(0:Int)<=(m:Int):=by omega
 have h2:(m:Int)<(s.length:Int):=by omega
 generalize s[m]=y at *;have HX0:=zh (EO w (.cells #[.slice (some ⟨bq,oq,none⟩) s.length c] 31) (v.box A1 c1 A2 c2 A3 c3));have HB0:=zh (zI w (.cells #[.slice (some ⟨bq,oq,none⟩) s.length c] 31) (v.box A1 c1 A2 c2 A3 c3));clear ih hs hr hf hn hk htr i0 i1 M7
 go_enter Tryz.func30,Tryz.ntmps30
 go_upto_region 1 with fail
 generalize (w.alloc (.cells #[.slice (some ⟨bq,oq,none⟩) s.length c] 31)).alloc (v.box A1 c1 A2 c2 A3 c3)=W1 at *;go_upto_region 2 with fail
 have HB1:=zh (zD W1 (.cells #[.slice none 0 0] 68));have Og:=zh (II.first (base:=w.heap.size+2) W1 (by have:=HX0.out.2.2;omega))
 have HZ1:Hid ((W1.alloc (.cells #[.slice none 0 0] 68)).heap.size=W1.heap.size+1):=by show _=_;simp
 generalize W1.alloc (.cells #[.slice none 0 0] 68)=W2 at *;have GX:=zh (zB HB0 HB1);replace t0:=zA GX t0;replace t1:=zA GX t1;replace t2:=zA GX t2;replace t3:=zA GX t3;replace t4:=zA GX t4;replace t5:=zA GX t5;replace t6:=zA GX t6;replace t7:=zA GX t7;replace t8:=zA GX t8;replace t9:=zA GX t9;have x0:=zb (zE HX0.out.1 HB1)
 have HB2:=zh (zD W2 (y.box As cs Am cm));have HST:Hid (M5 w s (some ⟨bq,oq,none⟩) c v A1 c1 A2 c2 A3 c3 y As cs Am cm W2.heap.size (.slice (some ⟨W1.heap.size,0,none⟩) 1 1) [⟨[],none,0⟩] (W2.alloc (y.box As cs Am cm))) :=
  ⟨zE (zE HX0.out.1 HB1) HB2,zE (zE HX0.out.2.1 HB1) HB2,AAC W2 _,fun e=>by have h3:=AAm e;have h4:=HZ1.out;simp only at h3;omega,zB GX HB2,Og.out.below HB2⟩
 go_upto_region 3 with fail
 clear t0 t1 t2 t3 t4 t5 t6 t7 t8 t9 x0 Og HB1 HB0 HX0 GX HZ1 h1 h2;generalize W2.alloc (y.box As cs Am cm)=W3 at *;generalize W2.heap.size=qt at *;generalize (Value.slice (some ⟨W1.heap.size,0,none⟩) 1 1)=vS at *;go_wp2
 go_loopw [7,9] (fun o i wr=>∃ (j:Nat) (v7:Value) (L:List M6),j<=v.items.length/\v7=o/\i = .int .i64 (j:Int)/\Hid (M5 w s (some ⟨bq,oq,none⟩) c v A1 c1 A2 c2 A3 c3 y As cs Am cm qt v7 L wr/\L.map (·.p)=IK s n (m:Int) v j)) (fun _ i _=>v.items.length - (intOf i).toNat)
 case atStart=>exact ⟨0,_,_,by omega,rfl,rfl,HST.out,rfl⟩
 case round =>
  obtain ⟨i,v7,L,hin,rfl,rfl,hh⟩:=hrel;obtain ⟨wo,rfl⟩:∃wo:World,wo=wr:=⟨_,rfl⟩;have HA:=zh hh.out.1;have HL:=zh hh.out.2;clear hh HST;have hil:=lm.out;have z6:wo.cell? ⟨w.heap.size+1,6,none⟩=some (.slice A2 v.items.length c2):=by rw[AAE _ _ _ _ _ _ HA.out.vb];rfl
  by_cases hlt:i<v.items.length
  ·obtain ⟨b0,b1,b2,b3,b4,b5,b6,b7,b8,b9⟩:=zG HA.out.tb
   have h1:(0:Int)<=(i:Int):=by omega
   have h2:(i:Int)<(v.items.length:Int):=by omega
   go_upto_region 6 with fail
   rename_i KQ hKQ
   go_region
   refine hKQ _ _ ?_;have BA:Hid (Below wo.heap.size wo wo.drew):=zC (Pe _ _) 1;generalize wo.drew=W4 at *;have G6:=zh (HA.out.below BA);clear b0 b1 b2 b3 b4 b5 b6 b7 b8 b9 z6
   apply wp_seq_k
   intro KA hKA
   go_cut [10,11] (fun a b wx=>a = .int .i64 (if y.kind=5 then (y.AA.getD i ⟨0,⟨#[]⟩,0,false,false,zeroV⟩).id else (i:Int))/\b = .int .i64 (if y.kind=5 then (y.AA.getD i ⟨0,⟨#[]⟩,0,false,false,zeroV⟩).type else y.elem)/\Hid (Below W4.heap.size W4 wx))
   case first =>
    obtain ⟨b0,b1,b2,b3,b4,b5,b6,b7,b8,b9⟩:=zG G6.out.tb
    by_cases hk5:y.kind=5
    ·have hkm:i<y.AA.length:=by have:=HRC.out hk5;omega
     have q5:(y.kind==5)=true:=by simp[hk5]
     have Mk:Hid ((if y.kind=5 then (y.AA.getD i ⟨0,⟨#[]⟩,0,false,false,zeroV⟩).id else (i:Int))=(y.AA[i]).id):=by show _=_;rw[AAG hk5,getD_at hkm]
     have HE2:Hid ((if y.kind=5 then (y.AA.getD i ⟨0,⟨#[]⟩,0,false,false,zeroV⟩).type else y.elem)=(y.AA[i]).type):=by show _=_;rw[AAG hk5,getD_at hkm]
     obtain ⟨mb,mo,M1,m1,M2,m2,M3,m3,hM,_,d0,d1,d2,d3,d4,d5,d6,d7,d8,d9,Jr,Jq,Jp⟩:=(Dv.out.below G6.out.Bb).AA.Gw hkm;clear d1 d3 d4 d5 d6 d7 d8 d9 Jr Jq Jp hk5;subst hM;have g2:(i:Int)<(y.AA.length:Int):=by omega
     go_upto_region 8 with fail
     go_region
     go_wp2
     go_meet
     exact ⟨by rw[Mk.out],by rw[HE2.out],zC (Pe _ _) 1⟩
    ·have q5:(y.kind==5)=false:=by simp[hk5]
     have Mk:Hid ((if y.kind=5 then (y.AA.getD i ⟨0,⟨#[]⟩,0,false,false,zeroV⟩).id else (i:Int))=(i:Int)):=by show _=_;rw[Pd hk5]
     have HE2:Hid ((if y.kind=5 then (y.AA.getD i ⟨0,⟨#[]⟩,0,false,false,zeroV⟩).type else y.elem)=y.elem):=by show _=_;rw[Pd hk5]
     clear hk5;go_wp2;go_meet;exact ⟨by rw[Mk.out],by rw[HE2.out],Pe _ _⟩
   case rest =>
   obtain ⟨rfl,rfl,hh⟩:=hcut;obtain ⟨W5,rfl⟩:∃W5:World,W5=wc:=⟨_,rfl⟩;have Ap:=zh (zB BA hh);have Dt:=zh (G6.out.below hh);obtain ⟨N5,hN5⟩:∃N5,(if y.kind=5 then (y.AA.getD i ⟨0,⟨#[]⟩,0,false,false,zeroV⟩).id else (i:Int))=N5:=⟨_,rfl⟩
   obtain ⟨U5,hU5⟩:∃U5,(if y.kind=5 then (y.AA.getD i ⟨0,⟨#[]⟩,0,false,false,zeroV⟩).type else y.elem)=U5:=⟨_,rfl⟩
   rw[hN5,hU5];have Ry:=zh hN5;have HU5:=zh hU5;clear hh BA G6 hN5 hU5;refine hKA _ _ ?_
   apply wp_seq_k
   intro KB hKB
   go_cut [10,11] (fun a b wx=>a = .int .i64 (Bz y v i).1/\b = .int .i64 (Bz y v i).2/\Hid (Below W5.heap.size W5 wx))
   case first =>
    obtain ⟨b0,b1,b2,b3,b4,b5,b6,b7,b8,b9⟩:=zG Dt.out.tb
    by_cases M0:y.kind=6
    ·obtain ⟨k,hki,hkm⟩:=HUK.out M0 (by omega)
     have q6:(y.kind==6)=true:=by simp[M0]
     have wI:Hid (Bz y v i=(v.id,(y.AA[k]).type)):=by show _=_;unfold Bz;rw[Pd (by omega),AAG M0,hki,Int.toNat_natCast,getD_at hkm]
     have z4:W5.cell? ⟨w.heap.size+1,4,none⟩=some (.int .i64 v.id):=by rw[AAE _ _ _ _ _ _ Dt.out.vb];rfl
     have hcall:=Fe v.id y As cs Am cm W5 (Dv.out.below Dt.out.Bb);rw[<-Dk,hki] at hcall;have Gh:=zh hcall;have z5:decide (0<=(k:Int))=true:=AAX (by omega)
     clear hcall M0 hki;go_wp2_with fail;refine Gh.out.mono ?_;rintro e' w6 ⟨r',rfl,hrr,hb6⟩;obtain rfl:=hrr z5;have BN:=zh hb6;have gV:=zh (Dt.out.below hb6);rw[z5];clear hb6 Gh b0 b1 b2 b3 b4 b5 b6 b7 b8 b9 z4 hrr z5;obtain ⟨b0,b1,b2,b3,b4,b5,b6,b7,b8,b9⟩:=zG gV.out.tb;have z4:w6.cell? ⟨w.heap.size+1,4,none⟩=some (.int .i64 v.id):=by rw[AAE _ _ _ _ _ _ gV.out.vb];rfl
     obtain ⟨mb,mo,M1,m1,M2,m2,M3,m3,hM,_,d0,d1,d2,d3,d4,d5,d6,d7,d8,d9,Jr,Jq,Jp⟩:=(Dv.out.below gV.out.Bb).AA.Gw hkm;clear d0 d1 d3 d4 d5 d6 d7 d8 d9 Jr Jq Jp;subst hM;have g1:(0:Int)<=(k:Int):=by omega
     have g2:(k:Int)<(y.AA.length:Int):=by omega
     go_upto_region 11 with fail
     go_region
     go_wp2
     go_meet
     exact ⟨by rw[wI.out],by rw[wI.out],zC BN 1⟩
    ·have q6:(y.kind==6)=false:=by simp[M0]
     have wI:Hid (Bz y v i=(N5,U5)):=by
      show _=_
      rw[<-Ry.out,<-HU5.out];unfold Bz
      by_cases hk5:y.kind=5
      ·rw[AAG hk5,AAG hk5,AAG hk5]
      ·rw[Pd hk5,Pd M0,Pd hk5,Pd hk5]
     clear M0;go_wp2;go_meet;exact ⟨by rw[wI.out],by rw[wI.out],Pe _ _⟩
   case rest =>
   obtain ⟨rfl,rfl,hh⟩:=hcut;obtain ⟨W6,rfl⟩:∃W6:World,W6=wc:=⟨_,rfl⟩;have BN:=zh (zB Ap hh);have gV:=zh (Dt.out.below hh);have ZW:=zh (fG.out i hlt);have lV:=zh (HOS.out i hlt);generalize Bz y v i=NU at *;obtain ⟨N1,U1⟩:=NU;simp only at ZW lV ⊢;obtain ⟨ib,io,E1,e1,E2,e2,E3,e3,hI,hir,a0,a1,a2,a3,a4,a5,a6,a7⟩:=((HR.out.below gV.out.Bb).items).at8 hlt;subst hI;have R5:=zh hir
   have Zb:Hid ((W6.cell? ⟨ib,io+i * 8,none⟩=some (.int .i64 (v.items[i]).kind)/\W6.cell? ⟨ib,io+i * 8+1,none⟩=some (.bool (v.items[i]).bool)/\W6.cell? ⟨ib,io+i * 8+2,none⟩=some (.int .i64 (v.items[i]).int)/\W6.cell? ⟨ib,io+i * 8+3,none⟩=some (.string (v.items[i]).str)/\W6.cell? ⟨ib,io+i * 8+4,none⟩=some (.int .i64 (v.items[i]).id)/\W6.cell? ⟨ib,io+i * 8+5,none⟩=some (.slice E1 (v.items[i]).keys.length e1)/\W6.cell? ⟨ib,io+i * 8+6,none⟩=some (.slice E2 (v.items[i]).items.length e2)/\W6.cell? ⟨ib,io+i * 8+7,none⟩=some (.slice E3 (v.items[i]).rest.length e3))):=by
    exact ⟨a0,a1,a2,a3,a4,a5,a6,a7⟩
   clear hh Ap Dt Ry HU5 hir a0 a1 a2 a3 a4 a5 a6 a7
   have Oi:Hid (∀w',Below W6.heap.size W6 w'->w'.cell? ⟨w.heap.size,0,none⟩=some (.slice (some ⟨bq,oq,none⟩) s.length c)/\w'.cell? ⟨w.heap.size+1,6,none⟩=some (.slice (some ⟨ib,io,none⟩) v.items.length c2)/\(w'.cell? ⟨ib,io+i * 8,none⟩=some (.int .i64 (v.items[i]).kind)/\w'.cell? ⟨ib,io+i * 8+1,none⟩=some (.bool (v.items[i]).bool)/\w'.cell? ⟨ib,io+i * 8+2,none⟩=some (.int .i64 (v.items[i]).int)/\w'.cell? ⟨ib,io+i * 8+3,none⟩=some (.string (v.items[i]).str)/\w'.cell? ⟨ib,io+i * 8+4,none⟩=some (.int .i64 (v.items[i]).id)/\w'.cell? ⟨ib,io+i * 8+5,none⟩=some (.slice E1 (v.items[i]).keys.length e1)/\w'.cell? ⟨ib,io+i * 8+6,none⟩=some (.slice E2 (v.items[i]).items.length e2)/\w'.cell? ⟨ib,io+i * 8+7,none⟩=some (.slice E3 (v.items[i]).rest.length e3))/\Hid (Below W6.heap.size W6 w')):=fun w' hb=>⟨by rw[AAE _ _ _ _ _ _ (zE gV.out.sb hb)];rfl,by rw[AAE _ _ _ _ _ _ (zE gV.out.vb hb)];rfl,⟨zA hb Zb.out.1,zA hb Zb.out.2.1,zA hb Zb.out.2.2.1,zA hb Zb.out.2.2.2.1,zA hb Zb.out.2.2.2.2.1,zA hb Zb.out.2.2.2.2.2.1,zA hb Zb.out.2.2.2.2.2.2.1,zA hb Zb.out.2.2.2.2.2.2.2⟩,hb⟩
   refine hKB _ _ ?_;go_upto_region 12 with fail
   refine zs Oi (by kernel_rfl) ?_ (fun AO=>?_)
   ·(try dsimp only);exact Oi.out _ (zC (Pe _ _) 1)
   refine tL 0 ?_;refine tL 1 ?_;refine tL 2 ?_;refine tL 3 ?_;refine tL 4 ?_;refine tL 5 ?_;try simp only[ps]
   refine tL 6 ?_;refine tR 7 (fun K hK=>?_)
   go_simp
   (have NY:Hid (Below W6.heap.size W6 W6.drew):=zC (Pe _ _) 1;refine (E5.out U1 v.items[i] ZW.out.2.1 ZW.out.2.2.1 ZW.out.1 (some ⟨bq,oq,none⟩) c E1 e1 E2 e2 E3 e3 W6.drew (HS.out.below (zB gV.out.Bb NY)) (R5.out.below NY)).mono ?_;rintro e w8 ⟨L2,A8,c8,rfl,hm8,Wz,EJ⟩;have QY:=zh hm8;have Vq:=zh Wz;have BK:=zh EJ;have rP:=zh (zB NY EJ);clear hm8 Wz EJ)
   refine hK.out _ _ ?_ (fun AO=>?_)
   ·(try dsimp only);exact Oi.out _ rP
   clear hK K;refine tL 8 ?_;refine wpAnyH_done (by kernel_rfl) ?_ _
   have HA8:=zh (gV.out.below rP);have HAG:Hid (fZ W6.drew w8 w8 v7):=⟨fun q _ _=>rfl,fun k hk=>by
    have h3:=(World.ownsRow.lt HA.out.own.own k hk).2;have h4:=BN.out.size;exact .inl (show k<W6.heap.size by omega),AAH _⟩
   have HL2:Hid (L2.length<=100000/\(IK s n (m:Int) v i).length+L2.length<=100000):=by
    have h3:=HLEN.out (i+1) (by omega)
    rw[lV.out,AAt,AAZ,<-QY.out,AAZ] at h3
    show _/\_
    omega
   have HXP:Hid (∀x∈L2,x.p.length<=100000):=fun x hx=>ZW.out.2.2.2 x.p (by rw[<-QY.out];exact List.mem_map.2 ⟨x,hx,rfl⟩)
   clear Oi Zb R5 gV BN rP NY;go_wp2
   go_loopw [7,15] (fun o k wr=>∃ (j:Nat) (v8:Value) (L':List M6),j<=L2.length/\v8=o/\k = .int .i64 (j:Int)/\Hid (M5 w s (some ⟨bq,oq,none⟩) c v A1 c1 (some ⟨ib,io,none⟩) c2 A3 c3 y As cs Am cm qt v8 L' wr/\fZ W6.drew w8 wr v8/\L'.map (·.p)=IK s n (m:Int) v i++((L2.map (·.p)).take j).map fun p=>N1::p)) (fun _ k _=>L2.length - (intOf k).toNat)
   case atStart=>exact ⟨0,v7,L,by omega,rfl,rfl,HA8.out,HAG.out,by rw[HL.out];simp⟩
   case round =>
    obtain ⟨j,v8,L',hj,rfl,rfl,hh⟩:=hrel;obtain ⟨wu,rfl⟩:∃wu:World,wu=wr:=⟨_,rfl⟩;have HAu:=zh hh.out.1;have HGu:=zh hh.out.2.1;have HLu:=zh hh.out.2.2;clear hh;have hl2:=HL2.out.1
    by_cases uL:j<L2.length
    ·have ZV:Hid (RZ wu A8 L2):=Vq.out wu fun q hq hl=>HGu.out.1 q (by have h3:¬ q<W6.drew.heap.size:=hq;omega) hl
     obtain ⟨pb,po,hA8,uG,pc⟩:=ZV.out.UD uL;have NS:Hid ((L2.map (·.p)).take (j+1)=(L2.map (·.p)).take j++[(L2[j]).p]):=by
      show _=_
      rw[ABC (by rw[AAZ];exact uL),List.getElem_map]
     have hxl:=HXP.out _ (AAK uL);have Oh:Hid (L'.length+1<=100001):=by
      have h3:=congrArg List.length HLu.out;rw[AAt,AAZ,AAZ,List.length_take,AAZ] at h3;have h4:=HL2.out.2
      show _<=_
      omega
     generalize L2[j]=x at *;subst hA8;have HXL:=zh hxl;have Cy:=zh (zD wu (.cells #[.int .i64 N1] 3));have MN:=zh (jX wu (base:=wu.heap.size) (AAH _) N1).2;have fA:=zh (uG.below Cy);have g1:(0:Int)<=(j:Int):=by omega
     have g2:(j:Int)<(L2.length:Int):=by omega
     have lp:=zL pc;simp only at lp;clear uG hxl ZV;go_upto_region 16 with fail
     go_wp2_with (at_builtin;first
      | (refine MS K9 rfl (.tmp 81) (.tmp 85) rfl wu.heap.size _ 1 [.int .i64 N1] rfl MN x.A x.p.length x.c (x.p.flatMap encI) rfl (dG _) (YX fA) (Yv _) (by have:=HXL.out;omega) (by have:=HXL.out;omega) (by simp) ?_;intro v9 w9 gF kJ xA;obtain ⟨A9,c9,rfl,hx9⟩:=YZ gF HXL;have ZH:=zh hx9;have KU:=zh (Below.grown Cy kJ Cy.out.size fun k hk=>(World.ownsRow.lt MN k hk).1);have HA9:=zh (HAu.out.below (zB KU (zD w9 (.cells #[.slice A9 (x.p.length+1) c9] 68))));have HG9:=zh (HGu.out.below (zB KU (zD w9 (.cells #[.slice A9 (x.p.length+1) c9] 68))));have HZ9:=zh KU.out.size;clear gF kJ xA hx9)
      | (refine MS kg rfl (.tmp 79) (.tmp 87) rfl (w.heap.size+2) v8 L'.length (L'.flatMap M6.cells) rfl HA9.out.own.own (some ⟨w9.heap.size,0,none⟩) 1 1 (M6.cells ⟨N1::x.p,A9,c9⟩) rfl rfl (fun _=>⟨_,0,rfl,zR w9 [.slice A9 (x.p.length+1) c9] 68⟩) (jW _) (by have:=Oh.out;omega) (by have:=Oh.out;omega) (by have:=(zg.1 HA9.out.vb).1;omega) ?_;intro v10 w10 uK o7 o5;have ABQ:=zh (M5.snoc (x:=⟨N1::x.p,A9,c9⟩) HA9 (HAu.out.yZ ZH (.cells #[.slice A9 (x.p.length+1) c9] 68)) uK o7 o5);have ABG:=zh (HG9.out.snoc o7 o5);clear uK o7 o5))
     go_roundw
     case rel=>exact ⟨j+1,v10,L'++[⟨N1::x.p,A9,c9⟩],by omega,rfl,by go_num,ABQ.out,ABG.out,by rw[List.map_append,HLu.out,NS.out,List.map_append,AA0];rfl⟩
     case measure=>simp[intOf];omega
    ·have g2:¬ (j:Int)<(L2.length:Int):=by omega
     have R4:Hid (L'.map (·.p)=IK s n (m:Int) v (i+1)):=by
      show _=_
      rw[HLu.out,lV.out,<-QY.out,List.take_of_length_le (by rw[AAZ];omega)]
     go_wp2
     go_roundw
     case rel=>exact ⟨i+1,v8,L',by omega,rfl,by go_num,HAu.out,R4.out⟩
     case measure=>simp[intOf];omega
  ·have h2:¬ (i:Int)<(v.items.length:Int):=by omega
   obtain rfl:i=v.items.length:=by omega
   have hll:L.length<=1000000:=by
    have h3:=congrArg List.length HL.out;rw[AAZ] at h3;have h4:=HLEN.out v.items.length (AAH _)
    omega
   obtain ⟨A9,c9,rfl,hoff⟩:=HA.out.own.reads (B:=w.heap.size) (by omega) hll
   have Hy:Hid (mW (FC s (n+1) (m:Int) v) w (.returned (.slice A9 L.length c9)) wo):=⟨L,A9,c9,rfl,by rw[HL.out,O4.out],hoff,HA.out.Bb⟩
   clear hoff hll;go_wp2;go_ret;exact Hy.out
theorem Pp {s:List Ae} (hA:∀t,((AB s t).AA.map (·.id)).Pairwise (· < ·)):∀n,pu s n
 | 0=>fun t v hn=>absurd hn (by have:=Ir v;omega)
 | n+1=>U2 hA (Pp hA n)
end Go.Proofs.YthkkllmmbefedaaGreatDoor



