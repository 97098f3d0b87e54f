/-
  Walks: the literal's reader: a raw part of a record; the closure of record.
-/
import Derived.Test.YthkkllmmbefedaaGreatDoorQGA8
namespace Go.Proofs.YthkkllmmbefedaaGreatDoor
open Go.RowKit
set_option maxHeartbeats 16000000
set_option maxRecDepth 100000
def vC (C:CZ) (V:Vx) (Rt:Kb) (r:List AB) (vk:Value) (KL I:List BX) (R:List Ac) (W':World):Prop :=
 ∃Me aV I' R' r' k' e',CX C V W' r' k' e' 0 vk Me aV KL I' R'/\r'.length<=r.length/\(I'.length<=2000000/\R'.length<=2000000)/\(e'=0->PG (AP false C.s) Rt (I'.map (·.v)) R' (V.x.AA.drop I'.length) r' k'/\I'.length<=V.x.AA.length/\I'.length+R'.length+r'.length<=I.length+R.length+r.length)/\(e'≠0->Rt = .error e')
variable {w:World}
theorem SC {A:zo} {l:List AY} (h:Fv w A l) {i:Nat} (hi:i<l.length):∃y mb mo,A=some ⟨mb,mo,none⟩/\y∈l/\l.drop i=y::l.drop (i+1)/\w.cell? ⟨mb,mo+i * 13,none⟩=some (.int .i64 y.id)/\w.cell? ⟨mb,mo+i * 13+1,none⟩=some (.string y.name)/\w.cell? ⟨mb,mo+i * 13+2,none⟩=some (.int .i64 y.type):=by
 obtain ⟨mb,mo,M1,m1,M2,m2,M3,m3,hA,hmr,t0,t1,t2,_⟩:=h.MH hi;exact ⟨l[i],mb,mo,hA,AAW hi,AAy hi,t0,t1,t2⟩
abbrev Tn (r:Ac):Obj := .cells #[.int .i64 r.id,.string r.data] 97
variable {k:Bool} {r:List AB} {C:CZ}
theorem Tq {V:Vx} {n:Nat} (ih:Dt C n) {W:World} {vk vi vr:Value} {KL I:List BX} {R:List Ac} (h:CX C V W r k 0 0 vk vi vr KL I R) (hpv:V.pv≠V.p) (hn:r.length<n) (he:∀y∈V.x.AA,0<=y.type/\y.type<(C.s.length:Int)) {Rt:Kb} (hR:ML (AP false C.s) Rt (I.map (·.v)) R (V.x.AA.drop I.length) r k) (hl:I.length+R.length<=1000000) (hi:I.length<V.x.AA.length):
  Calls Tryz.prog 161 #[.pointer (some ⟨V.pv,0,none⟩),.pointer (some ⟨V.px,0,none⟩),.pointer (some ⟨V.pr,0,none⟩)] W fun y W'=>y = .returned (.tuple #[])/\vC C V Rt r vk KL I R W':=by
 obtain ⟨A2,c2,rfl,_,_,_⟩:=h.vb.oi.reads;obtain ⟨y,mb,mo,hA,hym,hdr,t0,t1,t2⟩:=SC h.ty.AA hi;rw[hdr] at hR;have HMN:=zh (he _ hym);have HT1:=zh t1;have HT2:=zh t2;have hR0:=hR.name.1;subst hR0;have qp:=zh hR;have HV:=zh h;have OT:=zh hpv;have IZ:=zh hn;have Df:=zh ih;have PX:=zh hl;have HA:=zh hA;have HI:=zh hi;have i0:(0:Int)<=(I.length:Int):=by omega
 have i1:(I.length:Int)<(V.x.AA.length:Int):=by omega
 clear h ih hn he hl hpv hR hym hdr t0 t1 t2 hi hA;obtain ⟨⟨r5,r6,r7,rr,rm,rk,re⟩,_⟩:=HV.out.reads (Ah.refl _ _);have rv:=HV.out.QW OT (Ah.refl _ _)
 go_enter Tryz.func161,Tryz.ntmps161
 go_upto_region 2 with fail
 clear r5 r6 r7 rm rk re rv
 go_cut [4] (fun s wx=>∃tb t0 r1 e1,s = .pointer (some ⟨tb,0,none⟩)/\Hid (CX C V wx r1 k e1 0 vk (.slice A2 I.length c2) vr KL I []/\wx.heap[tb]? = some (bG t0)/\Q6 1 r t0 r1 e1))
 case first =>
  go_wp2_with (go_at_call 122;refine (Bo 1 HV.out.rd).mono ?_;intro y w3 h3;obtain ⟨t0,r1,e1,rfl,g1,g2,g3⟩:=Fa h3;have FX:=zh (HV.out.BF g1 g2);have EJ:=zh g3;clear h3 g1 g2 g3)
  go_meet
  exact ⟨_,t0,r1,e1,rfl,FX.out.below (zD _ _),AAA _ _,EJ.out⟩
 case rest =>
 obtain ⟨W3,rfl⟩:∃W:World,W=wc:=⟨_,rfl⟩;obtain ⟨tb,t0,r1,e1,rfl,h3⟩:=hcut;have FX:=zh h3.out.1;have EJ:=zh h3.out.2.2;obtain ⟨⟨_,x1,_,_,_⟩,_⟩:=Ao h3.out.2.1;clear h3 HV rr;have rr:=(FX.out.reads (Ah.refl _ _)).1.2.2.2.1;have rm:=(FX.out.reads (Ah.refl _ _)).1.2.2.2.2.1;rw[HA.out] at rm;have rz:=FX.out.rd.zero;have rn:=zA FX.out.rd.up HT1
 obtain ⟨b3,hb3⟩:∃b:Bool,decide (e1=0/\t0.text≠y.name)=b:=⟨_,rfl⟩;have HB3:=zh hb3;clear hb3;go_upto_region 3 with fail
 go_cut [33] (fun s wx=>s = .bool b3/\Hid (CX C V wx r1 k e1 0 vk (.slice A2 I.length c2) vr KL I []))
 case first =>
  by_cases he:e1=0
  ·have q1:(e1==0)=true:=by simp[he]
   by_cases hnm:t0.text=y.name
   ·have q2:(t0.text.toList==y.name.toList)=true:=by rw[bytes_beq];exact AAM hnm
    have JJ:Hid (b3=false):=by show _=_;rw[<-HB3.out];exact AAE fun g=>g.2 hnm
    clear he hnm
    go_quiet (fail)
    go_wp2
    go_meet
    exact ⟨by rw[JJ.out],FX.out.below (zC (Pd _ _) _)⟩
   ·have q2:(t0.text.toList==y.name.toList)=false:=by rw[bytes_beq];exact AAE hnm
    have JJ:Hid (b3=true):=by show _=_;rw[<-HB3.out];exact AAM ⟨he,hnm⟩
    clear he hnm
    go_quiet (fail)
    go_wp2
    go_meet
    exact ⟨by rw[JJ.out],FX.out.below (zC (Pd _ _) _)⟩
  ·have q1:(e1==0)=false:=by simp[he]
   have JJ:Hid (b3=false):=by show _=_;rw[<-HB3.out];exact AAE fun g=>he g.1
   clear he
   go_quiet (fail)
   go_wp2
   go_meet
   exact ⟨by rw[JJ.out],FX.out.below (zC (Pd _ _) _)⟩
 case rest =>
 obtain ⟨W4,rfl⟩:∃W:World,W=wc:=⟨_,rfl⟩;obtain ⟨rfl,h4⟩:=hcut;have Db:=zh h4.out;clear h4 FX rr rm rz rn x1;have rr:=(Db.out.reads (Ah.refl _ _)).1.2.2.2.1
 go_upto_if 33 with fail
 go_cut [] (fun wx=>Hid (CX C V wx r1 k (aL y.name t0 e1) 0 vk (.slice A2 I.length c2) vr KL I []))
 case first =>
  cases b3 with
  | true =>
   have HE:Hid (aL y.name t0 e1=JE e1 4):=by
    show _=_
    obtain ⟨g1,g2⟩:=AAm HB3;unfold aL JE;rw[AAC g1,Pe g2,AAC g1]
   go_wp2_with (go_at_call 78;refine (Bc 4 Db.out.rd).mono ?_;rintro y w5 ⟨rfl,g1,g2⟩;have HV5:=zh (Db.out.BF g2 g1);clear g1 g2)
   go_meet
   rw[HE.out];exact HV5.out
  | false =>
   have HE:Hid (aL y.name t0 e1=e1):=by
    show _=_
    have g:=of_decide_eq_false HB3;unfold aL
    by_cases he:e1=0
    ·rw[AAC he,AAC (Decidable.byContradiction fun h=>g ⟨he,h⟩),he]
    ·rw[Pe he]
   go_wp2
   go_meet
   rw[HE.out];exact Db.out
 case rest =>
 obtain ⟨W5,rfl⟩:∃W:World,W=wc:=⟨_,rfl⟩;have HV5:=zh hcut.out;clear hcut Db rr HB3;obtain ⟨e2,he2⟩:∃e2,aL y.name t0 e1=e2:=⟨_,rfl⟩;have HE2:=zh he2;rw[he2] at HV5;clear he2;have rr:=(HV5.out.reads (Ah.refl _ _)).1.2.2.2.1;have rz:=HV5.out.rd.zero
 go_upto_if 40 with fail
 go_cut [] (fun wx=>∃r3 e3,Hid (CX C V wx r3 k e3 0 vk (.slice A2 I.length c2) vr KL I []/\Jy ⟨#[58]⟩ r1 e2 r3 e3))
 case first =>
  by_cases he:e2=0
  ·have q1:(e2==0)=true:=by simp[he]
   have DN:Hid (CX C V W5 r1 k 0 0 vk (.slice A2 I.length c2) vr KL I []):=by have:=HV5.out;rw[he] at this;exact this
   have HE:=zh he;clear he rz;go_wp2_with (go_at_call 126;refine (BV ⟨#[58]⟩ DN.out.rd).mono ?_;intro y w3 h3;obtain rfl:=h3.1;have Ie:=zh (Eh h3);clear h3);go_meet;obtain ⟨hb,r',e',g1,g2⟩:=Ie.out;exact ⟨r',e',DN.out.BF hb g1,by rw[HE.out];exact g2⟩
  ·have q1:(e2==0)=false:=by simp[he]
   have HE:=zh he;clear he rz;go_wp2;go_meet;exact ⟨r1,e2,HV5.out,Mk HE⟩
 case rest =>
 obtain ⟨W6,rfl⟩:∃W:World,W=wc:=⟨_,rfl⟩;obtain ⟨r3,e3,h6⟩:=hcut;have DN:=zh h6.out.1;have XO:=zh h6.out.2;clear h6 HV5 rr rz;have nT:Hid (r3.length<n):=by have:=XO.out.1;have:=EJ.out.1.1;have:=IZ.out;show _<_;omega
 have VX:=zh HMN.out;have VT:Hid (I.length<=1000000):=by have:=PX.out;show _<=_;simp only[List.length_nil] at this;omega
 go_upto_region 7 with fail
 go_cut [44] (fun s wx=>∃b0:Bool,s = .bool b0/\Hid (Below W6.heap.size W6 wx))
 case first =>
  go_region <;> (go_wp2;go_meet;exact ⟨_,rfl,zC (zD W6 _) 1⟩)
 case rest =>
 obtain ⟨b0,rfl,hb⟩:=hcut;obtain ⟨W4,rfl⟩:∃W:World,W=wc:=⟨_,rfl⟩;have Db:=zh (DN.out.below hb.out);clear hb DN;have Ia:Hid (C.b<W4.heap.size):=Db.out.rd.lt;have JN:=zh (fun (w':World) (hb:Ah C.b W4 w')=>And.intro (HA.out▸Db.out.reads hb) (And.intro (Db.out.QW OT hb) (zA (Db.out.xQ hb) HT2)))
 go_upto_if 44 with fail
 go_cut [] (fun wx=>Hid (ItP C V y.type r3 k e3 0 vk vr KL I [] wx))
 case first =>
  generalize y=ym at *
  cases b0 with
  | true =>
   go_upto_region 8 with fail
   refine yE (S:=(fun w'=>((w'.cell? ⟨V.p,5,none⟩=some vk/\w'.cell? ⟨V.p,6,none⟩=some (.slice A2 I.length c2)/\w'.cell? ⟨V.p,7,none⟩=some vr/\w'.cell? ⟨V.pr,0,none⟩=some (.pointer (some ⟨C.b,0,none⟩))/\w'.cell? ⟨V.px,6,none⟩=some (.slice (some ⟨mb,mo,none⟩) V.x.AA.length V.cm)/\w'.cell? ⟨V.px,7,none⟩=some (.int .i64 V.x.key)/\w'.cell? ⟨V.px,8,none⟩=some (.int .i64 V.x.elem))/\Hid (Ah C.b W4 w'))/\(w'.cell? ⟨V.pv,0,none⟩=some (.pointer (some ⟨V.p,0,none⟩))/\w'.cell? ⟨mb,mo+I.length * 13+2,none⟩=some (.int .i64 ym.type)))) 14 (by kernel_rfl) ?_ (fun AU=>?_)
   ·(try dsimp only);exact JN.out _ (Ah.of (zC (Pd _ _) 1) (AAT Ia))
   refine tB 0 ?_;refine tC 1 ?_;refine tC 2 ?_;refine tB 3 ?_;refine tB 4 ?_;refine tC 5 ?_;try simp only[ps]
   refine tB 6 ?_;refine tC 7 ?_;refine tC 8 ?_;refine tC 9 ?_;refine tB 10 ?_;refine tC 12 ?_;try simp only[ps]
   refine zV (rs:=[11,13]) (by kernel_rfl) (by simp) ?_
   refine (AO.cons rfl (fun K hK=>?_) (AO.cons rfl (fun K hK=>?_) AO.nil))
   ·
    go_simp
    (refine (Df.out ym.type _ r3 k e3 nT VX (Db.out.below (zC (Pd W4.heap.size W4) 1)).rd).mono ?_;rintro y w6 ⟨x,rfl,g1,g2,r6,k6,e6,g3,g4,g5,g6⟩;have BA:=zh ((Ah.of (zC (Pd W4.heap.size W4) 1) (AAT Ia)).trans g2);have IX:=zh (Db.out.hot BA g1);have DN:=zh (Db.out.BF BA g3);have Gm:=zh g4;have Hq:=zh g5;have Ma:=zh g6;clear g1 g2 g3 g4 g5 g6)
    refine hK.out _ _ ?_ (fun AU=>?_)
    ·(try dsimp only);exact JN.out _ BA
    clear hK K;refine tS 13 (fun K hK=>?_)
    go_simp
    refine hK.out _ _ ?_ (fun AU=>?_)
    ·(try dsimp only);exact JN.out _ (BA.out.below (zD _ _) Ia)
    clear hK K;refine zV (rs:=[14]) (by kernel_rfl) (by simp) ?_
    refine AO.last rfl (by kernel_rfl) (fun K hK=>?_) AO.nil
    (have DL:=zh (DN.out.below (zD w6 zO));have hll:=VT.out;refine yH Bz (by rfl) (.tmp 48) (.tmp 58) (by rfl) (V.p+1) (.slice A2 I.length c2) I.length (I.flatMap BX.cells) (by rfl) DL.out.vb.oi w6.heap.size 0 1 1 yB (by rfl) rfl (zR w6 yB 28) JW (by omega) (by omega) DL.out.vb.lt ?_;intro v8 w8 Bq Bp FW;obtain ⟨g,c8,rfl,hgg⟩:=CR Bq;have JU:=zh (DN.out.Qp IX (zD w6 zO) Bq Bp FW);have MS:Hid (V.p≠g):=zh (by omega);have LD:=zh (DL.out.p8 Bp (.inr (.inl rfl)));obtain ⟨⟨_,c6,_⟩,_,f6,_⟩:=DL.out.c8 LD;have Ke:=zh (EF (j:=6) (u := .slice (some ⟨g,0,none⟩) (I.length+1) c8) (EH (xs:=yB) rfl Bq) MS);have hlt1:(I.length:Int)<(I.length:Int)+1:=(by omega);have Wh:(0:Int)<=(I.length:Int):=(by omega);clear hll Bq Bp FW hgg)
    refine hK.out _ _ ?_;clear hK K
    (try clear AU)
    refine Vb 15 ?v12 rfl (by kernel_rfl) (.inl ⟨by rfl,?y12⟩) ?_
    case y12=>(intro w;go_simp;try with_reducible rfl)
    refine Vb 16 ?v13 rfl (by kernel_rfl) (.inl ⟨by rfl,?y13⟩) ?_
    case y13=>(intro w;go_simp;try with_reducible rfl)
    refine wpAny_ready (rs:=[17]) (by kernel_rfl) (by simp) ?_
    refine (AllReady.cons rfl (fun K hK=>?_) AllReady.nil)
    go_simp
    refine hK _ _ ?_;clear hK K;try simp only[ps]
    refine wpAny_done (by kernel_rfl) ?_ _
    (go_wp2_with (refine wpList_store_mid rfl 28 (.tmp 62) (.tmp 56) rfl g (I.length * 8) x.cells.toArray (by rfl) (by rfl) (Ke.out _ (by simp)) Du (E8 x) ?_);rw[yF MS.out];go_meet;exact ⟨x,_,r6,k6,e6,JU.out,Gm.out,Hq.out,Ma.out⟩)
   ·
    go_simp
    refine hK.out _ _ ?_ (fun AU=>?_)
    ·(try dsimp only);exact JN.out _ (Ah.of (zB (zC (Pd _ _) 1) (zD _ _)) (AAT Ia))
    clear hK K;refine tS 11 (fun K hK=>?_)
    go_simp
    (refine (Df.out ym.type _ r3 k e3 nT VX (Db.out.below (zB (zC (Pd W4.heap.size W4) 1) (zD _ zO))).rd).mono ?_;rintro y w6 ⟨x,rfl,g1,g2,r6,k6,e6,g3,g4,g5,g6⟩;have BA:=zh ((Ah.of (zB (zC (Pd W4.heap.size W4) 1) (zD _ zO)) (AAT Ia)).trans g2);have IX:=zh (Db.out.hot BA (g1.mono fun q _ hq=>by have hz:((W4.drewN 1).alloc zO).heap.size=W4.heap.size+1:=(by simp);show q<_;omega));have S9:=zh (KC g2 (by have:=Ia.out;show W4.heap.size≠_;omega) (zR (W4.drewN 1) yB 28));have DN:=zh (Db.out.BF BA g3);have Gm:=zh g4;have Hq:=zh g5;have Ma:=zh g6;clear g1 g2 g3 g4 g5 g6)
    refine hK.out _ _ ?_ (fun AU=>?_)
    ·(try dsimp only);exact JN.out _ BA
    clear hK K;refine zV (rs:=[14]) (by kernel_rfl) (by simp) ?_
    refine AO.last rfl (by kernel_rfl) (fun K hK=>?_) AO.nil
    (have hll:=VT.out;refine yH Bz (by rfl) (.tmp 48) (.tmp 58) (by rfl) (V.p+1) (.slice A2 I.length c2) I.length (I.flatMap BX.cells) (by rfl) DN.out.vb.oi W4.heap.size 0 1 1 yB (by rfl) rfl S9 JW (by omega) (by omega) DN.out.vb.lt ?_;intro v8 w8 Bq Bp FW;obtain ⟨g,c8,rfl,hgg⟩:=CR Bq;have JU:=zh (DN.out.Qp IX (Pd _ _) Bq Bp FW);have MS:Hid (V.p≠g):=zh (by omega);have LD:=zh (DN.out.p8 Bp (.inr (.inl rfl)));obtain ⟨⟨_,c6,_⟩,_,f6,_⟩:=DN.out.c8 LD;have Ke:=zh (EF (j:=6) (u := .slice (some ⟨g,0,none⟩) (I.length+1) c8) (EH (xs:=yB) rfl Bq) MS);have hlt1:(I.length:Int)<(I.length:Int)+1:=(by omega);have Wh:(0:Int)<=(I.length:Int):=(by omega);clear hll Bq Bp FW hgg)
    refine hK.out _ _ ?_;clear hK K
    (try clear AU)
    refine Vb 15 ?v14 rfl (by kernel_rfl) (.inl ⟨by rfl,?y14⟩) ?_
    case y14=>(intro w;go_simp;try with_reducible rfl)
    refine Vb 16 ?v15 rfl (by kernel_rfl) (.inl ⟨by rfl,?y15⟩) ?_
    case y15=>(intro w;go_simp;try with_reducible rfl)
    refine wpAny_ready (rs:=[17]) (by kernel_rfl) (by simp) ?_
    refine (AllReady.cons rfl (fun K hK=>?_) AllReady.nil)
    go_simp
    refine hK _ _ ?_;clear hK K;try simp only[ps]
    refine wpAny_done (by kernel_rfl) ?_ _
    (go_wp2_with (refine wpList_store_mid rfl 28 (.tmp 62) (.tmp 56) rfl g (I.length * 8) x.cells.toArray (by rfl) (by rfl) (Ke.out _ (by simp)) Du (E8 x) ?_);rw[yF MS.out];go_meet;exact ⟨x,_,r6,k6,e6,JU.out,Gm.out,Hq.out,Ma.out⟩)
  | false =>
   go_upto_region 10 with fail
   refine yE (S:=(fun w'=>((w'.cell? ⟨V.p,5,none⟩=some vk/\w'.cell? ⟨V.p,6,none⟩=some (.slice A2 I.length c2)/\w'.cell? ⟨V.p,7,none⟩=some vr/\w'.cell? ⟨V.pr,0,none⟩=some (.pointer (some ⟨C.b,0,none⟩))/\w'.cell? ⟨V.px,6,none⟩=some (.slice (some ⟨mb,mo,none⟩) V.x.AA.length V.cm)/\w'.cell? ⟨V.px,7,none⟩=some (.int .i64 V.x.key)/\w'.cell? ⟨V.px,8,none⟩=some (.int .i64 V.x.elem))/\Hid True)/\(w'.cell? ⟨V.pv,0,none⟩=some (.pointer (some ⟨V.p,0,none⟩))/\w'.cell? ⟨mb,mo+I.length * 13+2,none⟩=some (.int .i64 ym.type)))) 17 (by kernel_rfl) ?_ (fun AU=>?_)
   ·(try dsimp only);(have hk:=JN.out _ (Ah.of (zC (Pd _ _) 1) (AAT Ia));exact ⟨⟨hk.1.1,trivial⟩,hk.2⟩)
   refine tB 0 ?_;refine tB 1 ?_;refine tC 2 ?_;refine tC 3 ?_;refine tB 4 ?_;refine tB 5 ?_;try simp only[ps]
   refine tC 6 ?_;refine tB 7 ?_;refine tC 8 ?_;refine tC 9 ?_;refine tC 10 ?_;refine tB 11 ?_;try simp only[ps]
   refine tS 12 (fun K hK=>?_)
   go_simp
   (refine (Df.out ym.type _ r3 k e3 nT VX (Db.out.below (zC (Pd W4.heap.size W4) 1)).rd).mono ?_;rintro y w6 ⟨x,rfl,g1,g2,r6,k6,e6,g3,g4,g5,g6⟩;have BA:=zh ((Ah.of (zC (Pd W4.heap.size W4) 1) (AAT Ia)).trans g2);have IX:=zh (Db.out.hot BA g1);have DN:=zh (Db.out.BF BA g3);have Gm:=zh g4;have Hq:=zh g5;have Ma:=zh g6;clear g1 g2 g3 g4 g5 g6)
   refine hK.out _ _ ?_ (fun AU=>?_)
   ·(try dsimp only);(have hk:=JN.out _ (BA.out);exact ⟨⟨hk.1.1,trivial⟩,hk.2⟩)
   clear hK K;refine tS 13 (fun K hK=>?_)
   go_simp
   refine hK.out _ _ ?_ (fun AU=>?_)
   ·(try dsimp only);(have hk:=JN.out _ (BA.out.below (zD w6 (.cells x.cells.toArray 28)) Ia);exact ⟨⟨hk.1.1,trivial⟩,hk.2⟩)
   clear hK K;refine tS 14 (fun K hK=>?_)
   (have DL:=zh (DN.out.below (zD w6 (.cells x.cells.toArray 28)));have hll:=VT.out;refine yH Bz (by rfl) (.tmp 67) (.tmp 76) (by rfl) (V.p+1) (.slice A2 I.length c2) I.length (I.flatMap BX.cells) (by rfl) DL.out.vb.oi w6.heap.size 0 1 1 x.cells (by rfl) rfl (zR w6 x.cells 28) (Gr x) (by omega) (by omega) DL.out.vb.lt ?_;intro v8 w8 Bq Bp FW;obtain ⟨g,c8,rfl,hgg⟩:=CR Bq;have JU:=zh (DN.out.item IX (zD w6 (.cells x.cells.toArray 28)) Bq Bp FW);have LD:=zh (DL.out.p8 Bp (.inr (.inl rfl)));have I5:=zh (HA.out▸DL.out.Xq LD (DL.out.SQ Bp (.inr (.inl rfl))));have su:=zh (zA (DL.out.xR Bp (.inr (.inl rfl))) HT2);obtain ⟨⟨_,c6,_⟩,_,f6,_⟩:=DL.out.c8 LD;clear hll Bq FW hgg)
   refine hK.out _ _ ?_ (fun AU=>?_)
   ·(try dsimp only);exact ⟨⟨I5.out.1,trivial⟩,I5.out.2 OT,su.out⟩
   clear hK K;refine tC 15 ?_;refine tC 16 ?_;refine zV (rs:=[17]) (by kernel_rfl) (by simp) ?_
   refine AO.last rfl (by kernel_rfl) (fun K hK=>?_) AO.nil
   go_simp
   refine hK.out _ _ ?_;clear hK K
   (try clear AU)
   try simp only[ps]
   refine wpAny_done (by kernel_rfl) ?_ _
   (go_wp2;go_meet;exact ⟨x,_,r6,k6,e6,JU.out,Gm.out,Hq.out,Ma.out⟩)
 case rest =>
 obtain ⟨W7,rfl⟩:∃W:World,W=wc:=⟨_,rfl⟩;obtain ⟨x,vi5,r5,k5,e5,hv5,hl5,nC,pu⟩:=hcut.out;have iO:=zh hv5;have HL5:=zh hl5;have EK:Hid (∀ (W':World) (e6:Int),CX C V W' r5 k5 e6 0 vk vi5 vr KL (I++[x]) []->e6=(if e5=0/\V.x.AA.drop (I.length+1)≠[]/\Ba ⟨#[44]⟩ r5=false then 2 else e5)->vC C V Rt r vk KL I [] W'):=fun W' e6 g1 g2=>by
  have hh:=jU (Cm false C.s) qp EJ (HE2.out.symm▸XO.out) hl5 nC pu g2;have h3:=EJ.out.1.1;have h6:=XO.out.1;have hll:=PX.out;refine ⟨vi5,vr,I++[x],[],r5,k5,e6,g1,by omega,⟨by simp at hll ⊢;omega,by simp⟩,fun g=>?_,hh.2⟩
  obtain ⟨j1,j2⟩:=hh.1 g;have hI:=HI.out;refine ⟨?_,by simp;omega,by simp;omega⟩
  rw[List.map_append,AA6];exact j1
 clear hv5 hl5 nC pu hcut JN Db Ia EJ XO qp HE2 nT VX VT;have rr:=(iO.out.reads (Ah.refl _ _)).1.2.2.2.1;have rm:=(iO.out.reads (Ah.refl _ _)).1.2.2.2.2.1;rw[HA.out] at rm;have rz:=iO.out.rd.zero;have hms:=iO.out.ty.AA.1;unfold D9 at hms;have hmb:(V.x.AA.length:Int)<=1000000000000:=by omega
 clear hms;go_upto_region 11 with fail
 by_cases he:e5=0
 ·have q1:(e5==0)=true:=by simp[he]
  by_cases hm:I.length+1<V.x.AA.length
  ·have q2:(I.length:Int)<(V.x.AA.length:Int) - 1:=by omega
   have HD:Hid (V.x.AA.drop (I.length+1)≠[]):=fun e=>by have:=congrArg List.length e;simp at this;omega
   cases hc:Ba ⟨#[44]⟩ r5 with
   | true =>
    have HC:=zh hc;have HE:Hid (e5=(if e5=0/\V.x.AA.drop (I.length+1)≠[]/\Ba ⟨#[44]⟩ r5=false then 2 else e5)):=by show _=_;rw[Pe (by rintro ⟨_,_,g⟩;rw[hc] at g;cases g)]
    clear he hm hc;go_wp2_with (go_at_call 160;refine (zX ⟨#[44]⟩ iO.out.rd).mono ?_;rintro y w8 ⟨rfl,IG⟩;rw[HC.out];have nN:=zh (iO.out.below IG);clear IG);refine bodyPost_ret (results_none Tryz.results161 _ _ _) rfl ⟨rfl,EK.out _ _ nN HE⟩
   | false =>
    have HC:=zh hc;have HE:Hid (JE e5 2=(if e5=0/\V.x.AA.drop (I.length+1)≠[]/\Ba ⟨#[44]⟩ r5=false then 2 else e5)):=by show _=_;rw[AAC ⟨he,HD.out,hc⟩];exact AAC he
    clear he hm hc;go_wp2_with (first|(go_at_call 160;refine (zX ⟨#[44]⟩ iO.out.rd).mono ?_;rintro y w8 ⟨rfl,IG⟩;rw[HC.out];have nN:=zh (iO.out.below IG);clear IG;have rr8:=(nN.out.reads (Ah.refl _ _)).1.2.2.2.1)|(go_at_call 78;refine (Bc 2 nN.out.rd).mono ?_;rintro y w9 ⟨rfl,g1,g2⟩;have qh:=zh (nN.out.BF g2 g1);clear g1 g2))
    refine bodyPost_ret (results_none Tryz.results161 _ _ _) rfl ⟨rfl,EK.out _ _ qh HE⟩
  ·have q2:¬ (I.length:Int)<(V.x.AA.length:Int) - 1:=by omega
   have HE:Hid (e5=(if e5=0/\V.x.AA.drop (I.length+1)≠[]/\Ba ⟨#[44]⟩ r5=false then 2 else e5)):=by show _=_;rw[Pe (by rintro ⟨_,g,_⟩;exact g (AAp (by omega)))]
   clear he hm;go_wp2;refine bodyPost_ret (results_none Tryz.results161 _ _ _) rfl ⟨rfl,EK.out _ _ iO HE⟩
 ·have q1:(e5==0)=false:=by simp[he]
  have HE:Hid (e5=(if e5=0/\V.x.AA.drop (I.length+1)≠[]/\Ba ⟨#[44]⟩ r5=false then 2 else e5)):=by show _=_;rw[Pe (fun g=>he g.1)]
  clear he;go_wp2;refine bodyPost_ret (results_none Tryz.results161 _ _ _) rfl ⟨rfl,EK.out _ _ iO HE⟩
theorem QI {w8:World} {base n:Nat} {v8:Value} {xs:List Value} (ho:w8.ownsRow base 97 2 v8 (n+1) xs):∃g c,v8 = .slice (some ⟨g,0,none⟩) (n+1) c/\base<=g:=by
 rcases ho.2 with ⟨_,h0⟩|⟨g,cap,cur,hv,hg0,_⟩
 ·omega
 ·exact ⟨g,cap,hv,hg0⟩
theorem Mh {p:Nat} {a0 a1:Value} {T:TypeId} (h:w.heap[p]? = some (.cells #[a0,a1] T)):w.cell? ⟨p,0,none⟩=some a0/\w.cell? ⟨p,1,none⟩=some a1/\w.frozen? ⟨p,0,none⟩=false/\w.frozen? ⟨p,1,none⟩=false:=by
 refine ⟨?_,?_,AAK _ _ _ _ _ h,AAK _ _ _ _ _ h⟩ <;> (rw[AAB _ _ _ _ _ _ h];rfl)
theorem FM (a c e:Int) (b d:ByteArray) (w:World):(Instr.field 59 (.agg #[.int .i64 a,.string b,.int .i64 c,.string d,.int .i64 e]) 2).run Tryz.prog w = .ok (.int .i64 c) w:=by kernel_rfl
theorem FL (a c e:Int) (b d:ByteArray) (w:World):(Instr.field 59 (.agg #[.int .i64 a,.string b,.int .i64 c,.string d,.int .i64 e]) 3).run Tryz.prog w = .ok (.string d) w:=by kernel_rfl
theorem Lv (a c e:Int) (b d:ByteArray) (w:World):(Instr.field 59 (.agg #[.int .i64 a,.string b,.int .i64 c,.string d,.int .i64 e]) 1).run Tryz.prog w = .ok (.string b) w:=by kernel_rfl
theorem CF.Ef {e:Int} (h:CF C w r k e) {q:Nat} (hq:q≠C.b) (hz:C.w0.heap.size<=q) (j:Nat) (u:Value):CF C (w.setCell ⟨q,j,none⟩ u) r k e :=
 ⟨h.ok,(AAO _ _ _ _ (by simpa using hq.symm)).trans h.blk,h.LH,h.up.setCell (p:=⟨q,j,none⟩) hz u⟩
theorem Tp {V:Vx} {W:World} {vk vi vr:Value} {KL I:List BX} {R:List Ac} (h:CX C V W r k 0 0 vk vi vr KL I R) (hpv:V.pv≠V.p) {Rt:Kb} (hR:ML (AP false C.s) Rt (I.map (·.v)) R (V.x.AA.drop I.length) r k) (hl:I.length+R.length<=1000000) (hi:I.length=V.x.AA.length):
  Calls Tryz.prog 161 #[.pointer (some ⟨V.pv,0,none⟩),.pointer (some ⟨V.px,0,none⟩),.pointer (some ⟨V.pr,0,none⟩)] W fun y W'=>y = .returned (.tuple #[])/\vC C V Rt r vk KL I R W':=by
 obtain ⟨A2,c2,rfl,_,_,_⟩:=h.vb.oi.reads;obtain ⟨A3,c3,rfl,_,_,_⟩:=h.vb.Pp.reads;rw[AAp (Nat.le_of_eq hi.symm)] at hR;have qp:=zh hR;have HV:=zh h;have OT:=zh hpv;have PX:=zh hl;have HI:=zh hi;have sP:=FM;have sO:=FL;have i1:¬ (I.length:Int)<(V.x.AA.length:Int):=by omega
 clear h hl hpv hR hi;obtain ⟨⟨r5,r6,r7,rr,rm,rk,re⟩,_⟩:=HV.out.reads (Ah.refl _ _);have rv:=HV.out.QW OT (Ah.refl _ _)
 go_enter Tryz.func161,Tryz.ntmps161
 go_upto_region 13 with fail
 clear r5 r6 r7 rm rk re rv;have Fq:Hid (C.b<W.heap.size):=HV.out.rd.lt
 go_cut [5] (fun s wx=>∃rb t0 r1 e1,s = .pointer (some ⟨rb,0,none⟩)/\Hid (W.heap.size<=rb/\Ah C.b W wx/\CF C wx r1 k e1/\wx.heap[rb]? = some (Tn ⟨t0.int,⟨#[]⟩⟩)/\Q6 2 r t0 r1 e1))
 case first =>
  go_wp2_with (go_at_call 122;refine (Bo 2 HV.out.rd).mono ?_;intro y w3 h3;obtain ⟨t0,r1,e1,rfl,g1,g2,g3⟩:=Fa h3;have HW3:=zh g1;have HR3:=zh g2;have EJ:=zh g3;clear h3 g1 g2 g3)
  go_meet
  exact ⟨_,t0,r1,e1,rfl,HW3.out.size,HW3.out.below (zD _ _) Fq,HR3.out.below (zD _ _),AAA _ _,EJ.out⟩
 case rest =>
 obtain ⟨W3,rfl⟩:∃W:World,W=wc:=⟨_,rfl⟩;obtain ⟨rb,t0,r1,e1,rfl,h3⟩:=hcut;have wV:=zh h3.out.1;have HW3:=zh h3.out.2.1;have HR3:=zh h3.out.2.2.1;have HB3:=zh h3.out.2.2.2.1;have EJ:=zh h3.out.2.2.2.2;clear h3 rr;have TD:Hid (rb≠C.b):=by have:=wV.out;have:=Fq.out;show _≠_;omega
 have JJ:Hid (∀ (w w':World) (o:Obj),w.heap[rb]? = some o->Ah C.b w w'->w'.heap[rb]? = some o):=fun w w' o h1 h2=>(h2.Ef _ TD (zg.1 h1).1).trans h1
 have rr:=(HV.out.reads HW3).1.2.2.2.1;have rz:=HR3.out.zero
 go_upto_if 108 with fail
 go_cut [] (fun wx=>∃r3 e3,Hid (Ah C.b W wx/\CF C wx r3 k e3/\wx.heap[rb]? = some (Tn ⟨t0.int,⟨#[]⟩⟩)/\Jy ⟨#[58]⟩ r1 e1 r3 e3))
 case first =>
  by_cases he:e1=0
  ·have q1:(e1==0)=true:=by simp[he]
   have DN:Hid (CF C W3 r1 k 0):=by have:=HR3.out;rw[he] at this;exact this
   have HE:=zh he;clear he rz;go_wp2_with (go_at_call 126;refine (BV ⟨#[58]⟩ DN).mono ?_;intro y w3 h3;obtain rfl:=h3.1;have Ie:=zh (Eh h3);clear h3);go_meet;obtain ⟨hb,r',e',g1,g2⟩:=Ie.out;exact ⟨r',e',HW3.out.trans hb,g1,JJ.out _ _ _ HB3 hb,by rw[HE.out];exact g2⟩
  ·have q1:(e1==0)=false:=by simp[he]
   have HE:=zh he;clear he rz;go_wp2;go_meet;exact ⟨r1,e1,HW3.out,HR3.out,HB3.out,Mk HE⟩
 case rest =>
 obtain ⟨W4,rfl⟩:∃W:World,W=wc:=⟨_,rfl⟩;obtain ⟨r3,e3,h4⟩:=hcut;have sV:=zh h4.out.1;have HR4:=zh h4.out.2.1;have BD:=zh h4.out.2.2.1;have KU:=zh h4.out.2.2.2;clear h4 HR3 HW3 HB3 rr rz;have rr:=(HV.out.reads sV).1.2.2.2.1;have rz:=HR4.out.zero
 go_upto_if 115 with fail
 go_cut [] (fun wx=>∃t1 r5 e5,Hid (Ah C.b W wx/\CF C wx r5 k e5/\wx.heap[rb]? = some (Tn ⟨t0.int,t1.str⟩)/\Dc t1.str/\r5.length<=r3.length/\((e3≠0/\r5=r3/\e5=e3)\/(e3=0/\Q6 3 r3 t1 r5 e5))))
 case first =>
  by_cases he:e3=0
  ·have q1:(e3==0)=true:=by simp[he]
   have DN:Hid (CF C W4 r3 k 0):=by have:=HR4.out;rw[he] at this;exact this
   have HE:=zh he;clear he rz;go_wp2_with (go_at_call 122;refine (Bo 3 DN).mono ?_;intro y w3 h3;obtain ⟨t1,r5,e5,rfl,g1,g2,g3⟩:=Fa h3;have YT:=zh (sV.out.trans g1);have PV:=zh g2;have BB:=zh (JJ.out _ _ _ BD g1);have HQ5:=zh g3;obtain ⟨x0,x1,y0,y1⟩:=Mh BB;clear h3 g1 g2 g3);have CJ:=zh (AAV _ _ 1 _ _ (.string t1.str) BB);go_meet
   exact ⟨t1,r5,e5,YT.out.two 1 _ wV Fq,PV.out.Ef TD (by have:=wV.out;have:=Fq.out;have:=HV.out.rd.ok.ge;omega) 1 _,CJ.out,HQ5.out.1.2.2,HQ5.out.1.1,.inr ⟨HE.out,HQ5.out⟩⟩
  ·have q1:(e3==0)=false:=by simp[he]
   have HE:=zh he;clear he rz;go_wp2;go_meet;exact ⟨Dp,r3,e3,sV.out,HR4.out,BD.out,by unfold Dc Dp;decide,AAQ _,.inl ⟨HE.out,rfl,rfl⟩⟩
 case rest =>
 obtain ⟨W5,rfl⟩:∃W:World,W=wc:=⟨_,rfl⟩;obtain ⟨t1,r5,e5,h5⟩:=hcut;have HV5:=zh (HV.out.BF h5.out.1 h5.out.2.1);have BB:=zh h5.out.2.2.1;have nP:=zh h5.out.2.2.2.1;have LQ:Hid ((Value.slice A3 R.length c3).ownBlock≠some rb):=fun e=>by have:=(Jo HV.out.vb).2.2 _ e;have:=wV.out;omega
 have EK:Hid (∀ (W':World) (v8:Value),CX C V W' r5 k e5 0 vk (.slice A2 I.length c2) v8 KL I (R++[⟨t0.int,t1.str⟩])->vC C V Rt r vk KL I R W'):=fun W' v8 g1=>by
  have hh:=jT qp EJ KU h5.out.2.2.2.2.2;have h1:=EJ.out.1.1;have h2:=KU.out.1;have h3:=h5.out.2.2.2.2.1;have hll:=PX.out;refine ⟨_,v8,I,_,r5,k,e5,g1,by omega,⟨by omega,by simp;omega⟩,fun g=>?_,hh.2⟩
  obtain ⟨j1,j2⟩:=hh.1 g;have hI:=HI.out;refine ⟨?_,by omega,by simp;omega⟩
  rw[AAp (Nat.le_of_eq hI.symm)];exact j1
 clear h5 sV HR4 BD rr rz EJ KU qp;have JI:Hid (C.b<W5.heap.size):=HV5.out.rd.lt;have Fp:=zh (fun (w':World) (hb:Ah C.b W5 w')=>And.intro (HV5.out.reads hb).1.2.2.1 (And.intro (HV5.out.QW OT hb) (Mh (JJ.out _ _ _ BB hb))))
 go_upto_region 18 with fail
 refine yE (S:=(fun w'=>w'.cell? ⟨V.p,7,none⟩=some (.slice A3 R.length c3)/\w'.cell? ⟨V.pv,0,none⟩=some (.pointer (some ⟨V.p,0,none⟩))/\w'.cell? ⟨rb,0,none⟩=some (.int .i64 t0.int)/\w'.cell? ⟨rb,1,none⟩=some (.string t1.str))) 10 (by kernel_rfl) ?_ (fun AU=>?_)
 ·(try dsimp only);(have hk:=Fp.out _ (Ah.of (zC (Pd _ _) 1) (AAT JI));exact ⟨hk.1,hk.2.1,hk.2.2.1,hk.2.2.2.1⟩)
 refine tB 0 ?_;refine tB 1 ?_;refine tC 2 ?_;refine tC 3 ?_;refine tB 4 ?_;refine tB 5 ?_;try simp only[ps]
 refine tS 6 (fun K hK=>?_)
 go_simp
 refine hK.out _ _ ?_ (fun AU=>?_)
 ·(try dsimp only);(have hk:=Fp.out _ (Ah.of (zB (zC (Pd _ _) 1) (zD _ (Tn ⟨t0.int,t1.str⟩))) (AAT JI));exact ⟨hk.1,hk.2.1,hk.2.2.1,hk.2.2.2.1⟩)
 clear hK K;refine tS 7 (fun K hK=>?_)
 (have DL:=zh (HV5.out.below (zB (zC (Pd _ _) 1) (zD _ (Tn ⟨t0.int,t1.str⟩))));have BA:=zh (JJ.out _ _ _ BB (Ah.of (zB (zC (Pd W5.heap.size W5) 1) (zD _ (Tn ⟨t0.int,t1.str⟩))) (AAT JI)));have hll:=PX.out;refine yH O9 (by rfl) (.tmp 124) (.tmp 126) (by rfl) (V.p+1) (.slice A3 R.length c3) R.length (R.flatMap encR) (by rfl) DL.out.vb.Pp W5.heap.size 0 1 1 (encR ⟨t0.int,t1.str⟩) (by rfl) rfl (zR (W5.drewN 1) (encR ⟨t0.int,t1.str⟩) 97) (U0 _) (by omega) (by omega) DL.out.vb.lt ?_;intro v8 w8 Bq Bp FW;obtain ⟨g,c8,rfl,hgg⟩:=QI Bq;have JU:=zh (DL.out.UA nP.out (Pd _ _) Bq Bp FW);have LD:=zh (DL.out.p8 Bp (.inr (.inr rfl)));have I5:=zh (DL.out.Xq LD (DL.out.SQ Bp (.inr (.inr rfl))));have FY:=zh (Mh ((yA Bp (zg.1 BA).1 fun q hq e=>LQ.out (e▸hq)).trans BA));obtain ⟨⟨_,_,c7⟩,_,_,f7⟩:=DL.out.c8 LD;clear hll Bq FW hgg)
 refine hK.out _ _ ?_ (fun AU=>?_)
 ·(try dsimp only);exact ⟨I5.out.1.2.2.1,I5.out.2 OT,FY.out.1,FY.out.2.1⟩
 clear hK K;refine tC 8 ?_;refine tC 9 ?_;refine zV (rs:=[10]) (by kernel_rfl) (by simp) ?_
 refine AO.last rfl (by kernel_rfl) (fun K hK=>?_) AO.nil
 go_simp
 refine hK.out _ _ ?_;clear hK K
 (try clear AU)
 refine wpAny_done (by kernel_rfl) ?_ _
 (exact bodyPost_end (results_none Tryz.results161 _ _ _) rfl ⟨rfl,EK.out _ _ JU⟩)
end Go.Proofs.YthkkllmmbefedaaGreatDoor



