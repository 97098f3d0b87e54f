/-
  Walks: the literal's reader: a raw part of a record; the closure of record.
-/
import Derived.Test.YthkkllmmbefedaaGreatDoorQGA8
namespace Go.Proofs.YthkkllmmbefedaaGreatDoor
open Go.RowKit
set_option maxHeartbeats 16000000
set_option maxRecDepth 100000
def uw (C:FK) (V:Vx) (Rt:Jg) (r:List AQ) (vk:Value) (KL I:List Au) (R:List Ak) (W':World):Prop :=
 ∃Jv fo I' R' r' k' e',Df C V W' r' k' e' 0 vk Jv fo KL I' R'/\r'.length<=r.length/\(I'.length<=2000000/\R'.length<=2000000)/\(e'=0->OL (CU false C.s) Rt (I'.map (·.v)) R' (V.x.AA.drop I'.length) r' k'/\I'.length<=V.x.AA.length/\I'.length+R'.length+r'.length<=I.length+R.length+r.length)/\(e'≠0->Rt = .error e')
variable {w:World}
theorem og {A:zo} {l:List AZ} (h:FL w A l) {i:Nat} (hi:i<l.length):∃y mb mo,A=some ⟨mb,mo,none⟩/\y∈l/\l.drop i=y::l.drop (i+1)/\w.cell? ⟨mb,mo+i * 13,none⟩=some (.int .i64 y.id)/\w.cell? ⟨mb,mo+i * 13+1,none⟩=some (.string y.name)/\w.cell? ⟨mb,mo+i * 13+2,none⟩=some (.int .i64 y.type):=by
 obtain ⟨mb,mo,M1,m1,M2,m2,M3,m3,hA,hmr,t0,t1,t2,_⟩:=h.Gw hi;exact ⟨l[i],mb,mo,hA,AAK hi,AAv hi,t0,t1,t2⟩
abbrev iZ (r:Ak):Obj := .cells #[.int .i64 r.id,.string r.data] 97
variable {k:Bool} {r:List AQ} {C:FK}
theorem Sg {V:Vx} {n:Nat} (ih:JH C n) {W:World} {vk vi vr:Value} {KL I:List Au} {R:List Ak} (h:Df C V W r k 0 0 vk vi vr KL I R) (hpv:V.pv≠V.p) (hn:r.length<n) (he:∀y∈V.x.AA,0<=y.type/\y.type<(C.s.length:Int)) {Rt:Jg} (hR:LG (CU false C.s) Rt (I.map (·.v)) R (V.x.AA.drop I.length) r k) (hl:I.length+R.length<=1000000) (hi:I.length<V.x.AA.length):
  Calls Tryz.prog 161 #[.pointer (some ⟨V.pv,0,none⟩),.pointer (some ⟨V.px,0,none⟩),.pointer (some ⟨V.pr,0,none⟩)] W fun y W'=>y = .returned (.tuple #[])/\uw C V Rt r vk KL I R W':=by
 obtain ⟨A2,c2,rfl,_,_,_⟩:=h.vb.oi.reads;obtain ⟨y,mb,mo,hA,hym,hdr,t0,t1,t2⟩:=og h.ty.AA hi;rw[hdr] at hR;have HMN:=zh (he _ hym);have HT1:=zh t1;have HT2:=zh t2;have hR0:=hR.name.1;subst hR0;have qV:=zh hR;have HV:=zh h;have ZJ:=zh hpv;have ZK:=zh hn;have E5:=zh ih;have Oh:=zh hl;have HA:=zh hA;have HI:=zh hi;have i0:(0:Int)<=(I.length:Int):=by omega
 have i1:(I.length:Int)<(V.x.AA.length:Int):=by omega
 clear h ih hn he hl hpv hR hym hdr t0 t1 t2 hi hA;obtain ⟨⟨r5,r6,r7,rr,rm,rk,re⟩,_⟩:=HV.out.reads (Ay.refl _ _);have rv:=HV.out.WO ZJ (Ay.refl _ _)
 go_enter Tryz.func161,Tryz.ntmps161
 go_upto_region 2 with fail
 clear r5 r6 r7 rm rk re rv
 go_cut [4] (fun s wx=>∃tb t0 r1 e1,s = .pointer (some ⟨tb,0,none⟩)/\Hid (Df C V wx r1 k e1 0 vk (.slice A2 I.length c2) vr KL I []/\wx.heap[tb]? = some (sQ t0)/\gJ 1 r t0 r1 e1))
 case first =>
  go_wp2_with (go_at_call 122;refine (Fp 1 HV.out.rd).mono ?_;intro y w3 h3;obtain ⟨t0,r1,e1,rfl,g1,g2,g3⟩:=Nc h3;have Ri:=zh (HV.out.Cn g1 g2);have Oe:=zh g3;clear h3 g1 g2 g3)
  go_meet
  exact ⟨_,t0,r1,e1,rfl,Ri.out.below (zD _ _),AAC _ _,Oe.out⟩
 case rest =>
 obtain ⟨W3,rfl⟩:∃W:World,W=wc:=⟨_,rfl⟩;obtain ⟨tb,t0,r1,e1,rfl,h3⟩:=hcut;have Ri:=zh h3.out.1;have Oe:=zh h3.out.2.2;obtain ⟨⟨_,x1,_,_,_⟩,_⟩:=DK h3.out.2.1;clear h3 HV rr;have rr:=(Ri.out.reads (Ay.refl _ _)).1.2.2.2.1;have rm:=(Ri.out.reads (Ay.refl _ _)).1.2.2.2.2.1;rw[HA.out] at rm;have rz:=Ri.out.rd.zero;have rn:=zA Ri.out.rd.up HT1
 obtain ⟨b3,hb3⟩:∃b:Bool,decide (e1=0/\t0.text≠y.name)=b:=⟨_,rfl⟩;have HB3:=zh hb3;clear hb3;go_upto_region 3 with fail
 go_cut [33] (fun s wx=>s = .bool b3/\Hid (Df C V wx r1 k e1 0 vk (.slice A2 I.length c2) vr KL I []))
 case first =>
  by_cases he:e1=0
  ·have q1:(e1==0)=true:=by simp[he]
   by_cases hnm:t0.text=y.name
   ·have q2:(t0.text.toList==y.name.toList)=true:=by rw[bytes_beq];exact AAX hnm
    have GX:Hid (b3=false):=by show _=_;rw[<-HB3.out];exact AAU fun g=>g.2 hnm
    clear he hnm
    go_quiet (fail)
    go_wp2
    go_meet
    exact ⟨by rw[GX.out],Ri.out.below (zC (Pe _ _) _)⟩
   ·have q2:(t0.text.toList==y.name.toList)=false:=by rw[bytes_beq];exact AAU hnm
    have GX:Hid (b3=true):=by show _=_;rw[<-HB3.out];exact AAX ⟨he,hnm⟩
    clear he hnm
    go_quiet (fail)
    go_wp2
    go_meet
    exact ⟨by rw[GX.out],Ri.out.below (zC (Pe _ _) _)⟩
  ·have q1:(e1==0)=false:=by simp[he]
   have GX:Hid (b3=false):=by show _=_;rw[<-HB3.out];exact AAU fun g=>he g.1
   clear he
   go_quiet (fail)
   go_wp2
   go_meet
   exact ⟨by rw[GX.out],Ri.out.below (zC (Pe _ _) _)⟩
 case rest =>
 obtain ⟨W4,rfl⟩:∃W:World,W=wc:=⟨_,rfl⟩;obtain ⟨rfl,h4⟩:=hcut;have MK:=zh h4.out;clear h4 Ri rr rm rz rn x1;have rr:=(MK.out.reads (Ay.refl _ _)).1.2.2.2.1
 go_upto_if 33 with fail
 go_cut [] (fun wx=>Hid (Df C V wx r1 k (ZP y.name t0 e1) 0 vk (.slice A2 I.length c2) vr KL I []))
 case first =>
  cases b3 with
  | true =>
   have HE:Hid (ZP y.name t0 e1=gH e1 4):=by
    show _=_
    obtain ⟨g1,g2⟩:=AAu HB3;unfold ZP gH;rw[AAG g1,Pd g2,AAG g1]
   go_wp2_with (go_at_call 78;refine (Ce 4 MK.out.rd).mono ?_;rintro y w5 ⟨rfl,g1,g2⟩;have HV5:=zh (MK.out.Cn g2 g1);clear g1 g2)
   go_meet
   rw[HE.out];exact HV5.out
  | false =>
   have HE:Hid (ZP y.name t0 e1=e1):=by
    show _=_
    have g:=of_decide_eq_false HB3;unfold ZP
    by_cases he:e1=0
    ·rw[AAG he,AAG (Decidable.byContradiction fun h=>g ⟨he,h⟩),he]
    ·rw[Pd he]
   go_wp2
   go_meet
   rw[HE.out];exact MK.out
 case rest =>
 obtain ⟨W5,rfl⟩:∃W:World,W=wc:=⟨_,rfl⟩;have HV5:=zh hcut.out;clear hcut MK rr HB3;obtain ⟨e2,he2⟩:∃e2,ZP y.name t0 e1=e2:=⟨_,rfl⟩;have HE2:=zh he2;rw[he2] at HV5;clear he2;have rr:=(HV5.out.reads (Ay.refl _ _)).1.2.2.2.1;have rz:=HV5.out.rd.zero
 go_upto_if 40 with fail
 go_cut [] (fun wx=>∃r3 e3,Hid (Df C V wx r3 k e3 0 vk (.slice A2 I.length c2) vr KL I []/\mU ⟨#[58]⟩ r1 e2 r3 e3))
 case first =>
  by_cases he:e2=0
  ·have q1:(e2==0)=true:=by simp[he]
   have OP:Hid (Df C V W5 r1 k 0 0 vk (.slice A2 I.length c2) vr KL I []):=by have:=HV5.out;rw[he] at this;exact this
   have HE:=zh he;clear he rz;go_wp2_with (go_at_call 126;refine (FV ⟨#[58]⟩ OP.out.rd).mono ?_;intro y w3 h3;obtain rfl:=h3.1;have OU:=zh (Nf h3);clear h3);go_meet;obtain ⟨hb,r',e',g1,g2⟩:=OU.out;exact ⟨r',e',OP.out.Cn hb g1,by rw[HE.out];exact g2⟩
  ·have q1:(e2==0)=false:=by simp[he]
   have HE:=zh he;clear he rz;go_wp2;go_meet;exact ⟨r1,e2,HV5.out,aC HE⟩
 case rest =>
 obtain ⟨W6,rfl⟩:∃W:World,W=wc:=⟨_,rfl⟩;obtain ⟨r3,e3,h6⟩:=hcut;have OP:=zh h6.out.1;have xS:=zh h6.out.2;clear h6 HV5 rr rz;have xY:Hid (r3.length<n):=by have:=xS.out.1;have:=Oe.out.1.1;have:=ZK.out;show _<_;omega
 have l9:=zh HMN.out;have lY:Hid (I.length<=1000000):=by have:=Oh.out;show _<=_;simp only[List.length_nil] at this;omega
 go_upto_region 7 with fail
 go_cut [44] (fun s wx=>∃b0:Bool,s = .bool b0/\Hid (Below W6.heap.size W6 wx))
 case first =>
  go_region <;> (go_wp2;go_meet;exact ⟨_,rfl,zC (zD W6 _) 1⟩)
 case rest =>
 obtain ⟨b0,rfl,hb⟩:=hcut;obtain ⟨W4,rfl⟩:∃W:World,W=wc:=⟨_,rfl⟩;have MK:=zh (OP.out.below hb.out);clear hb OP;have O3:Hid (C.b<W4.heap.size):=MK.out.rd.lt;have Rk:=zh (fun (w':World) (hb:Ay C.b W4 w')=>And.intro (HA.out▸MK.out.reads hb) (And.intro (MK.out.WO ZJ hb) (zA (MK.out.yX hb) HT2)))
 go_upto_if 44 with fail
 go_cut [] (fun wx=>Hid (ItP C V y.type r3 k e3 0 vk vr KL I [] wx))
 case first =>
  generalize y=ym at *
  cases b0 with
  | true =>
   go_upto_region 8 with fail
   refine yE (S:=(fun w'=>((w'.cell? ⟨V.p,5,none⟩=some vk/\w'.cell? ⟨V.p,6,none⟩=some (.slice A2 I.length c2)/\w'.cell? ⟨V.p,7,none⟩=some vr/\w'.cell? ⟨V.pr,0,none⟩=some (.pointer (some ⟨C.b,0,none⟩))/\w'.cell? ⟨V.px,6,none⟩=some (.slice (some ⟨mb,mo,none⟩) V.x.AA.length V.cm)/\w'.cell? ⟨V.px,7,none⟩=some (.int .i64 V.x.key)/\w'.cell? ⟨V.px,8,none⟩=some (.int .i64 V.x.elem))/\Hid (Ay C.b W4 w'))/\(w'.cell? ⟨V.pv,0,none⟩=some (.pointer (some ⟨V.p,0,none⟩))/\w'.cell? ⟨mb,mo+I.length * 13+2,none⟩=some (.int .i64 ym.type)))) 14 (by kernel_rfl) ?_ (fun AO=>?_)
   ·(try dsimp only);exact Rk.out _ (Ay.of (zC (Pe _ _) 1) (AAe O3))
   refine tB 0 ?_;refine tC 1 ?_;refine tC 2 ?_;refine tB 3 ?_;refine tB 4 ?_;refine tC 5 ?_;try simp only[ps]
   refine tB 6 ?_;refine tC 7 ?_;refine tC 8 ?_;refine tC 9 ?_;refine tB 10 ?_;refine tC 12 ?_;try simp only[ps]
   refine zV (rs:=[11,13]) (by kernel_rfl) (by simp) ?_
   refine (AJ.cons rfl (fun K hK=>?_) (AJ.cons rfl (fun K hK=>?_) AJ.nil))
   ·
    go_simp
    (refine (E5.out ym.type _ r3 k e3 xY l9 (MK.out.below (zC (Pe W4.heap.size W4) 1)).rd).mono ?_;rintro y w6 ⟨x,rfl,g1,g2,r6,k6,e6,g3,g4,g5,g6⟩;have BN:=zh ((Ay.of (zC (Pe W4.heap.size W4) 1) (AAe O3)).trans g2);have Ox:=zh (MK.out.hot BN g1);have OP:=zh (MK.out.Cn BN g3);have nJ:=zh g4;have nI:=zh g5;have nH:=zh g6;clear g1 g2 g3 g4 g5 g6)
    refine hK.out _ _ ?_ (fun AO=>?_)
    ·(try dsimp only);exact Rk.out _ BN
    clear hK K;refine tS 13 (fun K hK=>?_)
    go_simp
    refine hK.out _ _ ?_ (fun AO=>?_)
    ·(try dsimp only);exact Rk.out _ (BN.out.below (zD _ _) O3)
    clear hK K;refine zV (rs:=[14]) (by kernel_rfl) (by simp) ?_
    refine AJ.last rfl (by kernel_rfl) (fun K hK=>?_) AJ.nil
    (have Oc:=zh (OP.out.below (zD w6 zO));have hll:=lY.out;refine yH Af (by rfl) (.tmp 48) (.tmp 58) (by rfl) (V.p+1) (.slice A2 I.length c2) I.length (I.flatMap Au.cells) (by rfl) Oc.out.vb.oi w6.heap.size 0 1 1 yB (by rfl) rfl (zR w6 yB 28) Ze (by omega) (by omega) Oc.out.vb.lt ?_;intro v8 w8 CW Bt Ey;obtain ⟨g,c8,rfl,hgg⟩:=Gj CW;have ZO:=zh (OP.out.bS Ox (zD w6 zO) CW Bt Ey);have wH:Hid (V.p≠g):=zh (by omega);have Vq:=zh (Oc.out.p8 Bt (.inr (.inl rfl)));obtain ⟨⟨_,c6,_⟩,_,f6,_⟩:=Oc.out.c8 Vq;have Oy:=zh (PN (j:=6) (u := .slice (some ⟨g,0,none⟩) (I.length+1) c8) (Pw (xs:=yB) rfl CW) wH);have hlt1:(I.length:Int)<(I.length:Int)+1:=(by omega);have zi:(0:Int)<=(I.length:Int):=(by omega);clear hll CW Bt Ey hgg)
    refine hK.out _ _ ?_;clear hK K
    (try clear AO)
    refine sS 15 ?v12 rfl (by kernel_rfl) (.inl ⟨by rfl,?y12⟩) ?_
    case y12=>(intro w;go_simp;try with_reducible rfl)
    refine sS 16 ?v13 rfl (by kernel_rfl) (.inl ⟨by rfl,?y13⟩) ?_
    case y13=>(intro w;go_simp;try with_reducible rfl)
    refine wpAny_ready (rs:=[17]) (by kernel_rfl) (by simp) ?_
    refine (AllReady.cons rfl (fun K hK=>?_) AllReady.nil)
    go_simp
    refine hK _ _ ?_;clear hK K;try simp only[ps]
    refine wpAny_done (by kernel_rfl) ?_ _
    (go_wp2_with (refine wpList_store_mid rfl 28 (.tmp 62) (.tmp 56) rfl g (I.length * 8) x.cells.toArray (by rfl) (by rfl) (Oy.out _ (by simp)) Gi (Qd x) ?_);rw[yF wH.out];go_meet;exact ⟨x,_,r6,k6,e6,ZO.out,nJ.out,nI.out,nH.out⟩)
   ·
    go_simp
    refine hK.out _ _ ?_ (fun AO=>?_)
    ·(try dsimp only);exact Rk.out _ (Ay.of (zB (zC (Pe _ _) 1) (zD _ _)) (AAe O3))
    clear hK K;refine tS 11 (fun K hK=>?_)
    go_simp
    (refine (E5.out ym.type _ r3 k e3 xY l9 (MK.out.below (zB (zC (Pe W4.heap.size W4) 1) (zD _ zO))).rd).mono ?_;rintro y w6 ⟨x,rfl,g1,g2,r6,k6,e6,g3,g4,g5,g6⟩;have BN:=zh ((Ay.of (zB (zC (Pe W4.heap.size W4) 1) (zD _ zO)) (AAe O3)).trans g2);have Ox:=zh (MK.out.hot BN (g1.mono fun q _ hq=>by have hz:((W4.drewN 1).alloc zO).heap.size=W4.heap.size+1:=(by simp);show q<_;omega));have qU:=zh (X4 g2 (by have:=O3.out;show W4.heap.size≠_;omega) (zR (W4.drewN 1) yB 28));have OP:=zh (MK.out.Cn BN g3);have nJ:=zh g4;have nI:=zh g5;have nH:=zh g6;clear g1 g2 g3 g4 g5 g6)
    refine hK.out _ _ ?_ (fun AO=>?_)
    ·(try dsimp only);exact Rk.out _ BN
    clear hK K;refine zV (rs:=[14]) (by kernel_rfl) (by simp) ?_
    refine AJ.last rfl (by kernel_rfl) (fun K hK=>?_) AJ.nil
    (have hll:=lY.out;refine yH Af (by rfl) (.tmp 48) (.tmp 58) (by rfl) (V.p+1) (.slice A2 I.length c2) I.length (I.flatMap Au.cells) (by rfl) OP.out.vb.oi W4.heap.size 0 1 1 yB (by rfl) rfl qU Ze (by omega) (by omega) OP.out.vb.lt ?_;intro v8 w8 CW Bt Ey;obtain ⟨g,c8,rfl,hgg⟩:=Gj CW;have ZO:=zh (OP.out.bS Ox (Pe _ _) CW Bt Ey);have wH:Hid (V.p≠g):=zh (by omega);have Vq:=zh (OP.out.p8 Bt (.inr (.inl rfl)));obtain ⟨⟨_,c6,_⟩,_,f6,_⟩:=OP.out.c8 Vq;have Oy:=zh (PN (j:=6) (u := .slice (some ⟨g,0,none⟩) (I.length+1) c8) (Pw (xs:=yB) rfl CW) wH);have hlt1:(I.length:Int)<(I.length:Int)+1:=(by omega);have zi:(0:Int)<=(I.length:Int):=(by omega);clear hll CW Bt Ey hgg)
    refine hK.out _ _ ?_;clear hK K
    (try clear AO)
    refine sS 15 ?v14 rfl (by kernel_rfl) (.inl ⟨by rfl,?y14⟩) ?_
    case y14=>(intro w;go_simp;try with_reducible rfl)
    refine sS 16 ?v15 rfl (by kernel_rfl) (.inl ⟨by rfl,?y15⟩) ?_
    case y15=>(intro w;go_simp;try with_reducible rfl)
    refine wpAny_ready (rs:=[17]) (by kernel_rfl) (by simp) ?_
    refine (AllReady.cons rfl (fun K hK=>?_) AllReady.nil)
    go_simp
    refine hK _ _ ?_;clear hK K;try simp only[ps]
    refine wpAny_done (by kernel_rfl) ?_ _
    (go_wp2_with (refine wpList_store_mid rfl 28 (.tmp 62) (.tmp 56) rfl g (I.length * 8) x.cells.toArray (by rfl) (by rfl) (Oy.out _ (by simp)) Gi (Qd x) ?_);rw[yF wH.out];go_meet;exact ⟨x,_,r6,k6,e6,ZO.out,nJ.out,nI.out,nH.out⟩)
  | false =>
   go_upto_region 10 with fail
   refine yE (S:=(fun w'=>((w'.cell? ⟨V.p,5,none⟩=some vk/\w'.cell? ⟨V.p,6,none⟩=some (.slice A2 I.length c2)/\w'.cell? ⟨V.p,7,none⟩=some vr/\w'.cell? ⟨V.pr,0,none⟩=some (.pointer (some ⟨C.b,0,none⟩))/\w'.cell? ⟨V.px,6,none⟩=some (.slice (some ⟨mb,mo,none⟩) V.x.AA.length V.cm)/\w'.cell? ⟨V.px,7,none⟩=some (.int .i64 V.x.key)/\w'.cell? ⟨V.px,8,none⟩=some (.int .i64 V.x.elem))/\Hid True)/\(w'.cell? ⟨V.pv,0,none⟩=some (.pointer (some ⟨V.p,0,none⟩))/\w'.cell? ⟨mb,mo+I.length * 13+2,none⟩=some (.int .i64 ym.type)))) 17 (by kernel_rfl) ?_ (fun AO=>?_)
   ·(try dsimp only);(have hk:=Rk.out _ (Ay.of (zC (Pe _ _) 1) (AAe O3));exact ⟨⟨hk.1.1,trivial⟩,hk.2⟩)
   refine tB 0 ?_;refine tB 1 ?_;refine tC 2 ?_;refine tC 3 ?_;refine tB 4 ?_;refine tB 5 ?_;try simp only[ps]
   refine tC 6 ?_;refine tB 7 ?_;refine tC 8 ?_;refine tC 9 ?_;refine tC 10 ?_;refine tB 11 ?_;try simp only[ps]
   refine tS 12 (fun K hK=>?_)
   go_simp
   (refine (E5.out ym.type _ r3 k e3 xY l9 (MK.out.below (zC (Pe W4.heap.size W4) 1)).rd).mono ?_;rintro y w6 ⟨x,rfl,g1,g2,r6,k6,e6,g3,g4,g5,g6⟩;have BN:=zh ((Ay.of (zC (Pe W4.heap.size W4) 1) (AAe O3)).trans g2);have Ox:=zh (MK.out.hot BN g1);have OP:=zh (MK.out.Cn BN g3);have nJ:=zh g4;have nI:=zh g5;have nH:=zh g6;clear g1 g2 g3 g4 g5 g6)
   refine hK.out _ _ ?_ (fun AO=>?_)
   ·(try dsimp only);(have hk:=Rk.out _ (BN.out);exact ⟨⟨hk.1.1,trivial⟩,hk.2⟩)
   clear hK K;refine tS 13 (fun K hK=>?_)
   go_simp
   refine hK.out _ _ ?_ (fun AO=>?_)
   ·(try dsimp only);(have hk:=Rk.out _ (BN.out.below (zD w6 (.cells x.cells.toArray 28)) O3);exact ⟨⟨hk.1.1,trivial⟩,hk.2⟩)
   clear hK K;refine tS 14 (fun K hK=>?_)
   (have Oc:=zh (OP.out.below (zD w6 (.cells x.cells.toArray 28)));have hll:=lY.out;refine yH Af (by rfl) (.tmp 67) (.tmp 76) (by rfl) (V.p+1) (.slice A2 I.length c2) I.length (I.flatMap Au.cells) (by rfl) Oc.out.vb.oi w6.heap.size 0 1 1 x.cells (by rfl) rfl (zR w6 x.cells 28) (CG x) (by omega) (by omega) Oc.out.vb.lt ?_;intro v8 w8 CW Bt Ey;obtain ⟨g,c8,rfl,hgg⟩:=Gj CW;have ZO:=zh (OP.out.item Ox (zD w6 (.cells x.cells.toArray 28)) CW Bt Ey);have Vq:=zh (Oc.out.p8 Bt (.inr (.inl rfl)));have ve:=zh (HA.out▸Oc.out.mJ Vq (Oc.out.cO Bt (.inr (.inl rfl))));have QY:=zh (zA (Oc.out.yY Bt (.inr (.inl rfl))) HT2);obtain ⟨⟨_,c6,_⟩,_,f6,_⟩:=Oc.out.c8 Vq;clear hll CW Ey hgg)
   refine hK.out _ _ ?_ (fun AO=>?_)
   ·(try dsimp only);exact ⟨⟨ve.out.1,trivial⟩,ve.out.2 ZJ,QY.out⟩
   clear hK K;refine tC 15 ?_;refine tC 16 ?_;refine zV (rs:=[17]) (by kernel_rfl) (by simp) ?_
   refine AJ.last rfl (by kernel_rfl) (fun K hK=>?_) AJ.nil
   go_simp
   refine hK.out _ _ ?_;clear hK K
   (try clear AO)
   try simp only[ps]
   refine wpAny_done (by kernel_rfl) ?_ _
   (go_wp2;go_meet;exact ⟨x,_,r6,k6,e6,ZO.out,nJ.out,nI.out,nH.out⟩)
 case rest =>
 obtain ⟨W7,rfl⟩:∃W:World,W=wc:=⟨_,rfl⟩;obtain ⟨x,vi5,r5,k5,e5,hv5,hl5,bZ,Yj⟩:=hcut.out;have gP:=zh hv5;have ZY:=zh hl5;have O4:Hid (∀ (W':World) (e6:Int),Df C V W' r5 k5 e6 0 vk vi5 vr KL (I++[x]) []->e6=(if e5=0/\V.x.AA.drop (I.length+1)≠[]/\Dj ⟨#[44]⟩ r5=false then 2 else e5)->uw C V Rt r vk KL I [] W'):=fun W' e6 g1 g2=>by
  have hh:=ig (Qc false C.s) qV Oe (HE2.out.symm▸xS.out) hl5 bZ Yj g2;have h3:=Oe.out.1.1;have h6:=xS.out.1;have hll:=Oh.out;refine ⟨vi5,vr,I++[x],[],r5,k5,e6,g1,by omega,⟨by simp at hll ⊢;omega,by simp⟩,fun g=>?_,hh.2⟩
  obtain ⟨j1,j2⟩:=hh.1 g;have hI:=HI.out;refine ⟨?_,by simp;omega,by simp;omega⟩
  rw[List.map_append,AAt];exact j1
 clear hv5 hl5 bZ Yj hcut Rk MK O3 Oe xS qV HE2 xY l9 lY;have rr:=(gP.out.reads (Ay.refl _ _)).1.2.2.2.1;have rm:=(gP.out.reads (Ay.refl _ _)).1.2.2.2.2.1;rw[HA.out] at rm;have rz:=gP.out.rd.zero;have hms:=gP.out.ty.AA.1;unfold DU at hms;have hmb:(V.x.AA.length:Int)<=1000000000000:=by omega
 clear hms;go_upto_region 11 with fail
 by_cases he:e5=0
 ·have q1:(e5==0)=true:=by simp[he]
  by_cases hm:I.length+1<V.x.AA.length
  ·have q2:(I.length:Int)<(V.x.AA.length:Int) - 1:=by omega
   have HD:Hid (V.x.AA.drop (I.length+1)≠[]):=fun e=>by have:=congrArg List.length e;simp at this;omega
   cases hc:Dj ⟨#[44]⟩ r5 with
   | true =>
    have HC:=zh hc;have HE:Hid (e5=(if e5=0/\V.x.AA.drop (I.length+1)≠[]/\Dj ⟨#[44]⟩ r5=false then 2 else e5)):=by show _=_;rw[Pd (by rintro ⟨_,_,g⟩;rw[hc] at g;cases g)]
    clear he hm hc;go_wp2_with (go_at_call 160;refine (zX ⟨#[44]⟩ gP.out.rd).mono ?_;rintro y w8 ⟨rfl,EJ⟩;rw[HC.out];have vT:=zh (gP.out.below EJ);clear EJ);refine bodyPost_ret (results_none Tryz.results161 _ _ _) rfl ⟨rfl,O4.out _ _ vT HE⟩
   | false =>
    have HC:=zh hc;have HE:Hid (gH e5 2=(if e5=0/\V.x.AA.drop (I.length+1)≠[]/\Dj ⟨#[44]⟩ r5=false then 2 else e5)):=by show _=_;rw[AAG ⟨he,HD.out,hc⟩];exact AAG he
    clear he hm hc;go_wp2_with (first|(go_at_call 160;refine (zX ⟨#[44]⟩ gP.out.rd).mono ?_;rintro y w8 ⟨rfl,EJ⟩;rw[HC.out];have vT:=zh (gP.out.below EJ);clear EJ;have rr8:=(vT.out.reads (Ay.refl _ _)).1.2.2.2.1)|(go_at_call 78;refine (Ce 2 vT.out.rd).mono ?_;rintro y w9 ⟨rfl,g1,g2⟩;have xM:=zh (vT.out.Cn g2 g1);clear g1 g2))
    refine bodyPost_ret (results_none Tryz.results161 _ _ _) rfl ⟨rfl,O4.out _ _ xM HE⟩
  ·have q2:¬ (I.length:Int)<(V.x.AA.length:Int) - 1:=by omega
   have HE:Hid (e5=(if e5=0/\V.x.AA.drop (I.length+1)≠[]/\Dj ⟨#[44]⟩ r5=false then 2 else e5)):=by show _=_;rw[Pd (by rintro ⟨_,g,_⟩;exact g (AA7 (by omega)))]
   clear he hm;go_wp2;refine bodyPost_ret (results_none Tryz.results161 _ _ _) rfl ⟨rfl,O4.out _ _ gP HE⟩
 ·have q1:(e5==0)=false:=by simp[he]
  have HE:Hid (e5=(if e5=0/\V.x.AA.drop (I.length+1)≠[]/\Dj ⟨#[44]⟩ r5=false then 2 else e5)):=by show _=_;rw[Pd (fun g=>he g.1)]
  clear he;go_wp2;refine bodyPost_ret (results_none Tryz.results161 _ _ _) rfl ⟨rfl,O4.out _ _ gP HE⟩
theorem Xe {w8:World} {base n:Nat} {v8:Value} {xs:List Value} (ho:w8.ownsRow base 97 2 v8 (n+1) xs):∃g c,v8 = .slice (some ⟨g,0,none⟩) (n+1) c/\base<=g:=by
 rcases ho.2 with ⟨_,h0⟩|⟨g,cap,cur,hv,hg0,_⟩
 ·omega
 ·exact ⟨g,cap,hv,hg0⟩
theorem LY {p:Nat} {a0 a1:Value} {T:TypeId} (h:w.heap[p]? = some (.cells #[a0,a1] T)):w.cell? ⟨p,0,none⟩=some a0/\w.cell? ⟨p,1,none⟩=some a1/\w.frozen? ⟨p,0,none⟩=false/\w.frozen? ⟨p,1,none⟩=false:=by
 refine ⟨?_,?_,AAL _ _ _ _ _ h,AAL _ _ _ _ _ h⟩ <;> (rw[AAE _ _ _ _ _ _ h];rfl)
theorem Tm (a c e:Int) (b d:ByteArray) (w:World):(Instr.field 59 (.agg #[.int .i64 a,.string b,.int .i64 c,.string d,.int .i64 e]) 2).run Tryz.prog w = .ok (.int .i64 c) w:=by kernel_rfl
theorem Tk (a c e:Int) (b d:ByteArray) (w:World):(Instr.field 59 (.agg #[.int .i64 a,.string b,.int .i64 c,.string d,.int .i64 e]) 3).run Tryz.prog w = .ok (.string d) w:=by kernel_rfl
theorem CX.FN {e:Int} (h:CX C w r k e) {q:Nat} (hq:q≠C.b) (hz:C.w0.heap.size<=q) (j:Nat) (u:Value):CX C (w.setCell ⟨q,j,none⟩ u) r k e :=
 ⟨h.ok,(AAF _ _ _ _ (by simpa using hq.symm)).trans h.blk,h.WN,h.up.setCell (p:=⟨q,j,none⟩) hz u⟩
theorem Sd {V:Vx} {W:World} {vk vi vr:Value} {KL I:List Au} {R:List Ak} (h:Df C V W r k 0 0 vk vi vr KL I R) (hpv:V.pv≠V.p) {Rt:Jg} (hR:LG (CU false C.s) Rt (I.map (·.v)) R (V.x.AA.drop I.length) r k) (hl:I.length+R.length<=1000000) (hi:I.length=V.x.AA.length):
  Calls Tryz.prog 161 #[.pointer (some ⟨V.pv,0,none⟩),.pointer (some ⟨V.px,0,none⟩),.pointer (some ⟨V.pr,0,none⟩)] W fun y W'=>y = .returned (.tuple #[])/\uw C V Rt r vk KL I R W':=by
 obtain ⟨A2,c2,rfl,_,_,_⟩:=h.vb.oi.reads;obtain ⟨A3,c3,rfl,_,_,_⟩:=h.vb.Qy.reads;rw[AA7 (Nat.le_of_eq hi.symm)] at hR;have qV:=zh hR;have HV:=zh h;have ZJ:=zh hpv;have Oh:=zh hl;have HI:=zh hi;have fd2:=Tm;have fd3:=Tk;have i1:¬ (I.length:Int)<(V.x.AA.length:Int):=by omega
 clear h hl hpv hR hi;obtain ⟨⟨r5,r6,r7,rr,rm,rk,re⟩,_⟩:=HV.out.reads (Ay.refl _ _);have rv:=HV.out.WO ZJ (Ay.refl _ _)
 go_enter Tryz.func161,Tryz.ntmps161
 go_upto_region 13 with fail
 clear r5 r6 r7 rm rk re rv;have NT:Hid (C.b<W.heap.size):=HV.out.rd.lt
 go_cut [5] (fun s wx=>∃rb t0 r1 e1,s = .pointer (some ⟨rb,0,none⟩)/\Hid (W.heap.size<=rb/\Ay C.b W wx/\CX C wx r1 k e1/\wx.heap[rb]? = some (iZ ⟨t0.int,⟨#[]⟩⟩)/\gJ 2 r t0 r1 e1))
 case first =>
  go_wp2_with (go_at_call 122;refine (Fp 2 HV.out.rd).mono ?_;intro y w3 h3;obtain ⟨t0,r1,e1,rfl,g1,g2,g3⟩:=Nc h3;have HW3:=zh g1;have HR3:=zh g2;have Oe:=zh g3;clear h3 g1 g2 g3)
  go_meet
  exact ⟨_,t0,r1,e1,rfl,HW3.out.size,HW3.out.below (zD _ _) NT,HR3.out.below (zD _ _),AAC _ _,Oe.out⟩
 case rest =>
 obtain ⟨W3,rfl⟩:∃W:World,W=wc:=⟨_,rfl⟩;obtain ⟨rb,t0,r1,e1,rfl,h3⟩:=hcut;have Vl:=zh h3.out.1;have HW3:=zh h3.out.2.1;have HR3:=zh h3.out.2.2.1;have HB3:=zh h3.out.2.2.2.1;have Oe:=zh h3.out.2.2.2.2;clear h3 rr;have ZU:Hid (rb≠C.b):=by have:=Vl.out;have:=NT.out;show _≠_;omega
 have GX:Hid (∀ (w w':World) (o:Obj),w.heap[rb]? = some o->Ay C.b w w'->w'.heap[rb]? = some o):=fun w w' o h1 h2=>(h2.FN _ ZU (zg.1 h1).1).trans h1
 have rr:=(HV.out.reads HW3).1.2.2.2.1;have rz:=HR3.out.zero
 go_upto_if 108 with fail
 go_cut [] (fun wx=>∃r3 e3,Hid (Ay C.b W wx/\CX C wx r3 k e3/\wx.heap[rb]? = some (iZ ⟨t0.int,⟨#[]⟩⟩)/\mU ⟨#[58]⟩ r1 e1 r3 e3))
 case first =>
  by_cases he:e1=0
  ·have q1:(e1==0)=true:=by simp[he]
   have OP:Hid (CX C W3 r1 k 0):=by have:=HR3.out;rw[he] at this;exact this
   have HE:=zh he;clear he rz;go_wp2_with (go_at_call 126;refine (FV ⟨#[58]⟩ OP).mono ?_;intro y w3 h3;obtain rfl:=h3.1;have OU:=zh (Nf h3);clear h3);go_meet;obtain ⟨hb,r',e',g1,g2⟩:=OU.out;exact ⟨r',e',HW3.out.trans hb,g1,GX.out _ _ _ HB3 hb,by rw[HE.out];exact g2⟩
  ·have q1:(e1==0)=false:=by simp[he]
   have HE:=zh he;clear he rz;go_wp2;go_meet;exact ⟨r1,e1,HW3.out,HR3.out,HB3.out,aC HE⟩
 case rest =>
 obtain ⟨W4,rfl⟩:∃W:World,W=wc:=⟨_,rfl⟩;obtain ⟨r3,e3,h4⟩:=hcut;have xL:=zh h4.out.1;have HR4:=zh h4.out.2.1;have BA:=zh h4.out.2.2.1;have mr:=zh h4.out.2.2.2;clear h4 HR3 HW3 HB3 rr rz;have rr:=(HV.out.reads xL).1.2.2.2.1;have rz:=HR4.out.zero
 go_upto_if 115 with fail
 go_cut [] (fun wx=>∃t1 r5 e5,Hid (Ay C.b W wx/\CX C wx r5 k e5/\wx.heap[rb]? = some (iZ ⟨t0.int,t1.str⟩)/\Db t1.str/\r5.length<=r3.length/\((e3≠0/\r5=r3/\e5=e3)\/(e3=0/\gJ 3 r3 t1 r5 e5))))
 case first =>
  by_cases he:e3=0
  ·have q1:(e3==0)=true:=by simp[he]
   have OP:Hid (CX C W4 r3 k 0):=by have:=HR4.out;rw[he] at this;exact this
   have HE:=zh he;clear he rz;go_wp2_with (go_at_call 122;refine (Fp 3 OP).mono ?_;intro y w3 h3;obtain ⟨t1,r5,e5,rfl,g1,g2,g3⟩:=Nc h3;have fC:=zh (xL.out.trans g1);have vZ:=zh g2;have Ap:=zh (GX.out _ _ _ BA g1);have sD:=zh g3;obtain ⟨x0,x1,y0,y1⟩:=LY Ap;clear h3 g1 g2 g3);have CS:=zh (AAW _ _ 1 _ _ (.string t1.str) Ap);go_meet
   exact ⟨t1,r5,e5,fC.out.two 1 _ Vl NT,vZ.out.FN ZU (by have:=Vl.out;have:=NT.out;have:=HV.out.rd.ok.ge;omega) 1 _,CS.out,sD.out.1.2.2,sD.out.1.1,.inr ⟨HE.out,sD.out⟩⟩
  ·have q1:(e3==0)=false:=by simp[he]
   have HE:=zh he;clear he rz;go_wp2;go_meet;exact ⟨Ju,r3,e3,xL.out,HR4.out,BA.out,by unfold Db Ju;decide,AAH _,.inl ⟨HE.out,rfl,rfl⟩⟩
 case rest =>
 obtain ⟨W5,rfl⟩:∃W:World,W=wc:=⟨_,rfl⟩;obtain ⟨t1,r5,e5,h5⟩:=hcut;have HV5:=zh (HV.out.Cn h5.out.1 h5.out.2.1);have Ap:=zh h5.out.2.2.1;have qN:=zh h5.out.2.2.2.1;have OW:Hid ((Value.slice A3 R.length c3).ownBlock≠some rb):=fun e=>by have:=(Fw HV.out.vb).2.2 _ e;have:=Vl.out;omega
 have O4:Hid (∀ (W':World) (v8:Value),Df C V W' r5 k e5 0 vk (.slice A2 I.length c2) v8 KL I (R++[⟨t0.int,t1.str⟩])->uw C V Rt r vk KL I R W'):=fun W' v8 g1=>by
  have hh:=ic qV Oe mr h5.out.2.2.2.2.2;have h1:=Oe.out.1.1;have h2:=mr.out.1;have h3:=h5.out.2.2.2.2.1;have hll:=Oh.out;refine ⟨_,v8,I,_,r5,k,e5,g1,by omega,⟨by omega,by simp;omega⟩,fun g=>?_,hh.2⟩
  obtain ⟨j1,j2⟩:=hh.1 g;have hI:=HI.out;refine ⟨?_,by omega,by simp;omega⟩
  rw[AA7 (Nat.le_of_eq hI.symm)];exact j1
 clear h5 xL HR4 BA rr rz Oe mr qV;have IZ:Hid (C.b<W5.heap.size):=HV5.out.rd.lt;have GH:=zh (fun (w':World) (hb:Ay C.b W5 w')=>And.intro (HV5.out.reads hb).1.2.2.1 (And.intro (HV5.out.WO ZJ hb) (LY (GX.out _ _ _ Ap hb))))
 go_upto_region 18 with fail
 refine yE (S:=(fun w'=>w'.cell? ⟨V.p,7,none⟩=some (.slice A3 R.length c3)/\w'.cell? ⟨V.pv,0,none⟩=some (.pointer (some ⟨V.p,0,none⟩))/\w'.cell? ⟨rb,0,none⟩=some (.int .i64 t0.int)/\w'.cell? ⟨rb,1,none⟩=some (.string t1.str))) 10 (by kernel_rfl) ?_ (fun AO=>?_)
 ·(try dsimp only);(have hk:=GH.out _ (Ay.of (zC (Pe _ _) 1) (AAe IZ));exact ⟨hk.1,hk.2.1,hk.2.2.1,hk.2.2.2.1⟩)
 refine tB 0 ?_;refine tB 1 ?_;refine tC 2 ?_;refine tC 3 ?_;refine tB 4 ?_;refine tB 5 ?_;try simp only[ps]
 refine tS 6 (fun K hK=>?_)
 go_simp
 refine hK.out _ _ ?_ (fun AO=>?_)
 ·(try dsimp only);(have hk:=GH.out _ (Ay.of (zB (zC (Pe _ _) 1) (zD _ (iZ ⟨t0.int,t1.str⟩))) (AAe IZ));exact ⟨hk.1,hk.2.1,hk.2.2.1,hk.2.2.2.1⟩)
 clear hK K;refine tS 7 (fun K hK=>?_)
 (have Oc:=zh (HV5.out.below (zB (zC (Pe _ _) 1) (zD _ (iZ ⟨t0.int,t1.str⟩))));have BN:=zh (GX.out _ _ _ Ap (Ay.of (zB (zC (Pe W5.heap.size W5) 1) (zD _ (iZ ⟨t0.int,t1.str⟩))) (AAe IZ)));have hll:=Oh.out;refine yH Tx (by rfl) (.tmp 124) (.tmp 126) (by rfl) (V.p+1) (.slice A3 R.length c3) R.length (R.flatMap encR) (by rfl) Oc.out.vb.Qy W5.heap.size 0 1 1 (encR ⟨t0.int,t1.str⟩) (by rfl) rfl (zR (W5.drewN 1) (encR ⟨t0.int,t1.str⟩) 97) (dF _) (by omega) (by omega) Oc.out.vb.lt ?_;intro v8 w8 CW Bt Ey;obtain ⟨g,c8,rfl,hgg⟩:=Xe CW;have ZO:=zh (Oc.out.Ux qN.out (Pe _ _) CW Bt Ey);have Vq:=zh (Oc.out.p8 Bt (.inr (.inr rfl)));have ve:=zh (Oc.out.mJ Vq (Oc.out.cO Bt (.inr (.inr rfl))));have BK:=zh (LY ((yA Bt (zg.1 BN).1 fun q hq e=>OW.out (e▸hq)).trans BN));obtain ⟨⟨_,_,c7⟩,_,_,f7⟩:=Oc.out.c8 Vq;clear hll CW Ey hgg)
 refine hK.out _ _ ?_ (fun AO=>?_)
 ·(try dsimp only);exact ⟨ve.out.1.2.2.1,ve.out.2 ZJ,BK.out.1,BK.out.2.1⟩
 clear hK K;refine tC 8 ?_;refine tC 9 ?_;refine zV (rs:=[10]) (by kernel_rfl) (by simp) ?_
 refine AJ.last rfl (by kernel_rfl) (fun K hK=>?_) AJ.nil
 go_simp
 refine hK.out _ _ ?_;clear hK K
 (try clear AO)
 refine wpAny_done (by kernel_rfl) ?_ _
 (exact bodyPost_end (results_none Tryz.results161 _ _ _) rfl ⟨rfl,O4.out _ _ ZO⟩)
end Go.Proofs.YthkkllmmbefedaaGreatDoor



