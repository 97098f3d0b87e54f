/-
  Walks: the literal's reader: a raw part of a record; the closure of record.
-/
import Derived.Test.YthkkllmmbefedaaGreatDoorQGA8
namespace Go.Proofs.YthkkllmmbefedaaGreatDoor
open Go.RowKit
set_option maxHeartbeats 16000000
set_option maxRecDepth 100000
def xS (C:EB) (V:Vx) (Rt:KS) (r:List AJ) (vk:Value) (KL I:List Aj) (R:List Af) (W':World):Prop :=
 ∃Gd jX I' R' r' k' e',CR C V W' r' k' e' 0 vk Gd jX KL I' R'/\r'.length<=r.length/\(I'.length<=2000000/\R'.length<=2000000)/\(e'=0->Pk (Ag false C.s) Rt (I'.map (·.v)) R' (V.x.AA.drop I'.length) r' k'/\I'.length<=V.x.AA.length/\I'.length+R'.length+r'.length<=I.length+R.length+r.length)/\(e'≠0->Rt = .error e')
variable {w:World}
theorem rM {A:zo} {l:List AY} (h:Fg w A l) {i:Nat} (hi:i<l.length):∃y mb mo,A=some ⟨mb,mo,none⟩/\y∈l/\l.drop i=y::l.drop (i+1)/\w.cell? ⟨mb,mo+i * 13,none⟩=some (.int .i64 y.id)/\w.cell? ⟨mb,mo+i * 13+1,none⟩=some (.string y.name)/\w.cell? ⟨mb,mo+i * 13+2,none⟩=some (.int .i64 y.type):=by
 obtain ⟨mb,mo,M1,m1,M2,m2,M3,m3,hA,hmr,t0,t1,t2,_⟩:=h.K5 hi;exact ⟨l[i],mb,mo,hA,AAU hi,ABJ hi,t0,t1,t2⟩
abbrev dm (r:Af):Obj := .cells #[.int .i64 r.id,.string r.data] 97
variable {k:Bool} {r:List AJ} {C:EB}
theorem Tg {V:Vx} {n:Nat} (ih:Dp C n) {W:World} {vk vi vr:Value} {KL I:List Aj} {R:List Af} (h:CR C V W r k 0 0 vk vi vr KL I R) (hpv:V.pv≠V.p) (hn:r.length<n) (he:∀y∈V.x.AA,0<=y.type/\y.type<(C.s.length:Int)) {Rt:KS} (hR:ML (Ag false C.s) Rt (I.map (·.v)) R (V.x.AA.drop I.length) r k) (hl:I.length+R.length<=1000000) (hi:I.length<V.x.AA.length):
  Calls Tryz.prog 161 #[.pointer (some ⟨V.pv,0,none⟩),.pointer (some ⟨V.px,0,none⟩),.pointer (some ⟨V.pr,0,none⟩)] W fun y W'=>y = .returned (.tuple #[])/\xS C V Rt r vk KL I R W':=by
 obtain ⟨A2,c2,rfl,_,_,_⟩:=h.vb.oi.reads;obtain ⟨y,mb,mo,hA,hym,hdr,t0,t1,t2⟩:=rM h.ty.AA hi;rw[hdr] at hR;have HMN:=zh (he _ hym);have HT1:=zh t1;have HT2:=zh t2;have hR0:=hR.name.1;subst hR0;have uL:=zh hR;have HV:=zh h;have QD:=zh hpv;have jR:=zh hn;have EI:=zh ih;have RL:=zh hl;have HA:=zh hA;have HI:=zh hi;have i0:(0:Int)<=(I.length:Int):=by omega
 have i1:(I.length:Int)<(V.x.AA.length:Int):=by omega
 clear h ih hn he hl hpv hR hym hdr t0 t1 t2 hi hA;obtain ⟨⟨r5,r6,r7,rr,rm,rk,re⟩,_⟩:=HV.out.reads (Ah.refl _ _);have rv:=HV.out.Qa QD (Ah.refl _ _)
 go_enter Tryz.func161,Tryz.ntmps161
 go_upto_region 2 with fail
 clear r5 r6 r7 rm rk re rv
 go_cut [4] (fun s wx=>∃tb t0 r1 e1,s = .pointer (some ⟨tb,0,none⟩)/\Hid (CR C V wx r1 k e1 0 vk (.slice A2 I.length c2) vr KL I []/\wx.heap[tb]? = some (o6 t0)/\Wx 1 r t0 r1 e1))
 case first =>
  go_wp2_with (go_at_call 122;refine (Bp 1 HV.out.rd).mono ?_;intro y w3 h3;obtain ⟨t0,r1,e1,rfl,g1,g2,g3⟩:=FU h3;have Je:=zh (HV.out.BJ g1 g2);have I5:=zh g3;clear h3 g1 g2 g3)
  go_meet
  exact ⟨_,t0,r1,e1,rfl,Je.out.below (zD _ _),AAL _ _,I5.out⟩
 case rest =>
 obtain ⟨W3,rfl⟩:∃W:World,W=wc:=⟨_,rfl⟩;obtain ⟨tb,t0,r1,e1,rfl,h3⟩:=hcut;have Je:=zh h3.out.1;have I5:=zh h3.out.2.2;obtain ⟨⟨_,x1,_,_,_⟩,_⟩:=Bb h3.out.2.1;clear h3 HV rr;have rr:=(Je.out.reads (Ah.refl _ _)).1.2.2.2.1;have rm:=(Je.out.reads (Ah.refl _ _)).1.2.2.2.2.1;rw[HA.out] at rm;have rz:=Je.out.rd.zero;have rn:=zA Je.out.rd.up HT1
 obtain ⟨b3,hb3⟩:∃b:Bool,decide (e1=0/\t0.text≠y.name)=b:=⟨_,rfl⟩;have HB3:=zh hb3;clear hb3;go_upto_region 3 with fail
 go_cut [33] (fun s wx=>s = .bool b3/\Hid (CR C V wx r1 k e1 0 vk (.slice A2 I.length c2) vr KL I []))
 case first =>
  by_cases he:e1=0
  ·have q1:(e1==0)=true:=by simp[he]
   by_cases hnm:t0.text=y.name
   ·have q2:(t0.text.toList==y.name.toList)=true:=by rw[bytes_beq];exact AAT hnm
    have LC:Hid (b3=false):=by show _=_;rw[<-HB3.out];exact AAZ fun g=>g.2 hnm
    clear he hnm
    go_quiet (fail)
    go_wp2
    go_meet
    exact ⟨by rw[LC.out],Je.out.below (zC (Pe _ _) _)⟩
   ·have q2:(t0.text.toList==y.name.toList)=false:=by rw[bytes_beq];exact AAZ hnm
    have LC:Hid (b3=true):=by show _=_;rw[<-HB3.out];exact AAT ⟨he,hnm⟩
    clear he hnm
    go_quiet (fail)
    go_wp2
    go_meet
    exact ⟨by rw[LC.out],Je.out.below (zC (Pe _ _) _)⟩
  ·have q1:(e1==0)=false:=by simp[he]
   have LC:Hid (b3=false):=by show _=_;rw[<-HB3.out];exact AAZ fun g=>he g.1
   clear he
   go_quiet (fail)
   go_wp2
   go_meet
   exact ⟨by rw[LC.out],Je.out.below (zC (Pe _ _) _)⟩
 case rest =>
 obtain ⟨W4,rfl⟩:∃W:World,W=wc:=⟨_,rfl⟩;obtain ⟨rfl,h4⟩:=hcut;have FP:=zh h4.out;clear h4 Je rr rm rz rn x1;have rr:=(FP.out.reads (Ah.refl _ _)).1.2.2.2.1
 go_upto_if 33 with fail
 go_cut [] (fun wx=>Hid (CR C V wx r1 k (ah y.name t0 e1) 0 vk (.slice A2 I.length c2) vr KL I []))
 case first =>
  cases b3 with
  | true =>
   have HE:Hid (ah y.name t0 e1=iH e1 4):=by
    show _=_
    obtain ⟨g1,g2⟩:=AAe HB3;unfold ah iH;rw[AAH g1,Pd g2,AAH g1]
   go_wp2_with (go_at_call 78;refine (BZ 4 FP.out.rd).mono ?_;rintro y w5 ⟨rfl,g1,g2⟩;have HV5:=zh (FP.out.BJ g2 g1);clear g1 g2)
   go_meet
   rw[HE.out];exact HV5.out
  | false =>
   have HE:Hid (ah y.name t0 e1=e1):=by
    show _=_
    have g:=of_decide_eq_false HB3;unfold ah
    by_cases he:e1=0
    ·rw[AAH he,AAH (Decidable.byContradiction fun h=>g ⟨he,h⟩),he]
    ·rw[Pd he]
   go_wp2
   go_meet
   rw[HE.out];exact FP.out
 case rest =>
 obtain ⟨W5,rfl⟩:∃W:World,W=wc:=⟨_,rfl⟩;have HV5:=zh hcut.out;clear hcut FP rr HB3;obtain ⟨e2,he2⟩:∃e2,ah y.name t0 e1=e2:=⟨_,rfl⟩;have HE2:=zh he2;rw[he2] at HV5;clear he2;have rr:=(HV5.out.reads (Ah.refl _ _)).1.2.2.2.1;have rz:=HV5.out.rd.zero
 go_upto_if 40 with fail
 go_cut [] (fun wx=>∃r3 e3,Hid (CR C V wx r3 k e3 0 vk (.slice A2 I.length c2) vr KL I []/\Uw ⟨#[58]⟩ r1 e2 r3 e3))
 case first =>
  by_cases he:e2=0
  ·have q1:(e2==0)=true:=by simp[he]
   have DL:Hid (CR C V W5 r1 k 0 0 vk (.slice A2 I.length c2) vr KL I []):=by have:=HV5.out;rw[he] at this;exact this
   have HE:=zh he;clear he rz;go_wp2_with (go_at_call 126;refine (BO ⟨#[58]⟩ DL.out.rd).mono ?_;intro y w3 h3;obtain rfl:=h3.1;have Gx:=zh (Eo h3);clear h3);go_meet;obtain ⟨hb,r',e',g1,g2⟩:=Gx.out;exact ⟨r',e',DL.out.BJ hb g1,by rw[HE.out];exact g2⟩
  ·have q1:(e2==0)=false:=by simp[he]
   have HE:=zh he;clear he rz;go_wp2;go_meet;exact ⟨r1,e2,HV5.out,Me HE⟩
 case rest =>
 obtain ⟨W6,rfl⟩:∃W:World,W=wc:=⟨_,rfl⟩;obtain ⟨r3,e3,h6⟩:=hcut;have DL:=zh h6.out.1;have pz:=zh h6.out.2;clear h6 HV5 rr rz;have qE:Hid (r3.length<n):=by have:=pz.out.1;have:=I5.out.1.1;have:=jR.out;show _<_;omega
 have VE:=zh HMN.out;have U9:Hid (I.length<=1000000):=by have:=RL.out;show _<=_;simp only[List.length_nil] at this;omega
 go_upto_region 7 with fail
 go_cut [44] (fun s wx=>∃b0:Bool,s = .bool b0/\Hid (Below W6.heap.size W6 wx))
 case first =>
  go_region <;> (go_wp2;go_meet;exact ⟨_,rfl,zC (zD W6 _) 1⟩)
 case rest =>
 obtain ⟨b0,rfl,hb⟩:=hcut;obtain ⟨W4,rfl⟩:∃W:World,W=wc:=⟨_,rfl⟩;have FP:=zh (DL.out.below hb.out);clear hb DL;have H8:Hid (C.b<W4.heap.size):=FP.out.rd.lt;have I4:=zh (fun (w':World) (hb:Ah C.b W4 w')=>And.intro (HA.out▸FP.out.reads hb) (And.intro (FP.out.Qa QD hb) (zA (FP.out.AA0 hb) HT2)))
 go_upto_if 44 with fail
 go_cut [] (fun wx=>Hid (ItP C V y.type r3 k e3 0 vk vr KL I [] wx))
 case first =>
  generalize y=ym at *
  cases b0 with
  | true =>
   go_upto_region 8 with fail
   refine yE (S:=(fun w'=>((w'.cell? ⟨V.p,5,none⟩=some vk/\w'.cell? ⟨V.p,6,none⟩=some (.slice A2 I.length c2)/\w'.cell? ⟨V.p,7,none⟩=some vr/\w'.cell? ⟨V.pr,0,none⟩=some (.pointer (some ⟨C.b,0,none⟩))/\w'.cell? ⟨V.px,6,none⟩=some (.slice (some ⟨mb,mo,none⟩) V.x.AA.length V.cm)/\w'.cell? ⟨V.px,7,none⟩=some (.int .i64 V.x.key)/\w'.cell? ⟨V.px,8,none⟩=some (.int .i64 V.x.elem))/\Hid (Ah C.b W4 w'))/\(w'.cell? ⟨V.pv,0,none⟩=some (.pointer (some ⟨V.p,0,none⟩))/\w'.cell? ⟨mb,mo+I.length * 13+2,none⟩=some (.int .i64 ym.type)))) 14 (by kernel_rfl) ?_ (fun AQ=>?_)
   ·(try dsimp only);exact I4.out _ (Ah.of (zC (Pe _ _) 1) (AAV H8))
   refine tB 0 ?_;refine tC 1 ?_;refine tC 2 ?_;refine tB 3 ?_;refine tB 4 ?_;refine tC 5 ?_;try simp only[ps]
   refine tB 6 ?_;refine tC 7 ?_;refine tC 8 ?_;refine tC 9 ?_;refine tB 10 ?_;refine tC 12 ?_;try simp only[ps]
   refine zV (rs:=[11,13]) (by kernel_rfl) (by simp) ?_
   refine (AB.cons rfl (fun K hK=>?_) (AB.cons rfl (fun K hK=>?_) AB.nil))
   ·
    go_simp
    (refine (EI.out ym.type _ r3 k e3 qE VE (FP.out.below (zC (Pe W4.heap.size W4) 1)).rd).mono ?_;rintro y w6 ⟨x,rfl,g1,g2,r6,k6,e6,g3,g4,g5,g6⟩;have BH:=zh ((Ah.of (zC (Pe W4.heap.size W4) 1) (AAV H8)).trans g2);have Iy:=zh (FP.out.hot BH g1);have DL:=zh (FP.out.BJ BH g3);have MX:=zh g4;have Nu:=zh g5;have Nt:=zh g6;clear g1 g2 g3 g4 g5 g6)
    refine hK.out _ _ ?_ (fun AQ=>?_)
    ·(try dsimp only);exact I4.out _ BH
    clear hK K;refine tS 13 (fun K hK=>?_)
    go_simp
    refine hK.out _ _ ?_ (fun AQ=>?_)
    ·(try dsimp only);exact I4.out _ (BH.out.below (zD _ _) H8)
    clear hK K;refine zV (rs:=[14]) (by kernel_rfl) (by simp) ?_
    refine AB.last rfl (by kernel_rfl) (fun K hK=>?_) AB.nil
    (have FE:=zh (DL.out.below (zD w6 zO));have hll:=U9.out;refine yH AU (by rfl) (.tmp 48) (.tmp 58) (by rfl) (V.p+1) (.slice A2 I.length c2) I.length (I.flatMap Aj.cells) (by rfl) FE.out.vb.oi w6.heap.size 0 1 1 yB (by rfl) rfl (zR w6 yB 28) I8 (by omega) (by omega) FE.out.vb.lt ?_;intro v8 w8 BI BB Ci;obtain ⟨g,c8,rfl,hgg⟩:=CV BI;have LB:=zh (DL.out.PK Iy (zD w6 zO) BI BB Ci);have MR:Hid (V.p≠g):=zh (by omega);have Jg:=zh (FE.out.p8 BB (.inr (.inl rfl)));obtain ⟨⟨_,c6,_⟩,_,f6,_⟩:=FE.out.c8 Jg;have Jf:=zh (EC (j:=6) (u := .slice (some ⟨g,0,none⟩) (I.length+1) c8) (EF (xs:=yB) rfl BI) MR);have hlt1:(I.length:Int)<(I.length:Int)+1:=(by omega);have WX:(0:Int)<=(I.length:Int):=(by omega);clear hll BI BB Ci hgg)
    refine hK.out _ _ ?_;clear hK K
    (try clear AQ)
    refine TR 15 ?v12 rfl (by kernel_rfl) (.inl ⟨by rfl,?y12⟩) ?_
    case y12=>(intro w;go_simp;try with_reducible rfl)
    refine TR 16 ?v13 rfl (by kernel_rfl) (.inl ⟨by rfl,?y13⟩) ?_
    case y13=>(intro w;go_simp;try with_reducible rfl)
    refine wpAny_ready (rs:=[17]) (by kernel_rfl) (by simp) ?_
    refine (AllReady.cons rfl (fun K hK=>?_) AllReady.nil)
    go_simp
    refine hK _ _ ?_;clear hK K;try simp only[ps]
    refine wpAny_done (by kernel_rfl) ?_ _
    (go_wp2_with (refine wpList_store_mid rfl 28 (.tmp 62) (.tmp 56) rfl g (I.length * 8) x.cells.toArray (by rfl) (by rfl) (Jf.out _ (by simp)) Cn (EO x) ?_);rw[yF MR.out];go_meet;exact ⟨x,_,r6,k6,e6,LB.out,MX.out,Nu.out,Nt.out⟩)
   ·
    go_simp
    refine hK.out _ _ ?_ (fun AQ=>?_)
    ·(try dsimp only);exact I4.out _ (Ah.of (zB (zC (Pe _ _) 1) (zD _ _)) (AAV H8))
    clear hK K;refine tS 11 (fun K hK=>?_)
    go_simp
    (refine (EI.out ym.type _ r3 k e3 qE VE (FP.out.below (zB (zC (Pe W4.heap.size W4) 1) (zD _ zO))).rd).mono ?_;rintro y w6 ⟨x,rfl,g1,g2,r6,k6,e6,g3,g4,g5,g6⟩;have BH:=zh ((Ah.of (zB (zC (Pe W4.heap.size W4) 1) (zD _ zO)) (AAV H8)).trans g2);have Iy:=zh (FP.out.hot BH (g1.mono fun q _ hq=>by have hz:((W4.drewN 1).alloc zO).heap.size=W4.heap.size+1:=(by simp);show q<_;omega));have Sd:=zh (Ju g2 (by have:=H8.out;show W4.heap.size≠_;omega) (zR (W4.drewN 1) yB 28));have DL:=zh (FP.out.BJ BH g3);have MX:=zh g4;have Nu:=zh g5;have Nt:=zh g6;clear g1 g2 g3 g4 g5 g6)
    refine hK.out _ _ ?_ (fun AQ=>?_)
    ·(try dsimp only);exact I4.out _ BH
    clear hK K;refine zV (rs:=[14]) (by kernel_rfl) (by simp) ?_
    refine AB.last rfl (by kernel_rfl) (fun K hK=>?_) AB.nil
    (have hll:=U9.out;refine yH AU (by rfl) (.tmp 48) (.tmp 58) (by rfl) (V.p+1) (.slice A2 I.length c2) I.length (I.flatMap Aj.cells) (by rfl) DL.out.vb.oi W4.heap.size 0 1 1 yB (by rfl) rfl Sd I8 (by omega) (by omega) DL.out.vb.lt ?_;intro v8 w8 BI BB Ci;obtain ⟨g,c8,rfl,hgg⟩:=CV BI;have LB:=zh (DL.out.PK Iy (Pe _ _) BI BB Ci);have MR:Hid (V.p≠g):=zh (by omega);have Jg:=zh (DL.out.p8 BB (.inr (.inl rfl)));obtain ⟨⟨_,c6,_⟩,_,f6,_⟩:=DL.out.c8 Jg;have Jf:=zh (EC (j:=6) (u := .slice (some ⟨g,0,none⟩) (I.length+1) c8) (EF (xs:=yB) rfl BI) MR);have hlt1:(I.length:Int)<(I.length:Int)+1:=(by omega);have WX:(0:Int)<=(I.length:Int):=(by omega);clear hll BI BB Ci hgg)
    refine hK.out _ _ ?_;clear hK K
    (try clear AQ)
    refine TR 15 ?v14 rfl (by kernel_rfl) (.inl ⟨by rfl,?y14⟩) ?_
    case y14=>(intro w;go_simp;try with_reducible rfl)
    refine TR 16 ?v15 rfl (by kernel_rfl) (.inl ⟨by rfl,?y15⟩) ?_
    case y15=>(intro w;go_simp;try with_reducible rfl)
    refine wpAny_ready (rs:=[17]) (by kernel_rfl) (by simp) ?_
    refine (AllReady.cons rfl (fun K hK=>?_) AllReady.nil)
    go_simp
    refine hK _ _ ?_;clear hK K;try simp only[ps]
    refine wpAny_done (by kernel_rfl) ?_ _
    (go_wp2_with (refine wpList_store_mid rfl 28 (.tmp 62) (.tmp 56) rfl g (I.length * 8) x.cells.toArray (by rfl) (by rfl) (Jf.out _ (by simp)) Cn (EO x) ?_);rw[yF MR.out];go_meet;exact ⟨x,_,r6,k6,e6,LB.out,MX.out,Nu.out,Nt.out⟩)
  | false =>
   go_upto_region 10 with fail
   refine yE (S:=(fun w'=>((w'.cell? ⟨V.p,5,none⟩=some vk/\w'.cell? ⟨V.p,6,none⟩=some (.slice A2 I.length c2)/\w'.cell? ⟨V.p,7,none⟩=some vr/\w'.cell? ⟨V.pr,0,none⟩=some (.pointer (some ⟨C.b,0,none⟩))/\w'.cell? ⟨V.px,6,none⟩=some (.slice (some ⟨mb,mo,none⟩) V.x.AA.length V.cm)/\w'.cell? ⟨V.px,7,none⟩=some (.int .i64 V.x.key)/\w'.cell? ⟨V.px,8,none⟩=some (.int .i64 V.x.elem))/\Hid True)/\(w'.cell? ⟨V.pv,0,none⟩=some (.pointer (some ⟨V.p,0,none⟩))/\w'.cell? ⟨mb,mo+I.length * 13+2,none⟩=some (.int .i64 ym.type)))) 17 (by kernel_rfl) ?_ (fun AQ=>?_)
   ·(try dsimp only);(have hk:=I4.out _ (Ah.of (zC (Pe _ _) 1) (AAV H8));exact ⟨⟨hk.1.1,trivial⟩,hk.2⟩)
   refine tB 0 ?_;refine tB 1 ?_;refine tC 2 ?_;refine tC 3 ?_;refine tB 4 ?_;refine tB 5 ?_;try simp only[ps]
   refine tC 6 ?_;refine tB 7 ?_;refine tC 8 ?_;refine tC 9 ?_;refine tC 10 ?_;refine tB 11 ?_;try simp only[ps]
   refine tS 12 (fun K hK=>?_)
   go_simp
   (refine (EI.out ym.type _ r3 k e3 qE VE (FP.out.below (zC (Pe W4.heap.size W4) 1)).rd).mono ?_;rintro y w6 ⟨x,rfl,g1,g2,r6,k6,e6,g3,g4,g5,g6⟩;have BH:=zh ((Ah.of (zC (Pe W4.heap.size W4) 1) (AAV H8)).trans g2);have Iy:=zh (FP.out.hot BH g1);have DL:=zh (FP.out.BJ BH g3);have MX:=zh g4;have Nu:=zh g5;have Nt:=zh g6;clear g1 g2 g3 g4 g5 g6)
   refine hK.out _ _ ?_ (fun AQ=>?_)
   ·(try dsimp only);(have hk:=I4.out _ (BH.out);exact ⟨⟨hk.1.1,trivial⟩,hk.2⟩)
   clear hK K;refine tS 13 (fun K hK=>?_)
   go_simp
   refine hK.out _ _ ?_ (fun AQ=>?_)
   ·(try dsimp only);(have hk:=I4.out _ (BH.out.below (zD w6 (.cells x.cells.toArray 28)) H8);exact ⟨⟨hk.1.1,trivial⟩,hk.2⟩)
   clear hK K;refine tS 14 (fun K hK=>?_)
   (have FE:=zh (DL.out.below (zD w6 (.cells x.cells.toArray 28)));have hll:=U9.out;refine yH AU (by rfl) (.tmp 67) (.tmp 76) (by rfl) (V.p+1) (.slice A2 I.length c2) I.length (I.flatMap Aj.cells) (by rfl) FE.out.vb.oi w6.heap.size 0 1 1 x.cells (by rfl) rfl (zR w6 x.cells 28) (Bh x) (by omega) (by omega) FE.out.vb.lt ?_;intro v8 w8 BI BB Ci;obtain ⟨g,c8,rfl,hgg⟩:=CV BI;have LB:=zh (DL.out.item Iy (zD w6 (.cells x.cells.toArray 28)) BI BB Ci);have Jg:=zh (FE.out.p8 BB (.inr (.inl rfl)));have U6:=zh (HA.out▸FE.out.Xf Jg (FE.out.SF BB (.inr (.inl rfl))));have aU:=zh (zA (FE.out.AA1 BB (.inr (.inl rfl))) HT2);obtain ⟨⟨_,c6,_⟩,_,f6,_⟩:=FE.out.c8 Jg;clear hll BI Ci hgg)
   refine hK.out _ _ ?_ (fun AQ=>?_)
   ·(try dsimp only);exact ⟨⟨U6.out.1,trivial⟩,U6.out.2 QD,aU.out⟩
   clear hK K;refine tC 15 ?_;refine tC 16 ?_;refine zV (rs:=[17]) (by kernel_rfl) (by simp) ?_
   refine AB.last rfl (by kernel_rfl) (fun K hK=>?_) AB.nil
   go_simp
   refine hK.out _ _ ?_;clear hK K
   (try clear AQ)
   try simp only[ps]
   refine wpAny_done (by kernel_rfl) ?_ _
   (go_wp2;go_meet;exact ⟨x,_,r6,k6,e6,LB.out,MX.out,Nu.out,Nt.out⟩)
 case rest =>
 obtain ⟨W7,rfl⟩:∃W:World,W=wc:=⟨_,rfl⟩;obtain ⟨x,vi5,r5,k5,e5,hv5,hl5,gy,Zk⟩:=hcut.out;have ji:=zh hv5;have bD:=zh hl5;have I6:Hid (∀ (W':World) (e6:Int),CR C V W' r5 k5 e6 0 vk vi5 vr KL (I++[x]) []->e6=(if e5=0/\V.x.AA.drop (I.length+1)≠[]/\BX ⟨#[44]⟩ r5=false then 2 else e5)->xS C V Rt r vk KL I [] W'):=fun W' e6 g1 g2=>by
  have hh:=lW (Gf false C.s) uL I5 (HE2.out.symm▸pz.out) hl5 gy Zk g2;have h3:=I5.out.1.1;have h6:=pz.out.1;have hll:=RL.out;refine ⟨vi5,vr,I++[x],[],r5,k5,e6,g1,by omega,⟨by simp at hll ⊢;omega,by simp⟩,fun g=>?_,hh.2⟩
  obtain ⟨j1,j2⟩:=hh.1 g;have hI:=HI.out;refine ⟨?_,by simp;omega,by simp;omega⟩
  rw[List.map_append,AAp];exact j1
 clear hv5 hl5 gy Zk hcut I4 FP H8 I5 pz uL HE2 qE VE U9;have rr:=(ji.out.reads (Ah.refl _ _)).1.2.2.2.1;have rm:=(ji.out.reads (Ah.refl _ _)).1.2.2.2.2.1;rw[HA.out] at rm;have rz:=ji.out.rd.zero;have hms:=ji.out.ty.AA.1;unfold EK at hms;have hmb:(V.x.AA.length:Int)<=1000000000000:=by omega
 clear hms;go_upto_region 11 with fail
 by_cases he:e5=0
 ·have q1:(e5==0)=true:=by simp[he]
  by_cases hm:I.length+1<V.x.AA.length
  ·have q2:(I.length:Int)<(V.x.AA.length:Int) - 1:=by omega
   have HD:Hid (V.x.AA.drop (I.length+1)≠[]):=fun e=>by have:=congrArg List.length e;simp at this;omega
   cases hc:BX ⟨#[44]⟩ r5 with
   | true =>
    have HC:=zh hc;have HE:Hid (e5=(if e5=0/\V.x.AA.drop (I.length+1)≠[]/\BX ⟨#[44]⟩ r5=false then 2 else e5)):=by show _=_;rw[Pd (by rintro ⟨_,_,g⟩;rw[hc] at g;cases g)]
    clear he hm hc;go_wp2_with (go_at_call 160;refine (zX ⟨#[44]⟩ ji.out.rd).mono ?_;rintro y w8 ⟨rfl,EM⟩;rw[HC.out];have uD:=zh (ji.out.below EM);clear EM);refine bodyPost_ret (results_none Tryz.results161 _ _ _) rfl ⟨rfl,I6.out _ _ uD HE⟩
   | false =>
    have HC:=zh hc;have HE:Hid (iH e5 2=(if e5=0/\V.x.AA.drop (I.length+1)≠[]/\BX ⟨#[44]⟩ r5=false then 2 else e5)):=by show _=_;rw[AAH ⟨he,HD.out,hc⟩];exact AAH he
    clear he hm hc;go_wp2_with (first|(go_at_call 160;refine (zX ⟨#[44]⟩ ji.out.rd).mono ?_;rintro y w8 ⟨rfl,EM⟩;rw[HC.out];have uD:=zh (ji.out.below EM);clear EM;have rr8:=(uD.out.reads (Ah.refl _ _)).1.2.2.2.1)|(go_at_call 78;refine (BZ 2 uD.out.rd).mono ?_;rintro y w9 ⟨rfl,g1,g2⟩;have HV9:=zh (uD.out.BJ g2 g1);clear g1 g2))
    refine bodyPost_ret (results_none Tryz.results161 _ _ _) rfl ⟨rfl,I6.out _ _ HV9 HE⟩
  ·have q2:¬ (I.length:Int)<(V.x.AA.length:Int) - 1:=by omega
   have HE:Hid (e5=(if e5=0/\V.x.AA.drop (I.length+1)≠[]/\BX ⟨#[44]⟩ r5=false then 2 else e5)):=by show _=_;rw[Pd (by rintro ⟨_,g,_⟩;exact g (ABW (by omega)))]
   clear he hm;go_wp2;refine bodyPost_ret (results_none Tryz.results161 _ _ _) rfl ⟨rfl,I6.out _ _ ji HE⟩
 ·have q1:(e5==0)=false:=by simp[he]
  have HE:Hid (e5=(if e5=0/\V.x.AA.drop (I.length+1)≠[]/\BX ⟨#[44]⟩ r5=false then 2 else e5)):=by show _=_;rw[Pd (fun g=>he g.1)]
  clear he;go_wp2;refine bodyPost_ret (results_none Tryz.results161 _ _ _) rfl ⟨rfl,I6.out _ _ ji HE⟩
theorem Yo {w8:World} {base n:Nat} {v8:Value} {xs:List Value} (ho:w8.ownsRow base 97 2 v8 (n+1) xs):∃g c,v8 = .slice (some ⟨g,0,none⟩) (n+1) c/\base<=g:=by
 rcases ho.2 with ⟨_,h0⟩|⟨g,cap,cur,hv,hg0,_⟩
 ·omega
 ·exact ⟨g,cap,hv,hg0⟩
theorem Mc {p:Nat} {a0 a1:Value} {T:TypeId} (h:w.heap[p]? = some (.cells #[a0,a1] T)):w.cell? ⟨p,0,none⟩=some a0/\w.cell? ⟨p,1,none⟩=some a1/\w.frozen? ⟨p,0,none⟩=false/\w.frozen? ⟨p,1,none⟩=false:=by
 refine ⟨?_,?_,AAR _ _ _ _ _ h,AAR _ _ _ _ _ h⟩ <;> (rw[AAN _ _ _ _ _ _ h];rfl)
theorem Hr (a c e:Int) (b d:ByteArray) (w:World):(Instr.field 59 (.agg #[.int .i64 a,.string b,.int .i64 c,.string d,.int .i64 e]) 2).run Tryz.prog w = .ok (.int .i64 c) w:=by kernel_rfl
theorem JR (a c e:Int) (b d:ByteArray) (w:World):(Instr.field 59 (.agg #[.int .i64 a,.string b,.int .i64 c,.string d,.int .i64 e]) 3).run Tryz.prog w = .ok (.string d) w:=by kernel_rfl
theorem Bv.Eu {e:Int} (h:Bv C w r k e) {q:Nat} (hq:q≠C.b) (hz:C.w0.heap.size<=q) (j:Nat) (u:Value):Bv C (w.setCell ⟨q,j,none⟩ u) r k e :=
 ⟨h.ok,(AAO _ _ _ _ (by simpa using hq.symm)).trans h.blk,h.Ta,h.up.setCell (p:=⟨q,j,none⟩) hz u⟩
theorem Tf {V:Vx} {W:World} {vk vi vr:Value} {KL I:List Aj} {R:List Af} (h:CR C V W r k 0 0 vk vi vr KL I R) (hpv:V.pv≠V.p) {Rt:KS} (hR:ML (Ag false C.s) Rt (I.map (·.v)) R (V.x.AA.drop I.length) r k) (hl:I.length+R.length<=1000000) (hi:I.length=V.x.AA.length):
  Calls Tryz.prog 161 #[.pointer (some ⟨V.pv,0,none⟩),.pointer (some ⟨V.px,0,none⟩),.pointer (some ⟨V.pr,0,none⟩)] W fun y W'=>y = .returned (.tuple #[])/\xS C V Rt r vk KL I R W':=by
 obtain ⟨A2,c2,rfl,_,_,_⟩:=h.vb.oi.reads;obtain ⟨A3,c3,rfl,_,_,_⟩:=h.vb.Rp.reads;rw[ABW (Nat.le_of_eq hi.symm)] at hR;have uL:=zh hR;have HV:=zh h;have QD:=zh hpv;have RL:=zh hl;have HI:=zh hi;have xI:=Hr;have fd3:=JR;have i1:¬ (I.length:Int)<(V.x.AA.length:Int):=by omega
 clear h hl hpv hR hi;obtain ⟨⟨r5,r6,r7,rr,rm,rk,re⟩,_⟩:=HV.out.reads (Ah.refl _ _);have rv:=HV.out.Qa QD (Ah.refl _ _)
 go_enter Tryz.func161,Tryz.ntmps161
 go_upto_region 13 with fail
 clear r5 r6 r7 rm rk re rv;have KV:Hid (C.b<W.heap.size):=HV.out.rd.lt
 go_cut [5] (fun s wx=>∃rb t0 r1 e1,s = .pointer (some ⟨rb,0,none⟩)/\Hid (W.heap.size<=rb/\Ah C.b W wx/\Bv C wx r1 k e1/\wx.heap[rb]? = some (dm ⟨t0.int,⟨#[]⟩⟩)/\Wx 2 r t0 r1 e1))
 case first =>
  go_wp2_with (go_at_call 122;refine (Bp 2 HV.out.rd).mono ?_;intro y w3 h3;obtain ⟨t0,r1,e1,rfl,g1,g2,g3⟩:=FU h3;have HW3:=zh g1;have HR3:=zh g2;have I5:=zh g3;clear h3 g1 g2 g3)
  go_meet
  exact ⟨_,t0,r1,e1,rfl,HW3.out.size,HW3.out.below (zD _ _) KV,HR3.out.below (zD _ _),AAL _ _,I5.out⟩
 case rest =>
 obtain ⟨W3,rfl⟩:∃W:World,W=wc:=⟨_,rfl⟩;obtain ⟨rb,t0,r1,e1,rfl,h3⟩:=hcut;have Wz:=zh h3.out.1;have HW3:=zh h3.out.2.1;have HR3:=zh h3.out.2.2.1;have HB3:=zh h3.out.2.2.2.1;have I5:=zh h3.out.2.2.2.2;clear h3 rr;have bB:Hid (rb≠C.b):=by have:=Wz.out;have:=KV.out;show _≠_;omega
 have LC:Hid (∀ (w w':World) (o:Obj),w.heap[rb]? = some o->Ah C.b w w'->w'.heap[rb]? = some o):=fun w w' o h1 h2=>(h2.Eu _ bB (zg.1 h1).1).trans h1
 have rr:=(HV.out.reads HW3).1.2.2.2.1;have rz:=HR3.out.zero
 go_upto_if 108 with fail
 go_cut [] (fun wx=>∃r3 e3,Hid (Ah C.b W wx/\Bv C wx r3 k e3/\wx.heap[rb]? = some (dm ⟨t0.int,⟨#[]⟩⟩)/\Uw ⟨#[58]⟩ r1 e1 r3 e3))
 case first =>
  by_cases he:e1=0
  ·have q1:(e1==0)=true:=by simp[he]
   have DL:Hid (Bv C W3 r1 k 0):=by have:=HR3.out;rw[he] at this;exact this
   have HE:=zh he;clear he rz;go_wp2_with (go_at_call 126;refine (BO ⟨#[58]⟩ DL).mono ?_;intro y w3 h3;obtain rfl:=h3.1;have Gx:=zh (Eo h3);clear h3);go_meet;obtain ⟨hb,r',e',g1,g2⟩:=Gx.out;exact ⟨r',e',HW3.out.trans hb,g1,LC.out _ _ _ HB3 hb,by rw[HE.out];exact g2⟩
  ·have q1:(e1==0)=false:=by simp[he]
   have HE:=zh he;clear he rz;go_wp2;go_meet;exact ⟨r1,e1,HW3.out,HR3.out,HB3.out,Me HE⟩
 case rest =>
 obtain ⟨W4,rfl⟩:∃W:World,W=wc:=⟨_,rfl⟩;obtain ⟨r3,e3,h4⟩:=hcut;have vI:=zh h4.out.1;have HR4:=zh h4.out.2.1;have Dl:=zh h4.out.2.2.1;have NN:=zh h4.out.2.2.2;clear h4 HR3 HW3 HB3 rr rz;have rr:=(HV.out.reads vI).1.2.2.2.1;have rz:=HR4.out.zero
 go_upto_if 115 with fail
 go_cut [] (fun wx=>∃t1 r5 e5,Hid (Ah C.b W wx/\Bv C wx r5 k e5/\wx.heap[rb]? = some (dm ⟨t0.int,t1.str⟩)/\Dk t1.str/\r5.length<=r3.length/\((e3≠0/\r5=r3/\e5=e3)\/(e3=0/\Wx 3 r3 t1 r5 e5))))
 case first =>
  by_cases he:e3=0
  ·have q1:(e3==0)=true:=by simp[he]
   have DL:Hid (Bv C W4 r3 k 0):=by have:=HR4.out;rw[he] at this;exact this
   have HE:=zh he;clear he rz;go_wp2_with (go_at_call 122;refine (Bp 3 DL).mono ?_;intro y w3 h3;obtain ⟨t1,r5,e5,rfl,g1,g2,g3⟩:=FU h3;have RI:=zh (vI.out.trans g1);have jO:=zh g2;have Ap:=zh (LC.out _ _ _ Dl g1);have vN:=zh g3;obtain ⟨x0,x1,y0,y1⟩:=Mc Ap;clear h3 g1 g2 g3);have Ca:=zh (AAW _ _ 1 _ _ (.string t1.str) Ap);go_meet
   exact ⟨t1,r5,e5,RI.out.two 1 _ Wz KV,jO.out.Eu bB (by have:=Wz.out;have:=KV.out;have:=HV.out.rd.ok.ge;omega) 1 _,Ca.out,vN.out.1.2.2,vN.out.1.1,.inr ⟨HE.out,vN.out⟩⟩
  ·have q1:(e3==0)=false:=by simp[he]
   have HE:=zh he;clear he rz;go_wp2;go_meet;exact ⟨KO,r3,e3,vI.out,HR4.out,Dl.out,by unfold Dk KO;decide,AAP _,.inl ⟨HE.out,rfl,rfl⟩⟩
 case rest =>
 obtain ⟨W5,rfl⟩:∃W:World,W=wc:=⟨_,rfl⟩;obtain ⟨t1,r5,e5,h5⟩:=hcut;have HV5:=zh (HV.out.BJ h5.out.1 h5.out.2.1);have Ap:=zh h5.out.2.2.1;have yU:=zh h5.out.2.2.2.1;have NP:Hid ((Value.slice A3 R.length c3).ownBlock≠some rb):=fun e=>by have:=(GL HV.out.vb).2.2 _ e;have:=Wz.out;omega
 have I6:Hid (∀ (W':World) (v8:Value),CR C V W' r5 k e5 0 vk (.slice A2 I.length c2) v8 KL I (R++[⟨t0.int,t1.str⟩])->xS C V Rt r vk KL I R W'):=fun W' v8 g1=>by
  have hh:=lV uL I5 NN h5.out.2.2.2.2.2;have h1:=I5.out.1.1;have h2:=NN.out.1;have h3:=h5.out.2.2.2.2.1;have hll:=RL.out;refine ⟨_,v8,I,_,r5,k,e5,g1,by omega,⟨by omega,by simp;omega⟩,fun g=>?_,hh.2⟩
  obtain ⟨j1,j2⟩:=hh.1 g;have hI:=HI.out;refine ⟨?_,by omega,by simp;omega⟩
  rw[ABW (Nat.le_of_eq hI.symm)];exact j1
 clear h5 vI HR4 Dl rr rz I5 NN uL;have GX:Hid (C.b<W5.heap.size):=HV5.out.rd.lt;have E8:=zh (fun (w':World) (hb:Ah C.b W5 w')=>And.intro (HV5.out.reads hb).1.2.2.1 (And.intro (HV5.out.Qa QD hb) (Mc (LC.out _ _ _ Ap hb))))
 go_upto_region 18 with fail
 refine yE (S:=(fun w'=>w'.cell? ⟨V.p,7,none⟩=some (.slice A3 R.length c3)/\w'.cell? ⟨V.pv,0,none⟩=some (.pointer (some ⟨V.p,0,none⟩))/\w'.cell? ⟨rb,0,none⟩=some (.int .i64 t0.int)/\w'.cell? ⟨rb,1,none⟩=some (.string t1.str))) 10 (by kernel_rfl) ?_ (fun AQ=>?_)
 ·(try dsimp only);(have hk:=E8.out _ (Ah.of (zC (Pe _ _) 1) (AAV GX));exact ⟨hk.1,hk.2.1,hk.2.2.1,hk.2.2.2.1⟩)
 refine tB 0 ?_;refine tB 1 ?_;refine tC 2 ?_;refine tC 3 ?_;refine tB 4 ?_;refine tB 5 ?_;try simp only[ps]
 refine tS 6 (fun K hK=>?_)
 go_simp
 refine hK.out _ _ ?_ (fun AQ=>?_)
 ·(try dsimp only);(have hk:=E8.out _ (Ah.of (zB (zC (Pe _ _) 1) (zD _ (dm ⟨t0.int,t1.str⟩))) (AAV GX));exact ⟨hk.1,hk.2.1,hk.2.2.1,hk.2.2.2.1⟩)
 clear hK K;refine tS 7 (fun K hK=>?_)
 (have FE:=zh (HV5.out.below (zB (zC (Pe _ _) 1) (zD _ (dm ⟨t0.int,t1.str⟩))));have BH:=zh (LC.out _ _ _ Ap (Ah.of (zB (zC (Pe W5.heap.size W5) 1) (zD _ (dm ⟨t0.int,t1.str⟩))) (AAV GX)));have hll:=RL.out;refine yH Un (by rfl) (.tmp 124) (.tmp 126) (by rfl) (V.p+1) (.slice A3 R.length c3) R.length (R.flatMap encR) (by rfl) FE.out.vb.Rp W5.heap.size 0 1 1 (encR ⟨t0.int,t1.str⟩) (by rfl) rfl (zR (W5.drewN 1) (encR ⟨t0.int,t1.str⟩) 97) (iL _) (by omega) (by omega) FE.out.vb.lt ?_;intro v8 w8 BI BB Ci;obtain ⟨g,c8,rfl,hgg⟩:=Yo BI;have LB:=zh (FE.out.Vu yU.out (Pe _ _) BI BB Ci);have Jg:=zh (FE.out.p8 BB (.inr (.inr rfl)));have U6:=zh (FE.out.Xf Jg (FE.out.SF BB (.inr (.inr rfl))));have BK:=zh (Mc ((yA BB (zg.1 BH).1 fun q hq e=>NP.out (e▸hq)).trans BH));obtain ⟨⟨_,_,c7⟩,_,_,f7⟩:=FE.out.c8 Jg;clear hll BI Ci hgg)
 refine hK.out _ _ ?_ (fun AQ=>?_)
 ·(try dsimp only);exact ⟨U6.out.1.2.2.1,U6.out.2 QD,BK.out.1,BK.out.2.1⟩
 clear hK K;refine tC 8 ?_;refine tC 9 ?_;refine zV (rs:=[10]) (by kernel_rfl) (by simp) ?_
 refine AB.last rfl (by kernel_rfl) (fun K hK=>?_) AB.nil
 go_simp
 refine hK.out _ _ ?_;clear hK K
 (try clear AQ)
 refine wpAny_done (by kernel_rfl) ?_ _
 (exact bodyPost_end (results_none Tryz.results161 _ _ _) rfl ⟨rfl,I6.out _ _ LB⟩)
end Go.Proofs.YthkkllmmbefedaaGreatDoor



