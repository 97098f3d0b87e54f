/-
  Walks: the literal's reader: a raw part of a record; the closure of record.
-/
import Derived.Test.YthkkllmmbefedaaGreatDoorQGA8
namespace Go.Proofs.YthkkllmmbefedaaGreatDoor
open Go.RowKit Tryz
set_option maxHeartbeats 16000000
set_option maxRecDepth 100000
def RcP (C:Eh) (V:Vx) (Rt:Kv) (r:List AJ) (vk:Value) (KL I:List Aj) (R:List Af) (W':World):Prop :=
 ∃G5 nM I' R' r' k' e',CZ C V W' r' k' e' 0 vk G5 nM KL I' R'/\r'.length<=r.length/\(I'.length<=2000000/\R'.length<=2000000)/\(e'=0->QX (Ag false C.s) Rt (I'.map (·.v)) R' (V.x.AA.drop I'.length) r' k'/\I'.length<=V.x.AA.length/\I'.length+R'.length+r'.length<=I.length+R.length+r.length)/\(e'≠0->Rt = .error e')
variable {w:World}
theorem ve {A:zo} {l:List Ac} (h:GI w A l) {i:Nat} (hi:i<l.length):∃y mb mo,A=some ⟨mb,mo,none⟩/\y∈l/\l.drop i=y::l.drop (i+1)/\w.cell? ⟨mb,mo+i * 13,none⟩=some (.int .i64 y.id)/\w.cell? ⟨mb,mo+i * 13+1,none⟩=some (.string y.name)/\w.cell? ⟨mb,mo+i * 13+2,none⟩=some (.int .i64 y.type):=by
 obtain ⟨mb,mo,M1,m1,M2,m2,M3,m3,hA,hmr,t0,t1,t2,_⟩:=h.Mk hi;exact ⟨l[i],mb,mo,hA,AAL hi,ABf hi,t0,t1,t2⟩
abbrev jC (r:Af):Obj := .cells #[.int .i64 r.id,.string r.data] 97
variable {k:Bool} {r:List AJ} {C:Eh}
theorem Uq {V:Vx} {n:Nat} (ih:EB C n) {W:World} {vk vi vr:Value} {KL I:List Aj} {R:List Af} (h:CZ C V W r k 0 0 vk vi vr KL I R) (hpv:V.pv≠V.p) (hn:r.length<n) (he:∀y∈V.x.AA,0<=y.type/\y.type<(C.s.length:Int)) {Rt:Kv} (hR:Mr (Ag false C.s) Rt (I.map (·.v)) R (V.x.AA.drop I.length) r k) (hl:I.length+R.length<=1000000) (hi:I.length<V.x.AA.length):
  Calls prog 161 #[.pointer (some ⟨V.pv,0,none⟩),.pointer (some ⟨V.px,0,none⟩),.pointer (some ⟨V.pr,0,none⟩)] W fun y W'=>y = .returned (.tuple #[])/\RcP C V Rt r vk KL I R W':=by
 obtain ⟨A2,c2,rfl,_,_,_⟩:=h.vb.oi.reads;obtain ⟨y,mb,mo,hA,hym,hdr,t0,t1,t2⟩:=ve h.ty.AA hi;rw[hdr] at hR;have HMN:=zh (he _ hym);have HT1:=zh t1;have HT2:=zh t2;have hR0:=hR.name.1;subst hR0;have xX:=zh hR;have HV:=zh h;have Qu:=zh hpv;have nG:=zh hn;have Ed:=zh ih;have Lh:=zh hl;have HA:=zh hA;have HI:=zh hi;have i0:(0:Int)<=(I.length:Int):=by omega
 have i1:(I.length:Int)<(V.x.AA.length:Int):=by omega
 clear h ih hn he hl hpv hR hym hdr t0 t1 t2 hi hA;obtain ⟨⟨r5,r6,r7,rr,rm,rk,re⟩,_⟩:=HV.O.reads (Ah.refl _ _);have rv:=HV.O.RJ Qu (Ah.refl _ _)
 go_enter func161,ntmps161
 go_upto_region 2 with fail
 clear r5 r6 r7 rm rk re rv
 go_cut [4] (fun s wx=>∃tb t0 r1 e1,s = .pointer (some ⟨tb,0,none⟩)/\Hid (CZ C V wx r1 k e1 0 vk (.slice A2 I.length c2) vr KL I []/\wx.heap[tb]? = some (sU t0)/\YN 1 r t0 r1 e1))
 case first =>
  go_wp2_with (go_at_call 122;refine (Br 1 HV.O.rd).mono ?_;intro y w3 h3;obtain ⟨t0,r1,e1,rfl,g1,g2,g3⟩:=F5 h3;have KA:=zh (HV.O.BK g1 g2);have JU:=zh g3;clear h3 g1 g2 g3)
  go_meet
  exact ⟨_,t0,r1,e1,rfl,KA.O.below (zD _ _),AAA _ _,JU.O⟩
 case rest =>
 obtain ⟨W3,rfl⟩:∃W:World,W=wc:=⟨_,rfl⟩;obtain ⟨tb,t0,r1,e1,rfl,h3⟩:=hcut;have KA:=zh h3.O.1;have JU:=zh h3.O.2.2;obtain ⟨⟨_,x1,_,_,_⟩,_⟩:=Bd h3.O.2.1;clear h3 HV rr;have rr:=(KA.O.reads (Ah.refl _ _)).1.2.2.2.1;have rm:=(KA.O.reads (Ah.refl _ _)).1.2.2.2.2.1;rw[HA.O] at rm;have rz:=KA.O.rd.zero;have rn:=zA KA.O.rd.up HT1
 obtain ⟨b3,hb3⟩:∃b:Bool,decide (e1=0/\t0.text≠y.name)=b:=⟨_,rfl⟩;have HB3:=zh hb3;clear hb3;go_upto_region 3 with fail
 go_cut [33] (fun s wx=>s = .bool b3/\Hid (CZ C V wx r1 k e1 0 vk (.slice A2 I.length c2) vr KL I []))
 case first =>
  by_cases he:e1=0
  ·have q1:(e1==0)=true:=by simp[he]
   by_cases hnm:t0.text=y.name
   ·have q2:(t0.text.toList==y.name.toList)=true:=by rw[bytes_beq];exact AAJ hnm
    have Ll:Hid (b3=false):=by show _=_;rw[<-HB3.O];exact AAP fun g=>g.2 hnm
    clear he hnm
    go_quiet (fail)
    go_wp2
    go_meet
    exact ⟨by rw[Ll.O],KA.O.below (zC (Pe _ _) _)⟩
   ·have q2:(t0.text.toList==y.name.toList)=false:=by rw[bytes_beq];exact AAP hnm
    have Ll:Hid (b3=true):=by show _=_;rw[<-HB3.O];exact AAJ ⟨he,hnm⟩
    clear he hnm
    go_quiet (fail)
    go_wp2
    go_meet
    exact ⟨by rw[Ll.O],KA.O.below (zC (Pe _ _) _)⟩
  ·have q1:(e1==0)=false:=by simp[he]
   have Ll:Hid (b3=false):=by show _=_;rw[<-HB3.O];exact AAP fun g=>he g.1
   clear he
   go_quiet (fail)
   go_wp2
   go_meet
   exact ⟨by rw[Ll.O],KA.O.below (zC (Pe _ _) _)⟩
 case rest =>
 obtain ⟨W4,rfl⟩:∃W:World,W=wc:=⟨_,rfl⟩;obtain ⟨rfl,h4⟩:=hcut;have Fx:=zh h4.O;clear h4 KA rr rm rz rn x1;have rr:=(Fx.O.reads (Ah.refl _ _)).1.2.2.2.1
 go_upto_if 33 with fail
 go_cut [] (fun wx=>Hid (CZ C V wx r1 k (fC y.name t0 e1) 0 vk (.slice A2 I.length c2) vr KL I []))
 case first =>
  cases b3 with
  | true =>
   have HE:Hid (fC y.name t0 e1=lS e1 4):=by
    show _=_
    obtain ⟨g1,g2⟩:=AAr HB3;unfold fC lS;rw[AAB g1,Pd g2,AAB g1]
   go_wp2_with (go_at_call 78;refine (Bc 4 Fx.O.rd).mono ?_;rintro y w5 ⟨rfl,g1,g2⟩;have HV5:=zh (Fx.O.BK g2 g1);clear g1 g2)
   go_meet
   rw[HE.O];exact HV5.O
  | false =>
   have HE:Hid (fC y.name t0 e1=e1):=by
    show _=_
    have g:=of_decide_eq_false HB3;unfold fC
    by_cases he:e1=0
    ·rw[AAB he,AAB (Decidable.byContradiction fun h=>g ⟨he,h⟩),he]
    ·rw[Pd he]
   go_wp2
   go_meet
   rw[HE.O];exact Fx.O
 case rest =>
 obtain ⟨W5,rfl⟩:∃W:World,W=wc:=⟨_,rfl⟩;have HV5:=zh hcut.O;clear hcut Fx rr HB3;obtain ⟨e2,he2⟩:∃e2,fC y.name t0 e1=e2:=⟨_,rfl⟩;have HE2:=zh he2;rw[he2] at HV5;clear he2;have rr:=(HV5.O.reads (Ah.refl _ _)).1.2.2.2.1;have rz:=HV5.O.rd.zero
 go_upto_if 40 with fail
 go_cut [] (fun wx=>∃r3 e3,Hid (CZ C V wx r3 k e3 0 vk (.slice A2 I.length c2) vr KL I []/\WA ⟨#[58]⟩ r1 e2 r3 e3))
 case first =>
  by_cases he:e2=0
  ·have q1:(e2==0)=true:=by simp[he]
   have Dw:Hid (CZ C V W5 r1 k 0 0 vk (.slice A2 I.length c2) vr KL I []):=by have:=HV5.O;rw[he] at this;exact this
   have HE:=zh he;clear he rz;go_wp2_with (go_at_call 126;refine (BS ⟨#[58]⟩ Dw.O.rd).mono ?_;intro y w3 h3;obtain rfl:=h3.1;have H9:=zh (FJ h3);clear h3);go_meet;obtain ⟨hb,r',e',g1,g2⟩:=H9.O;exact ⟨r',e',Dw.O.BK hb g1,by rw[HE.O];exact g2⟩
  ·have q1:(e2==0)=false:=by simp[he]
   have HE:=zh he;clear he rz;go_wp2;go_meet;exact ⟨r1,e2,HV5.O,NH HE⟩
 case rest =>
 obtain ⟨W6,rfl⟩:∃W:World,W=wc:=⟨_,rfl⟩;obtain ⟨r3,e3,h6⟩:=hcut;have Dw:=zh h6.O.1;have uE:=zh h6.O.2;clear h6 HV5 rr rz;have uL:Hid (r3.length<n):=by have:=uE.O.1;have:=JU.O.1.1;have:=nG.O;show _<_;omega
 have WX:=zh HMN.O;have WV:Hid (I.length<=1000000):=by have:=Lh.O;show _<=_;simp only[List.length_nil] at this;omega
 go_upto_region 7 with fail
 go_cut [44] (fun s wx=>∃b0:Bool,s = .bool b0/\Hid (Below W6.heap.size W6 wx))
 case first =>
  go_region <;> (go_wp2;go_meet;exact ⟨_,rfl,zC (zD W6 _) 1⟩)
 case rest =>
 obtain ⟨b0,rfl,hb⟩:=hcut;obtain ⟨W4,rfl⟩:∃W:World,W=wc:=⟨_,rfl⟩;have Fx:=zh (Dw.O.below hb.O);clear hb Dw;have Ii:Hid (C.b<W4.heap.size):=Fx.O.rd.lt;have JS:=zh (fun (w':World) (hb:Ah C.b W4 w')=>And.intro (HA.O▸Fx.O.reads hb) (And.intro (Fx.O.RJ Qu hb) (zA (Fx.O.ACx hb) HT2)))
 go_upto_if 44 with fail
 go_cut [] (fun wx=>Hid (ItP C V y.type r3 k e3 0 vk vr KL I [] wx))
 case first =>
  generalize y=ym at *
  cases b0 with
  | true =>
   go_upto_region 8 with fail
   refine yE (S:=(fun w'=>((w'.cell? ⟨V.p,5,none⟩=some vk/\w'.cell? ⟨V.p,6,none⟩=some (.slice A2 I.length c2)/\w'.cell? ⟨V.p,7,none⟩=some vr/\w'.cell? ⟨V.pr,0,none⟩=some (.pointer (some ⟨C.b,0,none⟩))/\w'.cell? ⟨V.px,6,none⟩=some (.slice (some ⟨mb,mo,none⟩) V.x.AA.length V.cm)/\w'.cell? ⟨V.px,7,none⟩=some (.int .i64 V.x.key)/\w'.cell? ⟨V.px,8,none⟩=some (.int .i64 V.x.elem))/\Hid (Ah C.b W4 w'))/\(w'.cell? ⟨V.pv,0,none⟩=some (.pointer (some ⟨V.p,0,none⟩))/\w'.cell? ⟨mb,mo+I.length * 13+2,none⟩=some (.int .i64 ym.type)))) 14 (by kernel_rfl) ?_ (fun AQ=>?_)
   ·(try dsimp only);exact JS.O _ (Ah.of (zC (Pe _ _) 1) (AAM Ii))
   refine tB 0 ?_;refine tC 1 ?_;refine tC 2 ?_;refine tB 3 ?_;refine tB 4 ?_;refine tC 5 ?_;try simp only[ps]
   refine tB 6 ?_;refine tC 7 ?_;refine tC 8 ?_;refine tC 9 ?_;refine tB 10 ?_;refine tC 12 ?_;try simp only[ps]
   refine zV (rs:=[11,13]) (by kernel_rfl) (by simp) ?_
   refine (AB.cons rfl (fun K hK=>?_) (AB.cons rfl (fun K hK=>?_) AB.nil))
   ·
    go_simp
    (refine (Ed.O ym.type _ r3 k e3 uL WX (Fx.O.below (zC (Pe W4.heap.size W4) 1)).rd).mono ?_;rintro y w6 ⟨x,rfl,g1,g2,r6,k6,e6,g3,g4,g5,g6⟩;have BH:=zh ((Ah.of (zC (Pe W4.heap.size W4) 1) (AAM Ii)).trans g2);have JQ:=zh (Fx.O.hot BH g1);have Dw:=zh (Fx.O.BK BH g3);have NA:=zh g4;have Oe:=zh g5;have Od:=zh g6;clear g1 g2 g3 g4 g5 g6)
    refine hK.out _ _ ?_ (fun AQ=>?_)
    ·(try dsimp only);exact JS.O _ BH
    clear hK K;refine tS 13 (fun K hK=>?_)
    go_simp
    refine hK.out _ _ ?_ (fun AQ=>?_)
    ·(try dsimp only);exact JS.O _ (BH.O.below (zD _ _) Ii)
    clear hK K;refine zV (rs:=[14]) (by kernel_rfl) (by simp) ?_
    refine AB.last rfl (by kernel_rfl) (fun K hK=>?_) AB.nil
    (have Fa:=zh (Dw.O.below (zD w6 zO));have hll:=WV.O;refine yH AV (by rfl) (.tmp 48) (.tmp 58) (by rfl) (V.p+1) (.slice A2 I.length c2) I.length (I.flatMap Aj.cells) (by rfl) Fa.O.vb.oi w6.heap.size 0 1 1 yB (by rfl) rfl (zR w6 yB 28) JY (by omega) (by omega) Fa.O.vb.lt ?_;intro v8 w8 BB Aw Cv;obtain ⟨g,c8,rfl,hgg⟩:=Ce BB;have Lj:=zh (Dw.O.QG JQ (zD w6 zO) BB Aw Cv);have M4:Hid (V.p≠g):=zh (by omega);have KD:=zh (Fa.O.p8 Aw (.inr (.inl rfl)));obtain ⟨⟨_,c6,_⟩,_,f6,_⟩:=Fa.O.c8 KD;have KC:=zh (EZ (j:=6) (u := .slice (some ⟨g,0,none⟩) (I.length+1) c8) (Ec (xs:=yB) rfl BB) M4);have hlt1:(I.length:Int)<(I.length:Int)+1:=(by omega);have X6:(0:Int)<=(I.length:Int):=(by omega);clear hll BB Aw Cv hgg)
    refine hK.out _ _ ?_;clear hK K
    (try clear AQ)
    refine Ue 15 ?v12 rfl (by kernel_rfl) (.inl ⟨by rfl,?y12⟩) ?_
    case y12=>(intro w;go_simp;try with_reducible rfl)
    refine Ue 16 ?v13 rfl (by kernel_rfl) (.inl ⟨by rfl,?y13⟩) ?_
    case y13=>(intro w;go_simp;try with_reducible rfl)
    refine wpAny_ready (rs:=[17]) (by kernel_rfl) (by simp) ?_
    refine (AllReady.cons rfl (fun K hK=>?_) AllReady.nil)
    go_simp
    refine hK _ _ ?_;clear hK K;try simp only[ps]
    refine wpAny_done (by kernel_rfl) ?_ _
    (go_wp2_with (refine wpList_store_mid rfl 28 (.tmp 62) (.tmp 56) rfl g (I.length * 8) x.cells.toArray (by rfl) (by rfl) (KC.O _ (by simp)) Bw (C8 x) ?_);rw[yF M4.O];go_meet;exact ⟨x,_,r6,k6,e6,Lj.O,NA.O,Oe.O,Od.O⟩)
   ·
    go_simp
    refine hK.out _ _ ?_ (fun AQ=>?_)
    ·(try dsimp only);exact JS.O _ (Ah.of (zB (zC (Pe _ _) 1) (zD _ _)) (AAM Ii))
    clear hK K;refine tS 11 (fun K hK=>?_)
    go_simp
    (refine (Ed.O ym.type _ r3 k e3 uL WX (Fx.O.below (zB (zC (Pe W4.heap.size W4) 1) (zD _ zO))).rd).mono ?_;rintro y w6 ⟨x,rfl,g1,g2,r6,k6,e6,g3,g4,g5,g6⟩;have BH:=zh ((Ah.of (zB (zC (Pe W4.heap.size W4) 1) (zD _ zO)) (AAM Ii)).trans g2);have JQ:=zh (Fx.O.hot BH (g1.mono fun q _ hq=>by have hz:((W4.drewN 1).alloc zO).heap.size=W4.heap.size+1:=(by simp);show q<_;omega));have Tp:=zh (KN g2 (by have:=Ii.O;show W4.heap.size≠_;omega) (zR (W4.drewN 1) yB 28));have Dw:=zh (Fx.O.BK BH g3);have NA:=zh g4;have Oe:=zh g5;have Od:=zh g6;clear g1 g2 g3 g4 g5 g6)
    refine hK.out _ _ ?_ (fun AQ=>?_)
    ·(try dsimp only);exact JS.O _ BH
    clear hK K;refine zV (rs:=[14]) (by kernel_rfl) (by simp) ?_
    refine AB.last rfl (by kernel_rfl) (fun K hK=>?_) AB.nil
    (have hll:=WV.O;refine yH AV (by rfl) (.tmp 48) (.tmp 58) (by rfl) (V.p+1) (.slice A2 I.length c2) I.length (I.flatMap Aj.cells) (by rfl) Dw.O.vb.oi W4.heap.size 0 1 1 yB (by rfl) rfl Tp JY (by omega) (by omega) Dw.O.vb.lt ?_;intro v8 w8 BB Aw Cv;obtain ⟨g,c8,rfl,hgg⟩:=Ce BB;have Lj:=zh (Dw.O.QG JQ (Pe _ _) BB Aw Cv);have M4:Hid (V.p≠g):=zh (by omega);have KD:=zh (Dw.O.p8 Aw (.inr (.inl rfl)));obtain ⟨⟨_,c6,_⟩,_,f6,_⟩:=Dw.O.c8 KD;have KC:=zh (EZ (j:=6) (u := .slice (some ⟨g,0,none⟩) (I.length+1) c8) (Ec (xs:=yB) rfl BB) M4);have hlt1:(I.length:Int)<(I.length:Int)+1:=(by omega);have X6:(0:Int)<=(I.length:Int):=(by omega);clear hll BB Aw Cv hgg)
    refine hK.out _ _ ?_;clear hK K
    (try clear AQ)
    refine Ue 15 ?v14 rfl (by kernel_rfl) (.inl ⟨by rfl,?y14⟩) ?_
    case y14=>(intro w;go_simp;try with_reducible rfl)
    refine Ue 16 ?v15 rfl (by kernel_rfl) (.inl ⟨by rfl,?y15⟩) ?_
    case y15=>(intro w;go_simp;try with_reducible rfl)
    refine wpAny_ready (rs:=[17]) (by kernel_rfl) (by simp) ?_
    refine (AllReady.cons rfl (fun K hK=>?_) AllReady.nil)
    go_simp
    refine hK _ _ ?_;clear hK K;try simp only[ps]
    refine wpAny_done (by kernel_rfl) ?_ _
    (go_wp2_with (refine wpList_store_mid rfl 28 (.tmp 62) (.tmp 56) rfl g (I.length * 8) x.cells.toArray (by rfl) (by rfl) (KC.O _ (by simp)) Bw (C8 x) ?_);rw[yF M4.O];go_meet;exact ⟨x,_,r6,k6,e6,Lj.O,NA.O,Oe.O,Od.O⟩)
  | false =>
   go_upto_region 10 with fail
   refine yE (S:=(fun w'=>((w'.cell? ⟨V.p,5,none⟩=some vk/\w'.cell? ⟨V.p,6,none⟩=some (.slice A2 I.length c2)/\w'.cell? ⟨V.p,7,none⟩=some vr/\w'.cell? ⟨V.pr,0,none⟩=some (.pointer (some ⟨C.b,0,none⟩))/\w'.cell? ⟨V.px,6,none⟩=some (.slice (some ⟨mb,mo,none⟩) V.x.AA.length V.cm)/\w'.cell? ⟨V.px,7,none⟩=some (.int .i64 V.x.key)/\w'.cell? ⟨V.px,8,none⟩=some (.int .i64 V.x.elem))/\Hid True)/\(w'.cell? ⟨V.pv,0,none⟩=some (.pointer (some ⟨V.p,0,none⟩))/\w'.cell? ⟨mb,mo+I.length * 13+2,none⟩=some (.int .i64 ym.type)))) 17 (by kernel_rfl) ?_ (fun AQ=>?_)
   ·(try dsimp only);(have hk:=JS.O _ (Ah.of (zC (Pe _ _) 1) (AAM Ii));exact ⟨⟨hk.1.1,trivial⟩,hk.2⟩)
   refine tB 0 ?_;refine tB 1 ?_;refine tC 2 ?_;refine tC 3 ?_;refine tB 4 ?_;refine tB 5 ?_;try simp only[ps]
   refine tC 6 ?_;refine tB 7 ?_;refine tC 8 ?_;refine tC 9 ?_;refine tC 10 ?_;refine tB 11 ?_;try simp only[ps]
   refine tS 12 (fun K hK=>?_)
   go_simp
   (refine (Ed.O ym.type _ r3 k e3 uL WX (Fx.O.below (zC (Pe W4.heap.size W4) 1)).rd).mono ?_;rintro y w6 ⟨x,rfl,g1,g2,r6,k6,e6,g3,g4,g5,g6⟩;have BH:=zh ((Ah.of (zC (Pe W4.heap.size W4) 1) (AAM Ii)).trans g2);have JQ:=zh (Fx.O.hot BH g1);have Dw:=zh (Fx.O.BK BH g3);have NA:=zh g4;have Oe:=zh g5;have Od:=zh g6;clear g1 g2 g3 g4 g5 g6)
   refine hK.out _ _ ?_ (fun AQ=>?_)
   ·(try dsimp only);(have hk:=JS.O _ (BH.O);exact ⟨⟨hk.1.1,trivial⟩,hk.2⟩)
   clear hK K;refine tS 13 (fun K hK=>?_)
   go_simp
   refine hK.out _ _ ?_ (fun AQ=>?_)
   ·(try dsimp only);(have hk:=JS.O _ (BH.O.below (zD w6 (.cells x.cells.toArray 28)) Ii);exact ⟨⟨hk.1.1,trivial⟩,hk.2⟩)
   clear hK K;refine tS 14 (fun K hK=>?_)
   (have Fa:=zh (Dw.O.below (zD w6 (.cells x.cells.toArray 28)));have hll:=WV.O;refine yH AV (by rfl) (.tmp 67) (.tmp 76) (by rfl) (V.p+1) (.slice A2 I.length c2) I.length (I.flatMap Aj.cells) (by rfl) Fa.O.vb.oi w6.heap.size 0 1 1 x.cells (by rfl) rfl (zR w6 x.cells 28) (Bn x) (by omega) (by omega) Fa.O.vb.lt ?_;intro v8 w8 BB Aw Cv;obtain ⟨g,c8,rfl,hgg⟩:=Ce BB;have Lj:=zh (Dw.O.item JQ (zD w6 (.cells x.cells.toArray 28)) BB Aw Cv);have KD:=zh (Fa.O.p8 Aw (.inr (.inl rfl)));have WQ:=zh (HA.O▸Fa.O.Y0 KD (Fa.O.TY Aw (.inr (.inl rfl))));have eU:=zh (zA (Fa.O.ACy Aw (.inr (.inl rfl))) HT2);obtain ⟨⟨_,c6,_⟩,_,f6,_⟩:=Fa.O.c8 KD;clear hll BB Cv hgg)
   refine hK.out _ _ ?_ (fun AQ=>?_)
   ·(try dsimp only);exact ⟨⟨WQ.O.1,trivial⟩,WQ.O.2 Qu,eU.O⟩
   clear hK K;refine tC 15 ?_;refine tC 16 ?_;refine zV (rs:=[17]) (by kernel_rfl) (by simp) ?_
   refine AB.last rfl (by kernel_rfl) (fun K hK=>?_) AB.nil
   go_simp
   refine hK.out _ _ ?_;clear hK K
   (try clear AQ)
   try simp only[ps]
   refine wpAny_done (by kernel_rfl) ?_ _
   (go_wp2;go_meet;exact ⟨x,_,r6,k6,e6,Lj.O,NA.O,Oe.O,Od.O⟩)
 case rest =>
 obtain ⟨W7,rfl⟩:∃W:World,W=wc:=⟨_,rfl⟩;obtain ⟨x,vi5,r5,k5,e5,hv5,hl5,lH,Wj⟩:=hcut.O;have nT:=zh hv5;have fZ:=zh hl5;have JV:Hid (∀ (W':World) (e6:Int),CZ C V W' r5 k5 e6 0 vk vi5 vr KL (I++[x]) []->e6=(if e5=0/\V.x.AA.drop (I.length+1)≠[]/\Ba ⟨#[44]⟩ r5=false then 2 else e5)->RcP C V Rt r vk KL I [] W'):=fun W' e6 g1 g2=>by
  have hh:=pG (GK false C.s) xX JU (HE2.O.symm▸uE.O) hl5 lH Wj g2;have h3:=JU.O.1.1;have h6:=uE.O.1;have hll:=Lh.O;refine ⟨vi5,vr,I++[x],[],r5,k5,e6,g1,by omega,⟨by simp at hll ⊢;omega,by simp⟩,fun g=>?_,hh.2⟩
  obtain ⟨j1,j2⟩:=hh.1 g;have hI:=HI.O;refine ⟨?_,by simp;omega,by simp;omega⟩
  rw[List.map_append,ABF];exact j1
 clear hv5 hl5 lH Wj hcut JS Fx Ii JU uE xX HE2 uL WX WV;have rr:=(nT.O.reads (Ah.refl _ _)).1.2.2.2.1;have rm:=(nT.O.reads (Ah.refl _ _)).1.2.2.2.2.1;rw[HA.O] at rm;have rz:=nT.O.rd.zero;have hms:=nT.O.ty.AA.1;unfold EF at hms;have hmb:(V.x.AA.length:Int)<=1000000000000:=by omega
 clear hms;go_upto_region 11 with fail
 by_cases he:e5=0
 ·have q1:(e5==0)=true:=by simp[he]
  by_cases hm:I.length+1<V.x.AA.length
  ·have q2:(I.length:Int)<(V.x.AA.length:Int) - 1:=by omega
   have HD:Hid (V.x.AA.drop (I.length+1)≠[]):=fun e=>by have:=congrArg List.length e;simp at this;omega
   cases hc:Ba ⟨#[44]⟩ r5 with
   | true =>
    have HC:=zh hc;have HE:Hid (e5=(if e5=0/\V.x.AA.drop (I.length+1)≠[]/\Ba ⟨#[44]⟩ r5=false then 2 else e5)):=by show _=_;rw[Pd (by rintro ⟨_,_,g⟩;rw[hc] at g;cases g)]
    clear he hm hc;go_wp2_with (go_at_call 160;refine (zX ⟨#[44]⟩ nT.O.rd).mono ?_;rintro y w8 ⟨rfl,FU⟩;rw[HC.O];have HV8:=zh (nT.O.below FU);clear FU);refine bodyPost_ret (results_none results161 _ _ _) rfl ⟨rfl,JV.O _ _ HV8 HE⟩
   | false =>
    have HC:=zh hc;have HE:Hid (lS e5 2=(if e5=0/\V.x.AA.drop (I.length+1)≠[]/\Ba ⟨#[44]⟩ r5=false then 2 else e5)):=by show _=_;rw[AAB ⟨he,HD.O,hc⟩];exact AAB he
    clear he hm hc;go_wp2_with (first|(go_at_call 160;refine (zX ⟨#[44]⟩ nT.O.rd).mono ?_;rintro y w8 ⟨rfl,FU⟩;rw[HC.O];have HV8:=zh (nT.O.below FU);clear FU;have rr8:=(HV8.O.reads (Ah.refl _ _)).1.2.2.2.1)|(go_at_call 78;refine (Bc 2 HV8.O.rd).mono ?_;rintro y w9 ⟨rfl,g1,g2⟩;have fK:=zh (HV8.O.BK g2 g1);clear g1 g2))
    refine bodyPost_ret (results_none results161 _ _ _) rfl ⟨rfl,JV.O _ _ fK HE⟩
  ·have q2:¬ (I.length:Int)<(V.x.AA.length:Int) - 1:=by omega
   have HE:Hid (e5=(if e5=0/\V.x.AA.drop (I.length+1)≠[]/\Ba ⟨#[44]⟩ r5=false then 2 else e5)):=by show _=_;rw[Pd (by rintro ⟨_,g,_⟩;exact g (ABg (by omega)))]
   clear he hm;go_wp2;refine bodyPost_ret (results_none results161 _ _ _) rfl ⟨rfl,JV.O _ _ nT HE⟩
 ·have q1:(e5==0)=false:=by simp[he]
  have HE:Hid (e5=(if e5=0/\V.x.AA.drop (I.length+1)≠[]/\Ba ⟨#[44]⟩ r5=false then 2 else e5)):=by show _=_;rw[Pd (fun g=>he g.1)]
  clear he;go_wp2;refine bodyPost_ret (results_none results161 _ _ _) rfl ⟨rfl,JV.O _ _ nT HE⟩
theorem aD {w8:World} {base n:Nat} {v8:Value} {xs:List Value} (ho:w8.ownsRow base 97 2 v8 (n+1) xs):∃g c,v8 = .slice (some ⟨g,0,none⟩) (n+1) c/\base<=g:=by
 rcases ho.2 with ⟨_,h0⟩|⟨g,cap,cur,hv,hg0,_⟩
 ·omega
 ·exact ⟨g,cap,hv,hg0⟩
theorem NE {p:Nat} {a0 a1:Value} {T:TypeId} (h:w.heap[p]? = some (.cells #[a0,a1] T)):w.cell? ⟨p,0,none⟩=some a0/\w.cell? ⟨p,1,none⟩=some a1/\w.frozen? ⟨p,0,none⟩=false/\w.frozen? ⟨p,1,none⟩=false:=by
 refine ⟨?_,?_,AAG _ _ _ _ _ h,AAG _ _ _ _ _ h⟩ <;> (rw[AAC _ _ _ _ _ _ h];rfl)
theorem IX (a c e:Int) (b d:ByteArray) (w:World):(Instr.field 59 (.agg #[.int .i64 a,.string b,.int .i64 c,.string d,.int .i64 e]) 2).run prog w = .ok (.int .i64 c) w:=by kernel_rfl
theorem Jv (a c e:Int) (b d:ByteArray) (w:World):(Instr.field 59 (.agg #[.int .i64 a,.string b,.int .i64 c,.string d,.int .i64 e]) 3).run prog w = .ok (.string d) w:=by kernel_rfl
theorem CJ.FN {e:Int} (h:CJ C w r k e) {q:Nat} (hq:q≠C.b) (hz:C.w0.heap.size<=q) (j:Nat) (u:Value):CJ C (w.setCell ⟨q,j,none⟩ u) r k e :=
 ⟨h.ok,(AAE _ _ _ _ (by simpa using hq.symm)).trans h.blk,h.Uk,h.up.setCell (p:=⟨q,j,none⟩) hz u⟩
theorem Uo {V:Vx} {W:World} {vk vi vr:Value} {KL I:List Aj} {R:List Af} (h:CZ C V W r k 0 0 vk vi vr KL I R) (hpv:V.pv≠V.p) {Rt:Kv} (hR:Mr (Ag false C.s) Rt (I.map (·.v)) R (V.x.AA.drop I.length) r k) (hl:I.length+R.length<=1000000) (hi:I.length=V.x.AA.length):
  Calls prog 161 #[.pointer (some ⟨V.pv,0,none⟩),.pointer (some ⟨V.px,0,none⟩),.pointer (some ⟨V.pr,0,none⟩)] W fun y W'=>y = .returned (.tuple #[])/\RcP C V Rt r vk KL I R W':=by
 obtain ⟨A2,c2,rfl,_,_,_⟩:=h.vb.oi.reads;obtain ⟨A3,c3,rfl,_,_,_⟩:=h.vb.Sw.reads;rw[ABg (Nat.le_of_eq hi.symm)] at hR;have xX:=zh hR;have HV:=zh h;have Qu:=zh hpv;have Lh:=zh hl;have HI:=zh hi;have fd2:=IX;have fd3:=Jv;have i1:¬ (I.length:Int)<(V.x.AA.length:Int):=by omega
 clear h hl hpv hR hi;obtain ⟨⟨r5,r6,r7,rr,rm,rk,re⟩,_⟩:=HV.O.reads (Ah.refl _ _);have rv:=HV.O.RJ Qu (Ah.refl _ _)
 go_enter func161,ntmps161
 go_upto_region 13 with fail
 clear r5 r6 r7 rm rk re rv;have Ih:Hid (C.b<W.heap.size):=HV.O.rd.lt
 go_cut [5] (fun s wx=>∃rb t0 r1 e1,s = .pointer (some ⟨rb,0,none⟩)/\Hid (W.heap.size<=rb/\Ah C.b W wx/\CJ C wx r1 k e1/\wx.heap[rb]? = some (jC ⟨t0.int,⟨#[]⟩⟩)/\YN 2 r t0 r1 e1))
 case first =>
  go_wp2_with (go_at_call 122;refine (Br 2 HV.O.rd).mono ?_;intro y w3 h3;obtain ⟨t0,r1,e1,rfl,g1,g2,g3⟩:=F5 h3;have HW3:=zh g1;have HR3:=zh g2;have JU:=zh g3;clear h3 g1 g2 g3)
  go_meet
  exact ⟨_,t0,r1,e1,rfl,HW3.O.size,HW3.O.below (zD _ _) Ih,HR3.O.below (zD _ _),AAA _ _,JU.O⟩
 case rest =>
 obtain ⟨W3,rfl⟩:∃W:World,W=wc:=⟨_,rfl⟩;obtain ⟨rb,t0,r1,e1,rfl,h3⟩:=hcut;have YP:=zh h3.O.1;have HW3:=zh h3.O.2.1;have HR3:=zh h3.O.2.2.1;have HB3:=zh h3.O.2.2.2.1;have JU:=zh h3.O.2.2.2.2;clear h3 rr;have fQ:Hid (rb≠C.b):=by have:=YP.O;have:=Ih.O;show _≠_;omega
 have Ll:Hid (∀ (w w':World) (o:Obj),w.heap[rb]? = some o->Ah C.b w w'->w'.heap[rb]? = some o):=fun w w' o h1 h2=>(h2.FN _ fQ (zg.1 h1).1).trans h1
 have rr:=(HV.O.reads HW3).1.2.2.2.1;have rz:=HR3.O.zero
 go_upto_if 108 with fail
 go_cut [] (fun wx=>∃r3 e3,Hid (Ah C.b W wx/\CJ C wx r3 k e3/\wx.heap[rb]? = some (jC ⟨t0.int,⟨#[]⟩⟩)/\WA ⟨#[58]⟩ r1 e1 r3 e3))
 case first =>
  by_cases he:e1=0
  ·have q1:(e1==0)=true:=by simp[he]
   have Dw:Hid (CJ C W3 r1 k 0):=by have:=HR3.O;rw[he] at this;exact this
   have HE:=zh he;clear he rz;go_wp2_with (go_at_call 126;refine (BS ⟨#[58]⟩ Dw).mono ?_;intro y w3 h3;obtain rfl:=h3.1;have H9:=zh (FJ h3);clear h3);go_meet;obtain ⟨hb,r',e',g1,g2⟩:=H9.O;exact ⟨r',e',HW3.O.trans hb,g1,Ll.O _ _ _ HB3 hb,by rw[HE.O];exact g2⟩
  ·have q1:(e1==0)=false:=by simp[he]
   have HE:=zh he;clear he rz;go_wp2;go_meet;exact ⟨r1,e1,HW3.O,HR3.O,HB3.O,NH HE⟩
 case rest =>
 obtain ⟨W4,rfl⟩:∃W:World,W=wc:=⟨_,rfl⟩;obtain ⟨r3,e3,h4⟩:=hcut;have zk:=zh h4.O.1;have HR4:=zh h4.O.2.1;have ED:=zh h4.O.2.2.1;have OA:=zh h4.O.2.2.2;clear h4 HR3 HW3 HB3 rr rz;have rr:=(HV.O.reads zk).1.2.2.2.1;have rz:=HR4.O.zero
 go_upto_if 115 with fail
 go_cut [] (fun wx=>∃t1 r5 e5,Hid (Ah C.b W wx/\CJ C wx r5 k e5/\wx.heap[rb]? = some (jC ⟨t0.int,t1.str⟩)/\Cw t1.str/\r5.length<=r3.length/\((e3≠0/\r5=r3/\e5=e3)\/(e3=0/\YN 3 r3 t1 r5 e5))))
 case first =>
  by_cases he:e3=0
  ·have q1:(e3==0)=true:=by simp[he]
   have Dw:Hid (CJ C W4 r3 k 0):=by have:=HR4.O;rw[he] at this;exact this
   have HE:=zh he;clear he rz;go_wp2_with (go_at_call 122;refine (Br 3 Dw).mono ?_;intro y w3 h3;obtain ⟨t1,r5,e5,rfl,g1,g2,g3⟩:=F5 h3;have PE:=zh (zk.O.trans g1);have nU:=zh g2;have Aq:=zh (Ll.O _ _ _ ED g1);have HQ5:=zh g3;obtain ⟨x0,x1,y0,y1⟩:=NE Aq;clear h3 g1 g2 g3);have Bv:=zh (AAK _ _ 1 _ _ (.string t1.str) Aq);go_meet
   exact ⟨t1,r5,e5,PE.O.two 1 _ YP Ih,nU.O.FN fQ (by have:=YP.O;have:=Ih.O;have:=HV.O.rd.ok.ge;omega) 1 _,Bv.O,HQ5.O.1.2.2,HQ5.O.1.1,.inr ⟨HE.O,HQ5.O⟩⟩
  ·have q1:(e3==0)=false:=by simp[he]
   have HE:=zh he;clear he rz;go_wp2;go_meet;exact ⟨Kr,r3,e3,zk.O,HR4.O,ED.O,by unfold Cw Kr;decide,AAF _,.inl ⟨HE.O,rfl,rfl⟩⟩
 case rest =>
 obtain ⟨W5,rfl⟩:∃W:World,W=wc:=⟨_,rfl⟩;obtain ⟨t1,r5,e5,h5⟩:=hcut;have HV5:=zh (HV.O.BK h5.O.1 h5.O.2.1);have Aq:=zh h5.O.2.2.1;have HSO:=zh h5.O.2.2.2.1;have Km:Hid ((Value.slice A3 R.length c3).ownBlock≠some rb):=fun e=>by have:=(Gi HV.O.vb).2.2 _ e;have:=YP.O;omega
 have JV:Hid (∀ (W':World) (v8:Value),CZ C V W' r5 k e5 0 vk (.slice A2 I.length c2) v8 KL I (R++[⟨t0.int,t1.str⟩])->RcP C V Rt r vk KL I R W'):=fun W' v8 g1=>by
  have hh:=pF xX JU OA h5.O.2.2.2.2.2;have h1:=JU.O.1.1;have h2:=OA.O.1;have h3:=h5.O.2.2.2.2.1;have hll:=Lh.O;refine ⟨_,v8,I,_,r5,k,e5,g1,by omega,⟨by omega,by simp;omega⟩,fun g=>?_,hh.2⟩
  obtain ⟨j1,j2⟩:=hh.1 g;have hI:=HI.O;refine ⟨?_,by omega,by simp;omega⟩
  rw[ABg (Nat.le_of_eq hI.symm)];exact j1
 clear h5 zk HR4 ED rr rz JU OA xX;have GJ:Hid (C.b<W5.heap.size):=HV5.O.rd.lt;have Ej:=zh (fun (w':World) (hb:Ah C.b W5 w')=>And.intro (HV5.O.reads hb).1.2.2.1 (And.intro (HV5.O.RJ Qu hb) (NE (Ll.O _ _ _ Aq hb))))
 go_upto_region 18 with fail
 refine yE (S:=(fun w'=>w'.cell? ⟨V.p,7,none⟩=some (.slice A3 R.length c3)/\w'.cell? ⟨V.pv,0,none⟩=some (.pointer (some ⟨V.p,0,none⟩))/\w'.cell? ⟨rb,0,none⟩=some (.int .i64 t0.int)/\w'.cell? ⟨rb,1,none⟩=some (.string t1.str))) 10 (by kernel_rfl) ?_ (fun AQ=>?_)
 ·(try dsimp only);(have hk:=Ej.O _ (Ah.of (zC (Pe _ _) 1) (AAM GJ));exact ⟨hk.1,hk.2.1,hk.2.2.1,hk.2.2.2.1⟩)
 refine tB 0 ?_;refine tB 1 ?_;refine tC 2 ?_;refine tC 3 ?_;refine tB 4 ?_;refine tB 5 ?_;try simp only[ps]
 refine tS 6 (fun K hK=>?_)
 go_simp
 refine hK.out _ _ ?_ (fun AQ=>?_)
 ·(try dsimp only);(have hk:=Ej.O _ (Ah.of (zB (zC (Pe _ _) 1) (zD _ (jC ⟨t0.int,t1.str⟩))) (AAM GJ));exact ⟨hk.1,hk.2.1,hk.2.2.1,hk.2.2.2.1⟩)
 clear hK K;refine tS 7 (fun K hK=>?_)
 (have Fa:=zh (HV5.O.below (zB (zC (Pe _ _) 1) (zD _ (jC ⟨t0.int,t1.str⟩))));have BH:=zh (Ll.O _ _ _ Aq (Ah.of (zB (zC (Pe W5.heap.size W5) 1) (zD _ (jC ⟨t0.int,t1.str⟩))) (AAM GJ)));have hll:=Lh.O;refine yH Vr (by rfl) (.tmp 124) (.tmp 126) (by rfl) (V.p+1) (.slice A3 R.length c3) R.length (R.flatMap encR) (by rfl) Fa.O.vb.Sw W5.heap.size 0 1 1 (encR ⟨t0.int,t1.str⟩) (by rfl) rfl (zR (W5.drewN 1) (encR ⟨t0.int,t1.str⟩) 97) (lW _) (by omega) (by omega) Fa.O.vb.lt ?_;intro v8 w8 BB Aw Cv;obtain ⟨g,c8,rfl,hgg⟩:=aD BB;have Lj:=zh (Fa.O.XW HSO.O (Pe _ _) BB Aw Cv);have KD:=zh (Fa.O.p8 Aw (.inr (.inr rfl)));have WQ:=zh (Fa.O.Y0 KD (Fa.O.TY Aw (.inr (.inr rfl))));have BF:=zh (NE ((yA Aw (zg.1 BH).1 fun q hq e=>Km.O (e▸hq)).trans BH));obtain ⟨⟨_,_,c7⟩,_,_,f7⟩:=Fa.O.c8 KD;clear hll BB Cv hgg)
 refine hK.out _ _ ?_ (fun AQ=>?_)
 ·(try dsimp only);exact ⟨WQ.O.1.2.2.1,WQ.O.2 Qu,BF.O.1,BF.O.2.1⟩
 clear hK K;refine tC 8 ?_;refine tC 9 ?_;refine zV (rs:=[10]) (by kernel_rfl) (by simp) ?_
 refine AB.last rfl (by kernel_rfl) (fun K hK=>?_) AB.nil
 go_simp
 refine hK.out _ _ ?_;clear hK K
 (try clear AQ)
 refine wpAny_done (by kernel_rfl) ?_ _
 (exact bodyPost_end (results_none results161 _ _ _) rfl ⟨rfl,JV.O _ _ Lj⟩)
