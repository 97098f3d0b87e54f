/-
  Walks: the literal's reader: a raw part of a record; the closure of record.
-/
import Derived.Test.YthkkllmmbefedaaGreatDoorQGA8
namespace Go.Proofs.YthkkllmmbefedaaGreatDoor
open Go.RowKit
set_option maxHeartbeats 16000000
set_option maxRecDepth 100000
def RcP (C:RCx) (V:Vx) (Rt:RecT) (r:List TokD) (vk:Value) (KL I:List VaA) (R:List RawD) (W':World):Prop :=
 ∃vi' vr' I' R' r' k' e',VfS C V W' r' k' e' 0 vk vi' vr' KL I' R'∧r'.length≤r.length∧(I'.length≤2000000∧R'.length≤2000000)∧(e'=0→RecJ (valR false C.s) Rt (I'.map (·.v)) R' (V.x.mems.drop I'.length) r' k'∧I'.length≤V.x.mems.length∧I'.length+R'.length+r'.length≤I.length+R.length+r.length)∧(e'≠0→Rt = .error e')
theorem mem_at {w:World} {A:zo} {l:List MemD} (h:MemsR w A l) {i:Nat} (hi:i<l.length):∃y mb mo,A=some ⟨mb,mo,none⟩∧y∈l∧l.drop i=y::l.drop (i+1)∧w.cell? ⟨mb,mo+i * 13,none⟩=some (.int .i64 y.id)∧w.cell? ⟨mb,mo+i * 13+1,none⟩=some (.string y.name)∧w.cell? ⟨mb,mo+i * 13+2,none⟩=some (.int .i64 y.type):=by
 obtain ⟨mb,mo,M1,m1,M2,m2,M3,m3,hA,hmr,t0,t1,t2,_⟩:=h.at13 hi;exact ⟨l[i],mb,mo,hA,List.getElem_mem hi,List.drop_eq_getElem_cons hi,t0,t1,t2⟩
abbrev rwO (r:RawD):Obj := .cells #[.int .i64 r.id,.string r.data] 97
theorem record1_mem {C:RCx} {V:Vx} {n:Nat} (ih:ReadAt C n) {W:World} {r:List TokD} {k:Bool} {vk vi vr:Value} {KL I:List VaA} {R:List RawD} (h:VfS C V W r k 0 0 vk vi vr KL I R) (hpv:V.pv≠V.p) (hn:r.length<n)
  (he:∀y∈V.x.mems,0≤y.type∧y.type<(C.s.length:Int)) {Rt:RecT} (hR:RecI (valR false C.s) Rt (I.map (·.v)) R (V.x.mems.drop I.length) r k) (hl:I.length+R.length≤1000000) (hi:I.length<V.x.mems.length) :
  Calls Tryz.prog 161 #[.pointer (some ⟨V.pv,0,none⟩),.pointer (some ⟨V.px,0,none⟩),.pointer (some ⟨V.pr,0,none⟩)] W fun y W'=>y = .returned (.tuple #[])∧RcP C V Rt r vk KL I R W':=by
 obtain ⟨A2,c2,rfl,_,_,_⟩:=h.vb.oi.reads;obtain ⟨y,mb,mo,hA,hym,hdr,t0,t1,t2⟩:=mem_at h.ty.mems hi;rw[hdr] at hR;have HMN:=zh (he _ hym);have HT1:=zh t1;have HT2:=zh t2;have hR0:=hR.name.1;subst hR0;have HRI:=zh hR;have HV:=zh h;have HPV:=zh hpv;have HN0:=zh hn;have HIH:=zh ih;have HLL:=zh hl;have HA:=zh hA;have HI:=zh hi;have i0:(0:Int)≤(I.length:Int):=by omega
 have i1:(I.length:Int)<(V.x.mems.length:Int):=by omega
 clear h ih hn he hl hpv hR hym hdr t0 t1 t2 hi hA;obtain ⟨⟨r5,r6,r7,rr,rm,rk,re⟩,_⟩:=HV.out.reads (Bsd.refl _ _);have rv:=HV.out.readV HPV.out (Bsd.refl _ _)
 go_enter Tryz.func161,Tryz.ntmps161
 go_upto_region 2 with fail
 clear r5 r6 r7 rm rk re rv
 go_cut [4] (fun s wx=>∃tb t0 r1 e1,s = .pointer (some ⟨tb,0,none⟩)∧Hid (VfS C V wx r1 k e1 0 vk (.slice A2 I.length c2) vr KL I []∧wx.heap[tb]? = some (tkO t0)∧TkQ 1 r t0 r1 e1))
 case first =>
  go_wp2_with (go_at_call 122;refine (nrTake_any 1 HV.out.rd).mono ?_;intro y w3 h3;obtain ⟨t0,r1,e1,rfl,g1,g2,g3⟩:=tkQ_of h3;have HV3:=zh (HV.out.bsd g1 g2);have HQ3:=zh g3;clear h3 g1 g2 g3)
  go_meet
  exact ⟨_,t0,r1,e1,rfl,HV3.out.below (zD _ _),heap_alloc_new _ _,HQ3.out⟩
 case rest =>
 obtain ⟨W3,rfl⟩:∃W:World,W=wc:=⟨_,rfl⟩;obtain ⟨tb,t0,r1,e1,rfl,h3⟩:=hcut;have HV3:=zh h3.out.1;have HQ3:=zh h3.out.2.2;obtain ⟨⟨_,x1,_,_,_⟩,_⟩:=five_cells h3.out.2.1;clear h3 HV rr;have rr:=(HV3.out.reads (Bsd.refl _ _)).1.2.2.2.1;have rm:=(HV3.out.reads (Bsd.refl _ _)).1.2.2.2.2.1;rw[HA.out] at rm;have rz:=HV3.out.rd.zero;have rn:=zA HV3.out.rd.up HT1.out
 obtain ⟨b3,hb3⟩:∃b:Bool,decide (e1=0∧t0.text≠y.name)=b:=⟨_,rfl⟩;have HB3:=zh hb3;clear hb3;go_upto_region 3 with fail
 go_cut [33] (fun s wx=>s = .bool b3∧Hid (VfS C V wx r1 k e1 0 vk (.slice A2 I.length c2) vr KL I []))
 case first =>
  by_cases he:e1=0
  ·have q1:(e1==0)=true:=by simp[he]
   by_cases hnm:t0.text=y.name
   ·have q2:(t0.text.toList==y.name.toList)=true:=by rw[bytes_beq];exact decide_eq_true hnm
    have HBB:Hid (b3=false):=by show _=_;rw[←HB3.out];exact decide_eq_false fun g=>g.2 hnm
    clear he hnm
    go_quiet (fail)
    go_wp2
    go_meet
    exact ⟨by rw[HBB.out],HV3.out.below (zC (Below.refl _ _) _)⟩
   ·have q2:(t0.text.toList==y.name.toList)=false:=by rw[bytes_beq];exact decide_eq_false hnm
    have HBB:Hid (b3=true):=by show _=_;rw[←HB3.out];exact decide_eq_true ⟨he,hnm⟩
    clear he hnm
    go_quiet (fail)
    go_wp2
    go_meet
    exact ⟨by rw[HBB.out],HV3.out.below (zC (Below.refl _ _) _)⟩
  ·have q1:(e1==0)=false:=by simp[he]
   have HBB:Hid (b3=false):=by show _=_;rw[←HB3.out];exact decide_eq_false fun g=>he g.1
   clear he
   go_quiet (fail)
   go_wp2
   go_meet
   exact ⟨by rw[HBB.out],HV3.out.below (zC (Below.refl _ _) _)⟩
 case rest =>
 obtain ⟨W4,rfl⟩:∃W:World,W=wc:=⟨_,rfl⟩;obtain ⟨rfl,h4⟩:=hcut;have HV4:=zh h4.out;clear h4 HV3 rr rm rz rn x1;have rr:=(HV4.out.reads (Bsd.refl _ _)).1.2.2.2.1
 go_upto_if 33 with fail
 go_cut [] (fun wx=>Hid (VfS C V wx r1 k (nmE y.name t0 e1) 0 vk (.slice A2 I.length c2) vr KL I []))
 case first =>
  cases b3 with
  | true =>
   have HE:Hid (nmE y.name t0 e1=erF e1 4):=by
    show _=_
    obtain ⟨g1,g2⟩:=of_decide_eq_true HB3.out;unfold nmE erF;rw[if_pos g1,if_neg g2,if_pos g1]
   go_wp2_with (go_at_call 78;refine (nrFail_any 4 HV4.out.rd).mono ?_;rintro y w5 ⟨rfl,g1,g2⟩;have HV5:=zh (HV4.out.bsd g2 g1);clear g1 g2)
   go_meet
   rw[HE.out];exact HV5.out
  | false =>
   have HE:Hid (nmE y.name t0 e1=e1):=by
    show _=_
    have g:=of_decide_eq_false HB3.out;unfold nmE
    by_cases he:e1=0
    ·rw[if_pos he,if_pos (Decidable.byContradiction fun h=>g ⟨he,h⟩),he]
    ·rw[if_neg he]
   go_wp2
   go_meet
   rw[HE.out];exact HV4.out
 case rest =>
 obtain ⟨W5,rfl⟩:∃W:World,W=wc:=⟨_,rfl⟩;have HV5:=zh hcut.out;clear hcut HV4 rr HB3;obtain ⟨e2,he2⟩:∃e2,nmE y.name t0 e1=e2:=⟨_,rfl⟩;have HE2:=zh he2;rw[he2] at HV5;clear he2;have rr:=(HV5.out.reads (Bsd.refl _ _)).1.2.2.2.1;have rz:=HV5.out.rd.zero
 go_upto_if 40 with fail
 go_cut [] (fun wx=>∃r3 e3,Hid (VfS C V wx r3 k e3 0 vk (.slice A2 I.length c2) vr KL I []∧SyQ ⟨#[58]⟩ r1 e2 r3 e3))
 case first =>
  by_cases he:e2=0
  ·have q1:(e2==0)=true:=by simp[he]
   have HV6:Hid (VfS C V W5 r1 k 0 0 vk (.slice A2 I.length c2) vr KL I []):=by have:=HV5.out;rw[he] at this;exact this
   have HE:=zh he;clear he rz;go_wp2_with (go_at_call 126;refine (nrSym_any ⟨#[58]⟩ HV6.out.rd).mono ?_;intro y w3 h3;obtain rfl:=h3.1;have HS3:=zh (syQ_of h3);clear h3);go_meet;obtain ⟨hb,r',e',g1,g2⟩:=HS3.out;exact ⟨r',e',HV6.out.bsd hb g1,by rw[HE.out];exact g2⟩
  ·have q1:(e2==0)=false:=by simp[he]
   have HE:=zh he;clear he rz;go_wp2;go_meet;exact ⟨r1,e2,HV5.out,syQ_no HE.out⟩
 case rest =>
 obtain ⟨W6,rfl⟩:∃W:World,W=wc:=⟨_,rfl⟩;obtain ⟨r3,e3,h6⟩:=hcut;have HV6:=zh h6.out.1;have HQ6:=zh h6.out.2;clear h6 HV5 rr rz;have HN4:Hid (r3.length<n):=by have:=HQ6.out.1;have:=HQ3.out.1.1;have:=HN0.out;show _<_;omega
 have HEL4:=zh HMN.out;have HLL4:Hid (I.length≤1000000):=by have:=HLL.out;show _≤_;simp only[List.length_nil] at this;omega
 go_upto_region 7 with fail
 go_cut [44] (fun s wx=>∃b0:Bool,s = .bool b0∧Hid (Below W6.heap.size W6 wx))
 case first =>
  go_region <;> (go_wp2;go_meet;exact ⟨_,rfl,zC (zD W6 _) 1⟩)
 case rest =>
 obtain ⟨b0,rfl,hb⟩:=hcut;obtain ⟨W4,rfl⟩:∃W:World,W=wc:=⟨_,rfl⟩;have HV4:=zh (HV6.out.below hb.out);clear hb HV6;have HLB4:Hid (C.b<W4.heap.size):=HV4.out.rd.lt;have HRD4:=zh (fun (w':World) (hb:Bsd C.b W4 w')=>And.intro (HA.out▸HV4.out.reads hb) (And.intro (HV4.out.readV HPV.out hb) (zA (HV4.out.oldB hb) HT2.out)))
 go_upto_if 44 with fail
 go_cut [] (fun wx=>Hid (ItP C V y.type r3 k e3 0 vk vr KL I [] wx))
 case first =>
  generalize y=ym at *
  cases b0 with
  | true =>
   go_upto_region 8 with fail
   refine yE (S:=(fun w'=>((w'.cell? ⟨V.p,5,none⟩=some vk∧w'.cell? ⟨V.p,6,none⟩=some (.slice A2 I.length c2)∧w'.cell? ⟨V.p,7,none⟩=some vr∧w'.cell? ⟨V.pr,0,none⟩=some (.pointer (some ⟨C.b,0,none⟩))∧w'.cell? ⟨V.px,6,none⟩=some (.slice (some ⟨mb,mo,none⟩) V.x.mems.length V.cm)∧w'.cell? ⟨V.px,7,none⟩=some (.int .i64 V.x.key)∧w'.cell? ⟨V.px,8,none⟩=some (.int .i64 V.x.elem))∧Hid (Bsd C.b W4 w'))∧(w'.cell? ⟨V.pv,0,none⟩=some (.pointer (some ⟨V.p,0,none⟩))∧w'.cell? ⟨mb,mo+I.length * 13+2,none⟩=some (.int .i64 ym.type)))) 14 (by kernel_rfl) ?_ (fun zH_=>?_)
   ·(try dsimp only);exact HRD4.out _ (Bsd.of (zC (Below.refl _ _) 1) (Nat.le_of_lt HLB4.out))
   refine tB 0 ?_;refine tC 1 ?_;refine tC 2 ?_;refine tB 3 ?_;refine tB 4 ?_;refine tC 5 ?_;try simp only[ps]
   refine tB 6 ?_;refine tC 7 ?_;refine tC 8 ?_;refine tC 9 ?_;refine tB 10 ?_;refine tC 12 ?_;try simp only[ps]
   refine zV (rs:=[11,13]) (by kernel_rfl) (by simp) ?_
   refine (AllReadyB.cons rfl (fun K hK=>?_) (AllReadyB.cons rfl (fun K hK=>?_) AllReadyB.nil))
   ·
    go_simp
    (refine (HIH.out ym.type _ r3 k e3 HN4.out HEL4.out (HV4.out.below (zC (Below.refl W4.heap.size W4) 1)).rd).mono ?_;rintro y w6 ⟨x,rfl,g1,g2,r6,k6,e6,g3,g4,g5,g6⟩;have HB6:=zh ((Bsd.of (zC (Below.refl W4.heap.size W4) 1) (Nat.le_of_lt HLB4.out)).trans g2);have HX6:=zh (HV4.out.hot HB6.out g1);have HV6:=zh (HV4.out.bsd HB6.out g3);have HG4:=zh g4;have HG5:=zh g5;have HG6:=zh g6;clear g1 g2 g3 g4 g5 g6)
    refine hK.out _ _ ?_ (fun zH_=>?_)
    ·(try dsimp only);exact HRD4.out _ HB6.out
    clear hK K;refine tS 13 (fun K hK=>?_)
    go_simp
    refine hK.out _ _ ?_ (fun zH_=>?_)
    ·(try dsimp only);exact HRD4.out _ (HB6.out.below (zD _ _) HLB4.out)
    clear hK K;refine zV (rs:=[14]) (by kernel_rfl) (by simp) ?_
    refine AllReadyB.last rfl (by kernel_rfl) (fun K hK=>?_) AllReadyB.nil
    (have HW6:=zh (HV6.out.below (zD w6 zO));have hll:=HLL4.out;refine yH elem_val (by rfl) (.tmp 48) (.tmp 58) (by rfl) (V.p+1) (.slice A2 I.length c2) I.length (I.flatMap VaA.cells) (by rfl) HW6.out.vb.oi w6.heap.size 0 1 1 yB (by rfl) rfl (zR w6 yB 28) zC_one (by omega) (by omega) HW6.out.vb.lt ?_;intro v8 w8 ho8 hg8 hv8;obtain ⟨g,c8,rfl,hgg⟩:=v8_slice ho8;have HE8:=zh (HV6.out.itemZ HX6.out (zD w6 zO) ho8 hg8 hv8);have HGP:Hid (V.p≠g):=zh (by omega);have HP8:=zh (HW6.out.p8 hg8 (.inr (.inl rfl)));obtain ⟨⟨_,c6,_⟩,_,f6,_⟩:=HW6.out.c8 HP8.out;have HTH:=zh (there_two (j:=6) (u := .slice (some ⟨g,0,none⟩) (I.length+1) c8) (own_there (xs:=yB) rfl ho8) HGP.out);have hlt1:(I.length:Int)<(I.length:Int)+1:=(by omega);have hlt0:(0:Int)≤(I.length:Int):=(by omega);clear hll ho8 hg8 hv8 hgg)
    refine hK.out _ _ ?_;clear hK K
    (try clear zH_)
    refine tkA 15 ?v12 rfl (by kernel_rfl) (.inl ⟨by rfl,?y12⟩) ?_
    case y12=>(intro w;go_simp;try with_reducible rfl)
    refine tkA 16 ?v13 rfl (by kernel_rfl) (.inl ⟨by rfl,?y13⟩) ?_
    case y13=>(intro w;go_simp;try with_reducible rfl)
    refine wpAny_ready (rs:=[17]) (by kernel_rfl) (by simp) ?_
    refine (AllReady.cons rfl (fun K hK=>?_) AllReady.nil)
    go_simp
    refine hK _ _ ?_;clear hK K;try simp only[ps]
    refine wpAny_done (by kernel_rfl) ?_ _
    (go_wp2_with (refine wpList_store_mid rfl 28 (.tmp 62) (.tmp 56) rfl g (I.length * 8) x.cells.toArray (by rfl) (by rfl) (HTH.out _ (by simp)) val_infN (vaA_all x) ?_);rw[yF HGP.out];go_meet;exact ⟨x,_,r6,k6,e6,HE8.out,HG4.out,HG5.out,HG6.out⟩)
   ·
    go_simp
    refine hK.out _ _ ?_ (fun zH_=>?_)
    ·(try dsimp only);exact HRD4.out _ (Bsd.of (zB (zC (Below.refl _ _) 1) (zD _ _)) (Nat.le_of_lt HLB4.out))
    clear hK K;refine tS 11 (fun K hK=>?_)
    go_simp
    (refine (HIH.out ym.type _ r3 k e3 HN4.out HEL4.out (HV4.out.below (zB (zC (Below.refl W4.heap.size W4) 1) (zD _ zO))).rd).mono ?_;rintro y w6 ⟨x,rfl,g1,g2,r6,k6,e6,g3,g4,g5,g6⟩;have HB6:=zh ((Bsd.of (zB (zC (Below.refl W4.heap.size W4) 1) (zD _ zO)) (Nat.le_of_lt HLB4.out)).trans g2);have HX6:=zh (HV4.out.hot HB6.out (g1.mono fun q _ hq=>by have hz:((W4.drewN 1).alloc zO).heap.size=W4.heap.size+1:=(by simp);show q<_;omega));have HRN6:=zh (range_bsd g2 (by have:=HLB4.out;show W4.heap.size≠_;omega) (zR (W4.drewN 1) yB 28));have HV6:=zh (HV4.out.bsd HB6.out g3);have HG4:=zh g4;have HG5:=zh g5;have HG6:=zh g6;clear g1 g2 g3 g4 g5 g6)
    refine hK.out _ _ ?_ (fun zH_=>?_)
    ·(try dsimp only);exact HRD4.out _ HB6.out
    clear hK K;refine zV (rs:=[14]) (by kernel_rfl) (by simp) ?_
    refine AllReadyB.last rfl (by kernel_rfl) (fun K hK=>?_) AllReadyB.nil
    (have hll:=HLL4.out;refine yH elem_val (by rfl) (.tmp 48) (.tmp 58) (by rfl) (V.p+1) (.slice A2 I.length c2) I.length (I.flatMap VaA.cells) (by rfl) HV6.out.vb.oi W4.heap.size 0 1 1 yB (by rfl) rfl HRN6.out zC_one (by omega) (by omega) HV6.out.vb.lt ?_;intro v8 w8 ho8 hg8 hv8;obtain ⟨g,c8,rfl,hgg⟩:=v8_slice ho8;have HE8:=zh (HV6.out.itemZ HX6.out (Below.refl _ _) ho8 hg8 hv8);have HGP:Hid (V.p≠g):=zh (by omega);have HP8:=zh (HV6.out.p8 hg8 (.inr (.inl rfl)));obtain ⟨⟨_,c6,_⟩,_,f6,_⟩:=HV6.out.c8 HP8.out;have HTH:=zh (there_two (j:=6) (u := .slice (some ⟨g,0,none⟩) (I.length+1) c8) (own_there (xs:=yB) rfl ho8) HGP.out);have hlt1:(I.length:Int)<(I.length:Int)+1:=(by omega);have hlt0:(0:Int)≤(I.length:Int):=(by omega);clear hll ho8 hg8 hv8 hgg)
    refine hK.out _ _ ?_;clear hK K
    (try clear zH_)
    refine tkA 15 ?v14 rfl (by kernel_rfl) (.inl ⟨by rfl,?y14⟩) ?_
    case y14=>(intro w;go_simp;try with_reducible rfl)
    refine tkA 16 ?v15 rfl (by kernel_rfl) (.inl ⟨by rfl,?y15⟩) ?_
    case y15=>(intro w;go_simp;try with_reducible rfl)
    refine wpAny_ready (rs:=[17]) (by kernel_rfl) (by simp) ?_
    refine (AllReady.cons rfl (fun K hK=>?_) AllReady.nil)
    go_simp
    refine hK _ _ ?_;clear hK K;try simp only[ps]
    refine wpAny_done (by kernel_rfl) ?_ _
    (go_wp2_with (refine wpList_store_mid rfl 28 (.tmp 62) (.tmp 56) rfl g (I.length * 8) x.cells.toArray (by rfl) (by rfl) (HTH.out _ (by simp)) val_infN (vaA_all x) ?_);rw[yF HGP.out];go_meet;exact ⟨x,_,r6,k6,e6,HE8.out,HG4.out,HG5.out,HG6.out⟩)
  | false =>
   go_upto_region 10 with fail
   refine yE (S:=(fun w'=>((w'.cell? ⟨V.p,5,none⟩=some vk∧w'.cell? ⟨V.p,6,none⟩=some (.slice A2 I.length c2)∧w'.cell? ⟨V.p,7,none⟩=some vr∧w'.cell? ⟨V.pr,0,none⟩=some (.pointer (some ⟨C.b,0,none⟩))∧w'.cell? ⟨V.px,6,none⟩=some (.slice (some ⟨mb,mo,none⟩) V.x.mems.length V.cm)∧w'.cell? ⟨V.px,7,none⟩=some (.int .i64 V.x.key)∧w'.cell? ⟨V.px,8,none⟩=some (.int .i64 V.x.elem))∧Hid True)∧(w'.cell? ⟨V.pv,0,none⟩=some (.pointer (some ⟨V.p,0,none⟩))∧w'.cell? ⟨mb,mo+I.length * 13+2,none⟩=some (.int .i64 ym.type)))) 17 (by kernel_rfl) ?_ (fun zH_=>?_)
   ·(try dsimp only);(have hk:=HRD4.out _ (Bsd.of (zC (Below.refl _ _) 1) (Nat.le_of_lt HLB4.out));exact ⟨⟨hk.1.1,trivial⟩,hk.2⟩)
   refine tB 0 ?_;refine tB 1 ?_;refine tC 2 ?_;refine tC 3 ?_;refine tB 4 ?_;refine tB 5 ?_;try simp only[ps]
   refine tC 6 ?_;refine tB 7 ?_;refine tC 8 ?_;refine tC 9 ?_;refine tC 10 ?_;refine tB 11 ?_;try simp only[ps]
   refine tS 12 (fun K hK=>?_)
   go_simp
   (refine (HIH.out ym.type _ r3 k e3 HN4.out HEL4.out (HV4.out.below (zC (Below.refl W4.heap.size W4) 1)).rd).mono ?_;rintro y w6 ⟨x,rfl,g1,g2,r6,k6,e6,g3,g4,g5,g6⟩;have HB6:=zh ((Bsd.of (zC (Below.refl W4.heap.size W4) 1) (Nat.le_of_lt HLB4.out)).trans g2);have HX6:=zh (HV4.out.hot HB6.out g1);have HV6:=zh (HV4.out.bsd HB6.out g3);have HG4:=zh g4;have HG5:=zh g5;have HG6:=zh g6;clear g1 g2 g3 g4 g5 g6)
   refine hK.out _ _ ?_ (fun zH_=>?_)
   ·(try dsimp only);(have hk:=HRD4.out _ (HB6.out);exact ⟨⟨hk.1.1,trivial⟩,hk.2⟩)
   clear hK K;refine tS 13 (fun K hK=>?_)
   go_simp
   refine hK.out _ _ ?_ (fun zH_=>?_)
   ·(try dsimp only);(have hk:=HRD4.out _ (HB6.out.below (zD w6 (.cells x.cells.toArray 28)) HLB4.out);exact ⟨⟨hk.1.1,trivial⟩,hk.2⟩)
   clear hK K;refine tS 14 (fun K hK=>?_)
   (have HW6:=zh (HV6.out.below (zD w6 (.cells x.cells.toArray 28)));have hll:=HLL4.out;refine yH elem_val (by rfl) (.tmp 67) (.tmp 76) (by rfl) (V.p+1) (.slice A2 I.length c2) I.length (I.flatMap VaA.cells) (by rfl) HW6.out.vb.oi w6.heap.size 0 1 1 x.cells (by rfl) rfl (zR w6 x.cells 28) (vaA_one x) (by omega) (by omega) HW6.out.vb.lt ?_;intro v8 w8 ho8 hg8 hv8;obtain ⟨g,c8,rfl,hgg⟩:=v8_slice ho8;have HE8:=zh (HV6.out.item HX6.out (zD w6 (.cells x.cells.toArray 28)) ho8 hg8 hv8);have HP8:=zh (HW6.out.p8 hg8 (.inr (.inl rfl)));have HQ8:=zh (HA.out▸HW6.out.readB HP8.out (HW6.out.grownQ hg8 (.inr (.inl rfl))));have HM8:=zh (zA (HW6.out.old8 hg8 (.inr (.inl rfl))) HT2.out);obtain ⟨⟨_,c6,_⟩,_,f6,_⟩:=HW6.out.c8 HP8.out;clear hll ho8 hv8 hgg)
   refine hK.out _ _ ?_ (fun zH_=>?_)
   ·(try dsimp only);exact ⟨⟨HQ8.out.1,trivial⟩,HQ8.out.2 HPV.out,HM8.out⟩
   clear hK K;refine tC 15 ?_;refine tC 16 ?_;refine zV (rs:=[17]) (by kernel_rfl) (by simp) ?_
   refine AllReadyB.last rfl (by kernel_rfl) (fun K hK=>?_) AllReadyB.nil
   go_simp
   refine hK.out _ _ ?_;clear hK K
   (try clear zH_)
   try simp only[ps]
   refine wpAny_done (by kernel_rfl) ?_ _
   (go_wp2;go_meet;exact ⟨x,_,r6,k6,e6,HE8.out,HG4.out,HG5.out,HG6.out⟩)
 case rest =>
 obtain ⟨W7,rfl⟩:∃W:World,W=wc:=⟨_,rfl⟩;obtain ⟨x,vi5,r5,k5,e5,hv5,hl5,hn5,hm5⟩:=hcut.out;have HV7:=zh hv5;have HL5:=zh hl5;have HFIN:Hid (∀ (W':World) (e6:Int),VfS C V W' r5 k5 e6 0 vk vi5 vr KL (I++[x]) []→e6=(if e5=0∧V.x.mems.drop (I.length+1)≠[]∧isP ⟨#[44]⟩ r5=false then 2 else e5)→RcP C V Rt r vk KL I [] W'):=fun W' e6 g1 g2=>by
  have hh:=rec_mem (valR_nz false C.s) HRI.out HQ3.out (HE2.out.symm▸HQ6.out) hl5 hn5 hm5 g2;have h3:=HQ3.out.1.1;have h6:=HQ6.out.1;have hll:=HLL.out;refine ⟨vi5,vr,I++[x],[],r5,k5,e6,g1,by omega,⟨by simp at hll ⊢;omega,by simp⟩,fun g=>?_,hh.2⟩
  obtain ⟨j1,j2⟩:=hh.1 g;have hI:=HI.out;refine ⟨?_,by simp;omega,by simp;omega⟩
  rw[List.map_append,List.length_append];exact j1
 clear hv5 hl5 hn5 hm5 hcut HRD4 HV4 HLB4 HQ3 HQ6 HRI HE2 HN4 HEL4 HLL4;have rr:=(HV7.out.reads (Bsd.refl _ _)).1.2.2.2.1;have rm:=(HV7.out.reads (Bsd.refl _ _)).1.2.2.2.2.1;rw[HA.out] at rm;have rz:=HV7.out.rd.zero;have hms:=HV7.out.ty.mems.1;unfold Lim at hms;have hmb:(V.x.mems.length:Int)≤1000000000000:=by omega
 clear hms;go_upto_region 11 with fail
 by_cases he:e5=0
 ·have q1:(e5==0)=true:=by simp[he]
  by_cases hm:I.length+1<V.x.mems.length
  ·have q2:(I.length:Int)<(V.x.mems.length:Int) - 1:=by omega
   have HD:Hid (V.x.mems.drop (I.length+1)≠[]):=fun e=>by have:=congrArg List.length e;simp at this;omega
   cases hc:isP ⟨#[44]⟩ r5 with
   | true =>
    have HC:=zh hc;have HE:Hid (e5=(if e5=0∧V.x.mems.drop (I.length+1)≠[]∧isP ⟨#[44]⟩ r5=false then 2 else e5)):=by show _=_;rw[if_neg (by rintro ⟨_,_,g⟩;rw[hc] at g;cases g)]
    clear he hm hc;go_wp2_with (go_at_call 160;refine (zX ⟨#[44]⟩ HV7.out.rd).mono ?_;rintro y w8 ⟨rfl,hb8⟩;rw[HC.out];have HV8:=zh (HV7.out.below hb8);clear hb8);refine bodyPost_ret (results_none Tryz.results161 _ _ _) rfl ⟨rfl,HFIN.out _ _ HV8.out HE.out⟩
   | false =>
    have HC:=zh hc;have HE:Hid (erF e5 2=(if e5=0∧V.x.mems.drop (I.length+1)≠[]∧isP ⟨#[44]⟩ r5=false then 2 else e5)):=by show _=_;rw[if_pos ⟨he,HD.out,hc⟩];exact if_pos he
    clear he hm hc;go_wp2_with (first|(go_at_call 160;refine (zX ⟨#[44]⟩ HV7.out.rd).mono ?_;rintro y w8 ⟨rfl,hb8⟩;rw[HC.out];have HV8:=zh (HV7.out.below hb8);clear hb8;have rr8:=(HV8.out.reads (Bsd.refl _ _)).1.2.2.2.1)|(go_at_call 78;refine (nrFail_any 2 HV8.out.rd).mono ?_;rintro y w9 ⟨rfl,g1,g2⟩;have HV9:=zh (HV8.out.bsd g2 g1);clear g1 g2))
    refine bodyPost_ret (results_none Tryz.results161 _ _ _) rfl ⟨rfl,HFIN.out _ _ HV9.out HE.out⟩
  ·have q2:¬ (I.length:Int)<(V.x.mems.length:Int) - 1:=by omega
   have HE:Hid (e5=(if e5=0∧V.x.mems.drop (I.length+1)≠[]∧isP ⟨#[44]⟩ r5=false then 2 else e5)):=by show _=_;rw[if_neg (by rintro ⟨_,g,_⟩;exact g (List.drop_eq_nil_of_le (by omega)))]
   clear he hm;go_wp2;refine bodyPost_ret (results_none Tryz.results161 _ _ _) rfl ⟨rfl,HFIN.out _ _ HV7.out HE.out⟩
 ·have q1:(e5==0)=false:=by simp[he]
  have HE:Hid (e5=(if e5=0∧V.x.mems.drop (I.length+1)≠[]∧isP ⟨#[44]⟩ r5=false then 2 else e5)):=by show _=_;rw[if_neg (fun g=>he g.1)]
  clear he;go_wp2;refine bodyPost_ret (results_none Tryz.results161 _ _ _) rfl ⟨rfl,HFIN.out _ _ HV7.out HE.out⟩
theorem v8_sliceR {w8:World} {base n:Nat} {v8:Value} {xs:List Value} (ho:w8.ownsRow base 97 2 v8 (n+1) xs):∃g c,v8 = .slice (some ⟨g,0,none⟩) (n+1) c∧base≤g:=by
 rcases ho.2 with ⟨_,h0⟩|⟨g,cap,cur,hv,hg0,_⟩
 ·omega
 ·exact ⟨g,cap,hv,hg0⟩
theorem two_cells {w:World} {p:Nat} {a0 a1:Value} {T:TypeId} (h:w.heap[p]? = some (.cells #[a0,a1] T)):w.cell? ⟨p,0,none⟩=some a0∧w.cell? ⟨p,1,none⟩=some a1∧w.frozen? ⟨p,0,none⟩=false∧w.frozen? ⟨p,1,none⟩=false:=by
 refine ⟨?_,?_,frozen_of_row _ _ _ _ _ h,frozen_of_row _ _ _ _ _ h⟩ <;> (rw[cell_of_row _ _ _ _ _ _ h];rfl)
theorem fld_tok2 (a c e:Int) (b d:ByteArray) (w:World):(Instr.field 59 (.agg #[.int .i64 a,.string b,.int .i64 c,.string d,.int .i64 e]) 2).run Tryz.prog w = .ok (.int .i64 c) w:=by kernel_rfl
theorem fld_tok3 (a c e:Int) (b d:ByteArray) (w:World):(Instr.field 59 (.agg #[.int .i64 a,.string b,.int .i64 c,.string d,.int .i64 e]) 3).run Tryz.prog w = .ok (.string d) w:=by kernel_rfl
theorem RdS.oth {C:RCx} {w:World} {r:List TokD} {k:Bool} {e:Int} (h:RdS C w r k e) {q:Nat} (hq:q≠C.b) (hz:C.w0.heap.size≤q) (j:Nat) (u:Value):RdS C (w.setCell ⟨q,j,none⟩ u) r k e :=
 ⟨h.ok,(heap_setCell_other _ _ _ _ (by simpa using hq.symm)).trans h.blk,h.sfx,h.up.setCell (p:=⟨q,j,none⟩) hz u⟩
theorem record1_raw {C:RCx} {V:Vx} {W:World} {r:List TokD} {k:Bool} {vk vi vr:Value} {KL I:List VaA} {R:List RawD} (h:VfS C V W r k 0 0 vk vi vr KL I R) (hpv:V.pv≠V.p)
  {Rt:RecT} (hR:RecI (valR false C.s) Rt (I.map (·.v)) R (V.x.mems.drop I.length) r k) (hl:I.length+R.length≤1000000) (hi:I.length=V.x.mems.length) :
  Calls Tryz.prog 161 #[.pointer (some ⟨V.pv,0,none⟩),.pointer (some ⟨V.px,0,none⟩),.pointer (some ⟨V.pr,0,none⟩)] W fun y W'=>y = .returned (.tuple #[])∧RcP C V Rt r vk KL I R W':=by
 obtain ⟨A2,c2,rfl,_,_,_⟩:=h.vb.oi.reads;obtain ⟨A3,c3,rfl,_,_,_⟩:=h.vb.or_.reads;rw[List.drop_eq_nil_of_le (Nat.le_of_eq hi.symm)] at hR;have HRI:=zh hR;have HV:=zh h;have HPV:=zh hpv;have HLL:=zh hl;have HI:=zh hi;have fd2:=fld_tok2;have fd3:=fld_tok3;have i1:¬ (I.length:Int)<(V.x.mems.length:Int):=by omega
 clear h hl hpv hR hi;obtain ⟨⟨r5,r6,r7,rr,rm,rk,re⟩,_⟩:=HV.out.reads (Bsd.refl _ _);have rv:=HV.out.readV HPV.out (Bsd.refl _ _)
 go_enter Tryz.func161,Tryz.ntmps161
 go_upto_region 13 with fail
 clear r5 r6 r7 rm rk re rv;have HLW:Hid (C.b<W.heap.size):=HV.out.rd.lt
 go_cut [5] (fun s wx=>∃rb t0 r1 e1,s = .pointer (some ⟨rb,0,none⟩)∧Hid (W.heap.size≤rb∧Bsd C.b W wx∧RdS C wx r1 k e1∧wx.heap[rb]? = some (rwO ⟨t0.int,⟨#[]⟩⟩)∧TkQ 2 r t0 r1 e1))
 case first =>
  go_wp2_with (go_at_call 122;refine (nrTake_any 2 HV.out.rd).mono ?_;intro y w3 h3;obtain ⟨t0,r1,e1,rfl,g1,g2,g3⟩:=tkQ_of h3;have HW3:=zh g1;have HR3:=zh g2;have HQ3:=zh g3;clear h3 g1 g2 g3)
  go_meet
  exact ⟨_,t0,r1,e1,rfl,HW3.out.size,HW3.out.below (zD _ _) HLW.out,HR3.out.below (zD _ _),heap_alloc_new _ _,HQ3.out⟩
 case rest =>
 obtain ⟨W3,rfl⟩:∃W:World,W=wc:=⟨_,rfl⟩;obtain ⟨rb,t0,r1,e1,rfl,h3⟩:=hcut;have HZB:=zh h3.out.1;have HW3:=zh h3.out.2.1;have HR3:=zh h3.out.2.2.1;have HB3:=zh h3.out.2.2.2.1;have HQ3:=zh h3.out.2.2.2.2;clear h3 rr;have HRB:Hid (rb≠C.b):=by have:=HZB.out;have:=HLW.out;show _≠_;omega
 have HBB:Hid (∀ (w w':World) (o:Obj),w.heap[rb]? = some o→Bsd C.b w w'→w'.heap[rb]? = some o):=fun w w' o h1 h2=>(h2.oth _ HRB.out (zg.1 h1).1).trans h1
 have rr:=(HV.out.reads HW3.out).1.2.2.2.1;have rz:=HR3.out.zero
 go_upto_if 108 with fail
 go_cut [] (fun wx=>∃r3 e3,Hid (Bsd C.b W wx∧RdS C wx r3 k e3∧wx.heap[rb]? = some (rwO ⟨t0.int,⟨#[]⟩⟩)∧SyQ ⟨#[58]⟩ r1 e1 r3 e3))
 case first =>
  by_cases he:e1=0
  ·have q1:(e1==0)=true:=by simp[he]
   have HV6:Hid (RdS C W3 r1 k 0):=by have:=HR3.out;rw[he] at this;exact this
   have HE:=zh he;clear he rz;go_wp2_with (go_at_call 126;refine (nrSym_any ⟨#[58]⟩ HV6.out).mono ?_;intro y w3 h3;obtain rfl:=h3.1;have HS3:=zh (syQ_of h3);clear h3);go_meet;obtain ⟨hb,r',e',g1,g2⟩:=HS3.out;exact ⟨r',e',HW3.out.trans hb,g1,HBB.out _ _ _ HB3.out hb,by rw[HE.out];exact g2⟩
  ·have q1:(e1==0)=false:=by simp[he]
   have HE:=zh he;clear he rz;go_wp2;go_meet;exact ⟨r1,e1,HW3.out,HR3.out,HB3.out,syQ_no HE.out⟩
 case rest =>
 obtain ⟨W4,rfl⟩:∃W:World,W=wc:=⟨_,rfl⟩;obtain ⟨r3,e3,h4⟩:=hcut;have HW4:=zh h4.out.1;have HR4:=zh h4.out.2.1;have HB4:=zh h4.out.2.2.1;have HQ4:=zh h4.out.2.2.2;clear h4 HR3 HW3 HB3 rr rz;have rr:=(HV.out.reads HW4.out).1.2.2.2.1;have rz:=HR4.out.zero
 go_upto_if 115 with fail
 go_cut [] (fun wx=>∃t1 r5 e5,Hid (Bsd C.b W wx∧RdS C wx r5 k e5∧wx.heap[rb]? = some (rwO ⟨t0.int,t1.str⟩)∧SOk t1.str∧r5.length≤r3.length∧((e3≠0∧r5=r3∧e5=e3)∨(e3=0∧TkQ 3 r3 t1 r5 e5))))
 case first =>
  by_cases he:e3=0
  ·have q1:(e3==0)=true:=by simp[he]
   have HV6:Hid (RdS C W4 r3 k 0):=by have:=HR4.out;rw[he] at this;exact this
   have HE:=zh he;clear he rz;go_wp2_with (go_at_call 122;refine (nrTake_any 3 HV6.out).mono ?_;intro y w3 h3;obtain ⟨t1,r5,e5,rfl,g1,g2,g3⟩:=tkQ_of h3;have HW5:=zh (HW4.out.trans g1);have HR5:=zh g2;have HB5:=zh (HBB.out _ _ _ HB4.out g1);have HQ5:=zh g3;obtain ⟨x0,x1,y0,y1⟩:=two_cells HB5.out;clear h3 g1 g2 g3);have HB7:=zh (heap_setCell_same _ _ 1 _ _ (.string t1.str) HB5.out);go_meet
   exact ⟨t1,r5,e5,HW5.out.two 1 _ HZB.out HLW.out,HR5.out.oth HRB.out (by have:=HZB.out;have:=HLW.out;have:=HV.out.rd.ok.ge;omega) 1 _,HB7.out,HQ5.out.1.2.2,HQ5.out.1.1,.inr ⟨HE.out,HQ5.out⟩⟩
  ·have q1:(e3==0)=false:=by simp[he]
   have HE:=zh he;clear he rz;go_wp2;go_meet;exact ⟨zTok,r3,e3,HW4.out,HR4.out,HB4.out,by unfold SOk zTok;decide,Nat.le_refl _,.inl ⟨HE.out,rfl,rfl⟩⟩
 case rest =>
 obtain ⟨W5,rfl⟩:∃W:World,W=wc:=⟨_,rfl⟩;obtain ⟨t1,r5,e5,h5⟩:=hcut;have HV5:=zh (HV.out.bsd h5.out.1 h5.out.2.1);have HB5:=zh h5.out.2.2.1;have HSO:=zh h5.out.2.2.2.1;have HNB:Hid ((Value.slice A3 R.length c3).ownBlock≠some rb):=fun e=>by have:=(hot_lt HV.out.vb).2.2 _ e;have:=HZB.out;omega
 have HFIN:Hid (∀ (W':World) (v8:Value),VfS C V W' r5 k e5 0 vk (.slice A2 I.length c2) v8 KL I (R++[⟨t0.int,t1.str⟩])→RcP C V Rt r vk KL I R W'):=fun W' v8 g1=>by
  have hh:=rec_raw HRI.out HQ3.out HQ4.out h5.out.2.2.2.2.2;have h1:=HQ3.out.1.1;have h2:=HQ4.out.1;have h3:=h5.out.2.2.2.2.1;have hll:=HLL.out;refine ⟨_,v8,I,_,r5,k,e5,g1,by omega,⟨by omega,by simp;omega⟩,fun g=>?_,hh.2⟩
  obtain ⟨j1,j2⟩:=hh.1 g;have hI:=HI.out;refine ⟨?_,by omega,by simp;omega⟩
  rw[List.drop_eq_nil_of_le (Nat.le_of_eq hI.symm)];exact j1
 clear h5 HW4 HR4 HB4 rr rz HQ3 HQ4 HRI;have HLB:Hid (C.b<W5.heap.size):=HV5.out.rd.lt;have HRD:=zh (fun (w':World) (hb:Bsd C.b W5 w')=>And.intro (HV5.out.reads hb).1.2.2.1 (And.intro (HV5.out.readV HPV.out hb) (two_cells (HBB.out _ _ _ HB5.out hb))))
 go_upto_region 18 with fail
 refine yE (S:=(fun w'=>w'.cell? ⟨V.p,7,none⟩=some (.slice A3 R.length c3)∧w'.cell? ⟨V.pv,0,none⟩=some (.pointer (some ⟨V.p,0,none⟩))∧w'.cell? ⟨rb,0,none⟩=some (.int .i64 t0.int)∧w'.cell? ⟨rb,1,none⟩=some (.string t1.str))) 10 (by kernel_rfl) ?_ (fun zH_=>?_)
 ·(try dsimp only);(have hk:=HRD.out _ (Bsd.of (zC (Below.refl _ _) 1) (Nat.le_of_lt HLB.out));exact ⟨hk.1,hk.2.1,hk.2.2.1,hk.2.2.2.1⟩)
 refine tB 0 ?_;refine tB 1 ?_;refine tC 2 ?_;refine tC 3 ?_;refine tB 4 ?_;refine tB 5 ?_;try simp only[ps]
 refine tS 6 (fun K hK=>?_)
 go_simp
 refine hK.out _ _ ?_ (fun zH_=>?_)
 ·(try dsimp only);(have hk:=HRD.out _ (Bsd.of (zB (zC (Below.refl _ _) 1) (zD _ (rwO ⟨t0.int,t1.str⟩))) (Nat.le_of_lt HLB.out));exact ⟨hk.1,hk.2.1,hk.2.2.1,hk.2.2.2.1⟩)
 clear hK K;refine tS 7 (fun K hK=>?_)
 (have HW6:=zh (HV5.out.below (zB (zC (Below.refl _ _) 1) (zD _ (rwO ⟨t0.int,t1.str⟩))));have HB6:=zh (HBB.out _ _ _ HB5.out (Bsd.of (zB (zC (Below.refl W5.heap.size W5) 1) (zD _ (rwO ⟨t0.int,t1.str⟩))) (Nat.le_of_lt HLB.out)));have hll:=HLL.out;refine yH elem_raw (by rfl) (.tmp 124) (.tmp 126) (by rfl) (V.p+1) (.slice A3 R.length c3) R.length (R.flatMap encR) (by rfl) HW6.out.vb.or_ W5.heap.size 0 1 1 (encR ⟨t0.int,t1.str⟩) (by rfl) rfl (zR (W5.drewN 1) (encR ⟨t0.int,t1.str⟩) 97) (encR_one _) (by omega) (by omega) HW6.out.vb.lt ?_;intro v8 w8 ho8 hg8 hv8;obtain ⟨g,c8,rfl,hgg⟩:=v8_sliceR ho8;have HE8:=zh (HW6.out.rawA HSO.out (Below.refl _ _) ho8 hg8 hv8);have HP8:=zh (HW6.out.p8 hg8 (.inr (.inr rfl)));have HQ8:=zh (HW6.out.readB HP8.out (HW6.out.grownQ hg8 (.inr (.inr rfl))));have HB8:=zh (two_cells ((yA hg8 (zg.1 HB6.out).1 fun q hq e=>HNB.out (e▸hq)).trans HB6.out));obtain ⟨⟨_,_,c7⟩,_,_,f7⟩:=HW6.out.c8 HP8.out;clear hll ho8 hv8 hgg)
 refine hK.out _ _ ?_ (fun zH_=>?_)
 ·(try dsimp only);exact ⟨HQ8.out.1.2.2.1,HQ8.out.2 HPV.out,HB8.out.1,HB8.out.2.1⟩
 clear hK K;refine tC 8 ?_;refine tC 9 ?_;refine zV (rs:=[10]) (by kernel_rfl) (by simp) ?_
 refine AllReadyB.last rfl (by kernel_rfl) (fun K hK=>?_) AllReadyB.nil
 go_simp
 refine hK.out _ _ ?_;clear hK K
 (try clear zH_)
 refine wpAny_done (by kernel_rfl) ?_ _
 (exact bodyPost_end (results_none Tryz.results161 _ _ _) rfl ⟨rfl,HFIN.out _ _ HE8.out⟩)
end Go.Proofs.YthkkllmmbefedaaGreatDoor


