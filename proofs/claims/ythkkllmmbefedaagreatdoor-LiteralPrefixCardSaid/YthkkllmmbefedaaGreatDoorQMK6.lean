/-
  Walks: the maker of values: put.
-/
import Derived.Test.YthkkllmmbefedaaGreatDoorQGM1
namespace Go.Proofs.YthkkllmmbefedaaGreatDoor
open Go.RowKit Go.Proofs.Tryz
set_option maxHeartbeats 16000000
set_option maxRecDepth 100000
structure JO (w:World) (vk vi:Value) (y z:Aj) (W:World):Prop where
 bv:W.heap[w.heap.size]? = some (I8 8 false 0 ⟨#[]⟩ 0 vk vi AP)
 bk:W.heap[w.heap.size+1]? = some (.cells #[.int .i64 y.v.kind,.bool y.v.bool,.int .i64 y.v.int,.string y.v.str,.int .i64 y.v.id,.slice y.A1 y.v.keys.length y.c1,.slice y.A2 y.v.items.length y.c2,.slice y.A3 y.v.rest.length y.c3] 28)
 bi:W.heap[w.heap.size+2]? = some (.cells #[.int .i64 z.v.kind,.bool z.v.bool,.int .i64 z.v.int,.string z.v.str,.int .i64 z.v.id,.slice z.A1 z.v.keys.length z.c1,.slice z.A2 z.v.items.length z.c2,.slice z.A3 z.v.rest.length z.c3] 28)
 br:W.heap[w.heap.size+3]? = some zO
 be:Below w.heap.size w W
section
variable {w W W':World} {vk vi:Value} {y z:Aj}
theorem JO.below (h:JO w vk vi y z W) (hb:Below W.heap.size W W'):JO w vk vi y z W':=⟨Au h.bv hb,Au h.bk hb,Au h.bi hb,Au h.br hb,h.be.trans (hb.mono h.be.size)⟩
theorem JO.new (w:World) (vk vi:Value) (y z:Aj):JO w vk vi y z ((((w.alloc (I8 8 false 0 ⟨#[]⟩ 0 vk vi AP)).alloc (y.v.box y.A1 y.c1 y.A2 y.c2 y.A3 y.c3)).alloc (z.v.box z.A1 z.c1 z.A2 z.c2 z.A3 z.c3)).alloc zO):=by
 have b1:=zD w (I8 8 false 0 ⟨#[]⟩ 0 vk vi AP);have b2:=zD (w.alloc (I8 8 false 0 ⟨#[]⟩ 0 vk vi AP)) (y.v.box y.A1 y.c1 y.A2 y.c2 y.A3 y.c3);have b3:=zD ((w.alloc (I8 8 false 0 ⟨#[]⟩ 0 vk vi AP)).alloc (y.v.box y.A1 y.c1 y.A2 y.c2 y.A3 y.c3)) (z.v.box z.A1 z.c1 z.A2 z.c2 z.A3 z.c3)
 have b4:=zD (((w.alloc (I8 8 false 0 ⟨#[]⟩ 0 vk vi AP)).alloc (y.v.box y.A1 y.c1 y.A2 y.c2 y.A3 y.c3)).alloc (z.v.box z.A1 z.c1 z.A2 z.c2 z.A3 z.c3)) zO;have s1:(w.alloc (I8 8 false 0 ⟨#[]⟩ 0 vk vi AP)).heap.size=w.heap.size+1:=by simp
 have s2:((w.alloc (I8 8 false 0 ⟨#[]⟩ 0 vk vi AP)).alloc (y.v.box y.A1 y.c1 y.A2 y.c2 y.A3 y.c3)).heap.size=w.heap.size+2:=by simp
 have s3:(((w.alloc (I8 8 false 0 ⟨#[]⟩ 0 vk vi AP)).alloc (y.v.box y.A1 y.c1 y.A2 y.c2 y.A3 y.c3)).alloc (z.v.box z.A1 z.c1 z.A2 z.c2 z.A3 z.c3)).heap.size=w.heap.size+3:=by simp
 have h2:=AAA (w.alloc (I8 8 false 0 ⟨#[]⟩ 0 vk vi AP)) (y.v.box y.A1 y.c1 y.A2 y.c2 y.A3 y.c3);have h3:=AAA ((w.alloc (I8 8 false 0 ⟨#[]⟩ 0 vk vi AP)).alloc (y.v.box y.A1 y.c1 y.A2 y.c2 y.A3 y.c3)) (z.v.box z.A1 z.c1 z.A2 z.c2 z.A3 z.c3)
 have h4:=AAA (((w.alloc (I8 8 false 0 ⟨#[]⟩ 0 vk vi AP)).alloc (y.v.box y.A1 y.c1 y.A2 y.c2 y.A3 y.c3)).alloc (z.v.box z.A1 z.c1 z.A2 z.c2 z.A3 z.c3)) zO;rw[s1] at h2;rw[s2] at h3;rw[s3] at h4;exact ⟨Au (Au (Au (AAA w _) b2) b3) b4,Au (Au h2 b3) b4,Au h3 b4,h4,zB (zB (zB b1 b2) b3) b4⟩
theorem JO.reads (h:JO w vk vi y z W):(W.cell? ⟨w.heap.size,5,none⟩=some vk/\W.cell? ⟨w.heap.size,6,none⟩=some vi)/\(W.cell? ⟨w.heap.size+1,0,none⟩=some (.int .i64 y.v.kind)/\W.cell? ⟨w.heap.size+1,1,none⟩=some (.bool y.v.bool)/\W.cell? ⟨w.heap.size+1,2,none⟩=some (.int .i64 y.v.int)/\W.cell? ⟨w.heap.size+1,3,none⟩=some (.string y.v.str)/\W.cell? ⟨w.heap.size+1,4,none⟩=some (.int .i64 y.v.id)/\W.cell? ⟨w.heap.size+1,5,none⟩=some (.slice y.A1 y.v.keys.length y.c1)/\W.cell? ⟨w.heap.size+1,6,none⟩=some (.slice y.A2 y.v.items.length y.c2)/\W.cell? ⟨w.heap.size+1,7,none⟩=some (.slice y.A3 y.v.rest.length y.c3))/\(W.cell? ⟨w.heap.size+2,0,none⟩=some (.int .i64 z.v.kind)/\W.cell? ⟨w.heap.size+2,1,none⟩=some (.bool z.v.bool)/\W.cell? ⟨w.heap.size+2,2,none⟩=some (.int .i64 z.v.int)/\W.cell? ⟨w.heap.size+2,3,none⟩=some (.string z.v.str)/\W.cell? ⟨w.heap.size+2,4,none⟩=some (.int .i64 z.v.id)/\W.cell? ⟨w.heap.size+2,5,none⟩=some (.slice z.A1 z.v.keys.length z.c1)/\W.cell? ⟨w.heap.size+2,6,none⟩=some (.slice z.A2 z.v.items.length z.c2)/\W.cell? ⟨w.heap.size+2,7,none⟩=some (.slice z.A3 z.v.rest.length z.c3)):=by
 have hb:=h.bv;unfold I8 at hb;refine ⟨⟨?_,?_⟩,(zK h.bk).1,(zK h.bi).1⟩ <;> (rw[AAC _ _ _ _ _ _ hb];rfl)
theorem JO.c5 (h:JO w vk vi y z W):(W.cell? ⟨w.heap.size,5,none⟩=some vk/\W.cell? ⟨w.heap.size,6,none⟩=some vi)/\W.frozen? ⟨w.heap.size,5,none⟩=false/\W.frozen? ⟨w.heap.size,6,none⟩=false :=
 ⟨h.reads.1,AAG _ _ _ _ _ h.bv,AAG _ _ _ _ _ h.bv⟩
theorem JO.Qk (h:JO w vk vi y z W) (v:Value):JO w v vi y z (W.setCell ⟨w.heap.size,5,none⟩ v):=by
 have hb:=h.bv;unfold I8 at hb;refine ⟨?_,(AAE _ _ _ _ (by show _≠w.heap.size;omega)).trans h.bk,(AAE _ _ _ _ (by show _≠w.heap.size;omega)).trans h.bi,(AAE _ _ _ _ (by show _≠w.heap.size;omega)).trans h.br,h.be.setCell (p:=⟨w.heap.size,5,none⟩) (AAF _) v⟩
 rw[AAK _ _ 5 _ _ v hb];rfl
theorem JO.Iy (h:JO w vk vi y z W) (v:Value):JO w vk v y z (W.setCell ⟨w.heap.size,6,none⟩ v):=by
 have hb:=h.bv;unfold I8 at hb;refine ⟨?_,(AAE _ _ _ _ (by show _≠w.heap.size;omega)).trans h.bk,(AAE _ _ _ _ (by show _≠w.heap.size;omega)).trans h.bi,(AAE _ _ _ _ (by show _≠w.heap.size;omega)).trans h.br,h.be.setCell (p:=⟨w.heap.size,6,none⟩) (AAF _) v⟩
 rw[AAK _ _ 6 _ _ v hb];rfl
end
variable {w:World}
theorem GY {p q:Nat} (h:q≠p) (v0 v1 v2 v3 v4 v5 v6 v7:Value):(q8 w p v0 v1 v2 v3 v4 v5 v6 v7).heap[q]? = w.heap[q]? := by
 unfold q8 q5;rw[AAE _ _ _ _ h,AAE _ _ _ _ h,AAE _ _ _ _ h,AAE _ _ _ _ h,AAE _ _ _ _ h,AAE _ _ _ _ h,AAE _ _ _ _ h,AAE _ _ _ _ h]
theorem Y6 {W:World} {vk vi:Value} {y z:Aj} (h:JO w vk vi y z W) {W9:World} (e:W9=q8 W (w.heap.size+3) (.int .i64 8) (.bool false) (.int .i64 0) (.string ⟨#[]⟩) (.int .i64 0) vk vi AP):
  W9.heap[w.heap.size+3]? = some (.cells #[.int .i64 8,.bool false,.int .i64 0,.string ⟨#[]⟩,.int .i64 0,vk,vi,AP] 28)/\Below w.heap.size w W9/\∀q,q≠w.heap.size+3->W9.heap[q]? = W.heap[q]? := by
 subst e;refine ⟨Gx h.br _ _ _ _ _ _ _ _,?_,fun q hq=>GY hq _ _ _ _ _ _ _ _⟩
 exact (((((((h.be.setCell (p:=⟨w.heap.size+3,0,none⟩) (by show _<=w.heap.size+3;omega) _).setCell (p:=⟨w.heap.size+3,1,none⟩) (by show _<=w.heap.size+3;omega) _).setCell (p:=⟨w.heap.size+3,2,none⟩) (by show _<=w.heap.size+3;omega) _).setCell (p:=⟨w.heap.size+3,3,none⟩) (by show _<=w.heap.size+3;omega) _).setCell (p:=⟨w.heap.size+3,4,none⟩) (by show _<=w.heap.size+3;omega) _).setCell (p:=⟨w.heap.size+3,5,none⟩) (by show _<=w.heap.size+3;omega) _).setCell (p:=⟨w.heap.size+3,6,none⟩) (by show _<=w.heap.size+3;omega) _).setCell (p:=⟨w.heap.size+3,7,none⟩) (by show _<=w.heap.size+3;omega) _
def ABH (w:World) (vk vi:Value) (KL IL:List Aj) (y z:Aj) (e:Ending) (w':World):Prop:=∃ (LF G5:Value) (K' I':List Aj),e = .returned (.agg #[.int .i64 8,.bool false,.int .i64 0,.string ⟨#[]⟩,.int .i64 0,LF,G5,AP])/\Below w.heap.size w w' /\
 ((LF=vk/\G5=vi/\K'=KL/\I'=IL)\/(Dc w' w.heap.size LF K'/\Dc w' w.heap.size G5 I'/\(∀q,LF.ownBlock=some q->G5.ownBlock≠some q)/\∃i:Nat,i<=KL.length/\K'=KL.take i++[y]++KL.drop i/\I'=IL.take i++[z]++IL.drop i/\(∀j (h:j<KL.length),j<i->BZ (KL[j]).v y.v<0)/\∀ (h:i<KL.length),¬ BZ (KL[i]).v y.v<0/\BZ (KL[i]).v y.v≠0))
theorem jO {b0:Nat} {vk vi:Value} {KL IL:List Aj} (hK:Dc w b0 vk KL) (hI:Dc w b0 vi IL) (hle:IL.length=KL.length) (hln:KL.length<=100) (hnil:KL=[]->vk=AP/\vi=AP) (y z:Aj) (hk:∀v∈KL,v.v.kind=y.v.kind/\(1<=v.v.kind/\v.v.kind<=4)/\(v.v.kind=2->In64 v.v.int/\In64 y.v.int)/\(v.v.str.size<=9223372036854775807/\y.v.str.size<=9223372036854775807)):
  Calls prog 113 #[.agg #[.int .i64 8,.bool false,.int .i64 0,.string ⟨#[]⟩,.int .i64 0,vk,vi,AP],y.v.v y.A1 y.c1 y.A2 y.c2 y.A3 y.c3,z.v.v z.A1 z.c1 z.A2 z.c2 z.A3 z.c3] w (ABH w vk vi KL IL y z):=by
 have UG:=zh (JO.new w vk vi y z);have HKO:=zh hK;have HIO:=zh hI;have Wn:=zh hle;have HKK:=zh hk;have uK:=zh hnil;obtain ⟨A,cK,rfl,hcK,-⟩:=NY hK;obtain ⟨B,cI,rfl,hcI,-⟩:=NY hI;clear hK hI hk hle hnil
 go_enter func113,ntmps113
 go_upto_region 1 with fail
 unfold I8 zO Val.box at UG;generalize World.alloc (World.alloc (World.alloc (World.alloc w _) _) _) _=W1 at *;have Zz:Hid (JO w (.slice A KL.length cK) (.slice B IL.length cI) y z W1):=UG.O;clear UG
 go_upto_block 0 with fail
 go_cut [7] (fun i wx=>∃k:Nat,k<=KL.length/\i = .int .i64 (k:Int)/\Hid (JO w (.slice A KL.length cK) (.slice B IL.length cI) y z wx/\(∀j (h:j<KL.length),j<k->BZ (KL[j]).v y.v<0)/\∀h:k<KL.length,¬ BZ (KL[k]).v y.v<0))
 case first =>
  go_wp2_with fail
  go_loopw [7] (fun i wr=>∃k:Nat,k<=KL.length/\i = .int .i64 (k:Int)/\Hid (JO w (.slice A KL.length cK) (.slice B IL.length cI) y z wr/\∀j (h:j<KL.length),j<k->BZ (KL[j]).v y.v<0)) (fun i _=>KL.length - (intOf i).toNat)
  case atStart=>exact ⟨0,by omega,rfl,Zz.O,fun _ _ h=>absurd h (by omega)⟩
  case round =>
   obtain ⟨k,hk,rfl,hh⟩:=hrel;obtain ⟨wo,rfl⟩:∃wo:World,wo=wr:=⟨_,rfl⟩;have HP:=zh hh.O.1;have EP:=zh hh.O.2;clear hh Zz
   by_cases hlt:k<KL.length
   ·as_aux_lemma =>
    obtain ⟨_,_,e1,-,hat,-⟩:=NY (HKO.O.below HP.O.be)
    injection e1 with e1 _ e2
    subst e1 e2;obtain ⟨g,rfl,hr⟩:=hat k hlt;have eY:=zh (HKK.O _ (AAL hlt));obtain ⟨x,hx⟩:∃x,KL[k]=x:=⟨_,rfl⟩;rw[hx] at hr eY;have HXE:=zh hx;have hc:=Ji (y:=x.v) hr;rw[Nat.zero_add] at hc
    have HC:Hid (∀w',Below wo.heap.size wo w'->(w'.cell? ⟨w.heap.size,5,none⟩=some (.slice (some ⟨g,0,none⟩) KL.length cK)/\(w'.cell? ⟨w.heap.size+1,0,none⟩=some (.int .i64 y.v.kind)/\w'.cell? ⟨w.heap.size+1,1,none⟩=some (.bool y.v.bool)/\w'.cell? ⟨w.heap.size+1,2,none⟩=some (.int .i64 y.v.int)/\w'.cell? ⟨w.heap.size+1,3,none⟩=some (.string y.v.str)/\w'.cell? ⟨w.heap.size+1,4,none⟩=some (.int .i64 y.v.id)/\w'.cell? ⟨w.heap.size+1,5,none⟩=some (.slice y.A1 y.v.keys.length y.c1)/\w'.cell? ⟨w.heap.size+1,6,none⟩=some (.slice y.A2 y.v.items.length y.c2)/\w'.cell? ⟨w.heap.size+1,7,none⟩=some (.slice y.A3 y.v.rest.length y.c3))/\(w'.cell? ⟨g,k * 8,none⟩=some (.int .i64 x.v.kind)/\w'.cell? ⟨g,k * 8+1,none⟩=some (.bool x.v.bool)/\w'.cell? ⟨g,k * 8+2,none⟩=some (.int .i64 x.v.int)/\w'.cell? ⟨g,k * 8+3,none⟩=some (.string x.v.str)/\w'.cell? ⟨g,k * 8+4,none⟩=some (.int .i64 x.v.id)/\w'.cell? ⟨g,k * 8+5,none⟩=some (.slice x.A1 x.v.keys.length x.c1)/\w'.cell? ⟨g,k * 8+6,none⟩=some (.slice x.A2 x.v.items.length x.c2)/\w'.cell? ⟨g,k * 8+7,none⟩=some (.slice x.A3 x.v.rest.length x.c3)))):=fun w' hb =>
     ⟨(HP.O.below hb).reads.1.1,(HP.O.below hb).reads.2.1,zA hb hc.1,zA hb hc.2.1,zA hb hc.2.2.1,zA hb hc.2.2.2.1,zA hb hc.2.2.2.2.1,zA hb hc.2.2.2.2.2.1,zA hb hc.2.2.2.2.2.2.1,zA hb hc.2.2.2.2.2.2.2⟩
    have h1:(0:Int)<=(k:Int):=by omega
    have h2:(k:Int)<(KL.length:Int):=by omega
    have h3:decide ((k:Int)<(KL.length:Int))=true:=AAJ h2;clear hr hx hc hat;go_upto_region 2 with fail
    refine zr (Y:=fun w'=>Hid (Below wo.heap.size wo w')) HC (by kernel_rfl) ?_ (fun AQ=>?_)
    ·(try dsimp only);exact ⟨HC.O _ (zC (Pe _ _) 1),(zC (Pe _ _) 1)⟩
    refine tL 0 ?_;try simp only[ps]
    refine tL 1 ?_;try simp only[ps]
    refine tL 2 ?_;try simp only[ps]
    refine tL 3 ?_;try simp only[ps]
    refine tL 4 ?_;try simp only[ps]
    refine tL 5 ?_;try simp only[ps]
    refine tL 6 ?_;try simp only[ps]
    refine tL 7 ?_;try simp only[ps]
    refine tL 8 ?_;try simp only[ps]
    refine tL 9 ?_;try simp only[ps]
    refine tL 10 ?_;try simp only[ps]
    refine tL 11 ?_;try simp only[ps]
    refine tR 12 (fun K hK=>?_)
    go_simp
    (have HB0:=zh AQ.2.O;refine (MK x.v y.v eY.O.1 eY.O.2.1 eY.O.2.2.1 eY.O.2.2.2 x.A1 x.c1 x.A2 x.c2 x.A3 x.c3 y.A1 y.c1 y.A2 y.c2 y.A3 y.c3 _).mono ?_;rintro e w6 ⟨rfl,hb6⟩;have BH:=zh (zB HB0 hb6);clear hb6)
    refine hK.out _ _ ?_ (fun AQ=>?_)
    ·(try dsimp only);exact ⟨HC.O _ BH,BH.O⟩
    clear hK K;try simp only[ps]
    refine tL 13 ?_;try simp only[ps]
    refine tL 14 ?_;try simp only[ps]
    refine wpAnyH_done (by kernel_rfl) ?_ _
    have Zy:=zh (HP.O.below AQ.2.O);clear AQ;generalize hcb:decide (BZ x.v y.v<0)=cb
    cases cb with
    | true =>
     have hc:=AAr hcb;have HL2:Hid (∀j (h:j<KL.length),j<k+1->BZ (KL[j]).v y.v<0):=fun j h hj=>by
      by_cases e:j=k
      ·subst e;rw[HXE.O];exact hc
      ·exact EP.O j h (by omega)
     clear hc hcb;go_wp2;go_roundw
     case rel=>exact ⟨k+1,by omega,by go_num,Zy.O,HL2.O⟩
     case measure=>simp[intOf];omega
    | false =>
     have HNL:Hid (∀h:k<KL.length,¬ BZ (KL[k]).v y.v<0):=fun h=>by rw[HXE.O];exact of_decide_eq_false hcb
     clear hcb;go_wp2;go_meet;exact ⟨k,by omega,rfl,Zy.O,EP.O,HNL.O⟩
   ·as_aux_lemma =>
    have HC:Hid (∀w',Below wo.heap.size wo w'->w'.cell? ⟨w.heap.size,5,none⟩=some (.slice A KL.length cK)):=fun w' hb=>(HP.O.below hb).reads.1.1
    have h3:decide ((k:Int)<(KL.length:Int))=false:=AAP (by omega)
    go_upto_region 2 with fail
    refine wp_region_held_drew (S:=(fun w'=>(w'.cell? ⟨w.heap.size,5,none⟩=some (.slice A KL.length cK))/\Hid (Below wo.heap.size wo w'))) (by kernel_rfl) ?_ (fun AQ=>?_)
    ·(try dsimp only);exact ⟨HC.O _ (zC (Pe _ _) 1),(zC (Pe _ _) 1)⟩
    refine tL 0 ?_;try simp only[ps]
    refine tL 1 ?_;try simp only[ps]
    refine tL 2 ?_;try simp only[ps]
    refine tL 3 ?_;try simp only[ps]
    refine tL 4 ?_;try simp only[ps]
    refine tL 5 ?_;try simp only[ps]
    refine tU 6 ?_;try simp only[ps]
    refine tU 7 ?_;try simp only[ps]
    refine tU 8 ?_;try simp only[ps]
    refine tU 9 ?_;try simp only[ps]
    refine tU 10 ?_;try simp only[ps]
    refine tU 11 ?_;try simp only[ps]
    refine tU 12 ?_;try simp only[ps]
    refine tU 13 ?_;try simp only[ps]
    refine tL 14 ?_;try simp only[ps]
    refine wpAnyH_done (by kernel_rfl) ?_ _
    have Zy:=zh (HP.O.below AQ.2.O);clear AQ;go_wp2;go_meet;exact ⟨k,by omega,rfl,Zy.O,EP.O,fun h=>absurd h hlt⟩
 case rest =>
 obtain ⟨k,hk,rfl,hh⟩:=hcut;obtain ⟨wo,rfl⟩:∃wo:World,wo=wc:=⟨_,rfl⟩;have HP:=zh hh.O.1;have EP:=zh hh.O.2.1;have HNL:=zh hh.O.2.2;clear hh Zz
 go_upto_block 1 with fail
 go_cut [39] (fun c wx=>∃b:Bool,c = .bool b/\Hid (JO w (.slice A KL.length cK) (.slice B IL.length cI) y z wx/\(b=false->∀h:k<KL.length,BZ (KL[k]).v y.v≠0)))
 case first =>
  by_cases hlt:k<KL.length
  ·as_aux_lemma =>
   obtain ⟨_,_,e1,-,hat,-⟩:=NY (HKO.O.below HP.O.be)
   injection e1 with e1 _ e2
   subst e1 e2;obtain ⟨g,rfl,hr⟩:=hat k hlt;have eY:=zh (HKK.O _ (AAL hlt));obtain ⟨x,hx⟩:∃x,KL[k]=x:=⟨_,rfl⟩;rw[hx] at hr eY;have HXE:=zh hx;have hc:=Ji (y:=x.v) hr;rw[Nat.zero_add] at hc
   have HC:Hid (∀w',Below wo.heap.size wo w'->(w'.cell? ⟨w.heap.size,5,none⟩=some (.slice (some ⟨g,0,none⟩) KL.length cK)/\(w'.cell? ⟨w.heap.size+1,0,none⟩=some (.int .i64 y.v.kind)/\w'.cell? ⟨w.heap.size+1,1,none⟩=some (.bool y.v.bool)/\w'.cell? ⟨w.heap.size+1,2,none⟩=some (.int .i64 y.v.int)/\w'.cell? ⟨w.heap.size+1,3,none⟩=some (.string y.v.str)/\w'.cell? ⟨w.heap.size+1,4,none⟩=some (.int .i64 y.v.id)/\w'.cell? ⟨w.heap.size+1,5,none⟩=some (.slice y.A1 y.v.keys.length y.c1)/\w'.cell? ⟨w.heap.size+1,6,none⟩=some (.slice y.A2 y.v.items.length y.c2)/\w'.cell? ⟨w.heap.size+1,7,none⟩=some (.slice y.A3 y.v.rest.length y.c3))/\(w'.cell? ⟨g,k * 8,none⟩=some (.int .i64 x.v.kind)/\w'.cell? ⟨g,k * 8+1,none⟩=some (.bool x.v.bool)/\w'.cell? ⟨g,k * 8+2,none⟩=some (.int .i64 x.v.int)/\w'.cell? ⟨g,k * 8+3,none⟩=some (.string x.v.str)/\w'.cell? ⟨g,k * 8+4,none⟩=some (.int .i64 x.v.id)/\w'.cell? ⟨g,k * 8+5,none⟩=some (.slice x.A1 x.v.keys.length x.c1)/\w'.cell? ⟨g,k * 8+6,none⟩=some (.slice x.A2 x.v.items.length x.c2)/\w'.cell? ⟨g,k * 8+7,none⟩=some (.slice x.A3 x.v.rest.length x.c3)))):=fun w' hb =>
    ⟨(HP.O.below hb).reads.1.1,(HP.O.below hb).reads.2.1,zA hb hc.1,zA hb hc.2.1,zA hb hc.2.2.1,zA hb hc.2.2.2.1,zA hb hc.2.2.2.2.1,zA hb hc.2.2.2.2.2.1,zA hb hc.2.2.2.2.2.2.1,zA hb hc.2.2.2.2.2.2.2⟩
   have h1:(0:Int)<=(k:Int):=by omega
   have h2:(k:Int)<(KL.length:Int):=by omega
   have h3:decide ((k:Int)<(KL.length:Int))=true:=AAJ h2;clear hr hx hc hat;go_upto_region 4 with fail
   refine zr (Y:=fun w'=>Hid (Below wo.heap.size wo w')) HC (by kernel_rfl) ?_ (fun AQ=>?_)
   ·(try dsimp only);exact ⟨HC.O _ (zC (Pe _ _) 1),(zC (Pe _ _) 1)⟩
   refine tL 0 ?_;try simp only[ps]
   refine tL 1 ?_;try simp only[ps]
   refine tL 2 ?_;try simp only[ps]
   refine tL 3 ?_;try simp only[ps]
   refine tL 4 ?_;try simp only[ps]
   refine tL 5 ?_;try simp only[ps]
   refine tL 6 ?_;try simp only[ps]
   refine tL 7 ?_;try simp only[ps]
   refine tL 8 ?_;try simp only[ps]
   refine tL 9 ?_;try simp only[ps]
   refine tL 10 ?_;try simp only[ps]
   refine tL 11 ?_;try simp only[ps]
   refine tR 12 (fun K hK=>?_)
   go_simp
   (have HB0:=zh AQ.2.O;refine (MK x.v y.v eY.O.1 eY.O.2.1 eY.O.2.2.1 eY.O.2.2.2 x.A1 x.c1 x.A2 x.c2 x.A3 x.c3 y.A1 y.c1 y.A2 y.c2 y.A3 y.c3 _).mono ?_;rintro e w6 ⟨rfl,hb6⟩;have BH:=zh (zB HB0 hb6);clear hb6)
   refine hK.out _ _ ?_ (fun AQ=>?_)
   ·(try dsimp only);exact ⟨HC.O _ BH,BH.O⟩
   clear hK K;try simp only[ps]
   refine tL 13 ?_;try simp only[ps]
   refine tL 14 ?_;try simp only[ps]
   refine wpAnyH_done (by kernel_rfl) ?_ _
   have Zy:=zh (HP.O.below AQ.2.O);clear AQ;generalize hcb:(BZ x.v y.v==0)=cb
   cases cb with
   | true =>
    clear hcb;go_wp2;go_meet;exact ⟨true,rfl,Zy.O,fun e=>by cases e⟩
   | false =>
    have HNZ:Hid (∀h:k<KL.length,BZ (KL[k]).v y.v≠0):=fun h=>by rw[HXE.O];intro e;rw[e] at hcb;cases hcb
    clear hcb;go_wp2;go_meet;exact ⟨false,rfl,Zy.O,fun _=>HNZ.O⟩
  ·as_aux_lemma =>
   have HC:Hid (∀w',Below wo.heap.size wo w'->w'.cell? ⟨w.heap.size,5,none⟩=some (.slice A KL.length cK)):=fun w' hb=>(HP.O.below hb).reads.1.1
   have h3:decide ((k:Int)<(KL.length:Int))=false:=AAP (by omega)
   go_upto_region 4 with fail
   refine wp_region_held_drew (S:=(fun w'=>(w'.cell? ⟨w.heap.size,5,none⟩=some (.slice A KL.length cK))/\Hid (Below wo.heap.size wo w'))) (by kernel_rfl) ?_ (fun AQ=>?_)
   ·(try dsimp only);exact ⟨HC.O _ (zC (Pe _ _) 1),(zC (Pe _ _) 1)⟩
   refine tL 0 ?_;try simp only[ps]
   refine tL 1 ?_;try simp only[ps]
   refine tL 2 ?_;try simp only[ps]
   refine tL 3 ?_;try simp only[ps]
   refine tL 4 ?_;try simp only[ps]
   refine tL 5 ?_;try simp only[ps]
   refine tU 6 ?_;try simp only[ps]
   refine tU 7 ?_;try simp only[ps]
   refine tU 8 ?_;try simp only[ps]
   refine tU 9 ?_;try simp only[ps]
   refine tU 10 ?_;try simp only[ps]
   refine tU 11 ?_;try simp only[ps]
   refine tU 12 ?_;try simp only[ps]
   refine tU 13 ?_;try simp only[ps]
   refine tL 14 ?_;try simp only[ps]
   refine wpAnyH_done (by kernel_rfl) ?_ _
   have Zy:=zh (HP.O.below AQ.2.O);clear AQ;go_wp2;go_meet;exact ⟨false,rfl,Zy.O,fun _ h=>absurd h hlt⟩
 case rest =>
 obtain ⟨b,rfl,hh⟩:=hcut;have Wm:=zh hh.O.1;have HNZ:=zh hh.O.2;clear hh HP
 cases b with
 | true =>
  have hbv:=Wm.O.bv;unfold I8 at hbv;obtain ⟨⟨v0,v1,v2,v3,v4,v5,v6,v7⟩,_⟩:=zK hbv;obtain ⟨⟨r0,r1,r2,r3,r4,r5,r6,r7⟩,f0,f1,f2,f3,f4,f5,f6,f7⟩:=zK Wm.O.br;clear hbv;have HF:=zh (fun W9=>Y6 (W9:=W9) Wm)
  unfold q8 q5 at HF;go_wp2;clear v0 v1 v2 v3 v4 v5 v6 v7 r0 r1 r2 r3 r4 r5 r6 r7 f0 f1 f2 f3 f4 f5 f6 f7;generalize World.setCell _ _ _=W9 at *;obtain ⟨h1,h2,_⟩:=HF.O _ rfl;obtain ⟨⟨z0,z1,z2,z3,z4,z5,z6,z7⟩,_⟩:=zK h1
  exact bodyPost_ret (v := .agg #[.int .i64 8,.bool false,.int .i64 0,.string ⟨#[]⟩,.int .i64 0,.slice A KL.length cK,.slice B IL.length cI,AP]) (by simp[results,results113,go_sem,z0,z1,z2,z3,z4,z5,z6,z7]) rfl ⟨_,_,KL,IL,rfl,h2,.inl ⟨rfl,rfl,rfl,rfl⟩⟩
 | false =>
 obtain ⟨wp,rfl⟩:∃wp:World,wp=wc:=⟨_,rfl⟩;have Ih:Hid (w.heap.size<wp.heap.size):=(zg.1 Wm.O.bv).1;have nY:Hid (w.heap.size+3<wp.heap.size):=(zg.1 Wm.O.br).1;have Mw:Hid (JO w (.slice A KL.length cK) (.slice B IL.length cI) y z wp):=Wm.O;have OC:=zh hk;have Kn:=zh hcK;have OB:=zh hln;have mr:Hid (¬ KL=[]->0<KL.length):=fun h=>List.length_pos_iff.2 h
 go_upto_region 6 with fail
 go_cut [] (fun wx=>∃v9:Value,JO w v9 (.slice B IL.length cI) y z wx/\Dc wx wp.heap.size v9 (KL.take k++[y]++KL.drop k)/\∀q,q≠w.heap.size->q<wp.heap.size->wx.heap[q]? = wp.heap[q]?)
 case first =>
  by_cases wL:KL=[]
  ·
   obtain ⟨hn1,hn2⟩:=uK.O wL;subst wL;obtain rfl:IL=[]:=AAn Wn;obtain rfl:k=0:=Nat.le_zero.1 OC;obtain ⟨hA,hc⟩:A=none/\cK=0:=by injection hn1 with g1 _ g2;exact ⟨g1,g2⟩
   obtain ⟨hA2,hc2⟩:B=none/\cI=0:=by injection hn2 with g1 _ g2;exact ⟨g1,g2⟩
   subst hA hc hA2 hc2
   have HC:Hid (∀w',Below wp.heap.size wp w'->(w'.cell? ⟨w.heap.size,5,none⟩=some (.slice none 0 0)/\(w'.cell? ⟨w.heap.size+1,0,none⟩=some (.int .i64 y.v.kind)/\w'.cell? ⟨w.heap.size+1,1,none⟩=some (.bool y.v.bool)/\w'.cell? ⟨w.heap.size+1,2,none⟩=some (.int .i64 y.v.int)/\w'.cell? ⟨w.heap.size+1,3,none⟩=some (.string y.v.str)/\w'.cell? ⟨w.heap.size+1,4,none⟩=some (.int .i64 y.v.id)/\w'.cell? ⟨w.heap.size+1,5,none⟩=some (.slice y.A1 y.v.keys.length y.c1)/\w'.cell? ⟨w.heap.size+1,6,none⟩=some (.slice y.A2 y.v.items.length y.c2)/\w'.cell? ⟨w.heap.size+1,7,none⟩=some (.slice y.A3 y.v.rest.length y.c3)))):=fun w' hb=>⟨(Wm.O.below hb).reads.1.1,(Wm.O.below hb).reads.2.1⟩
   clear hn1 hn2 hln hk hcK hcI
   refine yE (S:=(fun w'=>(w'.cell? ⟨w.heap.size,5,none⟩=some (.slice none 0 0)/\(w'.cell? ⟨w.heap.size+1,0,none⟩=some (.int .i64 y.v.kind)/\w'.cell? ⟨w.heap.size+1,1,none⟩=some (.bool y.v.bool)/\w'.cell? ⟨w.heap.size+1,2,none⟩=some (.int .i64 y.v.int)/\w'.cell? ⟨w.heap.size+1,3,none⟩=some (.string y.v.str)/\w'.cell? ⟨w.heap.size+1,4,none⟩=some (.int .i64 y.v.id)/\w'.cell? ⟨w.heap.size+1,5,none⟩=some (.slice y.A1 y.v.keys.length y.c1)/\w'.cell? ⟨w.heap.size+1,6,none⟩=some (.slice y.A2 y.v.items.length y.c2)/\w'.cell? ⟨w.heap.size+1,7,none⟩=some (.slice y.A3 y.v.rest.length y.c3)))/\Hid (Below wp.heap.size wp w'))) 15 (by kernel_rfl) ?_ (fun AQ=>?_)
   ·(try dsimp only);exact (fun hb=>⟨HC.O _ hb,hb⟩) (zC (Pe _ _) 1)
   refine tC 1 ?_;try simp only[ps]
   refine tB 2 ?_;try simp only[ps]
   refine tC 3 ?_;try simp only[ps]
   refine tC 4 ?_;try simp only[ps]
   refine tB 6 ?_;try simp only[ps]
   refine tC 9 ?_;try simp only[ps]
   refine tB 10 ?_;try simp only[ps]
   refine tC 11 ?_;try simp only[ps]
   refine tC 12 ?_;try simp only[ps]
   refine zV (rs:=[0,7]) (by kernel_rfl) (by simp) ?_
   refine (AB.cons rfl (fun K hK=>?_) (AB.cons rfl (fun K hK=>?_) AB.nil))
   ·
    go_simp
    refine hK.out _ _ ?_ (fun AQ=>?_)
    ·(try dsimp only);exact (fun hb=>⟨HC.O _ hb,hb⟩) (zB AQ.2.O (zD _ (.cells #[] 28)))
    clear hK K;try simp only[ps]
    refine zV (rs:=[5,7]) (by kernel_rfl) (by simp) ?_
    refine (AB.cons rfl (fun K hK=>?_) (AB.cons rfl (fun K hK=>?_) AB.nil))
    ·
     (have HOW:Hid (Dc _ wp.heap.size _ []):=zh (DK (wp.drewN 1) rfl (AAF _));have Bf:=zh AQ.2.O;refine AU AV (by rfl) (.tmp 41) (.tmp 45) (by rfl) wp.heap.size _ 0 [] (by rfl) HOW none 0 0 ([]) (by rfl) rfl (fun h=>absurd rfl h) (fun _ h=>by cases h) (by omega) (by omega) AQ.2.O.size ?_;intro v5 w5 I6 hg5 hv5;have JM:=zh I6;have Aq:=zh (Bf.O.grown hg5 Bf.O.size fun q hq=>(World.ownsRow.lt HOW q hq).1);clear I6 hg5 hv5)
     refine hK.out _ _ ?_ (fun AQ=>?_)
     ·(try dsimp only);exact ⟨HC.O _ Aq,Aq.O⟩
     clear hK K;try simp only[ps]
     refine tS 7 (fun K hK=>?_)
     go_simp
     refine hK.out _ _ ?_ (fun AQ=>?_)
     ·(try dsimp only);exact (fun hb=>⟨HC.O _ hb,hb⟩) (zB Aq (zD _ (.cells (y.cells).toArray 28)))
     clear hK K;try simp only[ps]
     refine tS 8 (fun K hK=>?_)
     (have Du:=zh (World.ownsRow.alloc JM (.cells (y.cells).toArray 28));have Df:=zh AQ.2.O;refine AU AV (by rfl) (.tmp 46) (.tmp 48) (by rfl) wp.heap.size v5 (0+0) _ (by rfl) Du (some ⟨_,0,none⟩) 1 1 y.cells (by rfl) rfl (fun _=>⟨_,0,rfl,zR w5 y.cells 28⟩) (Bn y) (by omega) (by omega) AQ.2.O.size ?_;intro v8 w8 BB Aw Cv;have Ig:=zh BB;have BF:=zh (Df.O.grown Aw Df.O.size fun q hq=>(World.ownsRow.lt Du q hq).1);clear BB Aw Cv)
     refine hK.out _ _ ?_ (fun AQ=>?_)
     ·(try dsimp only);exact ⟨HC.O _ BF,BF.O⟩
     clear hK K;try simp only[ps]
     refine tS 13 (fun K hK=>?_)
     (refine AU AV (by rfl) (.tmp 49) (.tmp 53) (by rfl) wp.heap.size v8 (0+0+1) _ (by rfl) Ig none 0 0 ([]) (by rfl) rfl (fun h=>absurd rfl h) (fun _ h=>by cases h) (by omega) (by omega) BF.O.size ?_;intro v13 gM Dp Dq Gh;have Dv:=zh (IU Dp);have BA:=zh (BF.O.grown Dq BF.O.size fun q hq=>(World.ownsRow.lt Ig q hq).1);clear Dp Dq Gh;obtain ⟨nL,c13,rfl,_⟩:=AZ.reads Dv)
     refine hK.out _ _ ?_ (fun AQ=>?_)
     ·(try dsimp only);exact ⟨HC.O _ BA,BA.O⟩
     clear hK K;try simp only[ps]
     refine tC 14 ?_;try simp only[ps]
     refine zV (rs:=[15]) (by kernel_rfl) (by simp) ?_
     refine AB.last rfl (by kernel_rfl) (fun K hK=>?_) AB.nil
     (obtain ⟨⟨_,_⟩,_,_⟩:=JO.c5 (Mw.O.below BA);go_simp)
     refine hK.out _ _ ?_;clear hK K
     (try clear AQ)
     try simp only[ps]
     refine wpAny_done (by kernel_rfl) ?_ _
     (go_wp2;go_meet;exact ⟨_,(Mw.O.below BA).Qk _,ES Dv Ih _ _,fun q h1 h2=>(AAE _ _ _ _ h1).trans (BA.O.block q h2)⟩)
    ·
     go_simp
     refine hK.out _ _ ?_ (fun AQ=>?_)
     ·(try dsimp only);exact (fun hb=>⟨HC.O _ hb,hb⟩) (zB AQ.2.O (zD _ (.cells (y.cells).toArray 28)))
     clear hK K;try simp only[ps]
     refine tS 5 (fun K hK=>?_)
     (have HOW:Hid (Dc _ wp.heap.size _ []):=zh (AZ.alloc (DK (wp.drewN 1) rfl (AAF _)) (.cells (y.cells).toArray 28));have Bf:=zh AQ.2.O;refine AU AV (by rfl) (.tmp 41) (.tmp 45) (by rfl) wp.heap.size _ 0 [] (by rfl) HOW none 0 0 ([]) (by rfl) rfl (fun h=>absurd rfl h) (fun _ h=>by cases h) (by omega) (by omega) AQ.2.O.size ?_;intro v5 w5 I6 hg5 hv5;have YQ:=zh (Cx hg5 (by intro e0;injection e0 with e0;revert e0;simp) (Dl ((wp.drewN 1).alloc (.cells #[] 28)) (p:=wp.heap.size+1) (by simp) y.cells 28));have JM:=zh I6;have Aq:=zh (Bf.O.grown hg5 Bf.O.size fun q hq=>(World.ownsRow.lt HOW q hq).1);clear I6 hg5 hv5)
     refine hK.out _ _ ?_ (fun AQ=>?_)
     ·(try dsimp only);exact ⟨HC.O _ Aq,Aq.O⟩
     clear hK K;try simp only[ps]
     refine tS 8 (fun K hK=>?_)
     (have Du:=zh (JM.O);have Df:=zh AQ.2.O;refine AU AV (by rfl) (.tmp 46) (.tmp 48) (by rfl) wp.heap.size v5 (0+0) _ (by rfl) Du (some ⟨_,0,none⟩) 1 1 y.cells (by rfl) rfl (fun _=>⟨_,0,rfl,YQ.O⟩) (Bn y) (by omega) (by omega) AQ.2.O.size ?_;intro v8 w8 BB Aw Cv;have Ig:=zh BB;have BF:=zh (Df.O.grown Aw Df.O.size fun q hq=>(World.ownsRow.lt Du q hq).1);clear BB Aw Cv)
     refine hK.out _ _ ?_ (fun AQ=>?_)
     ·(try dsimp only);exact ⟨HC.O _ BF,BF.O⟩
     clear hK K;try simp only[ps]
     refine tS 13 (fun K hK=>?_)
     (refine AU AV (by rfl) (.tmp 49) (.tmp 53) (by rfl) wp.heap.size v8 (0+0+1) _ (by rfl) Ig none 0 0 ([]) (by rfl) rfl (fun h=>absurd rfl h) (fun _ h=>by cases h) (by omega) (by omega) BF.O.size ?_;intro v13 gM Dp Dq Gh;have Dv:=zh (IU Dp);have BA:=zh (BF.O.grown Dq BF.O.size fun q hq=>(World.ownsRow.lt Ig q hq).1);clear Dp Dq Gh;obtain ⟨nL,c13,rfl,_⟩:=AZ.reads Dv)
     refine hK.out _ _ ?_ (fun AQ=>?_)
     ·(try dsimp only);exact ⟨HC.O _ BA,BA.O⟩
     clear hK K;try simp only[ps]
     refine tC 14 ?_;try simp only[ps]
     refine zV (rs:=[15]) (by kernel_rfl) (by simp) ?_
     refine AB.last rfl (by kernel_rfl) (fun K hK=>?_) AB.nil
     (obtain ⟨⟨_,_⟩,_,_⟩:=JO.c5 (Mw.O.below BA);go_simp)
     refine hK.out _ _ ?_;clear hK K
     (try clear AQ)
     try simp only[ps]
     refine wpAny_done (by kernel_rfl) ?_ _
     (go_wp2;go_meet;exact ⟨_,(Mw.O.below BA).Qk _,ES Dv Ih _ _,fun q h1 h2=>(AAE _ _ _ _ h1).trans (BA.O.block q h2)⟩)
   ·
    go_simp
    refine hK.out _ _ ?_ (fun AQ=>?_)
    ·(try dsimp only);exact (fun hb=>⟨HC.O _ hb,hb⟩) (zB AQ.2.O (zD _ (.cells (y.cells).toArray 28)))
    clear hK K;try simp only[ps]
    refine tS 0 (fun K hK=>?_)
    go_simp
    refine hK.out _ _ ?_ (fun AQ=>?_)
    ·(try dsimp only);exact (fun hb=>⟨HC.O _ hb,hb⟩) (zB AQ.2.O (zD _ (.cells #[] 28)))
    clear hK K;try simp only[ps]
    refine tS 5 (fun K hK=>?_)
    (have HOW:Hid (Dc _ wp.heap.size _ []):=zh (DK ((wp.drewN 1).alloc (.cells (y.cells).toArray 28)) (p:=wp.heap.size+1) (by simp) (by omega));have Bf:=zh AQ.2.O;refine AU AV (by rfl) (.tmp 41) (.tmp 45) (by rfl) wp.heap.size _ 0 [] (by rfl) HOW none 0 0 ([]) (by rfl) rfl (fun h=>absurd rfl h) (fun _ h=>by cases h) (by omega) (by omega) AQ.2.O.size ?_;intro v5 w5 I6 hg5 hv5;have YQ:=zh (Cx hg5 (by intro e0;injection e0 with e0;revert e0;simp) (BJ (zD _ _) (Dl (wp.drewN 1) (p:=wp.heap.size) rfl y.cells 28)));have JM:=zh I6;have Aq:=zh (Bf.O.grown hg5 Bf.O.size fun q hq=>(World.ownsRow.lt HOW q hq).1);clear I6 hg5 hv5)
    refine hK.out _ _ ?_ (fun AQ=>?_)
    ·(try dsimp only);exact ⟨HC.O _ Aq,Aq.O⟩
    clear hK K;try simp only[ps]
    refine tS 8 (fun K hK=>?_)
    (have Du:=zh (JM.O);have Df:=zh AQ.2.O;refine AU AV (by rfl) (.tmp 46) (.tmp 48) (by rfl) wp.heap.size v5 (0+0) _ (by rfl) Du (some ⟨_,0,none⟩) 1 1 y.cells (by rfl) rfl (fun _=>⟨_,0,rfl,YQ.O⟩) (Bn y) (by omega) (by omega) AQ.2.O.size ?_;intro v8 w8 BB Aw Cv;have Ig:=zh BB;have BF:=zh (Df.O.grown Aw Df.O.size fun q hq=>(World.ownsRow.lt Du q hq).1);clear BB Aw Cv)
    refine hK.out _ _ ?_ (fun AQ=>?_)
    ·(try dsimp only);exact ⟨HC.O _ BF,BF.O⟩
    clear hK K;try simp only[ps]
    refine tS 13 (fun K hK=>?_)
    (refine AU AV (by rfl) (.tmp 49) (.tmp 53) (by rfl) wp.heap.size v8 (0+0+1) _ (by rfl) Ig none 0 0 ([]) (by rfl) rfl (fun h=>absurd rfl h) (fun _ h=>by cases h) (by omega) (by omega) BF.O.size ?_;intro v13 gM Dp Dq Gh;have Dv:=zh (IU Dp);have BA:=zh (BF.O.grown Dq BF.O.size fun q hq=>(World.ownsRow.lt Ig q hq).1);clear Dp Dq Gh;obtain ⟨nL,c13,rfl,_⟩:=AZ.reads Dv)
    refine hK.out _ _ ?_ (fun AQ=>?_)
    ·(try dsimp only);exact ⟨HC.O _ BA,BA.O⟩
    clear hK K;try simp only[ps]
    refine tC 14 ?_;try simp only[ps]
    refine zV (rs:=[15]) (by kernel_rfl) (by simp) ?_
    refine AB.last rfl (by kernel_rfl) (fun K hK=>?_) AB.nil
    (obtain ⟨⟨_,_⟩,_,_⟩:=JO.c5 (Mw.O.below BA);go_simp)
    refine hK.out _ _ ?_;clear hK K
    (try clear AQ)
    try simp only[ps]
    refine wpAny_done (by kernel_rfl) ?_ _
    (go_wp2;go_meet;exact ⟨_,(Mw.O.below BA).Qk _,ES Dv Ih _ _,fun q h1 h2=>(AAE _ _ _ _ h1).trans (BA.O.block q h2)⟩)
  ·
   obtain ⟨g,rfl,hsg⟩:∃g,A=some ⟨g,0,none⟩/\∀i m,i+m<=KL.length->m≠0->w.rangeAt g (0+i * 8) (((KL.drop i).take m).flatMap Aj.cells):=by
    obtain ⟨_,_,e1,-,-,hseg⟩:=NY HKO
    injection e1 with e1 _ e2
    subst e1 e2;obtain ⟨g,hg,_⟩:=hseg 0 1 (by have:=mr.O wL;omega) (by omega)
    refine ⟨g,hg,fun i m h1 h2=>?_⟩
    obtain ⟨g',hg',hr⟩:=hseg i m h1 h2;rw[hg] at hg'
    injection hg' with hg'
    injection hg' with hg' _
    subst hg';exact hr
   have HC:Hid (∀w',Below wp.heap.size wp w'->(w'.cell? ⟨w.heap.size,5,none⟩=some (.slice (some ⟨g,0,none⟩) KL.length cK)/\(w'.cell? ⟨w.heap.size+1,0,none⟩=some (.int .i64 y.v.kind)/\w'.cell? ⟨w.heap.size+1,1,none⟩=some (.bool y.v.bool)/\w'.cell? ⟨w.heap.size+1,2,none⟩=some (.int .i64 y.v.int)/\w'.cell? ⟨w.heap.size+1,3,none⟩=some (.string y.v.str)/\w'.cell? ⟨w.heap.size+1,4,none⟩=some (.int .i64 y.v.id)/\w'.cell? ⟨w.heap.size+1,5,none⟩=some (.slice y.A1 y.v.keys.length y.c1)/\w'.cell? ⟨w.heap.size+1,6,none⟩=some (.slice y.A2 y.v.items.length y.c2)/\w'.cell? ⟨w.heap.size+1,7,none⟩=some (.slice y.A3 y.v.rest.length y.c3)))):=fun w' hb=>⟨(Wm.O.below hb).reads.1.1,(Wm.O.below hb).reads.2.1⟩
   have mh:Hid (∀u,Below wp.heap.size wp u->∀i m,i+m<=KL.length->m≠0->u.rangeAt g (0+i * 8) (((KL.drop i).take m).flatMap Aj.cells)):=fun u hb i m h1 h2=>BJ (Wm.O.below hb).be (hsg i m h1 h2)
   have yO:Hid (((KL.take k).flatMap Aj.cells).length=k * 8):=by show _=_;rw[Io,List.length_take,Nat.min_eq_left OC.O]
   have yQ:Hid (((KL.drop k).flatMap Aj.cells).length=(KL.length - k) * 8):=by show _=_;rw[Io,AA8]
   have PI:=zh (Im (KL.take k));have xq:=zh (Im (KL.drop k));have Ej:Hid (∀u,Below wp.heap.size wp u->KL.length - k≠0->∃b o,(if cK=k then some (⟨g,0,none⟩:Addr) else some ⟨g,k * 8,none⟩)=some ⟨b,o,none⟩/\u.rangeAt b o ((KL.drop k).flatMap Aj.cells)):=fun u hb hm=>⟨g,0+k * 8,by rw[Pd (by have:=Kn.O;omega),Nat.zero_add],by
    have:=mh.O u hb k (KL.length - k) (by have:=OC.O;omega) hm
    rwa [List.take_of_length_le (by rw[AA8];exact AAF _)] at this⟩
   have h1:(0:Int)<=(k:Int):=by omega
   have h2:(k:Int)<=(KL.length:Int):=by have:=OC.O;omega
   have h3:(k:Int)<=(cK:Int):=by have:=OC.O;have:=Kn.O;omega
   have wE:KL.length<=100:=OB.O;have ADJ:k<=KL.length:=OC.O;clear hsg hk
   refine yE (S:=(fun w'=>(w'.cell? ⟨w.heap.size,5,none⟩=some (.slice (some ⟨g,0,none⟩) KL.length cK)/\(w'.cell? ⟨w.heap.size+1,0,none⟩=some (.int .i64 y.v.kind)/\w'.cell? ⟨w.heap.size+1,1,none⟩=some (.bool y.v.bool)/\w'.cell? ⟨w.heap.size+1,2,none⟩=some (.int .i64 y.v.int)/\w'.cell? ⟨w.heap.size+1,3,none⟩=some (.string y.v.str)/\w'.cell? ⟨w.heap.size+1,4,none⟩=some (.int .i64 y.v.id)/\w'.cell? ⟨w.heap.size+1,5,none⟩=some (.slice y.A1 y.v.keys.length y.c1)/\w'.cell? ⟨w.heap.size+1,6,none⟩=some (.slice y.A2 y.v.items.length y.c2)/\w'.cell? ⟨w.heap.size+1,7,none⟩=some (.slice y.A3 y.v.rest.length y.c3)))/\Hid (Below wp.heap.size wp w'))) 15 (by kernel_rfl) ?_ (fun AQ=>?_)
   ·(try dsimp only);exact (fun hb=>⟨HC.O _ hb,hb⟩) (zC (Pe _ _) 1)
   refine tC 1 ?_;try simp only[ps]
   refine tB 2 ?_;try simp only[ps]
   refine tC 3 ?_;try simp only[ps]
   refine tC 4 ?_;try simp only[ps]
   refine tB 6 ?_;try simp only[ps]
   refine tC 9 ?_;try simp only[ps]
   refine tB 10 ?_;try simp only[ps]
   refine tC 11 ?_;try simp only[ps]
   refine tC 12 ?_;try simp only[ps]
   refine zV (rs:=[0,7]) (by kernel_rfl) (by simp) ?_
   refine (AB.cons rfl (fun K hK=>?_) (AB.cons rfl (fun K hK=>?_) AB.nil))
   ·
    go_simp
    refine hK.out _ _ ?_ (fun AQ=>?_)
    ·(try dsimp only);exact (fun hb=>⟨HC.O _ hb,hb⟩) (zB AQ.2.O (zD _ (.cells #[] 28)))
    clear hK K;try simp only[ps]
    refine zV (rs:=[5,7]) (by kernel_rfl) (by simp) ?_
    refine (AB.cons rfl (fun K hK=>?_) (AB.cons rfl (fun K hK=>?_) AB.nil))
    ·
     (have HOW:Hid (Dc _ wp.heap.size _ []):=zh (DK (wp.drewN 1) rfl (AAF _));have Bf:=zh AQ.2.O;refine AU AV (by rfl) (.tmp 41) (.tmp 45) (by rfl) wp.heap.size _ 0 [] (by rfl) HOW (some ⟨g,0,none⟩) k cK ((KL.take k).flatMap Aj.cells) (by rfl) yO (fun hm=>⟨g,0,rfl,mh.O _ Bf 0 k (by omega) hm⟩) PI (by omega) (by omega) AQ.2.O.size ?_;intro v5 w5 I6 hg5 hv5;have JM:=zh I6;have Aq:=zh (Bf.O.grown hg5 Bf.O.size fun q hq=>(World.ownsRow.lt HOW q hq).1);clear I6 hg5 hv5)
     refine hK.out _ _ ?_ (fun AQ=>?_)
     ·(try dsimp only);exact ⟨HC.O _ Aq,Aq.O⟩
     clear hK K;try simp only[ps]
     refine tS 7 (fun K hK=>?_)
     go_simp
     refine hK.out _ _ ?_ (fun AQ=>?_)
     ·(try dsimp only);exact (fun hb=>⟨HC.O _ hb,hb⟩) (zB Aq (zD _ (.cells (y.cells).toArray 28)))
     clear hK K;try simp only[ps]
     refine tS 8 (fun K hK=>?_)
     (have Du:=zh (World.ownsRow.alloc JM (.cells (y.cells).toArray 28));have Df:=zh AQ.2.O;refine AU AV (by rfl) (.tmp 46) (.tmp 48) (by rfl) wp.heap.size v5 (0+k) _ (by rfl) Du (some ⟨_,0,none⟩) 1 1 y.cells (by rfl) rfl (fun _=>⟨_,0,rfl,zR w5 y.cells 28⟩) (Bn y) (by omega) (by omega) AQ.2.O.size ?_;intro v8 w8 BB Aw Cv;have Ig:=zh BB;have BF:=zh (Df.O.grown Aw Df.O.size fun q hq=>(World.ownsRow.lt Du q hq).1);clear BB Aw Cv)
     refine hK.out _ _ ?_ (fun AQ=>?_)
     ·(try dsimp only);exact ⟨HC.O _ BF,BF.O⟩
     clear hK K;try simp only[ps]
     refine tS 13 (fun K hK=>?_)
     (refine AU AV (by rfl) (.tmp 49) (.tmp 53) (by rfl) wp.heap.size v8 (0+k+1) _ (by rfl) Ig _ (KL.length - k) _ ((KL.drop k).flatMap Aj.cells) (by rfl) yQ (fun hm=>Ej.O _ BF hm) xq (by omega) (by omega) BF.O.size ?_;intro v13 gM Dp Dq Gh;have Dv:=zh (KP OC Dp);have BA:=zh (BF.O.grown Dq BF.O.size fun q hq=>(World.ownsRow.lt Ig q hq).1);clear Dp Dq Gh;obtain ⟨nL,c13,rfl,_⟩:=AZ.reads Dv)
     refine hK.out _ _ ?_ (fun AQ=>?_)
     ·(try dsimp only);exact ⟨HC.O _ BA,BA.O⟩
     clear hK K;try simp only[ps]
     refine tC 14 ?_;try simp only[ps]
     refine zV (rs:=[15]) (by kernel_rfl) (by simp) ?_
     refine AB.last rfl (by kernel_rfl) (fun K hK=>?_) AB.nil
     (obtain ⟨⟨_,_⟩,_,_⟩:=JO.c5 (Mw.O.below BA);go_simp)
     refine hK.out _ _ ?_;clear hK K
     (try clear AQ)
     try simp only[ps]
     refine wpAny_done (by kernel_rfl) ?_ _
     (generalize (if cK=k then some (⟨g,0,none⟩:Addr) else some ⟨g,k * 8,none⟩)=A53 at *;go_wp2;go_meet;exact ⟨_,(Mw.O.below BA).Qk _,(by rw[show k+(KL.length - k+1)=(KL.take k++[y]++KL.drop k).length by have:=OC.O;simp;omega];exact ES Dv Ih _ _),fun q h1 h2=>(AAE _ _ _ _ h1).trans (BA.O.block q h2)⟩)
    ·
     go_simp
     refine hK.out _ _ ?_ (fun AQ=>?_)
     ·(try dsimp only);exact (fun hb=>⟨HC.O _ hb,hb⟩) (zB AQ.2.O (zD _ (.cells (y.cells).toArray 28)))
     clear hK K;try simp only[ps]
     refine tS 5 (fun K hK=>?_)
     (have HOW:Hid (Dc _ wp.heap.size _ []):=zh (AZ.alloc (DK (wp.drewN 1) rfl (AAF _)) (.cells (y.cells).toArray 28));have Bf:=zh AQ.2.O;refine AU AV (by rfl) (.tmp 41) (.tmp 45) (by rfl) wp.heap.size _ 0 [] (by rfl) HOW (some ⟨g,0,none⟩) k cK ((KL.take k).flatMap Aj.cells) (by rfl) yO (fun hm=>⟨g,0,rfl,mh.O _ Bf 0 k (by omega) hm⟩) PI (by omega) (by omega) AQ.2.O.size ?_;intro v5 w5 I6 hg5 hv5;have YQ:=zh (Cx hg5 (by intro e0;injection e0 with e0;revert e0;simp) (Dl ((wp.drewN 1).alloc (.cells #[] 28)) (p:=wp.heap.size+1) (by simp) y.cells 28));have JM:=zh I6;have Aq:=zh (Bf.O.grown hg5 Bf.O.size fun q hq=>(World.ownsRow.lt HOW q hq).1);clear I6 hg5 hv5)
     refine hK.out _ _ ?_ (fun AQ=>?_)
     ·(try dsimp only);exact ⟨HC.O _ Aq,Aq.O⟩
     clear hK K;try simp only[ps]
     refine tS 8 (fun K hK=>?_)
     (have Du:=zh (JM.O);have Df:=zh AQ.2.O;refine AU AV (by rfl) (.tmp 46) (.tmp 48) (by rfl) wp.heap.size v5 (0+k) _ (by rfl) Du (some ⟨_,0,none⟩) 1 1 y.cells (by rfl) rfl (fun _=>⟨_,0,rfl,YQ.O⟩) (Bn y) (by omega) (by omega) AQ.2.O.size ?_;intro v8 w8 BB Aw Cv;have Ig:=zh BB;have BF:=zh (Df.O.grown Aw Df.O.size fun q hq=>(World.ownsRow.lt Du q hq).1);clear BB Aw Cv)
     refine hK.out _ _ ?_ (fun AQ=>?_)
     ·(try dsimp only);exact ⟨HC.O _ BF,BF.O⟩
     clear hK K;try simp only[ps]
     refine tS 13 (fun K hK=>?_)
     (refine AU AV (by rfl) (.tmp 49) (.tmp 53) (by rfl) wp.heap.size v8 (0+k+1) _ (by rfl) Ig _ (KL.length - k) _ ((KL.drop k).flatMap Aj.cells) (by rfl) yQ (fun hm=>Ej.O _ BF hm) xq (by omega) (by omega) BF.O.size ?_;intro v13 gM Dp Dq Gh;have Dv:=zh (KP OC Dp);have BA:=zh (BF.O.grown Dq BF.O.size fun q hq=>(World.ownsRow.lt Ig q hq).1);clear Dp Dq Gh;obtain ⟨nL,c13,rfl,_⟩:=AZ.reads Dv)
     refine hK.out _ _ ?_ (fun AQ=>?_)
     ·(try dsimp only);exact ⟨HC.O _ BA,BA.O⟩
     clear hK K;try simp only[ps]
     refine tC 14 ?_;try simp only[ps]
     refine zV (rs:=[15]) (by kernel_rfl) (by simp) ?_
     refine AB.last rfl (by kernel_rfl) (fun K hK=>?_) AB.nil
     (obtain ⟨⟨_,_⟩,_,_⟩:=JO.c5 (Mw.O.below BA);go_simp)
     refine hK.out _ _ ?_;clear hK K
     (try clear AQ)
     try simp only[ps]
     refine wpAny_done (by kernel_rfl) ?_ _
     (generalize (if cK=k then some (⟨g,0,none⟩:Addr) else some ⟨g,k * 8,none⟩)=A53 at *;go_wp2;go_meet;exact ⟨_,(Mw.O.below BA).Qk _,(by rw[show k+(KL.length - k+1)=(KL.take k++[y]++KL.drop k).length by have:=OC.O;simp;omega];exact ES Dv Ih _ _),fun q h1 h2=>(AAE _ _ _ _ h1).trans (BA.O.block q h2)⟩)
   ·
    go_simp
    refine hK.out _ _ ?_ (fun AQ=>?_)
    ·(try dsimp only);exact (fun hb=>⟨HC.O _ hb,hb⟩) (zB AQ.2.O (zD _ (.cells (y.cells).toArray 28)))
    clear hK K;try simp only[ps]
    refine tS 0 (fun K hK=>?_)
    go_simp
    refine hK.out _ _ ?_ (fun AQ=>?_)
    ·(try dsimp only);exact (fun hb=>⟨HC.O _ hb,hb⟩) (zB AQ.2.O (zD _ (.cells #[] 28)))
    clear hK K;try simp only[ps]
    refine tS 5 (fun K hK=>?_)
    (have HOW:Hid (Dc _ wp.heap.size _ []):=zh (DK ((wp.drewN 1).alloc (.cells (y.cells).toArray 28)) (p:=wp.heap.size+1) (by simp) (by omega));have Bf:=zh AQ.2.O;refine AU AV (by rfl) (.tmp 41) (.tmp 45) (by rfl) wp.heap.size _ 0 [] (by rfl) HOW (some ⟨g,0,none⟩) k cK ((KL.take k).flatMap Aj.cells) (by rfl) yO (fun hm=>⟨g,0,rfl,mh.O _ Bf 0 k (by omega) hm⟩) PI (by omega) (by omega) AQ.2.O.size ?_;intro v5 w5 I6 hg5 hv5;have YQ:=zh (Cx hg5 (by intro e0;injection e0 with e0;revert e0;simp) (BJ (zD _ _) (Dl (wp.drewN 1) (p:=wp.heap.size) rfl y.cells 28)));have JM:=zh I6;have Aq:=zh (Bf.O.grown hg5 Bf.O.size fun q hq=>(World.ownsRow.lt HOW q hq).1);clear I6 hg5 hv5)
    refine hK.out _ _ ?_ (fun AQ=>?_)
    ·(try dsimp only);exact ⟨HC.O _ Aq,Aq.O⟩
    clear hK K;try simp only[ps]
    refine tS 8 (fun K hK=>?_)
    (have Du:=zh (JM.O);have Df:=zh AQ.2.O;refine AU AV (by rfl) (.tmp 46) (.tmp 48) (by rfl) wp.heap.size v5 (0+k) _ (by rfl) Du (some ⟨_,0,none⟩) 1 1 y.cells (by rfl) rfl (fun _=>⟨_,0,rfl,YQ.O⟩) (Bn y) (by omega) (by omega) AQ.2.O.size ?_;intro v8 w8 BB Aw Cv;have Ig:=zh BB;have BF:=zh (Df.O.grown Aw Df.O.size fun q hq=>(World.ownsRow.lt Du q hq).1);clear BB Aw Cv)
    refine hK.out _ _ ?_ (fun AQ=>?_)
    ·(try dsimp only);exact ⟨HC.O _ BF,BF.O⟩
    clear hK K;try simp only[ps]
    refine tS 13 (fun K hK=>?_)
    (refine AU AV (by rfl) (.tmp 49) (.tmp 53) (by rfl) wp.heap.size v8 (0+k+1) _ (by rfl) Ig _ (KL.length - k) _ ((KL.drop k).flatMap Aj.cells) (by rfl) yQ (fun hm=>Ej.O _ BF hm) xq (by omega) (by omega) BF.O.size ?_;intro v13 gM Dp Dq Gh;have Dv:=zh (KP OC Dp);have BA:=zh (BF.O.grown Dq BF.O.size fun q hq=>(World.ownsRow.lt Ig q hq).1);clear Dp Dq Gh;obtain ⟨nL,c13,rfl,_⟩:=AZ.reads Dv)
    refine hK.out _ _ ?_ (fun AQ=>?_)
    ·(try dsimp only);exact ⟨HC.O _ BA,BA.O⟩
    clear hK K;try simp only[ps]
    refine tC 14 ?_;try simp only[ps]
    refine zV (rs:=[15]) (by kernel_rfl) (by simp) ?_
    refine AB.last rfl (by kernel_rfl) (fun K hK=>?_) AB.nil
    (obtain ⟨⟨_,_⟩,_,_⟩:=JO.c5 (Mw.O.below BA);go_simp)
    refine hK.out _ _ ?_;clear hK K
    (try clear AQ)
    try simp only[ps]
    refine wpAny_done (by kernel_rfl) ?_ _
    (generalize (if cK=k then some (⟨g,0,none⟩:Addr) else some ⟨g,k * 8,none⟩)=A53 at *;go_wp2;go_meet;exact ⟨_,(Mw.O.below BA).Qk _,(by rw[show k+(KL.length - k+1)=(KL.take k++[y]++KL.drop k).length by have:=OC.O;simp;omega];exact ES Dv Ih _ _),fun q h1 h2=>(AAE _ _ _ _ h1).trans (BA.O.block q h2)⟩)
 case rest =>
 obtain ⟨v9,hps,hov,hoth⟩:=hcut;obtain ⟨wd,rfl⟩:∃wd:World,wd=wc:=⟨_,rfl⟩;have nV:=zh hps;have HKN:=zh hov;obtain ⟨A9,n9,c9,rfl⟩:=KR hov;clear hps hov hoth Ih Mw OC Kn OB mr Wm;have Ih:Hid (w.heap.size<wd.heap.size):=(zg.1 nV.O.bv).1;have Mw:Hid (JO w (.slice A9 n9 c9) (.slice B IL.length cI) y z wd):=nV.O;have OC:Hid (k<=IL.length):=by show _<=_;rw[Wn.O];exact hk
 have Kn:=zh hcI;have OB:Hid (IL.length<=100):=by show _<=_;rw[Wn.O];exact hln
 have mr:Hid (¬ KL=[]->0<IL.length):=fun h=>by rw[Wn.O];exact List.length_pos_iff.2 h
 go_upto_region 7 with fail
 go_cut [] (fun wx=>∃v9:Value,JO w (.slice A9 n9 c9) v9 y z wx/\Dc wx wd.heap.size v9 (IL.take k++[z]++IL.drop k)/\∀q,q≠w.heap.size->q<wd.heap.size->wx.heap[q]? = wd.heap[q]?)
 case first =>
  by_cases wL:KL=[]
  ·
   obtain ⟨hn1,hn2⟩:=uK.O wL;subst wL;obtain rfl:IL=[]:=AAn Wn;obtain rfl:k=0:=Nat.le_zero.1 OC;obtain ⟨hA,hc⟩:A=none/\cK=0:=by injection hn1 with g1 _ g2;exact ⟨g1,g2⟩
   obtain ⟨hA2,hc2⟩:B=none/\cI=0:=by injection hn2 with g1 _ g2;exact ⟨g1,g2⟩
   subst hA hc hA2 hc2
   have HC:Hid (∀w',Below wd.heap.size wd w'->(w'.cell? ⟨w.heap.size,6,none⟩=some (.slice none 0 0)/\(w'.cell? ⟨w.heap.size+2,0,none⟩=some (.int .i64 z.v.kind)/\w'.cell? ⟨w.heap.size+2,1,none⟩=some (.bool z.v.bool)/\w'.cell? ⟨w.heap.size+2,2,none⟩=some (.int .i64 z.v.int)/\w'.cell? ⟨w.heap.size+2,3,none⟩=some (.string z.v.str)/\w'.cell? ⟨w.heap.size+2,4,none⟩=some (.int .i64 z.v.id)/\w'.cell? ⟨w.heap.size+2,5,none⟩=some (.slice z.A1 z.v.keys.length z.c1)/\w'.cell? ⟨w.heap.size+2,6,none⟩=some (.slice z.A2 z.v.items.length z.c2)/\w'.cell? ⟨w.heap.size+2,7,none⟩=some (.slice z.A3 z.v.rest.length z.c3)))):=fun w' hb=>⟨(nV.O.below hb).reads.1.2,(nV.O.below hb).reads.2.2⟩
   clear hn1 hn2 hln hk hcK hcI
   refine yE (S:=(fun w'=>(w'.cell? ⟨w.heap.size,6,none⟩=some (.slice none 0 0)/\(w'.cell? ⟨w.heap.size+2,0,none⟩=some (.int .i64 z.v.kind)/\w'.cell? ⟨w.heap.size+2,1,none⟩=some (.bool z.v.bool)/\w'.cell? ⟨w.heap.size+2,2,none⟩=some (.int .i64 z.v.int)/\w'.cell? ⟨w.heap.size+2,3,none⟩=some (.string z.v.str)/\w'.cell? ⟨w.heap.size+2,4,none⟩=some (.int .i64 z.v.id)/\w'.cell? ⟨w.heap.size+2,5,none⟩=some (.slice z.A1 z.v.keys.length z.c1)/\w'.cell? ⟨w.heap.size+2,6,none⟩=some (.slice z.A2 z.v.items.length z.c2)/\w'.cell? ⟨w.heap.size+2,7,none⟩=some (.slice z.A3 z.v.rest.length z.c3)))/\Hid (Below wd.heap.size wd w'))) 15 (by kernel_rfl) ?_ (fun AQ=>?_)
   ·(try dsimp only);exact (fun hb=>⟨HC.O _ hb,hb⟩) (zC (Pe _ _) 1)
   refine tC 1 ?_;try simp only[ps]
   refine tB 2 ?_;try simp only[ps]
   refine tC 3 ?_;try simp only[ps]
   refine tC 4 ?_;try simp only[ps]
   refine tB 6 ?_;try simp only[ps]
   refine tC 9 ?_;try simp only[ps]
   refine tB 10 ?_;try simp only[ps]
   refine tC 11 ?_;try simp only[ps]
   refine tC 12 ?_;try simp only[ps]
   refine zV (rs:=[0,7]) (by kernel_rfl) (by simp) ?_
   refine (AB.cons rfl (fun K hK=>?_) (AB.cons rfl (fun K hK=>?_) AB.nil))
   ·
    go_simp
    refine hK.out _ _ ?_ (fun AQ=>?_)
    ·(try dsimp only);exact (fun hb=>⟨HC.O _ hb,hb⟩) (zB AQ.2.O (zD _ (.cells #[] 28)))
    clear hK K;try simp only[ps]
    refine zV (rs:=[5,7]) (by kernel_rfl) (by simp) ?_
    refine (AB.cons rfl (fun K hK=>?_) (AB.cons rfl (fun K hK=>?_) AB.nil))
    ·
     (have HOW:Hid (Dc _ wd.heap.size _ []):=zh (DK (wd.drewN 1) rfl (AAF _));have Bf:=zh AQ.2.O;refine AU AV (by rfl) (.tmp 56) (.tmp 60) (by rfl) wd.heap.size _ 0 [] (by rfl) HOW none 0 0 ([]) (by rfl) rfl (fun h=>absurd rfl h) (fun _ h=>by cases h) (by omega) (by omega) AQ.2.O.size ?_;intro v5 w5 I6 hg5 hv5;have JM:=zh I6;have Aq:=zh (Bf.O.grown hg5 Bf.O.size fun q hq=>(World.ownsRow.lt HOW q hq).1);clear I6 hg5 hv5)
     refine hK.out _ _ ?_ (fun AQ=>?_)
     ·(try dsimp only);exact ⟨HC.O _ Aq,Aq.O⟩
     clear hK K;try simp only[ps]
     refine tS 7 (fun K hK=>?_)
     go_simp
     refine hK.out _ _ ?_ (fun AQ=>?_)
     ·(try dsimp only);exact (fun hb=>⟨HC.O _ hb,hb⟩) (zB Aq (zD _ (.cells (z.cells).toArray 28)))
     clear hK K;try simp only[ps]
     refine tS 8 (fun K hK=>?_)
     (have Du:=zh (World.ownsRow.alloc JM (.cells (z.cells).toArray 28));have Df:=zh AQ.2.O;refine AU AV (by rfl) (.tmp 61) (.tmp 63) (by rfl) wd.heap.size v5 (0+0) _ (by rfl) Du (some ⟨_,0,none⟩) 1 1 z.cells (by rfl) rfl (fun _=>⟨_,0,rfl,zR w5 z.cells 28⟩) (Bn z) (by omega) (by omega) AQ.2.O.size ?_;intro v8 w8 BB Aw Cv;have Ig:=zh BB;have BF:=zh (Df.O.grown Aw Df.O.size fun q hq=>(World.ownsRow.lt Du q hq).1);clear BB Aw Cv)
     refine hK.out _ _ ?_ (fun AQ=>?_)
     ·(try dsimp only);exact ⟨HC.O _ BF,BF.O⟩
     clear hK K;try simp only[ps]
     refine tS 13 (fun K hK=>?_)
     (refine AU AV (by rfl) (.tmp 64) (.tmp 68) (by rfl) wd.heap.size v8 (0+0+1) _ (by rfl) Ig none 0 0 ([]) (by rfl) rfl (fun h=>absurd rfl h) (fun _ h=>by cases h) (by omega) (by omega) BF.O.size ?_;intro v13 gM Dp Dq Gh;have Dv:=zh (IU Dp);have BA:=zh (BF.O.grown Dq BF.O.size fun q hq=>(World.ownsRow.lt Ig q hq).1);clear Dp Dq Gh;obtain ⟨nL,c13,rfl,_⟩:=AZ.reads Dv)
     refine hK.out _ _ ?_ (fun AQ=>?_)
     ·(try dsimp only);exact ⟨HC.O _ BA,BA.O⟩
     clear hK K;try simp only[ps]
     refine tC 14 ?_;try simp only[ps]
     refine zV (rs:=[15]) (by kernel_rfl) (by simp) ?_
     refine AB.last rfl (by kernel_rfl) (fun K hK=>?_) AB.nil
     (obtain ⟨⟨_,_⟩,_,_⟩:=JO.c5 (Mw.O.below BA);go_simp)
     refine hK.out _ _ ?_;clear hK K
     (try clear AQ)
     try simp only[ps]
     refine wpAny_done (by kernel_rfl) ?_ _
     (go_wp2;go_meet;exact ⟨_,(Mw.O.below BA).Iy _,ES Dv Ih _ _,fun q h1 h2=>(AAE _ _ _ _ h1).trans (BA.O.block q h2)⟩)
    ·
     go_simp
     refine hK.out _ _ ?_ (fun AQ=>?_)
     ·(try dsimp only);exact (fun hb=>⟨HC.O _ hb,hb⟩) (zB AQ.2.O (zD _ (.cells (z.cells).toArray 28)))
     clear hK K;try simp only[ps]
     refine tS 5 (fun K hK=>?_)
     (have HOW:Hid (Dc _ wd.heap.size _ []):=zh (AZ.alloc (DK (wd.drewN 1) rfl (AAF _)) (.cells (z.cells).toArray 28));have Bf:=zh AQ.2.O;refine AU AV (by rfl) (.tmp 56) (.tmp 60) (by rfl) wd.heap.size _ 0 [] (by rfl) HOW none 0 0 ([]) (by rfl) rfl (fun h=>absurd rfl h) (fun _ h=>by cases h) (by omega) (by omega) AQ.2.O.size ?_;intro v5 w5 I6 hg5 hv5;have YQ:=zh (Cx hg5 (by intro e0;injection e0 with e0;revert e0;simp) (Dl ((wd.drewN 1).alloc (.cells #[] 28)) (p:=wd.heap.size+1) (by simp) z.cells 28));have JM:=zh I6;have Aq:=zh (Bf.O.grown hg5 Bf.O.size fun q hq=>(World.ownsRow.lt HOW q hq).1);clear I6 hg5 hv5)
     refine hK.out _ _ ?_ (fun AQ=>?_)
     ·(try dsimp only);exact ⟨HC.O _ Aq,Aq.O⟩
     clear hK K;try simp only[ps]
     refine tS 8 (fun K hK=>?_)
     (have Du:=zh (JM.O);have Df:=zh AQ.2.O;refine AU AV (by rfl) (.tmp 61) (.tmp 63) (by rfl) wd.heap.size v5 (0+0) _ (by rfl) Du (some ⟨_,0,none⟩) 1 1 z.cells (by rfl) rfl (fun _=>⟨_,0,rfl,YQ.O⟩) (Bn z) (by omega) (by omega) AQ.2.O.size ?_;intro v8 w8 BB Aw Cv;have Ig:=zh BB;have BF:=zh (Df.O.grown Aw Df.O.size fun q hq=>(World.ownsRow.lt Du q hq).1);clear BB Aw Cv)
     refine hK.out _ _ ?_ (fun AQ=>?_)
     ·(try dsimp only);exact ⟨HC.O _ BF,BF.O⟩
     clear hK K;try simp only[ps]
     refine tS 13 (fun K hK=>?_)
     (refine AU AV (by rfl) (.tmp 64) (.tmp 68) (by rfl) wd.heap.size v8 (0+0+1) _ (by rfl) Ig none 0 0 ([]) (by rfl) rfl (fun h=>absurd rfl h) (fun _ h=>by cases h) (by omega) (by omega) BF.O.size ?_;intro v13 gM Dp Dq Gh;have Dv:=zh (IU Dp);have BA:=zh (BF.O.grown Dq BF.O.size fun q hq=>(World.ownsRow.lt Ig q hq).1);clear Dp Dq Gh;obtain ⟨nL,c13,rfl,_⟩:=AZ.reads Dv)
     refine hK.out _ _ ?_ (fun AQ=>?_)
     ·(try dsimp only);exact ⟨HC.O _ BA,BA.O⟩
     clear hK K;try simp only[ps]
     refine tC 14 ?_;try simp only[ps]
     refine zV (rs:=[15]) (by kernel_rfl) (by simp) ?_
     refine AB.last rfl (by kernel_rfl) (fun K hK=>?_) AB.nil
     (obtain ⟨⟨_,_⟩,_,_⟩:=JO.c5 (Mw.O.below BA);go_simp)
     refine hK.out _ _ ?_;clear hK K
     (try clear AQ)
     try simp only[ps]
     refine wpAny_done (by kernel_rfl) ?_ _
     (go_wp2;go_meet;exact ⟨_,(Mw.O.below BA).Iy _,ES Dv Ih _ _,fun q h1 h2=>(AAE _ _ _ _ h1).trans (BA.O.block q h2)⟩)
   ·
    go_simp
    refine hK.out _ _ ?_ (fun AQ=>?_)
    ·(try dsimp only);exact (fun hb=>⟨HC.O _ hb,hb⟩) (zB AQ.2.O (zD _ (.cells (z.cells).toArray 28)))
    clear hK K;try simp only[ps]
    refine tS 0 (fun K hK=>?_)
    go_simp
    refine hK.out _ _ ?_ (fun AQ=>?_)
    ·(try dsimp only);exact (fun hb=>⟨HC.O _ hb,hb⟩) (zB AQ.2.O (zD _ (.cells #[] 28)))
    clear hK K;try simp only[ps]
    refine tS 5 (fun K hK=>?_)
    (have HOW:Hid (Dc _ wd.heap.size _ []):=zh (DK ((wd.drewN 1).alloc (.cells (z.cells).toArray 28)) (p:=wd.heap.size+1) (by simp) (by omega));have Bf:=zh AQ.2.O;refine AU AV (by rfl) (.tmp 56) (.tmp 60) (by rfl) wd.heap.size _ 0 [] (by rfl) HOW none 0 0 ([]) (by rfl) rfl (fun h=>absurd rfl h) (fun _ h=>by cases h) (by omega) (by omega) AQ.2.O.size ?_;intro v5 w5 I6 hg5 hv5;have YQ:=zh (Cx hg5 (by intro e0;injection e0 with e0;revert e0;simp) (BJ (zD _ _) (Dl (wd.drewN 1) (p:=wd.heap.size) rfl z.cells 28)));have JM:=zh I6;have Aq:=zh (Bf.O.grown hg5 Bf.O.size fun q hq=>(World.ownsRow.lt HOW q hq).1);clear I6 hg5 hv5)
    refine hK.out _ _ ?_ (fun AQ=>?_)
    ·(try dsimp only);exact ⟨HC.O _ Aq,Aq.O⟩
    clear hK K;try simp only[ps]
    refine tS 8 (fun K hK=>?_)
    (have Du:=zh (JM.O);have Df:=zh AQ.2.O;refine AU AV (by rfl) (.tmp 61) (.tmp 63) (by rfl) wd.heap.size v5 (0+0) _ (by rfl) Du (some ⟨_,0,none⟩) 1 1 z.cells (by rfl) rfl (fun _=>⟨_,0,rfl,YQ.O⟩) (Bn z) (by omega) (by omega) AQ.2.O.size ?_;intro v8 w8 BB Aw Cv;have Ig:=zh BB;have BF:=zh (Df.O.grown Aw Df.O.size fun q hq=>(World.ownsRow.lt Du q hq).1);clear BB Aw Cv)
    refine hK.out _ _ ?_ (fun AQ=>?_)
    ·(try dsimp only);exact ⟨HC.O _ BF,BF.O⟩
    clear hK K;try simp only[ps]
    refine tS 13 (fun K hK=>?_)
    (refine AU AV (by rfl) (.tmp 64) (.tmp 68) (by rfl) wd.heap.size v8 (0+0+1) _ (by rfl) Ig none 0 0 ([]) (by rfl) rfl (fun h=>absurd rfl h) (fun _ h=>by cases h) (by omega) (by omega) BF.O.size ?_;intro v13 gM Dp Dq Gh;have Dv:=zh (IU Dp);have BA:=zh (BF.O.grown Dq BF.O.size fun q hq=>(World.ownsRow.lt Ig q hq).1);clear Dp Dq Gh;obtain ⟨nL,c13,rfl,_⟩:=AZ.reads Dv)
    refine hK.out _ _ ?_ (fun AQ=>?_)
    ·(try dsimp only);exact ⟨HC.O _ BA,BA.O⟩
    clear hK K;try simp only[ps]
    refine tC 14 ?_;try simp only[ps]
    refine zV (rs:=[15]) (by kernel_rfl) (by simp) ?_
    refine AB.last rfl (by kernel_rfl) (fun K hK=>?_) AB.nil
    (obtain ⟨⟨_,_⟩,_,_⟩:=JO.c5 (Mw.O.below BA);go_simp)
    refine hK.out _ _ ?_;clear hK K
    (try clear AQ)
    try simp only[ps]
    refine wpAny_done (by kernel_rfl) ?_ _
    (go_wp2;go_meet;exact ⟨_,(Mw.O.below BA).Iy _,ES Dv Ih _ _,fun q h1 h2=>(AAE _ _ _ _ h1).trans (BA.O.block q h2)⟩)
  ·
   obtain ⟨g,rfl,hsg⟩:∃g,B=some ⟨g,0,none⟩/\∀i m,i+m<=IL.length->m≠0->w.rangeAt g (0+i * 8) (((IL.drop i).take m).flatMap Aj.cells):=by
    obtain ⟨_,_,e1,-,-,hseg⟩:=NY HIO
    injection e1 with e1 _ e2
    subst e1 e2;obtain ⟨g,hg,_⟩:=hseg 0 1 (by have:=mr.O wL;omega) (by omega)
    refine ⟨g,hg,fun i m h1 h2=>?_⟩
    obtain ⟨g',hg',hr⟩:=hseg i m h1 h2;rw[hg] at hg'
    injection hg' with hg'
    injection hg' with hg' _
    subst hg';exact hr
   have HC:Hid (∀w',Below wd.heap.size wd w'->(w'.cell? ⟨w.heap.size,6,none⟩=some (.slice (some ⟨g,0,none⟩) IL.length cI)/\(w'.cell? ⟨w.heap.size+2,0,none⟩=some (.int .i64 z.v.kind)/\w'.cell? ⟨w.heap.size+2,1,none⟩=some (.bool z.v.bool)/\w'.cell? ⟨w.heap.size+2,2,none⟩=some (.int .i64 z.v.int)/\w'.cell? ⟨w.heap.size+2,3,none⟩=some (.string z.v.str)/\w'.cell? ⟨w.heap.size+2,4,none⟩=some (.int .i64 z.v.id)/\w'.cell? ⟨w.heap.size+2,5,none⟩=some (.slice z.A1 z.v.keys.length z.c1)/\w'.cell? ⟨w.heap.size+2,6,none⟩=some (.slice z.A2 z.v.items.length z.c2)/\w'.cell? ⟨w.heap.size+2,7,none⟩=some (.slice z.A3 z.v.rest.length z.c3)))):=fun w' hb=>⟨(nV.O.below hb).reads.1.2,(nV.O.below hb).reads.2.2⟩
   have mh:Hid (∀u,Below wd.heap.size wd u->∀i m,i+m<=IL.length->m≠0->u.rangeAt g (0+i * 8) (((IL.drop i).take m).flatMap Aj.cells)):=fun u hb i m h1 h2=>BJ (nV.O.below hb).be (hsg i m h1 h2)
   have yO:Hid (((IL.take k).flatMap Aj.cells).length=k * 8):=by show _=_;rw[Io,List.length_take,Nat.min_eq_left OC.O]
   have yQ:Hid (((IL.drop k).flatMap Aj.cells).length=(IL.length - k) * 8):=by show _=_;rw[Io,AA8]
   have PI:=zh (Im (IL.take k));have xq:=zh (Im (IL.drop k));have Ej:Hid (∀u,Below wd.heap.size wd u->IL.length - k≠0->∃b o,(if cI=k then some (⟨g,0,none⟩:Addr) else some ⟨g,k * 8,none⟩)=some ⟨b,o,none⟩/\u.rangeAt b o ((IL.drop k).flatMap Aj.cells)):=fun u hb hm=>⟨g,0+k * 8,by rw[Pd (by have:=Kn.O;omega),Nat.zero_add],by
    have:=mh.O u hb k (IL.length - k) (by have:=OC.O;omega) hm
    rwa [List.take_of_length_le (by rw[AA8];exact AAF _)] at this⟩
   have h1:(0:Int)<=(k:Int):=by omega
   have h2:(k:Int)<=(IL.length:Int):=by have:=OC.O;omega
   have h3:(k:Int)<=(cI:Int):=by have:=OC.O;have:=Kn.O;omega
   have wE:IL.length<=100:=OB.O;have ADJ:k<=IL.length:=OC.O;clear hsg hk
   refine yE (S:=(fun w'=>(w'.cell? ⟨w.heap.size,6,none⟩=some (.slice (some ⟨g,0,none⟩) IL.length cI)/\(w'.cell? ⟨w.heap.size+2,0,none⟩=some (.int .i64 z.v.kind)/\w'.cell? ⟨w.heap.size+2,1,none⟩=some (.bool z.v.bool)/\w'.cell? ⟨w.heap.size+2,2,none⟩=some (.int .i64 z.v.int)/\w'.cell? ⟨w.heap.size+2,3,none⟩=some (.string z.v.str)/\w'.cell? ⟨w.heap.size+2,4,none⟩=some (.int .i64 z.v.id)/\w'.cell? ⟨w.heap.size+2,5,none⟩=some (.slice z.A1 z.v.keys.length z.c1)/\w'.cell? ⟨w.heap.size+2,6,none⟩=some (.slice z.A2 z.v.items.length z.c2)/\w'.cell? ⟨w.heap.size+2,7,none⟩=some (.slice z.A3 z.v.rest.length z.c3)))/\Hid (Below wd.heap.size wd w'))) 15 (by kernel_rfl) ?_ (fun AQ=>?_)
   ·(try dsimp only);exact (fun hb=>⟨HC.O _ hb,hb⟩) (zC (Pe _ _) 1)
   refine tC 1 ?_;try simp only[ps]
   refine tB 2 ?_;try simp only[ps]
   refine tC 3 ?_;try simp only[ps]
   refine tC 4 ?_;try simp only[ps]
   refine tB 6 ?_;try simp only[ps]
   refine tC 9 ?_;try simp only[ps]
   refine tB 10 ?_;try simp only[ps]
   refine tC 11 ?_;try simp only[ps]
   refine tC 12 ?_;try simp only[ps]
   refine zV (rs:=[0,7]) (by kernel_rfl) (by simp) ?_
   refine (AB.cons rfl (fun K hK=>?_) (AB.cons rfl (fun K hK=>?_) AB.nil))
   ·
    go_simp
    refine hK.out _ _ ?_ (fun AQ=>?_)
    ·(try dsimp only);exact (fun hb=>⟨HC.O _ hb,hb⟩) (zB AQ.2.O (zD _ (.cells #[] 28)))
    clear hK K;try simp only[ps]
    refine zV (rs:=[5,7]) (by kernel_rfl) (by simp) ?_
    refine (AB.cons rfl (fun K hK=>?_) (AB.cons rfl (fun K hK=>?_) AB.nil))
    ·
     (have HOW:Hid (Dc _ wd.heap.size _ []):=zh (DK (wd.drewN 1) rfl (AAF _));have Bf:=zh AQ.2.O;refine AU AV (by rfl) (.tmp 56) (.tmp 60) (by rfl) wd.heap.size _ 0 [] (by rfl) HOW (some ⟨g,0,none⟩) k cI ((IL.take k).flatMap Aj.cells) (by rfl) yO (fun hm=>⟨g,0,rfl,mh.O _ Bf 0 k (by omega) hm⟩) PI (by omega) (by omega) AQ.2.O.size ?_;intro v5 w5 I6 hg5 hv5;have JM:=zh I6;have Aq:=zh (Bf.O.grown hg5 Bf.O.size fun q hq=>(World.ownsRow.lt HOW q hq).1);clear I6 hg5 hv5)
     refine hK.out _ _ ?_ (fun AQ=>?_)
     ·(try dsimp only);exact ⟨HC.O _ Aq,Aq.O⟩
     clear hK K;try simp only[ps]
     refine tS 7 (fun K hK=>?_)
     go_simp
     refine hK.out _ _ ?_ (fun AQ=>?_)
     ·(try dsimp only);exact (fun hb=>⟨HC.O _ hb,hb⟩) (zB Aq (zD _ (.cells (z.cells).toArray 28)))
     clear hK K;try simp only[ps]
     refine tS 8 (fun K hK=>?_)
     (have Du:=zh (World.ownsRow.alloc JM (.cells (z.cells).toArray 28));have Df:=zh AQ.2.O;refine AU AV (by rfl) (.tmp 61) (.tmp 63) (by rfl) wd.heap.size v5 (0+k) _ (by rfl) Du (some ⟨_,0,none⟩) 1 1 z.cells (by rfl) rfl (fun _=>⟨_,0,rfl,zR w5 z.cells 28⟩) (Bn z) (by omega) (by omega) AQ.2.O.size ?_;intro v8 w8 BB Aw Cv;have Ig:=zh BB;have BF:=zh (Df.O.grown Aw Df.O.size fun q hq=>(World.ownsRow.lt Du q hq).1);clear BB Aw Cv)
     refine hK.out _ _ ?_ (fun AQ=>?_)
     ·(try dsimp only);exact ⟨HC.O _ BF,BF.O⟩
     clear hK K;try simp only[ps]
     refine tS 13 (fun K hK=>?_)
     (refine AU AV (by rfl) (.tmp 64) (.tmp 68) (by rfl) wd.heap.size v8 (0+k+1) _ (by rfl) Ig _ (IL.length - k) _ ((IL.drop k).flatMap Aj.cells) (by rfl) yQ (fun hm=>Ej.O _ BF hm) xq (by omega) (by omega) BF.O.size ?_;intro v13 gM Dp Dq Gh;have Dv:=zh (KP OC Dp);have BA:=zh (BF.O.grown Dq BF.O.size fun q hq=>(World.ownsRow.lt Ig q hq).1);clear Dp Dq Gh;obtain ⟨nL,c13,rfl,_⟩:=AZ.reads Dv)
     refine hK.out _ _ ?_ (fun AQ=>?_)
     ·(try dsimp only);exact ⟨HC.O _ BA,BA.O⟩
     clear hK K;try simp only[ps]
     refine tC 14 ?_;try simp only[ps]
     refine zV (rs:=[15]) (by kernel_rfl) (by simp) ?_
     refine AB.last rfl (by kernel_rfl) (fun K hK=>?_) AB.nil
     (obtain ⟨⟨_,_⟩,_,_⟩:=JO.c5 (Mw.O.below BA);go_simp)
     refine hK.out _ _ ?_;clear hK K
     (try clear AQ)
     try simp only[ps]
     refine wpAny_done (by kernel_rfl) ?_ _
     (generalize (if cI=k then some (⟨g,0,none⟩:Addr) else some ⟨g,k * 8,none⟩)=A53 at *;go_wp2;go_meet;exact ⟨_,(Mw.O.below BA).Iy _,(by rw[show k+(IL.length - k+1)=(IL.take k++[z]++IL.drop k).length by have:=OC.O;simp;omega];exact ES Dv Ih _ _),fun q h1 h2=>(AAE _ _ _ _ h1).trans (BA.O.block q h2)⟩)
    ·
     go_simp
     refine hK.out _ _ ?_ (fun AQ=>?_)
     ·(try dsimp only);exact (fun hb=>⟨HC.O _ hb,hb⟩) (zB AQ.2.O (zD _ (.cells (z.cells).toArray 28)))
     clear hK K;try simp only[ps]
     refine tS 5 (fun K hK=>?_)
     (have HOW:Hid (Dc _ wd.heap.size _ []):=zh (AZ.alloc (DK (wd.drewN 1) rfl (AAF _)) (.cells (z.cells).toArray 28));have Bf:=zh AQ.2.O;refine AU AV (by rfl) (.tmp 56) (.tmp 60) (by rfl) wd.heap.size _ 0 [] (by rfl) HOW (some ⟨g,0,none⟩) k cI ((IL.take k).flatMap Aj.cells) (by rfl) yO (fun hm=>⟨g,0,rfl,mh.O _ Bf 0 k (by omega) hm⟩) PI (by omega) (by omega) AQ.2.O.size ?_;intro v5 w5 I6 hg5 hv5;have YQ:=zh (Cx hg5 (by intro e0;injection e0 with e0;revert e0;simp) (Dl ((wd.drewN 1).alloc (.cells #[] 28)) (p:=wd.heap.size+1) (by simp) z.cells 28));have JM:=zh I6;have Aq:=zh (Bf.O.grown hg5 Bf.O.size fun q hq=>(World.ownsRow.lt HOW q hq).1);clear I6 hg5 hv5)
     refine hK.out _ _ ?_ (fun AQ=>?_)
     ·(try dsimp only);exact ⟨HC.O _ Aq,Aq.O⟩
     clear hK K;try simp only[ps]
     refine tS 8 (fun K hK=>?_)
     (have Du:=zh (JM.O);have Df:=zh AQ.2.O;refine AU AV (by rfl) (.tmp 61) (.tmp 63) (by rfl) wd.heap.size v5 (0+k) _ (by rfl) Du (some ⟨_,0,none⟩) 1 1 z.cells (by rfl) rfl (fun _=>⟨_,0,rfl,YQ.O⟩) (Bn z) (by omega) (by omega) AQ.2.O.size ?_;intro v8 w8 BB Aw Cv;have Ig:=zh BB;have BF:=zh (Df.O.grown Aw Df.O.size fun q hq=>(World.ownsRow.lt Du q hq).1);clear BB Aw Cv)
     refine hK.out _ _ ?_ (fun AQ=>?_)
     ·(try dsimp only);exact ⟨HC.O _ BF,BF.O⟩
     clear hK K;try simp only[ps]
     refine tS 13 (fun K hK=>?_)
     (refine AU AV (by rfl) (.tmp 64) (.tmp 68) (by rfl) wd.heap.size v8 (0+k+1) _ (by rfl) Ig _ (IL.length - k) _ ((IL.drop k).flatMap Aj.cells) (by rfl) yQ (fun hm=>Ej.O _ BF hm) xq (by omega) (by omega) BF.O.size ?_;intro v13 gM Dp Dq Gh;have Dv:=zh (KP OC Dp);have BA:=zh (BF.O.grown Dq BF.O.size fun q hq=>(World.ownsRow.lt Ig q hq).1);clear Dp Dq Gh;obtain ⟨nL,c13,rfl,_⟩:=AZ.reads Dv)
     refine hK.out _ _ ?_ (fun AQ=>?_)
     ·(try dsimp only);exact ⟨HC.O _ BA,BA.O⟩
     clear hK K;try simp only[ps]
     refine tC 14 ?_;try simp only[ps]
     refine zV (rs:=[15]) (by kernel_rfl) (by simp) ?_
     refine AB.last rfl (by kernel_rfl) (fun K hK=>?_) AB.nil
     (obtain ⟨⟨_,_⟩,_,_⟩:=JO.c5 (Mw.O.below BA);go_simp)
     refine hK.out _ _ ?_;clear hK K
     (try clear AQ)
     try simp only[ps]
     refine wpAny_done (by kernel_rfl) ?_ _
     (generalize (if cI=k then some (⟨g,0,none⟩:Addr) else some ⟨g,k * 8,none⟩)=A53 at *;go_wp2;go_meet;exact ⟨_,(Mw.O.below BA).Iy _,(by rw[show k+(IL.length - k+1)=(IL.take k++[z]++IL.drop k).length by have:=OC.O;simp;omega];exact ES Dv Ih _ _),fun q h1 h2=>(AAE _ _ _ _ h1).trans (BA.O.block q h2)⟩)
   ·
    go_simp
    refine hK.out _ _ ?_ (fun AQ=>?_)
    ·(try dsimp only);exact (fun hb=>⟨HC.O _ hb,hb⟩) (zB AQ.2.O (zD _ (.cells (z.cells).toArray 28)))
    clear hK K;try simp only[ps]
    refine tS 0 (fun K hK=>?_)
    go_simp
    refine hK.out _ _ ?_ (fun AQ=>?_)
    ·(try dsimp only);exact (fun hb=>⟨HC.O _ hb,hb⟩) (zB AQ.2.O (zD _ (.cells #[] 28)))
    clear hK K;try simp only[ps]
    refine tS 5 (fun K hK=>?_)
    (have HOW:Hid (Dc _ wd.heap.size _ []):=zh (DK ((wd.drewN 1).alloc (.cells (z.cells).toArray 28)) (p:=wd.heap.size+1) (by simp) (by omega));have Bf:=zh AQ.2.O;refine AU AV (by rfl) (.tmp 56) (.tmp 60) (by rfl) wd.heap.size _ 0 [] (by rfl) HOW (some ⟨g,0,none⟩) k cI ((IL.take k).flatMap Aj.cells) (by rfl) yO (fun hm=>⟨g,0,rfl,mh.O _ Bf 0 k (by omega) hm⟩) PI (by omega) (by omega) AQ.2.O.size ?_;intro v5 w5 I6 hg5 hv5;have YQ:=zh (Cx hg5 (by intro e0;injection e0 with e0;revert e0;simp) (BJ (zD _ _) (Dl (wd.drewN 1) (p:=wd.heap.size) rfl z.cells 28)));have JM:=zh I6;have Aq:=zh (Bf.O.grown hg5 Bf.O.size fun q hq=>(World.ownsRow.lt HOW q hq).1);clear I6 hg5 hv5)
    refine hK.out _ _ ?_ (fun AQ=>?_)
    ·(try dsimp only);exact ⟨HC.O _ Aq,Aq.O⟩
    clear hK K;try simp only[ps]
    refine tS 8 (fun K hK=>?_)
    (have Du:=zh (JM.O);have Df:=zh AQ.2.O;refine AU AV (by rfl) (.tmp 61) (.tmp 63) (by rfl) wd.heap.size v5 (0+k) _ (by rfl) Du (some ⟨_,0,none⟩) 1 1 z.cells (by rfl) rfl (fun _=>⟨_,0,rfl,YQ.O⟩) (Bn z) (by omega) (by omega) AQ.2.O.size ?_;intro v8 w8 BB Aw Cv;have Ig:=zh BB;have BF:=zh (Df.O.grown Aw Df.O.size fun q hq=>(World.ownsRow.lt Du q hq).1);clear BB Aw Cv)
    refine hK.out _ _ ?_ (fun AQ=>?_)
    ·(try dsimp only);exact ⟨HC.O _ BF,BF.O⟩
    clear hK K;try simp only[ps]
    refine tS 13 (fun K hK=>?_)
    (refine AU AV (by rfl) (.tmp 64) (.tmp 68) (by rfl) wd.heap.size v8 (0+k+1) _ (by rfl) Ig _ (IL.length - k) _ ((IL.drop k).flatMap Aj.cells) (by rfl) yQ (fun hm=>Ej.O _ BF hm) xq (by omega) (by omega) BF.O.size ?_;intro v13 gM Dp Dq Gh;have Dv:=zh (KP OC Dp);have BA:=zh (BF.O.grown Dq BF.O.size fun q hq=>(World.ownsRow.lt Ig q hq).1);clear Dp Dq Gh;obtain ⟨nL,c13,rfl,_⟩:=AZ.reads Dv)
    refine hK.out _ _ ?_ (fun AQ=>?_)
    ·(try dsimp only);exact ⟨HC.O _ BA,BA.O⟩
    clear hK K;try simp only[ps]
    refine tC 14 ?_;try simp only[ps]
    refine zV (rs:=[15]) (by kernel_rfl) (by simp) ?_
    refine AB.last rfl (by kernel_rfl) (fun K hK=>?_) AB.nil
    (obtain ⟨⟨_,_⟩,_,_⟩:=JO.c5 (Mw.O.below BA);go_simp)
    refine hK.out _ _ ?_;clear hK K
    (try clear AQ)
    try simp only[ps]
    refine wpAny_done (by kernel_rfl) ?_ _
    (generalize (if cI=k then some (⟨g,0,none⟩:Addr) else some ⟨g,k * 8,none⟩)=A53 at *;go_wp2;go_meet;exact ⟨_,(Mw.O.below BA).Iy _,(by rw[show k+(IL.length - k+1)=(IL.take k++[z]++IL.drop k).length by have:=OC.O;simp;omega];exact ES Dv Ih _ _),fun q h1 h2=>(AAE _ _ _ _ h1).trans (BA.O.block q h2)⟩)
 case rest =>
 obtain ⟨v8,hps,hov,hoth⟩:=hcut;obtain ⟨we,rfl⟩:∃we:World,we=wc:=⟨_,rfl⟩;have KD:=zh hps;have HIN:=zh hov;obtain ⟨A8,n8,c8,rfl⟩:=KR hov;have eY:Hid (Dc we wp.heap.size (.slice A9 n9 c9) (KL.take k++[y]++KL.drop k)):=HKN.O.keep fun g hg hl _=>hoth g (by have:=nY.O;omega) hl
 have nW:Hid (∀q,Value.ownBlock (.slice A9 n9 c9)=some q->Value.ownBlock (.slice A8 n8 c8)≠some q):=fun q h1 h2=>by
  have g1:=(World.ownsRow.lt HKN q h1).2;have g2:=(World.ownsRow.lt hov q h2).1
  omega
 have HWD:=zh nV.O.be.size;have AEF:Hid (w.heap.size+3<wd.heap.size):=(zg.1 nV.O.br).1;have AEJ:=zh hk;clear hps hov hoth Ih Mw OC Kn OB mr nV;have hbv:=KD.O.bv;unfold I8 at hbv;obtain ⟨⟨v0,v1,v2,v3,v4,v5,v6,v7⟩,_⟩:=zK hbv;obtain ⟨⟨r0,r1,r2,r3,r4,r5,r6,r7⟩,f0,f1,f2,f3,f4,f5,f6,f7⟩:=zK KD.O.br;clear hbv;have HF:=zh (fun W9=>Y6 (W9:=W9) KD)
 unfold q8 q5 at HF;go_wp2;clear v0 v1 v2 v3 v4 v5 v6 v7 r0 r1 r2 r3 r4 r5 r6 r7 f0 f1 f2 f3 f4 f5 f6 f7;generalize World.setCell _ _ _=W9 at *;obtain ⟨h1,h2,h3⟩:=HF.O _ rfl;obtain ⟨⟨z0,z1,z2,z3,z4,z5,z6,z7⟩,_⟩:=zK h1
 exact bodyPost_ret (v := .agg #[.int .i64 8,.bool false,.int .i64 0,.string ⟨#[]⟩,.int .i64 0,.slice A9 n9 c9,.slice A8 n8 c8,AP]) (by simp[results,results113,go_sem,z0,z1,z2,z3,z4,z5,z6,z7]) rfl ⟨_,_,_,_,rfl,h2,.inr ⟨MN (eY.O.keep fun g hg _ _=>h3 g (by have:=nY.O;omega)) (by have:=nY.O;omega),MN (HIN.O.keep fun g hg _ _=>h3 g (by have:=AEF.O;omega)) HWD,nW.O,k,AEJ.O,rfl,rfl,EP.O,fun h=>⟨by have:=HNL.O h;omega,HNZ.O trivial h⟩⟩⟩
