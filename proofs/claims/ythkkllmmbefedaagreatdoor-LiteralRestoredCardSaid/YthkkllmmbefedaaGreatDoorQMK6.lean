/-
  Walks: the maker of values: put.
-/
import Derived.Test.YthkkllmmbefedaaGreatDoorQGM1
import Derived.Deep.CutBlock
namespace Go.Proofs.YthkkllmmbefedaaGreatDoor
open Go.RowKit
set_option maxHeartbeats 16000000
set_option maxRecDepth 100000
structure Iw (w:World) (vk vi:Value) (y z:Aj) (W:World):Prop where
 bv:W.heap[w.heap.size]? = some (IU 8 false 0 ⟨#[]⟩ 0 vk vi AP)
 bk:W.heap[w.heap.size+1]? = some (.cells #[.int .i64 y.v.kind,.bool y.v.bool,.int .i64 y.v.int,.string y.v.str,.int .i64 y.v.id,.slice y.A1 y.v.keys.length y.c1,.slice y.A2 y.v.items.length y.c2,.slice y.A3 y.v.rest.length y.c3] 28)
 bi:W.heap[w.heap.size+2]? = some (.cells #[.int .i64 z.v.kind,.bool z.v.bool,.int .i64 z.v.int,.string z.v.str,.int .i64 z.v.id,.slice z.A1 z.v.keys.length z.c1,.slice z.A2 z.v.items.length z.c2,.slice z.A3 z.v.rest.length z.c3] 28)
 br:W.heap[w.heap.size+3]? = some zO
 be:Below w.heap.size w W
section
variable {w W W':World} {vk vi:Value} {y z:Aj}
theorem Iw.below (h:Iw w vk vi y z W) (hb:Below W.heap.size W W'):Iw w vk vi y z W':=⟨Aw h.bv hb,Aw h.bk hb,Aw h.bi hb,Aw h.br hb,h.be.trans (hb.mono h.be.size)⟩
theorem Iw.new (w:World) (vk vi:Value) (y z:Aj):Iw w vk vi y z ((((w.alloc (IU 8 false 0 ⟨#[]⟩ 0 vk vi AP)).alloc (y.v.box y.A1 y.c1 y.A2 y.c2 y.A3 y.c3)).alloc (z.v.box z.A1 z.c1 z.A2 z.c2 z.A3 z.c3)).alloc zO):=by
 have b1:=zD w (IU 8 false 0 ⟨#[]⟩ 0 vk vi AP);have b2:=zD (w.alloc (IU 8 false 0 ⟨#[]⟩ 0 vk vi AP)) (y.v.box y.A1 y.c1 y.A2 y.c2 y.A3 y.c3);have b3:=zD ((w.alloc (IU 8 false 0 ⟨#[]⟩ 0 vk vi AP)).alloc (y.v.box y.A1 y.c1 y.A2 y.c2 y.A3 y.c3)) (z.v.box z.A1 z.c1 z.A2 z.c2 z.A3 z.c3)
 have b4:=zD (((w.alloc (IU 8 false 0 ⟨#[]⟩ 0 vk vi AP)).alloc (y.v.box y.A1 y.c1 y.A2 y.c2 y.A3 y.c3)).alloc (z.v.box z.A1 z.c1 z.A2 z.c2 z.A3 z.c3)) zO;have s1:(w.alloc (IU 8 false 0 ⟨#[]⟩ 0 vk vi AP)).heap.size=w.heap.size+1:=by simp
 have s2:((w.alloc (IU 8 false 0 ⟨#[]⟩ 0 vk vi AP)).alloc (y.v.box y.A1 y.c1 y.A2 y.c2 y.A3 y.c3)).heap.size=w.heap.size+2:=by simp
 have s3:(((w.alloc (IU 8 false 0 ⟨#[]⟩ 0 vk vi AP)).alloc (y.v.box y.A1 y.c1 y.A2 y.c2 y.A3 y.c3)).alloc (z.v.box z.A1 z.c1 z.A2 z.c2 z.A3 z.c3)).heap.size=w.heap.size+3:=by simp
 have h2:=AAL (w.alloc (IU 8 false 0 ⟨#[]⟩ 0 vk vi AP)) (y.v.box y.A1 y.c1 y.A2 y.c2 y.A3 y.c3);have h3:=AAL ((w.alloc (IU 8 false 0 ⟨#[]⟩ 0 vk vi AP)).alloc (y.v.box y.A1 y.c1 y.A2 y.c2 y.A3 y.c3)) (z.v.box z.A1 z.c1 z.A2 z.c2 z.A3 z.c3)
 have h4:=AAL (((w.alloc (IU 8 false 0 ⟨#[]⟩ 0 vk vi AP)).alloc (y.v.box y.A1 y.c1 y.A2 y.c2 y.A3 y.c3)).alloc (z.v.box z.A1 z.c1 z.A2 z.c2 z.A3 z.c3)) zO;rw[s1] at h2;rw[s2] at h3;rw[s3] at h4;exact ⟨Aw (Aw (Aw (AAL w _) b2) b3) b4,Aw (Aw h2 b3) b4,Aw h3 b4,h4,zB (zB (zB b1 b2) b3) b4⟩
theorem Iw.reads (h:Iw w vk vi y z W):(W.cell? ⟨w.heap.size,5,none⟩=some vk/\W.cell? ⟨w.heap.size,6,none⟩=some vi)/\(W.cell? ⟨w.heap.size+1,0,none⟩=some (.int .i64 y.v.kind)/\W.cell? ⟨w.heap.size+1,1,none⟩=some (.bool y.v.bool)/\W.cell? ⟨w.heap.size+1,2,none⟩=some (.int .i64 y.v.int)/\W.cell? ⟨w.heap.size+1,3,none⟩=some (.string y.v.str)/\W.cell? ⟨w.heap.size+1,4,none⟩=some (.int .i64 y.v.id)/\W.cell? ⟨w.heap.size+1,5,none⟩=some (.slice y.A1 y.v.keys.length y.c1)/\W.cell? ⟨w.heap.size+1,6,none⟩=some (.slice y.A2 y.v.items.length y.c2)/\W.cell? ⟨w.heap.size+1,7,none⟩=some (.slice y.A3 y.v.rest.length y.c3))/\(W.cell? ⟨w.heap.size+2,0,none⟩=some (.int .i64 z.v.kind)/\W.cell? ⟨w.heap.size+2,1,none⟩=some (.bool z.v.bool)/\W.cell? ⟨w.heap.size+2,2,none⟩=some (.int .i64 z.v.int)/\W.cell? ⟨w.heap.size+2,3,none⟩=some (.string z.v.str)/\W.cell? ⟨w.heap.size+2,4,none⟩=some (.int .i64 z.v.id)/\W.cell? ⟨w.heap.size+2,5,none⟩=some (.slice z.A1 z.v.keys.length z.c1)/\W.cell? ⟨w.heap.size+2,6,none⟩=some (.slice z.A2 z.v.items.length z.c2)/\W.cell? ⟨w.heap.size+2,7,none⟩=some (.slice z.A3 z.v.rest.length z.c3)):=by
 have hb:=h.bv;unfold IU at hb;refine ⟨⟨?_,?_⟩,(zK h.bk).1,(zK h.bi).1⟩ <;> (rw[AAN _ _ _ _ _ _ hb];rfl)
theorem Iw.c5 (h:Iw w vk vi y z W):(W.cell? ⟨w.heap.size,5,none⟩=some vk/\W.cell? ⟨w.heap.size,6,none⟩=some vi)/\W.frozen? ⟨w.heap.size,5,none⟩=false/\W.frozen? ⟨w.heap.size,6,none⟩=false :=
 ⟨h.reads.1,AAR _ _ _ _ _ h.bv,AAR _ _ _ _ _ h.bv⟩
theorem Iw.P5 (h:Iw w vk vi y z W) (v:Value):Iw w v vi y z (W.setCell ⟨w.heap.size,5,none⟩ v):=by
 have hb:=h.bv;unfold IU at hb;refine ⟨?_,(AAO _ _ _ _ (by show _≠w.heap.size;omega)).trans h.bk,(AAO _ _ _ _ (by show _≠w.heap.size;omega)).trans h.bi,(AAO _ _ _ _ (by show _≠w.heap.size;omega)).trans h.br,h.be.setCell (p:=⟨w.heap.size,5,none⟩) (AAP _) v⟩
 rw[AAW _ _ 5 _ _ v hb];rfl
theorem Iw.Y5 (h:Iw w vk vi y z W) (v:Value):Iw w vk v y z (W.setCell ⟨w.heap.size,6,none⟩ v):=by
 have hb:=h.bv;unfold IU at hb;refine ⟨?_,(AAO _ _ _ _ (by show _≠w.heap.size;omega)).trans h.bk,(AAO _ _ _ _ (by show _≠w.heap.size;omega)).trans h.bi,(AAO _ _ _ _ (by show _≠w.heap.size;omega)).trans h.br,h.be.setCell (p:=⟨w.heap.size,6,none⟩) (AAP _) v⟩
 rw[AAW _ _ 6 _ _ v hb];rfl
end
variable {w:World}
theorem F7 {p q:Nat} (h:q≠p) (v0 v1 v2 v3 v4 v5 v6 v7:Value):(q8 w p v0 v1 v2 v3 v4 v5 v6 v7).heap[q]? = w.heap[q]? := by
 unfold q8 q5;rw[AAO _ _ _ _ h,AAO _ _ _ _ h,AAO _ _ _ _ h,AAO _ _ _ _ h,AAO _ _ _ _ h,AAO _ _ _ _ h,AAO _ _ _ _ h,AAO _ _ _ _ h]
theorem Xl {W:World} {vk vi:Value} {y z:Aj} (h:Iw w vk vi y z W) {W9:World} (e:W9=q8 W (w.heap.size+3) (.int .i64 8) (.bool false) (.int .i64 0) (.string ⟨#[]⟩) (.int .i64 0) vk vi AP):
  W9.heap[w.heap.size+3]? = some (.cells #[.int .i64 8,.bool false,.int .i64 0,.string ⟨#[]⟩,.int .i64 0,vk,vi,AP] 28)/\Below w.heap.size w W9/\∀q,q≠w.heap.size+3->W9.heap[q]? = W.heap[q]? := by
 subst e;refine ⟨Gr h.br _ _ _ _ _ _ _ _,?_,fun q hq=>F7 hq _ _ _ _ _ _ _ _⟩
 exact (((((((h.be.setCell (p:=⟨w.heap.size+3,0,none⟩) (by show _<=w.heap.size+3;omega) _).setCell (p:=⟨w.heap.size+3,1,none⟩) (by show _<=w.heap.size+3;omega) _).setCell (p:=⟨w.heap.size+3,2,none⟩) (by show _<=w.heap.size+3;omega) _).setCell (p:=⟨w.heap.size+3,3,none⟩) (by show _<=w.heap.size+3;omega) _).setCell (p:=⟨w.heap.size+3,4,none⟩) (by show _<=w.heap.size+3;omega) _).setCell (p:=⟨w.heap.size+3,5,none⟩) (by show _<=w.heap.size+3;omega) _).setCell (p:=⟨w.heap.size+3,6,none⟩) (by show _<=w.heap.size+3;omega) _).setCell (p:=⟨w.heap.size+3,7,none⟩) (by show _<=w.heap.size+3;omega) _
def xU (w:World) (vk vi:Value) (KL IL:List Aj) (y z:Aj) (e:Ending) (w':World):Prop:=∃ (Kn Gd:Value) (K' I':List Aj),e = .returned (.agg #[.int .i64 8,.bool false,.int .i64 0,.string ⟨#[]⟩,.int .i64 0,Kn,Gd,AP])/\Below w.heap.size w w' /\
 ((Kn=vk/\Gd=vi/\K'=KL/\I'=IL)\/(C9 w' w.heap.size Kn K'/\C9 w' w.heap.size Gd I'/\(∀q,Kn.ownBlock=some q->Gd.ownBlock≠some q)/\∃i:Nat,i<=KL.length/\K'=KL.take i++[y]++KL.drop i/\I'=IL.take i++[z]++IL.drop i/\(∀j (h:j<KL.length),j<i->BV (KL[j]).v y.v<0)/\∀ (h:i<KL.length),¬ BV (KL[i]).v y.v<0/\BV (KL[i]).v y.v≠0))
theorem eX {b0:Nat} {vk vi:Value} {KL IL:List Aj} (hK:C9 w b0 vk KL) (hI:C9 w b0 vi IL) (hle:IL.length=KL.length) (hln:KL.length<=100) (hnil:KL=[]->vk=AP/\vi=AP) (y z:Aj) (hk:∀v∈KL,v.v.kind=y.v.kind/\(1<=v.v.kind/\v.v.kind<=4)/\(v.v.kind=2->In64 v.v.int/\In64 y.v.int)/\(v.v.str.size<=9223372036854775807/\y.v.str.size<=9223372036854775807)):
  Calls Tryz.prog 113 #[.agg #[.int .i64 8,.bool false,.int .i64 0,.string ⟨#[]⟩,.int .i64 0,vk,vi,AP],y.v.v y.A1 y.c1 y.A2 y.c2 y.A3 y.c3,z.v.v z.A1 z.c1 z.A2 z.c2 z.A3 z.c3] w (xU w vk vi KL IL y z):=by
 have Sv:=zh (Iw.new w vk vi y z);have vU:=zh hK;have HIO:=zh hI;have VR:=zh hle;have HKK:=zh hk;have qD:=zh hnil;obtain ⟨A,cK,rfl,hcK,-⟩:=Ms hK;obtain ⟨B,cI,rfl,hcI,-⟩:=Ms hI;clear hK hI hk hle hnil
 go_enter Tryz.func113,Tryz.ntmps113
 go_upto_region 1 with fail
 unfold IU zO Val.box at Sv;generalize World.alloc (World.alloc (World.alloc (World.alloc w _) _) _) _=W1 at *;have Yb:Hid (Iw w (.slice A KL.length cK) (.slice B IL.length cI) y z W1):=Sv.out;clear Sv
 go_upto_block 0 with fail
 go_cut [7] (fun i wx=>∃k:Nat,k<=KL.length/\i = .int .i64 (k:Int)/\Hid (Iw w (.slice A KL.length cK) (.slice B IL.length cI) y z wx/\(∀j (h:j<KL.length),j<k->BV (KL[j]).v y.v<0)/\∀h:k<KL.length,¬ BV (KL[k]).v y.v<0))
 case first =>
  go_wp2_with fail
  go_loopw [7] (fun i wr=>∃k:Nat,k<=KL.length/\i = .int .i64 (k:Int)/\Hid (Iw w (.slice A KL.length cK) (.slice B IL.length cI) y z wr/\∀j (h:j<KL.length),j<k->BV (KL[j]).v y.v<0)) (fun i _=>KL.length - (intOf i).toNat)
  case atStart=>exact ⟨0,by omega,rfl,Yb.out,fun _ _ h=>absurd h (by omega)⟩
  case round =>
   obtain ⟨k,hk,rfl,hh⟩:=hrel;obtain ⟨wo,rfl⟩:∃wo:World,wo=wr:=⟨_,rfl⟩;have HP:=zh hh.out.1;have Dz:=zh hh.out.2;clear hh Yb
   by_cases hlt:k<KL.length
   ·as_aux_lemma =>
    obtain ⟨_,_,e1,-,hat,-⟩:=Ms (vU.out.below HP.out.be)
    injection e1 with e1 _ e2
    subst e1 e2;obtain ⟨g,rfl,hr⟩:=hat k hlt;have aW:=zh (HKK.out _ (AAU hlt));obtain ⟨x,hx⟩:∃x,KL[k]=x:=⟨_,rfl⟩;rw[hx] at hr aW;have HXE:=zh hx;have hc:=Kr (y:=x.v) hr;rw[Nat.zero_add] at hc
    have HC:Hid (∀w',Below wo.heap.size wo w'->(w'.cell? ⟨w.heap.size,5,none⟩=some (.slice (some ⟨g,0,none⟩) KL.length cK)/\(w'.cell? ⟨w.heap.size+1,0,none⟩=some (.int .i64 y.v.kind)/\w'.cell? ⟨w.heap.size+1,1,none⟩=some (.bool y.v.bool)/\w'.cell? ⟨w.heap.size+1,2,none⟩=some (.int .i64 y.v.int)/\w'.cell? ⟨w.heap.size+1,3,none⟩=some (.string y.v.str)/\w'.cell? ⟨w.heap.size+1,4,none⟩=some (.int .i64 y.v.id)/\w'.cell? ⟨w.heap.size+1,5,none⟩=some (.slice y.A1 y.v.keys.length y.c1)/\w'.cell? ⟨w.heap.size+1,6,none⟩=some (.slice y.A2 y.v.items.length y.c2)/\w'.cell? ⟨w.heap.size+1,7,none⟩=some (.slice y.A3 y.v.rest.length y.c3))/\(w'.cell? ⟨g,k * 8,none⟩=some (.int .i64 x.v.kind)/\w'.cell? ⟨g,k * 8+1,none⟩=some (.bool x.v.bool)/\w'.cell? ⟨g,k * 8+2,none⟩=some (.int .i64 x.v.int)/\w'.cell? ⟨g,k * 8+3,none⟩=some (.string x.v.str)/\w'.cell? ⟨g,k * 8+4,none⟩=some (.int .i64 x.v.id)/\w'.cell? ⟨g,k * 8+5,none⟩=some (.slice x.A1 x.v.keys.length x.c1)/\w'.cell? ⟨g,k * 8+6,none⟩=some (.slice x.A2 x.v.items.length x.c2)/\w'.cell? ⟨g,k * 8+7,none⟩=some (.slice x.A3 x.v.rest.length x.c3)))):=fun w' hb =>
     ⟨(HP.out.below hb).reads.1.1,(HP.out.below hb).reads.2.1,zA hb hc.1,zA hb hc.2.1,zA hb hc.2.2.1,zA hb hc.2.2.2.1,zA hb hc.2.2.2.2.1,zA hb hc.2.2.2.2.2.1,zA hb hc.2.2.2.2.2.2.1,zA hb hc.2.2.2.2.2.2.2⟩
    have h1:(0:Int)<=(k:Int):=by omega
    have h2:(k:Int)<(KL.length:Int):=by omega
    have h3:decide ((k:Int)<(KL.length:Int))=true:=AAT h2;clear hr hx hc hat;go_upto_region 2 with fail
    refine zr (Y:=fun w'=>Hid (Below wo.heap.size wo w')) HC (by kernel_rfl) ?_ (fun AQ=>?_)
    ·(try dsimp only);exact ⟨HC.out _ (zC (Pe _ _) 1),(zC (Pe _ _) 1)⟩
    refine tL 0 ?_;try simp only[ps]
    refine tL 1 ?_;try simp only[ps]
    refine tL 2 ?_;try simp only[ps]
    refine tL 3 ?_;try simp only[ps]
    refine tL 4 ?_;try simp only[ps]
    refine tL 5 ?_;try simp only[ps]
    refine tL 6 ?_;try simp only[ps]
    refine tL 7 ?_;try simp only[ps]
    refine tL 8 ?_;try simp only[ps]
    refine tL 9 ?_;try simp only[ps]
    refine tL 10 ?_;try simp only[ps]
    refine tL 11 ?_;try simp only[ps]
    refine tR 12 (fun K hK=>?_)
    go_simp
    (have HB0:=zh AQ.2.out;refine (Ld x.v y.v aW.out.1 aW.out.2.1 aW.out.2.2.1 aW.out.2.2.2 x.A1 x.c1 x.A2 x.c2 x.A3 x.c3 y.A1 y.c1 y.A2 y.c2 y.A3 y.c3 _).mono ?_;rintro e w6 ⟨rfl,hb6⟩;have BH:=zh (zB HB0 hb6);clear hb6)
    refine hK.out _ _ ?_ (fun AQ=>?_)
    ·(try dsimp only);exact ⟨HC.out _ BH,BH.out⟩
    clear hK K;try simp only[ps]
    refine tL 13 ?_;try simp only[ps]
    refine tL 14 ?_;try simp only[ps]
    refine wpAnyH_done (by kernel_rfl) ?_ _
    have Ya:=zh (HP.out.below AQ.2.out);clear AQ;generalize hcb:decide (BV x.v y.v<0)=cb
    cases cb with
    | true =>
     have hc:=AAe hcb;have HL2:Hid (∀j (h:j<KL.length),j<k+1->BV (KL[j]).v y.v<0):=fun j h hj=>by
      by_cases e:j=k
      ·subst e;rw[HXE.out];exact hc
      ·exact Dz.out j h (by omega)
     clear hc hcb;go_wp2;go_roundw
     case rel=>exact ⟨k+1,by omega,by go_num,Ya.out,HL2.out⟩
     case measure=>simp[intOf];omega
    | false =>
     have vS:Hid (∀h:k<KL.length,¬ BV (KL[k]).v y.v<0):=fun h=>by rw[HXE.out];exact of_decide_eq_false hcb
     clear hcb;go_wp2;go_meet;exact ⟨k,by omega,rfl,Ya.out,Dz.out,vS.out⟩
   ·as_aux_lemma =>
    have HC:Hid (∀w',Below wo.heap.size wo w'->w'.cell? ⟨w.heap.size,5,none⟩=some (.slice A KL.length cK)):=fun w' hb=>(HP.out.below hb).reads.1.1
    have h3:decide ((k:Int)<(KL.length:Int))=false:=AAZ (by omega)
    go_upto_region 2 with fail
    refine wp_region_held_drew (S:=(fun w'=>(w'.cell? ⟨w.heap.size,5,none⟩=some (.slice A KL.length cK))/\Hid (Below wo.heap.size wo w'))) (by kernel_rfl) ?_ (fun AQ=>?_)
    ·(try dsimp only);exact ⟨HC.out _ (zC (Pe _ _) 1),(zC (Pe _ _) 1)⟩
    refine tL 0 ?_;try simp only[ps]
    refine tL 1 ?_;try simp only[ps]
    refine tL 2 ?_;try simp only[ps]
    refine tL 3 ?_;try simp only[ps]
    refine tL 4 ?_;try simp only[ps]
    refine tL 5 ?_;try simp only[ps]
    refine tU 6 ?_;try simp only[ps]
    refine tU 7 ?_;try simp only[ps]
    refine tU 8 ?_;try simp only[ps]
    refine tU 9 ?_;try simp only[ps]
    refine tU 10 ?_;try simp only[ps]
    refine tU 11 ?_;try simp only[ps]
    refine tU 12 ?_;try simp only[ps]
    refine tU 13 ?_;try simp only[ps]
    refine tL 14 ?_;try simp only[ps]
    refine wpAnyH_done (by kernel_rfl) ?_ _
    have Ya:=zh (HP.out.below AQ.2.out);clear AQ;go_wp2;go_meet;exact ⟨k,by omega,rfl,Ya.out,Dz.out,fun h=>absurd h hlt⟩
 case rest =>
 obtain ⟨k,hk,rfl,hh⟩:=hcut;obtain ⟨wo,rfl⟩:∃wo:World,wo=wc:=⟨_,rfl⟩;have HP:=zh hh.out.1;have Dz:=zh hh.out.2.1;have vS:=zh hh.out.2.2;clear hh Yb
 go_upto_block 1 with fail
 go_cut [39] (fun c wx=>∃b:Bool,c = .bool b/\Hid (Iw w (.slice A KL.length cK) (.slice B IL.length cI) y z wx/\(b=false->∀h:k<KL.length,BV (KL[k]).v y.v≠0)))
 case first =>
  by_cases hlt:k<KL.length
  ·as_aux_lemma =>
   obtain ⟨_,_,e1,-,hat,-⟩:=Ms (vU.out.below HP.out.be)
   injection e1 with e1 _ e2
   subst e1 e2;obtain ⟨g,rfl,hr⟩:=hat k hlt;have aW:=zh (HKK.out _ (AAU hlt));obtain ⟨x,hx⟩:∃x,KL[k]=x:=⟨_,rfl⟩;rw[hx] at hr aW;have HXE:=zh hx;have hc:=Kr (y:=x.v) hr;rw[Nat.zero_add] at hc
   have HC:Hid (∀w',Below wo.heap.size wo w'->(w'.cell? ⟨w.heap.size,5,none⟩=some (.slice (some ⟨g,0,none⟩) KL.length cK)/\(w'.cell? ⟨w.heap.size+1,0,none⟩=some (.int .i64 y.v.kind)/\w'.cell? ⟨w.heap.size+1,1,none⟩=some (.bool y.v.bool)/\w'.cell? ⟨w.heap.size+1,2,none⟩=some (.int .i64 y.v.int)/\w'.cell? ⟨w.heap.size+1,3,none⟩=some (.string y.v.str)/\w'.cell? ⟨w.heap.size+1,4,none⟩=some (.int .i64 y.v.id)/\w'.cell? ⟨w.heap.size+1,5,none⟩=some (.slice y.A1 y.v.keys.length y.c1)/\w'.cell? ⟨w.heap.size+1,6,none⟩=some (.slice y.A2 y.v.items.length y.c2)/\w'.cell? ⟨w.heap.size+1,7,none⟩=some (.slice y.A3 y.v.rest.length y.c3))/\(w'.cell? ⟨g,k * 8,none⟩=some (.int .i64 x.v.kind)/\w'.cell? ⟨g,k * 8+1,none⟩=some (.bool x.v.bool)/\w'.cell? ⟨g,k * 8+2,none⟩=some (.int .i64 x.v.int)/\w'.cell? ⟨g,k * 8+3,none⟩=some (.string x.v.str)/\w'.cell? ⟨g,k * 8+4,none⟩=some (.int .i64 x.v.id)/\w'.cell? ⟨g,k * 8+5,none⟩=some (.slice x.A1 x.v.keys.length x.c1)/\w'.cell? ⟨g,k * 8+6,none⟩=some (.slice x.A2 x.v.items.length x.c2)/\w'.cell? ⟨g,k * 8+7,none⟩=some (.slice x.A3 x.v.rest.length x.c3)))):=fun w' hb =>
    ⟨(HP.out.below hb).reads.1.1,(HP.out.below hb).reads.2.1,zA hb hc.1,zA hb hc.2.1,zA hb hc.2.2.1,zA hb hc.2.2.2.1,zA hb hc.2.2.2.2.1,zA hb hc.2.2.2.2.2.1,zA hb hc.2.2.2.2.2.2.1,zA hb hc.2.2.2.2.2.2.2⟩
   have h1:(0:Int)<=(k:Int):=by omega
   have h2:(k:Int)<(KL.length:Int):=by omega
   have h3:decide ((k:Int)<(KL.length:Int))=true:=AAT h2;clear hr hx hc hat;go_upto_region 4 with fail
   refine zr (Y:=fun w'=>Hid (Below wo.heap.size wo w')) HC (by kernel_rfl) ?_ (fun AQ=>?_)
   ·(try dsimp only);exact ⟨HC.out _ (zC (Pe _ _) 1),(zC (Pe _ _) 1)⟩
   refine tL 0 ?_;try simp only[ps]
   refine tL 1 ?_;try simp only[ps]
   refine tL 2 ?_;try simp only[ps]
   refine tL 3 ?_;try simp only[ps]
   refine tL 4 ?_;try simp only[ps]
   refine tL 5 ?_;try simp only[ps]
   refine tL 6 ?_;try simp only[ps]
   refine tL 7 ?_;try simp only[ps]
   refine tL 8 ?_;try simp only[ps]
   refine tL 9 ?_;try simp only[ps]
   refine tL 10 ?_;try simp only[ps]
   refine tL 11 ?_;try simp only[ps]
   refine tR 12 (fun K hK=>?_)
   go_simp
   (have HB0:=zh AQ.2.out;refine (Ld x.v y.v aW.out.1 aW.out.2.1 aW.out.2.2.1 aW.out.2.2.2 x.A1 x.c1 x.A2 x.c2 x.A3 x.c3 y.A1 y.c1 y.A2 y.c2 y.A3 y.c3 _).mono ?_;rintro e w6 ⟨rfl,hb6⟩;have BH:=zh (zB HB0 hb6);clear hb6)
   refine hK.out _ _ ?_ (fun AQ=>?_)
   ·(try dsimp only);exact ⟨HC.out _ BH,BH.out⟩
   clear hK K;try simp only[ps]
   refine tL 13 ?_;try simp only[ps]
   refine tL 14 ?_;try simp only[ps]
   refine wpAnyH_done (by kernel_rfl) ?_ _
   have Ya:=zh (HP.out.below AQ.2.out);clear AQ;generalize hcb:(BV x.v y.v==0)=cb
   cases cb with
   | true =>
    clear hcb;go_wp2;go_meet;exact ⟨true,rfl,Ya.out,fun e=>by cases e⟩
   | false =>
    have HNZ:Hid (∀h:k<KL.length,BV (KL[k]).v y.v≠0):=fun h=>by rw[HXE.out];intro e;rw[e] at hcb;cases hcb
    clear hcb;go_wp2;go_meet;exact ⟨false,rfl,Ya.out,fun _=>HNZ.out⟩
  ·as_aux_lemma =>
   have HC:Hid (∀w',Below wo.heap.size wo w'->w'.cell? ⟨w.heap.size,5,none⟩=some (.slice A KL.length cK)):=fun w' hb=>(HP.out.below hb).reads.1.1
   have h3:decide ((k:Int)<(KL.length:Int))=false:=AAZ (by omega)
   go_upto_region 4 with fail
   refine wp_region_held_drew (S:=(fun w'=>(w'.cell? ⟨w.heap.size,5,none⟩=some (.slice A KL.length cK))/\Hid (Below wo.heap.size wo w'))) (by kernel_rfl) ?_ (fun AQ=>?_)
   ·(try dsimp only);exact ⟨HC.out _ (zC (Pe _ _) 1),(zC (Pe _ _) 1)⟩
   refine tL 0 ?_;try simp only[ps]
   refine tL 1 ?_;try simp only[ps]
   refine tL 2 ?_;try simp only[ps]
   refine tL 3 ?_;try simp only[ps]
   refine tL 4 ?_;try simp only[ps]
   refine tL 5 ?_;try simp only[ps]
   refine tU 6 ?_;try simp only[ps]
   refine tU 7 ?_;try simp only[ps]
   refine tU 8 ?_;try simp only[ps]
   refine tU 9 ?_;try simp only[ps]
   refine tU 10 ?_;try simp only[ps]
   refine tU 11 ?_;try simp only[ps]
   refine tU 12 ?_;try simp only[ps]
   refine tU 13 ?_;try simp only[ps]
   refine tL 14 ?_;try simp only[ps]
   refine wpAnyH_done (by kernel_rfl) ?_ _
   have Ya:=zh (HP.out.below AQ.2.out);clear AQ;go_wp2;go_meet;exact ⟨false,rfl,Ya.out,fun _ h=>absurd h hlt⟩
 case rest =>
 obtain ⟨b,rfl,hh⟩:=hcut;have VP:=zh hh.out.1;have HNZ:=zh hh.out.2;clear hh HP
 cases b with
 | true =>
  have hbv:=VP.out.bv;unfold IU at hbv;obtain ⟨⟨v0,v1,v2,v3,v4,v5,v6,v7⟩,_⟩:=zK hbv;obtain ⟨⟨r0,r1,r2,r3,r4,r5,r6,r7⟩,f0,f1,f2,f3,f4,f5,f6,f7⟩:=zK VP.out.br;clear hbv;have HF:=zh (fun W9=>Xl (W9:=W9) VP)
  unfold q8 q5 at HF;go_wp2;clear v0 v1 v2 v3 v4 v5 v6 v7 r0 r1 r2 r3 r4 r5 r6 r7 f0 f1 f2 f3 f4 f5 f6 f7;generalize World.setCell _ _ _=W9 at *;obtain ⟨h1,h2,_⟩:=HF.out _ rfl;obtain ⟨⟨z0,z1,z2,z3,z4,z5,z6,z7⟩,_⟩:=zK h1
  exact bodyPost_ret (v := .agg #[.int .i64 8,.bool false,.int .i64 0,.string ⟨#[]⟩,.int .i64 0,.slice A KL.length cK,.slice B IL.length cI,AP]) (by simp[results,Tryz.results113,go_sem,z0,z1,z2,z3,z4,z5,z6,z7]) rfl ⟨_,_,KL,IL,rfl,h2,.inl ⟨rfl,rfl,rfl,rfl⟩⟩
 | false =>
 obtain ⟨wp,rfl⟩:∃wp:World,wp=wc:=⟨_,rfl⟩;have KV:Hid (w.heap.size<wp.heap.size):=(zg.1 VP.out.bv).1;have jy:Hid (w.heap.size+3<wp.heap.size):=(zg.1 VP.out.br).1;have Kk:Hid (Iw w (.slice A KL.length cK) (.slice B IL.length cI) y z wp):=VP.out;have NR:=zh hk;have Ip:=zh hcK;have OZ:=zh hln;have jP:Hid (¬ KL=[]->0<KL.length):=fun h=>List.length_pos_iff.2 h
 go_upto_region 6 with fail
 go_cut [] (fun wx=>∃v9:Value,Iw w v9 (.slice B IL.length cI) y z wx/\C9 wx wp.heap.size v9 (KL.take k++[y]++KL.drop k)/\∀q,q≠w.heap.size->q<wp.heap.size->wx.heap[q]? = wp.heap[q]?)
 case first =>
  by_cases sG:KL=[]
  ·
   obtain ⟨hn1,hn2⟩:=qD.out sG;subst sG;obtain rfl:IL=[]:=AAa VR;obtain rfl:k=0:=Nat.le_zero.1 NR;obtain ⟨hA,hc⟩:A=none/\cK=0:=by injection hn1 with g1 _ g2;exact ⟨g1,g2⟩
   obtain ⟨hA2,hc2⟩:B=none/\cI=0:=by injection hn2 with g1 _ g2;exact ⟨g1,g2⟩
   subst hA hc hA2 hc2
   have HC:Hid (∀w',Below wp.heap.size wp w'->(w'.cell? ⟨w.heap.size,5,none⟩=some (.slice none 0 0)/\(w'.cell? ⟨w.heap.size+1,0,none⟩=some (.int .i64 y.v.kind)/\w'.cell? ⟨w.heap.size+1,1,none⟩=some (.bool y.v.bool)/\w'.cell? ⟨w.heap.size+1,2,none⟩=some (.int .i64 y.v.int)/\w'.cell? ⟨w.heap.size+1,3,none⟩=some (.string y.v.str)/\w'.cell? ⟨w.heap.size+1,4,none⟩=some (.int .i64 y.v.id)/\w'.cell? ⟨w.heap.size+1,5,none⟩=some (.slice y.A1 y.v.keys.length y.c1)/\w'.cell? ⟨w.heap.size+1,6,none⟩=some (.slice y.A2 y.v.items.length y.c2)/\w'.cell? ⟨w.heap.size+1,7,none⟩=some (.slice y.A3 y.v.rest.length y.c3)))):=fun w' hb=>⟨(VP.out.below hb).reads.1.1,(VP.out.below hb).reads.2.1⟩
   clear hn1 hn2 hln hk hcK hcI
   refine yE (S:=(fun w'=>(w'.cell? ⟨w.heap.size,5,none⟩=some (.slice none 0 0)/\(w'.cell? ⟨w.heap.size+1,0,none⟩=some (.int .i64 y.v.kind)/\w'.cell? ⟨w.heap.size+1,1,none⟩=some (.bool y.v.bool)/\w'.cell? ⟨w.heap.size+1,2,none⟩=some (.int .i64 y.v.int)/\w'.cell? ⟨w.heap.size+1,3,none⟩=some (.string y.v.str)/\w'.cell? ⟨w.heap.size+1,4,none⟩=some (.int .i64 y.v.id)/\w'.cell? ⟨w.heap.size+1,5,none⟩=some (.slice y.A1 y.v.keys.length y.c1)/\w'.cell? ⟨w.heap.size+1,6,none⟩=some (.slice y.A2 y.v.items.length y.c2)/\w'.cell? ⟨w.heap.size+1,7,none⟩=some (.slice y.A3 y.v.rest.length y.c3)))/\Hid (Below wp.heap.size wp w'))) 15 (by kernel_rfl) ?_ (fun AQ=>?_)
   ·(try dsimp only);exact (fun hb=>⟨HC.out _ hb,hb⟩) (zC (Pe _ _) 1)
   refine tC 1 ?_;try simp only[ps]
   refine tB 2 ?_;try simp only[ps]
   refine tC 3 ?_;try simp only[ps]
   refine tC 4 ?_;try simp only[ps]
   refine tB 6 ?_;try simp only[ps]
   refine tC 9 ?_;try simp only[ps]
   refine tB 10 ?_;try simp only[ps]
   refine tC 11 ?_;try simp only[ps]
   refine tC 12 ?_;try simp only[ps]
   refine zV (rs:=[0,7]) (by kernel_rfl) (by simp) ?_
   refine (AB.cons rfl (fun K hK=>?_) (AB.cons rfl (fun K hK=>?_) AB.nil))
   ·
    go_simp
    refine hK.out _ _ ?_ (fun AQ=>?_)
    ·(try dsimp only);exact (fun hb=>⟨HC.out _ hb,hb⟩) (zB AQ.2.out (zD _ (.cells #[] 28)))
    clear hK K;try simp only[ps]
    refine zV (rs:=[5,7]) (by kernel_rfl) (by simp) ?_
    refine (AB.cons rfl (fun K hK=>?_) (AB.cons rfl (fun K hK=>?_) AB.nil))
    ·
     (have HOW:Hid (C9 _ wp.heap.size _ []):=zh (Co (wp.drewN 1) rfl (AAP _));have Bw:=zh AQ.2.out;refine AX AU (by rfl) (.tmp 41) (.tmp 45) (by rfl) wp.heap.size _ 0 [] (by rfl) HOW none 0 0 ([]) (by rfl) rfl (fun h=>absurd rfl h) (fun _ h=>by cases h) (by omega) (by omega) AQ.2.out.size ?_;intro v5 w5 IQ hg5 hv5;have KU:=zh IQ;have Ap:=zh (Bw.out.grown hg5 Bw.out.size fun q hq=>(World.ownsRow.lt HOW q hq).1);clear IQ hg5 hv5)
     refine hK.out _ _ ?_ (fun AQ=>?_)
     ·(try dsimp only);exact ⟨HC.out _ Ap,Ap.out⟩
     clear hK K;try simp only[ps]
     refine tS 7 (fun K hK=>?_)
     go_simp
     refine hK.out _ _ ?_ (fun AQ=>?_)
     ·(try dsimp only);exact (fun hb=>⟨HC.out _ hb,hb⟩) (zB Ap (zD _ (.cells (y.cells).toArray 28)))
     clear hK K;try simp only[ps]
     refine tS 8 (fun K hK=>?_)
     (have Db:=zh (World.ownsRow.alloc KU (.cells (y.cells).toArray 28));have DC:=zh AQ.2.out;refine AX AU (by rfl) (.tmp 46) (.tmp 48) (by rfl) wp.heap.size v5 (0+0) _ (by rfl) Db (some ⟨_,0,none⟩) 1 1 y.cells (by rfl) rfl (fun _=>⟨_,0,rfl,zR w5 y.cells 28⟩) (Bh y) (by omega) (by omega) AQ.2.out.size ?_;intro v8 w8 BI BB Ci;have Ia:=zh BI;have BK:=zh (DC.out.grown BB DC.out.size fun q hq=>(World.ownsRow.lt Db q hq).1);clear BI BB Ci)
     refine hK.out _ _ ?_ (fun AQ=>?_)
     ·(try dsimp only);exact ⟨HC.out _ BK,BK.out⟩
     clear hK K;try simp only[ps]
     refine tS 13 (fun K hK=>?_)
     (refine AX AU (by rfl) (.tmp 49) (.tmp 53) (by rfl) wp.heap.size v8 (0+0+1) _ (by rfl) Ia none 0 0 ([]) (by rfl) rfl (fun h=>absurd rfl h) (fun _ h=>by cases h) (by omega) (by omega) BK.out.size ?_;intro v13 bR DW DX GK;have Dc:=zh (He DW);have Au:=zh (BK.out.grown DX BK.out.size fun q hq=>(World.ownsRow.lt Ia q hq).1);clear DW DX GK;obtain ⟨jW,c13,rfl,_⟩:=Ab.reads Dc)
     refine hK.out _ _ ?_ (fun AQ=>?_)
     ·(try dsimp only);exact ⟨HC.out _ Au,Au.out⟩
     clear hK K;try simp only[ps]
     refine tC 14 ?_;try simp only[ps]
     refine zV (rs:=[15]) (by kernel_rfl) (by simp) ?_
     refine AB.last rfl (by kernel_rfl) (fun K hK=>?_) AB.nil
     (obtain ⟨⟨_,_⟩,_,_⟩:=Iw.c5 (Kk.out.below Au);go_simp)
     refine hK.out _ _ ?_;clear hK K
     (try clear AQ)
     try simp only[ps]
     refine wpAny_done (by kernel_rfl) ?_ _
     (go_wp2;go_meet;exact ⟨_,(Kk.out.below Au).P5 _,D7 Dc KV _ _,fun q h1 h2=>(AAO _ _ _ _ h1).trans (Au.out.block q h2)⟩)
    ·
     go_simp
     refine hK.out _ _ ?_ (fun AQ=>?_)
     ·(try dsimp only);exact (fun hb=>⟨HC.out _ hb,hb⟩) (zB AQ.2.out (zD _ (.cells (y.cells).toArray 28)))
     clear hK K;try simp only[ps]
     refine tS 5 (fun K hK=>?_)
     (have HOW:Hid (C9 _ wp.heap.size _ []):=zh (Ab.alloc (Co (wp.drewN 1) rfl (AAP _)) (.cells (y.cells).toArray 28));have Bw:=zh AQ.2.out;refine AX AU (by rfl) (.tmp 41) (.tmp 45) (by rfl) wp.heap.size _ 0 [] (by rfl) HOW none 0 0 ([]) (by rfl) rfl (fun h=>absurd rfl h) (fun _ h=>by cases h) (by omega) (by omega) AQ.2.out.size ?_;intro v5 w5 IQ hg5 hv5;have XA:=zh (Cj hg5 (by intro e0;injection e0 with e0;revert e0;simp) (DU ((wp.drewN 1).alloc (.cells #[] 28)) (p:=wp.heap.size+1) (by simp) y.cells 28));have KU:=zh IQ;have Ap:=zh (Bw.out.grown hg5 Bw.out.size fun q hq=>(World.ownsRow.lt HOW q hq).1);clear IQ hg5 hv5)
     refine hK.out _ _ ?_ (fun AQ=>?_)
     ·(try dsimp only);exact ⟨HC.out _ Ap,Ap.out⟩
     clear hK K;try simp only[ps]
     refine tS 8 (fun K hK=>?_)
     (have Db:=zh (KU.out);have DC:=zh AQ.2.out;refine AX AU (by rfl) (.tmp 46) (.tmp 48) (by rfl) wp.heap.size v5 (0+0) _ (by rfl) Db (some ⟨_,0,none⟩) 1 1 y.cells (by rfl) rfl (fun _=>⟨_,0,rfl,XA.out⟩) (Bh y) (by omega) (by omega) AQ.2.out.size ?_;intro v8 w8 BI BB Ci;have Ia:=zh BI;have BK:=zh (DC.out.grown BB DC.out.size fun q hq=>(World.ownsRow.lt Db q hq).1);clear BI BB Ci)
     refine hK.out _ _ ?_ (fun AQ=>?_)
     ·(try dsimp only);exact ⟨HC.out _ BK,BK.out⟩
     clear hK K;try simp only[ps]
     refine tS 13 (fun K hK=>?_)
     (refine AX AU (by rfl) (.tmp 49) (.tmp 53) (by rfl) wp.heap.size v8 (0+0+1) _ (by rfl) Ia none 0 0 ([]) (by rfl) rfl (fun h=>absurd rfl h) (fun _ h=>by cases h) (by omega) (by omega) BK.out.size ?_;intro v13 bR DW DX GK;have Dc:=zh (He DW);have Au:=zh (BK.out.grown DX BK.out.size fun q hq=>(World.ownsRow.lt Ia q hq).1);clear DW DX GK;obtain ⟨jW,c13,rfl,_⟩:=Ab.reads Dc)
     refine hK.out _ _ ?_ (fun AQ=>?_)
     ·(try dsimp only);exact ⟨HC.out _ Au,Au.out⟩
     clear hK K;try simp only[ps]
     refine tC 14 ?_;try simp only[ps]
     refine zV (rs:=[15]) (by kernel_rfl) (by simp) ?_
     refine AB.last rfl (by kernel_rfl) (fun K hK=>?_) AB.nil
     (obtain ⟨⟨_,_⟩,_,_⟩:=Iw.c5 (Kk.out.below Au);go_simp)
     refine hK.out _ _ ?_;clear hK K
     (try clear AQ)
     try simp only[ps]
     refine wpAny_done (by kernel_rfl) ?_ _
     (go_wp2;go_meet;exact ⟨_,(Kk.out.below Au).P5 _,D7 Dc KV _ _,fun q h1 h2=>(AAO _ _ _ _ h1).trans (Au.out.block q h2)⟩)
   ·
    go_simp
    refine hK.out _ _ ?_ (fun AQ=>?_)
    ·(try dsimp only);exact (fun hb=>⟨HC.out _ hb,hb⟩) (zB AQ.2.out (zD _ (.cells (y.cells).toArray 28)))
    clear hK K;try simp only[ps]
    refine tS 0 (fun K hK=>?_)
    go_simp
    refine hK.out _ _ ?_ (fun AQ=>?_)
    ·(try dsimp only);exact (fun hb=>⟨HC.out _ hb,hb⟩) (zB AQ.2.out (zD _ (.cells #[] 28)))
    clear hK K;try simp only[ps]
    refine tS 5 (fun K hK=>?_)
    (have HOW:Hid (C9 _ wp.heap.size _ []):=zh (Co ((wp.drewN 1).alloc (.cells (y.cells).toArray 28)) (p:=wp.heap.size+1) (by simp) (by omega));have Bw:=zh AQ.2.out;refine AX AU (by rfl) (.tmp 41) (.tmp 45) (by rfl) wp.heap.size _ 0 [] (by rfl) HOW none 0 0 ([]) (by rfl) rfl (fun h=>absurd rfl h) (fun _ h=>by cases h) (by omega) (by omega) AQ.2.out.size ?_;intro v5 w5 IQ hg5 hv5;have XA:=zh (Cj hg5 (by intro e0;injection e0 with e0;revert e0;simp) (BP (zD _ _) (DU (wp.drewN 1) (p:=wp.heap.size) rfl y.cells 28)));have KU:=zh IQ;have Ap:=zh (Bw.out.grown hg5 Bw.out.size fun q hq=>(World.ownsRow.lt HOW q hq).1);clear IQ hg5 hv5)
    refine hK.out _ _ ?_ (fun AQ=>?_)
    ·(try dsimp only);exact ⟨HC.out _ Ap,Ap.out⟩
    clear hK K;try simp only[ps]
    refine tS 8 (fun K hK=>?_)
    (have Db:=zh (KU.out);have DC:=zh AQ.2.out;refine AX AU (by rfl) (.tmp 46) (.tmp 48) (by rfl) wp.heap.size v5 (0+0) _ (by rfl) Db (some ⟨_,0,none⟩) 1 1 y.cells (by rfl) rfl (fun _=>⟨_,0,rfl,XA.out⟩) (Bh y) (by omega) (by omega) AQ.2.out.size ?_;intro v8 w8 BI BB Ci;have Ia:=zh BI;have BK:=zh (DC.out.grown BB DC.out.size fun q hq=>(World.ownsRow.lt Db q hq).1);clear BI BB Ci)
    refine hK.out _ _ ?_ (fun AQ=>?_)
    ·(try dsimp only);exact ⟨HC.out _ BK,BK.out⟩
    clear hK K;try simp only[ps]
    refine tS 13 (fun K hK=>?_)
    (refine AX AU (by rfl) (.tmp 49) (.tmp 53) (by rfl) wp.heap.size v8 (0+0+1) _ (by rfl) Ia none 0 0 ([]) (by rfl) rfl (fun h=>absurd rfl h) (fun _ h=>by cases h) (by omega) (by omega) BK.out.size ?_;intro v13 bR DW DX GK;have Dc:=zh (He DW);have Au:=zh (BK.out.grown DX BK.out.size fun q hq=>(World.ownsRow.lt Ia q hq).1);clear DW DX GK;obtain ⟨jW,c13,rfl,_⟩:=Ab.reads Dc)
    refine hK.out _ _ ?_ (fun AQ=>?_)
    ·(try dsimp only);exact ⟨HC.out _ Au,Au.out⟩
    clear hK K;try simp only[ps]
    refine tC 14 ?_;try simp only[ps]
    refine zV (rs:=[15]) (by kernel_rfl) (by simp) ?_
    refine AB.last rfl (by kernel_rfl) (fun K hK=>?_) AB.nil
    (obtain ⟨⟨_,_⟩,_,_⟩:=Iw.c5 (Kk.out.below Au);go_simp)
    refine hK.out _ _ ?_;clear hK K
    (try clear AQ)
    try simp only[ps]
    refine wpAny_done (by kernel_rfl) ?_ _
    (go_wp2;go_meet;exact ⟨_,(Kk.out.below Au).P5 _,D7 Dc KV _ _,fun q h1 h2=>(AAO _ _ _ _ h1).trans (Au.out.block q h2)⟩)
  ·
   obtain ⟨g,rfl,hsg⟩:∃g,A=some ⟨g,0,none⟩/\∀i m,i+m<=KL.length->m≠0->w.rangeAt g (0+i * 8) (((KL.drop i).take m).flatMap Aj.cells):=by
    obtain ⟨_,_,e1,-,-,hseg⟩:=Ms vU
    injection e1 with e1 _ e2
    subst e1 e2;obtain ⟨g,hg,_⟩:=hseg 0 1 (by have:=jP.out sG;omega) (by omega)
    refine ⟨g,hg,fun i m h1 h2=>?_⟩
    obtain ⟨g',hg',hr⟩:=hseg i m h1 h2;rw[hg] at hg'
    injection hg' with hg'
    injection hg' with hg' _
    subst hg';exact hr
   have HC:Hid (∀w',Below wp.heap.size wp w'->(w'.cell? ⟨w.heap.size,5,none⟩=some (.slice (some ⟨g,0,none⟩) KL.length cK)/\(w'.cell? ⟨w.heap.size+1,0,none⟩=some (.int .i64 y.v.kind)/\w'.cell? ⟨w.heap.size+1,1,none⟩=some (.bool y.v.bool)/\w'.cell? ⟨w.heap.size+1,2,none⟩=some (.int .i64 y.v.int)/\w'.cell? ⟨w.heap.size+1,3,none⟩=some (.string y.v.str)/\w'.cell? ⟨w.heap.size+1,4,none⟩=some (.int .i64 y.v.id)/\w'.cell? ⟨w.heap.size+1,5,none⟩=some (.slice y.A1 y.v.keys.length y.c1)/\w'.cell? ⟨w.heap.size+1,6,none⟩=some (.slice y.A2 y.v.items.length y.c2)/\w'.cell? ⟨w.heap.size+1,7,none⟩=some (.slice y.A3 y.v.rest.length y.c3)))):=fun w' hb=>⟨(VP.out.below hb).reads.1.1,(VP.out.below hb).reads.2.1⟩
   have oP:Hid (∀u,Below wp.heap.size wp u->∀i m,i+m<=KL.length->m≠0->u.rangeAt g (0+i * 8) (((KL.drop i).take m).flatMap Aj.cells)):=fun u hb i m h1 h2=>BP (VP.out.below hb).be (hsg i m h1 h2)
   have uY:Hid (((KL.take k).flatMap Aj.cells).length=k * 8):=by show _=_;rw[IC,List.length_take,Nat.min_eq_left NR.out]
   have uf:Hid (((KL.drop k).flatMap Aj.cells).length=(KL.length - k) * 8):=by show _=_;rw[IC,AAy]
   have OE:=zh (IB (KL.take k));have uS:=zh (IB (KL.drop k));have E8:Hid (∀u,Below wp.heap.size wp u->KL.length - k≠0->∃b o,(if cK=k then some (⟨g,0,none⟩:Addr) else some ⟨g,k * 8,none⟩)=some ⟨b,o,none⟩/\u.rangeAt b o ((KL.drop k).flatMap Aj.cells)):=fun u hb hm=>⟨g,0+k * 8,by rw[Pd (by have:=Ip.out;omega),Nat.zero_add],by
    have:=oP.out u hb k (KL.length - k) (by have:=NR.out;omega) hm
    rwa [List.take_of_length_le (by rw[AAy];exact AAP _)] at this⟩
   have h1:(0:Int)<=(k:Int):=by omega
   have h2:(k:Int)<=(KL.length:Int):=by have:=NR.out;omega
   have h3:(k:Int)<=(cK:Int):=by have:=NR.out;have:=Ip.out;omega
   have rY:KL.length<=100:=OZ.out;have ABL:k<=KL.length:=NR.out;clear hsg hk
   refine yE (S:=(fun w'=>(w'.cell? ⟨w.heap.size,5,none⟩=some (.slice (some ⟨g,0,none⟩) KL.length cK)/\(w'.cell? ⟨w.heap.size+1,0,none⟩=some (.int .i64 y.v.kind)/\w'.cell? ⟨w.heap.size+1,1,none⟩=some (.bool y.v.bool)/\w'.cell? ⟨w.heap.size+1,2,none⟩=some (.int .i64 y.v.int)/\w'.cell? ⟨w.heap.size+1,3,none⟩=some (.string y.v.str)/\w'.cell? ⟨w.heap.size+1,4,none⟩=some (.int .i64 y.v.id)/\w'.cell? ⟨w.heap.size+1,5,none⟩=some (.slice y.A1 y.v.keys.length y.c1)/\w'.cell? ⟨w.heap.size+1,6,none⟩=some (.slice y.A2 y.v.items.length y.c2)/\w'.cell? ⟨w.heap.size+1,7,none⟩=some (.slice y.A3 y.v.rest.length y.c3)))/\Hid (Below wp.heap.size wp w'))) 15 (by kernel_rfl) ?_ (fun AQ=>?_)
   ·(try dsimp only);exact (fun hb=>⟨HC.out _ hb,hb⟩) (zC (Pe _ _) 1)
   refine tC 1 ?_;try simp only[ps]
   refine tB 2 ?_;try simp only[ps]
   refine tC 3 ?_;try simp only[ps]
   refine tC 4 ?_;try simp only[ps]
   refine tB 6 ?_;try simp only[ps]
   refine tC 9 ?_;try simp only[ps]
   refine tB 10 ?_;try simp only[ps]
   refine tC 11 ?_;try simp only[ps]
   refine tC 12 ?_;try simp only[ps]
   refine zV (rs:=[0,7]) (by kernel_rfl) (by simp) ?_
   refine (AB.cons rfl (fun K hK=>?_) (AB.cons rfl (fun K hK=>?_) AB.nil))
   ·
    go_simp
    refine hK.out _ _ ?_ (fun AQ=>?_)
    ·(try dsimp only);exact (fun hb=>⟨HC.out _ hb,hb⟩) (zB AQ.2.out (zD _ (.cells #[] 28)))
    clear hK K;try simp only[ps]
    refine zV (rs:=[5,7]) (by kernel_rfl) (by simp) ?_
    refine (AB.cons rfl (fun K hK=>?_) (AB.cons rfl (fun K hK=>?_) AB.nil))
    ·
     (have HOW:Hid (C9 _ wp.heap.size _ []):=zh (Co (wp.drewN 1) rfl (AAP _));have Bw:=zh AQ.2.out;refine AX AU (by rfl) (.tmp 41) (.tmp 45) (by rfl) wp.heap.size _ 0 [] (by rfl) HOW (some ⟨g,0,none⟩) k cK ((KL.take k).flatMap Aj.cells) (by rfl) uY (fun hm=>⟨g,0,rfl,oP.out _ Bw 0 k (by omega) hm⟩) OE (by omega) (by omega) AQ.2.out.size ?_;intro v5 w5 IQ hg5 hv5;have KU:=zh IQ;have Ap:=zh (Bw.out.grown hg5 Bw.out.size fun q hq=>(World.ownsRow.lt HOW q hq).1);clear IQ hg5 hv5)
     refine hK.out _ _ ?_ (fun AQ=>?_)
     ·(try dsimp only);exact ⟨HC.out _ Ap,Ap.out⟩
     clear hK K;try simp only[ps]
     refine tS 7 (fun K hK=>?_)
     go_simp
     refine hK.out _ _ ?_ (fun AQ=>?_)
     ·(try dsimp only);exact (fun hb=>⟨HC.out _ hb,hb⟩) (zB Ap (zD _ (.cells (y.cells).toArray 28)))
     clear hK K;try simp only[ps]
     refine tS 8 (fun K hK=>?_)
     (have Db:=zh (World.ownsRow.alloc KU (.cells (y.cells).toArray 28));have DC:=zh AQ.2.out;refine AX AU (by rfl) (.tmp 46) (.tmp 48) (by rfl) wp.heap.size v5 (0+k) _ (by rfl) Db (some ⟨_,0,none⟩) 1 1 y.cells (by rfl) rfl (fun _=>⟨_,0,rfl,zR w5 y.cells 28⟩) (Bh y) (by omega) (by omega) AQ.2.out.size ?_;intro v8 w8 BI BB Ci;have Ia:=zh BI;have BK:=zh (DC.out.grown BB DC.out.size fun q hq=>(World.ownsRow.lt Db q hq).1);clear BI BB Ci)
     refine hK.out _ _ ?_ (fun AQ=>?_)
     ·(try dsimp only);exact ⟨HC.out _ BK,BK.out⟩
     clear hK K;try simp only[ps]
     refine tS 13 (fun K hK=>?_)
     (refine AX AU (by rfl) (.tmp 49) (.tmp 53) (by rfl) wp.heap.size v8 (0+k+1) _ (by rfl) Ia _ (KL.length - k) _ ((KL.drop k).flatMap Aj.cells) (by rfl) uf (fun hm=>E8.out _ BK hm) uS (by omega) (by omega) BK.out.size ?_;intro v13 bR DW DX GK;have Dc:=zh (Jw NR DW);have Au:=zh (BK.out.grown DX BK.out.size fun q hq=>(World.ownsRow.lt Ia q hq).1);clear DW DX GK;obtain ⟨jW,c13,rfl,_⟩:=Ab.reads Dc)
     refine hK.out _ _ ?_ (fun AQ=>?_)
     ·(try dsimp only);exact ⟨HC.out _ Au,Au.out⟩
     clear hK K;try simp only[ps]
     refine tC 14 ?_;try simp only[ps]
     refine zV (rs:=[15]) (by kernel_rfl) (by simp) ?_
     refine AB.last rfl (by kernel_rfl) (fun K hK=>?_) AB.nil
     (obtain ⟨⟨_,_⟩,_,_⟩:=Iw.c5 (Kk.out.below Au);go_simp)
     refine hK.out _ _ ?_;clear hK K
     (try clear AQ)
     try simp only[ps]
     refine wpAny_done (by kernel_rfl) ?_ _
     (generalize (if cK=k then some (⟨g,0,none⟩:Addr) else some ⟨g,k * 8,none⟩)=A53 at *;go_wp2;go_meet;exact ⟨_,(Kk.out.below Au).P5 _,(by rw[show k+(KL.length - k+1)=(KL.take k++[y]++KL.drop k).length by have:=NR.out;simp;omega];exact D7 Dc KV _ _),fun q h1 h2=>(AAO _ _ _ _ h1).trans (Au.out.block q h2)⟩)
    ·
     go_simp
     refine hK.out _ _ ?_ (fun AQ=>?_)
     ·(try dsimp only);exact (fun hb=>⟨HC.out _ hb,hb⟩) (zB AQ.2.out (zD _ (.cells (y.cells).toArray 28)))
     clear hK K;try simp only[ps]
     refine tS 5 (fun K hK=>?_)
     (have HOW:Hid (C9 _ wp.heap.size _ []):=zh (Ab.alloc (Co (wp.drewN 1) rfl (AAP _)) (.cells (y.cells).toArray 28));have Bw:=zh AQ.2.out;refine AX AU (by rfl) (.tmp 41) (.tmp 45) (by rfl) wp.heap.size _ 0 [] (by rfl) HOW (some ⟨g,0,none⟩) k cK ((KL.take k).flatMap Aj.cells) (by rfl) uY (fun hm=>⟨g,0,rfl,oP.out _ Bw 0 k (by omega) hm⟩) OE (by omega) (by omega) AQ.2.out.size ?_;intro v5 w5 IQ hg5 hv5;have XA:=zh (Cj hg5 (by intro e0;injection e0 with e0;revert e0;simp) (DU ((wp.drewN 1).alloc (.cells #[] 28)) (p:=wp.heap.size+1) (by simp) y.cells 28));have KU:=zh IQ;have Ap:=zh (Bw.out.grown hg5 Bw.out.size fun q hq=>(World.ownsRow.lt HOW q hq).1);clear IQ hg5 hv5)
     refine hK.out _ _ ?_ (fun AQ=>?_)
     ·(try dsimp only);exact ⟨HC.out _ Ap,Ap.out⟩
     clear hK K;try simp only[ps]
     refine tS 8 (fun K hK=>?_)
     (have Db:=zh (KU.out);have DC:=zh AQ.2.out;refine AX AU (by rfl) (.tmp 46) (.tmp 48) (by rfl) wp.heap.size v5 (0+k) _ (by rfl) Db (some ⟨_,0,none⟩) 1 1 y.cells (by rfl) rfl (fun _=>⟨_,0,rfl,XA.out⟩) (Bh y) (by omega) (by omega) AQ.2.out.size ?_;intro v8 w8 BI BB Ci;have Ia:=zh BI;have BK:=zh (DC.out.grown BB DC.out.size fun q hq=>(World.ownsRow.lt Db q hq).1);clear BI BB Ci)
     refine hK.out _ _ ?_ (fun AQ=>?_)
     ·(try dsimp only);exact ⟨HC.out _ BK,BK.out⟩
     clear hK K;try simp only[ps]
     refine tS 13 (fun K hK=>?_)
     (refine AX AU (by rfl) (.tmp 49) (.tmp 53) (by rfl) wp.heap.size v8 (0+k+1) _ (by rfl) Ia _ (KL.length - k) _ ((KL.drop k).flatMap Aj.cells) (by rfl) uf (fun hm=>E8.out _ BK hm) uS (by omega) (by omega) BK.out.size ?_;intro v13 bR DW DX GK;have Dc:=zh (Jw NR DW);have Au:=zh (BK.out.grown DX BK.out.size fun q hq=>(World.ownsRow.lt Ia q hq).1);clear DW DX GK;obtain ⟨jW,c13,rfl,_⟩:=Ab.reads Dc)
     refine hK.out _ _ ?_ (fun AQ=>?_)
     ·(try dsimp only);exact ⟨HC.out _ Au,Au.out⟩
     clear hK K;try simp only[ps]
     refine tC 14 ?_;try simp only[ps]
     refine zV (rs:=[15]) (by kernel_rfl) (by simp) ?_
     refine AB.last rfl (by kernel_rfl) (fun K hK=>?_) AB.nil
     (obtain ⟨⟨_,_⟩,_,_⟩:=Iw.c5 (Kk.out.below Au);go_simp)
     refine hK.out _ _ ?_;clear hK K
     (try clear AQ)
     try simp only[ps]
     refine wpAny_done (by kernel_rfl) ?_ _
     (generalize (if cK=k then some (⟨g,0,none⟩:Addr) else some ⟨g,k * 8,none⟩)=A53 at *;go_wp2;go_meet;exact ⟨_,(Kk.out.below Au).P5 _,(by rw[show k+(KL.length - k+1)=(KL.take k++[y]++KL.drop k).length by have:=NR.out;simp;omega];exact D7 Dc KV _ _),fun q h1 h2=>(AAO _ _ _ _ h1).trans (Au.out.block q h2)⟩)
   ·
    go_simp
    refine hK.out _ _ ?_ (fun AQ=>?_)
    ·(try dsimp only);exact (fun hb=>⟨HC.out _ hb,hb⟩) (zB AQ.2.out (zD _ (.cells (y.cells).toArray 28)))
    clear hK K;try simp only[ps]
    refine tS 0 (fun K hK=>?_)
    go_simp
    refine hK.out _ _ ?_ (fun AQ=>?_)
    ·(try dsimp only);exact (fun hb=>⟨HC.out _ hb,hb⟩) (zB AQ.2.out (zD _ (.cells #[] 28)))
    clear hK K;try simp only[ps]
    refine tS 5 (fun K hK=>?_)
    (have HOW:Hid (C9 _ wp.heap.size _ []):=zh (Co ((wp.drewN 1).alloc (.cells (y.cells).toArray 28)) (p:=wp.heap.size+1) (by simp) (by omega));have Bw:=zh AQ.2.out;refine AX AU (by rfl) (.tmp 41) (.tmp 45) (by rfl) wp.heap.size _ 0 [] (by rfl) HOW (some ⟨g,0,none⟩) k cK ((KL.take k).flatMap Aj.cells) (by rfl) uY (fun hm=>⟨g,0,rfl,oP.out _ Bw 0 k (by omega) hm⟩) OE (by omega) (by omega) AQ.2.out.size ?_;intro v5 w5 IQ hg5 hv5;have XA:=zh (Cj hg5 (by intro e0;injection e0 with e0;revert e0;simp) (BP (zD _ _) (DU (wp.drewN 1) (p:=wp.heap.size) rfl y.cells 28)));have KU:=zh IQ;have Ap:=zh (Bw.out.grown hg5 Bw.out.size fun q hq=>(World.ownsRow.lt HOW q hq).1);clear IQ hg5 hv5)
    refine hK.out _ _ ?_ (fun AQ=>?_)
    ·(try dsimp only);exact ⟨HC.out _ Ap,Ap.out⟩
    clear hK K;try simp only[ps]
    refine tS 8 (fun K hK=>?_)
    (have Db:=zh (KU.out);have DC:=zh AQ.2.out;refine AX AU (by rfl) (.tmp 46) (.tmp 48) (by rfl) wp.heap.size v5 (0+k) _ (by rfl) Db (some ⟨_,0,none⟩) 1 1 y.cells (by rfl) rfl (fun _=>⟨_,0,rfl,XA.out⟩) (Bh y) (by omega) (by omega) AQ.2.out.size ?_;intro v8 w8 BI BB Ci;have Ia:=zh BI;have BK:=zh (DC.out.grown BB DC.out.size fun q hq=>(World.ownsRow.lt Db q hq).1);clear BI BB Ci)
    refine hK.out _ _ ?_ (fun AQ=>?_)
    ·(try dsimp only);exact ⟨HC.out _ BK,BK.out⟩
    clear hK K;try simp only[ps]
    refine tS 13 (fun K hK=>?_)
    (refine AX AU (by rfl) (.tmp 49) (.tmp 53) (by rfl) wp.heap.size v8 (0+k+1) _ (by rfl) Ia _ (KL.length - k) _ ((KL.drop k).flatMap Aj.cells) (by rfl) uf (fun hm=>E8.out _ BK hm) uS (by omega) (by omega) BK.out.size ?_;intro v13 bR DW DX GK;have Dc:=zh (Jw NR DW);have Au:=zh (BK.out.grown DX BK.out.size fun q hq=>(World.ownsRow.lt Ia q hq).1);clear DW DX GK;obtain ⟨jW,c13,rfl,_⟩:=Ab.reads Dc)
    refine hK.out _ _ ?_ (fun AQ=>?_)
    ·(try dsimp only);exact ⟨HC.out _ Au,Au.out⟩
    clear hK K;try simp only[ps]
    refine tC 14 ?_;try simp only[ps]
    refine zV (rs:=[15]) (by kernel_rfl) (by simp) ?_
    refine AB.last rfl (by kernel_rfl) (fun K hK=>?_) AB.nil
    (obtain ⟨⟨_,_⟩,_,_⟩:=Iw.c5 (Kk.out.below Au);go_simp)
    refine hK.out _ _ ?_;clear hK K
    (try clear AQ)
    try simp only[ps]
    refine wpAny_done (by kernel_rfl) ?_ _
    (generalize (if cK=k then some (⟨g,0,none⟩:Addr) else some ⟨g,k * 8,none⟩)=A53 at *;go_wp2;go_meet;exact ⟨_,(Kk.out.below Au).P5 _,(by rw[show k+(KL.length - k+1)=(KL.take k++[y]++KL.drop k).length by have:=NR.out;simp;omega];exact D7 Dc KV _ _),fun q h1 h2=>(AAO _ _ _ _ h1).trans (Au.out.block q h2)⟩)
 case rest =>
 obtain ⟨v9,hps,hov,hoth⟩:=hcut;obtain ⟨wd,rfl⟩:∃wd:World,wd=wc:=⟨_,rfl⟩;have jq:=zh hps;have vV:=zh hov;obtain ⟨A9,n9,c9,rfl⟩:=Jz hov;clear hps hov hoth KV Kk NR Ip OZ jP VP;have KV:Hid (w.heap.size<wd.heap.size):=(zg.1 jq.out.bv).1;have Kk:Hid (Iw w (.slice A9 n9 c9) (.slice B IL.length cI) y z wd):=jq.out;have NR:Hid (k<=IL.length):=by show _<=_;rw[VR.out];exact hk
 have Ip:=zh hcI;have OZ:Hid (IL.length<=100):=by show _<=_;rw[VR.out];exact hln
 have jP:Hid (¬ KL=[]->0<IL.length):=fun h=>by rw[VR.out];exact List.length_pos_iff.2 h
 go_upto_region 7 with fail
 go_cut [] (fun wx=>∃v9:Value,Iw w (.slice A9 n9 c9) v9 y z wx/\C9 wx wd.heap.size v9 (IL.take k++[z]++IL.drop k)/\∀q,q≠w.heap.size->q<wd.heap.size->wx.heap[q]? = wd.heap[q]?)
 case first =>
  by_cases sG:KL=[]
  ·
   obtain ⟨hn1,hn2⟩:=qD.out sG;subst sG;obtain rfl:IL=[]:=AAa VR;obtain rfl:k=0:=Nat.le_zero.1 NR;obtain ⟨hA,hc⟩:A=none/\cK=0:=by injection hn1 with g1 _ g2;exact ⟨g1,g2⟩
   obtain ⟨hA2,hc2⟩:B=none/\cI=0:=by injection hn2 with g1 _ g2;exact ⟨g1,g2⟩
   subst hA hc hA2 hc2
   have HC:Hid (∀w',Below wd.heap.size wd w'->(w'.cell? ⟨w.heap.size,6,none⟩=some (.slice none 0 0)/\(w'.cell? ⟨w.heap.size+2,0,none⟩=some (.int .i64 z.v.kind)/\w'.cell? ⟨w.heap.size+2,1,none⟩=some (.bool z.v.bool)/\w'.cell? ⟨w.heap.size+2,2,none⟩=some (.int .i64 z.v.int)/\w'.cell? ⟨w.heap.size+2,3,none⟩=some (.string z.v.str)/\w'.cell? ⟨w.heap.size+2,4,none⟩=some (.int .i64 z.v.id)/\w'.cell? ⟨w.heap.size+2,5,none⟩=some (.slice z.A1 z.v.keys.length z.c1)/\w'.cell? ⟨w.heap.size+2,6,none⟩=some (.slice z.A2 z.v.items.length z.c2)/\w'.cell? ⟨w.heap.size+2,7,none⟩=some (.slice z.A3 z.v.rest.length z.c3)))):=fun w' hb=>⟨(jq.out.below hb).reads.1.2,(jq.out.below hb).reads.2.2⟩
   clear hn1 hn2 hln hk hcK hcI
   refine yE (S:=(fun w'=>(w'.cell? ⟨w.heap.size,6,none⟩=some (.slice none 0 0)/\(w'.cell? ⟨w.heap.size+2,0,none⟩=some (.int .i64 z.v.kind)/\w'.cell? ⟨w.heap.size+2,1,none⟩=some (.bool z.v.bool)/\w'.cell? ⟨w.heap.size+2,2,none⟩=some (.int .i64 z.v.int)/\w'.cell? ⟨w.heap.size+2,3,none⟩=some (.string z.v.str)/\w'.cell? ⟨w.heap.size+2,4,none⟩=some (.int .i64 z.v.id)/\w'.cell? ⟨w.heap.size+2,5,none⟩=some (.slice z.A1 z.v.keys.length z.c1)/\w'.cell? ⟨w.heap.size+2,6,none⟩=some (.slice z.A2 z.v.items.length z.c2)/\w'.cell? ⟨w.heap.size+2,7,none⟩=some (.slice z.A3 z.v.rest.length z.c3)))/\Hid (Below wd.heap.size wd w'))) 15 (by kernel_rfl) ?_ (fun AQ=>?_)
   ·(try dsimp only);exact (fun hb=>⟨HC.out _ hb,hb⟩) (zC (Pe _ _) 1)
   refine tC 1 ?_;try simp only[ps]
   refine tB 2 ?_;try simp only[ps]
   refine tC 3 ?_;try simp only[ps]
   refine tC 4 ?_;try simp only[ps]
   refine tB 6 ?_;try simp only[ps]
   refine tC 9 ?_;try simp only[ps]
   refine tB 10 ?_;try simp only[ps]
   refine tC 11 ?_;try simp only[ps]
   refine tC 12 ?_;try simp only[ps]
   refine zV (rs:=[0,7]) (by kernel_rfl) (by simp) ?_
   refine (AB.cons rfl (fun K hK=>?_) (AB.cons rfl (fun K hK=>?_) AB.nil))
   ·
    go_simp
    refine hK.out _ _ ?_ (fun AQ=>?_)
    ·(try dsimp only);exact (fun hb=>⟨HC.out _ hb,hb⟩) (zB AQ.2.out (zD _ (.cells #[] 28)))
    clear hK K;try simp only[ps]
    refine zV (rs:=[5,7]) (by kernel_rfl) (by simp) ?_
    refine (AB.cons rfl (fun K hK=>?_) (AB.cons rfl (fun K hK=>?_) AB.nil))
    ·
     (have HOW:Hid (C9 _ wd.heap.size _ []):=zh (Co (wd.drewN 1) rfl (AAP _));have Bw:=zh AQ.2.out;refine AX AU (by rfl) (.tmp 56) (.tmp 60) (by rfl) wd.heap.size _ 0 [] (by rfl) HOW none 0 0 ([]) (by rfl) rfl (fun h=>absurd rfl h) (fun _ h=>by cases h) (by omega) (by omega) AQ.2.out.size ?_;intro v5 w5 IQ hg5 hv5;have KU:=zh IQ;have Ap:=zh (Bw.out.grown hg5 Bw.out.size fun q hq=>(World.ownsRow.lt HOW q hq).1);clear IQ hg5 hv5)
     refine hK.out _ _ ?_ (fun AQ=>?_)
     ·(try dsimp only);exact ⟨HC.out _ Ap,Ap.out⟩
     clear hK K;try simp only[ps]
     refine tS 7 (fun K hK=>?_)
     go_simp
     refine hK.out _ _ ?_ (fun AQ=>?_)
     ·(try dsimp only);exact (fun hb=>⟨HC.out _ hb,hb⟩) (zB Ap (zD _ (.cells (z.cells).toArray 28)))
     clear hK K;try simp only[ps]
     refine tS 8 (fun K hK=>?_)
     (have Db:=zh (World.ownsRow.alloc KU (.cells (z.cells).toArray 28));have DC:=zh AQ.2.out;refine AX AU (by rfl) (.tmp 61) (.tmp 63) (by rfl) wd.heap.size v5 (0+0) _ (by rfl) Db (some ⟨_,0,none⟩) 1 1 z.cells (by rfl) rfl (fun _=>⟨_,0,rfl,zR w5 z.cells 28⟩) (Bh z) (by omega) (by omega) AQ.2.out.size ?_;intro v8 w8 BI BB Ci;have Ia:=zh BI;have BK:=zh (DC.out.grown BB DC.out.size fun q hq=>(World.ownsRow.lt Db q hq).1);clear BI BB Ci)
     refine hK.out _ _ ?_ (fun AQ=>?_)
     ·(try dsimp only);exact ⟨HC.out _ BK,BK.out⟩
     clear hK K;try simp only[ps]
     refine tS 13 (fun K hK=>?_)
     (refine AX AU (by rfl) (.tmp 64) (.tmp 68) (by rfl) wd.heap.size v8 (0+0+1) _ (by rfl) Ia none 0 0 ([]) (by rfl) rfl (fun h=>absurd rfl h) (fun _ h=>by cases h) (by omega) (by omega) BK.out.size ?_;intro v13 bR DW DX GK;have Dc:=zh (He DW);have Au:=zh (BK.out.grown DX BK.out.size fun q hq=>(World.ownsRow.lt Ia q hq).1);clear DW DX GK;obtain ⟨jW,c13,rfl,_⟩:=Ab.reads Dc)
     refine hK.out _ _ ?_ (fun AQ=>?_)
     ·(try dsimp only);exact ⟨HC.out _ Au,Au.out⟩
     clear hK K;try simp only[ps]
     refine tC 14 ?_;try simp only[ps]
     refine zV (rs:=[15]) (by kernel_rfl) (by simp) ?_
     refine AB.last rfl (by kernel_rfl) (fun K hK=>?_) AB.nil
     (obtain ⟨⟨_,_⟩,_,_⟩:=Iw.c5 (Kk.out.below Au);go_simp)
     refine hK.out _ _ ?_;clear hK K
     (try clear AQ)
     try simp only[ps]
     refine wpAny_done (by kernel_rfl) ?_ _
     (go_wp2;go_meet;exact ⟨_,(Kk.out.below Au).Y5 _,D7 Dc KV _ _,fun q h1 h2=>(AAO _ _ _ _ h1).trans (Au.out.block q h2)⟩)
    ·
     go_simp
     refine hK.out _ _ ?_ (fun AQ=>?_)
     ·(try dsimp only);exact (fun hb=>⟨HC.out _ hb,hb⟩) (zB AQ.2.out (zD _ (.cells (z.cells).toArray 28)))
     clear hK K;try simp only[ps]
     refine tS 5 (fun K hK=>?_)
     (have HOW:Hid (C9 _ wd.heap.size _ []):=zh (Ab.alloc (Co (wd.drewN 1) rfl (AAP _)) (.cells (z.cells).toArray 28));have Bw:=zh AQ.2.out;refine AX AU (by rfl) (.tmp 56) (.tmp 60) (by rfl) wd.heap.size _ 0 [] (by rfl) HOW none 0 0 ([]) (by rfl) rfl (fun h=>absurd rfl h) (fun _ h=>by cases h) (by omega) (by omega) AQ.2.out.size ?_;intro v5 w5 IQ hg5 hv5;have XA:=zh (Cj hg5 (by intro e0;injection e0 with e0;revert e0;simp) (DU ((wd.drewN 1).alloc (.cells #[] 28)) (p:=wd.heap.size+1) (by simp) z.cells 28));have KU:=zh IQ;have Ap:=zh (Bw.out.grown hg5 Bw.out.size fun q hq=>(World.ownsRow.lt HOW q hq).1);clear IQ hg5 hv5)
     refine hK.out _ _ ?_ (fun AQ=>?_)
     ·(try dsimp only);exact ⟨HC.out _ Ap,Ap.out⟩
     clear hK K;try simp only[ps]
     refine tS 8 (fun K hK=>?_)
     (have Db:=zh (KU.out);have DC:=zh AQ.2.out;refine AX AU (by rfl) (.tmp 61) (.tmp 63) (by rfl) wd.heap.size v5 (0+0) _ (by rfl) Db (some ⟨_,0,none⟩) 1 1 z.cells (by rfl) rfl (fun _=>⟨_,0,rfl,XA.out⟩) (Bh z) (by omega) (by omega) AQ.2.out.size ?_;intro v8 w8 BI BB Ci;have Ia:=zh BI;have BK:=zh (DC.out.grown BB DC.out.size fun q hq=>(World.ownsRow.lt Db q hq).1);clear BI BB Ci)
     refine hK.out _ _ ?_ (fun AQ=>?_)
     ·(try dsimp only);exact ⟨HC.out _ BK,BK.out⟩
     clear hK K;try simp only[ps]
     refine tS 13 (fun K hK=>?_)
     (refine AX AU (by rfl) (.tmp 64) (.tmp 68) (by rfl) wd.heap.size v8 (0+0+1) _ (by rfl) Ia none 0 0 ([]) (by rfl) rfl (fun h=>absurd rfl h) (fun _ h=>by cases h) (by omega) (by omega) BK.out.size ?_;intro v13 bR DW DX GK;have Dc:=zh (He DW);have Au:=zh (BK.out.grown DX BK.out.size fun q hq=>(World.ownsRow.lt Ia q hq).1);clear DW DX GK;obtain ⟨jW,c13,rfl,_⟩:=Ab.reads Dc)
     refine hK.out _ _ ?_ (fun AQ=>?_)
     ·(try dsimp only);exact ⟨HC.out _ Au,Au.out⟩
     clear hK K;try simp only[ps]
     refine tC 14 ?_;try simp only[ps]
     refine zV (rs:=[15]) (by kernel_rfl) (by simp) ?_
     refine AB.last rfl (by kernel_rfl) (fun K hK=>?_) AB.nil
     (obtain ⟨⟨_,_⟩,_,_⟩:=Iw.c5 (Kk.out.below Au);go_simp)
     refine hK.out _ _ ?_;clear hK K
     (try clear AQ)
     try simp only[ps]
     refine wpAny_done (by kernel_rfl) ?_ _
     (go_wp2;go_meet;exact ⟨_,(Kk.out.below Au).Y5 _,D7 Dc KV _ _,fun q h1 h2=>(AAO _ _ _ _ h1).trans (Au.out.block q h2)⟩)
   ·
    go_simp
    refine hK.out _ _ ?_ (fun AQ=>?_)
    ·(try dsimp only);exact (fun hb=>⟨HC.out _ hb,hb⟩) (zB AQ.2.out (zD _ (.cells (z.cells).toArray 28)))
    clear hK K;try simp only[ps]
    refine tS 0 (fun K hK=>?_)
    go_simp
    refine hK.out _ _ ?_ (fun AQ=>?_)
    ·(try dsimp only);exact (fun hb=>⟨HC.out _ hb,hb⟩) (zB AQ.2.out (zD _ (.cells #[] 28)))
    clear hK K;try simp only[ps]
    refine tS 5 (fun K hK=>?_)
    (have HOW:Hid (C9 _ wd.heap.size _ []):=zh (Co ((wd.drewN 1).alloc (.cells (z.cells).toArray 28)) (p:=wd.heap.size+1) (by simp) (by omega));have Bw:=zh AQ.2.out;refine AX AU (by rfl) (.tmp 56) (.tmp 60) (by rfl) wd.heap.size _ 0 [] (by rfl) HOW none 0 0 ([]) (by rfl) rfl (fun h=>absurd rfl h) (fun _ h=>by cases h) (by omega) (by omega) AQ.2.out.size ?_;intro v5 w5 IQ hg5 hv5;have XA:=zh (Cj hg5 (by intro e0;injection e0 with e0;revert e0;simp) (BP (zD _ _) (DU (wd.drewN 1) (p:=wd.heap.size) rfl z.cells 28)));have KU:=zh IQ;have Ap:=zh (Bw.out.grown hg5 Bw.out.size fun q hq=>(World.ownsRow.lt HOW q hq).1);clear IQ hg5 hv5)
    refine hK.out _ _ ?_ (fun AQ=>?_)
    ·(try dsimp only);exact ⟨HC.out _ Ap,Ap.out⟩
    clear hK K;try simp only[ps]
    refine tS 8 (fun K hK=>?_)
    (have Db:=zh (KU.out);have DC:=zh AQ.2.out;refine AX AU (by rfl) (.tmp 61) (.tmp 63) (by rfl) wd.heap.size v5 (0+0) _ (by rfl) Db (some ⟨_,0,none⟩) 1 1 z.cells (by rfl) rfl (fun _=>⟨_,0,rfl,XA.out⟩) (Bh z) (by omega) (by omega) AQ.2.out.size ?_;intro v8 w8 BI BB Ci;have Ia:=zh BI;have BK:=zh (DC.out.grown BB DC.out.size fun q hq=>(World.ownsRow.lt Db q hq).1);clear BI BB Ci)
    refine hK.out _ _ ?_ (fun AQ=>?_)
    ·(try dsimp only);exact ⟨HC.out _ BK,BK.out⟩
    clear hK K;try simp only[ps]
    refine tS 13 (fun K hK=>?_)
    (refine AX AU (by rfl) (.tmp 64) (.tmp 68) (by rfl) wd.heap.size v8 (0+0+1) _ (by rfl) Ia none 0 0 ([]) (by rfl) rfl (fun h=>absurd rfl h) (fun _ h=>by cases h) (by omega) (by omega) BK.out.size ?_;intro v13 bR DW DX GK;have Dc:=zh (He DW);have Au:=zh (BK.out.grown DX BK.out.size fun q hq=>(World.ownsRow.lt Ia q hq).1);clear DW DX GK;obtain ⟨jW,c13,rfl,_⟩:=Ab.reads Dc)
    refine hK.out _ _ ?_ (fun AQ=>?_)
    ·(try dsimp only);exact ⟨HC.out _ Au,Au.out⟩
    clear hK K;try simp only[ps]
    refine tC 14 ?_;try simp only[ps]
    refine zV (rs:=[15]) (by kernel_rfl) (by simp) ?_
    refine AB.last rfl (by kernel_rfl) (fun K hK=>?_) AB.nil
    (obtain ⟨⟨_,_⟩,_,_⟩:=Iw.c5 (Kk.out.below Au);go_simp)
    refine hK.out _ _ ?_;clear hK K
    (try clear AQ)
    try simp only[ps]
    refine wpAny_done (by kernel_rfl) ?_ _
    (go_wp2;go_meet;exact ⟨_,(Kk.out.below Au).Y5 _,D7 Dc KV _ _,fun q h1 h2=>(AAO _ _ _ _ h1).trans (Au.out.block q h2)⟩)
  ·
   obtain ⟨g,rfl,hsg⟩:∃g,B=some ⟨g,0,none⟩/\∀i m,i+m<=IL.length->m≠0->w.rangeAt g (0+i * 8) (((IL.drop i).take m).flatMap Aj.cells):=by
    obtain ⟨_,_,e1,-,-,hseg⟩:=Ms HIO
    injection e1 with e1 _ e2
    subst e1 e2;obtain ⟨g,hg,_⟩:=hseg 0 1 (by have:=jP.out sG;omega) (by omega)
    refine ⟨g,hg,fun i m h1 h2=>?_⟩
    obtain ⟨g',hg',hr⟩:=hseg i m h1 h2;rw[hg] at hg'
    injection hg' with hg'
    injection hg' with hg' _
    subst hg';exact hr
   have HC:Hid (∀w',Below wd.heap.size wd w'->(w'.cell? ⟨w.heap.size,6,none⟩=some (.slice (some ⟨g,0,none⟩) IL.length cI)/\(w'.cell? ⟨w.heap.size+2,0,none⟩=some (.int .i64 z.v.kind)/\w'.cell? ⟨w.heap.size+2,1,none⟩=some (.bool z.v.bool)/\w'.cell? ⟨w.heap.size+2,2,none⟩=some (.int .i64 z.v.int)/\w'.cell? ⟨w.heap.size+2,3,none⟩=some (.string z.v.str)/\w'.cell? ⟨w.heap.size+2,4,none⟩=some (.int .i64 z.v.id)/\w'.cell? ⟨w.heap.size+2,5,none⟩=some (.slice z.A1 z.v.keys.length z.c1)/\w'.cell? ⟨w.heap.size+2,6,none⟩=some (.slice z.A2 z.v.items.length z.c2)/\w'.cell? ⟨w.heap.size+2,7,none⟩=some (.slice z.A3 z.v.rest.length z.c3)))):=fun w' hb=>⟨(jq.out.below hb).reads.1.2,(jq.out.below hb).reads.2.2⟩
   have oP:Hid (∀u,Below wd.heap.size wd u->∀i m,i+m<=IL.length->m≠0->u.rangeAt g (0+i * 8) (((IL.drop i).take m).flatMap Aj.cells)):=fun u hb i m h1 h2=>BP (jq.out.below hb).be (hsg i m h1 h2)
   have uY:Hid (((IL.take k).flatMap Aj.cells).length=k * 8):=by show _=_;rw[IC,List.length_take,Nat.min_eq_left NR.out]
   have uf:Hid (((IL.drop k).flatMap Aj.cells).length=(IL.length - k) * 8):=by show _=_;rw[IC,AAy]
   have OE:=zh (IB (IL.take k));have uS:=zh (IB (IL.drop k));have E8:Hid (∀u,Below wd.heap.size wd u->IL.length - k≠0->∃b o,(if cI=k then some (⟨g,0,none⟩:Addr) else some ⟨g,k * 8,none⟩)=some ⟨b,o,none⟩/\u.rangeAt b o ((IL.drop k).flatMap Aj.cells)):=fun u hb hm=>⟨g,0+k * 8,by rw[Pd (by have:=Ip.out;omega),Nat.zero_add],by
    have:=oP.out u hb k (IL.length - k) (by have:=NR.out;omega) hm
    rwa [List.take_of_length_le (by rw[AAy];exact AAP _)] at this⟩
   have h1:(0:Int)<=(k:Int):=by omega
   have h2:(k:Int)<=(IL.length:Int):=by have:=NR.out;omega
   have h3:(k:Int)<=(cI:Int):=by have:=NR.out;have:=Ip.out;omega
   have rY:IL.length<=100:=OZ.out;have ABL:k<=IL.length:=NR.out;clear hsg hk
   refine yE (S:=(fun w'=>(w'.cell? ⟨w.heap.size,6,none⟩=some (.slice (some ⟨g,0,none⟩) IL.length cI)/\(w'.cell? ⟨w.heap.size+2,0,none⟩=some (.int .i64 z.v.kind)/\w'.cell? ⟨w.heap.size+2,1,none⟩=some (.bool z.v.bool)/\w'.cell? ⟨w.heap.size+2,2,none⟩=some (.int .i64 z.v.int)/\w'.cell? ⟨w.heap.size+2,3,none⟩=some (.string z.v.str)/\w'.cell? ⟨w.heap.size+2,4,none⟩=some (.int .i64 z.v.id)/\w'.cell? ⟨w.heap.size+2,5,none⟩=some (.slice z.A1 z.v.keys.length z.c1)/\w'.cell? ⟨w.heap.size+2,6,none⟩=some (.slice z.A2 z.v.items.length z.c2)/\w'.cell? ⟨w.heap.size+2,7,none⟩=some (.slice z.A3 z.v.rest.length z.c3)))/\Hid (Below wd.heap.size wd w'))) 15 (by kernel_rfl) ?_ (fun AQ=>?_)
   ·(try dsimp only);exact (fun hb=>⟨HC.out _ hb,hb⟩) (zC (Pe _ _) 1)
   refine tC 1 ?_;try simp only[ps]
   refine tB 2 ?_;try simp only[ps]
   refine tC 3 ?_;try simp only[ps]
   refine tC 4 ?_;try simp only[ps]
   refine tB 6 ?_;try simp only[ps]
   refine tC 9 ?_;try simp only[ps]
   refine tB 10 ?_;try simp only[ps]
   refine tC 11 ?_;try simp only[ps]
   refine tC 12 ?_;try simp only[ps]
   refine zV (rs:=[0,7]) (by kernel_rfl) (by simp) ?_
   refine (AB.cons rfl (fun K hK=>?_) (AB.cons rfl (fun K hK=>?_) AB.nil))
   ·
    go_simp
    refine hK.out _ _ ?_ (fun AQ=>?_)
    ·(try dsimp only);exact (fun hb=>⟨HC.out _ hb,hb⟩) (zB AQ.2.out (zD _ (.cells #[] 28)))
    clear hK K;try simp only[ps]
    refine zV (rs:=[5,7]) (by kernel_rfl) (by simp) ?_
    refine (AB.cons rfl (fun K hK=>?_) (AB.cons rfl (fun K hK=>?_) AB.nil))
    ·
     (have HOW:Hid (C9 _ wd.heap.size _ []):=zh (Co (wd.drewN 1) rfl (AAP _));have Bw:=zh AQ.2.out;refine AX AU (by rfl) (.tmp 56) (.tmp 60) (by rfl) wd.heap.size _ 0 [] (by rfl) HOW (some ⟨g,0,none⟩) k cI ((IL.take k).flatMap Aj.cells) (by rfl) uY (fun hm=>⟨g,0,rfl,oP.out _ Bw 0 k (by omega) hm⟩) OE (by omega) (by omega) AQ.2.out.size ?_;intro v5 w5 IQ hg5 hv5;have KU:=zh IQ;have Ap:=zh (Bw.out.grown hg5 Bw.out.size fun q hq=>(World.ownsRow.lt HOW q hq).1);clear IQ hg5 hv5)
     refine hK.out _ _ ?_ (fun AQ=>?_)
     ·(try dsimp only);exact ⟨HC.out _ Ap,Ap.out⟩
     clear hK K;try simp only[ps]
     refine tS 7 (fun K hK=>?_)
     go_simp
     refine hK.out _ _ ?_ (fun AQ=>?_)
     ·(try dsimp only);exact (fun hb=>⟨HC.out _ hb,hb⟩) (zB Ap (zD _ (.cells (z.cells).toArray 28)))
     clear hK K;try simp only[ps]
     refine tS 8 (fun K hK=>?_)
     (have Db:=zh (World.ownsRow.alloc KU (.cells (z.cells).toArray 28));have DC:=zh AQ.2.out;refine AX AU (by rfl) (.tmp 61) (.tmp 63) (by rfl) wd.heap.size v5 (0+k) _ (by rfl) Db (some ⟨_,0,none⟩) 1 1 z.cells (by rfl) rfl (fun _=>⟨_,0,rfl,zR w5 z.cells 28⟩) (Bh z) (by omega) (by omega) AQ.2.out.size ?_;intro v8 w8 BI BB Ci;have Ia:=zh BI;have BK:=zh (DC.out.grown BB DC.out.size fun q hq=>(World.ownsRow.lt Db q hq).1);clear BI BB Ci)
     refine hK.out _ _ ?_ (fun AQ=>?_)
     ·(try dsimp only);exact ⟨HC.out _ BK,BK.out⟩
     clear hK K;try simp only[ps]
     refine tS 13 (fun K hK=>?_)
     (refine AX AU (by rfl) (.tmp 64) (.tmp 68) (by rfl) wd.heap.size v8 (0+k+1) _ (by rfl) Ia _ (IL.length - k) _ ((IL.drop k).flatMap Aj.cells) (by rfl) uf (fun hm=>E8.out _ BK hm) uS (by omega) (by omega) BK.out.size ?_;intro v13 bR DW DX GK;have Dc:=zh (Jw NR DW);have Au:=zh (BK.out.grown DX BK.out.size fun q hq=>(World.ownsRow.lt Ia q hq).1);clear DW DX GK;obtain ⟨jW,c13,rfl,_⟩:=Ab.reads Dc)
     refine hK.out _ _ ?_ (fun AQ=>?_)
     ·(try dsimp only);exact ⟨HC.out _ Au,Au.out⟩
     clear hK K;try simp only[ps]
     refine tC 14 ?_;try simp only[ps]
     refine zV (rs:=[15]) (by kernel_rfl) (by simp) ?_
     refine AB.last rfl (by kernel_rfl) (fun K hK=>?_) AB.nil
     (obtain ⟨⟨_,_⟩,_,_⟩:=Iw.c5 (Kk.out.below Au);go_simp)
     refine hK.out _ _ ?_;clear hK K
     (try clear AQ)
     try simp only[ps]
     refine wpAny_done (by kernel_rfl) ?_ _
     (generalize (if cI=k then some (⟨g,0,none⟩:Addr) else some ⟨g,k * 8,none⟩)=A53 at *;go_wp2;go_meet;exact ⟨_,(Kk.out.below Au).Y5 _,(by rw[show k+(IL.length - k+1)=(IL.take k++[z]++IL.drop k).length by have:=NR.out;simp;omega];exact D7 Dc KV _ _),fun q h1 h2=>(AAO _ _ _ _ h1).trans (Au.out.block q h2)⟩)
    ·
     go_simp
     refine hK.out _ _ ?_ (fun AQ=>?_)
     ·(try dsimp only);exact (fun hb=>⟨HC.out _ hb,hb⟩) (zB AQ.2.out (zD _ (.cells (z.cells).toArray 28)))
     clear hK K;try simp only[ps]
     refine tS 5 (fun K hK=>?_)
     (have HOW:Hid (C9 _ wd.heap.size _ []):=zh (Ab.alloc (Co (wd.drewN 1) rfl (AAP _)) (.cells (z.cells).toArray 28));have Bw:=zh AQ.2.out;refine AX AU (by rfl) (.tmp 56) (.tmp 60) (by rfl) wd.heap.size _ 0 [] (by rfl) HOW (some ⟨g,0,none⟩) k cI ((IL.take k).flatMap Aj.cells) (by rfl) uY (fun hm=>⟨g,0,rfl,oP.out _ Bw 0 k (by omega) hm⟩) OE (by omega) (by omega) AQ.2.out.size ?_;intro v5 w5 IQ hg5 hv5;have XA:=zh (Cj hg5 (by intro e0;injection e0 with e0;revert e0;simp) (DU ((wd.drewN 1).alloc (.cells #[] 28)) (p:=wd.heap.size+1) (by simp) z.cells 28));have KU:=zh IQ;have Ap:=zh (Bw.out.grown hg5 Bw.out.size fun q hq=>(World.ownsRow.lt HOW q hq).1);clear IQ hg5 hv5)
     refine hK.out _ _ ?_ (fun AQ=>?_)
     ·(try dsimp only);exact ⟨HC.out _ Ap,Ap.out⟩
     clear hK K;try simp only[ps]
     refine tS 8 (fun K hK=>?_)
     (have Db:=zh (KU.out);have DC:=zh AQ.2.out;refine AX AU (by rfl) (.tmp 61) (.tmp 63) (by rfl) wd.heap.size v5 (0+k) _ (by rfl) Db (some ⟨_,0,none⟩) 1 1 z.cells (by rfl) rfl (fun _=>⟨_,0,rfl,XA.out⟩) (Bh z) (by omega) (by omega) AQ.2.out.size ?_;intro v8 w8 BI BB Ci;have Ia:=zh BI;have BK:=zh (DC.out.grown BB DC.out.size fun q hq=>(World.ownsRow.lt Db q hq).1);clear BI BB Ci)
     refine hK.out _ _ ?_ (fun AQ=>?_)
     ·(try dsimp only);exact ⟨HC.out _ BK,BK.out⟩
     clear hK K;try simp only[ps]
     refine tS 13 (fun K hK=>?_)
     (refine AX AU (by rfl) (.tmp 64) (.tmp 68) (by rfl) wd.heap.size v8 (0+k+1) _ (by rfl) Ia _ (IL.length - k) _ ((IL.drop k).flatMap Aj.cells) (by rfl) uf (fun hm=>E8.out _ BK hm) uS (by omega) (by omega) BK.out.size ?_;intro v13 bR DW DX GK;have Dc:=zh (Jw NR DW);have Au:=zh (BK.out.grown DX BK.out.size fun q hq=>(World.ownsRow.lt Ia q hq).1);clear DW DX GK;obtain ⟨jW,c13,rfl,_⟩:=Ab.reads Dc)
     refine hK.out _ _ ?_ (fun AQ=>?_)
     ·(try dsimp only);exact ⟨HC.out _ Au,Au.out⟩
     clear hK K;try simp only[ps]
     refine tC 14 ?_;try simp only[ps]
     refine zV (rs:=[15]) (by kernel_rfl) (by simp) ?_
     refine AB.last rfl (by kernel_rfl) (fun K hK=>?_) AB.nil
     (obtain ⟨⟨_,_⟩,_,_⟩:=Iw.c5 (Kk.out.below Au);go_simp)
     refine hK.out _ _ ?_;clear hK K
     (try clear AQ)
     try simp only[ps]
     refine wpAny_done (by kernel_rfl) ?_ _
     (generalize (if cI=k then some (⟨g,0,none⟩:Addr) else some ⟨g,k * 8,none⟩)=A53 at *;go_wp2;go_meet;exact ⟨_,(Kk.out.below Au).Y5 _,(by rw[show k+(IL.length - k+1)=(IL.take k++[z]++IL.drop k).length by have:=NR.out;simp;omega];exact D7 Dc KV _ _),fun q h1 h2=>(AAO _ _ _ _ h1).trans (Au.out.block q h2)⟩)
   ·
    go_simp
    refine hK.out _ _ ?_ (fun AQ=>?_)
    ·(try dsimp only);exact (fun hb=>⟨HC.out _ hb,hb⟩) (zB AQ.2.out (zD _ (.cells (z.cells).toArray 28)))
    clear hK K;try simp only[ps]
    refine tS 0 (fun K hK=>?_)
    go_simp
    refine hK.out _ _ ?_ (fun AQ=>?_)
    ·(try dsimp only);exact (fun hb=>⟨HC.out _ hb,hb⟩) (zB AQ.2.out (zD _ (.cells #[] 28)))
    clear hK K;try simp only[ps]
    refine tS 5 (fun K hK=>?_)
    (have HOW:Hid (C9 _ wd.heap.size _ []):=zh (Co ((wd.drewN 1).alloc (.cells (z.cells).toArray 28)) (p:=wd.heap.size+1) (by simp) (by omega));have Bw:=zh AQ.2.out;refine AX AU (by rfl) (.tmp 56) (.tmp 60) (by rfl) wd.heap.size _ 0 [] (by rfl) HOW (some ⟨g,0,none⟩) k cI ((IL.take k).flatMap Aj.cells) (by rfl) uY (fun hm=>⟨g,0,rfl,oP.out _ Bw 0 k (by omega) hm⟩) OE (by omega) (by omega) AQ.2.out.size ?_;intro v5 w5 IQ hg5 hv5;have XA:=zh (Cj hg5 (by intro e0;injection e0 with e0;revert e0;simp) (BP (zD _ _) (DU (wd.drewN 1) (p:=wd.heap.size) rfl z.cells 28)));have KU:=zh IQ;have Ap:=zh (Bw.out.grown hg5 Bw.out.size fun q hq=>(World.ownsRow.lt HOW q hq).1);clear IQ hg5 hv5)
    refine hK.out _ _ ?_ (fun AQ=>?_)
    ·(try dsimp only);exact ⟨HC.out _ Ap,Ap.out⟩
    clear hK K;try simp only[ps]
    refine tS 8 (fun K hK=>?_)
    (have Db:=zh (KU.out);have DC:=zh AQ.2.out;refine AX AU (by rfl) (.tmp 61) (.tmp 63) (by rfl) wd.heap.size v5 (0+k) _ (by rfl) Db (some ⟨_,0,none⟩) 1 1 z.cells (by rfl) rfl (fun _=>⟨_,0,rfl,XA.out⟩) (Bh z) (by omega) (by omega) AQ.2.out.size ?_;intro v8 w8 BI BB Ci;have Ia:=zh BI;have BK:=zh (DC.out.grown BB DC.out.size fun q hq=>(World.ownsRow.lt Db q hq).1);clear BI BB Ci)
    refine hK.out _ _ ?_ (fun AQ=>?_)
    ·(try dsimp only);exact ⟨HC.out _ BK,BK.out⟩
    clear hK K;try simp only[ps]
    refine tS 13 (fun K hK=>?_)
    (refine AX AU (by rfl) (.tmp 64) (.tmp 68) (by rfl) wd.heap.size v8 (0+k+1) _ (by rfl) Ia _ (IL.length - k) _ ((IL.drop k).flatMap Aj.cells) (by rfl) uf (fun hm=>E8.out _ BK hm) uS (by omega) (by omega) BK.out.size ?_;intro v13 bR DW DX GK;have Dc:=zh (Jw NR DW);have Au:=zh (BK.out.grown DX BK.out.size fun q hq=>(World.ownsRow.lt Ia q hq).1);clear DW DX GK;obtain ⟨jW,c13,rfl,_⟩:=Ab.reads Dc)
    refine hK.out _ _ ?_ (fun AQ=>?_)
    ·(try dsimp only);exact ⟨HC.out _ Au,Au.out⟩
    clear hK K;try simp only[ps]
    refine tC 14 ?_;try simp only[ps]
    refine zV (rs:=[15]) (by kernel_rfl) (by simp) ?_
    refine AB.last rfl (by kernel_rfl) (fun K hK=>?_) AB.nil
    (obtain ⟨⟨_,_⟩,_,_⟩:=Iw.c5 (Kk.out.below Au);go_simp)
    refine hK.out _ _ ?_;clear hK K
    (try clear AQ)
    try simp only[ps]
    refine wpAny_done (by kernel_rfl) ?_ _
    (generalize (if cI=k then some (⟨g,0,none⟩:Addr) else some ⟨g,k * 8,none⟩)=A53 at *;go_wp2;go_meet;exact ⟨_,(Kk.out.below Au).Y5 _,(by rw[show k+(IL.length - k+1)=(IL.take k++[z]++IL.drop k).length by have:=NR.out;simp;omega];exact D7 Dc KV _ _),fun q h1 h2=>(AAO _ _ _ _ h1).trans (Au.out.block q h2)⟩)
 case rest =>
 obtain ⟨v8,hps,hov,hoth⟩:=hcut;obtain ⟨we,rfl⟩:∃we:World,we=wc:=⟨_,rfl⟩;have Jg:=zh hps;have HIN:=zh hov;obtain ⟨A8,n8,c8,rfl⟩:=Jz hov;have aW:Hid (C9 we wp.heap.size (.slice A9 n9 c9) (KL.take k++[y]++KL.drop k)):=vV.out.keep fun g hg hl _=>hoth g (by have:=jy.out;omega) hl
 have jr:Hid (∀q,Value.ownBlock (.slice A9 n9 c9)=some q->Value.ownBlock (.slice A8 n8 c8)≠some q):=fun q h1 h2=>by
  have g1:=(World.ownsRow.lt vV q h1).2;have g2:=(World.ownsRow.lt hov q h2).1
  omega
 have HWD:=zh jq.out.be.size;have ACA:Hid (w.heap.size+3<wd.heap.size):=(zg.1 jq.out.br).1;have ACE:=zh hk;clear hps hov hoth KV Kk NR Ip OZ jP jq;have hbv:=Jg.out.bv;unfold IU at hbv;obtain ⟨⟨v0,v1,v2,v3,v4,v5,v6,v7⟩,_⟩:=zK hbv;obtain ⟨⟨r0,r1,r2,r3,r4,r5,r6,r7⟩,f0,f1,f2,f3,f4,f5,f6,f7⟩:=zK Jg.out.br;clear hbv;have HF:=zh (fun W9=>Xl (W9:=W9) Jg)
 unfold q8 q5 at HF;go_wp2;clear v0 v1 v2 v3 v4 v5 v6 v7 r0 r1 r2 r3 r4 r5 r6 r7 f0 f1 f2 f3 f4 f5 f6 f7;generalize World.setCell _ _ _=W9 at *;obtain ⟨h1,h2,h3⟩:=HF.out _ rfl;obtain ⟨⟨z0,z1,z2,z3,z4,z5,z6,z7⟩,_⟩:=zK h1
 exact bodyPost_ret (v := .agg #[.int .i64 8,.bool false,.int .i64 0,.string ⟨#[]⟩,.int .i64 0,.slice A9 n9 c9,.slice A8 n8 c8,AP]) (by simp[results,Tryz.results113,go_sem,z0,z1,z2,z3,z4,z5,z6,z7]) rfl ⟨_,_,_,_,rfl,h2,.inr ⟨Li (aW.out.keep fun g hg _ _=>h3 g (by have:=jy.out;omega)) (by have:=jy.out;omega),Li (HIN.out.keep fun g hg _ _=>h3 g (by have:=ACA.out;omega)) HWD,jr.out,k,ACE.out,rfl,rfl,Dz.out,fun h=>⟨by have:=vS.out h;omega,HNZ.out trivial h⟩⟩⟩
end Go.Proofs.YthkkllmmbefedaaGreatDoor



