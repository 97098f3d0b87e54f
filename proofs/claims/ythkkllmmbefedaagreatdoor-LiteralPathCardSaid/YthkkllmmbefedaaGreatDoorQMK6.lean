/-
  Walks: the maker of values: put.
-/
import Derived.Test.YthkkllmmbefedaaGreatDoorQGM1
import Derived.Deep.CutBlock
namespace Go.Proofs.YthkkllmmbefedaaGreatDoor
open Go.RowKit
set_option maxHeartbeats 16000000
set_option maxRecDepth 100000
structure IW (w:World) (vk vi:Value) (y z:Au) (W:World):Prop where
 bv:W.heap[w.heap.size]? = some (Ht 8 false 0 ⟨#[]⟩ 0 vk vi AR)
 bk:W.heap[w.heap.size+1]? = some (.cells #[.int .i64 y.v.kind,.bool y.v.bool,.int .i64 y.v.int,.string y.v.str,.int .i64 y.v.id,.slice y.A1 y.v.keys.length y.c1,.slice y.A2 y.v.items.length y.c2,.slice y.A3 y.v.rest.length y.c3] 28)
 bi:W.heap[w.heap.size+2]? = some (.cells #[.int .i64 z.v.kind,.bool z.v.bool,.int .i64 z.v.int,.string z.v.str,.int .i64 z.v.id,.slice z.A1 z.v.keys.length z.c1,.slice z.A2 z.v.items.length z.c2,.slice z.A3 z.v.rest.length z.c3] 28)
 br:W.heap[w.heap.size+3]? = some zO
 be:Below w.heap.size w W
section
variable {w W W':World} {vk vi:Value} {y z:Au}
theorem IW.below (h:IW w vk vi y z W) (hb:Below W.heap.size W W'):IW w vk vi y z W':=⟨BR h.bv hb,BR h.bk hb,BR h.bi hb,BR h.br hb,h.be.trans (hb.mono h.be.size)⟩
theorem IW.new (w:World) (vk vi:Value) (y z:Au):IW w vk vi y z ((((w.alloc (Ht 8 false 0 ⟨#[]⟩ 0 vk vi AR)).alloc (y.v.box y.A1 y.c1 y.A2 y.c2 y.A3 y.c3)).alloc (z.v.box z.A1 z.c1 z.A2 z.c2 z.A3 z.c3)).alloc zO):=by
 have b1:=zD w (Ht 8 false 0 ⟨#[]⟩ 0 vk vi AR);have b2:=zD (w.alloc (Ht 8 false 0 ⟨#[]⟩ 0 vk vi AR)) (y.v.box y.A1 y.c1 y.A2 y.c2 y.A3 y.c3);have b3:=zD ((w.alloc (Ht 8 false 0 ⟨#[]⟩ 0 vk vi AR)).alloc (y.v.box y.A1 y.c1 y.A2 y.c2 y.A3 y.c3)) (z.v.box z.A1 z.c1 z.A2 z.c2 z.A3 z.c3)
 have b4:=zD (((w.alloc (Ht 8 false 0 ⟨#[]⟩ 0 vk vi AR)).alloc (y.v.box y.A1 y.c1 y.A2 y.c2 y.A3 y.c3)).alloc (z.v.box z.A1 z.c1 z.A2 z.c2 z.A3 z.c3)) zO;have s1:(w.alloc (Ht 8 false 0 ⟨#[]⟩ 0 vk vi AR)).heap.size=w.heap.size+1:=by simp
 have s2:((w.alloc (Ht 8 false 0 ⟨#[]⟩ 0 vk vi AR)).alloc (y.v.box y.A1 y.c1 y.A2 y.c2 y.A3 y.c3)).heap.size=w.heap.size+2:=by simp
 have s3:(((w.alloc (Ht 8 false 0 ⟨#[]⟩ 0 vk vi AR)).alloc (y.v.box y.A1 y.c1 y.A2 y.c2 y.A3 y.c3)).alloc (z.v.box z.A1 z.c1 z.A2 z.c2 z.A3 z.c3)).heap.size=w.heap.size+3:=by simp
 have h2:=AAC (w.alloc (Ht 8 false 0 ⟨#[]⟩ 0 vk vi AR)) (y.v.box y.A1 y.c1 y.A2 y.c2 y.A3 y.c3);have h3:=AAC ((w.alloc (Ht 8 false 0 ⟨#[]⟩ 0 vk vi AR)).alloc (y.v.box y.A1 y.c1 y.A2 y.c2 y.A3 y.c3)) (z.v.box z.A1 z.c1 z.A2 z.c2 z.A3 z.c3)
 have h4:=AAC (((w.alloc (Ht 8 false 0 ⟨#[]⟩ 0 vk vi AR)).alloc (y.v.box y.A1 y.c1 y.A2 y.c2 y.A3 y.c3)).alloc (z.v.box z.A1 z.c1 z.A2 z.c2 z.A3 z.c3)) zO;rw[s1] at h2;rw[s2] at h3;rw[s3] at h4;exact ⟨BR (BR (BR (AAC w _) b2) b3) b4,BR (BR h2 b3) b4,BR h3 b4,h4,zB (zB (zB b1 b2) b3) b4⟩
theorem IW.reads (h:IW w vk vi y z W):(W.cell? ⟨w.heap.size,5,none⟩=some vk/\W.cell? ⟨w.heap.size,6,none⟩=some vi)/\(W.cell? ⟨w.heap.size+1,0,none⟩=some (.int .i64 y.v.kind)/\W.cell? ⟨w.heap.size+1,1,none⟩=some (.bool y.v.bool)/\W.cell? ⟨w.heap.size+1,2,none⟩=some (.int .i64 y.v.int)/\W.cell? ⟨w.heap.size+1,3,none⟩=some (.string y.v.str)/\W.cell? ⟨w.heap.size+1,4,none⟩=some (.int .i64 y.v.id)/\W.cell? ⟨w.heap.size+1,5,none⟩=some (.slice y.A1 y.v.keys.length y.c1)/\W.cell? ⟨w.heap.size+1,6,none⟩=some (.slice y.A2 y.v.items.length y.c2)/\W.cell? ⟨w.heap.size+1,7,none⟩=some (.slice y.A3 y.v.rest.length y.c3))/\(W.cell? ⟨w.heap.size+2,0,none⟩=some (.int .i64 z.v.kind)/\W.cell? ⟨w.heap.size+2,1,none⟩=some (.bool z.v.bool)/\W.cell? ⟨w.heap.size+2,2,none⟩=some (.int .i64 z.v.int)/\W.cell? ⟨w.heap.size+2,3,none⟩=some (.string z.v.str)/\W.cell? ⟨w.heap.size+2,4,none⟩=some (.int .i64 z.v.id)/\W.cell? ⟨w.heap.size+2,5,none⟩=some (.slice z.A1 z.v.keys.length z.c1)/\W.cell? ⟨w.heap.size+2,6,none⟩=some (.slice z.A2 z.v.items.length z.c2)/\W.cell? ⟨w.heap.size+2,7,none⟩=some (.slice z.A3 z.v.rest.length z.c3)):=by
 have hb:=h.bv;unfold Ht at hb;refine ⟨⟨?_,?_⟩,(zK h.bk).1,(zK h.bi).1⟩ <;> (rw[AAE _ _ _ _ _ _ hb];rfl)
theorem IW.c5 (h:IW w vk vi y z W):(W.cell? ⟨w.heap.size,5,none⟩=some vk/\W.cell? ⟨w.heap.size,6,none⟩=some vi)/\W.frozen? ⟨w.heap.size,5,none⟩=false/\W.frozen? ⟨w.heap.size,6,none⟩=false :=
 ⟨h.reads.1,AAL _ _ _ _ _ h.bv,AAL _ _ _ _ _ h.bv⟩
theorem IW.Om (h:IW w vk vi y z W) (v:Value):IW w v vi y z (W.setCell ⟨w.heap.size,5,none⟩ v):=by
 have hb:=h.bv;unfold Ht at hb;refine ⟨?_,(AAF _ _ _ _ (by show _≠w.heap.size;omega)).trans h.bk,(AAF _ _ _ _ (by show _≠w.heap.size;omega)).trans h.bi,(AAF _ _ _ _ (by show _≠w.heap.size;omega)).trans h.br,h.be.setCell (p:=⟨w.heap.size,5,none⟩) (AAH _) v⟩
 rw[AAW _ _ 5 _ _ v hb];rfl
theorem IW.Xt (h:IW w vk vi y z W) (v:Value):IW w vk v y z (W.setCell ⟨w.heap.size,6,none⟩ v):=by
 have hb:=h.bv;unfold Ht at hb;refine ⟨?_,(AAF _ _ _ _ (by show _≠w.heap.size;omega)).trans h.bk,(AAF _ _ _ _ (by show _≠w.heap.size;omega)).trans h.bi,(AAF _ _ _ _ (by show _≠w.heap.size;omega)).trans h.br,h.be.setCell (p:=⟨w.heap.size,6,none⟩) (AAH _) v⟩
 rw[AAW _ _ 6 _ _ v hb];rfl
end
variable {w:World}
theorem FZ {p q:Nat} (h:q≠p) (v0 v1 v2 v3 v4 v5 v6 v7:Value):(q8 w p v0 v1 v2 v3 v4 v5 v6 v7).heap[q]? = w.heap[q]? := by
 unfold q8 q5;rw[AAF _ _ _ _ h,AAF _ _ _ _ h,AAF _ _ _ _ h,AAF _ _ _ _ h,AAF _ _ _ _ h,AAF _ _ _ _ h,AAF _ _ _ _ h,AAF _ _ _ _ h]
theorem WW {W:World} {vk vi:Value} {y z:Au} (h:IW w vk vi y z W) {W9:World} (e:W9=q8 W (w.heap.size+3) (.int .i64 8) (.bool false) (.int .i64 0) (.string ⟨#[]⟩) (.int .i64 0) vk vi AR):
  W9.heap[w.heap.size+3]? = some (.cells #[.int .i64 8,.bool false,.int .i64 0,.string ⟨#[]⟩,.int .i64 0,vk,vi,AR] 28)/\Below w.heap.size w W9/\∀q,q≠w.heap.size+3->W9.heap[q]? = W.heap[q]? := by
 subst e;refine ⟨F6 h.br _ _ _ _ _ _ _ _,?_,fun q hq=>FZ hq _ _ _ _ _ _ _ _⟩
 exact (((((((h.be.setCell (p:=⟨w.heap.size+3,0,none⟩) (by show _<=w.heap.size+3;omega) _).setCell (p:=⟨w.heap.size+3,1,none⟩) (by show _<=w.heap.size+3;omega) _).setCell (p:=⟨w.heap.size+3,2,none⟩) (by show _<=w.heap.size+3;omega) _).setCell (p:=⟨w.heap.size+3,3,none⟩) (by show _<=w.heap.size+3;omega) _).setCell (p:=⟨w.heap.size+3,4,none⟩) (by show _<=w.heap.size+3;omega) _).setCell (p:=⟨w.heap.size+3,5,none⟩) (by show _<=w.heap.size+3;omega) _).setCell (p:=⟨w.heap.size+3,6,none⟩) (by show _<=w.heap.size+3;omega) _).setCell (p:=⟨w.heap.size+3,7,none⟩) (by show _<=w.heap.size+3;omega) _
def uz (w:World) (vk vi:Value) (KL IL:List Au) (y z:Au) (e:Ending) (w':World):Prop:=∃ (NA Jv:Value) (K' I':List Au),e = .returned (.agg #[.int .i64 8,.bool false,.int .i64 0,.string ⟨#[]⟩,.int .i64 0,NA,Jv,AR])/\Below w.heap.size w w' /\
 ((NA=vk/\Jv=vi/\K'=KL/\I'=IL)\/(Cw w' w.heap.size NA K'/\Cw w' w.heap.size Jv I'/\(∀q,NA.ownBlock=some q->Jv.ownBlock≠some q)/\∃i:Nat,i<=KL.length/\K'=KL.take i++[y]++KL.drop i/\I'=IL.take i++[z]++IL.drop i/\(∀j (h:j<KL.length),j<i->BS (KL[j]).v y.v<0)/\∀ (h:i<KL.length),¬ BS (KL[i]).v y.v<0/\BS (KL[i]).v y.v≠0))
theorem aW {b0:Nat} {vk vi:Value} {KL IL:List Au} (hK:Cw w b0 vk KL) (hI:Cw w b0 vi IL) (hle:IL.length=KL.length) (hln:KL.length<=100) (hnil:KL=[]->vk=AR/\vi=AR) (y z:Au) (hk:∀v∈KL,v.v.kind=y.v.kind/\(1<=v.v.kind/\v.v.kind<=4)/\(v.v.kind=2->In64 v.v.int/\In64 y.v.int)/\(v.v.str.size<=9223372036854775807/\y.v.str.size<=9223372036854775807)):
  Calls Tryz.prog 113 #[.agg #[.int .i64 8,.bool false,.int .i64 0,.string ⟨#[]⟩,.int .i64 0,vk,vi,AR],y.v.v y.A1 y.c1 y.A2 y.c2 y.A3 y.c3,z.v.v z.A1 z.c1 z.A2 z.c2 z.A3 z.c3] w (uz w vk vi KL IL y z):=by
 have qZ:=zh (IW.new w vk vi y z);have sJ:=zh hK;have HIO:=zh hI;have R4:=zh hle;have HKK:=zh hk;have xV:=zh hnil;obtain ⟨A,cK,rfl,hcK,-⟩:=Lj hK;obtain ⟨B,cI,rfl,hcI,-⟩:=Lj hI;clear hK hI hk hle hnil
 go_enter Tryz.func113,Tryz.ntmps113
 go_upto_region 1 with fail
 unfold Ht zO Val.box at qZ;generalize World.alloc (World.alloc (World.alloc (World.alloc w _) _) _) _=W1 at *;have Og:Hid (IW w (.slice A KL.length cK) (.slice B IL.length cI) y z W1):=qZ.out;clear qZ
 go_upto_block 0 with fail
 go_cut [7] (fun i wx=>∃k:Nat,k<=KL.length/\i = .int .i64 (k:Int)/\Hid (IW w (.slice A KL.length cK) (.slice B IL.length cI) y z wx/\(∀j (h:j<KL.length),j<k->BS (KL[j]).v y.v<0)/\∀h:k<KL.length,¬ BS (KL[k]).v y.v<0))
 case first =>
  go_wp2_with fail
  go_loopw [7] (fun i wr=>∃k:Nat,k<=KL.length/\i = .int .i64 (k:Int)/\Hid (IW w (.slice A KL.length cK) (.slice B IL.length cI) y z wr/\∀j (h:j<KL.length),j<k->BS (KL[j]).v y.v<0)) (fun i _=>KL.length - (intOf i).toNat)
  case atStart=>exact ⟨0,by omega,rfl,Og.out,fun _ _ h=>absurd h (by omega)⟩
  case round =>
   obtain ⟨k,hk,rfl,hh⟩:=hrel;obtain ⟨wo,rfl⟩:∃wo:World,wo=wr:=⟨_,rfl⟩;have HP:=zh hh.out.1;have GV:=zh hh.out.2;clear hh Og
   by_cases hlt:k<KL.length
   ·as_aux_lemma =>
    obtain ⟨_,_,e1,-,hat,-⟩:=Lj (sJ.out.below HP.out.be)
    injection e1 with e1 _ e2
    subst e1 e2;obtain ⟨g,rfl,hr⟩:=hat k hlt;have ZM:=zh (HKK.out _ (AAK hlt));obtain ⟨x,hx⟩:∃x,KL[k]=x:=⟨_,rfl⟩;rw[hx] at hr ZM;have ZR:=zh hx;have hc:=Jy (y:=x.v) hr;rw[Nat.zero_add] at hc
    have HC:Hid (∀w',Below wo.heap.size wo w'->(w'.cell? ⟨w.heap.size,5,none⟩=some (.slice (some ⟨g,0,none⟩) KL.length cK)/\(w'.cell? ⟨w.heap.size+1,0,none⟩=some (.int .i64 y.v.kind)/\w'.cell? ⟨w.heap.size+1,1,none⟩=some (.bool y.v.bool)/\w'.cell? ⟨w.heap.size+1,2,none⟩=some (.int .i64 y.v.int)/\w'.cell? ⟨w.heap.size+1,3,none⟩=some (.string y.v.str)/\w'.cell? ⟨w.heap.size+1,4,none⟩=some (.int .i64 y.v.id)/\w'.cell? ⟨w.heap.size+1,5,none⟩=some (.slice y.A1 y.v.keys.length y.c1)/\w'.cell? ⟨w.heap.size+1,6,none⟩=some (.slice y.A2 y.v.items.length y.c2)/\w'.cell? ⟨w.heap.size+1,7,none⟩=some (.slice y.A3 y.v.rest.length y.c3))/\(w'.cell? ⟨g,k * 8,none⟩=some (.int .i64 x.v.kind)/\w'.cell? ⟨g,k * 8+1,none⟩=some (.bool x.v.bool)/\w'.cell? ⟨g,k * 8+2,none⟩=some (.int .i64 x.v.int)/\w'.cell? ⟨g,k * 8+3,none⟩=some (.string x.v.str)/\w'.cell? ⟨g,k * 8+4,none⟩=some (.int .i64 x.v.id)/\w'.cell? ⟨g,k * 8+5,none⟩=some (.slice x.A1 x.v.keys.length x.c1)/\w'.cell? ⟨g,k * 8+6,none⟩=some (.slice x.A2 x.v.items.length x.c2)/\w'.cell? ⟨g,k * 8+7,none⟩=some (.slice x.A3 x.v.rest.length x.c3)))):=fun w' hb =>
     ⟨(HP.out.below hb).reads.1.1,(HP.out.below hb).reads.2.1,zA hb hc.1,zA hb hc.2.1,zA hb hc.2.2.1,zA hb hc.2.2.2.1,zA hb hc.2.2.2.2.1,zA hb hc.2.2.2.2.2.1,zA hb hc.2.2.2.2.2.2.1,zA hb hc.2.2.2.2.2.2.2⟩
    have h1:(0:Int)<=(k:Int):=by omega
    have h2:(k:Int)<(KL.length:Int):=by omega
    have h3:decide ((k:Int)<(KL.length:Int))=true:=AAX h2;clear hr hx hc hat;go_upto_region 2 with fail
    refine zr (Y:=fun w'=>Hid (Below wo.heap.size wo w')) HC (by kernel_rfl) ?_ (fun AO=>?_)
    ·(try dsimp only);exact ⟨HC.out _ (zC (Pe _ _) 1),(zC (Pe _ _) 1)⟩
    refine tL 0 ?_;try simp only[ps]
    refine tL 1 ?_;try simp only[ps]
    refine tL 2 ?_;try simp only[ps]
    refine tL 3 ?_;try simp only[ps]
    refine tL 4 ?_;try simp only[ps]
    refine tL 5 ?_;try simp only[ps]
    refine tL 6 ?_;try simp only[ps]
    refine tL 7 ?_;try simp only[ps]
    refine tL 8 ?_;try simp only[ps]
    refine tL 9 ?_;try simp only[ps]
    refine tL 10 ?_;try simp only[ps]
    refine tL 11 ?_;try simp only[ps]
    refine tR 12 (fun K hK=>?_)
    go_simp
    (have HB0:=zh AO.2.out;refine (Hf x.v y.v ZM.out.1 ZM.out.2.1 ZM.out.2.2.1 ZM.out.2.2.2 x.A1 x.c1 x.A2 x.c2 x.A3 x.c3 y.A1 y.c1 y.A2 y.c2 y.A3 y.c3 _).mono ?_;rintro e w6 ⟨rfl,hb6⟩;have BN:=zh (zB HB0 hb6);clear hb6)
    refine hK.out _ _ ?_ (fun AO=>?_)
    ·(try dsimp only);exact ⟨HC.out _ BN,BN.out⟩
    clear hK K;try simp only[ps]
    refine tL 13 ?_;try simp only[ps]
    refine tL 14 ?_;try simp only[ps]
    refine wpAnyH_done (by kernel_rfl) ?_ _
    have XU:=zh (HP.out.below AO.2.out);clear AO;generalize hcb:decide (BS x.v y.v<0)=cb
    cases cb with
    | true =>
     have hc:=AAu hcb;have HL2:Hid (∀j (h:j<KL.length),j<k+1->BS (KL[j]).v y.v<0):=fun j h hj=>by
      by_cases e:j=k
      ·subst e;rw[ZR.out];exact hc
      ·exact GV.out j h (by omega)
     clear hc hcb;go_wp2;go_roundw
     case rel=>exact ⟨k+1,by omega,by go_num,XU.out,HL2.out⟩
     case measure=>simp[intOf];omega
    | false =>
     have sG:Hid (∀h:k<KL.length,¬ BS (KL[k]).v y.v<0):=fun h=>by rw[ZR.out];exact of_decide_eq_false hcb
     clear hcb;go_wp2;go_meet;exact ⟨k,by omega,rfl,XU.out,GV.out,sG.out⟩
   ·as_aux_lemma =>
    have HC:Hid (∀w',Below wo.heap.size wo w'->w'.cell? ⟨w.heap.size,5,none⟩=some (.slice A KL.length cK)):=fun w' hb=>(HP.out.below hb).reads.1.1
    have h3:decide ((k:Int)<(KL.length:Int))=false:=AAU (by omega)
    go_upto_region 2 with fail
    refine wp_region_held_drew (S:=(fun w'=>(w'.cell? ⟨w.heap.size,5,none⟩=some (.slice A KL.length cK))/\Hid (Below wo.heap.size wo w'))) (by kernel_rfl) ?_ (fun AO=>?_)
    ·(try dsimp only);exact ⟨HC.out _ (zC (Pe _ _) 1),(zC (Pe _ _) 1)⟩
    refine tL 0 ?_;try simp only[ps]
    refine tL 1 ?_;try simp only[ps]
    refine tL 2 ?_;try simp only[ps]
    refine tL 3 ?_;try simp only[ps]
    refine tL 4 ?_;try simp only[ps]
    refine tL 5 ?_;try simp only[ps]
    refine tU 6 ?_;try simp only[ps]
    refine tU 7 ?_;try simp only[ps]
    refine tU 8 ?_;try simp only[ps]
    refine tU 9 ?_;try simp only[ps]
    refine tU 10 ?_;try simp only[ps]
    refine tU 11 ?_;try simp only[ps]
    refine tU 12 ?_;try simp only[ps]
    refine tU 13 ?_;try simp only[ps]
    refine tL 14 ?_;try simp only[ps]
    refine wpAnyH_done (by kernel_rfl) ?_ _
    have XU:=zh (HP.out.below AO.2.out);clear AO;go_wp2;go_meet;exact ⟨k,by omega,rfl,XU.out,GV.out,fun h=>absurd h hlt⟩
 case rest =>
 obtain ⟨k,hk,rfl,hh⟩:=hcut;obtain ⟨wo,rfl⟩:∃wo:World,wo=wc:=⟨_,rfl⟩;have HP:=zh hh.out.1;have GV:=zh hh.out.2.1;have sG:=zh hh.out.2.2;clear hh Og
 go_upto_block 1 with fail
 go_cut [39] (fun c wx=>∃b:Bool,c = .bool b/\Hid (IW w (.slice A KL.length cK) (.slice B IL.length cI) y z wx/\(b=false->∀h:k<KL.length,BS (KL[k]).v y.v≠0)))
 case first =>
  by_cases hlt:k<KL.length
  ·as_aux_lemma =>
   obtain ⟨_,_,e1,-,hat,-⟩:=Lj (sJ.out.below HP.out.be)
   injection e1 with e1 _ e2
   subst e1 e2;obtain ⟨g,rfl,hr⟩:=hat k hlt;have ZM:=zh (HKK.out _ (AAK hlt));obtain ⟨x,hx⟩:∃x,KL[k]=x:=⟨_,rfl⟩;rw[hx] at hr ZM;have ZR:=zh hx;have hc:=Jy (y:=x.v) hr;rw[Nat.zero_add] at hc
   have HC:Hid (∀w',Below wo.heap.size wo w'->(w'.cell? ⟨w.heap.size,5,none⟩=some (.slice (some ⟨g,0,none⟩) KL.length cK)/\(w'.cell? ⟨w.heap.size+1,0,none⟩=some (.int .i64 y.v.kind)/\w'.cell? ⟨w.heap.size+1,1,none⟩=some (.bool y.v.bool)/\w'.cell? ⟨w.heap.size+1,2,none⟩=some (.int .i64 y.v.int)/\w'.cell? ⟨w.heap.size+1,3,none⟩=some (.string y.v.str)/\w'.cell? ⟨w.heap.size+1,4,none⟩=some (.int .i64 y.v.id)/\w'.cell? ⟨w.heap.size+1,5,none⟩=some (.slice y.A1 y.v.keys.length y.c1)/\w'.cell? ⟨w.heap.size+1,6,none⟩=some (.slice y.A2 y.v.items.length y.c2)/\w'.cell? ⟨w.heap.size+1,7,none⟩=some (.slice y.A3 y.v.rest.length y.c3))/\(w'.cell? ⟨g,k * 8,none⟩=some (.int .i64 x.v.kind)/\w'.cell? ⟨g,k * 8+1,none⟩=some (.bool x.v.bool)/\w'.cell? ⟨g,k * 8+2,none⟩=some (.int .i64 x.v.int)/\w'.cell? ⟨g,k * 8+3,none⟩=some (.string x.v.str)/\w'.cell? ⟨g,k * 8+4,none⟩=some (.int .i64 x.v.id)/\w'.cell? ⟨g,k * 8+5,none⟩=some (.slice x.A1 x.v.keys.length x.c1)/\w'.cell? ⟨g,k * 8+6,none⟩=some (.slice x.A2 x.v.items.length x.c2)/\w'.cell? ⟨g,k * 8+7,none⟩=some (.slice x.A3 x.v.rest.length x.c3)))):=fun w' hb =>
    ⟨(HP.out.below hb).reads.1.1,(HP.out.below hb).reads.2.1,zA hb hc.1,zA hb hc.2.1,zA hb hc.2.2.1,zA hb hc.2.2.2.1,zA hb hc.2.2.2.2.1,zA hb hc.2.2.2.2.2.1,zA hb hc.2.2.2.2.2.2.1,zA hb hc.2.2.2.2.2.2.2⟩
   have h1:(0:Int)<=(k:Int):=by omega
   have h2:(k:Int)<(KL.length:Int):=by omega
   have h3:decide ((k:Int)<(KL.length:Int))=true:=AAX h2;clear hr hx hc hat;go_upto_region 4 with fail
   refine zr (Y:=fun w'=>Hid (Below wo.heap.size wo w')) HC (by kernel_rfl) ?_ (fun AO=>?_)
   ·(try dsimp only);exact ⟨HC.out _ (zC (Pe _ _) 1),(zC (Pe _ _) 1)⟩
   refine tL 0 ?_;try simp only[ps]
   refine tL 1 ?_;try simp only[ps]
   refine tL 2 ?_;try simp only[ps]
   refine tL 3 ?_;try simp only[ps]
   refine tL 4 ?_;try simp only[ps]
   refine tL 5 ?_;try simp only[ps]
   refine tL 6 ?_;try simp only[ps]
   refine tL 7 ?_;try simp only[ps]
   refine tL 8 ?_;try simp only[ps]
   refine tL 9 ?_;try simp only[ps]
   refine tL 10 ?_;try simp only[ps]
   refine tL 11 ?_;try simp only[ps]
   refine tR 12 (fun K hK=>?_)
   go_simp
   (have HB0:=zh AO.2.out;refine (Hf x.v y.v ZM.out.1 ZM.out.2.1 ZM.out.2.2.1 ZM.out.2.2.2 x.A1 x.c1 x.A2 x.c2 x.A3 x.c3 y.A1 y.c1 y.A2 y.c2 y.A3 y.c3 _).mono ?_;rintro e w6 ⟨rfl,hb6⟩;have BN:=zh (zB HB0 hb6);clear hb6)
   refine hK.out _ _ ?_ (fun AO=>?_)
   ·(try dsimp only);exact ⟨HC.out _ BN,BN.out⟩
   clear hK K;try simp only[ps]
   refine tL 13 ?_;try simp only[ps]
   refine tL 14 ?_;try simp only[ps]
   refine wpAnyH_done (by kernel_rfl) ?_ _
   have XU:=zh (HP.out.below AO.2.out);clear AO;generalize hcb:(BS x.v y.v==0)=cb
   cases cb with
   | true =>
    clear hcb;go_wp2;go_meet;exact ⟨true,rfl,XU.out,fun e=>by cases e⟩
   | false =>
    have HNZ:Hid (∀h:k<KL.length,BS (KL[k]).v y.v≠0):=fun h=>by rw[ZR.out];intro e;rw[e] at hcb;cases hcb
    clear hcb;go_wp2;go_meet;exact ⟨false,rfl,XU.out,fun _=>HNZ.out⟩
  ·as_aux_lemma =>
   have HC:Hid (∀w',Below wo.heap.size wo w'->w'.cell? ⟨w.heap.size,5,none⟩=some (.slice A KL.length cK)):=fun w' hb=>(HP.out.below hb).reads.1.1
   have h3:decide ((k:Int)<(KL.length:Int))=false:=AAU (by omega)
   go_upto_region 4 with fail
   refine wp_region_held_drew (S:=(fun w'=>(w'.cell? ⟨w.heap.size,5,none⟩=some (.slice A KL.length cK))/\Hid (Below wo.heap.size wo w'))) (by kernel_rfl) ?_ (fun AO=>?_)
   ·(try dsimp only);exact ⟨HC.out _ (zC (Pe _ _) 1),(zC (Pe _ _) 1)⟩
   refine tL 0 ?_;try simp only[ps]
   refine tL 1 ?_;try simp only[ps]
   refine tL 2 ?_;try simp only[ps]
   refine tL 3 ?_;try simp only[ps]
   refine tL 4 ?_;try simp only[ps]
   refine tL 5 ?_;try simp only[ps]
   refine tU 6 ?_;try simp only[ps]
   refine tU 7 ?_;try simp only[ps]
   refine tU 8 ?_;try simp only[ps]
   refine tU 9 ?_;try simp only[ps]
   refine tU 10 ?_;try simp only[ps]
   refine tU 11 ?_;try simp only[ps]
   refine tU 12 ?_;try simp only[ps]
   refine tU 13 ?_;try simp only[ps]
   refine tL 14 ?_;try simp only[ps]
   refine wpAnyH_done (by kernel_rfl) ?_ _
   have XU:=zh (HP.out.below AO.2.out);clear AO;go_wp2;go_meet;exact ⟨false,rfl,XU.out,fun _ h=>absurd h hlt⟩
 case rest =>
 obtain ⟨b,rfl,hh⟩:=hcut;have UX:=zh hh.out.1;have HNZ:=zh hh.out.2;clear hh HP
 cases b with
 | true =>
  have hbv:=UX.out.bv;unfold Ht at hbv;obtain ⟨⟨v0,v1,v2,v3,v4,v5,v6,v7⟩,_⟩:=zK hbv;obtain ⟨⟨r0,r1,r2,r3,r4,r5,r6,r7⟩,f0,f1,f2,f3,f4,f5,f6,f7⟩:=zK UX.out.br;clear hbv;have HF:=zh (fun W9=>WW (W9:=W9) UX)
  unfold q8 q5 at HF;go_wp2;clear v0 v1 v2 v3 v4 v5 v6 v7 r0 r1 r2 r3 r4 r5 r6 r7 f0 f1 f2 f3 f4 f5 f6 f7;generalize World.setCell _ _ _=W9 at *;obtain ⟨h1,h2,_⟩:=HF.out _ rfl;obtain ⟨⟨z0,z1,z2,z3,z4,z5,z6,z7⟩,_⟩:=zK h1
  exact bodyPost_ret (v := .agg #[.int .i64 8,.bool false,.int .i64 0,.string ⟨#[]⟩,.int .i64 0,.slice A KL.length cK,.slice B IL.length cI,AR]) (by simp[results,Tryz.results113,go_sem,z0,z1,z2,z3,z4,z5,z6,z7]) rfl ⟨_,_,KL,IL,rfl,h2,.inl ⟨rfl,rfl,rfl,rfl⟩⟩
 | false =>
 obtain ⟨wp,rfl⟩:∃wp:World,wp=wc:=⟨_,rfl⟩;have NT:Hid (w.heap.size<wp.heap.size):=(zg.1 UX.out.bv).1;have lZ:Hid (w.heap.size+3<wp.heap.size):=(zg.1 UX.out.br).1;have Ji:Hid (IW w (.slice A KL.length cK) (.slice B IL.length cI) y z wp):=UX.out;have MO:=zh hk;have D7:=zh hcK;have NV:=zh hln;have fH:Hid (¬ KL=[]->0<KL.length):=fun h=>List.length_pos_iff.2 h
 go_upto_region 6 with fail
 go_cut [] (fun wx=>∃v9:Value,IW w v9 (.slice B IL.length cI) y z wx/\Cw wx wp.heap.size v9 (KL.take k++[y]++KL.drop k)/\∀q,q≠w.heap.size->q<wp.heap.size->wx.heap[q]? = wp.heap[q]?)
 case first =>
  by_cases pF:KL=[]
  ·
   obtain ⟨hn1,hn2⟩:=xV.out pF;subst pF;obtain rfl:IL=[]:=AAf R4;obtain rfl:k=0:=Nat.le_zero.1 MO;obtain ⟨hA,hc⟩:A=none/\cK=0:=by injection hn1 with g1 _ g2;exact ⟨g1,g2⟩
   obtain ⟨hA2,hc2⟩:B=none/\cI=0:=by injection hn2 with g1 _ g2;exact ⟨g1,g2⟩
   subst hA hc hA2 hc2
   have HC:Hid (∀w',Below wp.heap.size wp w'->(w'.cell? ⟨w.heap.size,5,none⟩=some (.slice none 0 0)/\(w'.cell? ⟨w.heap.size+1,0,none⟩=some (.int .i64 y.v.kind)/\w'.cell? ⟨w.heap.size+1,1,none⟩=some (.bool y.v.bool)/\w'.cell? ⟨w.heap.size+1,2,none⟩=some (.int .i64 y.v.int)/\w'.cell? ⟨w.heap.size+1,3,none⟩=some (.string y.v.str)/\w'.cell? ⟨w.heap.size+1,4,none⟩=some (.int .i64 y.v.id)/\w'.cell? ⟨w.heap.size+1,5,none⟩=some (.slice y.A1 y.v.keys.length y.c1)/\w'.cell? ⟨w.heap.size+1,6,none⟩=some (.slice y.A2 y.v.items.length y.c2)/\w'.cell? ⟨w.heap.size+1,7,none⟩=some (.slice y.A3 y.v.rest.length y.c3)))):=fun w' hb=>⟨(UX.out.below hb).reads.1.1,(UX.out.below hb).reads.2.1⟩
   clear hn1 hn2 hln hk hcK hcI
   refine yE (S:=(fun w'=>(w'.cell? ⟨w.heap.size,5,none⟩=some (.slice none 0 0)/\(w'.cell? ⟨w.heap.size+1,0,none⟩=some (.int .i64 y.v.kind)/\w'.cell? ⟨w.heap.size+1,1,none⟩=some (.bool y.v.bool)/\w'.cell? ⟨w.heap.size+1,2,none⟩=some (.int .i64 y.v.int)/\w'.cell? ⟨w.heap.size+1,3,none⟩=some (.string y.v.str)/\w'.cell? ⟨w.heap.size+1,4,none⟩=some (.int .i64 y.v.id)/\w'.cell? ⟨w.heap.size+1,5,none⟩=some (.slice y.A1 y.v.keys.length y.c1)/\w'.cell? ⟨w.heap.size+1,6,none⟩=some (.slice y.A2 y.v.items.length y.c2)/\w'.cell? ⟨w.heap.size+1,7,none⟩=some (.slice y.A3 y.v.rest.length y.c3)))/\Hid (Below wp.heap.size wp w'))) 15 (by kernel_rfl) ?_ (fun AO=>?_)
   ·(try dsimp only);exact (fun hb=>⟨HC.out _ hb,hb⟩) (zC (Pe _ _) 1)
   refine tC 1 ?_;try simp only[ps]
   refine tB 2 ?_;try simp only[ps]
   refine tC 3 ?_;try simp only[ps]
   refine tC 4 ?_;try simp only[ps]
   refine tB 6 ?_;try simp only[ps]
   refine tC 9 ?_;try simp only[ps]
   refine tB 10 ?_;try simp only[ps]
   refine tC 11 ?_;try simp only[ps]
   refine tC 12 ?_;try simp only[ps]
   refine zV (rs:=[0,7]) (by kernel_rfl) (by simp) ?_
   refine (AJ.cons rfl (fun K hK=>?_) (AJ.cons rfl (fun K hK=>?_) AJ.nil))
   ·
    go_simp
    refine hK.out _ _ ?_ (fun AO=>?_)
    ·(try dsimp only);exact (fun hb=>⟨HC.out _ hb,hb⟩) (zB AO.2.out (zD _ (.cells #[] 28)))
    clear hK K;try simp only[ps]
    refine zV (rs:=[5,7]) (by kernel_rfl) (by simp) ?_
    refine (AJ.cons rfl (fun K hK=>?_) (AJ.cons rfl (fun K hK=>?_) AJ.nil))
    ·
     (have HOW:Hid (Cw _ wp.heap.size _ []):=zh (Cj (wp.drewN 1) rfl (AAH _));have Cy:=zh AO.2.out;refine Ab Af (by rfl) (.tmp 41) (.tmp 45) (by rfl) wp.heap.size _ 0 [] (by rfl) HOW none 0 0 ([]) (by rfl) rfl (fun h=>absurd rfl h) (fun _ h=>by cases h) (by omega) (by omega) AO.2.out.size ?_;intro v5 w5 Hl hg5 hv5;have KF:=zh Hl;have Ap:=zh (Cy.out.grown hg5 Cy.out.size fun q hq=>(World.ownsRow.lt HOW q hq).1);clear Hl hg5 hv5)
     refine hK.out _ _ ?_ (fun AO=>?_)
     ·(try dsimp only);exact ⟨HC.out _ Ap,Ap.out⟩
     clear hK K;try simp only[ps]
     refine tS 7 (fun K hK=>?_)
     go_simp
     refine hK.out _ _ ?_ (fun AO=>?_)
     ·(try dsimp only);exact (fun hb=>⟨HC.out _ hb,hb⟩) (zB Ap (zD _ (.cells (y.cells).toArray 28)))
     clear hK K;try simp only[ps]
     refine tS 8 (fun K hK=>?_)
     (have DR:=zh (World.ownsRow.alloc KF (.cells (y.cells).toArray 28));have Cx:=zh AO.2.out;refine Ab Af (by rfl) (.tmp 46) (.tmp 48) (by rfl) wp.heap.size v5 (0+0) _ (by rfl) DR (some ⟨_,0,none⟩) 1 1 y.cells (by rfl) rfl (fun _=>⟨_,0,rfl,zR w5 y.cells 28⟩) (CG y) (by omega) (by omega) AO.2.out.size ?_;intro v8 w8 CW Bt Ey;have IY:=zh CW;have BK:=zh (Cx.out.grown Bt Cx.out.size fun q hq=>(World.ownsRow.lt DR q hq).1);clear CW Bt Ey)
     refine hK.out _ _ ?_ (fun AO=>?_)
     ·(try dsimp only);exact ⟨HC.out _ BK,BK.out⟩
     clear hK K;try simp only[ps]
     refine tS 13 (fun K hK=>?_)
     (refine Ab Af (by rfl) (.tmp 49) (.tmp 53) (by rfl) wp.heap.size v8 (0+0+1) _ (by rfl) IY none 0 0 ([]) (by rfl) rfl (fun h=>absurd rfl h) (fun _ h=>by cases h) (by omega) (by omega) BK.out.size ?_;intro v13 Zi DI DJ Fv;have DT:=zh (Gq DI);have BF:=zh (BK.out.grown DJ BK.out.size fun q hq=>(World.ownsRow.lt IY q hq).1);clear DI DJ Fv;obtain ⟨fe,c13,rfl,_⟩:=Ad.reads DT)
     refine hK.out _ _ ?_ (fun AO=>?_)
     ·(try dsimp only);exact ⟨HC.out _ BF,BF.out⟩
     clear hK K;try simp only[ps]
     refine tC 14 ?_;try simp only[ps]
     refine zV (rs:=[15]) (by kernel_rfl) (by simp) ?_
     refine AJ.last rfl (by kernel_rfl) (fun K hK=>?_) AJ.nil
     (obtain ⟨⟨_,_⟩,_,_⟩:=IW.c5 (Ji.out.below BF);go_simp)
     refine hK.out _ _ ?_;clear hK K
     (try clear AO)
     try simp only[ps]
     refine wpAny_done (by kernel_rfl) ?_ _
     (go_wp2;go_meet;exact ⟨_,(Ji.out.below BF).Om _,Dr DT NT _ _,fun q h1 h2=>(AAF _ _ _ _ h1).trans (BF.out.block q h2)⟩)
    ·
     go_simp
     refine hK.out _ _ ?_ (fun AO=>?_)
     ·(try dsimp only);exact (fun hb=>⟨HC.out _ hb,hb⟩) (zB AO.2.out (zD _ (.cells (y.cells).toArray 28)))
     clear hK K;try simp only[ps]
     refine tS 5 (fun K hK=>?_)
     (have HOW:Hid (Cw _ wp.heap.size _ []):=zh (Ad.alloc (Cj (wp.drewN 1) rfl (AAH _)) (.cells (y.cells).toArray 28));have Cy:=zh AO.2.out;refine Ab Af (by rfl) (.tmp 41) (.tmp 45) (by rfl) wp.heap.size _ 0 [] (by rfl) HOW none 0 0 ([]) (by rfl) rfl (fun h=>absurd rfl h) (fun _ h=>by cases h) (by omega) (by omega) AO.2.out.size ?_;intro v5 w5 Hl hg5 hv5;have Vm:=zh (Cb hg5 (by intro e0;injection e0 with e0;revert e0;simp) (DF ((wp.drewN 1).alloc (.cells #[] 28)) (p:=wp.heap.size+1) (by simp) y.cells 28));have KF:=zh Hl;have Ap:=zh (Cy.out.grown hg5 Cy.out.size fun q hq=>(World.ownsRow.lt HOW q hq).1);clear Hl hg5 hv5)
     refine hK.out _ _ ?_ (fun AO=>?_)
     ·(try dsimp only);exact ⟨HC.out _ Ap,Ap.out⟩
     clear hK K;try simp only[ps]
     refine tS 8 (fun K hK=>?_)
     (have DR:=zh (KF.out);have Cx:=zh AO.2.out;refine Ab Af (by rfl) (.tmp 46) (.tmp 48) (by rfl) wp.heap.size v5 (0+0) _ (by rfl) DR (some ⟨_,0,none⟩) 1 1 y.cells (by rfl) rfl (fun _=>⟨_,0,rfl,Vm.out⟩) (CG y) (by omega) (by omega) AO.2.out.size ?_;intro v8 w8 CW Bt Ey;have IY:=zh CW;have BK:=zh (Cx.out.grown Bt Cx.out.size fun q hq=>(World.ownsRow.lt DR q hq).1);clear CW Bt Ey)
     refine hK.out _ _ ?_ (fun AO=>?_)
     ·(try dsimp only);exact ⟨HC.out _ BK,BK.out⟩
     clear hK K;try simp only[ps]
     refine tS 13 (fun K hK=>?_)
     (refine Ab Af (by rfl) (.tmp 49) (.tmp 53) (by rfl) wp.heap.size v8 (0+0+1) _ (by rfl) IY none 0 0 ([]) (by rfl) rfl (fun h=>absurd rfl h) (fun _ h=>by cases h) (by omega) (by omega) BK.out.size ?_;intro v13 Zi DI DJ Fv;have DT:=zh (Gq DI);have BF:=zh (BK.out.grown DJ BK.out.size fun q hq=>(World.ownsRow.lt IY q hq).1);clear DI DJ Fv;obtain ⟨fe,c13,rfl,_⟩:=Ad.reads DT)
     refine hK.out _ _ ?_ (fun AO=>?_)
     ·(try dsimp only);exact ⟨HC.out _ BF,BF.out⟩
     clear hK K;try simp only[ps]
     refine tC 14 ?_;try simp only[ps]
     refine zV (rs:=[15]) (by kernel_rfl) (by simp) ?_
     refine AJ.last rfl (by kernel_rfl) (fun K hK=>?_) AJ.nil
     (obtain ⟨⟨_,_⟩,_,_⟩:=IW.c5 (Ji.out.below BF);go_simp)
     refine hK.out _ _ ?_;clear hK K
     (try clear AO)
     try simp only[ps]
     refine wpAny_done (by kernel_rfl) ?_ _
     (go_wp2;go_meet;exact ⟨_,(Ji.out.below BF).Om _,Dr DT NT _ _,fun q h1 h2=>(AAF _ _ _ _ h1).trans (BF.out.block q h2)⟩)
   ·
    go_simp
    refine hK.out _ _ ?_ (fun AO=>?_)
    ·(try dsimp only);exact (fun hb=>⟨HC.out _ hb,hb⟩) (zB AO.2.out (zD _ (.cells (y.cells).toArray 28)))
    clear hK K;try simp only[ps]
    refine tS 0 (fun K hK=>?_)
    go_simp
    refine hK.out _ _ ?_ (fun AO=>?_)
    ·(try dsimp only);exact (fun hb=>⟨HC.out _ hb,hb⟩) (zB AO.2.out (zD _ (.cells #[] 28)))
    clear hK K;try simp only[ps]
    refine tS 5 (fun K hK=>?_)
    (have HOW:Hid (Cw _ wp.heap.size _ []):=zh (Cj ((wp.drewN 1).alloc (.cells (y.cells).toArray 28)) (p:=wp.heap.size+1) (by simp) (by omega));have Cy:=zh AO.2.out;refine Ab Af (by rfl) (.tmp 41) (.tmp 45) (by rfl) wp.heap.size _ 0 [] (by rfl) HOW none 0 0 ([]) (by rfl) rfl (fun h=>absurd rfl h) (fun _ h=>by cases h) (by omega) (by omega) AO.2.out.size ?_;intro v5 w5 Hl hg5 hv5;have Vm:=zh (Cb hg5 (by intro e0;injection e0 with e0;revert e0;simp) (BU (zD _ _) (DF (wp.drewN 1) (p:=wp.heap.size) rfl y.cells 28)));have KF:=zh Hl;have Ap:=zh (Cy.out.grown hg5 Cy.out.size fun q hq=>(World.ownsRow.lt HOW q hq).1);clear Hl hg5 hv5)
    refine hK.out _ _ ?_ (fun AO=>?_)
    ·(try dsimp only);exact ⟨HC.out _ Ap,Ap.out⟩
    clear hK K;try simp only[ps]
    refine tS 8 (fun K hK=>?_)
    (have DR:=zh (KF.out);have Cx:=zh AO.2.out;refine Ab Af (by rfl) (.tmp 46) (.tmp 48) (by rfl) wp.heap.size v5 (0+0) _ (by rfl) DR (some ⟨_,0,none⟩) 1 1 y.cells (by rfl) rfl (fun _=>⟨_,0,rfl,Vm.out⟩) (CG y) (by omega) (by omega) AO.2.out.size ?_;intro v8 w8 CW Bt Ey;have IY:=zh CW;have BK:=zh (Cx.out.grown Bt Cx.out.size fun q hq=>(World.ownsRow.lt DR q hq).1);clear CW Bt Ey)
    refine hK.out _ _ ?_ (fun AO=>?_)
    ·(try dsimp only);exact ⟨HC.out _ BK,BK.out⟩
    clear hK K;try simp only[ps]
    refine tS 13 (fun K hK=>?_)
    (refine Ab Af (by rfl) (.tmp 49) (.tmp 53) (by rfl) wp.heap.size v8 (0+0+1) _ (by rfl) IY none 0 0 ([]) (by rfl) rfl (fun h=>absurd rfl h) (fun _ h=>by cases h) (by omega) (by omega) BK.out.size ?_;intro v13 Zi DI DJ Fv;have DT:=zh (Gq DI);have BF:=zh (BK.out.grown DJ BK.out.size fun q hq=>(World.ownsRow.lt IY q hq).1);clear DI DJ Fv;obtain ⟨fe,c13,rfl,_⟩:=Ad.reads DT)
    refine hK.out _ _ ?_ (fun AO=>?_)
    ·(try dsimp only);exact ⟨HC.out _ BF,BF.out⟩
    clear hK K;try simp only[ps]
    refine tC 14 ?_;try simp only[ps]
    refine zV (rs:=[15]) (by kernel_rfl) (by simp) ?_
    refine AJ.last rfl (by kernel_rfl) (fun K hK=>?_) AJ.nil
    (obtain ⟨⟨_,_⟩,_,_⟩:=IW.c5 (Ji.out.below BF);go_simp)
    refine hK.out _ _ ?_;clear hK K
    (try clear AO)
    try simp only[ps]
    refine wpAny_done (by kernel_rfl) ?_ _
    (go_wp2;go_meet;exact ⟨_,(Ji.out.below BF).Om _,Dr DT NT _ _,fun q h1 h2=>(AAF _ _ _ _ h1).trans (BF.out.block q h2)⟩)
  ·
   obtain ⟨g,rfl,hsg⟩:∃g,A=some ⟨g,0,none⟩/\∀i m,i+m<=KL.length->m≠0->w.rangeAt g (0+i * 8) (((KL.drop i).take m).flatMap Au.cells):=by
    obtain ⟨_,_,e1,-,-,hseg⟩:=Lj sJ
    injection e1 with e1 _ e2
    subst e1 e2;obtain ⟨g,hg,_⟩:=hseg 0 1 (by have:=fH.out pF;omega) (by omega)
    refine ⟨g,hg,fun i m h1 h2=>?_⟩
    obtain ⟨g',hg',hr⟩:=hseg i m h1 h2;rw[hg] at hg'
    injection hg' with hg'
    injection hg' with hg' _
    subst hg';exact hr
   have HC:Hid (∀w',Below wp.heap.size wp w'->(w'.cell? ⟨w.heap.size,5,none⟩=some (.slice (some ⟨g,0,none⟩) KL.length cK)/\(w'.cell? ⟨w.heap.size+1,0,none⟩=some (.int .i64 y.v.kind)/\w'.cell? ⟨w.heap.size+1,1,none⟩=some (.bool y.v.bool)/\w'.cell? ⟨w.heap.size+1,2,none⟩=some (.int .i64 y.v.int)/\w'.cell? ⟨w.heap.size+1,3,none⟩=some (.string y.v.str)/\w'.cell? ⟨w.heap.size+1,4,none⟩=some (.int .i64 y.v.id)/\w'.cell? ⟨w.heap.size+1,5,none⟩=some (.slice y.A1 y.v.keys.length y.c1)/\w'.cell? ⟨w.heap.size+1,6,none⟩=some (.slice y.A2 y.v.items.length y.c2)/\w'.cell? ⟨w.heap.size+1,7,none⟩=some (.slice y.A3 y.v.rest.length y.c3)))):=fun w' hb=>⟨(UX.out.below hb).reads.1.1,(UX.out.below hb).reads.2.1⟩
   have lT:Hid (∀u,Below wp.heap.size wp u->∀i m,i+m<=KL.length->m≠0->u.rangeAt g (0+i * 8) (((KL.drop i).take m).flatMap Au.cells)):=fun u hb i m h1 h2=>BU (UX.out.below hb).be (hsg i m h1 h2)
   have qm:Hid (((KL.take k).flatMap Au.cells).length=k * 8):=by show _=_;rw[G8,List.length_take,Nat.min_eq_left MO.out]
   have qp:Hid (((KL.drop k).flatMap Au.cells).length=(KL.length - k) * 8):=by show _=_;rw[G8,AA1]
   have KR:=zh (G7 (KL.take k));have qd:=zh (G7 (KL.drop k));have GH:Hid (∀u,Below wp.heap.size wp u->KL.length - k≠0->∃b o,(if cK=k then some (⟨g,0,none⟩:Addr) else some ⟨g,k * 8,none⟩)=some ⟨b,o,none⟩/\u.rangeAt b o ((KL.drop k).flatMap Au.cells)):=fun u hb hm=>⟨g,0+k * 8,by rw[Pd (by have:=D7.out;omega),Nat.zero_add],by
    have:=lT.out u hb k (KL.length - k) (by have:=MO.out;omega) hm
    rwa [List.take_of_length_le (by rw[AA1];exact AAH _)] at this⟩
   have h1:(0:Int)<=(k:Int):=by omega
   have h2:(k:Int)<=(KL.length:Int):=by have:=MO.out;omega
   have h3:(k:Int)<=(cK:Int):=by have:=MO.out;have:=D7.out;omega
   have o6:KL.length<=100:=NV.out;have zm:k<=KL.length:=MO.out;clear hsg hk
   refine yE (S:=(fun w'=>(w'.cell? ⟨w.heap.size,5,none⟩=some (.slice (some ⟨g,0,none⟩) KL.length cK)/\(w'.cell? ⟨w.heap.size+1,0,none⟩=some (.int .i64 y.v.kind)/\w'.cell? ⟨w.heap.size+1,1,none⟩=some (.bool y.v.bool)/\w'.cell? ⟨w.heap.size+1,2,none⟩=some (.int .i64 y.v.int)/\w'.cell? ⟨w.heap.size+1,3,none⟩=some (.string y.v.str)/\w'.cell? ⟨w.heap.size+1,4,none⟩=some (.int .i64 y.v.id)/\w'.cell? ⟨w.heap.size+1,5,none⟩=some (.slice y.A1 y.v.keys.length y.c1)/\w'.cell? ⟨w.heap.size+1,6,none⟩=some (.slice y.A2 y.v.items.length y.c2)/\w'.cell? ⟨w.heap.size+1,7,none⟩=some (.slice y.A3 y.v.rest.length y.c3)))/\Hid (Below wp.heap.size wp w'))) 15 (by kernel_rfl) ?_ (fun AO=>?_)
   ·(try dsimp only);exact (fun hb=>⟨HC.out _ hb,hb⟩) (zC (Pe _ _) 1)
   refine tC 1 ?_;try simp only[ps]
   refine tB 2 ?_;try simp only[ps]
   refine tC 3 ?_;try simp only[ps]
   refine tC 4 ?_;try simp only[ps]
   refine tB 6 ?_;try simp only[ps]
   refine tC 9 ?_;try simp only[ps]
   refine tB 10 ?_;try simp only[ps]
   refine tC 11 ?_;try simp only[ps]
   refine tC 12 ?_;try simp only[ps]
   refine zV (rs:=[0,7]) (by kernel_rfl) (by simp) ?_
   refine (AJ.cons rfl (fun K hK=>?_) (AJ.cons rfl (fun K hK=>?_) AJ.nil))
   ·
    go_simp
    refine hK.out _ _ ?_ (fun AO=>?_)
    ·(try dsimp only);exact (fun hb=>⟨HC.out _ hb,hb⟩) (zB AO.2.out (zD _ (.cells #[] 28)))
    clear hK K;try simp only[ps]
    refine zV (rs:=[5,7]) (by kernel_rfl) (by simp) ?_
    refine (AJ.cons rfl (fun K hK=>?_) (AJ.cons rfl (fun K hK=>?_) AJ.nil))
    ·
     (have HOW:Hid (Cw _ wp.heap.size _ []):=zh (Cj (wp.drewN 1) rfl (AAH _));have Cy:=zh AO.2.out;refine Ab Af (by rfl) (.tmp 41) (.tmp 45) (by rfl) wp.heap.size _ 0 [] (by rfl) HOW (some ⟨g,0,none⟩) k cK ((KL.take k).flatMap Au.cells) (by rfl) qm (fun hm=>⟨g,0,rfl,lT.out _ Cy 0 k (by omega) hm⟩) KR (by omega) (by omega) AO.2.out.size ?_;intro v5 w5 Hl hg5 hv5;have KF:=zh Hl;have Ap:=zh (Cy.out.grown hg5 Cy.out.size fun q hq=>(World.ownsRow.lt HOW q hq).1);clear Hl hg5 hv5)
     refine hK.out _ _ ?_ (fun AO=>?_)
     ·(try dsimp only);exact ⟨HC.out _ Ap,Ap.out⟩
     clear hK K;try simp only[ps]
     refine tS 7 (fun K hK=>?_)
     go_simp
     refine hK.out _ _ ?_ (fun AO=>?_)
     ·(try dsimp only);exact (fun hb=>⟨HC.out _ hb,hb⟩) (zB Ap (zD _ (.cells (y.cells).toArray 28)))
     clear hK K;try simp only[ps]
     refine tS 8 (fun K hK=>?_)
     (have DR:=zh (World.ownsRow.alloc KF (.cells (y.cells).toArray 28));have Cx:=zh AO.2.out;refine Ab Af (by rfl) (.tmp 46) (.tmp 48) (by rfl) wp.heap.size v5 (0+k) _ (by rfl) DR (some ⟨_,0,none⟩) 1 1 y.cells (by rfl) rfl (fun _=>⟨_,0,rfl,zR w5 y.cells 28⟩) (CG y) (by omega) (by omega) AO.2.out.size ?_;intro v8 w8 CW Bt Ey;have IY:=zh CW;have BK:=zh (Cx.out.grown Bt Cx.out.size fun q hq=>(World.ownsRow.lt DR q hq).1);clear CW Bt Ey)
     refine hK.out _ _ ?_ (fun AO=>?_)
     ·(try dsimp only);exact ⟨HC.out _ BK,BK.out⟩
     clear hK K;try simp only[ps]
     refine tS 13 (fun K hK=>?_)
     (refine Ab Af (by rfl) (.tmp 49) (.tmp 53) (by rfl) wp.heap.size v8 (0+k+1) _ (by rfl) IY _ (KL.length - k) _ ((KL.drop k).flatMap Au.cells) (by rfl) qp (fun hm=>GH.out _ BK hm) qd (by omega) (by omega) BK.out.size ?_;intro v13 Zi DI DJ Fv;have DT:=zh (JS MO DI);have BF:=zh (BK.out.grown DJ BK.out.size fun q hq=>(World.ownsRow.lt IY q hq).1);clear DI DJ Fv;obtain ⟨fe,c13,rfl,_⟩:=Ad.reads DT)
     refine hK.out _ _ ?_ (fun AO=>?_)
     ·(try dsimp only);exact ⟨HC.out _ BF,BF.out⟩
     clear hK K;try simp only[ps]
     refine tC 14 ?_;try simp only[ps]
     refine zV (rs:=[15]) (by kernel_rfl) (by simp) ?_
     refine AJ.last rfl (by kernel_rfl) (fun K hK=>?_) AJ.nil
     (obtain ⟨⟨_,_⟩,_,_⟩:=IW.c5 (Ji.out.below BF);go_simp)
     refine hK.out _ _ ?_;clear hK K
     (try clear AO)
     try simp only[ps]
     refine wpAny_done (by kernel_rfl) ?_ _
     (generalize (if cK=k then some (⟨g,0,none⟩:Addr) else some ⟨g,k * 8,none⟩)=wW at *;go_wp2;go_meet;exact ⟨_,(Ji.out.below BF).Om _,(by rw[show k+(KL.length - k+1)=(KL.take k++[y]++KL.drop k).length by have:=MO.out;simp;omega];exact Dr DT NT _ _),fun q h1 h2=>(AAF _ _ _ _ h1).trans (BF.out.block q h2)⟩)
    ·
     go_simp
     refine hK.out _ _ ?_ (fun AO=>?_)
     ·(try dsimp only);exact (fun hb=>⟨HC.out _ hb,hb⟩) (zB AO.2.out (zD _ (.cells (y.cells).toArray 28)))
     clear hK K;try simp only[ps]
     refine tS 5 (fun K hK=>?_)
     (have HOW:Hid (Cw _ wp.heap.size _ []):=zh (Ad.alloc (Cj (wp.drewN 1) rfl (AAH _)) (.cells (y.cells).toArray 28));have Cy:=zh AO.2.out;refine Ab Af (by rfl) (.tmp 41) (.tmp 45) (by rfl) wp.heap.size _ 0 [] (by rfl) HOW (some ⟨g,0,none⟩) k cK ((KL.take k).flatMap Au.cells) (by rfl) qm (fun hm=>⟨g,0,rfl,lT.out _ Cy 0 k (by omega) hm⟩) KR (by omega) (by omega) AO.2.out.size ?_;intro v5 w5 Hl hg5 hv5;have Vm:=zh (Cb hg5 (by intro e0;injection e0 with e0;revert e0;simp) (DF ((wp.drewN 1).alloc (.cells #[] 28)) (p:=wp.heap.size+1) (by simp) y.cells 28));have KF:=zh Hl;have Ap:=zh (Cy.out.grown hg5 Cy.out.size fun q hq=>(World.ownsRow.lt HOW q hq).1);clear Hl hg5 hv5)
     refine hK.out _ _ ?_ (fun AO=>?_)
     ·(try dsimp only);exact ⟨HC.out _ Ap,Ap.out⟩
     clear hK K;try simp only[ps]
     refine tS 8 (fun K hK=>?_)
     (have DR:=zh (KF.out);have Cx:=zh AO.2.out;refine Ab Af (by rfl) (.tmp 46) (.tmp 48) (by rfl) wp.heap.size v5 (0+k) _ (by rfl) DR (some ⟨_,0,none⟩) 1 1 y.cells (by rfl) rfl (fun _=>⟨_,0,rfl,Vm.out⟩) (CG y) (by omega) (by omega) AO.2.out.size ?_;intro v8 w8 CW Bt Ey;have IY:=zh CW;have BK:=zh (Cx.out.grown Bt Cx.out.size fun q hq=>(World.ownsRow.lt DR q hq).1);clear CW Bt Ey)
     refine hK.out _ _ ?_ (fun AO=>?_)
     ·(try dsimp only);exact ⟨HC.out _ BK,BK.out⟩
     clear hK K;try simp only[ps]
     refine tS 13 (fun K hK=>?_)
     (refine Ab Af (by rfl) (.tmp 49) (.tmp 53) (by rfl) wp.heap.size v8 (0+k+1) _ (by rfl) IY _ (KL.length - k) _ ((KL.drop k).flatMap Au.cells) (by rfl) qp (fun hm=>GH.out _ BK hm) qd (by omega) (by omega) BK.out.size ?_;intro v13 Zi DI DJ Fv;have DT:=zh (JS MO DI);have BF:=zh (BK.out.grown DJ BK.out.size fun q hq=>(World.ownsRow.lt IY q hq).1);clear DI DJ Fv;obtain ⟨fe,c13,rfl,_⟩:=Ad.reads DT)
     refine hK.out _ _ ?_ (fun AO=>?_)
     ·(try dsimp only);exact ⟨HC.out _ BF,BF.out⟩
     clear hK K;try simp only[ps]
     refine tC 14 ?_;try simp only[ps]
     refine zV (rs:=[15]) (by kernel_rfl) (by simp) ?_
     refine AJ.last rfl (by kernel_rfl) (fun K hK=>?_) AJ.nil
     (obtain ⟨⟨_,_⟩,_,_⟩:=IW.c5 (Ji.out.below BF);go_simp)
     refine hK.out _ _ ?_;clear hK K
     (try clear AO)
     try simp only[ps]
     refine wpAny_done (by kernel_rfl) ?_ _
     (generalize (if cK=k then some (⟨g,0,none⟩:Addr) else some ⟨g,k * 8,none⟩)=wW at *;go_wp2;go_meet;exact ⟨_,(Ji.out.below BF).Om _,(by rw[show k+(KL.length - k+1)=(KL.take k++[y]++KL.drop k).length by have:=MO.out;simp;omega];exact Dr DT NT _ _),fun q h1 h2=>(AAF _ _ _ _ h1).trans (BF.out.block q h2)⟩)
   ·
    go_simp
    refine hK.out _ _ ?_ (fun AO=>?_)
    ·(try dsimp only);exact (fun hb=>⟨HC.out _ hb,hb⟩) (zB AO.2.out (zD _ (.cells (y.cells).toArray 28)))
    clear hK K;try simp only[ps]
    refine tS 0 (fun K hK=>?_)
    go_simp
    refine hK.out _ _ ?_ (fun AO=>?_)
    ·(try dsimp only);exact (fun hb=>⟨HC.out _ hb,hb⟩) (zB AO.2.out (zD _ (.cells #[] 28)))
    clear hK K;try simp only[ps]
    refine tS 5 (fun K hK=>?_)
    (have HOW:Hid (Cw _ wp.heap.size _ []):=zh (Cj ((wp.drewN 1).alloc (.cells (y.cells).toArray 28)) (p:=wp.heap.size+1) (by simp) (by omega));have Cy:=zh AO.2.out;refine Ab Af (by rfl) (.tmp 41) (.tmp 45) (by rfl) wp.heap.size _ 0 [] (by rfl) HOW (some ⟨g,0,none⟩) k cK ((KL.take k).flatMap Au.cells) (by rfl) qm (fun hm=>⟨g,0,rfl,lT.out _ Cy 0 k (by omega) hm⟩) KR (by omega) (by omega) AO.2.out.size ?_;intro v5 w5 Hl hg5 hv5;have Vm:=zh (Cb hg5 (by intro e0;injection e0 with e0;revert e0;simp) (BU (zD _ _) (DF (wp.drewN 1) (p:=wp.heap.size) rfl y.cells 28)));have KF:=zh Hl;have Ap:=zh (Cy.out.grown hg5 Cy.out.size fun q hq=>(World.ownsRow.lt HOW q hq).1);clear Hl hg5 hv5)
    refine hK.out _ _ ?_ (fun AO=>?_)
    ·(try dsimp only);exact ⟨HC.out _ Ap,Ap.out⟩
    clear hK K;try simp only[ps]
    refine tS 8 (fun K hK=>?_)
    (have DR:=zh (KF.out);have Cx:=zh AO.2.out;refine Ab Af (by rfl) (.tmp 46) (.tmp 48) (by rfl) wp.heap.size v5 (0+k) _ (by rfl) DR (some ⟨_,0,none⟩) 1 1 y.cells (by rfl) rfl (fun _=>⟨_,0,rfl,Vm.out⟩) (CG y) (by omega) (by omega) AO.2.out.size ?_;intro v8 w8 CW Bt Ey;have IY:=zh CW;have BK:=zh (Cx.out.grown Bt Cx.out.size fun q hq=>(World.ownsRow.lt DR q hq).1);clear CW Bt Ey)
    refine hK.out _ _ ?_ (fun AO=>?_)
    ·(try dsimp only);exact ⟨HC.out _ BK,BK.out⟩
    clear hK K;try simp only[ps]
    refine tS 13 (fun K hK=>?_)
    (refine Ab Af (by rfl) (.tmp 49) (.tmp 53) (by rfl) wp.heap.size v8 (0+k+1) _ (by rfl) IY _ (KL.length - k) _ ((KL.drop k).flatMap Au.cells) (by rfl) qp (fun hm=>GH.out _ BK hm) qd (by omega) (by omega) BK.out.size ?_;intro v13 Zi DI DJ Fv;have DT:=zh (JS MO DI);have BF:=zh (BK.out.grown DJ BK.out.size fun q hq=>(World.ownsRow.lt IY q hq).1);clear DI DJ Fv;obtain ⟨fe,c13,rfl,_⟩:=Ad.reads DT)
    refine hK.out _ _ ?_ (fun AO=>?_)
    ·(try dsimp only);exact ⟨HC.out _ BF,BF.out⟩
    clear hK K;try simp only[ps]
    refine tC 14 ?_;try simp only[ps]
    refine zV (rs:=[15]) (by kernel_rfl) (by simp) ?_
    refine AJ.last rfl (by kernel_rfl) (fun K hK=>?_) AJ.nil
    (obtain ⟨⟨_,_⟩,_,_⟩:=IW.c5 (Ji.out.below BF);go_simp)
    refine hK.out _ _ ?_;clear hK K
    (try clear AO)
    try simp only[ps]
    refine wpAny_done (by kernel_rfl) ?_ _
    (generalize (if cK=k then some (⟨g,0,none⟩:Addr) else some ⟨g,k * 8,none⟩)=wW at *;go_wp2;go_meet;exact ⟨_,(Ji.out.below BF).Om _,(by rw[show k+(KL.length - k+1)=(KL.take k++[y]++KL.drop k).length by have:=MO.out;simp;omega];exact Dr DT NT _ _),fun q h1 h2=>(AAF _ _ _ _ h1).trans (BF.out.block q h2)⟩)
 case rest =>
 obtain ⟨v9,hps,hov,hoth⟩:=hcut;obtain ⟨wd,rfl⟩:∃wd:World,wd=wc:=⟨_,rfl⟩;have ZX:=zh hps;have xZ:=zh hov;obtain ⟨A9,n9,c9,rfl⟩:=JV hov;clear hps hov hoth NT Ji MO D7 NV fH UX;have NT:Hid (w.heap.size<wd.heap.size):=(zg.1 ZX.out.bv).1;have Ji:Hid (IW w (.slice A9 n9 c9) (.slice B IL.length cI) y z wd):=ZX.out;have MO:Hid (k<=IL.length):=by show _<=_;rw[R4.out];exact hk
 have D7:=zh hcI;have NV:Hid (IL.length<=100):=by show _<=_;rw[R4.out];exact hln
 have fH:Hid (¬ KL=[]->0<IL.length):=fun h=>by rw[R4.out];exact List.length_pos_iff.2 h
 go_upto_region 7 with fail
 go_cut [] (fun wx=>∃v9:Value,IW w (.slice A9 n9 c9) v9 y z wx/\Cw wx wd.heap.size v9 (IL.take k++[z]++IL.drop k)/\∀q,q≠w.heap.size->q<wd.heap.size->wx.heap[q]? = wd.heap[q]?)
 case first =>
  by_cases pF:KL=[]
  ·
   obtain ⟨hn1,hn2⟩:=xV.out pF;subst pF;obtain rfl:IL=[]:=AAf R4;obtain rfl:k=0:=Nat.le_zero.1 MO;obtain ⟨hA,hc⟩:A=none/\cK=0:=by injection hn1 with g1 _ g2;exact ⟨g1,g2⟩
   obtain ⟨hA2,hc2⟩:B=none/\cI=0:=by injection hn2 with g1 _ g2;exact ⟨g1,g2⟩
   subst hA hc hA2 hc2
   have HC:Hid (∀w',Below wd.heap.size wd w'->(w'.cell? ⟨w.heap.size,6,none⟩=some (.slice none 0 0)/\(w'.cell? ⟨w.heap.size+2,0,none⟩=some (.int .i64 z.v.kind)/\w'.cell? ⟨w.heap.size+2,1,none⟩=some (.bool z.v.bool)/\w'.cell? ⟨w.heap.size+2,2,none⟩=some (.int .i64 z.v.int)/\w'.cell? ⟨w.heap.size+2,3,none⟩=some (.string z.v.str)/\w'.cell? ⟨w.heap.size+2,4,none⟩=some (.int .i64 z.v.id)/\w'.cell? ⟨w.heap.size+2,5,none⟩=some (.slice z.A1 z.v.keys.length z.c1)/\w'.cell? ⟨w.heap.size+2,6,none⟩=some (.slice z.A2 z.v.items.length z.c2)/\w'.cell? ⟨w.heap.size+2,7,none⟩=some (.slice z.A3 z.v.rest.length z.c3)))):=fun w' hb=>⟨(ZX.out.below hb).reads.1.2,(ZX.out.below hb).reads.2.2⟩
   clear hn1 hn2 hln hk hcK hcI
   refine yE (S:=(fun w'=>(w'.cell? ⟨w.heap.size,6,none⟩=some (.slice none 0 0)/\(w'.cell? ⟨w.heap.size+2,0,none⟩=some (.int .i64 z.v.kind)/\w'.cell? ⟨w.heap.size+2,1,none⟩=some (.bool z.v.bool)/\w'.cell? ⟨w.heap.size+2,2,none⟩=some (.int .i64 z.v.int)/\w'.cell? ⟨w.heap.size+2,3,none⟩=some (.string z.v.str)/\w'.cell? ⟨w.heap.size+2,4,none⟩=some (.int .i64 z.v.id)/\w'.cell? ⟨w.heap.size+2,5,none⟩=some (.slice z.A1 z.v.keys.length z.c1)/\w'.cell? ⟨w.heap.size+2,6,none⟩=some (.slice z.A2 z.v.items.length z.c2)/\w'.cell? ⟨w.heap.size+2,7,none⟩=some (.slice z.A3 z.v.rest.length z.c3)))/\Hid (Below wd.heap.size wd w'))) 15 (by kernel_rfl) ?_ (fun AO=>?_)
   ·(try dsimp only);exact (fun hb=>⟨HC.out _ hb,hb⟩) (zC (Pe _ _) 1)
   refine tC 1 ?_;try simp only[ps]
   refine tB 2 ?_;try simp only[ps]
   refine tC 3 ?_;try simp only[ps]
   refine tC 4 ?_;try simp only[ps]
   refine tB 6 ?_;try simp only[ps]
   refine tC 9 ?_;try simp only[ps]
   refine tB 10 ?_;try simp only[ps]
   refine tC 11 ?_;try simp only[ps]
   refine tC 12 ?_;try simp only[ps]
   refine zV (rs:=[0,7]) (by kernel_rfl) (by simp) ?_
   refine (AJ.cons rfl (fun K hK=>?_) (AJ.cons rfl (fun K hK=>?_) AJ.nil))
   ·
    go_simp
    refine hK.out _ _ ?_ (fun AO=>?_)
    ·(try dsimp only);exact (fun hb=>⟨HC.out _ hb,hb⟩) (zB AO.2.out (zD _ (.cells #[] 28)))
    clear hK K;try simp only[ps]
    refine zV (rs:=[5,7]) (by kernel_rfl) (by simp) ?_
    refine (AJ.cons rfl (fun K hK=>?_) (AJ.cons rfl (fun K hK=>?_) AJ.nil))
    ·
     (have HOW:Hid (Cw _ wd.heap.size _ []):=zh (Cj (wd.drewN 1) rfl (AAH _));have Cy:=zh AO.2.out;refine Ab Af (by rfl) (.tmp 56) (.tmp 60) (by rfl) wd.heap.size _ 0 [] (by rfl) HOW none 0 0 ([]) (by rfl) rfl (fun h=>absurd rfl h) (fun _ h=>by cases h) (by omega) (by omega) AO.2.out.size ?_;intro v5 w5 Hl hg5 hv5;have KF:=zh Hl;have Ap:=zh (Cy.out.grown hg5 Cy.out.size fun q hq=>(World.ownsRow.lt HOW q hq).1);clear Hl hg5 hv5)
     refine hK.out _ _ ?_ (fun AO=>?_)
     ·(try dsimp only);exact ⟨HC.out _ Ap,Ap.out⟩
     clear hK K;try simp only[ps]
     refine tS 7 (fun K hK=>?_)
     go_simp
     refine hK.out _ _ ?_ (fun AO=>?_)
     ·(try dsimp only);exact (fun hb=>⟨HC.out _ hb,hb⟩) (zB Ap (zD _ (.cells (z.cells).toArray 28)))
     clear hK K;try simp only[ps]
     refine tS 8 (fun K hK=>?_)
     (have DR:=zh (World.ownsRow.alloc KF (.cells (z.cells).toArray 28));have Cx:=zh AO.2.out;refine Ab Af (by rfl) (.tmp 61) (.tmp 63) (by rfl) wd.heap.size v5 (0+0) _ (by rfl) DR (some ⟨_,0,none⟩) 1 1 z.cells (by rfl) rfl (fun _=>⟨_,0,rfl,zR w5 z.cells 28⟩) (CG z) (by omega) (by omega) AO.2.out.size ?_;intro v8 w8 CW Bt Ey;have IY:=zh CW;have BK:=zh (Cx.out.grown Bt Cx.out.size fun q hq=>(World.ownsRow.lt DR q hq).1);clear CW Bt Ey)
     refine hK.out _ _ ?_ (fun AO=>?_)
     ·(try dsimp only);exact ⟨HC.out _ BK,BK.out⟩
     clear hK K;try simp only[ps]
     refine tS 13 (fun K hK=>?_)
     (refine Ab Af (by rfl) (.tmp 64) (.tmp 68) (by rfl) wd.heap.size v8 (0+0+1) _ (by rfl) IY none 0 0 ([]) (by rfl) rfl (fun h=>absurd rfl h) (fun _ h=>by cases h) (by omega) (by omega) BK.out.size ?_;intro v13 Zi DI DJ Fv;have DT:=zh (Gq DI);have BF:=zh (BK.out.grown DJ BK.out.size fun q hq=>(World.ownsRow.lt IY q hq).1);clear DI DJ Fv;obtain ⟨fe,c13,rfl,_⟩:=Ad.reads DT)
     refine hK.out _ _ ?_ (fun AO=>?_)
     ·(try dsimp only);exact ⟨HC.out _ BF,BF.out⟩
     clear hK K;try simp only[ps]
     refine tC 14 ?_;try simp only[ps]
     refine zV (rs:=[15]) (by kernel_rfl) (by simp) ?_
     refine AJ.last rfl (by kernel_rfl) (fun K hK=>?_) AJ.nil
     (obtain ⟨⟨_,_⟩,_,_⟩:=IW.c5 (Ji.out.below BF);go_simp)
     refine hK.out _ _ ?_;clear hK K
     (try clear AO)
     try simp only[ps]
     refine wpAny_done (by kernel_rfl) ?_ _
     (go_wp2;go_meet;exact ⟨_,(Ji.out.below BF).Xt _,Dr DT NT _ _,fun q h1 h2=>(AAF _ _ _ _ h1).trans (BF.out.block q h2)⟩)
    ·
     go_simp
     refine hK.out _ _ ?_ (fun AO=>?_)
     ·(try dsimp only);exact (fun hb=>⟨HC.out _ hb,hb⟩) (zB AO.2.out (zD _ (.cells (z.cells).toArray 28)))
     clear hK K;try simp only[ps]
     refine tS 5 (fun K hK=>?_)
     (have HOW:Hid (Cw _ wd.heap.size _ []):=zh (Ad.alloc (Cj (wd.drewN 1) rfl (AAH _)) (.cells (z.cells).toArray 28));have Cy:=zh AO.2.out;refine Ab Af (by rfl) (.tmp 56) (.tmp 60) (by rfl) wd.heap.size _ 0 [] (by rfl) HOW none 0 0 ([]) (by rfl) rfl (fun h=>absurd rfl h) (fun _ h=>by cases h) (by omega) (by omega) AO.2.out.size ?_;intro v5 w5 Hl hg5 hv5;have Vm:=zh (Cb hg5 (by intro e0;injection e0 with e0;revert e0;simp) (DF ((wd.drewN 1).alloc (.cells #[] 28)) (p:=wd.heap.size+1) (by simp) z.cells 28));have KF:=zh Hl;have Ap:=zh (Cy.out.grown hg5 Cy.out.size fun q hq=>(World.ownsRow.lt HOW q hq).1);clear Hl hg5 hv5)
     refine hK.out _ _ ?_ (fun AO=>?_)
     ·(try dsimp only);exact ⟨HC.out _ Ap,Ap.out⟩
     clear hK K;try simp only[ps]
     refine tS 8 (fun K hK=>?_)
     (have DR:=zh (KF.out);have Cx:=zh AO.2.out;refine Ab Af (by rfl) (.tmp 61) (.tmp 63) (by rfl) wd.heap.size v5 (0+0) _ (by rfl) DR (some ⟨_,0,none⟩) 1 1 z.cells (by rfl) rfl (fun _=>⟨_,0,rfl,Vm.out⟩) (CG z) (by omega) (by omega) AO.2.out.size ?_;intro v8 w8 CW Bt Ey;have IY:=zh CW;have BK:=zh (Cx.out.grown Bt Cx.out.size fun q hq=>(World.ownsRow.lt DR q hq).1);clear CW Bt Ey)
     refine hK.out _ _ ?_ (fun AO=>?_)
     ·(try dsimp only);exact ⟨HC.out _ BK,BK.out⟩
     clear hK K;try simp only[ps]
     refine tS 13 (fun K hK=>?_)
     (refine Ab Af (by rfl) (.tmp 64) (.tmp 68) (by rfl) wd.heap.size v8 (0+0+1) _ (by rfl) IY none 0 0 ([]) (by rfl) rfl (fun h=>absurd rfl h) (fun _ h=>by cases h) (by omega) (by omega) BK.out.size ?_;intro v13 Zi DI DJ Fv;have DT:=zh (Gq DI);have BF:=zh (BK.out.grown DJ BK.out.size fun q hq=>(World.ownsRow.lt IY q hq).1);clear DI DJ Fv;obtain ⟨fe,c13,rfl,_⟩:=Ad.reads DT)
     refine hK.out _ _ ?_ (fun AO=>?_)
     ·(try dsimp only);exact ⟨HC.out _ BF,BF.out⟩
     clear hK K;try simp only[ps]
     refine tC 14 ?_;try simp only[ps]
     refine zV (rs:=[15]) (by kernel_rfl) (by simp) ?_
     refine AJ.last rfl (by kernel_rfl) (fun K hK=>?_) AJ.nil
     (obtain ⟨⟨_,_⟩,_,_⟩:=IW.c5 (Ji.out.below BF);go_simp)
     refine hK.out _ _ ?_;clear hK K
     (try clear AO)
     try simp only[ps]
     refine wpAny_done (by kernel_rfl) ?_ _
     (go_wp2;go_meet;exact ⟨_,(Ji.out.below BF).Xt _,Dr DT NT _ _,fun q h1 h2=>(AAF _ _ _ _ h1).trans (BF.out.block q h2)⟩)
   ·
    go_simp
    refine hK.out _ _ ?_ (fun AO=>?_)
    ·(try dsimp only);exact (fun hb=>⟨HC.out _ hb,hb⟩) (zB AO.2.out (zD _ (.cells (z.cells).toArray 28)))
    clear hK K;try simp only[ps]
    refine tS 0 (fun K hK=>?_)
    go_simp
    refine hK.out _ _ ?_ (fun AO=>?_)
    ·(try dsimp only);exact (fun hb=>⟨HC.out _ hb,hb⟩) (zB AO.2.out (zD _ (.cells #[] 28)))
    clear hK K;try simp only[ps]
    refine tS 5 (fun K hK=>?_)
    (have HOW:Hid (Cw _ wd.heap.size _ []):=zh (Cj ((wd.drewN 1).alloc (.cells (z.cells).toArray 28)) (p:=wd.heap.size+1) (by simp) (by omega));have Cy:=zh AO.2.out;refine Ab Af (by rfl) (.tmp 56) (.tmp 60) (by rfl) wd.heap.size _ 0 [] (by rfl) HOW none 0 0 ([]) (by rfl) rfl (fun h=>absurd rfl h) (fun _ h=>by cases h) (by omega) (by omega) AO.2.out.size ?_;intro v5 w5 Hl hg5 hv5;have Vm:=zh (Cb hg5 (by intro e0;injection e0 with e0;revert e0;simp) (BU (zD _ _) (DF (wd.drewN 1) (p:=wd.heap.size) rfl z.cells 28)));have KF:=zh Hl;have Ap:=zh (Cy.out.grown hg5 Cy.out.size fun q hq=>(World.ownsRow.lt HOW q hq).1);clear Hl hg5 hv5)
    refine hK.out _ _ ?_ (fun AO=>?_)
    ·(try dsimp only);exact ⟨HC.out _ Ap,Ap.out⟩
    clear hK K;try simp only[ps]
    refine tS 8 (fun K hK=>?_)
    (have DR:=zh (KF.out);have Cx:=zh AO.2.out;refine Ab Af (by rfl) (.tmp 61) (.tmp 63) (by rfl) wd.heap.size v5 (0+0) _ (by rfl) DR (some ⟨_,0,none⟩) 1 1 z.cells (by rfl) rfl (fun _=>⟨_,0,rfl,Vm.out⟩) (CG z) (by omega) (by omega) AO.2.out.size ?_;intro v8 w8 CW Bt Ey;have IY:=zh CW;have BK:=zh (Cx.out.grown Bt Cx.out.size fun q hq=>(World.ownsRow.lt DR q hq).1);clear CW Bt Ey)
    refine hK.out _ _ ?_ (fun AO=>?_)
    ·(try dsimp only);exact ⟨HC.out _ BK,BK.out⟩
    clear hK K;try simp only[ps]
    refine tS 13 (fun K hK=>?_)
    (refine Ab Af (by rfl) (.tmp 64) (.tmp 68) (by rfl) wd.heap.size v8 (0+0+1) _ (by rfl) IY none 0 0 ([]) (by rfl) rfl (fun h=>absurd rfl h) (fun _ h=>by cases h) (by omega) (by omega) BK.out.size ?_;intro v13 Zi DI DJ Fv;have DT:=zh (Gq DI);have BF:=zh (BK.out.grown DJ BK.out.size fun q hq=>(World.ownsRow.lt IY q hq).1);clear DI DJ Fv;obtain ⟨fe,c13,rfl,_⟩:=Ad.reads DT)
    refine hK.out _ _ ?_ (fun AO=>?_)
    ·(try dsimp only);exact ⟨HC.out _ BF,BF.out⟩
    clear hK K;try simp only[ps]
    refine tC 14 ?_;try simp only[ps]
    refine zV (rs:=[15]) (by kernel_rfl) (by simp) ?_
    refine AJ.last rfl (by kernel_rfl) (fun K hK=>?_) AJ.nil
    (obtain ⟨⟨_,_⟩,_,_⟩:=IW.c5 (Ji.out.below BF);go_simp)
    refine hK.out _ _ ?_;clear hK K
    (try clear AO)
    try simp only[ps]
    refine wpAny_done (by kernel_rfl) ?_ _
    (go_wp2;go_meet;exact ⟨_,(Ji.out.below BF).Xt _,Dr DT NT _ _,fun q h1 h2=>(AAF _ _ _ _ h1).trans (BF.out.block q h2)⟩)
  ·
   obtain ⟨g,rfl,hsg⟩:∃g,B=some ⟨g,0,none⟩/\∀i m,i+m<=IL.length->m≠0->w.rangeAt g (0+i * 8) (((IL.drop i).take m).flatMap Au.cells):=by
    obtain ⟨_,_,e1,-,-,hseg⟩:=Lj HIO
    injection e1 with e1 _ e2
    subst e1 e2;obtain ⟨g,hg,_⟩:=hseg 0 1 (by have:=fH.out pF;omega) (by omega)
    refine ⟨g,hg,fun i m h1 h2=>?_⟩
    obtain ⟨g',hg',hr⟩:=hseg i m h1 h2;rw[hg] at hg'
    injection hg' with hg'
    injection hg' with hg' _
    subst hg';exact hr
   have HC:Hid (∀w',Below wd.heap.size wd w'->(w'.cell? ⟨w.heap.size,6,none⟩=some (.slice (some ⟨g,0,none⟩) IL.length cI)/\(w'.cell? ⟨w.heap.size+2,0,none⟩=some (.int .i64 z.v.kind)/\w'.cell? ⟨w.heap.size+2,1,none⟩=some (.bool z.v.bool)/\w'.cell? ⟨w.heap.size+2,2,none⟩=some (.int .i64 z.v.int)/\w'.cell? ⟨w.heap.size+2,3,none⟩=some (.string z.v.str)/\w'.cell? ⟨w.heap.size+2,4,none⟩=some (.int .i64 z.v.id)/\w'.cell? ⟨w.heap.size+2,5,none⟩=some (.slice z.A1 z.v.keys.length z.c1)/\w'.cell? ⟨w.heap.size+2,6,none⟩=some (.slice z.A2 z.v.items.length z.c2)/\w'.cell? ⟨w.heap.size+2,7,none⟩=some (.slice z.A3 z.v.rest.length z.c3)))):=fun w' hb=>⟨(ZX.out.below hb).reads.1.2,(ZX.out.below hb).reads.2.2⟩
   have lT:Hid (∀u,Below wd.heap.size wd u->∀i m,i+m<=IL.length->m≠0->u.rangeAt g (0+i * 8) (((IL.drop i).take m).flatMap Au.cells)):=fun u hb i m h1 h2=>BU (ZX.out.below hb).be (hsg i m h1 h2)
   have qm:Hid (((IL.take k).flatMap Au.cells).length=k * 8):=by show _=_;rw[G8,List.length_take,Nat.min_eq_left MO.out]
   have qp:Hid (((IL.drop k).flatMap Au.cells).length=(IL.length - k) * 8):=by show _=_;rw[G8,AA1]
   have KR:=zh (G7 (IL.take k));have qd:=zh (G7 (IL.drop k));have GH:Hid (∀u,Below wd.heap.size wd u->IL.length - k≠0->∃b o,(if cI=k then some (⟨g,0,none⟩:Addr) else some ⟨g,k * 8,none⟩)=some ⟨b,o,none⟩/\u.rangeAt b o ((IL.drop k).flatMap Au.cells)):=fun u hb hm=>⟨g,0+k * 8,by rw[Pd (by have:=D7.out;omega),Nat.zero_add],by
    have:=lT.out u hb k (IL.length - k) (by have:=MO.out;omega) hm
    rwa [List.take_of_length_le (by rw[AA1];exact AAH _)] at this⟩
   have h1:(0:Int)<=(k:Int):=by omega
   have h2:(k:Int)<=(IL.length:Int):=by have:=MO.out;omega
   have h3:(k:Int)<=(cI:Int):=by have:=MO.out;have:=D7.out;omega
   have o6:IL.length<=100:=NV.out;have zm:k<=IL.length:=MO.out;clear hsg hk
   refine yE (S:=(fun w'=>(w'.cell? ⟨w.heap.size,6,none⟩=some (.slice (some ⟨g,0,none⟩) IL.length cI)/\(w'.cell? ⟨w.heap.size+2,0,none⟩=some (.int .i64 z.v.kind)/\w'.cell? ⟨w.heap.size+2,1,none⟩=some (.bool z.v.bool)/\w'.cell? ⟨w.heap.size+2,2,none⟩=some (.int .i64 z.v.int)/\w'.cell? ⟨w.heap.size+2,3,none⟩=some (.string z.v.str)/\w'.cell? ⟨w.heap.size+2,4,none⟩=some (.int .i64 z.v.id)/\w'.cell? ⟨w.heap.size+2,5,none⟩=some (.slice z.A1 z.v.keys.length z.c1)/\w'.cell? ⟨w.heap.size+2,6,none⟩=some (.slice z.A2 z.v.items.length z.c2)/\w'.cell? ⟨w.heap.size+2,7,none⟩=some (.slice z.A3 z.v.rest.length z.c3)))/\Hid (Below wd.heap.size wd w'))) 15 (by kernel_rfl) ?_ (fun AO=>?_)
   ·(try dsimp only);exact (fun hb=>⟨HC.out _ hb,hb⟩) (zC (Pe _ _) 1)
   refine tC 1 ?_;try simp only[ps]
   refine tB 2 ?_;try simp only[ps]
   refine tC 3 ?_;try simp only[ps]
   refine tC 4 ?_;try simp only[ps]
   refine tB 6 ?_;try simp only[ps]
   refine tC 9 ?_;try simp only[ps]
   refine tB 10 ?_;try simp only[ps]
   refine tC 11 ?_;try simp only[ps]
   refine tC 12 ?_;try simp only[ps]
   refine zV (rs:=[0,7]) (by kernel_rfl) (by simp) ?_
   refine (AJ.cons rfl (fun K hK=>?_) (AJ.cons rfl (fun K hK=>?_) AJ.nil))
   ·
    go_simp
    refine hK.out _ _ ?_ (fun AO=>?_)
    ·(try dsimp only);exact (fun hb=>⟨HC.out _ hb,hb⟩) (zB AO.2.out (zD _ (.cells #[] 28)))
    clear hK K;try simp only[ps]
    refine zV (rs:=[5,7]) (by kernel_rfl) (by simp) ?_
    refine (AJ.cons rfl (fun K hK=>?_) (AJ.cons rfl (fun K hK=>?_) AJ.nil))
    ·
     (have HOW:Hid (Cw _ wd.heap.size _ []):=zh (Cj (wd.drewN 1) rfl (AAH _));have Cy:=zh AO.2.out;refine Ab Af (by rfl) (.tmp 56) (.tmp 60) (by rfl) wd.heap.size _ 0 [] (by rfl) HOW (some ⟨g,0,none⟩) k cI ((IL.take k).flatMap Au.cells) (by rfl) qm (fun hm=>⟨g,0,rfl,lT.out _ Cy 0 k (by omega) hm⟩) KR (by omega) (by omega) AO.2.out.size ?_;intro v5 w5 Hl hg5 hv5;have KF:=zh Hl;have Ap:=zh (Cy.out.grown hg5 Cy.out.size fun q hq=>(World.ownsRow.lt HOW q hq).1);clear Hl hg5 hv5)
     refine hK.out _ _ ?_ (fun AO=>?_)
     ·(try dsimp only);exact ⟨HC.out _ Ap,Ap.out⟩
     clear hK K;try simp only[ps]
     refine tS 7 (fun K hK=>?_)
     go_simp
     refine hK.out _ _ ?_ (fun AO=>?_)
     ·(try dsimp only);exact (fun hb=>⟨HC.out _ hb,hb⟩) (zB Ap (zD _ (.cells (z.cells).toArray 28)))
     clear hK K;try simp only[ps]
     refine tS 8 (fun K hK=>?_)
     (have DR:=zh (World.ownsRow.alloc KF (.cells (z.cells).toArray 28));have Cx:=zh AO.2.out;refine Ab Af (by rfl) (.tmp 61) (.tmp 63) (by rfl) wd.heap.size v5 (0+k) _ (by rfl) DR (some ⟨_,0,none⟩) 1 1 z.cells (by rfl) rfl (fun _=>⟨_,0,rfl,zR w5 z.cells 28⟩) (CG z) (by omega) (by omega) AO.2.out.size ?_;intro v8 w8 CW Bt Ey;have IY:=zh CW;have BK:=zh (Cx.out.grown Bt Cx.out.size fun q hq=>(World.ownsRow.lt DR q hq).1);clear CW Bt Ey)
     refine hK.out _ _ ?_ (fun AO=>?_)
     ·(try dsimp only);exact ⟨HC.out _ BK,BK.out⟩
     clear hK K;try simp only[ps]
     refine tS 13 (fun K hK=>?_)
     (refine Ab Af (by rfl) (.tmp 64) (.tmp 68) (by rfl) wd.heap.size v8 (0+k+1) _ (by rfl) IY _ (IL.length - k) _ ((IL.drop k).flatMap Au.cells) (by rfl) qp (fun hm=>GH.out _ BK hm) qd (by omega) (by omega) BK.out.size ?_;intro v13 Zi DI DJ Fv;have DT:=zh (JS MO DI);have BF:=zh (BK.out.grown DJ BK.out.size fun q hq=>(World.ownsRow.lt IY q hq).1);clear DI DJ Fv;obtain ⟨fe,c13,rfl,_⟩:=Ad.reads DT)
     refine hK.out _ _ ?_ (fun AO=>?_)
     ·(try dsimp only);exact ⟨HC.out _ BF,BF.out⟩
     clear hK K;try simp only[ps]
     refine tC 14 ?_;try simp only[ps]
     refine zV (rs:=[15]) (by kernel_rfl) (by simp) ?_
     refine AJ.last rfl (by kernel_rfl) (fun K hK=>?_) AJ.nil
     (obtain ⟨⟨_,_⟩,_,_⟩:=IW.c5 (Ji.out.below BF);go_simp)
     refine hK.out _ _ ?_;clear hK K
     (try clear AO)
     try simp only[ps]
     refine wpAny_done (by kernel_rfl) ?_ _
     (generalize (if cI=k then some (⟨g,0,none⟩:Addr) else some ⟨g,k * 8,none⟩)=wW at *;go_wp2;go_meet;exact ⟨_,(Ji.out.below BF).Xt _,(by rw[show k+(IL.length - k+1)=(IL.take k++[z]++IL.drop k).length by have:=MO.out;simp;omega];exact Dr DT NT _ _),fun q h1 h2=>(AAF _ _ _ _ h1).trans (BF.out.block q h2)⟩)
    ·
     go_simp
     refine hK.out _ _ ?_ (fun AO=>?_)
     ·(try dsimp only);exact (fun hb=>⟨HC.out _ hb,hb⟩) (zB AO.2.out (zD _ (.cells (z.cells).toArray 28)))
     clear hK K;try simp only[ps]
     refine tS 5 (fun K hK=>?_)
     (have HOW:Hid (Cw _ wd.heap.size _ []):=zh (Ad.alloc (Cj (wd.drewN 1) rfl (AAH _)) (.cells (z.cells).toArray 28));have Cy:=zh AO.2.out;refine Ab Af (by rfl) (.tmp 56) (.tmp 60) (by rfl) wd.heap.size _ 0 [] (by rfl) HOW (some ⟨g,0,none⟩) k cI ((IL.take k).flatMap Au.cells) (by rfl) qm (fun hm=>⟨g,0,rfl,lT.out _ Cy 0 k (by omega) hm⟩) KR (by omega) (by omega) AO.2.out.size ?_;intro v5 w5 Hl hg5 hv5;have Vm:=zh (Cb hg5 (by intro e0;injection e0 with e0;revert e0;simp) (DF ((wd.drewN 1).alloc (.cells #[] 28)) (p:=wd.heap.size+1) (by simp) z.cells 28));have KF:=zh Hl;have Ap:=zh (Cy.out.grown hg5 Cy.out.size fun q hq=>(World.ownsRow.lt HOW q hq).1);clear Hl hg5 hv5)
     refine hK.out _ _ ?_ (fun AO=>?_)
     ·(try dsimp only);exact ⟨HC.out _ Ap,Ap.out⟩
     clear hK K;try simp only[ps]
     refine tS 8 (fun K hK=>?_)
     (have DR:=zh (KF.out);have Cx:=zh AO.2.out;refine Ab Af (by rfl) (.tmp 61) (.tmp 63) (by rfl) wd.heap.size v5 (0+k) _ (by rfl) DR (some ⟨_,0,none⟩) 1 1 z.cells (by rfl) rfl (fun _=>⟨_,0,rfl,Vm.out⟩) (CG z) (by omega) (by omega) AO.2.out.size ?_;intro v8 w8 CW Bt Ey;have IY:=zh CW;have BK:=zh (Cx.out.grown Bt Cx.out.size fun q hq=>(World.ownsRow.lt DR q hq).1);clear CW Bt Ey)
     refine hK.out _ _ ?_ (fun AO=>?_)
     ·(try dsimp only);exact ⟨HC.out _ BK,BK.out⟩
     clear hK K;try simp only[ps]
     refine tS 13 (fun K hK=>?_)
     (refine Ab Af (by rfl) (.tmp 64) (.tmp 68) (by rfl) wd.heap.size v8 (0+k+1) _ (by rfl) IY _ (IL.length - k) _ ((IL.drop k).flatMap Au.cells) (by rfl) qp (fun hm=>GH.out _ BK hm) qd (by omega) (by omega) BK.out.size ?_;intro v13 Zi DI DJ Fv;have DT:=zh (JS MO DI);have BF:=zh (BK.out.grown DJ BK.out.size fun q hq=>(World.ownsRow.lt IY q hq).1);clear DI DJ Fv;obtain ⟨fe,c13,rfl,_⟩:=Ad.reads DT)
     refine hK.out _ _ ?_ (fun AO=>?_)
     ·(try dsimp only);exact ⟨HC.out _ BF,BF.out⟩
     clear hK K;try simp only[ps]
     refine tC 14 ?_;try simp only[ps]
     refine zV (rs:=[15]) (by kernel_rfl) (by simp) ?_
     refine AJ.last rfl (by kernel_rfl) (fun K hK=>?_) AJ.nil
     (obtain ⟨⟨_,_⟩,_,_⟩:=IW.c5 (Ji.out.below BF);go_simp)
     refine hK.out _ _ ?_;clear hK K
     (try clear AO)
     try simp only[ps]
     refine wpAny_done (by kernel_rfl) ?_ _
     (generalize (if cI=k then some (⟨g,0,none⟩:Addr) else some ⟨g,k * 8,none⟩)=wW at *;go_wp2;go_meet;exact ⟨_,(Ji.out.below BF).Xt _,(by rw[show k+(IL.length - k+1)=(IL.take k++[z]++IL.drop k).length by have:=MO.out;simp;omega];exact Dr DT NT _ _),fun q h1 h2=>(AAF _ _ _ _ h1).trans (BF.out.block q h2)⟩)
   ·
    go_simp
    refine hK.out _ _ ?_ (fun AO=>?_)
    ·(try dsimp only);exact (fun hb=>⟨HC.out _ hb,hb⟩) (zB AO.2.out (zD _ (.cells (z.cells).toArray 28)))
    clear hK K;try simp only[ps]
    refine tS 0 (fun K hK=>?_)
    go_simp
    refine hK.out _ _ ?_ (fun AO=>?_)
    ·(try dsimp only);exact (fun hb=>⟨HC.out _ hb,hb⟩) (zB AO.2.out (zD _ (.cells #[] 28)))
    clear hK K;try simp only[ps]
    refine tS 5 (fun K hK=>?_)
    (have HOW:Hid (Cw _ wd.heap.size _ []):=zh (Cj ((wd.drewN 1).alloc (.cells (z.cells).toArray 28)) (p:=wd.heap.size+1) (by simp) (by omega));have Cy:=zh AO.2.out;refine Ab Af (by rfl) (.tmp 56) (.tmp 60) (by rfl) wd.heap.size _ 0 [] (by rfl) HOW (some ⟨g,0,none⟩) k cI ((IL.take k).flatMap Au.cells) (by rfl) qm (fun hm=>⟨g,0,rfl,lT.out _ Cy 0 k (by omega) hm⟩) KR (by omega) (by omega) AO.2.out.size ?_;intro v5 w5 Hl hg5 hv5;have Vm:=zh (Cb hg5 (by intro e0;injection e0 with e0;revert e0;simp) (BU (zD _ _) (DF (wd.drewN 1) (p:=wd.heap.size) rfl z.cells 28)));have KF:=zh Hl;have Ap:=zh (Cy.out.grown hg5 Cy.out.size fun q hq=>(World.ownsRow.lt HOW q hq).1);clear Hl hg5 hv5)
    refine hK.out _ _ ?_ (fun AO=>?_)
    ·(try dsimp only);exact ⟨HC.out _ Ap,Ap.out⟩
    clear hK K;try simp only[ps]
    refine tS 8 (fun K hK=>?_)
    (have DR:=zh (KF.out);have Cx:=zh AO.2.out;refine Ab Af (by rfl) (.tmp 61) (.tmp 63) (by rfl) wd.heap.size v5 (0+k) _ (by rfl) DR (some ⟨_,0,none⟩) 1 1 z.cells (by rfl) rfl (fun _=>⟨_,0,rfl,Vm.out⟩) (CG z) (by omega) (by omega) AO.2.out.size ?_;intro v8 w8 CW Bt Ey;have IY:=zh CW;have BK:=zh (Cx.out.grown Bt Cx.out.size fun q hq=>(World.ownsRow.lt DR q hq).1);clear CW Bt Ey)
    refine hK.out _ _ ?_ (fun AO=>?_)
    ·(try dsimp only);exact ⟨HC.out _ BK,BK.out⟩
    clear hK K;try simp only[ps]
    refine tS 13 (fun K hK=>?_)
    (refine Ab Af (by rfl) (.tmp 64) (.tmp 68) (by rfl) wd.heap.size v8 (0+k+1) _ (by rfl) IY _ (IL.length - k) _ ((IL.drop k).flatMap Au.cells) (by rfl) qp (fun hm=>GH.out _ BK hm) qd (by omega) (by omega) BK.out.size ?_;intro v13 Zi DI DJ Fv;have DT:=zh (JS MO DI);have BF:=zh (BK.out.grown DJ BK.out.size fun q hq=>(World.ownsRow.lt IY q hq).1);clear DI DJ Fv;obtain ⟨fe,c13,rfl,_⟩:=Ad.reads DT)
    refine hK.out _ _ ?_ (fun AO=>?_)
    ·(try dsimp only);exact ⟨HC.out _ BF,BF.out⟩
    clear hK K;try simp only[ps]
    refine tC 14 ?_;try simp only[ps]
    refine zV (rs:=[15]) (by kernel_rfl) (by simp) ?_
    refine AJ.last rfl (by kernel_rfl) (fun K hK=>?_) AJ.nil
    (obtain ⟨⟨_,_⟩,_,_⟩:=IW.c5 (Ji.out.below BF);go_simp)
    refine hK.out _ _ ?_;clear hK K
    (try clear AO)
    try simp only[ps]
    refine wpAny_done (by kernel_rfl) ?_ _
    (generalize (if cI=k then some (⟨g,0,none⟩:Addr) else some ⟨g,k * 8,none⟩)=wW at *;go_wp2;go_meet;exact ⟨_,(Ji.out.below BF).Xt _,(by rw[show k+(IL.length - k+1)=(IL.take k++[z]++IL.drop k).length by have:=MO.out;simp;omega];exact Dr DT NT _ _),fun q h1 h2=>(AAF _ _ _ _ h1).trans (BF.out.block q h2)⟩)
 case rest =>
 obtain ⟨v8,hps,hov,hoth⟩:=hcut;obtain ⟨we,rfl⟩:∃we:World,we=wc:=⟨_,rfl⟩;have Vq:=zh hps;have xg:=zh hov;obtain ⟨A8,n8,c8,rfl⟩:=JV hov;have ZM:Hid (Cw we wp.heap.size (.slice A9 n9 c9) (KL.take k++[y]++KL.drop k)):=xZ.out.keep fun g hg hl _=>hoth g (by have:=lZ.out;omega) hl
 have sH:Hid (∀q,Value.ownBlock (.slice A9 n9 c9)=some q->Value.ownBlock (.slice A8 n8 c8)≠some q):=fun q h1 h2=>by
  have g1:=(World.ownsRow.lt xZ q h1).2;have g2:=(World.ownsRow.lt hov q h2).1
  omega
 have HWD:=zh ZX.out.be.size;have AA5:Hid (w.heap.size+3<wd.heap.size):=(zg.1 ZX.out.br).1;have AA9:=zh hk;clear hps hov hoth NT Ji MO D7 NV fH ZX;have hbv:=Vq.out.bv;unfold Ht at hbv;obtain ⟨⟨v0,v1,v2,v3,v4,v5,v6,v7⟩,_⟩:=zK hbv;obtain ⟨⟨r0,r1,r2,r3,r4,r5,r6,r7⟩,f0,f1,f2,f3,f4,f5,f6,f7⟩:=zK Vq.out.br;clear hbv;have HF:=zh (fun W9=>WW (W9:=W9) Vq)
 unfold q8 q5 at HF;go_wp2;clear v0 v1 v2 v3 v4 v5 v6 v7 r0 r1 r2 r3 r4 r5 r6 r7 f0 f1 f2 f3 f4 f5 f6 f7;generalize World.setCell _ _ _=W9 at *;obtain ⟨h1,h2,h3⟩:=HF.out _ rfl;obtain ⟨⟨z0,z1,z2,z3,z4,z5,z6,z7⟩,_⟩:=zK h1
 exact bodyPost_ret (v := .agg #[.int .i64 8,.bool false,.int .i64 0,.string ⟨#[]⟩,.int .i64 0,.slice A9 n9 c9,.slice A8 n8 c8,AR]) (by simp[results,Tryz.results113,go_sem,z0,z1,z2,z3,z4,z5,z6,z7]) rfl ⟨_,_,_,_,rfl,h2,.inr ⟨Kq (ZM.out.keep fun g hg _ _=>h3 g (by have:=lZ.out;omega)) (by have:=lZ.out;omega),Kq (xg.out.keep fun g hg _ _=>h3 g (by have:=AA5.out;omega)) HWD,sH.out,k,AA9.out,rfl,rfl,GV.out,fun h=>⟨by have:=sG.out h;omega,HNZ.out trivial h⟩⟩⟩
end Go.Proofs.YthkkllmmbefedaaGreatDoor



