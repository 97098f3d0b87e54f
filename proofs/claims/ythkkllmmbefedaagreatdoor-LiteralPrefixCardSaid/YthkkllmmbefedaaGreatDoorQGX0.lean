/-
  Walks: the members of a draft's node.
-/
import Derived.Test.YthkkllmmbefedaaGreatDoorQGB1
namespace Go.Proofs.YthkkllmmbefedaaGreatDoor
open Go.RowKit Tryz
set_option maxHeartbeats 16000000
set_option maxRecDepth 100000
def Dt (d:List AR) (t:Nat) (w:World) (e:Ending) (w':World):Prop:=∃x ok,e = .returned (.tuple #[x.v none 0 none 0 none 0,.bool ok])/\KF x/\(ok=false->x=zeroV)/\Below w.heap.size w w'/\(ok=true->Oa d t x)
structure JC (w W:World) (A:zo) (d:List AR) (c:Nat) (x:AR) (A':zo) (c':Nat):Prop where
 db:Lm w W A d c
 rb:W.heap[w.heap.size+1]? = some DJ
 nb:Hz W (w.heap.size+1+1) x A' c'
variable {d:List AR} {c c':Nat} {x:AR} {W W' w:World} {A A':zo}
theorem JC.below (h:JC w W A d c x A' c') (hb:Below W.heap.size W W'):JC w W' A d c x A' c' :=
 ⟨h.db.step hb,(hb.block _ (zg.1 h.rb).1).trans h.rb,h.nb.below hb⟩
theorem JC.new (h:BG w A d) (x:AR) (A':zo) (c':Nat):JC w (((w.alloc (.cells #[.slice A d.length c] 24)).alloc DJ).alloc (x.box A' c')) A d c x A' c':=by
 have hz:(w.alloc (.cells #[.slice A d.length c] 24)).heap.size=w.heap.size+1:=by simp
 have hz2:((w.alloc (.cells #[.slice A d.length c] 24)).alloc DJ).heap.size=w.heap.size+1+1:=by simp
 refine ⟨((Lm.new h).step (zD _ _)).step (zD _ _),FH ?_ _,?_⟩
 ·have:=AAA (w.alloc (.cells #[.slice A d.length c] 24)) DJ
  rw[hz] at this;exact this
 ·have:=Hz.new ((w.alloc (.cells #[.slice A d.length c] 24)).alloc DJ) x A' c'
  rw[hz2] at this;exact this
theorem DT (k:Int) (b:Bool) (i:Int) (s:ByteArray) (n:Int) (hs:s.size<=1/\k≠5/\k≠6) (hth:W.there (w.heap.size+1) 0 8) (hb:Below w.heap.size w W):
  let W':=W.setCells (w.heap.size+1) 0 [.int .i64 k,.bool b,.int .i64 i,.string s,.int .i64 n,.slice none 0 0,.slice none 0 0,.slice none 0 0]
  (W'.cell? ⟨w.heap.size+1,0,none⟩=some (.int .i64 k)/\W'.cell? ⟨w.heap.size+1,1,none⟩=some (.bool b)/\W'.cell? ⟨w.heap.size+1,2,none⟩=some (.int .i64 i)/\W'.cell? ⟨w.heap.size+1,3,none⟩=some (.string s)/\W'.cell? ⟨w.heap.size+1,4,none⟩=some (.int .i64 n)/\W'.cell? ⟨w.heap.size+1,5,none⟩=some (.slice none 0 0)/\W'.cell? ⟨w.heap.size+1,6,none⟩=some (.slice none 0 0)/\W'.cell? ⟨w.heap.size+1,7,none⟩=some (.slice none 0 0)) /\
  Hid (KF (.mk k b i s n [] [] [])/\Below w.heap.size w W'):=by
 intro W'
 exact ⟨Ji (y := .mk k b i s n [] [] []) (World.rangeAt_setCells_same W (w.heap.size+1) 0 ((Val.mk k b i s n [] [] []).cs none 0 none 0 none 0) hth),⟨hs,rfl,rfl,rfl⟩,yC _ (by omega) _ _ _ hb⟩
theorem CB (h:JC w W A d c x A' c') (o:Obj):(W.alloc o).there (w.heap.size+1) 0 8:=Cb (FH h.rb o)
theorem DU (h:JC w W A d c x A' c') (o:Obj):Below w.heap.size w (W.alloc o):=zB h.db.below (zD _ _)
theorem yK {s:ByteArray} (h:s.size<=100):Cw s:=by unfold Cw;omega
structure H8 (w W:World) (A:zo) (d:List AR) (c:Nat) (x:AR) (A':zo) (c' vb:Nat) (k:Int):Prop where
 st:JC w W A d c x A' c'
 sP:W.heap[vb]? = some (.cells #[.int .i64 k,.bool false,.int .i64 0,.string ⟨#[]⟩,.int .i64 0,.slice none 0 0,.slice none 0 0,.slice none 0 0] 28 (0,0))
 ne:w.heap.size+1<vb
variable {k:Int} {vb:Nat}
theorem H8.below (h:H8 w W A d c x A' c' vb k) (hb:Below W.heap.size W W'):H8 w W' A d c x A' c' vb k :=
 ⟨h.st.below hb,(hb.block _ (zg.1 h.sP).1).trans h.sP,h.ne⟩
theorem H8.new (h:JC w W A d c x A' c') (k:Int):H8 w (W.alloc (.cells #[.int .i64 k,.bool false,.int .i64 0,.string ⟨#[]⟩,.int .i64 0,.slice none 0 0,.slice none 0 0,.slice none 0 0] 28)) A d c x A' c' W.heap.size k :=
 ⟨h.below (zD _ _),AAA _ _,by have:=(zg.1 h.rb).1;omega⟩
theorem H8.there (h:H8 w W A d c x A' c' vb k) (j:Nat) (v:Value):(W.setCell ⟨vb,j,none⟩ v).there (w.heap.size+1) 0 8 :=
 Cb ((AAE _ _ _ _ (by have:=h.ne;show w.heap.size+1≠vb;omega)).trans h.st.rb)
theorem H8.Cm (h:H8 w W A d c x A' c' vb k) (j:Nat) (v:Value):Below w.heap.size w (W.setCell ⟨vb,j,none⟩ v) :=
 h.st.db.below.setCell (p:=⟨vb,j,none⟩) (by have:=h.ne;show w.heap.size<=vb;omega) v
theorem Es (h:H8 w W A d c x A' c' vb k):
  ((W.cell? ⟨w.heap.size+1+1,0,none⟩=some (.int .u8 x.kind)/\W.cell? ⟨w.heap.size+1+1,1,none⟩=some (.int .u8 x.a)/\W.cell? ⟨w.heap.size+1+1,2,none⟩=some (.int .u8 x.b)/\W.cell? ⟨w.heap.size+1+1,3,none⟩=some (.int .u8 x.c)/\W.cell? ⟨w.heap.size+1+1,4,none⟩=some (.slice A' x.parts.length c'))/\(∀j,W.frozen? ⟨vb,j,none⟩=false)/\W.cell? ⟨vb,2,none⟩=some (.int .i64 0)/\W.cell? ⟨vb,4,none⟩=some (.int .i64 0))/\Hid (H8 w W A d c x A' c' vb k):=by
 refine ⟨⟨⟨h.st.nb.cell 0,h.st.nb.cell 1,h.st.nb.cell 2,h.st.nb.cell 3,h.st.nb.cell 4⟩,fun j=>AAG _ _ _ _ _ h.sP,?_,?_⟩,h⟩ <;> (rw[AAC _ _ _ _ _ _ h.sP];rfl)
theorem KY (h:H8 w W A d c x A' c' vb k) (j:Nat) (v:Value):∀q,(W.setCell ⟨vb,j,none⟩ v).cell? ⟨vb,q,none⟩=((#[.int .i64 k,.bool false,.int .i64 0,.string ⟨#[]⟩,.int .i64 0,.slice none 0 0,.slice none 0 0,.slice none 0 0]:Array Value).setIfInBounds j v)[q]? := fun q=>by
 rw[AAC _ _ _ _ _ _ (AAK _ _ _ _ _ _ h.sP)]
theorem UQ (h:H8 w W A d c x A' c' vb k):
  W.cell? ⟨vb,0,none⟩=some (.int .i64 k)/\W.cell? ⟨vb,1,none⟩=some (.bool false)/\W.cell? ⟨vb,2,none⟩=some (.int .i64 0)/\W.cell? ⟨vb,3,none⟩=some (.string ⟨#[]⟩)/\W.cell? ⟨vb,4,none⟩=some (.int .i64 0)/\W.cell? ⟨vb,5,none⟩=some (.slice none 0 0)/\W.cell? ⟨vb,6,none⟩=some (.slice none 0 0)/\W.cell? ⟨vb,7,none⟩=some (.slice none 0 0):=by
 refine ⟨?_,?_,?_,?_,?_,?_,?_,?_⟩ <;> (rw[AAC _ _ _ _ _ _ h.sP];rfl)
theorem aA (h:H8 w W A d c x A' c' vb k) (z:Int):
  (W.setCell ⟨vb,2,none⟩ (.int .i64 z)).cell? ⟨vb,0,none⟩=some (.int .i64 k)/\(W.setCell ⟨vb,2,none⟩ (.int .i64 z)).cell? ⟨vb,1,none⟩=some (.bool false)/\(W.setCell ⟨vb,2,none⟩ (.int .i64 z)).cell? ⟨vb,2,none⟩=some (.int .i64 z)/\(W.setCell ⟨vb,2,none⟩ (.int .i64 z)).cell? ⟨vb,3,none⟩=some (.string ⟨#[]⟩)/\(W.setCell ⟨vb,2,none⟩ (.int .i64 z)).cell? ⟨vb,4,none⟩=some (.int .i64 0)/\(W.setCell ⟨vb,2,none⟩ (.int .i64 z)).cell? ⟨vb,5,none⟩=some (.slice none 0 0)/\(W.setCell ⟨vb,2,none⟩ (.int .i64 z)).cell? ⟨vb,6,none⟩=some (.slice none 0 0)/\(W.setCell ⟨vb,2,none⟩ (.int .i64 z)).cell? ⟨vb,7,none⟩=some (.slice none 0 0):=by
 refine ⟨?_,?_,?_,?_,?_,?_,?_,?_⟩ <;> (rw[KY h];rfl)
theorem Z9 (h:H8 w W A d c x A' c' vb k) (z:Int):
  (W.setCell ⟨vb,4,none⟩ (.int .i64 z)).cell? ⟨vb,0,none⟩=some (.int .i64 k)/\(W.setCell ⟨vb,4,none⟩ (.int .i64 z)).cell? ⟨vb,1,none⟩=some (.bool false)/\(W.setCell ⟨vb,4,none⟩ (.int .i64 z)).cell? ⟨vb,2,none⟩=some (.int .i64 0)/\(W.setCell ⟨vb,4,none⟩ (.int .i64 z)).cell? ⟨vb,3,none⟩=some (.string ⟨#[]⟩)/\(W.setCell ⟨vb,4,none⟩ (.int .i64 z)).cell? ⟨vb,4,none⟩=some (.int .i64 z)/\(W.setCell ⟨vb,4,none⟩ (.int .i64 z)).cell? ⟨vb,5,none⟩=some (.slice none 0 0)/\(W.setCell ⟨vb,4,none⟩ (.int .i64 z)).cell? ⟨vb,6,none⟩=some (.slice none 0 0)/\(W.setCell ⟨vb,4,none⟩ (.int .i64 z)).cell? ⟨vb,7,none⟩=some (.slice none 0 0):=by
 refine ⟨?_,?_,?_,?_,?_,?_,?_,?_⟩ <;> (rw[KY h];rfl)
theorem lK (x:AR):IntKind.i64.wrap (IntKind.i64.wrap (Fp x - F7 x)+1)=(x.b:Int) % 6+1:=by
 have h1:Fp x - F7 x=((x.b % 6:Nat):Int):=by unfold Fp;omega
 rw[h1,IntWalk.i64_in (((x.b % 6:Nat):Int)) (by omega),IntWalk.i64_in _ (by omega)]
 simp
theorem bZ (d:List AR) (t code:Nat) (A:zo) (c:Nat) (w:World) (hd:BG w A d) (ht:t<d.length) (_:code<256) (hk:Ab d t=5) :
  Calls prog 63 #[EA A d.length c,.int .i64 t,.int .u8 code] w (Dt d t w):=by
 have hn:=hd.1.lt (by omega)
 obtain ⟨b,o,A',c',rfl,hr,c0,c1,c2,c3,c4⟩:=hd.YK ht;generalize K9:d.getD t Bo=x at *;have Zt:=zh K9;clear K9;have HI:=zh (JC.new (c:=c) hd x A' c');have HR:=zh hr;have HK:=zh hk;have h1:(0:Int)<=(t:Int):=by omega
 have h2:(t:Int)<(d.length:Int):=by omega
 have hz:=zL c0;simp only at hz;clear hd hr hk
 go_enter func63,ntmps63
 go_wp2_with fail
 refine (Cg d t _ c _ HI.O.db.nodes ht).mono ?_;rintro e w2 ⟨rfl,hb2⟩;rw[HK.O];replace HI:=zh (HI.O.below hb2);clear hb2 c0 c1 c2 c3 c4 hz
 go_wp2_with (refine wpList_store_mid rfl 28 (.tmp 6) (.tmp 79) rfl (w.heap.size+1) 0 #[.int .i64 (0),.bool (false),.int .i64 (0),.string (⟨#[]⟩),.int .i64 (0),.slice none 0 0,.slice none 0 0,.slice none 0 0] (by rfl) (by rfl) ?_ ?_ ?_ ?_;(exact CB HI _);(exact zW);(exact val_one (Val.mk (0) (false) (0) (⟨#[]⟩) (0) [] [] []) none 0 none 0 none 0))
 obtain ⟨⟨k0,k1,k2,k3,k4,k5,k6,k7⟩,hfin⟩:=DT (w:=w) (0) (false) (0) (⟨#[]⟩) (0) (by decide) (CB HI _) (DU HI _)
 have HF:=zh hfin.O;clear hfin;exact bodyPost_ret (v := .tuple #[.agg #[.int .i64 (0),.bool (false),.int .i64 (0),.string (⟨#[]⟩),.int .i64 (0),.slice none 0 0,.slice none 0 0,.slice none 0 0],.bool false]) (by simp[results,results63,go_sem,k0,k1,k2,k3,k4,k5,k6,k7]) rfl ⟨Val.mk (0) (false) (0) (⟨#[]⟩) (0) [] [] [],false,rfl,HF.O.1,(fun _=>rfl),HF.O.2,fun h=>by cases h⟩
theorem bY (d:List AR) (t code:Nat) (A:zo) (c:Nat) (w:World) (hd:BG w A d) (ht:t<d.length) (_:code<256) (hk:Ab d t=6) :
  Calls prog 63 #[EA A d.length c,.int .i64 t,.int .u8 code] w (Dt d t w):=by
 have hn:=hd.1.lt (by omega)
 obtain ⟨b,o,A',c',rfl,hr,c0,c1,c2,c3,c4⟩:=hd.YK ht;generalize K9:d.getD t Bo=x at *;have Zt:=zh K9;clear K9;have HI:=zh (JC.new (c:=c) hd x A' c');have HR:=zh hr;have HK:=zh hk;have h1:(0:Int)<=(t:Int):=by omega
 have h2:(t:Int)<(d.length:Int):=by omega
 have hz:=zL c0;simp only at hz;clear hd hr hk
 go_enter func63,ntmps63
 go_wp2_with fail
 refine (Cg d t _ c _ HI.O.db.nodes ht).mono ?_;rintro e w2 ⟨rfl,hb2⟩;rw[HK.O];replace HI:=zh (HI.O.below hb2);clear hb2 c0 c1 c2 c3 c4 hz
 go_wp2_with (refine wpList_store_mid rfl 28 (.tmp 6) (.tmp 79) rfl (w.heap.size+1) 0 #[.int .i64 (0),.bool (false),.int .i64 (0),.string (⟨#[]⟩),.int .i64 (0),.slice none 0 0,.slice none 0 0,.slice none 0 0] (by rfl) (by rfl) ?_ ?_ ?_ ?_;(exact CB HI _);(exact zW);(exact val_one (Val.mk (0) (false) (0) (⟨#[]⟩) (0) [] [] []) none 0 none 0 none 0))
 obtain ⟨⟨k0,k1,k2,k3,k4,k5,k6,k7⟩,hfin⟩:=DT (w:=w) (0) (false) (0) (⟨#[]⟩) (0) (by decide) (CB HI _) (DU HI _)
 have HF:=zh hfin.O;clear hfin;exact bodyPost_ret (v := .tuple #[.agg #[.int .i64 (0),.bool (false),.int .i64 (0),.string (⟨#[]⟩),.int .i64 (0),.slice none 0 0,.slice none 0 0,.slice none 0 0],.bool false]) (by simp[results,results63,go_sem,k0,k1,k2,k3,k4,k5,k6,k7]) rfl ⟨Val.mk (0) (false) (0) (⟨#[]⟩) (0) [] [] [],false,rfl,HF.O.1,(fun _=>rfl),HF.O.2,fun h=>by cases h⟩
theorem bX (d:List AR) (t code:Nat) (A:zo) (c:Nat) (w:World) (hd:BG w A d) (ht:t<d.length) (_:code<256) (hk:Ab d t=7) :
  Calls prog 63 #[EA A d.length c,.int .i64 t,.int .u8 code] w (Dt d t w):=by
 have hn:=hd.1.lt (by omega)
 obtain ⟨b,o,A',c',rfl,hr,c0,c1,c2,c3,c4⟩:=hd.YK ht;generalize K9:d.getD t Bo=x at *;have Zt:=zh K9;clear K9;have HI:=zh (JC.new (c:=c) hd x A' c');have HR:=zh hr;have HK:=zh hk;have h1:(0:Int)<=(t:Int):=by omega
 have h2:(t:Int)<(d.length:Int):=by omega
 have hz:=zL c0;simp only at hz;clear hd hr hk
 go_enter func63,ntmps63
 go_wp2_with fail
 refine (Cg d t _ c _ HI.O.db.nodes ht).mono ?_;rintro e w2 ⟨rfl,hb2⟩;rw[HK.O];replace HI:=zh (HI.O.below hb2);clear hb2 c0 c1 c2 c3 c4 hz
 go_wp2_with (refine wpList_store_mid rfl 28 (.tmp 6) (.tmp 80) rfl (w.heap.size+1) 0 #[.int .i64 (7),.bool (false),.int .i64 (0),.string (⟨#[]⟩),.int .i64 (0),.slice none 0 0,.slice none 0 0,.slice none 0 0] (by rfl) (by rfl) ?_ ?_ ?_ ?_;(exact CB HI _);(exact zW);(exact val_one (Val.mk (7) (false) (0) (⟨#[]⟩) (0) [] [] []) none 0 none 0 none 0))
 obtain ⟨⟨k0,k1,k2,k3,k4,k5,k6,k7⟩,hfin⟩:=DT (w:=w) (7) (false) (0) (⟨#[]⟩) (0) (by decide) (CB HI _) (DU HI _)
 have HF:=zh hfin.O;clear hfin
 exact bodyPost_ret (v := .tuple #[.agg #[.int .i64 (7),.bool (false),.int .i64 (0),.string (⟨#[]⟩),.int .i64 (0),.slice none 0 0,.slice none 0 0,.slice none 0 0],.bool true]) (by simp[results,results63,go_sem,k0,k1,k2,k3,k4,k5,k6,k7]) rfl ⟨Val.mk (7) (false) (0) (⟨#[]⟩) (0) [] [] [],true,rfl,HF.O.1,(fun h=>by cases h),HF.O.2,fun _=>ZU (ACo HK) (.inl HK.O)⟩
theorem bW (d:List AR) (t code:Nat) (A:zo) (c:Nat) (w:World) (hd:BG w A d) (ht:t<d.length) (_:code<256) (hk:Ab d t=9) :
  Calls prog 63 #[EA A d.length c,.int .i64 t,.int .u8 code] w (Dt d t w):=by
 have hn:=hd.1.lt (by omega)
 obtain ⟨b,o,A',c',rfl,hr,c0,c1,c2,c3,c4⟩:=hd.YK ht;generalize K9:d.getD t Bo=x at *;have Zt:=zh K9;clear K9;have HI:=zh (JC.new (c:=c) hd x A' c');have HR:=zh hr;have HK:=zh hk;have h1:(0:Int)<=(t:Int):=by omega
 have h2:(t:Int)<(d.length:Int):=by omega
 have hz:=zL c0;simp only at hz;clear hd hr hk
 go_enter func63,ntmps63
 go_wp2_with fail
 refine (Cg d t _ c _ HI.O.db.nodes ht).mono ?_;rintro e w2 ⟨rfl,hb2⟩;rw[HK.O];replace HI:=zh (HI.O.below hb2);clear hb2 c0 c1 c2 c3 c4 hz
 go_wp2_with (refine wpList_store_mid rfl 28 (.tmp 6) (.tmp 80) rfl (w.heap.size+1) 0 #[.int .i64 (9),.bool (false),.int .i64 (0),.string (⟨#[]⟩),.int .i64 (0),.slice none 0 0,.slice none 0 0,.slice none 0 0] (by rfl) (by rfl) ?_ ?_ ?_ ?_;(exact CB HI _);(exact zW);(exact val_one (Val.mk (9) (false) (0) (⟨#[]⟩) (0) [] [] []) none 0 none 0 none 0))
 obtain ⟨⟨k0,k1,k2,k3,k4,k5,k6,k7⟩,hfin⟩:=DT (w:=w) (9) (false) (0) (⟨#[]⟩) (0) (by decide) (CB HI _) (DU HI _)
 have HF:=zh hfin.O;clear hfin
 exact bodyPost_ret (v := .tuple #[.agg #[.int .i64 (9),.bool (false),.int .i64 (0),.string (⟨#[]⟩),.int .i64 (0),.slice none 0 0,.slice none 0 0,.slice none 0 0],.bool true]) (by simp[results,results63,go_sem,k0,k1,k2,k3,k4,k5,k6,k7]) rfl ⟨Val.mk (9) (false) (0) (⟨#[]⟩) (0) [] [] [],true,rfl,HF.O.1,(fun h=>by cases h),HF.O.2,fun _=>ZU (ACn HK) (.inr (.inr HK.O))⟩
theorem cB (d:List AR) (t code:Nat) (A:zo) (c:Nat) (w:World) (hd:BG w A d) (ht:t<d.length) (_:code<256) (hk:Ab d t=1) :
  Calls prog 63 #[EA A d.length c,.int .i64 t,.int .u8 code] w (Dt d t w):=by
 have hn:=hd.1.lt (by omega)
 obtain ⟨b,o,A',c',rfl,hr,c0,c1,c2,c3,c4⟩:=hd.YK ht;generalize K9:d.getD t Bo=x at *;have Zt:=zh K9;clear K9;have HI:=zh (JC.new (c:=c) hd x A' c');have HR:=zh hr;have HK:=zh hk;have h1:(0:Int)<=(t:Int):=by omega
 have h2:(t:Int)<(d.length:Int):=by omega
 have hz:=zL c0;simp only at hz;clear hd hr hk
 go_enter func63,ntmps63
 go_wp2_with fail
 refine (Cg d t _ c _ HI.O.db.nodes ht).mono ?_;rintro e w2 ⟨rfl,hb2⟩;rw[HK.O];replace HI:=zh (HI.O.below hb2);clear hb2 c0 c1 c2 c3 c4 hz;obtain ⟨E,hE⟩:∃E,((code:Int) % 2==1)=E:=⟨_,rfl⟩
 go_wp2_with (refine wpList_store_mid rfl 28 (.tmp 6) (.tmp 80) rfl (w.heap.size+1) 0 #[.int .i64 (1),.bool (E),.int .i64 (0),.string (⟨#[]⟩),.int .i64 (0),.slice none 0 0,.slice none 0 0,.slice none 0 0] (by rfl) (by rfl) ?_ ?_ ?_ ?_;(exact CB HI _);(exact zW);(exact val_one (Val.mk (1) (E) (0) (⟨#[]⟩) (0) [] [] []) none 0 none 0 none 0))
 obtain ⟨⟨k0,k1,k2,k3,k4,k5,k6,k7⟩,hfin⟩:=DT (w:=w) (1) (E) (0) (⟨#[]⟩) (0) (by decide) (CB HI _) (DU HI _)
 have HF:=zh hfin.O;clear hfin;exact bodyPost_ret (v := .tuple #[.agg #[.int .i64 (1),.bool (E),.int .i64 (0),.string (⟨#[]⟩),.int .i64 (0),.slice none 0 0,.slice none 0 0,.slice none 0 0],.bool true]) (by simp[results,results63,go_sem,k0,k1,k2,k3,k4,k5,k6,k7]) rfl ⟨Val.mk (1) (E) (0) (⟨#[]⟩) (0) [] [] [],true,rfl,HF.O.1,(fun h=>by cases h),HF.O.2,fun _=>AAm HK _⟩
theorem Xz (d:List AR) (t code:Nat) (A:zo) (c:Nat) (w:World) (hd:BG w A d) (ht:t<d.length) (_:code<256) (hk:Ab d t=8) (hky:Ee d 0<0) :
  Calls prog 63 #[EA A d.length c,.int .i64 t,.int .u8 code] w (Dt d t w):=by
 have hn:=hd.1.lt (by omega)
 obtain ⟨b,o,A',c',rfl,hr,c0,c1,c2,c3,c4⟩:=hd.YK ht;generalize K9:d.getD t Bo=x at *;have Zt:=zh K9;clear K9;have HI:=zh (JC.new (c:=c) hd x A' c');have HR:=zh hr;have HK:=zh hk;have h1:(0:Int)<=(t:Int):=by omega
 have h2:(t:Int)<(d.length:Int):=by omega
 have hz:=zL c0;simp only at hz;clear hd hr hk
 go_enter func63,ntmps63
 go_wp2_with fail
 refine (Cg d t _ c _ HI.O.db.nodes ht).mono ?_;rintro e w2 ⟨rfl,hb2⟩;rw[HK.O];replace HI:=zh (HI.O.below hb2);clear hb2 c0 c1 c2 c3 c4 hz;have nH:=zh hky;clear hky;have HV:=zh (H8.new HI 8);have hsz:w.heap.size<w2.heap.size:=by have:=(zg.1 HI.O.rb).1;omega
 have JW:=zh HI.O.db.cell;have hdc:=JW.O;go_wp2_with fail;refine (TR d 0 _ c _ HV.O.st.db.nodes (by omega)).mono ?_
 rintro e w3 ⟨rfl,hb3⟩;replace HV:=zh (HV.O.below hb3);obtain ⟨⟨_,hfz,_⟩,_⟩:=Es HV;have hvc:=KY HV 0 (.int .i64 7);obtain ⟨e0,e1,e2,e3,e4,e5,e6,e7⟩:=UQ HV;have hq:decide (Ee d 0<0)=true:=AAJ (by have:=nH.O;omega)
 clear hb3 hdc;go_wp2_with (refine wpList_store_mid rfl 28 (.tmp 6) (.tmp 80) rfl (w.heap.size+1) 0 #[.int .i64 (7),.bool (false),.int .i64 (0),.string (⟨#[]⟩),.int .i64 (0),.slice none 0 0,.slice none 0 0,.slice none 0 0] (by rfl) (by rfl) ?_ ?_ ?_ ?_;(exact HV.O.there 0 (.int .i64 7));(exact zW);(exact val_one (Val.mk (7) (false) (0) (⟨#[]⟩) (0) [] [] []) none 0 none 0 none 0))
 obtain ⟨⟨k0,k1,k2,k3,k4,k5,k6,k7⟩,hfin⟩:=DT (w:=w) (7) (false) (0) (⟨#[]⟩) (0) (by decide) (HV.O.there 0 (.int .i64 7)) (HV.O.Cm 0 (.int .i64 7))
 have HF:=zh hfin.O;clear hfin
 exact bodyPost_ret (v := .tuple #[.agg #[.int .i64 (7),.bool (false),.int .i64 (0),.string (⟨#[]⟩),.int .i64 (0),.slice none 0 0,.slice none 0 0,.slice none 0 0],.bool true]) (by simp[results,results63,go_sem,k0,k1,k2,k3,k4,k5,k6,k7]) rfl ⟨Val.mk (7) (false) (0) (⟨#[]⟩) (0) [] [] [],true,rfl,HF.O.1,(fun h=>by cases h),HF.O.2,fun _=>ZU (sS HK nH) (.inr (.inl HK.O))⟩
theorem Xy (d:List AR) (t code:Nat) (A:zo) (c:Nat) (w:World) (hd:BG w A d) (ht:t<d.length) (_:code<256) (hk:Ab d t=8) (hky:¬ Ee d 0<0) :
  Calls prog 63 #[EA A d.length c,.int .i64 t,.int .u8 code] w (Dt d t w):=by
 have hn:=hd.1.lt (by omega)
 obtain ⟨b,o,A',c',rfl,hr,c0,c1,c2,c3,c4⟩:=hd.YK ht;generalize K9:d.getD t Bo=x at *;have Zt:=zh K9;clear K9;have HI:=zh (JC.new (c:=c) hd x A' c');have HR:=zh hr;have HK:=zh hk;have h1:(0:Int)<=(t:Int):=by omega
 have h2:(t:Int)<(d.length:Int):=by omega
 have hz:=zL c0;simp only at hz;clear hd hr hk
 go_enter func63,ntmps63
 go_wp2_with fail
 refine (Cg d t _ c _ HI.O.db.nodes ht).mono ?_;rintro e w2 ⟨rfl,hb2⟩;rw[HK.O];replace HI:=zh (HI.O.below hb2);clear hb2 c0 c1 c2 c3 c4 hz;have nH:=zh hky;clear hky;have HV:=zh (H8.new HI 8);have hsz:w.heap.size<w2.heap.size:=by have:=(zg.1 HI.O.rb).1;omega
 have JW:=zh HI.O.db.cell;have hdc:=JW.O;go_wp2_with fail;refine (TR d 0 _ c _ HV.O.st.db.nodes (by omega)).mono ?_
 rintro e w3 ⟨rfl,hb3⟩;replace HV:=zh (HV.O.below hb3);obtain ⟨⟨_,hfz,_⟩,_⟩:=Es HV;have hvc:=KY HV 0 (.int .i64 7);obtain ⟨e0,e1,e2,e3,e4,e5,e6,e7⟩:=UQ HV;have hq:decide (Ee d 0<0)=false:=AAP (by have:=nH.O;omega)
 clear hb3 hdc;go_wp2_with (refine wpList_store_mid rfl 28 (.tmp 6) (.tmp 80) rfl (w.heap.size+1) 0 #[.int .i64 (8),.bool (false),.int .i64 (0),.string (⟨#[]⟩),.int .i64 (0),.slice none 0 0,.slice none 0 0,.slice none 0 0] (by rfl) (by rfl) ?_ ?_ ?_ ?_;(exact Cb HV.O.st.rb);(exact zW);(exact val_one (Val.mk (8) (false) (0) (⟨#[]⟩) (0) [] [] []) none 0 none 0 none 0))
 obtain ⟨⟨k0,k1,k2,k3,k4,k5,k6,k7⟩,hfin⟩:=DT (w:=w) (8) (false) (0) (⟨#[]⟩) (0) (by decide) (Cb HV.O.st.rb) (HV.O.st.db.below)
 have HF:=zh hfin.O;clear hfin
 exact bodyPost_ret (v := .tuple #[.agg #[.int .i64 (8),.bool (false),.int .i64 (0),.string (⟨#[]⟩),.int .i64 (0),.slice none 0 0,.slice none 0 0,.slice none 0 0],.bool true]) (by simp[results,results63,go_sem,k0,k1,k2,k3,k4,k5,k6,k7]) rfl ⟨Val.mk (8) (false) (0) (⟨#[]⟩) (0) [] [] [],true,rfl,HF.O.1,(fun h=>by cases h),HF.O.2,fun _=>ZU (sQ HK (by have:=nH.O;omega)) (.inr (.inl HK.O))⟩
theorem bg (d:List AR) (t code:Nat) (A:zo) (c:Nat) (w:World) (hd:BG w A d) (ht:t<d.length) (_:code<256) (hk:Ab d t=3) :
  Calls prog 63 #[EA A d.length c,.int .i64 t,.int .u8 code] w (Dt d t w):=by
 have hn:=hd.1.lt (by omega)
 obtain ⟨b,o,A',c',rfl,hr,c0,c1,c2,c3,c4⟩:=hd.YK ht;generalize K9:d.getD t Bo=x at *;have Zt:=zh K9;clear K9;have HI:=zh (JC.new (c:=c) hd x A' c');have HR:=zh hr;have HK:=zh hk;have h1:(0:Int)<=(t:Int):=by omega
 have h2:(t:Int)<(d.length:Int):=by omega
 have hz:=zL c0;simp only at hz;clear hd hr hk
 go_enter func63,ntmps63
 go_wp2_with fail
 refine (Cg d t _ c _ HI.O.db.nodes ht).mono ?_;rintro e w2 ⟨rfl,hb2⟩;rw[HK.O];replace HI:=zh (HI.O.below hb2);clear hb2 c0 c1 c2 c3 c4 hz;have hn1:w2.cell? ⟨w.heap.size+1+1,1,none⟩=some (.int .u8 x.a):=HI.O.nb.cell 1;have hzz:=HI.O.nb.blt;obtain ⟨E1,hE1⟩:∃E,decide ((0:Int)<((x.a:Int) % 4))=E:=⟨_,rfl⟩;obtain ⟨E2,hE2⟩:∃E,((code:Int) % 2==1)=E:=⟨_,rfl⟩
 have PO:Hid (E1=true->1<=x.a % 4):=fun e=>by rw[e] at hE1;have:=AAr hE1;omega
 cases E1 with
 | false =>
  go_wp2_with (refine wpList_store_mid rfl 28 (.tmp 6) (.tmp 80) rfl (w.heap.size+1) 0 #[.int .i64 (3),.bool (false),.int .i64 (0),.string (⟨#[]⟩),.int .i64 (0),.slice none 0 0,.slice none 0 0,.slice none 0 0] (by rfl) (by rfl) ?_ ?_ ?_ ?_;(exact CB HI _);(exact zW);(exact val_one (Val.mk (3) (false) (0) (⟨#[]⟩) (0) [] [] []) none 0 none 0 none 0))
  obtain ⟨⟨k0,k1,k2,k3,k4,k5,k6,k7⟩,hfin⟩:=DT (w:=w) (3) (false) (0) (⟨#[]⟩) (0) (by decide) (CB HI _) (DU HI _)
  have HF:=zh hfin.O;clear hfin
  exact bodyPost_ret (v := .tuple #[.agg #[.int .i64 (3),.bool (false),.int .i64 (0),.string (⟨#[]⟩),.int .i64 (0),.slice none 0 0,.slice none 0 0,.slice none 0 0],.bool true]) (by simp[results,results63,go_sem,k0,k1,k2,k3,k4,k5,k6,k7]) rfl ⟨Val.mk (3) (false) (0) (⟨#[]⟩) (0) [] [] [],true,rfl,HF.O.1,(fun h=>by cases h),HF.O.2,fun _=>kz HK (by show (0:Int)<=_;omega)⟩
 | true =>
  cases E2 with
  | false =>
   go_wp2_with (refine wpList_store_mid rfl 28 (.tmp 6) (.tmp 80) rfl (w.heap.size+1) 0 #[.int .i64 (3),.bool (false),.int .i64 (0),.string (⟨#[]⟩),.int .i64 (0),.slice none 0 0,.slice none 0 0,.slice none 0 0] (by rfl) (by rfl) ?_ ?_ ?_ ?_;(exact CB HI _);(exact zW);(exact val_one (Val.mk (3) (false) (0) (⟨#[]⟩) (0) [] [] []) none 0 none 0 none 0))
   obtain ⟨⟨k0,k1,k2,k3,k4,k5,k6,k7⟩,hfin⟩:=DT (w:=w) (3) (false) (0) (⟨#[]⟩) (0) (by decide) (CB HI _) (DU HI _)
   have HF:=zh hfin.O;clear hfin
   exact bodyPost_ret (v := .tuple #[.agg #[.int .i64 (3),.bool (false),.int .i64 (0),.string (⟨#[]⟩),.int .i64 (0),.slice none 0 0,.slice none 0 0,.slice none 0 0],.bool true]) (by simp[results,results63,go_sem,k0,k1,k2,k3,k4,k5,k6,k7]) rfl ⟨Val.mk (3) (false) (0) (⟨#[]⟩) (0) [] [] [],true,rfl,HF.O.1,(fun h=>by cases h),HF.O.2,fun _=>kz HK (by show (0:Int)<=_;omega)⟩
  | true =>
   go_wp2_with (refine wpList_store_mid rfl 28 (.tmp 6) (.tmp 80) rfl (w.heap.size+1) 0 #[.int .i64 (3),.bool (false),.int .i64 (0),.string (⟨#[97]⟩),.int .i64 (0),.slice none 0 0,.slice none 0 0,.slice none 0 0] (by rfl) (by rfl) ?_ ?_ ?_ ?_;(exact CB HI _);(exact zW);(exact val_one (Val.mk (3) (false) (0) (⟨#[97]⟩) (0) [] [] []) none 0 none 0 none 0))
   obtain ⟨⟨k0,k1,k2,k3,k4,k5,k6,k7⟩,hfin⟩:=DT (w:=w) (3) (false) (0) (⟨#[97]⟩) (0) (by decide) (CB HI _) (DU HI _)
   have HF:=zh hfin.O;clear hfin
   exact bodyPost_ret (v := .tuple #[.agg #[.int .i64 (3),.bool (false),.int .i64 (0),.string (⟨#[97]⟩),.int .i64 (0),.slice none 0 0,.slice none 0 0,.slice none 0 0],.bool true]) (by simp[results,results63,go_sem,k0,k1,k2,k3,k4,k5,k6,k7]) rfl ⟨Val.mk (3) (false) (0) (⟨#[97]⟩) (0) [] [] [],true,rfl,HF.O.1,(fun h=>by cases h),HF.O.2,fun _=>kz HK (by rw[Zt.O];have h4:=PO.O (by first|rfl|trivial);have h2:(⟨#[97]⟩:ByteArray).size=1:=rfl;have h3:(⟨#[]⟩:ByteArray).size=0:=rfl;omega)⟩
theorem bn (d:List AR) (t code:Nat) (A:zo) (c:Nat) (w:World) (hd:BG w A d) (ht:t<d.length) (hcode:code<256) (hk:Ab d t=2) :
  Calls prog 63 #[EA A d.length c,.int .i64 t,.int .u8 code] w (Dt d t w):=by
 have hn:=hd.1.lt (by omega)
 obtain ⟨b,o,A',c',rfl,hr,c0,c1,c2,c3,c4⟩:=hd.YK ht;generalize K9:d.getD t Bo=x at *;have Zt:=zh K9;clear K9;have HI:=zh (JC.new (c:=c) hd x A' c');have HR:=zh hr;have HK:=zh hk;have h1:(0:Int)<=(t:Int):=by omega
 have h2:(t:Int)<(d.length:Int):=by omega
 have hz:=zL c0;simp only at hz;clear hd hr hk
 go_enter func63,ntmps63
 go_wp2_with fail
 refine (Cg d t _ c _ HI.O.db.nodes ht).mono ?_;rintro e w2 ⟨rfl,hb2⟩;rw[HK.O];replace HI:=zh (HI.O.below hb2);clear hb2 c0 c1 c2 c3 c4 hz;have HV:=zh (H8.new HI 2);have nS:=zh HR.O.a;go_wp2_with fail;generalize w2.alloc (.cells #[.int .i64 2,.bool false,.int .i64 0,.string ⟨#[]⟩,.int .i64 0,.slice none 0 0,.slice none 0 0,.slice none 0 0] 28)=W3 at *;have hhl:=lK x
 have hnz:¬ ((x.b:Int) % 6+1=0):=by omega
 refine yE (S:=(fun w'=>((w'.cell? ⟨w.heap.size+1+1,0,none⟩=some (.int .u8 x.kind)/\w'.cell? ⟨w.heap.size+1+1,1,none⟩=some (.int .u8 x.a)/\w'.cell? ⟨w.heap.size+1+1,2,none⟩=some (.int .u8 x.b)/\w'.cell? ⟨w.heap.size+1+1,3,none⟩=some (.int .u8 x.c)/\w'.cell? ⟨w.heap.size+1+1,4,none⟩=some (.slice A' x.parts.length c'))/\(∀j,w'.frozen? ⟨w2.heap.size,j,none⟩=false)/\w'.cell? ⟨w2.heap.size,2,none⟩=some (.int .i64 0)/\w'.cell? ⟨w2.heap.size,4,none⟩=some (.int .i64 0))/\Hid (H8 w w' (some ⟨b,o,none⟩) d c x A' c' w2.heap.size 2))) 13 (by kernel_rfl) ?_ (fun AQ=>?_)
 ·(try dsimp only);exact Es (HV.O.below (zC (Pe _ _) 1))
 refine tB 0 ?_;refine tC 2 ?_;refine tC 3 ?_;refine tB 4 ?_;refine tB 6 ?_;refine tS 1 (fun K hK=>?_)
 go_simp
 (refine (O6 x A' c' _ nS).mono ?_;rintro e w3 ⟨rfl,hbx⟩)
 refine hK.out _ _ ?_ (fun AQ=>?_)
 ·(try dsimp only);exact Es (AQ.2.O.below hbx)
 clear hK K;try simp only[ps]
 refine tS 5 (fun K hK=>?_)
 go_simp
 (refine (VZ x A' c' _ nS).mono ?_;rintro e w4 ⟨rfl,hbx⟩)
 refine hK.out _ _ ?_ (fun AQ=>?_)
 ·(try dsimp only);exact Es (AQ.2.O.below hbx)
 clear hK K;refine tS 7 (fun K hK=>?_)
 go_simp
 (refine (O6 x A' c' _ nS).mono ?_;rintro e w5 ⟨rfl,hbx⟩)
 refine hK.out _ _ ?_ (fun AQ=>?_)
 ·(try dsimp only);exact Es (AQ.2.O.below hbx)
 clear hK K;refine tC 8 ?_;refine tC 9 ?_;refine tC 10 ?_;refine tC 11 ?_;try simp only[ps]
 refine tC 12 ?_;refine zV (rs:=[13]) (by kernel_rfl) (by simp) ?_
 refine AB.last rfl (by kernel_rfl) (fun K hK=>?_) AB.nil
 (obtain ⟨⟨_,hfz,hcx,_⟩,hin⟩:=AQ;go_simp)
 refine hK.out _ _ ?_;clear hK K
 (try clear AQ)
 refine wpAny_done (by kernel_rfl) ?_ _
 have HZ:=zh (qd x hcode);generalize IntKind.i64.wrap (F7 x+(IntKind.i64.wrap (code:Int)).tmod ((x.b:Int) % 6+1))=z at *;have KC:=zh (hin.O.there 2 (.int .i64 z));have GV:=zh (hin.O.Cm 2 (.int .i64 z));obtain ⟨e0,e1,e2,e3,e4,e5,e6,e7⟩:=aA hin.O z;have hvb:=(zg.1 hin.O.sP).1
 replace hvb:w2.heap.size<(w5.setCell ⟨w2.heap.size,2,none⟩ (.int .i64 z)).heap.size:=by simpa using hvb
 clear hin hfz hcx;generalize w5.setCell ⟨w2.heap.size,2,none⟩ (.int .i64 z)=W7 at *
 go_wp2_with (refine wpList_store_mid rfl 28 (.tmp 6) (.tmp 80) rfl (w.heap.size+1) 0 #[.int .i64 (2),.bool (false),.int .i64 (z),.string (⟨#[]⟩),.int .i64 (0),.slice none 0 0,.slice none 0 0,.slice none 0 0] (by rfl) (by rfl) ?_ ?_ ?_ ?_;(exact KC.O);(exact zW);(exact val_one (Val.mk (2) (false) (z) (⟨#[]⟩) (0) [] [] []) none 0 none 0 none 0))
 obtain ⟨⟨k0,k1,k2,k3,k4,k5,k6,k7⟩,hfin⟩:=DT (w:=w) (2) (false) (z) (⟨#[]⟩) (0) (by decide) (KC.O) (GV.O)
 have HF:=zh hfin.O;clear hfin
 exact bodyPost_ret (v := .tuple #[.agg #[.int .i64 (2),.bool (false),.int .i64 (z),.string (⟨#[]⟩),.int .i64 (0),.slice none 0 0,.slice none 0 0,.slice none 0 0],.bool true]) (by simp[results,results63,go_sem,k0,k1,k2,k3,k4,k5,k6,k7]) rfl ⟨Val.mk (2) (false) (z) (⟨#[]⟩) (0) [] [] [],true,rfl,HF.O.1,(fun h=>by cases h),HF.O.2,fun _=>AAl HK (by rw[Zt.O];exact HZ.O)⟩
theorem bf (d:List AR) (t code:Nat) (A:zo) (c:Nat) (w:World) (hd:BG w A d) (ht:t<d.length) (_:code<256) (hk:Ab d t=4) :
  Calls prog 63 #[EA A d.length c,.int .i64 t,.int .u8 code] w (Dt d t w):=by
 have hn:=hd.1.lt (by omega)
 obtain ⟨b,o,A',c',rfl,hr,c0,c1,c2,c3,c4⟩:=hd.YK ht;generalize K9:d.getD t Bo=x at *;have Zt:=zh K9;clear K9;have HI:=zh (JC.new (c:=c) hd x A' c');have HR:=zh hr;have HK:=zh hk;have h1:(0:Int)<=(t:Int):=by omega
 have h2:(t:Int)<(d.length:Int):=by omega
 have hz:=zL c0;simp only at hz;clear hd hr hk
 go_enter func63,ntmps63
 go_wp2_with fail
 refine (Cg d t _ c _ HI.O.db.nodes ht).mono ?_;rintro e w2 ⟨rfl,hb2⟩;rw[HK.O];replace HI:=zh (HI.O.below hb2);clear hb2 c0 c1 c2 c3 c4 hz;have HV:=zh (H8.new HI 4);have nS:=zh HR.O.a;go_wp2_with fail;generalize w2.alloc (.cells #[.int .i64 4,.bool false,.int .i64 0,.string ⟨#[]⟩,.int .i64 0,.slice none 0 0,.slice none 0 0,.slice none 0 0] 28)=W3 at *;have OB:=zh (Kb x)
 have Wn:Hid ((Di x).length<=6):=by have:=Kl (Di x) 0 6 OB.O.1 OB.O.2.1 (by omega);show _<=_;omega
 have hpos:0<(Di x).length:=List.length_pos_iff.2 OB.O.2.2;have hnz:¬ (Di x=[]):=OB.O.2.2;obtain ⟨q,hq⟩:∃q:Nat,q=code % (Di x).length:=⟨_,rfl⟩;have tO:q<(Di x).length:=by rw[hq];exact Nat.mod_lt _ hpos
 have eq:(IntKind.i64.wrap (code:Int)).tmod ((Di x).length:Int)=(q:Int):=by rw[IntWalk.i64_in _ (by omega),hq];rfl
 clear hq;have hq1:(0:Int)<=(q:Int):=by omega
 have hq2:(q:Int)<((Di x).length:Int):=by omega
 refine yE (S:=(fun w'=>((w'.cell? ⟨w.heap.size+1+1,0,none⟩=some (.int .u8 x.kind)/\w'.cell? ⟨w.heap.size+1+1,1,none⟩=some (.int .u8 x.a)/\w'.cell? ⟨w.heap.size+1+1,2,none⟩=some (.int .u8 x.b)/\w'.cell? ⟨w.heap.size+1+1,3,none⟩=some (.int .u8 x.c)/\w'.cell? ⟨w.heap.size+1+1,4,none⟩=some (.slice A' x.parts.length c'))/\(∀j,w'.frozen? ⟨w2.heap.size,j,none⟩=false)/\w'.cell? ⟨w2.heap.size,2,none⟩=some (.int .i64 0)/\w'.cell? ⟨w2.heap.size,4,none⟩=some (.int .i64 0))/\Hid (H8 w w' (some ⟨b,o,none⟩) d c x A' c' w2.heap.size 4))) 11 (by kernel_rfl) ?_ (fun AQ=>?_)
 ·(try dsimp only);exact Es (HV.O.below (zC (Pe _ _) 1))
 refine tB 0 ?_;refine tC 2 ?_;refine tC 3 ?_;refine tB 4 ?_;refine tS 1 (fun K hK=>?_)
 go_simp
 (refine (Pz x A' c' _ nS).mono ?_;rintro e w3 ⟨v3,rfl,ho3,hbx⟩;obtain ⟨A3,c3,rfl,hi3⟩:=WB.ints ho3 (by have:=Wn.O;unfold EF;omega);obtain ⟨b3,o3,rfl,i3⟩:=hi3.fF tO;clear ho3 hi3)
 refine hK.out _ _ ?_ (fun AQ=>?_)
 ·(try dsimp only);exact Es (AQ.2.O.below hbx)
 clear hK K;refine tS 5 (fun K hK=>?_)
 go_simp
 (refine (Pz x A' c' _ nS).mono ?_;rintro e w5 ⟨v4,rfl,ho4,hbx⟩;obtain ⟨A4,c4,rfl,hi4⟩:=WB.ints ho4 (by have:=Wn.O;unfold EF;omega);replace i3:=zA hbx i3;clear ho4 hi4)
 refine hK.out _ _ ?_ (fun AQ=>?_)
 ·(try dsimp only);exact Es (AQ.2.O.below hbx)
 clear hK K;try simp only[ps]
 refine tC 6 ?_;refine tC 7 ?_;refine tC 8 ?_;refine tS 9 (fun K hK=>?_)
 go_simp
 refine hK.out _ _ ?_ (fun AQ=>?_)
 ·(try dsimp only);exact AQ
 clear hK K;refine tC 10 ?_;refine zV (rs:=[11]) (by kernel_rfl) (by simp) ?_
 refine AB.last rfl (by kernel_rfl) (fun K hK=>?_) AB.nil
 (obtain ⟨⟨_,hfz,_,hcx⟩,hin⟩:=AQ;go_simp)
 refine hK.out _ _ ?_;clear hK K
 (try clear AQ)
 try simp only[ps]
 refine wpAny_done (by kernel_rfl) ?_ _
 have HZ:Hid ((Di x)[q]∈Di x):=AAL tO;generalize (Di x)[q]=z at *;have KC:=zh (hin.O.there 4 (.int .i64 z));have GV:=zh (hin.O.Cm 4 (.int .i64 z));obtain ⟨e0,e1,e2,e3,e4,e5,e6,e7⟩:=Z9 hin.O z;have hvb:=(zg.1 hin.O.sP).1;replace hvb:w2.heap.size<(w5.setCell ⟨w2.heap.size,4,none⟩ (.int .i64 z)).heap.size:=by simpa using hvb
 clear hin hfz hcx;generalize w5.setCell ⟨w2.heap.size,4,none⟩ (.int .i64 z)=W7 at *
 go_wp2_with (refine wpList_store_mid rfl 28 (.tmp 6) (.tmp 80) rfl (w.heap.size+1) 0 #[.int .i64 (4),.bool (false),.int .i64 (0),.string (⟨#[]⟩),.int .i64 (z),.slice none 0 0,.slice none 0 0,.slice none 0 0] (by rfl) (by rfl) ?_ ?_ ?_ ?_;(exact KC.O);(exact zW);(exact val_one (Val.mk (4) (false) (0) (⟨#[]⟩) (z) [] [] []) none 0 none 0 none 0))
 obtain ⟨⟨k0,k1,k2,k3,k4,k5,k6,k7⟩,hfin⟩:=DT (w:=w) (4) (false) (0) (⟨#[]⟩) (z) (by decide) (KC.O) (GV.O)
 have HF:=zh hfin.O;clear hfin
 exact bodyPost_ret (v := .tuple #[.agg #[.int .i64 (4),.bool (false),.int .i64 (0),.string (⟨#[]⟩),.int .i64 (z),.slice none 0 0,.slice none 0 0,.slice none 0 0],.bool true]) (by simp[results,results63,go_sem,k0,k1,k2,k3,k4,k5,k6,k7]) rfl ⟨Val.mk (4) (false) (0) (⟨#[]⟩) (z) [] [] [],true,rfl,HF.O.1,(fun h=>by cases h),HF.O.2,fun _=>AAk HK (by rw[Zt.O];exact HZ.O)⟩
theorem VU (d:List AR) (t code:Nat) (A:zo) (c:Nat) (w:World) (hd:BG w A d) (ht:t<d.length) (hco:code<256) :
  Calls prog 63 #[EA A d.length c,.int .i64 t,.int .u8 code] w (Dt d t w):=by
 have hr:=He d t;have h:Ab d t=1\/Ab d t=2\/Ab d t=3\/Ab d t=4\/Ab d t=5\/Ab d t=6\/Ab d t=7\/Ab d t=8\/Ab d t=9:=by omega
 rcases h with h|h|h|h|h|h|h|h|h
 ·exact cB d t code A c w hd ht hco h
 ·exact bn d t code A c w hd ht hco h
 ·exact bg d t code A c w hd ht hco h
 ·exact bf d t code A c w hd ht hco h
 ·exact bZ d t code A c w hd ht hco h
 ·exact bY d t code A c w hd ht hco h
 ·exact bX d t code A c w hd ht hco h
 ·by_cases hk:Ee d 0<0
  ·exact Xz d t code A c w hd ht hco h hk
  ·exact Xy d t code A c w hd ht hco h hk
 ·exact bW d t code A c w hd ht hco h
def dJ (m:Ac):List Value:=m.cs none 0 none 0 none 0
theorem Md (m:Ac):∀u∈dJ m,u.oneCell'=true:=fun u hu=>by
 unfold dJ at hu;simp only[ABP,List.mem_nil_iff,or_false] at hu
 rcases hu with rfl|rfl|rfl|rfl|rfl|rfl|rfl|rfl|rfl|rfl|rfl|rfl|rfl <;> rfl
variable {n:Nat}
theorem O9 (hn:n<=20):Utf8.encode (97+(n:Int))=⟨#[UInt8.ofNat (97+n)]⟩/\Utf8.encode (65+(n:Int))=⟨#[UInt8.ofNat (65+n)]⟩:=by
 have h:∀m:Fin 21,Utf8.encode (97+((m.1:Nat):Int))=⟨#[UInt8.ofNat (97+m.1)]⟩/\Utf8.encode (65+((m.1:Nat):Int))=⟨#[UInt8.ofNat (65+m.1)]⟩:=by decide +kernel
 exact h ⟨n,by omega⟩
theorem QA (c:UInt8) (n:Nat):(⟨#[c]⟩:ByteArray)++(⟨#[UInt8.ofNat (97+n)]⟩:ByteArray)=Tz c n:=by
 refine dP ?_;rw[mP];rfl
abbrev ABK:=AZ 118 13 dJ
structure Le (w W:World) (A:zo) (d:List AR) (c:Nat) (x:AR) (A':zo) (c':Nat):Prop where
 db:Lm w W A d c
 nb:Hz W (w.heap.size+1) x A' c'
 nr:OZ W x A'
theorem Le.below (h:Le w W A d c x A' c') (hb:Below W.heap.size W W'):Le w W' A d c x A' c' :=
 ⟨h.db.step hb,h.nb.below hb,h.nr.below hb⟩
theorem Le.new (h:BG w A d) (hx:OZ w x A') (c':Nat):Le w ((w.alloc (.cells #[.slice A d.length c] 24)).alloc (x.box A' c')) A d c x A' c':=by
 have hz:(w.alloc (.cells #[.slice A d.length c] 24)).heap.size=w.heap.size+1:=by simp
 have:=Hz.new (w.alloc (.cells #[.slice A d.length c] 24)) x A' c';rw[hz] at this;exact ⟨(Lm.new h).step (zD _ _),this,hx.below (zI _ _ _)⟩
structure J8 (d:List AR) (i:Nat) (rec:Bool) (n k base:Nat) (W:World) (v:Value) (ms:List Ac):Prop where
 own:ABK W base v ms
 ok:EM rec n k ms
 flat:∀m∈ms,KF m.dflt
 tJ:∀m∈ms,mW d i m
theorem J8.below {i:Nat} {rec:Bool} {k base:Nat} {v:Value} {ms:List Ac} (h:J8 d i rec n k base W v ms) (hb:Below W.heap.size W W'):J8 d i rec n k base W' v ms:=⟨h.own.below hb,h.ok,h.flat,h.tJ⟩
def XG (cs:Array Value) (o:Nat):List Value->Array Value
 | []=>cs
 | v::vs=>XG (cs.setIfInBounds o v) (o+1) vs
theorem Bp {g:Nat} {T:TypeId}:∀ (vs:List Value) (o:Nat) (W:World) (cs:Array Value),W.heap[g]? = some (.cells cs T (0,0))->(W.setCells g o vs).heap[g]? = some (.cells (XG cs o vs) T (0,0))
 | [],_,_,_,h=>h
 | v::vs,o,W,cs,h=>Bp vs (o+1) (W.setCell ⟨g,o,none⟩ v) (cs.setIfInBounds o v) (AAK _ _ _ _ _ _ h)
variable {mb:Nat} {a0 a1 dY dX a12 a2 a3 a4 a5 a6 a7 a8 a9:Value}
theorem vg {T:TypeId} (h:W.heap[mb]? = some (.cells #[a0,a1,a2,a3,a4,a5,a6,a7,a8,a9,dY,dX,a12] T (0,0))) (b5 b6 b7 b8 b9 b10 b11 b12:Value):
  (W.setCells mb 5 [b5,b6,b7,b8,b9,b10,b11,b12]).heap[mb]? = some (.cells #[a0,a1,a2,a3,a4,b5,b6,b7,b8,b9,b10,b11,b12] T (0,0)):=by
 rw[Bp _ _ _ _ h];simp[XG]
theorem kD {T:TypeId} (h:W.heap[mb]? = some (.cells #[a0,a1,a2,a3,a4,a5,a6,a7,a8,a9,dY,dX,a12] T (0,0))):W.there mb 5 8:=fun j hj=>by
 refine ⟨?_,AAG _ _ _ _ _ h⟩;rw[AAC _ _ _ _ _ _ h]
 match j,hj with
 | 0,_=>rfl
 | 1,_=>rfl
 | 2,_=>rfl
 | 3,_=>rfl
 | 4,_=>rfl
 | 5,_=>rfl
 | 6,_=>rfl
 | 7,_=>rfl
theorem Jo {T:TypeId} (h:W.heap[mb]? = some (.cells #[a0,a1,a2,a3,a4,a5,a6,a7,a8,a9,dY,dX,a12] T (0,0))):
  W.cell? ⟨mb,0,none⟩=some a0/\W.cell? ⟨mb,1,none⟩=some a1/\W.cell? ⟨mb,2,none⟩=some a2/\W.cell? ⟨mb,3,none⟩=some a3/\W.cell? ⟨mb,4,none⟩=some a4/\W.cell? ⟨mb,5,none⟩=some a5/\W.cell? ⟨mb,6,none⟩=some a6/\W.cell? ⟨mb,7,none⟩=some a7/\W.cell? ⟨mb,8,none⟩=some a8/\W.cell? ⟨mb,9,none⟩=some a9/\W.cell? ⟨mb,10,none⟩=some dY/\W.cell? ⟨mb,11,none⟩=some dX/\W.cell? ⟨mb,12,none⟩=some a12:=by
 refine ⟨?_,?_,?_,?_,?_,?_,?_,?_,?_,?_,?_,?_,?_⟩ <;> (rw[AAC _ _ _ _ _ _ h];rfl)
theorem Le.keep (h:Le w W A d c x A' c') (hd:BG w A d) (hx:OZ w x A') (hb:Below w.heap.size w W') (hs:W.heap.size<=W'.heap.size) (hk:∀q,q<w.heap.size+2->W'.heap[q]? = W.heap[q]?):Le w W' A d c x A' c' :=
 ⟨⟨ABa h.db.lt hs,(World.cell?_of_block (w:=W) (w':=W') (a:=⟨w.heap.size,0,none⟩) (hk _ (by simp only;omega))).trans h.db.cell,hd.below hb,hb⟩,(hk _ (by omega)).trans h.nb,hx.below hb⟩
theorem Le.Cm (h:Le w W A d c x A' c'):Below w.heap.size w W:=h.db.below
theorem Le.sz (h:Le w W A d c x A' c'):w.heap.size+2<=W.heap.size:=by have:=h.nb.blt;omega
theorem J8.snoc {i:Nat} {rec:Bool} {k base:Nat} {v v':Value} {ms:List Ac} (h:J8 d i rec n k base W v ms) {m:Ac} (hi:m.id=(k:Int)+1) (hn:m.name=Tz 109 (k+1)) (ht:0<=m.type/\m.type<(n:Int)) (hm:Ri rec m=true) (hf:KF m.dflt) (hI:mW d i m) (ho:W'.ownsRow base 118 13 v' (ms.length+1) (ms.flatMap dJ++dJ m)):J8 d i rec n (k+1) base W' v' (ms++[m]) :=
 ⟨AZ.snoc ho,h.ok.snoc (by rw[hi];simp) hn ht hm,fun y hy=>by
  rcases ABY.1 hy with a|a
  ·exact h.flat y a
  ·obtain rfl:y=m:=by simpa using a
   exact hf,fun y hy=>by
  rcases ABY.1 hy with a|a
  ·exact h.tJ y a
  ·obtain rfl:y=m:=by simpa using a
   exact hI⟩
def dh (d:List AR) (i:Nat) (rec:Bool) (n:Nat) (w:World) (e:Ending) (w':World):Prop:=∃v ms,e = .returned v/\J8 d i rec n 12 w.heap.size w' v ms/\Below w.heap.size w w'
theorem RY (d : List AR) (i : Nat) (rec : Bool) (A : zo) (c : Nat) (w : World) (hd : BG w A d) (hi : i < d.length) :
    Calls prog 39 #[EA A d.length c, .int .i64 i, .bool rec] w (dh d i rec d.length w) := by
  have hn := hd.1.lt (by omega)
  obtain ⟨b, o, A', c', rfl, hr, c0, c1, c2, c3, c4⟩ := hd.YK hi;generalize d.getD i Bo = x at *;have HI := zh (Le.new (c := c) hd hr c');have HD0 := zh hd;have Ob := zh hr;have h1 : (0:Int) <= (i:Int) := by omega
  have h2 : (i : Int) < (d.length : Int) := by omega
  have hz := zL c0;simp only at hz;clear hd hr
  go_enter func39, ntmps39
  go_wp2
  clear c0 c1 c2 c3 c4;generalize (w.alloc (.cells #[.slice (some ⟨b, o, none⟩) d.length c] 24)).alloc (x.box A' c') = wc at *
  go_loopw [8, 9] (fun v s wr => ∃ (k : Nat) (ms : List Ac), k <= 12 /\ s = .int .i64 ((k : Int) + 1) /\ Hid (J8 d i rec d.length k (w.heap.size + 2) wr v ms /\ Le w wr (some ⟨b, o, none⟩) d c x A' c')) (fun _ s _ => 13 - (intOf s).toNat)
  case atStart => exact ⟨0, [], by omega, rfl, ⟨AZ.nil _ _, EM.nil _ _ _, fun _ h => (by cases h), fun _ h => by cases h⟩, HI.O⟩
  case round =>
    obtain ⟨k, ms, hk, rfl, hh⟩ := hrel;obtain ⟨wo, rfl⟩ : ∃ wo : World, wo = wr := ⟨_, rfl⟩;have uO := zh hh.O.1;have Zx := zh hh.O.2;clear hh
    by_cases hlt : k < 12
    · have hkt : (k : Int) + 1 <= 12 := by omega
      have EP := zh hlt;clear hlt;go_wp2
      go_loopw [8, 10] (fun v s wr => ∃ q : Nat, q <= x.parts.length /\ s = .int .i64 (q : Int) /\ Hid (J8 d i rec d.length k (w.heap.size + 2) wr v ms /\ Le w wr (some ⟨b, o, none⟩) d c x A' c')) (fun _ s _ => x.parts.length - (intOf s).toNat)
      case atStart => exact ⟨0, by omega, rfl, uO.O, Zx.O⟩
      case round =>
        obtain ⟨q, hq, rfl, hh⟩ := hrel;obtain ⟨wi, rfl⟩ : ∃ wi : World, wi = wr := ⟨_, rfl⟩;have HMI := zh hh.O.1;have HPI := zh hh.O.2;have hpn : x.parts.length <= 140737488355328 := by have := hh.O.2.nr.parts.1; unfold EF at this; omega
        have n4 : wi.cell? ⟨w.heap.size + 1, 4, none⟩ = some (.slice A' x.parts.length c') := hh.O.2.nb.cell 4;have hnl := hh.O.2.nb.blt;clear hh
        by_cases tO : q < x.parts.length
        · obtain ⟨pb, po, rfl, ⟨p1, p2, p3⟩, e0, e1, e2⟩ := HPI.O.nr.parts.at3 tO
          generalize x.parts[q] = pp at *;have hdc := HPI.O.db.cell;have hdl := HPI.O.db.lt;have hpe := zL e0;simp only at hpe;have g1 : (0:Int) <= (q:Int) := by omega
          have g2 : (q : Int) < (x.parts.length : Int) := by omega
          have uI := zh (zD wi (.cells #[.int .u8 pp.id, .int .u8 pp.type, .int .u8 pp.flag] 121));have HPX := zh (AAA wi (.cells #[.int .u8 pp.id, .int .u8 pp.type, .int .u8 pp.flag] 121));go_wp2_with fail;refine (XA d i pp.type _ c _ (HPI.O.below uI).db.nodes hi p2).mono ?_;rintro e w3 ⟨rfl, hb3⟩;have HTT := zh (@XB d i pp.type hi)
          have zm := zh (@Uf d i pp.type);generalize CY d i pp.type = T at *;have YU := zh ((HPI.O.below uI).below hb3);have Qw := zh ((HMI.O.below uI).below hb3);have hpx := (hb3.block _ (zg.1 HPX).1).trans HPX;have f0 : w3.cell? ⟨wi.heap.size, 0, none⟩ = some (.int .u8 pp.id) := by rw [AAC _ _ _ _ _ _ hpx]; rfl
          have f2 : w3.cell? ⟨wi.heap.size, 2, none⟩ = some (.int .u8 pp.flag) := by rw [AAC _ _ _ _ _ _ hpx]; rfl
          have hf := zL f0;have AGp := YU.O.db.cell;have AGo := YU.O.db.lt;simp only at hf;clear hpx hb3 e0 e1 e2 hdc hdl hpe n4 hnl;obtain ⟨E1, hE1⟩ : ∃ E, (1 + (pp.id : Int) % 12 != (k : Int) + 1) = E := ⟨_, rfl⟩
          cases E1 with
          | true =>
            go_wp2
            go_roundw
            case rel => exact ⟨q + 1, by omega, by go_num, Qw.O, YU.O⟩
            case measure => simp [intOf]; omega
          | false =>
            by_cases hT : T < 0
            · go_wp2
              go_roundw
              case rel => exact ⟨q + 1, by omega, by go_num, Qw.O, YU.O⟩
              case measure => simp [intOf]; omega
            · have hTd : decide (T < 0) = false := AAP hT
              have mg := zh (HTT.O hT);replace zm := zh (zm.O hT);obtain ⟨tn, rfl⟩ := AAh mg.O.1;clear hT HTT;obtain ⟨S, hS⟩ : ∃ S, Utf8.encode (97 + ((k : Int) + 1)) = S := ⟨_, rfl⟩;have HS : Hid (S = ⟨#[UInt8.ofNat (97 + (k + 1))]⟩) := by have := (O9 (n := k + 1) (by omega)).1; rw [<- hS]; exact this
              have hds : ¬ 9223372036854775807 < 1 + S.size := by have : S.size = 1 := by rw [HS.O]; rfl
                                                                  omega
              cases rec with
              | false =>
                go_upto_region 17 with fail
                have hx4 := AAA w3 (.cells #[.int .i64 ((k : Int) + 1), .string ((⟨#[109]⟩ : ByteArray) ++ S), .int .i64 (tn : Int), .bool false, .bool false, .int .i64 0, .bool false, .int .i64 0, .string ⟨#[]⟩, .int .i64 0, .slice none 0 0, .slice none 0 0, .slice none 0 0] 118)
                have lG := YU.O.below (zD w3 (.cells #[.int .i64 ((k : Int) + 1), .string ((⟨#[109]⟩ : ByteArray) ++ S), .int .i64 (tn : Int), .bool false, .bool false, .int .i64 0, .bool false, .int .i64 0, .string ⟨#[]⟩, .int .i64 0, .slice none 0 0, .slice none 0 0, .slice none 0 0] 118))
                have VY := Qw.O.below (zD w3 (.cells #[.int .i64 ((k : Int) + 1), .string ((⟨#[109]⟩ : ByteArray) ++ S), .int .i64 (tn : Int), .bool false, .bool false, .int .i64 0, .bool false, .int .i64 0, .string ⟨#[]⟩, .int .i64 0, .slice none 0 0, .slice none 0 0, .slice none 0 0] 118));have fJ := zh hx4;have Qc := zh lG;have GD := zh VY
                obtain ⟨m0, m1, m2, m3, m4, m5, m6, m7, m8, m9, m10, m11, m12⟩ := Jo hx4;have hmb := (zg.1 hx4).1;clear hx4 lG VY;generalize w3.alloc (.cells #[.int .i64 ((k : Int) + 1), .string ((⟨#[109]⟩ : ByteArray) ++ S), .int .i64 (tn : Int), .bool false, .bool false, .int .i64 0, .bool false, .int .i64 0, .string ⟨#[]⟩, .int .i64 0, .slice none 0 0, .slice none 0 0, .slice none 0 0] 118) = W4 at *
                have Lv := zh (AZ.alloc GD.O.own (.cells #[.int .i64 ((k : Int) + 1), .string ((⟨#[109]⟩ : ByteArray) ++ S), .int .i64 (tn : Int), .bool false, .bool false, .int .i64 0, .bool false, .int .i64 0, .string ⟨#[]⟩, .int .i64 0, .slice none 0 0, .slice none 0 0, .slice none 0 0] 118))
                have Ov : Hid ((W4.alloc (.cells #[.int .i64 ((k : Int) + 1), .string ((⟨#[109]⟩ : ByteArray) ++ S), .int .i64 (tn : Int), .bool false, .bool false, .int .i64 0, .bool false, .int .i64 0, .string ⟨#[]⟩, .int .i64 0, .slice none 0 0, .slice none 0 0, .slice none 0 0] 118)).rangeAt W4.heap.size 0 [.int .i64 ((k : Int) + 1), .string ((⟨#[109]⟩ : ByteArray) ++ S), .int .i64 (tn : Int), .bool false, .bool false, .int .i64 0, .bool false, .int .i64 0, .string ⟨#[]⟩, .int .i64 0, .slice none 0 0, .slice none 0 0, .slice none 0 0]) := zh (zR W4 [.int .i64 ((k : Int) + 1), .string ((⟨#[109]⟩ : ByteArray) ++ S), .int .i64 (tn : Int), .bool false, .bool false, .int .i64 0, .bool false, .int .i64 0, .string ⟨#[]⟩, .int .i64 0, .slice none 0 0, .slice none 0 0, .slice none 0 0] 118)
                have M8 : Hid (w.heap.size + 2 <= (W4.alloc (.cells #[.int .i64 ((k : Int) + 1), .string ((⟨#[109]⟩ : ByteArray) ++ S), .int .i64 (tn : Int), .bool false, .bool false, .int .i64 0, .bool false, .int .i64 0, .string ⟨#[]⟩, .int .i64 0, .slice none 0 0, .slice none 0 0, .slice none 0 0] 118)).heap.size) := by have := Qc.O.sz; show _ <= _; simp; omega
                have UI := zh (GD.O.ok.mono (k' := 12) (by omega)).len
                go_wp2_with (at_builtin; refine yG Me _ rfl (.tmp 85) (.tmp 87) rfl (w.heap.size + 2) _ _ _ rfl Lv W4.heap.size 0 1 1 [.int .i64 ((k : Int) + 1), .string ((⟨#[109]⟩ : ByteArray) ++ S), .int .i64 (tn : Int), .bool false, .bool false, .int .i64 0, .bool false, .int .i64 0, .string ⟨#[]⟩, .int .i64 0, .slice none 0 0, .slice none 0 0, .slice none 0 0] rfl rfl Ov (Md ⟨(k : Int) + 1, (⟨#[109]⟩ : ByteArray) ++ S, (tn : Int), false, false, zeroV⟩) (by have := UI.O; omega) (by have := UI.O; omega) M8 ?_; intro v8 w8 BB Aw)
                go_roundw
                case rel =>
                  refine ⟨k + 1, ms ++ [⟨(k : Int) + 1, (⟨#[109]⟩ : ByteArray) ++ S, (tn : Int), false, false, zeroV⟩], by omega, by go_num, ?_⟩
                  have HG : Hid (Below w.heap.size w w8 /\ W4.heap.size <= w8.heap.size /\ ∀ q, q < w.heap.size + 2 -> w8.heap[q]? = W4.heap[q]?) := by
                    have hnew := zD W4 (.cells #[.int .i64 ((k : Int) + 1), .string ((⟨#[109]⟩ : ByteArray) ++ S), .int .i64 (tn : Int), .bool false, .bool false, .int .i64 0, .bool false, .int .i64 0, .string ⟨#[]⟩, .int .i64 0, .slice none 0 0, .slice none 0 0, .slice none 0 0] 118)
                    refine ⟨(zB Qc.O.Cm hnew).grown Aw (zB Qc.O.Cm hnew).size (fun q hq => by have := Lv.O.lt q hq; omega), Nat.le_trans hnew.size Aw.size, fun q hq => ?_⟩
                    exact (yA Aw (by have := M8.O; omega) (fun j hj e => by have := Lv.O.lt j hj; omega)).trans (hnew.block q (by have := Qc.O.sz; omega))
                  exact ⟨J8.snoc (m := ⟨(k : Int) + 1, (⟨#[109]⟩ : ByteArray) ++ S, (tn : Int), false, false, zeroV⟩) GD rfl (by rw [HS.O]; exact QA 109 (k + 1)) mg rfl ⟨(by decide : (⟨#[]⟩ : ByteArray).size <= 1 /\ (0 : Int) ≠ 5 /\ (0 : Int) ≠ 6), rfl, rfl, rfl⟩ ⟨(fun h => by cases h), zm.O⟩ BB, Qc.O.keep HD0 Ob HG.O.1 HG.O.2.1 HG.O.2.2⟩
                case measure => simp [intOf]; omega
              | true =>
                obtain ⟨E3, hE3⟩ : ∃ E, ((pp.flag : Int) % 4 == 1) = E := ⟨_, rfl⟩;obtain ⟨E4, hE4⟩ : ∃ E, decide (2 <= (pp.flag : Int) % 4) = E := ⟨_, rfl⟩
                cases E3 with
                | true =>
                  have hE5 : E4 = false := by rw [<- hE4]; simp at hE3; simp; omega
                  subst hE5;go_upto_region 17 with fail
                  have hx4 := AAA w3 (.cells #[.int .i64 ((k : Int) + 1), .string ((⟨#[109]⟩ : ByteArray) ++ S), .int .i64 (tn : Int), .bool true, .bool false, .int .i64 0, .bool false, .int .i64 0, .string ⟨#[]⟩, .int .i64 0, .slice none 0 0, .slice none 0 0, .slice none 0 0] 118)
                  have lG := YU.O.below (zD w3 (.cells #[.int .i64 ((k : Int) + 1), .string ((⟨#[109]⟩ : ByteArray) ++ S), .int .i64 (tn : Int), .bool true, .bool false, .int .i64 0, .bool false, .int .i64 0, .string ⟨#[]⟩, .int .i64 0, .slice none 0 0, .slice none 0 0, .slice none 0 0] 118))
                  have VY := Qw.O.below (zD w3 (.cells #[.int .i64 ((k : Int) + 1), .string ((⟨#[109]⟩ : ByteArray) ++ S), .int .i64 (tn : Int), .bool true, .bool false, .int .i64 0, .bool false, .int .i64 0, .string ⟨#[]⟩, .int .i64 0, .slice none 0 0, .slice none 0 0, .slice none 0 0] 118));have fJ := zh hx4;have Qc := zh lG;have GD := zh VY
                  obtain ⟨m0, m1, m2, m3, m4, m5, m6, m7, m8, m9, m10, m11, m12⟩ := Jo hx4;have hmb := (zg.1 hx4).1;clear hx4 lG VY;generalize w3.alloc (.cells #[.int .i64 ((k : Int) + 1), .string ((⟨#[109]⟩ : ByteArray) ++ S), .int .i64 (tn : Int), .bool true, .bool false, .int .i64 0, .bool false, .int .i64 0, .string ⟨#[]⟩, .int .i64 0, .slice none 0 0, .slice none 0 0, .slice none 0 0] 118) = W4 at *
                  have Lv := zh (AZ.alloc GD.O.own (.cells #[.int .i64 ((k : Int) + 1), .string ((⟨#[109]⟩ : ByteArray) ++ S), .int .i64 (tn : Int), .bool true, .bool false, .int .i64 0, .bool false, .int .i64 0, .string ⟨#[]⟩, .int .i64 0, .slice none 0 0, .slice none 0 0, .slice none 0 0] 118))
                  have Ov : Hid ((W4.alloc (.cells #[.int .i64 ((k : Int) + 1), .string ((⟨#[109]⟩ : ByteArray) ++ S), .int .i64 (tn : Int), .bool true, .bool false, .int .i64 0, .bool false, .int .i64 0, .string ⟨#[]⟩, .int .i64 0, .slice none 0 0, .slice none 0 0, .slice none 0 0] 118)).rangeAt W4.heap.size 0 [.int .i64 ((k : Int) + 1), .string ((⟨#[109]⟩ : ByteArray) ++ S), .int .i64 (tn : Int), .bool true, .bool false, .int .i64 0, .bool false, .int .i64 0, .string ⟨#[]⟩, .int .i64 0, .slice none 0 0, .slice none 0 0, .slice none 0 0]) := zh (zR W4 [.int .i64 ((k : Int) + 1), .string ((⟨#[109]⟩ : ByteArray) ++ S), .int .i64 (tn : Int), .bool true, .bool false, .int .i64 0, .bool false, .int .i64 0, .string ⟨#[]⟩, .int .i64 0, .slice none 0 0, .slice none 0 0, .slice none 0 0] 118)
                  have M8 : Hid (w.heap.size + 2 <= (W4.alloc (.cells #[.int .i64 ((k : Int) + 1), .string ((⟨#[109]⟩ : ByteArray) ++ S), .int .i64 (tn : Int), .bool true, .bool false, .int .i64 0, .bool false, .int .i64 0, .string ⟨#[]⟩, .int .i64 0, .slice none 0 0, .slice none 0 0, .slice none 0 0] 118)).heap.size) := by have := Qc.O.sz; show _ <= _; simp; omega
                  have UI := zh (GD.O.ok.mono (k' := 12) (by omega)).len
                  go_wp2_with (at_builtin; refine yG Me _ rfl (.tmp 85) (.tmp 87) rfl (w.heap.size + 2) _ _ _ rfl Lv W4.heap.size 0 1 1 [.int .i64 ((k : Int) + 1), .string ((⟨#[109]⟩ : ByteArray) ++ S), .int .i64 (tn : Int), .bool true, .bool false, .int .i64 0, .bool false, .int .i64 0, .string ⟨#[]⟩, .int .i64 0, .slice none 0 0, .slice none 0 0, .slice none 0 0] rfl rfl Ov (Md ⟨(k : Int) + 1, (⟨#[109]⟩ : ByteArray) ++ S, (tn : Int), true, false, zeroV⟩) (by have := UI.O; omega) (by have := UI.O; omega) M8 ?_; intro v8 w8 BB Aw)
                  go_roundw
                  case rel =>
                    refine ⟨k + 1, ms ++ [⟨(k : Int) + 1, (⟨#[109]⟩ : ByteArray) ++ S, (tn : Int), true, false, zeroV⟩], by omega, by go_num, ?_⟩
                    have HG : Hid (Below w.heap.size w w8 /\ W4.heap.size <= w8.heap.size /\ ∀ q, q < w.heap.size + 2 -> w8.heap[q]? = W4.heap[q]?) := by
                      have hnew := zD W4 (.cells #[.int .i64 ((k : Int) + 1), .string ((⟨#[109]⟩ : ByteArray) ++ S), .int .i64 (tn : Int), .bool true, .bool false, .int .i64 0, .bool false, .int .i64 0, .string ⟨#[]⟩, .int .i64 0, .slice none 0 0, .slice none 0 0, .slice none 0 0] 118)
                      refine ⟨(zB Qc.O.Cm hnew).grown Aw (zB Qc.O.Cm hnew).size (fun q hq => by have := Lv.O.lt q hq; omega), Nat.le_trans hnew.size Aw.size, fun q hq => ?_⟩
                      exact (yA Aw (by have := M8.O; omega) (fun j hj e => by have := Lv.O.lt j hj; omega)).trans (hnew.block q (by have := Qc.O.sz; omega))
                    exact ⟨J8.snoc (m := ⟨(k : Int) + 1, (⟨#[109]⟩ : ByteArray) ++ S, (tn : Int), true, false, zeroV⟩) GD rfl (by rw [HS.O]; exact QA 109 (k + 1)) mg rfl ⟨(by decide : (⟨#[]⟩ : ByteArray).size <= 1 /\ (0 : Int) ≠ 5 /\ (0 : Int) ≠ 6), rfl, rfl, rfl⟩ ⟨(fun h => by cases h), zm.O⟩ BB, Qc.O.keep HD0 Ob HG.O.1 HG.O.2.1 HG.O.2.2⟩
                  case measure => simp [intOf]; omega
                | false =>
                  cases E4 with
                  | false =>
                    go_upto_region 17 with fail
                    have hx4 := AAA w3 (.cells #[.int .i64 ((k : Int) + 1), .string ((⟨#[109]⟩ : ByteArray) ++ S), .int .i64 (tn : Int), .bool false, .bool false, .int .i64 0, .bool false, .int .i64 0, .string ⟨#[]⟩, .int .i64 0, .slice none 0 0, .slice none 0 0, .slice none 0 0] 118)
                    have lG := YU.O.below (zD w3 (.cells #[.int .i64 ((k : Int) + 1), .string ((⟨#[109]⟩ : ByteArray) ++ S), .int .i64 (tn : Int), .bool false, .bool false, .int .i64 0, .bool false, .int .i64 0, .string ⟨#[]⟩, .int .i64 0, .slice none 0 0, .slice none 0 0, .slice none 0 0] 118))
                    have VY := Qw.O.below (zD w3 (.cells #[.int .i64 ((k : Int) + 1), .string ((⟨#[109]⟩ : ByteArray) ++ S), .int .i64 (tn : Int), .bool false, .bool false, .int .i64 0, .bool false, .int .i64 0, .string ⟨#[]⟩, .int .i64 0, .slice none 0 0, .slice none 0 0, .slice none 0 0] 118));have fJ := zh hx4;have Qc := zh lG;have GD := zh VY
                    obtain ⟨m0, m1, m2, m3, m4, m5, m6, m7, m8, m9, m10, m11, m12⟩ := Jo hx4;have hmb := (zg.1 hx4).1;clear hx4 lG VY;generalize w3.alloc (.cells #[.int .i64 ((k : Int) + 1), .string ((⟨#[109]⟩ : ByteArray) ++ S), .int .i64 (tn : Int), .bool false, .bool false, .int .i64 0, .bool false, .int .i64 0, .string ⟨#[]⟩, .int .i64 0, .slice none 0 0, .slice none 0 0, .slice none 0 0] 118) = W4 at *
                    have Lv := zh (AZ.alloc GD.O.own (.cells #[.int .i64 ((k : Int) + 1), .string ((⟨#[109]⟩ : ByteArray) ++ S), .int .i64 (tn : Int), .bool false, .bool false, .int .i64 0, .bool false, .int .i64 0, .string ⟨#[]⟩, .int .i64 0, .slice none 0 0, .slice none 0 0, .slice none 0 0] 118))
                    have Ov : Hid ((W4.alloc (.cells #[.int .i64 ((k : Int) + 1), .string ((⟨#[109]⟩ : ByteArray) ++ S), .int .i64 (tn : Int), .bool false, .bool false, .int .i64 0, .bool false, .int .i64 0, .string ⟨#[]⟩, .int .i64 0, .slice none 0 0, .slice none 0 0, .slice none 0 0] 118)).rangeAt W4.heap.size 0 [.int .i64 ((k : Int) + 1), .string ((⟨#[109]⟩ : ByteArray) ++ S), .int .i64 (tn : Int), .bool false, .bool false, .int .i64 0, .bool false, .int .i64 0, .string ⟨#[]⟩, .int .i64 0, .slice none 0 0, .slice none 0 0, .slice none 0 0]) := zh (zR W4 [.int .i64 ((k : Int) + 1), .string ((⟨#[109]⟩ : ByteArray) ++ S), .int .i64 (tn : Int), .bool false, .bool false, .int .i64 0, .bool false, .int .i64 0, .string ⟨#[]⟩, .int .i64 0, .slice none 0 0, .slice none 0 0, .slice none 0 0] 118)
                    have M8 : Hid (w.heap.size + 2 <= (W4.alloc (.cells #[.int .i64 ((k : Int) + 1), .string ((⟨#[109]⟩ : ByteArray) ++ S), .int .i64 (tn : Int), .bool false, .bool false, .int .i64 0, .bool false, .int .i64 0, .string ⟨#[]⟩, .int .i64 0, .slice none 0 0, .slice none 0 0, .slice none 0 0] 118)).heap.size) := by have := Qc.O.sz; show _ <= _; simp; omega
                    have UI := zh (GD.O.ok.mono (k' := 12) (by omega)).len
                    go_wp2_with (at_builtin; refine yG Me _ rfl (.tmp 85) (.tmp 87) rfl (w.heap.size + 2) _ _ _ rfl Lv W4.heap.size 0 1 1 [.int .i64 ((k : Int) + 1), .string ((⟨#[109]⟩ : ByteArray) ++ S), .int .i64 (tn : Int), .bool false, .bool false, .int .i64 0, .bool false, .int .i64 0, .string ⟨#[]⟩, .int .i64 0, .slice none 0 0, .slice none 0 0, .slice none 0 0] rfl rfl Ov (Md ⟨(k : Int) + 1, (⟨#[109]⟩ : ByteArray) ++ S, (tn : Int), false, false, zeroV⟩) (by have := UI.O; omega) (by have := UI.O; omega) M8 ?_; intro v8 w8 BB Aw)
                    go_roundw
                    case rel =>
                      refine ⟨k + 1, ms ++ [⟨(k : Int) + 1, (⟨#[109]⟩ : ByteArray) ++ S, (tn : Int), false, false, zeroV⟩], by omega, by go_num, ?_⟩
                      have HG : Hid (Below w.heap.size w w8 /\ W4.heap.size <= w8.heap.size /\ ∀ q, q < w.heap.size + 2 -> w8.heap[q]? = W4.heap[q]?) := by
                        have hnew := zD W4 (.cells #[.int .i64 ((k : Int) + 1), .string ((⟨#[109]⟩ : ByteArray) ++ S), .int .i64 (tn : Int), .bool false, .bool false, .int .i64 0, .bool false, .int .i64 0, .string ⟨#[]⟩, .int .i64 0, .slice none 0 0, .slice none 0 0, .slice none 0 0] 118)
                        refine ⟨(zB Qc.O.Cm hnew).grown Aw (zB Qc.O.Cm hnew).size (fun q hq => by have := Lv.O.lt q hq; omega), Nat.le_trans hnew.size Aw.size, fun q hq => ?_⟩
                        exact (yA Aw (by have := M8.O; omega) (fun j hj e => by have := Lv.O.lt j hj; omega)).trans (hnew.block q (by have := Qc.O.sz; omega))
                      exact ⟨J8.snoc (m := ⟨(k : Int) + 1, (⟨#[109]⟩ : ByteArray) ++ S, (tn : Int), false, false, zeroV⟩) GD rfl (by rw [HS.O]; exact QA 109 (k + 1)) mg rfl ⟨(by decide : (⟨#[]⟩ : ByteArray).size <= 1 /\ (0 : Int) ≠ 5 /\ (0 : Int) ≠ 6), rfl, rfl, rfl⟩ ⟨(fun h => by cases h), zm.O⟩ BB, Qc.O.keep HD0 Ob HG.O.1 HG.O.2.1 HG.O.2.2⟩
                    case measure => simp [intOf]; omega
                  | true =>
                    obtain ⟨fq, hfq⟩ : ∃ fq : Nat, fq = pp.flag / 4 := ⟨_, rfl⟩;have efq : (pp.flag : Int) / 4 = (fq : Int) := by rw [hfq]; simp
                    have hfl : fq < 256 := by omega
                    clear hfq;go_wp2_with fail;have hx3 := AAA w3 (.cells #[.int .i64 ((k : Int) + 1), .string ((⟨#[109]⟩ : ByteArray) ++ S), .int .i64 (tn : Int), .bool false, .bool false, .int .i64 0, .bool false, .int .i64 0, .string ⟨#[]⟩, .int .i64 0, .slice none 0 0, .slice none 0 0, .slice none 0 0] 118)
                    have hp3 := YU.O.below (zD w3 (.cells #[.int .i64 ((k : Int) + 1), .string ((⟨#[109]⟩ : ByteArray) ++ S), .int .i64 (tn : Int), .bool false, .bool false, .int .i64 0, .bool false, .int .i64 0, .string ⟨#[]⟩, .int .i64 0, .slice none 0 0, .slice none 0 0, .slice none 0 0] 118))
                    have qh := Qw.O.below (zD w3 (.cells #[.int .i64 ((k : Int) + 1), .string ((⟨#[109]⟩ : ByteArray) ++ S), .int .i64 (tn : Int), .bool false, .bool false, .int .i64 0, .bool false, .int .i64 0, .string ⟨#[]⟩, .int .i64 0, .slice none 0 0, .slice none 0 0, .slice none 0 0] 118));refine (VU d tn fq _ c _ hp3.db.nodes (by have := mg.O; omega) (by omega)).mono ?_
                    rintro e w5 ⟨x5, ok, rfl, ADN, hz5, hb5, lH⟩;obtain ⟨xk, xb, xi, xs, xn, ks, is, rs⟩ := x5;obtain ⟨hs5, hk5, hi5, hr5⟩ := ADN;simp only [Val.keys, Val.items, Val.rest, Val.str] at hk5 hi5 hr5 hs5;subst hk5 hi5 hr5
                    dsimp only [Val.v, Val.kind, Val.bool, Val.int, Val.str, Val.id, Val.keys, Val.items, Val.rest, List.length_nil]
                    have HS5 := zh hs5;have HZ5 := zh hz5;have WS := zh lH;have hx5 := (hb5.block _ (zg.1 hx3).1).trans hx3;have hp5 := hp3.below hb5;have Wj := qh.below hb5;have KC := zh (kD hx5);have hmb := (zg.1 hx5).1;have h3z := YU.O.sz;have hx6 := vg hx5 (.int .i64 xk) (.bool xb) (.int .i64 xi) (.string xs) (.int .i64 xn) (.slice none 0 0) (.slice none 0 0) (.slice none 0 0);have JQ := zh hx6
                    have Wm := zh (hp5.keep (W' := w5.setCells w3.heap.size 5 [.int .i64 xk, .bool xb, .int .i64 xi, .string xs, .int .i64 xn, .slice none 0 0, .slice none 0 0, .slice none 0 0]) HD0 Ob (yC _ (by omega) _ _ _ hp5.Cm) (by rw [size_setCells]; exact AAF _) (fun q hq => zN (by omega) _ _ _))
                    have Gz : Hid (J8 d i true d.length k (w.heap.size + 2) (w5.setCells w3.heap.size 5 [.int .i64 xk, .bool xb, .int .i64 xi, .string xs, .int .i64 xn, .slice none 0 0, .slice none 0 0, .slice none 0 0]) u8 ms) := ⟨Wj.own.keep fun g _ _ hg => zN (fun e => by have := (World.ownsRow.lt Qw.O.own g hg).2; omega) _ _ _, Wj.ok, Wj.flat, Wj.tJ⟩
                    have f4 := AAG _ _ 4 _ _ hx6;have c4 := (Jo hx6).2.2.2.2.1;have hm6 := (zg.1 hx6).1;clear hx3 hp3 qh hb5 hs5 hz5 lH hx5 hp5 Wj hmb h3z hx6
                    go_upto_region 17 with (refine wpList_store_mid rfl 28 (.tmp 83) (.tmp 81) rfl w3.heap.size 5 #[.int .i64 xk, .bool xb, .int .i64 xi, .string xs, .int .i64 xn, .slice none 0 0, .slice none 0 0, .slice none 0 0] (by rfl) (by rfl) ?_ ?_ ?_ ?_; (exact KC.O); (exact zW); (exact val_one (Val.mk xk xb xi xs xn [] [] []) none 0 none 0 none 0); (generalize w5.setCells w3.heap.size 5 [.int .i64 xk, .bool xb, .int .i64 xi, .string xs, .int .i64 xn, .slice none 0 0, .slice none 0 0, .slice none 0 0] = W6 at *))
                    have h3z := YU.O.sz
                    have hx4 : (W6.setCell ⟨w3.heap.size, 4, none⟩ (.bool ok)).heap[w3.heap.size]? = some (.cells #[.int .i64 ((k : Int) + 1), .string ((⟨#[109]⟩ : ByteArray) ++ S), .int .i64 (tn : Int), .bool false, .bool ok, .int .i64 xk, .bool xb, .int .i64 xi, .string xs, .int .i64 xn, .slice none 0 0, .slice none 0 0, .slice none 0 0] 118 (0, 0)) := by rw [AAK _ _ 4 _ _ _ JQ.O]; simp
                    have lG := Wm.O.keep (W' := W6.setCell ⟨w3.heap.size, 4, none⟩ (.bool ok)) HD0 Ob (Wm.O.Cm.setCell (p := ⟨w3.heap.size, 4, none⟩) (by simp only; omega) _) (by simp) (fun q hq => AAE _ _ _ _ (by simp only; omega))
                    have VY : J8 d i true d.length k (w.heap.size + 2) (W6.setCell ⟨w3.heap.size, 4, none⟩ (.bool ok)) u8 ms := ⟨Gz.O.own.keep fun g _ _ hg => AAE _ _ _ _ (fun e => by have := (World.ownsRow.lt Qw.O.own g hg).2; simp only at e; omega), Gz.O.ok, Gz.O.flat, Gz.O.tJ⟩
                    clear f4 c4 hm6 h3z JQ Wm Gz;have fJ := zh hx4;have Qc := zh lG;have GD := zh VY;obtain ⟨m0, m1, m2, m3, m4, m5, m6, m7, m8, m9, m10, m11, m12⟩ := Jo hx4;have hmb := (zg.1 hx4).1;clear hx4 lG VY;generalize W6.setCell ⟨w3.heap.size, 4, none⟩ (.bool ok) = W4 at *
                    have Lv := zh (AZ.alloc GD.O.own (.cells #[.int .i64 ((k : Int) + 1), .string ((⟨#[109]⟩ : ByteArray) ++ S), .int .i64 (tn : Int), .bool false, .bool ok, .int .i64 xk, .bool xb, .int .i64 xi, .string xs, .int .i64 xn, .slice none 0 0, .slice none 0 0, .slice none 0 0] 118))
                    have Ov : Hid ((W4.alloc (.cells #[.int .i64 ((k : Int) + 1), .string ((⟨#[109]⟩ : ByteArray) ++ S), .int .i64 (tn : Int), .bool false, .bool ok, .int .i64 xk, .bool xb, .int .i64 xi, .string xs, .int .i64 xn, .slice none 0 0, .slice none 0 0, .slice none 0 0] 118)).rangeAt W4.heap.size 0 [.int .i64 ((k : Int) + 1), .string ((⟨#[109]⟩ : ByteArray) ++ S), .int .i64 (tn : Int), .bool false, .bool ok, .int .i64 xk, .bool xb, .int .i64 xi, .string xs, .int .i64 xn, .slice none 0 0, .slice none 0 0, .slice none 0 0]) := zh (zR W4 [.int .i64 ((k : Int) + 1), .string ((⟨#[109]⟩ : ByteArray) ++ S), .int .i64 (tn : Int), .bool false, .bool ok, .int .i64 xk, .bool xb, .int .i64 xi, .string xs, .int .i64 xn, .slice none 0 0, .slice none 0 0, .slice none 0 0] 118)
                    have M8 : Hid (w.heap.size + 2 <= (W4.alloc (.cells #[.int .i64 ((k : Int) + 1), .string ((⟨#[109]⟩ : ByteArray) ++ S), .int .i64 (tn : Int), .bool false, .bool ok, .int .i64 xk, .bool xb, .int .i64 xi, .string xs, .int .i64 xn, .slice none 0 0, .slice none 0 0, .slice none 0 0] 118)).heap.size) := by have := Qc.O.sz; show _ <= _; simp; omega
                    have UI := zh (GD.O.ok.mono (k' := 12) (by omega)).len
                    go_wp2_with (at_builtin; refine yG Me _ rfl (.tmp 85) (.tmp 87) rfl (w.heap.size + 2) _ _ _ rfl Lv W4.heap.size 0 1 1 [.int .i64 ((k : Int) + 1), .string ((⟨#[109]⟩ : ByteArray) ++ S), .int .i64 (tn : Int), .bool false, .bool ok, .int .i64 xk, .bool xb, .int .i64 xi, .string xs, .int .i64 xn, .slice none 0 0, .slice none 0 0, .slice none 0 0] rfl rfl Ov (Md ⟨(k : Int) + 1, (⟨#[109]⟩ : ByteArray) ++ S, (tn : Int), false, ok, Val.mk xk xb xi xs xn [] [] []⟩) (by have := UI.O; omega) (by have := UI.O; omega) M8 ?_; intro v8 w8 BB Aw)
                    go_roundw
                    case rel =>
                      refine ⟨k + 1, ms ++ [⟨(k : Int) + 1, (⟨#[109]⟩ : ByteArray) ++ S, (tn : Int), false, ok, Val.mk xk xb xi xs xn [] [] []⟩], by omega, by go_num, ?_⟩
                      have HG : Hid (Below w.heap.size w w8 /\ W4.heap.size <= w8.heap.size /\ ∀ q, q < w.heap.size + 2 -> w8.heap[q]? = W4.heap[q]?) := by
                        have hnew := zD W4 (.cells #[.int .i64 ((k : Int) + 1), .string ((⟨#[109]⟩ : ByteArray) ++ S), .int .i64 (tn : Int), .bool false, .bool ok, .int .i64 xk, .bool xb, .int .i64 xi, .string xs, .int .i64 xn, .slice none 0 0, .slice none 0 0, .slice none 0 0] 118)
                        refine ⟨(zB Qc.O.Cm hnew).grown Aw (zB Qc.O.Cm hnew).size (fun q hq => by have := Lv.O.lt q hq; omega), Nat.le_trans hnew.size Aw.size, fun q hq => ?_⟩
                        exact (yA Aw (by have := M8.O; omega) (fun j hj e => by have := Lv.O.lt j hj; omega)).trans (hnew.block q (by have := Qc.O.sz; omega))
                      exact ⟨J8.snoc (m := ⟨(k : Int) + 1, (⟨#[109]⟩ : ByteArray) ++ S, (tn : Int), false, ok, Val.mk xk xb xi xs xn [] [] []⟩) GD rfl (by rw [HS.O]; exact QA 109 (k + 1)) mg (by cases ok with
                        | true => rfl
                        | false => (have := HZ5.O rfl; rw [this]; rfl)) ⟨HS5.O, rfl, rfl, rfl⟩ ⟨WS.O, zm.O⟩ BB, Qc.O.keep HD0 Ob HG.O.1 HG.O.2.1 HG.O.2.2⟩
                    case measure => simp [intOf]; omega
        · go_wp2
          go_roundw
          case rel => exact ⟨k + 1, ms, by omega, by go_num, ⟨HMI.O.own, HMI.O.ok.mono (by omega), HMI.O.flat, HMI.O.tJ⟩, HPI.O⟩
          case measure => simp [intOf]; omega
    · have hkt : ¬ ((k : Int) + 1 <= 12) := by omega
      obtain rfl : k = 12 := by omega
      go_wp2
      go_ret
      exact ⟨_, ms, rfl, ⟨⟨uO.O.own.1, uO.O.own.2.imp id fun ⟨g, cap, cur, h1, h2, h3⟩ => ⟨g, cap, cur, h1, by omega, h3⟩⟩, uO.O.ok, uO.O.flat, uO.O.tJ⟩, Zx.O.Cm⟩
