/-
  Walks: the members of a draft's node.
-/
import Derived.Test.YthkkllmmbefedaaGreatDoorQGB1
import Derived.Test.YthkkllmmbefedaaGreatDoorQGA6
namespace Go.Proofs.YthkkllmmbefedaaGreatDoor
open Go.RowKit
set_option maxHeartbeats 16000000
set_option maxRecDepth 100000
def DN (d:List AX) (t:Nat) (w:World) (e:Ending) (w':World):Prop:=∃x ok,e = .returned (.tuple #[x.v none 0 none 0 none 0,.bool ok])/\JK x/\(ok=false->x=zeroV)/\Below w.heap.size w w'/\(ok=true->Mh d t x)
structure Hw (w W:World) (A:zo) (d:List AX) (c:Nat) (x:AX) (A':zo) (c':Nat):Prop where
 db:KH w W A d c
 rb:W.heap[w.heap.size+1]? = some Em
 nb:Gb W (w.heap.size+1+1) x A' c'
variable {d:List AX} {c c':Nat} {x:AX} {W W' w:World} {A A':zo}
theorem Hw.below (h:Hw w W A d c x A' c') (hb:Below W.heap.size W W'):Hw w W' A d c x A' c' :=
 ⟨h.db.step hb,(hb.block _ (zg.1 h.rb).1).trans h.rb,h.nb.below hb⟩
theorem Hw.new (h:BM w A d) (x:AX) (A':zo) (c':Nat):Hw w (((w.alloc (.cells #[.slice A d.length c] 24)).alloc Em).alloc (x.box A' c')) A d c x A' c':=by
 have hz:(w.alloc (.cells #[.slice A d.length c] 24)).heap.size=w.heap.size+1:=by simp
 have hz2:((w.alloc (.cells #[.slice A d.length c] 24)).alloc Em).heap.size=w.heap.size+1+1:=by simp
 refine ⟨((KH.new h).step (zD _ _)).step (zD _ _),EP ?_ _,?_⟩
 ·have:=AAC (w.alloc (.cells #[.slice A d.length c] 24)) Em
  rw[hz] at this;exact this
 ·have:=Gb.new ((w.alloc (.cells #[.slice A d.length c] 24)).alloc Em) x A' c'
  rw[hz2] at this;exact this
theorem Ck (k:Int) (b:Bool) (i:Int) (s:ByteArray) (n:Int) (hs:s.size<=1/\k≠5/\k≠6) (hth:W.there (w.heap.size+1) 0 8) (hb:Below w.heap.size w W):
  let W':=W.setCells (w.heap.size+1) 0 [.int .i64 k,.bool b,.int .i64 i,.string s,.int .i64 n,.slice none 0 0,.slice none 0 0,.slice none 0 0]
  (W'.cell? ⟨w.heap.size+1,0,none⟩=some (.int .i64 k)/\W'.cell? ⟨w.heap.size+1,1,none⟩=some (.bool b)/\W'.cell? ⟨w.heap.size+1,2,none⟩=some (.int .i64 i)/\W'.cell? ⟨w.heap.size+1,3,none⟩=some (.string s)/\W'.cell? ⟨w.heap.size+1,4,none⟩=some (.int .i64 n)/\W'.cell? ⟨w.heap.size+1,5,none⟩=some (.slice none 0 0)/\W'.cell? ⟨w.heap.size+1,6,none⟩=some (.slice none 0 0)/\W'.cell? ⟨w.heap.size+1,7,none⟩=some (.slice none 0 0)) /\
  Hid (JK (.mk k b i s n [] [] [])/\Below w.heap.size w W'):=by
 intro W'
 exact ⟨Jy (y := .mk k b i s n [] [] []) (World.rangeAt_setCells_same W (w.heap.size+1) 0 ((Val.mk k b i s n [] [] []).cs none 0 none 0 none 0) hth),⟨hs,rfl,rfl,rfl⟩,yC _ (by omega) _ _ _ hb⟩
theorem Bp (h:Hw w W A d c x A' c') (o:Obj):(W.alloc o).there (w.heap.size+1) 0 8:=DW (EP h.rb o)
theorem Cm (h:Hw w W A d c x A' c') (o:Obj):Below w.heap.size w (W.alloc o):=zB h.db.below (zD _ _)
theorem yK {s:ByteArray} (h:s.size<=100):Db s:=by unfold Db;omega
structure Gc (w W:World) (A:zo) (d:List AX) (c:Nat) (x:AX) (A':zo) (c' vb:Nat) (k:Int):Prop where
 st:Hw w W A d c x A' c'
 mG:W.heap[vb]? = some (.cells #[.int .i64 k,.bool false,.int .i64 0,.string ⟨#[]⟩,.int .i64 0,.slice none 0 0,.slice none 0 0,.slice none 0 0] 28 (0,0))
 ne:w.heap.size+1<vb
variable {k:Int} {vb:Nat}
theorem Gc.below (h:Gc w W A d c x A' c' vb k) (hb:Below W.heap.size W W'):Gc w W' A d c x A' c' vb k :=
 ⟨h.st.below hb,(hb.block _ (zg.1 h.mG).1).trans h.mG,h.ne⟩
theorem Gc.new (h:Hw w W A d c x A' c') (k:Int):Gc w (W.alloc (.cells #[.int .i64 k,.bool false,.int .i64 0,.string ⟨#[]⟩,.int .i64 0,.slice none 0 0,.slice none 0 0,.slice none 0 0] 28)) A d c x A' c' W.heap.size k :=
 ⟨h.below (zD _ _),AAC _ _,by have:=(zg.1 h.rb).1;omega⟩
theorem Gc.there (h:Gc w W A d c x A' c' vb k) (j:Nat) (v:Value):(W.setCell ⟨vb,j,none⟩ v).there (w.heap.size+1) 0 8 :=
 DW ((AAF _ _ _ _ (by have:=h.ne;show w.heap.size+1≠vb;omega)).trans h.st.rb)
theorem Gc.Bb (h:Gc w W A d c x A' c' vb k) (j:Nat) (v:Value):Below w.heap.size w (W.setCell ⟨vb,j,none⟩ v) :=
 h.st.db.below.setCell (p:=⟨vb,j,none⟩) (by have:=h.ne;show w.heap.size<=vb;omega) v
theorem EC (h:Gc w W A d c x A' c' vb k):
  ((W.cell? ⟨w.heap.size+1+1,0,none⟩=some (.int .u8 x.kind)/\W.cell? ⟨w.heap.size+1+1,1,none⟩=some (.int .u8 x.a)/\W.cell? ⟨w.heap.size+1+1,2,none⟩=some (.int .u8 x.b)/\W.cell? ⟨w.heap.size+1+1,3,none⟩=some (.int .u8 x.c)/\W.cell? ⟨w.heap.size+1+1,4,none⟩=some (.slice A' x.parts.length c'))/\(∀j,W.frozen? ⟨vb,j,none⟩=false)/\W.cell? ⟨vb,2,none⟩=some (.int .i64 0)/\W.cell? ⟨vb,4,none⟩=some (.int .i64 0))/\Hid (Gc w W A d c x A' c' vb k):=by
 refine ⟨⟨⟨h.st.nb.cell 0,h.st.nb.cell 1,h.st.nb.cell 2,h.st.nb.cell 3,h.st.nb.cell 4⟩,fun j=>AAL _ _ _ _ _ h.mG,?_,?_⟩,h⟩ <;> (rw[AAE _ _ _ _ _ _ h.mG];rfl)
theorem JY (h:Gc w W A d c x A' c' vb k) (j:Nat) (v:Value):∀q,(W.setCell ⟨vb,j,none⟩ v).cell? ⟨vb,q,none⟩=((#[.int .i64 k,.bool false,.int .i64 0,.string ⟨#[]⟩,.int .i64 0,.slice none 0 0,.slice none 0 0,.slice none 0 0]:Array Value).setIfInBounds j v)[q]? := fun q=>by
 rw[AAE _ _ _ _ _ _ (AAW _ _ _ _ _ _ h.mG)]
theorem R9 (h:Gc w W A d c x A' c' vb k):
  W.cell? ⟨vb,0,none⟩=some (.int .i64 k)/\W.cell? ⟨vb,1,none⟩=some (.bool false)/\W.cell? ⟨vb,2,none⟩=some (.int .i64 0)/\W.cell? ⟨vb,3,none⟩=some (.string ⟨#[]⟩)/\W.cell? ⟨vb,4,none⟩=some (.int .i64 0)/\W.cell? ⟨vb,5,none⟩=some (.slice none 0 0)/\W.cell? ⟨vb,6,none⟩=some (.slice none 0 0)/\W.cell? ⟨vb,7,none⟩=some (.slice none 0 0):=by
 refine ⟨?_,?_,?_,?_,?_,?_,?_,?_⟩ <;> (rw[AAE _ _ _ _ _ _ h.mG];rfl)
theorem Xb (h:Gc w W A d c x A' c' vb k) (z:Int):
  (W.setCell ⟨vb,2,none⟩ (.int .i64 z)).cell? ⟨vb,0,none⟩=some (.int .i64 k)/\(W.setCell ⟨vb,2,none⟩ (.int .i64 z)).cell? ⟨vb,1,none⟩=some (.bool false)/\(W.setCell ⟨vb,2,none⟩ (.int .i64 z)).cell? ⟨vb,2,none⟩=some (.int .i64 z)/\(W.setCell ⟨vb,2,none⟩ (.int .i64 z)).cell? ⟨vb,3,none⟩=some (.string ⟨#[]⟩)/\(W.setCell ⟨vb,2,none⟩ (.int .i64 z)).cell? ⟨vb,4,none⟩=some (.int .i64 0)/\(W.setCell ⟨vb,2,none⟩ (.int .i64 z)).cell? ⟨vb,5,none⟩=some (.slice none 0 0)/\(W.setCell ⟨vb,2,none⟩ (.int .i64 z)).cell? ⟨vb,6,none⟩=some (.slice none 0 0)/\(W.setCell ⟨vb,2,none⟩ (.int .i64 z)).cell? ⟨vb,7,none⟩=some (.slice none 0 0):=by
 refine ⟨?_,?_,?_,?_,?_,?_,?_,?_⟩ <;> (rw[JY h];rfl)
theorem Xa (h:Gc w W A d c x A' c' vb k) (z:Int):
  (W.setCell ⟨vb,4,none⟩ (.int .i64 z)).cell? ⟨vb,0,none⟩=some (.int .i64 k)/\(W.setCell ⟨vb,4,none⟩ (.int .i64 z)).cell? ⟨vb,1,none⟩=some (.bool false)/\(W.setCell ⟨vb,4,none⟩ (.int .i64 z)).cell? ⟨vb,2,none⟩=some (.int .i64 0)/\(W.setCell ⟨vb,4,none⟩ (.int .i64 z)).cell? ⟨vb,3,none⟩=some (.string ⟨#[]⟩)/\(W.setCell ⟨vb,4,none⟩ (.int .i64 z)).cell? ⟨vb,4,none⟩=some (.int .i64 z)/\(W.setCell ⟨vb,4,none⟩ (.int .i64 z)).cell? ⟨vb,5,none⟩=some (.slice none 0 0)/\(W.setCell ⟨vb,4,none⟩ (.int .i64 z)).cell? ⟨vb,6,none⟩=some (.slice none 0 0)/\(W.setCell ⟨vb,4,none⟩ (.int .i64 z)).cell? ⟨vb,7,none⟩=some (.slice none 0 0):=by
 refine ⟨?_,?_,?_,?_,?_,?_,?_,?_⟩ <;> (rw[JY h];rfl)
theorem bn (x:AX):IntKind.i64.wrap (IntKind.i64.wrap (Ep x - FD x)+1)=(x.b:Int) % 6+1:=by
 have h1:Ep x - FD x=((x.b % 6:Nat):Int):=by unfold Ep;omega
 rw[h1,IntWalk.i64_in (((x.b % 6:Nat):Int)) (by omega),IntWalk.i64_in _ (by omega)]
 simp
theorem Yd (d:List AX) (t code:Nat) (A:zo) (c:Nat) (w:World) (hd:BM w A d) (ht:t<d.length) (_:code<256) (hk:Ac d t=5) :
  Calls Tryz.prog 63 #[Dc A d.length c,.int .i64 t,.int .u8 code] w (DN d t w):=by
 have hn:=hd.1.lt (by omega)
 obtain ⟨b,o,A',c',rfl,hr,c0,c1,c2,c3,c4⟩:=hd.Vh ht;generalize Jo:d.getD t Bh=x at *;have XR:=zh Jo;clear Jo;have HI:=zh (Hw.new (c:=c) hd x A' c');have HR:=zh hr;have HK:=zh hk;have h1:(0:Int)<=(t:Int):=by omega
 have h2:(t:Int)<(d.length:Int):=by omega
 have hz:=zL c0;simp only at hz;clear hd hr hk
 go_enter Tryz.func63,Tryz.ntmps63
 go_wp2_with fail
 refine (CV d t _ c _ HI.out.db.nodes ht).mono ?_;rintro e w2 ⟨rfl,hb2⟩;rw[HK.out];replace HI:=zh (HI.out.below hb2);clear hb2 c0 c1 c2 c3 c4 hz
 go_wp2_with (refine wpList_store_mid rfl 28 (.tmp 6) (.tmp 79) rfl (w.heap.size+1) 0 #[.int .i64 (0),.bool (false),.int .i64 (0),.string (⟨#[]⟩),.int .i64 (0),.slice none 0 0,.slice none 0 0,.slice none 0 0] (by rfl) (by rfl) ?_ ?_ ?_ ?_;(exact Bp HI _);(exact zW);(exact val_one (Val.mk (0) (false) (0) (⟨#[]⟩) (0) [] [] []) none 0 none 0 none 0))
 obtain ⟨⟨k0,k1,k2,k3,k4,k5,k6,k7⟩,hfin⟩:=Ck (w:=w) (0) (false) (0) (⟨#[]⟩) (0) (by decide) (Bp HI _) (Cm HI _)
 have HF:=zh hfin.out;clear hfin;exact bodyPost_ret (v := .tuple #[.agg #[.int .i64 (0),.bool (false),.int .i64 (0),.string (⟨#[]⟩),.int .i64 (0),.slice none 0 0,.slice none 0 0,.slice none 0 0],.bool false]) (by simp[results,Tryz.results63,go_sem,k0,k1,k2,k3,k4,k5,k6,k7]) rfl ⟨Val.mk (0) (false) (0) (⟨#[]⟩) (0) [] [] [],false,rfl,HF.out.1,(fun _=>rfl),HF.out.2,fun h=>by cases h⟩
theorem Yc (d:List AX) (t code:Nat) (A:zo) (c:Nat) (w:World) (hd:BM w A d) (ht:t<d.length) (_:code<256) (hk:Ac d t=6) :
  Calls Tryz.prog 63 #[Dc A d.length c,.int .i64 t,.int .u8 code] w (DN d t w):=by
 have hn:=hd.1.lt (by omega)
 obtain ⟨b,o,A',c',rfl,hr,c0,c1,c2,c3,c4⟩:=hd.Vh ht;generalize Jo:d.getD t Bh=x at *;have XR:=zh Jo;clear Jo;have HI:=zh (Hw.new (c:=c) hd x A' c');have HR:=zh hr;have HK:=zh hk;have h1:(0:Int)<=(t:Int):=by omega
 have h2:(t:Int)<(d.length:Int):=by omega
 have hz:=zL c0;simp only at hz;clear hd hr hk
 go_enter Tryz.func63,Tryz.ntmps63
 go_wp2_with fail
 refine (CV d t _ c _ HI.out.db.nodes ht).mono ?_;rintro e w2 ⟨rfl,hb2⟩;rw[HK.out];replace HI:=zh (HI.out.below hb2);clear hb2 c0 c1 c2 c3 c4 hz
 go_wp2_with (refine wpList_store_mid rfl 28 (.tmp 6) (.tmp 79) rfl (w.heap.size+1) 0 #[.int .i64 (0),.bool (false),.int .i64 (0),.string (⟨#[]⟩),.int .i64 (0),.slice none 0 0,.slice none 0 0,.slice none 0 0] (by rfl) (by rfl) ?_ ?_ ?_ ?_;(exact Bp HI _);(exact zW);(exact val_one (Val.mk (0) (false) (0) (⟨#[]⟩) (0) [] [] []) none 0 none 0 none 0))
 obtain ⟨⟨k0,k1,k2,k3,k4,k5,k6,k7⟩,hfin⟩:=Ck (w:=w) (0) (false) (0) (⟨#[]⟩) (0) (by decide) (Bp HI _) (Cm HI _)
 have HF:=zh hfin.out;clear hfin;exact bodyPost_ret (v := .tuple #[.agg #[.int .i64 (0),.bool (false),.int .i64 (0),.string (⟨#[]⟩),.int .i64 (0),.slice none 0 0,.slice none 0 0,.slice none 0 0],.bool false]) (by simp[results,Tryz.results63,go_sem,k0,k1,k2,k3,k4,k5,k6,k7]) rfl ⟨Val.mk (0) (false) (0) (⟨#[]⟩) (0) [] [] [],false,rfl,HF.out.1,(fun _=>rfl),HF.out.2,fun h=>by cases h⟩
theorem Yb (d:List AX) (t code:Nat) (A:zo) (c:Nat) (w:World) (hd:BM w A d) (ht:t<d.length) (_:code<256) (hk:Ac d t=7) :
  Calls Tryz.prog 63 #[Dc A d.length c,.int .i64 t,.int .u8 code] w (DN d t w):=by
 have hn:=hd.1.lt (by omega)
 obtain ⟨b,o,A',c',rfl,hr,c0,c1,c2,c3,c4⟩:=hd.Vh ht;generalize Jo:d.getD t Bh=x at *;have XR:=zh Jo;clear Jo;have HI:=zh (Hw.new (c:=c) hd x A' c');have HR:=zh hr;have HK:=zh hk;have h1:(0:Int)<=(t:Int):=by omega
 have h2:(t:Int)<(d.length:Int):=by omega
 have hz:=zL c0;simp only at hz;clear hd hr hk
 go_enter Tryz.func63,Tryz.ntmps63
 go_wp2_with fail
 refine (CV d t _ c _ HI.out.db.nodes ht).mono ?_;rintro e w2 ⟨rfl,hb2⟩;rw[HK.out];replace HI:=zh (HI.out.below hb2);clear hb2 c0 c1 c2 c3 c4 hz
 go_wp2_with (refine wpList_store_mid rfl 28 (.tmp 6) (.tmp 80) rfl (w.heap.size+1) 0 #[.int .i64 (7),.bool (false),.int .i64 (0),.string (⟨#[]⟩),.int .i64 (0),.slice none 0 0,.slice none 0 0,.slice none 0 0] (by rfl) (by rfl) ?_ ?_ ?_ ?_;(exact Bp HI _);(exact zW);(exact val_one (Val.mk (7) (false) (0) (⟨#[]⟩) (0) [] [] []) none 0 none 0 none 0))
 obtain ⟨⟨k0,k1,k2,k3,k4,k5,k6,k7⟩,hfin⟩:=Ck (w:=w) (7) (false) (0) (⟨#[]⟩) (0) (by decide) (Bp HI _) (Cm HI _)
 have HF:=zh hfin.out;clear hfin
 exact bodyPost_ret (v := .tuple #[.agg #[.int .i64 (7),.bool (false),.int .i64 (0),.string (⟨#[]⟩),.int .i64 (0),.slice none 0 0,.slice none 0 0,.slice none 0 0],.bool true]) (by simp[results,Tryz.results63,go_sem,k0,k1,k2,k3,k4,k5,k6,k7]) rfl ⟨Val.mk (7) (false) (0) (⟨#[]⟩) (0) [] [] [],true,rfl,HF.out.1,(fun h=>by cases h),HF.out.2,fun _=>Wu (yP HK) (.inl HK.out)⟩
theorem Ya (d:List AX) (t code:Nat) (A:zo) (c:Nat) (w:World) (hd:BM w A d) (ht:t<d.length) (_:code<256) (hk:Ac d t=9) :
  Calls Tryz.prog 63 #[Dc A d.length c,.int .i64 t,.int .u8 code] w (DN d t w):=by
 have hn:=hd.1.lt (by omega)
 obtain ⟨b,o,A',c',rfl,hr,c0,c1,c2,c3,c4⟩:=hd.Vh ht;generalize Jo:d.getD t Bh=x at *;have XR:=zh Jo;clear Jo;have HI:=zh (Hw.new (c:=c) hd x A' c');have HR:=zh hr;have HK:=zh hk;have h1:(0:Int)<=(t:Int):=by omega
 have h2:(t:Int)<(d.length:Int):=by omega
 have hz:=zL c0;simp only at hz;clear hd hr hk
 go_enter Tryz.func63,Tryz.ntmps63
 go_wp2_with fail
 refine (CV d t _ c _ HI.out.db.nodes ht).mono ?_;rintro e w2 ⟨rfl,hb2⟩;rw[HK.out];replace HI:=zh (HI.out.below hb2);clear hb2 c0 c1 c2 c3 c4 hz
 go_wp2_with (refine wpList_store_mid rfl 28 (.tmp 6) (.tmp 80) rfl (w.heap.size+1) 0 #[.int .i64 (9),.bool (false),.int .i64 (0),.string (⟨#[]⟩),.int .i64 (0),.slice none 0 0,.slice none 0 0,.slice none 0 0] (by rfl) (by rfl) ?_ ?_ ?_ ?_;(exact Bp HI _);(exact zW);(exact val_one (Val.mk (9) (false) (0) (⟨#[]⟩) (0) [] [] []) none 0 none 0 none 0))
 obtain ⟨⟨k0,k1,k2,k3,k4,k5,k6,k7⟩,hfin⟩:=Ck (w:=w) (9) (false) (0) (⟨#[]⟩) (0) (by decide) (Bp HI _) (Cm HI _)
 have HF:=zh hfin.out;clear hfin
 exact bodyPost_ret (v := .tuple #[.agg #[.int .i64 (9),.bool (false),.int .i64 (0),.string (⟨#[]⟩),.int .i64 (0),.slice none 0 0,.slice none 0 0,.slice none 0 0],.bool true]) (by simp[results,Tryz.results63,go_sem,k0,k1,k2,k3,k4,k5,k6,k7]) rfl ⟨Val.mk (9) (false) (0) (⟨#[]⟩) (0) [] [] [],true,rfl,HF.out.1,(fun h=>by cases h),HF.out.2,fun _=>Wu (yO HK) (.inr (.inr HK.out))⟩
theorem Yh (d:List AX) (t code:Nat) (A:zo) (c:Nat) (w:World) (hd:BM w A d) (ht:t<d.length) (_:code<256) (hk:Ac d t=1) :
  Calls Tryz.prog 63 #[Dc A d.length c,.int .i64 t,.int .u8 code] w (DN d t w):=by
 have hn:=hd.1.lt (by omega)
 obtain ⟨b,o,A',c',rfl,hr,c0,c1,c2,c3,c4⟩:=hd.Vh ht;generalize Jo:d.getD t Bh=x at *;have XR:=zh Jo;clear Jo;have HI:=zh (Hw.new (c:=c) hd x A' c');have HR:=zh hr;have HK:=zh hk;have h1:(0:Int)<=(t:Int):=by omega
 have h2:(t:Int)<(d.length:Int):=by omega
 have hz:=zL c0;simp only at hz;clear hd hr hk
 go_enter Tryz.func63,Tryz.ntmps63
 go_wp2_with fail
 refine (CV d t _ c _ HI.out.db.nodes ht).mono ?_;rintro e w2 ⟨rfl,hb2⟩;rw[HK.out];replace HI:=zh (HI.out.below hb2);clear hb2 c0 c1 c2 c3 c4 hz;obtain ⟨E,hE⟩:∃E,((code:Int) % 2==1)=E:=⟨_,rfl⟩
 go_wp2_with (refine wpList_store_mid rfl 28 (.tmp 6) (.tmp 80) rfl (w.heap.size+1) 0 #[.int .i64 (1),.bool (E),.int .i64 (0),.string (⟨#[]⟩),.int .i64 (0),.slice none 0 0,.slice none 0 0,.slice none 0 0] (by rfl) (by rfl) ?_ ?_ ?_ ?_;(exact Bp HI _);(exact zW);(exact val_one (Val.mk (1) (E) (0) (⟨#[]⟩) (0) [] [] []) none 0 none 0 none 0))
 obtain ⟨⟨k0,k1,k2,k3,k4,k5,k6,k7⟩,hfin⟩:=Ck (w:=w) (1) (E) (0) (⟨#[]⟩) (0) (by decide) (Bp HI _) (Cm HI _)
 have HF:=zh hfin.out;clear hfin;exact bodyPost_ret (v := .tuple #[.agg #[.int .i64 (1),.bool (E),.int .i64 (0),.string (⟨#[]⟩),.int .i64 (0),.slice none 0 0,.slice none 0 0,.slice none 0 0],.bool true]) (by simp[results,Tryz.results63,go_sem,k0,k1,k2,k3,k4,k5,k6,k7]) rfl ⟨Val.mk (1) (E) (0) (⟨#[]⟩) (0) [] [] [],true,rfl,HF.out.1,(fun h=>by cases h),HF.out.2,fun _=>uF HK _⟩
theorem VL (d:List AX) (t code:Nat) (A:zo) (c:Nat) (w:World) (hd:BM w A d) (ht:t<d.length) (_:code<256) (hk:Ac d t=8) (hky:Dz d 0<0) :
  Calls Tryz.prog 63 #[Dc A d.length c,.int .i64 t,.int .u8 code] w (DN d t w):=by
 have hn:=hd.1.lt (by omega)
 obtain ⟨b,o,A',c',rfl,hr,c0,c1,c2,c3,c4⟩:=hd.Vh ht;generalize Jo:d.getD t Bh=x at *;have XR:=zh Jo;clear Jo;have HI:=zh (Hw.new (c:=c) hd x A' c');have HR:=zh hr;have HK:=zh hk;have h1:(0:Int)<=(t:Int):=by omega
 have h2:(t:Int)<(d.length:Int):=by omega
 have hz:=zL c0;simp only at hz;clear hd hr hk
 go_enter Tryz.func63,Tryz.ntmps63
 go_wp2_with fail
 refine (CV d t _ c _ HI.out.db.nodes ht).mono ?_;rintro e w2 ⟨rfl,hb2⟩;rw[HK.out];replace HI:=zh (HI.out.below hb2);clear hb2 c0 c1 c2 c3 c4 hz;have fP:=zh hky;clear hky;have HV:=zh (Gc.new HI 8);have hsz:w.heap.size<w2.heap.size:=by have:=(zg.1 HI.out.rb).1;omega
 have Ia:=zh HI.out.db.cell;have hdc:=Ia.out;go_wp2_with fail;refine (RB d 0 _ c _ HV.out.st.db.nodes (by omega)).mono ?_
 rintro e w3 ⟨rfl,hb3⟩;replace HV:=zh (HV.out.below hb3);obtain ⟨⟨_,hfz,_⟩,_⟩:=EC HV;have hvc:=JY HV 0 (.int .i64 7);obtain ⟨e0,e1,e2,e3,e4,e5,e6,e7⟩:=R9 HV;have hq:decide (Dz d 0<0)=true:=AAX (by have:=fP.out;omega)
 clear hb3 hdc;go_wp2_with (refine wpList_store_mid rfl 28 (.tmp 6) (.tmp 80) rfl (w.heap.size+1) 0 #[.int .i64 (7),.bool (false),.int .i64 (0),.string (⟨#[]⟩),.int .i64 (0),.slice none 0 0,.slice none 0 0,.slice none 0 0] (by rfl) (by rfl) ?_ ?_ ?_ ?_;(exact HV.out.there 0 (.int .i64 7));(exact zW);(exact val_one (Val.mk (7) (false) (0) (⟨#[]⟩) (0) [] [] []) none 0 none 0 none 0))
 obtain ⟨⟨k0,k1,k2,k3,k4,k5,k6,k7⟩,hfin⟩:=Ck (w:=w) (7) (false) (0) (⟨#[]⟩) (0) (by decide) (HV.out.there 0 (.int .i64 7)) (HV.out.Bb 0 (.int .i64 7))
 have HF:=zh hfin.out;clear hfin
 exact bodyPost_ret (v := .tuple #[.agg #[.int .i64 (7),.bool (false),.int .i64 (0),.string (⟨#[]⟩),.int .i64 (0),.slice none 0 0,.slice none 0 0,.slice none 0 0],.bool true]) (by simp[results,Tryz.results63,go_sem,k0,k1,k2,k3,k4,k5,k6,k7]) rfl ⟨Val.mk (7) (false) (0) (⟨#[]⟩) (0) [] [] [],true,rfl,HF.out.1,(fun h=>by cases h),HF.out.2,fun _=>Wu (mI HK fP) (.inr (.inl HK.out))⟩
theorem VK (d:List AX) (t code:Nat) (A:zo) (c:Nat) (w:World) (hd:BM w A d) (ht:t<d.length) (_:code<256) (hk:Ac d t=8) (hky:¬ Dz d 0<0) :
  Calls Tryz.prog 63 #[Dc A d.length c,.int .i64 t,.int .u8 code] w (DN d t w):=by
 have hn:=hd.1.lt (by omega)
 obtain ⟨b,o,A',c',rfl,hr,c0,c1,c2,c3,c4⟩:=hd.Vh ht;generalize Jo:d.getD t Bh=x at *;have XR:=zh Jo;clear Jo;have HI:=zh (Hw.new (c:=c) hd x A' c');have HR:=zh hr;have HK:=zh hk;have h1:(0:Int)<=(t:Int):=by omega
 have h2:(t:Int)<(d.length:Int):=by omega
 have hz:=zL c0;simp only at hz;clear hd hr hk
 go_enter Tryz.func63,Tryz.ntmps63
 go_wp2_with fail
 refine (CV d t _ c _ HI.out.db.nodes ht).mono ?_;rintro e w2 ⟨rfl,hb2⟩;rw[HK.out];replace HI:=zh (HI.out.below hb2);clear hb2 c0 c1 c2 c3 c4 hz;have fP:=zh hky;clear hky;have HV:=zh (Gc.new HI 8);have hsz:w.heap.size<w2.heap.size:=by have:=(zg.1 HI.out.rb).1;omega
 have Ia:=zh HI.out.db.cell;have hdc:=Ia.out;go_wp2_with fail;refine (RB d 0 _ c _ HV.out.st.db.nodes (by omega)).mono ?_
 rintro e w3 ⟨rfl,hb3⟩;replace HV:=zh (HV.out.below hb3);obtain ⟨⟨_,hfz,_⟩,_⟩:=EC HV;have hvc:=JY HV 0 (.int .i64 7);obtain ⟨e0,e1,e2,e3,e4,e5,e6,e7⟩:=R9 HV;have hq:decide (Dz d 0<0)=false:=AAU (by have:=fP.out;omega)
 clear hb3 hdc;go_wp2_with (refine wpList_store_mid rfl 28 (.tmp 6) (.tmp 80) rfl (w.heap.size+1) 0 #[.int .i64 (8),.bool (false),.int .i64 (0),.string (⟨#[]⟩),.int .i64 (0),.slice none 0 0,.slice none 0 0,.slice none 0 0] (by rfl) (by rfl) ?_ ?_ ?_ ?_;(exact DW HV.out.st.rb);(exact zW);(exact val_one (Val.mk (8) (false) (0) (⟨#[]⟩) (0) [] [] []) none 0 none 0 none 0))
 obtain ⟨⟨k0,k1,k2,k3,k4,k5,k6,k7⟩,hfin⟩:=Ck (w:=w) (8) (false) (0) (⟨#[]⟩) (0) (by decide) (DW HV.out.st.rb) (HV.out.st.db.below)
 have HF:=zh hfin.out;clear hfin
 exact bodyPost_ret (v := .tuple #[.agg #[.int .i64 (8),.bool (false),.int .i64 (0),.string (⟨#[]⟩),.int .i64 (0),.slice none 0 0,.slice none 0 0,.slice none 0 0],.bool true]) (by simp[results,Tryz.results63,go_sem,k0,k1,k2,k3,k4,k5,k6,k7]) rfl ⟨Val.mk (8) (false) (0) (⟨#[]⟩) (0) [] [] [],true,rfl,HF.out.1,(fun h=>by cases h),HF.out.2,fun _=>Wu (mH HK (by have:=fP.out;omega)) (.inr (.inl HK.out))⟩
theorem Yf (d:List AX) (t code:Nat) (A:zo) (c:Nat) (w:World) (hd:BM w A d) (ht:t<d.length) (_:code<256) (hk:Ac d t=3) :
  Calls Tryz.prog 63 #[Dc A d.length c,.int .i64 t,.int .u8 code] w (DN d t w):=by
 have hn:=hd.1.lt (by omega)
 obtain ⟨b,o,A',c',rfl,hr,c0,c1,c2,c3,c4⟩:=hd.Vh ht;generalize Jo:d.getD t Bh=x at *;have XR:=zh Jo;clear Jo;have HI:=zh (Hw.new (c:=c) hd x A' c');have HR:=zh hr;have HK:=zh hk;have h1:(0:Int)<=(t:Int):=by omega
 have h2:(t:Int)<(d.length:Int):=by omega
 have hz:=zL c0;simp only at hz;clear hd hr hk
 go_enter Tryz.func63,Tryz.ntmps63
 go_wp2_with fail
 refine (CV d t _ c _ HI.out.db.nodes ht).mono ?_;rintro e w2 ⟨rfl,hb2⟩;rw[HK.out];replace HI:=zh (HI.out.below hb2);clear hb2 c0 c1 c2 c3 c4 hz;have hn1:w2.cell? ⟨w.heap.size+1+1,1,none⟩=some (.int .u8 x.a):=HI.out.nb.cell 1;have hzz:=HI.out.nb.blt;obtain ⟨E1,hE1⟩:∃E,decide ((0:Int)<((x.a:Int) % 4))=E:=⟨_,rfl⟩;obtain ⟨E2,hE2⟩:∃E,((code:Int) % 2==1)=E:=⟨_,rfl⟩
 have Mk:Hid (E1=true->1<=x.a % 4):=fun e=>by rw[e] at hE1;have:=AAu hE1;omega
 cases E1 with
 | false =>
  go_wp2_with (refine wpList_store_mid rfl 28 (.tmp 6) (.tmp 80) rfl (w.heap.size+1) 0 #[.int .i64 (3),.bool (false),.int .i64 (0),.string (⟨#[]⟩),.int .i64 (0),.slice none 0 0,.slice none 0 0,.slice none 0 0] (by rfl) (by rfl) ?_ ?_ ?_ ?_;(exact Bp HI _);(exact zW);(exact val_one (Val.mk (3) (false) (0) (⟨#[]⟩) (0) [] [] []) none 0 none 0 none 0))
  obtain ⟨⟨k0,k1,k2,k3,k4,k5,k6,k7⟩,hfin⟩:=Ck (w:=w) (3) (false) (0) (⟨#[]⟩) (0) (by decide) (Bp HI _) (Cm HI _)
  have HF:=zh hfin.out;clear hfin
  exact bodyPost_ret (v := .tuple #[.agg #[.int .i64 (3),.bool (false),.int .i64 (0),.string (⟨#[]⟩),.int .i64 (0),.slice none 0 0,.slice none 0 0,.slice none 0 0],.bool true]) (by simp[results,Tryz.results63,go_sem,k0,k1,k2,k3,k4,k5,k6,k7]) rfl ⟨Val.mk (3) (false) (0) (⟨#[]⟩) (0) [] [] [],true,rfl,HF.out.1,(fun h=>by cases h),HF.out.2,fun _=>bV HK (by show (0:Int)<=_;omega)⟩
 | true =>
  cases E2 with
  | false =>
   go_wp2_with (refine wpList_store_mid rfl 28 (.tmp 6) (.tmp 80) rfl (w.heap.size+1) 0 #[.int .i64 (3),.bool (false),.int .i64 (0),.string (⟨#[]⟩),.int .i64 (0),.slice none 0 0,.slice none 0 0,.slice none 0 0] (by rfl) (by rfl) ?_ ?_ ?_ ?_;(exact Bp HI _);(exact zW);(exact val_one (Val.mk (3) (false) (0) (⟨#[]⟩) (0) [] [] []) none 0 none 0 none 0))
   obtain ⟨⟨k0,k1,k2,k3,k4,k5,k6,k7⟩,hfin⟩:=Ck (w:=w) (3) (false) (0) (⟨#[]⟩) (0) (by decide) (Bp HI _) (Cm HI _)
   have HF:=zh hfin.out;clear hfin
   exact bodyPost_ret (v := .tuple #[.agg #[.int .i64 (3),.bool (false),.int .i64 (0),.string (⟨#[]⟩),.int .i64 (0),.slice none 0 0,.slice none 0 0,.slice none 0 0],.bool true]) (by simp[results,Tryz.results63,go_sem,k0,k1,k2,k3,k4,k5,k6,k7]) rfl ⟨Val.mk (3) (false) (0) (⟨#[]⟩) (0) [] [] [],true,rfl,HF.out.1,(fun h=>by cases h),HF.out.2,fun _=>bV HK (by show (0:Int)<=_;omega)⟩
  | true =>
   go_wp2_with (refine wpList_store_mid rfl 28 (.tmp 6) (.tmp 80) rfl (w.heap.size+1) 0 #[.int .i64 (3),.bool (false),.int .i64 (0),.string (⟨#[97]⟩),.int .i64 (0),.slice none 0 0,.slice none 0 0,.slice none 0 0] (by rfl) (by rfl) ?_ ?_ ?_ ?_;(exact Bp HI _);(exact zW);(exact val_one (Val.mk (3) (false) (0) (⟨#[97]⟩) (0) [] [] []) none 0 none 0 none 0))
   obtain ⟨⟨k0,k1,k2,k3,k4,k5,k6,k7⟩,hfin⟩:=Ck (w:=w) (3) (false) (0) (⟨#[97]⟩) (0) (by decide) (Bp HI _) (Cm HI _)
   have HF:=zh hfin.out;clear hfin
   exact bodyPost_ret (v := .tuple #[.agg #[.int .i64 (3),.bool (false),.int .i64 (0),.string (⟨#[97]⟩),.int .i64 (0),.slice none 0 0,.slice none 0 0,.slice none 0 0],.bool true]) (by simp[results,Tryz.results63,go_sem,k0,k1,k2,k3,k4,k5,k6,k7]) rfl ⟨Val.mk (3) (false) (0) (⟨#[97]⟩) (0) [] [] [],true,rfl,HF.out.1,(fun h=>by cases h),HF.out.2,fun _=>bV HK (by rw[XR.out];have h4:=Mk.out (by first|rfl|trivial);have h2:(⟨#[97]⟩:ByteArray).size=1:=rfl;have h3:(⟨#[]⟩:ByteArray).size=0:=rfl;omega)⟩
theorem Yg (d:List AX) (t code:Nat) (A:zo) (c:Nat) (w:World) (hd:BM w A d) (ht:t<d.length) (hcode:code<256) (hk:Ac d t=2) :
  Calls Tryz.prog 63 #[Dc A d.length c,.int .i64 t,.int .u8 code] w (DN d t w):=by
 have hn:=hd.1.lt (by omega)
 obtain ⟨b,o,A',c',rfl,hr,c0,c1,c2,c3,c4⟩:=hd.Vh ht;generalize Jo:d.getD t Bh=x at *;have XR:=zh Jo;clear Jo;have HI:=zh (Hw.new (c:=c) hd x A' c');have HR:=zh hr;have HK:=zh hk;have h1:(0:Int)<=(t:Int):=by omega
 have h2:(t:Int)<(d.length:Int):=by omega
 have hz:=zL c0;simp only at hz;clear hd hr hk
 go_enter Tryz.func63,Tryz.ntmps63
 go_wp2_with fail
 refine (CV d t _ c _ HI.out.db.nodes ht).mono ?_;rintro e w2 ⟨rfl,hb2⟩;rw[HK.out];replace HI:=zh (HI.out.below hb2);clear hb2 c0 c1 c2 c3 c4 hz;have HV:=zh (Gc.new HI 2);have ZG:=zh HR.out.a;go_wp2_with fail;generalize w2.alloc (.cells #[.int .i64 2,.bool false,.int .i64 0,.string ⟨#[]⟩,.int .i64 0,.slice none 0 0,.slice none 0 0,.slice none 0 0] 28)=W3 at *;have hhl:=bn x
 have hnz:¬ ((x.b:Int) % 6+1=0):=by omega
 refine yE (S:=(fun w'=>((w'.cell? ⟨w.heap.size+1+1,0,none⟩=some (.int .u8 x.kind)/\w'.cell? ⟨w.heap.size+1+1,1,none⟩=some (.int .u8 x.a)/\w'.cell? ⟨w.heap.size+1+1,2,none⟩=some (.int .u8 x.b)/\w'.cell? ⟨w.heap.size+1+1,3,none⟩=some (.int .u8 x.c)/\w'.cell? ⟨w.heap.size+1+1,4,none⟩=some (.slice A' x.parts.length c'))/\(∀j,w'.frozen? ⟨w2.heap.size,j,none⟩=false)/\w'.cell? ⟨w2.heap.size,2,none⟩=some (.int .i64 0)/\w'.cell? ⟨w2.heap.size,4,none⟩=some (.int .i64 0))/\Hid (Gc w w' (some ⟨b,o,none⟩) d c x A' c' w2.heap.size 2))) 13 (by kernel_rfl) ?_ (fun AO=>?_)
 ·(try dsimp only);exact EC (HV.out.below (zC (Pe _ _) 1))
 refine tB 0 ?_;refine tC 2 ?_;refine tC 3 ?_;refine tB 4 ?_;refine tB 6 ?_;refine tS 1 (fun K hK=>?_)
 go_simp
 (refine (NJ x A' c' _ ZG).mono ?_;rintro e w3 ⟨rfl,hbx⟩)
 refine hK.out _ _ ?_ (fun AO=>?_)
 ·(try dsimp only);exact EC (AO.2.out.below hbx)
 clear hK K;try simp only[ps]
 refine tS 5 (fun K hK=>?_)
 go_simp
 (refine (Td x A' c' _ ZG).mono ?_;rintro e w4 ⟨rfl,hbx⟩)
 refine hK.out _ _ ?_ (fun AO=>?_)
 ·(try dsimp only);exact EC (AO.2.out.below hbx)
 clear hK K;refine tS 7 (fun K hK=>?_)
 go_simp
 (refine (NJ x A' c' _ ZG).mono ?_;rintro e w5 ⟨rfl,hbx⟩)
 refine hK.out _ _ ?_ (fun AO=>?_)
 ·(try dsimp only);exact EC (AO.2.out.below hbx)
 clear hK K;refine tC 8 ?_;refine tC 9 ?_;refine tC 10 ?_;refine tC 11 ?_;try simp only[ps]
 refine tC 12 ?_;refine zV (rs:=[13]) (by kernel_rfl) (by simp) ?_
 refine AJ.last rfl (by kernel_rfl) (fun K hK=>?_) AJ.nil
 (obtain ⟨⟨_,hfz,hcx,_⟩,hin⟩:=AO;go_simp)
 refine hK.out _ _ ?_;clear hK K
 (try clear AO)
 refine wpAny_done (by kernel_rfl) ?_ _
 have HZ:=zh (kD x hcode);generalize IntKind.i64.wrap (FD x+(IntKind.i64.wrap (code:Int)).tmod ((x.b:Int) % 6+1))=z at *;have Oy:=zh (hin.out.there 2 (.int .i64 z));have KS:=zh (hin.out.Bb 2 (.int .i64 z));obtain ⟨e0,e1,e2,e3,e4,e5,e6,e7⟩:=Xb hin.out z;have hvb:=(zg.1 hin.out.mG).1
 replace hvb:w2.heap.size<(w5.setCell ⟨w2.heap.size,2,none⟩ (.int .i64 z)).heap.size:=by simpa using hvb
 clear hin hfz hcx;generalize w5.setCell ⟨w2.heap.size,2,none⟩ (.int .i64 z)=W7 at *
 go_wp2_with (refine wpList_store_mid rfl 28 (.tmp 6) (.tmp 80) rfl (w.heap.size+1) 0 #[.int .i64 (2),.bool (false),.int .i64 (z),.string (⟨#[]⟩),.int .i64 (0),.slice none 0 0,.slice none 0 0,.slice none 0 0] (by rfl) (by rfl) ?_ ?_ ?_ ?_;(exact Oy.out);(exact zW);(exact val_one (Val.mk (2) (false) (z) (⟨#[]⟩) (0) [] [] []) none 0 none 0 none 0))
 obtain ⟨⟨k0,k1,k2,k3,k4,k5,k6,k7⟩,hfin⟩:=Ck (w:=w) (2) (false) (z) (⟨#[]⟩) (0) (by decide) (Oy.out) (KS.out)
 have HF:=zh hfin.out;clear hfin
 exact bodyPost_ret (v := .tuple #[.agg #[.int .i64 (2),.bool (false),.int .i64 (z),.string (⟨#[]⟩),.int .i64 (0),.slice none 0 0,.slice none 0 0,.slice none 0 0],.bool true]) (by simp[results,Tryz.results63,go_sem,k0,k1,k2,k3,k4,k5,k6,k7]) rfl ⟨Val.mk (2) (false) (z) (⟨#[]⟩) (0) [] [] [],true,rfl,HF.out.1,(fun h=>by cases h),HF.out.2,fun _=>uE HK (by rw[XR.out];exact HZ.out)⟩
theorem Ye (d:List AX) (t code:Nat) (A:zo) (c:Nat) (w:World) (hd:BM w A d) (ht:t<d.length) (_:code<256) (hk:Ac d t=4) :
  Calls Tryz.prog 63 #[Dc A d.length c,.int .i64 t,.int .u8 code] w (DN d t w):=by
 have hn:=hd.1.lt (by omega)
 obtain ⟨b,o,A',c',rfl,hr,c0,c1,c2,c3,c4⟩:=hd.Vh ht;generalize Jo:d.getD t Bh=x at *;have XR:=zh Jo;clear Jo;have HI:=zh (Hw.new (c:=c) hd x A' c');have HR:=zh hr;have HK:=zh hk;have h1:(0:Int)<=(t:Int):=by omega
 have h2:(t:Int)<(d.length:Int):=by omega
 have hz:=zL c0;simp only at hz;clear hd hr hk
 go_enter Tryz.func63,Tryz.ntmps63
 go_wp2_with fail
 refine (CV d t _ c _ HI.out.db.nodes ht).mono ?_;rintro e w2 ⟨rfl,hb2⟩;rw[HK.out];replace HI:=zh (HI.out.below hb2);clear hb2 c0 c1 c2 c3 c4 hz;have HV:=zh (Gc.new HI 4);have ZG:=zh HR.out.a;go_wp2_with fail;generalize w2.alloc (.cells #[.int .i64 4,.bool false,.int .i64 0,.string ⟨#[]⟩,.int .i64 0,.slice none 0 0,.slice none 0 0,.slice none 0 0] 28)=W3 at *;have NV:=zh (Jb x)
 have R4:Hid ((C9 x).length<=6):=by have:=Je (C9 x) 0 6 NV.out.1 NV.out.2.1 (by omega);show _<=_;omega
 have hpos:0<(C9 x).length:=List.length_pos_iff.2 NV.out.2.2;have hnz:¬ (C9 x=[]):=NV.out.2.2;obtain ⟨q,hq⟩:∃q:Nat,q=code % (C9 x).length:=⟨_,rfl⟩;have gD:q<(C9 x).length:=by rw[hq];exact Nat.mod_lt _ hpos
 have eq:(IntKind.i64.wrap (code:Int)).tmod ((C9 x).length:Int)=(q:Int):=by rw[IntWalk.i64_in _ (by omega),hq];rfl
 clear hq;have hq1:(0:Int)<=(q:Int):=by omega
 have hq2:(q:Int)<((C9 x).length:Int):=by omega
 refine yE (S:=(fun w'=>((w'.cell? ⟨w.heap.size+1+1,0,none⟩=some (.int .u8 x.kind)/\w'.cell? ⟨w.heap.size+1+1,1,none⟩=some (.int .u8 x.a)/\w'.cell? ⟨w.heap.size+1+1,2,none⟩=some (.int .u8 x.b)/\w'.cell? ⟨w.heap.size+1+1,3,none⟩=some (.int .u8 x.c)/\w'.cell? ⟨w.heap.size+1+1,4,none⟩=some (.slice A' x.parts.length c'))/\(∀j,w'.frozen? ⟨w2.heap.size,j,none⟩=false)/\w'.cell? ⟨w2.heap.size,2,none⟩=some (.int .i64 0)/\w'.cell? ⟨w2.heap.size,4,none⟩=some (.int .i64 0))/\Hid (Gc w w' (some ⟨b,o,none⟩) d c x A' c' w2.heap.size 4))) 11 (by kernel_rfl) ?_ (fun AO=>?_)
 ·(try dsimp only);exact EC (HV.out.below (zC (Pe _ _) 1))
 refine tB 0 ?_;refine tC 2 ?_;refine tC 3 ?_;refine tB 4 ?_;refine tS 1 (fun K hK=>?_)
 go_simp
 (refine (Np x A' c' _ ZG).mono ?_;rintro e w3 ⟨v3,rfl,ho3,hbx⟩;obtain ⟨A3,c3,rfl,hi3⟩:=Jh.ints ho3 (by have:=R4.out;unfold DU;omega);obtain ⟨b3,o3,rfl,i3⟩:=hi3.UD gD;clear ho3 hi3)
 refine hK.out _ _ ?_ (fun AO=>?_)
 ·(try dsimp only);exact EC (AO.2.out.below hbx)
 clear hK K;refine tS 5 (fun K hK=>?_)
 go_simp
 (refine (Np x A' c' _ ZG).mono ?_;rintro e w5 ⟨v4,rfl,ho4,hbx⟩;obtain ⟨A4,c4,rfl,hi4⟩:=Jh.ints ho4 (by have:=R4.out;unfold DU;omega);replace i3:=zA hbx i3;clear ho4 hi4)
 refine hK.out _ _ ?_ (fun AO=>?_)
 ·(try dsimp only);exact EC (AO.2.out.below hbx)
 clear hK K;try simp only[ps]
 refine tC 6 ?_;refine tC 7 ?_;refine tC 8 ?_;refine tS 9 (fun K hK=>?_)
 go_simp
 refine hK.out _ _ ?_ (fun AO=>?_)
 ·(try dsimp only);exact AO
 clear hK K;refine tC 10 ?_;refine zV (rs:=[11]) (by kernel_rfl) (by simp) ?_
 refine AJ.last rfl (by kernel_rfl) (fun K hK=>?_) AJ.nil
 (obtain ⟨⟨_,hfz,_,hcx⟩,hin⟩:=AO;go_simp)
 refine hK.out _ _ ?_;clear hK K
 (try clear AO)
 try simp only[ps]
 refine wpAny_done (by kernel_rfl) ?_ _
 have HZ:Hid ((C9 x)[q]∈C9 x):=AAK gD;generalize (C9 x)[q]=z at *;have Oy:=zh (hin.out.there 4 (.int .i64 z));have KS:=zh (hin.out.Bb 4 (.int .i64 z));obtain ⟨e0,e1,e2,e3,e4,e5,e6,e7⟩:=Xa hin.out z;have hvb:=(zg.1 hin.out.mG).1;replace hvb:w2.heap.size<(w5.setCell ⟨w2.heap.size,4,none⟩ (.int .i64 z)).heap.size:=by simpa using hvb
 clear hin hfz hcx;generalize w5.setCell ⟨w2.heap.size,4,none⟩ (.int .i64 z)=W7 at *
 go_wp2_with (refine wpList_store_mid rfl 28 (.tmp 6) (.tmp 80) rfl (w.heap.size+1) 0 #[.int .i64 (4),.bool (false),.int .i64 (0),.string (⟨#[]⟩),.int .i64 (z),.slice none 0 0,.slice none 0 0,.slice none 0 0] (by rfl) (by rfl) ?_ ?_ ?_ ?_;(exact Oy.out);(exact zW);(exact val_one (Val.mk (4) (false) (0) (⟨#[]⟩) (z) [] [] []) none 0 none 0 none 0))
 obtain ⟨⟨k0,k1,k2,k3,k4,k5,k6,k7⟩,hfin⟩:=Ck (w:=w) (4) (false) (0) (⟨#[]⟩) (z) (by decide) (Oy.out) (KS.out)
 have HF:=zh hfin.out;clear hfin
 exact bodyPost_ret (v := .tuple #[.agg #[.int .i64 (4),.bool (false),.int .i64 (0),.string (⟨#[]⟩),.int .i64 (z),.slice none 0 0,.slice none 0 0,.slice none 0 0],.bool true]) (by simp[results,Tryz.results63,go_sem,k0,k1,k2,k3,k4,k5,k6,k7]) rfl ⟨Val.mk (4) (false) (0) (⟨#[]⟩) (z) [] [] [],true,rfl,HF.out.1,(fun h=>by cases h),HF.out.2,fun _=>uD HK (by rw[XR.out];exact HZ.out)⟩
theorem TW (d:List AX) (t code:Nat) (A:zo) (c:Nat) (w:World) (hd:BM w A d) (ht:t<d.length) (hco:code<256) :
  Calls Tryz.prog 63 #[Dc A d.length c,.int .i64 t,.int .u8 code] w (DN d t w):=by
 have hr:=GK d t;have h:Ac d t=1\/Ac d t=2\/Ac d t=3\/Ac d t=4\/Ac d t=5\/Ac d t=6\/Ac d t=7\/Ac d t=8\/Ac d t=9:=by omega
 rcases h with h|h|h|h|h|h|h|h|h
 ·exact Yh d t code A c w hd ht hco h
 ·exact Yg d t code A c w hd ht hco h
 ·exact Yf d t code A c w hd ht hco h
 ·exact Ye d t code A c w hd ht hco h
 ·exact Yd d t code A c w hd ht hco h
 ·exact Yc d t code A c w hd ht hco h
 ·exact Yb d t code A c w hd ht hco h
 ·by_cases hk:Dz d 0<0
  ·exact VL d t code A c w hd ht hco h hk
  ·exact VK d t code A c w hd ht hco h hk
 ·exact Ya d t code A c w hd ht hco h
def Yu (m:AZ):List Value:=m.cs none 0 none 0 none 0
theorem K7 (m:AZ):∀u∈Yu m,u.oneCell'=true:=fun u hu=>by
 unfold Yu at hu;simp only[AAr,List.mem_nil_iff,or_false] at hu
 rcases hu with rfl|rfl|rfl|rfl|rfl|rfl|rfl|rfl|rfl|rfl|rfl|rfl|rfl <;> rfl
variable {n:Nat}
theorem NN (hn:n<=20):Utf8.encode (97+(n:Int))=⟨#[UInt8.ofNat (97+n)]⟩/\Utf8.encode (65+(n:Int))=⟨#[UInt8.ofNat (65+n)]⟩:=by
 have h:∀m:Fin 21,Utf8.encode (97+((m.1:Nat):Int))=⟨#[UInt8.ofNat (97+m.1)]⟩/\Utf8.encode (65+((m.1:Nat):Int))=⟨#[UInt8.ofNat (65+m.1)]⟩:=by decide +kernel
 exact h ⟨n,by omega⟩
theorem Nu (c:UInt8) (n:Nat):(⟨#[c]⟩:ByteArray)++(⟨#[UInt8.ofNat (97+n)]⟩:ByteArray)=Ru c n:=by
 refine Y1 ?_;rw[dw];rfl
abbrev vD:=Ad 118 13 Yu
structure KC (w W:World) (A:zo) (d:List AX) (c:Nat) (x:AX) (A':zo) (c':Nat):Prop where
 db:KH w W A d c
 nb:Gb W (w.heap.size+1) x A' c'
 nr:Mg W x A'
theorem KC.below (h:KC w W A d c x A' c') (hb:Below W.heap.size W W'):KC w W' A d c x A' c' :=
 ⟨h.db.step hb,h.nb.below hb,h.nr.below hb⟩
theorem KC.new (h:BM w A d) (hx:Mg w x A') (c':Nat):KC w ((w.alloc (.cells #[.slice A d.length c] 24)).alloc (x.box A' c')) A d c x A' c':=by
 have hz:(w.alloc (.cells #[.slice A d.length c] 24)).heap.size=w.heap.size+1:=by simp
 have:=Gb.new (w.alloc (.cells #[.slice A d.length c] 24)) x A' c';rw[hz] at this;exact ⟨(KH.new h).step (zD _ _),this,hx.below (zI _ _ _)⟩
structure JJ (d:List AX) (i:Nat) (rec:Bool) (n k base:Nat) (W:World) (v:Value) (ms:List AZ):Prop where
 own:vD W base v ms
 ok:Dm rec n k ms
 flat:∀m∈ms,JK m.dflt
 mO:∀m∈ms,eY d i m
theorem JJ.below {i:Nat} {rec:Bool} {k base:Nat} {v:Value} {ms:List AZ} (h:JJ d i rec n k base W v ms) (hb:Below W.heap.size W W'):JJ d i rec n k base W' v ms:=⟨h.own.below hb,h.ok,h.flat,h.mO⟩
def Un (cs:Array Value) (o:Nat):List Value->Array Value
 | []=>cs
 | v::vs=>Un (cs.setIfInBounds o v) (o+1) vs
theorem Bj {g:Nat} {T:TypeId}:∀ (vs:List Value) (o:Nat) (W:World) (cs:Array Value),W.heap[g]? = some (.cells cs T (0,0))->(W.setCells g o vs).heap[g]? = some (.cells (Un cs o vs) T (0,0))
 | [],_,_,_,h=>h
 | v::vs,o,W,cs,h=>Bj vs (o+1) (W.setCell ⟨g,o,none⟩ v) (cs.setIfInBounds o v) (AAW _ _ _ _ _ _ h)
variable {mb:Nat} {a0 a1 eD eB a12 a2 a3 a4 a5 a6 a7 a8 a9:Value}
theorem oh {T:TypeId} (h:W.heap[mb]? = some (.cells #[a0,a1,a2,a3,a4,a5,a6,a7,a8,a9,eD,eB,a12] T (0,0))) (b5 b6 b7 b8 b9 b10 b11 b12:Value):
  (W.setCells mb 5 [b5,b6,b7,b8,b9,b10,b11,b12]).heap[mb]? = some (.cells #[a0,a1,a2,a3,a4,b5,b6,b7,b8,b9,b10,b11,b12] T (0,0)):=by
 rw[Bj _ _ _ _ h];simp[Un]
theorem bF {T:TypeId} (h:W.heap[mb]? = some (.cells #[a0,a1,a2,a3,a4,a5,a6,a7,a8,a9,eD,eB,a12] T (0,0))):W.there mb 5 8:=fun j hj=>by
 refine ⟨?_,AAL _ _ _ _ _ h⟩;rw[AAE _ _ _ _ _ _ h]
 match j,hj with
 | 0,_=>rfl
 | 1,_=>rfl
 | 2,_=>rfl
 | 3,_=>rfl
 | 4,_=>rfl
 | 5,_=>rfl
 | 6,_=>rfl
 | 7,_=>rfl
theorem Iz {T:TypeId} (h:W.heap[mb]? = some (.cells #[a0,a1,a2,a3,a4,a5,a6,a7,a8,a9,eD,eB,a12] T (0,0))):
  W.cell? ⟨mb,0,none⟩=some a0/\W.cell? ⟨mb,1,none⟩=some a1/\W.cell? ⟨mb,2,none⟩=some a2/\W.cell? ⟨mb,3,none⟩=some a3/\W.cell? ⟨mb,4,none⟩=some a4/\W.cell? ⟨mb,5,none⟩=some a5/\W.cell? ⟨mb,6,none⟩=some a6/\W.cell? ⟨mb,7,none⟩=some a7/\W.cell? ⟨mb,8,none⟩=some a8/\W.cell? ⟨mb,9,none⟩=some a9/\W.cell? ⟨mb,10,none⟩=some eD/\W.cell? ⟨mb,11,none⟩=some eB/\W.cell? ⟨mb,12,none⟩=some a12:=by
 refine ⟨?_,?_,?_,?_,?_,?_,?_,?_,?_,?_,?_,?_,?_⟩ <;> (rw[AAE _ _ _ _ _ _ h];rfl)
theorem KC.keep (h:KC w W A d c x A' c') (hd:BM w A d) (hx:Mg w x A') (hb:Below w.heap.size w W') (hs:W.heap.size<=W'.heap.size) (hk:∀q,q<w.heap.size+2->W'.heap[q]? = W.heap[q]?):KC w W' A d c x A' c' :=
 ⟨⟨AAq h.db.lt hs,(World.cell?_of_block (w:=W) (w':=W') (a:=⟨w.heap.size,0,none⟩) (hk _ (by simp only;omega))).trans h.db.cell,hd.below hb,hb⟩,(hk _ (by omega)).trans h.nb,hx.below hb⟩
theorem KC.Bb (h:KC w W A d c x A' c'):Below w.heap.size w W:=h.db.below
theorem KC.sz (h:KC w W A d c x A' c'):w.heap.size+2<=W.heap.size:=by have:=h.nb.blt;omega
theorem JJ.snoc {i:Nat} {rec:Bool} {k base:Nat} {v v':Value} {ms:List AZ} (h:JJ d i rec n k base W v ms) {m:AZ} (hi:m.id=(k:Int)+1) (hn:m.name=Ru 109 (k+1)) (ht:0<=m.type/\m.type<(n:Int)) (hm:P8 rec m=true) (hf:JK m.dflt) (hI:eY d i m) (ho:W'.ownsRow base 118 13 v' (ms.length+1) (ms.flatMap Yu++Yu m)):JJ d i rec n (k+1) base W' v' (ms++[m]) :=
 ⟨Ad.snoc ho,h.ok.snoc (by rw[hi];simp) hn ht hm,fun y hy=>by
  rcases AAo.1 hy with a|a
  ·exact h.flat y a
  ·obtain rfl:y=m:=by simpa using a
   exact hf,fun y hy=>by
  rcases AAo.1 hy with a|a
  ·exact h.mO y a
  ·obtain rfl:y=m:=by simpa using a
   exact hI⟩
def Y8 (d:List AX) (i:Nat) (rec:Bool) (n:Nat) (w:World) (e:Ending) (w':World):Prop:=∃v ms,e = .returned v/\JJ d i rec n 12 w.heap.size w' v ms/\Below w.heap.size w w'
theorem Pt (d : List AX) (i : Nat) (rec : Bool) (A : zo) (c : Nat) (w : World) (hd : BM w A d) (hi : i < d.length) :
    Calls Tryz.prog 39 #[Dc A d.length c, .int .i64 i, .bool rec] w (Y8 d i rec d.length w) := by
  have hn := hd.1.lt (by omega)
  obtain ⟨b, o, A', c', rfl, hr, c0, c1, c2, c3, c4⟩ := hd.Vh hi;generalize d.getD i Bh = x at *;have HI := zh (KC.new (c := c) hd hr c');have HD0 := zh hd;have IJ := zh hr;have h1 : (0:Int) <= (i:Int) := by omega
  have h2 : (i : Int) < (d.length : Int) := by omega
  have hz := zL c0;simp only at hz;clear hd hr
  go_enter Tryz.func39, Tryz.ntmps39
  go_wp2
  clear c0 c1 c2 c3 c4;generalize (w.alloc (.cells #[.slice (some ⟨b, o, none⟩) d.length c] 24)).alloc (x.box A' c') = wc at *
  go_loopw [8, 9] (fun v s wr => ∃ (k : Nat) (ms : List AZ), k <= 12 /\ s = .int .i64 ((k : Int) + 1) /\ Hid (JJ d i rec d.length k (w.heap.size + 2) wr v ms /\ KC w wr (some ⟨b, o, none⟩) d c x A' c')) (fun _ s _ => 13 - (intOf s).toNat)
  case atStart => exact ⟨0, [], by omega, rfl, ⟨Ad.nil _ _, Dm.nil _ _ _, fun _ h => (by cases h), fun _ h => by cases h⟩, HI.out⟩
  case round =>
    obtain ⟨k, ms, hk, rfl, hh⟩ := hrel;obtain ⟨wo, rfl⟩ : ∃ wo : World, wo = wr := ⟨_, rfl⟩;have nG := zh hh.out.1;have fG := zh hh.out.2;clear hh
    by_cases hlt : k < 12
    · have hkt : (k : Int) + 1 <= 12 := by omega
      have GV := zh hlt;clear hlt;go_wp2
      go_loopw [8, 10] (fun v s wr => ∃ q : Nat, q <= x.parts.length /\ s = .int .i64 (q : Int) /\ Hid (JJ d i rec d.length k (w.heap.size + 2) wr v ms /\ KC w wr (some ⟨b, o, none⟩) d c x A' c')) (fun _ s _ => x.parts.length - (intOf s).toNat)
      case atStart => exact ⟨0, by omega, rfl, nG.out, fG.out⟩
      case round =>
        obtain ⟨q, hq, rfl, hh⟩ := hrel;obtain ⟨wi, rfl⟩ : ∃ wi : World, wi = wr := ⟨_, rfl⟩;have vw := zh hh.out.1;have ZW := zh hh.out.2;have hpn : x.parts.length <= 140737488355328 := by have := hh.out.2.nr.parts.1; unfold DU at this; omega
        have n4 : wi.cell? ⟨w.heap.size + 1, 4, none⟩ = some (.slice A' x.parts.length c') := hh.out.2.nb.cell 4;have hnl := hh.out.2.nb.blt;clear hh
        by_cases gD : q < x.parts.length
        · obtain ⟨pb, po, rfl, ⟨p1, p2, p3⟩, e0, e1, e2⟩ := ZW.out.nr.parts.at3 gD
          generalize x.parts[q] = pp at *;have hdc := ZW.out.db.cell;have hdl := ZW.out.db.lt;have hpe := zL e0;simp only at hpe;have g1 : (0:Int) <= (q:Int) := by omega
          have g2 : (q : Int) < (x.parts.length : Int) := by omega
          have fI := zh (zD wi (.cells #[.int .u8 pp.id, .int .u8 pp.type, .int .u8 pp.flag] 121));have HPX := zh (AAC wi (.cells #[.int .u8 pp.id, .int .u8 pp.type, .int .u8 pp.flag] 121));go_wp2_with fail;refine (Ui d i pp.type _ c _ (ZW.out.below fI).db.nodes hi p2).mono ?_;rintro e w3 ⟨rfl, hb3⟩;have HTT := zh (@Uj d i pp.type hi)
          have rq := zh (@SL d i pp.type);generalize CJ d i pp.type = T at *;have Vr := zh ((ZW.out.below fI).below hb3);have O1 := zh ((vw.out.below fI).below hb3);have hpx := (hb3.block _ (zg.1 HPX).1).trans HPX;have f0 : w3.cell? ⟨wi.heap.size, 0, none⟩ = some (.int .u8 pp.id) := by rw [AAE _ _ _ _ _ _ hpx]; rfl
          have f2 : w3.cell? ⟨wi.heap.size, 2, none⟩ = some (.int .u8 pp.flag) := by rw [AAE _ _ _ _ _ _ hpx]; rfl
          have hf := zL f0;have ADn := Vr.out.db.cell;have ADm := Vr.out.db.lt;simp only at hf;clear hpx hb3 e0 e1 e2 hdc hdl hpe n4 hnl;obtain ⟨E1, hE1⟩ : ∃ E, (1 + (pp.id : Int) % 12 != (k : Int) + 1) = E := ⟨_, rfl⟩
          cases E1 with
          | true =>
            go_wp2
            go_roundw
            case rel => exact ⟨q + 1, by omega, by go_num, O1.out, Vr.out⟩
            case measure => simp [intOf]; omega
          | false =>
            by_cases hT : T < 0
            · go_wp2
              go_roundw
              case rel => exact ⟨q + 1, by omega, by go_num, O1.out, Vr.out⟩
              case measure => simp [intOf]; omega
            · have hTd : decide (T < 0) = false := AAU hT
              have rZ := zh (HTT.out hT);replace rq := zh (rq.out hT);obtain ⟨tn, rfl⟩ := AAT rZ.out.1;clear hT HTT;obtain ⟨S, hS⟩ : ∃ S, Utf8.encode (97 + ((k : Int) + 1)) = S := ⟨_, rfl⟩;have HS : Hid (S = ⟨#[UInt8.ofNat (97 + (k + 1))]⟩) := by have := (NN (n := k + 1) (by omega)).1; rw [<- hS]; exact this
              have hds : ¬ 9223372036854775807 < 1 + S.size := by have : S.size = 1 := by rw [HS.out]; rfl
                                                                  omega
              cases rec with
              | false =>
                go_upto_region 17 with fail
                have hx4 := AAC w3 (.cells #[.int .i64 ((k : Int) + 1), .string ((⟨#[109]⟩ : ByteArray) ++ S), .int .i64 (tn : Int), .bool false, .bool false, .int .i64 0, .bool false, .int .i64 0, .string ⟨#[]⟩, .int .i64 0, .slice none 0 0, .slice none 0 0, .slice none 0 0] 118)
                have bY := Vr.out.below (zD w3 (.cells #[.int .i64 ((k : Int) + 1), .string ((⟨#[109]⟩ : ByteArray) ++ S), .int .i64 (tn : Int), .bool false, .bool false, .int .i64 0, .bool false, .int .i64 0, .string ⟨#[]⟩, .int .i64 0, .slice none 0 0, .slice none 0 0, .slice none 0 0] 118))
                have Tc := O1.out.below (zD w3 (.cells #[.int .i64 ((k : Int) + 1), .string ((⟨#[109]⟩ : ByteArray) ++ S), .int .i64 (tn : Int), .bool false, .bool false, .int .i64 0, .bool false, .int .i64 0, .string ⟨#[]⟩, .int .i64 0, .slice none 0 0, .slice none 0 0, .slice none 0 0] 118));have mg := zh hx4;have OV := zh bY;have FI := zh Tc
                obtain ⟨m0, m1, m2, m3, m4, m5, m6, m7, m8, m9, m10, m11, m12⟩ := Iz hx4;have hmb := (zg.1 hx4).1;clear hx4 bY Tc;generalize w3.alloc (.cells #[.int .i64 ((k : Int) + 1), .string ((⟨#[109]⟩ : ByteArray) ++ S), .int .i64 (tn : Int), .bool false, .bool false, .int .i64 0, .bool false, .int .i64 0, .string ⟨#[]⟩, .int .i64 0, .slice none 0 0, .slice none 0 0, .slice none 0 0] 118) = W4 at *
                have MN := zh (Ad.alloc FI.out.own (.cells #[.int .i64 ((k : Int) + 1), .string ((⟨#[109]⟩ : ByteArray) ++ S), .int .i64 (tn : Int), .bool false, .bool false, .int .i64 0, .bool false, .int .i64 0, .string ⟨#[]⟩, .int .i64 0, .slice none 0 0, .slice none 0 0, .slice none 0 0] 118))
                have Rj : Hid ((W4.alloc (.cells #[.int .i64 ((k : Int) + 1), .string ((⟨#[109]⟩ : ByteArray) ++ S), .int .i64 (tn : Int), .bool false, .bool false, .int .i64 0, .bool false, .int .i64 0, .string ⟨#[]⟩, .int .i64 0, .slice none 0 0, .slice none 0 0, .slice none 0 0] 118)).rangeAt W4.heap.size 0 [.int .i64 ((k : Int) + 1), .string ((⟨#[109]⟩ : ByteArray) ++ S), .int .i64 (tn : Int), .bool false, .bool false, .int .i64 0, .bool false, .int .i64 0, .string ⟨#[]⟩, .int .i64 0, .slice none 0 0, .slice none 0 0, .slice none 0 0]) := zh (zR W4 [.int .i64 ((k : Int) + 1), .string ((⟨#[109]⟩ : ByteArray) ++ S), .int .i64 (tn : Int), .bool false, .bool false, .int .i64 0, .bool false, .int .i64 0, .string ⟨#[]⟩, .int .i64 0, .slice none 0 0, .slice none 0 0, .slice none 0 0] 118)
                have NR : Hid (w.heap.size + 2 <= (W4.alloc (.cells #[.int .i64 ((k : Int) + 1), .string ((⟨#[109]⟩ : ByteArray) ++ S), .int .i64 (tn : Int), .bool false, .bool false, .int .i64 0, .bool false, .int .i64 0, .string ⟨#[]⟩, .int .i64 0, .slice none 0 0, .slice none 0 0, .slice none 0 0] 118)).heap.size) := by have := OV.out.sz; show _ <= _; simp; omega
                have R3 := zh (FI.out.ok.mono (k' := 12) (by omega)).len
                go_wp2_with (at_builtin; refine yG K8 _ rfl (.tmp 85) (.tmp 87) rfl (w.heap.size + 2) _ _ _ rfl MN W4.heap.size 0 1 1 [.int .i64 ((k : Int) + 1), .string ((⟨#[109]⟩ : ByteArray) ++ S), .int .i64 (tn : Int), .bool false, .bool false, .int .i64 0, .bool false, .int .i64 0, .string ⟨#[]⟩, .int .i64 0, .slice none 0 0, .slice none 0 0, .slice none 0 0] rfl rfl Rj (K7 ⟨(k : Int) + 1, (⟨#[109]⟩ : ByteArray) ++ S, (tn : Int), false, false, zeroV⟩) (by have := R3.out; omega) (by have := R3.out; omega) NR ?_; intro v8 w8 CW Bt)
                go_roundw
                case rel =>
                  refine ⟨k + 1, ms ++ [⟨(k : Int) + 1, (⟨#[109]⟩ : ByteArray) ++ S, (tn : Int), false, false, zeroV⟩], by omega, by go_num, ?_⟩
                  have HG : Hid (Below w.heap.size w w8 /\ W4.heap.size <= w8.heap.size /\ ∀ q, q < w.heap.size + 2 -> w8.heap[q]? = W4.heap[q]?) := by
                    have hnew := zD W4 (.cells #[.int .i64 ((k : Int) + 1), .string ((⟨#[109]⟩ : ByteArray) ++ S), .int .i64 (tn : Int), .bool false, .bool false, .int .i64 0, .bool false, .int .i64 0, .string ⟨#[]⟩, .int .i64 0, .slice none 0 0, .slice none 0 0, .slice none 0 0] 118)
                    refine ⟨(zB OV.out.Bb hnew).grown Bt (zB OV.out.Bb hnew).size (fun q hq => by have := MN.out.lt q hq; omega), Nat.le_trans hnew.size Bt.size, fun q hq => ?_⟩
                    exact (yA Bt (by have := NR.out; omega) (fun j hj e => by have := MN.out.lt j hj; omega)).trans (hnew.block q (by have := OV.out.sz; omega))
                  exact ⟨JJ.snoc (m := ⟨(k : Int) + 1, (⟨#[109]⟩ : ByteArray) ++ S, (tn : Int), false, false, zeroV⟩) FI rfl (by rw [HS.out]; exact Nu 109 (k + 1)) rZ rfl ⟨(by decide : (⟨#[]⟩ : ByteArray).size <= 1 /\ (0 : Int) ≠ 5 /\ (0 : Int) ≠ 6), rfl, rfl, rfl⟩ ⟨(fun h => by cases h), rq.out⟩ CW, OV.out.keep HD0 IJ HG.out.1 HG.out.2.1 HG.out.2.2⟩
                case measure => simp [intOf]; omega
              | true =>
                obtain ⟨E3, hE3⟩ : ∃ E, ((pp.flag : Int) % 4 == 1) = E := ⟨_, rfl⟩;obtain ⟨E4, hE4⟩ : ∃ E, decide (2 <= (pp.flag : Int) % 4) = E := ⟨_, rfl⟩
                cases E3 with
                | true =>
                  have hE5 : E4 = false := by rw [<- hE4]; simp at hE3; simp; omega
                  subst hE5;go_upto_region 17 with fail
                  have hx4 := AAC w3 (.cells #[.int .i64 ((k : Int) + 1), .string ((⟨#[109]⟩ : ByteArray) ++ S), .int .i64 (tn : Int), .bool true, .bool false, .int .i64 0, .bool false, .int .i64 0, .string ⟨#[]⟩, .int .i64 0, .slice none 0 0, .slice none 0 0, .slice none 0 0] 118)
                  have bY := Vr.out.below (zD w3 (.cells #[.int .i64 ((k : Int) + 1), .string ((⟨#[109]⟩ : ByteArray) ++ S), .int .i64 (tn : Int), .bool true, .bool false, .int .i64 0, .bool false, .int .i64 0, .string ⟨#[]⟩, .int .i64 0, .slice none 0 0, .slice none 0 0, .slice none 0 0] 118))
                  have Tc := O1.out.below (zD w3 (.cells #[.int .i64 ((k : Int) + 1), .string ((⟨#[109]⟩ : ByteArray) ++ S), .int .i64 (tn : Int), .bool true, .bool false, .int .i64 0, .bool false, .int .i64 0, .string ⟨#[]⟩, .int .i64 0, .slice none 0 0, .slice none 0 0, .slice none 0 0] 118));have mg := zh hx4;have OV := zh bY;have FI := zh Tc
                  obtain ⟨m0, m1, m2, m3, m4, m5, m6, m7, m8, m9, m10, m11, m12⟩ := Iz hx4;have hmb := (zg.1 hx4).1;clear hx4 bY Tc;generalize w3.alloc (.cells #[.int .i64 ((k : Int) + 1), .string ((⟨#[109]⟩ : ByteArray) ++ S), .int .i64 (tn : Int), .bool true, .bool false, .int .i64 0, .bool false, .int .i64 0, .string ⟨#[]⟩, .int .i64 0, .slice none 0 0, .slice none 0 0, .slice none 0 0] 118) = W4 at *
                  have MN := zh (Ad.alloc FI.out.own (.cells #[.int .i64 ((k : Int) + 1), .string ((⟨#[109]⟩ : ByteArray) ++ S), .int .i64 (tn : Int), .bool true, .bool false, .int .i64 0, .bool false, .int .i64 0, .string ⟨#[]⟩, .int .i64 0, .slice none 0 0, .slice none 0 0, .slice none 0 0] 118))
                  have Rj : Hid ((W4.alloc (.cells #[.int .i64 ((k : Int) + 1), .string ((⟨#[109]⟩ : ByteArray) ++ S), .int .i64 (tn : Int), .bool true, .bool false, .int .i64 0, .bool false, .int .i64 0, .string ⟨#[]⟩, .int .i64 0, .slice none 0 0, .slice none 0 0, .slice none 0 0] 118)).rangeAt W4.heap.size 0 [.int .i64 ((k : Int) + 1), .string ((⟨#[109]⟩ : ByteArray) ++ S), .int .i64 (tn : Int), .bool true, .bool false, .int .i64 0, .bool false, .int .i64 0, .string ⟨#[]⟩, .int .i64 0, .slice none 0 0, .slice none 0 0, .slice none 0 0]) := zh (zR W4 [.int .i64 ((k : Int) + 1), .string ((⟨#[109]⟩ : ByteArray) ++ S), .int .i64 (tn : Int), .bool true, .bool false, .int .i64 0, .bool false, .int .i64 0, .string ⟨#[]⟩, .int .i64 0, .slice none 0 0, .slice none 0 0, .slice none 0 0] 118)
                  have NR : Hid (w.heap.size + 2 <= (W4.alloc (.cells #[.int .i64 ((k : Int) + 1), .string ((⟨#[109]⟩ : ByteArray) ++ S), .int .i64 (tn : Int), .bool true, .bool false, .int .i64 0, .bool false, .int .i64 0, .string ⟨#[]⟩, .int .i64 0, .slice none 0 0, .slice none 0 0, .slice none 0 0] 118)).heap.size) := by have := OV.out.sz; show _ <= _; simp; omega
                  have R3 := zh (FI.out.ok.mono (k' := 12) (by omega)).len
                  go_wp2_with (at_builtin; refine yG K8 _ rfl (.tmp 85) (.tmp 87) rfl (w.heap.size + 2) _ _ _ rfl MN W4.heap.size 0 1 1 [.int .i64 ((k : Int) + 1), .string ((⟨#[109]⟩ : ByteArray) ++ S), .int .i64 (tn : Int), .bool true, .bool false, .int .i64 0, .bool false, .int .i64 0, .string ⟨#[]⟩, .int .i64 0, .slice none 0 0, .slice none 0 0, .slice none 0 0] rfl rfl Rj (K7 ⟨(k : Int) + 1, (⟨#[109]⟩ : ByteArray) ++ S, (tn : Int), true, false, zeroV⟩) (by have := R3.out; omega) (by have := R3.out; omega) NR ?_; intro v8 w8 CW Bt)
                  go_roundw
                  case rel =>
                    refine ⟨k + 1, ms ++ [⟨(k : Int) + 1, (⟨#[109]⟩ : ByteArray) ++ S, (tn : Int), true, false, zeroV⟩], by omega, by go_num, ?_⟩
                    have HG : Hid (Below w.heap.size w w8 /\ W4.heap.size <= w8.heap.size /\ ∀ q, q < w.heap.size + 2 -> w8.heap[q]? = W4.heap[q]?) := by
                      have hnew := zD W4 (.cells #[.int .i64 ((k : Int) + 1), .string ((⟨#[109]⟩ : ByteArray) ++ S), .int .i64 (tn : Int), .bool true, .bool false, .int .i64 0, .bool false, .int .i64 0, .string ⟨#[]⟩, .int .i64 0, .slice none 0 0, .slice none 0 0, .slice none 0 0] 118)
                      refine ⟨(zB OV.out.Bb hnew).grown Bt (zB OV.out.Bb hnew).size (fun q hq => by have := MN.out.lt q hq; omega), Nat.le_trans hnew.size Bt.size, fun q hq => ?_⟩
                      exact (yA Bt (by have := NR.out; omega) (fun j hj e => by have := MN.out.lt j hj; omega)).trans (hnew.block q (by have := OV.out.sz; omega))
                    exact ⟨JJ.snoc (m := ⟨(k : Int) + 1, (⟨#[109]⟩ : ByteArray) ++ S, (tn : Int), true, false, zeroV⟩) FI rfl (by rw [HS.out]; exact Nu 109 (k + 1)) rZ rfl ⟨(by decide : (⟨#[]⟩ : ByteArray).size <= 1 /\ (0 : Int) ≠ 5 /\ (0 : Int) ≠ 6), rfl, rfl, rfl⟩ ⟨(fun h => by cases h), rq.out⟩ CW, OV.out.keep HD0 IJ HG.out.1 HG.out.2.1 HG.out.2.2⟩
                  case measure => simp [intOf]; omega
                | false =>
                  cases E4 with
                  | false =>
                    go_upto_region 17 with fail
                    have hx4 := AAC w3 (.cells #[.int .i64 ((k : Int) + 1), .string ((⟨#[109]⟩ : ByteArray) ++ S), .int .i64 (tn : Int), .bool false, .bool false, .int .i64 0, .bool false, .int .i64 0, .string ⟨#[]⟩, .int .i64 0, .slice none 0 0, .slice none 0 0, .slice none 0 0] 118)
                    have bY := Vr.out.below (zD w3 (.cells #[.int .i64 ((k : Int) + 1), .string ((⟨#[109]⟩ : ByteArray) ++ S), .int .i64 (tn : Int), .bool false, .bool false, .int .i64 0, .bool false, .int .i64 0, .string ⟨#[]⟩, .int .i64 0, .slice none 0 0, .slice none 0 0, .slice none 0 0] 118))
                    have Tc := O1.out.below (zD w3 (.cells #[.int .i64 ((k : Int) + 1), .string ((⟨#[109]⟩ : ByteArray) ++ S), .int .i64 (tn : Int), .bool false, .bool false, .int .i64 0, .bool false, .int .i64 0, .string ⟨#[]⟩, .int .i64 0, .slice none 0 0, .slice none 0 0, .slice none 0 0] 118));have mg := zh hx4;have OV := zh bY;have FI := zh Tc
                    obtain ⟨m0, m1, m2, m3, m4, m5, m6, m7, m8, m9, m10, m11, m12⟩ := Iz hx4;have hmb := (zg.1 hx4).1;clear hx4 bY Tc;generalize w3.alloc (.cells #[.int .i64 ((k : Int) + 1), .string ((⟨#[109]⟩ : ByteArray) ++ S), .int .i64 (tn : Int), .bool false, .bool false, .int .i64 0, .bool false, .int .i64 0, .string ⟨#[]⟩, .int .i64 0, .slice none 0 0, .slice none 0 0, .slice none 0 0] 118) = W4 at *
                    have MN := zh (Ad.alloc FI.out.own (.cells #[.int .i64 ((k : Int) + 1), .string ((⟨#[109]⟩ : ByteArray) ++ S), .int .i64 (tn : Int), .bool false, .bool false, .int .i64 0, .bool false, .int .i64 0, .string ⟨#[]⟩, .int .i64 0, .slice none 0 0, .slice none 0 0, .slice none 0 0] 118))
                    have Rj : Hid ((W4.alloc (.cells #[.int .i64 ((k : Int) + 1), .string ((⟨#[109]⟩ : ByteArray) ++ S), .int .i64 (tn : Int), .bool false, .bool false, .int .i64 0, .bool false, .int .i64 0, .string ⟨#[]⟩, .int .i64 0, .slice none 0 0, .slice none 0 0, .slice none 0 0] 118)).rangeAt W4.heap.size 0 [.int .i64 ((k : Int) + 1), .string ((⟨#[109]⟩ : ByteArray) ++ S), .int .i64 (tn : Int), .bool false, .bool false, .int .i64 0, .bool false, .int .i64 0, .string ⟨#[]⟩, .int .i64 0, .slice none 0 0, .slice none 0 0, .slice none 0 0]) := zh (zR W4 [.int .i64 ((k : Int) + 1), .string ((⟨#[109]⟩ : ByteArray) ++ S), .int .i64 (tn : Int), .bool false, .bool false, .int .i64 0, .bool false, .int .i64 0, .string ⟨#[]⟩, .int .i64 0, .slice none 0 0, .slice none 0 0, .slice none 0 0] 118)
                    have NR : Hid (w.heap.size + 2 <= (W4.alloc (.cells #[.int .i64 ((k : Int) + 1), .string ((⟨#[109]⟩ : ByteArray) ++ S), .int .i64 (tn : Int), .bool false, .bool false, .int .i64 0, .bool false, .int .i64 0, .string ⟨#[]⟩, .int .i64 0, .slice none 0 0, .slice none 0 0, .slice none 0 0] 118)).heap.size) := by have := OV.out.sz; show _ <= _; simp; omega
                    have R3 := zh (FI.out.ok.mono (k' := 12) (by omega)).len
                    go_wp2_with (at_builtin; refine yG K8 _ rfl (.tmp 85) (.tmp 87) rfl (w.heap.size + 2) _ _ _ rfl MN W4.heap.size 0 1 1 [.int .i64 ((k : Int) + 1), .string ((⟨#[109]⟩ : ByteArray) ++ S), .int .i64 (tn : Int), .bool false, .bool false, .int .i64 0, .bool false, .int .i64 0, .string ⟨#[]⟩, .int .i64 0, .slice none 0 0, .slice none 0 0, .slice none 0 0] rfl rfl Rj (K7 ⟨(k : Int) + 1, (⟨#[109]⟩ : ByteArray) ++ S, (tn : Int), false, false, zeroV⟩) (by have := R3.out; omega) (by have := R3.out; omega) NR ?_; intro v8 w8 CW Bt)
                    go_roundw
                    case rel =>
                      refine ⟨k + 1, ms ++ [⟨(k : Int) + 1, (⟨#[109]⟩ : ByteArray) ++ S, (tn : Int), false, false, zeroV⟩], by omega, by go_num, ?_⟩
                      have HG : Hid (Below w.heap.size w w8 /\ W4.heap.size <= w8.heap.size /\ ∀ q, q < w.heap.size + 2 -> w8.heap[q]? = W4.heap[q]?) := by
                        have hnew := zD W4 (.cells #[.int .i64 ((k : Int) + 1), .string ((⟨#[109]⟩ : ByteArray) ++ S), .int .i64 (tn : Int), .bool false, .bool false, .int .i64 0, .bool false, .int .i64 0, .string ⟨#[]⟩, .int .i64 0, .slice none 0 0, .slice none 0 0, .slice none 0 0] 118)
                        refine ⟨(zB OV.out.Bb hnew).grown Bt (zB OV.out.Bb hnew).size (fun q hq => by have := MN.out.lt q hq; omega), Nat.le_trans hnew.size Bt.size, fun q hq => ?_⟩
                        exact (yA Bt (by have := NR.out; omega) (fun j hj e => by have := MN.out.lt j hj; omega)).trans (hnew.block q (by have := OV.out.sz; omega))
                      exact ⟨JJ.snoc (m := ⟨(k : Int) + 1, (⟨#[109]⟩ : ByteArray) ++ S, (tn : Int), false, false, zeroV⟩) FI rfl (by rw [HS.out]; exact Nu 109 (k + 1)) rZ rfl ⟨(by decide : (⟨#[]⟩ : ByteArray).size <= 1 /\ (0 : Int) ≠ 5 /\ (0 : Int) ≠ 6), rfl, rfl, rfl⟩ ⟨(fun h => by cases h), rq.out⟩ CW, OV.out.keep HD0 IJ HG.out.1 HG.out.2.1 HG.out.2.2⟩
                    case measure => simp [intOf]; omega
                  | true =>
                    obtain ⟨fq, hfq⟩ : ∃ fq : Nat, fq = pp.flag / 4 := ⟨_, rfl⟩;have efq : (pp.flag : Int) / 4 = (fq : Int) := by rw [hfq]; simp
                    have hfl : fq < 256 := by omega
                    clear hfq;go_wp2_with fail;have hx3 := AAC w3 (.cells #[.int .i64 ((k : Int) + 1), .string ((⟨#[109]⟩ : ByteArray) ++ S), .int .i64 (tn : Int), .bool false, .bool false, .int .i64 0, .bool false, .int .i64 0, .string ⟨#[]⟩, .int .i64 0, .slice none 0 0, .slice none 0 0, .slice none 0 0] 118)
                    have hp3 := Vr.out.below (zD w3 (.cells #[.int .i64 ((k : Int) + 1), .string ((⟨#[109]⟩ : ByteArray) ++ S), .int .i64 (tn : Int), .bool false, .bool false, .int .i64 0, .bool false, .int .i64 0, .string ⟨#[]⟩, .int .i64 0, .slice none 0 0, .slice none 0 0, .slice none 0 0] 118))
                    have kH := O1.out.below (zD w3 (.cells #[.int .i64 ((k : Int) + 1), .string ((⟨#[109]⟩ : ByteArray) ++ S), .int .i64 (tn : Int), .bool false, .bool false, .int .i64 0, .bool false, .int .i64 0, .string ⟨#[]⟩, .int .i64 0, .slice none 0 0, .slice none 0 0, .slice none 0 0] 118));refine (TW d tn fq _ c _ hp3.db.nodes (by have := rZ.out; omega) (by omega)).mono ?_
                    rintro e w5 ⟨x5, ok, rfl, AAB, yu, hb5, bZ⟩;obtain ⟨xk, xb, xi, xs, xn, ks, is, rs⟩ := x5;obtain ⟨hs5, hk5, hi5, mP⟩ := AAB;simp only [Val.keys, Val.items, Val.rest, Val.str] at hk5 hi5 mP hs5;subst hk5 hi5 mP
                    dsimp only [Val.v, Val.kind, Val.bool, Val.int, Val.str, Val.id, Val.keys, Val.items, Val.rest, List.length_nil]
                    have r9 := zh hs5;have HZ5 := zh yu;have Ry := zh bZ;have hx5 := (hb5.block _ (zg.1 hx3).1).trans hx3;have zf := hp3.below hb5;have Yj := kH.below hb5;have Oy := zh (bF hx5);have hmb := (zg.1 hx5).1;have h3z := Vr.out.sz;have hx6 := oh hx5 (.int .i64 xk) (.bool xb) (.int .i64 xi) (.string xs) (.int .i64 xn) (.slice none 0 0) (.slice none 0 0) (.slice none 0 0);have Ox := zh hx6
                    have UX := zh (zf.keep (W' := w5.setCells w3.heap.size 5 [.int .i64 xk, .bool xb, .int .i64 xi, .string xs, .int .i64 xn, .slice none 0 0, .slice none 0 0, .slice none 0 0]) HD0 IJ (yC _ (by omega) _ _ _ zf.Bb) (by rw [size_setCells]; exact AAH _) (fun q hq => zN (by omega) _ _ _))
                    have FU : Hid (JJ d i true d.length k (w.heap.size + 2) (w5.setCells w3.heap.size 5 [.int .i64 xk, .bool xb, .int .i64 xi, .string xs, .int .i64 xn, .slice none 0 0, .slice none 0 0, .slice none 0 0]) u8 ms) := ⟨Yj.own.keep fun g _ _ hg => zN (fun e => by have := (World.ownsRow.lt O1.out.own g hg).2; omega) _ _ _, Yj.ok, Yj.flat, Yj.mO⟩
                    have f4 := AAL _ _ 4 _ _ hx6;have c4 := (Iz hx6).2.2.2.2.1;have hm6 := (zg.1 hx6).1;clear hx3 hp3 kH hb5 hs5 yu bZ hx5 zf Yj hmb h3z hx6
                    go_upto_region 17 with (refine wpList_store_mid rfl 28 (.tmp 83) (.tmp 81) rfl w3.heap.size 5 #[.int .i64 xk, .bool xb, .int .i64 xi, .string xs, .int .i64 xn, .slice none 0 0, .slice none 0 0, .slice none 0 0] (by rfl) (by rfl) ?_ ?_ ?_ ?_; (exact Oy.out); (exact zW); (exact val_one (Val.mk xk xb xi xs xn [] [] []) none 0 none 0 none 0); (generalize w5.setCells w3.heap.size 5 [.int .i64 xk, .bool xb, .int .i64 xi, .string xs, .int .i64 xn, .slice none 0 0, .slice none 0 0, .slice none 0 0] = W6 at *))
                    have h3z := Vr.out.sz
                    have hx4 : (W6.setCell ⟨w3.heap.size, 4, none⟩ (.bool ok)).heap[w3.heap.size]? = some (.cells #[.int .i64 ((k : Int) + 1), .string ((⟨#[109]⟩ : ByteArray) ++ S), .int .i64 (tn : Int), .bool false, .bool ok, .int .i64 xk, .bool xb, .int .i64 xi, .string xs, .int .i64 xn, .slice none 0 0, .slice none 0 0, .slice none 0 0] 118 (0, 0)) := by rw [AAW _ _ 4 _ _ _ Ox.out]; simp
                    have bY := UX.out.keep (W' := W6.setCell ⟨w3.heap.size, 4, none⟩ (.bool ok)) HD0 IJ (UX.out.Bb.setCell (p := ⟨w3.heap.size, 4, none⟩) (by simp only; omega) _) (by simp) (fun q hq => AAF _ _ _ _ (by simp only; omega))
                    have Tc : JJ d i true d.length k (w.heap.size + 2) (W6.setCell ⟨w3.heap.size, 4, none⟩ (.bool ok)) u8 ms := ⟨FU.out.own.keep fun g _ _ hg => AAF _ _ _ _ (fun e => by have := (World.ownsRow.lt O1.out.own g hg).2; simp only at e; omega), FU.out.ok, FU.out.flat, FU.out.mO⟩
                    clear f4 c4 hm6 h3z Ox UX FU;have mg := zh hx4;have OV := zh bY;have FI := zh Tc;obtain ⟨m0, m1, m2, m3, m4, m5, m6, m7, m8, m9, m10, m11, m12⟩ := Iz hx4;have hmb := (zg.1 hx4).1;clear hx4 bY Tc;generalize W6.setCell ⟨w3.heap.size, 4, none⟩ (.bool ok) = W4 at *
                    have MN := zh (Ad.alloc FI.out.own (.cells #[.int .i64 ((k : Int) + 1), .string ((⟨#[109]⟩ : ByteArray) ++ S), .int .i64 (tn : Int), .bool false, .bool ok, .int .i64 xk, .bool xb, .int .i64 xi, .string xs, .int .i64 xn, .slice none 0 0, .slice none 0 0, .slice none 0 0] 118))
                    have Rj : Hid ((W4.alloc (.cells #[.int .i64 ((k : Int) + 1), .string ((⟨#[109]⟩ : ByteArray) ++ S), .int .i64 (tn : Int), .bool false, .bool ok, .int .i64 xk, .bool xb, .int .i64 xi, .string xs, .int .i64 xn, .slice none 0 0, .slice none 0 0, .slice none 0 0] 118)).rangeAt W4.heap.size 0 [.int .i64 ((k : Int) + 1), .string ((⟨#[109]⟩ : ByteArray) ++ S), .int .i64 (tn : Int), .bool false, .bool ok, .int .i64 xk, .bool xb, .int .i64 xi, .string xs, .int .i64 xn, .slice none 0 0, .slice none 0 0, .slice none 0 0]) := zh (zR W4 [.int .i64 ((k : Int) + 1), .string ((⟨#[109]⟩ : ByteArray) ++ S), .int .i64 (tn : Int), .bool false, .bool ok, .int .i64 xk, .bool xb, .int .i64 xi, .string xs, .int .i64 xn, .slice none 0 0, .slice none 0 0, .slice none 0 0] 118)
                    have NR : Hid (w.heap.size + 2 <= (W4.alloc (.cells #[.int .i64 ((k : Int) + 1), .string ((⟨#[109]⟩ : ByteArray) ++ S), .int .i64 (tn : Int), .bool false, .bool ok, .int .i64 xk, .bool xb, .int .i64 xi, .string xs, .int .i64 xn, .slice none 0 0, .slice none 0 0, .slice none 0 0] 118)).heap.size) := by have := OV.out.sz; show _ <= _; simp; omega
                    have R3 := zh (FI.out.ok.mono (k' := 12) (by omega)).len
                    go_wp2_with (at_builtin; refine yG K8 _ rfl (.tmp 85) (.tmp 87) rfl (w.heap.size + 2) _ _ _ rfl MN W4.heap.size 0 1 1 [.int .i64 ((k : Int) + 1), .string ((⟨#[109]⟩ : ByteArray) ++ S), .int .i64 (tn : Int), .bool false, .bool ok, .int .i64 xk, .bool xb, .int .i64 xi, .string xs, .int .i64 xn, .slice none 0 0, .slice none 0 0, .slice none 0 0] rfl rfl Rj (K7 ⟨(k : Int) + 1, (⟨#[109]⟩ : ByteArray) ++ S, (tn : Int), false, ok, Val.mk xk xb xi xs xn [] [] []⟩) (by have := R3.out; omega) (by have := R3.out; omega) NR ?_; intro v8 w8 CW Bt)
                    go_roundw
                    case rel =>
                      refine ⟨k + 1, ms ++ [⟨(k : Int) + 1, (⟨#[109]⟩ : ByteArray) ++ S, (tn : Int), false, ok, Val.mk xk xb xi xs xn [] [] []⟩], by omega, by go_num, ?_⟩
                      have HG : Hid (Below w.heap.size w w8 /\ W4.heap.size <= w8.heap.size /\ ∀ q, q < w.heap.size + 2 -> w8.heap[q]? = W4.heap[q]?) := by
                        have hnew := zD W4 (.cells #[.int .i64 ((k : Int) + 1), .string ((⟨#[109]⟩ : ByteArray) ++ S), .int .i64 (tn : Int), .bool false, .bool ok, .int .i64 xk, .bool xb, .int .i64 xi, .string xs, .int .i64 xn, .slice none 0 0, .slice none 0 0, .slice none 0 0] 118)
                        refine ⟨(zB OV.out.Bb hnew).grown Bt (zB OV.out.Bb hnew).size (fun q hq => by have := MN.out.lt q hq; omega), Nat.le_trans hnew.size Bt.size, fun q hq => ?_⟩
                        exact (yA Bt (by have := NR.out; omega) (fun j hj e => by have := MN.out.lt j hj; omega)).trans (hnew.block q (by have := OV.out.sz; omega))
                      exact ⟨JJ.snoc (m := ⟨(k : Int) + 1, (⟨#[109]⟩ : ByteArray) ++ S, (tn : Int), false, ok, Val.mk xk xb xi xs xn [] [] []⟩) FI rfl (by rw [HS.out]; exact Nu 109 (k + 1)) rZ (by cases ok with
                        | true => rfl
                        | false => (have := HZ5.out rfl; rw [this]; rfl)) ⟨r9.out, rfl, rfl, rfl⟩ ⟨Ry.out, rq.out⟩ CW, OV.out.keep HD0 IJ HG.out.1 HG.out.2.1 HG.out.2.2⟩
                    case measure => simp [intOf]; omega
        · go_wp2
          go_roundw
          case rel => exact ⟨k + 1, ms, by omega, by go_num, ⟨vw.out.own, vw.out.ok.mono (by omega), vw.out.flat, vw.out.mO⟩, ZW.out⟩
          case measure => simp [intOf]; omega
    · have hkt : ¬ ((k : Int) + 1 <= 12) := by omega
      obtain rfl : k = 12 := by omega
      go_wp2
      go_ret
      exact ⟨_, ms, rfl, ⟨⟨nG.out.own.1, nG.out.own.2.imp id fun ⟨g, cap, cur, h1, h2, h3⟩ => ⟨g, cap, cur, h1, by omega, h3⟩⟩, nG.out.ok, nG.out.flat, nG.out.mO⟩, fG.out.Bb⟩
end Go.Proofs.YthkkllmmbefedaaGreatDoor



