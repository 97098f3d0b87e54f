/-
  Walks: value.copied.
-/
import Derived.Test.YthkkllmmbefedaaGreatDoorQGA7
namespace Go.Proofs.YthkkllmmbefedaaGreatDoor
open Go.RowKit
set_option maxHeartbeats 16000000
set_option maxRecDepth 100000
structure VcS (x:Val) (w:World) (P:Nat) (A1:zo) (c1:Nat) (A2:zo) (c2:Nat) (R1:zo) (r1:Nat) (j:Nat) (K1:zo) (k1:Nat) (I1:zo) (i1:Nat) (wr:World):Prop where
 bx:QB x w P K1 k1 I1 i1 R1 r1 wr
 rest:Off (· < w.heap.size+2) wr fun u=>Eh u R1 x.rest
 k0:j=0->K1=A1/\k1=c1
 kd:1<=j->Off (· < w.heap.size+2) wr fun u=>Ch u K1 x.keys
 i0:j<=1->I1=A2/\i1=c2
 id:2<=j->Off (· < w.heap.size+2) wr fun u=>Ch u I1 x.items
theorem IE (w:World) (o o2:Obj):((w.alloc o).alloc o2).heap[w.heap.size]? = some o/\((w.alloc o).alloc o2).heap[w.heap.size+1]? = some o2/\((w.alloc o).alloc o2).heap.size=w.heap.size+2:=by
 refine ⟨FR (AAL w o) o2,?_,by simp⟩
 have h:=AAL (w.alloc o) o2
 rwa [show (w.alloc o).heap.size=w.heap.size+1 by simp] at h
theorem TG {W:World} {b:Nat} {v:Val} {A1:zo} {c1:Nat} {A2:zo} {c2:Nat} {A3:zo} {c3:Nat} (h:W.heap[b]? = some (v.box A1 c1 A2 c2 A3 c3)) :
  W.cell? ⟨b,0,none⟩=some (.int .i64 v.kind)/\W.cell? ⟨b,1,none⟩=some (.bool v.bool)/\W.cell? ⟨b,2,none⟩=some (.int .i64 v.int)/\W.cell? ⟨b,3,none⟩=some (.string v.str)/\W.cell? ⟨b,4,none⟩=some (.int .i64 v.id)/\W.cell? ⟨b,5,none⟩=some (.slice A1 v.keys.length c1)/\W.cell? ⟨b,6,none⟩=some (.slice A2 v.items.length c2)/\W.cell? ⟨b,7,none⟩=some (.slice A3 v.rest.length c3):=by
 refine ⟨?_,?_,?_,?_,?_,?_,?_,?_⟩ <;> (rw[AAN _ _ _ _ _ _ h];rfl)
theorem bS {x:Val} {w W0 w3:World} {A1:zo} {c1:Nat} {A2:zo} {c2:Nat} {A3:zo} {c3:Nat} {R1:zo} {r1:Nat} (h0:W0.heap[w.heap.size]? = some (x.box A1 c1 A2 c2 A3 c3)) (h1:W0.heap[w.heap.size+1]? = some Ib) (hz:W0.heap.size=w.heap.size+2) (hb0:Below w.heap.size w W0) (hb:Below W0.heap.size W0 w3) (hr:Eh w A3 x.rest)
  (hk:∀H3,w3.heap.size<=H3->BG 97 2 (fun _ x cs=>Af.At x cs) w3 W0.heap.size H3 w.heap.size R1 r1 x.rest x.rest.length) :
  VcS x w w3.heap.size A1 c1 A2 c2 R1 r1 0 A1 c1 A2 c2 ((w3.setCell ⟨w.heap.size,7,none⟩ (.slice R1 x.rest.length r1)).alloc (Qi w.heap.size)):=by
 have hs:=hb.size;have hbx:=zE h0 hb;have hn:((w3.setCell ⟨w.heap.size,7,none⟩ (.slice R1 x.rest.length r1)).alloc (Qi w.heap.size)).heap[w3.heap.size]? = some (Qi w.heap.size):=by
  have h:=AAL (w3.setCell ⟨w.heap.size,7,none⟩ (.slice R1 x.rest.length r1)) (Qi w.heap.size)
  rwa [show (w3.setCell ⟨w.heap.size,7,none⟩ (.slice R1 x.rest.length r1)).heap.size=w3.heap.size by simp] at h
 refine ⟨⟨?_,?_,?_,hn,by omega⟩,?_,fun _=>⟨rfl,rfl⟩,fun h=>absurd h (by omega),fun _=>⟨rfl,rfl⟩,fun h=>absurd h (by omega)⟩
 ·refine FR ?_ _
  rw[AAW _ _ 7 _ _ _ hbx];rfl
 ·refine FR ?_ _
  rw[AAO _ _ _ _ (by simp)];exact zE h1 hb
 ·exact zB ((zB hb0 hb).setCell (p:=⟨w.heap.size,7,none⟩) (AAP _) _) (zD _ _)
 ·have h:=((hk _ (AAP _)).reH (H':=w.heap.size+2) (AAP _)).out (bytes:=24) (AAP _) (by omega) (by omega) hr.1
  exact (h.step (w1:=w3.setCell ⟨w.heap.size,7,none⟩ (.slice R1 x.rest.length r1)) (by simp) fun q hq _=>AAO _ _ _ _ (by simp only[ne_eq];omega)).alloc _
theorem Yj:∀ (n:Nat) (x:Val),SizeOf.sizeOf x<=n->∀ (A1:zo) (c1:Nat) (A2:zo) (c2:Nat) (A3:zo) (c3:Nat) (w:World),Ao w x A1 A2 A3 ->
  Calls Tryz.prog 91 #[x.v A1 c1 A2 c2 A3 c3] w (VK x w):=by
 intro n
 induction n with
 | zero=>intro x hx;exact absurd hx (by obtain ⟨k,b,i,s,d,ks,is,r⟩:=x;simp[Val.mk.sizeOf_spec])
 | succ n ih =>
 intro x hx A1 c1 A2 c2 A3 c3 w hr
 have IH:=zh ih;have HX:=zh hx;have HR:=zh hr;have HB0:=zh (zI w (x.box A1 c1 A2 c2 A3 c3) Ib);have BS:=zh (IE w (x.box A1 c1 A2 c2 A3 c3) Ib);have hn1:x.keys.length<=1172812402961:=by have:=hr.keys.1;unfold EK at this;omega
 have hn2:x.items.length<=1172812402961:=by have:=hr.items.1;unfold EK at this;omega
 clear ih hx hr
 go_enter Tryz.func91,Tryz.ntmps91
 go_upto_region 1 with fail
 generalize (w.alloc (x.box A1 c1 A2 c2 A3 c3)).alloc Ib=W0 at *;have e7:=(MG BS.out.1).1.1.2.2;go_wp2_with fail;refine (sU HR.out.rest HB0).mono ?_;rintro e w3 ⟨R1,r1,rfl,hb1,_,hk1⟩;have RJ:=zh (bS BS.out.1 BS.out.2.1 BS.out.2.2 HB0 hb1 HR.out.rest hk1);obtain ⟨⟨_,_,e7b⟩,_,_,f7⟩:=(MG (zE BS.out.1 hb1)).1
 have HPZ:Hid ((w3.setCell ⟨w.heap.size,7,none⟩ (.slice R1 x.rest.length r1)).heap.size=w3.heap.size):=by show _=_;simp
 clear hb1 hk1 e7 HB0 BS;go_upto_region 3 with fail
 clear e7b f7;generalize (w3.setCell ⟨w.heap.size,7,none⟩ (.slice R1 x.rest.length r1)).alloc (Qi w.heap.size)=W2 at *;try rw[HPZ.out]
 generalize w3.heap.size=P at *
 go_loopw [15] (fun s wr=>∃ (j:Nat) (K1:zo) (k1:Nat) (I1:zo) (i1:Nat),j<=2/\s = .int .i64 j/\Hid (VcS x w P A1 c1 A2 c2 R1 r1 j K1 k1 I1 i1 wr)) (fun s _=>2 - (intOf s).toNat)
 case atStart=>exact ⟨0,A1,c1,A2,c2,by omega,rfl,RJ.out⟩
 case round =>
  obtain ⟨j,K1,k1,I1,i1,hj,rfl,hh⟩:=hrel;obtain ⟨wk,rfl⟩:∃wk:World,wk=wr:=⟨_,rfl⟩;have HJ:j=0\/j=1\/j=2:=by omega
  have HST:=zh hh.out;have Oa:=zh hh.out.rest;have HB:=zh hh.out.bx;obtain ⟨p0,p1⟩:=hh.out.bx.cells;have hpl:=hh.out.bx.lt;obtain ⟨e5,e6,e7⟩:=(MG hh.out.bx.box).1.1;clear hh hj
  rcases HJ with rfl|rfl|rfl
  ·obtain ⟨rfl,rfl⟩:=HST.out.k0 (by omega)
   obtain ⟨rfl,rfl⟩:=HST.out.i0 (by omega)
   have HPK:=zh hpl;have h1:(0:Int)<=((0:Nat):Int):=by omega
   have h2:((0:Nat):Int)<2:=by omega
   go_wp2_with fail
   refine (iR HR.out.keys HB.out.Bz).mono ?_;rintro e w5 ⟨B1,d1,rfl,hb1,_,hk1⟩;obtain ⟨_,f5,f6,_⟩:=(MG (zE HB.out.box hb1)).1;have oM:=zh ((HB.out.below hb1).key B1 d1);have tu:=zh (Sn.start oM HPK hb1 hk1);have HKP:Hid (∀wr,Dy (w.heap.size+2) wk wr->(Off (· < w.heap.size+2) wr fun u=>Eh u R1 x.rest)):=fun wr hkp=>hkp.off Oa
   have e5b:=(MG (zE HB.out.box hb1)).1.1.1;have e6b:=(MG (zE HB.out.box hb1)).1.1.2.1;clear p0 p1 hpl e5 e6 e7 Oa hb1 hk1 HST HB;go_upto_region 6 with fail
   clear e5b e6b f5 f6;generalize w5.heap.size=H3 at *;generalize w5.setCell ⟨w.heap.size,5,none⟩ (.slice B1 x.keys.length d1)=W5 at *;have e5:W5.cell? ⟨w.heap.size,5,none⟩=some (.slice B1 x.keys.length d1):=(MG oM.out.box).1.1.1;go_wp2;clear e5
   go_loopw [29] (fun s wr=>∃i:Nat,i<=x.keys.length/\s = .int .i64 i/\Hid (Sn x w P B1 d1 I1 i1 R1 r1 wk H3 B1 d1 x.keys i wr)) (fun s _=>x.keys.length - (intOf s).toNat)
   case atStart=>exact ⟨0,by omega,rfl,tu.out⟩
   case round =>
    obtain ⟨i,hi,rfl,hh⟩:=hrel;obtain ⟨wo,rfl⟩:∃wo:World,wo=wr:=⟨_,rfl⟩
    by_cases hlt:i<x.keys.length
    ·obtain ⟨g,cs,rfl,hg0,hg1,_,hoff,hrg,_⟩:=hh.out.row.next hlt
     obtain ⟨E1,e1,E2,e2,E3,e3,rfl,Zj⟩:=Val.FZ.1 hoff.out;have Ee:=zh (Nat.le_of_lt_succ (AA2 (Val.Y2 (AAU hlt)) HX));obtain ⟨a0,a1,a2,a3,a4,a5,a6,a7⟩:=Kr hrg;have hz1:=zL a0;simp only at hz1;have h1:(0:Int)<=(i:Int):=by omega
     have h2:(i:Int)<(x.keys.length:Int):=by omega
     have Sr:=zh (hh.out.below (zD wo ((x.keys[i]).box E1 e1 E2 e2 E3 e3)));have HXB:=zh (AAL wo ((x.keys[i]).box E1 e1 E2 e2 E3 e3));have HVV:=zh (Zj.below (zD wo ((x.keys[i]).box E1 e1 E2 e2 E3 e3)));clear hg0 hg1 hoff Zj hrg;go_upto_region 9 with fail
     generalize wo.alloc ((x.keys[i]).box E1 e1 E2 e2 E3 e3)=wc at *;clear a0 a1 a2 a3 a4 a5 a6 a7
     refine yE (S:=(fun w'=>((w'.cell? ⟨w.heap.size,5,none⟩=some (.slice (some ⟨g,0,none⟩) x.keys.length d1)/\w'.cell? ⟨w.heap.size,6,none⟩=some (.slice I1 x.items.length i1))/\(w'.cell? ⟨wo.heap.size,0,none⟩=some (.int .i64 (x.keys[i]).kind)/\w'.cell? ⟨wo.heap.size,1,none⟩=some (.bool (x.keys[i]).bool)/\w'.cell? ⟨wo.heap.size,2,none⟩=some (.int .i64 (x.keys[i]).int)/\w'.cell? ⟨wo.heap.size,3,none⟩=some (.string (x.keys[i]).str)/\w'.cell? ⟨wo.heap.size,4,none⟩=some (.int .i64 (x.keys[i]).id)/\w'.cell? ⟨wo.heap.size,5,none⟩=some (.slice E1 (x.keys[i]).keys.length e1)/\w'.cell? ⟨wo.heap.size,6,none⟩=some (.slice E2 (x.keys[i]).items.length e2)/\w'.cell? ⟨wo.heap.size,7,none⟩=some (.slice E3 (x.keys[i]).rest.length e3)))/\Hid (Sn x w P (some ⟨g,0,none⟩) d1 I1 i1 R1 r1 wk H3 (some ⟨g,0,none⟩) d1 x.keys i w'/\w'.heap[wo.heap.size]? = some ((x.keys[i]).box E1 e1 E2 e2 E3 e3)))) 7 (by kernel_rfl) ?_ (fun AQ=>?_)
     ·(try dsimp only);exact OH (Sr.out.below (zC (Pe _ _) 1)) HXB
     refine tC 0 ?_;refine tC 1 ?_;refine tB 2 ?_;refine tC 3 ?_;refine tB 4 ?_;refine tS 5 (fun K hK=>?_)
     go_simp
     (refine (IH.out x.keys[i] Ee.out E1 e1 E2 e2 E3 e3 _ (HVV.out.below (zC (Pe _ _) 1))).mono ?_;rintro e w6 ⟨F1,f1,F2,f2,F3,f3,rfl,hoff,hb6⟩;have uR:=zh hoff;have VR:=zh (AQ.2.out.1.hi);clear hoff)
     refine hK.out _ _ ?_ (fun AQ=>?_)
     ·(try dsimp only);exact OH (AQ.2.out.1.below hb6) ((hb6.block _ (zg.1 AQ.2.out.2).1).trans AQ.2.out.2)
     clear hK K;try simp only[ps]
     refine tC 6 ?_;refine zV (rs:=[7]) (by kernel_rfl) (by simp) ?_
     refine AB.last rfl (by kernel_rfl) (fun K hK=>?_) AB.nil
     (have HH6:=zh AQ.2.out.1;simp only[List.getElem_toArray,List.getElem_cons_zero,List.getElem_cons_succ];rw[AAH (by rfl)];refine wp_store_mid 28 (.tmp 40) (.tmp 39) rfl (g) (i * 8) (#[.int .i64 (x.keys[i]).kind,.bool (x.keys[i]).bool,.int .i64 (x.keys[i]).int,.string (x.keys[i]).str,.int .i64 (x.keys[i]).id,.slice F1 (x.keys[i]).keys.length f1,.slice F2 (x.keys[i]).items.length f2,.slice F3 (x.keys[i]).rest.length f3]) (by rfl) (by rfl) ?_ ?_ ?_ ?_;(exact AQ.2.out.1.row.there hlt rfl);(exact zW);(exact val_one _ _ _ _ _ _ _))
     refine hK.out _ _ ?_;clear hK K
     (try clear AQ)
     refine wpAny_done (by kernel_rfl) ?_ _
     have HN:=zh (HH6.out.write hlt rfl VR uR (f1:=f1) (f2:=f2) (f3:=f3));clear AQ;go_wp2;go_roundw
     case rel=>exact ⟨i+1,by omega,by go_num,HN.out⟩
     case measure=>simp[intOf];omega
    ·obtain rfl:i=x.keys.length:=by omega
     have uQ:=zh (hh.out.out (AAP _) HR.out.keys.1);have oZ:=zh (HKP.out _ hh.out.kp);have LC:=zh hh.out.bx;clear hh;go_wp2;go_roundw
     case rel=>exact ⟨0+1,B1,d1,I1,i1,by omega,by go_num,LC.out,oZ.out,fun h=>absurd h (by omega),fun _=>uQ.out,fun _=>⟨rfl,rfl⟩,fun h=>absurd h (by omega)⟩
     case measure=>simp[intOf]
  ·obtain ⟨rfl,rfl⟩:=HST.out.i0 (by omega)
   have vW:=zh (HST.out.kd (by omega))
   have HPK:=zh hpl;have h1:(0:Int)<=((1:Nat):Int):=by omega
   have h2:((1:Nat):Int)<2:=by omega
   go_wp2_with fail
   refine (iR HR.out.items HB.out.Bz).mono ?_;rintro e w5 ⟨B1,d1,rfl,hb1,_,hk1⟩;obtain ⟨_,f5,f6,_⟩:=(MG (zE HB.out.box hb1)).1;have oM:=zh ((HB.out.below hb1).item B1 d1);have tu:=zh (Sn.start oM HPK hb1 hk1)
   have HKP:Hid (∀wr,Dy (w.heap.size+2) wk wr->(Off (· < w.heap.size+2) wr fun u=>Eh u R1 x.rest)/\Off (· < w.heap.size+2) wr fun u=>Ch u K1 x.keys):=fun wr hkp=>⟨hkp.off Oa,hkp.off vW⟩
   have e5b:=(MG (zE HB.out.box hb1)).1.1.1;have e6b:=(MG (zE HB.out.box hb1)).1.1.2.1;clear p0 p1 hpl e5 e6 e7 Oa hb1 hk1 HST HB;go_upto_region 6 with fail
   clear e5b e6b f5 f6;generalize w5.heap.size=H3 at *;generalize w5.setCell ⟨w.heap.size,6,none⟩ (.slice B1 x.items.length d1)=W5 at *;have e5:W5.cell? ⟨w.heap.size,6,none⟩=some (.slice B1 x.items.length d1):=(MG oM.out.box).1.1.2.1;go_wp2;clear e5
   go_loopw [29] (fun s wr=>∃i:Nat,i<=x.items.length/\s = .int .i64 i/\Hid (Sn x w P K1 k1 B1 d1 R1 r1 wk H3 B1 d1 x.items i wr)) (fun s _=>x.items.length - (intOf s).toNat)
   case atStart=>exact ⟨0,by omega,rfl,tu.out⟩
   case round =>
    obtain ⟨i,hi,rfl,hh⟩:=hrel;obtain ⟨wo,rfl⟩:∃wo:World,wo=wr:=⟨_,rfl⟩
    by_cases hlt:i<x.items.length
    ·obtain ⟨g,cs,rfl,hg0,hg1,_,hoff,hrg,_⟩:=hh.out.row.next hlt
     obtain ⟨E1,e1,E2,e2,E3,e3,rfl,Zj⟩:=Val.FZ.1 hoff.out;have Ee:=zh (Nat.le_of_lt_succ (AA2 (Val.Vh (AAU hlt)) HX));obtain ⟨a0,a1,a2,a3,a4,a5,a6,a7⟩:=Kr hrg;have hz1:=zL a0;simp only at hz1;have h1:(0:Int)<=(i:Int):=by omega
     have h2:(i:Int)<(x.items.length:Int):=by omega
     have Sr:=zh (hh.out.below (zD wo ((x.items[i]).box E1 e1 E2 e2 E3 e3)));have HXB:=zh (AAL wo ((x.items[i]).box E1 e1 E2 e2 E3 e3));have HVV:=zh (Zj.below (zD wo ((x.items[i]).box E1 e1 E2 e2 E3 e3)));clear hg0 hg1 hoff Zj hrg;go_upto_region 9 with fail
     generalize wo.alloc ((x.items[i]).box E1 e1 E2 e2 E3 e3)=wc at *;clear a0 a1 a2 a3 a4 a5 a6 a7
     refine yE (S:=(fun w'=>((w'.cell? ⟨w.heap.size,5,none⟩=some (.slice K1 x.keys.length k1)/\w'.cell? ⟨w.heap.size,6,none⟩=some (.slice (some ⟨g,0,none⟩) x.items.length d1))/\(w'.cell? ⟨wo.heap.size,0,none⟩=some (.int .i64 (x.items[i]).kind)/\w'.cell? ⟨wo.heap.size,1,none⟩=some (.bool (x.items[i]).bool)/\w'.cell? ⟨wo.heap.size,2,none⟩=some (.int .i64 (x.items[i]).int)/\w'.cell? ⟨wo.heap.size,3,none⟩=some (.string (x.items[i]).str)/\w'.cell? ⟨wo.heap.size,4,none⟩=some (.int .i64 (x.items[i]).id)/\w'.cell? ⟨wo.heap.size,5,none⟩=some (.slice E1 (x.items[i]).keys.length e1)/\w'.cell? ⟨wo.heap.size,6,none⟩=some (.slice E2 (x.items[i]).items.length e2)/\w'.cell? ⟨wo.heap.size,7,none⟩=some (.slice E3 (x.items[i]).rest.length e3)))/\Hid (Sn x w P K1 k1 (some ⟨g,0,none⟩) d1 R1 r1 wk H3 (some ⟨g,0,none⟩) d1 x.items i w'/\w'.heap[wo.heap.size]? = some ((x.items[i]).box E1 e1 E2 e2 E3 e3)))) 7 (by kernel_rfl) ?_ (fun AQ=>?_)
     ·(try dsimp only);exact OH (Sr.out.below (zC (Pe _ _) 1)) HXB
     refine tC 0 ?_;refine tC 1 ?_;refine tB 2 ?_;refine tC 3 ?_;try simp only[ps]
     refine tB 4 ?_;refine tS 5 (fun K hK=>?_)
     go_simp
     (refine (IH.out x.items[i] Ee.out E1 e1 E2 e2 E3 e3 _ (HVV.out.below (zC (Pe _ _) 1))).mono ?_;rintro e w6 ⟨F1,f1,F2,f2,F3,f3,rfl,hoff,hb6⟩;have uR:=zh hoff;have VR:=zh (AQ.2.out.1.hi);clear hoff)
     refine hK.out _ _ ?_ (fun AQ=>?_)
     ·(try dsimp only);exact OH (AQ.2.out.1.below hb6) ((hb6.block _ (zg.1 AQ.2.out.2).1).trans AQ.2.out.2)
     clear hK K;refine tC 6 ?_;refine zV (rs:=[7]) (by kernel_rfl) (by simp) ?_
     refine AB.last rfl (by kernel_rfl) (fun K hK=>?_) AB.nil
     (have HH6:=zh AQ.2.out.1;simp only[List.getElem_toArray,List.getElem_cons_zero,List.getElem_cons_succ];rw[AAH (by rfl)];refine wp_store_mid 28 (.tmp 40) (.tmp 39) rfl (g) (i * 8) (#[.int .i64 (x.items[i]).kind,.bool (x.items[i]).bool,.int .i64 (x.items[i]).int,.string (x.items[i]).str,.int .i64 (x.items[i]).id,.slice F1 (x.items[i]).keys.length f1,.slice F2 (x.items[i]).items.length f2,.slice F3 (x.items[i]).rest.length f3]) (by rfl) (by rfl) ?_ ?_ ?_ ?_;(exact AQ.2.out.1.row.there hlt rfl);(exact zW);(exact val_one _ _ _ _ _ _ _))
     refine hK.out _ _ ?_;clear hK K
     (try clear AQ)
     refine wpAny_done (by kernel_rfl) ?_ _
     have HN:=zh (HH6.out.write hlt rfl VR uR (f1:=f1) (f2:=f2) (f3:=f3));clear AQ;go_wp2;go_roundw
     case rel=>exact ⟨i+1,by omega,by go_num,HN.out⟩
     case measure=>simp[intOf];omega
    ·obtain rfl:i=x.items.length:=by omega
     have uQ:=zh (hh.out.out (AAP _) HR.out.items.1);have oZ:=zh (HKP.out _ hh.out.kp);have LC:=zh hh.out.bx;clear hh;go_wp2;go_roundw
     case rel=>exact ⟨1+1,K1,k1,B1,d1,by omega,by go_num,LC.out,oZ.out.1,fun h=>absurd h (by omega),fun _=>oZ.out.2,fun h=>absurd h (by omega),fun _=>uQ.out⟩
     case measure=>simp[intOf]
  ·have HF:=zh (HB.out.zero HR.out.str (HST.out.kd (by omega)) (HST.out.id (by omega)) HST.out.rest)
   have Jf:Hid (wk.there (w.heap.size+1) 0 8):=zh (En HB.out.res);have q2:¬ (((2:Nat):Int))<2:=by omega
   obtain ⟨v0,v1,v2,v3,v4,v5,v6,v7⟩:=TG HB.out.box;clear p0 p1 hpl e5 e6 e7 Oa
   go_wp2_with (refine wpList_store_mid rfl 28 (.tmp 2) (.tmp 43) rfl (w.heap.size+1) 0 #[.int .i64 x.kind,.bool x.bool,.int .i64 x.int,.string x.str,.int .i64 x.id,.slice K1 x.keys.length k1,.slice I1 x.items.length i1,.slice R1 x.rest.length r1] (by rfl) (by rfl) ?_ ?_ ?_ ?_;(exact Jf.out);(exact zW);(exact val_one x _ _ _ _ _ _))
   obtain ⟨⟨k0,k1',k2,k3,k4,k5,k6,k7⟩,hfin⟩:=HF.out;have HFF:=zh hfin;clear hfin;exact bodyPost_ret (v:=x.v K1 k1 I1 i1 R1 r1) (by simp[results,Tryz.results91,go_sem,k0,k1',k2,k3,k4,k5,k6,k7]) rfl ⟨K1,k1,I1,i1,R1,r1,rfl,HFF.out.1,HFF.out.2⟩
theorem TF (x:Val) (A1:zo) (c1:Nat) (A2:zo) (c2:Nat) (A3:zo) (c3:Nat) (w:World) (h:Ao w x A1 A2 A3):Calls Tryz.prog 91 #[x.v A1 c1 A2 c2 A3 c3] w (VK x w) :=
 Yj _ x (AAP _) A1 c1 A2 c2 A3 c3 w h
end Go.Proofs.YthkkllmmbefedaaGreatDoor



