/-
  Walks: whether a schema is small (which of both does not matter here: it returns).
-/
import Derived.Test.YtdfolgmcggdjdaaGreatDoorQCP2
import Derived.Test.YtdfolgmcggdjdaaGreatDoorQYF2
namespace Go.Proofs.YtdfolgmcggdjdaaGreatDoor
open Go.RowKit
set_option maxHeartbeats 16000000
set_option maxRecDepth 100000
def NumPost (w:World) (e:Ending) (w':World):Prop:=∃n:Int,e = .returned (.int .i64 n)∧Below w.heap.size w w'
def BitPost (w:World) (e:Ending) (w':World):Prop:=∃v:Bool,e = .returned (.bool v)∧Below w.heap.size w w'
theorem box8 {W:World} {b:Nat} {y:Val} {E1:Option Addr} {e1:Nat} {E2:Option Addr} {e2:Nat} {E3:Option Addr} {e3:Nat} (hb:W.heap[b]? = some (y.box E1 e1 E2 e2 E3 e3)) :
  W.cell? ⟨b,3,none⟩=some (.string y.str)∧W.cell? ⟨b,5,none⟩=some (.slice E1 y.keys.length e1)∧W.cell? ⟨b,6,none⟩=some (.slice E2 y.items.length e2)∧W.cell? ⟨b,7,none⟩=some (.slice E3 y.rest.length e3):=by
 refine ⟨?_,?_,?_,?_⟩ <;> (rw[cell_of_row _ _ _ _ _ _ hb];rfl)
theorem size07_n:∀ (n:Nat) (x:Val),SizeOf.sizeOf x≤n→∀ (A1:Option Addr) (c1:Nat) (A2:Option Addr) (c2:Nat) (A3:Option Addr) (c3:Nat) (w:World),ValR w x A1 A2 A3 →
  Calls Tryz.prog 43 #[x.v A1 c1 A2 c2 A3 c3] w (NumPost w):=by
 intro n
 induction n with
 | zero=>intro x hx;exact absurd hx (by obtain ⟨k,b,i,s,d,ks,is,r⟩:=x;simp[Val.mk.sizeOf_spec])
 | succ n ih =>
 intro x hx A1 c1 A2 c2 A3 c3 w hr
 have IH:=zh ih
 have HX:=zh hx
 have HR:=zh hr
 have hn1:x.keys.length≤1172812402961:=by have:=hr.keys.1;unfold Lim at this;omega
 have hn2:x.items.length≤1172812402961:=by have:=hr.items.1;unfold Lim at this;omega
 have hn3:x.rest.length≤5864062014805:=by have:=hr.rest.1;unfold Lim at this;omega
 have HB0:=zh (zD w (x.box A1 c1 A2 c2 A3 c3))
 have HBX:=zh (heap_alloc_new w (x.box A1 c1 A2 c2 A3 c3))
 clear ih hx hr
 go_enter Tryz.func43,Tryz.ntmps43
 go_wp2
 generalize w.alloc (x.box A1 c1 A2 c2 A3 c3)=W at *
 go_loopw [3,4] (fun a s wr=>∃ (m:Int) (i:Nat),a = .int .i64 m∧i≤x.keys.length∧s = .int .i64 i∧Hid (Below W.heap.size W wr)) (fun _ s _=>x.keys.length - (intOf s).toNat)
 case atStart=>exact ⟨_,0,rfl,by omega,rfl,Below.refl _ _⟩
 case round =>
  obtain ⟨m,i,rfl,hi,rfl,hbw⟩:=hrel
  have HBY:=zh ((hbw.out.block _ (zg.1 HBX.out).1).trans HBX.out)
  obtain ⟨_,b5,_,_⟩:=box8 HBY.out
  by_cases hlt:i<x.keys.length
  ·obtain ⟨b,o,E1,e1,E2,e2,E3,e3,rfl,hvr,a0,a1,a2,a3,a4,a5,a6,a7⟩:=(HR.out.keys.below (zA HB0.out hbw.out)).at8 hlt
   have HSZ:=zh (Nat.le_of_lt_succ (Nat.lt_of_lt_of_le (Val.size_keys (List.getElem_mem hlt)) HX.out))
   have HVR:=zh hvr
   have h1:(0:Int)≤(i:Int):=by omega
   have h2:(i:Int)<(x.keys.length:Int):=by omega
   clear hvr
   go_wp2_with fail
   refine (IH.out x.keys[i] HSZ.out E1 e1 E2 e2 E3 e3 _ HVR.out).mono ?_
   rintro e w2 ⟨k,rfl,hb2⟩
   have HB2:=zh (zA hbw.out hb2)
   clear hb2
   go_wp2
   go_roundw
   case rel=>exact ⟨_,i+1,rfl,by omega,by go_num,HB2.out⟩
   case measure=>simp[intOf];omega
  ·go_wp2
   go_loopw [3,5] (fun a s wr=>∃ (m:Int) (i:Nat),a = .int .i64 m∧i≤x.items.length∧s = .int .i64 i∧Hid (Below W.heap.size W wr)) (fun _ s _=>x.items.length - (intOf s).toNat)
   case atStart=>exact ⟨_,0,rfl,by omega,rfl,hbw.out⟩
   case round =>
    obtain ⟨m,i,rfl,hi,rfl,hbw⟩:=hrel
    have HBY:=zh ((hbw.out.block _ (zg.1 HBX.out).1).trans HBX.out)
    obtain ⟨_,_,b6,_⟩:=box8 HBY.out
    by_cases hlt:i<x.items.length
    ·obtain ⟨b,o,E1,e1,E2,e2,E3,e3,rfl,hvr,a0,a1,a2,a3,a4,a5,a6,a7⟩:=(HR.out.items.below (zA HB0.out hbw.out)).at8 hlt
     have HSZ:=zh (Nat.le_of_lt_succ (Nat.lt_of_lt_of_le (Val.size_items (List.getElem_mem hlt)) HX.out))
     have HVR:=zh hvr
     have h1:(0:Int)≤(i:Int):=by omega
     have h2:(i:Int)<(x.items.length:Int):=by omega
     clear hvr
     go_wp2_with fail
     refine (IH.out x.items[i] HSZ.out E1 e1 E2 e2 E3 e3 _ HVR.out).mono ?_
     rintro e w2 ⟨k,rfl,hb2⟩
     have HB2:=zh (zA hbw.out hb2)
     clear hb2
     go_wp2
     go_roundw
     case rel=>exact ⟨_,i+1,rfl,by omega,by go_num,HB2.out⟩
     case measure=>simp[intOf];omega
    ·go_wp2
     go_loopw [3,6] (fun a s wr=>∃ (m:Int) (i:Nat),a = .int .i64 m∧i≤x.rest.length∧s = .int .i64 i∧Hid (Below W.heap.size W wr)) (fun _ s _=>x.rest.length - (intOf s).toNat)
     case atStart=>exact ⟨_,0,rfl,by omega,rfl,hbw.out⟩
     case round =>
      obtain ⟨m,i,rfl,hi,rfl,hbw⟩:=hrel
      have HBY:=zh ((hbw.out.block _ (zg.1 HBX.out).1).trans HBX.out)
      obtain ⟨_,_,_,b7⟩:=box8 HBY.out
      by_cases hlt:i<x.rest.length
      ·obtain ⟨b,o,rfl,_,a0,a1⟩:=(HR.out.rest.below (zA HB0.out hbw.out)).at2 hlt
       have h1:(0:Int)≤(i:Int):=by omega
       have h2:(i:Int)<(x.rest.length:Int):=by omega
       go_wp2
       go_roundw
       case rel=>exact ⟨_,i+1,rfl,by omega,by go_num,hbw.out⟩
       case measure=>simp[intOf];omega
      ·go_wp2
       go_ret
       exact ⟨_,rfl,zA HB0.out hbw.out⟩
theorem size07_any (x:Val) (A1:Option Addr) (c1:Nat) (A2:Option Addr) (c2:Nat) (A3:Option Addr) (c3:Nat) (w:World) (h:ValR w x A1 A2 A3):Calls Tryz.prog 43 #[x.v A1 c1 A2 c2 A3 c3] w (NumPost w) :=
 size07_n _ x (Nat.le_refl _) A1 c1 A2 c2 A3 c3 w h
theorem ten_below {wo w':World} {x0 x1 x2 x3 x4 x5 x6 x7 x8 x9:Addr} {v0 v1 v2 v3 v4 v5 v6 v7 v8 v9:Value} (hb:Below wo.heap.size wo w') (h:wo.cell? x0=some v0∧wo.cell? x1=some v1∧wo.cell? x2=some v2∧wo.cell? x3=some v3∧wo.cell? x4=some v4∧wo.cell? x5=some v5∧wo.cell? x6=some v6∧wo.cell? x7=some v7∧wo.cell? x8=some v8∧wo.cell? x9=some v9) :
  (w'.cell? x0=some v0∧w'.cell? x1=some v1∧w'.cell? x2=some v2∧w'.cell? x3=some v3∧w'.cell? x4=some v4∧w'.cell? x5=some v5∧w'.cell? x6=some v6∧w'.cell? x7=some v7∧w'.cell? x8=some v8∧w'.cell? x9=some v9)∧Hid (Below wo.heap.size wo w'):=by
 have hk:∀ {x:Addr} {v:Value},wo.cell? x=some v→w'.cell? x=some v:=fun {x v} h=>(hb.cell (zK h)).trans h
 obtain ⟨h0,h1,h2,h3,h4,h5,h6,h7,h8,h9⟩:=h
 exact ⟨⟨hk h0,hk h1,hk h2,hk h3,hk h4,hk h5,hk h6,hk h7,hk h8,hk h9⟩,hb⟩
theorem few07_any (s:List TyD) (A:Option Addr) (c:Nat) (w:World) (hs:TysR w A s):Calls Tryz.prog 15 #[.agg #[.slice A s.length c]] w (BitPost w):=by
 have hn:s.length≤1172812402961:=by have:=hs.1;unfold Lim at this;omega
 have HS:=zh hs
 have HB0:=zh (zD w (.cells #[.slice A s.length c] 27))
 have HC0:Hid ((w.alloc (.cells #[.slice A s.length c] 27)).cell? ⟨w.heap.size,0,none⟩=some (.slice A s.length c)):=by show _=_;rw[cell_of_row _ _ _ _ _ _ (heap_alloc_new w _)];rfl
 clear hs
 by_cases h40:40<s.length
 ·have g40:(40:Int)<(s.length:Int):=by omega
  go_enter Tryz.func15,Tryz.ntmps15
  go_wp2
  go_ret
  exact ⟨_,rfl,HB0.out⟩
 have g40:¬ (40:Int)<(s.length:Int):=by omega
 go_enter Tryz.func15,Tryz.ntmps15
 go_wp2
 generalize w.alloc (.cells #[.slice A s.length c] 27)=W at *
 go_loopw [3,4] (fun a q wr=>∃ (m:Int) (i:Nat),a = .int .i64 m∧i≤s.length∧q = .int .i64 i∧Hid (Below W.heap.size W wr)) (fun _ q _=>s.length - (intOf q).toNat)
 case atStart=>exact ⟨_,0,rfl,by omega,rfl,Below.refl _ _⟩
 case round =>
  obtain ⟨m,i,rfl,hi,rfl,hbw⟩:=hrel
  obtain ⟨wo,rfl⟩:∃wo:World,wo=wr:=⟨_,rfl⟩
  have k0:=zB hbw.out HC0.out
  by_cases hlt:i<s.length
  case neg =>
   go_wp2
   go_ret
   exact ⟨_,rfl,zA HB0.out hbw.out⟩
  obtain ⟨b,o,As,cs,Am,cm,rfl,htr,t0,t1,t2,t3,t4,t5,t6,t7,t8,t9⟩:=(HS.out.below (zA HB0.out hbw.out)).at10 hlt
  have hmn:(s[i]).mems.length≤879609302220:=by have:=htr.mems.1;unfold Lim at this;omega
  have HTM:=zh (htr.mems.below (zD wo ((s[i]).box As cs Am cm)))
  have HTB:Hid (((wo.alloc ((s[i]).box As cs Am cm)).cell? ⟨wo.heap.size,6,none⟩=some (.slice Am (s[i]).mems.length cm))):=by show _=_;rw[cell_of_row _ _ _ _ _ _ (heap_alloc_new wo _)];rfl
  have HBB:=zh (zA hbw.out (zD wo ((s[i]).box As cs Am cm)))
  have h1:(0:Int)≤(i:Int):=by omega
  have h2:(i:Int)<(s.length:Int):=by omega
  have z1:=zK k0
  have z2:=zK t0
  simp only at z1 z2
  clear htr
  go_wp2
  clear k0 t0 t1 t2 t3 t4 t5 t6 t7 t8 t9 z1 z2
  generalize wo.alloc ((s[i]).box As cs Am cm)=wb at *
  go_loopw [3,6] (fun a q wr=>∃ (m:Int) (j:Nat),a = .int .i64 m∧j≤(s[i]).mems.length∧q = .int .i64 j∧Hid (Below wb.heap.size wb wr)) (fun _ q _=>(s[i]).mems.length - (intOf q).toNat)
  case atStart=>exact ⟨_,0,rfl,by omega,rfl,Below.refl _ _⟩
  case round =>
   obtain ⟨m,j,rfl,hj,rfl,hbj⟩:=hrel
   obtain ⟨wi,rfl⟩:∃wi:World,wi=wr:=⟨_,rfl⟩
   have k6:=zB hbj.out HTB.out
   by_cases hlm:j<(s[i]).mems.length
   case neg =>
    have hd':decide ((j:Int)<((s[i]).mems.length:Int))=false:=by simp;omega
    go_wp2
    go_roundw
    case rel=>exact ⟨_,i+1,rfl,by omega,by go_num,zA HBB.out hbj.out⟩
    case measure=>simp[intOf];omega
   by_cases h100:(j:Int)<100
   case neg =>
    have h3:(j:Int)<((s[i]).mems.length:Int):=by omega
    go_wp2
    go_roundw
    case rel=>exact ⟨_,i+1,rfl,by omega,by go_num,zA HBB.out hbj.out⟩
    case measure=>simp[intOf];omega
   obtain ⟨bm,om,E1,e1,E2,e2,E3,e3,rfl,hmr,a0,a1,a2,a3,a4,a5,a6,a7,a8,a9,a10,a11,a12⟩:=(HTM.out.below hbj.out).at13 hlm
   have HMR:=zh hmr
   have HTEN:=zh (And.intro k6 (And.intro a1 (And.intro a5 (And.intro a6 (And.intro a7 (And.intro a8 (And.intro a9 (And.intro a10 (And.intro a11 a12)))))))))
   have h3:(0:Int)≤(j:Int):=by omega
   have h4:(j:Int)<((s[i]).mems.length:Int):=by omega
   clear hmr a0 a1 a2 a3 a4 a5 a6 a7 a8 a9 a10 a11 a12
   go_wp2_with fail
   clear k6
   refine wp_region_held_drew (S:=(fun w'=>(w'.cell? ⟨wo.heap.size,6,none⟩=some (.slice (some ⟨bm,om,none⟩) (s[i]).mems.length cm)∧w'.cell? ⟨bm,om+j * 13+1,none⟩=some (.string ((s[i]).mems[j]).name)∧w'.cell? ⟨bm,om+j * 13+5,none⟩=some (.int .i64 ((s[i]).mems[j]).dflt.kind)∧w'.cell? ⟨bm,om+j * 13+6,none⟩=some (.bool ((s[i]).mems[j]).dflt.bool)∧w'.cell? ⟨bm,om+j * 13+7,none⟩=some (.int .i64 ((s[i]).mems[j]).dflt.int)∧w'.cell? ⟨bm,om+j * 13+8,none⟩=some (.string ((s[i]).mems[j]).dflt.str)∧w'.cell? ⟨bm,om+j * 13+9,none⟩=some (.int .i64 ((s[i]).mems[j]).dflt.id)∧w'.cell? ⟨bm,om+j * 13+10,none⟩=some (.slice E1 ((s[i]).mems[j]).dflt.keys.length e1)∧w'.cell? ⟨bm,om+j * 13+11,none⟩=some (.slice E2 ((s[i]).mems[j]).dflt.items.length e2)∧w'.cell? ⟨bm,om+j * 13+12,none⟩=some (.slice E3 ((s[i]).mems[j]).dflt.rest.length e3))∧Hid (Below wi.heap.size wi w'))) (by kernel_rfl) ?_ (fun zH_=>?_)
   ·(try dsimp only);exact ten_below (zE (Below.refl _ _) 1) HTEN.out
   refine tL 0 _ zH_ ?_
   try simp only[ps]
   refine tL 1 _ zH_ ?_
   try simp only[ps]
   refine tL 2 _ zH_ ?_
   try simp only[ps]
   refine tL 3 _ zH_ ?_
   try simp only[ps]
   refine tL 4 _ zH_ ?_
   try simp only[ps]
   refine tL 5 _ zH_ ?_
   try simp only[ps]
   refine tL 6 _ zH_ ?_
   try simp only[ps]
   refine tL 9 _ zH_ ?_
   try simp only[ps]
   refine tL 10 _ zH_ ?_
   try simp only[ps]
   refine tL 11 _ zH_ ?_
   try simp only[ps]
   refine tL 12 _ zH_ ?_
   try simp only[ps]
   refine tL 13 _ zH_ ?_
   try simp only[ps]
   refine tL 14 _ zH_ ?_
   try simp only[ps]
   refine tL 15 _ zH_ ?_
   try simp only[ps]
   refine tR 7 (fun K hK=>?_)
   go_simp
   (refine (size07_any ((s[i]).mems[j]).dflt E1 e1 E2 e2 E3 e3 _ (HMR.out.dflt.below zH_.2.out)).mono ?_;rintro e w5 ⟨k5,rfl,hb5⟩;have HB5:=zh (zA zH_.2.out hb5);clear hb5)
   refine hK.out _ _ ?_ (fun zH_=>?_)
   ·(try dsimp only);exact ten_below HB5.out HTEN.out
   clear hK K
   try simp only[ps]
   refine tL 8 _ zH_ ?_
   try simp only[ps]
   refine tL 16 _ zH_ ?_
   try simp only[ps]
   refine tL 17 _ zH_ ?_
   try simp only[ps]
   refine wpAnyH_done (by kernel_rfl) ?_ _
   clear zH_
   go_wp2
   go_roundw
   case rel=>exact ⟨_,j+1,rfl,by omega,by go_num,zA hbj.out HB5.out⟩
   case measure=>simp[intOf];omega
end Go.Proofs.YtdfolgmcggdjdaaGreatDoor


