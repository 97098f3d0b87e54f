/-
  Walks: canon.renamed (written by gen_rn2.py).
-/
import Derived.Test.YtkhpajneinmmiaaGreatDoorQRNA
namespace Go.Proofs.YtkhpajneinmmiaaGreatDoor
open Go.RowKit
set_option maxHeartbeats 16000000
set_option maxRecDepth 100000
def RenPost (t:TyD) (w:World) (e:Ending) (w':World):Prop :=
 ∃As cs Am cm,e = .returned (t.v As cs Am cm)∧(Off (· < w.heap.size) w' fun u=>TyR u t As Am)∧Below w.heap.size w w'
def IxOk (p q:Nat) (ix:Int→Int) (D:List (Int×Int)) (w:World):Prop:=∀w',Below w.heap.size w w'→∀u∈D,Calls Tryz.prog 48 #[.int .i64 u.2,.pointer (some ⟨p,0,none⟩),.pointer (some ⟨q,0,none⟩)] w' fun e w''=>e = .returned (.int .i64 (ix u.2))∧Below w'.heap.size w' w''
theorem yQ {w:World} {b:Nat} (h:w.heap[b]? = some zboxT):w.there b 0 10:=fun j hj=>by
 rw[Nat.zero_add]
 refine ⟨?_,frozen_of_row _ _ _ _ _ h⟩
 rw[cell_of_row _ _ _ _ _ _ h]
 match j,hj with
 | 0,_=>rfl
 | 1,_=>rfl
 | 2,_=>rfl
 | 3,_=>rfl
 | 4,_=>rfl
 | 5,_=>rfl
 | 6,_=>rfl
 | 7,_=>rfl
 | 8,_=>rfl
 | 9,_=>rfl
theorem ty_info:(Tryz.prog.info? 70).map (·.size)=some 10:=by kernel_rfl
theorem ty_one (t:TyD) (As:Option Addr) (cs:Nat) (Am:Option Addr) (cm:Nat):((t.cs As cs Am cm).toArray).all (·.oneCell')=true :=
 all_oneCell_toArray fun u hu=>by
  simp only[List.mem_cons,List.mem_nil_iff,or_false] at hu
  rcases hu with rfl|rfl|rfl|rfl|rfl|rfl|rfl|rfl|rfl|rfl <;> rfl
theorem rn_end {t:TyD} {nm:ByteArray} {ix:Int→Int} {w:World} {S3 M3:Nat} {Bs:Option Addr} {cs:Nat} {Bm:Option Addr} {cm:Nat} {wr w2:World} (h:RnC t nm ix w S3 M3 Bs cs Bm cm t.mems.length wr) {As Am:Option Addr} (hn:SOk nm) (hs:SymsR w As t.syms) (hm:MemsR w Am t.mems)
  {r:TyD} (hr1:r.name=nm) (hr2:r.syms=t.syms.map renS) (hr3:r.mems=t.mems.map (renM ix)) (hlo:wr.heap.size≤w2.heap.size) (hk:∀q,q≠w.heap.size→q<wr.heap.size→w2.heap[q]? = wr.heap[q]?) (hb:Below w.heap.size w w2) (L:List Value) (hL:r.cs Bs cs Bm cm=L) :
  let W:=w2.setCells (w.heap.size+1) 0 L
  (W.rangeAt (w.heap.size+1) 0 L)∧(Off (· < w.heap.size) W fun u=>TyR u r Bs Bm)∧Below w.heap.size w W:=by
 subst hL
 intro W
 have h1:=h.b.lo
 have h2:=h.lo
 have h3:=h.b.hi
 have hth:w2.there (w.heap.size+1) 0 10:=yQ ((hk _ (by omega) (by omega)).trans h.b.res)
 refine ⟨World.rangeAt_setCells_same w2 (w.heap.size+1) 0 _ hth,?_,zV _ (by omega) _ _ _ hb⟩
 have k1:=(((h.b.syms.other (g:=w.heap.size) hlo hk (by omega) (Nat.le_refl _) (fun e=>by have:=(h.b.syms.lt e).1;omega)).otherCells 0 (r.cs Bs cs Bm cm) (g:=w.heap.size+1) (by omega) (by omega) (fun e=>by have:=(h.b.syms.lt e).1;omega))).out (by rw[yM];exact Nat.le_refl _) (by omega) (by omega) (bytes:=24) (by rw[yM];exact hs.1)
 have k2:=(((h.mems.other (g:=w.heap.size) hlo hk (by omega) (Nat.le_refl _) (fun e=>by have:=(h.mems.lt e).1;omega)).otherCells 0 (r.cs Bs cs Bm cm) (g:=w.heap.size+1) (by omega) (by omega) (fun e=>by have:=(h.mems.lt e).1;omega))).out (by rw[yM];exact Nat.le_refl _) (by omega) (by omega) (bytes:=160) (by rw[yM];exact hm.1)
 rw[mapTo_all (Nat.le_refl _)] at k1 k2
 exact fun u hu=>⟨by rw[hr1];exact hn,by rw[hr2];exact k1 u hu,by rw[hr3];exact k2 u hu⟩
theorem renamed_e (t:TyD) (hname:t.name=⟨#[]⟩) (n:Nat) (_:n≤1000) (p q:Nat) (ix:Int→Int) (As:Option Addr) (cs:Nat) (Am:Option Addr) (cm:Nat) (w:World) (ht:TyR w t As Am) (hids:∀s∈t.syms,In64 s.id) (hidm:∀m∈t.mems,In64 m.id) (hix:IxOk p q ix (usesD t) w) (htab:Tab w) :
  Calls Tryz.prog 47 #[t.v As cs Am cm,.int .i64 n,.func (.func 48) #[] #[.pointer (some ⟨p,0,none⟩),.pointer (some ⟨q,0,none⟩)]] w (RenPost (renD n ix t) w):=by
 have hls:t.syms.length≤5864062014805:=by have:=ht.syms.1;unfold Lim at this;omega
 have hlm:t.mems.length≤879609302220:=by have:=ht.mems.1;unfold Lim at this;omega
 have HT:=zh ht
 have HIX:=zh hix
 have HTB:=zh htab
 have HIS:=zh hids
 have HIM:=zh hidm
 have HNM:=zh hname
 have HB0:=zh (zC w (t.box As cs Am cm) zboxT)
 have HBX:Hid (((w.alloc (t.box As cs Am cm)).alloc zboxT).heap[w.heap.size]? = some (t.box As cs Am cm)):=yS (heap_alloc_new w _) _
 have HRS:Hid (((w.alloc (t.box As cs Am cm)).alloc zboxT).heap[w.heap.size+1]? = some zboxT):=by
  have h:=heap_alloc_new (w.alloc (t.box As cs Am cm)) zboxT
  rw[show (w.alloc (t.box As cs Am cm)).heap.size=w.heap.size+1 by simp] at h
  exact h
 have n1:t.name.toList=[]:=by rw[Lib.toList_data,hname]
 have n2:t.name.toList.isEmpty=true:=by simpa using n1
 clear ht hix htab hids hidm hname
 go_enter Tryz.func47,Tryz.ntmps47
 go_wp2_with fail
 have HB1:=zh HB0.out
 have HBX1:Hid (((w.alloc (t.box As cs Am cm)).alloc zboxT).heap[w.heap.size]? = some ((named t t.name).box As cs Am cm)):=HBX.out
 have HRS1:=zh HRS.out
 generalize (w.alloc (t.box As cs Am cm)).alloc zboxT=w1 at *
 refine (cloneS HT.out.syms HB1.out).mono ?_
 rintro e w2 ⟨B1,d1,rfl,hb2,hg1,hk1⟩
 have hbx2:=(hb2.block _ (zg.1 HBX1.out).1).trans HBX1.out
 have hc5:=(box10 hbx2).1.2.2.2.2.2.1
 have hf5:=(box10 hbx2).2 5
 have HSB:=zh (rnB_start HBX1.out HRS1.out HB1.out hb2 hg1 hk1)
 clear hb2 hg1 hk1 hbx2 HBX1 HRS1
 go_wp2
 clear hc5 hf5
 generalize w2.heap.size=S3 at *
 generalize w2.setCell ⟨w.heap.size,5,none⟩ (.slice B1 t.syms.length d1)=W2 at *
 go_loopw [24] (fun s wr=>∃i:Nat,i≤t.syms.length∧s = .int .i64 i∧Hid (RnB t t.name w S3 B1 d1 Am cm i wr)) (fun s _=>t.syms.length - (intOf s).toNat)
 case atStart=>exact ⟨0,by omega,rfl,HSB.out⟩
 case round =>
  obtain ⟨i,hi,rfl,hh⟩:=hrel
  obtain ⟨wo,rfl⟩:∃wo:World,wo=wr:=⟨_,rfl⟩
  by_cases hlt:i<t.syms.length
  ·have hi':i<(mapTo renS i t.syms).length:=by rw[yM];exact hlt
   obtain ⟨g,rfl⟩:∃g,B1=some ⟨g,0,none⟩:=by
    obtain ⟨g,ds,e,_⟩:=hh.out.syms.next hi'
    exact ⟨g,e⟩
   have h1:(0:Int)≤(i:Int):=by omega
   have h2:(i:Int)<(t.syms.length:Int):=by omega
   have hid:=HIS.out _ (List.getElem_mem hlt)
   have hds2:¬ 9223372036854775807<1+(decB (t.syms[i]).id).size:=by have:(decB (t.syms[i]).id).size≤21:=Lib.itoa_length_le _ hid.1 hid.2;omega
   have HID:=zh hid
   have HS4:=zh hh.out
   clear hi' hid hh
   go_wp2_with fail
   refine yD (S:=(fun w'=>(w'.cell? ⟨w.heap.size,5,none⟩=some (.slice (some ⟨g,0,none⟩) t.syms.length d1)∧w'.cell? ⟨g,i * 2,none⟩=some (.int .i64 (t.syms[i]).id)∧(∃s,w'.cell? ⟨g,i * 2+1,none⟩=some s)∧w'.frozen? ⟨g,i * 2+1,none⟩=false)∧Hid (RnB t t.name w S3 (some ⟨g,0,none⟩) d1 Am cm i w'))) 13 (by kernel_rfl) ?_ (fun zH_=>?_)
   ·(try dsimp only);exact rnB_hold (HS4.out.below (zE (Below.refl _ _) 1)) hlt
   refine tC 0 _ zH_ ?_
   try simp only[ps]
   refine tB 1 _ zH_ ?_
   try simp only[ps]
   refine tC 2 _ zH_ ?_
   try simp only[ps]
   refine tC 3 _ zH_ ?_
   try simp only[ps]
   refine tB 4 _ zH_ ?_
   try simp only[ps]
   refine tC 5 _ zH_ ?_
   try simp only[ps]
   refine tC 6 _ zH_ ?_
   try simp only[ps]
   refine tC 7 _ zH_ ?_
   try simp only[ps]
   refine tB 8 _ zH_ ?_
   try simp only[ps]
   refine tS 9 (fun K hK=>?_)
   go_simp
   (refine (itoa_any (t.syms[i]).id HID.out _ (HTB.out.below zH_.2.out.bel)).mono ?_;rintro e w6 ⟨rfl,hb6⟩)
   refine hK.out _ _ ?_ (fun zH_=>?_)
   ·(try dsimp only);exact rnB_hold (zH_.2.out.below hb6) hlt
   clear hK K
   try simp only[ps]
   refine tC 10 _ zH_ ?_
   try simp only[ps]
   refine tC 11 _ zH_ ?_
   try simp only[ps]
   refine tC 12 _ zH_ ?_
   try simp only[ps]
   refine zZ (rs:=[13]) (by kernel_rfl) (by simp) ?_
   refine AllReadyB.last rfl (by kernel_rfl) (fun K hK=>?_) AllReadyB.nil
   (have HH6:=zh zH_.2.out;obtain ⟨⟨_,_,⟨s0,hc0⟩,hf0⟩,_⟩:=zH_;go_simp)
   refine hK.out _ _ ?_
   clear hK K
   (try clear zH_)
   try simp only[ps]
   refine wpAny_done (by kernel_rfl) ?_ _
   have HN:=zh (HH6.out.sym hlt rfl HID.out)
   clear hc0 hf0 HH6
   go_wp2
   go_roundw
   case rel=>exact ⟨i+1,by omega,by go_num,HN.out⟩
   case measure=>simp[intOf];omega
  ·obtain rfl:i=t.syms.length:=by omega
   have hc6:=(box10 hh.out.box).1.2.2.2.2.2.2.1
   have HS4:=zh hh.out
   clear hh
   go_wp2_with fail
   refine (cloneM HT.out.mems HS4.out.bel).mono ?_
   rintro e w3 ⟨B2,d2,rfl,hb3,hg3,hk3⟩
   have hbx3:=(hb3.block _ (zg.1 HS4.out.box).1).trans HS4.out.box
   have hc7:=(box10 hbx3).1.2.2.2.2.2.2.1
   have hf7:=(box10 hbx3).2 6
   have HSC:=zh (rnC_start (ix:=ix) HS4.out hb3 hg3 hk3)
   clear hb3 hg3 hk3 hbx3 hc6
   go_wp2
   clear hc7 hf7
   generalize w3.heap.size=M3 at *
   generalize w3.setCell ⟨w.heap.size,6,none⟩ (.slice B2 t.mems.length d2)=W3 at *
   go_loopw [48] (fun s wr=>∃j:Nat,j≤t.mems.length∧s = .int .i64 j∧Hid (RnC t t.name ix w S3 M3 B1 d1 B2 d2 j wr)) (fun s _=>t.mems.length - (intOf s).toNat)
   case atStart=>exact ⟨0,by omega,rfl,HSC.out⟩
   case round =>
    obtain ⟨j,hj,rfl,hh⟩:=hrel
    obtain ⟨wo,rfl⟩:∃wo:World,wo=wr:=⟨_,rfl⟩
    by_cases hlt:j<t.mems.length
    ·obtain ⟨g,E1,e1,E2,e2,E3,e3,rfl,hrg,hmr⟩:=hh.out.next hlt
     have h1:(0:Int)≤(j:Int):=by omega
     have h2:(j:Int)<(t.mems.length:Int):=by omega
     have hid:=HIM.out _ (List.getElem_mem hlt)
     have hds2:¬ 9223372036854775807<1+(decB (t.mems[j]).id).size:=by have:(decB (t.mems[j]).id).size≤21:=Lib.itoa_length_le _ hid.1 hid.2;omega
     have HID:=zh hid
     have HUS:Hid (((t.mems[j]).id,(t.mems[j]).type)∈usesD t):=by
      show _∈_
      rw[yO]
      exact List.mem_append_left _ (List.mem_append_left _ (List.mem_map.2 ⟨_,List.getElem_mem hlt,rfl⟩))
     have hc6:=(box10 hh.out.b.box).1.2.2.2.2.2.2.1
     have HS5:=zh hh.out
     have HRG:=zh hrg
     have HMR:=zh hmr
     clear hid hh hrg hmr
     go_wp2_with fail
     clear hc6
     refine yD (S:=(fun w'=>((w'.cell? ⟨g,j * 13,none⟩=some (.int .i64 (t.mems[j]).id)∧w'.cell? ⟨g,j * 13+1,none⟩=some (.string (t.mems[j]).name)∧w'.cell? ⟨g,j * 13+2,none⟩=some (.int .i64 (t.mems[j]).type)∧w'.cell? ⟨g,j * 13+5,none⟩=some (.int .i64 (t.mems[j]).dflt.kind)∧w'.cell? ⟨g,j * 13+6,none⟩=some (.bool (t.mems[j]).dflt.bool)∧w'.cell? ⟨g,j * 13+7,none⟩=some (.int .i64 (t.mems[j]).dflt.int)∧w'.cell? ⟨g,j * 13+8,none⟩=some (.string (t.mems[j]).dflt.str)∧w'.cell? ⟨g,j * 13+9,none⟩=some (.int .i64 (t.mems[j]).dflt.id)∧w'.cell? ⟨g,j * 13+10,none⟩=some (.slice E1 (t.mems[j]).dflt.keys.length e1)∧w'.cell? ⟨g,j * 13+11,none⟩=some (.slice E2 (t.mems[j]).dflt.items.length e2)∧w'.cell? ⟨g,j * 13+12,none⟩=some (.slice E3 (t.mems[j]).dflt.rest.length e3))∧(w'.frozen? ⟨g,j * 13+1,none⟩=false∧w'.frozen? ⟨g,j * 13+2,none⟩=false))∧Hid (RnC t t.name ix w S3 M3 B1 d1 (some ⟨g,0,none⟩) d2 j w'∧w'.rangeAt g (j * 13) ((t.mems[j]).cs E1 e1 E2 e2 E3 e3)∧MemR w' t.mems[j] E1 E2 E3))) 22 (by kernel_rfl) ?_ (fun zH_=>?_)
     ·(try dsimp only);exact rnC_hold (HS5.out.below (zE (Below.refl _ _) 1)) hlt HRG.out (HMR.out.below (zE (Below.refl _ _) 1))
     refine tC 0 _ zH_ ?_
     try simp only[ps]
     refine tC 1 _ zH_ ?_
     try simp only[ps]
     refine tC 2 _ zH_ ?_
     try simp only[ps]
     refine tC 3 _ zH_ ?_
     try simp only[ps]
     refine tC 4 _ zH_ ?_
     try simp only[ps]
     refine tC 5 _ zH_ ?_
     try simp only[ps]
     refine tB 6 _ zH_ ?_
     try simp only[ps]
     refine tC 9 _ zH_ ?_
     try simp only[ps]
     refine tC 10 _ zH_ ?_
     try simp only[ps]
     refine tC 11 _ zH_ ?_
     try simp only[ps]
     refine tC 12 _ zH_ ?_
     try simp only[ps]
     refine tB 13 _ zH_ ?_
     try simp only[ps]
     refine tC 15 _ zH_ ?_
     try simp only[ps]
     refine tC 16 _ zH_ ?_
     try simp only[ps]
     refine tC 17 _ zH_ ?_
     try simp only[ps]
     refine tB 18 _ zH_ ?_
     try simp only[ps]
     refine tS 7 (fun K hK=>?_)
     go_simp
     (refine (itoa_any (t.mems[j]).id HID.out _ (HTB.out.below zH_.2.out.1.b.bel)).mono ?_;rintro e w6 ⟨rfl,hb6⟩)
     refine hK.out _ _ ?_ (fun zH_=>?_)
     ·(try dsimp only);exact rnC_hold (zH_.2.out.1.below hb6) hlt (zY hb6 zH_.2.out.2.1) (zH_.2.out.2.2.below hb6)
     clear hK K
     try simp only[ps]
     refine tC 8 _ zH_ ?_
     try simp only[ps]
     refine tS 14 (fun K hK=>?_)
     go_simp
     (refine (HIX.out _ zH_.2.out.1.b.bel _ HUS.out).mono ?_;rintro e w7 ⟨rfl,hb7⟩)
     refine hK.out _ _ ?_ (fun zH_=>?_)
     ·(try dsimp only);exact rnC_hold (zH_.2.out.1.below hb7) hlt (zY hb7 zH_.2.out.2.1) (zH_.2.out.2.2.below hb7)
     clear hK K
     refine tS 19 (fun K hK=>?_)
     go_simp
     (refine (copied_any (t.mems[j]).dflt E1 e1 E2 e2 E3 e3 _ zH_.2.out.2.2.dflt).mono ?_;rintro e w8 ⟨F1,f1,F2,f2,F3,f3,rfl,hoff,hb8⟩;have HOF:=zh hoff;have HLE:=zh zH_.2.out.1.hi;clear hoff)
     refine hK.out _ _ ?_ (fun zH_=>?_)
     ·(try dsimp only);exact rnC_hold (zH_.2.out.1.below hb8) hlt (zY hb8 zH_.2.out.2.1) (zH_.2.out.2.2.below hb8)
     clear hK K
     try simp only[ps]
     refine tC 20 _ zH_ ?_
     try simp only[ps]
     refine tC 21 _ zH_ ?_
     try simp only[ps]
     refine zZ (rs:=[22]) (by kernel_rfl) (by simp) ?_
     refine AllReadyB.last rfl (by kernel_rfl) (fun K hK=>?_) AllReadyB.nil
     (have HH8:=zh zH_.2.out.1;obtain ⟨⟨⟨_,hk1,hk2,_⟩,hf1,hf2⟩,_⟩:=zH_;go_simp)
     refine hK.out _ _ ?_
     clear hK K
     (try clear zH_)
     try simp only[ps]
     refine tkA 23 ?v31 rfl (by kernel_rfl) (.inl ⟨by rfl,?y31⟩) ?_
     case y31=>(intro w;go_simp;try with_reducible rfl)
     try simp only[ps]
     refine tkA 24 ?v32 rfl (by kernel_rfl) (.inl ⟨by rfl,?y32⟩) ?_
     case y32=>(intro w;go_simp;try with_reducible rfl)
     try simp only[ps]
     refine wpAny_ready (rs:=[25]) (by kernel_rfl) (by simp) ?_
     refine (AllReady.cons rfl (fun K hK=>?_) AllReady.nil)
     go_simp
     refine hK _ _ ?_
     clear hK K
     try simp only[ps]
     refine tkA 26 ?v33 rfl (by kernel_rfl) (.inl ⟨by rfl,?y33⟩) ?_
     case y33=>(intro w;go_simp;try with_reducible rfl)
     try simp only[ps]
     refine tkA 27 ?v34 rfl (by kernel_rfl) (.inl ⟨by rfl,?y34⟩) ?_
     case y34=>(intro w;go_simp;try with_reducible rfl)
     try simp only[ps]
     refine wpAny_ready (rs:=[28]) (by kernel_rfl) (by simp) ?_
     refine (AllReady.cons rfl (fun K hK=>?_) AllReady.nil)
     (simp only[List.getElem_toArray,List.getElem_cons_zero,List.getElem_cons_succ];rw[if_pos (by rfl)];refine wp_store_mid 81 (.tmp 80) (.tmp 74) rfl (g) (j * 13+5) (#[.int .i64 (t.mems[j]).dflt.kind,.bool (t.mems[j]).dflt.bool,.int .i64 (t.mems[j]).dflt.int,.string (t.mems[j]).dflt.str,.int .i64 (t.mems[j]).dflt.id,.slice F1 (t.mems[j]).dflt.keys.length f1,.slice F2 (t.mems[j]).dflt.items.length f2,.slice F3 (t.mems[j]).dflt.rest.length f3]) (by rfl) (by rfl) ?_ ?_ ?_ ?_;(exact HH8.out.there8 hlt _ _);(exact val_info);(exact val_one _ _ _ _ _ _ _))
     refine hK _ _ ?_
     clear hK K
     try simp only[ps]
     refine wpAny_done (by kernel_rfl) ?_ _
     have HN:=zh (HH8.out.mem hlt rfl HID.out HLE.out HOF.out (f1:=f1) (f2:=f2) (f3:=f3))
     clear HH8 hk1 hk2 hf1 hf2
     go_wp2
     go_roundw
     case rel=>exact ⟨j+1,by omega,by go_num,HN.out⟩
     case measure=>simp[intOf];omega
    ·obtain rfl:j=t.mems.length:=by omega
     obtain ⟨⟨a0,a1,a2,a3,a4,a5,a6,a7,a8,a9⟩,_⟩:=box10 hh.out.b.box
     have HS6:=zh hh.out
     clear hh
     by_cases hk8:t.kind=8
     ·have hk:=hk8
      have HK:=zh hk
      have q8:(t.kind==8)=true:=by simp[hk]
      have HU1:Hid (((0:Int),t.key)∈usesD t):=by show _∈_;rw[yO];simp[hk]
      have HU2:Hid (((-1:Int),t.elem)∈usesD t):=by show _∈_;rw[yO];simp[hk]
      clear hk hk8
      go_wp2_with fail
      refine (HIX.out _ HS6.out.b.bel _ HU1.out).mono ?_
      rintro e w4 ⟨rfl,hb4⟩
      have HX4:=zh ((hb4.block _ (zg.1 HS6.out.b.box).1).trans HS6.out.b.box)
      obtain ⟨⟨b0,b1,b2,b3,b4,b5,b6,b7,b8,b9⟩,bf⟩:=box10 HX4.out
      have bf7:=bf 7
      have HX5:Hid ((w4.setCell ⟨w.heap.size,7,none⟩ (.int .i64 (ix t.key))).heap[w.heap.size]? = some (({ named t t.name with key:=ix t.key }:TyD).box B1 d1 B2 d2)):=by show _=_;rw[heap_setCell_same _ _ 7 _ _ _ HX4.out];rfl
      have HB4:Hid (Below w.heap.size w (w4.setCell ⟨w.heap.size,7,none⟩ (.int .i64 (ix t.key)))):=(zA HS6.out.b.bel hb4).setCell (p:=⟨w.heap.size,7,none⟩) (Nat.le_refl _) _
      have HK4:Hid (wo.heap.size≤(w4.setCell ⟨w.heap.size,7,none⟩ (.int .i64 (ix t.key))).heap.size∧∀q,q≠w.heap.size→q<wo.heap.size→(w4.setCell ⟨w.heap.size,7,none⟩ (.int .i64 (ix t.key))).heap[q]? = wo.heap[q]?):=⟨by have:=hb4.size;simp;exact this,fun q hq hl=>(heap_setCell_other _ _ _ _ (by simpa using hq)).trans (hb4.block q hl)⟩
      clear hb4 bf
      go_wp2_with fail
      clear b0 b1 b2 b3 b4 b5 b6 b7 b8 b9 bf7
      generalize w4.setCell ⟨w.heap.size,7,none⟩ (.int .i64 (ix t.key))=w5 at *
      refine (HIX.out _ HB4.out _ HU2.out).mono ?_
      rintro e w6 ⟨rfl,hb6⟩
      have HX6:=zh ((hb6.block _ (zg.1 HX5.out).1).trans HX5.out)
      obtain ⟨⟨b0,b1,b2,b3,b4,b5,b6,b7,b8,b9⟩,bf⟩:=box10 HX6.out
      have bf8:=bf 8
      have HX7:Hid ((w6.setCell ⟨w.heap.size,8,none⟩ (.int .i64 (ix t.elem))).heap[w.heap.size]? = some (({ named t t.name with key:=ix t.key,elem:=ix t.elem }:TyD).box B1 d1 B2 d2)):=by show _=_;rw[heap_setCell_same _ _ 8 _ _ _ HX6.out];rfl
      have HB7:Hid (Below w.heap.size w (w6.setCell ⟨w.heap.size,8,none⟩ (.int .i64 (ix t.elem)))):=(zA HB4.out hb6).setCell (p:=⟨w.heap.size,8,none⟩) (Nat.le_refl _) _
      have HK7:Hid (wo.heap.size≤(w6.setCell ⟨w.heap.size,8,none⟩ (.int .i64 (ix t.elem))).heap.size∧∀q,q≠w.heap.size→q<wo.heap.size→(w6.setCell ⟨w.heap.size,8,none⟩ (.int .i64 (ix t.elem))).heap[q]? = wo.heap[q]?):=⟨by have:=hb6.size;have:=HK4.out.1;simp;omega,fun q hq hl=>((heap_setCell_other _ _ _ _ (by simpa using hq)).trans (hb6.block q (by have:=HK4.out.1;omega))).trans (HK4.out.2 q hq hl)⟩
      have HTH:Hid ((w6.setCell ⟨w.heap.size,8,none⟩ (.int .i64 (ix t.elem))).there (w.heap.size+1) 0 10):=yQ ((HK7.out.2 _ (by omega) (by have:=HS6.out.b.lo;have:=HS6.out.b.hi;omega)).trans HS6.out.b.res)
      clear hb6 bf
      have HRD:Hid ((renD n ix t).cs B1 d1 B2 d2=[.int .i64 t.kind,.string t.name,.int .i64 t.low,.int .i64 t.high,.int .i64 t.max,.slice B1 t.syms.length d1,.slice B2 t.mems.length d2,.int .i64 (ix t.key),.int .i64 (ix t.elem),.bool t.open_]):=by
       show _=_
       have hk:=HK.out
       unfold renD
       simp[HNM.out,hk]
      have HFN:=zh (rn_end HS6.out HT.out.name HT.out.syms HT.out.mems (r:=renD n ix t) (by unfold renD;simp[HNM.out]) rfl rfl HK7.out.1 HK7.out.2 HB7.out _ HRD.out)
      go_wp2_with (refine wpList_store_mid rfl 70 (.tmp 6) (.tmp 108) rfl (w.heap.size+1) 0 #[.int .i64 t.kind,.string t.name,.int .i64 t.low,.int .i64 t.high,.int .i64 t.max,.slice B1 t.syms.length d1,.slice B2 t.mems.length d2,.int .i64 (ix t.key),.int .i64 (ix t.elem),.bool t.open_] (by rfl) (by rfl) ?_ ?_ ?_ ?_;(exact HTH.out);(exact ty_info);(exact ty_one ({ named t t.name with key:=ix t.key,elem:=ix t.elem }:TyD) _ _ _ _))
      obtain ⟨hrange,hoff,hbf⟩:=HFN.out
      have k:=fun j v hv=>hrange j v hv
      simp only[Nat.zero_add] at k
      have k0:=k 0 _ rfl
      have k1:=k 1 _ rfl
      have k2:=k 2 _ rfl
      have k3:=k 3 _ rfl
      have k4:=k 4 _ rfl
      have k5:=k 5 _ rfl
      have k6:=k 6 _ rfl
      have k7:=k 7 _ rfl
      have k8:=k 8 _ rfl
      have k9:=k 9 _ rfl
      have HFO:=zh hoff
      have HFB:=zh hbf
      clear k hrange hoff hbf HFN
      exact bodyPost_ret (v := .agg #[.int .i64 t.kind,.string t.name,.int .i64 t.low,.int .i64 t.high,.int .i64 t.max,.slice B1 t.syms.length d1,.slice B2 t.mems.length d2,.int .i64 (ix t.key),.int .i64 (ix t.elem),.bool t.open_]) (by simp[results,Tryz.results47,go_sem,k0,k1,k2,k3,k4,k5,k6,k7,k8,k9]) rfl ⟨B1,d1,B2,d2,congrArg (fun l=>Ending.returned (.agg l.toArray)) HRD.out.symm,HFO.out,HFB.out⟩
     by_cases hk7:t.kind=7
     ·have hk:=hk7
      have HK:=zh hk
      have q8:(t.kind==8)=false:=by simp[hk]
      have q7:(t.kind==7)=true:=by simp[hk]
      have HU2:Hid (((-1:Int),t.elem)∈usesD t):=by show _∈_;rw[yO];simp[hk]
      clear hk hk7 hk8
      have HX5:=zh HS6.out.b.box
      have HB4:=zh HS6.out.b.bel
      go_wp2_with fail
      refine (HIX.out _ HB4.out _ HU2.out).mono ?_
      rintro e w6 ⟨rfl,hb6⟩
      have HX6:=zh ((hb6.block _ (zg.1 HX5.out).1).trans HX5.out)
      obtain ⟨⟨b0,b1,b2,b3,b4,b5,b6,b7,b8,b9⟩,bf⟩:=box10 HX6.out
      have bf8:=bf 8
      have HX7:Hid ((w6.setCell ⟨w.heap.size,8,none⟩ (.int .i64 (ix t.elem))).heap[w.heap.size]? = some (({ named t t.name with elem:=ix t.elem }:TyD).box B1 d1 B2 d2)):=by show _=_;rw[heap_setCell_same _ _ 8 _ _ _ HX6.out];rfl
      have HB7:Hid (Below w.heap.size w (w6.setCell ⟨w.heap.size,8,none⟩ (.int .i64 (ix t.elem)))):=(zA HB4.out hb6).setCell (p:=⟨w.heap.size,8,none⟩) (Nat.le_refl _) _
      have HK7:Hid (wo.heap.size≤(w6.setCell ⟨w.heap.size,8,none⟩ (.int .i64 (ix t.elem))).heap.size∧∀q,q≠w.heap.size→q<wo.heap.size→(w6.setCell ⟨w.heap.size,8,none⟩ (.int .i64 (ix t.elem))).heap[q]? = wo.heap[q]?):=⟨by have:=hb6.size;simp;exact this,fun q hq hl=>((heap_setCell_other _ _ _ _ (by simpa using hq)).trans (hb6.block q hl))⟩
      have HTH:Hid ((w6.setCell ⟨w.heap.size,8,none⟩ (.int .i64 (ix t.elem))).there (w.heap.size+1) 0 10):=yQ ((HK7.out.2 _ (by omega) (by have:=HS6.out.b.lo;have:=HS6.out.b.hi;omega)).trans HS6.out.b.res)
      clear hb6 bf
      have HRD:Hid ((renD n ix t).cs B1 d1 B2 d2=[.int .i64 t.kind,.string t.name,.int .i64 t.low,.int .i64 t.high,.int .i64 t.max,.slice B1 t.syms.length d1,.slice B2 t.mems.length d2,.int .i64 (t.key),.int .i64 (ix t.elem),.bool t.open_]):=by
       show _=_
       have hk:=HK.out
       unfold renD
       simp[HNM.out,hk]
      have HFN:=zh (rn_end HS6.out HT.out.name HT.out.syms HT.out.mems (r:=renD n ix t) (by unfold renD;simp[HNM.out]) rfl rfl HK7.out.1 HK7.out.2 HB7.out _ HRD.out)
      go_wp2_with (refine wpList_store_mid rfl 70 (.tmp 6) (.tmp 108) rfl (w.heap.size+1) 0 #[.int .i64 t.kind,.string t.name,.int .i64 t.low,.int .i64 t.high,.int .i64 t.max,.slice B1 t.syms.length d1,.slice B2 t.mems.length d2,.int .i64 (t.key),.int .i64 (ix t.elem),.bool t.open_] (by rfl) (by rfl) ?_ ?_ ?_ ?_;(exact HTH.out);(exact ty_info);(exact ty_one ({ named t t.name with elem:=ix t.elem }:TyD) _ _ _ _))
      obtain ⟨hrange,hoff,hbf⟩:=HFN.out
      have k:=fun j v hv=>hrange j v hv
      simp only[Nat.zero_add] at k
      have k0:=k 0 _ rfl
      have k1:=k 1 _ rfl
      have k2:=k 2 _ rfl
      have k3:=k 3 _ rfl
      have k4:=k 4 _ rfl
      have k5:=k 5 _ rfl
      have k6:=k 6 _ rfl
      have k7:=k 7 _ rfl
      have k8:=k 8 _ rfl
      have k9:=k 9 _ rfl
      have HFO:=zh hoff
      have HFB:=zh hbf
      clear k hrange hoff hbf HFN
      exact bodyPost_ret (v := .agg #[.int .i64 t.kind,.string t.name,.int .i64 t.low,.int .i64 t.high,.int .i64 t.max,.slice B1 t.syms.length d1,.slice B2 t.mems.length d2,.int .i64 (t.key),.int .i64 (ix t.elem),.bool t.open_]) (by simp[results,Tryz.results47,go_sem,k0,k1,k2,k3,k4,k5,k6,k7,k8,k9]) rfl ⟨B1,d1,B2,d2,congrArg (fun l=>Ending.returned (.agg l.toArray)) HRD.out.symm,HFO.out,HFB.out⟩
     by_cases hk9:t.kind=9
     ·have hk:=hk9
      have HK:=zh hk
      have q8:(t.kind==8)=false:=by simp[hk]
      have q7:(t.kind==7)=false:=by simp[hk]
      have q9:(t.kind==9)=true:=by simp[hk]
      have HU2:Hid (((-1:Int),t.elem)∈usesD t):=by show _∈_;rw[yO];simp[hk]
      clear hk hk7 hk8 hk9
      have HX5:=zh HS6.out.b.box
      have HB4:=zh HS6.out.b.bel
      go_wp2_with fail
      refine (HIX.out _ HB4.out _ HU2.out).mono ?_
      rintro e w6 ⟨rfl,hb6⟩
      have HX6:=zh ((hb6.block _ (zg.1 HX5.out).1).trans HX5.out)
      obtain ⟨⟨b0,b1,b2,b3,b4,b5,b6,b7,b8,b9⟩,bf⟩:=box10 HX6.out
      have bf8:=bf 8
      have HX7:Hid ((w6.setCell ⟨w.heap.size,8,none⟩ (.int .i64 (ix t.elem))).heap[w.heap.size]? = some (({ named t t.name with elem:=ix t.elem }:TyD).box B1 d1 B2 d2)):=by show _=_;rw[heap_setCell_same _ _ 8 _ _ _ HX6.out];rfl
      have HB7:Hid (Below w.heap.size w (w6.setCell ⟨w.heap.size,8,none⟩ (.int .i64 (ix t.elem)))):=(zA HB4.out hb6).setCell (p:=⟨w.heap.size,8,none⟩) (Nat.le_refl _) _
      have HK7:Hid (wo.heap.size≤(w6.setCell ⟨w.heap.size,8,none⟩ (.int .i64 (ix t.elem))).heap.size∧∀q,q≠w.heap.size→q<wo.heap.size→(w6.setCell ⟨w.heap.size,8,none⟩ (.int .i64 (ix t.elem))).heap[q]? = wo.heap[q]?):=⟨by have:=hb6.size;simp;exact this,fun q hq hl=>((heap_setCell_other _ _ _ _ (by simpa using hq)).trans (hb6.block q hl))⟩
      have HTH:Hid ((w6.setCell ⟨w.heap.size,8,none⟩ (.int .i64 (ix t.elem))).there (w.heap.size+1) 0 10):=yQ ((HK7.out.2 _ (by omega) (by have:=HS6.out.b.lo;have:=HS6.out.b.hi;omega)).trans HS6.out.b.res)
      clear hb6 bf
      have HRD:Hid ((renD n ix t).cs B1 d1 B2 d2=[.int .i64 t.kind,.string t.name,.int .i64 t.low,.int .i64 t.high,.int .i64 t.max,.slice B1 t.syms.length d1,.slice B2 t.mems.length d2,.int .i64 (t.key),.int .i64 (ix t.elem),.bool t.open_]):=by
       show _=_
       have hk:=HK.out
       unfold renD
       simp[HNM.out,hk]
      have HFN:=zh (rn_end HS6.out HT.out.name HT.out.syms HT.out.mems (r:=renD n ix t) (by unfold renD;simp[HNM.out]) rfl rfl HK7.out.1 HK7.out.2 HB7.out _ HRD.out)
      go_wp2_with (refine wpList_store_mid rfl 70 (.tmp 6) (.tmp 108) rfl (w.heap.size+1) 0 #[.int .i64 t.kind,.string t.name,.int .i64 t.low,.int .i64 t.high,.int .i64 t.max,.slice B1 t.syms.length d1,.slice B2 t.mems.length d2,.int .i64 (t.key),.int .i64 (ix t.elem),.bool t.open_] (by rfl) (by rfl) ?_ ?_ ?_ ?_;(exact HTH.out);(exact ty_info);(exact ty_one ({ named t t.name with elem:=ix t.elem }:TyD) _ _ _ _))
      obtain ⟨hrange,hoff,hbf⟩:=HFN.out
      have k:=fun j v hv=>hrange j v hv
      simp only[Nat.zero_add] at k
      have k0:=k 0 _ rfl
      have k1:=k 1 _ rfl
      have k2:=k 2 _ rfl
      have k3:=k 3 _ rfl
      have k4:=k 4 _ rfl
      have k5:=k 5 _ rfl
      have k6:=k 6 _ rfl
      have k7:=k 7 _ rfl
      have k8:=k 8 _ rfl
      have k9:=k 9 _ rfl
      have HFO:=zh hoff
      have HFB:=zh hbf
      clear k hrange hoff hbf HFN
      exact bodyPost_ret (v := .agg #[.int .i64 t.kind,.string t.name,.int .i64 t.low,.int .i64 t.high,.int .i64 t.max,.slice B1 t.syms.length d1,.slice B2 t.mems.length d2,.int .i64 (t.key),.int .i64 (ix t.elem),.bool t.open_]) (by simp[results,Tryz.results47,go_sem,k0,k1,k2,k3,k4,k5,k6,k7,k8,k9]) rfl ⟨B1,d1,B2,d2,congrArg (fun l=>Ending.returned (.agg l.toArray)) HRD.out.symm,HFO.out,HFB.out⟩
     have hk:¬ (t.kind=8∨t.kind=7∨t.kind=9):=fun h=>h.elim hk8 fun h=>h.elim hk7 hk9
     have HK:=zh hk
     have q8:(t.kind==8)=false:=by have:t.kind≠8:=fun e=>hk (.inl e);simp[this]
     have q7:(t.kind==7)=false:=by have:t.kind≠7:=fun e=>hk (.inr (.inl e));simp[this]
     have q9:(t.kind==9)=false:=by have:t.kind≠9:=fun e=>hk (.inr (.inr e));simp[this]
     clear hk hk7 hk8 hk9
     have HX7:=zh HS6.out.b.box
     have HB7:=zh HS6.out.b.bel
     have HK7:Hid (wo.heap.size≤wo.heap.size∧∀q,q≠w.heap.size→q<wo.heap.size→wo.heap[q]? = wo.heap[q]?):=⟨Nat.le_refl _,fun _ _ _=>rfl⟩
     have HTH:Hid (wo.there (w.heap.size+1) 0 10):=yQ HS6.out.b.res
     have HRD:Hid ((renD n ix t).cs B1 d1 B2 d2=[.int .i64 t.kind,.string t.name,.int .i64 t.low,.int .i64 t.high,.int .i64 t.max,.slice B1 t.syms.length d1,.slice B2 t.mems.length d2,.int .i64 (t.key),.int .i64 (t.elem),.bool t.open_]):=by
      show _=_
      have hk:=HK.out
      unfold renD
      simp[HNM.out,show t.kind≠8 from fun e=>hk (.inl e),show t.kind≠7 from fun e=>hk (.inr (.inl e)),show t.kind≠9 from fun e=>hk (.inr (.inr e))]
     have HFN:=zh (rn_end HS6.out HT.out.name HT.out.syms HT.out.mems (r:=renD n ix t) (by unfold renD;simp[HNM.out]) rfl rfl HK7.out.1 HK7.out.2 HB7.out _ HRD.out)
     go_wp2_with (refine wpList_store_mid rfl 70 (.tmp 6) (.tmp 108) rfl (w.heap.size+1) 0 #[.int .i64 t.kind,.string t.name,.int .i64 t.low,.int .i64 t.high,.int .i64 t.max,.slice B1 t.syms.length d1,.slice B2 t.mems.length d2,.int .i64 (t.key),.int .i64 (t.elem),.bool t.open_] (by rfl) (by rfl) ?_ ?_ ?_ ?_;(exact HTH.out);(exact ty_info);(exact ty_one (named t t.name) _ _ _ _))
     obtain ⟨hrange,hoff,hbf⟩:=HFN.out
     have k:=fun j v hv=>hrange j v hv
     simp only[Nat.zero_add] at k
     have k0:=k 0 _ rfl
     have k1:=k 1 _ rfl
     have k2:=k 2 _ rfl
     have k3:=k 3 _ rfl
     have k4:=k 4 _ rfl
     have k5:=k 5 _ rfl
     have k6:=k 6 _ rfl
     have k7:=k 7 _ rfl
     have k8:=k 8 _ rfl
     have k9:=k 9 _ rfl
     have HFO:=zh hoff
     have HFB:=zh hbf
     clear k hrange hoff hbf HFN
     exact bodyPost_ret (v := .agg #[.int .i64 t.kind,.string t.name,.int .i64 t.low,.int .i64 t.high,.int .i64 t.max,.slice B1 t.syms.length d1,.slice B2 t.mems.length d2,.int .i64 (t.key),.int .i64 (t.elem),.bool t.open_]) (by simp[results,Tryz.results47,go_sem,k0,k1,k2,k3,k4,k5,k6,k7,k8,k9]) rfl ⟨B1,d1,B2,d2,congrArg (fun l=>Ending.returned (.agg l.toArray)) HRD.out.symm,HFO.out,HFB.out⟩
theorem renamed_n (t:TyD) (hname:t.name≠⟨#[]⟩) (n:Nat) (hn:n≤1000) (p q:Nat) (ix:Int→Int) (As:Option Addr) (cs:Nat) (Am:Option Addr) (cm:Nat) (w:World) (ht:TyR w t As Am) (hids:∀s∈t.syms,In64 s.id) (hidm:∀m∈t.mems,In64 m.id) (hix:IxOk p q ix (usesD t) w) (htab:Tab w) :
  Calls Tryz.prog 47 #[t.v As cs Am cm,.int .i64 n,.func (.func 48) #[] #[.pointer (some ⟨p,0,none⟩),.pointer (some ⟨q,0,none⟩)]] w (RenPost (renD n ix t) w):=by
 have hls:t.syms.length≤5864062014805:=by have:=ht.syms.1;unfold Lim at this;omega
 have hlm:t.mems.length≤879609302220:=by have:=ht.mems.1;unfold Lim at this;omega
 have HT:=zh ht
 have HIX:=zh hix
 have HTB:=zh htab
 have HIS:=zh hids
 have HIM:=zh hidm
 have HNM:=zh hname
 have HB0:=zh (zC w (t.box As cs Am cm) zboxT)
 have HBX:Hid (((w.alloc (t.box As cs Am cm)).alloc zboxT).heap[w.heap.size]? = some (t.box As cs Am cm)):=yS (heap_alloc_new w _) _
 have HRS:Hid (((w.alloc (t.box As cs Am cm)).alloc zboxT).heap[w.heap.size+1]? = some zboxT):=by
  have h:=heap_alloc_new (w.alloc (t.box As cs Am cm)) zboxT
  rw[show (w.alloc (t.box As cs Am cm)).heap.size=w.heap.size+1 by simp] at h
  exact h
 have n1:¬ t.name.toList=[]:=by rw[Lib.toList_data];intro e;exact hname (Go.WideShapes.bytes_inj e)
 have n2:t.name.toList.isEmpty=false:=by simpa using n1
 clear ht hix htab hids hidm hname
 go_enter Tryz.func47,Tryz.ntmps47
 go_wp2_with fail
 refine (itoa_any n ⟨by omega,by omega⟩ _ (HTB.out.below HB0.out)).mono ?_
 rintro e w1 ⟨rfl,hb1⟩
 have HBX2:=zh ((hb1.block _ (zg.1 HBX.out).1).trans HBX.out)
 have HRS2:=zh ((hb1.block _ (zg.1 HRS.out).1).trans HRS.out)
 have HB2:=zh (zA HB0.out hb1)
 have hc1:=(box10 HBX2.out).1.2.1
 have hc5:=(box10 HBX2.out).1.2.2.2.2.2.1
 have hf1:=(box10 HBX2.out).2 1
 have hds:(decB (n:Int)).size≤21:=Lib.itoa_length_le (n:Int) (by omega) (by omega)
 clear hb1
 go_wp2_with fail
 have HB1:Hid (Below w.heap.size w (w1.setCell ⟨w.heap.size,1,none⟩ (.string (⟨#[84]⟩++decB (n:Int))))):=HB2.out.setCell (p:=⟨w.heap.size,1,none⟩) (Nat.le_refl _) _
 have HBX1:Hid ((w1.setCell ⟨w.heap.size,1,none⟩ (.string (⟨#[84]⟩++decB (n:Int)))).heap[w.heap.size]? = some ((named t (nameN 84 (n:Int))).box As cs Am cm)):=by
  show _=_
  rw[heap_setCell_same _ _ 1 _ _ _ HBX2.out];rfl
 have HRS1:Hid ((w1.setCell ⟨w.heap.size,1,none⟩ (.string (⟨#[84]⟩++decB (n:Int)))).heap[w.heap.size+1]? = some zboxT):=by
  show _=_
  rw[heap_setCell_other _ _ _ _ (by simp)];exact HRS2.out
 clear hc1 hc5 hf1 HBX2 HRS2 HB2
 generalize w1.setCell ⟨w.heap.size,1,none⟩ (.string (⟨#[84]⟩++decB (n:Int)))=w1 at *
 refine (cloneS HT.out.syms HB1.out).mono ?_
 rintro e w2 ⟨B1,d1,rfl,hb2,hg1,hk1⟩
 have hbx2:=(hb2.block _ (zg.1 HBX1.out).1).trans HBX1.out
 have hc5:=(box10 hbx2).1.2.2.2.2.2.1
 have hf5:=(box10 hbx2).2 5
 have HSB:=zh (rnB_start HBX1.out HRS1.out HB1.out hb2 hg1 hk1)
 clear hb2 hg1 hk1 hbx2 HBX1 HRS1
 go_wp2
 clear hc5 hf5
 generalize w2.heap.size=S3 at *
 generalize w2.setCell ⟨w.heap.size,5,none⟩ (.slice B1 t.syms.length d1)=W2 at *
 go_loopw [24] (fun s wr=>∃i:Nat,i≤t.syms.length∧s = .int .i64 i∧Hid (RnB t (nameN 84 (n:Int)) w S3 B1 d1 Am cm i wr)) (fun s _=>t.syms.length - (intOf s).toNat)
 case atStart=>exact ⟨0,by omega,rfl,HSB.out⟩
 case round =>
  obtain ⟨i,hi,rfl,hh⟩:=hrel
  obtain ⟨wo,rfl⟩:∃wo:World,wo=wr:=⟨_,rfl⟩
  by_cases hlt:i<t.syms.length
  ·have hi':i<(mapTo renS i t.syms).length:=by rw[yM];exact hlt
   obtain ⟨g,rfl⟩:∃g,B1=some ⟨g,0,none⟩:=by
    obtain ⟨g,ds,e,_⟩:=hh.out.syms.next hi'
    exact ⟨g,e⟩
   have h1:(0:Int)≤(i:Int):=by omega
   have h2:(i:Int)<(t.syms.length:Int):=by omega
   have hid:=HIS.out _ (List.getElem_mem hlt)
   have hds2:¬ 9223372036854775807<1+(decB (t.syms[i]).id).size:=by have:(decB (t.syms[i]).id).size≤21:=Lib.itoa_length_le _ hid.1 hid.2;omega
   have HID:=zh hid
   have HS4:=zh hh.out
   clear hi' hid hh
   go_wp2_with fail
   refine yD (S:=(fun w'=>(w'.cell? ⟨w.heap.size,5,none⟩=some (.slice (some ⟨g,0,none⟩) t.syms.length d1)∧w'.cell? ⟨g,i * 2,none⟩=some (.int .i64 (t.syms[i]).id)∧(∃s,w'.cell? ⟨g,i * 2+1,none⟩=some s)∧w'.frozen? ⟨g,i * 2+1,none⟩=false)∧Hid (RnB t (nameN 84 (n:Int)) w S3 (some ⟨g,0,none⟩) d1 Am cm i w'))) 13 (by kernel_rfl) ?_ (fun zH_=>?_)
   ·(try dsimp only);exact rnB_hold (HS4.out.below (zE (Below.refl _ _) 1)) hlt
   refine tC 0 _ zH_ ?_
   try simp only[ps]
   refine tB 1 _ zH_ ?_
   try simp only[ps]
   refine tC 2 _ zH_ ?_
   try simp only[ps]
   refine tC 3 _ zH_ ?_
   try simp only[ps]
   refine tB 4 _ zH_ ?_
   try simp only[ps]
   refine tC 5 _ zH_ ?_
   try simp only[ps]
   refine tC 6 _ zH_ ?_
   try simp only[ps]
   refine tC 7 _ zH_ ?_
   try simp only[ps]
   refine tB 8 _ zH_ ?_
   try simp only[ps]
   refine tS 9 (fun K hK=>?_)
   go_simp
   (refine (itoa_any (t.syms[i]).id HID.out _ (HTB.out.below zH_.2.out.bel)).mono ?_;rintro e w6 ⟨rfl,hb6⟩)
   refine hK.out _ _ ?_ (fun zH_=>?_)
   ·(try dsimp only);exact rnB_hold (zH_.2.out.below hb6) hlt
   clear hK K
   try simp only[ps]
   refine tC 10 _ zH_ ?_
   try simp only[ps]
   refine tC 11 _ zH_ ?_
   try simp only[ps]
   refine tC 12 _ zH_ ?_
   try simp only[ps]
   refine zZ (rs:=[13]) (by kernel_rfl) (by simp) ?_
   refine AllReadyB.last rfl (by kernel_rfl) (fun K hK=>?_) AllReadyB.nil
   (have HH6:=zh zH_.2.out;obtain ⟨⟨_,_,⟨s0,hc0⟩,hf0⟩,_⟩:=zH_;go_simp)
   refine hK.out _ _ ?_
   clear hK K
   (try clear zH_)
   try simp only[ps]
   refine wpAny_done (by kernel_rfl) ?_ _
   have HN:=zh (HH6.out.sym hlt rfl HID.out)
   clear hc0 hf0 HH6
   go_wp2
   go_roundw
   case rel=>exact ⟨i+1,by omega,by go_num,HN.out⟩
   case measure=>simp[intOf];omega
  ·obtain rfl:i=t.syms.length:=by omega
   have hc6:=(box10 hh.out.box).1.2.2.2.2.2.2.1
   have HS4:=zh hh.out
   clear hh
   go_wp2_with fail
   refine (cloneM HT.out.mems HS4.out.bel).mono ?_
   rintro e w3 ⟨B2,d2,rfl,hb3,hg3,hk3⟩
   have hbx3:=(hb3.block _ (zg.1 HS4.out.box).1).trans HS4.out.box
   have hc7:=(box10 hbx3).1.2.2.2.2.2.2.1
   have hf7:=(box10 hbx3).2 6
   have HSC:=zh (rnC_start (ix:=ix) HS4.out hb3 hg3 hk3)
   clear hb3 hg3 hk3 hbx3 hc6
   go_wp2
   clear hc7 hf7
   generalize w3.heap.size=M3 at *
   generalize w3.setCell ⟨w.heap.size,6,none⟩ (.slice B2 t.mems.length d2)=W3 at *
   go_loopw [48] (fun s wr=>∃j:Nat,j≤t.mems.length∧s = .int .i64 j∧Hid (RnC t (nameN 84 (n:Int)) ix w S3 M3 B1 d1 B2 d2 j wr)) (fun s _=>t.mems.length - (intOf s).toNat)
   case atStart=>exact ⟨0,by omega,rfl,HSC.out⟩
   case round =>
    obtain ⟨j,hj,rfl,hh⟩:=hrel
    obtain ⟨wo,rfl⟩:∃wo:World,wo=wr:=⟨_,rfl⟩
    by_cases hlt:j<t.mems.length
    ·obtain ⟨g,E1,e1,E2,e2,E3,e3,rfl,hrg,hmr⟩:=hh.out.next hlt
     have h1:(0:Int)≤(j:Int):=by omega
     have h2:(j:Int)<(t.mems.length:Int):=by omega
     have hid:=HIM.out _ (List.getElem_mem hlt)
     have hds2:¬ 9223372036854775807<1+(decB (t.mems[j]).id).size:=by have:(decB (t.mems[j]).id).size≤21:=Lib.itoa_length_le _ hid.1 hid.2;omega
     have HID:=zh hid
     have HUS:Hid (((t.mems[j]).id,(t.mems[j]).type)∈usesD t):=by
      show _∈_
      rw[yO]
      exact List.mem_append_left _ (List.mem_append_left _ (List.mem_map.2 ⟨_,List.getElem_mem hlt,rfl⟩))
     have hc6:=(box10 hh.out.b.box).1.2.2.2.2.2.2.1
     have HS5:=zh hh.out
     have HRG:=zh hrg
     have HMR:=zh hmr
     clear hid hh hrg hmr
     go_wp2_with fail
     clear hc6
     refine yD (S:=(fun w'=>((w'.cell? ⟨g,j * 13,none⟩=some (.int .i64 (t.mems[j]).id)∧w'.cell? ⟨g,j * 13+1,none⟩=some (.string (t.mems[j]).name)∧w'.cell? ⟨g,j * 13+2,none⟩=some (.int .i64 (t.mems[j]).type)∧w'.cell? ⟨g,j * 13+5,none⟩=some (.int .i64 (t.mems[j]).dflt.kind)∧w'.cell? ⟨g,j * 13+6,none⟩=some (.bool (t.mems[j]).dflt.bool)∧w'.cell? ⟨g,j * 13+7,none⟩=some (.int .i64 (t.mems[j]).dflt.int)∧w'.cell? ⟨g,j * 13+8,none⟩=some (.string (t.mems[j]).dflt.str)∧w'.cell? ⟨g,j * 13+9,none⟩=some (.int .i64 (t.mems[j]).dflt.id)∧w'.cell? ⟨g,j * 13+10,none⟩=some (.slice E1 (t.mems[j]).dflt.keys.length e1)∧w'.cell? ⟨g,j * 13+11,none⟩=some (.slice E2 (t.mems[j]).dflt.items.length e2)∧w'.cell? ⟨g,j * 13+12,none⟩=some (.slice E3 (t.mems[j]).dflt.rest.length e3))∧(w'.frozen? ⟨g,j * 13+1,none⟩=false∧w'.frozen? ⟨g,j * 13+2,none⟩=false))∧Hid (RnC t (nameN 84 (n:Int)) ix w S3 M3 B1 d1 (some ⟨g,0,none⟩) d2 j w'∧w'.rangeAt g (j * 13) ((t.mems[j]).cs E1 e1 E2 e2 E3 e3)∧MemR w' t.mems[j] E1 E2 E3))) 22 (by kernel_rfl) ?_ (fun zH_=>?_)
     ·(try dsimp only);exact rnC_hold (HS5.out.below (zE (Below.refl _ _) 1)) hlt HRG.out (HMR.out.below (zE (Below.refl _ _) 1))
     refine tC 0 _ zH_ ?_
     try simp only[ps]
     refine tC 1 _ zH_ ?_
     try simp only[ps]
     refine tC 2 _ zH_ ?_
     try simp only[ps]
     refine tC 3 _ zH_ ?_
     try simp only[ps]
     refine tC 4 _ zH_ ?_
     try simp only[ps]
     refine tC 5 _ zH_ ?_
     try simp only[ps]
     refine tB 6 _ zH_ ?_
     try simp only[ps]
     refine tC 9 _ zH_ ?_
     try simp only[ps]
     refine tC 10 _ zH_ ?_
     try simp only[ps]
     refine tC 11 _ zH_ ?_
     try simp only[ps]
     refine tC 12 _ zH_ ?_
     try simp only[ps]
     refine tB 13 _ zH_ ?_
     try simp only[ps]
     refine tC 15 _ zH_ ?_
     try simp only[ps]
     refine tC 16 _ zH_ ?_
     try simp only[ps]
     refine tC 17 _ zH_ ?_
     try simp only[ps]
     refine tB 18 _ zH_ ?_
     try simp only[ps]
     refine tS 7 (fun K hK=>?_)
     go_simp
     (refine (itoa_any (t.mems[j]).id HID.out _ (HTB.out.below zH_.2.out.1.b.bel)).mono ?_;rintro e w6 ⟨rfl,hb6⟩)
     refine hK.out _ _ ?_ (fun zH_=>?_)
     ·(try dsimp only);exact rnC_hold (zH_.2.out.1.below hb6) hlt (zY hb6 zH_.2.out.2.1) (zH_.2.out.2.2.below hb6)
     clear hK K
     try simp only[ps]
     refine tC 8 _ zH_ ?_
     try simp only[ps]
     refine tS 14 (fun K hK=>?_)
     go_simp
     (refine (HIX.out _ zH_.2.out.1.b.bel _ HUS.out).mono ?_;rintro e w7 ⟨rfl,hb7⟩)
     refine hK.out _ _ ?_ (fun zH_=>?_)
     ·(try dsimp only);exact rnC_hold (zH_.2.out.1.below hb7) hlt (zY hb7 zH_.2.out.2.1) (zH_.2.out.2.2.below hb7)
     clear hK K
     refine tS 19 (fun K hK=>?_)
     go_simp
     (refine (copied_any (t.mems[j]).dflt E1 e1 E2 e2 E3 e3 _ zH_.2.out.2.2.dflt).mono ?_;rintro e w8 ⟨F1,f1,F2,f2,F3,f3,rfl,hoff,hb8⟩;have HOF:=zh hoff;have HLE:=zh zH_.2.out.1.hi;clear hoff)
     refine hK.out _ _ ?_ (fun zH_=>?_)
     ·(try dsimp only);exact rnC_hold (zH_.2.out.1.below hb8) hlt (zY hb8 zH_.2.out.2.1) (zH_.2.out.2.2.below hb8)
     clear hK K
     try simp only[ps]
     refine tC 20 _ zH_ ?_
     try simp only[ps]
     refine tC 21 _ zH_ ?_
     try simp only[ps]
     refine zZ (rs:=[22]) (by kernel_rfl) (by simp) ?_
     refine AllReadyB.last rfl (by kernel_rfl) (fun K hK=>?_) AllReadyB.nil
     (have HH8:=zh zH_.2.out.1;obtain ⟨⟨⟨_,hk1,hk2,_⟩,hf1,hf2⟩,_⟩:=zH_;go_simp)
     refine hK.out _ _ ?_
     clear hK K
     (try clear zH_)
     try simp only[ps]
     refine tkA 23 ?v66 rfl (by kernel_rfl) (.inl ⟨by rfl,?y66⟩) ?_
     case y66=>(intro w;go_simp;try with_reducible rfl)
     try simp only[ps]
     refine tkA 24 ?v67 rfl (by kernel_rfl) (.inl ⟨by rfl,?y67⟩) ?_
     case y67=>(intro w;go_simp;try with_reducible rfl)
     try simp only[ps]
     refine wpAny_ready (rs:=[25]) (by kernel_rfl) (by simp) ?_
     refine (AllReady.cons rfl (fun K hK=>?_) AllReady.nil)
     go_simp
     refine hK _ _ ?_
     clear hK K
     try simp only[ps]
     refine tkA 26 ?v68 rfl (by kernel_rfl) (.inl ⟨by rfl,?y68⟩) ?_
     case y68=>(intro w;go_simp;try with_reducible rfl)
     try simp only[ps]
     refine tkA 27 ?v69 rfl (by kernel_rfl) (.inl ⟨by rfl,?y69⟩) ?_
     case y69=>(intro w;go_simp;try with_reducible rfl)
     try simp only[ps]
     refine wpAny_ready (rs:=[28]) (by kernel_rfl) (by simp) ?_
     refine (AllReady.cons rfl (fun K hK=>?_) AllReady.nil)
     (simp only[List.getElem_toArray,List.getElem_cons_zero,List.getElem_cons_succ];rw[if_pos (by rfl)];refine wp_store_mid 81 (.tmp 80) (.tmp 74) rfl (g) (j * 13+5) (#[.int .i64 (t.mems[j]).dflt.kind,.bool (t.mems[j]).dflt.bool,.int .i64 (t.mems[j]).dflt.int,.string (t.mems[j]).dflt.str,.int .i64 (t.mems[j]).dflt.id,.slice F1 (t.mems[j]).dflt.keys.length f1,.slice F2 (t.mems[j]).dflt.items.length f2,.slice F3 (t.mems[j]).dflt.rest.length f3]) (by rfl) (by rfl) ?_ ?_ ?_ ?_;(exact HH8.out.there8 hlt _ _);(exact val_info);(exact val_one _ _ _ _ _ _ _))
     refine hK _ _ ?_
     clear hK K
     try simp only[ps]
     refine wpAny_done (by kernel_rfl) ?_ _
     have HN:=zh (HH8.out.mem hlt rfl HID.out HLE.out HOF.out (f1:=f1) (f2:=f2) (f3:=f3))
     clear HH8 hk1 hk2 hf1 hf2
     go_wp2
     go_roundw
     case rel=>exact ⟨j+1,by omega,by go_num,HN.out⟩
     case measure=>simp[intOf];omega
    ·obtain rfl:j=t.mems.length:=by omega
     obtain ⟨⟨a0,a1,a2,a3,a4,a5,a6,a7,a8,a9⟩,_⟩:=box10 hh.out.b.box
     have HS6:=zh hh.out
     clear hh
     by_cases hk8:t.kind=8
     ·have hk:=hk8
      have HK:=zh hk
      have q8:(t.kind==8)=true:=by simp[hk]
      have HU1:Hid (((0:Int),t.key)∈usesD t):=by show _∈_;rw[yO];simp[hk]
      have HU2:Hid (((-1:Int),t.elem)∈usesD t):=by show _∈_;rw[yO];simp[hk]
      clear hk hk8
      go_wp2_with fail
      refine (HIX.out _ HS6.out.b.bel _ HU1.out).mono ?_
      rintro e w4 ⟨rfl,hb4⟩
      have HX4:=zh ((hb4.block _ (zg.1 HS6.out.b.box).1).trans HS6.out.b.box)
      obtain ⟨⟨b0,b1,b2,b3,b4,b5,b6,b7,b8,b9⟩,bf⟩:=box10 HX4.out
      have bf7:=bf 7
      have HX5:Hid ((w4.setCell ⟨w.heap.size,7,none⟩ (.int .i64 (ix t.key))).heap[w.heap.size]? = some (({ named t (nameN 84 (n:Int)) with key:=ix t.key }:TyD).box B1 d1 B2 d2)):=by show _=_;rw[heap_setCell_same _ _ 7 _ _ _ HX4.out];rfl
      have HB4:Hid (Below w.heap.size w (w4.setCell ⟨w.heap.size,7,none⟩ (.int .i64 (ix t.key)))):=(zA HS6.out.b.bel hb4).setCell (p:=⟨w.heap.size,7,none⟩) (Nat.le_refl _) _
      have HK4:Hid (wo.heap.size≤(w4.setCell ⟨w.heap.size,7,none⟩ (.int .i64 (ix t.key))).heap.size∧∀q,q≠w.heap.size→q<wo.heap.size→(w4.setCell ⟨w.heap.size,7,none⟩ (.int .i64 (ix t.key))).heap[q]? = wo.heap[q]?):=⟨by have:=hb4.size;simp;exact this,fun q hq hl=>(heap_setCell_other _ _ _ _ (by simpa using hq)).trans (hb4.block q hl)⟩
      clear hb4 bf
      go_wp2_with fail
      clear b0 b1 b2 b3 b4 b5 b6 b7 b8 b9 bf7
      generalize w4.setCell ⟨w.heap.size,7,none⟩ (.int .i64 (ix t.key))=w5 at *
      refine (HIX.out _ HB4.out _ HU2.out).mono ?_
      rintro e w6 ⟨rfl,hb6⟩
      have HX6:=zh ((hb6.block _ (zg.1 HX5.out).1).trans HX5.out)
      obtain ⟨⟨b0,b1,b2,b3,b4,b5,b6,b7,b8,b9⟩,bf⟩:=box10 HX6.out
      have bf8:=bf 8
      have HX7:Hid ((w6.setCell ⟨w.heap.size,8,none⟩ (.int .i64 (ix t.elem))).heap[w.heap.size]? = some (({ named t (nameN 84 (n:Int)) with key:=ix t.key,elem:=ix t.elem }:TyD).box B1 d1 B2 d2)):=by show _=_;rw[heap_setCell_same _ _ 8 _ _ _ HX6.out];rfl
      have HB7:Hid (Below w.heap.size w (w6.setCell ⟨w.heap.size,8,none⟩ (.int .i64 (ix t.elem)))):=(zA HB4.out hb6).setCell (p:=⟨w.heap.size,8,none⟩) (Nat.le_refl _) _
      have HK7:Hid (wo.heap.size≤(w6.setCell ⟨w.heap.size,8,none⟩ (.int .i64 (ix t.elem))).heap.size∧∀q,q≠w.heap.size→q<wo.heap.size→(w6.setCell ⟨w.heap.size,8,none⟩ (.int .i64 (ix t.elem))).heap[q]? = wo.heap[q]?):=⟨by have:=hb6.size;have:=HK4.out.1;simp;omega,fun q hq hl=>((heap_setCell_other _ _ _ _ (by simpa using hq)).trans (hb6.block q (by have:=HK4.out.1;omega))).trans (HK4.out.2 q hq hl)⟩
      have HTH:Hid ((w6.setCell ⟨w.heap.size,8,none⟩ (.int .i64 (ix t.elem))).there (w.heap.size+1) 0 10):=yQ ((HK7.out.2 _ (by omega) (by have:=HS6.out.b.lo;have:=HS6.out.b.hi;omega)).trans HS6.out.b.res)
      clear hb6 bf
      have HRD:Hid ((renD n ix t).cs B1 d1 B2 d2=[.int .i64 t.kind,.string (nameN 84 (n:Int)),.int .i64 t.low,.int .i64 t.high,.int .i64 t.max,.slice B1 t.syms.length d1,.slice B2 t.mems.length d2,.int .i64 (ix t.key),.int .i64 (ix t.elem),.bool t.open_]):=by
       show _=_
       have hk:=HK.out
       unfold renD
       simp[HNM.out,hk]
      have HFN:=zh (rn_end HS6.out (nameN_ok' ⟨by omega,by omega⟩) HT.out.syms HT.out.mems (r:=renD n ix t) (by unfold renD;simp[HNM.out]) rfl rfl HK7.out.1 HK7.out.2 HB7.out _ HRD.out)
      go_wp2_with (refine wpList_store_mid rfl 70 (.tmp 6) (.tmp 108) rfl (w.heap.size+1) 0 #[.int .i64 t.kind,.string (nameN 84 (n:Int)),.int .i64 t.low,.int .i64 t.high,.int .i64 t.max,.slice B1 t.syms.length d1,.slice B2 t.mems.length d2,.int .i64 (ix t.key),.int .i64 (ix t.elem),.bool t.open_] (by rfl) (by rfl) ?_ ?_ ?_ ?_;(exact HTH.out);(exact ty_info);(exact ty_one ({ named t (nameN 84 (n:Int)) with key:=ix t.key,elem:=ix t.elem }:TyD) _ _ _ _))
      obtain ⟨hrange,hoff,hbf⟩:=HFN.out
      have k:=fun j v hv=>hrange j v hv
      simp only[Nat.zero_add] at k
      have k0:=k 0 _ rfl
      have k1:=k 1 _ rfl
      have k2:=k 2 _ rfl
      have k3:=k 3 _ rfl
      have k4:=k 4 _ rfl
      have k5:=k 5 _ rfl
      have k6:=k 6 _ rfl
      have k7:=k 7 _ rfl
      have k8:=k 8 _ rfl
      have k9:=k 9 _ rfl
      have HFO:=zh hoff
      have HFB:=zh hbf
      clear k hrange hoff hbf HFN
      exact bodyPost_ret (v := .agg #[.int .i64 t.kind,.string (nameN 84 (n:Int)),.int .i64 t.low,.int .i64 t.high,.int .i64 t.max,.slice B1 t.syms.length d1,.slice B2 t.mems.length d2,.int .i64 (ix t.key),.int .i64 (ix t.elem),.bool t.open_]) (by simp[results,Tryz.results47,go_sem,k0,k1,k2,k3,k4,k5,k6,k7,k8,k9]) rfl ⟨B1,d1,B2,d2,congrArg (fun l=>Ending.returned (.agg l.toArray)) HRD.out.symm,HFO.out,HFB.out⟩
     by_cases hk7:t.kind=7
     ·have hk:=hk7
      have HK:=zh hk
      have q8:(t.kind==8)=false:=by simp[hk]
      have q7:(t.kind==7)=true:=by simp[hk]
      have HU2:Hid (((-1:Int),t.elem)∈usesD t):=by show _∈_;rw[yO];simp[hk]
      clear hk hk7 hk8
      have HX5:=zh HS6.out.b.box
      have HB4:=zh HS6.out.b.bel
      go_wp2_with fail
      refine (HIX.out _ HB4.out _ HU2.out).mono ?_
      rintro e w6 ⟨rfl,hb6⟩
      have HX6:=zh ((hb6.block _ (zg.1 HX5.out).1).trans HX5.out)
      obtain ⟨⟨b0,b1,b2,b3,b4,b5,b6,b7,b8,b9⟩,bf⟩:=box10 HX6.out
      have bf8:=bf 8
      have HX7:Hid ((w6.setCell ⟨w.heap.size,8,none⟩ (.int .i64 (ix t.elem))).heap[w.heap.size]? = some (({ named t (nameN 84 (n:Int)) with elem:=ix t.elem }:TyD).box B1 d1 B2 d2)):=by show _=_;rw[heap_setCell_same _ _ 8 _ _ _ HX6.out];rfl
      have HB7:Hid (Below w.heap.size w (w6.setCell ⟨w.heap.size,8,none⟩ (.int .i64 (ix t.elem)))):=(zA HB4.out hb6).setCell (p:=⟨w.heap.size,8,none⟩) (Nat.le_refl _) _
      have HK7:Hid (wo.heap.size≤(w6.setCell ⟨w.heap.size,8,none⟩ (.int .i64 (ix t.elem))).heap.size∧∀q,q≠w.heap.size→q<wo.heap.size→(w6.setCell ⟨w.heap.size,8,none⟩ (.int .i64 (ix t.elem))).heap[q]? = wo.heap[q]?):=⟨by have:=hb6.size;simp;exact this,fun q hq hl=>((heap_setCell_other _ _ _ _ (by simpa using hq)).trans (hb6.block q hl))⟩
      have HTH:Hid ((w6.setCell ⟨w.heap.size,8,none⟩ (.int .i64 (ix t.elem))).there (w.heap.size+1) 0 10):=yQ ((HK7.out.2 _ (by omega) (by have:=HS6.out.b.lo;have:=HS6.out.b.hi;omega)).trans HS6.out.b.res)
      clear hb6 bf
      have HRD:Hid ((renD n ix t).cs B1 d1 B2 d2=[.int .i64 t.kind,.string (nameN 84 (n:Int)),.int .i64 t.low,.int .i64 t.high,.int .i64 t.max,.slice B1 t.syms.length d1,.slice B2 t.mems.length d2,.int .i64 (t.key),.int .i64 (ix t.elem),.bool t.open_]):=by
       show _=_
       have hk:=HK.out
       unfold renD
       simp[HNM.out,hk]
      have HFN:=zh (rn_end HS6.out (nameN_ok' ⟨by omega,by omega⟩) HT.out.syms HT.out.mems (r:=renD n ix t) (by unfold renD;simp[HNM.out]) rfl rfl HK7.out.1 HK7.out.2 HB7.out _ HRD.out)
      go_wp2_with (refine wpList_store_mid rfl 70 (.tmp 6) (.tmp 108) rfl (w.heap.size+1) 0 #[.int .i64 t.kind,.string (nameN 84 (n:Int)),.int .i64 t.low,.int .i64 t.high,.int .i64 t.max,.slice B1 t.syms.length d1,.slice B2 t.mems.length d2,.int .i64 (t.key),.int .i64 (ix t.elem),.bool t.open_] (by rfl) (by rfl) ?_ ?_ ?_ ?_;(exact HTH.out);(exact ty_info);(exact ty_one ({ named t (nameN 84 (n:Int)) with elem:=ix t.elem }:TyD) _ _ _ _))
      obtain ⟨hrange,hoff,hbf⟩:=HFN.out
      have k:=fun j v hv=>hrange j v hv
      simp only[Nat.zero_add] at k
      have k0:=k 0 _ rfl
      have k1:=k 1 _ rfl
      have k2:=k 2 _ rfl
      have k3:=k 3 _ rfl
      have k4:=k 4 _ rfl
      have k5:=k 5 _ rfl
      have k6:=k 6 _ rfl
      have k7:=k 7 _ rfl
      have k8:=k 8 _ rfl
      have k9:=k 9 _ rfl
      have HFO:=zh hoff
      have HFB:=zh hbf
      clear k hrange hoff hbf HFN
      exact bodyPost_ret (v := .agg #[.int .i64 t.kind,.string (nameN 84 (n:Int)),.int .i64 t.low,.int .i64 t.high,.int .i64 t.max,.slice B1 t.syms.length d1,.slice B2 t.mems.length d2,.int .i64 (t.key),.int .i64 (ix t.elem),.bool t.open_]) (by simp[results,Tryz.results47,go_sem,k0,k1,k2,k3,k4,k5,k6,k7,k8,k9]) rfl ⟨B1,d1,B2,d2,congrArg (fun l=>Ending.returned (.agg l.toArray)) HRD.out.symm,HFO.out,HFB.out⟩
     by_cases hk9:t.kind=9
     ·have hk:=hk9
      have HK:=zh hk
      have q8:(t.kind==8)=false:=by simp[hk]
      have q7:(t.kind==7)=false:=by simp[hk]
      have q9:(t.kind==9)=true:=by simp[hk]
      have HU2:Hid (((-1:Int),t.elem)∈usesD t):=by show _∈_;rw[yO];simp[hk]
      clear hk hk7 hk8 hk9
      have HX5:=zh HS6.out.b.box
      have HB4:=zh HS6.out.b.bel
      go_wp2_with fail
      refine (HIX.out _ HB4.out _ HU2.out).mono ?_
      rintro e w6 ⟨rfl,hb6⟩
      have HX6:=zh ((hb6.block _ (zg.1 HX5.out).1).trans HX5.out)
      obtain ⟨⟨b0,b1,b2,b3,b4,b5,b6,b7,b8,b9⟩,bf⟩:=box10 HX6.out
      have bf8:=bf 8
      have HX7:Hid ((w6.setCell ⟨w.heap.size,8,none⟩ (.int .i64 (ix t.elem))).heap[w.heap.size]? = some (({ named t (nameN 84 (n:Int)) with elem:=ix t.elem }:TyD).box B1 d1 B2 d2)):=by show _=_;rw[heap_setCell_same _ _ 8 _ _ _ HX6.out];rfl
      have HB7:Hid (Below w.heap.size w (w6.setCell ⟨w.heap.size,8,none⟩ (.int .i64 (ix t.elem)))):=(zA HB4.out hb6).setCell (p:=⟨w.heap.size,8,none⟩) (Nat.le_refl _) _
      have HK7:Hid (wo.heap.size≤(w6.setCell ⟨w.heap.size,8,none⟩ (.int .i64 (ix t.elem))).heap.size∧∀q,q≠w.heap.size→q<wo.heap.size→(w6.setCell ⟨w.heap.size,8,none⟩ (.int .i64 (ix t.elem))).heap[q]? = wo.heap[q]?):=⟨by have:=hb6.size;simp;exact this,fun q hq hl=>((heap_setCell_other _ _ _ _ (by simpa using hq)).trans (hb6.block q hl))⟩
      have HTH:Hid ((w6.setCell ⟨w.heap.size,8,none⟩ (.int .i64 (ix t.elem))).there (w.heap.size+1) 0 10):=yQ ((HK7.out.2 _ (by omega) (by have:=HS6.out.b.lo;have:=HS6.out.b.hi;omega)).trans HS6.out.b.res)
      clear hb6 bf
      have HRD:Hid ((renD n ix t).cs B1 d1 B2 d2=[.int .i64 t.kind,.string (nameN 84 (n:Int)),.int .i64 t.low,.int .i64 t.high,.int .i64 t.max,.slice B1 t.syms.length d1,.slice B2 t.mems.length d2,.int .i64 (t.key),.int .i64 (ix t.elem),.bool t.open_]):=by
       show _=_
       have hk:=HK.out
       unfold renD
       simp[HNM.out,hk]
      have HFN:=zh (rn_end HS6.out (nameN_ok' ⟨by omega,by omega⟩) HT.out.syms HT.out.mems (r:=renD n ix t) (by unfold renD;simp[HNM.out]) rfl rfl HK7.out.1 HK7.out.2 HB7.out _ HRD.out)
      go_wp2_with (refine wpList_store_mid rfl 70 (.tmp 6) (.tmp 108) rfl (w.heap.size+1) 0 #[.int .i64 t.kind,.string (nameN 84 (n:Int)),.int .i64 t.low,.int .i64 t.high,.int .i64 t.max,.slice B1 t.syms.length d1,.slice B2 t.mems.length d2,.int .i64 (t.key),.int .i64 (ix t.elem),.bool t.open_] (by rfl) (by rfl) ?_ ?_ ?_ ?_;(exact HTH.out);(exact ty_info);(exact ty_one ({ named t (nameN 84 (n:Int)) with elem:=ix t.elem }:TyD) _ _ _ _))
      obtain ⟨hrange,hoff,hbf⟩:=HFN.out
      have k:=fun j v hv=>hrange j v hv
      simp only[Nat.zero_add] at k
      have k0:=k 0 _ rfl
      have k1:=k 1 _ rfl
      have k2:=k 2 _ rfl
      have k3:=k 3 _ rfl
      have k4:=k 4 _ rfl
      have k5:=k 5 _ rfl
      have k6:=k 6 _ rfl
      have k7:=k 7 _ rfl
      have k8:=k 8 _ rfl
      have k9:=k 9 _ rfl
      have HFO:=zh hoff
      have HFB:=zh hbf
      clear k hrange hoff hbf HFN
      exact bodyPost_ret (v := .agg #[.int .i64 t.kind,.string (nameN 84 (n:Int)),.int .i64 t.low,.int .i64 t.high,.int .i64 t.max,.slice B1 t.syms.length d1,.slice B2 t.mems.length d2,.int .i64 (t.key),.int .i64 (ix t.elem),.bool t.open_]) (by simp[results,Tryz.results47,go_sem,k0,k1,k2,k3,k4,k5,k6,k7,k8,k9]) rfl ⟨B1,d1,B2,d2,congrArg (fun l=>Ending.returned (.agg l.toArray)) HRD.out.symm,HFO.out,HFB.out⟩
     have hk:¬ (t.kind=8∨t.kind=7∨t.kind=9):=fun h=>h.elim hk8 fun h=>h.elim hk7 hk9
     have HK:=zh hk
     have q8:(t.kind==8)=false:=by have:t.kind≠8:=fun e=>hk (.inl e);simp[this]
     have q7:(t.kind==7)=false:=by have:t.kind≠7:=fun e=>hk (.inr (.inl e));simp[this]
     have q9:(t.kind==9)=false:=by have:t.kind≠9:=fun e=>hk (.inr (.inr e));simp[this]
     clear hk hk7 hk8 hk9
     have HX7:=zh HS6.out.b.box
     have HB7:=zh HS6.out.b.bel
     have HK7:Hid (wo.heap.size≤wo.heap.size∧∀q,q≠w.heap.size→q<wo.heap.size→wo.heap[q]? = wo.heap[q]?):=⟨Nat.le_refl _,fun _ _ _=>rfl⟩
     have HTH:Hid (wo.there (w.heap.size+1) 0 10):=yQ HS6.out.b.res
     have HRD:Hid ((renD n ix t).cs B1 d1 B2 d2=[.int .i64 t.kind,.string (nameN 84 (n:Int)),.int .i64 t.low,.int .i64 t.high,.int .i64 t.max,.slice B1 t.syms.length d1,.slice B2 t.mems.length d2,.int .i64 (t.key),.int .i64 (t.elem),.bool t.open_]):=by
      show _=_
      have hk:=HK.out
      unfold renD
      simp[HNM.out,show t.kind≠8 from fun e=>hk (.inl e),show t.kind≠7 from fun e=>hk (.inr (.inl e)),show t.kind≠9 from fun e=>hk (.inr (.inr e))]
     have HFN:=zh (rn_end HS6.out (nameN_ok' ⟨by omega,by omega⟩) HT.out.syms HT.out.mems (r:=renD n ix t) (by unfold renD;simp[HNM.out]) rfl rfl HK7.out.1 HK7.out.2 HB7.out _ HRD.out)
     go_wp2_with (refine wpList_store_mid rfl 70 (.tmp 6) (.tmp 108) rfl (w.heap.size+1) 0 #[.int .i64 t.kind,.string (nameN 84 (n:Int)),.int .i64 t.low,.int .i64 t.high,.int .i64 t.max,.slice B1 t.syms.length d1,.slice B2 t.mems.length d2,.int .i64 (t.key),.int .i64 (t.elem),.bool t.open_] (by rfl) (by rfl) ?_ ?_ ?_ ?_;(exact HTH.out);(exact ty_info);(exact ty_one (named t (nameN 84 (n:Int))) _ _ _ _))
     obtain ⟨hrange,hoff,hbf⟩:=HFN.out
     have k:=fun j v hv=>hrange j v hv
     simp only[Nat.zero_add] at k
     have k0:=k 0 _ rfl
     have k1:=k 1 _ rfl
     have k2:=k 2 _ rfl
     have k3:=k 3 _ rfl
     have k4:=k 4 _ rfl
     have k5:=k 5 _ rfl
     have k6:=k 6 _ rfl
     have k7:=k 7 _ rfl
     have k8:=k 8 _ rfl
     have k9:=k 9 _ rfl
     have HFO:=zh hoff
     have HFB:=zh hbf
     clear k hrange hoff hbf HFN
     exact bodyPost_ret (v := .agg #[.int .i64 t.kind,.string (nameN 84 (n:Int)),.int .i64 t.low,.int .i64 t.high,.int .i64 t.max,.slice B1 t.syms.length d1,.slice B2 t.mems.length d2,.int .i64 (t.key),.int .i64 (t.elem),.bool t.open_]) (by simp[results,Tryz.results47,go_sem,k0,k1,k2,k3,k4,k5,k6,k7,k8,k9]) rfl ⟨B1,d1,B2,d2,congrArg (fun l=>Ending.returned (.agg l.toArray)) HRD.out.symm,HFO.out,HFB.out⟩
theorem renamed_any (t:TyD) (n:Nat) (hn:n≤1000) (p q:Nat) (ix:Int→Int) (As:Option Addr) (cs:Nat) (Am:Option Addr) (cm:Nat) (w:World) (ht:TyR w t As Am) (hids:∀s∈t.syms,In64 s.id) (hidm:∀m∈t.mems,In64 m.id) (hix:IxOk p q ix (usesD t) w) (htab:Tab w) :
  Calls Tryz.prog 47 #[t.v As cs Am cm,.int .i64 n,.func (.func 48) #[] #[.pointer (some ⟨p,0,none⟩),.pointer (some ⟨q,0,none⟩)]] w (RenPost (renD n ix t) w):=by
 by_cases h:t.name=⟨#[]⟩
 ·exact renamed_e t h n hn p q ix As cs Am cm w ht hids hidm hix htab
 ·exact renamed_n t h n hn p q ix As cs Am cm w ht hids hidm hix htab
end Go.Proofs.YtkhpajneinmmiaaGreatDoor


