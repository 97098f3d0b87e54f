/-
  Walks: written, Type.
-/
import Derived.Test.YtdfolgmcggdjdaaGreatDoorQYW6
import Derived.Test.YtdfolgmcggdjdaaGreatDoorQYW4
import Derived.Test.YtdfolgmcggdjdaaGreatDoorQRV5
namespace Go.Proofs.YtdfolgmcggdjdaaGreatDoor
open Go.RowKit
set_option maxHeartbeats 16000000
set_option maxRecDepth 100000
theorem mkC (t e:TypeId) (z:Value) (i:TypeInfo) (ht:Tryz.prog.underlying t=some (.slice e)) (hi:Tryz.prog.info? e=some i) (hz:i.zero=some z) (hzc:z.cells = #[z]) (hsz:i.size=1) (hby:i.bytes≤100) (n:Nat) (hn:n≤1000) (w:World) :
  (Instr.makeSlice t (.int .i64 (n:Int)) (.int .i64 (n:Int))).run Tryz.prog w = .ok (.slice (some ⟨w.heap.size,0,none⟩) n n) (w.alloc (.cells (List.replicate n z).toArray e)):=by
 have hb':(i.bytes:Int) * (n:Int)≤281474976710656:=by
  have:i.bytes * n≤100 * 1000:=Nat.mul_le_mul hby hn
  have h2:((i.bytes * n:Nat):Int)≤100000:=by omega
  rw[Int.natCast_mul] at h2
  omega
 have hr:=run_make (P:=Tryz.prog) w t e i z ht hi hz .i64 .i64 n n (by omega) (Int.le_refl _) hb' (by omega)
 simp only[Int.toNat_natCast,hsz,Nat.mul_one,hzc] at hr
 rw[hr]
 have:madeCells #[z] n=(List.replicate n z).toArray:=by
  apply Array.ext'
  rw[toList_madeCells_one]
 simp only[this]
theorem mkB (n:Nat) (hn:n≤1000) (w:World) :
  (Instr.makeSlice 131 (.int .i64 (n:Int)) (.int .i64 (n:Int))).run Tryz.prog w = .ok (.slice (some ⟨w.heap.size,0,none⟩) n n) (w.alloc (.cells (List.replicate n (.bool false)).toArray 4)):=by
 obtain ⟨i,hi,h1,h2,h3⟩:=info_parts (show (Tryz.prog.info? 4).map (fun i=>(i.zero,i.size,i.bytes))=some (some (.bool false),1,1) by kernel_rfl)
 exact mkC _ _ _ i Tryz.underlying131 hi h1 rfl h2 (by omega) n hn w
abbrev rowF (n:Nat):Obj := .cells (List.replicate n (.bool false)).toArray 4
abbrev wkb (A:Option Addr) (n c go gd:Nat):Obj := .cells #[.slice A n c,.slice (some ⟨go,0,none⟩) n n,.slice (some ⟨gd,0,none⟩) n n,.bool false,.bool false] 133
theorem wk_start {W:World} {z:Nat} (hz:W.heap.size=z) (A:Option Addr) (n c:Nat) (sw:Bool) :
  WkAt A n c (z+2) (if sw then z+1 else z) (if sw then z else z+1) (yA n) (((W.alloc (rowF n)).alloc (rowF n)).alloc (wkb A n c (if sw then z+1 else z) (if sw then z else z+1))):=by
 subst hz
 generalize hO:wkb A n c (if sw then W.heap.size+1 else W.heap.size) (if sw then W.heap.size else W.heap.size+1)=O
 have e1:=tmp_al (tmp_al (heap_alloc_new W (rowF n)) (rowF n)) O
 have e2:(((W.alloc (rowF n)).alloc (rowF n)).alloc O).heap[W.heap.size+1]? = some (rowF n):=by
  refine tmp_al ?_ _
  have:=heap_alloc_new (W.alloc (rowF n)) (rowF n)
  rw[show (W.alloc (rowF n)).heap.size=W.heap.size+1 by simp] at this
  exact this
 have e3:(((W.alloc (rowF n)).alloc (rowF n)).alloc O).heap[W.heap.size+2]? = some O:=by
  have:=heap_alloc_new ((W.alloc (rowF n)).alloc (rowF n)) O
  rw[show ((W.alloc (rowF n)).alloc (rowF n)).heap.size=W.heap.size+2 by simp] at this
  exact this
 have er:(rowF n) = .cells ((yA n).opn.map Value.bool).toArray 4:=by simp[yA]
 subst hO
 cases sw with
 | true=>exact ⟨e3,by rw[←er];exact e2,by rw[show (yA n).don=(yA n).opn from rfl,←er];exact e1,by simp,by simp,by simp⟩
 | false=>exact ⟨e3,by rw[←er];exact e1,by rw[show (yA n).don=(yA n).opn from rfl,←er];exact e2,by simp,by simp,by simp⟩
theorem written_any (s:List TyD) (A:Option Addr) (c:Nat) (hv:zG s=0) (l:List Int) (A2:Option Addr) (c2:Nat) (hl:∀u∈l,0≤u∧u<(s.length:Int)) (w:World) (hs:TysR w A s) (hi:IntsR w A2 l) :
  Calls Tryz.prog 52 #[.agg #[.slice A s.length c],.slice A2 l.length c2] w fun e w'=>e = .returned (.int .i64 (writtenD s l))∧Below w.heap.size w w':=by
 have hls:=yD hv
 have hll:=hi.1.lt (by omega)
 have HS:=zh hs
 have HI:=zh hi
 have HV:=zh hv
 have HLR:=zh hl
 have HB0:=zh (zD w (.cells #[.slice A s.length c] 27))
 have HX0:=zh (heap_alloc_new w (.cells #[.slice A s.length c] 27))
 have hz0:w.heap.size<(w.alloc (.cells #[.slice A s.length c] 27)).heap.size:=by simp
 clear hs hi hv hl
 have hmk:=mkB s.length (by omega)
 go_enter Tryz.func52,Tryz.ntmps52
 go_upto_region 1 with fail
 generalize w.alloc (.cells #[.slice A s.length c] 27)=W1 at *
 have HC1:Hid (W1.cell? ⟨w.heap.size,0,none⟩=some (.slice A s.length c)):=zh (by rw[cell_of_row _ _ _ _ _ _ HX0.out];rfl)
 go_cut [5] (fun s5 wx=>∃p go gd:Nat,s5 = .pointer (some ⟨p,0,none⟩)∧Hid (WkAt A s.length c p go gd (yA s.length) wx∧Below w.heap.size w wx∧(w.heap.size≤p∧w.heap.size≤go∧w.heap.size≤gd)))
 case first =>
  refine wp_region_held_drew (S:=(fun w'=>(w'.cell? ⟨w.heap.size,0,none⟩=some (.slice A s.length c))∧Hid (Below W1.heap.size W1 w'))) (by kernel_rfl) ?_ (fun zH_=>?_)
  ·(try dsimp only);exact ⟨HC1.out,zE (Below.refl _ _) 1⟩
  refine tL 0 _ zH_ ?_
  try simp only[ps]
  refine tL 1 _ zH_ ?_
  try simp only[ps]
  refine tL 2 _ zH_ ?_
  try simp only[ps]
  refine tL 3 _ zH_ ?_
  try simp only[ps]
  refine tL 5 _ zH_ ?_
  try simp only[ps]
  refine tL 6 _ zH_ ?_
  try simp only[ps]
  refine tL 7 _ zH_ ?_
  try simp only[ps]
  refine wpAnyH_ready (rs:=[4,8]) (by kernel_rfl) (by simp) ?_
  refine (AllReadyH.cons rfl (fun K hK=>?_) (AllReadyH.cons rfl (fun K hK=>?_) AllReadyH.nil))
  ·
   go_simp
   refine hK.out _ _ ?_ (fun zH_=>?_)
   ·(try dsimp only);exact ⟨zB (zD _ _) zH_.1,zA zH_.2.out (zD _ _)⟩
   clear hK K
   try simp only[ps]
   refine tR 8 (fun K hK=>?_)
   go_simp
   refine hK.out _ _ ?_ (fun zH_=>?_)
   ·(try dsimp only);exact ⟨zB (zD _ _) zH_.1,zA zH_.2.out (zD _ _)⟩
   clear hK K
   try simp only[ps]
   refine tL 9 _ zH_ ?_
   try simp only[ps]
   refine tR 10 (fun K hK=>?_)
   go_simp
   refine hK.out _ _ ?_ (fun zH_=>?_)
   ·(try dsimp only);exact ⟨zB (zD _ _) zH_.1,zA zH_.2.out (zD _ _)⟩
   clear hK K
   try simp only[ps]
   refine tL 11 _ zH_ ?_
   try simp only[ps]
   refine wpAnyH_done (by kernel_rfl) ?_ _
   (have HBE:=zh (zA HB0.out zH_.2.out);have HWS:=zh (wk_start (W:=W1.drewN 1) (z:=W1.heap.size) rfl A s.length c false);clear zH_;go_wp2;go_meet;exact ⟨W1.heap.size+2,W1.heap.size,W1.heap.size+1,rfl,HWS.out,HBE.out,by omega⟩)
  ·
   go_simp
   refine hK.out _ _ ?_ (fun zH_=>?_)
   ·(try dsimp only);exact ⟨zB (zD _ _) zH_.1,zA zH_.2.out (zD _ _)⟩
   clear hK K
   try simp only[ps]
   refine tR 4 (fun K hK=>?_)
   go_simp
   refine hK.out _ _ ?_ (fun zH_=>?_)
   ·(try dsimp only);exact ⟨zB (zD _ _) zH_.1,zA zH_.2.out (zD _ _)⟩
   clear hK K
   try simp only[ps]
   refine tL 9 _ zH_ ?_
   try simp only[ps]
   refine tR 10 (fun K hK=>?_)
   go_simp
   refine hK.out _ _ ?_ (fun zH_=>?_)
   ·(try dsimp only);exact ⟨zB (zD _ _) zH_.1,zA zH_.2.out (zD _ _)⟩
   clear hK K
   try simp only[ps]
   refine tL 11 _ zH_ ?_
   try simp only[ps]
   refine wpAnyH_done (by kernel_rfl) ?_ _
   (have HBE:=zh (zA HB0.out zH_.2.out);have HWS:=zh (wk_start (W:=W1.drewN 1) (z:=W1.heap.size) rfl A s.length c true);clear zH_;go_wp2;go_meet;exact ⟨W1.heap.size+2,W1.heap.size+1,W1.heap.size,rfl,HWS.out,HBE.out,by omega⟩)
 case rest =>
 obtain ⟨p,go,gd,rfl,hcc⟩:=hcut
 have HW:=zh hcc.out.1
 have HB:=zh hcc.out.2.1
 have HP:=zh hcc.out.2.2
 clear hcc hmk HC1
 go_wp2_with fail
 have HVS:Hid (VL s.length (yA s.length)):=⟨by simp[yA],by simp[yA]⟩
 obtain ⟨wS,hwS⟩:∃wS:World,wS=wc:=⟨_,rfl⟩
 rw[←hwS] at HW HB
 go_loopw [21] (fun j wr=>∃k:Nat,k≤l.length∧j = .int .i64 (k:Int)∧Hid (WkAt A s.length c p go gd ((l.take k).foldl (zQ s (s.length+1)) (yA s.length)) wr∧WkB p go gd wS wr)) (fun j _=>l.length - (intOf j).toNat)
 case atStart=>exact ⟨0,by omega,rfl,by subst hwS;exact HW.out,by subst hwS;exact WkB.refl _ _ _ _⟩
 case round =>
  obtain ⟨k,hk,rfl,hh⟩:=hrel
  obtain ⟨wk,rfl⟩:∃wk:World,wk=wr:=⟨_,rfl⟩
  have HWK:=zh hh.out.1
  have HBK:=zh (hh.out.2.below HB.out HP.out)
  have HBW:=zh hh.out.2
  clear hh
  by_cases hlt:k<l.length
  ·obtain ⟨bi,oi,rfl,ci⟩:=(HI.out.below HBK.out).at1 hlt
   have g1:(0:Int)≤(k:Int):=by omega
   have g2:(k:Int)<(l.length:Int):=by omega
   have HUR:=zh (HLR.out _ (List.getElem_mem hlt))
   have HVK:=zh (visits_keep s s.length (s.length+1) (l.take k) (yA s.length) HVS.out)
   have HNX:Hid ((l.take (k+1)).foldl (zQ s (s.length+1)) (yA s.length)=zQ s (s.length+1) ((l.take k).foldl (zQ s (s.length+1)) (yA s.length)) l[k]):=by
    show _=_
    rw[List.take_succ_eq_append_getElem hlt,List.foldl_append];rfl
   generalize l[k]=u at *
   go_wp2_with fail
   refine (visit_any s A c HV.out w HS.out p go gd HP.out (s.length+1) u _ wk HUR.out HVK.out.1 (by have:=HVK.out.2;have:=cntF_rep s.length;show _<_;simp only[yA] at *;omega) HWK.out HBK.out).mono ?_
   rintro e w4 ⟨rfl,hw4,hb4⟩
   have HW4:=zh hw4
   have HB4:=zh (HBW.out.trans hb4)
   clear hw4 hb4
   go_wp2
   go_roundw
   case rel=>exact ⟨k+1,by omega,by go_num,by rw[HNX.out];exact HW4.out,HB4.out⟩
   case measure=>simp[intOf];omega
  ·obtain rfl:k=l.length:=by omega
   have HWF:Hid (WkAt A s.length c p go gd (l.foldl (zQ s (s.length+1)) (yA s.length)) wk):=by have:=HWK.out;rwa [List.take_length] at this
   have HWD:Hid (writtenD s l=if (l.foldl (zQ s (s.length+1)) (yA s.length)).word then 1 else if (l.foldl (zQ s (s.length+1)) (yA s.length)).loop then 9 else 0):=rfl
   generalize l.foldl (zQ s (s.length+1)) (yA s.length)=V at *
   obtain ⟨p0,p1,p2,p3,p4⟩:=HWF.out.cells
   cases hw:V.word with
   | true =>
    rw[hw] at p3 HWD
    go_wp2
    go_ret
    exact ⟨by rw[HWD.out];rfl,HBK.out⟩
   | false =>
    rw[hw] at p3 HWD
    cases hlo:V.loop with
    | true =>
     rw[hlo] at p4 HWD
     go_wp2
     go_ret
     exact ⟨by rw[HWD.out];rfl,HBK.out⟩
    | false =>
     rw[hlo] at p4 HWD
     go_wp2
     go_ret
     exact ⟨by rw[HWD.out];rfl,HBK.out⟩
end Go.Proofs.YtdfolgmcggdjdaaGreatDoor


