/-
  Walks: checked; the text of a member.
-/
import Derived.Test.YtdfolgmcggdjdaaGreatDoorQYW6
import Derived.Test.YtdfolgmcggdjdaaGreatDoorQGA5
import Derived.Test.YtdfolgmcggdjdaaGreatDoorQRV5
import Derived.Test.YtdfolgmcggdjdaaGreatDoorShelfB
namespace Go.Proofs.YtdfolgmcggdjdaaGreatDoor
open Go.RowKit
set_option maxHeartbeats 16000000
set_option maxRecDepth 100000
theorem mkC (t e:TypeId) (z:Value) (i:TypeInfo) (ht:Tryz.prog.underlying t=some (.slice e)) (hi:Tryz.prog.info? e=some i) (hz:i.zero=some z) (hzc:z.cells = #[z]) (hsz:i.size=1) (hby:i.bytes≤100) (n:Nat) (hn:n≤1000) (w:World) :
  (Instr.makeSlice t (.int .i64 (n:Int)) (.int .i64 (n:Int))).run Tryz.prog w = .ok (.slice (some ⟨w.heap.size,0,none⟩) n n) (w.alloc (.cells (List.replicate n z).toArray e)):=by
 have hb':(i.bytes:Int) * (n:Int)≤281474976710656:=by
  have:i.bytes * n≤100 * 1000:=Nat.mul_le_mul hby hn;have h2:((i.bytes * n:Nat):Int)≤100000:=by omega
  rw[Int.natCast_mul] at h2
  omega
 have hr:=run_make (P:=Tryz.prog) w t e i z ht hi hz .i64 .i64 n n (by omega) (Int.le_refl _) hb' (by omega)
 simp only[Int.toNat_natCast,hsz,Nat.mul_one,hzc] at hr;rw[hr];have:madeCells #[z] n=(List.replicate n z).toArray:=by
  apply Array.ext'
  rw[toList_madeCells_one]
 simp only[this]
theorem mkB (n:Nat) (hn:n≤1000) (w:World) :
  (Instr.makeSlice 131 (.int .i64 (n:Int)) (.int .i64 (n:Int))).run Tryz.prog w = .ok (.slice (some ⟨w.heap.size,0,none⟩) n n) (w.alloc (.cells (List.replicate n (.bool false)).toArray 4)):=by
 obtain ⟨i,hi,h1,h2,h3⟩:=info_parts (show (Tryz.prog.info? 4).map (fun i=>(i.zero,i.size,i.bytes))=some (some (.bool false),1,1) by kernel_rfl)
 exact mkC _ _ _ i Tryz.underlying131 hi h1 rfl h2 (by omega) n hn w
abbrev rowF (n:Nat):Obj := .cells (List.replicate n (.bool false)).toArray 4
abbrev wkb (A:zo) (n c go gd:Nat):Obj := .cells #[.slice A n c,.slice (some ⟨go,0,none⟩) n n,.slice (some ⟨gd,0,none⟩) n n,.bool false,.bool false] 133
theorem wk_start {W:World} {z:Nat} (hz:W.heap.size=z) (A:zo) (n c:Nat) (sw:Bool) :
  WkAt A n c (z+2) (if sw then z+1 else z) (if sw then z else z+1) (yH n) (((W.alloc (rowF n)).alloc (rowF n)).alloc (wkb A n c (if sw then z+1 else z) (if sw then z else z+1))):=by
 subst hz;generalize hO:wkb A n c (if sw then W.heap.size+1 else W.heap.size) (if sw then W.heap.size else W.heap.size+1)=O
 have e1:=tmp_al (tmp_al (heap_alloc_new W (rowF n)) (rowF n)) O;have e2:(((W.alloc (rowF n)).alloc (rowF n)).alloc O).heap[W.heap.size+1]? = some (rowF n):=by
  refine tmp_al ?_ _;have:=heap_alloc_new (W.alloc (rowF n)) (rowF n);rw[show (W.alloc (rowF n)).heap.size=W.heap.size+1 by simp] at this
  exact this
 have e3:(((W.alloc (rowF n)).alloc (rowF n)).alloc O).heap[W.heap.size+2]? = some O:=by
  have:=heap_alloc_new ((W.alloc (rowF n)).alloc (rowF n)) O;rw[show ((W.alloc (rowF n)).alloc (rowF n)).heap.size=W.heap.size+2 by simp] at this
  exact this
 have er:(rowF n) = .cells ((yH n).opn.map Value.bool).toArray 4:=by simp[yH]
 subst hO
 cases sw with
 | true=>exact ⟨e3,by rw[←er];exact e2,by rw[show (yH n).don=(yH n).opn from rfl,←er];exact e1,by simp,by simp,by simp⟩
 | false=>exact ⟨e3,by rw[←er];exact e1,by rw[show (yH n).don=(yH n).opn from rfl,←er];exact e2,by simp,by simp,by simp⟩
theorem written_any (s:List TyD) (A:zo) (c:Nat) (hv:zJ s=0) (l:List Int) (A2:zo) (c2:Nat) (hl:∀u∈l,0≤u∧u<(s.length:Int)) (w:World) (hs:TysR w A s) (hi:IntsR w A2 l) :
  Calls Tryz.prog 52 #[.agg #[.slice A s.length c],.slice A2 l.length c2] w fun e w'=>e = .returned (.int .i64 (writtenD s l))∧Below w.heap.size w w':=by
 have hls:=zZ hv;have hll:=hi.1.lt (by omega)
 have HS:=zh hs;have HI:=zh hi;have HV:=zh hv;have HLR:=zh hl;have HB0:=zh (zD w (.cells #[.slice A s.length c] 27));have HX0:=zh (heap_alloc_new w (.cells #[.slice A s.length c] 27));have hz0:w.heap.size<(w.alloc (.cells #[.slice A s.length c] 27)).heap.size:=by simp
 clear hs hi hv hl;have hmk:=mkB s.length (by omega)
 go_enter Tryz.func52,Tryz.ntmps52
 go_upto_region 1 with fail
 generalize w.alloc (.cells #[.slice A s.length c] 27)=W1 at *;have HC1:Hid (W1.cell? ⟨w.heap.size,0,none⟩=some (.slice A s.length c)):=zh (by rw[cell_of_row _ _ _ _ _ _ HX0.out];rfl)
 go_cut [5] (fun s5 wx=>∃p go gd:Nat,s5 = .pointer (some ⟨p,0,none⟩)∧Hid (WkAt A s.length c p go gd (yH s.length) wx∧Below w.heap.size w wx∧(w.heap.size≤p∧w.heap.size≤go∧w.heap.size≤gd)))
 case first =>
  refine wp_region_held_drew (S:=(fun w'=>(w'.cell? ⟨w.heap.size,0,none⟩=some (.slice A s.length c))∧Hid (Below W1.heap.size W1 w'))) (by kernel_rfl) ?_ (fun zH_=>?_)
  ·(try dsimp only);exact ⟨HC1.out,zC (Below.refl _ _) 1⟩
  refine tL 0 ?_;refine tL 1 ?_;refine tL 2 ?_;refine tL 3 ?_;refine tL 5 ?_;refine tL 6 ?_;try simp only[ps]
  refine tL 7 ?_;refine wpAnyH_ready (rs:=[4,8]) (by kernel_rfl) (by simp) ?_
  refine (AllReadyH.cons rfl (fun K hK=>?_) (AllReadyH.cons rfl (fun K hK=>?_) AllReadyH.nil))
  ·
   go_simp
   refine hK.out _ _ ?_ (fun zH_=>?_)
   ·(try dsimp only);exact ⟨zA (zD _ _) zH_.1,zB zH_.2.out (zD _ _)⟩
   clear hK K;refine tR 8 (fun K hK=>?_)
   go_simp
   refine hK.out _ _ ?_ (fun zH_=>?_)
   ·(try dsimp only);exact ⟨zA (zD _ _) zH_.1,zB zH_.2.out (zD _ _)⟩
   clear hK K;refine tL 9 ?_;refine tR 10 (fun K hK=>?_)
   go_simp
   refine hK.out _ _ ?_ (fun zH_=>?_)
   ·(try dsimp only);exact ⟨zA (zD _ _) zH_.1,zB zH_.2.out (zD _ _)⟩
   clear hK K;refine tL 11 ?_;try simp only[ps]
   refine wpAnyH_done (by kernel_rfl) ?_ _
   (have HBE:=zh (zB HB0.out zH_.2.out);have HWS:=zh (wk_start (W:=W1.drewN 1) (z:=W1.heap.size) rfl A s.length c false);clear zH_;go_wp2;go_meet;exact ⟨W1.heap.size+2,W1.heap.size,W1.heap.size+1,rfl,HWS.out,HBE.out,by omega⟩)
  ·
   go_simp
   refine hK.out _ _ ?_ (fun zH_=>?_)
   ·(try dsimp only);exact ⟨zA (zD _ _) zH_.1,zB zH_.2.out (zD _ _)⟩
   clear hK K;refine tR 4 (fun K hK=>?_)
   go_simp
   refine hK.out _ _ ?_ (fun zH_=>?_)
   ·(try dsimp only);exact ⟨zA (zD _ _) zH_.1,zB zH_.2.out (zD _ _)⟩
   clear hK K;refine tL 9 ?_;refine tR 10 (fun K hK=>?_)
   go_simp
   refine hK.out _ _ ?_ (fun zH_=>?_)
   ·(try dsimp only);exact ⟨zA (zD _ _) zH_.1,zB zH_.2.out (zD _ _)⟩
   clear hK K;refine tL 11 ?_;refine wpAnyH_done (by kernel_rfl) ?_ _
   (have HBE:=zh (zB HB0.out zH_.2.out);have HWS:=zh (wk_start (W:=W1.drewN 1) (z:=W1.heap.size) rfl A s.length c true);clear zH_;go_wp2;go_meet;exact ⟨W1.heap.size+2,W1.heap.size+1,W1.heap.size,rfl,HWS.out,HBE.out,by omega⟩)
 case rest =>
 obtain ⟨p,go,gd,rfl,hcc⟩:=hcut;have HW:=zh hcc.out.1;have HB:=zh hcc.out.2.1;have HP:=zh hcc.out.2.2;clear hcc hmk HC1;go_wp2_with fail;have HVS:Hid (VL s.length (yH s.length)):=⟨by simp[yH],by simp[yH]⟩
 obtain ⟨wS,hwS⟩:∃wS:World,wS=wc:=⟨_,rfl⟩;rw[←hwS] at HW HB
 go_loopw [21] (fun j wr=>∃k:Nat,k≤l.length∧j = .int .i64 (k:Int)∧Hid (WkAt A s.length c p go gd ((l.take k).foldl (zU s (s.length+1)) (yH s.length)) wr∧WkB p go gd wS wr)) (fun j _=>l.length - (intOf j).toNat)
 case atStart=>exact ⟨0,by omega,rfl,by subst hwS;exact HW.out,by subst hwS;exact WkB.refl _ _ _ _⟩
 case round =>
  obtain ⟨k,hk,rfl,hh⟩:=hrel;obtain ⟨wk,rfl⟩:∃wk:World,wk=wr:=⟨_,rfl⟩;have HWK:=zh hh.out.1;have HBK:=zh (hh.out.2.below HB.out HP.out);have HBW:=zh hh.out.2;clear hh
  by_cases hlt:k<l.length
  ·obtain ⟨bi,oi,rfl,ci⟩:=(HI.out.below HBK.out).at1 hlt
   have g1:(0:Int)≤(k:Int):=by omega
   have g2:(k:Int)<(l.length:Int):=by omega
   have HUR:=zh (HLR.out _ (List.getElem_mem hlt));have HVK:=zh (visits_keep s s.length (s.length+1) (l.take k) (yH s.length) HVS.out);have HNX:Hid ((l.take (k+1)).foldl (zU s (s.length+1)) (yH s.length)=zU s (s.length+1) ((l.take k).foldl (zU s (s.length+1)) (yH s.length)) l[k]):=by
    show _=_
    rw[List.take_succ_eq_append_getElem hlt,List.foldl_append];rfl
   generalize l[k]=u at *;go_wp2_with fail;refine (visit_any s A c HV.out w HS.out p go gd HP.out (s.length+1) u _ wk HUR.out HVK.out.1 (by have:=HVK.out.2;have:=cntF_rep s.length;show _<_;simp only[yH] at *;omega) HWK.out HBK.out).mono ?_
   rintro e w4 ⟨rfl,hw4,hb4⟩;have HW4:=zh hw4;have HB4:=zh (HBW.out.trans hb4);clear hw4 hb4;go_wp2;go_roundw
   case rel=>exact ⟨k+1,by omega,by go_num,by rw[HNX.out];exact HW4.out,HB4.out⟩
   case measure=>simp[intOf];omega
  ·obtain rfl:k=l.length:=by omega
   have HWF:Hid (WkAt A s.length c p go gd (l.foldl (zU s (s.length+1)) (yH s.length)) wk):=by have:=HWK.out;rwa [List.take_length] at this
   have HWD:Hid (writtenD s l=if (l.foldl (zU s (s.length+1)) (yH s.length)).word then 1 else if (l.foldl (zU s (s.length+1)) (yH s.length)).loop then 9 else 0):=rfl
   generalize l.foldl (zU s (s.length+1)) (yH s.length)=V at *;obtain ⟨p0,p1,p2,p3,p4⟩:=HWF.out.cells
   cases hw:V.word with
   | true =>
    rw[hw] at p3 HWD;go_wp2;go_ret;exact ⟨by rw[HWD.out];rfl,HBK.out⟩
   | false =>
    rw[hw] at p3 HWD
    cases hlo:V.loop with
    | true =>
     rw[hlo] at p4 HWD;go_wp2;go_ret;exact ⟨by rw[HWD.out];rfl,HBK.out⟩
    | false =>
     rw[hlo] at p4 HWD;go_wp2;go_ret;exact ⟨by rw[HWD.out];rfl,HBK.out⟩
def TypePost (s:List TyD) (t:Int) (w:World) (e:Ending) (w':World):Prop:=∃x err,e = .returned (.tuple #[.string x,.int .i64 err])∧TypeIs s t x err∧Below w.heap.size w w'
theorem type_bad {s:List TyD} {t:Int} (h:zJ s≠0):TypeIs s t ⟨#[]⟩ (zJ s):=by
 unfold TypeIs;rw[if_pos h];exact ⟨rfl,rfl⟩
theorem type_out {s:List TyD} {t:Int} (h:zJ s=0) (ht:t<0∨(s.length:Int)≤t):TypeIs s t ⟨#[]⟩ 4:=by
 unfold TypeIs;rw[if_neg (by simp[h]),if_pos ht];exact ⟨rfl,rfl⟩
theorem type_err {s:List TyD} {t:Int} (h:zJ s=0) (ht:0≤t∧t<(s.length:Int)) (he:refErr s t≠0):TypeIs s t ⟨#[]⟩ (refErr s t):=by
 unfold TypeIs;rw[if_neg (by simp[h]),if_neg (by omega)];exact ⟨rfl,by rw[if_neg he]⟩
theorem type_ok {s:List TyD} {t:Int} (h:zJ s=0) (ht:0≤t∧t<(s.length:Int)) (he:refErr s t=0):TypeIs s t (useD s (s.length+1) [] t).1 0:=by
 unfold TypeIs;rw[if_neg (by simp[h]),if_neg (by omega)];exact ⟨he.symm,by rw[if_pos he]⟩
theorem type_any (s:List TyD) (t:Int) (A:zo) (c:Nat) (hn:Num64 s) (w:World) (hs:TysR w A s) (htab:Tab w) :
  Calls Tryz.prog 19 #[.agg #[.slice A s.length c],.int .i64 t] w (TypePost s t w):=by
 have hln:=hs.1.lt (by omega)
 have HS:=zh hs;have HN:=zh hn;have HTB:=zh htab;have HB0:=zh (zD w (.cells #[.slice A s.length c] 27));have HX0:=zh (heap_alloc_new w (.cells #[.slice A s.length c] 27));clear hs hn htab
 go_enter Tryz.func19,Tryz.ntmps19
 go_wp2_with fail
 generalize w.alloc (.cells #[.slice A s.length c] 27)=W1 at *;refine (valid_any s A c W1 (HS.out.below HB0.out)).mono ?_;rintro e w1 ⟨rfl,hb1⟩;have HB1:=zh (zB HB0.out hb1);have HX1:=zh ((hb1.block _ (zg.1 HX0.out).1).trans HX0.out);have x0:=zb HX1.out;clear hb1
 by_cases hv:zJ s=0
 case neg =>
  have q1:(zJ s != 0)=true:=by simp[hv]
  have HT:=zh (type_bad (t:=t) hv);clear hv;go_wp2;go_ret2;exact ⟨_,_,rfl,HT.out,HB1.out⟩
 have HV:=zh hv;rw[hv];clear hv
 by_cases hlo:t<0
 ·have HT:=zh (type_out HV.out (t:=t) (.inl hlo))
  go_wp2
  go_ret2
  exact ⟨_,_,rfl,HT.out,HB1.out⟩
 by_cases hhi:(s.length:Int)≤t
 ·have HT:=zh (type_out HV.out (t:=t) (.inr hhi))
  go_wp2
  go_ret2
  exact ⟨_,_,rfl,HT.out,HB1.out⟩
 have HR:Hid (0≤t∧t<(s.length:Int)):=⟨by omega,by omega⟩
 have hls:=zZ HV.out;have HWR:=zh (written_one HV.out HR.out);go_wp2_with fail;refine (written_any s A c HV.out [t] (some ⟨w1.heap.size,0,none⟩) 1 (fun u hu=>(List.mem_singleton.1 hu)▸HR.out) _ (HS.out.below (zB HB1.out (zD _ _))) (ints_newX w1 [t] (by simp))).mono ?_
 rintro e w2 ⟨rfl,hb2⟩;rw[HWR.out];have HB2:=zh (zB HB1.out (zB (zD _ _) hb2));have HX2:=zh ((hb2.block _ (by have:=(zg.1 HX1.out).1;simp;omega)).trans (tmp_al HX1.out _))
 clear x0 hb2;have x0:=zb HX2.out
 by_cases he:refErr s t=0
 case neg =>
  have q1:(refErr s t != 0)=true:=by simp[he]
  have HT:=zh (type_err HV.out HR.out he);clear he;go_wp2;go_ret2;exact ⟨_,_,rfl,HT.out,HB2.out⟩
 have HT:=zh (type_ok HV.out HR.out he);have HTX:=zh (text_one HV.out HR.out he);rw[he];clear he;go_wp2_with fail;refine (text_any s A c HV.out HN.out (s.length+1) t _ HR.out HTX.out.1 (by omega) (HS.out.below HB2.out) (HTB.out.below HB2.out)).mono ?_
 rintro e w3 ⟨rfl,hb3⟩;rw[HTX.out.2];have HB3:=zh (zB HB2.out hb3);clear hb3;go_wp2;go_ret2;exact ⟨_,_,rfl,HT.out,HB3.out⟩
def NoDef (s:List TyD):Prop:=∀t∈s,∀m∈t.mems,m.hasDef=false
theorem defaults_any (s:List TyD) (A:zo) (c:Nat) (hd:NoDef s) (w:World) (hs:TysR w A s) :
  Calls Tryz.prog 58 #[.agg #[.slice A s.length c]] w fun e w'=>e = .returned (.tuple #[.int .i64 0,.int .i64 0,.int .i64 (zJ s)])∧Below w.heap.size w w':=by
 have hln:=hs.1.lt (by omega)
 have HS:=zh hs;have HD:=zh hd;have HB0:=zh (zD w (.cells #[.slice A s.length c] 27));have HX0:=zh (heap_alloc_new w (.cells #[.slice A s.length c] 27));clear hs hd
 go_enter Tryz.func58,Tryz.ntmps58
 go_wp2_with fail
 generalize w.alloc (.cells #[.slice A s.length c] 27)=W1 at *;refine (valid_any s A c W1 (HS.out.below HB0.out)).mono ?_;rintro e w1 ⟨rfl,hb1⟩;have HB1:=zh (zB HB0.out hb1);have HX1:=zh ((hb1.block _ (zg.1 HX0.out).1).trans HX0.out);have x0:=zb HX1.out;clear hb1
 by_cases hv:zJ s=0
 case neg =>
  have q1:(zJ s != 0)=true:=by simp[hv]
  clear hv;go_wp2;refine bodyPost_ret (v := .tuple #[.int .i64 0,.int .i64 0,.int .i64 (zJ s)]) (by simp[results,Tryz.results58,go_sem]) rfl ⟨rfl,HB1.out⟩
 have HV:=zh hv;rw[hv];clear hv;go_wp2_with fail
 go_loopw [18] (fun i wr=>∃k:Nat,k≤s.length∧i = .int .i64 (k:Int)∧Hid (Below w.heap.size w wr)) (fun i _=>s.length - (intOf i).toNat)
 case atStart=>exact ⟨0,by omega,rfl,HB1.out⟩
 case round =>
  obtain ⟨k,hk,rfl,hh⟩:=hrel;obtain ⟨wk,rfl⟩:∃wk:World,wk=wr:=⟨_,rfl⟩
  by_cases hlt:k<s.length
  ·obtain ⟨b,o,As,cs,Am,cm,rfl,htr,t0,t1,t2,t3,t4,t5,t6,t7,t8,t9⟩:=(HS.out.below hh.out).at10 hlt
   have HTR:=zh htr;have h1:(0:Int)≤(k:Int):=by omega
   have h2:(k:Int)<(s.length:Int):=by omega
   have HDM:=zh (HD.out _ (List.getElem_mem hlt));generalize s[k]=x at *;have hml:=htr.mems.1.lt (by omega)
   clear htr;have HBX:=zh (zB hh.out (zD wk (x.box As cs Am cm)));have HXX:=zh (heap_alloc_new wk (x.box As cs Am cm));have HTX:=zh (HTR.out.below (zD wk (x.box As cs Am cm)));go_upto_region 7 with fail
   clear t0 t1 t2 t3 t4 t5 t6 t7 t8 t9;generalize wk.alloc (x.box As cs Am cm)=W2 at *;have m6:W2.cell? ⟨wk.heap.size,6,none⟩=some (.slice Am x.mems.length cm):=by rw[cell_of_row _ _ _ _ _ _ HXX.out];rfl
   go_wp2_with fail
   go_loopw [26] (fun i wr=>∃m:Nat,m≤x.mems.length∧i = .int .i64 (m:Int)∧Hid (Below W2.heap.size W2 wr)) (fun i _=>x.mems.length - (intOf i).toNat)
   case atStart=>exact ⟨0,by omega,rfl,Below.refl _ _⟩
   case round =>
    obtain ⟨m,hm,rfl,hh2⟩:=hrel;obtain ⟨wm,rfl⟩:∃wm:World,wm=wr:=⟨_,rfl⟩
    by_cases hlm:m<x.mems.length
    ·obtain ⟨b2,o2,E1,k1,E2,k2,E3,k3,rfl,hmr,d0,d1,d2,d3,d4,d5,d6,d7,d8,d9,d10,d11,d12⟩:=((HTX.out.below hh2.out).mems).at13 hlm
     have hdf:=HDM.out _ (List.getElem_mem hlm);have g1:(0:Int)≤(m:Int):=by omega
     have g2:(m:Int)<(x.mems.length:Int):=by omega
     generalize x.mems[m]=y at *;rw[hdf] at d4;clear hdf hmr;have HBM:=zh (fun o=>zB hh2.out (zD wm o))
     go_wp2
     go_roundw
     case rel=>exact ⟨m+1,by omega,by go_num,HBM.out _⟩
     case measure=>simp[intOf];omega
    ·have HBM:=zh (zB HBX.out hh2.out)
     go_wp2
     go_roundw
     case rel=>exact ⟨k+1,by omega,by go_num,HBM.out⟩
     case measure=>simp[intOf];omega
  ·have HBK:=zh hh.out
   go_wp2
   refine bodyPost_ret (v := .tuple #[.int .i64 0,.int .i64 0,.int .i64 0]) (by simp[results,Tryz.results58,go_sem]) rfl ⟨by rw[HV.out],HBK.out⟩
def badW (t:TyD):Bool:=zL t.kind&&wordD t.name
theorem checked1_any (t:TyD) (As:zo) (cs:Nat) (Am:zo) (cm:Nat) (w:World) :
  Calls Tryz.prog 60 #[t.v As cs Am cm] w fun e w'=>e = .returned (.bool (badW t))∧Below w.heap.size w w':=by
 have HX:=zh (heap_alloc_new w (t.box As cs Am cm));have HB:=zh (zD w (t.box As cs Am cm));obtain ⟨b0,b1,_⟩:=bx_cells HX.out
 go_enter Tryz.func60,Tryz.ntmps60
 go_wp2_with fail
 generalize w.alloc (t.box As cs Am cm)=W1 at *;refine (prNamed_any t.kind W1).mono ?_;rintro e w1 ⟨rfl,rfl⟩;have HBW:Hid (badW t=(zL t.kind&&wordD t.name)):=rfl
 cases hn:zL t.kind with
 | false =>
  rw[hn] at HBW;clear hn;go_wp2;go_ret;exact ⟨by rw[HBW.out];rfl,HB.out⟩
 | true =>
  rw[hn] at HBW;clear hn;go_wp2_with fail;refine (word_any t.name _).mono ?_;rintro e w2 ⟨rfl,hb2⟩;have HB2:=zh (zB HB.out hb2);clear hb2;go_wp2;go_ret;exact ⟨by rw[HBW.out,Bool.true_and];rfl,HB2.out⟩
theorem indexT_any (s:List TyD) (A:zo) (c:Nat) (w:World) (hs:TysR w A s) :
  Calls Tryz.prog 89 #[.slice A s.length c,.func (.func 60) #[] #[]] w fun e w'=>∃k:Int,e = .returned (.int .i64 k)∧decide (0≤k)=s.any badW∧Below w.heap.size w w':=by
 have hln:=hs.1.lt (by omega)
 have HS:=zh hs;clear hs
 go_enter Tryz.func89,Tryz.ntmps89
 go_wp2
 go_loopw [5,8] (fun _ i wr=>∃k:Nat,k≤s.length∧i = .int .i64 (k:Int)∧Hid ((∀j (hj:j<s.length),j<k→badW s[j]=false)∧Below w.heap.size w wr)) (fun _ i _=>s.length - (intOf i).toNat)
 case atStart=>exact ⟨0,by omega,rfl,(fun j _ h=>absurd h (by omega)),Below.refl _ _⟩
 case round =>
  obtain ⟨k,hk,rfl,hh⟩:=hrel;obtain ⟨wk,rfl⟩:∃wk:World,wk=wr:=⟨_,rfl⟩;have HN:=zh hh.out.1;have HB:=zh hh.out.2;clear hh
  by_cases hlt:k<s.length
  ·obtain ⟨b,o,As,cs,Am,cm,rfl,htr,t0,t1,t2,t3,t4,t5,t6,t7,t8,t9⟩:=(HS.out.below HB.out).at10 hlt
   have h1:(0:Int)≤(k:Int):=by omega
   have h2:(k:Int)<(s.length:Int):=by omega
   have HSK:=zh (List.getElem_mem hlt);have HNX:Hid (badW s[k]=false→∀j (hj:j<s.length),j<k+1→badW s[j]=false):=fun h j hj hjk=>by
    by_cases e:j=k
    ·subst e;exact h
    ·exact HN.out j hj (by omega)
   have HAN:Hid (badW s[k]=true→s.any badW=true):=fun h=>List.any_eq_true.2 ⟨_,List.getElem_mem hlt,h⟩
   clear htr HSK;generalize s[k]=x at *;go_wp2_with fail;refine (checked1_any x As cs Am cm wk).mono ?_;rintro e w1 ⟨rfl,hb1⟩;have HB1:=zh (zB HB.out hb1);clear hb1 t0 t1 t2 t3 t4 t5 t6 t7 t8 t9
   cases hw:badW x with
   | true =>
    have HA:=zh (HAN.out hw);go_wp2;go_ret;exact ⟨k,rfl,by rw[HA.out];simp,HB1.out⟩
   | false =>
    have HA:=zh (HNX.out hw);go_wp2;go_roundw
    case rel=>exact ⟨k+1,by omega,by go_num,HA.out,HB1.out⟩
    case measure=>simp[intOf];omega
  ·have HA:Hid (s.any badW=false):=by
    show _=_
    rw[List.any_eq_false]
    intro t ht
    obtain ⟨j,hj,e⟩:=List.getElem_of_mem ht;rw[←e,HN.out j hj (by omega)]
    simp
   go_wp2
   go_ret
   exact ⟨-1,rfl,by rw[HA.out];rfl,HB.out⟩
theorem containsT_any (s:List TyD) (A:zo) (c:Nat) (w:World) (hs:TysR w A s) :
  Calls Tryz.prog 59 #[.slice A s.length c,.func (.func 60) #[] #[]] w fun e w'=>e = .returned (.bool (s.any badW))∧Below w.heap.size w w':=by
 have HS:=zh hs;clear hs
 go_enter Tryz.func59,Tryz.ntmps59
 go_wp2_with fail
 refine (indexT_any s A c _ HS.out).mono ?_;rintro e w1 ⟨k,rfl,hk,hb1⟩;have HK:=zh hk;have HB:=zh hb1;clear hk hb1;go_wp2;go_ret;exact ⟨by rw[←HK.out];simp,HB.out⟩
def usesL (s:List TyD):List Int:=s.flatMap fun t=>t.mems.map (·.type)
theorem mems_le {s:List TyD} (hv:zJ s=0) {t:TyD} (ht:t∈s):t.mems.length≤16:=by
 have h:=(valid_tys hv ht).1;unfold formD at h;simp only[Bool.and_eq_true,decide_eq_true_eq] at h;obtain ⟨⟨⟨⟨h1,h2⟩,h3⟩,h4⟩,h5⟩:=h;have key:∀b,memsD b t.mems=true→t.mems.length≤16:=fun b hb=>by
  unfold memsD idsD at hb;simp only[Bool.and_eq_true,decide_eq_true_eq,List.length_map] at hb;exact hb.1.2.2
 by_cases k5:t.kind=5
 ·unfold caseD at h5
  rw[if_neg (by omega),if_neg (by omega),if_neg (by omega),if_pos k5] at h5
  exact key _ h5
 by_cases k6:t.kind=6
 ·unfold caseD at h5
  rw[if_neg (by omega),if_neg (by omega),if_neg (by omega),if_neg (by omega),if_pos k6] at h5
  exact key _ h5
 ·have:t.mems=[]:=by
   have hm:=congrArg TyD.mems h3;rw[hm];unfold zV
   repeat' split
   all_goals first|rfl|(exfalso;omega)
  rw[this];simp
theorem flat_le {s:List TyD}:∀ (l:List TyD),(∀t∈l,t.mems.length≤16)→(usesL l).length≤16 * l.length
 | [],_=>by simp[usesL]
 | t::l,h=>by
  have h1:=h t List.mem_cons_self;have h2:=flat_le (s:=s) l fun u hu=>h u (List.mem_cons_of_mem _ hu)
  unfold usesL at h2 ⊢;rw[List.flatMap_cons,List.length_append,List.length_map,List.length_cons]
  omega
theorem prUses_any (s:List TyD) (A:zo) (c:Nat) (hv:zJ s=0) (w:World) (hs:TysR w A s) :
  Calls Tryz.prog 62 #[.agg #[.slice A s.length c]] w fun e w'=>∃B d,e = .returned (.slice B (usesL s).length d)∧IntsR w' B (usesL s)∧Below w.heap.size w w':=by
 have hls:=zZ hv;have HS:=zh hs;have HV:=zh hv;have HB0:=zh (zD w (.cells #[.slice A s.length c] 27));have HX0:=zh (heap_alloc_new w (.cells #[.slice A s.length c] 27));have HZ0:Hid (w.heap.size<(w.alloc (.cells #[.slice A s.length c] 27)).heap.size):=by show _<_;simp
 clear hs hv
 go_enter Tryz.func62,Tryz.ntmps62
 go_upto_region 1 with fail
 generalize w.alloc (.cells #[.slice A s.length c] 27)=W1 at *;have x0:=zb HX0.out;go_wp2_with fail
 go_loopw [3,11] (fun v i wr=>∃k:Nat,k≤s.length∧i = .int .i64 (k:Int)∧Hid (OwnI wr W1.heap.size v (usesL (s.take k))∧Below W1.heap.size W1 wr)) (fun _ i _=>s.length - (intOf i).toNat)
 case atStart=>exact ⟨0,by omega,rfl,OwnL.nil _ _,Below.refl _ _⟩
 case round =>
  obtain ⟨k,hk,rfl,hh⟩:=hrel;obtain ⟨wk,rfl⟩:∃wk:World,wk=wr:=⟨_,rfl⟩;have HO:=zh hh.out.1;have HB:=zh hh.out.2;clear hh;have HUL:=zh (flat_le (s:=s) (s.take k) fun t ht=>mems_le HV.out (List.mem_of_mem_take ht))
  have hul:(usesL (s.take k)).length≤512:=by have:=HUL.out;rw[List.length_take] at this;omega
  by_cases hlt:k<s.length
  ·obtain ⟨b,o,As,cs,Am,cm,rfl,htr,t0,t1,t2,t3,t4,t5,t6,t7,t8,t9⟩:=(HS.out.below HB0.out).at10 hlt
   replace t0:=zA HB.out t0;replace t1:=zA HB.out t1;replace t2:=zA HB.out t2;replace t3:=zA HB.out t3;replace t4:=zA HB.out t4;replace t5:=zA HB.out t5;replace t6:=zA HB.out t6;replace t7:=zA HB.out t7;replace t8:=zA HB.out t8;replace t9:=zA HB.out t9;have HTR:=zh htr;have h1:(0:Int)≤(k:Int):=by omega
   have h2:(k:Int)<(s.length:Int):=by omega
   have hm16:=mems_le HV.out (List.getElem_mem hlt);have HNX:Hid (usesL (s.take (k+1))=usesL (s.take k)++(s[k]).mems.map (·.type)):=by
    show _=_
    unfold usesL;rw[List.take_succ_eq_append_getElem hlt,List.flatMap_append];simp
   obtain ⟨L0,hL0⟩:∃L0,L0=usesL (s.take k):=⟨_,rfl⟩;rw[←hL0] at HO hul HNX;generalize s[k]=x at *;clear htr hL0 HUL;have HBX:=zh (zD wk (x.box As cs Am cm));have HXX:=zh (heap_alloc_new wk (x.box As cs Am cm));have HOX:=zh (HO.out.below HBX.out);have HBW:=zh (zB HB.out HBX.out);go_upto_region 5 with fail
   clear t0 t1 t2 t3 t4 t5 t6 t7 t8 t9;generalize wk.alloc (x.box As cs Am cm)=W2 at *;have m6:W2.cell? ⟨wk.heap.size,6,none⟩=some (.slice Am x.mems.length cm):=by rw[cell_of_row _ _ _ _ _ _ HXX.out];rfl
   go_wp2_with fail
   go_loopw [3,18] (fun v i wr=>∃m:Nat,m≤x.mems.length∧i = .int .i64 (m:Int)∧Hid (OwnI wr W1.heap.size v (L0++(x.mems.take m).map (·.type))∧Below W1.heap.size W1 wr)) (fun _ i _=>x.mems.length - (intOf i).toNat)
   case atStart=>exact ⟨0,by omega,rfl,by simpa using HOX.out,HBW.out⟩
   case round =>
    obtain ⟨m,hm,rfl,hh2⟩:=hrel;obtain ⟨wm,rfl⟩:∃wm:World,wm=wr:=⟨_,rfl⟩;have HO2:=zh hh2.out.1;have HB2:=zh hh2.out.2;have HT2:=zh (HTR.out.below HB2.out);clear hh2
    by_cases hlm:m<x.mems.length
    ·obtain ⟨b2,o2,E1,k1,E2,k2,E3,k3,rfl,hmr,d0,d1,d2,d3,d4,d5,d6,d7,d8,d9,d10,d11,d12⟩:=HT2.out.mems.at13 hlm
     have g1:(0:Int)≤(m:Int):=by omega
     have g2:(m:Int)<(x.mems.length:Int):=by omega
     have HN2:Hid (L0++(x.mems.take (m+1)).map (·.type)=(L0++(x.mems.take m).map (·.type))++[(x.mems[m]).type]):=by
      show _=_
      rw[List.take_succ_eq_append_getElem hlm,List.map_append,←List.append_assoc];rfl
     obtain ⟨L1,hL1⟩:∃L1,L1=L0++(x.mems.take m).map (·.type):=⟨_,rfl⟩;have hl1:L1.length≤600:=by rw[hL1,List.length_append,List.length_map,List.length_take];omega
     rw[←hL1] at HO2 HN2;have hsz:wm.heap.size<wm.heap.size+1:=by omega
     clear hmr hL1;generalize x.mems[m]=y at *;have HRN:Hid (∀ob,((wm.alloc ob).alloc (.cells #[.int .i64 y.type] 3)).rangeAt (wm.heap.size+1) 0 [.int .i64 y.type]):=fun ob=>by
      have h:=zT (wm.alloc ob) [.int .i64 y.type] 3;rw[show (wm.alloc ob).heap.size=wm.heap.size+1 by simp] at h
      exact h
     have HZM:Hid (W1.heap.size≤wm.heap.size):=HB2.out.size;have HOO:Hid (∀ob ob2,OwnI ((wm.alloc ob).alloc ob2) W1.heap.size u3 L1):=fun ob ob2=>HO2.out.below (zE wm ob ob2)
     have HBB:Hid (∀ob ob2,Below W1.heap.size W1 ((wm.alloc ob).alloc ob2)):=fun ob ob2=>zB HB2.out (zE wm ob ob2)
     go_wp2_with (at_builtin;have e1:=HOO.out (y.box E1 k1 E2 k2 E3 k3) (.cells #[.int .i64 y.type] 3);have e2:=HRN.out (y.box E1 k1 E2 k2 E3 k3);have e3:=HBB.out (y.box E1 k1 E2 k2 E3 k3) (.cells #[.int .i64 y.type] 3);refine zR yF _ rfl (.tmp 22) (.tmp 25) rfl W1.heap.size _ _ _ rfl e1 (wm.heap.size+1) 0 1 1 [.int .i64 y.type] rfl rfl e2 (by simp[Value.oneCell']) (by omega) (by omega) e3.size ?_;intro v8 w8 ho8 hg8;have HO8:Hid (OwnI w8 W1.heap.size v8 (L1++[y.type])):=OwnL.snoc (x:=y.type) ho8;have HB8:Hid (Below W1.heap.size W1 w8):=e3.grown hg8 e3.size e1.lt;clear ho8 hg8 e1 e2 e3)
     go_roundw
     case rel=>exact ⟨m+1,by omega,by go_num,by rw[HN2.out];exact HO8.out,HB8.out⟩
     case measure=>simp[intOf];omega
    ·obtain rfl:m=x.mems.length:=by omega
     have HO3:Hid (OwnI wm W1.heap.size u3 (L0++x.mems.map (·.type))):=by have:=HO2.out;rwa [List.take_length] at this
     go_wp2
     go_roundw
     case rel=>exact ⟨k+1,by omega,by go_num,by rw[HNX.out];exact HO3.out,HB2.out⟩
     case measure=>simp[intOf];omega
  ·obtain rfl:k=s.length:=by omega
   have HO3:Hid (OwnI wk W1.heap.size u3 (usesL s)):=by have:=HO.out;rwa [List.take_length] at this
   rw[List.take_length] at hul;obtain ⟨A3,c3,rfl,hi3⟩:=OwnI.ints HO3.out (by unfold Lim;omega)
   have HI3:=zh hi3;have HBE:=zh (zB HB0.out HB.out);clear hi3 HO HO3;go_wp2;go_ret;exact ⟨A3,c3,rfl,HI3.out,HBE.out⟩
theorem writeString_any (B b:Nat) (bs:List Value) (s:ByteArray) (w:World) (h:Lib.IsBuilder 84 5 B b bs w) (hlen:bs.length+s.size≤140737488355328) (hBw:B≤w.heap.size) :
  Calls Tryz.prog 38 #[.pointer (some ⟨b,0,none⟩),.string s] w fun e w'=>e = .returned (.tuple #[.int .i64 s.size,.nilIface])∧(Lib.IsBuilder 84 5 B b (bs++Lib.strCells s) w'∧Below B w w') :=
 (Any.Builder_WriteString { Tryz.lays156 with } Tryz.Builder_Extra_156 B b bs s w h hlen hBw).mono fun _ _ ⟨h1,h2,h3⟩=>⟨h1,.inr h2,h3⟩
theorem len_any (B b:Nat) (bs:List Value) (w:World) (h:Lib.IsBuilder 84 5 B b bs w) :
  Calls Tryz.prog 40 #[.pointer (some ⟨b,0,none⟩)] w fun e w'=>e = .returned (.int .i64 bs.length)∧w'=w:=Tryz.Builder_Len B b bs w h
theorem isBuilder_below {B b:Nat} {bs:List Value} {w w':World} (h:Lib.IsBuilder 84 5 B b bs w) (hb:Below w.heap.size w w'):Lib.IsBuilder 84 5 B b bs w':=by
 have hg:w.grownBy w' none:=⟨hb.os,hb.tape,hb.output,hb.size,fun k hk _=>hb.block k hk⟩
 have step:∀p,Lib.BuilderAt 84 5 B b p bs w→Lib.BuilderAt 84 5 B b p bs w':=fun p h=>by
  have hlt:=h.lt;obtain ⟨hB,v,hbk,hown,hne⟩:=h;refine ⟨hB,v,(hb.block b hlt).trans hbk,?_,hne⟩
  rcases hv:v.ownBlock with _|g
  ·exact hown.kept hg (Or.inl hv)
  ·exact hown.kept hg (Or.inr (by rw[hv];simp))
 exact h.imp (step _) (step _)
def BldAt (w:World) (B b:Nat) (s:ByteArray):Prop:=Lib.IsBuilder 84 5 B b (Lib.strCells s) w
section
variable {w w':World} {B b:Nat} {s:ByteArray}
theorem BldAt.below (h:BldAt w B b s) (hb:Below w.heap.size w w'):BldAt w' B b s:=isBuilder_below h hb
theorem BldAt.new (w:World) (hB:B≤w.heap.size):BldAt (w.alloc (.cells #[.pointer none,.slice none 0 0] 84)) B w.heap.size ⟨#[]⟩:=Or.inl ⟨hB,.slice none 0 0,heap_alloc_new w _,World.ownsRow_nil _ _ _ _,by simp[Value.ownBlock]⟩
theorem strCells_app (a b:ByteArray):Lib.strCells a++Lib.strCells b=Lib.strCells (a++b):=by
 unfold Lib.strCells;rw[ByteArray.data_append,Array.toList_append,List.map_append]
theorem BldAt.write (h:BldAt w B b s) (x:ByteArray) (hl:s.size+x.size≤140737488355328) (hB:B≤w.heap.size) :
  Calls Tryz.prog 38 #[.pointer (some ⟨b,0,none⟩),.string x] w fun e w'=>e = .returned (.tuple #[.int .i64 x.size,.nilIface])∧BldAt w' B b (s++x)∧Below B w w' :=
 (writeString_any B b _ x w h (by rw[Lib.strCells_length];exact hl) hB).mono fun _ _ ⟨h1,h2,h3⟩=>⟨h1,by rw[strCells_app] at h2;exact h2,h3⟩
theorem BldAt.len (h:BldAt w B b s) :
  Calls Tryz.prog 40 #[.pointer (some ⟨b,0,none⟩)] w fun e w'=>e = .returned (.int .i64 s.size)∧w'=w :=
 (len_any B b _ w h).mono fun _ _ ⟨h1,h2⟩=>⟨by rw[Lib.strCells_length] at h1;exact h1,h2⟩
theorem BldAt.str (h:BldAt w B b s) (hB:B≤w.heap.size) :
  Calls Tryz.prog 41 #[.pointer (some ⟨b,0,none⟩)] w fun e w'=>e = .returned (.string s)∧Below B w w':=by
 have h':Lib.IsBuilder 84 5 B b (Lib.byteCells s.data.toList) w:=by rw[←Lib.strCells_eq];exact h
 refine (Tryz.Builder_String_any B b s.data.toList w h' hB).mono fun _ _ ⟨h1,h2⟩=>⟨?_,h2⟩
 rw[h1]
end
def DefSaid (s:List TyD) (A:zo) (c:Nat) (d:Int):Prop:=∀w,TysR w A s →
  Calls Tryz.prog 58 #[.agg #[.slice A s.length c]] w fun e w'=>∃x y:Int,e = .returned (.tuple #[.int .i64 x,.int .i64 y,.int .i64 d])∧Below w.heap.size w w'
theorem DefSaid.none {s:List TyD} (A:zo) (c:Nat) (h:NoDef s):DefSaid s A c (zJ s):=fun w hs =>
 (defaults_any s A c h w hs).mono fun _ _ ⟨h1,h2⟩=>⟨0,0,h1,h2⟩
def yN (s:List TyD) (d:Int):Int:=if zJ s≠0 then zJ s else if d≠0 then d else if s.any badW then 1 else writtenD s (usesL s)
theorem uses_rng {s:List TyD} (hv:zJ s=0):∀u∈usesL s,0≤u∧u<(s.length:Int):=fun u hu=>by
 unfold usesL at hu;obtain ⟨t,ht,hm⟩:=List.mem_flatMap.1 hu;obtain ⟨m,hm',rfl⟩:=List.mem_map.1 hm;exact (mem_rng hv ht hm').2
theorem checked_any (s:List TyD) (d:Int) (A:zo) (c:Nat) (hd:DefSaid s A c d) (w:World) (hs:TysR w A s) :
  Calls Tryz.prog 29 #[.agg #[.slice A s.length c]] w fun e w'=>e = .returned (.int .i64 (yN s d))∧Below w.heap.size w w':=by
 have HS:=zh hs;have HD:=zh hd;have HB0:=zh (zD w (.cells #[.slice A s.length c] 27));have HX0:=zh (heap_alloc_new w (.cells #[.slice A s.length c] 27));clear hs hd
 go_enter Tryz.func29,Tryz.ntmps29
 go_wp2_with fail
 generalize w.alloc (.cells #[.slice A s.length c] 27)=W1 at *;refine (valid_any s A c W1 (HS.out.below HB0.out)).mono ?_;rintro e w1 ⟨rfl,hb1⟩;have HB1:=zh (zB HB0.out hb1);have HX1:=zh ((hb1.block _ (zg.1 HX0.out).1).trans HX0.out);have x0:=zb HX1.out;clear hb1;have HC:Hid (yN s d=if zJ s≠0 then zJ s else if d≠0 then d else if s.any badW then 1 else writtenD s (usesL s)):=rfl
 by_cases hv:zJ s=0
 case neg =>
  have q1:(zJ s != 0)=true:=by simp[hv]
  have HT:Hid (yN s d=zJ s):=HC.out.trans (if_pos hv);clear hv HC;go_wp2;go_ret;exact ⟨by rw[HT.out];rfl,HB1.out⟩
 have HV:=zh hv;have HC2:=zh (HC.out.trans (if_neg (by simp[hv])))
 rw[hv];clear hv HC;go_wp2_with fail;refine (HD.out w1 (HS.out.below HB1.out)).mono ?_;rintro e w2 ⟨x,y,rfl,hb2⟩;have HB2:=zh (zB HB1.out hb2);have HX2:=zh ((hb2.block _ (zg.1 HX1.out).1).trans HX1.out);clear x0 hb2;have x0:=zb HX2.out
 by_cases hd:d=0
 case neg =>
  have q1:(d != 0)=true:=by simp[hd]
  have HT:=zh (HC2.out.trans (if_pos hd));clear hd HC2;go_wp2;go_ret;exact ⟨by rw[HT.out];rfl,HB2.out⟩
 have HC3:=zh (HC2.out.trans (if_neg (by simp[hd])))
 subst hd;clear HC2;go_wp2_with fail;refine (containsT_any s A c w2 (HS.out.below HB2.out)).mono ?_;rintro e w3 ⟨rfl,hb3⟩;have HB3:=zh (zB HB2.out hb3);have HX3:=zh ((hb3.block _ (zg.1 HX2.out).1).trans HX2.out);clear x0 hb3;have x0:=zb HX3.out
 cases ha:s.any badW with
 | true =>
  have HT:Hid (yN s 0=1):=HC3.out.trans (if_pos ha);clear ha HC3;go_wp2;go_ret;exact ⟨by rw[HT.out];rfl,HB3.out⟩
 | false =>
  have HT:Hid (yN s 0=writtenD s (usesL s)):=HC3.out.trans (if_neg (by simp[ha]))
  clear ha HC3;go_upto_region 9 with fail
  refine wp_region_held_drew (S:=(fun w'=>(w'.cell? ⟨w.heap.size,0,none⟩=some (.slice A s.length c))∧Hid (Below w3.heap.size w3 w'))) (by kernel_rfl) ?_ (fun zH_=>?_)
  ·(try dsimp only);exact ⟨x0,zC (Below.refl _ _) _⟩
  refine tL 0 ?_;refine tL 1 ?_;refine tR 2 (fun K hK=>?_)
  go_simp
  refine (prUses_any s A c HV.out _ (HS.out.below (zB HB3.out zH_.2.out))).mono ?_;rintro e w4 ⟨B,d4,rfl,hi4,hbz⟩;have HI:=zh hi4;clear hi4;refine hK.out _ _ ?_ (fun zH_=>?_)
  ·(try dsimp only);exact ⟨zA hbz zH_.1,zB zH_.2.out hbz⟩
  clear hK K;refine tR 3 (fun K hK=>?_)
  go_simp
  refine (written_any s A c HV.out (usesL s) B d4 (uses_rng HV.out) _ (HS.out.below (zB HB3.out zH_.2.out)) HI.out).mono ?_;rintro e w5 ⟨rfl,hbz⟩;have HB5:=zh (zB HB3.out (zB zH_.2.out hbz));refine hK.out _ _ ?_ (fun zH_=>?_)
  ·(try dsimp only);exact ⟨zA hbz zH_.1,zB zH_.2.out hbz⟩
  clear hK K;refine tL 4 ?_;refine wpAnyH_done (by kernel_rfl) ?_ _
  go_wp2;go_ret;exact ⟨by rw[HT.out];rfl,HB5.out⟩
theorem mbx_cells {W:World} {b:Nat} {m:MemD} {A1:zo} {c1:Nat} {A2:zo} {c2:Nat} {A3:zo} {c3:Nat} (h:W.heap[b]? = some (m.box A1 c1 A2 c2 A3 c3)) :
  W.cell? ⟨b,0,none⟩=some (.int .i64 m.id)∧W.cell? ⟨b,1,none⟩=some (.string m.name)∧W.cell? ⟨b,2,none⟩=some (.int .i64 m.type)∧W.cell? ⟨b,3,none⟩=some (.bool m.critical)∧W.cell? ⟨b,4,none⟩=some (.bool m.hasDef)∧W.cell? ⟨b,5,none⟩=some (.int .i64 m.dflt.kind)∧W.cell? ⟨b,6,none⟩=some (.bool m.dflt.bool)∧W.cell? ⟨b,7,none⟩=some (.int .i64 m.dflt.int)∧W.cell? ⟨b,8,none⟩=some (.string m.dflt.str)∧W.cell? ⟨b,9,none⟩=some (.int .i64 m.dflt.id)∧W.cell? ⟨b,10,none⟩=some (.slice A1 m.dflt.keys.length c1)∧W.cell? ⟨b,11,none⟩=some (.slice A2 m.dflt.items.length c2)∧W.cell? ⟨b,12,none⟩=some (.slice A3 m.dflt.rest.length c3):=by
 refine ⟨?_,?_,?_,?_,?_,?_,?_,?_,?_,?_,?_,?_,?_⟩ <;> (rw[cell_of_row _ _ _ _ _ _ h];rfl)
def FmtSaid (s:List TyD) (A:zo) (c:Nat) (m:MemD) (x:ByteArray):Prop:=∀w A1 c1 A2 c2 A3 c3,TysR w A s→MemR w m A1 A2 A3→Tab w →
  Calls Tryz.prog 97 #[.agg #[.slice A s.length c],.int .i64 m.type,m.dflt.v A1 c1 A2 c2 A3 c3] w fun e w'=>∃er:Int,e = .returned (.tuple #[.string x,.int .i64 er])∧Below w.heap.size w w'
def DfOk (s:List TyD) (A:zo) (c:Nat) (df:MemD→ByteArray) (m:MemD):Prop:=(df m).size≤1073741824∧(m.hasDef=true→FmtSaid s A c m (df m))
theorem member_any (s:List TyD) (A:zo) (c:Nat) (hv:zJ s=0) (hn:Num64 s) (df:MemD→ByteArray) (m:MemD) (hd:DfOk s A c df m) (hi:In64 m.id) (hnm:m.name.size≤24) (hr:0≤m.type∧m.type<(s.length:Int)) (hf:finD s (s.length+1) m.type)
  (A1:zo) (c1:Nat) (A2:zo) (c2:Nat) (A3:zo) (c3:Nat) (w:World) (hs:TysR w A s) (hm:MemR w m A1 A2 A3) (htab:Tab w) :
  Calls Tryz.prog 69 #[.agg #[.slice A s.length c],m.v A1 c1 A2 c2 A3 c3] w fun e w'=>e = .returned (.string (memT s df m))∧Below w.heap.size w w':=by
 have hls:=zZ hv;have HS:=zh hs;have HM:=zh hm;have HTB:=zh htab;have HD:=zh hd;have HI:=zh hi;have hzi:=yE hi;have hzt:(textD s (s.length+1) m.type).size≤3300:=by have:=text_le hv hn (s.length+1) m.type hr hf;omega
 have hzd:=hd.1;have HB0:=zh (zE w (.cells #[.slice A s.length c] 27) (m.box A1 c1 A2 c2 A3 c3));have HX0:=zh (tmp_al (heap_alloc_new w (.cells #[.slice A s.length c] 27)) (m.box A1 c1 A2 c2 A3 c3));have HY0:Hid (((w.alloc (.cells #[.slice A s.length c] 27)).alloc (m.box A1 c1 A2 c2 A3 c3)).heap[w.heap.size+1]? = some (m.box A1 c1 A2 c2 A3 c3)):=by
  have:=heap_alloc_new (w.alloc (.cells #[.slice A s.length c] 27)) (m.box A1 c1 A2 c2 A3 c3);rw[show (w.alloc (.cells #[.slice A s.length c] 27)).heap.size=w.heap.size+1 by simp] at this
  exact this
 have HHF:=zh (fun u (h1:TysR u A s) (h2:Tab u)=>text_any s A c hv hn (s.length+1) m.type u hr hf (by omega) h1 h2)
 have HMT:Hid (memT s df m=decB m.id++(if m.critical then ⟨#[33]⟩ else ⟨#[]⟩)++(⟨#[32]⟩++m.name++⟨#[58,32]⟩++textD s (s.length+1) m.type)++(if m.hasDef then ⟨#[32,61,32]⟩++df m else ⟨#[]⟩)++⟨#[59]⟩):=rfl
 generalize memT s df m=MT at *;clear hs hm htab hd hi hv hn hr hf
 go_enter Tryz.func69,Tryz.ntmps69
 go_wp2_with fail
 generalize (w.alloc (.cells #[.slice A s.length c] 27)).alloc (m.box A1 c1 A2 c2 A3 c3)=W1 at *;obtain ⟨b0,b1,b2,b3,b4,b5,b6,b7,b8,b9,b10,b11,b12⟩:=mbx_cells HY0.out;go_wp2_with fail;refine (itoa_any m.id HI.out _ (HTB.out.below HB0.out)).mono ?_;rintro e w1 ⟨rfl,hb1⟩;have HX1:=zh ((hb1.block _ (zg.1 HX0.out).1).trans HX0.out);have HY1:=zh ((hb1.block _ (zg.1 HY0.out).1).trans HY0.out)
 have HB1:=zh (zB HB0.out hb1);clear hb1 b0 b1 b2 b3 b4 b5 b6 b7 b8 b9 b10 b11 b12;obtain ⟨b0,b1,b2,b3,b4,b5,b6,b7,b8,b9,b10,b11,b12⟩:=mbx_cells HY1.out;have x0:=zb HX1.out;have hpz:(if m.critical then (⟨#[33]⟩:ByteArray) else ⟨#[]⟩).size≤1:=by split <;> decide
 go_upto_if 12 with fail
 go_cut [5] (fun s5 wx=>s5 = .string (decB m.id++(if m.critical then ⟨#[33]⟩ else ⟨#[]⟩))∧wx=w1)
 case first =>
  cases hc:m.critical with
  | true =>
   have n1:¬ 9223372036854775807<(decB m.id).size+(⟨#[33]⟩:ByteArray).size:=by show ¬ _<_+1;omega
   have n2:¬ 9223372036854775807<(decB m.id).size+1:=by omega
   rw[hc] at b3;go_wp2;go_meet;exact ⟨by rw[hc];rfl,rfl⟩
  | false =>
   rw[hc] at b3;go_wp2;go_meet;exact ⟨by rw[hc,if_neg (by simp),app_nil],rfl⟩
 case rest =>
 obtain ⟨rfl,rfl⟩:=hcut;generalize hpre:decB m.id++(if m.critical then ⟨#[33]⟩ else ⟨#[]⟩)=pre at *
 have hpr:pre.size≤22:=by rw[←hpre,zG];omega
 have HMC:Hid (∀x y:ByteArray,(x=y)→x=y):=fun _ _ h=>h
 clear hpre HMC;generalize hT:textD s (s.length+1) m.type=T at *;have n1:¬ 9223372036854775807<(⟨#[32]⟩:ByteArray).size+m.name.size:=by show ¬ _<1+_;omega
 have n2:¬ 9223372036854775807<(⟨#[32]⟩++m.name:ByteArray).size+(⟨#[58,32]⟩:ByteArray).size:=by rw[zG];show ¬ _<1+_+2;omega
 have z2:(⟨#[32]⟩++m.name++⟨#[58,32]⟩:ByteArray).size≤27:=by rw[zG,zG];show 1+_+2≤_;omega
 have n3:¬ 9223372036854775807<(⟨#[32]⟩++m.name++⟨#[58,32]⟩:ByteArray).size+T.size:=by omega
 have z3:(⟨#[32]⟩++m.name++⟨#[58,32]⟩++T:ByteArray).size≤3327:=by rw[zG];omega
 have n4:¬ 9223372036854775807<pre.size+(⟨#[32]⟩++m.name++⟨#[58,32]⟩++T:ByteArray).size:=by omega
 have z4:(pre++(⟨#[32]⟩++m.name++⟨#[58,32]⟩++T):ByteArray).size≤3349:=by rw[zG];omega
 have p1:¬ 9223372036854775807<1+m.name.size:=by omega
 have p2:¬ 9223372036854775807<1+m.name.size+2:=by omega
 have p3:¬ 9223372036854775807<1+m.name.size+2+T.size:=by omega
 have p4:¬ 9223372036854775807<pre.size+(1+m.name.size+2+T.size):=by omega
 have HCC:=zh (And.intro x0 (And.intro b1 b2));go_upto_region 4 with fail
 refine wp_region_held_drew (S:=(fun w'=>(w'.cell? ⟨w.heap.size,0,none⟩=some (.slice A s.length c)∧w'.cell? ⟨w.heap.size+1,1,none⟩=some (.string m.name)∧w'.cell? ⟨w.heap.size+1,2,none⟩=some (.int .i64 m.type))∧Hid (Below wc.heap.size wc w'))) (by kernel_rfl) ?_ (fun zH_=>?_)
 ·(try dsimp only);exact ⟨⟨x0,b1,b2⟩,zC (Below.refl _ _) _⟩
 refine tL 0 ?_;refine tL 1 ?_;refine tL 2 ?_;refine tL 3 ?_;refine tL 4 ?_;refine tL 5 ?_;try simp only[ps]
 refine tL 6 ?_;refine tL 7 ?_;refine tR 8 (fun K hK=>?_)
 go_simp
 refine (HHF.out _ (HS.out.below (zB HB1.out zH_.2.out)) (HTB.out.below (zB HB1.out zH_.2.out))).mono ?_;rintro e w4 ⟨rfl,hbz⟩;refine hK.out _ _ ?_ (fun zH_=>?_)
 ·(try dsimp only);exact ⟨⟨zA hbz zH_.1.1,zA hbz zH_.1.2.1,zA hbz zH_.1.2.2⟩,zB zH_.2.out hbz⟩
 clear hK K;refine tL 9 ?_;refine tL 10 ?_;refine tL 11 ?_;try simp only[ps]
 refine wpAnyH_done (by kernel_rfl) ?_ _
 have HMR:=zh (And.intro (HS.out.below (zB HB1.out zH_.2.out)) (And.intro (HTB.out.below (zB HB1.out zH_.2.out)) (HM.out.below (zB HB1.out zH_.2.out))));have HB4:=zh (zB HB1.out zH_.2.out);have c4:=zA zH_.2.out b4;have c5:=zA zH_.2.out b5;have c6:=zA zH_.2.out b6;have c7:=zA zH_.2.out b7;have c8:=zA zH_.2.out b8;have c9:=zA zH_.2.out b9;have c10:=zA zH_.2.out b10;have c11:=zA zH_.2.out b11
 have c12:=zA zH_.2.out b12;obtain ⟨⟨d0,d1,d2⟩,_⟩:=zH_;generalize pre++(⟨#[32]⟩++m.name++⟨#[58,32]⟩++T)=P4 at *;clear b0 b1 b2 b3 b4 b5 b6 b7 b8 b9 b10 b11 b12 x0 HCC HX1 HY1 HX0 HY0 n1 n2 n3 n4 z2 z3 HHF
 cases hdf:m.hasDef with
 | true =>
  rw[hdf] at c4;have HF:=zh (HD.out.2 hdf);have HMT2:Hid (MT=P4++(⟨#[32,61,32]⟩++df m)++⟨#[59]⟩):=by have:=HMT.out;rwa [hdf,if_pos rfl] at this
  clear hdf HMT HD;generalize df m=D at *;have m1:¬ 9223372036854775807<(⟨#[32,61,32]⟩:ByteArray).size+D.size:=by show ¬ _<3+_;omega
  have m2:¬ 9223372036854775807<P4.size+(⟨#[32,61,32]⟩++D:ByteArray).size:=by rw[zG];show ¬ _<_+(3+_);omega
  have m3:¬ 9223372036854775807<(P4++(⟨#[32,61,32]⟩++D):ByteArray).size+(⟨#[59]⟩:ByteArray).size:=by rw[zG,zG];show ¬ _<_+(3+_)+1;omega
  have p1:¬ 9223372036854775807<3+D.size:=by omega
  have p2:¬ 9223372036854775807<P4.size+(3+D.size):=by omega
  have p3:¬ 9223372036854775807<P4.size+(3+D.size)+1:=by omega
  go_wp2_with fail
  refine (HF.out _ A1 c1 A2 c2 A3 c3 HMR.out.1 HMR.out.2.2 HMR.out.2.1).mono ?_;rintro e w5 ⟨er,rfl,hb5⟩;have HB5:=zh (zB HB4.out hb5);clear hb5;go_wp2;go_ret;exact ⟨by rw[HMT2.out];rfl,HB5.out⟩
 | false =>
  rw[hdf] at c4;have HMT2:Hid (MT=P4++⟨#[59]⟩):=by have:=HMT.out;rwa [hdf,if_neg (by simp),app_nil] at this
  clear hdf HMT HD;have m1:¬ 9223372036854775807<P4.size+(⟨#[59]⟩:ByteArray).size:=by show ¬ _<_+1;omega
  have p1:¬ 9223372036854775807<P4.size+1:=by omega
  go_wp2
  go_ret
  exact ⟨by rw[HMT2.out];rfl,HB4.out⟩
end Go.Proofs.YtdfolgmcggdjdaaGreatDoor


