/-
  Walks: sheaveref17.use.
-/
import Derived.Test.YtdfolgmcggdjdaaGreatDoorQGA3
import Derived.Test.YtdfolgmcggdjdaaGreatDoorQGA2
import Derived.Test.YtdfolgmcggdjdaaGreatDoorQGA1
import Derived.Deep.DeepCutAuto
namespace Go.Proofs.YtdfolgmcggdjdaaGreatDoor
open Go.RowKit
set_option maxHeartbeats 16000000
set_option maxRecDepth 100000
theorem encI_len {l:List Int}:∀cs∈l.map encI,cs.length=1:=fun cs h=>by obtain ⟨x,_,rfl⟩:=List.mem_map.1 h;rfl
theorem encI_one {l:List Int}:∀cs∈l.map encI,∀u∈cs,u.oneCell'=true:=fun cs h u hu=>by
 obtain ⟨x,_,rfl⟩:=List.mem_map.1 h;obtain rfl:u = .int .i64 x:=by simpa[encI] using hu
 rfl
theorem intsR_range {w:World} {A:zo} {l:List Int} (h:IntsR w A l):l.map encI≠[]→∃b o,A=some ⟨b,o,none⟩∧w.rangeAt b o (l.map encI).flatten:=fun hn=>by
 obtain ⟨css,k1,k2,k3,k4⟩:=RowsR.cells (fun x cs h=>(show cs.length=1 by rw[h];rfl)) h
 have e:css=l.map encI:=by
  apply List.ext_getElem?
  intro i
  rw[List.getElem?_map]
  by_cases hi:i<l.length
  ·have hc:i<css.length:=by omega
   have:=k2 i _ _ (zl hi) (zl hc);rw[zl hc,zl hi,this];rfl
  ·rw[List.getElem?_eq_none (by omega),List.getElem?_eq_none (by omega)];rfl
 rw[←e];exact k4 (fun e=>hn (by rw[e];rfl))
theorem ownI_enc {w:World} {B:Nat} {v:Value} {l:List Int} (h:w.ownsRow B 3 1 v (l.map encI).length (l.map encI).flatten):OwnI w B v l:=by
 rw[List.length_map,←List.flatMap_def] at h;exact h
structure UsB (w:World) (x:TyD) (As:zo) (cs:Nat) (Am:zo) (cm b o n c:Nat) (W:World):Prop where
 bel:Below w.heap.size w W
 sch:W.heap[w.heap.size]? = some (.cells #[.slice (some ⟨b,o,none⟩) n c] 27 (0,0))
 res:W.heap[w.heap.size+1]? = some (tbox noT)
 box:W.heap[w.heap.size+1+1]? = some (x.box As cs Am cm)
section
variable {w W W':World} {x:TyD} {As:zo} {cs:Nat} {Am:zo} {cm b o n c:Nat}
theorem UsB.below (h:UsB w x As cs Am cm b o n c W) (hb:Below W.heap.size W W'):UsB w x As cs Am cm b o n c W' :=
 ⟨zB h.bel hb,(hb.block _ (zg.1 h.sch).1).trans h.sch,(hb.block _ (zg.1 h.res).1).trans h.res,(hb.block _ (zg.1 h.box).1).trans h.box⟩
theorem bx_cells {b:Nat} (h:W.heap[b]? = some (x.box As cs Am cm)) :
  W.cell? ⟨b,0,none⟩=some (.int .i64 x.kind)∧W.cell? ⟨b,1,none⟩=some (.string x.name)∧W.cell? ⟨b,2,none⟩=some (.int .i64 x.low)∧W.cell? ⟨b,3,none⟩=some (.int .i64 x.high)∧W.cell? ⟨b,4,none⟩=some (.int .i64 x.max)∧W.cell? ⟨b,7,none⟩=some (.int .i64 x.key)∧W.cell? ⟨b,8,none⟩=some (.int .i64 x.elem):=by
 refine ⟨?_,?_,?_,?_,?_,?_,?_⟩ <;> (rw[cell_of_row _ _ _ _ _ _ h];rfl)
theorem UsB.hold (h:UsB w x As cs Am cm b o n c W) :
  (W.cell? ⟨w.heap.size,0,none⟩=some (.slice (some ⟨b,o,none⟩) n c)∧W.cell? ⟨w.heap.size+1+1,0,none⟩=some (.int .i64 x.kind)∧W.cell? ⟨w.heap.size+1+1,1,none⟩=some (.string x.name)∧W.cell? ⟨w.heap.size+1+1,2,none⟩=some (.int .i64 x.low)∧W.cell? ⟨w.heap.size+1+1,3,none⟩=some (.int .i64 x.high)∧W.cell? ⟨w.heap.size+1+1,4,none⟩=some (.int .i64 x.max)∧W.cell? ⟨w.heap.size+1+1,7,none⟩=some (.int .i64 x.key)∧W.cell? ⟨w.heap.size+1+1,8,none⟩=some (.int .i64 x.elem))∧Hid (UsB w x As cs Am cm b o n c W) :=
 ⟨⟨by rw[cell_of_row _ _ _ _ _ _ h.sch];rfl,bx_cells h.box⟩,h⟩
theorem UsB.hold2 {w8:World} (h:UsB w x As cs Am cm b o n c W) (hb:Below w8.heap.size w8 W) :
  (W.cell? ⟨w.heap.size,0,none⟩=some (.slice (some ⟨b,o,none⟩) n c)∧W.cell? ⟨w.heap.size+1+1,0,none⟩=some (.int .i64 x.kind)∧W.cell? ⟨w.heap.size+1+1,1,none⟩=some (.string x.name)∧W.cell? ⟨w.heap.size+1+1,2,none⟩=some (.int .i64 x.low)∧W.cell? ⟨w.heap.size+1+1,3,none⟩=some (.int .i64 x.high)∧W.cell? ⟨w.heap.size+1+1,4,none⟩=some (.int .i64 x.max)∧W.cell? ⟨w.heap.size+1+1,7,none⟩=some (.int .i64 x.key)∧W.cell? ⟨w.heap.size+1+1,8,none⟩=some (.int .i64 x.elem))∧Hid (UsB w x As cs Am cm b o n c W∧Below w8.heap.size w8 W) :=
 ⟨h.hold.1,h,hb⟩
end
theorem txt_end {w W:World} {z:TextD} (hb:Below w.heap.size w W) {g:Nat} (hg:w.heap.size≤g) (h:W.heap[g]? = some (tbox z)) (y:TextD) :
  ((W.setCells g 0 [.string y.1,.bool y.2.1,.bool y.2.2]).cell? ⟨g,0,none⟩=some (.string y.1)∧(W.setCells g 0 [.string y.1,.bool y.2.1,.bool y.2.2]).cell? ⟨g,1,none⟩=some (.bool y.2.1)∧(W.setCells g 0 [.string y.1,.bool y.2.1,.bool y.2.2]).cell? ⟨g,2,none⟩=some (.bool y.2.2))∧Below w.heap.size w (W.setCells g 0 [.string y.1,.bool y.2.1,.bool y.2.2]) :=
 ⟨text_cells (text_set h y),below_setsg g hg _ _ _ hb⟩
theorem use_any (s:List TyD) (A:zo) (c:Nat) (hv:zJ s=0) (hn:Num64 s):∀ (f:Nat) (path:List Int) (t:Int) (A2:zo) (c2:Nat) (w:World),(0≤t∧t<(s.length:Int))→((∀u∈path,0≤u∧u<(s.length:Int))∧path.Nodup)→path.length+f=s.length+1→TysR w A s→IntsR w A2 path →
  Calls Tryz.prog 54 #[.agg #[.slice A s.length c],.int .i64 t,.slice A2 path.length c2] w fun e w'=>e = .returned (tv (useD s f path t))∧Below w.heap.size w w':=by
 intro f
 induction f with
 | zero =>
  intro path t A2 c2 w hr hp hl
  have:=nodup_len s.length path hp.2 hp.1
  omega
 | succ f ih =>
 intro path t A2 c2 w hr hp hl hs hpi
 obtain ⟨tn,rfl⟩:=Int.eq_ofNat_of_zero_le hr.1;have htn:tn<s.length:=by omega
 have HTA:=zh (zP htn);have hls:=zZ hv;have hpl:path.length≤33:=by omega
 have HB0:=zh (zE w (.cells #[.slice A s.length c] 27) ztext);have HS:=zh hs;have HPI:=zh hpi;have HV:=zh hv;have HN:=zh hn;have HR:=zh hr;have HP:=zh hp;have HL:=zh hl;have HIH:=zh ih;have HMX:=zh (max_in hv hr);have HMR:=zh (max_rng hv hr);have HK:=zh (yT hv hr);have HNL:=zh (fun h=>name_le hv hr h)
 have HLM:=zh (limT_le hv hr);have HIN:=zh (intT_le hn hr);have HST:=zh (strT_le hv hr);obtain ⟨b,o,As,cs,Am,cm,rfl,htr,t0,t1,t2,t3,t4,t5,t6,t7,t8,t9⟩:=(hs.below HB0.out).at10 htn;have h1:(0:Int)≤(tn:Int):=by omega
 have h2:(tn:Int)<(s.length:Int):=by omega
 have HSO:=zh htr.name;clear htr hs hpi ih hr hv hn hp;rw[HTA.out] at HMX HMR HK HNL HLM HIN HST;have HNM:=zh (HN.out _ (List.getElem_mem htn));generalize hx:s[tn]=x at *;have HTX:Hid (tyAt s (tn:Int)=x):=HTA.out;clear HTA hx hl
 go_enter Tryz.func54,Tryz.ntmps54
 go_wp2_with fail
 have HB1:Hid (Below w.heap.size w (((w.alloc (.cells #[.slice (some ⟨b,o,none⟩) s.length c] 27)).alloc ztext).alloc (x.box As cs Am cm))):=zB HB0.out (zD _ _);have HX1:Hid ((((w.alloc (.cells #[.slice (some ⟨b,o,none⟩) s.length c] 27)).alloc ztext).alloc (x.box As cs Am cm)).heap[w.heap.size+1+1]? = some (x.box As cs Am cm)):=by
  have:=heap_alloc_new ((w.alloc (.cells #[.slice (some ⟨b,o,none⟩) s.length c] 27)).alloc ztext) (x.box As cs Am cm);rw[show ((w.alloc (.cells #[.slice (some ⟨b,o,none⟩) s.length c] 27)).alloc ztext).heap.size=w.heap.size+1+1 by simp] at this
  exact this
 have HZ1:Hid ((((w.alloc (.cells #[.slice (some ⟨b,o,none⟩) s.length c] 27)).alloc ztext).alloc (x.box As cs Am cm)).heap[w.heap.size+1]? = some (tbox noT)):=by
  have:=heap_alloc_new (w.alloc (.cells #[.slice (some ⟨b,o,none⟩) s.length c] 27)) ztext;rw[show (w.alloc (.cells #[.slice (some ⟨b,o,none⟩) s.length c] 27)).heap.size=w.heap.size+1 by simp] at this
  exact ((zD _ _).block _ (by simp)).trans this
 have HY1:Hid ((((w.alloc (.cells #[.slice (some ⟨b,o,none⟩) s.length c] 27)).alloc ztext).alloc (x.box As cs Am cm)).heap[w.heap.size]? = some (.cells #[.slice (some ⟨b,o,none⟩) s.length c] 27 (0,0))) :=
  ((zE _ _ _).block _ (by simp)).trans (heap_alloc_new w _)
 clear t0 t1 t2 t3 t4 t5 t6 t7 t8 t9;have HU1:Hid (UsB w x As cs Am cm b o s.length c (((w.alloc (.cells #[.slice (some ⟨b,o,none⟩) s.length c] 27)).alloc ztext).alloc (x.box As cs Am cm))):=⟨HB1.out,HY1.out,HZ1.out,HX1.out⟩;clear HB1 HX1 HZ1 HY1;generalize ((w.alloc (.cells #[.slice (some ⟨b,o,none⟩) s.length c] 27)).alloc ztext).alloc (x.box As cs Am cm)=W1 at *
 refine (rNamed_any x.kind W1).mono ?_;rintro e w1 ⟨rfl,rfl⟩
 by_cases hnm:zL x.kind=true
 ·have HUE:Hid (useD s (f+1) path (tn:Int)=(x.name,wordD x.name,false)):=by
   show _=_
   rw[useD,HTX.out,if_pos hnm]
  rw[hnm];clear hnm;go_upto_region 3 with fail
  refine yK (S:=(fun w'=>(w'.cell? ⟨w.heap.size,0,none⟩=some (.slice (some ⟨b,o,none⟩) s.length c)∧w'.cell? ⟨w.heap.size+1+1,0,none⟩=some (.int .i64 x.kind)∧w'.cell? ⟨w.heap.size+1+1,1,none⟩=some (.string x.name)∧w'.cell? ⟨w.heap.size+1+1,2,none⟩=some (.int .i64 x.low)∧w'.cell? ⟨w.heap.size+1+1,3,none⟩=some (.int .i64 x.high)∧w'.cell? ⟨w.heap.size+1+1,4,none⟩=some (.int .i64 x.max)∧w'.cell? ⟨w.heap.size+1+1,7,none⟩=some (.int .i64 x.key)∧w'.cell? ⟨w.heap.size+1+1,8,none⟩=some (.int .i64 x.elem))∧Hid (UsB w x As cs Am cm b o s.length c w'))) 6 (by kernel_rfl) ?_ (fun zH_=>?_)
  ·(try dsimp only);exact (HU1.out.below (zC (Below.refl _ _) 1)).hold
  refine tC 0 ?_;refine tB 1 ?_;refine tC 2 ?_;refine tB 3 ?_;refine tS 4 (fun K hK=>?_)
  go_simp
  (refine (rWord_any x.name _).mono ?_;rintro e w2 ⟨rfl,hb2⟩;have HU2:=zh (zH_.2.out.below hb2);clear hb2)
  refine hK.out _ _ ?_ (fun zH_=>?_)
  ·(try dsimp only);exact HU2.out.hold
  clear hK K;refine tC 5 ?_;try simp only[ps]
  refine yQ (rs:=[6]) (by kernel_rfl) (by simp) ?_
  refine AllReadyB.last rfl (by kernel_rfl) (fun K hK=>?_) AllReadyB.nil
  (simp only[List.getElem_toArray,List.getElem_cons_zero,List.getElem_cons_succ];rw[if_pos (by rfl)];refine wp_store_mid 74 (.tmp 6) (.tmp 21) rfl (w.heap.size+1) (0) (#[.string x.name,.bool (wordD x.name),.bool false]) (by rfl) (by rfl) ?_ ?_ ?_ ?_;(exact yM HU2.out.res);(exact txt_info);(exact txt_one (x.name,wordD x.name,false)))
  refine hK.out _ _ ?_;clear hK K
  (try clear zH_)
  refine wpAny_done (by kernel_rfl) ?_ _
  obtain ⟨⟨r0,r1,r2⟩,hbe⟩:=txt_end HU2.out.bel (Nat.le_succ _) HU2.out.res (x.name,wordD x.name,false);go_wp2;refine bodyPost_ret (v:=tv (x.name,wordD x.name,false)) (by simp[results,Tryz.results54,go_sem,r0,r1,r2]) rfl ⟨by rw[HUE.out],hbe⟩
 have hnf:zL x.kind=false:=by simpa using hnm
 rw[hnf];obtain ⟨⟨b0,b1,b2,b3,b4,b5,b6,b7⟩,_⟩:=HU1.out.hold;go_wp2_with fail;refine (has_any path (tn:Int) A2 c2 _ (HPI.out.below HU1.out.bel)).mono ?_;rintro e w2 ⟨rfl,rfl⟩
 by_cases hmem:(tn:Int)∈path
 ·have HUE:Hid (useD s (f+1) path (tn:Int)=(⟨#[]⟩,false,true)):=by
   show _=_
   rw[useD,HTX.out,if_neg hnm,if_pos hmem]
  rw[memD_iff.2 hmem];clear hmem hnm hnf;go_wp2_with (refine wpList_store_mid rfl 74 (.tmp 6) (.tmp 25) rfl (w.heap.size+1) 0 #[.string ⟨#[]⟩,.bool false,.bool true] (by rfl) (by rfl) ?_ ?_ ?_ ?_;(exact yM HU1.out.res);(exact txt_info);(exact txt_one (⟨#[]⟩,false,true)))
  obtain ⟨⟨r0,r1,r2⟩,hbe⟩:=txt_end HU1.out.bel (Nat.le_succ _) HU1.out.res (⟨#[]⟩,false,true);go_wp2;refine bodyPost_ret (v:=tv (⟨#[]⟩,false,true)) (by simp[results,Tryz.results54,go_sem,r0,r1,r2]) rfl ⟨by rw[HUE.out],hbe⟩
 have hmf:memD (tn:Int) path=false:=by
  cases h:memD (tn:Int) path with
  | false=>rfl
  | true=>exact absurd (memD_iff.1 h) hmem
 rw[hmf];clear hmf;have HMEM:=zh hmem;have HNM0:=zh hnm;have HWA:Hid (Below W1.heap.size W1 (W1.alloc (.cells #[] 3))):=zD _ _;have HOE:Hid (World.ownsRow (W1.alloc (.cells #[] 3)) W1.heap.size 3 1 (.slice (some ⟨W1.heap.size,0,none⟩) 0 0) 0 []):=own_empty W1 W1.heap.size 3 1 (Nat.le_refl _);have HPW:=zh (HPI.out.below (zB HU1.out.bel HWA.out));clear b0 b1 b2 b3 b4 b5 b6 b7 hmem hnm hnf
 go_upto_region 6 with fail
 go_upto_region 7 with (first|(at_builtin;refine wpList_append_e yF _ rfl (.tmp 26) (.tmp 27) rfl W1.heap.size _ rfl HOE.out (path.map encI) path.length (by simp) A2 c2 rfl encI_len encI_one (intsR_range HPW.out) (by rw[List.length_map];omega) (by rw[List.length_map];omega) HWA.out.size ?_;intro v4 w4 ho4 hg4;have HO4:Hid (OwnI w4 W1.heap.size v4 path):=ownI_enc ho4;have HB4:Hid (Below W1.heap.size W1 w4):=HWA.out.grown hg4 HWA.out.size (fun q hq=>(World.ownsRow.lt HOE.out q hq).1);have HRN:=zh (zT w4 [.int .i64 (tn:Int)] 3);have HWB:Hid (Below W1.heap.size W1 (w4.alloc (.cells #[.int .i64 (tn:Int)] 3))):=zB HB4.out (zD _ _);clear ho4 hg4)|(at_builtin;refine zR yF _ rfl (.tmp 28) (.tmp 30) rfl W1.heap.size v4 path.length (path.flatMap encI) rfl (OwnL.alloc HO4.out _) w4.heap.size 0 1 1 [.int .i64 (tn:Int)] rfl rfl HRN.out (by simp[Value.oneCell']) (by omega) (by omega) HWB.out.size ?_;intro v8 w8 ho8 hg8;have HO8:Hid (OwnI w8 W1.heap.size v8 (path++[(tn:Int)])):=OwnL.snoc (x:=(tn:Int)) ho8;have HB8:Hid (Below W1.heap.size W1 w8):=HWB.out.grown hg8 HWB.out.size HO4.out.lt;obtain ⟨A3,c3,rfl,hp3⟩:=OwnI.ints HO8.out (by unfold Lim;simp;omega);have HP3:=zh hp3;have HU8:=zh (HU1.out.below HB8.out);obtain ⟨⟨b0,b1,b2,b3,b4,b5,b6,b7⟩,_⟩:=HU8.out.hold;clear ho8 hg8 hp3))
 have HPN:Hid ((∀u∈path++[(tn:Int)],0≤u∧u<(s.length:Int))∧(path++[(tn:Int)]).Nodup):=by
  refine ⟨fun u hu=>?_,?_⟩
  ·rcases List.mem_append.1 hu with k|k
   ·exact HP.out.1 u k
   ·obtain rfl:u=(tn:Int):=by simpa using k
    exact HR.out
  ·rw[List.nodup_append]
   refine ⟨HP.out.2,by simp,fun y hy z hz e=>?_⟩
   obtain rfl:z=(tn:Int):=by simpa using hz
   exact HMEM.out (e▸hy)
 have HIH2:Hid (∀ (u:Int) (W:World),(0≤u∧u<(s.length:Int))→TysR W (some ⟨b,o,none⟩) s→IntsR W A3 (path++[(tn:Int)])→Calls Tryz.prog 54 #[.agg #[.slice (some ⟨b,o,none⟩) s.length c],.int .i64 u,.slice A3 (path.length+1) c3] W fun e w'=>e = .returned (tv (useD s f (path++[(tn:Int)]) u))∧Below W.heap.size W w'):=by
  intro u W hu ht hi
  have:=HIH.out (path++[(tn:Int)]) u A3 c3 W hu HPN.out (by have:=HL.out;simp;omega) ht hi
  simp only[List.length_append,List.length_singleton] at this;exact this
 have hf33:f≤33:=by have:=HL.out;omega
 have HMZ:Hid ((decB x.max).size≤21):=yE HMX.out;have g1:¬ 9223372036854775807<2+(decB x.max).size:=by have:=HMZ.out;omega
 have g2:¬ 9223372036854775807<2+(decB x.max).size+1:=by have:=HMZ.out;omega
 by_cases k1:x.kind=1
 ·have HUE:Hid (useD s (f+1) path (tn:Int)=(⟨#[98,111,111,108]⟩,false,false)):=by
   show _=_
   rw[useD,HTX.out,if_neg HNM0.out,if_neg HMEM.out,if_pos k1]
  have q1:(x.kind==1)=true:=by simp[k1]
  clear k1;go_wp2_with (refine wpList_store_mid rfl 74 (.tmp 6) (.tmp 36) rfl (w.heap.size+1) 0 #[.string ⟨#[98,111,111,108]⟩,.bool false,.bool false] (by rfl) (by rfl) ?_ ?_ ?_ ?_;(exact yM HU8.out.res);(exact txt_info);(exact txt_one (⟨#[98,111,111,108]⟩,false,false)))
  obtain ⟨⟨r0,r1,r2⟩,hbe⟩:=txt_end HU8.out.bel (Nat.le_succ _) HU8.out.res (⟨#[98,111,111,108]⟩,false,false);go_wp2;refine bodyPost_ret (v:=tv (⟨#[98,111,111,108]⟩,false,false)) (by simp[results,Tryz.results54,go_sem,r0,r1,r2]) rfl ⟨by rw[HUE.out],hbe⟩
 have q1:(x.kind==1)=false:=by simp[k1]
 by_cases k2:x.kind=2
 ·have HUE:Hid (useD s (f+1) path (tn:Int)=(intT x,false,false)):=by
   show _=_
   rw[useD,HTX.out,if_neg HNM0.out,if_neg HMEM.out,if_neg k1,if_pos k2]
  have q2:(x.kind==2)=true:=by simp[k2]
  have d1:=yE HNM.out.1;have d2:=yE HNM.out.2;have n1:¬ 9223372036854775807<4+(decB x.low).size:=by omega
  have n2:¬ 9223372036854775807<4+(decB x.low).size+2:=by omega
  have n3:¬ 9223372036854775807<4+(decB x.low).size+2+(decB x.high).size:=by omega
  have n4:¬ 9223372036854775807<4+(decB x.low).size+2+(decB x.high).size+1:=by omega
  clear k1 k2 d1 d2;go_upto_region 11 with fail
  refine yK (S:=(fun w'=>(w'.cell? ⟨w.heap.size,0,none⟩=some (.slice (some ⟨b,o,none⟩) s.length c)∧w'.cell? ⟨w.heap.size+1+1,0,none⟩=some (.int .i64 x.kind)∧w'.cell? ⟨w.heap.size+1+1,1,none⟩=some (.string x.name)∧w'.cell? ⟨w.heap.size+1+1,2,none⟩=some (.int .i64 x.low)∧w'.cell? ⟨w.heap.size+1+1,3,none⟩=some (.int .i64 x.high)∧w'.cell? ⟨w.heap.size+1+1,4,none⟩=some (.int .i64 x.max)∧w'.cell? ⟨w.heap.size+1+1,7,none⟩=some (.int .i64 x.key)∧w'.cell? ⟨w.heap.size+1+1,8,none⟩=some (.int .i64 x.elem))∧Hid (UsB w x As cs Am cm b o s.length c w'))) 11 (by kernel_rfl) ?_ (fun zH_=>?_)
  ·(try dsimp only);exact (HU8.out.below (zC (Below.refl _ _) 1)).hold
  refine tC 0 ?_;refine tB 1 ?_;refine tC 5 ?_;refine tB 6 ?_;refine tS 2 (fun K hK=>?_)
  go_simp
  (refine (digits_any x.low HNM.out.1 _).mono ?_;rintro e w9 ⟨rfl,rfl⟩)
  refine hK.out _ _ ?_ (fun zH_=>?_)
  ·(try dsimp only);exact zH_
  clear hK K;try simp only[ps]
  refine tC 3 ?_;refine tC 4 ?_;refine tS 7 (fun K hK=>?_)
  go_simp
  (refine (digits_any x.high HNM.out.2 _).mono ?_;rintro e w10 ⟨rfl,rfl⟩;have HU9:=zh zH_.2.out)
  refine hK.out _ _ ?_ (fun zH_=>?_)
  ·(try dsimp only);exact zH_
  clear hK K;refine tC 8 ?_;refine tC 9 ?_;refine tC 10 ?_;try simp only[ps]
  refine yQ (rs:=[11]) (by kernel_rfl) (by simp) ?_
  refine AllReadyB.last rfl (by kernel_rfl) (fun K hK=>?_) AllReadyB.nil
  (simp only[List.getElem_toArray,List.getElem_cons_zero,List.getElem_cons_succ];rw[if_pos (by rfl)];refine wp_store_mid 74 (.tmp 6) (.tmp 49) rfl (w.heap.size+1) (0) (#[.string (intT x),.bool false,.bool false]) (by rfl) (by rfl) ?_ ?_ ?_ ?_;(exact yM HU9.out.res);(exact txt_info);(exact txt_one (intT x,false,false)))
  refine hK.out _ _ ?_;clear hK K
  (try clear zH_)
  refine wpAny_done (by kernel_rfl) ?_ _
  obtain ⟨⟨r0,r1,r2⟩,hbe⟩:=txt_end HU9.out.bel (Nat.le_succ _) HU9.out.res (intT x,false,false);go_wp2;refine bodyPost_ret (v:=tv (intT x,false,false)) (by simp[results,Tryz.results54,go_sem,r0,r1,r2]) rfl ⟨by rw[HUE.out],hbe⟩
 have q2:(x.kind==2)=false:=by simp[k2]
 by_cases k3:x.kind=3
 ·have HUE:Hid (useD s (f+1) path (tn:Int)=(strT x,false,false)):=by
   show _=_
   rw[useD,HTX.out,if_neg HNM0.out,if_neg HMEM.out,if_neg k1,if_neg k2,if_pos k3]
  have q3:(x.kind==3)=true:=by simp[k3]
  have d1:=HMZ.out;have n1:¬ 9223372036854775807<7+(decB x.max).size:=by omega
  have n2:¬ 9223372036854775807<7+(decB x.max).size+1:=by omega
  clear k1 k2 k3 d1;go_wp2_with fail;refine (digits_any x.max HMX.out _).mono ?_;rintro e w9 ⟨rfl,rfl⟩;go_wp2_with (refine wpList_store_mid rfl 74 (.tmp 6) (.tmp 57) rfl (w.heap.size+1) 0 #[.string (strT x),.bool false,.bool false] (by rfl) (by rfl) ?_ ?_ ?_ ?_;(exact yM HU8.out.res);(exact txt_info);(exact txt_one ((strT x),false,false)))
  obtain ⟨⟨r0,r1,r2⟩,hbe⟩:=txt_end HU8.out.bel (Nat.le_succ _) HU8.out.res (strT x,false,false);go_wp2;refine bodyPost_ret (v:=tv (strT x,false,false)) (by simp[results,Tryz.results54,go_sem,r0,r1,r2]) rfl ⟨by rw[HUE.out],hbe⟩
 have q3:(x.kind==3)=false:=by simp[k3]
 by_cases k7:x.kind=7
 ·have HC:Hid (compK (tyAt s (tn:Int)).kind):=by show compK _;rw[HTX.out];exact .inl k7
  have HER:Hid (0≤x.elem∧x.elem<(s.length:Int)):=by
   have:=yP HV.out HR.out HC.out;rw[HTX.out] at this;exact this
  have HUE:Hid (useD s (f+1) path (tn:Int)=joinD ⟨#[108,105,115,116,40]⟩ (useD s f (path++[(tn:Int)]) x.elem) ⟨#[]⟩ noT (limT x)):=by
   show _=_
   rw[useD,HTX.out,if_neg HNM0.out,if_neg HMEM.out,if_neg k1,if_neg k2,if_neg k3,if_pos k7]
  have q7:(x.kind==7)=true:=by simp[k7]
  have HUL:=zh (use_le HV.out HN.out f (path++[(tn:Int)]) x.elem HER.out);obtain ⟨U,hU⟩:∃U,U=useD s f (path++[(tn:Int)]) x.elem:=⟨_,rfl⟩;rw[←hU] at HUE HUL;have HUU:=zh hU;have HJ:Hid ((⟨#[108,105,115,116,40]⟩:ByteArray).size+U.1.size+(⟨#[]⟩:ByteArray).size+noT.1.size+(limT x).size≤100000000000000):=by
   have h1:=HUL.out;have h2:=HLM.out
   show 5+_+0+0+_≤_
   omega
  clear k1 k2 k3 k7 hU;go_upto_region 15 with fail
  refine yK (S:=(fun w'=>(w'.cell? ⟨w.heap.size,0,none⟩=some (.slice (some ⟨b,o,none⟩) s.length c)∧w'.cell? ⟨w.heap.size+1+1,0,none⟩=some (.int .i64 x.kind)∧w'.cell? ⟨w.heap.size+1+1,1,none⟩=some (.string x.name)∧w'.cell? ⟨w.heap.size+1+1,2,none⟩=some (.int .i64 x.low)∧w'.cell? ⟨w.heap.size+1+1,3,none⟩=some (.int .i64 x.high)∧w'.cell? ⟨w.heap.size+1+1,4,none⟩=some (.int .i64 x.max)∧w'.cell? ⟨w.heap.size+1+1,7,none⟩=some (.int .i64 x.key)∧w'.cell? ⟨w.heap.size+1+1,8,none⟩=some (.int .i64 x.elem))∧Hid (UsB w x As cs Am cm b o s.length c w'∧Below w8.heap.size w8 w'))) 12 (by kernel_rfl) ?_ (fun zH_=>?_)
  ·(try dsimp only);exact (HU8.out.below (zC (Below.refl _ _) 1)).hold2 (zC (Below.refl _ _) 1)
  refine tB 0 ?_;refine tC 1 ?_;refine tB 2 ?_;refine tC 3 ?_;refine tC 5 ?_;try simp only[ps]
  refine tC 6 ?_;refine tB 7 ?_;refine tS 4 (fun K hK=>?_)
  go_simp
  (refine (HIH2.out x.elem _ HER.out (HS.out.below zH_.2.out.1.bel) (HP3.out.below zH_.2.out.2)).mono ?_;rintro e w9 ⟨rfl,hb9⟩;rw[←HUU.out];have HU9:=zh (zH_.2.out.1.below hb9);have HW9:=zh (zB zH_.2.out.2 hb9);clear hb9)
  refine hK.out _ _ ?_ (fun zH_=>?_)
  ·(try dsimp only);exact HU9.out.hold2 HW9.out
  clear hK K;refine tS 8 (fun K hK=>?_)
  go_simp
  (refine (digits_any x.max HMX.out _).mono ?_;rintro e w10 ⟨rfl,rfl⟩)
  refine hK.out _ _ ?_ (fun zH_=>?_)
  ·(try dsimp only);exact zH_
  clear hK K;refine tC 9 ?_;refine tC 10 ?_;try simp only[ps]
  refine tS 11 (fun K hK=>?_)
  go_simp
  (refine (joined_any ⟨#[108,105,115,116,40]⟩ ⟨#[]⟩ (limT x) U noT _ HJ.out).mono ?_;rintro e w11 ⟨rfl,hb11⟩;have HU11:=zh (zH_.2.out.1.below hb11);have HW11:=zh (zB zH_.2.out.2 hb11);clear hb11)
  refine hK.out _ _ ?_ (fun zH_=>?_)
  ·(try dsimp only);exact HU11.out.hold2 HW11.out
  clear hK K;refine yQ (rs:=[12]) (by kernel_rfl) (by simp) ?_
  refine AllReadyB.last rfl (by kernel_rfl) (fun K hK=>?_) AllReadyB.nil
  (simp only[List.getElem_toArray,List.getElem_cons_zero,List.getElem_cons_succ];rw[if_pos (by rfl)];refine wp_store_mid 74 (.tmp 6) (.tmp 71) rfl (w.heap.size+1) (0) (#[.string (joinD ⟨#[108,105,115,116,40]⟩ U ⟨#[]⟩ noT (limT x)).1,.bool (joinD ⟨#[108,105,115,116,40]⟩ U ⟨#[]⟩ noT (limT x)).2.1,.bool (joinD ⟨#[108,105,115,116,40]⟩ U ⟨#[]⟩ noT (limT x)).2.2]) (by rfl) (by rfl) ?_ ?_ ?_ ?_;(exact yM HU11.out.res);(exact txt_info);(exact txt_one (joinD ⟨#[108,105,115,116,40]⟩ U ⟨#[]⟩ noT (limT x))))
  refine hK.out _ _ ?_;clear hK K
  (try clear zH_)
  refine wpAny_done (by kernel_rfl) ?_ _
  obtain ⟨⟨r0,r1,r2⟩,hbe⟩:=txt_end HU11.out.bel (Nat.le_succ _) HU11.out.res (joinD ⟨#[108,105,115,116,40]⟩ U ⟨#[]⟩ noT (limT x));go_wp2;refine bodyPost_ret (v:=tv (joinD ⟨#[108,105,115,116,40]⟩ U ⟨#[]⟩ noT (limT x))) (by simp[results,Tryz.results54,go_sem,r0,r1,r2]) rfl ⟨by rw[HUE.out],hbe⟩
 have q7:(x.kind==7)=false:=by simp[k7]
 by_cases k8:x.kind=8
 ·have HC:Hid (compK (tyAt s (tn:Int)).kind):=by show compK _;rw[HTX.out];exact .inr (.inl k8)
  have HER:Hid (0≤x.elem∧x.elem<(s.length:Int)):=by
   have:=yP HV.out HR.out HC.out;rw[HTX.out] at this;exact this
  have HKR:Hid (0≤x.key∧x.key<(s.length:Int)):=by
   have:=(key_rng HV.out HR.out (by rw[HTX.out];exact k8)).1
   rw[HTX.out] at this;exact this
  have HUE:Hid (useD s (f+1) path (tn:Int)=joinD ⟨#[109,97,112,40]⟩ (useD s f (path++[(tn:Int)]) x.key) ⟨#[44,32]⟩ (useD s f (path++[(tn:Int)]) x.elem) (limT x)):=by
   show _=_
   rw[useD,HTX.out,if_neg HNM0.out,if_neg HMEM.out,if_neg k1,if_neg k2,if_neg k3,if_neg k7,if_pos k8]
  have q8:(x.kind==8)=true:=by simp[k8]
  have HUL:=zh (use_le HV.out HN.out f (path++[(tn:Int)]) x.key HKR.out);have HTL:=zh (use_le HV.out HN.out f (path++[(tn:Int)]) x.elem HER.out);obtain ⟨U,hU⟩:∃U,U=useD s f (path++[(tn:Int)]) x.key:=⟨_,rfl⟩;obtain ⟨T,hT⟩:∃T,T=useD s f (path++[(tn:Int)]) x.elem:=⟨_,rfl⟩;rw[←hU,←hT] at HUE;rw[←hU] at HUL;rw[←hT] at HTL;have HUU:=zh hU;have HTT:=zh hT
  have HJ:Hid ((⟨#[109,97,112,40]⟩:ByteArray).size+U.1.size+(⟨#[44,32]⟩:ByteArray).size+T.1.size+(limT x).size≤100000000000000):=by
   have h1:=HUL.out;have h3:=HTL.out;have h2:=HLM.out
   show 4+_+2+_+_≤_
   omega
  clear k1 k2 k3 k7 k8 hU hT;go_upto_region 17 with fail
  refine yK (S:=(fun w'=>(w'.cell? ⟨w.heap.size,0,none⟩=some (.slice (some ⟨b,o,none⟩) s.length c)∧w'.cell? ⟨w.heap.size+1+1,0,none⟩=some (.int .i64 x.kind)∧w'.cell? ⟨w.heap.size+1+1,1,none⟩=some (.string x.name)∧w'.cell? ⟨w.heap.size+1+1,2,none⟩=some (.int .i64 x.low)∧w'.cell? ⟨w.heap.size+1+1,3,none⟩=some (.int .i64 x.high)∧w'.cell? ⟨w.heap.size+1+1,4,none⟩=some (.int .i64 x.max)∧w'.cell? ⟨w.heap.size+1+1,7,none⟩=some (.int .i64 x.key)∧w'.cell? ⟨w.heap.size+1+1,8,none⟩=some (.int .i64 x.elem))∧Hid (UsB w x As cs Am cm b o s.length c w'∧Below w8.heap.size w8 w'))) 16 (by kernel_rfl) ?_ (fun zH_=>?_)
  ·(try dsimp only);exact (HU8.out.below (zC (Below.refl _ _) 1)).hold2 (zC (Below.refl _ _) 1)
  refine tB 0 ?_;refine tC 1 ?_;refine tB 2 ?_;refine tC 3 ?_;try simp only[ps]
  refine tB 5 ?_;refine tC 6 ?_;refine tB 7 ?_;refine tC 8 ?_;refine tC 10 ?_;refine tB 11 ?_;try simp only[ps]
  refine tS 4 (fun K hK=>?_)
  go_simp
  (refine (HIH2.out x.key _ HKR.out (HS.out.below zH_.2.out.1.bel) (HP3.out.below zH_.2.out.2)).mono ?_;rintro e w9 ⟨rfl,hb9⟩;rw[←HUU.out];have HU9:=zh (zH_.2.out.1.below hb9);have HW9:=zh (zB zH_.2.out.2 hb9);clear hb9)
  refine hK.out _ _ ?_ (fun zH_=>?_)
  ·(try dsimp only);exact HU9.out.hold2 HW9.out
  clear hK K;refine tS 9 (fun K hK=>?_)
  go_simp
  (refine (HIH2.out x.elem _ HER.out (HS.out.below zH_.2.out.1.bel) (HP3.out.below zH_.2.out.2)).mono ?_;rintro e w10 ⟨rfl,hb10⟩;rw[←HTT.out];have HU10:=zh (zH_.2.out.1.below hb10);have HW10:=zh (zB zH_.2.out.2 hb10);clear hb10)
  refine hK.out _ _ ?_ (fun zH_=>?_)
  ·(try dsimp only);exact HU10.out.hold2 HW10.out
  clear hK K;refine tS 12 (fun K hK=>?_)
  go_simp
  (refine (digits_any x.max HMX.out _).mono ?_;rintro e w11 ⟨rfl,rfl⟩)
  refine hK.out _ _ ?_ (fun zH_=>?_)
  ·(try dsimp only);exact zH_
  clear hK K;refine tC 13 ?_;refine tC 14 ?_;refine tS 15 (fun K hK=>?_)
  go_simp
  (refine (joined_any ⟨#[109,97,112,40]⟩ ⟨#[44,32]⟩ (limT x) U T _ HJ.out).mono ?_;rintro e w12 ⟨rfl,hb12⟩;have HU12:=zh (zH_.2.out.1.below hb12);have HW12:=zh (zB zH_.2.out.2 hb12);clear hb12)
  refine hK.out _ _ ?_ (fun zH_=>?_)
  ·(try dsimp only);exact HU12.out.hold2 HW12.out
  clear hK K;try simp only[ps]
  refine yQ (rs:=[16]) (by kernel_rfl) (by simp) ?_
  refine AllReadyB.last rfl (by kernel_rfl) (fun K hK=>?_) AllReadyB.nil
  (simp only[List.getElem_toArray,List.getElem_cons_zero,List.getElem_cons_succ];rw[if_pos (by rfl)];refine wp_store_mid 74 (.tmp 6) (.tmp 89) rfl (w.heap.size+1) (0) (#[.string (joinD ⟨#[109,97,112,40]⟩ U ⟨#[44,32]⟩ T (limT x)).1,.bool (joinD ⟨#[109,97,112,40]⟩ U ⟨#[44,32]⟩ T (limT x)).2.1,.bool (joinD ⟨#[109,97,112,40]⟩ U ⟨#[44,32]⟩ T (limT x)).2.2]) (by rfl) (by rfl) ?_ ?_ ?_ ?_;(exact yM HU12.out.res);(exact txt_info);(exact txt_one (joinD ⟨#[109,97,112,40]⟩ U ⟨#[44,32]⟩ T (limT x))))
  refine hK.out _ _ ?_;clear hK K
  (try clear zH_)
  refine wpAny_done (by kernel_rfl) ?_ _
  obtain ⟨⟨r0,r1,r2⟩,hbe⟩:=txt_end HU12.out.bel (Nat.le_succ _) HU12.out.res (joinD ⟨#[109,97,112,40]⟩ U ⟨#[44,32]⟩ T (limT x));go_wp2;refine bodyPost_ret (v:=tv (joinD ⟨#[109,97,112,40]⟩ U ⟨#[44,32]⟩ T (limT x))) (by simp[results,Tryz.results54,go_sem,r0,r1,r2]) rfl ⟨by rw[HUE.out],hbe⟩
 have q8:(x.kind==8)=false:=by simp[k8]
 have hk9:x.kind=9:=by
  have h:=HK.out;have hn:=HNM0.out;unfold zL at hn;simp only[Bool.or_eq_true,decide_eq_true_eq] at hn
  omega
 have HC:Hid (compK (tyAt s (tn:Int)).kind):=by show compK _;rw[HTX.out];exact .inr (.inr hk9)
 have HER:Hid (0≤x.elem∧x.elem<(s.length:Int)):=by
  have:=yP HV.out HR.out HC.out;rw[HTX.out] at this;exact this
 have HUE:Hid (useD s (f+1) path (tn:Int)=joinD ⟨#[111,112,116,105,111,110,97,108,40]⟩ (useD s f (path++[(tn:Int)]) x.elem) ⟨#[]⟩ noT ⟨#[41]⟩):=by
  show _=_
  rw[useD,HTX.out,if_neg HNM0.out,if_neg HMEM.out,if_neg k1,if_neg k2,if_neg k3,if_neg k7,if_neg k8]
 have HUL:=zh (use_le HV.out HN.out f (path++[(tn:Int)]) x.elem HER.out);obtain ⟨U,hU⟩:∃U,U=useD s f (path++[(tn:Int)]) x.elem:=⟨_,rfl⟩;rw[←hU] at HUE HUL;have HUU:=zh hU;have HJ:Hid ((⟨#[111,112,116,105,111,110,97,108,40]⟩:ByteArray).size+U.1.size+(⟨#[]⟩:ByteArray).size+noT.1.size+(⟨#[41]⟩:ByteArray).size≤100000000000000):=by
  have h1:=HUL.out
  show 9+_+0+0+1≤_
  omega
 clear k1 k2 k3 k7 k8 hU hk9;go_wp2_with fail;refine (HIH2.out x.elem _ HER.out (HS.out.below HU8.out.bel) HP3.out).mono ?_;rintro e w9 ⟨rfl,hb9⟩;rw[←HUU.out];have HU9:=zh (HU8.out.below hb9);clear hb9;go_wp2_with fail;refine (joined_any ⟨#[111,112,116,105,111,110,97,108,40]⟩ ⟨#[]⟩ ⟨#[41]⟩ U noT _ HJ.out).mono ?_;rintro e w10 ⟨rfl,hb10⟩;have HU10:=zh (HU9.out.below hb10);clear hb10
 go_wp2_with (refine wpList_store_mid rfl 74 (.tmp 6) (.tmp 96) rfl (w.heap.size+1) 0 #[.string (joinD ⟨#[111,112,116,105,111,110,97,108,40]⟩ U ⟨#[]⟩ noT ⟨#[41]⟩).1,.bool (joinD ⟨#[111,112,116,105,111,110,97,108,40]⟩ U ⟨#[]⟩ noT ⟨#[41]⟩).2.1,.bool (joinD ⟨#[111,112,116,105,111,110,97,108,40]⟩ U ⟨#[]⟩ noT ⟨#[41]⟩).2.2] (by rfl) (by rfl) ?_ ?_ ?_ ?_;(exact yM HU10.out.res);(exact txt_info);(exact txt_one (joinD ⟨#[111,112,116,105,111,110,97,108,40]⟩ U ⟨#[]⟩ noT ⟨#[41]⟩)))
 obtain ⟨⟨r0,r1,r2⟩,hbe⟩:=txt_end HU10.out.bel (Nat.le_succ _) HU10.out.res (joinD ⟨#[111,112,116,105,111,110,97,108,40]⟩ U ⟨#[]⟩ noT ⟨#[41]⟩);go_wp2;refine bodyPost_ret (v:=tv (joinD ⟨#[111,112,116,105,111,110,97,108,40]⟩ U ⟨#[]⟩ noT ⟨#[41]⟩)) (by simp[results,Tryz.results54,go_sem,r0,r1,r2]) rfl ⟨by rw[HUE.out],hbe⟩
end Go.Proofs.YtdfolgmcggdjdaaGreatDoor


