/-
  Walks: awake.
-/
import Derived.Test.YtkhpajneinmmiaaGreatDoorQPL
import Derived.Test.YtkhpajneinmmiaaGreatDoorQEXG
import Derived.Test.YtkhpajneinmmiaaGreatDoorQDS1
namespace Go.Proofs.YtkhpajneinmmiaaGreatDoor
set_option maxHeartbeats 16000000
set_option maxRecDepth 100000
def relM (names:Bool) (a b:List TyD):Nat→List (List Bool)
 | 0=>fillM (alD names a b) a.length b.length a.length 0
 | n+1=>(sweep (okD a b) (yA b.length a.length 0) (relM names a b n,false)).1
theorem relM_tab (names:Bool) (a b:List TyD):∀n,TabInv (alD names a b) (okD a b) a.length b.length (relM names a b n)
 | 0=>fillM_tab fun _ _ h=>alD_lt h
 | n+1=>tab_sweep _ _ (okD_mono a b) _ (relM_tab names a b n)
theorem relM_done {names:Bool} {a b:List TyD} {n:Nat} (h:(sweep (okD a b) (yA b.length a.length 0) (relM names a b n,false)).2=false):GreatestR (alD names a b) (okD a b) (getB (relM names a b n)) :=
 (tab_done _ _ (relM_tab names a b n) h).1
def exT : List (List Bool) :=
  [[true, false, false, true, false, true, false, false], [false, true, false, false, false, false, false, false],
   [false, false, true, false, true, false, true, false], [true, false, false, true, false, true, false, false],
   [false, false, true, false, true, false, true, false], [true, false, false, true, false, true, false, false],
   [false, false, true, false, true, false, true, false], [false, false, false, false, false, false, false, true]]
theorem exT_is:relM false (exS 1) (exS 1) 0=exT:=by decide +kernel
theorem exT_done:(sweep (okD (exS 1) (exS 1)) (yA (exS 1).length (exS 1).length 0) (exT,false)).2=false:=by decide +kernel
theorem ex_great:GreatestR (alD false (exS 1) (exS 1)) (okD (exS 1) (exS 1)) (getB exT):=exT_is▸relM_done (n:=0) (by rw[exT_is];exact exT_done)
theorem ex_clsD:clsD (getB exT) (exS 1).length=[0,1,2,0,2,0,2,7]:=by decide +kernel
theorem ex_cls {l:List Int} (h:ClsIs (exS 1) l):l=[0,1,2,0,2,0,2,7]:=h.unique ⟨_,ex_great,ex_clsD.symm⟩
theorem ex_size {l:List TyD} (h:CanonIs (exS 1) 5 l):l.length=3:=by
 obtain ⟨cls,hc,rfl⟩:=h
 rw[ex_cls hc,canon_len]
 decide +kernel
theorem ex_root (t:Int) (h:0≤t∧t<8):zH (exS 1) t=0:=by
 unfold zH
 rw[if_neg (by rw[ex_valid1];simp),if_neg]
 have:((exS 1).length:Int)=8:=rfl
 omega
theorem ex_root7 (t:Int) (h:0≤t∧t<8):zH (exS 7) t=0:=by
 unfold zH
 rw[if_neg (by rw[ex_valid7];simp),if_neg]
 have:((exS 7).length:Int)=8:=rfl
 omega
theorem ex_wire {v:Bool} (h:EqvIs false (exS 1) 0 (exS 1) 3 v):v=true:=by
 obtain ⟨S,hS,e⟩:=h.1 (ex_root 0 (by omega)) (ex_root 3 (by omega))
 rw[e,hS.unique _ _ ex_great]
 decide +kernel
theorem ex_equiv {v:Bool} (h:EqvIs true (exS 1) 0 (exS 1) 3 v):v=false:=by
 obtain ⟨S,hS,e⟩:=h.1 (ex_root 0 (by omega)) (ex_root 3 (by omega))
 rw[e]
 cases hs:S (0:Int).toNat (3:Int).toNat with
 | false=>rfl
 | true =>
  have h1:=(hS.closed _ _ hs).1
  have h2:alD true (exS 1) (exS 1) (0:Int).toNat (3:Int).toNat=false:=by decide +kernel
  rw[h2] at h1;cases h1
def stepsOf (a b:List TyD) (t:Int×Int):List (Int×(Int×Int)) :=
 if zM false (tyAt a t.1) (tyAt b t.2) then (usesD (tyAt a t.1)).flatMap fun u=>(usesD (tyAt b t.2)).filterMap fun v=>if u.1=v.1 then some (u.1,(u.2,v.2)) else none else []
def walksN (a b:List TyD) (r:Int×Int):Nat→List (List Int×(Int×Int))
 | 0=>[([],r)]
 | n+1=>(walksN a b r n).flatMap fun w=>(stepsOf a b w.2).map fun e=>(w.1++[e.1],e.2)
theorem mem_steps {a b:List TyD} {t:Int×Int} {st:Int} {t':Int×Int} (h:NxE a b t st t'):(st,t')∈stepsOf a b t:=by
 obtain ⟨h1,h2,h3⟩:=h
 unfold stepsOf
 rw[h1,if_pos rfl]
 exact List.mem_flatMap.2 ⟨_,h2,List.mem_filterMap.2 ⟨_,h3,by simp⟩⟩
theorem steps_mem {a b:List TyD} {t:Int×Int} {st:Int} {t':Int×Int} (h:(st,t')∈stepsOf a b t):NxE a b t st t':=by
 unfold stepsOf at h
 split at h
 ·rename_i h1
  obtain ⟨u,hu,h2⟩:=List.mem_flatMap.1 h
  obtain ⟨v,hv,h3⟩:=List.mem_filterMap.1 h2
  split at h3
  ·rename_i e
   injection h3 with h3
   injection h3 with h4 h5
   subst h4;subst h5
   refine ⟨h1,hu,?_⟩
   rw[e];exact hv
  ·cases h3
 ·cases h
theorem mem_walks {a b:List TyD} {r:Int×Int}:∀ (n:Nat) (l:List Int) (t:Int×Int),l.length=n→Wk (NxE a b) r l t→(l,t)∈walksN a b r n
 | 0,l,t,hl,hw=>by
  obtain rfl:l=[]:=List.eq_nil_of_length_eq_zero hl
  cases hw
  exact List.mem_singleton.2 rfl
 | n+1,l,t,hl,hw=>by
  obtain ⟨m,st,t2,rfl,h1,h2⟩:=hw.last (by intro e;rw[e] at hl;simp at hl)
  have:=mem_walks n m t2 (by simpa using hl) h1
  exact List.mem_flatMap.2 ⟨_,this,List.mem_map.2 ⟨_,mem_steps h2,rfl⟩⟩
theorem walks_mem {a b:List TyD} {r:Int×Int}:∀ (n:Nat) (w:List Int×(Int×Int)),w∈walksN a b r n→Wk (NxE a b) r w.1 w.2
 | 0,w,h=>by
  obtain rfl:w=([],r):=List.mem_singleton.1 h
  exact .nil _
 | n+1,w,h=>by
  obtain ⟨v,hv,h2⟩:=List.mem_flatMap.1 h
  obtain ⟨e,he,rfl⟩:=List.mem_map.1 h2
  exact (walks_mem n v hv).snoc (steps_mem he)
def sleB (l m:List Int):Bool:=decide (l.length<m.length)||(decide (l.length=m.length) && !ltL m l)
theorem sleB_iff {l m:List Int}:sleB l m=true↔sle l m:=by
 unfold sleB sle
 simp
theorem ex_best:Best (NxE (exS 1) (exS 7)) (BadP (exS 1) (exS 7)) (0,3) [2,-1,1]:=by
 constructor
 ·have h:((walksN (exS 1) (exS 7) (0,3) 3).find? fun w=>decide (w.1=[2,-1,1]) && !zM false (tyAt (exS 1) w.2.1) (tyAt (exS 7) w.2.2)).isSome=true:=by decide +kernel
  obtain ⟨w,hw⟩:=Option.isSome_iff_exists.1 h
  have h1:=List.mem_of_find?_eq_some hw
  have h2:=List.find?_some hw
  simp only[Bool.and_eq_true,decide_eq_true_eq,Bool.not_eq_true'] at h2
  exact ⟨w.2,h2.1▸walks_mem 3 w h1,h2.2⟩
 ·intro l' t' hw hb
  by_cases hl:l'.length<4
  ·have h:((List.range 4).all fun n=>(walksN (exS 1) (exS 7) (0,3) n).all fun w=>zM false (tyAt (exS 1) w.2.1) (tyAt (exS 7) w.2.2)||sleB [2,-1,1] w.1)=true:=by decide +kernel
   have h1:=List.all_eq_true.1 h l'.length (List.mem_range.2 hl)
   have h2:=List.all_eq_true.1 h1 (l',t') (mem_walks _ l' t' rfl hw)
   unfold BadP at hb
   simp only[hb,Bool.false_or] at h2
   exact sleB_iff.1 h2
  ·exact .inl (by simp;omega)
theorem ex_dist {l:List Int} {e:Int} (h:DistIs (exS 1) 0 (exS 7) 3 l e):l=[2,-1,1]∧e=0:=by
 refine h.unique ?_
 unfold DistIs
 rw[if_neg (by rw[ex_root 0 (by omega)];simp),if_neg (by rw[ex_root7 3 (by omega)];simp)]
 exact .inl ⟨rfl,ex_best⟩
open Go.RowKit
theorem ints_new (w:World) (l:List Int) (hl:l.length≤1000):IntsR (w.alloc (.cells (l.map (Value.int .i64)).toArray 3)) (some ⟨w.heap.size,0,none⟩) l:=by
 refine ⟨by unfold Lim;omega,fun _=>⟨_,_,rfl,fun i x hx=>⟨encI x,rfl,fun j u hj=>?_⟩⟩⟩
 have hj0:j=0:=by
  have:=(List.getElem?_eq_some_iff.1 hj).1
  unfold encI at this;simp at this;omega
 subst hj0
 have hu:u = .int .i64 x:=by unfold encI at hj;simpa using hj.symm
 subst hu
 rw[cell_of_row _ _ _ _ _ _ (heap_alloc_new w _)]
 simp[hx]
theorem awake_any (w:World) (htab:Tab w):Calls Tryz.prog 12 #[] w (SamePost true w):=by
 have HTB:=zh htab
 clear htab
 go_enter Tryz.func12,Tryz.ntmps12
 go_wp2_with fail
 refine (example_any 1 _).mono ?_
 rintro e w1 ⟨A1,c1,rfl,hs1,hb1⟩
 have HS1:=zh hs1
 have HB1:=zh hb1
 clear hs1 hb1
 go_wp2_with fail
 refine (example_any 7 _).mono ?_
 rintro e w2 ⟨A2,c2,rfl,hs2,hb2⟩
 have HS2:=zh (hs2.below (zC w2 (.cells #[.slice A1 (exS 1).length c1] 30) (.cells #[.slice A2 (exS 7).length c2] 30)))
 have HS1':=zh ((HS1.out.below hb2).below (zC w2 (.cells #[.slice A1 (exS 1).length c1] 30) (.cells #[.slice A2 (exS 7).length c2] 30)))
 have HB2:=zh (zA (zA HB1.out hb2) (zC w2 (.cells #[.slice A1 (exS 1).length c1] 30) (.cells #[.slice A2 (exS 7).length c2] 30)))
 have HE1:Hid (((w2.alloc (.cells #[.slice A1 (exS 1).length c1] 30)).alloc (.cells #[.slice A2 (exS 7).length c2] 30)).cell? ⟨w2.heap.size,0,none⟩=some (.slice A1 (exS 1).length c1)):=by
  show _=_
  rw[cell_of_row _ _ _ _ _ _ (yS (heap_alloc_new w2 _) _)];rfl
 have HE2:Hid (((w2.alloc (.cells #[.slice A1 (exS 1).length c1] 30)).alloc (.cells #[.slice A2 (exS 7).length c2] 30)).cell? ⟨w2.heap.size+1,0,none⟩=some (.slice A2 (exS 7).length c2)):=by
  show _=_
  have h:=heap_alloc_new (w2.alloc (.cells #[.slice A1 (exS 1).length c1] 30)) (.cells #[.slice A2 (exS 7).length c2] 30)
  rw[show (w2.alloc (.cells #[.slice A1 (exS 1).length c1] 30)).heap.size=w2.heap.size+1 by simp] at h
  rw[cell_of_row _ _ _ _ _ _ h];rfl
 clear hs2 hb2
 go_wp2_with fail
 generalize (w2.alloc (.cells #[.slice A1 (exS 1).length c1] 30)).alloc (.cells #[.slice A2 (exS 7).length c2] 30)=W at *
 refine (classes_any (exS 1) A1 c1 _ HS1'.out).mono ?_
 rintro e w3 ⟨v3,l3,rfl,ho3,hc3,_,hb3⟩
 rw[ex_valid1]
 obtain rfl:=ex_cls (hc3 ex_valid1)
 obtain ⟨A3,c3,rfl,hi3⟩:=OwnI.ints ho3 (by unfold Lim;simp)
 have HI3:=zh hi3
 have HB3:=zh hb3
 have e1:=zB HB3.out HE1.out
 have e2:=zB HB3.out HE2.out
 clear ho3 hc3 hi3 hb3
 go_wp2_with fail
 refine (distinguish_any (exS 1) 0 (exS 7) 3 A1 c1 A2 c2 _ (HS1'.out.below HB3.out) (HS2.out.below HB3.out)).mono ?_
 rintro e w4 ⟨A4,c4,l4,err,rfl,hi4,hd4,hb4⟩
 obtain ⟨rfl,rfl⟩:=ex_dist hd4
 have HI4:=zh hi4
 have HB4:=zh (zA HB3.out hb4)
 have HI3b:=zh (HI3.out.below hb4)
 replace e1:=zB hb4 e1
 replace e2:=zB hb4 e2
 clear hi4 hd4 hb4
 go_wp2_with fail
 refine (size_any (exS 1) 5 A1 c1 _ (HS1'.out.below HB4.out) (HTB.out.below (zA HB2.out HB4.out))).mono ?_
 rintro e w5 ⟨l5,rfl,hc5,_,hb5⟩
 rw[ex_root 5 (by omega),ex_size (hc5 (ex_root 5 (by omega)))]
 have HB5:=zh (zA HB4.out hb5)
 have HI3c:=zh (HI3b.out.below hb5)
 have HI4c:=zh (HI4.out.below hb5)
 replace e1:=zB hb5 e1
 clear hc5 hb5 e2
 go_wp2_with fail
 refine (equalInts_any [0,1,2,0,2,0,2,7] [0,1,2,0,2,0,2,7] A3 (some ⟨w5.heap.size,0,none⟩) c3 8 _ (HI3c.out.below (zD _ _)) (ints_new w5 [0,1,2,0,2,0,2,7] (by decide))).mono ?_
 rintro e w6 ⟨rfl,hb6⟩
 rw[decide_eq_true rfl]
 have HB6:=zh (zA (zD w5 _) hb6)
 have HI4d:=zh (HI4c.out.below HB6.out)
 have HB6':=zh (zA HB5.out HB6.out)
 replace e1:=zB HB6.out e1
 clear hb6
 go_wp2_with fail
 refine (equalInts_any [2,-1,1] [2,-1,1] A4 (some ⟨w6.heap.size,0,none⟩) c4 3 _ (HI4d.out.below (zD _ _)) (ints_new w6 [2,-1,1] (by decide))).mono ?_
 rintro e w7 ⟨rfl,hb7⟩
 rw[decide_eq_true rfl]
 have HB7:=zh (zA (zD w6 _) hb7)
 have HB7':=zh (zA HB6'.out HB7.out)
 replace e1:=zB HB7.out e1
 clear hb7
 go_wp2_with fail
 refine (wire_any (exS 1) 0 (exS 1) 3 A1 c1 A1 c1 _ (HS1'.out.below HB7'.out) (HS1'.out.below HB7'.out)).mono ?_
 rintro e w8 ⟨v8,rfl,hv8,hb8⟩
 obtain rfl:=ex_wire hv8
 have HB8':=zh (zA HB7'.out hb8)
 replace e1:=zB hb8 e1
 clear hb8 hv8
 go_wp2_with fail
 refine (equivalent_any (exS 1) 0 (exS 1) 3 A1 c1 A1 c1 _ (HS1'.out.below HB8'.out) (HS1'.out.below HB8'.out)).mono ?_
 rintro e w9 ⟨v9,rfl,hv9,hb9⟩
 obtain rfl:=ex_equiv hv9
 have HB9':=zh (zA HB2.out (zA HB8'.out hb9))
 clear hb9 hv9
 go_wp2
 go_ret
 exact ⟨rfl,HB9'.out⟩
end Go.Proofs.YtkhpajneinmmiaaGreatDoor


