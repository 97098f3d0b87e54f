/-
  Walks: value.Defaults where there are no defaults; names that are type words; the types that declarations use; the error of a schema that is written.
-/
import Derived.Test.YtdfolgmcggdjdaaGreatDoorQYW8
namespace Go.Proofs.YtdfolgmcggdjdaaGreatDoor
open Go.RowKit
set_option maxHeartbeats 16000000
set_option maxRecDepth 100000
def NoDef (s:List TyD):Prop:=∀t∈s,∀m∈t.mems,m.hasDef=false
theorem defaults_any (s:List TyD) (A:Option Addr) (c:Nat) (hd:NoDef s) (w:World) (hs:TysR w A s) :
  Calls Tryz.prog 58 #[.agg #[.slice A s.length c]] w fun e w'=>e = .returned (.tuple #[.int .i64 0,.int .i64 0,.int .i64 (zG s)])∧Below w.heap.size w w':=by
 have hln:=hs.1.lt (by omega)
 have HS:=zh hs
 have HD:=zh hd
 have HB0:=zh (zD w (.cells #[.slice A s.length c] 27))
 have HX0:=zh (heap_alloc_new w (.cells #[.slice A s.length c] 27))
 clear hs hd
 go_enter Tryz.func58,Tryz.ntmps58
 go_wp2_with fail
 generalize w.alloc (.cells #[.slice A s.length c] 27)=W1 at *
 refine (valid_any s A c W1 (HS.out.below HB0.out)).mono ?_
 rintro e w1 ⟨rfl,hb1⟩
 have HB1:=zh (zA HB0.out hb1)
 have HX1:=zh ((hb1.block _ (zg.1 HX0.out).1).trans HX0.out)
 have x0:w1.cell? ⟨w.heap.size,0,none⟩=some (.slice A s.length c):=by rw[cell_of_row _ _ _ _ _ _ HX1.out];rfl
 clear hb1
 by_cases hv:zG s=0
 case neg =>
  have q1:(zG s != 0)=true:=by simp[hv]
  clear hv
  go_wp2
  refine bodyPost_ret (v := .tuple #[.int .i64 0,.int .i64 0,.int .i64 (zG s)]) (by simp[results,Tryz.results58,go_sem]) rfl ⟨rfl,HB1.out⟩
 have HV:=zh hv
 rw[hv]
 clear hv
 go_wp2_with fail
 go_loopw [18] (fun i wr=>∃k:Nat,k≤s.length∧i = .int .i64 (k:Int)∧Hid (Below w.heap.size w wr)) (fun i _=>s.length - (intOf i).toNat)
 case atStart=>exact ⟨0,by omega,rfl,HB1.out⟩
 case round =>
  obtain ⟨k,hk,rfl,hh⟩:=hrel
  obtain ⟨wk,rfl⟩:∃wk:World,wk=wr:=⟨_,rfl⟩
  by_cases hlt:k<s.length
  ·obtain ⟨b,o,As,cs,Am,cm,rfl,htr,t0,t1,t2,t3,t4,t5,t6,t7,t8,t9⟩:=(HS.out.below hh.out).at10 hlt
   have HTR:=zh htr
   have h1:(0:Int)≤(k:Int):=by omega
   have h2:(k:Int)<(s.length:Int):=by omega
   have HDM:=zh (HD.out _ (List.getElem_mem hlt))
   generalize s[k]=x at *
   have hml:=htr.mems.1.lt (by omega)
   clear htr
   have HBX:=zh (zA hh.out (zD wk (x.box As cs Am cm)))
   have HXX:=zh (heap_alloc_new wk (x.box As cs Am cm))
   have HTX:=zh (HTR.out.below (zD wk (x.box As cs Am cm)))
   go_upto_region 7 with fail
   clear t0 t1 t2 t3 t4 t5 t6 t7 t8 t9
   generalize wk.alloc (x.box As cs Am cm)=W2 at *
   have m6:W2.cell? ⟨wk.heap.size,6,none⟩=some (.slice Am x.mems.length cm):=by rw[cell_of_row _ _ _ _ _ _ HXX.out];rfl
   go_wp2_with fail
   go_loopw [26] (fun i wr=>∃m:Nat,m≤x.mems.length∧i = .int .i64 (m:Int)∧Hid (Below W2.heap.size W2 wr)) (fun i _=>x.mems.length - (intOf i).toNat)
   case atStart=>exact ⟨0,by omega,rfl,Below.refl _ _⟩
   case round =>
    obtain ⟨m,hm,rfl,hh2⟩:=hrel
    obtain ⟨wm,rfl⟩:∃wm:World,wm=wr:=⟨_,rfl⟩
    by_cases hlm:m<x.mems.length
    ·obtain ⟨b2,o2,E1,k1,E2,k2,E3,k3,rfl,hmr,d0,d1,d2,d3,d4,d5,d6,d7,d8,d9,d10,d11,d12⟩:=((HTX.out.below hh2.out).mems).at13 hlm
     have hdf:=HDM.out _ (List.getElem_mem hlm)
     have g1:(0:Int)≤(m:Int):=by omega
     have g2:(m:Int)<(x.mems.length:Int):=by omega
     generalize x.mems[m]=y at *
     rw[hdf] at d4
     clear hdf hmr
     have HBM:=zh (fun o=>zA hh2.out (zD wm o))
     go_wp2
     go_roundw
     case rel=>exact ⟨m+1,by omega,by go_num,HBM.out _⟩
     case measure=>simp[intOf];omega
    ·have HBM:=zh (zA HBX.out hh2.out)
     go_wp2
     go_roundw
     case rel=>exact ⟨k+1,by omega,by go_num,HBM.out⟩
     case measure=>simp[intOf];omega
  ·have HBK:=zh hh.out
   go_wp2
   refine bodyPost_ret (v := .tuple #[.int .i64 0,.int .i64 0,.int .i64 0]) (by simp[results,Tryz.results58,go_sem]) rfl ⟨by rw[HV.out],HBK.out⟩
def badW (t:TyD):Bool:=zH t.kind&&wordD t.name
theorem checked1_any (t:TyD) (As:Option Addr) (cs:Nat) (Am:Option Addr) (cm:Nat) (w:World) :
  Calls Tryz.prog 60 #[t.v As cs Am cm] w fun e w'=>e = .returned (.bool (badW t))∧Below w.heap.size w w':=by
 have HX:=zh (heap_alloc_new w (t.box As cs Am cm))
 have HB:=zh (zD w (t.box As cs Am cm))
 obtain ⟨b0,b1,_⟩:=bx_cells HX.out
 go_enter Tryz.func60,Tryz.ntmps60
 go_wp2_with fail
 generalize w.alloc (t.box As cs Am cm)=W1 at *
 refine (prNamed_any t.kind W1).mono ?_
 rintro e w1 ⟨rfl,rfl⟩
 have HBW:Hid (badW t=(zH t.kind&&wordD t.name)):=rfl
 cases hn:zH t.kind with
 | false =>
  rw[hn] at HBW
  clear hn
  go_wp2
  go_ret
  exact ⟨by rw[HBW.out];rfl,HB.out⟩
 | true =>
  rw[hn] at HBW
  clear hn
  go_wp2_with fail
  refine (word_any t.name _).mono ?_
  rintro e w2 ⟨rfl,hb2⟩
  have HB2:=zh (zA HB.out hb2)
  clear hb2
  go_wp2
  go_ret
  exact ⟨by rw[HBW.out,Bool.true_and];rfl,HB2.out⟩
theorem indexT_any (s:List TyD) (A:Option Addr) (c:Nat) (w:World) (hs:TysR w A s) :
  Calls Tryz.prog 89 #[.slice A s.length c,.func (.func 60) #[] #[]] w fun e w'=>∃k:Int,e = .returned (.int .i64 k)∧decide (0≤k)=s.any badW∧Below w.heap.size w w':=by
 have hln:=hs.1.lt (by omega)
 have HS:=zh hs
 clear hs
 go_enter Tryz.func89,Tryz.ntmps89
 go_wp2
 go_loopw [5,8] (fun _ i wr=>∃k:Nat,k≤s.length∧i = .int .i64 (k:Int)∧Hid ((∀j (hj:j<s.length),j<k→badW s[j]=false)∧Below w.heap.size w wr)) (fun _ i _=>s.length - (intOf i).toNat)
 case atStart=>exact ⟨0,by omega,rfl,(fun j _ h=>absurd h (by omega)),Below.refl _ _⟩
 case round =>
  obtain ⟨k,hk,rfl,hh⟩:=hrel
  obtain ⟨wk,rfl⟩:∃wk:World,wk=wr:=⟨_,rfl⟩
  have HN:=zh hh.out.1
  have HB:=zh hh.out.2
  clear hh
  by_cases hlt:k<s.length
  ·obtain ⟨b,o,As,cs,Am,cm,rfl,htr,t0,t1,t2,t3,t4,t5,t6,t7,t8,t9⟩:=(HS.out.below HB.out).at10 hlt
   have h1:(0:Int)≤(k:Int):=by omega
   have h2:(k:Int)<(s.length:Int):=by omega
   have HSK:=zh (List.getElem_mem hlt)
   have HNX:Hid (badW s[k]=false→∀j (hj:j<s.length),j<k+1→badW s[j]=false):=fun h j hj hjk=>by
    by_cases e:j=k
    ·subst e;exact h
    ·exact HN.out j hj (by omega)
   have HAN:Hid (badW s[k]=true→s.any badW=true):=fun h=>List.any_eq_true.2 ⟨_,List.getElem_mem hlt,h⟩
   clear htr HSK
   generalize s[k]=x at *
   go_wp2_with fail
   refine (checked1_any x As cs Am cm wk).mono ?_
   rintro e w1 ⟨rfl,hb1⟩
   have HB1:=zh (zA HB.out hb1)
   clear hb1 t0 t1 t2 t3 t4 t5 t6 t7 t8 t9
   cases hw:badW x with
   | true =>
    have HA:=zh (HAN.out hw)
    go_wp2
    go_ret
    exact ⟨k,rfl,by rw[HA.out];simp,HB1.out⟩
   | false =>
    have HA:=zh (HNX.out hw)
    go_wp2
    go_roundw
    case rel=>exact ⟨k+1,by omega,by go_num,HA.out,HB1.out⟩
    case measure=>simp[intOf];omega
  ·have HA:Hid (s.any badW=false):=by
    show _=_
    rw[List.any_eq_false]
    intro t ht
    obtain ⟨j,hj,e⟩:=List.getElem_of_mem ht
    rw[←e,HN.out j hj (by omega)]
    simp
   go_wp2
   go_ret
   exact ⟨-1,rfl,by rw[HA.out];rfl,HB.out⟩
theorem containsT_any (s:List TyD) (A:Option Addr) (c:Nat) (w:World) (hs:TysR w A s) :
  Calls Tryz.prog 59 #[.slice A s.length c,.func (.func 60) #[] #[]] w fun e w'=>e = .returned (.bool (s.any badW))∧Below w.heap.size w w':=by
 have HS:=zh hs
 clear hs
 go_enter Tryz.func59,Tryz.ntmps59
 go_wp2_with fail
 refine (indexT_any s A c _ HS.out).mono ?_
 rintro e w1 ⟨k,rfl,hk,hb1⟩
 have HK:=zh hk
 have HB:=zh hb1
 clear hk hb1
 go_wp2
 go_ret
 exact ⟨by rw[←HK.out];simp,HB.out⟩
def usesL (s:List TyD):List Int:=s.flatMap fun t=>t.mems.map (·.type)
theorem mems_le {s:List TyD} (hv:zG s=0) {t:TyD} (ht:t∈s):t.mems.length≤16:=by
 have h:=(valid_tys hv ht).1
 unfold formD at h
 simp only[Bool.and_eq_true,decide_eq_true_eq] at h
 obtain ⟨⟨⟨⟨h1,h2⟩,h3⟩,h4⟩,h5⟩:=h
 have key:∀b,memsD b t.mems=true→t.mems.length≤16:=fun b hb=>by
  unfold memsD idsD at hb
  simp only[Bool.and_eq_true,decide_eq_true_eq,List.length_map] at hb
  exact hb.1.2.2
 by_cases k5:t.kind=5
 ·unfold caseD at h5
  rw[if_neg (by omega),if_neg (by omega),if_neg (by omega),if_pos k5] at h5
  exact key _ h5
 by_cases k6:t.kind=6
 ·unfold caseD at h5
  rw[if_neg (by omega),if_neg (by omega),if_neg (by omega),if_neg (by omega),if_pos k6] at h5
  exact key _ h5
 ·have:t.mems=[]:=by
   have hm:=congrArg TyD.mems h3
   rw[hm]
   unfold zO
   repeat' split
   all_goals first|rfl|(exfalso;omega)
  rw[this];simp
theorem flat_le {s:List TyD}:∀ (l:List TyD),(∀t∈l,t.mems.length≤16)→(usesL l).length≤16 * l.length
 | [],_=>by simp[usesL]
 | t::l,h=>by
  have h1:=h t List.mem_cons_self
  have h2:=flat_le (s:=s) l fun u hu=>h u (List.mem_cons_of_mem _ hu)
  unfold usesL at h2 ⊢
  rw[List.flatMap_cons,List.length_append,List.length_map,List.length_cons]
  omega
theorem prUses_any (s:List TyD) (A:Option Addr) (c:Nat) (hv:zG s=0) (w:World) (hs:TysR w A s) :
  Calls Tryz.prog 62 #[.agg #[.slice A s.length c]] w fun e w'=>∃B d,e = .returned (.slice B (usesL s).length d)∧IntsR w' B (usesL s)∧Below w.heap.size w w':=by
 have hls:=yD hv
 have HS:=zh hs
 have HV:=zh hv
 have HB0:=zh (zD w (.cells #[.slice A s.length c] 27))
 have HX0:=zh (heap_alloc_new w (.cells #[.slice A s.length c] 27))
 have HZ0:Hid (w.heap.size<(w.alloc (.cells #[.slice A s.length c] 27)).heap.size):=by show _<_;simp
 clear hs hv
 go_enter Tryz.func62,Tryz.ntmps62
 go_upto_region 1 with fail
 generalize w.alloc (.cells #[.slice A s.length c] 27)=W1 at *
 have x0:W1.cell? ⟨w.heap.size,0,none⟩=some (.slice A s.length c):=by rw[cell_of_row _ _ _ _ _ _ HX0.out];rfl
 go_wp2_with fail
 go_loopw [3,11] (fun v i wr=>∃k:Nat,k≤s.length∧i = .int .i64 (k:Int)∧Hid (OwnI wr W1.heap.size v (usesL (s.take k))∧Below W1.heap.size W1 wr)) (fun _ i _=>s.length - (intOf i).toNat)
 case atStart=>exact ⟨0,by omega,rfl,OwnL.nil _ _,Below.refl _ _⟩
 case round =>
  obtain ⟨k,hk,rfl,hh⟩:=hrel
  obtain ⟨wk,rfl⟩:∃wk:World,wk=wr:=⟨_,rfl⟩
  have HO:=zh hh.out.1
  have HB:=zh hh.out.2
  clear hh
  have HUL:=zh (flat_le (s:=s) (s.take k) fun t ht=>mems_le HV.out (List.mem_of_mem_take ht))
  have hul:(usesL (s.take k)).length≤512:=by have:=HUL.out;rw[List.length_take] at this;omega
  by_cases hlt:k<s.length
  ·obtain ⟨b,o,As,cs,Am,cm,rfl,htr,t0,t1,t2,t3,t4,t5,t6,t7,t8,t9⟩:=(HS.out.below HB0.out).at10 hlt
   replace t0:=zB HB.out t0
   replace t1:=zB HB.out t1
   replace t2:=zB HB.out t2
   replace t3:=zB HB.out t3
   replace t4:=zB HB.out t4
   replace t5:=zB HB.out t5
   replace t6:=zB HB.out t6
   replace t7:=zB HB.out t7
   replace t8:=zB HB.out t8
   replace t9:=zB HB.out t9
   have HTR:=zh htr
   have h1:(0:Int)≤(k:Int):=by omega
   have h2:(k:Int)<(s.length:Int):=by omega
   have hm16:=mems_le HV.out (List.getElem_mem hlt)
   have HNX:Hid (usesL (s.take (k+1))=usesL (s.take k)++(s[k]).mems.map (·.type)):=by
    show _=_
    unfold usesL
    rw[List.take_succ_eq_append_getElem hlt,List.flatMap_append]
    simp
   obtain ⟨L0,hL0⟩:∃L0,L0=usesL (s.take k):=⟨_,rfl⟩
   rw[←hL0] at HO hul HNX
   generalize s[k]=x at *
   clear htr hL0 HUL
   have HBX:=zh (zD wk (x.box As cs Am cm))
   have HXX:=zh (heap_alloc_new wk (x.box As cs Am cm))
   have HOX:=zh (HO.out.below HBX.out)
   have HBW:=zh (zA HB.out HBX.out)
   go_upto_region 5 with fail
   clear t0 t1 t2 t3 t4 t5 t6 t7 t8 t9
   generalize wk.alloc (x.box As cs Am cm)=W2 at *
   have m6:W2.cell? ⟨wk.heap.size,6,none⟩=some (.slice Am x.mems.length cm):=by rw[cell_of_row _ _ _ _ _ _ HXX.out];rfl
   go_wp2_with fail
   go_loopw [3,18] (fun v i wr=>∃m:Nat,m≤x.mems.length∧i = .int .i64 (m:Int)∧Hid (OwnI wr W1.heap.size v (L0++(x.mems.take m).map (·.type))∧Below W1.heap.size W1 wr)) (fun _ i _=>x.mems.length - (intOf i).toNat)
   case atStart=>exact ⟨0,by omega,rfl,by simpa using HOX.out,HBW.out⟩
   case round =>
    obtain ⟨m,hm,rfl,hh2⟩:=hrel
    obtain ⟨wm,rfl⟩:∃wm:World,wm=wr:=⟨_,rfl⟩
    have HO2:=zh hh2.out.1
    have HB2:=zh hh2.out.2
    have HT2:=zh (HTR.out.below HB2.out)
    clear hh2
    by_cases hlm:m<x.mems.length
    ·obtain ⟨b2,o2,E1,k1,E2,k2,E3,k3,rfl,hmr,d0,d1,d2,d3,d4,d5,d6,d7,d8,d9,d10,d11,d12⟩:=HT2.out.mems.at13 hlm
     have g1:(0:Int)≤(m:Int):=by omega
     have g2:(m:Int)<(x.mems.length:Int):=by omega
     have HN2:Hid (L0++(x.mems.take (m+1)).map (·.type)=(L0++(x.mems.take m).map (·.type))++[(x.mems[m]).type]):=by
      show _=_
      rw[List.take_succ_eq_append_getElem hlm,List.map_append,←List.append_assoc];rfl
     obtain ⟨L1,hL1⟩:∃L1,L1=L0++(x.mems.take m).map (·.type):=⟨_,rfl⟩
     have hl1:L1.length≤600:=by rw[hL1,List.length_append,List.length_map,List.length_take];omega
     rw[←hL1] at HO2 HN2
     have hsz:wm.heap.size<wm.heap.size+1:=by omega
     clear hmr hL1
     generalize x.mems[m]=y at *
     have HRN:Hid (∀ob,((wm.alloc ob).alloc (.cells #[.int .i64 y.type] 3)).rangeAt (wm.heap.size+1) 0 [.int .i64 y.type]):=fun ob=>by
      have h:=zS (wm.alloc ob) [.int .i64 y.type] 3
      rw[show (wm.alloc ob).heap.size=wm.heap.size+1 by simp] at h
      exact h
     have HZM:Hid (W1.heap.size≤wm.heap.size):=HB2.out.size
     have HOO:Hid (∀ob ob2,OwnI ((wm.alloc ob).alloc ob2) W1.heap.size u3 L1):=fun ob ob2=>HO2.out.below (zC wm ob ob2)
     have HBB:Hid (∀ob ob2,Below W1.heap.size W1 ((wm.alloc ob).alloc ob2)):=fun ob ob2=>zA HB2.out (zC wm ob ob2)
     go_wp2_with (at_builtin;have e1:=HOO.out (y.box E1 k1 E2 k2 E3 k3) (.cells #[.int .i64 y.type] 3);have e2:=HRN.out (y.box E1 k1 E2 k2 E3 k3);have e3:=HBB.out (y.box E1 k1 E2 k2 E3 k3) (.cells #[.int .i64 y.type] 3);refine zJ zY _ rfl (.tmp 22) (.tmp 25) rfl W1.heap.size _ _ _ rfl e1 (wm.heap.size+1) 0 1 1 [.int .i64 y.type] rfl rfl e2 (by simp[Value.oneCell']) (by omega) (by omega) e3.size ?_;intro v8 w8 ho8 hg8;have HO8:Hid (OwnI w8 W1.heap.size v8 (L1++[y.type])):=OwnL.snoc (x:=y.type) ho8;have HB8:Hid (Below W1.heap.size W1 w8):=e3.grown hg8 e3.size e1.lt;clear ho8 hg8 e1 e2 e3)
     go_roundw
     case rel=>exact ⟨m+1,by omega,by go_num,by rw[HN2.out];exact HO8.out,HB8.out⟩
     case measure=>simp[intOf];omega
    ·obtain rfl:m=x.mems.length:=by omega
     have HO3:Hid (OwnI wm W1.heap.size u3 (L0++x.mems.map (·.type))):=by have:=HO2.out;rwa [List.take_length] at this
     go_wp2
     go_roundw
     case rel=>exact ⟨k+1,by omega,by go_num,by rw[HNX.out];exact HO3.out,HB2.out⟩
     case measure=>simp[intOf];omega
  ·obtain rfl:k=s.length:=by omega
   have HO3:Hid (OwnI wk W1.heap.size u3 (usesL s)):=by have:=HO.out;rwa [List.take_length] at this
   rw[List.take_length] at hul
   obtain ⟨A3,c3,rfl,hi3⟩:=OwnI.ints HO3.out (by unfold Lim;omega)
   have HI3:=zh hi3
   have HBE:=zh (zA HB0.out HB.out)
   clear hi3 HO HO3
   go_wp2
   go_ret
   exact ⟨A3,c3,rfl,HI3.out,HBE.out⟩
end Go.Proofs.YtdfolgmcggdjdaaGreatDoor


