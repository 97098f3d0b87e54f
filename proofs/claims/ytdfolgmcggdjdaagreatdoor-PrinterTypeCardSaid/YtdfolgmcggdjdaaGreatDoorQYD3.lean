/-
  Walks: Outline.
-/
import Derived.Test.YtdfolgmcggdjdaaGreatDoorQYD2
import Derived.Test.YtdfolgmcggdjdaaGreatDoorQYE0
namespace Go.Proofs.YtdfolgmcggdjdaaGreatDoor
open Go.RowKit
set_option maxHeartbeats 16000000
set_option maxRecDepth 100000
def useS (a:ByteArray) (l:List Int):ByteArray×Bool:=l.foldl (fun p u=>((if p.2 then p.1++⟨#[32,45,62]⟩ else p.1)++(⟨#[32]⟩++decB u),false)) (a,true)
theorem useS_succ {a:ByteArray} {l:List Int} {k:Nat} (h:k<l.length):useS a (l.take (k+1))=((if (useS a (l.take k)).2 then (useS a (l.take k)).1++⟨#[32,45,62]⟩ else (useS a (l.take k)).1)++(⟨#[32]⟩++decB l[k]),false):=by
 unfold useS
 rw[List.take_add_one,zl h,Option.toList_some,List.foldl_append]
 rfl
theorem useS_two {a:ByteArray} {l:List Int}:∀k,k≤l.length→(useS a (l.take k)).2=decide (k=0)
 | 0,_=>rfl
 | k+1,h=>by rw[useS_succ (by omega)];simp
theorem useS_le {a:ByteArray} {l:List Int} (hl:∀u∈l,In64 u):∀k,k≤l.length→(useS a (l.take k)).1.size≤a.size+k * 25
 | 0,_=>by simp[useS]
 | k+1,h=>by
  have ih:=useS_le (a:=a) hl k (by omega)
  have hd:=decB_le (hl _ (List.getElem_mem (show k<l.length by omega)))
  rw[useS_succ (by omega)]
  simp only[ByteArray.size_append]
  have h1:(ByteArray.mk #[32]).size=1:=rfl
  have h2:(ByteArray.mk #[32,45,62]).size=3:=rfl
  split
  ·rw[ByteArray.size_append];omega
  ·omega
def lineA (T:ByteArray) (t:Nat) (x:TyD):ByteArray :=
 (useS (if x.name=⟨#[]⟩ then T++(decB (t:Int)++⟨#[58,32]⟩++wordK x.kind) else T++(decB (t:Int)++⟨#[58,32]⟩++wordK x.kind)++(⟨#[32]⟩++x.name)) (onceL (toD x))).1++⟨#[10]⟩
def outB (s:List TyD) (k:Nat):ByteArray:=(List.range k).foldl (fun T t=>lineA T t (tyAt s (t:Int))) ⟨#[]⟩
theorem outB_succ (s:List TyD) (k:Nat):outB s (k+1)=lineA (outB s k) k (tyAt s (k:Int)):=by
 unfold outB
 rw[List.range_succ,List.foldl_append]
 rfl
theorem once_mem {l:List Int} {u:Int} (h:u∈onceL l):u∈l:=by
 have key:∀ (l a:List Int),u∈l.foldl (fun a u=>if u∈a then a else a++[u]) a→u∈a∨u∈l:=by
  intro l
  induction l with
  | nil=>intro a h;exact .inl h
  | cons x r ih =>
   intro a h
   rcases ih _ h with k|k
   ·dsimp only at k
    split at k
    ·exact .inl k
    ·rcases List.mem_append.1 k with k|k
     ·exact .inl k
     ·exact .inr (by rw[List.mem_singleton.1 k];exact List.mem_cons_self)
   ·exact .inr (List.mem_cons_of_mem _ k)
 rcases key l [] h with k|k
 ·cases k
 ·exact k
theorem wordK_le {k:Int} (h:1≤k∧k≤9):(wordK k).size≤8:=by
 have hk:k=1∨k=2∨k=3∨k=4∨k=5∨k=6∨k=7∨k=8∨k=9:=by omega
 rcases hk with rfl|rfl|rfl|rfl|rfl|rfl|rfl|rfl|rfl <;> decide
theorem name_all {s:List TyD} {t:Int} (hv:zG s=0) (hr:0≤t∧t<(s.length:Int)):(tyAt s t).name.size≤24:=by
 cases hn:zH (tyAt s t).kind with
 | true=>exact name_le hv hr hn
 | false =>
  have h:=(valid_tys hv (tyAt_mem hr)).1
  unfold formD at h
  simp only[Bool.and_eq_true,decide_eq_true_eq] at h
  obtain ⟨⟨⟨_,h3⟩,_⟩,_⟩:=h
  rw[h3]
  unfold zH at hn
  simp only[Bool.or_eq_false_iff,decide_eq_false_iff_not] at hn
  unfold zO
  repeat' split
  all_goals first|(show (ByteArray.mk #[]).size≤24;decide)|omega
theorem uses_in {s:List TyD} (hv:zG s=0) {x:TyD} (hx:x∈s):(∀u∈onceL (toD x),In64 u)∧(onceL (toD x)).length≤18:=by
 have hls:=yD hv
 refine ⟨fun u hu=>?_,?_⟩
 ·have:=(valid_tys hv hx).2 u (once_mem hu)
  unfold In64;omega
 ·have h1:=once_len (toD x) (toD x).length (Nat.le_refl _)
  rw[List.take_length] at h1
  have:=toD_le2 x
  have:=mems_le hv hx
  omega
theorem lineA_le {s:List TyD} (hv:zG s=0) {k:Nat} (hk:k<s.length) (T:ByteArray):(lineA T k (tyAt s (k:Int))).size≤T.size+1000:=by
 have hls:=yD hv
 have h1:=name_all (t:=(k:Int)) hv (by omega)
 have h2:=wordK_le (kind_rng (t:=(k:Int)) hv (by omega))
 have h3:=decB_le (n:=(k:Int)) (by unfold In64;omega)
 have hm:tyAt s (k:Int)∈s:=tyAt_mem (by omega)
 have h4:=uses_in hv hm
 unfold lineA
 rw[ByteArray.size_append]
 have h5:=useS_le (a:=if (tyAt s (k:Int)).name=⟨#[]⟩ then T++(decB (k:Int)++⟨#[58,32]⟩++wordK (tyAt s (k:Int)).kind) else T++(decB (k:Int)++⟨#[58,32]⟩++wordK (tyAt s (k:Int)).kind)++(⟨#[32]⟩++(tyAt s (k:Int)).name)) h4.1 _ (Nat.le_refl _)
 rw[List.take_length] at h5
 have h6:(ByteArray.mk #[32]).size=1:=rfl
 have h7:(ByteArray.mk #[58,32]).size=2:=rfl
 have h8:(ByteArray.mk #[10]).size=1:=rfl
 have h9:(if (tyAt s (k:Int)).name=⟨#[]⟩ then T++(decB (k:Int)++⟨#[58,32]⟩++wordK (tyAt s (k:Int)).kind) else T++(decB (k:Int)++⟨#[58,32]⟩++wordK (tyAt s (k:Int)).kind)++(⟨#[32]⟩++(tyAt s (k:Int)).name)).size≤T.size+56:=by
  split <;> simp only[ByteArray.size_append] <;> omega
 have:=h4.2
 omega
theorem outB_le {s:List TyD} (hv:zG s=0):∀k,k≤s.length→(outB s k).size≤k * 1000
 | 0,_=>Nat.le_of_eq rfl
 | k+1,h=>by
  have:=outB_le hv k (by omega)
  have:=lineA_le hv (show k<s.length by omega) (outB s k)
  rw[outB_succ];omega
def outE (s:List TyD):ByteArray×Int:=if zG s=0 then (outB s s.length,0) else (⟨#[]⟩,zG s)
theorem isEmpty_iff (s:ByteArray):s.toList.isEmpty=true↔s=⟨#[]⟩:=by
 have h:=zM s ⟨#[]⟩
 rw[show (⟨#[]⟩:ByteArray).toList=[] by decide +kernel] at h
 have e:(s.toList==[])=s.toList.isEmpty:=by cases s.toList <;> rfl
 rw[e] at h
 rw[h,decide_eq_true_iff]
theorem outline_any (s:List TyD) (A:Option Addr) (c:Nat) (w:World) (hs:TysR w A s) (htab:Tab w) :
  Calls Tryz.prog 17 #[.agg #[.slice A s.length c]] w fun e w'=>e = .returned (.tuple #[.string (outE s).1,.int .i64 (outE s).2])∧Below w.heap.size w w':=by
 have hln:=hs.1.lt (by omega)
 have HS:=zh hs
 have HTB:=zh htab
 have HB0:=zh (zD w (.cells #[.slice A s.length c] 27))
 have HX0:=zh (heap_alloc_new w (.cells #[.slice A s.length c] 27))
 clear hs htab
 go_enter Tryz.func17,Tryz.ntmps17
 go_wp2_with fail
 generalize w.alloc (.cells #[.slice A s.length c] 27)=W1 at *
 refine (valid_any s A c W1 (HS.out.below HB0.out)).mono ?_
 rintro e w1 ⟨rfl,hb1⟩
 have HB1:=zh (zA HB0.out hb1)
 have HX1:=zh (yE HX0.out hb1)
 clear hb1
 by_cases hv:zG s=0
 case neg =>
  have q1:(zG s != 0)=true:=by simp[hv]
  have HT:Hid (outE s=(⟨#[]⟩,zG s)):=by show _=_;unfold outE;rw[if_neg hv]
  clear hv
  go_wp2
  go_ret2
  exact ⟨by rw[HT.out];rfl,HB1.out⟩
 have hls:=yD hv
 have HV:=zh hv
 have HOE:Hid (outE s=(outB s s.length,0)):=by show _=_;unfold outE;rw[if_pos hv]
 rw[hv]
 clear hv
 have HI0:=zh (BldF.new w1 (Nat.le_refl _))
 have HBI:=zh (zD w1 (.cells #[.pointer none,.slice none 0 0] 84))
 have HX2:=zh (tmp_al HX1.out (.cells #[.pointer none,.slice none 0 0] 84))
 go_upto_region 5 with fail
 generalize w1.alloc (.cells #[.pointer none,.slice none 0 0] 84)=W2 at *
 have y0:W2.cell? ⟨w.heap.size,0,none⟩=some (.slice A s.length c):=by rw[cell_of_row _ _ _ _ _ _ HX2.out];rfl
 go_wp2_with fail
 go_loopw [20] (fun i wr=>∃k:Nat,k≤s.length∧i = .int .i64 (k:Int)∧Hid (BldF wr w1.heap.size w1.heap.size (outB s k)∧Below w1.heap.size w1 wr)) (fun i _=>s.length - (intOf i).toNat)
 case atStart=>exact ⟨0,by omega,rfl,HI0.out,HBI.out⟩
 case round =>
  obtain ⟨k,hk,rfl,hh⟩:=hrel
  obtain ⟨wk,rfl⟩:∃wk:World,wk=wr:=⟨_,rfl⟩
  have HBL:=zh hh.out.1
  have HBK:=zh hh.out.2
  have HBK0:=zh (zA HB1.out HBK.out)
  have hpz:=outB_le HV.out k hk
  clear hh y0
  by_cases hlt:k<s.length
  ·obtain ⟨b,o,As,cs,Am,cm,rfl,htr,t0,t1,t2,t3,t4,t5,t6,t7,t8,t9⟩:=(HS.out.below HBK0.out).at10 hlt
   obtain ⟨x,hx⟩:∃x,s[k]=x:=⟨_,rfl⟩
   have HXE:=zh hx
   have HXE2:Hid (s[k]=x):=hx
   have HTA:Hid (tyAt s (k:Int)=x):=(tyAt_nat hlt).trans hx
   rw[hx] at htr t0 t1 t2 t3 t4 t5 t6 t7 t8 t9
   have HTR:=zh htr
   have h1:(0:Int)≤(k:Int):=by omega
   have h2:(k:Int)<(s.length:Int):=by omega
   have HMH:Hid (x∈s):=hx▸List.getElem_mem hlt
   have HNX:Hid (outB s (k+1)=lineA (outB s k) k x):=by show _=_;rw[outB_succ,HTA.out]
   have HKW:Hid (w1.heap.size<wk.heap.size):=HBL.out.lt
   have HKR:Hid (1≤x.kind∧x.kind≤9):=by have:=kind_rng (t:=(k:Int)) HV.out (by omega);rwa [HTA.out] at this
   have hnl:x.name.size≤24:=by have:=name_all (t:=(k:Int)) HV.out (by omega);rwa [HTA.out] at this
   have HUI:=zh (uses_in HV.out HMH.out)
   generalize outB s k=T at *
   clear htr hx
   have HBX:=zh (zD wk (x.box As cs Am cm))
   have HXX:Hid (TBox (wk.alloc (x.box As cs Am cm)) wk.heap.size x As cs Am cm):=heap_alloc_new wk (x.box As cs Am cm)
   have HBLX:=zh (HBL.out.below HBX.out)
   have HBW:=zh (zA HBK.out HBX.out)
   go_upto_region 8 with fail
   clear t0 t1 t2 t3 t4 t5 t6 t7 t8 t9
   generalize wk.alloc (x.box As cs Am cm)=W6 at *
   have HBW0:=zh (zA HB1.out HBW.out)
   have HX6:=zh ((HBW.out.block _ (zg.1 HX1.out).1).trans HX1.out)
   have HK0:Hid (W6.cell? ⟨wk.heap.size,0,none⟩=some (.int .i64 x.kind)):=HXX.out.cell 0
   have hzk:=decB_le (n:=(k:Int)) (by unfold In64;omega)
   have hzw:=wordK_le HKR.out
   have c1:¬ 9223372036854775807<(decB (k:Int)).size+2:=by omega
   have c2:¬ 9223372036854775807<(decB (k:Int)).size+2+(wordK x.kind).size:=by omega
   have c3:¬ 9223372036854775807<1+x.name.size:=by omega
   obtain ⟨D,hD⟩:∃D,D=decB (k:Int)++⟨#[58,32]⟩++wordK x.kind:=⟨_,rfl⟩
   have HDE:=zh hD
   have hds:D.size≤31:=by rw[hD];simp only[ByteArray.size_append,show (ByteArray.mk #[58,32]).size=2 from rfl];omega
   clear hD
   refine wp_region_held_drew (S:=(fun w'=>w'.cell? ⟨wk.heap.size,0,none⟩=some (.int .i64 x.kind))) (by kernel_rfl) ?_ (fun zH_=>?_)
   ·(try dsimp only);exact HK0.out
   refine tL 0 _ zH_ ?_
   try simp only[ps]
   refine tL 3 _ zH_ ?_
   try simp only[ps]
   refine tL 4 _ zH_ ?_
   try simp only[ps]
   refine tR 1 (fun K hK=>?_)
   go_simp
   (refine (itoa_any (k:Int) (by unfold In64;omega) _ (HTB.out.below (zA HBW0.out (zE (Below.refl _ _) 1)))).mono ?_;rintro e w7 ⟨rfl,hb7⟩;have HB7:=zh (zA (zE (Below.refl W6.heap.size W6) 1) hb7);clear hb7)
   refine hK.out _ _ ?_ (fun zH_=>?_)
   ·(try dsimp only);exact zB HB7.out HK0.out
   clear hK K
   try simp only[ps]
   refine tL 2 _ zH_ ?_
   try simp only[ps]
   refine tR 5 (fun K hK=>?_)
   go_simp
   (refine (wordK_any x.kind HKR.out _).mono ?_;rintro e w8 ⟨rfl,hb8⟩;have HB8:=zh (zA HB7.out hb8);clear hb8)
   refine hK.out _ _ ?_ (fun zH_=>?_)
   ·(try dsimp only);exact zB HB8.out HK0.out
   clear hK K
   try simp only[ps]
   refine tL 6 _ zH_ ?_
   try simp only[ps]
   refine tR 7 (fun K hK=>?_)
   go_simp
   (rw[←HDE.out];have h1:BldF w8 w1.heap.size w1.heap.size T:=HBLX.out.below HB8.out;have h2:w1.heap.size≤w8.heap.size:=(zA HBW.out HB8.out).size;refine (BldF.write h1 D (by omega) h2).mono ?_;rintro e w9 ⟨rfl,hbl9,hb9,ho9⟩;have HBL9:=zh hbl9;have HB9:=zh ((zA HBW.out HB8.out).trans hb9);have HX9:Hid (TBox w9 wk.heap.size x As cs Am cm):=ho9.blk (HXX.out.below HB8.out) (by have:=HKW.out;omega) (by decide);clear hbl9 hb9 ho9 h1 h2)
   refine hK.out _ _ ?_ (fun zH_=>?_)
   ·(try dsimp only);exact HX9.out.cell 0
   clear hK K
   try simp only[ps]
   refine wpAnyH_done (by kernel_rfl) ?_ _
   obtain ⟨u0,u1,u2,u3,u4,u5,u6,u7,u8,u9⟩:=tbox_cells HX9.out
   obtain ⟨T2,hT2⟩:∃T2,T2=(if x.name=⟨#[]⟩ then T++D else T++D++(⟨#[32]⟩++x.name)):=⟨_,rfl⟩
   have HT2:=zh hT2
   have hz2:T2.size≤T.size+56:=by
    rw[hT2]
    have:=(show (ByteArray.mk #[32]).size=1 from rfl)
    split <;> simp only[ByteArray.size_append] <;> omega
   clear hT2
   obtain ⟨NE,hNE⟩:∃NE,x.name.toList.isEmpty=NE:=⟨_,rfl⟩
   have HNE:=zh hNE
   go_upto_if 35 with fail
   clear hNE
   go_cut [] (fun wx=>Hid (BldF wx w1.heap.size w1.heap.size T2∧Below w1.heap.size w1 wx))
   case first =>
    cases NE with
    | true =>
     have hne:=(isEmpty_iff x.name).1 HNE.out
     have HT3:=zh (HT2.out.trans (if_pos hne))
     clear hne HNE
     go_wp2
     go_meet
     exact ⟨by rw[HT3.out];exact HBL9.out,HB9.out⟩
    | false =>
     have hne:¬ x.name=⟨#[]⟩:=fun h=>by have:=(isEmpty_iff x.name).2 h;rw[HNE.out] at this;cases this
     have HT3:=zh (HT2.out.trans (if_neg hne))
     clear hne
     go_wp2_with fail
     obtain ⟨D2,hD2⟩:∃D2,D2=⟨#[32]⟩++x.name:=⟨_,rfl⟩
     have hz3:D2.size≤25:=by rw[hD2,ByteArray.size_append];have:=(show (ByteArray.mk #[32]).size=1 from rfl);omega
     have hz4:(T++D).size≤T.size+31:=by rw[ByteArray.size_append];omega
     rw[←hD2] at HT3
     rw[←hD2]
     have h1:BldF w9 w1.heap.size w1.heap.size (T++D):=HBL9.out
     have h2:w1.heap.size≤w9.heap.size:=HB9.out.size
     refine (BldF.write h1 D2 (by omega) h2).mono ?_
     rintro e w10 ⟨rfl,hbl,hb,_⟩
     have HBLa:=zh hbl
     have HBa:=zh (HB9.out.trans hb)
     clear hbl hb h1 h2 hD2 u0 u1 u2 u3 u4 u5 u6 u7 u8 u9
     go_wp2
     go_meet
     exact ⟨by rw[HT3.out];exact HBLa.out,HBa.out⟩
   case rest =>
   have HBL10:=zh hcut.out.1
   have HB10:=zh hcut.out.2
   clear hcut u0 u1 u2 u3 u4 u5 u6 u7 u8 u9
   have HX10:=zh ((HB10.out.block _ (zg.1 HX1.out).1).trans HX1.out)
   have x0:wc.cell? ⟨w.heap.size,0,none⟩=some (.slice (some ⟨b,o,none⟩) s.length c):=by rw[cell_of_row _ _ _ _ _ _ HX10.out];rfl
   have HBW10:=zh (zA HB1.out HB10.out)
   go_wp2_with fail
   refine (usesO_any s k (some ⟨b,o,none⟩) c HV.out hlt x HXE2.out wc (HS.out.below HBW10.out)).mono ?_
   rintro e w11 ⟨v11,base,rfl,ho11,hbs,hb11⟩
   have HBL11:=zh (HBL10.out.below hb11)
   have HB11:=zh (zA HB10.out hb11)
   have HO11:=zh ho11
   have HBS:Hid (w1.heap.size<base):=Nat.lt_of_lt_of_le HBL10.out.lt hbs
   have HUI2:=zh HUI.out.2
   obtain ⟨L,hL⟩:∃L,L=onceL (toD x):=⟨_,rfl⟩
   have HL:=zh hL
   rw[←hL] at HO11 HUI2
   rw[←hL] at HUI
   obtain ⟨Av,cv,rfl,_⟩:=OwnI.ints HO11.out (by have:=HUI2.out;unfold Lim;omega)
   clear ho11 hb11 hbs hL x0
   have HUL:=zh (fun j (hj:j≤L.length)=>useS_le (a:=T2) HUI.out.1 j hj)
   go_wp2_with fail
   go_loopw [48] (fun i wr=>∃j:Nat,j≤L.length∧i = .int .i64 (j:Int)∧Hid (BldF wr w1.heap.size w1.heap.size (useS T2 (L.take j)).1∧Below w1.heap.size w1 wr∧OwnI wr base (.slice Av L.length cv) L)) (fun i _=>L.length - (intOf i).toNat)
   case atStart=>exact ⟨0,Nat.zero_le _,rfl,HBL11.out,HB11.out,HO11.out⟩
   case round =>
    obtain ⟨j,hj,rfl,hh⟩:=hrel
    have HBLj:=zh hh.out.1
    have HBj:=zh hh.out.2.1
    have HOj:=zh hh.out.2.2
    have huz:=HUL.out j hj
    have hl18:=HUI2.out
    clear hh
    by_cases hlj:j<L.length
    ·obtain ⟨A4,c4,e4,hi4⟩:=OwnI.ints HOj.out (by have:=HUI2.out;unfold Lim;omega)
     injection e4 with e4 _ e5
     subst e4
     subst e5
     obtain ⟨b4,o4,rfl,i4⟩:=hi4.at1 hlj
     have HUU:=zh (useS_succ (a:=T2) hlj)
     have HU2:=zh (useS_two (a:=T2) (l:=L) j hj)
     have HIN:=zh (HUI.out.1 _ (List.getElem_mem hlj))
     generalize L[j]=u at *
     have hzu:=decB_le HIN.out
     have HBWj:=zh (zA HB1.out HBj.out)
     have j1:(0:Int)≤(j:Int):=by omega
     have j2:(j:Int)<(L.length:Int):=by omega
     have c4:¬ 9223372036854775807<1+(decB u).size:=by omega
     obtain ⟨Du,hDu⟩:∃Du,Du=⟨#[32]⟩++decB u:=⟨_,rfl⟩
     have HDu:=zh hDu
     have hzd:Du.size≤22:=by rw[hDu,ByteArray.size_append];have:=(show (ByteArray.mk #[32]).size=1 from rfl);omega
     rw[←hDu] at HUU
     clear hDu
     clear hi4
     generalize (useS T2 (L.take j)).2=ub at *
     generalize (useS T2 (L.take j)).1=U at *
     by_cases hj0:j=0
     ·have q1:((j:Int)==0)=true:=by simp[hj0]
      have HUB:Hid (ub=true):=by show _=_;rw[HU2.out];exact decide_eq_true hj0
      have hj0':=zh hj0
      clear hj0
      go_wp2_with fail
      have h1:BldF wr w1.heap.size w1.heap.size U:=HBLj.out
      have h2:w1.heap.size≤wr.heap.size:=HBj.out.size
      refine (BldF.write h1 ⟨#[32,45,62]⟩ (by have:=(show (ByteArray.mk #[32,45,62]).size=3 from rfl);omega) h2).mono ?_
      rintro e wa ⟨rfl,hbl,hb,ho⟩
      have HBLa:=zh hbl
      have HBa:=zh (HBj.out.trans hb)
      have HOa:=zh (OwnI.oth HOj.out ho HBS.out)
      have hza:(U++⟨#[32,45,62]⟩).size≤U.size+3:=by rw[ByteArray.size_append];exact Nat.le_refl _
      clear hbl hb ho h1 h2 i4
      go_wp2_with fail
      refine (itoa_any u HIN.out wa (HTB.out.below (zA HB1.out HBa.out))).mono ?_
      rintro e wb ⟨rfl,hbb⟩
      have h1:BldF wb w1.heap.size w1.heap.size (U++⟨#[32,45,62]⟩):=HBLa.out.below hbb
      have h2:w1.heap.size≤wb.heap.size:=(zA HBa.out hbb).size
      have HBb:=zh (zA HBa.out hbb)
      have HOb:=zh (HOa.out.below hbb)
      have h1':=zh h1
      have h2':=zh h2
      clear hbb h1 h2
      go_wp2_with fail
      rw[←HDu.out]
      refine (BldF.write h1'.out Du (by omega) h2'.out).mono ?_
      rintro e wd ⟨rfl,hbl,hb,ho⟩
      have HBLd:=zh hbl
      have HBd:=zh (HBb.out.trans hb)
      have HOd:=zh (OwnI.oth HOb.out ho HBS.out)
      clear hbl hb ho
      go_wp2
      go_roundw
      case rel=>exact ⟨j+1,by omega,by go_num,by rw[HUU.out,HUB.out];exact HBLd.out,HBd.out,HOd.out⟩
      case measure=>simp[intOf];omega
     ·have q1:((j:Int)==0)=false:=by simp;omega
      have HUB:Hid (ub=false):=by show _=_;rw[HU2.out];exact decide_eq_false hj0
      clear hj0
      go_wp2_with fail
      refine (itoa_any u HIN.out wr (HTB.out.below (zA HB1.out HBj.out))).mono ?_
      rintro e wb ⟨rfl,hbb⟩
      have h1:BldF wb w1.heap.size w1.heap.size U:=HBLj.out.below hbb
      have h2:w1.heap.size≤wb.heap.size:=(zA HBj.out hbb).size
      have HBb:=zh (zA HBj.out hbb)
      have HOb:=zh (HOj.out.below hbb)
      have h1':=zh h1
      have h2':=zh h2
      clear hbb h1 h2 i4
      go_wp2_with fail
      rw[←HDu.out]
      refine (BldF.write h1'.out Du (by omega) h2'.out).mono ?_
      rintro e wd ⟨rfl,hbl,hb,ho⟩
      have HBLd:=zh hbl
      have HBd:=zh (HBb.out.trans hb)
      have HOd:=zh (OwnI.oth HOb.out ho HBS.out)
      clear hbl hb ho
      go_wp2
      go_roundw
      case rel=>exact ⟨j+1,by omega,by go_num,by rw[HUU.out,HUB.out];exact HBLd.out,HBd.out,HOd.out⟩
      case measure=>simp[intOf];omega
    ·obtain rfl:j=L.length:=by omega
     rw[List.take_length] at HBLj huz
     go_wp2_with fail
     have h1:BldF wr w1.heap.size w1.heap.size (useS T2 L).1:=HBLj.out
     have h2:w1.heap.size≤wr.heap.size:=HBj.out.size
     refine (BldF.write h1 ⟨#[10]⟩ (by have:=(show (ByteArray.mk #[10]).size=1 from rfl);omega) h2).mono ?_
     rintro e wd ⟨rfl,hbl,hb,_⟩
     have HBLd:=zh hbl
     have HBd:=zh (HBj.out.trans hb)
     have HFN:Hid (lineA T k x=(useS T2 L).1++⟨#[10]⟩):=by show _=_;unfold lineA;rw[←HDE.out,←HT2.out,HL.out]
     clear hbl hb h1 h2
     go_wp2
     go_roundw
     case rel=>exact ⟨k+1,by omega,by go_num,by rw[HNX.out,HFN.out];exact HBLd.out,HBd.out⟩
     case measure=>simp[intOf];omega
  ·obtain rfl:k=s.length:=by omega
   generalize outB s s.length=T at *
   go_wp2_with fail
   refine (HBL.out.str HBK.out.size).mono ?_
   rintro e w7 ⟨rfl,hb7⟩
   have HBF:=zh (HBK.out.trans hb7)
   clear hb7
   go_wp2
   go_ret2
   exact ⟨by rw[HOE.out];rfl,zA HB1.out HBF.out⟩
end Go.Proofs.YtdfolgmcggdjdaaGreatDoor


