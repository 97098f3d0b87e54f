/-
  Walks: the line of a named type.
-/
import Derived.Test.YtdfolgmcggdjdaaGreatDoorQYA3
import Derived.Test.YtdfolgmcggdjdaaGreatDoorQUS
namespace Go.Proofs.YtdfolgmcggdjdaaGreatDoor
open Go.RowKit
set_option maxHeartbeats 16000000
set_option maxRecDepth 100000
theorem zeroStr (w:World):(zeroValue 9).run Tryz.prog w = .ok (.string ⟨#[]⟩) w:=by kernel_rfl
theorem kw_map (W:World) (k:Int):∃w1 w2 w3:World,
  (Instr.mapUpdate 117 (.map (some W.heap.size)) (.int .i64 4) (.string ⟨#[101,110,117,109]⟩)).run Tryz.prog (W.alloc (.map #[] 0)) = .ok () w1 ∧
  (Instr.mapUpdate 117 (.map (some W.heap.size)) (.int .i64 5) (.string ⟨#[114,101,99,111,114,100]⟩)).run Tryz.prog w1 = .ok () w2 ∧
  (Instr.mapUpdate 117 (.map (some W.heap.size)) (.int .i64 6) (.string ⟨#[117,110,105,111,110]⟩)).run Tryz.prog w2 = .ok () w3 ∧
  (Instr.lookup 117 (.map (some W.heap.size)) (.int .i64 k) false).run Tryz.prog w3 = .ok (.string (kindW k)) w3∧Hid (Below W.heap.size W w3):=by
 have h0:MapAt (Value.int .i64) (W.alloc (.map #[] 0)) W.heap.size ([]:List (Int×Value)):=heap_alloc_new W _
 obtain ⟨w1,e1,m1,g1,z1⟩:=mapUpdate_run (P:=Tryz.prog) (KT:=3) (MT:=117) (ET:=9) keyOk_int Tryz.underlying117 h0 4 (.string ⟨#[101,110,117,109]⟩)
 obtain ⟨w2,e2,m2,g2,z2⟩:=mapUpdate_run (P:=Tryz.prog) (KT:=3) (MT:=117) (ET:=9) keyOk_int Tryz.underlying117 m1 5 (.string ⟨#[114,101,99,111,114,100]⟩)
 obtain ⟨w3,e3,m3,g3,z3⟩:=mapUpdate_run (P:=Tryz.prog) (KT:=3) (MT:=117) (ET:=9) keyOk_int Tryz.underlying117 m2 6 (.string ⟨#[117,110,105,111,110]⟩)
 refine ⟨w1,w2,w3,e1,e2,e3,?_,?_⟩
 ·have hl:=lookup_run (P:=Tryz.prog) (KT:=3) (MT:=117) (ET:=9) keyOk_int Tryz.underlying117 zeroStr m3 k false
  rw[hl]
  simp only[getV_updK]
  unfold kindW getV
  simp only[fnd]
  by_cases k6:k=6
  ·simp[k6]
  by_cases k5:k=5
  ·simp[k5]
  by_cases k4:k=4
  ·simp[k4]
  ·simp[k4,k5,k6]
 ·have b0:=zD W (.map #[] 0)
  have hs:∀ {u:World},Below W.heap.size W u→W.heap.size≤u.heap.size:=fun h=>h.size
  have b1:=b0.grown g1 b0.size (fun q hq=>by have:=Option.some.inj hq;omega)
  have b2:=b1.grown g2 b1.size (fun q hq=>by have:=Option.some.inj hq;omega)
  exact b2.grown g3 b2.size (fun q hq=>by have:=Option.some.inj hq;omega)
theorem own_strs (w:World) (l:List ByteArray) (base:Nat) (hb:base≤w.heap.size) (hl:l.length≤1000):OwnS (w.alloc (.cells (l.map Value.string).toArray 9)) base (.slice (some ⟨w.heap.size,0,none⟩) l.length l.length) l:=by
 have e:l.flatMap encS=l.map Value.string:=by
  induction l with
  | nil=>rfl
  | cons x r ih=>rw[List.flatMap_cons,ih (by simp at hl;omega)];rfl
 refine ⟨by rw[e];simp,.inr ⟨w.heap.size,l.length,_,rfl,hb,heap_alloc_new w _,Nat.le_refl _,by unfold maxLen;omega,by simp,?_⟩⟩
 rw[e];simpa using List.take_of_length_le (by simp)
theorem grown_cell {w w':World} {row:Option Nat} {a:Addr} {v:Value} (hg:w.grownBy w' row) (hne:∀k,row=some k→a.block≠k) (h:w.cell? a=some v):w'.cell? a=some v:=by
 rw[World.cell?_of_block (w:=w) (w':=w') (a:=a) (grown_block hg (zK h) hne)]
 exact h
theorem bx_cells2 {W:World} {b:Nat} {x:TyD} {As:Option Addr} {cs:Nat} {Am:Option Addr} {cm:Nat} (h:W.heap[b]? = some (x.box As cs Am cm)) :
  W.cell? ⟨b,5,none⟩=some (.slice As x.syms.length cs)∧W.cell? ⟨b,6,none⟩=some (.slice Am x.mems.length cm)∧W.cell? ⟨b,9,none⟩=some (.bool x.open_):=by
 refine ⟨?_,?_,?_⟩ <;> (rw[cell_of_row _ _ _ _ _ _ h];rfl)
theorem elem_one (x:ByteArray):∀u∈([.string x]:List Value),u.oneCell'=true:=by simp[Value.oneCell']
theorem declaration_any (s:List TyD) (A:Option Addr) (c:Nat) (hv:zG s=0) (hn:Num64 s) (df:MemD→ByteArray) (x:TyD) (hx:x∈s) (hkn:zH x.kind=true) (hd:∀m∈x.mems,DfOk s A c df m∧finD s (s.length+1) m.type)
  (As:Option Addr) (cs:Nat) (Am:Option Addr) (cm:Nat) (w:World) (hs:TysR w A s) (ht:TyR w x As Am) (htab:Tab w) :
  Calls Tryz.prog 39 #[.agg #[.slice A s.length c],x.v As cs Am cm] w fun e w'=>e = .returned (.string (declT s df x))∧Below w.heap.size w w':=by
 have hls:=yD hv
 have HS:=zh hs
 have HT:=zh ht
 have HTB:=zh htab
 have HD:=zh hd
 have HSR:=zh (fun y hy=>sym_rng hv hx (y:=y) hy)
 have hm16:=mems_le hv hx
 have HB0:=zh (zC w (.cells #[.slice A s.length c] 27) (x.box As cs Am cm))
 have HX0:=zh (tmp_al (heap_alloc_new w (.cells #[.slice A s.length c] 27)) (x.box As cs Am cm))
 have HY0:Hid (((w.alloc (.cells #[.slice A s.length c] 27)).alloc (x.box As cs Am cm)).heap[w.heap.size+1]? = some (x.box As cs Am cm)):=by
  have:=heap_alloc_new (w.alloc (.cells #[.slice A s.length c] 27)) (x.box As cs Am cm)
  rw[show (w.alloc (.cells #[.slice A s.length c] 27)).heap.size=w.heap.size+1 by simp] at this
  exact this
 have HZ0:Hid (((w.alloc (.cells #[.slice A s.length c] 27)).alloc (x.box As cs Am cm)).heap.size=w.heap.size+2):=by show _=_;simp
 have HMM:=zh (fun m (hm:m∈x.mems) A1 c1 A2 c2 A3 c3 u (h1:TysR u A s) (h2:MemR u m A1 A2 A3) (h3:Tab u) =>
  member_any s A c hv hn df m (hd m hm).1 (by have:=(mem_rng hv hx hm).1.1;unfold In64;omega) (mem_rng hv hx hm).1.2 (mem_rng hv hx hm).2 (hd m hm).2 A1 c1 A2 c2 A3 c3 u h1 h2 h3)
 have HMZ:=zh (fun m (hm:m∈x.mems)=>memT_le (s:=s) (df:=df) (m:=m) (n:=1073741824) (by have:=(mem_rng hv hx hm).1.1;unfold In64;omega) (mem_rng hv hx hm).1.2 (hd m hm).1.1 (by have:=text_le hv hn (s.length+1) m.type (mem_rng hv hx hm).2 (hd m hm).2;omega))
 have hnl:x.name.size≤24:=by
  obtain ⟨i,hi,e⟩:=List.getElem_of_mem hx
  have:=name_le hv (t:=(i:Int)) ⟨by omega,by omega⟩ (by rw[tyAt_nat hi,e];exact hkn)
  rwa [tyAt_nat hi,e] at this
 have hs16:x.syms.length≤16:=by
  cases h:x.syms with
  | nil=>simp
  | cons y r=>have:=(sym_rng hv hx (y:=y) (by rw[h];simp)).2;rwa [h] at this
 have hmm:=@run_makeMap Tryz.prog
 clear hs ht htab hd hv hn hx hkn
 go_enter Tryz.func39,Tryz.ntmps39
 go_upto_region 1 with fail
 generalize (w.alloc (.cells #[.slice A s.length c] 27)).alloc (x.box As cs Am cm)=W1 at *
 obtain ⟨w1,w2,w3,e1,e2,e3,el,hb3⟩:=kw_map W1 x.kind
 have HB3:=zh (zA HB0.out hb3.out)
 have HX3:=zh ((hb3.out.block _ (zg.1 HX0.out).1).trans HX0.out)
 have HY3:=zh ((hb3.out.block _ (zg.1 HY0.out).1).trans HY0.out)
 clear hb3
 obtain ⟨b0,b1,b2,b3,b4,b7,b8⟩:=bx_cells HY3.out
 obtain ⟨b5,b6,b9⟩:=bx_cells2 HY3.out
 go_upto_region 2 with fail
 clear e1 e2 e3 el hmm
 have HO0:=zh (own_strs w3 [kindW x.kind,x.name] w3.heap.size (Nat.le_refl _) (by simp))
 have HB4:=zh (zD w3 (.cells #[.string (kindW x.kind),.string x.name] 9))
 simp only[List.map_cons,List.map_nil,List.length_cons,List.length_nil,Nat.zero_add,Nat.reduceAdd] at HO0
 generalize w3.alloc (.cells #[.string (kindW x.kind),.string x.name] 9)=W4 at *
 have y9:=zB HB4.out b9
 have HC3:=zh (And.intro b5 b6)
 clear b0 b1 b2 b3 b4 b5 b6 b7 b8 b9 HX0 HY0 HZ0
 go_upto_if 19 with fail
 go_cut [5] (fun s5 wx=>Hid (OwnS wx w3.heap.size s5 ([kindW x.kind,x.name]++(if x.open_ then [⟨#[111,112,101,110]⟩] else []))∧Below w3.heap.size w3 wx))
 case first =>
  cases ho:x.open_ with
  | true =>
   rw[ho] at y9
   go_wp2_with (at_builtin;(have e1:=OwnL.alloc HO0.out (.cells #[.string ⟨#[111,112,101,110]⟩] 9));(have e2:=zS W4 [.string ⟨#[111,112,101,110]⟩] 9);have e3:=zA HB4.out (zD W4 (.cells #[.string ⟨#[111,112,101,110]⟩] 9));refine zJ elem_str _ rfl (.tmp 20) (.tmp 21) rfl w3.heap.size _ _ _ rfl e1 W4.heap.size 0 1 1 [.string ⟨#[111,112,101,110]⟩] rfl rfl e2 (elem_one _) (by simp) (by simp) e3.size ?_;intro v8 w8 ho8 hg8;have HO8:=OwnL.snoc (enc:=encS) (x:=⟨#[111,112,101,110]⟩) ho8;have HB8:=e3.grown hg8 e3.size e1.lt;clear ho8 hg8 e1 e2 e3)
   go_meet
   exact ⟨by rw[ho,if_pos rfl];exact HO8,HB8⟩
  | false =>
   rw[ho] at y9
   go_wp2
   go_meet
   exact ⟨by rw[ho,if_neg (by simp),List.append_nil];exact HO0.out,HB4.out⟩
 case rest =>
 have HW0:=zh hcut.out.1
 have HB5:=zh hcut.out.2
 clear hcut HO0 HB4 y9
 have HDW:Hid (wordsT s df x=([kindW x.kind,x.name]++(if x.open_ then [⟨#[111,112,101,110]⟩] else []))++[⟨#[123]⟩]++x.syms.map symT++x.mems.map (memT s df)++[⟨#[125,59]⟩]):=rfl
 have hl1:([kindW x.kind,x.name]++(if x.open_ then [⟨#[111,112,101,110]⟩] else []):List ByteArray).length≤3:=by rw[List.length_append];split <;> simp
 have HZ1:Hid (∀u∈([kindW x.kind,x.name]++(if x.open_ then [⟨#[111,112,101,110]⟩] else []):List ByteArray),u.size≤24):=fun u hu=>by
  rcases List.mem_append.1 hu with k|k
  ·rcases List.mem_cons.1 k with e|e
   ·subst e;have:=kindW_le x.kind;omega
   ·obtain rfl:u=x.name:=by simpa using e
    exact hnl
  ·split at k
   ·obtain rfl:u=⟨#[111,112,101,110]⟩:=by simpa using k
    decide
   ·cases k
 generalize ([kindW x.kind,x.name]++(if x.open_ then [⟨#[111,112,101,110]⟩] else []):List ByteArray)=L1 at *
 go_wp2_with (at_builtin;(have e1:=OwnL.alloc HW0.out (.cells #[.string ⟨#[123]⟩] 9));(have e2:=zS wc [.string ⟨#[123]⟩] 9);have e3:=zA HB5.out ((Below.refl _ _).alloc (by have:=HB5.out.size;omega) (.cells #[.string ⟨#[123]⟩] 9));refine zJ elem_str _ rfl (.tmp 23) (.tmp 24) rfl w3.heap.size _ _ _ rfl e1 wc.heap.size 0 1 1 [.string ⟨#[123]⟩] rfl rfl e2 (elem_one _) (by omega) (by omega) e3.size ?_;intro v8 w8 ho8 hg8;have HO8:=zh (OwnL.snoc (enc:=encS) (x:=⟨#[123]⟩) ho8);have HB8:=zh (e3.grown hg8 e3.size e1.lt);have b5:=zB HB8.out HC3.out.1;clear ho8 hg8 e1 e2 e3)
 have hl2:(L1++[(⟨#[123]⟩:ByteArray)]).length≤4:=by rw[List.length_append];simp;omega
 have HZ2:Hid (∀u∈L1++[⟨#[123]⟩],u.size≤24):=fun u hu=>by
  rcases List.mem_append.1 hu with k|k
  ·exact HZ1.out u k
  ·obtain rfl:u=⟨#[123]⟩:=by simpa using k
   decide
 generalize L1++[(⟨#[123]⟩:ByteArray)]=L2 at *
 go_loopw [5,29] (fun v i wr=>∃k:Nat,k≤x.syms.length∧i = .int .i64 (k:Int)∧Hid (OwnS wr w3.heap.size v (L2++(x.syms.take k).map symT)∧Below w3.heap.size w3 wr)) (fun _ i _=>x.syms.length - (intOf i).toNat)
 case atStart=>exact ⟨0,by omega,rfl,by simpa using HO8.out,HB8.out⟩
 case round =>
  obtain ⟨k,hk,rfl,hh⟩:=hrel
  obtain ⟨wk,rfl⟩:∃wk:World,wk=wr:=⟨_,rfl⟩
  have HOK:=zh hh.out.1
  have HBK:=zh hh.out.2
  clear hh b5
  have HBK0:=zh (zA HB3.out HBK.out)
  by_cases hlt:k<x.syms.length
  ·obtain ⟨b,o,rfl,hsok,a0,a1⟩:=((HT.out.below HBK0.out).syms).at2 hlt
   have h1:(0:Int)≤(k:Int):=by omega
   have h2:(k:Int)<(x.syms.length:Int):=by omega
   have HYR:=zh (HSR.out _ (List.getElem_mem hlt))
   have HNX:Hid (L2++(x.syms.take (k+1)).map symT=(L2++(x.syms.take k).map symT)++[symT x.syms[k]]):=by
    show _=_
    rw[List.take_succ_eq_append_getElem hlt,List.map_append,←List.append_assoc];rfl
   obtain ⟨L3,hL3⟩:∃L3,L3=L2++(x.syms.take k).map symT:=⟨_,rfl⟩
   have hl3:L3.length≤30:=by rw[hL3,List.length_append,List.length_map,List.length_take];omega
   rw[←hL3] at HOK HNX
   clear hL3 hsok
   generalize x.syms[k]=y at *
   have HBX:=zh (zD wk y.box)
   have HXX:=zh (heap_alloc_new wk y.box)
   have HOX:=zh (HOK.out.below HBX.out)
   have HBW:=zh (zA HBK.out HBX.out)
   go_upto_region 8 with fail
   clear a0 a1
   generalize wk.alloc y.box=W6 at *
   have y0:W6.cell? ⟨wk.heap.size,0,none⟩=some (.int .i64 y.id):=by rw[cell_of_row _ _ _ _ _ _ HXX.out];rfl
   have y1:W6.cell? ⟨wk.heap.size,1,none⟩=some (.string y.name):=by rw[cell_of_row _ _ _ _ _ _ HXX.out];rfl
   have HID:Hid (In64 y.id):=by have:=HYR.out.1.1;show In64 _;unfold In64;omega
   have z0:=decB_le HID.out
   have z1:=HYR.out.1.2
   have n1:¬ 9223372036854775807<(decB y.id).size+1:=by omega
   have n2:¬ 9223372036854775807<(decB y.id).size+1+y.name.size:=by omega
   have n3:¬ 9223372036854775807<(decB y.id).size+1+y.name.size+1:=by omega
   have HTW:=zh (HTB.out.below (zA HB3.out HBW.out))
   have HLT:Hid (∀q,Value.ownBlock u5=some q→q<wk.heap.size):=fun q hq=>(World.ownsRow.lt HOK.out q hq).2
   refine wp_region_held_drew (S:=(fun w'=>(w'.cell? ⟨wk.heap.size,0,none⟩=some (.int .i64 y.id)∧w'.cell? ⟨wk.heap.size,1,none⟩=some (.string y.name))∧Hid (Below w3.heap.size w3 w'))) (by kernel_rfl) ?_ (fun zH_=>?_)
   ·(try dsimp only);exact ⟨⟨y0,y1⟩,zE HBW.out _⟩
   refine tL 0 _ zH_ ?_
   try simp only[ps]
   refine tL 1 _ zH_ ?_
   try simp only[ps]
   refine tL 2 _ zH_ ?_
   try simp only[ps]
   refine tL 5 _ zH_ ?_
   try simp only[ps]
   refine tL 6 _ zH_ ?_
   try simp only[ps]
   refine tR 3 (fun K hK=>?_)
   go_simp
   (refine (itoa_any y.id HID.out _ (HTB.out.below (zA HB3.out zH_.2.out))).mono ?_;rintro e w4 ⟨rfl,hbz⟩;have HO4:=zh ((HOX.out.below (zE (Below.refl _ _) 1)).below hbz))
   refine hK.out _ _ ?_ (fun zH_=>?_)
   ·(try dsimp only);exact ⟨⟨zB hbz zH_.1.1,zB hbz zH_.1.2⟩,zA zH_.2.out hbz⟩
   clear hK K
   try simp only[ps]
   refine tL 4 _ zH_ ?_
   try simp only[ps]
   refine tL 7 _ zH_ ?_
   try simp only[ps]
   refine tL 8 _ zH_ ?_
   try simp only[ps]
   refine tR 9 (fun K hK=>?_)
   go_simp
   refine hK.out _ _ ?_ (fun zH_=>?_)
   ·(try dsimp only);exact ⟨⟨zB (zD _ _) zH_.1.1,zB (zD _ _) zH_.1.2⟩,zA zH_.2.out (zD _ _)⟩
   clear hK K
   try simp only[ps]
   refine tR 10 (fun K hK=>?_)
   (have e1:=HO4.out.alloc (.cells #[.string (symT y)] 9);refine zL elem_str (by rfl) (.tmp 33) (.tmp 42) (by rfl) w3.heap.size _ _ _ (by rfl) e1 w4.heap.size 0 1 1 [.string (symT y)] (by rfl) rfl (zS w4 [.string (symT y)] 9) (elem_one _) (by omega) (by omega) zH_.2.out.size ?_;intro v9 w9 ho9 hg9;have HO9:=zh (OwnL.snoc (enc:=encS) (x:=symT y) ho9);have HB9:=zh (zH_.2.out.grown hg9 zH_.2.out.size e1.lt);have C9:=And.intro (grown_cell hg9 (fun q hq=>by have:=HLT.out q hq;simp only;omega) zH_.1.1) (grown_cell hg9 (fun q hq=>by have:=HLT.out q hq;simp only;omega) zH_.1.2);clear ho9 hg9 e1)
   refine hK.out _ _ ?_ (fun zH_=>?_)
   ·(try dsimp only);exact ⟨C9,HB9.out⟩
   clear hK K
   try simp only[ps]
   refine tL 11 _ zH_ ?_
   try simp only[ps]
   refine wpAnyH_done (by kernel_rfl) ?_ _
   go_wp2
   go_roundw
   case rel=>exact ⟨k+1,by omega,by go_num,by rw[HNX.out];exact HO9.out,HB9.out⟩
   case measure=>simp[intOf];omega
  ·obtain rfl:k=x.syms.length:=by omega
   rw[List.take_length] at HOK
   have b6:=zB HBK.out HC3.out.2
   have hl4:(L2++x.syms.map symT).length≤20:=by rw[List.length_append,List.length_map];omega
   have HZ4:Hid (∀u∈L2++x.syms.map symT,u.size≤47):=fun u hu=>by
    rcases List.mem_append.1 hu with k|k
    ·have:=HZ2.out u k;omega
    ·obtain ⟨y,hy,rfl⟩:=List.mem_map.1 k
     have:=HSR.out y hy
     exact symT_le (by have:=this.1.1;unfold In64;omega) this.1.2
   clear HO8 HB8
   generalize L2++x.syms.map symT=L4 at *
   go_wp2_with fail
   go_loopw [5,48] (fun v i wr=>∃k:Nat,k≤x.mems.length∧i = .int .i64 (k:Int)∧Hid (OwnS wr w3.heap.size v (L4++(x.mems.take k).map (memT s df))∧Below w3.heap.size w3 wr)) (fun _ i _=>x.mems.length - (intOf i).toNat)
   case atStart=>exact ⟨0,by omega,rfl,by simpa using HOK.out,HBK.out⟩
   case round =>
    obtain ⟨k,hk,rfl,hh⟩:=hrel
    obtain ⟨wm,rfl⟩:∃wm:World,wm=wr:=⟨_,rfl⟩
    have HOM:=zh hh.out.1
    have HBM:=zh hh.out.2
    clear hh b6
    have HBM0:=zh (zA HB3.out HBM.out)
    by_cases hlt:k<x.mems.length
    ·obtain ⟨b,o,A1,c1,A2,c2,A3,c3,rfl,hmr,d0,d1,d2,d3,d4,d5,d6,d7,d8,d9,d10,d11,d12⟩:=((HT.out.below HBM0.out).mems).at13 hlt
     have HMR:=zh hmr
     have h1:(0:Int)≤(k:Int):=by omega
     have h2:(k:Int)<(x.mems.length:Int):=by omega
     have HMH:=zh (List.getElem_mem hlt)
     have HNX:Hid (L4++(x.mems.take (k+1)).map (memT s df)=(L4++(x.mems.take k).map (memT s df))++[memT s df x.mems[k]]):=by
      show _=_
      rw[List.take_succ_eq_append_getElem hlt,List.map_append,←List.append_assoc];rfl
     obtain ⟨L5,hL5⟩:∃L5,L5=L4++(x.mems.take k).map (memT s df):=⟨_,rfl⟩
     have hl5:L5.length≤40:=by rw[hL5,List.length_append,List.length_map,List.length_take];omega
     rw[←hL5] at HOM HNX
     clear hL5 hmr
     generalize x.mems[k]=m at *
     have HBX:=zh (zD wm (m.box A1 c1 A2 c2 A3 c3))
     have HXX:=zh (heap_alloc_new wm (m.box A1 c1 A2 c2 A3 c3))
     have HOX:=zh (HOM.out.below HBX.out)
     have HBW:=zh (zA HBM.out HBX.out)
     go_upto_region 13 with fail
     clear d0 d1 d2 d3 d4 d5 d6 d7 d8 d9 d10 d11 d12
     generalize wm.alloc (m.box A1 c1 A2 c2 A3 c3)=W6 at *
     have HX6:=zh ((HBW.out.block _ (zg.1 HX3.out).1).trans HX3.out)
     have x0:W6.cell? ⟨w.heap.size,0,none⟩=some (.slice A s.length c):=by rw[cell_of_row _ _ _ _ _ _ HX6.out];rfl
     obtain ⟨b0,b1,b2,b3,b4,b5,b6,b7,b8,b9,b10,b11,b12⟩:=mbx_cells HXX.out
     have HBW0:=zh (zA HB3.out HBW.out)
     go_wp2_with fail
     refine (HMM.out m HMH.out A1 c1 A2 c2 A3 c3 W6 (HS.out.below HBW0.out) (HMR.out.below HBX.out) (HTB.out.below HBW0.out)).mono ?_
     rintro e w7 ⟨rfl,hb7⟩
     have HO7:=zh (HOX.out.below hb7)
     have HB7:=zh (zA HBW.out hb7)
     clear b0 b1 b2 b3 b4 b5 b6 b7 b8 b9 b10 b11 b12 x0 hb7
     generalize memT s df m=T at *
     go_wp2_with (at_builtin;(have e1:=OwnL.alloc HO7.out (.cells #[.string T] 9));(have e2:=zS w7 [.string T] 9);have e3:=zA HB7.out (zD w7 (.cells #[.string T] 9));refine zJ elem_str _ rfl (.tmp 52) (.tmp 56) rfl w3.heap.size _ _ _ rfl e1 w7.heap.size 0 1 1 [.string T] rfl rfl e2 (elem_one _) (by omega) (by omega) e3.size ?_;intro v8 w8 ho8 hg8;have HO8:=zh (OwnL.snoc (enc:=encS) (x:=T) ho8);have HB8:=zh (e3.grown hg8 e3.size e1.lt);clear ho8 hg8 e1 e2 e3)
     go_roundw
     case rel=>exact ⟨k+1,by omega,by go_num,by rw[HNX.out];exact HO8.out,HB8.out⟩
     case measure=>simp[intOf];omega
    ·obtain rfl:k=x.mems.length:=by omega
     rw[List.take_length] at HOM
     have hl6:(L4++x.mems.map (memT s df)).length≤36:=by rw[List.length_append,List.length_map];omega
     have HZ6:Hid (∀u∈(L4++x.mems.map (memT s df))++[(⟨#[125,59]⟩:ByteArray)],u.size≤3400+1073741824):=fun u hu=>by
      rcases List.mem_append.1 hu with k|k
      ·rcases List.mem_append.1 k with k|k
       ·have:=HZ4.out u k;omega
       ·obtain ⟨m,hm,rfl⟩:=List.mem_map.1 k
        exact HMZ.out m hm
      ·obtain rfl:u=⟨#[125,59]⟩:=by simpa using k
       show 2≤_;omega
     have HDT:Hid (declT s df x=joinB ((L4++x.mems.map (memT s df))++[(⟨#[125,59]⟩:ByteArray)]) sp1++⟨#[10]⟩):=by show _=_;unfold declT;rw[HDW.out]
     generalize L4++x.mems.map (memT s df)=L6 at *
     have hl7:(L6++[(⟨#[125,59]⟩:ByteArray)]).length≤37:=by rw[List.length_append];simp;omega
     have hn7:(L6++[(⟨#[125,59]⟩:ByteArray)])≠[]:=by simp
     have HJZ:=zh (join_len_le _ _ HZ6.out)
     go_wp2_with (at_builtin;(have e1:=OwnL.alloc HOM.out (.cells #[.string ⟨#[125,59]⟩] 9));(have e2:=zS wm [.string ⟨#[125,59]⟩] 9);have e3:=zA HBM.out (zD wm (.cells #[.string ⟨#[125,59]⟩] 9));refine zJ elem_str _ rfl (.tmp 59) (.tmp 60) rfl w3.heap.size _ _ _ rfl e1 wm.heap.size 0 1 1 [.string ⟨#[125,59]⟩] rfl rfl e2 (elem_one _) (by omega) (by omega) e3.size ?_;intro v8 w8 ho8 hg8;have HO8:=zh (OwnL.snoc (enc:=encS) (x:=⟨#[125,59]⟩) ho8);have HB8:=zh (e3.grown hg8 e3.size e1.lt);clear ho8 hg8 e1 e2 e3;obtain ⟨A8,c8,rfl,hc8,_,hr8⟩:=HO8.out.reads;obtain ⟨g8,rfl,hg80,hrg⟩:=hr8 hn7;have HRG:=zh hrg;have HLT:=zh (World.ownsRow.lt HO8.out g8 rfl).2;clear hr8 hrg)
     rw[show L6.length+1=(L6++[(⟨#[125,59]⟩:ByteArray)]).length by simp]
     generalize L6++[(⟨#[125,59]⟩:ByteArray)]=L7 at *
     refine (Tryz.strings_Join g8 0 c8 L7 ⟨#[32]⟩ w8 (fun j x hj=>?_) HLT.out (by omega) hc8 ?_).mono ?_
     ·have h9:=range_flat (k:=1) (fun _=>rfl) HRG.out hj 0 _ rfl
      simpa using h9
     ·have:=HJZ.out
      show (Lib.join (L7.map (·.data.toList)) sp1.data.toList).length≤_
      have h37:L7.length * (3400+1073741824+1)≤37 * (3400+1073741824+1):=Nat.mul_le_mul_right _ hl7
      omega
     rintro e w9 ⟨rfl,hb9⟩
     have HJ:Hid ((⟨(Lib.join (L7.map (·.data.toList)) (⟨#[32]⟩:ByteArray).data.toList).toArray⟩:ByteArray)=joinB L7 sp1):=rfl
     rw[HJ.out]
     have HB9:=zh (zA (zA HB3.out HB8.out) hb9)
     have hjz:=joinB_le L7 _ HZ6.out
     have h37:L7.length * (3400+1073741824+1)≤37 * (3400+1073741824+1):=Nat.mul_le_mul_right _ hl7
     have n1:¬ 9223372036854775807<(joinB L7 sp1).size+1:=by omega
     clear hb9
     generalize joinB L7 sp1=J at *
     go_wp2
     go_ret
     exact ⟨by rw[HDT.out];rfl,HB9.out⟩
end Go.Proofs.YtdfolgmcggdjdaaGreatDoor


