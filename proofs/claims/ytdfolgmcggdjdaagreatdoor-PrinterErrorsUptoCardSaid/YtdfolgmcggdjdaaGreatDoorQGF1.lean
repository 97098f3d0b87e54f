/-
  The reference's tidying in memory.
-/
import Derived.Test.YtdfolgmcggdjdaaGreatDoorQGF0
import Derived.Test.YtdfolgmcggdjdaaGreatDoorQGA4
import Derived.Test.YtdfolgmcggdjdaaGreatDoorQGA5
namespace Go.Proofs.YtdfolgmcggdjdaaGreatDoor
open Go.RowKit
set_option maxHeartbeats 16000000
set_option maxRecDepth 100000
theorem zeroStr (w:World):(zeroValue 9).run Tryz.prog w = .ok (.string ⟨#[]⟩) w:=by kernel_rfl
theorem kw_map (W:World) (k:Int):∃w1 w2 w3:World,
  (Instr.mapUpdate 117 (.map (some W.heap.size)) (.int .i64 4) (.string ⟨#[101,110,117,109]⟩)).run Tryz.prog (W.alloc (.map #[] 0)) = .ok () w1 ∧
  (Instr.mapUpdate 117 (.map (some W.heap.size)) (.int .i64 5) (.string ⟨#[114,101,99,111,114,100]⟩)).run Tryz.prog w1 = .ok () w2 ∧
  (Instr.mapUpdate 117 (.map (some W.heap.size)) (.int .i64 6) (.string ⟨#[117,110,105,111,110]⟩)).run Tryz.prog w2 = .ok () w3 ∧
  (Instr.lookup 117 (.map (some W.heap.size)) (.int .i64 k) false).run Tryz.prog w3 = .ok (.string (kindW k)) w3∧Hid (Below W.heap.size W w3):=by
 have h0:MapAt (Value.int .i64) (W.alloc (.map #[] 0)) W.heap.size ([]:List (Int×Value)):=heap_alloc_new W _;obtain ⟨w1,e1,m1,g1,z1⟩:=mapUpdate_run (P:=Tryz.prog) (KT:=3) (MT:=117) (ET:=9) keyOk_int Tryz.underlying117 h0 4 (.string ⟨#[101,110,117,109]⟩)
 obtain ⟨w2,e2,m2,g2,z2⟩:=mapUpdate_run (P:=Tryz.prog) (KT:=3) (MT:=117) (ET:=9) keyOk_int Tryz.underlying117 m1 5 (.string ⟨#[114,101,99,111,114,100]⟩);obtain ⟨w3,e3,m3,g3,z3⟩:=mapUpdate_run (P:=Tryz.prog) (KT:=3) (MT:=117) (ET:=9) keyOk_int Tryz.underlying117 m2 6 (.string ⟨#[117,110,105,111,110]⟩);refine ⟨w1,w2,w3,e1,e2,e3,?_,?_⟩
 ·have hl:=lookup_run (P:=Tryz.prog) (KT:=3) (MT:=117) (ET:=9) keyOk_int Tryz.underlying117 zeroStr m3 k false
  rw[hl];simp only[getV_updK];unfold kindW getV;simp only[fnd]
  by_cases k6:k=6
  ·simp[k6]
  by_cases k5:k=5
  ·simp[k5]
  by_cases k4:k=4
  ·simp[k4]
  ·simp[k4,k5,k6]
 ·have b0:=zD W (.map #[] 0)
  have hs:∀ {u:World},Below W.heap.size W u→W.heap.size≤u.heap.size:=fun h=>h.size
  have b1:=b0.grown g1 b0.size (fun q hq=>by have:=Option.some.inj hq;omega)
  have b2:=b1.grown g2 b1.size (fun q hq=>by have:=Option.some.inj hq;omega)
  exact b2.grown g3 b2.size (fun q hq=>by have:=Option.some.inj hq;omega)
theorem own_strs (w:World) (l:List ByteArray) (base:Nat) (hb:base≤w.heap.size) (hl:l.length≤1000):OwnS (w.alloc (.cells (l.map Value.string).toArray 9)) base (.slice (some ⟨w.heap.size,0,none⟩) l.length l.length) l:=by
 have e:l.flatMap encS=l.map Value.string:=by
  induction l with
  | nil=>rfl
  | cons x r ih=>rw[List.flatMap_cons,ih (by simp at hl;omega)];rfl
 refine ⟨by rw[e];simp,.inr ⟨w.heap.size,l.length,_,rfl,hb,heap_alloc_new w _,Nat.le_refl _,by unfold maxLen;omega,by simp,?_⟩⟩
 rw[e];simpa using List.take_of_length_le (by simp)
theorem grown_cell {w w':World} {row:Option Nat} {a:Addr} {v:Value} (hg:w.grownBy w' row) (hne:∀k,row=some k→a.block≠k) (h:w.cell? a=some v):w'.cell? a=some v:=by
 rw[World.cell?_of_block (w:=w) (w':=w') (a:=a) (grown_block hg (zN h) hne)];exact h
theorem bx_cells2 {W:World} {b:Nat} {x:TyD} {As:zo} {cs:Nat} {Am:zo} {cm:Nat} (h:W.heap[b]? = some (x.box As cs Am cm)) :
  W.cell? ⟨b,5,none⟩=some (.slice As x.syms.length cs)∧W.cell? ⟨b,6,none⟩=some (.slice Am x.mems.length cm)∧W.cell? ⟨b,9,none⟩=some (.bool x.open_):=by
 refine ⟨?_,?_,?_⟩ <;> (rw[cell_of_row _ _ _ _ _ _ h];rfl)
theorem elem_one (x:ByteArray):∀u∈([.string x]:List Value),u.oneCell'=true:=by simp[Value.oneCell']
theorem declaration_any (s:List TyD) (A:zo) (c:Nat) (hv:zJ s=0) (hn:Num64 s) (df:MemD→ByteArray) (x:TyD) (hx:x∈s) (hkn:zL x.kind=true) (hd:∀m∈x.mems,DfOk s A c df m∧finD s (s.length+1) m.type)
  (As:zo) (cs:Nat) (Am:zo) (cm:Nat) (w:World) (hs:TysR w A s) (ht:TyR w x As Am) (htab:Tab w) :
  Calls Tryz.prog 39 #[.agg #[.slice A s.length c],x.v As cs Am cm] w fun e w'=>e = .returned (.string (declT s df x))∧Below w.heap.size w w':=by
 have hls:=zZ hv;have HS:=zh hs;have HT:=zh ht;have HTB:=zh htab;have HD:=zh hd;have HSR:=zh (fun y hy=>sym_rng hv hx (y:=y) hy)
 have hm16:=mems_le hv hx;have HB0:=zh (zE w (.cells #[.slice A s.length c] 27) (x.box As cs Am cm));have HX0:=zh (tmp_al (heap_alloc_new w (.cells #[.slice A s.length c] 27)) (x.box As cs Am cm));have HY0:Hid (((w.alloc (.cells #[.slice A s.length c] 27)).alloc (x.box As cs Am cm)).heap[w.heap.size+1]? = some (x.box As cs Am cm)):=by
  have:=heap_alloc_new (w.alloc (.cells #[.slice A s.length c] 27)) (x.box As cs Am cm);rw[show (w.alloc (.cells #[.slice A s.length c] 27)).heap.size=w.heap.size+1 by simp] at this
  exact this
 have HZ0:Hid (((w.alloc (.cells #[.slice A s.length c] 27)).alloc (x.box As cs Am cm)).heap.size=w.heap.size+2):=by show _=_;simp
 have HMM:=zh (fun m (hm:m∈x.mems) A1 c1 A2 c2 A3 c3 u (h1:TysR u A s) (h2:MemR u m A1 A2 A3) (h3:Tab u) =>
  member_any s A c hv hn df m (hd m hm).1 (by have:=(mem_rng hv hx hm).1.1;unfold In64;omega) (mem_rng hv hx hm).1.2 (mem_rng hv hx hm).2 (hd m hm).2 A1 c1 A2 c2 A3 c3 u h1 h2 h3)
 have HMZ:=zh (fun m (hm:m∈x.mems)=>memT_le (s:=s) (df:=df) (m:=m) (n:=1073741824) (by have:=(mem_rng hv hx hm).1.1;unfold In64;omega) (mem_rng hv hx hm).1.2 (hd m hm).1.1 (by have:=text_le hv hn (s.length+1) m.type (mem_rng hv hx hm).2 (hd m hm).2;omega))
 have hnl:x.name.size≤24:=by
  obtain ⟨i,hi,e⟩:=List.getElem_of_mem hx;have:=name_le hv (t:=(i:Int)) ⟨by omega,by omega⟩ (by rw[zP hi,e];exact hkn)
  rwa [zP hi,e] at this
 have hs16:x.syms.length≤16:=by
  cases h:x.syms with
  | nil=>simp
  | cons y r=>have:=(sym_rng hv hx (y:=y) (by rw[h];simp)).2;rwa [h] at this
 have hmm:=@run_makeMap Tryz.prog;clear hs ht htab hd hv hn hx hkn
 go_enter Tryz.func39,Tryz.ntmps39
 go_upto_region 1 with fail
 generalize (w.alloc (.cells #[.slice A s.length c] 27)).alloc (x.box As cs Am cm)=W1 at *;obtain ⟨w1,w2,w3,e1,e2,e3,el,hb3⟩:=kw_map W1 x.kind;have HB3:=zh (zB HB0.out hb3.out);have HX3:=zh ((hb3.out.block _ (zg.1 HX0.out).1).trans HX0.out);have HY3:=zh ((hb3.out.block _ (zg.1 HY0.out).1).trans HY0.out);clear hb3;obtain ⟨b0,b1,b2,b3,b4,b7,b8⟩:=bx_cells HY3.out;obtain ⟨b5,b6,b9⟩:=bx_cells2 HY3.out
 go_upto_region 2 with fail
 clear e1 e2 e3 el hmm;have HO0:=zh (own_strs w3 [kindW x.kind,x.name] w3.heap.size (Nat.le_refl _) (by simp))
 have HB4:=zh (zD w3 (.cells #[.string (kindW x.kind),.string x.name] 9));simp only[List.map_cons,List.map_nil,List.length_cons,List.length_nil,Nat.zero_add,Nat.reduceAdd] at HO0;generalize w3.alloc (.cells #[.string (kindW x.kind),.string x.name] 9)=W4 at *;have y9:=zA HB4.out b9;have HC3:=zh (And.intro b5 b6);clear b0 b1 b2 b3 b4 b5 b6 b7 b8 b9 HX0 HY0 HZ0
 go_upto_if 19 with fail
 go_cut [5] (fun s5 wx=>Hid (OwnS wx w3.heap.size s5 ([kindW x.kind,x.name]++(if x.open_ then [⟨#[111,112,101,110]⟩] else []))∧Below w3.heap.size w3 wx))
 case first =>
  cases ho:x.open_ with
  | true =>
   rw[ho] at y9
   go_wp2_with (at_builtin;(have e1:=OwnL.alloc HO0.out (.cells #[.string ⟨#[111,112,101,110]⟩] 9));(have e2:=zT W4 [.string ⟨#[111,112,101,110]⟩] 9);have e3:=zB HB4.out (zD W4 (.cells #[.string ⟨#[111,112,101,110]⟩] 9));refine zR elem_str _ rfl (.tmp 20) (.tmp 21) rfl w3.heap.size _ _ _ rfl e1 W4.heap.size 0 1 1 [.string ⟨#[111,112,101,110]⟩] rfl rfl e2 (elem_one _) (by simp) (by simp) e3.size ?_;intro v8 w8 ho8 hg8;have HO8:=OwnL.snoc (enc:=encS) (x:=⟨#[111,112,101,110]⟩) ho8;have HB8:=e3.grown hg8 e3.size e1.lt;clear ho8 hg8 e1 e2 e3)
   go_meet
   exact ⟨by rw[ho,if_pos rfl];exact HO8,HB8⟩
  | false =>
   rw[ho] at y9;go_wp2;go_meet;exact ⟨by rw[ho,if_neg (by simp),List.append_nil];exact HO0.out,HB4.out⟩
 case rest =>
 have HW0:=zh hcut.out.1;have HB5:=zh hcut.out.2;clear hcut HO0 HB4 y9;have HDW:Hid (wordsT s df x=([kindW x.kind,x.name]++(if x.open_ then [⟨#[111,112,101,110]⟩] else []))++[⟨#[123]⟩]++x.syms.map symT++x.mems.map (memT s df)++[⟨#[125,59]⟩]):=rfl
 have hl1:([kindW x.kind,x.name]++(if x.open_ then [⟨#[111,112,101,110]⟩] else []):List ByteArray).length≤3:=by rw[List.length_append];split <;> simp
 have HZ1:Hid (∀u∈([kindW x.kind,x.name]++(if x.open_ then [⟨#[111,112,101,110]⟩] else []):List ByteArray),u.size≤24):=fun u hu=>by
  rcases List.mem_append.1 hu with k|k
  ·rcases List.mem_cons.1 k with e|e
   ·subst e;have:=kindW_le x.kind;omega
   ·obtain rfl:u=x.name:=by simpa using e
    exact hnl
  ·split at k
   ·obtain rfl:u=⟨#[111,112,101,110]⟩:=by simpa using k
    decide
   ·cases k
 generalize ([kindW x.kind,x.name]++(if x.open_ then [⟨#[111,112,101,110]⟩] else []):List ByteArray)=L1 at *
 go_wp2_with (at_builtin;(have e1:=OwnL.alloc HW0.out (.cells #[.string ⟨#[123]⟩] 9));(have e2:=zT wc [.string ⟨#[123]⟩] 9);have e3:=zB HB5.out ((Below.refl _ _).alloc (by have:=HB5.out.size;omega) (.cells #[.string ⟨#[123]⟩] 9));refine zR elem_str _ rfl (.tmp 23) (.tmp 24) rfl w3.heap.size _ _ _ rfl e1 wc.heap.size 0 1 1 [.string ⟨#[123]⟩] rfl rfl e2 (elem_one _) (by omega) (by omega) e3.size ?_;intro v8 w8 ho8 hg8;have HO8:=zh (OwnL.snoc (enc:=encS) (x:=⟨#[123]⟩) ho8);have HB8:=zh (e3.grown hg8 e3.size e1.lt);have b5:=zA HB8.out HC3.out.1;clear ho8 hg8 e1 e2 e3)
 have hl2:(L1++[(⟨#[123]⟩:ByteArray)]).length≤4:=by rw[List.length_append];simp;omega
 have HZ2:Hid (∀u∈L1++[⟨#[123]⟩],u.size≤24):=fun u hu=>by
  rcases List.mem_append.1 hu with k|k
  ·exact HZ1.out u k
  ·obtain rfl:u=⟨#[123]⟩:=by simpa using k
   decide
 generalize L1++[(⟨#[123]⟩:ByteArray)]=L2 at *
 go_loopw [5,29] (fun v i wr=>∃k:Nat,k≤x.syms.length∧i = .int .i64 (k:Int)∧Hid (OwnS wr w3.heap.size v (L2++(x.syms.take k).map symT)∧Below w3.heap.size w3 wr)) (fun _ i _=>x.syms.length - (intOf i).toNat)
 case atStart=>exact ⟨0,by omega,rfl,by simpa using HO8.out,HB8.out⟩
 case round =>
  obtain ⟨k,hk,rfl,hh⟩:=hrel;obtain ⟨wk,rfl⟩:∃wk:World,wk=wr:=⟨_,rfl⟩;have HOK:=zh hh.out.1;have HBK:=zh hh.out.2;clear hh b5;have HBK0:=zh (zB HB3.out HBK.out)
  by_cases hlt:k<x.syms.length
  ·obtain ⟨b,o,rfl,hsok,a0,a1⟩:=((HT.out.below HBK0.out).syms).at2 hlt
   have h1:(0:Int)≤(k:Int):=by omega
   have h2:(k:Int)<(x.syms.length:Int):=by omega
   have HYR:=zh (HSR.out _ (List.getElem_mem hlt));have HNX:Hid (L2++(x.syms.take (k+1)).map symT=(L2++(x.syms.take k).map symT)++[symT x.syms[k]]):=by
    show _=_
    rw[List.take_succ_eq_append_getElem hlt,List.map_append,←List.append_assoc];rfl
   obtain ⟨L3,hL3⟩:∃L3,L3=L2++(x.syms.take k).map symT:=⟨_,rfl⟩;have hl3:L3.length≤30:=by rw[hL3,List.length_append,List.length_map,List.length_take];omega
   rw[←hL3] at HOK HNX;clear hL3 hsok;generalize x.syms[k]=y at *;have HBX:=zh (zD wk y.box);have HXX:=zh (heap_alloc_new wk y.box);have HOX:=zh (HOK.out.below HBX.out);have HBW:=zh (zB HBK.out HBX.out);go_upto_region 8 with fail
   clear a0 a1;generalize wk.alloc y.box=W6 at *;have y0:W6.cell? ⟨wk.heap.size,0,none⟩=some (.int .i64 y.id):=by rw[cell_of_row _ _ _ _ _ _ HXX.out];rfl
   have y1:W6.cell? ⟨wk.heap.size,1,none⟩=some (.string y.name):=by rw[cell_of_row _ _ _ _ _ _ HXX.out];rfl
   have HID:Hid (In64 y.id):=by have:=HYR.out.1.1;show In64 _;unfold In64;omega
   have z0:=yE HID.out;have z1:=HYR.out.1.2;have n1:¬ 9223372036854775807<(decB y.id).size+1:=by omega
   have n2:¬ 9223372036854775807<(decB y.id).size+1+y.name.size:=by omega
   have n3:¬ 9223372036854775807<(decB y.id).size+1+y.name.size+1:=by omega
   have HTW:=zh (HTB.out.below (zB HB3.out HBW.out));have HLT:Hid (∀q,Value.ownBlock u5=some q→q<wk.heap.size):=fun q hq=>(World.ownsRow.lt HOK.out q hq).2
   refine wp_region_held_drew (S:=(fun w'=>(w'.cell? ⟨wk.heap.size,0,none⟩=some (.int .i64 y.id)∧w'.cell? ⟨wk.heap.size,1,none⟩=some (.string y.name))∧Hid (Below w3.heap.size w3 w'))) (by kernel_rfl) ?_ (fun zH_=>?_)
   ·(try dsimp only);exact ⟨⟨y0,y1⟩,zC HBW.out _⟩
   refine tL 0 ?_;refine tL 1 ?_;refine tL 2 ?_;refine tL 5 ?_;refine tL 6 ?_;refine tR 3 (fun K hK=>?_)
   go_simp
   (refine (itoa_any y.id HID.out _ (HTB.out.below (zB HB3.out zH_.2.out))).mono ?_;rintro e w4 ⟨rfl,hbz⟩;have HO4:=zh ((HOX.out.below (zC (Below.refl _ _) 1)).below hbz))
   refine hK.out _ _ ?_ (fun zH_=>?_)
   ·(try dsimp only);exact ⟨⟨zA hbz zH_.1.1,zA hbz zH_.1.2⟩,zB zH_.2.out hbz⟩
   clear hK K;try simp only[ps]
   refine tL 4 ?_;refine tL 7 ?_;refine tL 8 ?_;refine tR 9 (fun K hK=>?_)
   go_simp
   refine hK.out _ _ ?_ (fun zH_=>?_)
   ·(try dsimp only);exact ⟨⟨zA (zD _ _) zH_.1.1,zA (zD _ _) zH_.1.2⟩,zB zH_.2.out (zD _ _)⟩
   clear hK K;refine tR 10 (fun K hK=>?_)
   (have e1:=HO4.out.alloc (.cells #[.string (symT y)] 9);refine zQ elem_str (by rfl) (.tmp 33) (.tmp 42) (by rfl) w3.heap.size _ _ _ (by rfl) e1 w4.heap.size 0 1 1 [.string (symT y)] (by rfl) rfl (zT w4 [.string (symT y)] 9) (elem_one _) (by omega) (by omega) zH_.2.out.size ?_;intro v9 w9 ho9 hg9;have HO9:=zh (OwnL.snoc (enc:=encS) (x:=symT y) ho9);have HB9:=zh (zH_.2.out.grown hg9 zH_.2.out.size e1.lt);have C9:=And.intro (grown_cell hg9 (fun q hq=>by have:=HLT.out q hq;simp only;omega) zH_.1.1) (grown_cell hg9 (fun q hq=>by have:=HLT.out q hq;simp only;omega) zH_.1.2);clear ho9 hg9 e1)
   refine hK.out _ _ ?_ (fun zH_=>?_)
   ·(try dsimp only);exact ⟨C9,HB9.out⟩
   clear hK K;refine tL 11 ?_;try simp only[ps]
   refine wpAnyH_done (by kernel_rfl) ?_ _
   go_wp2
   go_roundw
   case rel=>exact ⟨k+1,by omega,by go_num,by rw[HNX.out];exact HO9.out,HB9.out⟩
   case measure=>simp[intOf];omega
  ·obtain rfl:k=x.syms.length:=by omega
   rw[List.take_length] at HOK;have b6:=zA HBK.out HC3.out.2;have hl4:(L2++x.syms.map symT).length≤20:=by rw[List.length_append,List.length_map];omega
   have HZ4:Hid (∀u∈L2++x.syms.map symT,u.size≤47):=fun u hu=>by
    rcases List.mem_append.1 hu with k|k
    ·have:=HZ2.out u k;omega
    ·obtain ⟨y,hy,rfl⟩:=List.mem_map.1 k
     have:=HSR.out y hy;exact symT_le (by have:=this.1.1;unfold In64;omega) this.1.2
   clear HO8 HB8;generalize L2++x.syms.map symT=L4 at *;go_wp2_with fail
   go_loopw [5,48] (fun v i wr=>∃k:Nat,k≤x.mems.length∧i = .int .i64 (k:Int)∧Hid (OwnS wr w3.heap.size v (L4++(x.mems.take k).map (memT s df))∧Below w3.heap.size w3 wr)) (fun _ i _=>x.mems.length - (intOf i).toNat)
   case atStart=>exact ⟨0,by omega,rfl,by simpa using HOK.out,HBK.out⟩
   case round =>
    obtain ⟨k,hk,rfl,hh⟩:=hrel;obtain ⟨wm,rfl⟩:∃wm:World,wm=wr:=⟨_,rfl⟩;have HOM:=zh hh.out.1;have HBM:=zh hh.out.2;clear hh b6;have HBM0:=zh (zB HB3.out HBM.out)
    by_cases hlt:k<x.mems.length
    ·obtain ⟨b,o,A1,c1,A2,c2,A3,c3,rfl,hmr,d0,d1,d2,d3,d4,d5,d6,d7,d8,d9,d10,d11,d12⟩:=((HT.out.below HBM0.out).mems).at13 hlt
     have HMR:=zh hmr;have h1:(0:Int)≤(k:Int):=by omega
     have h2:(k:Int)<(x.mems.length:Int):=by omega
     have HMH:=zh (List.getElem_mem hlt);have HNX:Hid (L4++(x.mems.take (k+1)).map (memT s df)=(L4++(x.mems.take k).map (memT s df))++[memT s df x.mems[k]]):=by
      show _=_
      rw[List.take_succ_eq_append_getElem hlt,List.map_append,←List.append_assoc];rfl
     obtain ⟨L5,hL5⟩:∃L5,L5=L4++(x.mems.take k).map (memT s df):=⟨_,rfl⟩;have hl5:L5.length≤40:=by rw[hL5,List.length_append,List.length_map,List.length_take];omega
     rw[←hL5] at HOM HNX;clear hL5 hmr;generalize x.mems[k]=m at *;have HBX:=zh (zD wm (m.box A1 c1 A2 c2 A3 c3));have HXX:=zh (heap_alloc_new wm (m.box A1 c1 A2 c2 A3 c3));have HOX:=zh (HOM.out.below HBX.out);have HBW:=zh (zB HBM.out HBX.out);go_upto_region 13 with fail
     clear d0 d1 d2 d3 d4 d5 d6 d7 d8 d9 d10 d11 d12;generalize wm.alloc (m.box A1 c1 A2 c2 A3 c3)=W6 at *;have HX6:=zh ((HBW.out.block _ (zg.1 HX3.out).1).trans HX3.out);have x0:=zb HX6.out;obtain ⟨b0,b1,b2,b3,b4,b5,b6,b7,b8,b9,b10,b11,b12⟩:=mbx_cells HXX.out;have HBW0:=zh (zB HB3.out HBW.out);go_wp2_with fail
     refine (HMM.out m HMH.out A1 c1 A2 c2 A3 c3 W6 (HS.out.below HBW0.out) (HMR.out.below HBX.out) (HTB.out.below HBW0.out)).mono ?_;rintro e w7 ⟨rfl,hb7⟩;have HO7:=zh (HOX.out.below hb7);have HB7:=zh (zB HBW.out hb7);clear b0 b1 b2 b3 b4 b5 b6 b7 b8 b9 b10 b11 b12 x0 hb7;generalize memT s df m=T at *
     go_wp2_with (at_builtin;(have e1:=OwnL.alloc HO7.out (.cells #[.string T] 9));(have e2:=zT w7 [.string T] 9);have e3:=zB HB7.out (zD w7 (.cells #[.string T] 9));refine zR elem_str _ rfl (.tmp 52) (.tmp 56) rfl w3.heap.size _ _ _ rfl e1 w7.heap.size 0 1 1 [.string T] rfl rfl e2 (elem_one _) (by omega) (by omega) e3.size ?_;intro v8 w8 ho8 hg8;have HO8:=zh (OwnL.snoc (enc:=encS) (x:=T) ho8);have HB8:=zh (e3.grown hg8 e3.size e1.lt);clear ho8 hg8 e1 e2 e3)
     go_roundw
     case rel=>exact ⟨k+1,by omega,by go_num,by rw[HNX.out];exact HO8.out,HB8.out⟩
     case measure=>simp[intOf];omega
    ·obtain rfl:k=x.mems.length:=by omega
     rw[List.take_length] at HOM;have hl6:(L4++x.mems.map (memT s df)).length≤36:=by rw[List.length_append,List.length_map];omega
     have HZ6:Hid (∀u∈(L4++x.mems.map (memT s df))++[(⟨#[125,59]⟩:ByteArray)],u.size≤3400+1073741824):=fun u hu=>by
      rcases List.mem_append.1 hu with k|k
      ·rcases List.mem_append.1 k with k|k
       ·have:=HZ4.out u k;omega
       ·obtain ⟨m,hm,rfl⟩:=List.mem_map.1 k
        exact HMZ.out m hm
      ·obtain rfl:u=⟨#[125,59]⟩:=by simpa using k
       show 2≤_;omega
     have HDT:Hid (declT s df x=joinB ((L4++x.mems.map (memT s df))++[(⟨#[125,59]⟩:ByteArray)]) sp1++⟨#[10]⟩):=by show _=_;unfold declT;rw[HDW.out]
     generalize L4++x.mems.map (memT s df)=L6 at *;have hl7:(L6++[(⟨#[125,59]⟩:ByteArray)]).length≤37:=by rw[List.length_append];simp;omega
     have hn7:(L6++[(⟨#[125,59]⟩:ByteArray)])≠[]:=by simp
     have HJZ:=zh (join_len_le _ _ HZ6.out)
     go_wp2_with (at_builtin;(have e1:=OwnL.alloc HOM.out (.cells #[.string ⟨#[125,59]⟩] 9));(have e2:=zT wm [.string ⟨#[125,59]⟩] 9);have e3:=zB HBM.out (zD wm (.cells #[.string ⟨#[125,59]⟩] 9));refine zR elem_str _ rfl (.tmp 59) (.tmp 60) rfl w3.heap.size _ _ _ rfl e1 wm.heap.size 0 1 1 [.string ⟨#[125,59]⟩] rfl rfl e2 (elem_one _) (by omega) (by omega) e3.size ?_;intro v8 w8 ho8 hg8;have HO8:=zh (OwnL.snoc (enc:=encS) (x:=⟨#[125,59]⟩) ho8);have HB8:=zh (e3.grown hg8 e3.size e1.lt);clear ho8 hg8 e1 e2 e3;obtain ⟨A8,c8,rfl,hc8,_,hr8⟩:=HO8.out.reads;obtain ⟨g8,rfl,hg80,hrg⟩:=hr8 hn7;have HRG:=zh hrg;have HLT:=zh (World.ownsRow.lt HO8.out g8 rfl).2;clear hr8 hrg)
     rw[show L6.length+1=(L6++[(⟨#[125,59]⟩:ByteArray)]).length by simp]
     generalize L6++[(⟨#[125,59]⟩:ByteArray)]=L7 at *;refine (Tryz.strings_Join g8 0 c8 L7 ⟨#[32]⟩ w8 (fun j x hj=>?_) HLT.out (by omega) hc8 ?_).mono ?_
     ·have h9:=range_flat (k:=1) (fun _=>rfl) HRG.out hj 0 _ rfl
      simpa using h9
     ·have:=HJZ.out
      show (Lib.join (L7.map (·.data.toList)) sp1.data.toList).length≤_
      have h37:L7.length * (3400+1073741824+1)≤37 * (3400+1073741824+1):=Nat.mul_le_mul_right _ hl7
      omega
     rintro e w9 ⟨rfl,hb9⟩;have HJ:Hid ((⟨(Lib.join (L7.map (·.data.toList)) (⟨#[32]⟩:ByteArray).data.toList).toArray⟩:ByteArray)=joinB L7 sp1):=rfl;rw[HJ.out];have HB9:=zh (zB (zB HB3.out HB8.out) hb9);have hjz:=joinB_le L7 _ HZ6.out;have h37:L7.length * (3400+1073741824+1)≤37 * (3400+1073741824+1):=Nat.mul_le_mul_right _ hl7;have n1:¬ 9223372036854775807<(joinB L7 sp1).size+1:=by omega
     clear hb9;generalize joinB L7 sp1=J at *;go_wp2;go_ret;exact ⟨by rw[HDT.out];rfl,HB9.out⟩
theorem written_fin {s:List TyD} (hv:zJ s=0) {l:List Int} (hl:∀u∈l,0≤u∧u<(s.length:Int)) (h:writtenD s l=0):∀u∈l,finD s (s.length+1) u:=fun u hu=>by
 obtain ⟨_,n1⟩:=visits_ok hv l (yH s.length) hl (VI.start s) (cntF_rep _);refine use_fin (s.length+1) [] u (hl u hu) hv (PathOk.nil s u) (by simp) fun hc=>?_
 have:=n1.c1 ⟨u,hu,hc⟩;unfold writtenD at h;simp only[this] at h
 split at h <;> simp at h
theorem check_parts {s:List TyD} {d:Int} (h:yN s d=0):zJ s=0∧d=0∧s.any badW=false∧writtenD s (usesL s)=0:=by
 unfold yN at h
 split at h
 ·rename_i h1;exact absurd h h1
 rename_i h1
 split at h
 ·rename_i h2;exact absurd h h2
 rename_i h2
 split at h
 ·cases h
 rename_i h3
 exact ⟨by simpa using h1,by simpa using h2,by simpa using h3,h⟩
theorem check_fin {s:List TyD} {d:Int} (h:yN s d=0) {t:TyD} (ht:t∈s) {m:MemD} (hm:m∈t.mems):finD s (s.length+1) m.type:=by
 obtain ⟨hv,_,_,hw⟩:=check_parts h;exact written_fin hv (uses_rng hv) hw _ (List.mem_flatMap.2 ⟨t,ht,List.mem_map.2 ⟨m,hm,rfl⟩⟩)
def printD (s:List TyD) (d:Int) (df:MemD→ByteArray):ByteArray×Int:=if yN s d≠0 then (⟨#[]⟩,yN s d) else if 65536<(printT s df s).size then (⟨#[]⟩,3) else (printT s df s,0)
theorem print_bad {s:List TyD} {d:Int} {df:MemD→ByteArray} (h:yN s d≠0):printD s d df=(⟨#[]⟩,yN s d):=by unfold printD;rw[if_pos h]
theorem printT_snoc (s:List TyD) (df:MemD→ByteArray) (l:List TyD) (x:TyD):printT s df (l++[x])=if zL x.kind then printT s df l++declT s df x else printT s df l:=by
 unfold printT;rw[List.foldl_append];rfl
theorem declT_le {s:List TyD} {df:MemD→ByteArray} (hv:zJ s=0) (hn:Num64 s) {x:TyD} (hx:x∈s) (hkn:zL x.kind=true) (hd:∀m∈x.mems,(df m).size≤1073741824∧finD s (s.length+1) m.type):(declT s df x).size≤40000000000:=by
 have hm16:=mems_le hv hx;have hs16:x.syms.length≤16:=by
  cases h:x.syms with
  | nil=>simp
  | cons y r=>have:=(sym_rng hv hx (y:=y) (by rw[h];simp)).2;rwa [h] at this
 have hnl:x.name.size≤24:=by
  obtain ⟨i,hi,e⟩:=List.getElem_of_mem hx;have:=name_le hv (t:=(i:Int)) ⟨by omega,by omega⟩ (by rw[zP hi,e];exact hkn)
  rwa [zP hi,e] at this
 have hz:∀u∈wordsT s df x,u.size≤3400+1073741824:=fun u hu=>by
  unfold wordsT at hu;simp only[List.mem_append] at hu
  rcases hu with ((((h|h)|h)|h)|h)|h
  ·rcases List.mem_cons.1 h with e|e
   ·subst e;have:=kindW_le x.kind;omega
   ·obtain rfl:u=x.name:=by simpa using e
    omega
  ·split at h
   ·obtain rfl:u=⟨#[111,112,101,110]⟩:=by simpa using h
    show 4≤_;omega
   ·cases h
  ·obtain rfl:u=⟨#[123]⟩:=by simpa using h
   show 1≤_;omega
  ·obtain ⟨y,hy,rfl⟩:=List.mem_map.1 h
   have:=sym_rng hv hx hy;have:=symT_le (y:=y) (by have:=this.1.1;unfold In64;omega) this.1.2
   omega
  ·obtain ⟨m,hm,rfl⟩:=List.mem_map.1 h
   have:=mem_rng hv hx hm;exact memT_le (by have:=this.1.1;unfold In64;omega) this.1.2 (hd m hm).1 (by have:=text_le hv hn (s.length+1) m.type this.2 (hd m hm).2;have:=zZ hv;omega)
  ·obtain rfl:u=⟨#[125,59]⟩:=by simpa using h
   show 2≤_;omega
 have hl:(wordsT s df x).length≤37:=by
  unfold wordsT;simp only[List.length_append,List.length_map,List.length_cons,List.length_nil]
  split <;> simp <;> omega
 have h1:=joinB_le _ _ hz;have h2:(wordsT s df x).length * (3400+1073741824+1)≤37 * (3400+1073741824+1):=Nat.mul_le_mul_right _ hl;unfold declT;rw[zG]
 show _+1≤_
 omega
theorem printT_le {s:List TyD} {df:MemD→ByteArray} {B:Nat} (h:∀x∈s,zL x.kind=true→(declT s df x).size≤B):∀k,k≤s.length→(printT s df (s.take k)).size≤k * B
 | 0,_=>by rw[List.take_zero];exact Nat.zero_le _
 | k+1,hk=>by
  have ih:=printT_le h k (by omega)
  rw[List.take_succ_eq_append_getElem (by omega),printT_snoc,Nat.succ_mul]
  split
  ·rename_i hkn
   have:=h _ (List.getElem_mem (show k<s.length by omega)) hkn
   rw[zG]
   omega
  ·omega
theorem print_any (s:List TyD) (d:Int) (df:MemD→ByteArray) (A:zo) (c:Nat) (hd:DefSaid s A c d) (hn:Num64 s) (hdf:yN s d=0→∀t∈s,∀m∈t.mems,DfOk s A c df m) (w:World) (hs:TysR w A s) (htab:Tab w) :
  Calls Tryz.prog 12 #[.agg #[.slice A s.length c]] w fun e w'=>e = .returned (.tuple #[.string (printD s d df).1,.int .i64 (printD s d df).2])∧Below w.heap.size w w':=by
 have hln:=hs.1.lt (by omega)
 have HS:=zh hs;have HD:=zh hd;have HTB:=zh htab;have HDF:=zh hdf;have HN:=zh hn;have HB0:=zh (zD w (.cells #[.slice A s.length c] 27));have HX0:=zh (heap_alloc_new w (.cells #[.slice A s.length c] 27));clear hs hd htab hdf hn
 go_enter Tryz.func12,Tryz.ntmps12
 go_wp2_with fail
 generalize w.alloc (.cells #[.slice A s.length c] 27)=W1 at *;refine (checked_any s d A c HD.out W1 (HS.out.below HB0.out)).mono ?_;rintro e w1 ⟨rfl,hb1⟩;have HB1:=zh (zB HB0.out hb1);have HX1:=zh ((hb1.block _ (zg.1 HX0.out).1).trans HX0.out);have x0:=zb HX1.out;clear hb1
 by_cases hc:yN s d=0
 case neg =>
  have q1:(yN s d != 0)=true:=by simp[hc]
  have HT:=zh (print_bad (df:=df) hc);clear hc;go_wp2;go_ret2;exact ⟨by rw[HT.out];rfl,HB1.out⟩
 have HPD:Hid (printD s d df=if 65536<(printT s df s).size then (⟨#[]⟩,3) else (printT s df s,0)):=by show _=_;unfold printD;rw[if_neg (by simp[hc])]
 have HDF2:=zh (HDF.out hc);obtain ⟨hv,hd0,_,_⟩:=check_parts hc;have HV:=zh hv;have hls:=zZ hv;have HFN:=zh (fun (t:TyD) (ht:t∈s) (m:MemD) (hm:m∈t.mems)=>check_fin hc ht hm)
 have HDL:=zh (fun (x:TyD) (hx:x∈s) (hk:zL x.kind=true)=>declT_le hv HN.out hx hk fun m hm=>⟨(HDF2.out x hx m hm).1,HFN.out x hx m hm⟩)
 have HPZ:=zh (printT_le (B:=40000000000) HDL.out);rw[hc];subst hd0;clear hc hv HDF HD;have HI0:=zh (BldAt.new w1 (Nat.le_refl _));have HBI:=zh (zD w1 (.cells #[.pointer none,.slice none 0 0] 84));have HX2:=zh (tmp_al HX1.out (.cells #[.pointer none,.slice none 0 0] 84));go_upto_region 5 with fail
 generalize w1.alloc (.cells #[.pointer none,.slice none 0 0] 84)=W2 at *;have y0:=zb HX2.out;clear x0;go_wp2_with fail
 go_loopw [16] (fun i wr=>∃k:Nat,k≤s.length∧i = .int .i64 (k:Int)∧Hid (BldAt wr w1.heap.size w1.heap.size (printT s df (s.take k))∧Below w1.heap.size w1 wr)) (fun i _=>s.length - (intOf i).toNat)
 case atStart=>exact ⟨0,by omega,rfl,HI0.out,HBI.out⟩
 case round =>
  obtain ⟨k,hk,rfl,hh⟩:=hrel;obtain ⟨wk,rfl⟩:∃wk:World,wk=wr:=⟨_,rfl⟩;have HBL:=zh hh.out.1;have HBK:=zh hh.out.2;have HBK0:=zh (zB HB1.out HBK.out);have hpz:=HPZ.out k hk;clear hh y0
  by_cases hlt:k<s.length
  ·obtain ⟨b,o,As,cs,Am,cm,rfl,htr,t0,t1,t2,t3,t4,t5,t6,t7,t8,t9⟩:=(HS.out.below HBK0.out).at10 hlt
   have HTR:=zh htr;have h1:(0:Int)≤(k:Int):=by omega
   have h2:(k:Int)<(s.length:Int):=by omega
   have HMH:=zh (List.getElem_mem hlt);have HNX:Hid (printT s df (s.take (k+1))=if zL (s[k]).kind then printT s df (s.take k)++declT s df s[k] else printT s df (s.take k)):=by
    show _=_
    rw[List.take_succ_eq_append_getElem hlt,printT_snoc]
   generalize printT s df (s.take k)=T at *;generalize s[k]=x at *;clear htr;have HBX:=zh (zD wk (x.box As cs Am cm));have HXX:=zh (heap_alloc_new wk (x.box As cs Am cm));have HBLX:=zh (HBL.out.below HBX.out);have HBW:=zh (zB HBK.out HBX.out);go_upto_region 8 with fail
   clear t0 t1 t2 t3 t4 t5 t6 t7 t8 t9;generalize wk.alloc (x.box As cs Am cm)=W6 at *;have HX6:=zh ((HBW.out.block _ (zg.1 HX1.out).1).trans HX1.out);have x0:=zb HX6.out;obtain ⟨b0,b1,b2,b3,b4,b7,b8⟩:=bx_cells HXX.out;obtain ⟨b5,b6,b9⟩:=bx_cells2 HXX.out;have HBW0:=zh (zB HB1.out HBW.out);go_wp2_with fail;refine (prNamed_any x.kind W6).mono ?_;rintro e w7 ⟨rfl,rfl⟩
   cases hkn:zL x.kind with
   | false =>
    rw[hkn,if_neg (by simp)] at HNX
    clear hkn;go_wp2;go_roundw
    case rel=>exact ⟨k+1,by omega,by go_num,by rw[HNX.out];exact HBLX.out,HBW.out⟩
    case measure=>simp[intOf];omega
   | true =>
    rw[hkn,if_pos rfl] at HNX;have hdl:=HDL.out x HMH.out hkn;have HKN:=zh hkn;clear hkn;go_wp2_with fail;refine (declaration_any s (some ⟨b,o,none⟩) c HV.out HN.out df x HMH.out HKN.out (fun m hm=>⟨HDF2.out x HMH.out m hm,HFN.out x HMH.out m hm⟩) As cs Am cm _ (HS.out.below HBW0.out) (HTR.out.below HBX.out) (HTB.out.below HBW0.out)).mono ?_
    rintro e w8 ⟨rfl,hb8⟩;have HBL8:=zh (HBLX.out.below hb8);have HB8:=zh (zB HBW.out hb8);clear hb8 b0 b1 b2 b3 b4 b5 b6 b7 b8 b9 x0;generalize declT s df x=D at *;go_wp2_with fail;refine (HBL8.out.write D (by have:=Nat.mul_le_mul_right 40000000000 (show k≤32 by omega);omega) HB8.out.size).mono ?_
    rintro e w9 ⟨rfl,hbl9,hb9⟩;have HBL9:=zh hbl9;have HB9:Hid (Below w1.heap.size w1 w9):=HB8.out.trans hb9;clear hbl9 hb9;go_wp2;go_roundw
    case rel=>exact ⟨k+1,by omega,by go_num,by rw[HNX.out];exact HBL9.out,HB9.out⟩
    case measure=>simp[intOf];omega
  ·obtain rfl:k=s.length:=by omega
   rw[List.take_length] at HBL hpz;generalize printT s df s=T at *;go_wp2_with fail;refine HBL.out.len.mono ?_;rintro e w7 ⟨rfl,rfl⟩
   by_cases hbig:65536<T.size
   ·have q1:(65536:Int)<(T.size:Int):=by omega
    rw[if_pos hbig] at HPD;clear hbig;go_wp2;go_ret2;exact ⟨by rw[HPD.out];rfl,HBK0.out⟩
   ·have q1:¬ (65536:Int)<(T.size:Int):=by omega
    rw[if_neg hbig] at HPD;clear hbig;go_wp2_with fail;refine (HBL.out.str HBK.out.size).mono ?_;rintro e w8 ⟨rfl,hb8⟩;have HB8:Hid (Below w.heap.size w w8):=zB HB1.out (HBK.out.trans hb8);clear hb8;go_wp2;go_ret2;exact ⟨by rw[HPD.out];rfl,HB8.out⟩
structure TyA where
 t:TyD
 As:zo
 cs:Nat
 Am:zo
 cm:Nat
def TyA.cells (x:TyA):List Value:=x.t.cs x.As x.cs x.Am x.cm
theorem tyA_one (x:TyA):∀u∈x.cells,u.oneCell'=true:=fun u hu=>by
 unfold TyA.cells at hu;simp only[List.mem_cons,List.mem_nil_iff,or_false] at hu
 rcases hu with rfl|rfl|rfl|rfl|rfl|rfl|rfl|rfl|rfl|rfl <;> rfl
theorem run_append_o {T E:TypeId} {size bytes:Nat} (hE:Elem T E size bytes) (w:World) (base:Nat) (ty:TypeId) (v:Value) (n:Nat) (xs:List Value) (h:w.ownsRow base E size v n xs) (b o m c:Nat) (news:List Value) (hl:news.length=m * size)
  (hnews:w.rangeAt b o news) (h1:∀u∈news,u.oneCell'=true) (hlen:n+m≤9223372036854775807) (hby:(n+m) * bytes≤140737488355328) (hb:base≤w.heap.size) :
  ∃v' w',(Builtin.append_ #[T,T] ty #[v,.slice (some ⟨b,o,none⟩) m c]).run Tryz.prog w = .ok v' w'∧w'.ownsRow base E size v' (n+m) (xs++news)∧w.grownBy w' v.ownBlock∧(v'.ownBlock=v.ownBlock∨v'.ownBlock=some w.heap.size):=by
 obtain ⟨z,hinf,hzs⟩:=hE.info;obtain ⟨i0,hi,hz0,hz1,hz2⟩:=info_parts hinf;obtain ⟨v',w',hr,h2,h3,_,h5⟩:=run_append_own_at (P:=Tryz.prog) w base T ty E i0 z size bytes hE.under hi hz0 hz1 hz2 hzs hE.pos v n xs h ⟨b,o,none⟩ m c news hl (fun j u hj=>by rw[Addr.add_mid];exact hnews j u hj) h1 (by unfold maxLen;omega) hby hb
 exact ⟨v',w',hr,h2,h3,h5⟩
theorem step_append_o {T E:TypeId} {size bytes:Nat} (hE:Elem T E size bytes) {w:World} {ops:Array Oper} {op:Oper} {a:Act} {K:Act→World→Prop} {Q:Exit→Act→World→Prop} {El:Prop} (hgd:op.guard=none) (s x:Operand)
  (ho:op.op = .call { callee := .builtin .append,args:=#[s,x],argTypes:=#[T,T] }) (base:Nat) (v:Value) (n:Nat) (xs:List Value) (hs:a.eval s=v) (h:w.ownsRow base E size v n xs) (b o m c:Nat) (news:List Value) (hx:a.eval x = .slice (some ⟨b,o,none⟩) m c)
  (hl:news.length=m * size) (hnews:w.rangeAt b o news) (h1:∀u∈news,u.oneCell'=true) (hlen:n+m≤9223372036854775807) (hby:(n+m) * bytes≤140737488355328) (hb:base≤w.heap.size)
  (hk:∀v' w',w'.ownsRow base E size v' (n+m) (xs++news)→w.grownBy w' v.ownBlock→(v'.ownBlock=v.ownBlock∨v'.ownBlock=some w.heap.size)→K (a.put op.dst v') w'):if Region.wanted op (yielded ops a.tmps)=true then Oper.wp Tryz.prog op a w K Q else El:=by
 have hw:Region.wanted op (yielded ops a.tmps)=true:=by simp[Region.wanted,hgd]
 rw[if_pos hw];obtain ⟨v',w',hr,h2,h3,h5⟩:=run_append_o hE w base op.type v n xs h b o m c news hl hnews h1 hlen hby hb;unfold Oper.wp execOp;simp only[ho,resolve,invoke,builtin,Sem.run_bind,Sem.run_pure,Result.andThen_ok,List.map_toArray,List.map_cons,List.map_nil,hs,hx,hr];exact hk v' w' h2 h3 h5
theorem elem_ty:Elem 25 50 10 120:=⟨Tryz.underlying25,⟨.agg #[.int .i64 0,.string ⟨#[]⟩,.int .i64 0,.int .i64 0,.int .i64 0,.slice none 0 0,.slice none 0 0,.int .i64 0,.int .i64 0,.bool false],by kernel_rfl,rfl⟩,by omega⟩
theorem ty_info:(Tryz.prog.info? 50).map (·.size)=some 10:=by kernel_rfl
theorem ty_one (t:TyD) (As:zo) (cs:Nat) (Am:zo) (cm:Nat):((t.cs As cs Am cm).toArray).all (·.oneCell')=true :=
 all_oneCell_toArray fun u hu=>by
  simp only[List.mem_cons,List.mem_nil_iff,or_false] at hu
  rcases hu with rfl|rfl|rfl|rfl|rfl|rfl|rfl|rfl|rfl|rfl <;> rfl
theorem Off.more {S S':Nat→Prop} {w w1:World} {P:World→Prop} (h:Off S w P) (hs:∀q,q<w.heap.size→S' q→S q) (hk:∀q,q<w.heap.size→¬ S q→w1.heap[q]? = w.heap[q]?) (hz:w.heap.size≤w1.heap.size):Off S' w1 P :=
 fun w' hw=>h w' fun q hq hl=>(hw q (fun h'=>hq (hs q hl h')) (by omega)).trans (hk q hl hq)
structure Chg (p:Nat) (v v':Value) (W W':World):Prop where
 bel:Below p W W'
 oth:∀q,q≠p→q<W.heap.size→v.ownBlock≠some q→W'.heap[q]? = W.heap[q]?
 own:∀q,v'.ownBlock=some q→v.ownBlock=some q∨W.heap.size≤q
section
variable {p:Nat} {v v1 v2:Value} {W W1 W2:World}
theorem Chg.of (hb:Below W.heap.size W W1) (hp:p≤W.heap.size):Chg p v v W W1:=⟨hb.mono hp,fun q _ hq _=>hb.block q hq,fun _ h => .inl h⟩
theorem Chg.refl (p:Nat) (v:Value) (W:World):Chg p v v W W:=⟨Below.refl _ _,fun _ _ _ _=>rfl,fun _ h => .inl h⟩
theorem Chg.trans (h1:Chg p v v1 W W1) (h2:Chg p v1 v2 W1 W2):Chg p v v2 W W2 :=
 ⟨h1.bel.trans h2.bel,fun q hp hq hv=>(h2.oth q hp (Nat.lt_of_lt_of_le hq h1.bel.size) (fun e=>(h1.own q e).elim hv fun h=>by omega)).trans (h1.oth q hp hq hv),
  fun q hq=>(h2.own q hq).elim (h1.own q) fun h => .inr (Nat.le_trans h1.bel.size h)⟩
end
def tdO (A:zo) (n c gi:Nat) (v:Value):Obj := .cells #[.slice A n c,.slice (some ⟨gi,0,none⟩) n n,v] 63 (0,0)
def ixO (ix:List Int):Obj := .cells (ix.map (Value.int .i64)).toArray 3 (0,0)
structure TdS (A:zo) (n c p gi:Nat) (ix:List Int) (S:Nat→Prop) (W:World) (v:Value) (L:List TyA):Prop where
 blk:W.heap[p]? = some (tdO A n c gi v)
 ixb:W.heap[gi]? = some (ixO ix)
 lt:gi<p
 sp:S p
 len:ix.length=n
 own:OwnL 50 10 TyA.cells W (p+1) v L
 off:∀x∈L,Off (fun q=>S q∨v.ownBlock=some q) W fun u=>TyR u x.t x.As x.Am
section
variable {A:zo} {n c p gi:Nat} {ix:List Int} {S S':Nat→Prop} {W W':World} {v:Value} {L:List TyA}
theorem TdS.plt (h:TdS A n c p gi ix S W v L):p<W.heap.size:=(zg.1 h.blk).1
theorem TdS.ownlt (h:TdS A n c p gi ix S W v L) {q:Nat} (hq:v.ownBlock=some q):p<q∧q<W.heap.size:=by
 have:=World.ownsRow.lt h.own q hq;exact ⟨by omega,this.2⟩
theorem TdS.below (h:TdS A n c p gi ix S W v L) (hb:Below W.heap.size W W'):TdS A n c p gi ix S W' v L :=
 ⟨(hb.block _ h.plt).trans h.blk,(hb.block _ (Nat.lt_trans h.lt h.plt)).trans h.ixb,h.lt,h.sp,h.len,h.own.below hb,fun x hx=>(h.off x hx).low hb⟩
theorem TdS.sets (h:TdS A n c p gi ix S W v L) (hb:Below W.heap.size W W') (hs:∀q,q<W.heap.size→S' q→S q) (hp:S' p):TdS A n c p gi ix S' W' v L :=
 ⟨(hb.block _ h.plt).trans h.blk,(hb.block _ (Nat.lt_trans h.lt h.plt)).trans h.ixb,h.lt,hp,h.len,h.own.below hb,fun x hx=>(h.off x hx).more (fun q hq h'=>h'.imp (hs q hq) id) (fun q hq _=>hb.block q hq) hb.size⟩
theorem TdS.cells (h:TdS A n c p gi ix S W v L):(W.cell? ⟨p,0,none⟩=some (.slice A n c)∧W.cell? ⟨p,1,none⟩=some (.slice (some ⟨gi,0,none⟩) n n)∧W.cell? ⟨p,2,none⟩=some v)∧W.frozen? ⟨p,2,none⟩=false:=by
 have hb:=h.blk;unfold tdO at hb;refine ⟨⟨?_,?_,?_⟩,frozen_of_row _ _ _ _ _ hb⟩ <;> (rw[cell_of_row _ _ _ _ _ _ hb];rfl)
theorem TdS.ixc (h:TdS A n c p gi ix S W v L) {t:Nat} (ht:t<n):W.cell? ⟨gi,t,none⟩=some (.int .i64 (ixAt ix (t:Int)))∧W.frozen? ⟨gi,t,none⟩=false:=by
 have hb:=h.ixb;have hl:=h.len;unfold ixO at hb;refine ⟨?_,frozen_of_row _ _ _ _ _ hb⟩;rw[cell_of_row _ _ _ _ _ _ hb];unfold ixAt;rw[Int.toNat_natCast,List.getD_eq_getElem?_getD,zl (by omega)]
 simp[show t<ix.length by omega]
theorem TdS.val (h:TdS A n c p gi ix S W v L):∃Av cv,v = .slice Av L.length cv:=by
 obtain ⟨Av,cv,e,_⟩:=h.own.reads;exact ⟨Av,cv,e⟩
theorem TdS.next (h:TdS A n c p gi ix S W v L) {x:TyA} (hx:Off (fun q=>S q∨v.ownBlock=some q) W fun u=>TyR u x.t x.As x.Am) {w4:World} (hb4:Below W.heap.size W w4) {v8:Value} {w8:World}
  (ho:w8.ownsRow (p+1) 50 10 v8 (L.length+1) (L.flatMap TyA.cells++x.cells)) (hg:w4.grownBy w8 v.ownBlock) (hv:v8.ownBlock=v.ownBlock∨v8.ownBlock=some w4.heap.size) :
  TdS A n c p gi ix S (w8.setCell ⟨p,2,none⟩ v8) v8 (L++[x])∧Chg p v v8 W (w8.setCell ⟨p,2,none⟩ v8):=by
 have h4:=h.below hb4;have hk:∀q,q<w4.heap.size→v.ownBlock≠some q→w8.heap[q]? = w4.heap[q]? := fun q hq hne=>grown_block hg hq fun k hk e=>hne (by rw[hk,e])
 have hp8:w8.heap[p]? = some (tdO A n c gi v):=(hk p h4.plt fun e=>by have:=h4.ownlt e;omega).trans h4.blk
 have hi8:w8.heap[gi]? = some (ixO ix):=(hk gi (Nat.lt_trans h4.lt h4.plt) fun e=>by have:=h4.ownlt e;have:=h4.lt;omega).trans h4.ixb
 have hlt:=h.lt;have hoff:∀y∈L++[x],Off (fun q=>S q∨v8.ownBlock=some q) (w8.setCell ⟨p,2,none⟩ v8) fun u=>TyR u y.t y.As y.Am:=fun y hy=>by
  have hy':Off (fun q=>S q∨v.ownBlock=some q) w4 fun u=>TyR u y.t y.As y.Am:=by
   rcases List.mem_append.1 hy with k|k
   ·exact h4.off y k
   ·obtain rfl:y=x:=by simpa using k
    exact hx.low hb4
  refine hy'.more (fun q hq hs=>hs.imp id fun h2=>?_) (fun q hq hn=>?_) (by have:=hg.size;simp;omega)
  ·rcases hv with e|e
   ·exact e▸h2
   ·rw[e] at h2
    have:=Option.some.inj h2
    omega
  ·have hqp:q≠p:=fun e=>hn (.inl (e▸h.sp))
   exact (heap_setCell_other _ _ _ _ (by simpa using hqp)).trans (hk q hq fun e=>hn (.inr e))
 refine ⟨⟨?_,(heap_setCell_other _ _ _ _ (by simp only;omega)).trans hi8,hlt,h.sp,h.len,?_,hoff⟩,⟨?_,fun q hp hq hne=>?_,fun q hq=>?_⟩⟩
 ·have:=heap_setCell_same w8 p 2 _ _ v8 hp8
  rw[this];rfl
 ·have ho':OwnL 50 10 TyA.cells w8 (p+1) v8 (L++[x]):=OwnL.snoc ho
  exact ho'.keep fun g hg1 _ _=>heap_setCell_other _ _ _ _ (by simp only;omega)
 ·have hb8:Below p W w8:=(hb4.mono (Nat.le_of_lt h.plt)).grown hg (Nat.le_of_lt h4.plt) fun q hq=>by have:=h4.ownlt hq;omega
  exact hb8.setCell (p:=⟨p,2,none⟩) (Nat.le_refl _) v8
 ·exact ((heap_setCell_other _ _ _ _ (by simpa using hp)).trans (hk q (by have:=hb4.size;omega) hne)).trans (hb4.block q hq)
 ·rcases hv with e|e
  ·exact .inl (e▸hq)
  ·rw[e] at hq
   have:=Option.some.inj hq;have:=hb4.size;exact .inr (by omega)
theorem flatten_set {k:Nat} (hk:0<k) (css:List (List Value)) (h:∀cs∈css,cs.length=k) {i j:Nat} (hi:i<css.length) (hj:j<k) (v:Value):css.flatten.set (i * k+j) v=(css.set i ((css[i]).set j v)).flatten:=by
 have hc:=h _ (List.getElem_mem hi);have h':∀ds∈css.set i ((css[i]).set j v),ds.length=k:=fun ds hd=>by
  rcases List.mem_or_eq_of_mem_set hd with e|e
  ·exact h ds e
  ·rw[e,List.length_set];exact hc
 apply List.ext_getElem?
 intro m
 rw[flatten_get hk _ _ h']
 by_cases e:i * k+j=m
 ·subst e
  have hfit:i * k+j<css.flatten.length:=by
   rw[flatten_len css h];have:=Nat.mul_le_mul_right k (show i+1≤css.length from hi);rw[Nat.succ_mul] at this
   omega
  rw[List.getElem?_set_self hfit,Nat.mul_comm i k,Nat.mul_add_div hk,Nat.mul_add_mod,Nat.div_eq_of_lt hj,Nat.mod_eq_of_lt hj,Nat.add_zero,List.getElem?_set_self hi];simp only[Option.bind_some];rw[List.getElem?_set_self (by omega)]
 ·rw[List.getElem?_set_ne e,flatten_get hk _ _ h]
  by_cases e2:m / k=i
  ·rw[e2,List.getElem?_set_self hi,zl hi]
   simp only[Option.bind_some];rw[List.getElem?_set_ne]
   intro e3
   apply e
   have:=Nat.div_add_mod m k;rw[e2,Nat.mul_comm] at this
   omega
  ·rw[List.getElem?_set_ne (fun h=>e2 h.symm)]
theorem flat_map (L:List TyA):L.flatMap TyA.cells=(L.map TyA.cells).flatten:=by rw[List.flatMap_def]
theorem cells_len (x:TyA):x.cells.length=10:=rfl
theorem cells_ten (L:List TyA):∀cs∈L.map TyA.cells,cs.length=10:=fun cs hc=>by
 obtain ⟨x,_,rfl⟩:=List.mem_map.1 hc
 rfl
theorem TdS.at_ (h:TdS A n c p gi ix S W v L) {i:Nat} (hi:i<L.length):∃g cv,v = .slice (some ⟨g,0,none⟩) L.length cv∧(p<g∧g<W.heap.size)∧W.rangeAt g (i * 10) (L[i]).cells∧W.there g (i * 10) 10:=by
 obtain ⟨Av,cv,e,_,_,hr⟩:=h.own.reads;obtain ⟨g,rfl,hg,hrg⟩:=hr (fun e=>by rw[e] at hi;cases hi)
 have hlt:=h.ownlt (q:=g) (by rw[e];rfl)
 have h1:=range_flat (k:=10) cells_len hrg (zl hi);rw[Nat.zero_add] at h1;refine ⟨g,cv,e,hlt,h1,fun j hj=>⟨?_,?_⟩⟩
 ·have:=h1 j _ (zl (by rw[cells_len];exact hj))
  rw[this];rfl
 ·have ho:=h.own
  rw[e] at ho;exact World.ownsRow.frozenAt ho (i * 10+j)
theorem TdS.setT (h:TdS A n c p gi ix S W v L) {i:Nat} (hi:i<L.length) {g cv:Nat} (hv:v = .slice (some ⟨g,0,none⟩) L.length cv) {x:TyA} (hx:Off (fun q=>S q∨v.ownBlock=some q) W fun u=>TyR u x.t x.As x.Am) :
  TdS A n c p gi ix S (W.setCells g (i * 10) x.cells) v (L.set i x)∧Chg p v v W (W.setCells g (i * 10) x.cells):=by
 have hg:=h.ownlt (q:=g) (by rw[hv];rfl)
 have hlt:=h.lt;have hne:∀q,q≠g→(W.setCells g (i * 10) x.cells).heap[q]? = W.heap[q]? := fun q hq=>yS hq _ _ _
 have hsv:v.ownBlock=some g:=by rw[hv];rfl
 refine ⟨⟨(hne p (by omega)).trans h.blk,(hne gi (by omega)).trans h.ixb,hlt,h.sp,h.len,?_,fun y hy=>?_⟩,⟨below_setsg g (by omega) _ _ _ (Below.refl _ _),fun q _ _ hq=>hne q (fun e=>hq (e▸hsv)),fun _ hq => .inl hq⟩⟩
 ·have ho:=h.own
  subst hv;unfold OwnL at ho ⊢;rw[List.length_set,flat_map,List.map_set,←setL_flatten (by omega) (L.map TyA.cells) i x.cells (cells_ten L) (cells_len x) (by rw[List.length_map];exact hi)] 
  rw[flat_map] at ho;exact ownsRow_setCells x.cells _ (i * 10) W ho
 ·have hy':Off (fun q=>S q∨v.ownBlock=some q) W fun u=>TyR u y.t y.As y.Am:=by
   rcases List.mem_or_eq_of_mem_set hy with k|k
   ·exact h.off y k
   ·rw[k];exact hx
  exact hy'.setCells (.inr hsv) _ _
theorem TdS.setC (h:TdS A n c p gi ix S W v L) {i:Nat} (hi:i<L.length) {g cv:Nat} (hv:v = .slice (some ⟨g,0,none⟩) L.length cv) {j:Nat} (hj:j<10) {u:Value} {x:TyA} (hc:x.cells=(L[i]).cells.set j u) (hx:Off (fun q=>S q∨v.ownBlock=some q) W fun u=>TyR u x.t x.As x.Am) :
  TdS A n c p gi ix S (W.setCell ⟨g,i * 10+j,none⟩ u) v (L.set i x)∧Chg p v v W (W.setCell ⟨g,i * 10+j,none⟩ u):=by
 have hg:=h.ownlt (q:=g) (by rw[hv];rfl)
 have hlt:=h.lt;have hne:∀q,q≠g→(W.setCell ⟨g,i * 10+j,none⟩ u).heap[q]? = W.heap[q]? := fun q hq=>heap_setCell_other _ _ _ _ (by simpa using hq)
 have hsv:v.ownBlock=some g:=by rw[hv];rfl
 refine ⟨⟨(hne p (by omega)).trans h.blk,(hne gi (by omega)).trans h.ixb,hlt,h.sp,h.len,?_,fun y hy=>?_⟩,⟨(Below.refl _ _).setCell (p:=⟨g,i * 10+j,none⟩) (by simp only;omega) _,fun q _ _ hq=>hne q (fun e=>hq (e▸hsv)),fun _ hq => .inl hq⟩⟩
 ·have ho:=h.own
  subst hv;unfold OwnL at ho ⊢;have hic:i<(L.map TyA.cells).length:=by rw[List.length_map];exact hi
  rw[List.length_set,flat_map,List.map_set,hc,show (L[i]).cells=(L.map TyA.cells)[i] by rw[List.getElem_map],←flatten_set (by omega) (L.map TyA.cells) (cells_ten L) hic hj u]
  rw[flat_map] at ho;exact (World.ownsRow.stored ho (i * 10+j) u).1
 ·have hy':Off (fun q=>S q∨v.ownBlock=some q) W fun u=>TyR u y.t y.As y.Am:=by
   rcases List.mem_or_eq_of_mem_set hy with k|k
   ·exact h.off y k
   ·rw[k];exact hx
  exact hy'.set u (.inr hsv)
end
section
variable {A:zo} {n c p gi:Nat} {ix:List Int} {S S':Nat→Prop} {W W' W0:World} {v v1:Value} {L:List TyA}
theorem TdS.mono (h:TdS A n c p gi ix S W v L) (hs:∀q,S' q→S q) (hp:S' p):TdS A n c p gi ix S' W v L :=
 ⟨h.blk,h.ixb,h.lt,hp,h.len,h.own,fun x hx=>(h.off x hx).mono fun q _ h'=>h'.imp (hs q) id⟩
theorem TdS.other (h : TdS A n c p gi ix S W v L) {g : Nat} (hS : S g) (h1 : g ≠ p) (h2 : g ≠ gi) (h3 : v.ownBlock ≠ some g) (j : Nat) (u : Value) : TdS A n c p gi ix S (W.setCell ⟨g, j, none⟩ u) v L :=
  ⟨(heap_setCell_other _ _ _ _ (by simpa using h1.symm)).trans h.blk, (heap_setCell_other _ _ _ _ (by simpa using h2.symm)).trans h.ixb, h.lt, h.sp, h.len,
    h.own.keep fun q _ _ hq => heap_setCell_other _ _ _ _ (fun e => h3 (by have e : q = g := e; rw [← e]; exact hq)), fun x hx => (h.off x hx).set u (.inl hS)⟩
theorem Chg.new (h:Chg p v v1 W0 W) {g:Nat} (hg:W0.heap.size≤g) (hp:p≤g) (j:Nat) (u:Value):Chg p v v1 W0 (W.setCell ⟨g,j,none⟩ u) :=
 ⟨h.bel.setCell (p:=⟨g,j,none⟩) hp u,fun q h1 h2 h3=>(heap_setCell_other _ _ _ _ (by simp only;omega)).trans (h.oth q h1 h2 h3),h.own⟩
end
structure Kp (v:Value) (W W':World):Prop where
 size:W.heap.size≤W'.heap.size
 oth:∀q,q<W.heap.size→v.ownBlock≠some q→W'.heap[q]? = W.heap[q]?
theorem Kp.of {v:Value} {W W':World} (h:Below W.heap.size W W'):Kp v W W':=⟨h.size,fun q hq _=>h.block q hq⟩
theorem Kp.below {v:Value} {W W' W2:World} (h:Kp v W W') (hb:Below W'.heap.size W' W2):Kp v W W2 :=
 ⟨Nat.le_trans h.size hb.size,fun q hq hv=>(hb.block q (Nat.lt_of_lt_of_le hq h.size)).trans (h.oth q hq hv)⟩
theorem Kp.grown {v:Value} {W W' W2:World} (h:Kp v W W') (hg:W'.grownBy W2 v.ownBlock):Kp v W W2 :=
 ⟨Nat.le_trans h.size hg.size,fun q hq hv=>(grown_block hg (Nat.lt_of_lt_of_le hq h.size) fun k hk e=>hv (by rw[hk,e])).trans (h.oth q hq hv)⟩
theorem zI {W:World} {b:Nat} {t:TyD} {As:zo} {cs:Nat} {Am:zo} {cm:Nat} (h:TBox W b t As cs Am cm) :
  W.cell? ⟨b,0,none⟩=some (.int .i64 t.kind)∧W.cell? ⟨b,1,none⟩=some (.string t.name)∧W.cell? ⟨b,2,none⟩=some (.int .i64 t.low)∧W.cell? ⟨b,3,none⟩=some (.int .i64 t.high)∧W.cell? ⟨b,4,none⟩=some (.int .i64 t.max)∧W.cell? ⟨b,5,none⟩=some (.slice As t.syms.length cs)∧W.cell? ⟨b,6,none⟩=some (.slice Am t.mems.length cm)∧W.cell? ⟨b,7,none⟩=some (.int .i64 t.key)∧W.cell? ⟨b,8,none⟩=some (.int .i64 t.elem)∧W.cell? ⟨b,9,none⟩=some (.bool t.open_) :=
 ⟨h.cell 0,h.cell 1,h.cell 2,h.cell 3,h.cell 4,h.cell 5,h.cell 6,h.cell 7,h.cell 8,h.cell 9⟩
theorem tbox_key {W:World} {b:Nat} {t:TyD} {As:zo} {cs:Nat} {Am:zo} {cm:Nat} (h:TBox W b t As cs Am cm) (z:Int):TBox (W.setCell ⟨b,7,none⟩ (.int .i64 z)) b (t.ke z t.elem) As cs Am cm:=by
 have:=heap_setCell_same _ _ 7 _ _ (.int .i64 z) h;unfold TBox;rw[this];simp[TyD.ke]
theorem tbox_elem {W:World} {b:Nat} {t:TyD} {As:zo} {cs:Nat} {Am:zo} {cm:Nat} (h:TBox W b t As cs Am cm) (z:Int):TBox (W.setCell ⟨b,8,none⟩ (.int .i64 z)) b (t.ke t.key z) As cs Am cm:=by
 have:=heap_setCell_same _ _ 8 _ _ (.int .i64 z) h;unfold TBox;rw[this];simp[TyD.ke]
theorem inner_pos (t:TyD):(0<(yD t).length)↔compK t.kind:=by
 unfold yD compK
 by_cases h7:t.kind=7
 ·simp[h7]
 by_cases h8:t.kind=8
 ·simp[h8]
 by_cases h9:t.kind=9
 ·simp[h9]
 ·simp[h7,h8,h9]
theorem inner_two (t:TyD):(yD t).length≤2:=by
 unfold yD
 split
 ·simp
 ·split <;> simp
theorem ap_hold {A:zo} {n c p gi:Nat} {ix:List Int} {S:Nat→Prop} {W w':World} {v:Value} {L:List TyA} (h:TdS A n c p gi ix S W v L) {b:Nat} {t:TyD} {As:zo} {cs:Nat} {Am:zo} {cm:Nat} (hb:TBox W b t As cs Am cm) (hn:v.ownBlock≠some b) (k:Kp v W w') :
  ((w'.cell? ⟨p,2,none⟩=some v∧w'.frozen? ⟨p,2,none⟩=false)∧(w'.cell? ⟨b,0,none⟩=some (.int .i64 t.kind)∧w'.cell? ⟨b,1,none⟩=some (.string t.name)∧w'.cell? ⟨b,2,none⟩=some (.int .i64 t.low)∧w'.cell? ⟨b,3,none⟩=some (.int .i64 t.high)∧w'.cell? ⟨b,4,none⟩=some (.int .i64 t.max)∧w'.cell? ⟨b,5,none⟩=some (.slice As t.syms.length cs)∧w'.cell? ⟨b,6,none⟩=some (.slice Am t.mems.length cm)∧w'.cell? ⟨b,7,none⟩=some (.int .i64 t.key)∧w'.cell? ⟨b,8,none⟩=some (.int .i64 t.elem)∧w'.cell? ⟨b,9,none⟩=some (.bool t.open_)))∧Hid (Kp v W w'):=by
 have h1:w'.heap[p]? = some (tdO A n c gi v):=(k.oth p h.plt fun e=>by have:=h.ownlt e;omega).trans h.blk
 have h2:TBox w' b t As cs Am cm:=(k.oth b hb.blt hn).trans hb;unfold tdO at h1;exact ⟨⟨⟨by rw[cell_of_row _ _ _ _ _ _ h1];rfl,frozen_of_row _ _ _ _ _ h1⟩,zI h2⟩,k⟩
def PlPost (s:List TyD) (c p gi:Nat) (A:zo) (ix:List Int) (f:Nat) (t:Int) (S:Nat→Prop) (v:Value) (L:List TyA) (W:World) (e:Ending) (W':World):Prop :=
 ∃v' L',e = .returned (.int .i64 (zY s ix f t (L.map (·.t))).1)∧L'.map (·.t)=(zY s ix f t (L.map (·.t))).2∧TdS A s.length c p gi ix S W' v' L'∧Chg p v v' W W'∧∀j,j<L.length→L'[j]? = L[j]?
theorem ty_old {s:List TyD} {S:Nat→Prop} {w W:World} {As:zo} {Am:zo} {k:Nat} (hk:k<s.length) (htr:TyR w s[k] As Am) (hb:Below w.heap.size w W) (hS:∀q,q<w.heap.size→¬ S q):Off S W fun u=>TyR u s[k] As Am:=fun u hu =>
 htr.low fun q hq=>(hu q (hS q hq) (by have:=hb.size;omega)).trans (hb.block q hq)
theorem place_any (s:List TyD) (A:zo) (c:Nat) (hv:zJ s=0) (w:World) (hs:TysR w A s) (p gi:Nat) (ix:List Int) (hgi:w.heap.size≤gi):∀ (f:Nat) (t:Int) (S:Nat→Prop) (v:Value) (L:List TyA) (W:World),(0≤t∧t<(s.length:Int))→finD s f t→(∀q,q<w.heap.size→¬ S q)→L.length+2 * f≤100000→TdS A s.length c p gi ix S W v L→Below w.heap.size w W →
  Calls Tryz.prog 34 #[.pointer (some ⟨p,0,none⟩),.int .i64 t] W (PlPost s c p gi A ix f t S v L W):=by
 intro f
 induction f with
 | zero=>intro t S v L W _ h;exact h.elim
 | succ f ih =>
 intro t S v L W hr hf hS hz htd hb
 obtain ⟨tn,rfl⟩:=Int.eq_ofNat_of_zero_le hr.1;have htn:tn<s.length:=by omega
 have hls:=zZ hv;have HTD:=zh htd;have HB:=zh hb;have HIH:=zh ih;have HSS:=zh hS;have HF:=zh hf;have HR:=zh hr;have HPL:=htd.plt;have HGP:=htd.lt;obtain ⟨⟨c0,c1,c2⟩,_⟩:=htd.cells;obtain ⟨i0,_⟩:=htd.ixc htn;have h1:(0:Int)≤(tn:Int):=by omega
 have h2:(tn:Int)<(s.length:Int):=by omega
 clear ih hf hr hS htd hb
 by_cases hix:0≤ixAt ix (tn:Int)
 ·have HPD:Hid (zY s ix (f+1) (tn:Int) (L.map (·.t))=(ixAt ix (tn:Int),L.map (·.t))):=by show _=_;unfold zY;rw[if_pos hix]
  generalize ixAt ix (tn:Int)=I at *
  go_enter Tryz.func34,Tryz.ntmps34
  go_wp2
  go_ret
  exact ⟨v,L,by rw[HPD.out];rfl,by rw[HPD.out],HTD.out,Chg.refl _ _ _,fun _ _=>rfl⟩
 obtain ⟨b,o,As,cs,Am,cm,rfl,htr,t0,t1,t2,t3,t4,t5,t6,t7,t8,t9⟩:=hs.at10 htn;have HOX:Hid (∀ (W':World) {S':Nat→Prop},Below w.heap.size w W'→(∀q,q<w.heap.size→¬ S' q)→Off S' W' fun u=>TyR u s[tn] As Am):=fun W' S' h1 h2=>ty_old htn htr h1 h2
 replace t0:=zA HB.out t0;replace t1:=zA HB.out t1;replace t2:=zA HB.out t2;replace t3:=zA HB.out t3;replace t4:=zA HB.out t4;replace t5:=zA HB.out t5;replace t6:=zA HB.out t6;replace t7:=zA HB.out t7;replace t8:=zA HB.out t8;replace t9:=zA HB.out t9;have HX:=zP htn;have HFE:Hid (compK (s[tn]).kind→finD s f (s[tn]).elem):=fun h=>by have:=HF.out;unfold finD at this;rw[HX] at this;exact this h
 have HER:Hid (compK (s[tn]).kind→0≤(s[tn]).elem∧(s[tn]).elem<(s.length:Int)):=fun h=>by have:=yP hv HR.out (by rw[HX];exact h);rwa [HX] at this
 have HKR:Hid ((s[tn]).kind=8→(0≤(s[tn]).key∧(s[tn]).key<(s.length:Int))∧finD s f (s[tn]).key):=fun h=>by
  have hk:=key_rng hv HR.out (by rw[HX];exact h)
  rw[HX] at hk;refine ⟨hk.1,?_⟩;have hfe:=HFE.out (.inr (.inl h))
  cases f with
  | zero=>exact hfe.elim
  | succ f=>unfold finD;exact fun hc=>absurd hc (not_comp4 hk.2)
 have HPD:Hid (∃R1 R2,R1=(if (s[tn]).kind=8 then zY s ix f (s[tn]).key (L.map (·.t)++[s[tn]]) else ((s[tn]).key,L.map (·.t)++[s[tn]]))∧R2=(if compK (s[tn]).kind then zY s ix f (s[tn]).elem R1.2 else ((s[tn]).elem,R1.2))∧zY s ix (f+1) (tn:Int) (L.map (·.t))=((L.length:Int),R2.2.set L.length ((s[tn]).ke R1.1 R2.1))):=by
  refine ⟨_,_,rfl,rfl,?_⟩;rw[zY,if_neg hix,HX];simp only[List.length_map]
 have HLE:=zh (fun (u:Int) (M:List TyD) (h:0≤u∧u<(s.length:Int))=>(placeD_le (ix:=ix) hv f u M h).1)
 have HLG:=zh (fun (u:Int) (M:List TyD)=>placeD_ge (s:=s) (ix:=ix) f u M)
 have HK1:=zh (fun (h:(s[tn]).kind=8) (M:List TyD)=>(placeD_le (ix:=ix) hv f (s[tn]).key M (HKR.out h).1).2 (by have:=(key_rng hv HR.out (by rw[HX];exact h)).2;rw[HX] at this;exact not_comp4 this))
 clear HF HR htr;generalize s[tn]=x at *;obtain ⟨R1,R2,hR1,hR2,hPD⟩:=HPD.out;have HPE:=zh hPD;have HE1:=zh hR1;have HE2:=zh hR2;clear HPD hPD hR1 hR2;have hq:¬ (0:Int)≤ixAt ix (tn:Int):=hix;generalize ixAt ix (tn:Int)=I at *;obtain ⟨Av,cv,rfl⟩:=HTD.out.val;have HBX:=zh (zD W (x.box As cs Am cm));have HXX:=zh (heap_alloc_new W (x.box As cs Am cm))
 have HTX:=zh (HTD.out.sets (S':=fun q=>S q∨q=W.heap.size) HBX.out (fun q hq h=>h.elim id fun e=>absurd e (by omega)) (.inl HTD.out.sp))
 have HOB:=zh (fun q hq=>(HTD.out.ownlt (q:=q) hq).2)
 have HOX2:Hid (Off (fun q=>(S q∨q=W.heap.size)∨(Value.slice Av L.length cv).ownBlock=some q) (W.alloc (x.box As cs Am cm)) fun u=>TyR u x As Am):=by
  refine HOX.out _ (zB HB.out HBX.out) fun q hq h=>?_
  rcases h with (h|h)|h
  ·exact HSS.out q hq h
  ·have:=HB.out.size;omega
  ·have:=HTD.out.ownlt h;omega
 go_enter Tryz.func34,Tryz.ntmps34
 go_upto_region 5 with fail
 clear t0 t1 t2 t3 t4 t5 t6 t7 t8 t9 c0 c1 c2 i0;have HZ2:Hid (W.heap.size<(W.alloc (x.box As cs Am cm)).heap.size):=by show _<_;simp
 have HOZ:Hid ((Value.slice Av L.length cv).ownBlock≠some W.heap.size):=fun e=>by have:=HOB.out _ e;omega
 generalize W.alloc (x.box As cs Am cm)=W2 at *;have HTB:Hid (TBox W2 W.heap.size x As cs Am cm):=HXX.out;have HAP:=zh (fun w' (k:Kp (Value.slice Av L.length cv) W2 w')=>ap_hold HTX.out HTB.out HOZ.out k)
 refine yK (S:=(fun w'=>((w'.cell? ⟨p,2,none⟩=some (.slice Av L.length cv)∧w'.frozen? ⟨p,2,none⟩=false)∧(w'.cell? ⟨W.heap.size,0,none⟩=some (.int .i64 x.kind)∧w'.cell? ⟨W.heap.size,1,none⟩=some (.string x.name)∧w'.cell? ⟨W.heap.size,2,none⟩=some (.int .i64 x.low)∧w'.cell? ⟨W.heap.size,3,none⟩=some (.int .i64 x.high)∧w'.cell? ⟨W.heap.size,4,none⟩=some (.int .i64 x.max)∧w'.cell? ⟨W.heap.size,5,none⟩=some (.slice As x.syms.length cs)∧w'.cell? ⟨W.heap.size,6,none⟩=some (.slice Am x.mems.length cm)∧w'.cell? ⟨W.heap.size,7,none⟩=some (.int .i64 x.key)∧w'.cell? ⟨W.heap.size,8,none⟩=some (.int .i64 x.elem)∧w'.cell? ⟨W.heap.size,9,none⟩=some (.bool x.open_)))∧Hid (Kp (.slice Av L.length cv) W2 w'))) 12 (by kernel_rfl) ?_ (fun zH_=>?_)
 ·(try dsimp only);exact HAP.out _ (Kp.of (zC (Below.refl _ _) 1))
 refine tC 0 ?_;refine tC 1 ?_;refine tC 2 ?_;refine tC 3 ?_;refine tC 4 ?_;refine tB 5 ?_;try simp only[ps]
 refine tB 6 ?_;refine tS 7 (fun K hK=>?_)
 go_simp
 refine hK.out _ _ ?_ (fun zH_=>?_)
 ·(try dsimp only);exact HAP.out _ (zH_.2.out.below (zD _ _))
 clear hK K;refine tS 8 (fun K hK=>?_)
 (have HW6:=zh (HTX.out.own.below (zB (zC (Below.refl W2.heap.size W2) 1) (zD _ (x.box As cs Am cm))));have HZ6:Hid (p+1≤((W2.drewN 1).alloc (x.box As cs Am cm)).heap.size):=(by show _≤_;have:=HZ2.out;simp;omega);refine step_append_o elem_ty (by rfl) (.tmp 41) (.tmp 43) (by rfl) (p+1) (.slice Av L.length cv) L.length (L.flatMap TyA.cells) (by rfl) HW6.out W2.heap.size 0 1 1 (⟨x,As,cs,Am,cm⟩:TyA).cells (by rfl) rfl (zT (W2.drewN 1) (⟨x,As,cs,Am,cm⟩:TyA).cells 50) (tyA_one _) (by omega) (by omega) HZ6.out ?_;intro v8 w8 ho8 hg8 hv8;obtain ⟨A8,c8,rfl,_⟩:=OwnL.reads (OwnL.snoc (enc:=TyA.cells) (x:=(⟨x,As,cs,Am,cm⟩:TyA)) ho8);have HN8:=zh (HTX.out.next (x:=(⟨x,As,cs,Am,cm⟩:TyA)) HOX2.out (zB (zC (Below.refl W2.heap.size W2) 1) (zD _ (x.box As cs Am cm))) ho8 hg8 hv8);have HG8:=zh hg8;clear ho8 hg8 hv8)
 refine hK.out _ _ ?_ (fun zH_=>?_)
 ·(try dsimp only);exact HAP.out _ (zH_.2.out.grown HG8.out)
 clear hK K;refine tC 9 ?_;refine tC 10 ?_;refine tC 11 ?_;try simp only[ps]
 refine yQ (rs:=[12]) (by kernel_rfl) (by simp) ?_
 refine AllReadyB.last rfl (by kernel_rfl) (fun K hK=>?_) AllReadyB.nil
 (obtain ⟨⟨⟨hc2,hf2⟩,_⟩,_⟩:=zH_;go_simp)
 refine hK.out _ _ ?_;clear hK K
 (try clear zH_)
 refine wpAny_done (by kernel_rfl) ?_ _
 have he8:(L++[(⟨x,As,cs,Am,cm⟩:TyA)]).length=L.length+1:=by simp
 have HM8:Hid ((L++[(⟨x,As,cs,Am,cm⟩:TyA)]).map (·.t)=L.map (·.t)++[x]):=by show _=_;simp
 have HN9:=HN8.out;rw[he8] at HN9;have HT5:=zh HN9.1;have HC5:=zh HN9.2;clear hc2 hf2 HN8 HN9 HG8 HAP;generalize w8.setCell ⟨p,2,none⟩ (.slice A8 (L.length+1) c8)=W5 at *;have HTB5:Hid (TBox W5 W.heap.size x As cs Am cm):=(HC5.out.oth _ (by omega) HZ2.out HOZ.out).trans HTB.out
 have HO5:Hid ((Value.slice A8 (L.length+1) c8).ownBlock≠some W.heap.size):=fun e=>(HC5.out.own _ e).elim HOZ.out fun h=>by have:=HZ2.out;omega
 have HCW:=zh ((Chg.of (v := .slice Av L.length cv) HBX.out (Nat.le_of_lt HPL)).trans HC5.out);have HBW:=zh (HB.out.trans (HCW.out.bel.mono (by omega)))
 obtain ⟨b0,b1,b2,b3,b4,b5,b6,b7,b8,b9⟩:=zI HTB5.out
 go_upto_if 50 with fail
 go_cut [] (fun wx=>∃ (v9:Value) (L9:List TyA),Hid (TdS (some ⟨b,o,none⟩) s.length c p gi ix (fun q=>S q∨q=W.heap.size) wx v9 L9∧TBox wx W.heap.size (x.ke R1.1 x.elem) As cs Am cm∧Chg p (.slice Av L.length cv) v9 W wx∧v9.ownBlock≠some W.heap.size∧L9.map (·.t)=R1.2∧∀j,j<L.length→L9[j]? = L[j]?))
 case first =>
  by_cases h8:x.kind=8
  ·have q1:(x.kind==8)=true:=by simp[h8]
   have HR1:=zh (HE1.out.trans (if_pos h8));have HK8:=zh (HKR.out h8);clear h8;go_wp2_with fail;refine (HIH.out x.key _ _ _ W5 HK8.out.1 HK8.out.2 ?_ ?_ HT5.out HBW.out).mono ?_
   ·intro q hq h
    rcases h with h|h
    ·exact HSS.out q hq h
    ·have:=HB.out.size;omega
   ·rw[he8];omega
   rintro e w6 ⟨v6,L6,rfl,hm6,ht6,hc6,hp6⟩;rw[HM8.out,←HR1.out] at hm6;rw[HM8.out,←HR1.out];have HM6:=zh hm6;have HT6:=zh ht6;have HC6:=zh hc6;have HP6:=zh hp6;have HTB6:Hid (TBox w6 W.heap.size x As cs Am cm):=(HC6.out.oth _ (by omega) HTB5.out.blt HO5.out).trans HTB5.out
   have HO6:Hid (v6.ownBlock≠some W.heap.size):=fun e=>(HC6.out.own _ e).elim HO5.out fun h=>by have:=HTB5.out.blt;omega
   clear hm6 ht6 hc6 hp6 b0 b1 b2 b3 b4 b5 b6 b7 b8 b9;have d7:=HTB6.out.cell 7;have df:w6.frozen? ⟨W.heap.size,7,none⟩=false:=frozen_of_row _ _ _ _ _ HTB6.out;go_wp2;go_meet
   exact ⟨v6,L6,HT6.out.other (.inr rfl) (by omega) (by omega) HO6.out 7 _,by rw[HR1.out];exact tbox_key HTB6.out _,(HCW.out.trans HC6.out).new (Nat.le_refl _) (Nat.le_of_lt HPL) 7 _,HO6.out,HM6.out,fun j hj=>(HP6.out j (by rw[he8];omega)).trans (List.getElem?_append_left hj)⟩
  ·have q1:(x.kind==8)=false:=by simp[h8]
   have HR1:=zh (HE1.out.trans (if_neg h8));go_wp2;go_meet;exact ⟨_,_,HT5.out,by rw[HR1.out];exact HTB5.out,HCW.out,HO5.out,by rw[HM8.out,HR1.out],fun j hj=>List.getElem?_append_left hj⟩
 case rest =>
 obtain ⟨v9,L9,h9⟩:=hcut;have HT9:=zh h9.out.1;have HB9:=zh h9.out.2.1;have HC9:=zh h9.out.2.2.1;have HO9:=zh h9.out.2.2.2.1;have HM9:=zh h9.out.2.2.2.2.1;have HP9:=zh h9.out.2.2.2.2.2;clear h9 b0 b1 b2 b3 b4 b5 b6 b7 b8 b9;have HBW9:=zh (HB.out.trans (HC9.out.bel.mono (by omega)))
 have HL9:Hid (L9.length=R1.2.length):=by have:=congrArg List.length HM9.out;rwa [List.length_map] at this
 have HLB:Hid (R1.2.length≤L.length+2∧L.length+1≤R1.2.length):=by
  show _∧_
  rw[HE1.out]
  split
  ·rename_i h8
   have k1:=HK1.out h8 (L.map (·.t)++[x]);have k2:=HLG.out x.key (L.map (·.t)++[x]);rw[List.length_append,List.length_map,List.length_singleton] at k1 k2
   omega
  ·rw[List.length_append,List.length_map,List.length_singleton];omega
 obtain ⟨b0,b1,b2,b3,b4,b5,b6,b7,b8,b9⟩:=zI HB9.out;go_wp2_with fail;refine (inner_any (x.ke R1.1 x.elem) As cs Am cm wc).mono ?_;rintro e w10 ⟨Ai,ci,rfl,_,hb10⟩;have HT10:=zh (HT9.out.below hb10);have HB10:=zh (HB9.out.below hb10);have HC10:=zh (HC9.out.trans (Chg.of hb10 (by have:=HC9.out.bel.size;omega)))
 have HBW10:=zh (zB HBW9.out hb10);have HIL:Hid ((0<(yD (x.ke R1.1 x.elem)).length)↔compK x.kind):=inner_pos (x.ke R1.1 x.elem);have hil:(yD (x.ke R1.1 x.elem)).length≤2:=inner_two _;clear hb10 b0 b1 b2 b3 b4 b5 b6 b7 b8 b9;obtain ⟨b0,b1,b2,b3,b4,b5,b6,b7,b8,b9⟩:=zI HB10.out;generalize (yD (x.ke R1.1 x.elem)).length=il at *
 go_upto_if 59 with fail
 go_cut [] (fun wx=>∃ (v9:Value) (L9:List TyA),Hid (TdS (some ⟨b,o,none⟩) s.length c p gi ix (fun q=>S q∨q=W.heap.size) wx v9 L9∧TBox wx W.heap.size (x.ke R1.1 R2.1) As cs Am cm∧Chg p (.slice Av L.length cv) v9 W wx∧v9.ownBlock≠some W.heap.size∧L9.map (·.t)=R2.2∧∀j,j<L.length→L9[j]? = L[j]?))
 case first =>
  by_cases hc:compK x.kind
  ·have q1:(0:Int)<(il:Int):=by have:=HIL.out.2 hc;omega
   have HR2:=zh (HE2.out.trans (if_pos hc));have HF2:=zh (HFE.out hc);have HE2:=zh (HER.out hc);clear hc HIL;go_wp2_with fail;refine (HIH.out x.elem _ _ _ w10 HE2.out HF2.out ?_ ?_ HT10.out HBW10.out).mono ?_
   ·intro q hq h
    rcases h with h|h
    ·exact HSS.out q hq h
    ·have:=HB.out.size;omega
   ·rw[HL9.out];have:=HLB.out;omega
   rintro e w6 ⟨v6,L6,rfl,hm6,ht6,hc6,hp6⟩;rw[HM9.out,←HR2.out] at hm6;rw[HM9.out];have HM6:=zh hm6;have HT6:=zh ht6;have HC6:=zh hc6;have HP6:=zh hp6;have HTB6:Hid (TBox w6 W.heap.size (x.ke R1.1 x.elem) As cs Am cm):=(HC6.out.oth _ (by omega) HB10.out.blt HO9.out).trans HB10.out
   have HO6:Hid (v6.ownBlock≠some W.heap.size):=fun e=>(HC6.out.own _ e).elim HO9.out fun h=>by have:=HB10.out.blt;omega
   clear hm6 ht6 hc6 hp6 b0 b1 b2 b3 b4 b5 b6 b7 b8 b9;have d7:=HTB6.out.cell 8;have df:w6.frozen? ⟨W.heap.size,8,none⟩=false:=frozen_of_row _ _ _ _ _ HTB6.out;go_wp2;go_meet
   exact ⟨v6,L6,HT6.out.other (.inr rfl) (by omega) (by omega) HO6.out 8 _,by rw[HR2.out];exact tbox_elem HTB6.out _,(HC10.out.trans HC6.out).new (Nat.le_refl _) (Nat.le_of_lt HPL) 8 _,HO6.out,HM6.out,fun j hj=>(HP6.out j (by rw[HL9.out];have:=HLB.out;omega)).trans (HP9.out j hj)⟩
  ·have q1:¬ (0:Int)<(il:Int):=fun h=>hc (HIL.out.1 (by omega))
   have HR2:=zh (HE2.out.trans (if_neg hc));go_wp2;go_meet;exact ⟨_,_,HT10.out,by rw[HR2.out];exact HB10.out,HC10.out,HO9.out,by rw[HR2.out];exact HM9.out,HP9.out⟩
 case rest =>
 obtain ⟨v11,L11,h11⟩:=hcut;have HT11:=zh h11.out.1;have HB11:=zh h11.out.2.1;have HC11:=zh h11.out.2.2.1;have HM11:=zh h11.out.2.2.2.2.1;have HP11:=zh h11.out.2.2.2.2.2;clear h11 b0 b1 b2 b3 b4 b5 b6 b7 b8 b9;have hlt:L.length<L11.length:=by
  have h1:=congrArg List.length HM11.out;rw[List.length_map] at h1;rw[h1];have h2:R1.2.length≤R2.2.length:=by
   rw[HE2.out]
   split
   ·exact HLG.out _ _
   ·exact Nat.le_refl _
  have:=HLB.out;omega
 obtain ⟨g,c11,rfl,hgl,_,hth⟩:=HT11.out.at_ hlt;have HTH:=zh hth;have HS10:=zh (And.intro (HT11.out.cells).1.2.2 (zI HB11.out));have d1:(0:Int)≤(L.length:Int):=by omega
 have d2:(L.length:Int)<(L11.length:Int):=by omega
 have HBW11:=zh (HB.out.trans (HC11.out.bel.mono (by omega)))
 clear hth;go_wp2_with fail
 refine yK (S:=(fun w'=>(w'.cell? ⟨p,2,none⟩=some (.slice (some ⟨g,0,none⟩) L11.length c11)∧(w'.cell? ⟨W.heap.size,0,none⟩=some (.int .i64 x.kind)∧w'.cell? ⟨W.heap.size,1,none⟩=some (.string x.name)∧w'.cell? ⟨W.heap.size,2,none⟩=some (.int .i64 x.low)∧w'.cell? ⟨W.heap.size,3,none⟩=some (.int .i64 x.high)∧w'.cell? ⟨W.heap.size,4,none⟩=some (.int .i64 x.max)∧w'.cell? ⟨W.heap.size,5,none⟩=some (.slice As x.syms.length cs)∧w'.cell? ⟨W.heap.size,6,none⟩=some (.slice Am x.mems.length cm)∧w'.cell? ⟨W.heap.size,7,none⟩=some (.int .i64 R1.1)∧w'.cell? ⟨W.heap.size,8,none⟩=some (.int .i64 R2.1)∧w'.cell? ⟨W.heap.size,9,none⟩=some (.bool x.open_))))) 8 (by kernel_rfl) ?_ (fun zH_=>?_)
 ·(try dsimp only);exact HS10.out
 refine tC 0 ?_;refine tC 1 ?_;refine tC 2 ?_;refine tC 3 ?_;refine tB 4 ?_;try simp only[ps]
 refine tC 5 ?_;refine tB 6 ?_;refine tC 7 ?_;refine yQ (rs:=[8]) (by kernel_rfl) (by simp) ?_
 refine AllReadyB.last rfl (by kernel_rfl) (fun K hK=>?_) AllReadyB.nil
 (simp only[List.getElem_toArray,List.getElem_cons_zero,List.getElem_cons_succ];rw[if_pos (by rfl)];refine wp_store_mid 50 (.tmp 72) (.tmp 71) rfl (g) (L.length * 10) (#[.int .i64 x.kind,.string x.name,.int .i64 x.low,.int .i64 x.high,.int .i64 x.max,.slice As x.syms.length cs,.slice Am x.mems.length cm,.int .i64 R1.1,.int .i64 R2.1,.bool x.open_]) (by rfl) (by rfl) ?_ ?_ ?_ ?_;(exact HTH.out);(exact ty_info);(exact ty_one (x.ke R1.1 R2.1) As cs Am cm))
 refine hK.out _ _ ?_;clear hK K
 (try clear zH_)
 refine wpAny_done (by kernel_rfl) ?_ _
 have HB12:=zh (zC (Below.refl wc.heap.size wc) 1);have hO:Off (fun q=>(S q∨q=W.heap.size)∨(Value.slice (some ⟨g,0,none⟩) L11.length c11).ownBlock=some q) (wc.drewN 1) fun u=>TyR u (x.ke R1.1 R2.1) As Am:=(HOX.out _ (zB HBW11.out HB12.out) fun q hq h=>by
  rcases h with (h|h)|h
  ·exact HSS.out q hq h
  ·have:=HB.out.size;omega
  ·have:=(HT11.out.ownlt h).1;omega).imp fun u h=>⟨h.name,h.syms,h.mems⟩
 have HST:=zh ((HT11.out.below HB12.out).setT hlt rfl (x:=(⟨x.ke R1.1 R2.1,As,cs,Am,cm⟩:TyA)) hO);clear hO;go_wp2;go_ret;refine ⟨_,L11.set L.length ⟨x.ke R1.1 R2.1,As,cs,Am,cm⟩,by rw[HPE.out];rfl,?_,HST.out.1.mono (S':=S) (fun q h => .inl h) HTD.out.sp,(HC11.out.trans (Chg.of HB12.out (by have:=HC11.out.bel.size;omega))).trans HST.out.2,fun j hj=>?_⟩
 ·rw[HPE.out,List.map_set,HM11.out]
 ·rw[List.getElem?_set_ne (by omega)];exact HP11.out j hj
def RowX {α:Type} (E k:Nat) (atl:α→List Value→Prop) (wr:World) (base:Nat) (A:zo) (c:Nat) (l:List α):Prop :=
 ∃css,OwnC E k wr base (.slice A l.length c) css∧css.length=l.length∧(∀cs∈css,cs.length=k)∧∀ (m:Nat) x cs,l[m]? = some x→css[m]? = some cs→atl x cs
section
variable {α:Type} {E k:Nat} {atl:α→List Value→Prop} {wr w':World} {base:Nat} {A:zo} {c:Nat} {l:List α}
theorem RowX.lt (h:RowX E k atl wr base A c l) {g:Nat} (hg:(Value.slice A l.length c).ownBlock=some g):base≤g∧g<wr.heap.size:=by
 obtain ⟨css,ho,_⟩:=h;exact World.ownsRow.lt ho g hg
theorem RowX.keep (h:RowX E k atl wr base A c l) (hk:∀g,base≤g→g<wr.heap.size→(Value.slice A l.length c).ownBlock=some g→w'.heap[g]? = wr.heap[g]?):RowX E k atl w' base A c l:=by
 obtain ⟨css,h1,h2⟩:=h;exact ⟨css,h1.keep hk,h2⟩
theorem RowX.below (h:RowX E k atl wr base A c l) (hb:Below wr.heap.size wr w'):RowX E k atl w' base A c l:=h.keep fun g _ hg _=>hb.block g hg
theorem RowX.at_ (h:RowX E k atl wr base A c l) {i:Nat} (hi:i<l.length):∃g cs,A=some ⟨g,0,none⟩∧base≤g∧g<wr.heap.size∧cs.length=k∧atl l[i] cs∧wr.rangeAt g (i * k) cs∧∀j,wr.frozen? ⟨g,j,none⟩=false:=by
 obtain ⟨css,h1,h2,h3,h5⟩:=h;have hic:i<css.length:=by omega
 have hn:css≠[]:=fun e=>by rw[e] at h2;simp at h2;omega
 obtain ⟨A',c',e,_,_,hr⟩:=OwnL.reads h1;obtain ⟨g,hA,hg,hrange⟩:=hr hn;have hAA:A=A':=by injection e
 subst hAA;subst hA;have hcl:=h3 _ (List.getElem_mem hic);refine ⟨g,css[i],rfl,hg,(World.ownsRow.lt h1 g rfl).2,hcl,h5 i _ _ (zl hi) (zl hic),fun j u hj=>?_,fun j=>?_⟩
 ·have hj':j<k:=by rw[←hcl];exact (List.getElem?_eq_some_iff.1 hj).1
  rw[flatMap_self] at hrange;have:=hrange (i * k+j) u (by
   rw[flatten_get (by omega) css _ h3,Nat.mul_comm i k,Nat.mul_add_div (by omega),Nat.mul_add_mod,Nat.div_eq_of_lt hj',Nat.mod_eq_of_lt hj',Nat.add_zero,zl hic]
   exact hj)
  rwa [Nat.zero_add] at this
 ·have hln:css.length=l.length:=h2
  have h1':wr.ownsRow base E k (.slice (some ⟨g,0,none⟩) l.length c) l.length (css.flatMap fun cs=>cs):=by rw[←hln] at h1 ⊢;exact h1
  exact World.ownsRow.frozenAt h1' j
theorem RowX.set (h:RowX E k atl wr base A c l) {i:Nat} (hi:i<l.length) {g:Nat} (hA:A=some ⟨g,0,none⟩) {j:Nat} (hj:j<k) (v:Value) {x:α} (hx:∀cs,atl l[i] cs→atl x (cs.set j v)):RowX E k atl (wr.setCell ⟨g,i * k+j,none⟩ v) base A c (l.set i x):=by
 subst hA;obtain ⟨css,h1,h2,h3,h5⟩:=h;have hic:i<css.length:=by omega
 refine ⟨css.set i ((css[i]).set j v),?_,by simp[h2],fun ds hd=>?_,fun m y ds hy hd=>?_⟩
 ·unfold OwnC OwnL at h1 ⊢
  rw[flatMap_self] at h1 ⊢;rw[List.length_set,List.length_set,←flatten_set (by omega) css h3 hic hj v]
  rw[h2] at h1 ⊢;exact (World.ownsRow.stored h1 (i * k+j) v).1
 ·rcases List.mem_or_eq_of_mem_set hd with e|e
  ·exact h3 ds e
  ·rw[e,List.length_set];exact h3 _ (List.getElem_mem hic)
 ·by_cases e:m=i
  ·subst e
   rw[List.getElem?_set_self hi] at hy;rw[List.getElem?_set_self hic] at hd;obtain rfl:=Option.some.inj hy;obtain rfl:=Option.some.inj hd;exact hx _ (h5 m _ _ (zl hi) (zl hic))
  ·rw[List.getElem?_set_ne (fun e2=>e e2.symm)] at hy hd
   exact h5 m y ds hy hd
theorem RowX.out (h:RowX E k atl wr base A c l) {bytes:Nat} (hl:Lim bytes l.length) {u:World} (hu:∀g,(Value.slice A l.length c).ownBlock=some g→u.heap[g]? = wr.heap[g]?):RowsR k bytes atl u A l:=by
 refine ⟨hl,fun hn=>?_⟩
 have h':=h;obtain ⟨g,cs,hA,_⟩:=h.at_ (i:=0) (List.length_pos_iff.2 hn);refine ⟨g,0,hA,fun i x hx=>?_⟩
 obtain ⟨hi,rfl⟩:=List.getElem?_eq_some_iff.1 hx;obtain ⟨g',cs',hA',_,_,hcl,hat,hr,_⟩:=h'.at_ hi;have:g=g':=by rw[hA] at hA';injection hA' with e;injection e
 subst this;refine ⟨cs',hat,fun j v hj=>?_⟩
 have:=hr j v hj;rw[Nat.zero_add];rw[World.cell?_of_block (w:=wr) (w':=u) (a:=⟨g,i * k+j,none⟩) (hu g (by rw[hA];rfl))]
 exact this
end
def MatL (w:World) (m:MemD) (cs:List Value):Prop:=∀u,Low w u→MemD.At u m cs
theorem MatL.parts {w:World} {m:MemD} {cs:List Value} (h:MatL w m cs):∃A1 c1 A2 c2 A3 c3,cs=m.cs A1 c1 A2 c2 A3 c3∧∀u,Low w u→MemR u m A1 A2 A3:=by
 obtain ⟨A1,c1,A2,c2,A3,c3,e,_⟩:=h w (fun _ _=>rfl)
 refine ⟨A1,c1,A2,c2,A3,c3,e,fun u hu=>?_⟩
 obtain ⟨B1,d1,B2,d2,B3,d3,e2,hr⟩:=h u hu;rw[e] at e2;simp only[MemD.cs,List.cons.injEq,Value.slice.injEq,and_true,true_and] at e2;obtain ⟨⟨rfl,_⟩,⟨rfl,_⟩,rfl,_⟩:=e2;exact hr
theorem MatL.type {w:World} {m:MemD} {cs:List Value} (h:MatL w m cs) (z:Int):MatL w { m with type:=z } (cs.set 2 (.int .i64 z)):=fun u hu=>by
 obtain ⟨A1,c1,A2,c2,A3,c3,rfl,hr⟩:=h.parts;exact ⟨A1,c1,A2,c2,A3,c3,rfl,(hr u hu).name,(hr u hu).dflt⟩
theorem cloneSX {l:List SymD} {A:zo} {c:Nat} {w0 w:World} (hl:SymsR w0 A l) (hb0:Below w0.heap.size w0 w) :
  Calls Tryz.prog 32 #[.slice A l.length c] w fun e w'=>∃B d,e = .returned (.slice B l.length d)∧Below w.heap.size w w'∧RowX 55 2 SymD.At w' w.heap.size B d l:=by
 obtain ⟨css,h1,h2,h3,h4⟩:=RowsR.cells (fun x cs h=>(SymD.at_one h).1) hl
 have hone:∀cs∈css,∀u∈cs,u.oneCell'=true:=fun cs hc=>by
  obtain ⟨i,hi,rfl⟩:=List.getElem_of_mem hc;exact (SymD.at_one (h2 i l[i] _ (zl (by omega)) (zl hi))).2
 have:=cloneSymbol_any css h3 hone (by rw[h1];exact hl.1) A c w (fun hn=>by
  obtain ⟨b,o,e,hr⟩:=h4 (fun e=>hn (List.eq_nil_of_length_eq_zero (by rw[h1,e];rfl)))
  exact ⟨b,o,e,range_below hb0 hr⟩)
 rw[h1] at this;refine this.mono ?_;rintro e w' ⟨v,rfl,ho,hb⟩;obtain ⟨B,d,rfl,_⟩:=OwnL.reads ho;rw[h1] at ho ⊢;exact ⟨B,d,rfl,hb,css,ho,h1,h3,h2⟩
theorem cloneMX {l:List MemD} {A:zo} {c:Nat} {w0 w:World} (hl:MemsR w0 A l) (hb0:Below w0.heap.size w0 w) :
  Calls Tryz.prog 33 #[.slice A l.length c] w fun e w'=>∃B d,e = .returned (.slice B l.length d)∧Below w.heap.size w w'∧RowX 71 13 (MatL w0) w' w.heap.size B d l:=by
 obtain ⟨css,h1,h2,h3,h4⟩:=RowsR.cells (fun x cs h=>(MemD.at_one h).1) hl
 have hone:∀cs∈css,∀u∈cs,u.oneCell'=true:=fun cs hc=>by
  obtain ⟨i,hi,rfl⟩:=List.getElem_of_mem hc;exact (MemD.at_one (h2 i l[i] _ (zl (by omega)) (zl hi))).2
 have:=cloneMember_any css h3 hone (by rw[h1];exact hl.1) A c w (fun hn=>by
  obtain ⟨b,o,e,hr⟩:=h4 (fun e=>hn (List.eq_nil_of_length_eq_zero (by rw[h1,e];rfl)))
  exact ⟨b,o,e,range_below hb0 hr⟩)
 rw[h1] at this;refine this.mono ?_;rintro e w' ⟨v,rfl,ho,hb⟩;obtain ⟨B,d,rfl,_⟩:=OwnL.reads ho;rw[h1] at ho ⊢;exact ⟨B,d,rfl,hb,css,ho,h1,h3,fun i x cs hx hc u hu=>MemD.at_low hu (h2 i x cs hx hc)⟩
section
variable {s:List TyD} {ix:List Int}
theorem t1D_zero:t1D s 0=(List.replicate s.length (-1),[]):=rfl
theorem t1D_succ (k:Nat):t1D s (k+1)=if zL (tyAt s (k:Int)).kind then ((t1D s k).1.set k ((t1D s k).2.length:Int),(t1D s k).2++[tyAt s (k:Int)]) else t1D s k:=by
 unfold t1D;rw[List.range_succ,List.foldl_append]
 rfl
theorem t1D_len (k:Nat):(t1D s k).1.length=s.length∧(t1D s k).2.length≤k:=by
 induction k with
 | zero=>rw[t1D_zero];simp
 | succ k ih =>
  rw[t1D_succ]
  split
  ·simp only[List.length_set,List.length_append,List.length_singleton];omega
  ·omega
theorem t2D_succ {out:List TyD} (t:Nat):t2D s ix out (t+1)=(yB s ix ((t2D s ix out t).getD t zeroT).mems (t2D s ix out t)).2.set t { (t2D s ix out t).getD t zeroT with mems:=(yB s ix ((t2D s ix out t).getD t zeroT).mems (t2D s ix out t)).1 }:=by
 unfold t2D;rw[List.range_succ,List.foldl_append]
 rfl
theorem placeMs_zero {ms:List MemD} {out:List TyD}:yB s ix (ms.take 0) out=([],out):=by simp[yB]
theorem placeMs_succ {ms:List MemD} {out:List TyD} {i:Nat} (hi:i<ms.length):yB s ix (ms.take (i+1)) out=((yB s ix (ms.take i) out).1++[{ ms[i] with type:=(zY s ix (s.length+1) ms[i].type (yB s ix (ms.take i) out).2).1 }],(zY s ix (s.length+1) ms[i].type (yB s ix (ms.take i) out).2).2):=by
 unfold yB;rw[List.take_add_one,zl hi,Option.toList_some,List.foldl_append]
 rfl
theorem placeMs_len1 {ms:List MemD} {out:List TyD}:∀i,i≤ms.length→(yB s ix (ms.take i) out).1.length=i
 | 0,_=>by rw[placeMs_zero];rfl
 | i+1,h=>by rw[placeMs_succ h,List.length_append,placeMs_len1 i (by omega)];rfl
theorem placeMs_len2 (hv:zJ s=0) {ms:List MemD} {out:List TyD} (hr:∀m∈ms,0≤m.type∧m.type<(s.length:Int)):∀i,i≤ms.length→(yB s ix (ms.take i) out).2.length≤out.length+i * 66∧out.length≤(yB s ix (ms.take i) out).2.length
 | 0,_=>by rw[placeMs_zero];simp
 | i+1,h=>by
  have ih:=placeMs_len2 hv (out:=out) hr i (by omega)
  have h1:=(placeD_le (ix:=ix) hv (s.length+1) ms[i].type (yB s ix (ms.take i) out).2 (hr _ (List.getElem_mem _))).1;have h2:=placeD_ge (s:=s) (ix:=ix) (s.length+1) ms[i].type (yB s ix (ms.take i) out).2;have h3:=zZ hv;rw[placeMs_succ h];simp only
  omega
end
def midM (s:List TyD) (ix:List Int) (ms:List MemD) (out:List TyD) (i:Nat):List MemD:=(yB s ix (ms.take i) out).1++ms.drop i
section
variable {s:List TyD} {ix:List Int} {ms:List MemD} {out:List TyD}
theorem midM_len {i:Nat} (h:i≤ms.length):(midM s ix ms out i).length=ms.length:=by
 unfold midM;rw[List.length_append,placeMs_len1 i h,List.length_drop];omega
theorem midM_zero:midM s ix ms out 0=ms:=by unfold midM;rw[placeMs_zero];rfl
theorem midM_all:midM s ix ms out ms.length=(yB s ix ms out).1:=by unfold midM;rw[List.take_length,List.drop_length,List.append_nil]
theorem midM_get? {i:Nat} (h:i<ms.length):(midM s ix ms out i)[i]? = some ms[i]:=by
 unfold midM;have hl:=placeMs_len1 (s:=s) (ix:=ix) (out:=out) i (Nat.le_of_lt h);rw[List.getElem?_append_right (by omega),hl,Nat.sub_self,List.getElem?_drop,Nat.add_zero,zl h]
theorem midM_get {i:Nat} (h:i<ms.length) (h':i<(midM s ix ms out i).length):(midM s ix ms out i)[i]=ms[i] :=
 Option.some.inj ((zl h').symm.trans (midM_get? h))
theorem midM_succ {i:Nat} (h:i<ms.length):(midM s ix ms out i).set i { ms[i] with type:=(zY s ix (s.length+1) ms[i].type (yB s ix (ms.take i) out).2).1 }=midM s ix ms out (i+1):=by
 unfold midM;rw[placeMs_succ h,List.drop_eq_getElem_cons h,List.append_assoc];have hl:=placeMs_len1 (s:=s) (ix:=ix) (out:=out) i (Nat.le_of_lt h);rw[List.set_append_right _ _ (by omega),hl,Nat.sub_self]
 rfl
end
section
variable {A:zo} {n c p gi:Nat} {ix:List Int} {S:Nat→Prop} {W:World} {v:Value} {L:List TyA}
theorem TdS.setI (h:TdS A n c p gi ix S W v L) (hS:S gi) (t:Nat) (z:Int):TdS A n c p gi (ix.set t z) S (W.setCell ⟨gi,t,none⟩ (.int .i64 z)) v L:=by
 have hlt:=h.lt;refine ⟨(heap_setCell_other _ _ _ _ (by simp only;omega)).trans h.blk,?_,hlt,h.sp,by rw[List.length_set];exact h.len,h.own.keep fun q hq _ _=>heap_setCell_other _ _ _ _ (by simp only;omega),fun x hx=>(h.off x hx).set (a:=⟨gi,t,none⟩) _ (.inl hS)⟩
 have hb:=h.ixb;unfold ixO at hb ⊢;rw[heap_setCell_same _ _ t _ _ (.int .i64 z) hb];simp[List.map_set]
theorem TdS.mem (h:TdS A n c p gi ix S W v L) {i:Nat} {x:TyA} (hx:L[i]? = some x):Off (fun q=>S q∨v.ownBlock=some q) W fun u=>TyR u x.t x.As x.Am:=h.off x (List.mem_of_getElem? hx)
theorem TdS.atv (h:TdS A n c p gi ix S W v L) {i:Nat} (hi:i<L.length) {g cv:Nat} (hv:v = .slice (some ⟨g,0,none⟩) L.length cv):(p<g∧g<W.heap.size)∧W.rangeAt g (i * 10) (L[i]).cells∧W.there g (i * 10) 10:=by
 obtain ⟨g',cv',e,h1,h2,h3⟩:=h.at_ hi;rw[hv] at e
 injection e with e
 injection e with e
 injection e with e
 subst e;exact ⟨h1,h2,h3⟩
end
theorem off_syms {w W:World} {x:TyD} {As Am:zo} {S:Nat→Prop} {base:Nat} {B:zo} {d:Nat} (h:TyR w x As Am) (hb:Below w.heap.size w W) (hS:∀q,q<w.heap.size→¬ S q) (hr:RowX 55 2 SymD.At W base B d x.syms) (hbs:∀q,S q→q<base):Off S W fun u=>TyR u x B Am:=fun u hu=>by
 have hlow:Low w u:=fun q hq=>(hu q (hS q hq) (by have:=hb.size;omega)).trans (hb.block q hq)
 have h2:RowsR 2 24 SymD.At u B x.syms:=hr.out h.syms.1 fun g hg=>hu g (fun hs=>by have:=hbs g hs;have:=(hr.lt hg).1;omega) (hr.lt hg).2
 exact ⟨h.name,h2,h.mems.low hlow⟩
theorem off_mems {w W:World} {x y:TyD} {As Am:zo} {S S':Nat→Prop} {base:Nat} {B:zo} {d:Nat} {l:List MemD} (h:Off S W fun u=>TyR u x As Am) (hb:Below w.heap.size w W) (hS:∀q,q<w.heap.size→¬ S' q) (hSS:∀q,S' q→S q) (hr:RowX 71 13 (MatL w) W base B d l) (hbs:∀q,(Value.slice B l.length d).ownBlock=some q→¬ S' q) (hl:Lim 160 l.length) (hn:y.name=x.name) (hsy:y.syms=x.syms) (hm:y.mems=l):Off S' W fun u=>TyR u y As B:=fun u hu=>by
 have hlow:Low w u:=fun q hq=>(hu q (hS q hq) (by have:=hb.size;omega)).trans (hb.block q hq)
 have h1:=h u fun q hq hl=>hu q (fun k=>hq (hSS q k)) hl
 have h2:=hr.out hl (u:=u) fun g hg=>hu g (hbs g hg) (hr.lt hg).2
 exact ⟨hn▸h1.name,hsy▸h1.syms,by rw[hm];exact RowsR.imp (w:=u) h2 (fun x _ cs hx=>hx u hlow) (Below.refl _ _)⟩
theorem ints_at {w:World} {g:Nat} {l:List Int} (h:w.heap[g]? = some (ixO l)) (hl:l.length≤1000):IntsR w (some ⟨g,0,none⟩) l :=
 ⟨by unfold Lim;omega,fun _=>⟨g,0,rfl,fun i x hx=>⟨encI x,rfl,fun j u hj=>by
  unfold ixO at h
  cases j with
  | zero =>
   obtain rfl:Value.int .i64 x=u:=by simpa[encI] using hj
   rw[cell_of_row _ _ _ _ _ _ h];simp[hx]
  | succ j=>simp[encI] at hj⟩⟩⟩
section
variable {s:List TyD} {ix:List Int}
theorem placeD_set:∀ (f:Nat) (t:Int) (out:List TyD) (n:Nat) (y:TyD),n<out.length→zY s ix f t (out.set n y)=((zY s ix f t out).1,(zY s ix f t out).2.set n y)
 | 0,_,_,_,_,_=>rfl
 | f+1,t,out,n,y,hn=>by
  unfold zY
  by_cases h:0≤ixAt ix t
  ·rw[if_pos h,if_pos h]
  rw[if_neg h,if_neg h];have e0:out.set n y++[tyAt s t]=(out++[tyAt s t]).set n y:=by rw[List.set_append_left _ _ hn]
  have hl:n<(out++[tyAt s t]).length:=by rw[List.length_append];omega
  have e1:(if (tyAt s t).kind=8 then zY s ix f (tyAt s t).key (out.set n y++[tyAt s t]) else ((tyAt s t).key,out.set n y++[tyAt s t]))
    = ((if (tyAt s t).kind=8 then zY s ix f (tyAt s t).key (out++[tyAt s t]) else ((tyAt s t).key,out++[tyAt s t])).1,(if (tyAt s t).kind=8 then zY s ix f (tyAt s t).key (out++[tyAt s t]) else ((tyAt s t).key,out++[tyAt s t])).2.set n y):=by
   rw[e0]
   split
   ·rw[placeD_set f _ _ n y hl]
   ·rfl
  have hl2:n<(if (tyAt s t).kind=8 then zY s ix f (tyAt s t).key (out++[tyAt s t]) else ((tyAt s t).key,out++[tyAt s t])).2.length:=by
   split
   ·exact Nat.lt_of_lt_of_le hl (placeD_ge f _ _)
   ·exact hl
  simp only[e1,List.length_set];generalize (if (tyAt s t).kind=8 then zY s ix f (tyAt s t).key (out++[tyAt s t]) else ((tyAt s t).key,out++[tyAt s t]))=R1 at *
  refine Prod.ext rfl ?_
  show List.set _ _ _=(List.set _ _ _).set n y
  by_cases hc:compK (tyAt s t).kind
  ·simp only[if_pos hc,placeD_set f _ _ n y hl2]
   exact List.set_comm _ _ (by omega)
  ·simp only[if_neg hc]
   exact List.set_comm _ _ (by omega)
theorem placeD_steps {f:Nat} {t:Int} {out:List TyD} (h:¬ 0≤ixAt ix t) {R1 R2:Int×List TyD} (h1:R1=if (tyAt s t).kind=8 then zY s ix f (tyAt s t).key (out++[tyAt s t]) else ((tyAt s t).key,out++[tyAt s t]))
  (h2:R2=if compK (tyAt s t).kind then zY s ix f (tyAt s t).elem (R1.2.set out.length ((tyAt s t).ke R1.1 (tyAt s t).elem)) else ((tyAt s t).elem,R1.2.set out.length ((tyAt s t).ke R1.1 (tyAt s t).elem))) :
  zY s ix (f+1) t out=((out.length:Int),R2.2.set out.length ((tyAt s t).ke R1.1 R2.1)):=by
 have hl:out.length<R1.2.length:=by
  rw[h1]
  split
  ·have:=placeD_ge (s:=s) (ix:=ix) f (tyAt s t).key (out++[tyAt s t])
   rw[List.length_append,List.length_singleton] at this
   omega
  ·rw[List.length_append,List.length_singleton];omega
 rw[zY,if_neg h];simp only;rw[←h1,h2];refine Prod.ext rfl ?_
 show List.set _ _ _=List.set _ _ _
 split
 ·rw[placeD_set f _ _ _ _ hl]
  simp only[List.set_set]
 ·simp only[List.set_set]
theorem t1D_late:∀ (k j:Nat),k≤j→j<s.length→(t1D s k).1[j]? = some (-1)
 | 0,j,_,h=>by rw[t1D_zero];simp[h]
 | k+1,j,hk,h=>by
  rw[t1D_succ]
  split
  ·simp only
   rw[List.getElem?_set_ne (by omega)]
   exact t1D_late k j (by omega) h
  ·exact t1D_late k j (by omega) h
theorem t1D_take {k:Nat} (h:k<s.length):(t1D s k).1.take (k+1)=(t1D s k).1.take k++[-1]:=by
 rw[List.take_add_one,t1D_late k k (Nat.le_refl _) h];rfl
theorem t1D_take1 {k:Nat} (h:k<s.length):(t1D s (k+1)).1.take (k+1)=if zL (tyAt s (k:Int)).kind then ((t1D s k).1.take k++[-1]).set k ((t1D s k).2.length:Int) else (t1D s k).1.take k++[-1]:=by
 rw[t1D_succ]
 split
 ·simp only
  rw[←t1D_take h,List.take_set]
 ·exact t1D_take h
theorem comp_ge (hv:zJ s=0) {t:Int} (hr:0≤t∧t<(s.length:Int)):(7≤(tyAt s t).kind)↔compK (tyAt s t).kind:=by
 have:=yT hv hr;unfold compK
 omega
end
def rdO (A:zo) (n c:Nat) (v u:Value):Obj := .cells #[.slice A n c,v,u] 79 (0,0)
structure RtS (A:zo) (n c p:Nat) (u:Value) (S:Nat→Prop) (W:World) (v:Value) (L:List TyA):Prop where
 blk:W.heap[p]? = some (rdO A n c v u)
 sp:S p
 own:OwnL 50 10 TyA.cells W (p+1) v L
 off:∀x∈L,Off (fun q=>S q∨v.ownBlock=some q) W fun u=>TyR u x.t x.As x.Am
section
variable {A:zo} {n c p:Nat} {S S':Nat→Prop} {W W':World} {u v:Value} {L:List TyA}
theorem RtS.plt (h:RtS A n c p u S W v L):p<W.heap.size:=(zg.1 h.blk).1
theorem RtS.ownlt (h:RtS A n c p u S W v L) {q:Nat} (hq:v.ownBlock=some q):p<q∧q<W.heap.size:=by
 have:=World.ownsRow.lt h.own q hq;exact ⟨by omega,this.2⟩
theorem RtS.below (h:RtS A n c p u S W v L) (hb:Below W.heap.size W W'):RtS A n c p u S W' v L :=
 ⟨(hb.block _ h.plt).trans h.blk,h.sp,h.own.below hb,fun x hx=>(h.off x hx).low hb⟩
theorem RtS.sets (h:RtS A n c p u S W v L) (hb:Below W.heap.size W W') (hs:∀q,q<W.heap.size→S' q→S q) (hp:S' p):RtS A n c p u S' W' v L :=
 ⟨(hb.block _ h.plt).trans h.blk,hp,h.own.below hb,fun x hx=>(h.off x hx).more (fun q hq h'=>h'.imp (hs q hq) id) (fun q hq _=>hb.block q hq) hb.size⟩
theorem RtS.mono (h:RtS A n c p u S W v L) (hs:∀q,S' q→S q) (hp:S' p):RtS A n c p u S' W v L :=
 ⟨h.blk,hp,h.own,fun x hx=>(h.off x hx).mono fun q _ h'=>h'.imp (hs q) id⟩
theorem RtS.cells (h:RtS A n c p u S W v L):(W.cell? ⟨p,0,none⟩=some (.slice A n c)∧W.cell? ⟨p,1,none⟩=some v∧W.cell? ⟨p,2,none⟩=some u)∧W.frozen? ⟨p,1,none⟩=false∧W.frozen? ⟨p,2,none⟩=false:=by
 have hb:=h.blk;unfold rdO at hb;refine ⟨⟨?_,?_,?_⟩,frozen_of_row _ _ _ _ _ hb,frozen_of_row _ _ _ _ _ hb⟩ <;> (rw[cell_of_row _ _ _ _ _ _ hb];rfl)
theorem RtS.val (h:RtS A n c p u S W v L):∃Av cv,v = .slice Av L.length cv:=by
 obtain ⟨Av,cv,e,_⟩:=h.own.reads;exact ⟨Av,cv,e⟩
theorem RtS.next (h:RtS A n c p u S W v L) {x:TyA} (hx:Off (fun q=>S q∨v.ownBlock=some q) W fun u=>TyR u x.t x.As x.Am) {w4:World} (hb4:Below W.heap.size W w4) {v8:Value} {w8:World}
  (ho:w8.ownsRow (p+1) 50 10 v8 (L.length+1) (L.flatMap TyA.cells++x.cells)) (hg:w4.grownBy w8 v.ownBlock) (hv:v8.ownBlock=v.ownBlock∨v8.ownBlock=some w4.heap.size) :
  RtS A n c p u S (w8.setCell ⟨p,1,none⟩ v8) v8 (L++[x])∧Chg p v v8 W (w8.setCell ⟨p,1,none⟩ v8):=by
 have h4:=h.below hb4;have hk:∀q,q<w4.heap.size→v.ownBlock≠some q→w8.heap[q]? = w4.heap[q]? := fun q hq hne=>grown_block hg hq fun k hk e=>hne (by rw[hk,e])
 have hp8:w8.heap[p]? = some (rdO A n c v u):=(hk p h4.plt fun e=>by have:=h4.ownlt e;omega).trans h4.blk
 have hoff:∀y∈L++[x],Off (fun q=>S q∨v8.ownBlock=some q) (w8.setCell ⟨p,1,none⟩ v8) fun u=>TyR u y.t y.As y.Am:=fun y hy=>by
  have hy':Off (fun q=>S q∨v.ownBlock=some q) w4 fun u=>TyR u y.t y.As y.Am:=by
   rcases List.mem_append.1 hy with k|k
   ·exact h4.off y k
   ·obtain rfl:y=x:=by simpa using k
    exact hx.low hb4
  refine hy'.more (fun q hq hs=>hs.imp id fun h2=>?_) (fun q hq hn=>?_) (by have:=hg.size;simp;omega)
  ·rcases hv with e|e
   ·exact e▸h2
   ·rw[e] at h2
    have:=Option.some.inj h2
    omega
  ·have hqp:q≠p:=fun e=>hn (.inl (e▸h.sp))
   exact (heap_setCell_other _ _ _ _ (by simpa using hqp)).trans (hk q hq fun e=>hn (.inr e))
 refine ⟨⟨?_,h.sp,?_,hoff⟩,⟨?_,fun q hp hq hne=>?_,fun q hq=>?_⟩⟩
 ·have:=heap_setCell_same w8 p 1 _ _ v8 hp8
  rw[this];rfl
 ·have ho':OwnL 50 10 TyA.cells w8 (p+1) v8 (L++[x]):=OwnL.snoc ho
  exact ho'.keep fun g hg1 _ _=>heap_setCell_other _ _ _ _ (by simp only;omega)
 ·have hb8:Below p W w8:=(hb4.mono (Nat.le_of_lt h.plt)).grown hg (Nat.le_of_lt h4.plt) fun q hq=>by have:=h4.ownlt hq;omega
  exact hb8.setCell (p:=⟨p,1,none⟩) (Nat.le_refl _) v8
 ·exact ((heap_setCell_other _ _ _ _ (by simpa using hp)).trans (hk q (by have:=hb4.size;omega) hne)).trans (hb4.block q hq)
 ·rcases hv with e|e
  ·exact .inl (e▸hq)
  ·rw[e] at hq
   have:=Option.some.inj hq;have:=hb4.size;exact .inr (by omega)
theorem RtS.at_ (h:RtS A n c p u S W v L) {i:Nat} (hi:i<L.length):∃g cv,v = .slice (some ⟨g,0,none⟩) L.length cv∧(p<g∧g<W.heap.size)∧W.rangeAt g (i * 10) (L[i]).cells∧W.there g (i * 10) 10:=by
 obtain ⟨Av,cv,e,_,_,hr⟩:=h.own.reads;obtain ⟨g,rfl,hg,hrg⟩:=hr (fun e=>by rw[e] at hi;cases hi)
 have hlt:=h.ownlt (q:=g) (by rw[e];rfl)
 have h1:=range_flat (k:=10) cells_len hrg (zl hi);rw[Nat.zero_add] at h1;refine ⟨g,cv,e,hlt,h1,fun j hj=>⟨?_,?_⟩⟩
 ·have:=h1 j _ (zl (by rw[cells_len];exact hj))
  rw[this];rfl
 ·have ho:=h.own
  rw[e] at ho;exact World.ownsRow.frozenAt ho (i * 10+j)
theorem RtS.setC (h:RtS A n c p u S W v L) {i:Nat} (hi:i<L.length) {g cv:Nat} (hv:v = .slice (some ⟨g,0,none⟩) L.length cv) {j:Nat} (hj:j<10) {z:Value} {x:TyA} (hc:x.cells=(L[i]).cells.set j z) (hx:Off (fun q=>S q∨v.ownBlock=some q) W fun u=>TyR u x.t x.As x.Am) :
  RtS A n c p u S (W.setCell ⟨g,i * 10+j,none⟩ z) v (L.set i x)∧Chg p v v W (W.setCell ⟨g,i * 10+j,none⟩ z):=by
 have hg:=h.ownlt (q:=g) (by rw[hv];rfl)
 have hne:∀q,q≠g→(W.setCell ⟨g,i * 10+j,none⟩ z).heap[q]? = W.heap[q]? := fun q hq=>heap_setCell_other _ _ _ _ (by simpa using hq)
 have hsv:v.ownBlock=some g:=by rw[hv];rfl
 refine ⟨⟨(hne p (by omega)).trans h.blk,h.sp,?_,fun y hy=>?_⟩,⟨(Below.refl _ _).setCell (p:=⟨g,i * 10+j,none⟩) (by simp only;omega) _,fun q _ _ hq=>hne q (fun e=>hq (e▸hsv)),fun _ hq => .inl hq⟩⟩
 ·have ho:=h.own
  subst hv;unfold OwnL at ho ⊢;have hic:i<(L.map TyA.cells).length:=by rw[List.length_map];exact hi
  rw[List.length_set,flat_map,List.map_set,hc,show (L[i]).cells=(L.map TyA.cells)[i] by rw[List.getElem_map],←flatten_set (by omega) (L.map TyA.cells) (cells_ten L) hic hj z]
  rw[flat_map] at ho;exact (World.ownsRow.stored ho (i * 10+j) z).1
 ·have hy':Off (fun q=>S q∨v.ownBlock=some q) W fun u=>TyR u y.t y.As y.Am:=by
   rcases List.mem_or_eq_of_mem_set hy with k|k
   ·exact h.off y k
   ·rw[k];exact hx
  exact hy'.set z (.inr hsv)
theorem RtS.other (h : RtS A n c p u S W v L) {g : Nat} (hS : S g) (h1 : g ≠ p) (h3 : v.ownBlock ≠ some g) (j : Nat) (z : Value) : RtS A n c p u S (W.setCell ⟨g, j, none⟩ z) v L :=
  ⟨(heap_setCell_other _ _ _ _ (by simpa using h1.symm)).trans h.blk, h.sp,
    h.own.keep fun q _ _ hq => heap_setCell_other _ _ _ _ (fun e => h3 (by have e : q = g := e; rw [← e]; exact hq)), fun x hx => (h.off x hx).set z (.inl hS)⟩
theorem RtS.nextU (h:RtS A n c p u S W v L) {ix:List Int} (hu:OwnL 3 1 encI W (p+1) u ix) (hS:∀q,p<q→S q) {w4:World} (hb4:Below W.heap.size W w4) {u8:Value} {w8:World} (hg:w4.grownBy w8 u.ownBlock) :
  RtS A n c p u8 S (w8.setCell ⟨p,2,none⟩ u8) v L:=by
 have h4:=h.below hb4;have hu4:=hu.below hb4;have hul:∀q,u.ownBlock=some q→p<q:=fun q hq=>by have:=hu4.lt q hq;omega
 have hk:∀q,q<w4.heap.size→u.ownBlock≠some q→w8.heap[q]? = w4.heap[q]? := fun q hq hne=>grown_block hg hq fun k hk e=>hne (by rw[hk,e])
 have hp8:w8.heap[p]? = some (rdO A n c v u):=(hk p h4.plt fun e=>by have:=hul p e;omega).trans h4.blk
 refine ⟨?_,h.sp,?_,fun x hx=>?_⟩
 ·have:=heap_setCell_same w8 p 2 _ _ u8 hp8
  rw[this];rfl
 ·have ho:=h4.own.other hu4 (by decide) hg
  exact ho.keep fun g hg1 _ _=>heap_setCell_other _ _ _ _ (by simp only;omega)
 ·refine (h4.off x hx).more (fun q _ hs=>hs) (fun q hq hn=>?_) (by have:=hg.size;simp;omega)
  have hqp:q≠p:=fun e=>hn (.inl (e▸h.sp))
  exact (heap_setCell_other _ _ _ _ (by simpa using hqp)).trans (hk q hq fun e=>hn (.inl (hS q (hul q e))))
end
structure IxS (n:Nat) (ix:List Int) (gi p:Nat) (v:Value) (W:World):Prop where
 cel:∀t,t<n→W.cell? ⟨gi,t,none⟩=some (.int .i64 (ixAt ix (t:Int)))
 lt:gi<W.heap.size
 ne:gi≠p
 vne:v.ownBlock≠some gi
section
variable {n gi p:Nat} {ix:List Int} {v v':Value} {W W':World}
theorem IxS.chg (h:IxS n ix gi p v W) (k:Chg p v v' W W'):IxS n ix gi p v' W' :=
 ⟨fun t ht=>(World.cell?_of_block (w:=W) (w':=W') (a:=⟨gi,t,none⟩) (k.oth gi h.ne h.lt h.vne)).trans (h.cel t ht),Nat.lt_of_lt_of_le h.lt k.bel.size,h.ne,fun e=>(k.own gi e).elim h.vne fun h'=>by have:=h.lt;omega⟩
theorem IxS.below (h:IxS n ix gi p v W) (k:Below W.heap.size W W'):IxS n ix gi p v W' :=
 ⟨fun t ht=>zA k (h.cel t ht),Nat.lt_of_lt_of_le h.lt k.size,h.ne,h.vne⟩
end
end Go.Proofs.YtdfolgmcggdjdaaGreatDoor


