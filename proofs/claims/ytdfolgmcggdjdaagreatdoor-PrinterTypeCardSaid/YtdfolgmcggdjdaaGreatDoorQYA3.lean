/-
  Walks: checked; the text of a member.
-/
import Derived.Test.YtdfolgmcggdjdaaGreatDoorQYA1
import Derived.Test.YtdfolgmcggdjdaaGreatDoorQPM
namespace Go.Proofs.YtdfolgmcggdjdaaGreatDoor
open Go.RowKit
set_option maxHeartbeats 16000000
set_option maxRecDepth 100000
def DefSaid (s:List TyD) (A:Option Addr) (c:Nat) (d:Int):Prop:=∀w,TysR w A s →
  Calls Tryz.prog 58 #[.agg #[.slice A s.length c]] w fun e w'=>∃x y:Int,e = .returned (.tuple #[.int .i64 x,.int .i64 y,.int .i64 d])∧Below w.heap.size w w'
theorem DefSaid.none {s:List TyD} (A:Option Addr) (c:Nat) (h:NoDef s):DefSaid s A c (zG s):=fun w hs =>
 (defaults_any s A c h w hs).mono fun _ _ ⟨h1,h2⟩=>⟨0,0,h1,h2⟩
def checkD (s:List TyD) (d:Int):Int:=if zG s≠0 then zG s else if d≠0 then d else if s.any badW then 1 else writtenD s (usesL s)
theorem uses_rng {s:List TyD} (hv:zG s=0):∀u∈usesL s,0≤u∧u<(s.length:Int):=fun u hu=>by
 unfold usesL at hu
 obtain ⟨t,ht,hm⟩:=List.mem_flatMap.1 hu
 obtain ⟨m,hm',rfl⟩:=List.mem_map.1 hm
 exact (mem_rng hv ht hm').2
theorem checked_any (s:List TyD) (d:Int) (A:Option Addr) (c:Nat) (hd:DefSaid s A c d) (w:World) (hs:TysR w A s) :
  Calls Tryz.prog 29 #[.agg #[.slice A s.length c]] w fun e w'=>e = .returned (.int .i64 (checkD s d))∧Below w.heap.size w w':=by
 have HS:=zh hs
 have HD:=zh hd
 have HB0:=zh (zD w (.cells #[.slice A s.length c] 27))
 have HX0:=zh (heap_alloc_new w (.cells #[.slice A s.length c] 27))
 clear hs hd
 go_enter Tryz.func29,Tryz.ntmps29
 go_wp2_with fail
 generalize w.alloc (.cells #[.slice A s.length c] 27)=W1 at *
 refine (valid_any s A c W1 (HS.out.below HB0.out)).mono ?_
 rintro e w1 ⟨rfl,hb1⟩
 have HB1:=zh (zA HB0.out hb1)
 have HX1:=zh ((hb1.block _ (zg.1 HX0.out).1).trans HX0.out)
 have x0:w1.cell? ⟨w.heap.size,0,none⟩=some (.slice A s.length c):=by rw[cell_of_row _ _ _ _ _ _ HX1.out];rfl
 clear hb1
 have HC:Hid (checkD s d=if zG s≠0 then zG s else if d≠0 then d else if s.any badW then 1 else writtenD s (usesL s)):=rfl
 by_cases hv:zG s=0
 case neg =>
  have q1:(zG s != 0)=true:=by simp[hv]
  have HT:Hid (checkD s d=zG s):=HC.out.trans (if_pos hv)
  clear hv HC
  go_wp2
  go_ret
  exact ⟨by rw[HT.out];rfl,HB1.out⟩
 have HV:=zh hv
 have HC2:=zh (HC.out.trans (if_neg (by simp[hv])))
 rw[hv]
 clear hv HC
 go_wp2_with fail
 refine (HD.out w1 (HS.out.below HB1.out)).mono ?_
 rintro e w2 ⟨x,y,rfl,hb2⟩
 have HB2:=zh (zA HB1.out hb2)
 have HX2:=zh ((hb2.block _ (zg.1 HX1.out).1).trans HX1.out)
 clear x0 hb2
 have x0:w2.cell? ⟨w.heap.size,0,none⟩=some (.slice A s.length c):=by rw[cell_of_row _ _ _ _ _ _ HX2.out];rfl
 by_cases hd:d=0
 case neg =>
  have q1:(d != 0)=true:=by simp[hd]
  have HT:=zh (HC2.out.trans (if_pos hd))
  clear hd HC2
  go_wp2
  go_ret
  exact ⟨by rw[HT.out];rfl,HB2.out⟩
 have HC3:=zh (HC2.out.trans (if_neg (by simp[hd])))
 subst hd
 clear HC2
 go_wp2_with fail
 refine (containsT_any s A c w2 (HS.out.below HB2.out)).mono ?_
 rintro e w3 ⟨rfl,hb3⟩
 have HB3:=zh (zA HB2.out hb3)
 have HX3:=zh ((hb3.block _ (zg.1 HX2.out).1).trans HX2.out)
 clear x0 hb3
 have x0:w3.cell? ⟨w.heap.size,0,none⟩=some (.slice A s.length c):=by rw[cell_of_row _ _ _ _ _ _ HX3.out];rfl
 cases ha:s.any badW with
 | true =>
  have HT:Hid (checkD s 0=1):=HC3.out.trans (if_pos ha)
  clear ha HC3
  go_wp2
  go_ret
  exact ⟨by rw[HT.out];rfl,HB3.out⟩
 | false =>
  have HT:Hid (checkD s 0=writtenD s (usesL s)):=HC3.out.trans (if_neg (by simp[ha]))
  clear ha HC3
  go_upto_region 9 with fail
  refine wp_region_held_drew (S:=(fun w'=>(w'.cell? ⟨w.heap.size,0,none⟩=some (.slice A s.length c))∧Hid (Below w3.heap.size w3 w'))) (by kernel_rfl) ?_ (fun zH_=>?_)
  ·(try dsimp only);exact ⟨x0,zE (Below.refl _ _) _⟩
  refine tL 0 _ zH_ ?_
  try simp only[ps]
  refine tL 1 _ zH_ ?_
  try simp only[ps]
  refine tR 2 (fun K hK=>?_)
  go_simp
  refine (prUses_any s A c HV.out _ (HS.out.below (zA HB3.out zH_.2.out))).mono ?_;rintro e w4 ⟨B,d4,rfl,hi4,hbz⟩;have HI:=zh hi4;clear hi4
  refine hK.out _ _ ?_ (fun zH_=>?_)
  ·(try dsimp only);exact ⟨zB hbz zH_.1,zA zH_.2.out hbz⟩
  clear hK K
  try simp only[ps]
  refine tR 3 (fun K hK=>?_)
  go_simp
  refine (written_any s A c HV.out (usesL s) B d4 (uses_rng HV.out) _ (HS.out.below (zA HB3.out zH_.2.out)) HI.out).mono ?_;rintro e w5 ⟨rfl,hbz⟩;have HB5:=zh (zA HB3.out (zA zH_.2.out hbz))
  refine hK.out _ _ ?_ (fun zH_=>?_)
  ·(try dsimp only);exact ⟨zB hbz zH_.1,zA zH_.2.out hbz⟩
  clear hK K
  try simp only[ps]
  refine tL 4 _ zH_ ?_
  try simp only[ps]
  refine wpAnyH_done (by kernel_rfl) ?_ _
  go_wp2;go_ret;exact ⟨by rw[HT.out];rfl,HB5.out⟩
theorem mbx_cells {W:World} {b:Nat} {m:MemD} {A1:Option Addr} {c1:Nat} {A2:Option Addr} {c2:Nat} {A3:Option Addr} {c3:Nat} (h:W.heap[b]? = some (m.box A1 c1 A2 c2 A3 c3)) :
  W.cell? ⟨b,0,none⟩=some (.int .i64 m.id)∧W.cell? ⟨b,1,none⟩=some (.string m.name)∧W.cell? ⟨b,2,none⟩=some (.int .i64 m.type)∧W.cell? ⟨b,3,none⟩=some (.bool m.critical)∧W.cell? ⟨b,4,none⟩=some (.bool m.hasDef)∧W.cell? ⟨b,5,none⟩=some (.int .i64 m.dflt.kind)∧W.cell? ⟨b,6,none⟩=some (.bool m.dflt.bool)∧W.cell? ⟨b,7,none⟩=some (.int .i64 m.dflt.int)∧W.cell? ⟨b,8,none⟩=some (.string m.dflt.str)∧W.cell? ⟨b,9,none⟩=some (.int .i64 m.dflt.id)∧W.cell? ⟨b,10,none⟩=some (.slice A1 m.dflt.keys.length c1)∧W.cell? ⟨b,11,none⟩=some (.slice A2 m.dflt.items.length c2)∧W.cell? ⟨b,12,none⟩=some (.slice A3 m.dflt.rest.length c3):=by
 refine ⟨?_,?_,?_,?_,?_,?_,?_,?_,?_,?_,?_,?_,?_⟩ <;> (rw[cell_of_row _ _ _ _ _ _ h];rfl)
def FmtSaid (s:List TyD) (A:Option Addr) (c:Nat) (m:MemD) (x:ByteArray):Prop:=∀w A1 c1 A2 c2 A3 c3,TysR w A s→MemR w m A1 A2 A3→Tab w →
  Calls Tryz.prog 97 #[.agg #[.slice A s.length c],.int .i64 m.type,m.dflt.v A1 c1 A2 c2 A3 c3] w fun e w'=>∃er:Int,e = .returned (.tuple #[.string x,.int .i64 er])∧Below w.heap.size w w'
def DfOk (s:List TyD) (A:Option Addr) (c:Nat) (df:MemD→ByteArray) (m:MemD):Prop:=(df m).size≤1073741824∧(m.hasDef=true→FmtSaid s A c m (df m))
theorem member_any (s:List TyD) (A:Option Addr) (c:Nat) (hv:zG s=0) (hn:Num64 s) (df:MemD→ByteArray) (m:MemD) (hd:DfOk s A c df m) (hi:In64 m.id) (hnm:m.name.size≤24) (hr:0≤m.type∧m.type<(s.length:Int)) (hf:finD s (s.length+1) m.type)
  (A1:Option Addr) (c1:Nat) (A2:Option Addr) (c2:Nat) (A3:Option Addr) (c3:Nat) (w:World) (hs:TysR w A s) (hm:MemR w m A1 A2 A3) (htab:Tab w) :
  Calls Tryz.prog 69 #[.agg #[.slice A s.length c],m.v A1 c1 A2 c2 A3 c3] w fun e w'=>e = .returned (.string (memT s df m))∧Below w.heap.size w w':=by
 have hls:=yD hv
 have HS:=zh hs
 have HM:=zh hm
 have HTB:=zh htab
 have HD:=zh hd
 have HI:=zh hi
 have hzi:=decB_le hi
 have hzt:(textD s (s.length+1) m.type).size≤3300:=by have:=text_le hv hn (s.length+1) m.type hr hf;omega
 have hzd:=hd.1
 have HB0:=zh (zC w (.cells #[.slice A s.length c] 27) (m.box A1 c1 A2 c2 A3 c3))
 have HX0:=zh (tmp_al (heap_alloc_new w (.cells #[.slice A s.length c] 27)) (m.box A1 c1 A2 c2 A3 c3))
 have HY0:Hid (((w.alloc (.cells #[.slice A s.length c] 27)).alloc (m.box A1 c1 A2 c2 A3 c3)).heap[w.heap.size+1]? = some (m.box A1 c1 A2 c2 A3 c3)):=by
  have:=heap_alloc_new (w.alloc (.cells #[.slice A s.length c] 27)) (m.box A1 c1 A2 c2 A3 c3)
  rw[show (w.alloc (.cells #[.slice A s.length c] 27)).heap.size=w.heap.size+1 by simp] at this
  exact this
 have HHF:=zh (fun u (h1:TysR u A s) (h2:Tab u)=>text_any s A c hv hn (s.length+1) m.type u hr hf (by omega) h1 h2)
 have HMT:Hid (memT s df m=decB m.id++(if m.critical then ⟨#[33]⟩ else ⟨#[]⟩)++(⟨#[32]⟩++m.name++⟨#[58,32]⟩++textD s (s.length+1) m.type)++(if m.hasDef then ⟨#[32,61,32]⟩++df m else ⟨#[]⟩)++⟨#[59]⟩):=rfl
 generalize memT s df m=MT at *
 clear hs hm htab hd hi hv hn hr hf
 go_enter Tryz.func69,Tryz.ntmps69
 go_wp2_with fail
 generalize (w.alloc (.cells #[.slice A s.length c] 27)).alloc (m.box A1 c1 A2 c2 A3 c3)=W1 at *
 obtain ⟨b0,b1,b2,b3,b4,b5,b6,b7,b8,b9,b10,b11,b12⟩:=mbx_cells HY0.out
 go_wp2_with fail
 refine (itoa_any m.id HI.out _ (HTB.out.below HB0.out)).mono ?_
 rintro e w1 ⟨rfl,hb1⟩
 have HX1:=zh ((hb1.block _ (zg.1 HX0.out).1).trans HX0.out)
 have HY1:=zh ((hb1.block _ (zg.1 HY0.out).1).trans HY0.out)
 have HB1:=zh (zA HB0.out hb1)
 clear hb1 b0 b1 b2 b3 b4 b5 b6 b7 b8 b9 b10 b11 b12
 obtain ⟨b0,b1,b2,b3,b4,b5,b6,b7,b8,b9,b10,b11,b12⟩:=mbx_cells HY1.out
 have x0:w1.cell? ⟨w.heap.size,0,none⟩=some (.slice A s.length c):=by rw[cell_of_row _ _ _ _ _ _ HX1.out];rfl
 have hpz:(if m.critical then (⟨#[33]⟩:ByteArray) else ⟨#[]⟩).size≤1:=by split <;> decide
 go_upto_if 12 with fail
 go_cut [5] (fun s5 wx=>s5 = .string (decB m.id++(if m.critical then ⟨#[33]⟩ else ⟨#[]⟩))∧wx=w1)
 case first =>
  cases hc:m.critical with
  | true =>
   have n1:¬ 9223372036854775807<(decB m.id).size+(⟨#[33]⟩:ByteArray).size:=by show ¬ _<_+1;omega
   have n2:¬ 9223372036854775807<(decB m.id).size+1:=by omega
   rw[hc] at b3
   go_wp2
   go_meet
   exact ⟨by rw[hc];rfl,rfl⟩
  | false =>
   rw[hc] at b3
   go_wp2
   go_meet
   exact ⟨by rw[hc,if_neg (by simp),app_nil],rfl⟩
 case rest =>
 obtain ⟨rfl,rfl⟩:=hcut
 generalize hpre:decB m.id++(if m.critical then ⟨#[33]⟩ else ⟨#[]⟩)=pre at *
 have hpr:pre.size≤22:=by rw[←hpre,zX];omega
 have HMC:Hid (∀x y:ByteArray,(x=y)→x=y):=fun _ _ h=>h
 clear hpre HMC
 generalize hT:textD s (s.length+1) m.type=T at *
 have n1:¬ 9223372036854775807<(⟨#[32]⟩:ByteArray).size+m.name.size:=by show ¬ _<1+_;omega
 have n2:¬ 9223372036854775807<(⟨#[32]⟩++m.name:ByteArray).size+(⟨#[58,32]⟩:ByteArray).size:=by rw[zX];show ¬ _<1+_+2;omega
 have z2:(⟨#[32]⟩++m.name++⟨#[58,32]⟩:ByteArray).size≤27:=by rw[zX,zX];show 1+_+2≤_;omega
 have n3:¬ 9223372036854775807<(⟨#[32]⟩++m.name++⟨#[58,32]⟩:ByteArray).size+T.size:=by omega
 have z3:(⟨#[32]⟩++m.name++⟨#[58,32]⟩++T:ByteArray).size≤3327:=by rw[zX];omega
 have n4:¬ 9223372036854775807<pre.size+(⟨#[32]⟩++m.name++⟨#[58,32]⟩++T:ByteArray).size:=by omega
 have z4:(pre++(⟨#[32]⟩++m.name++⟨#[58,32]⟩++T):ByteArray).size≤3349:=by rw[zX];omega
 have p1:¬ 9223372036854775807<1+m.name.size:=by omega
 have p2:¬ 9223372036854775807<1+m.name.size+2:=by omega
 have p3:¬ 9223372036854775807<1+m.name.size+2+T.size:=by omega
 have p4:¬ 9223372036854775807<pre.size+(1+m.name.size+2+T.size):=by omega
 have HCC:=zh (And.intro x0 (And.intro b1 b2))
 go_upto_region 4 with fail
 refine wp_region_held_drew (S:=(fun w'=>(w'.cell? ⟨w.heap.size,0,none⟩=some (.slice A s.length c)∧w'.cell? ⟨w.heap.size+1,1,none⟩=some (.string m.name)∧w'.cell? ⟨w.heap.size+1,2,none⟩=some (.int .i64 m.type))∧Hid (Below wc.heap.size wc w'))) (by kernel_rfl) ?_ (fun zH_=>?_)
 ·(try dsimp only);exact ⟨⟨x0,b1,b2⟩,zE (Below.refl _ _) _⟩
 refine tL 0 _ zH_ ?_
 try simp only[ps]
 refine tL 1 _ zH_ ?_
 try simp only[ps]
 refine tL 2 _ zH_ ?_
 try simp only[ps]
 refine tL 3 _ zH_ ?_
 try simp only[ps]
 refine tL 4 _ zH_ ?_
 try simp only[ps]
 refine tL 5 _ zH_ ?_
 try simp only[ps]
 refine tL 6 _ zH_ ?_
 try simp only[ps]
 refine tL 7 _ zH_ ?_
 try simp only[ps]
 refine tR 8 (fun K hK=>?_)
 go_simp
 refine (HHF.out _ (HS.out.below (zA HB1.out zH_.2.out)) (HTB.out.below (zA HB1.out zH_.2.out))).mono ?_;rintro e w4 ⟨rfl,hbz⟩
 refine hK.out _ _ ?_ (fun zH_=>?_)
 ·(try dsimp only);exact ⟨⟨zB hbz zH_.1.1,zB hbz zH_.1.2.1,zB hbz zH_.1.2.2⟩,zA zH_.2.out hbz⟩
 clear hK K
 try simp only[ps]
 refine tL 9 _ zH_ ?_
 try simp only[ps]
 refine tL 10 _ zH_ ?_
 try simp only[ps]
 refine tL 11 _ zH_ ?_
 try simp only[ps]
 refine wpAnyH_done (by kernel_rfl) ?_ _
 have HMR:=zh (And.intro (HS.out.below (zA HB1.out zH_.2.out)) (And.intro (HTB.out.below (zA HB1.out zH_.2.out)) (HM.out.below (zA HB1.out zH_.2.out))))
 have HB4:=zh (zA HB1.out zH_.2.out)
 have c4:=zB zH_.2.out b4
 have c5:=zB zH_.2.out b5
 have c6:=zB zH_.2.out b6
 have c7:=zB zH_.2.out b7
 have c8:=zB zH_.2.out b8
 have c9:=zB zH_.2.out b9
 have c10:=zB zH_.2.out b10
 have c11:=zB zH_.2.out b11
 have c12:=zB zH_.2.out b12
 obtain ⟨⟨d0,d1,d2⟩,_⟩:=zH_
 generalize pre++(⟨#[32]⟩++m.name++⟨#[58,32]⟩++T)=P4 at *
 clear b0 b1 b2 b3 b4 b5 b6 b7 b8 b9 b10 b11 b12 x0 HCC HX1 HY1 HX0 HY0 n1 n2 n3 n4 z2 z3 HHF
 cases hdf:m.hasDef with
 | true =>
  rw[hdf] at c4
  have HF:=zh (HD.out.2 hdf)
  have HMT2:Hid (MT=P4++(⟨#[32,61,32]⟩++df m)++⟨#[59]⟩):=by have:=HMT.out;rwa [hdf,if_pos rfl] at this
  clear hdf HMT HD
  generalize df m=D at *
  have m1:¬ 9223372036854775807<(⟨#[32,61,32]⟩:ByteArray).size+D.size:=by show ¬ _<3+_;omega
  have m2:¬ 9223372036854775807<P4.size+(⟨#[32,61,32]⟩++D:ByteArray).size:=by rw[zX];show ¬ _<_+(3+_);omega
  have m3:¬ 9223372036854775807<(P4++(⟨#[32,61,32]⟩++D):ByteArray).size+(⟨#[59]⟩:ByteArray).size:=by rw[zX,zX];show ¬ _<_+(3+_)+1;omega
  have p1:¬ 9223372036854775807<3+D.size:=by omega
  have p2:¬ 9223372036854775807<P4.size+(3+D.size):=by omega
  have p3:¬ 9223372036854775807<P4.size+(3+D.size)+1:=by omega
  go_wp2_with fail
  refine (HF.out _ A1 c1 A2 c2 A3 c3 HMR.out.1 HMR.out.2.2 HMR.out.2.1).mono ?_
  rintro e w5 ⟨er,rfl,hb5⟩
  have HB5:=zh (zA HB4.out hb5)
  clear hb5
  go_wp2
  go_ret
  exact ⟨by rw[HMT2.out];rfl,HB5.out⟩
 | false =>
  rw[hdf] at c4
  have HMT2:Hid (MT=P4++⟨#[59]⟩):=by have:=HMT.out;rwa [hdf,if_neg (by simp),app_nil] at this
  clear hdf HMT HD
  have m1:¬ 9223372036854775807<P4.size+(⟨#[59]⟩:ByteArray).size:=by show ¬ _<_+1;omega
  have p1:¬ 9223372036854775807<P4.size+1:=by omega
  go_wp2
  go_ret
  exact ⟨by rw[HMT2.out];rfl,HB4.out⟩
end Go.Proofs.YtdfolgmcggdjdaaGreatDoor


