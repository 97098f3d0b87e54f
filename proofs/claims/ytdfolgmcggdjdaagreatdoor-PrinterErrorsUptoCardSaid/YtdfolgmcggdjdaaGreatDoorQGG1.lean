/-
  Walks: the reference's Uses, the word of a kind; its outline as the program's.
-/
import Derived.Test.YtdfolgmcggdjdaaGreatDoorQGG0
import Derived.Test.YtdfolgmcggdjdaaGreatDoorQGF2
import Derived.Test.YtdfolgmcggdjdaaGreatDoorQGA3
import Derived.Test.YtdfolgmcggdjdaaGreatDoorQRV5
namespace Go.Proofs.YtdfolgmcggdjdaaGreatDoor
open Go.RowKit
set_option maxHeartbeats 16000000
set_option maxRecDepth 100000
def wordK (k:Int):ByteArray:=[⟨#[]⟩,⟨#[98,111,111,108]⟩,⟨#[105,110,116]⟩,⟨#[115,116,114,105,110,103]⟩,⟨#[101,110,117,109]⟩,⟨#[114,101,99,111,114,100]⟩,⟨#[117,110,105,111,110]⟩,⟨#[108,105,115,116]⟩,⟨#[109,97,112]⟩,(⟨#[111,112,116,105,111,110,97,108]⟩:ByteArray)].getD k.toNat ⟨#[]⟩
theorem wordK_any (k:Int) (h:1≤k∧k≤9) (w:World):Calls Tryz.prog 46 #[.int .i64 k] w fun e w'=>e = .returned (.string (wordK k))∧Below w.heap.size w w':=by
 have HB:=zh (fun o:Obj=>zD w o)
 have hk:k=1∨k=2∨k=3∨k=4∨k=5∨k=6∨k=7∨k=8∨k=9:=by omega
 clear h
 rcases hk with rfl|rfl|rfl|rfl|rfl|rfl|rfl|rfl|rfl <;>
 ·go_enter Tryz.func46,Tryz.ntmps46
  go_wp2
  go_ret
  exact ⟨rfl,HB.out _⟩
theorem indexI_any (l:List Int) (x:Int) (A:zo) (c:Nat) (w:World) (hl:IntsR w A l) :
  Calls Tryz.prog 107 #[.slice A l.length c,.int .i64 x] w fun e w'=>∃r:Int,e = .returned (.int .i64 r)∧(0≤r↔x∈l)∧Below w.heap.size w w':=by
 have hn:=hl.1.lt (by omega)
 have HL:=zh hl;clear hl
 go_enter Tryz.func107,Tryz.ntmps107
 go_wp2
 go_loopw [8] (fun i wr=>∃k:Nat,k≤l.length∧i = .int .i64 (k:Int)∧Hid ((∀j (h:j<l.length),j<k→l[j]≠x)∧Below w.heap.size w wr)) (fun i _=>l.length - (intOf i).toNat)
 case atStart=>exact ⟨0,by omega,rfl,(fun j _ h=>absurd h (by omega)),Below.refl _ _⟩
 case round =>
  obtain ⟨k,hk,rfl,hh⟩:=hrel;have HH:=zh hh.out.1;have HB:=zh hh.out.2;clear hh
  by_cases hlt:k<l.length
  ·obtain ⟨b,o,rfl,i3⟩:=(HL.out.below HB.out).at1 hlt
   have h1:(0:Int)≤(k:Int):=by omega
   have h2:(k:Int)<(l.length:Int):=by omega
   by_cases he:x=l[k]
   ·have q1:(x==l[k])=true:=by simp[he]
    have HM:Hid (x∈l):=he▸List.getElem_mem hlt;have HK:Hid ((0:Int)≤(k:Int)):=h1;clear he;go_wp2;go_ret;exact ⟨(k:Int),rfl,⟨fun _=>HM.out,fun _=>HK.out⟩,HB.out⟩
   ·have q1:(x==l[k])=false:=by simp[he]
    have HN:Hid (∀j (h:j<l.length),j<k+1→l[j]≠x):=fun j h hj=>by
     by_cases e:j=k
     ·subst e;exact fun e2=>he e2.symm
     ·exact HH.out j h (by omega)
    clear he;go_wp2_with fail;go_roundw
    case rel=>exact ⟨k+1,by omega,by go_num,HN.out,HB.out⟩
    case measure=>simp[intOf];omega
  ·have HN:Hid (x ∉ l):=fun hm=>by
    obtain ⟨j,hj,e⟩:=List.getElem_of_mem hm;exact HH.out j hj (by omega) e
   go_wp2
   go_ret
   exact ⟨-1,rfl,⟨fun h=>absurd h (by decide),fun h=>absurd h HN.out⟩,HB.out⟩
theorem containsI_any (l:List Int) (x:Int) (A:zo) (c:Nat) (w:World) (hl:IntsR w A l) :
  Calls Tryz.prog 77 #[.slice A l.length c,.int .i64 x] w fun e w'=>e = .returned (.bool (decide (x∈l)))∧Below w.heap.size w w':=by
 have HL:=zh hl;clear hl
 go_enter Tryz.func77,Tryz.ntmps77
 go_wp2_with fail
 refine (indexI_any l x A c w HL.out).mono ?_;rintro e w2 ⟨r,rfl,hr,hb⟩;have HQ:Hid (decide (0≤r)=decide (x∈l)):=by show _=_;rw[decide_eq_decide];exact hr
 have HB:=zh hb;clear hr hb;go_wp2;go_ret;exact ⟨by rw[←HQ.out];rfl,HB.out⟩
def onceL (l:List Int):List Int:=l.foldl (fun a u=>if u∈a then a else a++[u]) []
theorem once_take {l:List Int} {k:Nat} (h:k<l.length):onceL (l.take (k+1))=if l[k]∈onceL (l.take k) then onceL (l.take k) else onceL (l.take k)++[l[k]]:=by
 unfold onceL;rw[List.take_add_one,zl h,Option.toList_some,List.foldl_append]
 rfl
theorem once_len (l:List Int):∀k,k≤l.length→(onceL (l.take k)).length≤k
 | 0,_=>by simp[onceL]
 | k+1,h=>by
  have:=once_len l k (by omega)
  rw[once_take h]
  split
  ·omega
  ·rw[List.length_append,List.length_singleton];omega
theorem known_any (s:List TyD) (t:Int) (A:zo) (c:Nat) (hv:zJ s=0) (hr:0≤t∧t<(s.length:Int)) (w:World) (hs:TysR w A s) :
  Calls Tryz.prog 76 #[.agg #[.slice A s.length c],.int .i64 t] w fun e w'=>e = .returned (.int .i64 0)∧Below w.heap.size w w':=by
 have hls:=zZ hv;have HS:=zh hs;have HV:=zh hv;have HB0:=zh (zD w (.cells #[.slice A s.length c] 27));have HX0:=zh (heap_alloc_new w (.cells #[.slice A s.length c] 27));have q0:¬ t<0:=by omega
 have q1:¬ (s.length:Int)≤t:=by omega
 clear hs hv
 go_enter Tryz.func76,Tryz.ntmps76
 go_wp2_with fail
 generalize w.alloc (.cells #[.slice A s.length c] 27)=W1 at *;refine (valid_any s A c W1 (HS.out.below HB0.out)).mono ?_;rintro e w1 ⟨rfl,hb1⟩;rw[HV.out];have HB1:=zh (zB HB0.out hb1);have x0:=zb (zF HX0.out hb1);clear hb1;go_wp2;go_ret;exact ⟨rfl,HB1.out⟩
theorem toD_le2 (x:TyD):(toD x).length≤x.mems.length+2:=by
 by_cases h8:x.kind=8
 ·rw[toD_tail8 h8];simp
 by_cases h7:x.kind=7∨x.kind=9
 ·rw[toD_tail1 h7];simp
 unfold toD usesD;rw[if_neg h8,if_neg h7];simp
theorem usesO_any (s:List TyD) (tn:Nat) (A:zo) (c:Nat) (hv:zJ s=0) (htn:tn<s.length) (x:TyD) (hx:s[tn]=x) (w:World) (hs:TysR w A s) :
  Calls Tryz.prog 47 #[.agg #[.slice A s.length c],.int .i64 (tn:Int)] w fun e w'=>∃v base,e = .returned (.tuple #[v,.int .i64 0])∧OwnI w' base v (onceL (toD x))∧w.heap.size≤base∧Below w.heap.size w w':=by
 have hls:=zZ hv;have HS:=zh hs;have HV:=zh hv;have HB0:=zh (zD w (.cells #[.slice A s.length c] 27));have HX0:=zh (heap_alloc_new w (.cells #[.slice A s.length c] 27));have HKR:Hid (1≤x.kind∧x.kind≤9):=by have:=yT (t:=(tn:Int)) hv (by omega);rwa [zP htn,hx] at this
 have HML:Hid (x.mems.length≤16):=mems_le hv (hx▸List.getElem_mem htn);clear hs hv
 go_enter Tryz.func47,Tryz.ntmps47
 go_wp2_with fail
 generalize w.alloc (.cells #[.slice A s.length c] 27)=W1 at *;refine (known_any s (tn:Int) A c HV.out (by omega) W1 (HS.out.below HB0.out)).mono ?_
 rintro e w1 ⟨rfl,hb1⟩;have HB1:=zh (zB HB0.out hb1);obtain ⟨b,o,As,cs,Am,cm,rfl,htr,t0,t1,t2,t3,t4,t5,t6,t7,t8,t9⟩:=(HS.out.below HB1.out).at10 htn;have x0:=zb (zF HX0.out hb1);have HTR:=zh htr;have h1:(0:Int)≤(tn:Int):=by omega
 have h2:(tn:Int)<(s.length:Int):=by omega
 clear hb1 htr;rw[hx] at HTR t0 t1 t2 t3 t4 t5 t6 t7 t8 t9;clear hx;go_wp2_with fail;refine (scUses_any x HKR.out.2 As cs Am cm w1 HTR.out).mono ?_;rintro e w2 ⟨v2,rfl,ho2,hb2⟩;have htl:(toD x).length≤18:=by have:=toD_le2 x;have:=HML.out;omega
 obtain ⟨B2,d2,rfl,hi2⟩:=OwnI.ints ho2 (by unfold Lim;omega)
 have HI2:=zh hi2;have HB2:=zh (zB HB1.out hb2);clear ho2 hi2 hb2 t0 t1 t2 t3 t4 t5 t6 t7 t8 t9 x0;have HOL:=zh (once_len (toD x));obtain ⟨U,hU⟩:∃U,U=toD x:=⟨_,rfl⟩;have HU:=zh hU;rw[←hU] at HI2 HOL htl;rw[←hU];clear hU;have HOT:=zh (fun (k:Nat) (h:k<U.length)=>once_take h)
 go_wp2
 go_loopw [23,7] (fun i v wr=>∃k:Nat,k≤U.length∧i = .int .i64 (k:Int)∧Hid (OwnI wr w2.heap.size v (onceL (U.take k))∧Below w2.heap.size w2 wr)) (fun i _ _=>U.length - (intOf i).toNat)
 case atStart=>exact ⟨0,by omega,rfl,OwnL.nil _ _,Below.refl _ _⟩
 case round =>
  obtain ⟨k,hk,rfl,hh⟩:=hrel;have HO:=zh hh.out.1;have HBR:=zh hh.out.2;have hol:=HOL.out k hk;clear hh
  by_cases hlt:k<U.length
  ·obtain ⟨b3,o3,rfl,i3⟩:=(HI2.out.below HBR.out).at1 hlt
   have j1:(0:Int)≤(k:Int):=by omega
   have j2:(k:Int)<(U.length:Int):=by omega
   have HT:=zh (HOT.out k hlt);obtain ⟨Av,cv,rfl,hiv⟩:=OwnI.ints HO.out (by unfold Lim;omega)
   have HIV:=zh hiv;clear hiv;generalize U[k]=u at *;generalize onceL (U.take k)=O at *;go_wp2_with fail;refine (containsI_any O u Av cv wr HIV.out).mono ?_;rintro e w5 ⟨rfl,hb5⟩;have HB5:=zh (zB HBR.out hb5);have HO5:=zh (HO.out.below hb5);clear hb5 i3
   by_cases hm:u∈O
   ·have q1:decide (u∈O)=true:=decide_eq_true hm
    have HT2:=zh (HT.out.trans (if_pos hm));clear hm;go_wp2;go_roundw
    case rel=>exact ⟨k+1,by omega,by go_num,by rw[HT2.out];exact HO5.out,HB5.out⟩
    case measure=>simp[intOf];omega
   ·have q1:decide (u∈O)=false:=decide_eq_false hm
    have HT2:=zh (HT.out.trans (if_neg hm));clear hm;have HO6:Hid (OwnL 3 1 encI (World.alloc w5 (.cells #[.int .i64 u] 3)) w2.heap.size _ _):=OwnL.alloc HO5.out _;have HR6:Hid ((World.alloc w5 (.cells #[.int .i64 u] 3)).rangeAt w5.heap.size 0 [.int .i64 u]):=zT w5 [.int .i64 u] 3
    have HB6:Hid (Below w2.heap.size w2 (World.alloc w5 (.cells #[.int .i64 u] 3))∧w2.heap.size≤(World.alloc w5 (.cells #[.int .i64 u] 3)).heap.size):=⟨Below.alloc HB5.out (Below.size HB5.out) _,by have:=Below.size HB5.out;simp;omega⟩
    go_wp2_with (at_builtin;refine zR yF _ rfl (.tmp 31) (.tmp 33) rfl w2.heap.size _ _ _ rfl HO6.out w5.heap.size 0 1 1 [.int .i64 u] rfl rfl HR6.out (by simp[Value.oneCell']) (by omega) (by omega) HB6.out.2 ?_;intro v8 w8 ho8 hg8)
    go_roundw
    case rel=>exact ⟨k+1,by omega,by go_num,by rw[HT2.out];exact OwnL.snoc (x:=u) ho8,HB6.out.1.grown hg8 HB6.out.2 HO6.out.lt⟩
    case measure=>simp[intOf];omega
  ·obtain rfl:k=U.length:=by omega
   rw[List.take_length] at HO hol;obtain ⟨Av,cv,rfl,hiv⟩:=OwnI.ints HO.out (by unfold Lim;omega)
   have HBF:=zh (zB HB2.out HBR.out);clear hiv;go_wp2;go_ret2;rw[←HU.out];exact ⟨_,w2.heap.size,rfl,HO.out,HB2.out.size,HBF.out⟩
def useS (a:ByteArray) (l:List Int):ByteArray×Bool:=l.foldl (fun p u=>((if p.2 then p.1++⟨#[32,45,62]⟩ else p.1)++(⟨#[32]⟩++decB u),false)) (a,true)
theorem useS_succ {a:ByteArray} {l:List Int} {k:Nat} (h:k<l.length):useS a (l.take (k+1))=((if (useS a (l.take k)).2 then (useS a (l.take k)).1++⟨#[32,45,62]⟩ else (useS a (l.take k)).1)++(⟨#[32]⟩++decB l[k]),false):=by
 unfold useS;rw[List.take_add_one,zl h,Option.toList_some,List.foldl_append]
 rfl
theorem useS_two {a:ByteArray} {l:List Int}:∀k,k≤l.length→(useS a (l.take k)).2=decide (k=0)
 | 0,_=>rfl
 | k+1,h=>by rw[useS_succ (by omega)];simp
theorem useS_le {a:ByteArray} {l:List Int} (hl:∀u∈l,In64 u):∀k,k≤l.length→(useS a (l.take k)).1.size≤a.size+k * 25
 | 0,_=>by simp[useS]
 | k+1,h=>by
  have ih:=useS_le (a:=a) hl k (by omega)
  have hd:=yE (hl _ (List.getElem_mem (show k<l.length by omega)))
  rw[useS_succ (by omega)]
  simp only[ByteArray.size_append];have h1:(ByteArray.mk #[32]).size=1:=rfl;have h2:(ByteArray.mk #[32,45,62]).size=3:=rfl
  split
  ·rw[ByteArray.size_append];omega
  ·omega
def lineA (T:ByteArray) (t:Nat) (x:TyD):ByteArray :=
 (useS (if x.name=⟨#[]⟩ then T++(decB (t:Int)++⟨#[58,32]⟩++wordK x.kind) else T++(decB (t:Int)++⟨#[58,32]⟩++wordK x.kind)++(⟨#[32]⟩++x.name)) (onceL (toD x))).1++⟨#[10]⟩
def outB (s:List TyD) (k:Nat):ByteArray:=(List.range k).foldl (fun T t=>lineA T t (tyAt s (t:Int))) ⟨#[]⟩
theorem outB_succ (s:List TyD) (k:Nat):outB s (k+1)=lineA (outB s k) k (tyAt s (k:Int)):=by
 unfold outB;rw[List.range_succ,List.foldl_append]
 rfl
theorem once_mem {l:List Int} {u:Int} (h:u∈onceL l):u∈l:=by
 have key:∀ (l a:List Int),u∈l.foldl (fun a u=>if u∈a then a else a++[u]) a→u∈a∨u∈l:=by
  intro l
  induction l with
  | nil=>intro a h;exact .inl h
  | cons x r ih =>
   intro a h
   rcases ih _ h with k|k
   ·dsimp only at k
    split at k
    ·exact .inl k
    ·rcases List.mem_append.1 k with k|k
     ·exact .inl k
     ·exact .inr (by rw[List.mem_singleton.1 k];exact List.mem_cons_self)
   ·exact .inr (List.mem_cons_of_mem _ k)
 rcases key l [] h with k|k
 ·cases k
 ·exact k
theorem wordK_le {k:Int} (h:1≤k∧k≤9):(wordK k).size≤8:=by
 have hk:k=1∨k=2∨k=3∨k=4∨k=5∨k=6∨k=7∨k=8∨k=9:=by omega
 rcases hk with rfl|rfl|rfl|rfl|rfl|rfl|rfl|rfl|rfl <;> decide
theorem name_all {s:List TyD} {t:Int} (hv:zJ s=0) (hr:0≤t∧t<(s.length:Int)):(tyAt s t).name.size≤24:=by
 cases hn:zL (tyAt s t).kind with
 | true=>exact name_le hv hr hn
 | false =>
  have h:=(valid_tys hv (tyAt_mem hr)).1;unfold formD at h;simp only[Bool.and_eq_true,decide_eq_true_eq] at h;obtain ⟨⟨⟨_,h3⟩,_⟩,_⟩:=h;rw[h3];unfold zL at hn;simp only[Bool.or_eq_false_iff,decide_eq_false_iff_not] at hn;unfold zV
  repeat' split
  all_goals first|(show (ByteArray.mk #[]).size≤24;decide)|omega
theorem uses_in {s:List TyD} (hv:zJ s=0) {x:TyD} (hx:x∈s):(∀u∈onceL (toD x),In64 u)∧(onceL (toD x)).length≤18:=by
 have hls:=zZ hv;refine ⟨fun u hu=>?_,?_⟩
 ·have:=(valid_tys hv hx).2 u (once_mem hu)
  unfold In64;omega
 ·have h1:=once_len (toD x) (toD x).length (Nat.le_refl _)
  rw[List.take_length] at h1;have:=toD_le2 x;have:=mems_le hv hx
  omega
theorem lineA_le {s:List TyD} (hv:zJ s=0) {k:Nat} (hk:k<s.length) (T:ByteArray):(lineA T k (tyAt s (k:Int))).size≤T.size+1000:=by
 have hls:=zZ hv;have h1:=name_all (t:=(k:Int)) hv (by omega)
 have h2:=wordK_le (yT (t:=(k:Int)) hv (by omega))
 have h3:=yE (n:=(k:Int)) (by unfold In64;omega)
 have hm:tyAt s (k:Int)∈s:=tyAt_mem (by omega)
 have h4:=uses_in hv hm;unfold lineA;rw[ByteArray.size_append];have h5:=useS_le (a:=if (tyAt s (k:Int)).name=⟨#[]⟩ then T++(decB (k:Int)++⟨#[58,32]⟩++wordK (tyAt s (k:Int)).kind) else T++(decB (k:Int)++⟨#[58,32]⟩++wordK (tyAt s (k:Int)).kind)++(⟨#[32]⟩++(tyAt s (k:Int)).name)) h4.1 _ (Nat.le_refl _)
 rw[List.take_length] at h5;have h6:(ByteArray.mk #[32]).size=1:=rfl;have h7:(ByteArray.mk #[58,32]).size=2:=rfl;have h8:(ByteArray.mk #[10]).size=1:=rfl;have h9:(if (tyAt s (k:Int)).name=⟨#[]⟩ then T++(decB (k:Int)++⟨#[58,32]⟩++wordK (tyAt s (k:Int)).kind) else T++(decB (k:Int)++⟨#[58,32]⟩++wordK (tyAt s (k:Int)).kind)++(⟨#[32]⟩++(tyAt s (k:Int)).name)).size≤T.size+56:=by
  split <;> simp only[ByteArray.size_append] <;> omega
 have:=h4.2
 omega
theorem outB_le {s:List TyD} (hv:zJ s=0):∀k,k≤s.length→(outB s k).size≤k * 1000
 | 0,_=>Nat.le_of_eq rfl
 | k+1,h=>by
  have:=outB_le hv k (by omega)
  have:=lineA_le hv (show k<s.length by omega) (outB s k)
  rw[outB_succ];omega
def outE (s:List TyD):ByteArray×Int:=if zJ s=0 then (outB s s.length,0) else (⟨#[]⟩,zJ s)
theorem isEmpty_iff (s:ByteArray):s.toList.isEmpty=true↔s=⟨#[]⟩:=by
 have h:=zS s ⟨#[]⟩;rw[show (⟨#[]⟩:ByteArray).toList=[] by decide +kernel] at h
 have e:(s.toList==[])=s.toList.isEmpty:=by cases s.toList <;> rfl
 rw[e] at h;rw[h,decide_eq_true_iff]
theorem outline_any (s:List TyD) (A:zo) (c:Nat) (w:World) (hs:TysR w A s) (htab:Tab w) :
  Calls Tryz.prog 17 #[.agg #[.slice A s.length c]] w fun e w'=>e = .returned (.tuple #[.string (outE s).1,.int .i64 (outE s).2])∧Below w.heap.size w w':=by
 have hln:=hs.1.lt (by omega)
 have HS:=zh hs;have HTB:=zh htab;have HB0:=zh (zD w (.cells #[.slice A s.length c] 27));have HX0:=zh (heap_alloc_new w (.cells #[.slice A s.length c] 27));clear hs htab
 go_enter Tryz.func17,Tryz.ntmps17
 go_wp2_with fail
 generalize w.alloc (.cells #[.slice A s.length c] 27)=W1 at *;refine (valid_any s A c W1 (HS.out.below HB0.out)).mono ?_;rintro e w1 ⟨rfl,hb1⟩;have HB1:=zh (zB HB0.out hb1);have HX1:=zh (zF HX0.out hb1);clear hb1
 by_cases hv:zJ s=0
 case neg =>
  have q1:(zJ s != 0)=true:=by simp[hv]
  have HT:Hid (outE s=(⟨#[]⟩,zJ s)):=by show _=_;unfold outE;rw[if_neg hv]
  clear hv;go_wp2;go_ret2;exact ⟨by rw[HT.out];rfl,HB1.out⟩
 have hls:=zZ hv;have HV:=zh hv;have HOE:Hid (outE s=(outB s s.length,0)):=by show _=_;unfold outE;rw[if_pos hv]
 rw[hv];clear hv;have HI0:=zh (BldF.new w1 (Nat.le_refl _));have HBI:=zh (zD w1 (.cells #[.pointer none,.slice none 0 0] 84));have HX2:=zh (tmp_al HX1.out (.cells #[.pointer none,.slice none 0 0] 84));go_upto_region 5 with fail
 generalize w1.alloc (.cells #[.pointer none,.slice none 0 0] 84)=W2 at *;have y0:=zb HX2.out;go_wp2_with fail
 go_loopw [20] (fun i wr=>∃k:Nat,k≤s.length∧i = .int .i64 (k:Int)∧Hid (BldF wr w1.heap.size w1.heap.size (outB s k)∧Below w1.heap.size w1 wr)) (fun i _=>s.length - (intOf i).toNat)
 case atStart=>exact ⟨0,by omega,rfl,HI0.out,HBI.out⟩
 case round =>
  obtain ⟨k,hk,rfl,hh⟩:=hrel;obtain ⟨wk,rfl⟩:∃wk:World,wk=wr:=⟨_,rfl⟩;have HBL:=zh hh.out.1;have HBK:=zh hh.out.2;have HBK0:=zh (zB HB1.out HBK.out);have hpz:=outB_le HV.out k hk;clear hh y0
  by_cases hlt:k<s.length
  ·obtain ⟨b,o,As,cs,Am,cm,rfl,htr,t0,t1,t2,t3,t4,t5,t6,t7,t8,t9⟩:=(HS.out.below HBK0.out).at10 hlt
   obtain ⟨x,hx⟩:∃x,s[k]=x:=⟨_,rfl⟩;have HXE:=zh hx;have HXE2:Hid (s[k]=x):=hx;have HTA:Hid (tyAt s (k:Int)=x):=(zP hlt).trans hx;rw[hx] at htr t0 t1 t2 t3 t4 t5 t6 t7 t8 t9;have HTR:=zh htr;have h1:(0:Int)≤(k:Int):=by omega
   have h2:(k:Int)<(s.length:Int):=by omega
   have HMH:Hid (x∈s):=hx▸List.getElem_mem hlt;have HNX:Hid (outB s (k+1)=lineA (outB s k) k x):=by show _=_;rw[outB_succ,HTA.out]
   have HKW:Hid (w1.heap.size<wk.heap.size):=HBL.out.lt;have HKR:Hid (1≤x.kind∧x.kind≤9):=by have:=yT (t:=(k:Int)) HV.out (by omega);rwa [HTA.out] at this
   have hnl:x.name.size≤24:=by have:=name_all (t:=(k:Int)) HV.out (by omega);rwa [HTA.out] at this
   have HUI:=zh (uses_in HV.out HMH.out);generalize outB s k=T at *;clear htr hx;have HBX:=zh (zD wk (x.box As cs Am cm));have HXX:Hid (TBox (wk.alloc (x.box As cs Am cm)) wk.heap.size x As cs Am cm):=heap_alloc_new wk (x.box As cs Am cm);have HBLX:=zh (HBL.out.below HBX.out);have HBW:=zh (zB HBK.out HBX.out);go_upto_region 8 with fail
   clear t0 t1 t2 t3 t4 t5 t6 t7 t8 t9;generalize wk.alloc (x.box As cs Am cm)=W6 at *;have HBW0:=zh (zB HB1.out HBW.out);have HX6:=zh ((HBW.out.block _ (zg.1 HX1.out).1).trans HX1.out);have HK0:Hid (W6.cell? ⟨wk.heap.size,0,none⟩=some (.int .i64 x.kind)):=HXX.out.cell 0;have hzk:=yE (n:=(k:Int)) (by unfold In64;omega)
   have hzw:=wordK_le HKR.out;have c1:¬ 9223372036854775807<(decB (k:Int)).size+2:=by omega
   have c2:¬ 9223372036854775807<(decB (k:Int)).size+2+(wordK x.kind).size:=by omega
   have c3:¬ 9223372036854775807<1+x.name.size:=by omega
   obtain ⟨D,hD⟩:∃D,D=decB (k:Int)++⟨#[58,32]⟩++wordK x.kind:=⟨_,rfl⟩;have HDE:=zh hD;have hds:D.size≤31:=by rw[hD];simp only[ByteArray.size_append,show (ByteArray.mk #[58,32]).size=2 from rfl];omega
   clear hD;refine wp_region_held_drew (S:=(fun w'=>w'.cell? ⟨wk.heap.size,0,none⟩=some (.int .i64 x.kind))) (by kernel_rfl) ?_ (fun zH_=>?_)
   ·(try dsimp only);exact HK0.out
   refine tL 0 ?_;refine tL 3 ?_;refine tL 4 ?_;refine tR 1 (fun K hK=>?_)
   go_simp
   (refine (itoa_any (k:Int) (by unfold In64;omega) _ (HTB.out.below (zB HBW0.out (zC (Below.refl _ _) 1)))).mono ?_;rintro e w7 ⟨rfl,hb7⟩;have HB7:=zh (zB (zC (Below.refl W6.heap.size W6) 1) hb7);clear hb7)
   refine hK.out _ _ ?_ (fun zH_=>?_)
   ·(try dsimp only);exact zA HB7.out HK0.out
   clear hK K;refine tL 2 ?_;refine tR 5 (fun K hK=>?_)
   go_simp
   (refine (wordK_any x.kind HKR.out _).mono ?_;rintro e w8 ⟨rfl,hb8⟩;have HB8:=zh (zB HB7.out hb8);clear hb8)
   refine hK.out _ _ ?_ (fun zH_=>?_)
   ·(try dsimp only);exact zA HB8.out HK0.out
   clear hK K;try simp only[ps]
   refine tL 6 ?_;refine tR 7 (fun K hK=>?_)
   go_simp
   (rw[←HDE.out];have h1:BldF w8 w1.heap.size w1.heap.size T:=HBLX.out.below HB8.out;have h2:w1.heap.size≤w8.heap.size:=(zB HBW.out HB8.out).size;refine (BldF.write h1 D (by omega) h2).mono ?_;rintro e w9 ⟨rfl,hbl9,hb9,ho9⟩;have HBL9:=zh hbl9;have HB9:=zh ((zB HBW.out HB8.out).trans hb9);have HX9:Hid (TBox w9 wk.heap.size x As cs Am cm):=ho9.blk (HXX.out.below HB8.out) (by have:=HKW.out;omega) (by decide);clear hbl9 hb9 ho9 h1 h2)
   refine hK.out _ _ ?_ (fun zH_=>?_)
   ·(try dsimp only);exact HX9.out.cell 0
   clear hK K;refine wpAnyH_done (by kernel_rfl) ?_ _
   obtain ⟨u0,u1,u2,u3,u4,u5,u6,u7,u8,u9⟩:=zI HX9.out;obtain ⟨T2,hT2⟩:∃T2,T2=(if x.name=⟨#[]⟩ then T++D else T++D++(⟨#[32]⟩++x.name)):=⟨_,rfl⟩
   have HT2:=zh hT2;have hz2:T2.size≤T.size+56:=by
    rw[hT2];have:=(show (ByteArray.mk #[32]).size=1 from rfl)
    split <;> simp only[ByteArray.size_append] <;> omega
   clear hT2;obtain ⟨NE,hNE⟩:∃NE,x.name.toList.isEmpty=NE:=⟨_,rfl⟩;have HNE:=zh hNE
   go_upto_if 35 with fail
   clear hNE
   go_cut [] (fun wx=>Hid (BldF wx w1.heap.size w1.heap.size T2∧Below w1.heap.size w1 wx))
   case first =>
    cases NE with
    | true =>
     have hne:=(isEmpty_iff x.name).1 HNE.out;have HT3:=zh (HT2.out.trans (if_pos hne));clear hne HNE;go_wp2;go_meet;exact ⟨by rw[HT3.out];exact HBL9.out,HB9.out⟩
    | false =>
     have hne:¬ x.name=⟨#[]⟩:=fun h=>by have:=(isEmpty_iff x.name).2 h;rw[HNE.out] at this;cases this
     have HT3:=zh (HT2.out.trans (if_neg hne));clear hne;go_wp2_with fail;obtain ⟨D2,hD2⟩:∃D2,D2=⟨#[32]⟩++x.name:=⟨_,rfl⟩;have hz3:D2.size≤25:=by rw[hD2,ByteArray.size_append];have:=(show (ByteArray.mk #[32]).size=1 from rfl);omega
     have hz4:(T++D).size≤T.size+31:=by rw[ByteArray.size_append];omega
     rw[←hD2] at HT3;rw[←hD2];have h1:BldF w9 w1.heap.size w1.heap.size (T++D):=HBL9.out;have h2:w1.heap.size≤w9.heap.size:=HB9.out.size;refine (BldF.write h1 D2 (by omega) h2).mono ?_
     rintro e w10 ⟨rfl,hbl,hb,_⟩;have HBLa:=zh hbl;have HBa:=zh (HB9.out.trans hb);clear hbl hb h1 h2 hD2 u0 u1 u2 u3 u4 u5 u6 u7 u8 u9;go_wp2;go_meet;exact ⟨by rw[HT3.out];exact HBLa.out,HBa.out⟩
   case rest =>
   have HBL10:=zh hcut.out.1;have HB10:=zh hcut.out.2;clear hcut u0 u1 u2 u3 u4 u5 u6 u7 u8 u9;have HX10:=zh ((HB10.out.block _ (zg.1 HX1.out).1).trans HX1.out);have x0:=zb HX10.out;have HBW10:=zh (zB HB1.out HB10.out);go_wp2_with fail;refine (usesO_any s k (some ⟨b,o,none⟩) c HV.out hlt x HXE2.out wc (HS.out.below HBW10.out)).mono ?_;rintro e w11 ⟨v11,base,rfl,ho11,hbs,hb11⟩
   have HBL11:=zh (HBL10.out.below hb11);have HB11:=zh (zB HB10.out hb11);have HO11:=zh ho11;have HBS:Hid (w1.heap.size<base):=Nat.lt_of_lt_of_le HBL10.out.lt hbs;have HUI2:=zh HUI.out.2;obtain ⟨L,hL⟩:∃L,L=onceL (toD x):=⟨_,rfl⟩;have HL:=zh hL;rw[←hL] at HO11 HUI2;rw[←hL] at HUI;obtain ⟨Av,cv,rfl,_⟩:=OwnI.ints HO11.out (by have:=HUI2.out;unfold Lim;omega)
   clear ho11 hb11 hbs hL x0;have HUL:=zh (fun j (hj:j≤L.length)=>useS_le (a:=T2) HUI.out.1 j hj)
   go_wp2_with fail
   go_loopw [48] (fun i wr=>∃j:Nat,j≤L.length∧i = .int .i64 (j:Int)∧Hid (BldF wr w1.heap.size w1.heap.size (useS T2 (L.take j)).1∧Below w1.heap.size w1 wr∧OwnI wr base (.slice Av L.length cv) L)) (fun i _=>L.length - (intOf i).toNat)
   case atStart=>exact ⟨0,Nat.zero_le _,rfl,HBL11.out,HB11.out,HO11.out⟩
   case round =>
    obtain ⟨j,hj,rfl,hh⟩:=hrel;have HBLj:=zh hh.out.1;have HBj:=zh hh.out.2.1;have HOj:=zh hh.out.2.2;have huz:=HUL.out j hj;have hl18:=HUI2.out;clear hh
    by_cases hlj:j<L.length
    ·obtain ⟨A4,c4,e4,hi4⟩:=OwnI.ints HOj.out (by have:=HUI2.out;unfold Lim;omega)
     injection e4 with e4 _ e5
     subst e4;subst e5;obtain ⟨b4,o4,rfl,i4⟩:=hi4.at1 hlj;have HUU:=zh (useS_succ (a:=T2) hlj);have HU2:=zh (useS_two (a:=T2) (l:=L) j hj);have HIN:=zh (HUI.out.1 _ (List.getElem_mem hlj));generalize L[j]=u at *;have hzu:=yE HIN.out;have HBWj:=zh (zB HB1.out HBj.out);have j1:(0:Int)≤(j:Int):=by omega
     have j2:(j:Int)<(L.length:Int):=by omega
     have c4:¬ 9223372036854775807<1+(decB u).size:=by omega
     obtain ⟨Du,hDu⟩:∃Du,Du=⟨#[32]⟩++decB u:=⟨_,rfl⟩;have HDu:=zh hDu;have hzd:Du.size≤22:=by rw[hDu,ByteArray.size_append];have:=(show (ByteArray.mk #[32]).size=1 from rfl);omega
     rw[←hDu] at HUU;clear hDu;clear hi4;generalize (useS T2 (L.take j)).2=ub at *;generalize (useS T2 (L.take j)).1=U at *
     by_cases hj0:j=0
     ·have q1:((j:Int)==0)=true:=by simp[hj0]
      have HUB:Hid (ub=true):=by show _=_;rw[HU2.out];exact decide_eq_true hj0
      have hj0':=zh hj0;clear hj0;go_wp2_with fail;have h1:BldF wr w1.heap.size w1.heap.size U:=HBLj.out;have h2:w1.heap.size≤wr.heap.size:=HBj.out.size;refine (BldF.write h1 ⟨#[32,45,62]⟩ (by have:=(show (ByteArray.mk #[32,45,62]).size=3 from rfl);omega) h2).mono ?_
      rintro e wa ⟨rfl,hbl,hb,ho⟩;have HBLa:=zh hbl;have HBa:=zh (HBj.out.trans hb);have HOa:=zh (OwnI.oth HOj.out ho HBS.out);have hza:(U++⟨#[32,45,62]⟩).size≤U.size+3:=by rw[ByteArray.size_append];exact Nat.le_refl _
      clear hbl hb ho h1 h2 i4;go_wp2_with fail;refine (itoa_any u HIN.out wa (HTB.out.below (zB HB1.out HBa.out))).mono ?_;rintro e wb ⟨rfl,hbb⟩;have h1:BldF wb w1.heap.size w1.heap.size (U++⟨#[32,45,62]⟩):=HBLa.out.below hbb;have h2:w1.heap.size≤wb.heap.size:=(zB HBa.out hbb).size;have HBb:=zh (zB HBa.out hbb);have HOb:=zh (HOa.out.below hbb);have h1':=zh h1;have h2':=zh h2;clear hbb h1 h2
      go_wp2_with fail
      rw[←HDu.out];refine (BldF.write h1'.out Du (by omega) h2'.out).mono ?_
      rintro e wd ⟨rfl,hbl,hb,ho⟩;have HBLd:=zh hbl;have HBd:=zh (HBb.out.trans hb);have HOd:=zh (OwnI.oth HOb.out ho HBS.out);clear hbl hb ho;go_wp2;go_roundw
      case rel=>exact ⟨j+1,by omega,by go_num,by rw[HUU.out,HUB.out];exact HBLd.out,HBd.out,HOd.out⟩
      case measure=>simp[intOf];omega
     ·have q1:((j:Int)==0)=false:=by simp;omega
      have HUB:Hid (ub=false):=by show _=_;rw[HU2.out];exact decide_eq_false hj0
      clear hj0;go_wp2_with fail;refine (itoa_any u HIN.out wr (HTB.out.below (zB HB1.out HBj.out))).mono ?_;rintro e wb ⟨rfl,hbb⟩;have h1:BldF wb w1.heap.size w1.heap.size U:=HBLj.out.below hbb;have h2:w1.heap.size≤wb.heap.size:=(zB HBj.out hbb).size;have HBb:=zh (zB HBj.out hbb);have HOb:=zh (HOj.out.below hbb);have h1':=zh h1;have h2':=zh h2;clear hbb h1 h2 i4;go_wp2_with fail;rw[←HDu.out]
      refine (BldF.write h1'.out Du (by omega) h2'.out).mono ?_
      rintro e wd ⟨rfl,hbl,hb,ho⟩;have HBLd:=zh hbl;have HBd:=zh (HBb.out.trans hb);have HOd:=zh (OwnI.oth HOb.out ho HBS.out);clear hbl hb ho;go_wp2;go_roundw
      case rel=>exact ⟨j+1,by omega,by go_num,by rw[HUU.out,HUB.out];exact HBLd.out,HBd.out,HOd.out⟩
      case measure=>simp[intOf];omega
    ·obtain rfl:j=L.length:=by omega
     rw[List.take_length] at HBLj huz;go_wp2_with fail;have h1:BldF wr w1.heap.size w1.heap.size (useS T2 L).1:=HBLj.out;have h2:w1.heap.size≤wr.heap.size:=HBj.out.size;refine (BldF.write h1 ⟨#[10]⟩ (by have:=(show (ByteArray.mk #[10]).size=1 from rfl);omega) h2).mono ?_
     rintro e wd ⟨rfl,hbl,hb,_⟩;have HBLd:=zh hbl;have HBd:=zh (HBj.out.trans hb);have HFN:Hid (lineA T k x=(useS T2 L).1++⟨#[10]⟩):=by show _=_;unfold lineA;rw[←HDE.out,←HT2.out,HL.out]
     clear hbl hb h1 h2;go_wp2;go_roundw
     case rel=>exact ⟨k+1,by omega,by go_num,by rw[HNX.out,HFN.out];exact HBLd.out,HBd.out⟩
     case measure=>simp[intOf];omega
  ·obtain rfl:k=s.length:=by omega
   generalize outB s s.length=T at *;go_wp2_with fail;refine (HBL.out.str HBK.out.size).mono ?_;rintro e w7 ⟨rfl,hb7⟩;have HBF:=zh (HBK.out.trans hb7);clear hb7;go_wp2;go_ret2;exact ⟨by rw[HOE.out];rfl,zB HB1.out HBF.out⟩
theorem rKindW_any (k:Int) (h:1≤k∧k≤9) (w:World):Calls Tryz.prog 50 #[.int .i64 k] w fun e w'=>e = .returned (.string (wordK k))∧Below w.heap.size w w':=by
 have HB:=zh (fun o:Obj=>zD w o)
 have hk:k=1∨k=2∨k=3∨k=4∨k=5∨k=6∨k=7∨k=8∨k=9:=by omega
 clear h
 rcases hk with rfl|rfl|rfl|rfl|rfl|rfl|rfl|rfl|rfl <;>
 ·go_enter Tryz.func50,Tryz.ntmps50
  go_wp2
  go_ret
  exact ⟨rfl,HB.out _⟩
theorem check7_any (s:List TyD) (t:Int) (A:zo) (c:Nat) (hv:zJ s=0) (hr:0≤t∧t<(s.length:Int)) (w:World) (hs:TysR w A s) :
  Calls Tryz.prog 81 #[.agg #[.slice A s.length c],.int .i64 t] w fun e w'=>e = .returned (.int .i64 0)∧Below w.heap.size w w':=by
 have hls:=zZ hv;have HS:=zh hs;have HV:=zh hv;have HB0:=zh (zD w (.cells #[.slice A s.length c] 27));have HX0:=zh (heap_alloc_new w (.cells #[.slice A s.length c] 27));have q0:¬ t<0:=by omega
 have q1:¬ (s.length:Int)≤t:=by omega
 clear hs hv
 go_enter Tryz.func81,Tryz.ntmps81
 go_wp2_with fail
 generalize w.alloc (.cells #[.slice A s.length c] 27)=W1 at *;refine (rValid_any s A c W1 (HS.out.below HB0.out)).mono ?_;rintro e w1 ⟨rfl,hb1⟩;rw[HV.out];have HB1:=zh (zB HB0.out hb1);have x0:=zb (zF HX0.out hb1);clear hb1;go_wp2;go_ret;exact ⟨rfl,HB1.out⟩
theorem rUsesO_any (s:List TyD) (tn:Nat) (A:zo) (c:Nat) (hv:zJ s=0) (htn:tn<s.length) (x:TyD) (hx:s[tn]=x) (w:World) (hs:TysR w A s) :
  Calls Tryz.prog 51 #[.agg #[.slice A s.length c],.int .i64 (tn:Int)] w fun e w'=>∃v base,e = .returned (.tuple #[v,.int .i64 0])∧OwnI w' base v (onceL (toD x))∧w.heap.size≤base∧Below w.heap.size w w':=by
 have hls:=zZ hv;have HS:=zh hs;have HV:=zh hv;have HB0:=zh (zD w (.cells #[.slice A s.length c] 27));have HX0:=zh (heap_alloc_new w (.cells #[.slice A s.length c] 27));have HML:Hid (x.mems.length≤16):=mems_le hv (hx▸List.getElem_mem htn);clear hs hv
 go_enter Tryz.func51,Tryz.ntmps51
 go_wp2_with fail
 generalize w.alloc (.cells #[.slice A s.length c] 27)=W1 at *;refine (check7_any s (tn:Int) A c HV.out (by omega) W1 (HS.out.below HB0.out)).mono ?_
 rintro e w1 ⟨rfl,hb1⟩;have HB1:=zh (zB HB0.out hb1);obtain ⟨b,o,As,cs,Am,cm,rfl,htr,t0,t1,t2,t3,t4,t5,t6,t7,t8,t9⟩:=(HS.out.below HB1.out).at10 htn;have x0:=zb (zF HX0.out hb1);have HTR:=zh htr;have h1:(0:Int)≤(tn:Int):=by omega
 have h2:(tn:Int)<(s.length:Int):=by omega
 clear hb1 htr;rw[hx] at HTR t0 t1 t2 t3 t4 t5 t6 t7 t8 t9;clear hx;go_wp2_with fail;refine (rUses7_any x As cs Am cm w1 HTR.out).mono ?_;rintro e w2 ⟨v2,rfl,ho2,hb2⟩;have htl:(toD x).length≤18:=by have:=toD_le2 x;have:=HML.out;omega
 obtain ⟨B2,d2,rfl,hi2⟩:=OwnI.ints ho2 (by unfold Lim;omega)
 have HI2:=zh hi2;have HB2:=zh (zB HB1.out hb2);clear ho2 hi2 hb2 t0 t1 t2 t3 t4 t5 t6 t7 t8 t9 x0;have HOL:=zh (once_len (toD x));obtain ⟨U,hU⟩:∃U,U=toD x:=⟨_,rfl⟩;have HU:=zh hU;rw[←hU] at HI2 HOL htl;rw[←hU];clear hU;have HOT:=zh (fun (k:Nat) (h:k<U.length)=>once_take h)
 go_wp2
 go_loopw [8,9] (fun v i wr=>∃k:Nat,k≤U.length∧i = .int .i64 (k:Int)∧Hid (OwnI wr w2.heap.size v (onceL (U.take k))∧Below w2.heap.size w2 wr)) (fun _ i _=>U.length - (intOf i).toNat)
 case atStart=>exact ⟨0,by omega,rfl,OwnL.nil _ _,Below.refl _ _⟩
 case round =>
  obtain ⟨k,hk,rfl,hh⟩:=hrel;have HO:=zh hh.out.1;have HBR:=zh hh.out.2;have hol:=HOL.out k hk;clear hh
  by_cases hlt:k<U.length
  ·obtain ⟨b3,o3,rfl,i3⟩:=(HI2.out.below HBR.out).at1 hlt
   have j1:(0:Int)≤(k:Int):=by omega
   have j2:(k:Int)<(U.length:Int):=by omega
   have HT:=zh (HOT.out k hlt);obtain ⟨Av,cv,rfl,hiv⟩:=OwnI.ints HO.out (by unfold Lim;omega)
   have HIV:=zh hiv;clear hiv;generalize U[k]=u at *;generalize onceL (U.take k)=O at *;go_wp2_with fail;refine (has_any O u Av cv wr HIV.out).mono ?_;rintro e w5 ⟨rfl,rfl⟩
   by_cases hm:u∈O
   ·have q1:memD u O=true:=memD_iff.2 hm
    have HT2:=zh (HT.out.trans (if_pos hm));clear hm;go_wp2;go_roundw
    case rel=>exact ⟨k+1,by omega,by go_num,by rw[HT2.out];exact HO.out,HBR.out⟩
    case measure=>simp[intOf];omega
   ·have q1:memD u O=false:=by
     cases h:memD u O with
     | false=>rfl
     | true=>exact absurd (memD_iff.1 h) hm
    have HT2:=zh (HT.out.trans (if_neg hm));clear hm;obtain ⟨wk,rfl⟩:∃wk:World,wk=wr:=⟨_,rfl⟩;have HO6:Hid (OwnL 3 1 encI (World.alloc wk (.cells #[.int .i64 u] 3)) w2.heap.size _ _):=OwnL.alloc HO.out _;have HR6:Hid ((World.alloc wk (.cells #[.int .i64 u] 3)).rangeAt wk.heap.size 0 [.int .i64 u]):=zT wk [.int .i64 u] 3
    have HB6:Hid (Below w2.heap.size w2 (World.alloc wk (.cells #[.int .i64 u] 3))∧w2.heap.size≤(World.alloc wk (.cells #[.int .i64 u] 3)).heap.size):=⟨Below.alloc HBR.out (Below.size HBR.out) _,by have:=Below.size HBR.out;simp;omega⟩
    go_wp2_with (at_builtin;refine zR yF _ rfl (.tmp 35) (.tmp 40) rfl w2.heap.size _ _ _ rfl HO6.out wk.heap.size 0 1 1 [.int .i64 u] rfl rfl HR6.out (by simp[Value.oneCell']) (by omega) (by omega) HB6.out.2 ?_;intro v8 w8 ho8 hg8)
    go_roundw
    case rel=>exact ⟨k+1,by omega,by go_num,by rw[HT2.out];exact OwnL.snoc (x:=u) ho8,HB6.out.1.grown hg8 HB6.out.2 HO6.out.lt⟩
    case measure=>simp[intOf];omega
  ·obtain rfl:k=U.length:=by omega
   rw[List.take_length] at HO hol;obtain ⟨Av,cv,rfl,hiv⟩:=OwnI.ints HO.out (by unfold Lim;omega)
   have HBF:=zh (zB HB2.out HBR.out);clear hiv;go_wp2;go_ret2;rw[←HU.out];exact ⟨_,w2.heap.size,rfl,HO.out,HB2.out.size,HBF.out⟩
def arrR (b:ByteArray) (l:List Int):ByteArray:=l.foldl (fun b u=>b++⟨#[32]⟩++decB u) b
theorem arrR_snoc (b:ByteArray) {l:List Int} {k:Nat} (h:k<l.length):arrR b (l.take (k+1))=arrR b (l.take k)++⟨#[32]⟩++decB l[k]:=by
 unfold arrR;rw[List.take_add_one,zl h,Option.toList_some,List.foldl_append];rfl
theorem arrR_le {b:ByteArray} {l:List Int} (hl:∀u∈l,In64 u):∀k,k≤l.length→(arrR b (l.take k)).size≤b.size+k * 22
 | 0,_=>by simp[arrR]
 | k+1,h=>by
  have ih:=arrR_le (b:=b) hl k (by omega)
  have hd:=yE (hl _ (List.getElem_mem (show k<l.length by omega)))
  rw[arrR_snoc b (by omega),zG,zG]
  show _+1+_≤_
  omega
theorem useS_arr:∀ (l:List Int) (b:ByteArray),(l.foldl (fun (p:ByteArray×Bool) u=>((if p.2 then p.1++⟨#[32,45,62]⟩ else p.1)++(⟨#[32]⟩++decB u),false)) (b,false)).1=arrR b l
 | [],_=>rfl
 | u::l,b=>by
  rw[List.foldl_cons];have ih:=useS_arr l (b++(⟨#[32]⟩++decB u));simp only[Bool.false_eq_true,if_false];rw[ih,←app_assoc];rfl
theorem use_arr (b:ByteArray) (l:List Int):(useS b l).1=if l.length=0 then b else arrR (b++⟨#[32,45,62]⟩) l:=by
 cases l with
 | nil=>rfl
 | cons u l =>
  rw[if_neg (by simp)]
  unfold useS;rw[List.foldl_cons];simp only[if_true];rw[useS_arr,←app_assoc];rfl
end Go.Proofs.YtdfolgmcggdjdaaGreatDoor


