/-
  Walks: the reference's rest.
-/
import Derived.Test.YtdfolgmcggdjdaaGreatDoorQRF0
import Derived.Test.YtdfolgmcggdjdaaGreatDoorQVF5
import Derived.Test.YtdfolgmcggdjdaaGreatDoorQGH0
import Derived.BigQuiet
namespace Go.Proofs.YtdfolgmcggdjdaaGreatDoor
open Go.RowKit
set_option maxHeartbeats 16000000
set_option maxRecDepth 100000
def ord3 (less eq:Bool):Int:=if eq then 0 else if less then -1 else 1
theorem rOrder_any (less eq:Bool) (w:World) :
  Calls Tryz.prog 171 #[.bool less,.bool eq] w fun e w'=>e = .returned (.int .i64 (ord3 less eq))∧w'=w:=by
 cases eq with
 | true =>
  go_enter Tryz.func171,Tryz.ntmps171
  go_wp2
  go_ret
  exact ⟨rfl,rfl⟩
 | false =>
  cases less with
  | true =>
   go_enter Tryz.func171,Tryz.ntmps171
   go_wp2
   go_ret
   exact ⟨rfl,rfl⟩
  | false =>
   go_enter Tryz.func171,Tryz.ntmps171
   go_wp2
   go_ret
   exact ⟨rfl,rfl⟩
theorem rZig_any (n:Int) (h:In64 n) (w:World) :
  Calls Tryz.prog 172 #[.int .i64 n] w fun e w'=>e = .returned (.int .u64 (zzD n))∧w'=w:=by
 unfold In64 at h
 by_cases h0:0≤n
 ·have HD:Hid (zzD n=2 * n):=if_pos h0
  have u1:IntKind.u64.wrap n=n:=by rw[IntKind.wrap_u64];omega
  have u2:IntKind.u64.wrap (2 * n)=2 * n:=by rw[IntKind.wrap_u64];omega
  go_enter Tryz.func172,Tryz.ntmps172
  go_wp2
  go_ret
  exact ⟨by rw[HD.out];rfl,rfl⟩
 ·have HD:Hid (zzD n = -2 * n - 1):=if_neg h0
  have u0:IntKind.i64.wrap (n+1)=n+1:=by rw[IntKind.wrap_i64];omega
  have u3:IntKind.i64.wrap (-(n+1)) = -(n+1):=by rw[IntKind.wrap_i64];omega
  have u1:IntKind.u64.wrap (-(n+1)) = -(n+1):=by rw[IntKind.wrap_u64];omega
  have u2:IntKind.u64.wrap (2 * -(n+1))=2 * -(n+1):=by rw[IntKind.wrap_u64];omega
  have u4:IntKind.u64.wrap (2 * -(n+1)+1)=2 * -(n+1)+1:=by rw[IntKind.wrap_u64];omega
  go_enter Tryz.func172,Tryz.ntmps172
  go_wp2
  go_ret
  refine ⟨?_,rfl⟩;rw[HD.out,show -2 * n - 1=2 * -(n+1)+1 by omega]
  rfl
theorem bl_self:∀l:List UInt8,Go.Op.bytesLess l l=false
 | []=>by simp[Go.Op.bytesLess]
 | x::xs=>by simp[Go.Op.bytesLess,bl_self xs]
theorem ltS_self (a:ByteArray):ltS a a=false:=bl_self _
theorem zz_inj {a b:Int} (h:zzD a=zzD b):a=b:=by
 unfold zzD at h
 split at h <;> split at h <;> omega
theorem cmp_1 {a b:Val} (hk:a.kind=b.kind) (e:a.kind=1):cmpV a b=ord3 b.bool (a.bool==b.bool):=by
 unfold cmpV;rw[if_neg (by simp[hk]),if_pos e]
 cases a.bool <;> cases b.bool <;> rfl
theorem cmp_2 {a b:Val} (hk:a.kind=b.kind) (e:a.kind=2):cmpV a b=ord3 (decide (zzD a.int<zzD b.int)) (a.int==b.int):=by
 unfold cmpV;rw[if_neg (by simp[hk]),if_neg (by omega),if_pos e]
 unfold cmpI ord3
 by_cases h:a.int=b.int
 ·rw[h,if_neg (by omega),if_pos rfl,if_pos (by simp)]
 ·rw[if_neg (c:=(a.int==b.int)=true) (by simpa using h)]
  by_cases h2:zzD a.int<zzD b.int
  ·rw[if_pos h2,if_pos (by simpa using h2)]
  ·rw[if_neg h2,if_neg (fun g=>h (zz_inj g)),if_neg (by simpa using h2)]
theorem cmp_3a {a b:Val} (hk:a.kind=b.kind) (e:a.kind=3) (h:¬ (a.str.size:Int)=b.str.size):cmpV a b=ord3 (decide ((a.str.size:Int)<b.str.size)) false:=by
 unfold cmpV;rw[if_neg (by simp[hk]),if_neg (by omega),if_neg (by omega),if_pos e]
 have h1:cmpI a.str.size b.str.size=ord3 (decide ((a.str.size:Int)<b.str.size)) false:=by
  unfold cmpI ord3;rw[if_neg (c:=(false=true)) (by simp)]
  by_cases h2:(a.str.size:Int)<b.str.size
  ·rw[if_pos h2,if_pos (by simpa using h2)]
  ·rw[if_neg h2,if_neg h,if_neg (by simpa using h2)]
 rw[h1,if_pos];unfold ord3;rw[if_neg (c:=(false=true)) (by simp)]
 split <;> decide
theorem cmp_3b {a b:Val} (hk:a.kind=b.kind) (e:a.kind=3) (h:(a.str.size:Int)=b.str.size):cmpV a b=ord3 (ltS a.str b.str) (decide (a.str=b.str)):=by
 unfold cmpV;rw[if_neg (by simp[hk]),if_neg (by omega),if_neg (by omega),if_pos e,if_neg]
 ·unfold cmpS ord3
  by_cases h1:a.str=b.str
  ·rw[if_pos (c:=decide (a.str=b.str)=true) (by simpa using h1),if_pos h1]
   cases hl:ltS a.str b.str with
   | true=>rw[h1] at hl;exact absurd hl (by rw[ltS_self];simp)
   | false=>rfl
  ·rw[if_neg (c:=decide (a.str=b.str)=true) (by simpa using h1),if_neg h1]
 ·unfold cmpI
  rw[h,if_neg (by omega),if_pos rfl]
  simp
theorem cmp_4 {a b:Val} (hk:a.kind=b.kind) (e:a.kind=4):cmpV a b=ord3 (decide (a.id<b.id)) (a.id==b.id):=by
 unfold cmpV;rw[if_neg (by simp[hk]),if_neg (by omega),if_neg (by omega),if_neg (by omega),if_pos e]
 unfold cmpI ord3
 by_cases h:a.id=b.id
 ·rw[h,if_neg (by omega),if_pos rfl,if_pos (by simp)]
 ·rw[if_neg (c:=(a.id==b.id)=true) (by simpa using h),if_neg h]
  by_cases h2:a.id<b.id
  ·rw[if_pos h2,if_pos (by simpa using h2)]
  ·rw[if_neg h2,if_neg (by simpa using h2)]
theorem rMem_any (n:Int) (t:TyD) (As:zo) (cs:Nat) (Am:zo) (cm:Nat) (w:World) (ht:TyR w t As Am) :
  Calls Tryz.prog 144 #[t.v As cs Am cm,.int .i64 n] w fun e w'=>∃r:Int,e = .returned (.tuple #[.int .i64 r,.bool (t.mems.any fun y=>decide (y.id=n))])∧((t.mems.any fun y=>decide (y.id=n))=true→r=idxD (fun y:MemD=>decide (y.id=n)) t.mems)∧Below w.heap.size w w':=by
 have hl:=ht.mems.1.lt (by omega)
 have HB:=zh (zD w (t.box As cs Am cm));have HX:Hid (TBox (w.alloc (t.box As cs Am cm)) w.heap.size t As cs Am cm):=heap_alloc_new w _;have HT:=zh (ht.below HB.out);clear ht;obtain ⟨an,han⟩:∃an,(t.mems.any fun y=>decide (y.id=n))=an:=⟨_,rfl⟩
 obtain ⟨X,hX⟩:∃X,idxD (fun y:MemD=>decide (y.id=n)) t.mems=X:=⟨_,rfl⟩
 rw[han,hX];have HAN:=zh han;have HIX:=zh hX;clear han hX
 go_enter Tryz.func144,Tryz.ntmps144
 go_upto_region 1 with fail
 generalize w.alloc (t.box As cs Am cm)=W1 at *;obtain ⟨b0,b1,b2,b3,b4,b5,b6,b7,b8,b9⟩:=zI HX.out;go_wp2_with fail
 go_loop [6] (fun i=>∃k:Nat,k≤t.mems.length∧i = .int .i64 (k:Int)∧Hid (∀j (h:j<t.mems.length),j<k→decide ((t.mems[j]).id=n)=false)) (fun i=>t.mems.length - (intOf i).toNat)
 case atStart=>exact ⟨0,by omega,rfl,fun j _ h=>absurd h (by omega)⟩
 case round =>
  obtain ⟨k,hk,rfl,hh⟩:=hrel
  by_cases hlt:k<t.mems.length
  ·obtain ⟨mb,mo,M1,m1,M2,m2,M3,m3,hA,_,d0,d1,d2,d3,d4,d5,d6,d7,d8,d9,d10,d11,d12⟩:=HT.out.mems.at13 hlt
   have h1:(0:Int)≤(k:Int):=by omega
   have h2:(k:Int)<(t.mems.length:Int):=by omega
   have HBX:=b6;rw[hA] at HBX
   by_cases he:(t.mems[k]).id=n
   ·have HE:Hid (an=true∧X=(k:Int)):=⟨by rw[←HAN.out];exact any_yes hlt (decide_eq_true he),by rw[←HIX.out];exact idxD_at _ k hlt hh.out (decide_eq_true he)⟩
    have q1:((t.mems[k]).id==n)=true:=by simpa using he
    clear he b6;go_wp2;go_ret2;exact ⟨k,by rw[HE.out.1];rfl,fun _=>HE.out.2.symm,HB.out⟩
   ·have q1:((t.mems[k]).id==n)=false:=by simpa using he
    have HN:Hid (∀j (h:j<t.mems.length),j<k+1→decide ((t.mems[j]).id=n)=false):=fun j hj hjk=>by
     by_cases ej:j=k
     ·subst ej;exact decide_eq_false he
     ·exact hh.out j hj (by omega)
    clear he b6;go_wp2
    go_round
    case rel=>exact ⟨k+1,by omega,by go_num,HN.out⟩
    case measure=>simp[intOf];omega
  ·have HE:Hid (an=false):=by show _=_;rw[←HAN.out];exact any_no fun j hj=>hh.out j hj (by omega)
   go_wp2
   go_ret2
   exact ⟨0,by rw[HE.out];rfl,fun h=>absurd (HE.out.symm.trans h) (by simp),HB.out⟩
theorem rSym_any (n:Int) (t:TyD) (As:zo) (cs:Nat) (Am:zo) (cm:Nat) (w:World) (ht:TyR w t As Am) :
  Calls Tryz.prog 141 #[t.v As cs Am cm,.int .i64 n] w fun e w'=>∃r:Int,e = .returned (.tuple #[.int .i64 r,.bool (t.syms.any fun y=>decide (y.id=n))])∧((t.syms.any fun y=>decide (y.id=n))=true→r=idxD (fun y:SymD=>decide (y.id=n)) t.syms)∧Below w.heap.size w w':=by
 have hl:=ht.syms.1.lt (by omega)
 have HB:=zh (zD w (t.box As cs Am cm));have HX:Hid (TBox (w.alloc (t.box As cs Am cm)) w.heap.size t As cs Am cm):=heap_alloc_new w _;have HT:=zh (ht.below HB.out);clear ht;obtain ⟨an,han⟩:∃an,(t.syms.any fun y=>decide (y.id=n))=an:=⟨_,rfl⟩
 obtain ⟨X,hX⟩:∃X,idxD (fun y:SymD=>decide (y.id=n)) t.syms=X:=⟨_,rfl⟩
 rw[han,hX];have HAN:=zh han;have HIX:=zh hX;clear han hX
 go_enter Tryz.func141,Tryz.ntmps141
 go_upto_region 1 with fail
 generalize w.alloc (t.box As cs Am cm)=W1 at *;obtain ⟨b0,b1,b2,b3,b4,b5,b6,b7,b8,b9⟩:=zI HX.out;go_wp2_with fail
 go_loop [6] (fun i=>∃k:Nat,k≤t.syms.length∧i = .int .i64 (k:Int)∧Hid (∀j (h:j<t.syms.length),j<k→decide ((t.syms[j]).id=n)=false)) (fun i=>t.syms.length - (intOf i).toNat)
 case atStart=>exact ⟨0,by omega,rfl,fun j _ h=>absurd h (by omega)⟩
 case round =>
  obtain ⟨k,hk,rfl,hh⟩:=hrel
  by_cases hlt:k<t.syms.length
  ·obtain ⟨mb,mo,hA,_,d0,d1⟩:=HT.out.syms.at2 hlt
   have h1:(0:Int)≤(k:Int):=by omega
   have h2:(k:Int)<(t.syms.length:Int):=by omega
   have HBX:=b5;rw[hA] at HBX
   by_cases he:(t.syms[k]).id=n
   ·have HE:Hid (an=true∧X=(k:Int)):=⟨by rw[←HAN.out];exact any_yes hlt (decide_eq_true he),by rw[←HIX.out];exact idxD_at _ k hlt hh.out (decide_eq_true he)⟩
    have q1:((t.syms[k]).id==n)=true:=by simpa using he
    clear he b5;go_wp2;go_ret2;exact ⟨k,by rw[HE.out.1];rfl,fun _=>HE.out.2.symm,HB.out⟩
   ·have q1:((t.syms[k]).id==n)=false:=by simpa using he
    have HN:Hid (∀j (h:j<t.syms.length),j<k+1→decide ((t.syms[j]).id=n)=false):=fun j hj hjk=>by
     by_cases ej:j=k
     ·subst ej;exact decide_eq_false he
     ·exact hh.out j hj (by omega)
    clear he b5;go_wp2
    go_round
    case rel=>exact ⟨k+1,by omega,by go_num,HN.out⟩
    case measure=>simp[intOf];omega
  ·have HE:Hid (an=false):=by show _=_;rw[←HAN.out];exact any_no fun j hj=>hh.out j hj (by omega)
   go_wp2
   go_ret2
   exact ⟨0,by rw[HE.out];rfl,fun h=>absurd (HE.out.symm.trans h) (by simp),HB.out⟩
theorem rCompare_any (a b:Val) (hk:a.kind=b.kind) (h14:1≤a.kind∧a.kind≤4) (hi:a.kind=2→In64 a.int∧In64 b.int) (_hz:a.str.size≤9223372036854775807∧b.str.size≤9223372036854775807) (A1:zo) (c1:Nat) (A2:zo) (c2:Nat) (A3:zo) (c3:Nat) (B1:zo) (d1:Nat) (B2:zo) (d2:Nat) (B3:zo) (d3:Nat) (w:World) :
  Calls Tryz.prog 146 #[a.v A1 c1 A2 c2 A3 c3,b.v B1 d1 B2 d2 B3 d3] w fun e w'=>e = .returned (.int .i64 (cmpV a b))∧Below w.heap.size w w':=by
 have HB:=zh (zE w (a.box A1 c1 A2 c2 A3 c3) (b.box B1 d1 B2 d2 B3 d3));have HX:=zh (tmp_al (heap_alloc_new w (a.box A1 c1 A2 c2 A3 c3)) (b.box B1 d1 B2 d2 B3 d3));have HY:Hid (((w.alloc (a.box A1 c1 A2 c2 A3 c3)).alloc (b.box B1 d1 B2 d2 B3 d3)).heap[w.heap.size+1]? = some (b.box B1 d1 B2 d2 B3 d3)):=by
  have:=heap_alloc_new (w.alloc (a.box A1 c1 A2 c2 A3 c3)) (b.box B1 d1 B2 d2 B3 d3);rw[show (w.alloc (a.box A1 c1 A2 c2 A3 c3)).heap.size=w.heap.size+1 by simp] at this
  exact this
 have q0:(a.kind != b.kind)=false:=by simp[hk]
 have hk4:a.kind=1∨a.kind=2∨a.kind=3∨a.kind=4:=by omega
 have HK:=zh hk;have HI:=zh hi;clear hk h14 hi
 go_enter Tryz.func146,Tryz.ntmps146
 go_upto_region 1 with fail
 generalize (w.alloc (a.box A1 c1 A2 c2 A3 c3)).alloc (b.box B1 d1 B2 d2 B3 d3)=W1 at *;obtain ⟨u0,u1,u2,u3,u4,u5,u6,u7⟩:=zH HX.out;obtain ⟨v0,v1,v2,v3,v4,v5,v6,v7⟩:=zH HY.out
 rcases hk4 with e|e|e|e
 ·have q1:(a.kind==1)=true:=by simp[e]
  have HD:=zh (cmp_1 HK.out e);obtain ⟨X,hX⟩:∃X,(a.bool==b.bool)=X:=⟨_,rfl⟩;rw[hX] at HD;clear e;go_wp2_with fail;refine (rOrder_any b.bool X _).mono ?_;rintro e w2 ⟨rfl,rfl⟩;go_wp2;go_ret;exact ⟨by rw[HD.out];rfl,HB.out⟩
 ·have q1:(a.kind==1)=false:=by simp[e]
  have q2:(a.kind==2)=true:=by simp[e]
  have HD:=zh (cmp_2 HK.out e);have HI2:=zh (HI.out e);have HCC:Hid (∀w',Below W1.heap.size W1 w'→(w'.cell? ⟨w.heap.size,2,none⟩=some (.int .i64 a.int)∧w'.cell? ⟨w.heap.size+1,2,none⟩=some (.int .i64 b.int))):=fun w' hb=>⟨zA hb u2,zA hb v2⟩
  clear e;go_upto_region 7 with fail
  clear u0 u1 u2 u3 u4 u5 u6 u7 v0 v1 v2 v3 v4 v5 v6 v7;refine zr (Y:=fun w'=>Hid (Below W1.heap.size W1 w')) HCC.out (by kernel_rfl) ?_ (fun zH_=>?_)
  ·(try dsimp only);exact ⟨HCC.out _ (zC (Below.refl _ _) 1),zC (Below.refl _ _) 1⟩
  refine tL 0 ?_;refine tL 1 ?_;refine tL 3 ?_;refine tL 4 ?_;refine tL 7 ?_;refine tL 8 ?_;try simp only[ps]
  refine tL 9 ?_;refine tL 10 ?_;refine tL 11 ?_;refine tR 2 (fun K hK=>?_)
  go_simp
  (refine (rZig_any a.int HI2.out.1 _).mono ?_;rintro e w2 ⟨rfl,rfl⟩)
  refine hK.out _ _ ?_ (fun zH_=>?_)
  ·(try dsimp only);exact zH_
  clear hK K;refine tR 5 (fun K hK=>?_)
  go_simp
  (refine (rZig_any b.int HI2.out.2 _).mono ?_;rintro e w2 ⟨rfl,rfl⟩)
  refine hK.out _ _ ?_ (fun zH_=>?_)
  ·(try dsimp only);exact zH_
  clear hK K;refine tL 6 ?_;try simp only[ps]
  refine tR 12 (fun K hK=>?_)
  go_simp
  (refine (rOrder_any (decide (zzD a.int<zzD b.int)) (a.int==b.int) _).mono ?_;rintro e w2 ⟨rfl,rfl⟩)
  refine hK.out _ _ ?_ (fun zH_=>?_)
  ·(try dsimp only);exact zH_
  clear hK K;refine tL 13 ?_;refine wpAnyH_done (by kernel_rfl) ?_ _
  (have HBZ:=zh (zB HB.out zH_.2.out);clear zH_;go_wp2;go_ret;exact ⟨by rw[HD.out];rfl,HBZ.out⟩)
 ·have q1:(a.kind==1)=false:=by simp[e]
  have q2:(a.kind==2)=false:=by simp[e]
  have q3:(a.kind==3)=true:=by simp[e]
  by_cases hs:(a.str.size:Int)=b.str.size
  ·have HD:=zh (cmp_3b HK.out e hs)
   have z1:((a.str.size:Int) != (b.str.size:Int))=false:=by simp only[bne_eq_false_iff_eq];exact hs
   obtain ⟨Y,hY⟩:∃Y,Op.bytesLess a.str.toList b.str.toList=Y:=⟨_,rfl⟩;obtain ⟨X,hX⟩:∃X,(a.str.toList==b.str.toList)=X:=⟨_,rfl⟩;have HD2:Hid (cmpV a b=ord3 Y X):=by show _=_;rw[HD.out,←hY,←hX,zS];rfl
   clear e hs HD;go_wp2_with fail;refine (rOrder_any Y X _).mono ?_;rintro e w2 ⟨rfl,rfl⟩;go_wp2;go_ret;exact ⟨by rw[HD2.out];rfl,HB.out⟩
  ·have HD:=zh (cmp_3a HK.out e hs)
   have z1:((a.str.size:Int) != (b.str.size:Int))=true:=by simp only[bne_iff_ne];exact hs
   obtain ⟨Y,hY⟩:∃Y,decide ((a.str.size:Int)<(b.str.size:Int))=Y:=⟨_,rfl⟩;rw[hY] at HD;clear e hs
   cases Y with
   | true =>
    have z2:(a.str.size:Int)<(b.str.size:Int):=of_decide_eq_true hY;clear hY;go_wp2_with fail;refine (rOrder_any true false _).mono ?_;rintro e w2 ⟨rfl,rfl⟩;go_wp2;go_ret;exact ⟨by rw[HD.out];rfl,HB.out⟩
   | false =>
    have z2:¬ (a.str.size:Int)<(b.str.size:Int):=of_decide_eq_false hY;clear hY;go_wp2_with fail;refine (rOrder_any false false _).mono ?_;rintro e w2 ⟨rfl,rfl⟩;go_wp2;go_ret;exact ⟨by rw[HD.out];rfl,HB.out⟩
 ·have q1:(a.kind==1)=false:=by simp[e]
  have q2:(a.kind==2)=false:=by simp[e]
  have q3:(a.kind==3)=false:=by simp[e]
  have q4:(a.kind==4)=true:=by simp[e]
  have HD:=zh (cmp_4 HK.out e);clear e;go_wp2_with fail;refine (rOrder_any (decide (a.id<b.id)) (a.id==b.id) _).mono ?_;rintro e w2 ⟨rfl,rfl⟩;go_wp2;go_ret;exact ⟨by rw[HD.out];rfl,HB.out⟩
theorem rRest_any (x:TyD) (As:zo) (cs:Nat) (Am:zo) (cm:Nat) (l:List RawD) (B:zo) (d:Nat) (w:World) (ht:TyR w x As Am) (hl:RawsR w B l) :
  Calls Tryz.prog 143 #[x.v As cs Am cm,.slice B l.length d] w fun e w'=>e = .returned (.bool (rawsD x l))∧Below w.heap.size w w':=by
 have hlr:=hl.1.lt (by omega)
 have HB:=zh (zD w (x.box As cs Am cm));have HX:Hid (TBox (w.alloc (x.box As cs Am cm)) w.heap.size x As cs Am cm):=heap_alloc_new w _;have HT:=zh (ht.below HB.out);have HL:=zh (hl.below HB.out);obtain ⟨X,hX⟩:∃X,rawsD x l=X:=⟨_,rfl⟩;rw[hX];have HE:=zh hX;clear ht hl hX
 go_enter Tryz.func143,Tryz.ntmps143
 go_upto_region 1 with fail
 generalize w.alloc (x.box As cs Am cm)=W1 at *;go_wp2_with fail
 go_loopw [5] (fun i wr=>∃k:Nat,k≤l.length∧i = .int .i64 (k:Int)∧Hid ((∀j (h:j<l.length),j<k→rawOk x l[j]=true)∧(∀j (h:j+1<l.length),j+1<k→(l[j]).id<(l[j+1]).id)∧Below W1.heap.size W1 wr)) (fun i _=>l.length - (intOf i).toNat)
 case atStart=>exact ⟨0,by omega,rfl,(fun j _ h=>absurd h (by omega)),(fun j _ h=>absurd h (by omega)),Below.refl _ _⟩
 case round =>
  obtain ⟨k,hk,rfl,hh⟩:=hrel;have HOK:=zh hh.out.1;have HAS:=zh hh.out.2.1;have HBR:=zh hh.out.2.2;have HBW:=zh (zB HB.out HBR.out);clear hh;obtain ⟨wk,rfl⟩:∃wk:World,wk=wr:=⟨_,rfl⟩
  by_cases hlt:k<l.length
  ·obtain ⟨rb,ro,hA,_,a0,a1⟩:=(HL.out.below HBR.out).at2 hlt
   subst hA;have HLk:=zh (HL.out.below HBR.out);have HXk:=zh (HX.out.below HBR.out);obtain ⟨b0,b1,b2,b3,b4,b5,b6,b7,b8,b9⟩:=zI HXk.out;have h1:(0:Int)≤(k:Int):=by omega
   have h2:(k:Int)<(l.length:Int):=by omega
   obtain ⟨an,han⟩:∃an,(x.mems.any fun y=>decide (y.id=(l[k]).id))=an:=⟨_,rfl⟩
   have hcall:=fun w' hb=>rMem_any (l[k]).id x As cs Am cm w' ((HT.out.below HBR.out).below hb)
   simp only[han] at hcall;have HCL:=zh hcall;have HRO:Hid (rawOk x l[k]=(!an&&freeD (l[k]).id)):=by show _=_;unfold rawOk;rw[han]
   clear hcall han
   have HC3:Hid (∀w',Below wk.heap.size wk w'→(w'.cell? ⟨w.heap.size,0,none⟩=some (.int .i64 x.kind)∧w'.cell? ⟨w.heap.size,1,none⟩=some (.string x.name)∧w'.cell? ⟨w.heap.size,2,none⟩=some (.int .i64 x.low)∧w'.cell? ⟨w.heap.size,3,none⟩=some (.int .i64 x.high)∧w'.cell? ⟨w.heap.size,4,none⟩=some (.int .i64 x.max)∧w'.cell? ⟨w.heap.size,5,none⟩=some (.slice As x.syms.length cs)∧w'.cell? ⟨w.heap.size,6,none⟩=some (.slice Am x.mems.length cm)∧w'.cell? ⟨w.heap.size,7,none⟩=some (.int .i64 x.key)∧w'.cell? ⟨w.heap.size,8,none⟩=some (.int .i64 x.elem)∧w'.cell? ⟨w.heap.size,9,none⟩=some (.bool x.open_)∧w'.cell? ⟨rb,ro+k * 2,none⟩=some (.int .i64 (l[k]).id))):=fun w' hb=>⟨zA hb b0,zA hb b1,zA hb b2,zA hb b3,zA hb b4,zA hb b5,zA hb b6,zA hb b7,zA hb b8,zA hb b9,zA hb a0⟩
   clear b0 b1 b2 b3 b4 b5 b6 b7 b8 b9 a0 a1;go_upto_region 4 with fail
   refine zr (Y:=fun w'=>Hid (Below wk.heap.size wk w')) HC3.out (by kernel_rfl) ?_ (fun zH_=>?_)
   ·(try dsimp only);exact ⟨HC3.out _ (zC (Below.refl _ _) 1),zC (Below.refl _ _) 1⟩
   refine tL 0 ?_;refine tL 1 ?_;refine tL 2 ?_;refine tL 3 ?_;refine tL 4 ?_;refine tL 5 ?_;try simp only[ps]
   refine tR 6 (fun K hK=>?_)
   go_simp
   (refine (HCL.out _ zH_.2.out).mono ?_;rintro e' w6 ⟨r,rfl,_,hb6⟩;have HB6:=zh (zB zH_.2.out hb6);clear hb6)
   refine hK.out _ _ ?_ (fun zH_=>?_)
   ·(try dsimp only);exact ⟨HC3.out _ HB6.out,HB6.out⟩
   clear hK K;refine tL 7 ?_;refine tL 8 ?_;refine tL 9 ?_;refine tL 10 ?_;refine tL 11 ?_;try simp only[ps]
   refine wpAnyH_done (by kernel_rfl) ?_ _
   clear zH_ HCL;have HC4:Hid (∀w',Below w6.heap.size w6 w'→w'.cell? ⟨rb,ro+k * 2,none⟩=some (.int .i64 (l[k]).id)):=fun w' hb=>(HC3.out _ (zB HB6.out hb)).2.2.2.2.2.2.2.2.2.2
   cases hro:rawOk x l[k] with
   | false =>
    have HID:Hid ((!an&&freeD (l[k]).id)=false):=by show _=_;rw[←HRO.out];exact hro
    have HNO:Hid (X=false):=by show _=_;rw[←HE.out];exact raws_not x _ k hlt hro
    clear hro;go_upto_region 5 with fail
    refine wp_region_held_drew (S:=(fun w'=>(w'.cell? ⟨rb,ro+k * 2,none⟩=some (.int .i64 (l[k]).id))∧Hid (Below w6.heap.size w6 w'))) (by kernel_rfl) ?_ (fun zH_=>?_)
    ·(try dsimp only);exact ⟨HC4.out _ (zC (Below.refl _ _) 1),zC (Below.refl _ _) 1⟩
    refine tL 0 ?_;refine tL 1 ?_;refine tL 2 ?_;refine tL 3 ?_;refine tL 4 ?_;refine tL 5 ?_;try simp only[ps]
    refine tR 6 (fun K hK=>?_)
    go_simp
    (refine (rIdF_any _ an _).mono ?_;rintro e' w7 ⟨rfl,rfl⟩;rw[HID.out])
    refine hK.out _ _ ?_ (fun zH_=>?_)
    ·(try dsimp only);exact zH_
    clear hK K;refine tL 7 ?_;refine tL 8 ?_;refine tU 9 ?_;refine tU 10 ?_;refine tU 11 ?_;try simp only[ps]
    refine tU 12 ?_;refine tU 13 ?_;refine tU 14 ?_;refine tU 15 ?_;refine tU 16 ?_;refine tU 17 ?_;try simp only[ps]
    refine tU 18 ?_;refine tU 19 ?_;refine tU 20 ?_;refine tU 21 ?_;refine tU 22 ?_;refine tU 23 ?_;try simp only[ps]
    refine tU 24 ?_;refine tL 25 ?_;refine wpAnyH_done (by kernel_rfl) ?_ _
    have HB8:=zh (zB HBW.out (zB HB6.out zH_.2.out));clear zH_;go_wp2;go_ret;exact ⟨by rw[HNO.out];rfl,HB8.out⟩
   | true =>
    have HID:Hid ((!an&&freeD (l[k]).id)=true):=by show _=_;rw[←HRO.out];exact hro
    have HOK1:Hid (∀j (h:j<l.length),j<k+1→rawOk x l[j]=true):=fun j h hj=>by
     by_cases ej:j=k
     ·subst ej;exact hro
     ·exact HOK.out j h (by omega)
    clear hro
    by_cases hk0:k=0
    ·subst hk0
     go_upto_region 5 with fail
     refine wp_region_held_drew (S:=(fun w'=>(w'.cell? ⟨rb,ro,none⟩=some (.int .i64 (l[0]).id))∧Hid (Below w6.heap.size w6 w'))) (by kernel_rfl) ?_ (fun zH_=>?_)
     ·(try dsimp only);exact ⟨by have h:=HC4.out _ (zC (Below.refl _ _) 1);simpa using h,zC (Below.refl _ _) 1⟩
     refine tL 0 ?_;refine tL 1 ?_;refine tL 2 ?_;refine tL 3 ?_;try simp only[ps]
     refine tL 4 ?_;refine tL 5 ?_;refine tR 6 (fun K hK=>?_)
     go_simp
     (refine (rIdF_any _ an _).mono ?_;rintro e' w7 ⟨rfl,rfl⟩;rw[HID.out])
     refine hK.out _ _ ?_ (fun zH_=>?_)
     ·(try dsimp only);exact zH_
     clear hK K;refine tL 7 ?_;refine tL 8 ?_;refine tL 9 ?_;try simp only[ps]
     refine tL 10 ?_;refine tL 11 ?_;refine tU 12 ?_;refine tU 13 ?_;refine tU 14 ?_;refine tU 15 ?_;try simp only[ps]
     refine tU 16 ?_;refine tU 17 ?_;refine tU 18 ?_;refine tU 19 ?_;refine tU 20 ?_;refine tU 21 ?_;try simp only[ps]
     refine tU 22 ?_;refine tU 23 ?_;refine tL 24 ?_;refine tL 25 ?_;refine wpAnyH_done (by kernel_rfl) ?_ _
     have HB8:=zh (zB HBR.out (zB HB6.out zH_.2.out));clear zH_;go_wp2;go_roundw
     case rel=>exact ⟨1,by omega,by go_num,HOK1.out,(fun j _ h=>absurd h (by omega)),HB8.out⟩
     case measure=>simp[intOf];omega
    ·obtain ⟨m,rfl⟩:∃m,k=m+1:=⟨k - 1,by omega⟩
     have hm:m<l.length:=by omega
     obtain ⟨rb',ro',hE,_,e0,e1⟩:=HLk.out.at2 hm
     injection hE with hE
     injection hE with hE1 hE2
     subst hE1;subst hE2;have HC5:Hid (∀w',Below w6.heap.size w6 w'→(w'.cell? ⟨rb,ro+(m+1) * 2,none⟩=some (.int .i64 (l[m+1]).id)∧w'.cell? ⟨rb,ro+m * 2,none⟩=some (.int .i64 (l[m]).id))):=fun w' hb=>⟨HC4.out w' hb,zA (zB HB6.out hb) e0⟩
     have jp:(0:Int)<(m:Int)+1:=by omega
     have j0:(0:Int)≤(m:Int):=by omega
     have j1:(m:Int)<(l.length:Int):=by omega
     have j2:(m:Int)+1<(l.length:Int):=by omega
     have j4:(0:Int)≤(m:Int)+1:=by omega
     have jw:IntKind.i64.wrap (m:Int)=(m:Int):=by rw[IntKind.wrap_i64];omega
     clear e0 e1 hk0;go_upto_region 5 with fail
     refine zr (Y:=fun w'=>Hid (Below w6.heap.size w6 w')) HC5.out (by kernel_rfl) ?_ (fun zH_=>?_)
     ·(try dsimp only);exact ⟨HC5.out _ (zC (Below.refl _ _) 1),zC (Below.refl _ _) 1⟩
     refine tL 0 ?_;refine tL 1 ?_;try simp only[ps]
     refine tL 2 ?_;refine tL 3 ?_;refine tL 4 ?_;refine tL 5 ?_;refine tR 6 (fun K hK=>?_)
     go_simp
     (refine (rIdF_any _ an _).mono ?_;rintro e' w7 ⟨rfl,rfl⟩;rw[HID.out])
     refine hK.out _ _ ?_ (fun zH_=>?_)
     ·(try dsimp only);exact zH_
     clear hK K;refine tL 7 ?_;try simp only[ps]
     refine tL 8 ?_;refine tL 9 ?_;refine tL 10 ?_;refine tL 11 ?_;refine tL 12 ?_;refine tL 13 ?_;try simp only[ps]
     refine tL 14 ?_;refine tL 15 ?_;refine tL 16 ?_;refine tL 17 ?_;refine tL 18 ?_;refine tL 19 ?_;try simp only[ps]
     refine tL 20 ?_;refine tL 21 ?_;refine tL 22 ?_;refine tL 23 ?_;refine tL 24 ?_;refine tL 25 ?_;try simp only[ps]
     refine wpAnyH_done (by kernel_rfl) ?_ _
     have HB8:=zh (zB HBR.out (zB HB6.out zH_.2.out));clear zH_
     by_cases hle:(l[m+1]).id≤(l[m]).id
     ·have HNO:Hid (X=false):=by show _=_;rw[←HE.out];exact raws_desc x _ m hlt (by omega)
      have HB9:=zh (zB HB.out HB8.out);go_wp2;go_ret;exact ⟨by rw[HNO.out];rfl,HB9.out⟩
     ·have HAS1:Hid (∀j (h:j+1<l.length),j+1<m+1+1→(l[j]).id<(l[j+1]).id):=fun j h hj=>by
       by_cases ej:j=m
       ·subst ej;omega
       ·exact HAS.out j h (by omega)
      go_wp2
      go_roundw
      case rel=>exact ⟨m+1+1,by omega,by go_num,HOK1.out,HAS1.out,HB8.out⟩
      case measure=>simp[intOf];omega
  ·have HYE:Hid (X=true):=by show _=_;rw[←HE.out];exact raws_all x _ (fun j h=>HOK.out j h (by omega)) (fun j h=>HAS.out j h (by omega))
   go_wp2
   go_ret
   exact ⟨by rw[HYE.out];rfl,HBW.out⟩
end Go.Proofs.YtdfolgmcggdjdaaGreatDoor


