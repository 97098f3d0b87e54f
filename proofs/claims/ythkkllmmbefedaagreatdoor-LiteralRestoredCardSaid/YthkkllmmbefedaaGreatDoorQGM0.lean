/-
  Walks: the reference's Member, Symbol, Compare.
-/
import Derived.Test.YthkkllmmbefedaaGreatDoorQGA8
import Derived.Test.YthkkllmmbefedaaGreatDoorQGA9
import Derived.BigQuiet
namespace Go.Proofs.YthkkllmmbefedaaGreatDoor
open Go.RowKit
set_option maxHeartbeats 16000000
set_option maxRecDepth 100000
def Mt (less eq:Bool):Int:=if eq then 0 else if less then -1 else 1
theorem Ep (less eq:Bool) (w:World) :
  Calls Tryz.prog 154 #[.bool less,.bool eq] w fun e w'=>e = .returned (.int .i64 (Mt less eq))/\w'=w:=by
 cases eq with
 | true =>
  go_enter Tryz.func154,Tryz.ntmps154
  go_wp2
  go_ret
  exact ⟨rfl,rfl⟩
 | false =>
  cases less with
  | true =>
   go_enter Tryz.func154,Tryz.ntmps154
   go_wp2
   go_ret
   exact ⟨rfl,rfl⟩
  | false =>
   go_enter Tryz.func154,Tryz.ntmps154
   go_wp2
   go_ret
   exact ⟨rfl,rfl⟩
theorem Tq (n:Int) (h:In64 n) (w:World) :
  Calls Tryz.prog 155 #[.int .i64 n] w fun e w'=>e = .returned (.int .u64 (QH n))/\w'=w:=by
 unfold In64 at h
 by_cases h0:0<=n
 ·have HD:Hid (QH n=2 * n):=AAH h0
  have u1:IntKind.u64.wrap n=n:=by rw[IntKind.wrap_u64];omega
  have u2:IntKind.u64.wrap (2 * n)=2 * n:=by rw[IntKind.wrap_u64];omega
  go_enter Tryz.func155,Tryz.ntmps155
  go_wp2
  go_ret
  exact ⟨by rw[HD.out];rfl,rfl⟩
 ·have HD:Hid (QH n = -2 * n - 1):=Pd h0
  have u0:IntKind.i64.wrap (n+1)=n+1:=by rw[IntKind.wrap_i64];omega
  have u3:IntKind.i64.wrap (-(n+1)) = -(n+1):=by rw[IntKind.wrap_i64];omega
  have u1:IntKind.u64.wrap (-(n+1)) = -(n+1):=by rw[IntKind.wrap_u64];omega
  have u2:IntKind.u64.wrap (2 * -(n+1))=2 * -(n+1):=by rw[IntKind.wrap_u64];omega
  have u4:IntKind.u64.wrap (2 * -(n+1)+1)=2 * -(n+1)+1:=by rw[IntKind.wrap_u64];omega
  go_enter Tryz.func155,Tryz.ntmps155
  go_wp2
  go_ret
  refine ⟨?_,rfl⟩;rw[HD.out,show -2 * n - 1=2 * -(n+1)+1 by omega]
  rfl
theorem YK:∀l:List UInt8,Go.Op.bytesLess l l=false
 | []=>by simp[Go.Op.bytesLess]
 | x::xs=>by simp[Go.Op.bytesLess,YK xs]
theorem gF (a:ByteArray):ja a a=false:=YK _
theorem qN {a b:Int} (h:QH a=QH b):a=b:=by
 unfold QH at h
 split at h <;> split at h <;> omega
variable {a b:Val}
theorem xM (hk:a.kind=b.kind) (e:a.kind=1):BV a b=Mt b.bool (a.bool==b.bool):=by
 unfold BV;rw[Pd (by simp[hk]),AAH e]
 cases a.bool <;> cases b.bool <;> rfl
theorem xL (hk:a.kind=b.kind) (e:a.kind=2):BV a b=Mt (decide (QH a.int<QH b.int)) (a.int==b.int):=by
 unfold BV;rw[Pd (by simp[hk]),Pd (by omega),AAH e]
 unfold Dg Mt
 by_cases h:a.int=b.int
 ·rw[h,Pd (by omega),AAH rfl,AAH (by simp)]
 ·rw[Pd (c:=(a.int==b.int)=true) (by simpa using h)]
  by_cases h2:QH a.int<QH b.int
  ·rw[AAH h2,AAH (by simpa using h2)]
  ·rw[Pd h2,Pd (fun g=>h (qN g)),Pd (by simpa using h2)]
theorem sS (hk:a.kind=b.kind) (e:a.kind=3) (h:¬ (a.str.size:Int)=b.str.size):BV a b=Mt (decide ((a.str.size:Int)<b.str.size)) false:=by
 unfold BV;rw[Pd (by simp[hk]),Pd (by omega),Pd (by omega),AAH e]
 have h1:Dg a.str.size b.str.size=Mt (decide ((a.str.size:Int)<b.str.size)) false:=by
  unfold Dg Mt;rw[Pd (c:=(false=true)) (by simp)]
  by_cases h2:(a.str.size:Int)<b.str.size
  ·rw[AAH h2,AAH (by simpa using h2)]
  ·rw[Pd h2,Pd h,Pd (by simpa using h2)]
 rw[h1,AAH];unfold Mt;rw[Pd (c:=(false=true)) (by simp)]
 split <;> decide
theorem sQ (hk:a.kind=b.kind) (e:a.kind=3) (h:(a.str.size:Int)=b.str.size):BV a b=Mt (ja a.str b.str) (decide (a.str=b.str)):=by
 unfold BV;rw[Pd (by simp[hk]),Pd (by omega),Pd (by omega),AAH e,Pd]
 ·unfold OD Mt
  by_cases h1:a.str=b.str
  ·rw[AAH (c:=decide (a.str=b.str)=true) (by simpa using h1),AAH h1]
   cases hl:ja a.str b.str with
   | true=>rw[h1] at hl;exact absurd hl (by rw[gF];simp)
   | false=>rfl
  ·rw[Pd (c:=decide (a.str=b.str)=true) (by simpa using h1),Pd h1]
 ·unfold Dg
  rw[h,Pd (by omega),AAH rfl]
  simp
theorem xK (hk:a.kind=b.kind) (e:a.kind=4):BV a b=Mt (decide (a.id<b.id)) (a.id==b.id):=by
 unfold BV;rw[Pd (by simp[hk]),Pd (by omega),Pd (by omega),Pd (by omega),AAH e]
 unfold Dg Mt
 by_cases h:a.id=b.id
 ·rw[h,Pd (by omega),AAH rfl,AAH (by simp)]
 ·rw[Pd (c:=(a.id==b.id)=true) (by simpa using h),Pd h]
  by_cases h2:a.id<b.id
  ·rw[AAH h2,AAH (by simpa using h2)]
  ·rw[Pd h2,Pd (by simpa using h2)]
theorem eY (n:Int) (t:Aa) (As:zo) (cs:Nat) (Am:zo) (cm:Nat) (w:World) (ht:JY w t As Am) :
  Calls Tryz.prog 61 #[t.v As cs Am cm,.int .i64 n] w fun e w'=>∃r:Int,e = .returned (.tuple #[.int .i64 r,.bool (t.AA.any fun y=>decide (y.id=n))])/\((t.AA.any fun y=>decide (y.id=n))=true->r=Bg (fun y:AY=>decide (y.id=n)) t.AA)/\Below w.heap.size w w':=by
 have hl:=ht.AA.1.lt (by omega)
 have HB:=zh (zD w (t.box As cs Am cm));have HX:Hid (CS (w.alloc (t.box As cs Am cm)) w.heap.size t As cs Am cm):=AAL w _;have HT:=zh (ht.below HB);clear ht;obtain ⟨an,han⟩:∃an,(t.AA.any fun y=>decide (y.id=n))=an:=⟨_,rfl⟩
 obtain ⟨X,hX⟩:∃X,Bg (fun y:AY=>decide (y.id=n)) t.AA=X:=⟨_,rfl⟩
 rw[han,hX];have RO:=zh han;have ug:=zh hX;clear han hX
 go_enter Tryz.func61,Tryz.ntmps61
 go_upto_region 1 with fail
 generalize w.alloc (t.box As cs Am cm)=W1 at *;obtain ⟨b0,b1,b2,b3,b4,b5,b6,b7,b8,b9⟩:=zG HX;go_wp2_with fail
 go_loop [6] (fun i=>∃k:Nat,k<=t.AA.length/\i = .int .i64 (k:Int)/\Hid (∀j (h:j<t.AA.length),j<k->decide ((t.AA[j]).id=n)=false)) (fun i=>t.AA.length - (intOf i).toNat)
 case atStart=>exact ⟨0,by omega,rfl,fun j _ h=>absurd h (by omega)⟩
 case round =>
  obtain ⟨k,hk,rfl,hh⟩:=hrel
  by_cases hlt:k<t.AA.length
  ·obtain ⟨mb,mo,M1,m1,M2,m2,M3,m3,hA,_,d0,d1,d2,d3,d4,d5,d6,d7,d8,d9,RA,Q9,Q8⟩:=HT.out.AA.K5 hlt
   have h1:(0:Int)<=(k:Int):=by omega
   have h2:(k:Int)<(t.AA.length:Int):=by omega
   have BS:=b6;rw[hA] at BS
   by_cases he:(t.AA[k]).id=n
   ·have HE:Hid (an=true/\X=(k:Int)):=⟨by rw[<-RO.out];exact YP hlt (AAT he),by rw[<-ug.out];exact J8 _ k hlt hh (AAT he)⟩
    have q1:((t.AA[k]).id==n)=true:=by simpa using he
    clear he b6;go_wp2;go_ret2;exact ⟨k,by rw[HE.out.1];rfl,fun _=>HE.out.2.symm,HB.out⟩
   ·have q1:((t.AA[k]).id==n)=false:=by simpa using he
    have HN:Hid (∀j (h:j<t.AA.length),j<k+1->decide ((t.AA[j]).id=n)=false):=fun j hj hjk=>by
     by_cases ej:j=k
     ·subst ej;exact AAZ he
     ·exact hh.out j hj (by omega)
    clear he b6;go_wp2
    go_round
    case rel=>exact ⟨k+1,by omega,by go_num,HN.out⟩
    case measure=>simp[intOf];omega
  ·have HE:Hid (an=false):=by show _=_;rw[<-RO.out];exact jD fun j hj=>hh.out j hj (by omega)
   go_wp2
   go_ret2
   exact ⟨0,by rw[HE.out];rfl,fun h=>absurd (HE.out.symm.trans h) (by simp),HB.out⟩
theorem eU (n:Int) (t:Aa) (As:zo) (cs:Nat) (Am:zo) (cm:Nat) (w:World) (ht:JY w t As Am) :
  Calls Tryz.prog 72 #[t.v As cs Am cm,.int .i64 n] w fun e w'=>∃r:Int,e = .returned (.tuple #[.int .i64 r,.bool (t.AV.any fun y=>decide (y.id=n))])/\((t.AV.any fun y=>decide (y.id=n))=true->r=Bg (fun y:Bq=>decide (y.id=n)) t.AV)/\Below w.heap.size w w':=by
 have hl:=ht.AV.1.lt (by omega)
 have HB:=zh (zD w (t.box As cs Am cm));have HX:Hid (CS (w.alloc (t.box As cs Am cm)) w.heap.size t As cs Am cm):=AAL w _;have HT:=zh (ht.below HB);clear ht;obtain ⟨an,han⟩:∃an,(t.AV.any fun y=>decide (y.id=n))=an:=⟨_,rfl⟩
 obtain ⟨X,hX⟩:∃X,Bg (fun y:Bq=>decide (y.id=n)) t.AV=X:=⟨_,rfl⟩
 rw[han,hX];have RO:=zh han;have ug:=zh hX;clear han hX
 go_enter Tryz.func72,Tryz.ntmps72
 go_upto_region 1 with fail
 generalize w.alloc (t.box As cs Am cm)=W1 at *;obtain ⟨b0,b1,b2,b3,b4,b5,b6,b7,b8,b9⟩:=zG HX;go_wp2_with fail
 go_loop [6] (fun i=>∃k:Nat,k<=t.AV.length/\i = .int .i64 (k:Int)/\Hid (∀j (h:j<t.AV.length),j<k->decide ((t.AV[j]).id=n)=false)) (fun i=>t.AV.length - (intOf i).toNat)
 case atStart=>exact ⟨0,by omega,rfl,fun j _ h=>absurd h (by omega)⟩
 case round =>
  obtain ⟨k,hk,rfl,hh⟩:=hrel
  by_cases hlt:k<t.AV.length
  ·obtain ⟨mb,mo,hA,_,d0,d1⟩:=HT.out.AV.at2 hlt
   have h1:(0:Int)<=(k:Int):=by omega
   have h2:(k:Int)<(t.AV.length:Int):=by omega
   have BS:=b5;rw[hA] at BS
   by_cases he:(t.AV[k]).id=n
   ·have HE:Hid (an=true/\X=(k:Int)):=⟨by rw[<-RO.out];exact YP hlt (AAT he),by rw[<-ug.out];exact J8 _ k hlt hh (AAT he)⟩
    have q1:((t.AV[k]).id==n)=true:=by simpa using he
    clear he b5;go_wp2;go_ret2;exact ⟨k,by rw[HE.out.1];rfl,fun _=>HE.out.2.symm,HB.out⟩
   ·have q1:((t.AV[k]).id==n)=false:=by simpa using he
    have HN:Hid (∀j (h:j<t.AV.length),j<k+1->decide ((t.AV[j]).id=n)=false):=fun j hj hjk=>by
     by_cases ej:j=k
     ·subst ej;exact AAZ he
     ·exact hh.out j hj (by omega)
    clear he b5;go_wp2
    go_round
    case rel=>exact ⟨k+1,by omega,by go_num,HN.out⟩
    case measure=>simp[intOf];omega
  ·have HE:Hid (an=false):=by show _=_;rw[<-RO.out];exact jD fun j hj=>hh.out j hj (by omega)
   go_wp2
   go_ret2
   exact ⟨0,by rw[HE.out];rfl,fun h=>absurd (HE.out.symm.trans h) (by simp),HB.out⟩
end Go.Proofs.YthkkllmmbefedaaGreatDoor



