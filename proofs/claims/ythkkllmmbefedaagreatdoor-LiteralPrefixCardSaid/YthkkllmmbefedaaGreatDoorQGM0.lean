/-
  Walks: the reference's Member, Symbol, Compare.
-/
import Derived.Test.YthkkllmmbefedaaGreatDoorQGA9
namespace Go.Proofs.YthkkllmmbefedaaGreatDoor
open Go.RowKit Tryz
set_option maxHeartbeats 16000000
set_option maxRecDepth 100000
def NZ (less eq:Bool):Int:=if eq then 0 else if less then -1 else 1
theorem FK (less eq:Bool) (w:World) :
  Calls prog 154 #[.bool less,.bool eq] w fun e w'=>e = .returned (.int .i64 (NZ less eq))/\w'=w:=by
 cases eq with
 | true =>
  go_enter func154,ntmps154
  go_wp2
  go_ret
  exact ⟨rfl,rfl⟩
 | false =>
  cases less with
  | true =>
   go_enter func154,ntmps154
   go_wp2
   go_ret
   exact ⟨rfl,rfl⟩
  | false =>
   go_enter func154,ntmps154
   go_wp2
   go_ret
   exact ⟨rfl,rfl⟩
theorem Uy (n:Int) (h:In64 n) (w:World) :
  Calls prog 155 #[.int .i64 n] w fun e w'=>e = .returned (.int .u64 (Qy n))/\w'=w:=by
 unfold In64 at h
 by_cases h0:0<=n
 ·have HD:Hid (Qy n=2 * n):=AAB h0
  have u1:IntKind.u64.wrap n=n:=by rw[IntKind.wrap_u64];omega
  have u2:IntKind.u64.wrap (2 * n)=2 * n:=by rw[IntKind.wrap_u64];omega
  go_enter func155,ntmps155
  go_wp2
  go_ret
  exact ⟨by rw[HD.O];rfl,rfl⟩
 ·have HD:Hid (Qy n = -2 * n - 1):=Pd h0
  have u0:IntKind.i64.wrap (n+1)=n+1:=by rw[IntKind.wrap_i64];omega
  have u3:IntKind.i64.wrap (-(n+1)) = -(n+1):=by rw[IntKind.wrap_i64];omega
  have u1:IntKind.u64.wrap (-(n+1)) = -(n+1):=by rw[IntKind.wrap_u64];omega
  have u2:IntKind.u64.wrap (2 * -(n+1))=2 * -(n+1):=by rw[IntKind.wrap_u64];omega
  have u4:IntKind.u64.wrap (2 * -(n+1)+1)=2 * -(n+1)+1:=by rw[IntKind.wrap_u64];omega
  go_enter func155,ntmps155
  go_wp2
  go_ret
  refine ⟨?_,rfl⟩;rw[HD.O,show -2 * n - 1=2 * -(n+1)+1 by omega]
  rfl
theorem Zg:∀l:List UInt8,Go.Op.bytesLess l l=false
 | []=>by simp[Go.Op.bytesLess]
 | x::xs=>by simp[Go.Op.bytesLess,Zg xs]
theorem kI (a:ByteArray):nP a a=false:=Zg _
theorem uT {a b:Int} (h:Qy a=Qy b):a=b:=by
 unfold Qy at h
 split at h <;> split at h <;> omega
variable {a b:Val}
theorem ABC (hk:a.kind=b.kind) (e:a.kind=1):BZ a b=NZ b.bool (a.bool==b.bool):=by
 unfold BZ;rw[Pd (by simp[hk]),AAB e]
 cases a.bool <;> cases b.bool <;> rfl
theorem ABB (hk:a.kind=b.kind) (e:a.kind=2):BZ a b=NZ (decide (Qy a.int<Qy b.int)) (a.int==b.int):=by
 unfold BZ;rw[Pd (by simp[hk]),Pd (by omega),AAB e]
 unfold Dz NZ
 by_cases h:a.int=b.int
 ·rw[h,Pd (by omega),AAB rfl,AAB (by simp)]
 ·rw[Pd (c:=(a.int==b.int)=true) (by simpa using h)]
  by_cases h2:Qy a.int<Qy b.int
  ·rw[AAB h2,AAB (by simpa using h2)]
  ·rw[Pd h2,Pd (fun g=>h (uT g)),Pd (by simpa using h2)]
theorem wV (hk:a.kind=b.kind) (e:a.kind=3) (h:¬ (a.str.size:Int)=b.str.size):BZ a b=NZ (decide ((a.str.size:Int)<b.str.size)) false:=by
 unfold BZ;rw[Pd (by simp[hk]),Pd (by omega),Pd (by omega),AAB e]
 have h1:Dz a.str.size b.str.size=NZ (decide ((a.str.size:Int)<b.str.size)) false:=by
  unfold Dz NZ;rw[Pd (c:=(false=true)) (by simp)]
  by_cases h2:(a.str.size:Int)<b.str.size
  ·rw[AAB h2,AAB (by simpa using h2)]
  ·rw[Pd h2,Pd h,Pd (by simpa using h2)]
 rw[h1,AAB];unfold NZ;rw[Pd (c:=(false=true)) (by simp)]
 split <;> decide
theorem wU (hk:a.kind=b.kind) (e:a.kind=3) (h:(a.str.size:Int)=b.str.size):BZ a b=NZ (nP a.str b.str) (decide (a.str=b.str)):=by
 unfold BZ;rw[Pd (by simp[hk]),Pd (by omega),Pd (by omega),AAB e,Pd]
 ·unfold Ot NZ
  by_cases h1:a.str=b.str
  ·rw[AAB (c:=decide (a.str=b.str)=true) (by simpa using h1),AAB h1]
   cases hl:nP a.str b.str with
   | true=>rw[h1] at hl;exact absurd hl (by rw[kI];simp)
   | false=>rfl
  ·rw[Pd (c:=decide (a.str=b.str)=true) (by simpa using h1),Pd h1]
 ·unfold Dz
  rw[h,Pd (by omega),AAB rfl]
  simp
theorem ABA (hk:a.kind=b.kind) (e:a.kind=4):BZ a b=NZ (decide (a.id<b.id)) (a.id==b.id):=by
 unfold BZ;rw[Pd (by simp[hk]),Pd (by omega),Pd (by omega),Pd (by omega),AAB e]
 unfold Dz NZ
 by_cases h:a.id=b.id
 ·rw[h,Pd (by omega),AAB rfl,AAB (by simp)]
 ·rw[Pd (c:=(a.id==b.id)=true) (by simpa using h),Pd h]
  by_cases h2:a.id<b.id
  ·rw[AAB h2,AAB (by simpa using h2)]
  ·rw[Pd h2,Pd (by simpa using h2)]
theorem jP (n:Int) (t:Aa) (As:zo) (cs:Nat) (Am:zo) (cm:Nat) (w:World) (ht:J4 w t As Am) :
  Calls prog 61 #[t.v As cs Am cm,.int .i64 n] w fun e w'=>∃r:Int,e = .returned (.tuple #[.int .i64 r,.bool (t.AA.any fun y=>decide (y.id=n))])/\((t.AA.any fun y=>decide (y.id=n))=true->r=Bt (fun y:Ac=>decide (y.id=n)) t.AA)/\Below w.heap.size w w':=by
 have hl:=ht.AA.1.lt (by omega)
 have HB:=zh (zD w (t.box As cs Am cm));have HX:Hid (Ca (w.alloc (t.box As cs Am cm)) w.heap.size t As cs Am cm):=AAA w _;have HT:=zh (ht.below HB);clear ht;obtain ⟨an,han⟩:∃an,(t.AA.any fun y=>decide (y.id=n))=an:=⟨_,rfl⟩
 obtain ⟨X,hX⟩:∃X,Bt (fun y:Ac=>decide (y.id=n)) t.AA=X:=⟨_,rfl⟩
 rw[han,hX];have SE:=zh han;have yR:=zh hX;clear han hX
 go_enter func61,ntmps61
 go_upto_region 1 with fail
 generalize w.alloc (t.box As cs Am cm)=W1 at *;obtain ⟨b0,b1,b2,b3,b4,b5,b6,b7,b8,b9⟩:=zG HX;go_wp2_with fail
 go_loop [6] (fun i=>∃k:Nat,k<=t.AA.length/\i = .int .i64 (k:Int)/\Hid (∀j (h:j<t.AA.length),j<k->decide ((t.AA[j]).id=n)=false)) (fun i=>t.AA.length - (intOf i).toNat)
 case atStart=>exact ⟨0,by omega,rfl,fun j _ h=>absurd h (by omega)⟩
 case round =>
  obtain ⟨k,hk,rfl,hh⟩:=hrel
  by_cases hlt:k<t.AA.length
  ·obtain ⟨mb,mo,M1,m1,M2,m2,M3,m3,hA,_,d0,d1,d2,d3,d4,d5,d6,d7,d8,d9,UB,UA,T9⟩:=HT.O.AA.Mk hlt
   have h1:(0:Int)<=(k:Int):=by omega
   have h2:(k:Int)<(t.AA.length:Int):=by omega
   have BL:=b6;rw[hA] at BL
   by_cases he:(t.AA[k]).id=n
   ·have HE:Hid (an=true/\X=(k:Int)):=⟨by rw[<-SE.O];exact Zm hlt (AAJ he),by rw[<-yR.O];exact Ka _ k hlt hh (AAJ he)⟩
    have q1:((t.AA[k]).id==n)=true:=by simpa using he
    clear he b6;go_wp2;go_ret2;exact ⟨k,by rw[HE.O.1];rfl,fun _=>HE.O.2.symm,HB.O⟩
   ·have q1:((t.AA[k]).id==n)=false:=by simpa using he
    have HN:Hid (∀j (h:j<t.AA.length),j<k+1->decide ((t.AA[j]).id=n)=false):=fun j hj hjk=>by
     by_cases ej:j=k
     ·subst ej;exact AAP he
     ·exact hh.O j hj (by omega)
    clear he b6;go_wp2
    go_round
    case rel=>exact ⟨k+1,by omega,by go_num,HN.O⟩
    case measure=>simp[intOf];omega
  ·have HE:Hid (an=false):=by show _=_;rw[<-SE.O];exact mQ fun j hj=>hh.O j hj (by omega)
   go_wp2
   go_ret2
   exact ⟨0,by rw[HE.O];rfl,fun h=>absurd (HE.O.symm.trans h) (by simp),HB.O⟩
theorem jN (n:Int) (t:Aa) (As:zo) (cs:Nat) (Am:zo) (cm:Nat) (w:World) (ht:J4 w t As Am) :
  Calls prog 72 #[t.v As cs Am cm,.int .i64 n] w fun e w'=>∃r:Int,e = .returned (.tuple #[.int .i64 r,.bool (t.AX.any fun y=>decide (y.id=n))])/\((t.AX.any fun y=>decide (y.id=n))=true->r=Bt (fun y:Bu=>decide (y.id=n)) t.AX)/\Below w.heap.size w w':=by
 have hl:=ht.AX.1.lt (by omega)
 have HB:=zh (zD w (t.box As cs Am cm));have HX:Hid (Ca (w.alloc (t.box As cs Am cm)) w.heap.size t As cs Am cm):=AAA w _;have HT:=zh (ht.below HB);clear ht;obtain ⟨an,han⟩:∃an,(t.AX.any fun y=>decide (y.id=n))=an:=⟨_,rfl⟩
 obtain ⟨X,hX⟩:∃X,Bt (fun y:Bu=>decide (y.id=n)) t.AX=X:=⟨_,rfl⟩
 rw[han,hX];have SE:=zh han;have yR:=zh hX;clear han hX
 go_enter func72,ntmps72
 go_upto_region 1 with fail
 generalize w.alloc (t.box As cs Am cm)=W1 at *;obtain ⟨b0,b1,b2,b3,b4,b5,b6,b7,b8,b9⟩:=zG HX;go_wp2_with fail
 go_loop [6] (fun i=>∃k:Nat,k<=t.AX.length/\i = .int .i64 (k:Int)/\Hid (∀j (h:j<t.AX.length),j<k->decide ((t.AX[j]).id=n)=false)) (fun i=>t.AX.length - (intOf i).toNat)
 case atStart=>exact ⟨0,by omega,rfl,fun j _ h=>absurd h (by omega)⟩
 case round =>
  obtain ⟨k,hk,rfl,hh⟩:=hrel
  by_cases hlt:k<t.AX.length
  ·obtain ⟨mb,mo,hA,_,d0,d1⟩:=HT.O.AX.at2 hlt
   have h1:(0:Int)<=(k:Int):=by omega
   have h2:(k:Int)<(t.AX.length:Int):=by omega
   have BL:=b5;rw[hA] at BL
   by_cases he:(t.AX[k]).id=n
   ·have HE:Hid (an=true/\X=(k:Int)):=⟨by rw[<-SE.O];exact Zm hlt (AAJ he),by rw[<-yR.O];exact Ka _ k hlt hh (AAJ he)⟩
    have q1:((t.AX[k]).id==n)=true:=by simpa using he
    clear he b5;go_wp2;go_ret2;exact ⟨k,by rw[HE.O.1];rfl,fun _=>HE.O.2.symm,HB.O⟩
   ·have q1:((t.AX[k]).id==n)=false:=by simpa using he
    have HN:Hid (∀j (h:j<t.AX.length),j<k+1->decide ((t.AX[j]).id=n)=false):=fun j hj hjk=>by
     by_cases ej:j=k
     ·subst ej;exact AAP he
     ·exact hh.O j hj (by omega)
    clear he b5;go_wp2
    go_round
    case rel=>exact ⟨k+1,by omega,by go_num,HN.O⟩
    case measure=>simp[intOf];omega
  ·have HE:Hid (an=false):=by show _=_;rw[<-SE.O];exact mQ fun j hj=>hh.O j hj (by omega)
   go_wp2
   go_ret2
   exact ⟨0,by rw[HE.O];rfl,fun h=>absurd (HE.O.symm.trans h) (by simp),HB.O⟩
