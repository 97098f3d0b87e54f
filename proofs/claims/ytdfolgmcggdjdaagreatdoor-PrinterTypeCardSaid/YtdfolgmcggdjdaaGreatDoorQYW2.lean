/-
  Walks: decimal texts of the reference, joined texts, what is written within a type.
-/
import Derived.Test.YtdfolgmcggdjdaaGreatDoorQYW1
import Derived.Test.YtdfolgmcggdjdaaGreatDoorQDM
import Derived.Lib.ItoaNum
import Derived.Lib.ItoaLen
namespace Go.Proofs.YtdfolgmcggdjdaaGreatDoor
open Go.RowKit
set_option maxHeartbeats 16000000
set_option maxRecDepth 100000
theorem enc_dig {r:Nat} (h:r<10):Utf8.encode (48+(r:Int))=⟨#[UInt8.ofNat (48+r)]⟩:=by
 match r,h with
 | 0,_=>rfl
 | 1,_=>rfl
 | 2,_=>rfl
 | 3,_=>rfl
 | 4,_=>rfl
 | 5,_=>rfl
 | 6,_=>rfl
 | 7,_=>rfl
 | 8,_=>rfl
 | 9,_=>rfl
theorem dec_lt {n:Nat} (h:n<10):decB (n:Int)=Utf8.encode (48+(n:Int)):=by
 rw[enc_dig h]
 unfold decB Lib.itoa
 rw[if_neg (by omega),Int.toNat_natCast,Lib.decDigits,dif_pos h]
theorem dec_ge {n:Nat} (h:¬ n<10):decB (n:Int)=decB ((n / 10:Nat):Int)++Utf8.encode (48+((n % 10:Nat):Int)):=by
 rw[enc_dig (Nat.mod_lt _ (by omega))]
 unfold decB Lib.itoa
 rw[if_neg (by omega),if_neg (by omega),Int.toNat_natCast,Int.toNat_natCast,Lib.decDigits,dif_neg h]
 apply ByteArray.ext
 rw[ByteArray.data_append]
 simp
theorem dec_neg {n:Nat} (h:1≤n):decB (-(n:Int))=(⟨#[45]⟩:ByteArray)++decB (n:Int):=by
 unfold decB Lib.itoa
 rw[if_pos (by omega),if_neg (by omega),Int.natAbs_neg,Int.natAbs_natCast,Int.toNat_natCast]
 apply ByteArray.ext
 rw[ByteArray.data_append]
 simp
theorem dec_size {n:Nat} (h:n<18446744073709551616):(decB (n:Int)).size≤20:=by
 unfold decB Lib.itoa
 rw[if_neg (by omega),Int.toNat_natCast]
 show (Lib.decDigits n).toArray.size≤20
 rw[List.size_toArray,Lib.decDigits_length]
 exact Lib.nDigits_le20 n (by omega)
theorem enc_size {r:Nat} (h:r<10):(Utf8.encode (48+(r:Int))).size=1:=by rw[enc_dig h];rfl
theorem natural_any:∀ (n:Nat) (w:World),n<18446744073709551616→Calls Tryz.prog 80 #[.int .u64 n] w fun e w'=>e = .returned (.string (decB n))∧w=w':=by
 intro n
 induction n using Nat.strongRecOn with
 | _ n ih =>
 intro w hn
 by_cases h:n<10
 ·have h1:(n:Int)<10:=by omega
  have HD:=zh (dec_lt h)
  go_enter Tryz.func80,Tryz.ntmps80
  go_wp2
  go_ret
  exact ⟨by rw[HD.out];rfl,rfl⟩
 ·have h1:¬ (n:Int)<10:=by omega
  have HD:=zh (dec_ge h)
  have HI:=zh (ih (n / 10) (by omega) w (by omega))
  obtain ⟨q,hq⟩:∃q,q=n / 10:=⟨_,rfl⟩
  obtain ⟨r,hr⟩:∃r,r=n % 10:=⟨_,rfl⟩
  have hr10:r<10:=by omega
  have hq2:q<18446744073709551616:=by omega
  have ed1:(n:Int).tdiv 10=(q:Int):=by rw[hq];rfl
  have ed2:(n:Int) / 10=(q:Int):=by omega
  have em1:(n:Int).tmod 10=(r:Int):=by rw[hr];rfl
  have em2:(n:Int) % 10=(r:Int):=by omega
  rw[←hq] at HD HI
  rw[←hr] at HD
  have hz1:=dec_size hq2
  have hz2:=enc_size hr10
  have n1:¬ 9223372036854775807<(decB (q:Int)).size+(Utf8.encode (48+(r:Int))).size:=by omega
  have n2:¬ 9223372036854775807<(decB (q:Int)).size+1:=by omega
  clear hz1 hz2
  clear ih h hq hr
  go_enter Tryz.func80,Tryz.ntmps80
  go_wp2_with fail
  refine HI.out.mono ?_
  rintro e w1 ⟨rfl,rfl⟩
  go_wp2
  go_ret
  exact ⟨by rw[HD.out];rfl,rfl⟩
theorem digits_any (n:Int) (hn:In64 n) (w:World):Calls Tryz.prog 49 #[.int .i64 n] w fun e w'=>e = .returned (.string (decB n))∧w=w':=by
 obtain ⟨hn1,hn2⟩:=hn
 by_cases h:n<0
 ·obtain ⟨m,hm⟩:∃m:Nat,n = -((m:Int)+1):=⟨(-(n+1)).toNat,by omega⟩
  subst hm
  have hm2:(m:Int)≤9223372036854775807:=by omega
  have HD:Hid (decB (-((m:Int)+1))=(⟨#[45]⟩:ByteArray)++decB ((m+1:Nat):Int)):=by
   have:=dec_neg (n:=m+1) (by omega)
   rw[show ((m+1:Nat):Int)=(m:Int)+1 by omega] at this ⊢
   exact this
  have e1:-((m:Int)+1)+1 = -(m:Int):=by omega
  have e2:- -(m:Int)=(m:Int):=by omega
  have HI:=zh (natural_any (m+1) w (by omega))
  have e3:((m+1:Nat):Int)=(m:Int)+1:=by omega
  rw[e3] at HI HD
  have n1:¬ 9223372036854775807<1+(decB ((m:Int)+1)).size:=by
   have:=dec_size (n:=m+1) (by omega)
   rw[e3] at this;omega
  clear hn1 hn2
  go_enter Tryz.func49,Tryz.ntmps49
  go_wp2_with fail
  refine HI.out.mono ?_
  rintro e w1 ⟨rfl,rfl⟩
  go_wp2
  go_ret
  exact ⟨by rw[HD.out];rfl,rfl⟩
 ·obtain ⟨m,rfl⟩:=Int.eq_ofNat_of_zero_le (Int.not_lt.1 h)
  have HI:=zh (natural_any m w (by omega))
  go_enter Tryz.func49,Tryz.ntmps49
  go_wp2_with fail
  refine HI.out.mono ?_
  rintro e w1 ⟨rfl,rfl⟩
  go_wp2
  go_ret
  exact ⟨rfl,rfl⟩
end Go.Proofs.YtdfolgmcggdjdaaGreatDoor


