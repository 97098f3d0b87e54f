/-
  Walks: kinds that have names, type words, what is written within, places in a path.
-/
import Derived.Test.YtdfolgmcggdjdaaGreatDoorQRV1
import Derived.Test.YtdfolgmcggdjdaaGreatDoorQPL
import Derived.Test.YtdfolgmcggdjdaaGreatDoorQDM
namespace Go.Proofs.YtdfolgmcggdjdaaGreatDoor
open Go.RowKit
set_option maxHeartbeats 16000000
set_option maxRecDepth 100000
theorem prNamed_any (n:Int) (w:World):Calls Tryz.prog 31 #[.int .i64 n] w fun e w'=>e = .returned (.bool (zH n))∧w=w':=by
 by_cases h1:n=4
 ·subst h1
  go_enter Tryz.func31,Tryz.ntmps31
  go_wp2
  go_ret
  exact ⟨rfl,rfl⟩
 by_cases h2:n=5
 ·subst h2
  go_enter Tryz.func31,Tryz.ntmps31
  go_wp2
  go_ret
  exact ⟨rfl,rfl⟩
 by_cases h3:n=6
 ·subst h3
  go_enter Tryz.func31,Tryz.ntmps31
  go_wp2
  go_ret
  exact ⟨rfl,rfl⟩
 have HL:=zh (show zH n=false by simp[zH,h1,h2,h3])
 have e1:(n==4)=false:=by simp[h1]
 have e2:(n==5)=false:=by simp[h2]
 have e3:(n==6)=false:=by simp[h3]
 clear h1 h2 h3
 go_enter Tryz.func31,Tryz.ntmps31
 go_wp2
 go_ret
 exact ⟨by rw[HL.out];rfl,rfl⟩
theorem strs_new (w:World) (l:List ByteArray) (hl:l.length≤1000) (hs:∀s∈l,SOk s):StrsR (w.alloc (.cells (l.map Value.string).toArray 9)) (some ⟨w.heap.size,0,none⟩) l:=by
 refine ⟨by unfold Lim;omega,fun _=>⟨_,_,rfl,fun i x hx=>⟨encS x,⟨hs x (List.mem_of_getElem? hx),rfl⟩,fun j u hj=>?_⟩⟩⟩
 have hj0:j=0:=by
  have:=(List.getElem?_eq_some_iff.1 hj).1
  unfold encS at this;simp at this;omega
 subst hj0
 have hu:u = .string x:=by unfold encS at hj;simpa using hj.symm
 subst hu
 rw[cell_of_row _ _ _ _ _ _ (heap_alloc_new w _)]
 simp[hx]
theorem indexS_any (l:List ByteArray) (n:ByteArray) (A:Option Addr) (c:Nat) (w:World) (hl:StrsR w A l) :
  Calls Tryz.prog 114 #[.slice A l.length c,.string n] w fun e w'=>∃k:Int,e = .returned (.int .i64 k)∧decide (0≤k)=memD n l∧w=w':=by
 have hn:=hl.1.lt (by omega)
 have HL:=zh hl
 clear hl
 go_enter Tryz.func114,Tryz.ntmps114
 go_wp2
 go_loop [5,8] (fun _ i=>∃k:Nat,k≤l.length∧i = .int .i64 k∧Hid (∀j (hj:j<l.length),j<k→l[j]≠n)) (fun _ i=>l.length - (intOf i).toNat)
 case atStart=>exact ⟨0,by omega,rfl,fun j _ h=>absurd h (by omega)⟩
 case round =>
  obtain ⟨k,hk,rfl,hh⟩:=hrel
  by_cases hlt:k<l.length
  ·obtain ⟨b,o,rfl,_,c0⟩:=HL.out.at1 hlt
   have h1:(0:Int)≤(k:Int):=by omega
   have h2:(k:Int)<(l.length:Int):=by omega
   by_cases he:n=l[k]
   ·have HD:Hid (memD n l=true):=memD_iff.2 (he▸List.getElem_mem hlt)
    have heq:(n.toList==(l[k]).toList)=true:=by rw[zM];simp[he]
    clear he
    go_wp2
    go_ret
    exact ⟨k,rfl,by rw[HD.out];simp,rfl⟩
   ·have HN:=zh he
    have heq:(n.toList==(l[k]).toList)=false:=by rw[zM];simp[he]
    clear he
    go_wp2
    go_round
    case rel =>
     refine ⟨k+1,by omega,by go_num,fun j hj hjk=>?_⟩
     by_cases e:j=k
     ·subst e;exact fun e=>HN.out e.symm
     ·exact hh.out j hj (by omega)
    case measure=>simp[intOf];omega
  ·have HD:Hid (memD n l=false):=by
    cases h:memD n l with
    | false=>rfl
    | true =>
     obtain ⟨j,hj,e⟩:=List.getElem_of_mem (memD_iff.1 h)
     exact absurd e (hh.out j hj (by omega))
   go_wp2
   go_ret
   exact ⟨-1,rfl,by rw[HD.out];rfl,rfl⟩
theorem containsS_any (l:List ByteArray) (n:ByteArray) (A:Option Addr) (c:Nat) (w:World) (hl:StrsR w A l) :
  Calls Tryz.prog 90 #[.slice A l.length c,.string n] w fun e w'=>e = .returned (.bool (memD n l))∧w=w':=by
 have HL:=zh hl
 clear hl
 go_enter Tryz.func90,Tryz.ntmps90
 go_wp2_with fail
 refine (indexS_any l n A c _ HL.out).mono ?_
 rintro e w1 ⟨k,rfl,hk,rfl⟩
 have HK:=zh hk
 clear hk
 go_wp2
 go_ret
 exact ⟨by rw[←HK.out];simp,rfl⟩
theorem words_ok:∀s∈wordsB,SOk s:=by
 intro s hs
 unfold wordsB at hs
 simp only[List.mem_cons,List.mem_nil_iff,or_false] at hs
 unfold SOk
 rcases hs with rfl|rfl|rfl|rfl|rfl|rfl <;> decide
theorem word_any (n:ByteArray) (w:World):Calls Tryz.prog 61 #[.string n] w fun e w'=>e = .returned (.bool (wordD n))∧Below w.heap.size w w':=by
 go_enter Tryz.func61,Tryz.ntmps61
 go_wp2_with fail
 refine (containsS_any wordsB n (some ⟨w.heap.size,0,none⟩) 6 _ (strs_new w wordsB (by decide) words_ok)).mono ?_
 rintro e w1 ⟨rfl,rfl⟩
 go_wp2
 go_ret
 exact ⟨rfl,zD _ _⟩
theorem rWords_any (w:World):Calls Tryz.prog 112 #[] w fun e w'=>e = .returned (.slice (some ⟨w.heap.size,0,none⟩) 6 6)∧StrsR w' (some ⟨w.heap.size,0,none⟩) wordsB∧Below w.heap.size w w':=by
 go_enter Tryz.func112,Tryz.ntmps112
 go_wp2
 go_ret
 exact ⟨rfl,strs_new w wordsB (by decide) words_ok,zD _ _⟩
theorem rWord_any (n:ByteArray) (w:World):Calls Tryz.prog 85 #[.string n] w fun e w'=>e = .returned (.bool (wordD n))∧Below w.heap.size w w':=by
 go_enter Tryz.func85,Tryz.ntmps85
 go_wp2
 go_loopw [3] (fun i wr=>∃k:Nat,k≤6∧i = .int .i64 k∧Hid ((∀j (hj:j<wordsB.length),j<k→wordsB[j]≠n)∧Below w.heap.size w wr)) (fun i _=>6 - (intOf i).toNat)
 case atStart=>exact ⟨0,by omega,rfl,(fun j _ h=>absurd h (by omega)),Below.refl _ _⟩
 case round =>
  obtain ⟨k,hk,rfl,hh⟩:=hrel
  obtain ⟨wk,rfl⟩:∃wk:World,wk=wr:=⟨_,rfl⟩
  have HN:=zh hh.out.1
  have HB:=zh hh.out.2
  clear hh
  go_wp2_with fail
  refine (rWords_any _).mono ?_
  rintro e w1 ⟨rfl,_,hb1⟩
  have HB1:=zh (zA HB.out hb1)
  clear hb1
  by_cases hlt:k<6
  ·have hk6:k<wordsB.length:=hlt
   have h1:(0:Int)≤(k:Int):=by omega
   have h2:(k:Int)<6:=by omega
   go_wp2_with fail
   refine (rWords_any _).mono ?_
   rintro e w2 ⟨rfl,hs2,hb2⟩
   obtain ⟨b,o,eb,_,c0⟩:=hs2.at1 hk6
   injection eb with eb
   injection eb with eb1 eb2 _
   subst eb1
   subst eb2
   rw[Nat.zero_add] at c0
   have HB2:=zh (zA HB1.out hb2)
   clear hs2 hb2
   by_cases he:wordsB[k]=n
   ·have HD:Hid (wordD n=true):=memD_iff.2 (he▸List.getElem_mem hk6)
    have heq:((wordsB[k]).toList==n.toList)=true:=by rw[zM];simp[he]
    clear he
    go_wp2
    go_ret
    exact ⟨by rw[HD.out];rfl,HB2.out⟩
   ·have HE:=zh he
    have heq:((wordsB[k]).toList==n.toList)=false:=by rw[zM];simp[he]
    clear he
    go_wp2
    go_roundw
    case rel =>
     refine ⟨k+1,by omega,by go_num,fun j hj hjk=>?_,HB2.out⟩
     by_cases e:j=k
     ·subst e;exact HE.out
     ·exact HN.out j hj (by omega)
    case measure=>simp[intOf];omega
  ·have HD:Hid (wordD n=false):=by
    show _=_
    cases h:wordD n with
    | false=>rfl
    | true =>
     obtain ⟨j,hj,e⟩:=List.getElem_of_mem (memD_iff.1 h)
     exact absurd e (HN.out j hj (Nat.lt_of_lt_of_le hj (by show 6≤k;omega)))
   go_wp2
   go_ret
   exact ⟨by rw[HD.out];rfl,HB1.out⟩
theorem has_any (l:List Int) (n:Int) (A:Option Addr) (c:Nat) (w:World) (hl:IntsR w A l) :
  Calls Tryz.prog 82 #[.slice A l.length c,.int .i64 n] w fun e w'=>e = .returned (.bool (memD n l))∧w=w':=by
 have hn:=hl.1.lt (by omega)
 have HL:=zh hl
 clear hl
 go_enter Tryz.func82,Tryz.ntmps82
 go_wp2
 go_loop [5] (fun i=>∃k:Nat,k≤l.length∧i = .int .i64 k∧Hid (∀j (hj:j<l.length),j<k→l[j]≠n)) (fun i=>l.length - (intOf i).toNat)
 case atStart=>exact ⟨0,by omega,rfl,fun j _ h=>absurd h (by omega)⟩
 case round =>
  obtain ⟨k,hk,rfl,hh⟩:=hrel
  by_cases hlt:k<l.length
  ·obtain ⟨b,o,rfl,c0⟩:=HL.out.at1 hlt
   have h1:(0:Int)≤(k:Int):=by omega
   have h2:(k:Int)<(l.length:Int):=by omega
   by_cases he:l[k]=n
   ·have HD:Hid (memD n l=true):=memD_iff.2 (he▸List.getElem_mem hlt)
    have heq:(l[k]==n)=true:=by simp[he]
    clear he
    go_wp2
    go_ret
    exact ⟨by rw[HD.out];rfl,rfl⟩
   ·have HN:=zh he
    have heq:(l[k]==n)=false:=by simp[he]
    clear he
    go_wp2
    go_round
    case rel =>
     refine ⟨k+1,by omega,by go_num,fun j hj hjk=>?_⟩
     by_cases e:j=k
     ·subst e;exact HN.out
     ·exact hh.out j hj (by omega)
    case measure=>simp[intOf];omega
  ·have HD:Hid (memD n l=false):=by
    show _=_
    cases h:memD n l with
    | false=>rfl
    | true =>
     obtain ⟨j,hj,e⟩:=List.getElem_of_mem (memD_iff.1 h)
     exact absurd e (hh.out j hj (by omega))
   go_wp2
   go_ret
   exact ⟨by rw[HD.out];rfl,rfl⟩
end Go.Proofs.YtdfolgmcggdjdaaGreatDoor


