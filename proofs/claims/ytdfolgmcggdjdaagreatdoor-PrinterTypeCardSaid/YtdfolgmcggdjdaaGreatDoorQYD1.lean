/-
  Walks: word, slices.Contains of numbers, schema.Uses.
-/
import Derived.Test.YtdfolgmcggdjdaaGreatDoorQYD0
namespace Go.Proofs.YtdfolgmcggdjdaaGreatDoor
open Go.RowKit
set_option maxHeartbeats 16000000
set_option maxRecDepth 100000
def wordK (k:Int):ByteArray:=[⟨#[]⟩,⟨#[98,111,111,108]⟩,⟨#[105,110,116]⟩,⟨#[115,116,114,105,110,103]⟩,⟨#[101,110,117,109]⟩,⟨#[114,101,99,111,114,100]⟩,⟨#[117,110,105,111,110]⟩,⟨#[108,105,115,116]⟩,⟨#[109,97,112]⟩,(⟨#[111,112,116,105,111,110,97,108]⟩:ByteArray)].getD k.toNat ⟨#[]⟩
theorem wordK_any (k:Int) (h:1≤k∧k≤9) (w:World):Calls Tryz.prog 46 #[.int .i64 k] w fun e w'=>e = .returned (.string (wordK k))∧Below w.heap.size w w':=by
 have HB:=zh (fun o:Obj=>zD w o)
 have hk:k=1∨k=2∨k=3∨k=4∨k=5∨k=6∨k=7∨k=8∨k=9:=by omega
 clear h
 rcases hk with rfl|rfl|rfl|rfl|rfl|rfl|rfl|rfl|rfl <;>
 ·go_enter Tryz.func46,Tryz.ntmps46
  go_wp2
  go_ret
  exact ⟨rfl,HB.out _⟩
theorem indexI_any (l:List Int) (x:Int) (A:Option Addr) (c:Nat) (w:World) (hl:IntsR w A l) :
  Calls Tryz.prog 107 #[.slice A l.length c,.int .i64 x] w fun e w'=>∃r:Int,e = .returned (.int .i64 r)∧(0≤r↔x∈l)∧Below w.heap.size w w':=by
 have hn:=hl.1.lt (by omega)
 have HL:=zh hl
 clear hl
 go_enter Tryz.func107,Tryz.ntmps107
 go_wp2
 go_loopw [8] (fun i wr=>∃k:Nat,k≤l.length∧i = .int .i64 (k:Int)∧Hid ((∀j (h:j<l.length),j<k→l[j]≠x)∧Below w.heap.size w wr)) (fun i _=>l.length - (intOf i).toNat)
 case atStart=>exact ⟨0,by omega,rfl,(fun j _ h=>absurd h (by omega)),Below.refl _ _⟩
 case round =>
  obtain ⟨k,hk,rfl,hh⟩:=hrel
  have HH:=zh hh.out.1
  have HB:=zh hh.out.2
  clear hh
  by_cases hlt:k<l.length
  ·obtain ⟨b,o,rfl,i3⟩:=(HL.out.below HB.out).at1 hlt
   have h1:(0:Int)≤(k:Int):=by omega
   have h2:(k:Int)<(l.length:Int):=by omega
   by_cases he:x=l[k]
   ·have q1:(x==l[k])=true:=by simp[he]
    have HM:Hid (x∈l):=he▸List.getElem_mem hlt
    have HK:Hid ((0:Int)≤(k:Int)):=h1
    clear he
    go_wp2
    go_ret
    exact ⟨(k:Int),rfl,⟨fun _=>HM.out,fun _=>HK.out⟩,HB.out⟩
   ·have q1:(x==l[k])=false:=by simp[he]
    have HN:Hid (∀j (h:j<l.length),j<k+1→l[j]≠x):=fun j h hj=>by
     by_cases e:j=k
     ·subst e;exact fun e2=>he e2.symm
     ·exact HH.out j h (by omega)
    clear he
    go_wp2_with fail
    go_roundw
    case rel=>exact ⟨k+1,by omega,by go_num,HN.out,HB.out⟩
    case measure=>simp[intOf];omega
  ·have HN:Hid (x ∉ l):=fun hm=>by
    obtain ⟨j,hj,e⟩:=List.getElem_of_mem hm
    exact HH.out j hj (by omega) e
   go_wp2
   go_ret
   exact ⟨-1,rfl,⟨fun h=>absurd h (by decide),fun h=>absurd h HN.out⟩,HB.out⟩
theorem containsI_any (l:List Int) (x:Int) (A:Option Addr) (c:Nat) (w:World) (hl:IntsR w A l) :
  Calls Tryz.prog 77 #[.slice A l.length c,.int .i64 x] w fun e w'=>e = .returned (.bool (decide (x∈l)))∧Below w.heap.size w w':=by
 have HL:=zh hl
 clear hl
 go_enter Tryz.func77,Tryz.ntmps77
 go_wp2_with fail
 refine (indexI_any l x A c w HL.out).mono ?_
 rintro e w2 ⟨r,rfl,hr,hb⟩
 have HQ:Hid (decide (0≤r)=decide (x∈l)):=by show _=_;rw[decide_eq_decide];exact hr
 have HB:=zh hb
 clear hr hb
 go_wp2
 go_ret
 exact ⟨by rw[←HQ.out];rfl,HB.out⟩
def onceL (l:List Int):List Int:=l.foldl (fun a u=>if u∈a then a else a++[u]) []
theorem once_take {l:List Int} {k:Nat} (h:k<l.length):onceL (l.take (k+1))=if l[k]∈onceL (l.take k) then onceL (l.take k) else onceL (l.take k)++[l[k]]:=by
 unfold onceL
 rw[List.take_add_one,zl h,Option.toList_some,List.foldl_append]
 rfl
theorem once_len (l:List Int):∀k,k≤l.length→(onceL (l.take k)).length≤k
 | 0,_=>by simp[onceL]
 | k+1,h=>by
  have:=once_len l k (by omega)
  rw[once_take h]
  split
  ·omega
  ·rw[List.length_append,List.length_singleton];omega
theorem known_any (s:List TyD) (t:Int) (A:Option Addr) (c:Nat) (hv:zG s=0) (hr:0≤t∧t<(s.length:Int)) (w:World) (hs:TysR w A s) :
  Calls Tryz.prog 76 #[.agg #[.slice A s.length c],.int .i64 t] w fun e w'=>e = .returned (.int .i64 0)∧Below w.heap.size w w':=by
 have hls:=yD hv
 have HS:=zh hs
 have HV:=zh hv
 have HB0:=zh (zD w (.cells #[.slice A s.length c] 27))
 have HX0:=zh (heap_alloc_new w (.cells #[.slice A s.length c] 27))
 have q0:¬ t<0:=by omega
 have q1:¬ (s.length:Int)≤t:=by omega
 clear hs hv
 go_enter Tryz.func76,Tryz.ntmps76
 go_wp2_with fail
 generalize w.alloc (.cells #[.slice A s.length c] 27)=W1 at *
 refine (valid_any s A c W1 (HS.out.below HB0.out)).mono ?_
 rintro e w1 ⟨rfl,hb1⟩
 rw[HV.out]
 have HB1:=zh (zA HB0.out hb1)
 have x0:w1.cell? ⟨w.heap.size,0,none⟩=some (.slice A s.length c):=by rw[cell_of_row _ _ _ _ _ _ (yE HX0.out hb1)];rfl
 clear hb1
 go_wp2
 go_ret
 exact ⟨rfl,HB1.out⟩
end Go.Proofs.YtdfolgmcggdjdaaGreatDoor


