/-
  Walks: IDs and names, in package schema.
-/
import Derived.Test.YtdfolgmcggdjdaaGreatDoorQDM
import Derived.Test.YtdfolgmcggdjdaaGreatDoorQPL
import Derived.Test.YtdfolgmcggdjdaaGreatDoorQEQA
import Derived.Lib.Bytealg
namespace Go.Proofs.YtdfolgmcggdjdaaGreatDoor
open Go.RowKit
set_option maxHeartbeats 16000000
set_option maxRecDepth 100000
theorem isLetter_any (n : Int) (w : World) : Calls Tryz.prog 123 #[.int .u8 n] w fun e w' => e = .returned (.bool (letC n)) ∧ w = w' := by
  by_cases h1 : n = 95
  · subst h1
    go_enter Tryz.func123, Tryz.ntmps123
    go_wp2
    go_ret
    exact ⟨rfl, rfl⟩
  have e1 : (n == 95) = false := by simp [h1]
  by_cases h2 : 97 ≤ n <;> by_cases h3 : n ≤ 122 <;> by_cases h4 : 65 ≤ n <;> by_cases h5 : n ≤ 90
  all_goals first
    | (exfalso; omega)
    | (have HL := zh (show letC n = _ by unfold letC; simp only [h1, h2, h3, h4, h5]; rfl)
       clear h1
       go_enter Tryz.func123, Tryz.ntmps123
       go_wp2
       go_ret
       exact ⟨by rw [HL.out]; rfl, rfl⟩)
theorem letter_any (n : Int) (w : World) : Calls Tryz.prog 131 #[.int .u8 n] w fun e w' => e = .returned (.bool (letC n)) ∧ w = w' := by
  by_cases h1 : n = 95
  · subst h1
    go_enter Tryz.func131, Tryz.ntmps131
    go_wp2
    go_ret
    exact ⟨rfl, rfl⟩
  have e1 : (n == 95) = false := by simp [h1]
  by_cases h2 : 97 ≤ n <;> by_cases h3 : n ≤ 122 <;> by_cases h4 : 65 ≤ n <;> by_cases h5 : n ≤ 90
  all_goals first
    | (exfalso; omega)
    | (have HL := zh (show letC n = _ by unfold letC; simp only [h1, h2, h3, h4, h5]; rfl)
       clear h1
       go_enter Tryz.func131, Tryz.ntmps131
       go_wp2
       go_ret
       exact ⟨by rw [HL.out]; rfl, rfl⟩)
theorem isDigit_any (n : Int) (w : World) : Calls Tryz.prog 124 #[.int .u8 n] w fun e w' => e = .returned (.bool (digI n)) ∧ w = w' := by
  by_cases h2 : 48 ≤ n <;> by_cases h3 : n ≤ 57
  all_goals
    (have HL := zh (show digI n = _ by unfold digI; simp only [h2, h3]; rfl)
     go_enter Tryz.func124, Tryz.ntmps124
     go_wp2
     go_ret
     exact ⟨by rw [HL.out]; rfl, rfl⟩)
theorem digit_any (n : Int) (w : World) : Calls Tryz.prog 132 #[.int .u8 n] w fun e w' => e = .returned (.bool (digI n)) ∧ w = w' := by
  by_cases h2 : 48 ≤ n <;> by_cases h3 : n ≤ 57
  all_goals
    (have HL := zh (show digI n = _ by unfold digI; simp only [h2, h3]; rfl)
     go_enter Tryz.func132, Tryz.ntmps132
     go_wp2
     go_ret
     exact ⟨by rw [HL.out]; rfl, rfl⟩)
theorem bytes_cons {s:ByteArray} (h:0<s.size):s.toList≠[]:=by
 intro e
 rw[Lib.toList_data] at e
 have:s.data.toList.length=s.size:=by simp
 rw[e] at this
 simp at this;omega
theorem name_get0 {s:ByteArray} (h:0<s.size):s.data.toList.getD 0 0=s[0]:=by
 have h':0<s.data.toList.length:=by simpa using h
 rw[List.getD_eq_getElem?_getD,zl h'];rfl
theorem name_big {s:ByteArray} (h:24<s.size):nameB s=false:=by
 unfold nameB;simp;omega
theorem name_head {s:ByteArray} (h:0<s.size) (hl:letC ((s[0].toNat:Nat):Int)=false):nameB s=false:=by
 unfold nameB;rw[name_get0 h,hl];simp
theorem name_bad {s:ByteArray} {k:Nat} (h:k<s.size) (hl:chB s[k]=false):nameB s=false:=by
 have:s.data.toList.all chB=false:=by
  rw[List.all_eq_false]
  refine ⟨s[k],?_,by simp[hl]⟩
  exact List.getElem_mem (l:=s.data.toList) (by simpa using h)
 unfold nameB;rw[this];simp
theorem name_good {s:ByteArray} (h:0<s.size) (h2:s.size≤24) (hl:letC ((s[0].toNat:Nat):Int)=true) (ha:∀k (hk:k<s.size),chB s[k]=true):nameB s=true:=by
 unfold nameB;rw[name_get0 h,hl]
 have:s.data.toList.all chB=true:=by
  rw[List.all_eq_true]
  intro c hc
  obtain ⟨k,hk,rfl⟩:=List.getElem_of_mem hc
  exact ha k (by simpa using hk)
 rw[this];simp[h,h2]
theorem zT (s:ByteArray) (hs:SOk s) (w:World):Calls Tryz.prog 103 #[.string s] w fun e w'=>e = .returned (.bool (nameB s))∧w=w':=by
 unfold SOk at hs
 by_cases h0:s.size=0
 ·obtain rfl:s=⟨#[]⟩:=by
   obtain ⟨d⟩:=s
   have:d.size=0:=h0
   rw[Array.eq_empty_of_size_eq_zero this]
  clear hs h0
  go_enter Tryz.func103,Tryz.ntmps103
  go_wp2
  go_ret
  exact ⟨by rfl,rfl⟩
 have hp:0<s.size:=by omega
 have hne:=bytes_cons hp
 have hne2:s.toList.isEmpty=false:=by simpa using hne
 by_cases hbig:24<s.size
 ·have HN:=zh (name_big hbig)
  clear h0
  go_enter Tryz.func103,Tryz.ntmps103
  go_wp2
  go_ret
  exact ⟨by rw[HN.out];rfl,rfl⟩
 have hle:s.size≤24:=by omega
 cases hl:letC ((s[0].toNat:Nat):Int) with
 | false =>
  have HN:=zh (name_head hp hl)
  have HL:=zh hl
  clear h0 hbig hl
  go_enter Tryz.func103,Tryz.ntmps103
  go_wp2_with (go_at_call 123;refine (isLetter_any _ _).mono ?_;rintro e w' ⟨rfl,rfl⟩;rw[HL.out])
  go_ret
  exact ⟨by rw[HN.out];rfl,rfl⟩
 | true =>
  have HL:=zh hl
  clear h0 hbig hl
  go_enter Tryz.func103,Tryz.ntmps103
  go_wp2_with (go_at_call 123;refine (isLetter_any _ _).mono ?_;rintro e w' ⟨rfl,rfl⟩;rw[HL.out])
  go_loop [19] (fun i=>∃k:Nat,k≤s.size∧i = .int .i64 k∧Hid (∀j (hj:j<s.size),j<k→chB s[j]=true)) (fun i=>s.size - (intOf i).toNat)
  case atStart=>exact ⟨0,by omega,rfl,fun j hj h=>absurd h (by omega)⟩
  case round =>
   obtain ⟨k,hk,rfl,hh⟩:=hrel
   by_cases hlt:k<s.size
   ·cases h1:letC ((s[k].toNat:Nat):Int) with
    | true =>
     have HC:Hid (chB s[k]=true):=by show _=_;unfold chB;rw[h1];rfl
     have H1:=zh h1
     clear h1
     go_wp2_with (go_at_call 123;refine (isLetter_any _ _).mono ?_;rintro e w' ⟨rfl,rfl⟩;rw[H1.out])
     go_round
     case rel =>
      refine ⟨k+1,by omega,by go_num,fun j hj hjk=>?_⟩
      by_cases e:j=k
      ·subst e;exact HC.out
      ·exact hh.out j hj (by omega)
     case measure=>simp[intOf];omega
    | false =>
     cases h2:digI ((s[k].toNat:Nat):Int) with
     | true =>
      have HC:Hid (chB s[k]=true):=by show _=_;unfold chB;rw[h1,h2];rfl
      have H1:=zh h1
      have H2:=zh h2
      clear h1 h2
      go_wp2_with (first|(go_at_call 123;refine (isLetter_any _ _).mono ?_;rintro e w' ⟨rfl,rfl⟩;rw[H1.out])|(go_at_call 124;refine (isDigit_any _ _).mono ?_;rintro e w' ⟨rfl,rfl⟩;rw[H2.out]))
      go_round
      case rel =>
       refine ⟨k+1,by omega,by go_num,fun j hj hjk=>?_⟩
       by_cases e:j=k
       ·subst e;exact HC.out
       ·exact hh.out j hj (by omega)
      case measure=>simp[intOf];omega
     | false =>
      have HN:=zh (name_bad hlt (show chB s[k]=false by unfold chB;rw[h1,h2];rfl))
      have H1:=zh h1
      have H2:=zh h2
      clear h1 h2
      go_wp2_with (first|(go_at_call 123;refine (isLetter_any _ _).mono ?_;rintro e w' ⟨rfl,rfl⟩;rw[H1.out])|(go_at_call 124;refine (isDigit_any _ _).mono ?_;rintro e w' ⟨rfl,rfl⟩;rw[H2.out]))
      go_ret
      exact ⟨by rw[HN.out];rfl,rfl⟩
   ·have HN:=zh (name_good hp hle HL.out fun k hk=>hh.out k hk (by omega))
    go_wp2
    go_ret
    exact ⟨by rw[HN.out];rfl,rfl⟩
theorem zN (s:ByteArray) (hs:SOk s) (w:World):Calls Tryz.prog 109 #[.string s] w fun e w'=>e = .returned (.bool (nameB s))∧w=w':=by
 unfold SOk at hs
 by_cases h0:s.size=0
 ·obtain rfl:s=⟨#[]⟩:=by
   obtain ⟨d⟩:=s
   have:d.size=0:=h0
   rw[Array.eq_empty_of_size_eq_zero this]
  clear hs h0
  go_enter Tryz.func109,Tryz.ntmps109
  go_wp2
  go_ret
  exact ⟨by rfl,rfl⟩
 have hp:0<s.size:=by omega
 have hne:=bytes_cons hp
 have hne2:s.toList.isEmpty=false:=by simpa using hne
 by_cases hbig:24<s.size
 ·have HN:=zh (name_big hbig)
  clear h0
  go_enter Tryz.func109,Tryz.ntmps109
  go_wp2
  go_ret
  exact ⟨by rw[HN.out];rfl,rfl⟩
 have hle:s.size≤24:=by omega
 cases hl:letC ((s[0].toNat:Nat):Int) with
 | false =>
  have HN:=zh (name_head hp hl)
  have HL:=zh hl
  clear h0 hbig hl
  go_enter Tryz.func109,Tryz.ntmps109
  go_wp2_with (go_at_call 131;refine (letter_any _ _).mono ?_;rintro e w' ⟨rfl,rfl⟩;rw[HL.out])
  go_ret
  exact ⟨by rw[HN.out];rfl,rfl⟩
 | true =>
  have HL:=zh hl
  clear h0 hbig hl
  go_enter Tryz.func109,Tryz.ntmps109
  go_wp2_with (go_at_call 131;refine (letter_any _ _).mono ?_;rintro e w' ⟨rfl,rfl⟩;rw[HL.out])
  go_loop [3] (fun i=>∃k:Nat,k≤s.size∧i = .int .i64 k∧Hid (∀j (hj:j<s.size),j<k→chB s[j]=true)) (fun i=>s.size - (intOf i).toNat)
  case atStart=>exact ⟨0,by omega,rfl,fun j hj h=>absurd h (by omega)⟩
  case round =>
   obtain ⟨k,hk,rfl,hh⟩:=hrel
   by_cases hlt:k<s.size
   ·cases h1:letC ((s[k].toNat:Nat):Int) with
    | true =>
     have HC:Hid (chB s[k]=true):=by show _=_;unfold chB;rw[h1];rfl
     have H1:=zh h1
     clear h1
     go_wp2_with (go_at_call 131;refine (letter_any _ _).mono ?_;rintro e w' ⟨rfl,rfl⟩;rw[H1.out])
     go_round
     case rel =>
      refine ⟨k+1,by omega,by go_num,fun j hj hjk=>?_⟩
      by_cases e:j=k
      ·subst e;exact HC.out
      ·exact hh.out j hj (by omega)
     case measure=>simp[intOf];omega
    | false =>
     cases h2:digI ((s[k].toNat:Nat):Int) with
     | true =>
      have HC:Hid (chB s[k]=true):=by show _=_;unfold chB;rw[h1,h2];rfl
      have H1:=zh h1
      have H2:=zh h2
      clear h1 h2
      go_wp2_with (first|(go_at_call 131;refine (letter_any _ _).mono ?_;rintro e w' ⟨rfl,rfl⟩;rw[H1.out])|(go_at_call 132;refine (digit_any _ _).mono ?_;rintro e w' ⟨rfl,rfl⟩;rw[H2.out]))
      go_round
      case rel =>
       refine ⟨k+1,by omega,by go_num,fun j hj hjk=>?_⟩
       by_cases e:j=k
       ·subst e;exact HC.out
       ·exact hh.out j hj (by omega)
      case measure=>simp[intOf];omega
     | false =>
      have HN:=zh (name_bad hlt (show chB s[k]=false by unfold chB;rw[h1,h2];rfl))
      have H1:=zh h1
      have H2:=zh h2
      clear h1 h2
      go_wp2_with (first|(go_at_call 131;refine (letter_any _ _).mono ?_;rintro e w' ⟨rfl,rfl⟩;rw[H1.out])|(go_at_call 132;refine (digit_any _ _).mono ?_;rintro e w' ⟨rfl,rfl⟩;rw[H2.out]))
      go_ret
      exact ⟨by rw[HN.out];rfl,rfl⟩
   ·have HN:=zh (name_good hp hle HL.out fun k hk=>hh.out k hk (by omega))
    go_wp2
    go_ret
    exact ⟨by rw[HN.out];rfl,rfl⟩
def prevI (l:List (Int×ByteArray)) (k:Nat):Int:=if k=0 then 0 else (l.getD (k - 1) (0,⟨#[]⟩)).1
theorem idsOk_next {l:List (Int×ByteArray)} {k:Nat} (hk:k<l.length):idsOk 0 [] (l.take (k+1)) =
  (idsOk 0 [] (l.take k)&&(decide (1≤(l[k]).1)&&decide ((l[k]).1≤1000)&&decide (prevI l k<(l[k]).1) && !memD (l[k]).2 ((l.take k).map (·.2))&&nameB (l[k]).2)):=by
 rw[List.take_succ_eq_append_getElem hk,idsOk_snoc]
 have e:((l.take k).getLast?.map (·.1)).getD 0=prevI l k:=by
  unfold prevI
  cases k with
  | zero=>simp
  | succ k =>
   rw[List.take_succ_eq_append_getElem (by omega),List.getLast?_concat]
   simp[List.getD,show k<l.length by omega]
 rw[e];simp
theorem ids_stop {l:List (Int×ByteArray)} {k:Nat} (hk:k<l.length) (h:(decide (1≤(l[k]).1)&&decide ((l[k]).1≤1000)&&decide (prevI l k<(l[k]).1) && !memD (l[k]).2 ((l.take k).map (·.2))&&nameB (l[k]).2)=false):idsD l=false:=by
 have h1:=idsOk_next hk
 rw[h,Bool.and_false] at h1
 unfold idsD
 rw[idsOk_take_false h1];rfl
theorem ids_go {l:List (Int×ByteArray)} {k:Nat} (hk:k<l.length) (h0:idsOk 0 [] (l.take k)=true) (h:(decide (1≤(l[k]).1)&&decide ((l[k]).1≤1000)&&decide (prevI l k<(l[k]).1) && !memD (l[k]).2 ((l.take k).map (·.2))&&nameB (l[k]).2)=true):idsOk 0 [] (l.take (k+1))=true:=by
 rw[idsOk_next hk,h0,h];rfl
abbrev kS:ByteArray→Value:=Value.string
structure IdSt (l:List (Int×ByteArray)) (w:World) (k:Nat) (wr:World):Prop where
 ok:idsOk 0 [] (l.take k)=true
 set:SetAt kS wr w.heap.size ((l.take k).map (·.2))
 bel:Below w.heap.size w wr
theorem ids_any (l:List (Int×ByteArray)) (A B:Option Addr) (c d:Nat) (w:World) (hA:IntsR w A (l.map (·.1))) (hB:StrsR w B (l.map (·.2))) :
  Calls Tryz.prog 125 #[.slice A l.length c,.slice B l.length d] w (SamePost (idsD l) w):=by
 have hn:=hA.1.lt (by omega)
 rw[List.length_map] at hn
 have HA:=zh hA
 have HB:=zh hB
 clear hA hB
 have hmm:=@run_makeMap Tryz.prog
 go_enter Tryz.func125,Tryz.ntmps125
 go_wp2
 clear hmm
 go_loopw [11] (fun i wr=>∃k:Nat,k≤l.length∧i = .int .i64 k∧Hid (IdSt l w k wr)) (fun i _=>l.length - (intOf i).toNat)
 case atStart=>exact ⟨0,by omega,rfl,rfl,SetAt.new w,zD _ _⟩
 case round =>
  obtain ⟨k,hk,rfl,hh⟩:=hrel
  by_cases hlt:k<l.length
  ·obtain ⟨b,o,rfl,a0⟩:=(HA.out.below hh.out.bel).at1 (i:=k) (by simpa using hlt)
   obtain ⟨b',o',rfl,hsok,b0⟩:=(HB.out.below hh.out.bel).at1 (i:=k) (by simpa using hlt)
   rw[List.getElem_map] at a0 b0 hsok
   have h1:(0:Int)≤(k:Int):=by omega
   have h2:(k:Int)<(l.length:Int):=by omega
   have hz1:=zK a0
   have hz2:=zK b0
   simp only at hz1 hz2
   have HSO:=zh hsok
   clear hsok
   have HST:=zh (fun h=>ids_stop hlt h)
   have HGO:=zh (fun h=>ids_go hlt hh.out.ok h)
   have HPV:Hid (k≠0→∃x,wr.cell? ⟨b,o+(k - 1),none⟩=some (.int .i64 x)∧prevI l k=x):=fun hk0=>by
    obtain ⟨b2,o2,e2,a2⟩:=(HA.out.below hh.out.bel).at1 (i:=k - 1) (by simp;omega)
    injection e2 with e2;injection e2 with e3 e4
    subst e3;subst e4
    refine ⟨_,a2,?_⟩
    unfold prevI
    rw[if_neg hk0,List.getElem_map,List.getD_eq_getElem?_getD,zl (by omega)];rfl
   have HLK:=zh (hh.out.set.look (P:=Tryz.prog) (KT:=9) (MT:=125) (ET:=4) keyOk_str Tryz.underlying125 zeroBool (l[k]).2)
   generalize hx:(l[k]).1=x at *
   generalize hs:(l[k]).2=s at *
   clear hx
   by_cases c1:x<1
   ·have HD:=zh (HST.out (by simp;omega))
    clear HST HGO
    go_wp2
    go_ret
    exact ⟨by rw[HD.out];rfl,hh.out.bel⟩
   by_cases c2:1000<x
   ·have HD:=zh (HST.out (by simp;omega))
    clear HST HGO
    go_wp2
    go_ret
    exact ⟨by rw[HD.out];rfl,hh.out.bel⟩
   by_cases c3:prevI l k<x
   ·cases c4:memD s ((l.take k).map (·.2)) with
    | true =>
     have HD:=zh (HST.out (by rw[c4];simp))
     have hlk:=HLK.out
     rw[c4] at hlk
     clear HST HGO c4
     rcases Nat.eq_zero_or_pos k with hk0|hk0
     ·have hkd:decide (0<k)=false:=by simp;omega
      clear hk0
      clear c3
      go_wp2
      go_ret
      exact ⟨by rw[HD.out];rfl,hh.out.bel⟩
     ·obtain ⟨y,a2,hy⟩:=HPV.out (by omega)
      rw[hy] at c3
      clear hy
      have hsub:(k:Int) - 1=((k - 1:Nat):Int):=by omega
      have c3':¬ x≤y:=by omega
      go_wp2
      go_ret
      exact ⟨by rw[HD.out];rfl,hh.out.bel⟩
    | false =>
     have hlk:=HLK.out
     rw[c4] at hlk
     cases c5:nameB s with
     | false =>
      have HD:=zh (HST.out (by rw[c5];simp))
      have HN:=zh c5
      clear HST HGO c4 c5
      rcases Nat.eq_zero_or_pos k with hk0|hk0
      ·have hkd:decide (0<k)=false:=by simp;omega
       clear hk0
       clear c3
       go_wp2_with (go_at_call 103;refine (zT s HSO.out _).mono ?_;rintro e w2 ⟨rfl,rfl⟩;rw[HN.out])
       go_ret
       exact ⟨by rw[HD.out];rfl,hh.out.bel⟩
      ·obtain ⟨y,a2,hy⟩:=HPV.out (by omega)
       rw[hy] at c3
       clear hy
       have hsub:(k:Int) - 1=((k - 1:Nat):Int):=by omega
       have c3':¬ x≤y:=by omega
       go_wp2_with (go_at_call 103;refine (zT s HSO.out _).mono ?_;rintro e w2 ⟨rfl,rfl⟩;rw[HN.out])
       go_ret
       exact ⟨by rw[HD.out];rfl,hh.out.bel⟩
     | true =>
      have HD:=zh (HGO.out (by rw[c4,c5];simp;omega))
      have HN:=zh c5
      clear HST HGO c4 c5
      obtain ⟨w5,hr5,hs5,hg5,hz5⟩:=hh.out.set.put (P:=Tryz.prog) (KT:=9) (MT:=125) (ET:=4) keyOk_str Tryz.underlying125 s
      have HS5:Hid (SetAt kS w5 w.heap.size ((l.take (k+1)).map (·.2))):=by
       rw[List.take_succ_eq_append_getElem hlt,List.map_append,List.map_cons,List.map_nil,hs];exact hs5
      have HB5:=zh (hh.out.bel.grown hg5 hh.out.bel.size (fun q hq=>by have:=Option.some.inj hq;omega))
      clear hs5 hg5 hs hz5
      rcases Nat.eq_zero_or_pos k with hk0|hk0
      ·have hkd:decide (0<k)=false:=by simp;omega
       clear hk0
       clear c3
       go_wp2_with (go_at_call 103;refine (zT s HSO.out _).mono ?_;rintro e w2 ⟨rfl,rfl⟩;rw[HN.out])
       go_roundw
       case rel=>exact ⟨k+1,by omega,by go_num,HD.out,HS5.out,HB5.out⟩
       case measure=>simp[intOf];omega
      ·obtain ⟨y,a2,hy⟩:=HPV.out (by omega)
       rw[hy] at c3
       clear hy
       have hsub:(k:Int) - 1=((k - 1:Nat):Int):=by omega
       have c3':¬ x≤y:=by omega
       go_wp2_with (go_at_call 103;refine (zT s HSO.out _).mono ?_;rintro e w2 ⟨rfl,rfl⟩;rw[HN.out])
       go_roundw
       case rel=>exact ⟨k+1,by omega,by go_num,HD.out,HS5.out,HB5.out⟩
       case measure=>simp[intOf];omega
   ·have HD:=zh (HST.out (by simp[c3]))
    have hk0:k≠0:=fun e=>by subst e;simp[prevI] at c3;omega
    obtain ⟨y,a2,hy⟩:=HPV.out hk0
    rw[hy] at c3
    clear HST HGO hy
    have hsub:(k:Int) - 1=((k - 1:Nat):Int):=by omega
    have c3':x≤y:=by omega
    go_wp2
    go_ret
    exact ⟨by rw[HD.out];rfl,hh.out.bel⟩
  ·have HD:=zh (show idsD l=decide (l.length≤16) by
    have:=hh.out.ok
    rw[List.take_of_length_le (by omega)] at this
    unfold idsD;rw[this];simp)
   go_wp2
   go_ret
   refine ⟨?_,hh.out.bel⟩
   rw[HD.out]
   simp
   omega
end Go.Proofs.YtdfolgmcggdjdaaGreatDoor


