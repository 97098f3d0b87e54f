/-
  Walks: Type, in the program and in the reference.
-/
import Derived.Test.YtdfolgmcggdjdaaGreatDoorQYW7
namespace Go.Proofs.YtdfolgmcggdjdaaGreatDoor
open Go.RowKit
set_option maxHeartbeats 16000000
set_option maxRecDepth 100000
def TypePost (s:List TyD) (t:Int) (w:World) (e:Ending) (w':World):Prop:=∃x err,e = .returned (.tuple #[.string x,.int .i64 err])∧TypeIs s t x err∧Below w.heap.size w w'
theorem type_bad {s:List TyD} {t:Int} (h:zG s≠0):TypeIs s t ⟨#[]⟩ (zG s):=by
 unfold TypeIs;rw[if_pos h];exact ⟨rfl,rfl⟩
theorem type_out {s:List TyD} {t:Int} (h:zG s=0) (ht:t<0∨(s.length:Int)≤t):TypeIs s t ⟨#[]⟩ 4:=by
 unfold TypeIs;rw[if_neg (by simp[h]),if_pos ht];exact ⟨rfl,rfl⟩
theorem type_err {s:List TyD} {t:Int} (h:zG s=0) (ht:0≤t∧t<(s.length:Int)) (he:refErr s t≠0):TypeIs s t ⟨#[]⟩ (refErr s t):=by
 unfold TypeIs;rw[if_neg (by simp[h]),if_neg (by omega)];exact ⟨rfl,by rw[if_neg he]⟩
theorem type_ok {s:List TyD} {t:Int} (h:zG s=0) (ht:0≤t∧t<(s.length:Int)) (he:refErr s t=0):TypeIs s t (useD s (s.length+1) [] t).1 0:=by
 unfold TypeIs;rw[if_neg (by simp[h]),if_neg (by omega)];exact ⟨he.symm,by rw[if_pos he]⟩
theorem type_any (s:List TyD) (t:Int) (A:Option Addr) (c:Nat) (hn:Num64 s) (w:World) (hs:TysR w A s) (htab:Tab w) :
  Calls Tryz.prog 19 #[.agg #[.slice A s.length c],.int .i64 t] w (TypePost s t w):=by
 have hln:=hs.1.lt (by omega)
 have HS:=zh hs
 have HN:=zh hn
 have HTB:=zh htab
 have HB0:=zh (zD w (.cells #[.slice A s.length c] 27))
 have HX0:=zh (heap_alloc_new w (.cells #[.slice A s.length c] 27))
 clear hs hn htab
 go_enter Tryz.func19,Tryz.ntmps19
 go_wp2_with fail
 generalize w.alloc (.cells #[.slice A s.length c] 27)=W1 at *
 refine (valid_any s A c W1 (HS.out.below HB0.out)).mono ?_
 rintro e w1 ⟨rfl,hb1⟩
 have HB1:=zh (zA HB0.out hb1)
 have HX1:=zh ((hb1.block _ (zg.1 HX0.out).1).trans HX0.out)
 have x0:w1.cell? ⟨w.heap.size,0,none⟩=some (.slice A s.length c):=by rw[cell_of_row _ _ _ _ _ _ HX1.out];rfl
 clear hb1
 by_cases hv:zG s=0
 case neg =>
  have q1:(zG s != 0)=true:=by simp[hv]
  have HT:=zh (type_bad (t:=t) hv)
  clear hv
  go_wp2
  go_ret2
  exact ⟨_,_,rfl,HT.out,HB1.out⟩
 have HV:=zh hv
 rw[hv]
 clear hv
 by_cases hlo:t<0
 ·have HT:=zh (type_out HV.out (t:=t) (.inl hlo))
  go_wp2
  go_ret2
  exact ⟨_,_,rfl,HT.out,HB1.out⟩
 by_cases hhi:(s.length:Int)≤t
 ·have HT:=zh (type_out HV.out (t:=t) (.inr hhi))
  go_wp2
  go_ret2
  exact ⟨_,_,rfl,HT.out,HB1.out⟩
 have HR:Hid (0≤t∧t<(s.length:Int)):=⟨by omega,by omega⟩
 have hls:=yD HV.out
 have HWR:=zh (written_one HV.out HR.out)
 go_wp2_with fail
 refine (written_any s A c HV.out [t] (some ⟨w1.heap.size,0,none⟩) 1 (fun u hu=>(List.mem_singleton.1 hu)▸HR.out) _ (HS.out.below (zA HB1.out (zD _ _))) (ints_newX w1 [t] (by simp))).mono ?_
 rintro e w2 ⟨rfl,hb2⟩
 rw[HWR.out]
 have HB2:=zh (zA HB1.out (zA (zD _ _) hb2))
 have HX2:=zh ((hb2.block _ (by have:=(zg.1 HX1.out).1;simp;omega)).trans (tmp_al HX1.out _))
 clear x0 hb2
 have x0:w2.cell? ⟨w.heap.size,0,none⟩=some (.slice A s.length c):=by rw[cell_of_row _ _ _ _ _ _ HX2.out];rfl
 by_cases he:refErr s t=0
 case neg =>
  have q1:(refErr s t != 0)=true:=by simp[he]
  have HT:=zh (type_err HV.out HR.out he)
  clear he
  go_wp2
  go_ret2
  exact ⟨_,_,rfl,HT.out,HB2.out⟩
 have HT:=zh (type_ok HV.out HR.out he)
 have HTX:=zh (text_one HV.out HR.out he)
 rw[he]
 clear he
 go_wp2_with fail
 refine (text_any s A c HV.out HN.out (s.length+1) t _ HR.out HTX.out.1 (by omega) (HS.out.below HB2.out) (HTB.out.below HB2.out)).mono ?_
 rintro e w3 ⟨rfl,hb3⟩
 rw[HTX.out.2]
 have HB3:=zh (zA HB2.out hb3)
 clear hb3
 go_wp2
 go_ret2
 exact ⟨_,_,rfl,HT.out,HB3.out⟩
theorem rType_any (s:List TyD) (t:Int) (A:Option Addr) (c:Nat) (hn:Num64 s) (w:World) (hs:TysR w A s) :
  Calls Tryz.prog 20 #[.agg #[.slice A s.length c],.int .i64 t] w (TypePost s t w):=by
 have hln:=hs.1.lt (by omega)
 have HS:=zh hs
 have HN:=zh hn
 have HB0:=zh (zD w (.cells #[.slice A s.length c] 27))
 have HX0:=zh (heap_alloc_new w (.cells #[.slice A s.length c] 27))
 clear hs hn
 go_enter Tryz.func20,Tryz.ntmps20
 go_wp2_with fail
 generalize w.alloc (.cells #[.slice A s.length c] 27)=W1 at *
 refine (rValid_any s A c W1 (HS.out.below HB0.out)).mono ?_
 rintro e w1 ⟨rfl,hb1⟩
 have HB1:=zh (zA HB0.out hb1)
 have HX1:=zh ((hb1.block _ (zg.1 HX0.out).1).trans HX0.out)
 have x0:w1.cell? ⟨w.heap.size,0,none⟩=some (.slice A s.length c):=by rw[cell_of_row _ _ _ _ _ _ HX1.out];rfl
 clear hb1
 by_cases hv:zG s=0
 case neg =>
  have q1:(zG s != 0)=true:=by simp[hv]
  have HT:=zh (type_bad (t:=t) hv)
  clear hv
  go_wp2
  go_ret2
  exact ⟨_,_,rfl,HT.out,HB1.out⟩
 have HV:=zh hv
 rw[hv]
 clear hv
 by_cases hlo:t<0
 ·have HT:=zh (type_out HV.out (t:=t) (.inl hlo))
  go_wp2
  go_ret2
  exact ⟨_,_,rfl,HT.out,HB1.out⟩
 by_cases hhi:(s.length:Int)≤t
 ·have HT:=zh (type_out HV.out (t:=t) (.inr hhi))
  go_wp2
  go_ret2
  exact ⟨_,_,rfl,HT.out,HB1.out⟩
 have HR:Hid (0≤t∧t<(s.length:Int)):=⟨by omega,by omega⟩
 go_wp2_with fail
 refine (use_any s A c HV.out HN.out (s.length+1) [] t none 0 _ HR.out ⟨(fun _ h=>by cases h),by simp⟩ (by simp) (HS.out.below HB1.out) (ints_nil _)).mono ?_
 rintro e w2 ⟨rfl,hb2⟩
 have HB2:=zh (zA HB1.out hb2)
 have HRE:Hid (refErr s t=if (useD s (s.length+1) [] t).2.1 then 1 else if (useD s (s.length+1) [] t).2.2 then 9 else 0):=rfl
 have HT1:=zh (fun he=>type_err HV.out HR.out (s:=s) (t:=t) he)
 have HT2:=zh (fun he=>type_ok HV.out HR.out (s:=s) (t:=t) he)
 obtain ⟨U,hU⟩:∃U,U=useD s (s.length+1) [] t:=⟨_,rfl⟩
 rw[←hU] at HRE HT2 ⊢
 obtain ⟨S,W,C⟩:=U
 clear hU hb2 x0
 have HB3:=zh (fun o=>zA HB2.out (zD w2 o))
 cases W with
 | true =>
  have HT:Hid (TypeIs s t ⟨#[]⟩ 1):=by
   have he:refErr s t=1:=HRE.out
   have:=HT1.out (by rw[he];decide)
   rw[he] at this;exact this
  go_wp2
  go_ret2
  exact ⟨_,_,rfl,HT.out,HB3.out _⟩
 | false =>
  cases C with
  | true =>
   have HT:Hid (TypeIs s t ⟨#[]⟩ 9):=by
    have he:refErr s t=9:=HRE.out
    have:=HT1.out (by rw[he];decide)
    rw[he] at this;exact this
   go_wp2
   go_ret2
   exact ⟨_,_,rfl,HT.out,HB3.out _⟩
  | false =>
   have HT:Hid (TypeIs s t S 0):=HT2.out HRE.out
   go_wp2
   go_ret2
   exact ⟨_,_,rfl,HT.out,HB3.out _⟩
end Go.Proofs.YtdfolgmcggdjdaaGreatDoor


