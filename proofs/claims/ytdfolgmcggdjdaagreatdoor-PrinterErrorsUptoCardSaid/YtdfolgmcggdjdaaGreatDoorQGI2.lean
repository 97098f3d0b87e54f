/-
  Walks: awake.
-/
import Derived.Test.YtdfolgmcggdjdaaGreatDoorQVF7
import Derived.Test.YtdfolgmcggdjdaaGreatDoorQGH0
import Derived.Test.YtdfolgmcggdjdaaGreatDoorQGF0
import Derived.Test.YtdfolgmcggdjdaaGreatDoorQGH1
import Derived.Test.YtdfolgmcggdjdaaGreatDoorQLW6
import Derived.Test.YtdfolgmcggdjdaaGreatDoorQLW7
import Derived.Test.YtdfolgmcggdjdaaGreatDoorQLW8
import Derived.Test.YtdfolgmcggdjdaaGreatDoorQGG2
namespace Go.Proofs.YtdfolgmcggdjdaaGreatDoor
open Go.RowKit
set_option maxHeartbeats 16000000
set_option maxRecDepth 100000
theorem fits_all {s:List TyD} {A:zo} {c:Nat} {plain:Bool} (hv:zJ s=0) (hn:Num64 s):∀n,FitAt s A c plain n
 | 0=>fun _ v _ _ _ _ _ _ _ h=>absurd h (by have:=sizeV_pos v;omega)
 | n+1=>fits_step hv hn (fits_all hv hn n)
theorem vl_Plain_any {s:List TyD} (A:zo) (c:Nat) (hv:zJ s=0) (hn:Num64 s) (t:Int) (v:Val) (A1:zo) (c1:Nat) (A2:zo) (c2:Nat) (A3:zo) (c3:Nat) (w:World) (hs:TysR w A s) (hr:ValR w v A1 A2 A3) :
  Calls Tryz.prog 88 #[.agg #[.slice A s.length c],.int .i64 t,v.v A1 c1 A2 c2 A3 c3] w fun e w'=>e = .returned (.bool (fitV s true t v))∧Below w.heap.size w w':=by
 have HS:=zh hs;have HR:=zh hr;have HF:=zh (fits_all (A:=A) (c:=c) (plain:=true) hv hn (SizeOf.sizeOf v));have HB0:=zh (zE w (.cells #[.slice A s.length c] 27) (v.box A1 c1 A2 c2 A3 c3));have HX0:=zh (tmp_al (heap_alloc_new w (.cells #[.slice A s.length c] 27)) (v.box A1 c1 A2 c2 A3 c3))
 have HY0:Hid (((w.alloc (.cells #[.slice A s.length c] 27)).alloc (v.box A1 c1 A2 c2 A3 c3)).heap[w.heap.size+1]? = some (v.box A1 c1 A2 c2 A3 c3)):=by
  have:=heap_alloc_new (w.alloc (.cells #[.slice A s.length c] 27)) (v.box A1 c1 A2 c2 A3 c3);rw[show (w.alloc (.cells #[.slice A s.length c] 27)).heap.size=w.heap.size+1 by simp] at this
  exact this
 clear hs hr hv hn
 go_enter Tryz.func88,Tryz.ntmps88
 go_upto_region 1 with fail
 generalize (w.alloc (.cells #[.slice A s.length c] 27)).alloc (v.box A1 c1 A2 c2 A3 c3)=W1 at *;obtain ⟨v0,v1,v2,v3,v4,v5,v6,v7⟩:=zH HY0.out;have x0:=zb HX0.out;go_wp2_with fail;refine (HF.out t v A1 c1 A2 c2 A3 c3 _ (Nat.le_refl _) (HS.out.below HB0.out) (HR.out.below HB0.out)).mono ?_;rintro e w1 ⟨rfl,hb1⟩;have HB1:=zh (zB HB0.out hb1);clear hb1;go_wp2;go_ret;exact ⟨rfl,HB1.out⟩
theorem vl_Fits_any {s:List TyD} (A:zo) (c:Nat) (hv:zJ s=0) (hn:Num64 s) (t:Int) (v:Val) (A1:zo) (c1:Nat) (A2:zo) (c2:Nat) (A3:zo) (c3:Nat) (w:World) (hs:TysR w A s) (hr:ValR w v A1 A2 A3) :
  Calls Tryz.prog 118 #[.agg #[.slice A s.length c],.int .i64 t,v.v A1 c1 A2 c2 A3 c3] w fun e w'=>e = .returned (.bool (fitV s false t v))∧Below w.heap.size w w':=by
 have HS:=zh hs;have HR:=zh hr;have HF:=zh (fits_all (A:=A) (c:=c) (plain:=false) hv hn (SizeOf.sizeOf v));have HB0:=zh (zE w (.cells #[.slice A s.length c] 27) (v.box A1 c1 A2 c2 A3 c3));have HX0:=zh (tmp_al (heap_alloc_new w (.cells #[.slice A s.length c] 27)) (v.box A1 c1 A2 c2 A3 c3))
 have HY0:Hid (((w.alloc (.cells #[.slice A s.length c] 27)).alloc (v.box A1 c1 A2 c2 A3 c3)).heap[w.heap.size+1]? = some (v.box A1 c1 A2 c2 A3 c3)):=by
  have:=heap_alloc_new (w.alloc (.cells #[.slice A s.length c] 27)) (v.box A1 c1 A2 c2 A3 c3);rw[show (w.alloc (.cells #[.slice A s.length c] 27)).heap.size=w.heap.size+1 by simp] at this
  exact this
 clear hs hr hv hn
 go_enter Tryz.func118,Tryz.ntmps118
 go_upto_region 1 with fail
 generalize (w.alloc (.cells #[.slice A s.length c] 27)).alloc (v.box A1 c1 A2 c2 A3 c3)=W1 at *;obtain ⟨v0,v1,v2,v3,v4,v5,v6,v7⟩:=zH HY0.out;have x0:=zb HX0.out;go_wp2_with fail;refine (HF.out t v A1 c1 A2 c2 A3 c3 _ (Nat.le_refl _) (HS.out.below HB0.out) (HR.out.below HB0.out)).mono ?_;rintro e w1 ⟨rfl,hb1⟩;have HB1:=zh (zB HB0.out hb1);clear hb1;go_wp2;go_ret;exact ⟨rfl,HB1.out⟩
theorem defSaid {s:List TyD} (A:zo) (c:Nat) (hn:Num64 s):DefSaid s A c (defErr s):=by
 intro w hs
 have hln:=hs.1.lt (by omega)
 have HS:=zh hs;have HN:=zh hn;have HB0:=zh (zD w (.cells #[.slice A s.length c] 27));have HX0:=zh (heap_alloc_new w (.cells #[.slice A s.length c] 27));have HE:Hid (defErr s=if zJ s≠0 then zJ s else if (s.any fun t=>t.mems.any fun m=>badDf s m) then 1 else 0):=rfl
 clear hs hn
 go_enter Tryz.func58,Tryz.ntmps58
 go_wp2_with fail
 generalize w.alloc (.cells #[.slice A s.length c] 27)=W1 at *;refine (valid_any s A c W1 (HS.out.below HB0.out)).mono ?_;rintro e w1 ⟨rfl,hb1⟩;have HB1:=zh (zB HB0.out hb1);have HX1:=zh ((hb1.block _ (zg.1 HX0.out).1).trans HX0.out);have x0:=zb HX1.out;clear hb1
 by_cases hv:zJ s=0
 case neg =>
  have q1:(zJ s != 0)=true:=by simp[hv]
  have HE2:=zh (HE.out.trans (if_pos hv));clear hv HE;go_wp2;refine bodyPost_ret (v := .tuple #[.int .i64 0,.int .i64 0,.int .i64 (zJ s)]) (by simp[results,Tryz.results58,go_sem]) rfl ⟨0,0,by rw[HE2.out],HB1.out⟩
 have HV:=zh hv;have HE2:=zh (HE.out.trans (if_neg (by simp[hv])))
 rw[hv];clear hv HE;go_wp2_with fail
 go_loopw [18] (fun i wr=>∃k:Nat,k≤s.length∧i = .int .i64 (k:Int)∧Hid ((∀j (h:j<s.length),j<k→((s[j]).mems.any fun m=>badDf s m)=false)∧Below w1.heap.size w1 wr)) (fun i _=>s.length - (intOf i).toNat)
 case atStart=>exact ⟨0,by omega,rfl,(fun j _ h=>absurd h (by omega)),Below.refl _ _⟩
 case round =>
  obtain ⟨k,hk,rfl,hh⟩:=hrel;have HNO:=zh hh.out.1;have HBR:=zh hh.out.2;obtain ⟨wk,rfl⟩:∃wk:World,wk=wr:=⟨_,rfl⟩;clear hh x0
  by_cases hlt:k<s.length
  ·have HSK:=zh (HS.out.below (zB HB1.out HBR.out))
   obtain ⟨b,o,As,cs,Am,cm,hA,htr,t0,t1,t2,t3,t4,t5,t6,t7,t8,t9⟩:=HSK.out.at10 hlt;have hA2:=hA;subst hA2;have HTR:=zh htr;have h1:(0:Int)≤(k:Int):=by omega
   have h2:(k:Int)<(s.length:Int):=by omega
   have HIN:=zh (List.getElem_mem hlt);have HYES:Hid (((s[k]).mems.any fun m=>badDf s m)=true→defErr s=1):=fun h=>HE2.out.trans (if_pos (any_yes hlt h))
   have HSTEP:Hid (((s[k]).mems.any fun m=>badDf s m)=false→∀j (h:j<s.length),j<k+1→((s[j]).mems.any fun m=>badDf s m)=false):=fun h j hj hjk=>by
    by_cases ej:j=k
    ·subst ej;exact h
    ·exact HNO.out j hj (by omega)
   generalize s[k]=x at *;have hml:=htr.mems.1.lt (by omega)
   clear htr;have HBX:=zh (zB HBR.out (zD wk (x.box As cs Am cm)));have HXX:=zh (heap_alloc_new wk (x.box As cs Am cm));have HTX:=zh (HTR.out.below (zD wk (x.box As cs Am cm)));go_upto_region 7 with fail
   clear t0 t1 t2 t3 t4 t5 t6 t7 t8 t9;generalize wk.alloc (x.box As cs Am cm)=W2 at *;have m6:W2.cell? ⟨wk.heap.size,6,none⟩=some (.slice Am x.mems.length cm):=by rw[cell_of_row _ _ _ _ _ _ HXX.out];rfl
   go_wp2_with fail
   go_loopw [26] (fun i wr=>∃m:Nat,m≤x.mems.length∧i = .int .i64 (m:Int)∧Hid ((∀j (h:j<x.mems.length),j<m→badDf s x.mems[j]=false)∧Below W2.heap.size W2 wr)) (fun i _=>x.mems.length - (intOf i).toNat)
   case atStart=>exact ⟨0,by omega,rfl,(fun j _ h=>absurd h (by omega)),Below.refl _ _⟩
   case round =>
    obtain ⟨m,hm,rfl,hh⟩:=hrel;have HNM:=zh hh.out.1;have HBM:=zh hh.out.2;obtain ⟨wm,rfl⟩:∃wm:World,wm=wr:=⟨_,rfl⟩;clear hh m6
    by_cases hlm:m<x.mems.length
    ·have HMM:=zh ((HTX.out.below HBM.out).mems)
     obtain ⟨b2,o2,E1,k1,E2,k2,E3,k3,hA2,hmr,d0,d1,d2,d3,d4,d5,d6,d7,d8,d9,d10,d11,d12⟩:=HMM.out.at13 hlm;subst hA2;have HMR:=zh hmr;have g1:(0:Int)≤(m:Int):=by omega
     have g2:(m:Int)<(x.mems.length:Int):=by omega
     have HYES2:Hid (badDf s x.mems[m]=true→defErr s=1):=fun h=>HYES.out (any_yes hlm h)
     have HSTEP2:Hid (badDf s x.mems[m]=false→∀j (h:j<x.mems.length),j<m+1→badDf s x.mems[j]=false):=fun h j hj hjk=>by
      by_cases ej:j=m
      ·subst ej;exact h
      ·exact HNM.out j hj (by omega)
     generalize x.mems[m]=y at *;have HBY:=zh (zB HBM.out (zD wm (y.box E1 k1 E2 k2 E3 k3)));have HYY:=zh (heap_alloc_new wm (y.box E1 k1 E2 k2 E3 k3));have HBW:=zh (zB (zB HB1.out HBX.out) HBY.out);have HYX:=zh (zF HX1.out (zB HBX.out HBY.out));have HYR:=zh (HMR.out.below (zD wm (y.box E1 k1 E2 k2 E3 k3)));clear hmr;go_upto_region 10 with fail
     clear d0 d1 d2 d3 d4 d5 d6 d7 d8 d9 d10 d11 d12;generalize wm.alloc (y.box E1 k1 E2 k2 E3 k3)=W3 at *;generalize wm.heap.size=by3 at *;obtain ⟨d0,d1,d2,d3,d4,d5,d6,d7,d8,d9,d10,d11,d12⟩:=mbx_cells HYY.out;have x0:=zb HYX.out
     cases hdf:y.hasDef with
     | false =>
      have HOK:=zh (HSTEP2.out (by unfold badDf;rw[hdf];rfl))
      rw[hdf] at d4;clear hdf;go_wp2;go_roundw
      case rel=>exact ⟨m+1,by omega,by go_num,HOK.out,HBY.out⟩
      case measure=>simp[intOf];omega
     | true =>
      rw[hdf] at d4;have HBD:Hid (badDf s y = !fitV s true y.type y.dflt):=by show _=_;unfold badDf;rw[hdf];rfl
      clear hdf;go_wp2_with fail;refine (vl_Plain_any _ c HV.out HN.out y.type y.dflt E1 k1 E2 k2 E3 k3 W3 (HS.out.below HBW.out) HYR.out.dflt).mono ?_;rintro e w4 ⟨rfl,hb4⟩;have HB4:=zh (zB HBY.out hb4);have HB5:=zh (zB HBW.out hb4);have HYY4:=zh (zF HYY.out hb4);clear hb4 d0 d1 d2 d3 d4 d5 d6 d7 d8 d9 d10 d11 d12 x0;obtain ⟨d0,-⟩:=mbx_cells HYY4.out
      cases hf:fitV s true y.type y.dflt with
      | true =>
       have HOK:=zh (HSTEP2.out (by rw[HBD.out,hf];rfl))
       clear hf HBD;go_wp2;go_roundw
       case rel=>exact ⟨m+1,by omega,by go_num,HOK.out,HB4.out⟩
       case measure=>simp[intOf];omega
      | false =>
       have HD1:=zh (HYES2.out (by rw[HBD.out,hf];rfl))
       clear hf HBD;go_upto_region 11 with fail
       go_quiet (fail)
       go_wp2
       refine bodyPost_ret (v := .tuple #[.int .i64 k,.int .i64 y.id,.int .i64 1]) (by simp[results,Tryz.results58,go_sem]) rfl ⟨k,y.id,by rw[HD1.out],zC HB5.out _⟩
    ·have HBE:=zh (zB HBX.out HBM.out)
     have HOK:=zh (HSTEP.out (any_no fun j hj=>HNM.out j hj (by omega)))
     go_wp2
     go_roundw
     case rel=>exact ⟨k+1,by omega,by go_num,HOK.out,HBE.out⟩
     case measure=>simp[intOf];omega
  ·have HBK:=zh (zB HB1.out HBR.out)
   have HD0:Hid (defErr s=0):=by
    show _=_
    rw[HE2.out,any_no (p:=fun t=>t.mems.any fun m=>badDf s m) fun j hj=>HNO.out j hj (by omega)];rfl
   go_wp2
   refine bodyPost_ret (v := .tuple #[.int .i64 0,.int .i64 0,.int .i64 0]) (by simp[results,Tryz.results58,go_sem]) rfl ⟨0,0,by rw[HD0.out],HBK.out⟩
theorem write_step {s:List TyD} {A:zo} {c n:Nat} (hv:zJ s=0) (hn:Num64 s) (ih:WriteAt s A c n):WriteAt s A c (n+1):=by
 intro t v A1 c1 A2 c2 A3 c3 w0 w B b T hf hs hr htb hg hb0 hB hbl hsz
 obtain ⟨i0,i1,_,_⟩:=fitF_out hf;have hk:=yT hv ⟨i0,i1⟩;have hkx:(tyAt s t).kind=1∨(tyAt s t).kind=2∨(tyAt s t).kind=3∨(tyAt s t).kind=4∨(tyAt s t).kind=5∨(tyAt s t).kind=6∨(tyAt s t).kind=7∨(tyAt s t).kind=8∨(tyAt s t).kind=9:=by omega
 rcases hkx with e|e|e|e|e|e|e|e|e
 ·exact write_k1 hv hn ih t v A1 c1 A2 c2 A3 c3 w0 w B b T e hf hs hr htb hg hb0 hB hbl hsz
 ·exact write_k2 hv hn ih t v A1 c1 A2 c2 A3 c3 w0 w B b T e hf hs hr htb hg hb0 hB hbl hsz
 ·exact write_k3 hv hn ih t v A1 c1 A2 c2 A3 c3 w0 w B b T e hf hs hr htb hg hb0 hB hbl hsz
 ·exact write_k4 hv hn ih t v A1 c1 A2 c2 A3 c3 w0 w B b T e hf hs hr htb hg hb0 hB hbl hsz
 ·exact write_k5 hv hn ih t v A1 c1 A2 c2 A3 c3 w0 w B b T e hf hs hr htb hg hb0 hB hbl hsz
 ·exact write_k6 hv hn ih t v A1 c1 A2 c2 A3 c3 w0 w B b T e hf hs hr htb hg hb0 hB hbl hsz
 ·exact write_k7 hv hn ih t v A1 c1 A2 c2 A3 c3 w0 w B b T e hf hs hr htb hg hb0 hB hbl hsz
 ·exact write_k8 hv hn ih t v A1 c1 A2 c2 A3 c3 w0 w B b T e hf hs hr htb hg hb0 hB hbl hsz
 ·exact write_k9 hv hn ih t v A1 c1 A2 c2 A3 c3 w0 w B b T e hf hs hr htb hg hb0 hB hbl hsz
theorem write_all {s:List TyD} {A:zo} {c:Nat} (hv:zJ s=0) (hn:Num64 s):∀n,WriteAt s A c n
 | 0=>fun _ _ _ _ _ _ _ _ _ _ _ _ _ hf=>by cases hf
 | n+1=>write_step hv hn (write_all hv hn n)
noncomputable def fmtT (s:List TyD) (t:Int) (v:Val):ByteArray:=if fitV s false t v then litV s t v else ⟨#[]⟩
theorem format_any {s:List TyD} (A:zo) (c:Nat) (hv:zJ s=0) (hn:Num64 s) (t:Int) (v:Val) (hz:(fmtT s t v).size≤140737488355328) (A1:zo) (c1:Nat) (A2:zo) (c2:Nat) (A3:zo) (c3:Nat) (w:World) (hs:TysR w A s) (hr:ValR w v A1 A2 A3) (htb:Tab w) :
  Calls Tryz.prog 97 #[.agg #[.slice A s.length c],.int .i64 t,v.v A1 c1 A2 c2 A3 c3] w fun e w'=>e = .returned (.tuple #[.string (fmtT s t v),.int .i64 (if fitV s false t v then 0 else 1)])∧Below w.heap.size w w':=by
 have HS:=zh hs;have HR:=zh hr;have HTB:=zh htb;have HF:=zh (vl_Fits_any A c hv hn t v A1 c1 A2 c2 A3 c3);have HW:=zh (write_all (A:=A) (c:=c) hv hn (SizeOf.sizeOf v));have HZ:Hid (fmtT s t v=if fitV s false t v then litV s t v else ⟨#[]⟩):=rfl
 have HZ2:=zh hz;have HB0:=zh (zE w (.cells #[.slice A s.length c] 27) (v.box A1 c1 A2 c2 A3 c3));have HX0:=zh (tmp_al (heap_alloc_new w (.cells #[.slice A s.length c] 27)) (v.box A1 c1 A2 c2 A3 c3));have HY0:Hid (((w.alloc (.cells #[.slice A s.length c] 27)).alloc (v.box A1 c1 A2 c2 A3 c3)).heap[w.heap.size+1]? = some (v.box A1 c1 A2 c2 A3 c3)):=by
  have:=heap_alloc_new (w.alloc (.cells #[.slice A s.length c] 27)) (v.box A1 c1 A2 c2 A3 c3);rw[show (w.alloc (.cells #[.slice A s.length c] 27)).heap.size=w.heap.size+1 by simp] at this
  exact this
 generalize fmtT s t v=FT at *;generalize hER:(if fitV s false t v then (0:Int) else 1)=ER
 replace hER:=zh hER;clear hs hr hv hn htb hz
 go_enter Tryz.func97,Tryz.ntmps97
 go_upto_region 1 with fail
 generalize (w.alloc (.cells #[.slice A s.length c] 27)).alloc (v.box A1 c1 A2 c2 A3 c3)=W1 at *;obtain ⟨v0,v1,v2,v3,v4,v5,v6,v7⟩:=zH HY0.out;have x0:=zb HX0.out;go_wp2_with fail;refine (HF.out _ (HS.out.below HB0.out) (HR.out.below HB0.out)).mono ?_;rintro e w1 ⟨rfl,hb1⟩;have HB1:=zh (zB HB0.out hb1);have HX1:=zh (zF HX0.out hb1);have HY1:=zh (zF HY0.out hb1);clear hb1 v0 v1 v2 v3 v4 v5 v6 v7 x0
 cases hf:fitV s false t v with
 | false =>
  have HE:Hid (FT=⟨#[]⟩):=by show _=_;rw[HZ.out,hf];rfl
  have HR0:Hid (ER=1):=by show _=_;rw[←hER.out,hf];rfl
  clear hf;go_wp2;go_ret2;exact ⟨by rw[HE.out,HR0.out];rfl,HB1.out⟩
 | true =>
  have HE:Hid (FT=litV s t v):=by show _=_;rw[HZ.out,hf];rfl
  have HR0:Hid (ER=0):=by show _=_;rw[←hER.out,hf];rfl
  have HFT:=zh hf;clear hf;have HN:=zh (BldF.new w1 HB1.out.size);have HBN:=zh (zD w1 (.cells #[.pointer none,.slice none 0 0] 84));have HB2:=zh (HB1.out.trans (HBN.out.mono HB1.out.size));have HX2:=zh (zF HX1.out HBN.out);have HY2:=zh (zF HY1.out HBN.out);go_upto_region 4 with fail
  generalize w1.alloc (.cells #[.pointer none,.slice none 0 0] 84)=W2 at *;generalize w1.heap.size=p8 at *;obtain ⟨v0,v1,v2,v3,v4,v5,v6,v7⟩:=zH HY2.out;have x0:=zb HX2.out;go_wp2_with fail;refine (HW.out t v A1 c1 A2 c2 A3 c3 w _ w.heap.size p8 ⟨#[]⟩ HFT.out HS.out HR.out HTB.out (Nat.le_refl _) HB2.out HB2.out.size HN.out ?_).mono ?_
  ·have:=HZ2.out
   rw[HE.out] at this
   show 0+_≤_
   rw[Nat.zero_add];exact this
  rintro e w3 ⟨rfl,h1,h2,_⟩;have HN3:Hid (BldF w3 w.heap.size p8 FT):=by
   rw[show (⟨#[]⟩:ByteArray)++litF s (SizeOf.sizeOf v) t v=litV s t v from ByteArray.empty_append,←HE.out] at h1;exact h1
  have HB3:=zh (HB2.out.trans h2);clear h1 h2 v0 v1 v2 v3 v4 v5 v6 v7 x0;go_wp2_with fail;refine (HN3.out.str HB3.out.size).mono ?_;rintro e w4 ⟨rfl,h4⟩;have HB4:=zh (HB3.out.trans h4);clear h4;go_wp2;go_ret2;exact ⟨by rw[HR0.out];rfl,HB4.out⟩
theorem fmtSaid {s:List TyD} (A:zo) (c:Nat) (hv:zJ s=0) (hn:Num64 s) (m:MemD) (hz:(dfT s m).size≤140737488355328):FmtSaid s A c m (dfT s m):=fun w A1 c1 A2 c2 A3 c3 hs hm htb =>
 (format_any A c hv hn m.type m.dflt hz A1 c1 A2 c2 A3 c3 w hs hm.dflt htb).mono fun _ _ ⟨h1,h2⟩=>⟨_,h1,h2⟩
theorem dfOk {s:List TyD} (A:zo) (c:Nat) (hv:zJ s=0) (hn:Num64 s) (m:MemD) (hz:(dfT s m).size≤1073741824):DfOk s A c (dfT s) m :=
 ⟨hz,fun _=>fmtSaid A c hv hn m (by omega)⟩
theorem ex_nodef:NoDef exS:=by
 intro t ht m hm
 simp only[exS,List.mem_cons,List.mem_nil_iff,or_false] at ht
 rcases ht with rfl|rfl|rfl
 ·cases hm
 ·obtain rfl:m=exM1:=by simpa using hm
  rfl
 ·cases hm
theorem ex_nodefU:NoDef exU:=by
 intro t ht m hm
 simp only[exU,List.mem_cons,List.mem_nil_iff,or_false] at ht
 rcases ht with rfl|rfl
 ·obtain rfl:m={ exM1 with type:=1 }:=by simpa using hm
  rfl
 ·cases hm
theorem ex_num:Num64 exS:=by
 intro t ht
 simp only[exS,List.mem_cons,List.mem_nil_iff,or_false] at ht
 rcases ht with rfl|rfl|rfl <;> (unfold In64;decide)
theorem ex_numU:Num64 exU:=by
 intro t ht
 simp only[exU,List.mem_cons,List.mem_nil_iff,or_false] at ht
 rcases ht with rfl|rfl <;> (unfold In64;decide)
theorem def_nodef {s:List TyD} (hv:zJ s=0) (h:NoDef s):defErr s=0:=by
 unfold defErr;rw[if_neg (fun e=>e hv),if_neg]
 intro e
 obtain ⟨t,ht,e⟩:=List.any_eq_true.1 e;obtain ⟨m,hm,e⟩:=List.any_eq_true.1 e;rw[h t ht m hm] at e
 cases e
theorem ex_said (A:zo) (c:Nat):DefSaid exS A c 0:=by have:=defSaid (s:=exS) A c ex_num;rwa [def_nodef ex_valid ex_nodef] at this
theorem ex_saidU (A:zo) (c:Nat):DefSaid exU A c 0:=by have:=defSaid (s:=exU) A c ex_numU;rwa [def_nodef ex_validU ex_nodefU] at this
theorem ex_df (A:zo) (c:Nat):yN exS 0=0→∀t∈exS,∀m∈t.mems,DfOk exS A c (fun _=>⟨#[]⟩) m:=fun _ t ht m hm =>
 ⟨by show (ByteArray.mk #[]).size≤_;decide,fun h=>by rw[ex_nodef t ht m hm] at h;cases h⟩
theorem ex_typeIs {x:ByteArray} {e:Int} (h:TypeIs exS 2 x e):x=⟨#[105,110,116,40,48,46,46,57,41]⟩∧e=0:=by
 have hr:refErr exS 2=0:=by decide +kernel
 have ht:(useD exS (exS.length+1) [] 2).1=⟨#[105,110,116,40,48,46,46,57,41]⟩:=by decide +kernel
 unfold TypeIs at h;rw[if_neg (by rw[ex_valid];simp),if_neg (by decide),hr,if_pos rfl,ht] at h
 exact ⟨h.2,h.1⟩
theorem awake_any (w:World) (htab:Tab w):Calls Tryz.prog 7 #[] w (SamePost true w):=by
 have HTB:=zh htab;clear htab
 go_enter Tryz.func7,Tryz.ntmps7
 go_wp2_with fail
 refine (example_any _).mono ?_;rintro e w1 ⟨A1,c1,rfl,hs1,hb1⟩;have HS1:=zh hs1;have HB1:=zh hb1;clear hs1 hb1;go_wp2_with fail;refine (print_any exS 0 (fun _=>⟨#[]⟩) A1 c1 (ex_said A1 c1) ex_num (ex_df A1 c1) w1 HS1.out (HTB.out.below HB1.out)).mono ?_
 rintro e w2 ⟨rfl,hb2⟩;have HB2:=zh (zB HB1.out hb2);rw[ex_print];clear hb2;go_wp2_with fail;refine (example_any _).mono ?_;rintro e w3 ⟨A3,c3,rfl,hs3,hb3⟩;have HS3:=zh hs3;have HB3:=zh (zB HB2.out hb3);clear hs3 hb3;go_wp2_with fail;refine (tidy_any exS 0 A3 c3 (ex_said A3 c3) w3 HS3.out).mono ?_;rintro e w4 ⟨A4,c4,B4,d4,rfl,ht4,hi4,hb4⟩;rw[ex_tidyT] at ht4;rw[ex_tidyI] at hi4
 rw[ex_tidyE,ex_tidyI,ex_tidyT];have HBX:=zh (zD w4 (.cells #[.slice A4 exU.length c4] 27));have HX4:=zh (heap_alloc_new w4 (.cells #[.slice A4 exU.length c4] 27));have HT4:=zh (ht4.below HBX.out);have HI4:=zh (hi4.below HBX.out);have HB4:=zh (zB (zB HB3.out hb4) HBX.out);clear hb4 ht4 hi4;go_wp2_with fail;generalize w4.alloc (.cells #[.slice A4 exU.length c4] 27)=W4 at *
 refine (example_any _).mono ?_;rintro e w5 ⟨A5,c5,rfl,hs5,hb5⟩;have HS5:=zh hs5;have HB5:=zh (zB HB4.out hb5);have HI5:=zh (HI4.out.below hb5);have HT5:=zh (HT4.out.below hb5);have HX5:=zh (zF HX4.out hb5);clear hs5 hb5;go_wp2_with fail;refine (outline_any exS A5 c5 w5 HS5.out (HTB.out.below HB5.out)).mono ?_;rintro e w6 ⟨rfl,hb6⟩;rw[ex_out];have HB6:=zh (zB HB5.out hb6)
 have HI6:=zh (HI5.out.below hb6);have HT6:=zh (HT5.out.below hb6);have HX6:=zh (zF HX5.out hb6);clear hb6;go_wp2_with fail;refine (example_any _).mono ?_;rintro e w7 ⟨A7,c7,rfl,hs7,hb7⟩;have HS7:=zh hs7;have HB7:=zh (zB HB6.out hb7);have HI7:=zh (HI6.out.below hb7);have HT7:=zh (HT6.out.below hb7);have HX7:=zh (zF HX6.out hb7);clear hs7 hb7;go_wp2_with fail
 refine (type_any exS 2 A7 c7 ex_num w7 HS7.out (HTB.out.below HB7.out)).mono ?_;rintro e w8 ⟨x8,e8,rfl,hx8,hb8⟩;obtain ⟨rfl,rfl⟩:=ex_typeIs hx8;have HB8:=zh (zB HB7.out hb8);have HI8:=zh (HI7.out.below hb8);have HT8:=zh (HT7.out.below hb8);have HX8:=zh (zF HX7.out hb8);have x3:=zb HX8.out;have hlu:exU.length=2:=rfl;clear hx8 hb8;go_wp2_with fail;clear x3
 have HBY:=zh (zD w8 (.cells #[.int .i64 (-1),.int .i64 0,.int .i64 (-1)] 3));have HIY:Hid (IntsR (w8.alloc (.cells #[.int .i64 (-1),.int .i64 0,.int .i64 (-1)] 3)) (some ⟨w8.heap.size,0,none⟩) [-1,0,-1]):=ints_at (heap_alloc_new w8 _) (by decide)
 refine (equalInts_any [-1,0,-1] [-1,0,-1] B4 (some ⟨w8.heap.size,0,none⟩) d4 3 _ (HI8.out.below HBY.out) HIY.out).mono ?_;rintro e w9 ⟨rfl,hb9⟩;rw[show decide (([-1,0,-1]:List Int)=[-1,0,-1])=true by decide]
 have HB9:=zh (zB (zB HB8.out HBY.out) hb9);have HT9:=zh ((HT8.out.below HBY.out).below hb9);have HX9:=zh (zF (zF HX8.out HBY.out) hb9);clear hb9;go_wp2_with fail;refine (example_any _).mono ?_;rintro e w10 ⟨A10,c10,rfl,hs10,hb10⟩;have HS10:=zh hs10;have HB10:=zh (zB HB9.out hb10);have HT10:=zh (HT9.out.below hb10);have HX10:=zh (zF HX9.out hb10);clear hs10 hb10;go_wp2_with fail
 refine (isTidy_any exS 0 A10 c10 (ex_said A10 c10) w10 HS10.out).mono ?_;rintro e w11 ⟨rfl,hb11⟩;rw[show decide (tidyE exS 0=0∧tidyT exS 0=exS)=false from decide_eq_false fun h=>ex_ne (ex_tidyT▸h.2)]
 have HB11:=zh (zB HB10.out hb11);have HT11:=zh (HT10.out.below hb11);have HX11:=zh (zF HX10.out hb11);have x3:=zb HX11.out;clear hb11;go_wp2_with fail;refine (isTidy_any exU 0 A4 c4 (ex_saidU A4 c4) w11 HT11.out).mono ?_;rintro e w12 ⟨rfl,hb12⟩;rw[show decide (tidyE exU 0=0∧tidyT exU 0=exU)=true from decide_eq_true ⟨ex_tidyEU,ex_tidyTU⟩];have HB12:=zh (zB HB11.out hb12);clear hb12;go_wp2;go_ret
 exact ⟨rfl,HB12.out⟩
end Go.Proofs.YtdfolgmcggdjdaaGreatDoor


