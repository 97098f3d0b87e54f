/-
  Walks: the chapter's examples.
-/
import Derived.Test.YthkkllmmbefedaaGreatDoorQAT1
import Derived.Test.YthkkllmmbefedaaGreatDoorQGA9
import Derived.Test.YthkkllmmbefedaaGreatDoorQGA7
import Derived.Test.YthkkllmmbefedaaGreatDoorQNRM
import Derived.Test.YthkkllmmbefedaaGreatDoorQGB0
import Derived.Test.YthkkllmmbefedaaGreatDoorQGA10
import Derived.Deep.CutBlock
namespace Go.Proofs.YthkkllmmbefedaaGreatDoor
open Go.RowKit
set_option maxHeartbeats 16000000
set_option maxRecDepth 100000
def LpaP (s:List TyD) (t:Int) (v:Val) (p:List Int) (w:World) (e:Ending) (w':World):Prop:=e = .returned (.tuple #[.string (pathS s t v p).1,.int .i64 (pathS s t v p).2])∧Below w.heap.size w w'
theorem pathS_bad {s:List TyD} {t:Int} {v:Val} {p:List Int} (h:atE s t v p≠0):pathS s t v p=(⟨#[]⟩,atE s t v p):=by
 unfold atE at h ⊢;unfold pathS
 split
 ·rfl
 ·rename_i hf
  rw[if_neg hf] at h
  cases ha:atV s t v p with
  | none=>rfl
  | some q=>rw[ha] at h;exact absurd rfl h
theorem pathS_ok {s:List TyD} {t:Int} {v:Val} {p:List Int} (h:atE s t v p=0):pathS s t v p=(pathT s t p,0)∧fitV s false t v=true∧(atV s t v p).isSome=true:=by
 unfold atE at h;unfold pathS
 cases hf:fitV s false t v with
 | false=>rw[hf,if_pos rfl] at h;cases h
 | true =>
  rw[hf,if_neg (by simp)] at h
  rw[if_neg (by simp)]
  cases ha:atV s t v p with
  | none=>rw[ha] at h;cases h
  | some q=>exact ⟨rfl,rfl,rfl⟩
theorem lpath_any {s:List TyD} (A:zo) (c:Nat) (hv:zQ s=0) (hn:Num64 s) (t:Int) (v:Val) (A1:zo) (c1:Nat) (A2:zo) (c2:Nat) (A3:zo) (c3:Nat) (p:List Int) (B:zo) (d:Nat) (hp:p.length≤1000000) (w:World) (hs:TysR w A s) (hr:ValR w v A1 A2 A3) (hi:IntsR w B p) (htb:Tab w) :
  Calls Tryz.prog 27 #[.agg #[.slice A s.length c],.int .i64 t,v.v A1 c1 A2 c2 A3 c3,.slice B p.length d] w (LpaP s t v p w):=by
 have HS:=zh hs;have HR:=zh hr;have HI:=zh hi;have HV:=zh hv;have HN:=zh hn;have HTB:=zh htb;have HSO:=zh (schOk hv hn);have hln:=hs.1.lt (by omega)
 have HX0:=zh (vc_box_new w (.cells #[.slice A s.length c] 31) (v.box A1 c1 A2 c2 A3 c3));have HB0:=zh (zI w (.cells #[.slice A s.length c] 31) (v.box A1 c1 A2 c2 A3 c3));have HAT:=zh (fun W=>vat_any (s:=s) A c hv hn t v A1 c1 A2 c2 A3 c3 p B d hp W)
 have HPB:=zh (pathS_bad (s:=s) (t:=t) (v:=v) (p:=p));have HPO:=zh (pathS_ok (s:=s) (t:=t) (v:=v) (p:=p));generalize hE:atE s t v p=er at *;generalize hPS:pathS s t v p=PS at *;have HE:=zh hE;have HPS:=zh hPS;clear hs hr hi hv hn htb hE hPS
 go_enter Tryz.func27,Tryz.ntmps27
 go_upto_region 1 with fail
 generalize (w.alloc (.cells #[.slice A s.length c] 31)).alloc (v.box A1 c1 A2 c2 A3 c3)=W1 at *;obtain ⟨v0,v1,v2,v3,v4,v5,v6,v7⟩:=zF HX0.out.2.1;have x0:=zb HX0.out.1;go_wp2_with fail;refine (HAT.out W1 (HS.out.below HB0.out) (HR.out.below HB0.out) (HI.out.below HB0.out)).mono ?_;rintro e w2 ⟨y,F1,f1,F2,f2,F3,f3,u,rfl,hb2⟩;rw[HE.out];have HBX:=zh (zD w2 (y.box F1 f1 F2 f2 F3 f3))
 have HB2:=zh (zB (zB HB0.out hb2) HBX.out);have HXS:=zh (zE (zE HX0.out.1 hb2) HBX.out);clear v0 v1 v2 v3 v4 v5 v6 v7 x0 hb2 HX0 HB0 HAT;go_upto_region 2 with fail
 generalize w2.alloc (y.box F1 f1 F2 f2 F3 f3)=W2 at *;generalize w2.heap.size=q2 at *
 by_cases he:er=0
 case neg =>
  have q1:(er != 0)=true:=by simp[he]
  have HR0:=zh (HPB.out he);clear he;go_wp2;go_ret2;exact ⟨by rw[HPS.out,HR0.out];rfl,HB2.out⟩
 have HR0:=zh (HPO.out he);have q1:(er != 0)=false:=by simp[he]
 have HST:Hid (PthAt s t p 0 t ⟨#[]⟩):=PthAt.start HR0.out.2.1 HR0.out.2.2;clear he;go_wp2
 go_loopw [1,13,33] (fun a o i wr=>∃ (n:Nat) (tn:Int) (ot:ByteArray),n≤p.length∧a = .int .i64 tn∧o = .string ot∧i = .int .i64 n∧Hid (PthAt s t p n tn ot∧Below w.heap.size w wr∧Below W2.heap.size W2 wr)) (fun _ _ i _=>p.length - (intOf i).toNat)
 case atStart=>exact ⟨0,t,⟨#[]⟩,by omega,rfl,rfl,rfl,HST.out,HB2.out,Below.refl _ _⟩
 case round =>
  obtain ⟨n,tn,ot,hnl,rfl,rfl,rfl,hh⟩:=hrel;obtain ⟨wo,rfl⟩:∃wo:World,wo=wr:=⟨_,rfl⟩;have HA:=zh hh.out.1;have HB:=zh hh.out.2.1;have HBW:=zh hh.out.2.2;have HXo:=zh (zE HXS.out hh.out.2.2);clear hh HST
  by_cases hlt:n<p.length
  ·obtain ⟨pb,po,rfl,pc⟩:=(HI.out.below HB.out).at1 hlt
   have hoz:=HA.out.2.2;obtain ⟨i0,i1⟩:=HA.out.rng;obtain ⟨m,rfl⟩:=Int.eq_ofNat_of_zero_le i0;have hm:m<s.length:=by omega
   have HTE:Hid (tyAt s (m:Int)=s[m]):=zT hm;have HID:=zh (fun k=>HA.out.idx HV.out HSO.out hlt (k:=k))
   have HEL:=zh (HA.out.els HV.out hlt);rw[HTE.out] at HID HEL;generalize p[n]=pn at *;obtain ⟨bq,oq,As,cs,Am,cm,hAA,htr,t0,t1,t2,t3,t4,t5,t6,t7,t8,t9⟩:=(HS.out.below HB.out).at10 hm;subst hAA;generalize s[m]=y at *;have HTR:=zh htr;have h1:(0:Int)≤(m:Int):=by omega
   have h2:(m:Int)<(s.length:Int):=by omega
   have h3:(0:Int)≤(n:Int):=by omega
   have h4:(n:Int)<(p.length:Int):=by omega
   have x0:=zb HXo.out;have HBX:=zh (zD wo (y.box As cs Am cm));have HTX:Hid (TBox (wo.alloc (y.box As cs Am cm)) wo.heap.size y As cs Am cm):=heap_alloc_new wo _;have HTR4:=zh (HTR.out.below HBX.out);have HB4:=zh (zB HB.out HBX.out);have HBW4:=zh (zB HBW.out HBX.out);clear htr i0 i1 HA;go_upto_region 9 with fail
   clear t0 t1 t2 t3 t4 t5 t6 t7 t8 t9 x0 pc;generalize wo.alloc (y.box As cs Am cm)=W4 at *;generalize wo.heap.size=qt at *;obtain ⟨b0,b1,b2,b3,b4,b5,b6,b7,b8,b9⟩:=zG HTX.out;obtain ⟨r,hre⟩:∃r,idxD (fun m:MemD=>decide (m.id=pn)) y.mems=r:=⟨_,rfl⟩
   have hcall:=scMem_any pn y As cs Am cm W4 HTR4.out;have hrl:=idxD_lt (fun m:MemD=>decide (m.id=pn)) y.mems
   rw[hre] at hcall hrl HID HEL;have HCL:=zh hcall;clear hcall hre;go_wp2_with fail;refine HCL.out.mono ?_;rintro e' w5 ⟨rfl,hb5⟩;have HB5:=zh (zB HB4.out hb5);have HBW5:=zh (zB HBW4.out hb5);have HTX5:Hid (TBox w5 qt y As cs Am cm):=zE HTX.out hb5;have HTR5:=zh (HTR4.out.below hb5);clear hb5 HCL b0 b1 b2 b3 b4 b5 b6 b7 b8 b9;obtain ⟨b0,b1,b2,b3,b4,b5,b6,b7,b8,b9⟩:=zG HTX5.out
   by_cases hr0:r<0
   ·have z5:decide (0≤r)=false:=decide_eq_false (by omega)
    have z6:(if r<0 then 0 else r)=0:=if_pos hr0
    rw[z5,z6];obtain ⟨g1,g2,g3⟩:=HEL.out hr0;have HG:=zh g1;have HI6:=zh g2;clear hr0 hrl z5 z6 HID HEL g1 g2;obtain ⟨D,hD⟩:∃D,decB pn=D:=⟨_,rfl⟩;have HIT:=zh (itoa_any pn HI6.out w5 (HTB.out.below HB5.out));rw[hD] at HIT HG g3;have e1:(⟨#[91]⟩:ByteArray).size=1:=rfl;have e2:(⟨#[93]⟩:ByteArray).size=1:=rfl;have n1:¬ 9223372036854775807<(⟨#[91]⟩:ByteArray).size+D.size:=by omega
    have n2:¬ 9223372036854775807<(⟨#[91]⟩++D:ByteArray).size+(⟨#[93]⟩:ByteArray).size:=by rw[ByteArray.size_append];omega
    have n3:¬ 9223372036854775807<ot.size+(⟨#[91]⟩++D++⟨#[93]⟩:ByteArray).size:=by rw[ByteArray.size_append,ByteArray.size_append];omega
    clear hD e1 e2;go_wp2_with fail;refine HIT.out.mono ?_;rintro e' w6 ⟨rfl,hb6⟩;have HB6:=zh (zB HB5.out hb6);have HBW6:=zh (zB HBW5.out hb6);have HTX6:Hid (TBox w6 qt y As cs Am cm):=zE HTX5.out hb6;clear hb6 b0 b1 b2 b3 b4 b5 b6 b7 b8 b9;obtain ⟨b0,b1,b2,b3,b4,b5,b6,b7,b8,b9⟩:=zG HTX6.out;go_wp2;go_roundw
    case rel=>exact ⟨n+1,y.elem,_,by omega,rfl,rfl,by go_num,HG.out,HB6.out,HBW6.out⟩
    case measure=>simp[intOf];omega
   ·obtain ⟨k,rfl⟩:=Int.eq_ofNat_of_zero_le (show 0≤r by omega)
    have hk:k<y.mems.length:=by omega
    have z5:decide (0≤(k:Int))=true:=decide_eq_true (by omega)
    have z6:(if (k:Int)<0 then 0 else (k:Int))=k:=if_neg hr0
    rw[z5,z6];obtain ⟨g1,g2⟩:=HID.out k rfl hk;have HG:=zh g1;clear hr0 hrl z5 z6 HID HEL g1;obtain ⟨mb,mo,M1,m1,M2,m2,M3,m3,hM,_,d0,d1,d2,d3,d4,d5,d6,d7,d8,d9,d10,d11,d12⟩:=HTR5.out.mems.at13 hk;clear d0 d3 d4 d5 d6 d7 d8 d9 d10 d11 d12;subst hM;generalize y.mems[k]=mm at *;have g1:(0:Int)≤(k:Int):=by omega
    have g3:(k:Int)<(y.mems.length:Int):=by omega
    have e1:(⟨#[46]⟩:ByteArray).size=1:=rfl;have n1:¬ 9223372036854775807<(⟨#[46]⟩:ByteArray).size+mm.name.size:=by omega
    have n3:¬ 9223372036854775807<ot.size+(⟨#[46]⟩++mm.name:ByteArray).size:=by rw[ByteArray.size_append];omega
    clear e1;go_wp2;go_roundw
    case rel=>exact ⟨n+1,mm.type,_,by omega,rfl,rfl,by go_num,HG.out,HB5.out,HBW5.out⟩
    case measure=>simp[intOf];omega
  ·have HEND:=zh (HA.out.end_ (by omega))
   have h4:¬ (n:Int)<(p.length:Int):=by omega
   go_wp2
   go_ret2
   exact ⟨by rw[HPS.out,HR0.out.1,←HEND.out];rfl,HB.out⟩
theorem two_new {α:Type} {k bytes:Nat} {at_:α→List Value→Prop} (w:World) (T:TypeId) (x y:α) {cx cy:List Value} (hx:at_ x cx) (hy:at_ y cy) (lx:cx.length=k) (hl:Lim bytes 2) :
  RowsR k bytes at_ (w.alloc (.cells (cx++cy).toArray T)) (some ⟨w.heap.size,0,none⟩) [x,y]:=by
 refine ⟨hl,fun _=>⟨_,_,rfl,fun i z hz=>?_⟩⟩
 have hr:=zR w (cx++cy) T
 match i,hz with
 | 0,hz =>
  obtain rfl:x=z:=by simpa using hz
  refine ⟨cx,hx,fun j u hj=>?_⟩
  have:=hr j u (by rw[List.getElem?_append_left (List.getElem?_eq_some_iff.1 hj).1];exact hj)
  simpa using this
 | 1,hz =>
  obtain rfl:y=z:=by simpa using hz
  refine ⟨cy,hy,fun j u hj=>?_⟩
  have:=hr (k+j) u (by rw[List.getElem?_append_right (by omega),lx];rw[show k+j - k=j by omega];exact hj)
  simpa using this
 | n+2,hz=>simp at hz
theorem one_new {α:Type} {k bytes:Nat} {at_:α→List Value→Prop} (w:World) (T:TypeId) (x:α) {cx:List Value} (hx:at_ x cx) (hl:Lim bytes 1) :
  RowsR k bytes at_ (w.alloc (.cells cx.toArray T)) (some ⟨w.heap.size,0,none⟩) [x]:=by
 refine ⟨hl,fun _=>⟨_,_,rfl,fun i z hz=>?_⟩⟩
 have hr:=zR w cx T
 match i,hz with
 | 0,hz =>
  obtain rfl:x=z:=by simpa using hz
  exact ⟨cx,hx,by simpa using hr⟩
 | n+1,hz=>simp at hz
theorem mem_zero_at (w:World) {m:MemD} (h:SOk m.name) (e:m.dflt=zeroV):m.At w (m.cs none 0 none 0 none 0) :=
 ⟨none,0,none,0,none,0,rfl,h,by rw[e];exact valR_zero _⟩
theorem point_any (w:World):Calls Tryz.prog 41 #[] w (SchPost ptS w):=by
 obtain ⟨O0,hO0⟩:∃O0:Obj,O0 = .cells #[.slice (some ⟨w.heap.size+1+1,0,none⟩) 3 3] 31:=⟨_,rfl⟩
 have HT:Hid (TysR (((w.alloc (.cells #[.slice (some ⟨w.heap.size+1+1,0,none⟩) 3 3] 31)).alloc (.cells (ptX.cs none 0 none 0 none 0++ptY.cs none 0 none 0 none 0).toArray 118)).alloc (.cells (([⟨ptT0,none,0,some ⟨w.heap.size+1,0,none⟩,2⟩,⟨ptT1,none,0,none,0⟩,⟨ptT2,none,0,none,0⟩]:List TyA).flatMap TyA.cells).toArray 87)) (some ⟨w.heap.size+1+1,0,none⟩) ptS):=by
  have HM:MemsR ((w.alloc (.cells #[.slice (some ⟨w.heap.size+1+1,0,none⟩) 3 3] 31)).alloc (.cells (ptX.cs none 0 none 0 none 0++ptY.cs none 0 none 0 none 0).toArray 118)) (some ⟨w.heap.size+1,0,none⟩) [ptX,ptY]:=by
   have h:=two_new (bytes:=160) (w.alloc (.cells #[.slice (some ⟨w.heap.size+1+1,0,none⟩) 3 3] 31)) 118 ptX ptY (at_:=fun x cs=>MemD.At ((w.alloc (.cells #[.slice (some ⟨w.heap.size+1+1,0,none⟩) 3 3] 31)).alloc (.cells (ptX.cs none 0 none 0 none 0++ptY.cs none 0 none 0 none 0).toArray 118)) x cs) (k:=13) (mem_zero_at _ (sok_small (by decide)) rfl) (mem_zero_at _ (sok_small (by decide)) rfl) rfl (by unfold Lim;decide)
   rwa [show (w.alloc (.cells #[.slice (some ⟨w.heap.size+1+1,0,none⟩) 3 3] 31)).heap.size=w.heap.size+1 by simp] at h
  have HT0:=tys_new ((w.alloc (.cells #[.slice (some ⟨w.heap.size+1+1,0,none⟩) 3 3] 31)).alloc (.cells (ptX.cs none 0 none 0 none 0++ptY.cs none 0 none 0 none 0).toArray 118)) ([⟨ptT0,none,0,some ⟨w.heap.size+1,0,none⟩,2⟩,⟨ptT1,none,0,none,0⟩,⟨ptT2,none,0,none,0⟩]:List TyA)
  have hz2:((w.alloc (.cells #[.slice (some ⟨w.heap.size+1+1,0,none⟩) 3 3] 31)).alloc (.cells (ptX.cs none 0 none 0 none 0++ptY.cs none 0 none 0 none 0).toArray 118)).heap.size=w.heap.size+1+1:=by simp
  rw[hz2] at HT0;refine HT0 (fun x hx=>?_) (by simp)
  simp only[List.mem_cons,List.mem_nil_iff,or_false] at hx
  rcases hx with rfl|rfl|rfl
  ·exact tyR_mems (sok_small (show ptT0.name.size≤100 by decide)) rfl HM
  ·exact tyR_none sok_empty rfl rfl
  ·exact tyR_none sok_empty rfl rfl
 have HB:=zh (zB (zB (zD w (.cells #[.slice (some ⟨w.heap.size+1+1,0,none⟩) 3 3] 31)) (zD _ (.cells (ptX.cs none 0 none 0 none 0++ptY.cs none 0 none 0 none 0).toArray 118))) (zD _ (.cells (([⟨ptT0,none,0,some ⟨w.heap.size+1,0,none⟩,2⟩,⟨ptT1,none,0,none,0⟩,⟨ptT2,none,0,none,0⟩]:List TyA).flatMap TyA.cells).toArray 87)))
 have HC:Hid ((((w.alloc (.cells #[.slice (some ⟨w.heap.size+1+1,0,none⟩) 3 3] 31)).alloc (.cells (ptX.cs none 0 none 0 none 0++ptY.cs none 0 none 0 none 0).toArray 118)).alloc (.cells (([⟨ptT0,none,0,some ⟨w.heap.size+1,0,none⟩,2⟩,⟨ptT1,none,0,none,0⟩,⟨ptT2,none,0,none,0⟩]:List TyA).flatMap TyA.cells).toArray 87)).cell? ⟨w.heap.size,0,none⟩=some (.slice (some ⟨w.heap.size+1+1,0,none⟩) 3 3)):=by
  show _=_
  rw[cell_of_row _ _ _ _ _ _ (zE (zE (heap_alloc_new w _) (zD _ _)) (zD _ _))];rfl
 clear hO0 O0
 go_enter Tryz.func41,Tryz.ntmps41
 go_wp2
 have hcf:=HC.out;exact bodyPost_ret (v := .agg #[.slice (some ⟨w.heap.size+1+1,0,none⟩) 3 3]) (by
  simp only[results,Tryz.results41];go_simp) rfl ⟨some ⟨w.heap.size+1+1,0,none⟩,3,rfl,HT.out,HB.out⟩
end Go.Proofs.YthkkllmmbefedaaGreatDoor


