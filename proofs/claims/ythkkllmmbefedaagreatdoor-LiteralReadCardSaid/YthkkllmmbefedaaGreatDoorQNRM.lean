/-
  Walks: literal.Parse: its tokens.
-/
import Derived.Test.YthkkllmmbefedaaGreatDoorQGE0
import Derived.Test.YthkkllmmbefedaaGreatDoorQGB0
namespace Go.Proofs.YthkkllmmbefedaaGreatDoor
open Go.RowKit
set_option maxHeartbeats 16000000
set_option maxRecDepth 100000
theorem YM (l:List UInt8) (n:Nat):(bA (l.take n)).size<=l.length:=by
 show (l.take n).toArray.size<=_
 rw[List.size_toArray,List.length_take];omega
theorem jH {l:List UInt8} {t:AB} {k:Nat} (h:Cj l=some (t,k)):t.text.size<=l.length/\t.str.size<=l.length:=by
 unfold Cj at h
 split at h
 ·cases h
 ·rename_i c r
  split at h
  ·split at h
   ·injection h with h;injection h with h _;subst h
    exact ⟨YM _ _,Nat.zero_le _⟩
   ·cases h
  ·split at h
   ·rw[AAj] at h
    obtain ⟨v,_,h⟩:=h
    injection h with h _;subst h
    exact ⟨Nat.zero_le _,Nat.zero_le _⟩
   ·split at h
    ·rw[AAj] at h
     obtain ⟨⟨o,j⟩,h1,h⟩:=h
     injection h with h _;subst h
     have:=Xr h1;refine ⟨Nat.zero_le _,?_⟩
     show o.toArray.size<=_
     rw[List.size_toArray,AAS];omega
    ·rw[AAj] at h
     obtain ⟨n,h1,h⟩:=h
     injection h with h _;subst h
     exact ⟨YM _ _,Nat.zero_le _⟩
theorem J7:∀ (n:Nat) (ln:Int) (l:List UInt8) (o:List AB),l.length<=n->BJ ln l = .ok o->∀t∈o,t.text.size<=n/\t.str.size<=n
 | _,ln,[],o,_,h,t,ht=>by
  rw[Mi] at h
  injection h with h
  subst h;cases ht
 | 0,_,_::_,_,hn,_,_,_=>by simp at hn
 | n+1,ln,c::r,o,hn,h,t,ht=>by
  have hr:r.length<=n:=by simpa using hn
  have hu:t.text.size<=n/\t.str.size<=n->t.text.size<=n+1/\t.str.size<=n+1:=fun h=>by omega
  rw[EA] at h
  split at h
  ·exact hu (J7 n _ r o hr h t ht)
  ·split at h
   ·exact hu (J7 n _ r o hr h t ht)
   ·split at h
    ·exact hu (J7 n _ _ o (Nat.le_trans (GX r) hr) h t ht)
    ·split at h
     ·cases h
     ·rename_i u k hk
      obtain ⟨q,hq,rfl⟩:=map_ok h;have hle:=Ij hk
      rcases AAf.1 ht with rfl|ht
      ·have h1:=jH hk
       exact ⟨Nat.le_trans h1.1 hn,Nat.le_trans h1.2 hn⟩
      ·exact hu (J7 n _ _ q (by rw[AAc];simp only[AAS] at *;omega) hq t ht)
def LtP (x:ByteArray) (w:World) (e:Ending) (w':World):Prop:=∃ (A:zo) (c:Nat) (n er:Int) (o:List AB),e = .returned (.tuple #[.slice A o.length c,.int .i64 n,.int .i64 er])/\JF w' A o/\o.length<=65536/\Below w.heap.size w w' /\
 (if 65536<x.size then er=3 else match BJ 1 x.data.toList with
  | .ok l=>o=l/\er=0/\n=0
  | .error _=>er=2)
theorem Ug (x:ByteArray) (hx:x.size<=140737488355328) (w:World) (hE:Gq w) {A:zo} {c:Nat} (hS:LA w A c):Calls Tryz.prog 49 #[.string x] w (LtP x w):=by
 by_cases hz:65536<x.size
 ·refine (TY x hx hz w).mono ?_
  rintro e w' ⟨rfl,rfl⟩;exact ⟨none,0,0,3,[],rfl,Ae.nil _ _ _ _ _,by simp,Pd _ _,by rw[AAC hz]⟩
 ·refine (Vm x (by omega) w hE hS).mono ?_
  rintro e w' ⟨v,n,er,rfl,h,hb⟩
  cases ht:BJ 1 x.data.toList with
  | error l =>
   rw[ht] at h;obtain ⟨rfl,rfl,rfl⟩:=h;exact ⟨none,0,_,2,[],rfl,Ae.nil _ _ _ _ _,by simp,hb,by rw[Pe hz,ht]⟩
  | ok o =>
   rw[ht] at h;obtain ⟨ho,rfl,rfl⟩:=h;have hsz:=(GA _ 1 _ o (AAQ _) ht).2;have hxl:x.data.toList.length=x.size:=rfl;have htx:=J7 _ 1 _ o (AAQ _) ht;obtain ⟨A',c',rfl,hr⟩:=Sr.toks ho (by unfold D9;omega) fun t hm=>by
    have:=htx t hm;exact ⟨by unfold Dc;omega,by unfold Dc;omega⟩
   exact ⟨A',c',0,0,o,rfl,hr,by omega,hb,by rw[Pe hz,ht];exact ⟨rfl,rfl,rfl⟩⟩
def nL (s:List AZ) (t:Int) (x:ByteArray) (w:World) (y:Ending) (w':World):Prop :=
 ∃v:BX,y = .returned (.tuple #[v.v.v v.A1 v.c1 v.A2 v.c2 v.A3 v.c3,.int .i64 (Al false s t x).2])/\v.v=(Al false s t x).1/\BO w' v.v v.A1 v.A2 v.A3/\Below w.heap.size w w'
variable {x:ByteArray} {t:Int} {s:List AZ} {w:World}
theorem WG {w':World} {v:BX} {e:Int} (h:(v.v,e)=Al false s t x) (hr:BO w' v.v v.A1 v.A2 v.A3) (hb:Below w.heap.size w w'):nL s t x w (.returned (.tuple #[v.v.v v.A1 v.c1 v.A2 v.c2 v.A3 v.c3,.int .i64 e])) w':=by
 refine ⟨v,?_,by rw[<-h],hr,hb⟩
 rw[<-h]
theorem nL.low {W W':World} {y:Ending} (h:nL s t x w y W) (hb:Below W.heap.size W W'):nL s t x w y W':=by
 obtain ⟨v,h1,h2,h3,h4⟩:=h;exact ⟨v,h1,h2,h3.below hb,h4.trans (hb.mono h4.size)⟩
theorem EU {W5:World} {q:Nat} {e:Int} (hz:W5.heap[q]? = some zO) (hb:Below w.heap.size w W5) (hq:w.heap.size<=q) (h:Al false s t x=(zeroV,e)):
  (q8 W5 q (.int .i64 0) (.bool false) (.int .i64 0) (.string ⟨#[]⟩) (.int .i64 0) AJ AJ AJ).heap[q]? = some zO/\nL s t x w (.returned (.tuple #[zeroV.v none 0 none 0 none 0,.int .i64 e])) (q8 W5 q (.int .i64 0) (.bool false) (.int .i64 0) (.string ⟨#[]⟩) (.int .i64 0) AJ AJ AJ) :=
 ⟨Cw hz _ _ _ _ _ _ _ _,WG (v:=⟨zeroV,none,0,none,0,none,0⟩) h.symm (RO _) (Cy hb hq _ _ _ _ _ _ _ _)⟩
theorem Cr (hv:zQ s=0) (hn:Ca s) (A:zo) (c:Nat) (t:Int) (x:ByteArray) (hx:x.size<=140737488355328) (w:World) (hs:DV w A s) (hE:Gq w) {SA:zo} {sc:Nat} (hS:LA w SA sc):
  Calls Tryz.prog 17 #[.agg #[.slice A s.length c],.int .i64 t,.string x] w (nL s t x w):=by
 have HS:=zh hs;have HE:=zh hE;have NM:=zh hS;have sU:=zh hx;have HV:=zh hv;have HN:=zh hn;have hls:=F9 hv;have HB2:=zh (zI w (.cells #[.slice A s.length c] 31) zO);have Pz:=zh (zw w (.cells #[.slice A s.length c] 31) zO);have P5:Hid (((w.alloc (.cells #[.slice A s.length c] 31)).alloc zO).heap[w.heap.size+1]? = some zO):=by
  show _=_
  have:=AAA (w.alloc (.cells #[.slice A s.length c] 31)) zO;rw[show (w.alloc (.cells #[.slice A s.length c] 31)).heap.size=w.heap.size+1 by simp] at this
  exact this
 clear hs hE hS hx hv hn
 go_enter Tryz.func17,Tryz.ntmps17
 go_upto_region 1 with fail
 generalize (w.alloc (.cells #[.slice A s.length c] 31)).alloc zO=W2 at *;have x0:=zb Pz;obtain ⟨rb,hrb⟩:∃rb:Bool,decide (t<0\/(s.length:Int)<=t)=rb:=⟨_,rfl⟩;have TD:=zh hrb;clear hrb
 go_cut [21] (fun q wx=>q = .bool rb/\wx=W2)
 case first =>
  rcases Int.lt_or_le t 0 with g|g
  ·have MX:Hid (rb=true):=by show _=_;rw[<-TD.out];exact AAM (.inl g)
   go_wp2
   go_meet
   exact ⟨by rw[MX.out],rfl⟩
  ·have g1:¬ t<0:=by omega
   by_cases g2:(s.length:Int)<=t
   ·have MX:Hid (rb=true):=by show _=_;rw[<-TD.out];exact AAM (.inr g2)
    go_wp2
    go_meet
    exact ⟨by rw[MX.out],rfl⟩
   ·have MX:Hid (rb=false):=by show _=_;rw[<-TD.out];exact AAE (by omega)
    go_wp2
    go_meet
    exact ⟨by rw[MX.out],rfl⟩
 case rest =>
 obtain ⟨rfl,hw⟩:=hcut;obtain rfl:W2=wc:=hw.symm
 cases rb with
 | true =>
  have NN:Hid (Al false s t x=(zeroV,4)):=by show _=_;unfold Al;rw[AAC (AAm TD)]
  obtain ⟨⟨z0,z1,z2,z3,z4,z5,z6,z7⟩,y0,y1,y2,y3,y4,y5,y6,y7⟩:=zK P5;go_wp2;have HK:=zh (EU P5 HB2 (q:=w.heap.size+1) (by omega) NN)
  clear z0 z1 z2 z3 z4 z5 z6 z7 y0 y1 y2 y3 y4 y5 y6 y7;unfold q8 q5 at HK;generalize World.setCell _ _ _=W9 at *;obtain ⟨⟨z0,z1,z2,z3,z4,z5,z6,z7⟩,_⟩:=zK HK.out.1
  refine bodyPost_ret (v := .tuple #[zeroV.v none 0 none 0 none 0,.int .i64 4]) (by simp[results,Tryz.results17,go_sem,z0,z1,z2,z3,z4,z5,z6,z7];exact OV) rfl ?_
  exact HK.out.2
 | false =>
  have MX:Hid (¬ (t<0\/(s.length:Int)<=t)):=of_decide_eq_false TD;clear TD;go_wp2_with fail;refine (Ug x sU _ (HE.out.below HB2) (NM.out.below HB2)).mono ?_;rintro y w2 ⟨TA,tc,nn,er,l,rfl,g1,g2,g3,g4⟩;have HT2:=zh g1;have HL2:=zh g2;have XW:=zh (zB HB2 g3);have Py:=zh (CW Pz g3);have MP:=zh (CW P5 g3);have qi:=zh g4
  have rG:Hid (w.heap.size+1<w2.heap.size):=(zg.1 MP).1;have mD:Hid (er=0->(¬ 65536<x.size)/\BJ 1 x.data.toList = .ok l):=fun he=>by
   have h:=qi.out
   by_cases hz:65536<x.size
   ·rw[AAC hz] at h;omega
   ·rw[Pe hz] at h
    cases ht:BJ 1 x.data.toList with
    | error e=>rw[ht] at h;simp only at h;omega
    | ok o=>rw[ht] at h;exact ⟨hz,by rw[h.1]⟩
  have XL:Hid (er≠0->Al false s t x=(zeroV,er)):=fun he=>by
   have h:=qi.out;unfold Al;rw[Pe MX.out]
   by_cases hz:65536<x.size
   ·rw[AAC hz] at h ⊢;rw[h]
   ·rw[Pe hz] at h ⊢
    cases ht:BJ 1 x.data.toList with
    | error e=>rw[ht] at h;simp only at h ⊢;rw[h]
    | ok o=>rw[ht] at h;exact absurd h.2.1 he
  clear x0 g1 g2 g3 g4 Pz P5 HB2 qi
  by_cases he:er=0
  case neg =>
   have q1:(er != 0)=true:=by simp[he]
   have NN:Hid (Al false s t x=(zeroV,er)):=XL.out he;clear he;obtain ⟨⟨z0,z1,z2,z3,z4,z5,z6,z7⟩,y0,y1,y2,y3,y4,y5,y6,y7⟩:=zK MP;go_wp2;have HK:=zh (EU MP XW (q:=w.heap.size+1) (by omega) NN)
   clear z0 z1 z2 z3 z4 z5 z6 z7 y0 y1 y2 y3 y4 y5 y6 y7;unfold q8 q5 at HK;generalize World.setCell _ _ _=W9 at *;obtain ⟨⟨z0,z1,z2,z3,z4,z5,z6,z7⟩,_⟩:=zK HK.out.1
   refine bodyPost_ret (v := .tuple #[zeroV.v none 0 none 0 none 0,.int .i64 er]) (by simp[results,Tryz.results17,go_sem,z0,z1,z2,z3,z4,z5,z6,z7];exact OV) rfl ?_
   exact HK.out.2
  have NK:=zh (mD.out he);have q1:(er != 0)=false:=by simp[he]
  clear he mD XL;have x0:=zb Py;go_wp2_with fail;refine (ZW HV A c t l TA tc (by have:=HL2.out;omega) w2 (HS.out.below XW) HT2).mono ?_
  rintro y w3 ⟨v,b,rfl,h1,h2,r3,k3,e3,h3,h4⟩;have HO3:=zh h1;have HR3:=zh h3;have HJ:=zh h4;have HB3:=zh (zB XW h2);have VO:=zh (CW Py h2);have PN:=zh (CW MP h2);clear x0 h1 h2 h3 h4 Py MP q1;go_upto_region 7 with fail
  have BI:=zh (zD w3 (.cells v.cells.toArray 28));have XI:Hid ((w3.alloc (.cells v.cells.toArray 28)).heap[w3.heap.size]? = some (.cells v.cells.toArray 28)):=AAA w3 _;have HR4:=zh (HR3.out.below BI);have rA:=zh (HO3.out.low BI);have BD:=zh (zB HB3 BI);have PL:=zh (CW VO BI);have Kc:=zh (CW PN BI)
  unfold BX.cells at BI XI HR4 rA BD PL Kc;generalize w3.alloc _=W4 at *;generalize w3.heap.size=q at *;have HW2:Hid (∀W5,Below W4.heap.size W4 W5->W5.heap[w.heap.size+1]? = some zO/\Below w.heap.size w W5):=fun W5 hb=>⟨CW Kc hb,zB BD hb⟩
  have hbq:b≠w.heap.size+1:=Jv HR4.out.blk Kc (by decide)
  have ADP:¬ w.heap.size+1=b:=fun e=>hbq e.symm
  by_cases he:e3=0
  case neg =>
   have q1:(e3 != 0)=true:=by simp[he]
   have NN:Hid (Al false s t x=(zeroV,e3)):=by
    show _=_
    have hj:=HJ.out;unfold Al;rw[Pe MX.out] at hj ⊢;rw[Pe NK.out.1,NK.out.2];simp only
    cases hp:C9 false s t l with
    | error e=>rw[hp] at hj;rw[hj]
    | ok p=>rw[hp] at hj;exact absurd hj.2.2.2 he
   obtain ⟨⟨c0,c1,c2,c3,c4⟩,_⟩:=HR4.out.cells;clear he;go_upto_region 8 with fail
   obtain ⟨⟨z0,z1,z2,z3,z4,z5,z6,z7⟩,y0,y1,y2,y3,y4,y5,y6,y7⟩:=zK Kc
   go_region
   have HK:=zh (EU Kc BD (q:=w.heap.size+1) (by omega) NN)
   clear z0 z1 z2 z3 z4 z5 z6 z7 y0 y1 y2 y3 y4 y5 y6 y7;unfold q8 q5 at HK;generalize World.setCell _ _ _=W9 at *;obtain ⟨⟨z0,z1,z2,z3,z4,z5,z6,z7⟩,_⟩:=zK HK.out.1;go_wp2
   refine bodyPost_ret (v := .tuple #[zeroV.v none 0 none 0 none 0,.int .i64 e3]) (by simp[results,Tryz.results17,go_sem,z0,z1,z2,z3,z4,z5,z6,z7];exact OV) rfl ?_
   exact HK.out.2.low (zC (Pd _ _) 1)
  subst he;have mH:Hid (C9 false s t l = .ok (v.v,r3,k3)):=by
   show _=_
   have hj:=HJ.out;rw[Pe MX.out] at hj
   cases hp:C9 false s t l with
   | error e=>rw[hp] at hj;exact absurd (hj▸hp) (Cm false s t l false)
   | ok p =>
    obtain ⟨v',r,k⟩:=p;rw[hp] at hj;obtain ⟨j1,j2,j3,_⟩:=hj;rw[j1,j2,j3]
  have OQ:Hid (Al false s t x=if r3≠[] then (zeroV,2) else if k3=true\/CQ s false t v.v=false then (zeroV,1) else (v.v,0)):=by
   show _=_
   unfold Al;rw[Pe MX.out,Pe NK.out.1,NK.out.2];simp only;rw[mH.out]
  have Ny:=HL2.out;have hsx:=HR4.out.LH.length_le;obtain ⟨⟨c0,c1,c2,c3,c4⟩,_⟩:=HR4.out.cells;simp only at hsx c2
  by_cases hr:r3=[]
  case neg =>
   have NN:Hid (Al false s t x=(zeroV,2)):=by show _=_;rw[OQ.out,AAC hr]
   have q2:((l.length - r3.length:Nat):Int)<(l.length:Int):=by have:=List.length_pos_iff.2 hr;omega
   clear hr hsx Ny;obtain ⟨⟨z0,z1,z2,z3,z4,z5,z6,z7⟩,y0,y1,y2,y3,y4,y5,y6,y7⟩:=zK Kc;go_wp2;have HK:=zh (EU Kc BD (q:=w.heap.size+1) (by omega) NN)
   clear z0 z1 z2 z3 z4 z5 z6 z7 y0 y1 y2 y3 y4 y5 y6 y7;unfold q8 q5 at HK;generalize World.setCell _ _ _=W9 at *;obtain ⟨⟨z0,z1,z2,z3,z4,z5,z6,z7⟩,_⟩:=zK HK.out.1
   refine bodyPost_ret (v := .tuple #[zeroV.v none 0 none 0 none 0,.int .i64 2]) (by simp[results,Tryz.results17,go_sem,z0,z1,z2,z3,z4,z5,z6,z7];exact OV) rfl ?_
   exact HK.out.2
  have q2:¬ ((l.length - r3.length:Nat):Int)<(l.length:Int):=by rw[hr];simp
  have MR:=zh hr;clear hr hsx Ny
  cases k3 with
  | true =>
   have NN:Hid (Al false s t x=(zeroV,1)):=by show _=_;rw[OQ.out,Pe (by simp[MR.out]),AAC (.inl rfl)]
   obtain ⟨⟨z0,z1,z2,z3,z4,z5,z6,z7⟩,y0,y1,y2,y3,y4,y5,y6,y7⟩:=zK Kc;go_wp2;have HK:=zh (EU Kc BD (q:=w.heap.size+1) (by omega) NN)
   clear z0 z1 z2 z3 z4 z5 z6 z7 y0 y1 y2 y3 y4 y5 y6 y7;unfold q8 q5 at HK;generalize World.setCell _ _ _=W9 at *;obtain ⟨⟨z0,z1,z2,z3,z4,z5,z6,z7⟩,_⟩:=zK HK.out.1
   refine bodyPost_ret (v := .tuple #[zeroV.v none 0 none 0 none 0,.int .i64 1]) (by simp[results,Tryz.results17,go_sem,z0,z1,z2,z3,z4,z5,z6,z7];exact OV) rfl ?_
   exact HK.out.2
  | false =>
   have s0:=zb PL;obtain ⟨⟨v0,v1,v2,v3,v4,v5,v6,v7⟩,_⟩:=zK XI;go_wp2_with fail;refine (fD A c HV HN t v _ (HS.out.below BD) rA.out.out).mono ?_;rintro y w5 ⟨rfl,hb5⟩;have YT:=zh (HW2.out _ hb5);have HV5:=zh (CW XI hb5);have TL:=zh (rA.out.low hb5)
   cases hf:CQ s false t v.v with
   | false =>
    have NN:Hid (Al false s t x=(zeroV,1)):=by show _=_;rw[OQ.out,Pe (by simp[MR.out]),AAC (.inr hf)]
    clear hf hb5;obtain ⟨⟨z0,z1,z2,z3,z4,z5,z6,z7⟩,y0,y1,y2,y3,y4,y5,y6,y7⟩:=zK YT.out.1;go_wp2;have HK:=zh (EU YT.out.1 YT.out.2 (q:=w.heap.size+1) (by omega) NN)
    clear z0 z1 z2 z3 z4 z5 z6 z7 y0 y1 y2 y3 y4 y5 y6 y7;unfold q8 q5 at HK;generalize World.setCell _ _ _=W9 at *;obtain ⟨⟨z0,z1,z2,z3,z4,z5,z6,z7⟩,_⟩:=zK HK.out.1
    refine bodyPost_ret (v := .tuple #[zeroV.v none 0 none 0 none 0,.int .i64 1]) (by simp[results,Tryz.results17,go_sem,z0,z1,z2,z3,z4,z5,z6,z7];exact OV) rfl ?_
    exact HK.out.2
   | true =>
    have NN:Hid ((v.v,(0:Int))=Al false s t x):=by show _=_;rw[OQ.out,Pe (by simp[MR.out]),Pe (by rw[hf];simp)]
    clear hf hb5 v0 v1 v2 v3 v4 v5 v6 v7 c0 c1 c2 c3 c4 s0;obtain ⟨⟨v0,v1,v2,v3,v4,v5,v6,v7⟩,_⟩:=zK HV5;obtain ⟨⟨z0,z1,z2,z3,z4,z5,z6,z7⟩,y0,y1,y2,y3,y4,y5,y6,y7⟩:=zK YT.out.1;go_wp2
    have HK:=zh (Cw YT.out.1 (.int .i64 v.v.kind) (.bool v.v.bool) (.int .i64 v.v.int) (.string v.v.str) (.int .i64 v.v.id) (.slice v.A1 v.v.keys.length v.c1) (.slice v.A2 v.v.items.length v.c2) (.slice v.A3 v.v.rest.length v.c3))
    have Kh:=zh (WG NN (FJ TL (B:=w.heap.size+1) rG (.int .i64 v.v.kind) (.bool v.v.bool) (.int .i64 v.v.int) (.string v.v.str) (.int .i64 v.v.id) (.slice v.A1 v.v.keys.length v.c1) (.slice v.A2 v.v.items.length v.c2) (.slice v.A3 v.v.rest.length v.c3)).out (Cy YT.out.2 (q:=w.heap.size+1) (by omega) (.int .i64 v.v.kind) (.bool v.v.bool) (.int .i64 v.v.int) (.string v.v.str) (.int .i64 v.v.id) (.slice v.A1 v.v.keys.length v.c1) (.slice v.A2 v.v.items.length v.c2) (.slice v.A3 v.v.rest.length v.c3)))
    clear z0 z1 z2 z3 z4 z5 z6 z7 y0 y1 y2 y3 y4 y5 y6 y7;unfold q8 q5 at HK Kh;generalize World.setCell _ _ _=W9 at *;obtain ⟨⟨z0,z1,z2,z3,z4,z5,z6,z7⟩,_⟩:=zK HK
    refine bodyPost_ret (v := .tuple #[v.v.v v.A1 v.c1 v.A2 v.c2 v.A3 v.c3,.int .i64 0]) (by simp[results,Tryz.results17,go_sem,z0,z1,z2,z3,z4,z5,z6,z7]) rfl ?_
    exact Kh.out
end Go.Proofs.YthkkllmmbefedaaGreatDoor



