/-
  Walks: sheaveref12.Parse.
-/
import Derived.Test.YthkkllmmbefedaaGreatDoorQGQ3
import Derived.Test.YthkkllmmbefedaaGreatDoorQGN1
namespace Go.Proofs.YthkkllmmbefedaaGreatDoor
open Go.RowKit
set_option maxHeartbeats 16000000
set_option maxRecDepth 100000
theorem bg {m:Bool} {s:List AZ} {t:Int} {l:List AB} {v:Val} {r:List AB} {k:Bool} (h:C9 m s t l = .ok (v,r,k)):r.length<l.length:=(Dv m s t _ _ _ _ _ h).2
theorem Rx {s:List AZ} (hv:zQ s=0) (hn:Ca s) (A:zo) (c:Nat) (t:Int) (x:ByteArray) (hx:x.size<=140737488355328) (w:World) (hs:DV w A s) (hE:Gq w) :
  Calls Tryz.prog 19 #[.agg #[.slice A s.length c],.int .i64 t,.string x] w (nL s t x w):=by
 have HS:=zh hs;have HE:=zh hE;have sU:=zh hx;have HV:=zh hv;have HN:=zh hn;have VW:=zh (uK (bU hv hn));have nQ:=zh (WI (bU hv hn) t x);have hls:=F9 hv;have HB2:=zh (zI w (.cells #[.slice A s.length c] 31) zO);have Pz:=zh (zw w (.cells #[.slice A s.length c] 31) zO)
 have P5:Hid (((w.alloc (.cells #[.slice A s.length c] 31)).alloc zO).heap[w.heap.size+1]? = some zO):=by
  show _=_
  have:=AAA (w.alloc (.cells #[.slice A s.length c] 31)) zO;rw[show (w.alloc (.cells #[.slice A s.length c] 31)).heap.size=w.heap.size+1 by simp] at this
  exact this
 clear hs hE hx hv hn
 go_enter Tryz.func19,Tryz.ntmps19
 go_upto_region 1 with fail
 generalize (w.alloc (.cells #[.slice A s.length c] 31)).alloc zO=W2 at *;have x0:=zb Pz;obtain ⟨rb,hrb⟩:∃rb:Bool,decide (t<0\/(s.length:Int)<=t)=rb:=⟨_,rfl⟩;have TD:=zh hrb;clear hrb
 go_cut [21] (fun q wx=>q = .bool rb/\wx=W2)
 case first =>
  rcases Int.lt_or_le t 0 with g|g
  ·have MX:Hid (rb=true):=by show _=_;rw[<-TD.out];exact AAM (.inl g)
   go_wp2
   go_meet
   exact ⟨by rw[MX.out],rfl⟩
  ·have g1:¬ t<0:=by omega
   by_cases g2:(s.length:Int)<=t
   ·have MX:Hid (rb=true):=by show _=_;rw[<-TD.out];exact AAM (.inr g2)
    go_wp2
    go_meet
    exact ⟨by rw[MX.out],rfl⟩
   ·have MX:Hid (rb=false):=by show _=_;rw[<-TD.out];exact AAE (by omega)
    go_wp2
    go_meet
    exact ⟨by rw[MX.out],rfl⟩
 case rest =>
 obtain ⟨rfl,hw⟩:=hcut;obtain rfl:W2=wc:=hw.symm
 cases rb with
 | true =>
  have NN:Hid (Al false s t x=(zeroV,4)):=by show _=_;unfold Al;rw[AAC (AAm TD)]
  obtain ⟨⟨z0,z1,z2,z3,z4,z5,z6,z7⟩,y0,y1,y2,y3,y4,y5,y6,y7⟩:=zK P5;go_wp2;have HK:=zh (EU P5 HB2 (q:=w.heap.size+1) (by omega) NN)
  clear z0 z1 z2 z3 z4 z5 z6 z7 y0 y1 y2 y3 y4 y5 y6 y7;unfold q8 q5 at HK;generalize World.setCell _ _ _=W9 at *;obtain ⟨⟨z0,z1,z2,z3,z4,z5,z6,z7⟩,_⟩:=zK HK.out.1
  exact bodyPost_ret (v := .tuple #[zeroV.v none 0 none 0 none 0,.int .i64 4]) (by simp[results,Tryz.results19,go_sem,z0,z1,z2,z3,z4,z5,z6,z7];exact OV) rfl HK.out.2
 | false =>
  have MX:Hid (¬ (t<0\/(s.length:Int)<=t)):=of_decide_eq_false TD;clear TD;go_wp2_with fail;refine (Y7 x sU _ (HE.out.below HB2)).mono ?_;rintro y w2 ⟨TA,tc,nn,er,l,rfl,g1,g2,g3,g4⟩;have HT2:=zh g1;have HL2:=zh g2;have XW:=zh (zB HB2 g3);have Py:=zh (CW Pz g3);have MP:=zh (CW P5 g3);have qi:=zh g4
  have rG:Hid (w.heap.size+1<w2.heap.size):=(zg.1 MP).1;have mD:Hid (er=0->(¬ 65536<x.size)/\BJ 1 x.data.toList = .ok l):=fun he=>by
   have h:=qi.out
   by_cases hz:65536<x.size
   ·rw[AAC hz] at h;omega
   ·rw[Pe hz] at h
    cases ht:BJ 1 x.data.toList with
    | error e=>rw[ht] at h;simp only at h;omega
    | ok o=>rw[ht] at h;exact ⟨hz,by rw[h.1]⟩
  have XL:Hid (er≠0->Al false s t x=(zeroV,er)):=fun he=>by
   have h:=qi.out;unfold Al;rw[Pe MX.out]
   by_cases hz:65536<x.size
   ·rw[AAC hz] at h ⊢;rw[h]
   ·rw[Pe hz] at h ⊢
    cases ht:BJ 1 x.data.toList with
    | error e=>rw[ht] at h;simp only at h ⊢;rw[h]
    | ok o=>rw[ht] at h;exact absurd h.2.1 he
  clear x0 g1 g2 g3 g4 Pz P5 HB2 qi
  by_cases he:er=0
  case neg =>
   have q1:(er != 0)=true:=by simp[he]
   have NN:Hid (Al false s t x=(zeroV,er)):=XL.out he;clear he;obtain ⟨⟨z0,z1,z2,z3,z4,z5,z6,z7⟩,y0,y1,y2,y3,y4,y5,y6,y7⟩:=zK MP;go_wp2;have HK:=zh (EU MP XW (q:=w.heap.size+1) (by omega) NN)
   clear z0 z1 z2 z3 z4 z5 z6 z7 y0 y1 y2 y3 y4 y5 y6 y7;unfold q8 q5 at HK;generalize World.setCell _ _ _=W9 at *;obtain ⟨⟨z0,z1,z2,z3,z4,z5,z6,z7⟩,_⟩:=zK HK.out.1
   exact bodyPost_ret (v := .tuple #[zeroV.v none 0 none 0 none 0,.int .i64 er]) (by simp[results,Tryz.results19,go_sem,z0,z1,z2,z3,z4,z5,z6,z7];exact OV) rfl HK.out.2
  have NK:=zh (mD.out he);have q1:(er != 0)=false:=by simp[he]
  clear he mD XL;have x0:=zb Py;go_wp2_with fail;refine (UE HV VW A c t l TA tc (by have:=HL2.out;omega) w2 (HS.out.below XW) HT2).mono ?_
  rintro y w3 ⟨v,nr,e3,rfl,h1,h2,h4⟩;have HO3:=zh h1;have HJ:=zh h4;have HB3:=zh (zB XW h2);have VO:=zh (CW Py h2);have PN:=zh (CW MP h2);have AES:=zh h2.size;clear x0 h1 h2 h4 Py MP q1;go_upto_region 7 with fail
  have BI:=zh (zD w3 (.cells v.cells.toArray 28));have XI:Hid ((w3.alloc (.cells v.cells.toArray 28)).heap[w3.heap.size]? = some (.cells v.cells.toArray 28)):=AAA w3 _;have rA:=zh (HO3.out.low BI);have BD:=zh (zB HB3 BI);have PL:=zh (CW VO BI);have Kc:=zh (CW PN BI);unfold BX.cells at BI XI rA BD PL Kc;generalize w3.alloc _=W4 at *
  generalize w3.heap.size=q at *
  by_cases he:e3=0
  case neg =>
   have q1:(e3 != 0)=true:=by simp[he]
   have NN:Hid (Al false s t x=(zeroV,e3)):=by
    show _=_
    have hj:=HJ.out;rw[nQ.out];unfold vB at hj;unfold Al;rw[Pe MX.out] at hj ⊢;rw[Pe NK.out.1,NK.out.2];simp only
    cases hp:C9 true s t l with
    | error e=>rw[hp] at hj;rw[hj]
    | ok p=>rw[hp] at hj;exact absurd hj.2.2 he
   clear he;obtain ⟨⟨z0,z1,z2,z3,z4,z5,z6,z7⟩,y0,y1,y2,y3,y4,y5,y6,y7⟩:=zK Kc;go_wp2;have HK:=zh (EU Kc BD (q:=w.heap.size+1) (by omega) NN)
   clear z0 z1 z2 z3 z4 z5 z6 z7 y0 y1 y2 y3 y4 y5 y6 y7;unfold q8 q5 at HK;generalize World.setCell _ _ _=W9 at *;obtain ⟨⟨z0,z1,z2,z3,z4,z5,z6,z7⟩,_⟩:=zK HK.out.1
   exact bodyPost_ret (v := .tuple #[zeroV.v none 0 none 0 none 0,.int .i64 e3]) (by simp[results,Tryz.results19,go_sem,z0,z1,z2,z3,z4,z5,z6,z7];exact OV) rfl HK.out.2
  subst he;have mH:Hid (∃r3,C9 true s t l = .ok (v.v,r3,false)/\nr=((l.length - r3.length:Nat):Int)/\r3.length<l.length):=by
   show ∃r3,_
   have hj:=HJ.out;unfold vB at hj;rw[Pe MX.out] at hj
   cases hp:C9 true s t l with
   | error e=>rw[hp] at hj;exact absurd (hj▸hp) (Cm true s t l false)
   | ok p =>
    obtain ⟨v',r,k⟩:=p;rw[hp] at hj;obtain ⟨j1,j2,_⟩:=hj;obtain rfl:k=false:=VW.out t l v' r k hp;exact ⟨r,by rw[j1],j2,bg hp⟩
  obtain ⟨r3,hp3⟩:=mH.out;have aG:=zh hp3;have OQ:Hid (Al false s t x=if r3≠[] then (zeroV,2) else if CQ s false t v.v=false then (zeroV,1) else (v.v,0)):=by
   show _=_
   rw[nQ.out];unfold Al;rw[Pe MX.out,Pe NK.out.1,NK.out.2];simp only;rw[aG.out.1];simp
  have hn2:=hp3.2.1;have hn3:=hp3.2.2;have hll:=HL2.out;clear hp3 mH HJ
  by_cases hr3:r3=[]
  case neg =>
   have q2:nr<(l.length:Int):=by
    have:0<r3.length:=by
     cases r3 with
     | nil=>exact absurd rfl hr3
     | cons a b=>simp
    omega
   have NN:Hid (Al false s t x=(zeroV,2)):=by show _=_;rw[OQ.out,AAC hr3]
   clear hr3 hn2 hn3;obtain ⟨⟨z0,z1,z2,z3,z4,z5,z6,z7⟩,y0,y1,y2,y3,y4,y5,y6,y7⟩:=zK Kc;go_wp2;have HK:=zh (EU Kc BD (q:=w.heap.size+1) (by omega) NN)
   clear z0 z1 z2 z3 z4 z5 z6 z7 y0 y1 y2 y3 y4 y5 y6 y7;unfold q8 q5 at HK;generalize World.setCell _ _ _=W9 at *;obtain ⟨⟨z0,z1,z2,z3,z4,z5,z6,z7⟩,_⟩:=zK HK.out.1
   exact bodyPost_ret (v := .tuple #[zeroV.v none 0 none 0 none 0,.int .i64 2]) (by simp[results,Tryz.results19,go_sem,z0,z1,z2,z3,z4,z5,z6,z7];exact OV) rfl HK.out.2
  have q2:¬ nr<(l.length:Int):=by
   rw[hr3] at hn2;simp only[List.length_nil] at hn2
   omega
  have MQ:Hid (Al false s t x=if CQ s false t v.v=false then (zeroV,1) else (v.v,0)):=by show _=_;rw[OQ.out,Pe (by rw[hr3];simp)]
  clear hr3 hn2 hn3 OQ aG;have s0:=zb PL;obtain ⟨⟨v0,v1,v2,v3,v4,v5,v6,v7⟩,_⟩:=zK XI;go_wp2_with fail;refine (Ry A c HV HN t v.v v.A1 v.c1 v.A2 v.c2 v.A3 v.c3 _ (HS.out.below BD) rA.out.out).mono ?_;rintro y w5 ⟨rfl,hb5⟩;have XJ:=zh (CW Kc hb5);have BB:=zh (zB BD hb5);have HV5:=zh (CW XI hb5);have TL:=zh (rA.out.low hb5)
  clear v0 v1 v2 v3 v4 v5 v6 v7 s0 hb5
  cases hf:CQ s false t v.v with
  | false =>
   have NN:Hid (Al false s t x=(zeroV,1)):=by show _=_;rw[MQ.out,AAC hf]
   clear hf;obtain ⟨⟨z0,z1,z2,z3,z4,z5,z6,z7⟩,y0,y1,y2,y3,y4,y5,y6,y7⟩:=zK XJ;go_wp2;have HK:=zh (EU XJ BB (q:=w.heap.size+1) (by omega) NN)
   clear z0 z1 z2 z3 z4 z5 z6 z7 y0 y1 y2 y3 y4 y5 y6 y7;unfold q8 q5 at HK;generalize World.setCell _ _ _=W9 at *;obtain ⟨⟨z0,z1,z2,z3,z4,z5,z6,z7⟩,_⟩:=zK HK.out.1
   exact bodyPost_ret (v := .tuple #[zeroV.v none 0 none 0 none 0,.int .i64 1]) (by simp[results,Tryz.results19,go_sem,z0,z1,z2,z3,z4,z5,z6,z7];exact OV) rfl HK.out.2
  | true =>
   have NN:Hid ((v.v,(0:Int))=Al false s t x):=by show _=_;rw[MQ.out,Pe (by rw[hf];simp)]
   clear hf;obtain ⟨⟨v0,v1,v2,v3,v4,v5,v6,v7⟩,_⟩:=zK HV5;obtain ⟨⟨z0,z1,z2,z3,z4,z5,z6,z7⟩,y0,y1,y2,y3,y4,y5,y6,y7⟩:=zK XJ;go_wp2;have HK:=zh (Cw XJ (.int .i64 v.v.kind) (.bool v.v.bool) (.int .i64 v.v.int) (.string v.v.str) (.int .i64 v.v.id) (.slice v.A1 v.v.keys.length v.c1) (.slice v.A2 v.v.items.length v.c2) (.slice v.A3 v.v.rest.length v.c3))
   have Kh:=zh (WG NN (FJ TL (B:=w.heap.size+1) rG (.int .i64 v.v.kind) (.bool v.v.bool) (.int .i64 v.v.int) (.string v.v.str) (.int .i64 v.v.id) (.slice v.A1 v.v.keys.length v.c1) (.slice v.A2 v.v.items.length v.c2) (.slice v.A3 v.v.rest.length v.c3)).out (Cy BB (q:=w.heap.size+1) (by omega) (.int .i64 v.v.kind) (.bool v.v.bool) (.int .i64 v.v.int) (.string v.v.str) (.int .i64 v.v.id) (.slice v.A1 v.v.keys.length v.c1) (.slice v.A2 v.v.items.length v.c2) (.slice v.A3 v.v.rest.length v.c3)))
   clear z0 z1 z2 z3 z4 z5 z6 z7 y0 y1 y2 y3 y4 y5 y6 y7;unfold q8 q5 at HK Kh;generalize World.setCell _ _ _=W9 at *;obtain ⟨⟨z0,z1,z2,z3,z4,z5,z6,z7⟩,_⟩:=zK HK
   exact bodyPost_ret (v := .tuple #[v.v.v v.A1 v.c1 v.A2 v.c2 v.A3 v.c3,.int .i64 0]) (by simp[results,Tryz.results19,go_sem,z0,z1,z2,z3,z4,z5,z6,z7]) rfl Kh
end Go.Proofs.YthkkllmmbefedaaGreatDoor



