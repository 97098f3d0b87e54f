/-
  Walks: literal.Parse: its value lies in new blocks.
-/
import Derived.Test.YthkkllmmbefedaaGreatDoorQSXLS
import Derived.Test.YthkkllmmbefedaaGreatDoorQNRM
namespace Go.Proofs.YthkkllmmbefedaaGreatDoor
open Go.RowKit
set_option maxHeartbeats 16000000
set_option maxRecDepth 100000
def PsO (s:List TyD) (t:Int) (x:ByteArray) (w:World) (y:Ending) (w':World):Prop :=
 ∃v:VaA,y = .returned (.tuple #[v.v.v v.A1 v.c1 v.A2 v.c2 v.A3 v.c3,.int .i64 (parseS false s t x).2])∧v.v=(parseS false s t x).1∧Off (fun q=>q<w.heap.size) w' (fun u=>ValR u v.v v.A1 v.A2 v.A3)∧Below w.heap.size w w'
theorem psO_of {s:List TyD} {t:Int} {x:ByteArray} {w w':World} {v:VaA} {e:Int} (h:(v.v,e)=parseS false s t x) (hr:Off (fun q=>q<w.heap.size) w' (fun u=>ValR u v.v v.A1 v.A2 v.A3)) (hb:Below w.heap.size w w'):PsO s t x w (.returned (.tuple #[v.v.v v.A1 v.c1 v.A2 v.c2 v.A3 v.c3,.int .i64 e])) w':=by
 refine ⟨v,?_,by rw[←h],hr,hb⟩
 rw[←h]
theorem PsO.low {s:List TyD} {t:Int} {x:ByteArray} {w W W':World} {y:Ending} (h:PsO s t x w y W) (hb:Below W.heap.size W W'):PsO s t x w y W':=by
 obtain ⟨v,h1,h2,h3,h4⟩:=h;exact ⟨v,h1,h2,h3.low hb,h4.trans (hb.mono h4.size)⟩
theorem psO_zero {s:List TyD} {t:Int} {x:ByteArray} {w W5:World} {q:Nat} {e:Int} (hz:W5.heap[q]? = some zO) (hb:Below w.heap.size w W5) (hq:w.heap.size≤q) (h:parseS false s t x=(zeroV,e)) :
  (set8 W5 q (.int .i64 0) (.bool false) (.int .i64 0) (.string ⟨#[]⟩) (.int .i64 0) nilS nilS nilS).heap[q]? = some zO∧PsO s t x w (.returned (.tuple #[zeroV.v none 0 none 0 none 0,.int .i64 e])) (set8 W5 q (.int .i64 0) (.bool false) (.int .i64 0) (.string ⟨#[]⟩) (.int .i64 0) nilS nilS nilS) :=
 ⟨box8 hz _ _ _ _ _ _ _ _,psO_of (v:=⟨zeroV,none,0,none,0,none,0⟩) h.symm (fun u _=>zero_ok u) (set8_below hb hq _ _ _ _ _ _ _ _)⟩
theorem literalParseO_any {s:List TyD} (hv:zQ s=0) (hn:Num64 s) (A:zo) (c:Nat) (t:Int) (x:ByteArray) (hx:x.size≤140737488355328) (w:World) (hs:TysR w A s) (hE:EnvL w) {SA:zo} {sc:Nat} (hS:SymE w SA sc) :
  Calls Tryz.prog 17 #[.agg #[.slice A s.length c],.int .i64 t,.string x] w (PsO s t x w):=by
 have HS:=zh hs;have HE:=zh hE;have HSY:=zh hS;have HXZ:=zh hx;have HV:=zh hv;have HN:=zh hn;have hls:=valid_len hv;have HB2:=zh (zI w (.cells #[.slice A s.length c] 31) zO);have HXS:=zh (zw w (.cells #[.slice A s.length c] 31) zO);have HXR:Hid (((w.alloc (.cells #[.slice A s.length c] 31)).alloc zO).heap[w.heap.size+1]? = some zO):=by
  show _=_
  have:=heap_alloc_new (w.alloc (.cells #[.slice A s.length c] 31)) zO;rw[show (w.alloc (.cells #[.slice A s.length c] 31)).heap.size=w.heap.size+1 by simp] at this
  exact this
 clear hs hE hS hx hv hn
 go_enter Tryz.func17,Tryz.ntmps17
 go_upto_region 1 with fail
 generalize (w.alloc (.cells #[.slice A s.length c] 31)).alloc zO=W2 at *;have x0:=zb HXS.out;obtain ⟨rb,hrb⟩:∃rb:Bool,decide (t<0∨(s.length:Int)≤t)=rb:=⟨_,rfl⟩;have HRB:=zh hrb;clear hrb
 go_cut [21] (fun q wx=>q = .bool rb∧wx=W2)
 case first =>
  rcases Int.lt_or_le t 0 with g|g
  ·have HRT:Hid (rb=true):=by show _=_;rw[←HRB.out];exact decide_eq_true (.inl g)
   go_wp2
   go_meet
   exact ⟨by rw[HRT.out],rfl⟩
  ·have g1:¬ t<0:=by omega
   by_cases g2:(s.length:Int)≤t
   ·have HRT:Hid (rb=true):=by show _=_;rw[←HRB.out];exact decide_eq_true (.inr g2)
    go_wp2
    go_meet
    exact ⟨by rw[HRT.out],rfl⟩
   ·have HRT:Hid (rb=false):=by show _=_;rw[←HRB.out];exact decide_eq_false (by omega)
    go_wp2
    go_meet
    exact ⟨by rw[HRT.out],rfl⟩
 case rest =>
 obtain ⟨rfl,hw⟩:=hcut;obtain rfl:W2=wc:=hw.symm
 cases rb with
 | true =>
  have HS0:Hid (parseS false s t x=(zeroV,4)):=by show _=_;unfold parseS;rw[if_pos (of_decide_eq_true HRB.out)]
  obtain ⟨⟨z0,z1,z2,z3,z4,z5,z6,z7⟩,y0,y1,y2,y3,y4,y5,y6,y7⟩:=zK HXR.out;go_wp2;have HK:=zh (psO_zero HXR.out HB2.out (q:=w.heap.size+1) (by omega) HS0.out)
  clear z0 z1 z2 z3 z4 z5 z6 z7 y0 y1 y2 y3 y4 y5 y6 y7;unfold set8 set5 at HK;generalize World.setCell (World.setCell (World.setCell (World.setCell (World.setCell (World.setCell (World.setCell (World.setCell W2 _ _) _ _) _ _) _ _) _ _) _ _) _ _) _ _=W9 at *;obtain ⟨⟨z0,z1,z2,z3,z4,z5,z6,z7⟩,_⟩:=zK HK.out.1
  refine bodyPost_ret (v := .tuple #[zeroV.v none 0 none 0 none 0,.int .i64 4]) (by simp[results,Tryz.results17,go_sem,z0,z1,z2,z3,z4,z5,z6,z7];exact zres) rfl ?_
  exact HK.out.2
 | false =>
  have HRT:Hid (¬ (t<0∨(s.length:Int)≤t)):=of_decide_eq_false HRB.out;clear HRB;go_wp2_with fail;refine (lexToks_any x HXZ.out _ (HE.out.below HB2.out) (HSY.out.below HB2.out)).mono ?_;rintro y w2 ⟨TA,tc,nn,er,l,rfl,g1,g2,g3,g4⟩;have HT2:=zh g1;have HL2:=zh g2;have HB3':=zh (zB HB2.out g3);have HXS2:=zh (nblk HXS.out g3);have HXR2:=zh (nblk HXR.out g3);have HT4:=zh g4
  have HLB2:Hid (w.heap.size+1<w2.heap.size):=(zg.1 HXR2.out).1;have HSM:Hid (er=0→(¬ 65536<x.size)∧toksL 1 x.data.toList = .ok l):=fun he=>by
   have h:=HT4.out
   by_cases hz:65536<x.size
   ·rw[if_pos hz] at h;omega
   ·rw[if_neg hz] at h
    cases ht:toksL 1 x.data.toList with
    | error e=>rw[ht] at h;simp only at h;omega
    | ok o=>rw[ht] at h;exact ⟨hz,by rw[h.1]⟩
  have HSN:Hid (er≠0→parseS false s t x=(zeroV,er)):=fun he=>by
   have h:=HT4.out;unfold parseS;rw[if_neg HRT.out]
   by_cases hz:65536<x.size
   ·rw[if_pos hz] at h ⊢;rw[h]
   ·rw[if_neg hz] at h ⊢
    cases ht:toksL 1 x.data.toList with
    | error e=>rw[ht] at h;simp only at h ⊢;rw[h]
    | ok o=>rw[ht] at h;exact absurd h.2.1 he
  clear x0 g1 g2 g3 g4 HXS HXR HB2 HT4
  by_cases he:er=0
  case neg =>
   have q1:(er != 0)=true:=by simp[he]
   have HS0:Hid (parseS false s t x=(zeroV,er)):=HSN.out he;clear he;obtain ⟨⟨z0,z1,z2,z3,z4,z5,z6,z7⟩,y0,y1,y2,y3,y4,y5,y6,y7⟩:=zK HXR2.out;go_wp2;have HK:=zh (psO_zero HXR2.out HB3'.out (q:=w.heap.size+1) (by omega) HS0.out)
   clear z0 z1 z2 z3 z4 z5 z6 z7 y0 y1 y2 y3 y4 y5 y6 y7;unfold set8 set5 at HK;generalize World.setCell (World.setCell (World.setCell (World.setCell (World.setCell (World.setCell (World.setCell (World.setCell w2 _ _) _ _) _ _) _ _) _ _) _ _) _ _) _ _=W9 at *;obtain ⟨⟨z0,z1,z2,z3,z4,z5,z6,z7⟩,_⟩:=zK HK.out.1
   refine bodyPost_ret (v := .tuple #[zeroV.v none 0 none 0 none 0,.int .i64 er]) (by simp[results,Tryz.results17,go_sem,z0,z1,z2,z3,z4,z5,z6,z7];exact zres) rfl ?_
   exact HK.out.2
  have HTK:=zh (HSM.out he);have q1:(er != 0)=false:=by simp[he]
  clear he HSM HSN;have x0:=zb HXS2.out;go_wp2_with fail;refine (lread_any HV.out A c t l TA tc (by have:=HL2.out;omega) w2 (HS.out.below HB3'.out) HT2.out).mono ?_
  rintro y w3 ⟨v,b,rfl,h1,h2,r3,k3,e3,h3,h4⟩;have HO3:=zh h1;have HR3:=zh h3;have HJ:=zh h4;have HB3:=zh (zB HB3'.out h2);have HXS3:=zh (nblk HXS2.out h2);have HXR3:=zh (nblk HXR2.out h2);clear x0 h1 h2 h3 h4 HXS2 HXR2 q1;go_upto_region 7 with fail
  have HBX:=zh (zD w3 (.cells v.cells.toArray 28));have HXV:Hid ((w3.alloc (.cells v.cells.toArray 28)).heap[w3.heap.size]? = some (.cells v.cells.toArray 28)):=heap_alloc_new w3 _;have HR4:=zh (HR3.out.below HBX.out);have HO4:=zh (HO3.out.low HBX.out);have HB4:=zh (zB HB3.out HBX.out);have HXS4:=zh (nblk HXS3.out HBX.out);have HXR4:=zh (nblk HXR3.out HBX.out)
  unfold VaA.cells at HBX HXV HR4 HO4 HB4 HXS4 HXR4;generalize w3.alloc _=W4 at *;generalize w3.heap.size=q at *;have HW2:Hid (∀W5,Below W4.heap.size W4 W5→W5.heap[w.heap.size+1]? = some zO∧Below w.heap.size w W5):=fun W5 hb=>⟨nblk HXR4.out hb,zB HB4.out hb⟩
  have hbq:b≠w.heap.size+1:=blk_ne HR4.out.blk HXR4.out (by decide)
  have hbq2:¬ w.heap.size+1=b:=fun e=>hbq e.symm
  by_cases he:e3=0
  case neg =>
   have q1:(e3 != 0)=true:=by simp[he]
   have HS0:Hid (parseS false s t x=(zeroV,e3)):=by
    show _=_
    have hj:=HJ.out;unfold parseS;rw[if_neg HRT.out] at hj ⊢;rw[if_neg HTK.out.1,HTK.out.2];simp only
    cases hp:readP false s t l with
    | error e=>rw[hp] at hj;rw[hj]
    | ok p=>rw[hp] at hj;exact absurd hj.2.2.2 he
   obtain ⟨⟨c0,c1,c2,c3,c4⟩,_⟩:=HR4.out.cells;clear he;go_upto_region 8 with fail
   obtain ⟨⟨z0,z1,z2,z3,z4,z5,z6,z7⟩,y0,y1,y2,y3,y4,y5,y6,y7⟩:=zK HXR4.out
   go_region
   have HK:=zh (psO_zero HXR4.out HB4.out (q:=w.heap.size+1) (by omega) HS0.out)
   clear z0 z1 z2 z3 z4 z5 z6 z7 y0 y1 y2 y3 y4 y5 y6 y7;unfold set8 set5 at HK;generalize World.setCell (World.setCell (World.setCell (World.setCell (World.setCell (World.setCell (World.setCell (World.setCell W4 _ _) _ _) _ _) _ _) _ _) _ _) _ _) _ _=W9 at *;obtain ⟨⟨z0,z1,z2,z3,z4,z5,z6,z7⟩,_⟩:=zK HK.out.1;go_wp2
   refine bodyPost_ret (v := .tuple #[zeroV.v none 0 none 0 none 0,.int .i64 e3]) (by simp[results,Tryz.results17,go_sem,z0,z1,z2,z3,z4,z5,z6,z7];exact zres) rfl ?_
   exact HK.out.2.low (zC (Below.refl _ _) 1)
  subst he;have HPR:Hid (readP false s t l = .ok (v.v,r3,k3)):=by
   show _=_
   have hj:=HJ.out;rw[if_neg HRT.out] at hj
   cases hp:readP false s t l with
   | error e=>rw[hp] at hj;exact absurd (hj▸hp) (valR_nz false s t l false)
   | ok p =>
    obtain ⟨v',r,k⟩:=p;rw[hp] at hj;obtain ⟨j1,j2,j3,_⟩:=hj;rw[j1,j2,j3]
  have HRS:Hid (parseS false s t x=if r3≠[] then (zeroV,2) else if k3=true∨fitV s false t v.v=false then (zeroV,1) else (v.v,0)):=by
   show _=_
   unfold parseS;rw[if_neg HRT.out,if_neg HTK.out.1,HTK.out.2];simp only;rw[HPR.out]
  have hl6:=HL2.out;have hsx:=HR4.out.sfx.length_le;obtain ⟨⟨c0,c1,c2,c3,c4⟩,_⟩:=HR4.out.cells;simp only at hsx c2
  by_cases hr:r3=[]
  case neg =>
   have HS0:Hid (parseS false s t x=(zeroV,2)):=by show _=_;rw[HRS.out,if_pos hr]
   have q2:((l.length - r3.length:Nat):Int)<(l.length:Int):=by have:=List.length_pos_iff.2 hr;omega
   clear hr hsx hl6;obtain ⟨⟨z0,z1,z2,z3,z4,z5,z6,z7⟩,y0,y1,y2,y3,y4,y5,y6,y7⟩:=zK HXR4.out;go_wp2;have HK:=zh (psO_zero HXR4.out HB4.out (q:=w.heap.size+1) (by omega) HS0.out)
   clear z0 z1 z2 z3 z4 z5 z6 z7 y0 y1 y2 y3 y4 y5 y6 y7;unfold set8 set5 at HK;generalize World.setCell (World.setCell (World.setCell (World.setCell (World.setCell (World.setCell (World.setCell (World.setCell W4 _ _) _ _) _ _) _ _) _ _) _ _) _ _) _ _=W9 at *;obtain ⟨⟨z0,z1,z2,z3,z4,z5,z6,z7⟩,_⟩:=zK HK.out.1
   refine bodyPost_ret (v := .tuple #[zeroV.v none 0 none 0 none 0,.int .i64 2]) (by simp[results,Tryz.results17,go_sem,z0,z1,z2,z3,z4,z5,z6,z7];exact zres) rfl ?_
   exact HK.out.2
  have q2:¬ ((l.length - r3.length:Nat):Int)<(l.length:Int):=by rw[hr];simp
  have HRN:=zh hr;clear hr hsx hl6
  cases k3 with
  | true =>
   have HS0:Hid (parseS false s t x=(zeroV,1)):=by show _=_;rw[HRS.out,if_neg (by simp[HRN.out]),if_pos (.inl rfl)]
   obtain ⟨⟨z0,z1,z2,z3,z4,z5,z6,z7⟩,y0,y1,y2,y3,y4,y5,y6,y7⟩:=zK HXR4.out;go_wp2;have HK:=zh (psO_zero HXR4.out HB4.out (q:=w.heap.size+1) (by omega) HS0.out)
   clear z0 z1 z2 z3 z4 z5 z6 z7 y0 y1 y2 y3 y4 y5 y6 y7;unfold set8 set5 at HK;generalize World.setCell (World.setCell (World.setCell (World.setCell (World.setCell (World.setCell (World.setCell (World.setCell W4 _ _) _ _) _ _) _ _) _ _) _ _) _ _) _ _=W9 at *;obtain ⟨⟨z0,z1,z2,z3,z4,z5,z6,z7⟩,_⟩:=zK HK.out.1
   refine bodyPost_ret (v := .tuple #[zeroV.v none 0 none 0 none 0,.int .i64 1]) (by simp[results,Tryz.results17,go_sem,z0,z1,z2,z3,z4,z5,z6,z7];exact zres) rfl ?_
   exact HK.out.2
  | false =>
   have s0:=zb HXS4.out;obtain ⟨⟨v0,v1,v2,v3,v4,v5,v6,v7⟩,_⟩:=zK HXV.out;go_wp2_with fail;refine (fits_any A c HV.out HN.out t v _ (HS.out.below HB4.out) HO4.out.out).mono ?_;rintro y w5 ⟨rfl,hb5⟩;have HW5:=zh (HW2.out _ hb5);have HV5:=zh (nblk HXV.out hb5);have HO5:=zh (HO4.out.low hb5)
   cases hf:fitV s false t v.v with
   | false =>
    have HS0:Hid (parseS false s t x=(zeroV,1)):=by show _=_;rw[HRS.out,if_neg (by simp[HRN.out]),if_pos (.inr hf)]
    clear hf hb5;obtain ⟨⟨z0,z1,z2,z3,z4,z5,z6,z7⟩,y0,y1,y2,y3,y4,y5,y6,y7⟩:=zK HW5.out.1;go_wp2;have HK:=zh (psO_zero HW5.out.1 HW5.out.2 (q:=w.heap.size+1) (by omega) HS0.out)
    clear z0 z1 z2 z3 z4 z5 z6 z7 y0 y1 y2 y3 y4 y5 y6 y7;unfold set8 set5 at HK;generalize World.setCell (World.setCell (World.setCell (World.setCell (World.setCell (World.setCell (World.setCell (World.setCell w5 _ _) _ _) _ _) _ _) _ _) _ _) _ _) _ _=W9 at *;obtain ⟨⟨z0,z1,z2,z3,z4,z5,z6,z7⟩,_⟩:=zK HK.out.1
    refine bodyPost_ret (v := .tuple #[zeroV.v none 0 none 0 none 0,.int .i64 1]) (by simp[results,Tryz.results17,go_sem,z0,z1,z2,z3,z4,z5,z6,z7];exact zres) rfl ?_
    exact HK.out.2
   | true =>
    have HS0:Hid ((v.v,(0:Int))=parseS false s t x):=by show _=_;rw[HRS.out,if_neg (by simp[HRN.out]),if_neg (by rw[hf];simp)]
    clear hf hb5 v0 v1 v2 v3 v4 v5 v6 v7 c0 c1 c2 c3 c4 s0;obtain ⟨⟨v0,v1,v2,v3,v4,v5,v6,v7⟩,_⟩:=zK HV5.out;obtain ⟨⟨z0,z1,z2,z3,z4,z5,z6,z7⟩,y0,y1,y2,y3,y4,y5,y6,y7⟩:=zK HW5.out.1;go_wp2
    have HK:=zh (box8 HW5.out.1 (.int .i64 v.v.kind) (.bool v.v.bool) (.int .i64 v.v.int) (.string v.v.str) (.int .i64 v.v.id) (.slice v.A1 v.v.keys.length v.c1) (.slice v.A2 v.v.items.length v.c2) (.slice v.A3 v.v.rest.length v.c3))
    have HK2:=zh (psO_of HS0.out ((off_set8 HO5.out (B:=w.heap.size+1) HLB2.out (.int .i64 v.v.kind) (.bool v.v.bool) (.int .i64 v.v.int) (.string v.v.str) (.int .i64 v.v.id) (.slice v.A1 v.v.keys.length v.c1) (.slice v.A2 v.v.items.length v.c2) (.slice v.A3 v.v.rest.length v.c3)).mono fun q _ (h:q<w.heap.size)=>by have:=HLB2.out;show q<_;omega) (set8_below HW5.out.2 (q:=w.heap.size+1) (by omega) (.int .i64 v.v.kind) (.bool v.v.bool) (.int .i64 v.v.int) (.string v.v.str) (.int .i64 v.v.id) (.slice v.A1 v.v.keys.length v.c1) (.slice v.A2 v.v.items.length v.c2) (.slice v.A3 v.v.rest.length v.c3)))
    clear z0 z1 z2 z3 z4 z5 z6 z7 y0 y1 y2 y3 y4 y5 y6 y7;unfold set8 set5 at HK HK2;generalize World.setCell (World.setCell (World.setCell (World.setCell (World.setCell (World.setCell (World.setCell (World.setCell w5 _ _) _ _) _ _) _ _) _ _) _ _) _ _) _ _=W9 at *;obtain ⟨⟨z0,z1,z2,z3,z4,z5,z6,z7⟩,_⟩:=zK HK.out
    refine bodyPost_ret (v := .tuple #[v.v.v v.A1 v.c1 v.A2 v.c2 v.A3 v.c3,.int .i64 0]) (by simp[results,Tryz.results17,go_sem,z0,z1,z2,z3,z4,z5,z6,z7]) rfl ?_
    exact HK2.out
end Go.Proofs.YthkkllmmbefedaaGreatDoor


