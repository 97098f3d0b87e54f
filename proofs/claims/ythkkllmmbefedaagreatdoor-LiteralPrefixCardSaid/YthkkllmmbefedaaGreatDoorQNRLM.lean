/-
  Walks: literal.Parse: its tokens.
-/
import Derived.Test.YthkkllmmbefedaaGreatDoorQGE1
namespace Go.Proofs.YthkkllmmbefedaaGreatDoor
open Go.RowKit Go.Proofs.Tryz
set_option maxHeartbeats 16000000
set_option maxRecDepth 100000
theorem VP (x:ByteArray) (Wl:∀c∈x.data.toList,plC c=true) (hx:x.size<=140737488355328) (w:World) (hE:IB w) {A:zo} {c:Nat} (hS:Lc w A c):Calls prog 49 #[.string x] w (LtP x w):=by
 by_cases hz:65536<x.size
 ·refine (Ua x hx hz w).mono ?_
  rintro e w' ⟨rfl,rfl⟩;exact ⟨none,0,0,3,[],rfl,AY.nil _ _ _ _ _,by simp,Pe _ _,by rw[AAB hz]⟩
 ·refine (Ub x (by omega) Wl w hE hS).mono ?_
  rintro e w' ⟨v,n,er,rfl,h,hb⟩
  cases ht:Ap 1 x.data.toList with
  | error l =>
   rw[ht] at h;obtain ⟨rfl,rfl,rfl⟩:=h;exact ⟨none,0,_,2,[],rfl,AY.nil _ _ _ _ _,by simp,hb,by rw[Pd hz,ht]⟩
  | ok o =>
   rw[ht] at h;obtain ⟨ho,rfl,rfl⟩:=h;have hsz:=(FE _ 1 _ o (AAF _) ht).2;have hxl:x.data.toList.length=x.size:=rfl;have htx:=KG _ 1 _ o (AAF _) ht;obtain ⟨A',c',rfl,hr⟩:=N8.toks ho (by unfold EF;omega) fun t hm=>by
    have:=htx t hm;exact ⟨by unfold Cw;omega,by unfold Cw;omega⟩
   exact ⟨A',c',0,0,o,rfl,hr,by omega,hb,by rw[Pd hz,ht];exact ⟨rfl,rfl,rfl⟩⟩
def xC (s:List Aa) (t:Int) (x:ByteArray) (w:World) (y:Ending) (w':World):Prop :=
 ∃v:Aj,y = .returned (.tuple #[v.v.v v.A1 v.c1 v.A2 v.c2 v.A3 v.c3,.int .i64 (BP false s t x).2])/\v.v=(BP false s t x).1/\Ar w' v.v v.A1 v.A2 v.A3/\Below w.heap.size w w'
variable {x:ByteArray} {t:Int} {s:List Aa} {w:World}
theorem jZ {w':World} {v:Aj} {e:Int} (h:(v.v,e)=BP false s t x) (hr:Ar w' v.v v.A1 v.A2 v.A3) (hb:Below w.heap.size w w'):xC s t x w (.returned (.tuple #[v.v.v v.A1 v.c1 v.A2 v.c2 v.A3 v.c3,.int .i64 e])) w':=by
 refine ⟨v,?_,by rw[<-h],hr,hb⟩
 rw[<-h]
theorem xC.low {W W':World} {y:Ending} (h:xC s t x w y W) (hb:Below W.heap.size W W'):xC s t x w y W':=by
 obtain ⟨v,h1,h2,h3,h4⟩:=h;exact ⟨v,h1,h2,h3.below hb,h4.trans (hb.mono h4.size)⟩
theorem KQ {W5:World} {q:Nat} {e:Int} (hz:W5.heap[q]? = some zO) (hb:Below w.heap.size w W5) (hq:w.heap.size<=q) (h:BP false s t x=(zeroV,e)):
  (q8 W5 q (.int .i64 0) (.bool false) (.int .i64 0) (.string ⟨#[]⟩) (.int .i64 0) AP AP AP).heap[q]? = some zO/\xC s t x w (.returned (.tuple #[zeroV.v none 0 none 0 none 0,.int .i64 e])) (q8 W5 q (.int .i64 0) (.bool false) (.int .i64 0) (.string ⟨#[]⟩) (.int .i64 0) AP AP AP) :=
 ⟨Gx hz _ _ _ _ _ _ _ _,jZ (v:=⟨zeroV,none,0,none,0,none,0⟩) h.symm (L6 _) (Bb hb hq _ _ _ _ _ _ _ _)⟩
theorem Dy (hv:zQ s=0) (hn:DW s) (A:zo) (c:Nat) (t:Int) (x:ByteArray) (Wl:∀c∈x.data.toList,plC c=true) (hx:x.size<=140737488355328) (w:World) (hs:DC w A s) (hE:IB w) {SA:zo} {sc:Nat} (hS:Lc w SA sc):
  Calls prog 17 #[.agg #[.slice A s.length c],.int .i64 t,.string x] w (xC s t x w):=by
 have HS:=zh hs;have HE:=zh hE;have Mv:=zh hS;have HXZ:=zh hx;have HV:=zh hv;have H34:=zh Wl;have HN:=zh hn;have hls:=NC hv;have HB2:=zh (zI w (.cells #[.slice A s.length c] 31) zO);have UE:=zh (zw w (.cells #[.slice A s.length c] 31) zO);have WO:Hid (((w.alloc (.cells #[.slice A s.length c] 31)).alloc zO).heap[w.heap.size+1]? = some zO):=by
  show _=_
  have:=AAA (w.alloc (.cells #[.slice A s.length c] 31)) zO;rw[show (w.alloc (.cells #[.slice A s.length c] 31)).heap.size=w.heap.size+1 by simp] at this
  exact this
 clear hs hE hS hx hv Wl hn
 go_enter func17,ntmps17
 go_upto_region 1 with fail
 generalize (w.alloc (.cells #[.slice A s.length c] 31)).alloc zO=W2 at *;have x0:=zb UE;obtain ⟨rb,hrb⟩:∃rb:Bool,decide (t<0\/(s.length:Int)<=t)=rb:=⟨_,rfl⟩;have fQ:=zh hrb;clear hrb
 go_cut [21] (fun q wx=>q = .bool rb/\wx=W2)
 case first =>
  rcases Int.lt_or_le t 0 with g|g
  ·have eH:Hid (rb=true):=by show _=_;rw[<-fQ.O];exact AAJ (.inl g)
   go_wp2
   go_meet
   exact ⟨by rw[eH.O],rfl⟩
  ·have g1:¬ t<0:=by omega
   by_cases g2:(s.length:Int)<=t
   ·have eH:Hid (rb=true):=by show _=_;rw[<-fQ.O];exact AAJ (.inr g2)
    go_wp2
    go_meet
    exact ⟨by rw[eH.O],rfl⟩
   ·have eH:Hid (rb=false):=by show _=_;rw[<-fQ.O];exact AAP (by omega)
    go_wp2
    go_meet
    exact ⟨by rw[eH.O],rfl⟩
 case rest =>
 obtain ⟨rfl,hw⟩:=hcut;obtain rfl:W2=wc:=hw.symm
 cases rb with
 | true =>
  have M9:Hid (BP false s t x=(zeroV,4)):=by show _=_;unfold BP;rw[AAB (AAr fQ)]
  obtain ⟨⟨z0,z1,z2,z3,z4,z5,z6,z7⟩,y0,y1,y2,y3,y4,y5,y6,y7⟩:=zK WO;go_wp2;have HK:=zh (KQ WO HB2 (q:=w.heap.size+1) (by omega) M9)
  clear z0 z1 z2 z3 z4 z5 z6 z7 y0 y1 y2 y3 y4 y5 y6 y7;unfold q8 q5 at HK;generalize World.setCell _ _ _=W9 at *;obtain ⟨⟨z0,z1,z2,z3,z4,z5,z6,z7⟩,_⟩:=zK HK.O.1
  refine bodyPost_ret (v := .tuple #[zeroV.v none 0 none 0 none 0,.int .i64 4]) (by simp[results,results17,go_sem,z0,z1,z2,z3,z4,z5,z6,z7];exact SH) rfl ?_
  exact HK.O.2
 | false =>
  have eH:Hid (¬ (t<0\/(s.length:Int)<=t)):=of_decide_eq_false fQ;clear fQ;go_wp2_with fail;refine (VP x H34 HXZ _ (HE.O.below HB2) (Mv.O.below HB2)).mono ?_;rintro y w2 ⟨TA,tc,nn,er,l,rfl,g1,g2,g3,g4⟩;have HT2:=zh g1;have HL2:=zh g2;have yo:=zh (zB HB2 g3);have eB:=zh (Au UE g3);have WN:=zh (Au WO g3);have HT4:=zh g4
  have AEG:Hid (w.heap.size+1<w2.heap.size):=(zg.1 WN).1;have HSM:Hid (er=0->(¬ 65536<x.size)/\Ap 1 x.data.toList = .ok l):=fun he=>by
   have h:=HT4.O
   by_cases hz:65536<x.size
   ·rw[AAB hz] at h;omega
   ·rw[Pd hz] at h
    cases ht:Ap 1 x.data.toList with
    | error e=>rw[ht] at h;simp only at h;omega
    | ok o=>rw[ht] at h;exact ⟨hz,by rw[h.1]⟩
  have fP:Hid (er≠0->BP false s t x=(zeroV,er)):=fun he=>by
   have h:=HT4.O;unfold BP;rw[Pd eH.O]
   by_cases hz:65536<x.size
   ·rw[AAB hz] at h ⊢;rw[h]
   ·rw[Pd hz] at h ⊢
    cases ht:Ap 1 x.data.toList with
    | error e=>rw[ht] at h;simp only at h ⊢;rw[h]
    | ok o=>rw[ht] at h;exact absurd h.2.1 he
  clear x0 g1 g2 g3 g4 UE WO HB2 HT4
  by_cases he:er=0
  case neg =>
   have q1:(er != 0)=true:=by simp[he]
   have M9:Hid (BP false s t x=(zeroV,er)):=fP.O he;clear he;obtain ⟨⟨z0,z1,z2,z3,z4,z5,z6,z7⟩,y0,y1,y2,y3,y4,y5,y6,y7⟩:=zK WN;go_wp2;have HK:=zh (KQ WN yo (q:=w.heap.size+1) (by omega) M9)
   clear z0 z1 z2 z3 z4 z5 z6 z7 y0 y1 y2 y3 y4 y5 y6 y7;unfold q8 q5 at HK;generalize World.setCell _ _ _=W9 at *;obtain ⟨⟨z0,z1,z2,z3,z4,z5,z6,z7⟩,_⟩:=zK HK.O.1
   refine bodyPost_ret (v := .tuple #[zeroV.v none 0 none 0 none 0,.int .i64 er]) (by simp[results,results17,go_sem,z0,z1,z2,z3,z4,z5,z6,z7];exact SH) rfl ?_
   exact HK.O.2
  have PG:=zh (HSM.O he);have q1:(er != 0)=false:=by simp[he]
  clear he HSM fP;have x0:=zb eB;go_wp2_with fail;refine (Rm HV A c t l TA tc (by have:=HL2.O;omega) w2 (HS.O.below yo) HT2).mono ?_
  rintro y w3 ⟨v,b,rfl,h1,h2,r3,k3,e3,h3,h4⟩;have HO3:=zh h1;have HR3:=zh h3;have HJ:=zh h4;have HB3:=zh (zB yo h2);have WL:=zh (Au eB h2);have WM:=zh (Au WN h2);clear x0 h1 h2 h3 h4 eB WN q1;go_upto_region 7 with fail
  have BL:=zh (zD w3 (.cells v.cells.toArray 28));have fI:Hid ((w3.alloc (.cells v.cells.toArray 28)).heap[w3.heap.size]? = some (.cells v.cells.toArray 28)):=AAA w3 _;have HR4:=zh (HR3.O.below BL);have xu:=zh (HO3.O.low BL);have ED:=zh (zB HB3 BL);have Qa:=zh (Au WL BL);have J9:=zh (Au WM BL)
  unfold Aj.cells at BL fI HR4 xu ED Qa J9;generalize w3.alloc _=W4 at *;generalize w3.heap.size=q at *;have HW2:Hid (∀W5,Below W4.heap.size W4 W5->W5.heap[w.heap.size+1]? = some zO/\Below w.heap.size w W5):=fun W5 hb=>⟨Au J9 hb,zB ED hb⟩
  have hbq:b≠w.heap.size+1:=Gr HR4.O.blk J9 (by decide)
  have ADR:¬ w.heap.size+1=b:=fun e=>hbq e.symm
  by_cases he:e3=0
  case neg =>
   have q1:(e3 != 0)=true:=by simp[he]
   have M9:Hid (BP false s t x=(zeroV,e3)):=by
    show _=_
    have hj:=HJ.O;unfold BP;rw[Pd eH.O] at hj ⊢;rw[Pd PG.O.1,PG.O.2];simp only
    cases hp:CU false s t l with
    | error e=>rw[hp] at hj;rw[hj]
    | ok p=>rw[hp] at hj;exact absurd hj.2.2.2 he
   obtain ⟨⟨c0,c1,c2,c3,c4⟩,_⟩:=HR4.O.cells;clear he;go_upto_region 8 with fail
   obtain ⟨⟨z0,z1,z2,z3,z4,z5,z6,z7⟩,y0,y1,y2,y3,y4,y5,y6,y7⟩:=zK J9
   go_region
   have HK:=zh (KQ J9 ED (q:=w.heap.size+1) (by omega) M9)
   clear z0 z1 z2 z3 z4 z5 z6 z7 y0 y1 y2 y3 y4 y5 y6 y7;unfold q8 q5 at HK;generalize World.setCell _ _ _=W9 at *;obtain ⟨⟨z0,z1,z2,z3,z4,z5,z6,z7⟩,_⟩:=zK HK.O.1;go_wp2
   refine bodyPost_ret (v := .tuple #[zeroV.v none 0 none 0 none 0,.int .i64 e3]) (by simp[results,results17,go_sem,z0,z1,z2,z3,z4,z5,z6,z7];exact SH) rfl ?_
   exact HK.O.2.low (zC (Pe _ _) 1)
  subst he;have uG:Hid (CU false s t l = .ok (v.v,r3,k3)):=by
   show _=_
   have hj:=HJ.O;rw[Pd eH.O] at hj
   cases hp:CU false s t l with
   | error e=>rw[hp] at hj;exact absurd (hj▸hp) (GK false s t l false)
   | ok p =>
    obtain ⟨v',r,k⟩:=p;rw[hp] at hj;obtain ⟨j1,j2,j3,_⟩:=hj;rw[j1,j2,j3]
  have Ou:Hid (BP false s t x=if r3≠[] then (zeroV,2) else if k3=true\/BX s false t v.v=false then (zeroV,1) else (v.v,0)):=by
   show _=_
   unfold BP;rw[Pd eH.O,Pd PG.O.1,PG.O.2];simp only;rw[uG.O]
  have TW:=HL2.O;have hsx:=HR4.O.Uk.length_le;obtain ⟨⟨c0,c1,c2,c3,c4⟩,_⟩:=HR4.O.cells;simp only at hsx c2
  by_cases hr:r3=[]
  case neg =>
   have M9:Hid (BP false s t x=(zeroV,2)):=by show _=_;rw[Ou.O,AAB hr]
   have q2:((l.length - r3.length:Nat):Int)<(l.length:Int):=by have:=List.length_pos_iff.2 hr;omega
   clear hr hsx TW;obtain ⟨⟨z0,z1,z2,z3,z4,z5,z6,z7⟩,y0,y1,y2,y3,y4,y5,y6,y7⟩:=zK J9;go_wp2;have HK:=zh (KQ J9 ED (q:=w.heap.size+1) (by omega) M9)
   clear z0 z1 z2 z3 z4 z5 z6 z7 y0 y1 y2 y3 y4 y5 y6 y7;unfold q8 q5 at HK;generalize World.setCell _ _ _=W9 at *;obtain ⟨⟨z0,z1,z2,z3,z4,z5,z6,z7⟩,_⟩:=zK HK.O.1
   refine bodyPost_ret (v := .tuple #[zeroV.v none 0 none 0 none 0,.int .i64 2]) (by simp[results,results17,go_sem,z0,z1,z2,z3,z4,z5,z6,z7];exact SH) rfl ?_
   exact HK.O.2
  have q2:¬ ((l.length - r3.length:Nat):Int)<(l.length:Int):=by rw[hr];simp
  have Ov:=zh hr;clear hr hsx TW
  cases k3 with
  | true =>
   have M9:Hid (BP false s t x=(zeroV,1)):=by show _=_;rw[Ou.O,Pd (by simp[Ov.O]),AAB (.inl rfl)]
   obtain ⟨⟨z0,z1,z2,z3,z4,z5,z6,z7⟩,y0,y1,y2,y3,y4,y5,y6,y7⟩:=zK J9;go_wp2;have HK:=zh (KQ J9 ED (q:=w.heap.size+1) (by omega) M9)
   clear z0 z1 z2 z3 z4 z5 z6 z7 y0 y1 y2 y3 y4 y5 y6 y7;unfold q8 q5 at HK;generalize World.setCell _ _ _=W9 at *;obtain ⟨⟨z0,z1,z2,z3,z4,z5,z6,z7⟩,_⟩:=zK HK.O.1
   refine bodyPost_ret (v := .tuple #[zeroV.v none 0 none 0 none 0,.int .i64 1]) (by simp[results,results17,go_sem,z0,z1,z2,z3,z4,z5,z6,z7];exact SH) rfl ?_
   exact HK.O.2
  | false =>
   have s0:=zb Qa;obtain ⟨⟨v0,v1,v2,v3,v4,v5,v6,v7⟩,_⟩:=zK fI;go_wp2_with fail;refine (Vh A c HV HN t v _ (HS.O.below ED) xu.O.O).mono ?_;rintro y w5 ⟨rfl,hb5⟩;have PE:=zh (HW2.O _ hb5);have HV5:=zh (Au fI hb5);have JM:=zh (xu.O.low hb5)
   cases hf:BX s false t v.v with
   | false =>
    have M9:Hid (BP false s t x=(zeroV,1)):=by show _=_;rw[Ou.O,Pd (by simp[Ov.O]),AAB (.inr hf)]
    clear hf hb5;obtain ⟨⟨z0,z1,z2,z3,z4,z5,z6,z7⟩,y0,y1,y2,y3,y4,y5,y6,y7⟩:=zK PE.O.1;go_wp2;have HK:=zh (KQ PE.O.1 PE.O.2 (q:=w.heap.size+1) (by omega) M9)
    clear z0 z1 z2 z3 z4 z5 z6 z7 y0 y1 y2 y3 y4 y5 y6 y7;unfold q8 q5 at HK;generalize World.setCell _ _ _=W9 at *;obtain ⟨⟨z0,z1,z2,z3,z4,z5,z6,z7⟩,_⟩:=zK HK.O.1
    refine bodyPost_ret (v := .tuple #[zeroV.v none 0 none 0 none 0,.int .i64 1]) (by simp[results,results17,go_sem,z0,z1,z2,z3,z4,z5,z6,z7];exact SH) rfl ?_
    exact HK.O.2
   | true =>
    have M9:Hid ((v.v,(0:Int))=BP false s t x):=by show _=_;rw[Ou.O,Pd (by simp[Ov.O]),Pd (by rw[hf];simp)]
    clear hf hb5 v0 v1 v2 v3 v4 v5 v6 v7 c0 c1 c2 c3 c4 s0;obtain ⟨⟨v0,v1,v2,v3,v4,v5,v6,v7⟩,_⟩:=zK HV5;obtain ⟨⟨z0,z1,z2,z3,z4,z5,z6,z7⟩,y0,y1,y2,y3,y4,y5,y6,y7⟩:=zK PE.O.1;go_wp2
    have HK:=zh (Gx PE.O.1 (.int .i64 v.v.kind) (.bool v.v.bool) (.int .i64 v.v.int) (.string v.v.str) (.int .i64 v.v.id) (.slice v.A1 v.v.keys.length v.c1) (.slice v.A2 v.v.items.length v.c2) (.slice v.A3 v.v.rest.length v.c3))
    have Oc:=zh (jZ M9 (EI JM (B:=w.heap.size+1) AEG (.int .i64 v.v.kind) (.bool v.v.bool) (.int .i64 v.v.int) (.string v.v.str) (.int .i64 v.v.id) (.slice v.A1 v.v.keys.length v.c1) (.slice v.A2 v.v.items.length v.c2) (.slice v.A3 v.v.rest.length v.c3)).O (Bb PE.O.2 (q:=w.heap.size+1) (by omega) (.int .i64 v.v.kind) (.bool v.v.bool) (.int .i64 v.v.int) (.string v.v.str) (.int .i64 v.v.id) (.slice v.A1 v.v.keys.length v.c1) (.slice v.A2 v.v.items.length v.c2) (.slice v.A3 v.v.rest.length v.c3)))
    clear z0 z1 z2 z3 z4 z5 z6 z7 y0 y1 y2 y3 y4 y5 y6 y7;unfold q8 q5 at HK Oc;generalize World.setCell _ _ _=W9 at *;obtain ⟨⟨z0,z1,z2,z3,z4,z5,z6,z7⟩,_⟩:=zK HK
    refine bodyPost_ret (v := .tuple #[v.v.v v.A1 v.c1 v.A2 v.c2 v.A3 v.c3,.int .i64 0]) (by simp[results,results17,go_sem,z0,z1,z2,z3,z4,z5,z6,z7]) rfl ?_
    exact Oc.O
