/-
  Walks: literal.Parse: its tokens.
-/
import Derived.Test.YthkkllmmbefedaaGreatDoorQGE0
import Derived.Test.YthkkllmmbefedaaGreatDoorQGB0
namespace Go.Proofs.YthkkllmmbefedaaGreatDoor
open Go.RowKit
set_option maxHeartbeats 16000000
set_option maxRecDepth 100000
theorem YL (l:List UInt8) (n:Nat):(bA (l.take n)).size<=l.length:=by
 show (l.take n).toArray.size<=_
 rw[List.size_toArray,List.length_take];omega
theorem lD {l:List UInt8} {t:AJ} {k:Nat} (h:DR l=some (t,k)):t.text.size<=l.length/\t.str.size<=l.length:=by
 unfold DR at h
 split at h
 ·cases h
 ·rename_i c r
  split at h
  ·split at h
   ·injection h with h;injection h with h _;subst h
    exact ⟨YL _ _,Nat.zero_le _⟩
   ·cases h
  ·split at h
   ·rw[AA4] at h
    obtain ⟨v,_,h⟩:=h
    injection h with h _;subst h
    exact ⟨Nat.zero_le _,Nat.zero_le _⟩
   ·split at h
    ·rw[AA4] at h
     obtain ⟨⟨o,j⟩,h1,h⟩:=h
     injection h with h _;subst h
     have:=Xj h1;refine ⟨Nat.zero_le _,?_⟩
     show o.toArray.size<=_
     rw[List.size_toArray,AAS];omega
    ·rw[AA4] at h
     obtain ⟨n,h1,h⟩:=h
     injection h with h _;subst h
     exact ⟨YL _ _,Nat.zero_le _⟩
theorem LV:∀ (n:Nat) (ln:Int) (l:List UInt8) (o:List AJ),l.length<=n->Ay ln l = .ok o->∀t∈o,t.text.size<=n/\t.str.size<=n
 | _,ln,[],o,_,h,t,ht=>by
  rw[Jl] at h
  injection h with h
  subst h;cases ht
 | 0,_,_::_,_,hn,_,_,_=>by simp at hn
 | n+1,ln,c::r,o,hn,h,t,ht=>by
  have hr:r.length<=n:=by simpa using hn
  have hu:t.text.size<=n/\t.str.size<=n->t.text.size<=n+1/\t.str.size<=n+1:=fun h=>by omega
  rw[Ck] at h
  split at h
  ·exact hu (LV n _ r o hr h t ht)
  ·split at h
   ·exact hu (LV n _ r o hr h t ht)
   ·split at h
    ·exact hu (LV n _ _ o (Nat.le_trans (Hl r) hr) h t ht)
    ·split at h
     ·cases h
     ·rename_i u k hk
      obtain ⟨q,hq,rfl⟩:=map_ok h;have hle:=Jm hk
      rcases AAi.1 ht with rfl|ht
      ·have h1:=lD hk
       exact ⟨Nat.le_trans h1.1 hn,Nat.le_trans h1.2 hn⟩
      ·exact hu (LV n _ _ q (by rw[AAy];simp only[AAS] at *;omega) hq t ht)
def LtP (x:ByteArray) (w:World) (e:Ending) (w':World):Prop:=∃ (A:zo) (c:Nat) (n er:Int) (o:List AJ),e = .returned (.tuple #[.slice A o.length c,.int .i64 n,.int .i64 er])/\JZ w' A o/\o.length<=65536/\Below w.heap.size w w' /\
 (if 65536<x.size then er=3 else match Ay 1 x.data.toList with
  | .ok l=>o=l/\er=0/\n=0
  | .error _=>er=2)
theorem UN (x:ByteArray) (hx:x.size<=140737488355328) (w:World) (hE:KZ w) {A:zo} {c:Nat} (hS:K6 w A c):Calls Tryz.prog 49 #[.string x] w (LtP x w):=by
 by_cases hz:65536<x.size
 ·refine (TN x hx hz w).mono ?_
  rintro e w' ⟨rfl,rfl⟩;exact ⟨none,0,0,3,[],rfl,Ac.nil _ _ _ _ _,by simp,Pe _ _,by rw[AAH hz]⟩
 ·refine (Vb x (by omega) w hE hS).mono ?_
  rintro e w' ⟨v,n,er,rfl,h,hb⟩
  cases ht:Ay 1 x.data.toList with
  | error l =>
   rw[ht] at h;obtain ⟨rfl,rfl,rfl⟩:=h;exact ⟨none,0,_,2,[],rfl,Ac.nil _ _ _ _ _,by simp,hb,by rw[Pd hz,ht]⟩
  | ok o =>
   rw[ht] at h;obtain ⟨ho,rfl,rfl⟩:=h;have hsz:=(G6 _ 1 _ o (AAP _) ht).2;have hxl:x.data.toList.length=x.size:=rfl;have htx:=LV _ 1 _ o (AAP _) ht;obtain ⟨A',c',rfl,hr⟩:=aG.toks ho (by unfold EK;omega) fun t hm=>by
    have:=htx t hm;exact ⟨by unfold Dk;omega,by unfold Dk;omega⟩
   exact ⟨A',c',0,0,o,rfl,hr,by omega,hb,by rw[Pd hz,ht];exact ⟨rfl,rfl,rfl⟩⟩
def tH (s:List Aa) (t:Int) (x:ByteArray) (w:World) (y:Ending) (w':World):Prop :=
 ∃v:Aj,y = .returned (.tuple #[v.v.v v.A1 v.c1 v.A2 v.c2 v.A3 v.c3,.int .i64 (BL false s t x).2])/\v.v=(BL false s t x).1/\Ao w' v.v v.A1 v.A2 v.A3/\Below w.heap.size w w'
variable {x:ByteArray} {t:Int} {s:List Aa} {w:World}
theorem fH {w':World} {v:Aj} {e:Int} (h:(v.v,e)=BL false s t x) (hr:Ao w' v.v v.A1 v.A2 v.A3) (hb:Below w.heap.size w w'):tH s t x w (.returned (.tuple #[v.v.v v.A1 v.c1 v.A2 v.c2 v.A3 v.c3,.int .i64 e])) w':=by
 refine ⟨v,?_,by rw[<-h],hr,hb⟩
 rw[<-h]
theorem tH.low {W W':World} {y:Ending} (h:tH s t x w y W) (hb:Below W.heap.size W W'):tH s t x w y W':=by
 obtain ⟨v,h1,h2,h3,h4⟩:=h;exact ⟨v,h1,h2,h3.below hb,h4.trans (hb.mono h4.size)⟩
theorem Jy {W5:World} {q:Nat} {e:Int} (hz:W5.heap[q]? = some zO) (hb:Below w.heap.size w W5) (hq:w.heap.size<=q) (h:BL false s t x=(zeroV,e)):
  (q8 W5 q (.int .i64 0) (.bool false) (.int .i64 0) (.string ⟨#[]⟩) (.int .i64 0) AP AP AP).heap[q]? = some zO/\tH s t x w (.returned (.tuple #[zeroV.v none 0 none 0 none 0,.int .i64 e])) (q8 W5 q (.int .i64 0) (.bool false) (.int .i64 0) (.string ⟨#[]⟩) (.int .i64 0) AP AP AP) :=
 ⟨Gr hz _ _ _ _ _ _ _ _,fH (v:=⟨zeroV,none,0,none,0,none,0⟩) h.symm (OG _) (Bo hb hq _ _ _ _ _ _ _ _)⟩
theorem Ce (hv:zQ s=0) (hn:DI s) (A:zo) (c:Nat) (t:Int) (x:ByteArray) (hx:x.size<=140737488355328) (w:World) (hs:C8 w A s) (hE:KZ w) {SA:zo} {sc:Nat} (hS:K6 w SA sc):
  Calls Tryz.prog 17 #[.agg #[.slice A s.length c],.int .i64 t,.string x] w (tH s t x w):=by
 have HS:=zh hs;have HE:=zh hE;have MV:=zh hS;have HXZ:=zh hx;have HV:=zh hv;have HN:=zh hn;have hls:=MZ hv;have HB2:=zh (zI w (.cells #[.slice A s.length c] 31) zO);have YW:=zh (zw w (.cells #[.slice A s.length c] 31) zO);have aO:Hid (((w.alloc (.cells #[.slice A s.length c] 31)).alloc zO).heap[w.heap.size+1]? = some zO):=by
  show _=_
  have:=AAL (w.alloc (.cells #[.slice A s.length c] 31)) zO;rw[show (w.alloc (.cells #[.slice A s.length c] 31)).heap.size=w.heap.size+1 by simp] at this
  exact this
 clear hs hE hS hx hv hn
 go_enter Tryz.func17,Tryz.ntmps17
 go_upto_region 1 with fail
 generalize (w.alloc (.cells #[.slice A s.length c] 31)).alloc zO=W2 at *;have x0:=zb YW;obtain ⟨rb,hrb⟩:∃rb:Bool,decide (t<0\/(s.length:Int)<=t)=rb:=⟨_,rfl⟩;have bB:=zh hrb;clear hrb
 go_cut [21] (fun q wx=>q = .bool rb/\wx=W2)
 case first =>
  rcases Int.lt_or_le t 0 with g|g
  ·have jm:Hid (rb=true):=by show _=_;rw[<-bB.out];exact AAT (.inl g)
   go_wp2
   go_meet
   exact ⟨by rw[jm.out],rfl⟩
  ·have g1:¬ t<0:=by omega
   by_cases g2:(s.length:Int)<=t
   ·have jm:Hid (rb=true):=by show _=_;rw[<-bB.out];exact AAT (.inr g2)
    go_wp2
    go_meet
    exact ⟨by rw[jm.out],rfl⟩
   ·have jm:Hid (rb=false):=by show _=_;rw[<-bB.out];exact AAZ (by omega)
    go_wp2
    go_meet
    exact ⟨by rw[jm.out],rfl⟩
 case rest =>
 obtain ⟨rfl,hw⟩:=hcut;obtain rfl:W2=wc:=hw.symm
 cases rb with
 | true =>
  have RJ:Hid (BL false s t x=(zeroV,4)):=by show _=_;unfold BL;rw[AAH (AAe bB)]
  obtain ⟨⟨z0,z1,z2,z3,z4,z5,z6,z7⟩,y0,y1,y2,y3,y4,y5,y6,y7⟩:=zK aO;go_wp2;have HK:=zh (Jy aO HB2 (q:=w.heap.size+1) (by omega) RJ)
  clear z0 z1 z2 z3 z4 z5 z6 z7 y0 y1 y2 y3 y4 y5 y6 y7;unfold q8 q5 at HK;generalize World.setCell _ _ _=W9 at *;obtain ⟨⟨z0,z1,z2,z3,z4,z5,z6,z7⟩,_⟩:=zK HK.out.1
  refine bodyPost_ret (v := .tuple #[zeroV.v none 0 none 0 none 0,.int .i64 4]) (by simp[results,Tryz.results17,go_sem,z0,z1,z2,z3,z4,z5,z6,z7];exact Nv) rfl ?_
  exact HK.out.2
 | false =>
  have jm:Hid (¬ (t<0\/(s.length:Int)<=t)):=of_decide_eq_false bB;clear bB;go_wp2_with fail;refine (UN x HXZ _ (HE.out.below HB2) (MV.out.below HB2)).mono ?_;rintro y w2 ⟨TA,tc,nn,er,l,rfl,g1,g2,g3,g4⟩;have HT2:=zh g1;have HL2:=zh g2;have vC:=zh (zB HB2 g3);have aM:=zh (Aw YW g3);have QC:=zh (Aw aO g3);have vL:=zh g4
  have ACB:Hid (w.heap.size+1<w2.heap.size):=(zg.1 QC).1;have HSM:Hid (er=0->(¬ 65536<x.size)/\Ay 1 x.data.toList = .ok l):=fun he=>by
   have h:=vL.out
   by_cases hz:65536<x.size
   ·rw[AAH hz] at h;omega
   ·rw[Pd hz] at h
    cases ht:Ay 1 x.data.toList with
    | error e=>rw[ht] at h;simp only at h;omega
    | ok o=>rw[ht] at h;exact ⟨hz,by rw[h.1]⟩
  have ax:Hid (er≠0->BL false s t x=(zeroV,er)):=fun he=>by
   have h:=vL.out;unfold BL;rw[Pd jm.out]
   by_cases hz:65536<x.size
   ·rw[AAH hz] at h ⊢;rw[h]
   ·rw[Pd hz] at h ⊢
    cases ht:Ay 1 x.data.toList with
    | error e=>rw[ht] at h;simp only at h ⊢;rw[h]
    | ok o=>rw[ht] at h;exact absurd h.2.1 he
  clear x0 g1 g2 g3 g4 YW aO HB2 vL
  by_cases he:er=0
  case neg =>
   have q1:(er != 0)=true:=by simp[he]
   have RJ:Hid (BL false s t x=(zeroV,er)):=ax.out he;clear he;obtain ⟨⟨z0,z1,z2,z3,z4,z5,z6,z7⟩,y0,y1,y2,y3,y4,y5,y6,y7⟩:=zK QC;go_wp2;have HK:=zh (Jy QC vC (q:=w.heap.size+1) (by omega) RJ)
   clear z0 z1 z2 z3 z4 z5 z6 z7 y0 y1 y2 y3 y4 y5 y6 y7;unfold q8 q5 at HK;generalize World.setCell _ _ _=W9 at *;obtain ⟨⟨z0,z1,z2,z3,z4,z5,z6,z7⟩,_⟩:=zK HK.out.1
   refine bodyPost_ret (v := .tuple #[zeroV.v none 0 none 0 none 0,.int .i64 er]) (by simp[results,Tryz.results17,go_sem,z0,z1,z2,z3,z4,z5,z6,z7];exact Nv) rfl ?_
   exact HK.out.2
  have VO:=zh (HSM.out he);have q1:(er != 0)=false:=by simp[he]
  clear he HSM ax;have x0:=zb aM;go_wp2_with fail;refine (ZU HV A c t l TA tc (by have:=HL2.out;omega) w2 (HS.out.below vC) HT2).mono ?_
  rintro y w3 ⟨v,b,rfl,h1,h2,r3,k3,e3,h3,h4⟩;have HO3:=zh h1;have HR3:=zh h3;have HJ:=zh h4;have HB3:=zh (zB vC h2);have aL:=zh (Aw aM h2);have aN:=zh (Aw QC h2);clear x0 h1 h2 h3 h4 aM QC q1;go_upto_region 7 with fail
  have BS:=zh (zD w3 (.cells v.cells.toArray 28));have pu:Hid ((w3.alloc (.cells v.cells.toArray 28)).heap[w3.heap.size]? = some (.cells v.cells.toArray 28)):=AAL w3 _;have HR4:=zh (HR3.out.below BS);have HO4:=zh (HO3.out.low BS);have Dl:=zh (zB HB3 BS);have U4:=zh (Aw aL BS);have Sb:=zh (Aw aN BS)
  unfold Aj.cells at BS pu HR4 HO4 Dl U4 Sb;generalize w3.alloc _=W4 at *;generalize w3.heap.size=q at *;have HW2:Hid (∀W5,Below W4.heap.size W4 W5->W5.heap[w.heap.size+1]? = some zO/\Below w.heap.size w W5):=fun W5 hb=>⟨Aw Sb hb,zB Dl hb⟩
  have hbq:b≠w.heap.size+1:=Gs HR4.out.blk Sb (by decide)
  have AEo:¬ w.heap.size+1=b:=fun e=>hbq e.symm
  by_cases he:e3=0
  case neg =>
   have q1:(e3 != 0)=true:=by simp[he]
   have RJ:Hid (BL false s t x=(zeroV,e3)):=by
    show _=_
    have hj:=HJ.out;unfold BL;rw[Pd jm.out] at hj ⊢;rw[Pd VO.out.1,VO.out.2];simp only
    cases hp:CZ false s t l with
    | error e=>rw[hp] at hj;rw[hj]
    | ok p=>rw[hp] at hj;exact absurd hj.2.2.2 he
   obtain ⟨⟨c0,c1,c2,c3,c4⟩,_⟩:=HR4.out.cells;clear he;go_upto_region 8 with fail
   obtain ⟨⟨z0,z1,z2,z3,z4,z5,z6,z7⟩,y0,y1,y2,y3,y4,y5,y6,y7⟩:=zK Sb
   go_region
   have HK:=zh (Jy Sb Dl (q:=w.heap.size+1) (by omega) RJ)
   clear z0 z1 z2 z3 z4 z5 z6 z7 y0 y1 y2 y3 y4 y5 y6 y7;unfold q8 q5 at HK;generalize World.setCell _ _ _=W9 at *;obtain ⟨⟨z0,z1,z2,z3,z4,z5,z6,z7⟩,_⟩:=zK HK.out.1;go_wp2
   refine bodyPost_ret (v := .tuple #[zeroV.v none 0 none 0 none 0,.int .i64 e3]) (by simp[results,Tryz.results17,go_sem,z0,z1,z2,z3,z4,z5,z6,z7];exact Nv) rfl ?_
   exact HK.out.2.low (zC (Pe _ _) 1)
  subst he;have vP:Hid (CZ false s t l = .ok (v.v,r3,k3)):=by
   show _=_
   have hj:=HJ.out;rw[Pd jm.out] at hj
   cases hp:CZ false s t l with
   | error e=>rw[hp] at hj;exact absurd (hj▸hp) (Gf false s t l false)
   | ok p =>
    obtain ⟨v',r,k⟩:=p;rw[hp] at hj;obtain ⟨j1,j2,j3,_⟩:=hj;rw[j1,j2,j3]
  have uJ:Hid (BL false s t x=if r3≠[] then (zeroV,2) else if k3=true\/Bc s false t v.v=false then (zeroV,1) else (v.v,0)):=by
   show _=_
   unfold BL;rw[Pd jm.out,Pd VO.out.1,VO.out.2];simp only;rw[vP.out]
  have SE:=HL2.out;have hsx:=HR4.out.Ta.length_le;obtain ⟨⟨c0,c1,c2,c3,c4⟩,_⟩:=HR4.out.cells;simp only at hsx c2
  by_cases hr:r3=[]
  case neg =>
   have RJ:Hid (BL false s t x=(zeroV,2)):=by show _=_;rw[uJ.out,AAH hr]
   have q2:((l.length - r3.length:Nat):Int)<(l.length:Int):=by have:=List.length_pos_iff.2 hr;omega
   clear hr hsx SE;obtain ⟨⟨z0,z1,z2,z3,z4,z5,z6,z7⟩,y0,y1,y2,y3,y4,y5,y6,y7⟩:=zK Sb;go_wp2;have HK:=zh (Jy Sb Dl (q:=w.heap.size+1) (by omega) RJ)
   clear z0 z1 z2 z3 z4 z5 z6 z7 y0 y1 y2 y3 y4 y5 y6 y7;unfold q8 q5 at HK;generalize World.setCell _ _ _=W9 at *;obtain ⟨⟨z0,z1,z2,z3,z4,z5,z6,z7⟩,_⟩:=zK HK.out.1
   refine bodyPost_ret (v := .tuple #[zeroV.v none 0 none 0 none 0,.int .i64 2]) (by simp[results,Tryz.results17,go_sem,z0,z1,z2,z3,z4,z5,z6,z7];exact Nv) rfl ?_
   exact HK.out.2
  have q2:¬ ((l.length - r3.length:Nat):Int)<(l.length:Int):=by rw[hr];simp
  have Po:=zh hr;clear hr hsx SE
  cases k3 with
  | true =>
   have RJ:Hid (BL false s t x=(zeroV,1)):=by show _=_;rw[uJ.out,Pd (by simp[Po.out]),AAH (.inl rfl)]
   obtain ⟨⟨z0,z1,z2,z3,z4,z5,z6,z7⟩,y0,y1,y2,y3,y4,y5,y6,y7⟩:=zK Sb;go_wp2;have HK:=zh (Jy Sb Dl (q:=w.heap.size+1) (by omega) RJ)
   clear z0 z1 z2 z3 z4 z5 z6 z7 y0 y1 y2 y3 y4 y5 y6 y7;unfold q8 q5 at HK;generalize World.setCell _ _ _=W9 at *;obtain ⟨⟨z0,z1,z2,z3,z4,z5,z6,z7⟩,_⟩:=zK HK.out.1
   refine bodyPost_ret (v := .tuple #[zeroV.v none 0 none 0 none 0,.int .i64 1]) (by simp[results,Tryz.results17,go_sem,z0,z1,z2,z3,z4,z5,z6,z7];exact Nv) rfl ?_
   exact HK.out.2
  | false =>
   have s0:=zb U4;obtain ⟨⟨v0,v1,v2,v3,v4,v5,v6,v7⟩,_⟩:=zK pu;go_wp2_with fail;refine (iG A c HV HN t v _ (HS.out.below Dl) HO4.out.out).mono ?_;rintro y w5 ⟨rfl,hb5⟩;have RI:=zh (HW2.out _ hb5);have HV5:=zh (Aw pu hb5);have KU:=zh (HO4.out.low hb5)
   cases hf:Bc s false t v.v with
   | false =>
    have RJ:Hid (BL false s t x=(zeroV,1)):=by show _=_;rw[uJ.out,Pd (by simp[Po.out]),AAH (.inr hf)]
    clear hf hb5;obtain ⟨⟨z0,z1,z2,z3,z4,z5,z6,z7⟩,y0,y1,y2,y3,y4,y5,y6,y7⟩:=zK RI.out.1;go_wp2;have HK:=zh (Jy RI.out.1 RI.out.2 (q:=w.heap.size+1) (by omega) RJ)
    clear z0 z1 z2 z3 z4 z5 z6 z7 y0 y1 y2 y3 y4 y5 y6 y7;unfold q8 q5 at HK;generalize World.setCell _ _ _=W9 at *;obtain ⟨⟨z0,z1,z2,z3,z4,z5,z6,z7⟩,_⟩:=zK HK.out.1
    refine bodyPost_ret (v := .tuple #[zeroV.v none 0 none 0 none 0,.int .i64 1]) (by simp[results,Tryz.results17,go_sem,z0,z1,z2,z3,z4,z5,z6,z7];exact Nv) rfl ?_
    exact HK.out.2
   | true =>
    have RJ:Hid ((v.v,(0:Int))=BL false s t x):=by show _=_;rw[uJ.out,Pd (by simp[Po.out]),Pd (by rw[hf];simp)]
    clear hf hb5 v0 v1 v2 v3 v4 v5 v6 v7 c0 c1 c2 c3 c4 s0;obtain ⟨⟨v0,v1,v2,v3,v4,v5,v6,v7⟩,_⟩:=zK HV5;obtain ⟨⟨z0,z1,z2,z3,z4,z5,z6,z7⟩,y0,y1,y2,y3,y4,y5,y6,y7⟩:=zK RI.out.1;go_wp2
    have HK:=zh (Gr RI.out.1 (.int .i64 v.v.kind) (.bool v.v.bool) (.int .i64 v.v.int) (.string v.v.str) (.int .i64 v.v.id) (.slice v.A1 v.v.keys.length v.c1) (.slice v.A2 v.v.items.length v.c2) (.slice v.A3 v.v.rest.length v.c3))
    have VB:=zh (fH RJ (EU KU (B:=w.heap.size+1) ACB (.int .i64 v.v.kind) (.bool v.v.bool) (.int .i64 v.v.int) (.string v.v.str) (.int .i64 v.v.id) (.slice v.A1 v.v.keys.length v.c1) (.slice v.A2 v.v.items.length v.c2) (.slice v.A3 v.v.rest.length v.c3)).out (Bo RI.out.2 (q:=w.heap.size+1) (by omega) (.int .i64 v.v.kind) (.bool v.v.bool) (.int .i64 v.v.int) (.string v.v.str) (.int .i64 v.v.id) (.slice v.A1 v.v.keys.length v.c1) (.slice v.A2 v.v.items.length v.c2) (.slice v.A3 v.v.rest.length v.c3)))
    clear z0 z1 z2 z3 z4 z5 z6 z7 y0 y1 y2 y3 y4 y5 y6 y7;unfold q8 q5 at HK VB;generalize World.setCell _ _ _=W9 at *;obtain ⟨⟨z0,z1,z2,z3,z4,z5,z6,z7⟩,_⟩:=zK HK
    refine bodyPost_ret (v := .tuple #[v.v.v v.A1 v.c1 v.A2 v.c2 v.A3 v.c3,.int .i64 0]) (by simp[results,Tryz.results17,go_sem,z0,z1,z2,z3,z4,z5,z6,z7]) rfl ?_
    exact VB.out
end Go.Proofs.YthkkllmmbefedaaGreatDoor



