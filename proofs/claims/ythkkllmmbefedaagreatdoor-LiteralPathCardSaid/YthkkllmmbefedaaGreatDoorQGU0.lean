/-
  What the law LiteralSpace keeps: the text so far; a builder whose buffer is old; bytes that came in.
-/
import Derived.Test.YthkkllmmbefedaaGreatDoorQGA5
import Derived.Test.YthkkllmmbefedaaGreatDoorQGA8
import Derived.Test.YthkkllmmbefedaaGreatDoorQGA6
import Derived.Test.YthkkllmmbefedaaGreatDoorQGA7
import Derived.Test.YthkkllmmbefedaaGreatDoorQGA4
import Derived.Test.YthkkllmmbefedaaGreatDoorQGA10
import Derived.Test.YthkkllmmbefedaaGreatDoorQGL0
import Derived.Test.YthkkllmmbefedaaGreatDoorQGE0
import Derived.Test.YthkkllmmbefedaaGreatDoorQGB0
import Derived.Deep.CutBlock
import Derived.BigRegion
namespace Go.Proofs.YthkkllmmbefedaaGreatDoor
open Go.RowKit
set_option maxHeartbeats 16000000
set_option maxRecDepth 100000
def pq (n:Nat):Prop:=∀ (x:Val),SizeOf.sizeOf x<=n->GD x->∀ (k:Int),0<=k->k<=3000->∀ (A1:zo) (c1:Nat) (A2:zo) (c2:Nat) (A3:zo) (c3:Nat) (w:World),Az w x A1 A2 A3 ->
  Calls Tryz.prog 42 #[x.v A1 c1 A2 c2 A3 c3,.int .i64 k] w fun e w'=>e = .returned (.int .i64 (PO x k))/\Below w.heap.size w w'
theorem Z5 (x:Val) {k:Int} (h:k<=3000):PO x k<=3000:=by have:=Z4 x k;omega
variable {i:Nat} {w:World} {A:zo}
theorem aU {l:List Ak} (h:EH w A l) (hi:i<l.length):∃b o,A=some ⟨b,o,none⟩/\w.cell? ⟨b,o+i * 2,none⟩=some (.int .i64 (l[i]).id)/\w.cell? ⟨b,o+i * 2+1,none⟩=some (.string (l[i]).data):=by
 obtain ⟨b,o,cs,e,⟨_,rfl⟩,h2⟩:=Aa.at_ h hi;exact ⟨b,o,e,h2 0 _ rfl,h2 1 _ rfl⟩
theorem Xp {n:Nat} (ih:pq n):pq (n+1):=by
 intro x hx hsb k hk0 hk1 A1 c1 A2 c2 A3 c3 w hr
 have IH:=zh ih;obtain ⟨b1,b2,b3,b4⟩:=hsb.out;have HB2:=zh b2;have HB3:=zh b3;have BA:=zh b4;have HX:=zh hx;have hn3:x.rest.length<=5864062014806:=by have:=hr.rest.1;unfold DU at this;omega
 have hn1:x.keys.length<=1172812402961:=by have:=hr.keys.1;unfold DU at this;omega
 have hn2:x.items.length<=1172812402961:=by have:=hr.items.1;unfold DU at this;omega
 have HB0:=zh (zD w (x.box A1 c1 A2 c2 A3 c3));have HR:=zh (hr.below HB0);have HY:=zh (AAC w (x.box A1 c1 A2 c2 A3 c3));have nM:=zh (iQ x k);clear ih hsb b2 b3 b4 hx hr
 go_enter Tryz.func42,Tryz.ntmps42
 go_upto_region 1 with fail
 generalize w.alloc (x.box A1 c1 A2 c2 A3 c3)=W0 at *;obtain ⟨v0,v1,v2,v3,v4,v5,v6,v7⟩:=zF HY
 go_upto_block 0 with fail
 clear v0 v1 v2 v3 v4 v5 v6 v7;obtain ⟨k1,hk⟩:∃k1:Int,k - (10+(x.str.size:Int)+(x.rest.length:Int))=k1:=⟨_,rfl⟩;rw[hk];rw[hk] at nM;have hk3:k1<=3000:=by omega
 clear hk hk0 hk1;obtain ⟨M1,hM1⟩:∃M1,Mq x.rest k1=M1:=⟨_,rfl⟩;rw[hM1] at nM;have Dp:=zh hM1;have wC:Hid (M1<=3000):=by show _<=_;have:=Uk x.rest k1;omega
 clear hM1
 go_cut [1] (fun z wx=>z = .int .i64 M1/\Hid (Below w.heap.size w wx/\Below W0.heap.size W0 wx))
 case first =>
  go_wp2_with fail
  go_loopw [1,5] (fun a i wr=>∃ (j:Nat) (m:Int),j<=x.rest.length/\i = .int .i64 j/\a = .int .i64 m/\m<=3000/\Hid (Mq (x.rest.drop j) m=M1)/\Hid (Below w.heap.size w wr/\Below W0.heap.size W0 wr)) (fun _ i _=>x.rest.length - (intOf i).toNat)
  case atStart=>exact ⟨0,k1,by omega,rfl,rfl,hk3,Dp.out,HB0.out,Pe _ _⟩
  case round =>
   obtain ⟨j,m,hj,rfl,rfl,kH,hs,hh⟩:=hrel;have HS:=zh hs.out;have HH:=zh hh.out;have vJ:=zh (zE HY HH.out.2);obtain ⟨v0,v1,v2,v3,v4,v5,v6,v7⟩:=zF vJ;clear hs hh
   by_cases hgo:j<x.rest.length/\0<=m
   ·obtain ⟨hlt,hm0⟩:=hgo
    obtain ⟨b,o,rfl,r0,r1⟩:=aU (HR.out.rest.below HH.out.2) hlt;have h1:(0:Int)<=(j:Int):=by omega
    have h2:(j:Int)<(x.rest.length:Int):=by omega
    have h3:m >= 0:=hm0;have hsz:=HB2.out _ (AAK hlt);have HN:=zh ((nX hlt hm0).symm.trans HS);clear HS;go_wp2;go_roundw
    case rel=>exact ⟨j+1,m - (x.rest[j]).data.size,by omega,by go_num,by go_num,by omega,HN.out,HH.out⟩
    case measure=>simp[intOf];omega
   ·have HE:Hid (m=M1):=by
     show _=_
     rw[<-HS.out]
     by_cases hlt:j<x.rest.length
     ·rw[iR (by omega)]
     ·rw[iT (by omega)]
    clear HS
    by_cases h1:(j:Int)<(x.rest.length:Int)
    ·have h2:¬ m >= 0:=by omega
     go_wp2
     go_meet
     exact ⟨by rw[HE.out],HH.out⟩
    ·go_wp2
     go_meet
     exact ⟨by rw[HE.out],HH.out⟩
 case rest =>
 obtain ⟨rfl,GQ⟩:=hcut;obtain ⟨W2,rfl⟩:∃W2:World,W2=wc:=⟨_,rfl⟩;have HH2:=zh GQ.out;clear GQ;obtain ⟨M2,hM2⟩:∃M2,MU x.keys M1=M2:=⟨_,rfl⟩;rw[hM2] at nM;have GU:=zh hM2;have wB:Hid (M2<=3000):=by show _<=_;have:=Ik x.keys M1;have:=wC.out;omega
 clear hM2
 go_upto_block 2 with fail
 go_cut [1] (fun z wx=>z = .int .i64 M2/\Hid (Below w.heap.size w wx/\Below W0.heap.size W0 wx))
 case first =>
  go_wp2_with fail
  go_loopw [1,6] (fun a i wr=>∃ (j:Nat) (m:Int),j<=x.keys.length/\i = .int .i64 j/\a = .int .i64 m/\m<=3000/\Hid (MU (x.keys.drop j) m=M2)/\Hid (Below w.heap.size w wr/\Below W0.heap.size W0 wr)) (fun _ i _=>x.keys.length - (intOf i).toNat)
  case atStart=>exact ⟨0,M1,by omega,rfl,rfl,wC.out,GU.out,HH2.out⟩
  case round =>
   obtain ⟨j,m,hj,rfl,rfl,kH,hs,hh⟩:=hrel;obtain ⟨wo,rfl⟩:∃wo:World,wo=wr:=⟨_,rfl⟩;have HS:=zh hs.out;have HH:=zh hh.out;have vJ:=zh (zE HY HH.out.2);obtain ⟨v0,v1,v2,v3,v4,v5,v6,v7⟩:=zF vJ;clear hs hh
   by_cases hgo:j<x.keys.length/\0<=m
   ·obtain ⟨hlt,hm0⟩:=hgo
    obtain ⟨b,o,E1,e1,E2,e2,E3,e3,rfl,Yi,r0,r1,r2,r3,r4,r5,r6,r7⟩:=(HR.out.keys.below HH.out.2).at8 hlt;have fD:=zh Yi;have h1:(0:Int)<=(j:Int):=by omega
    have h2:(j:Int)<(x.keys.length:Int):=by omega
    have h3:m >= 0:=hm0;have HN:=zh ((Z8 hlt hm0).symm.trans HS);have HZ:=zh (IH.out x.keys[j] (Nat.le_of_lt_succ (AAq (KY x _ (by exact Or.inl (AAK hlt))) HX)) (HB3.out _ (AAK hlt)) m hm0 kH E1 e1 E2 e2 E3 e3 wo Yi)
    have HZ3:=zh (Z5 x.keys[j] kH);clear HS Yi;go_wp2_with fail;refine HZ.out.mono ?_;rintro e w1 ⟨rfl,hb1⟩;have HB1:=zh hb1;clear v0 v1 v2 v3 v4 v5 v6 v7 r0 r1 r2 r3 r4 r5 r6 r7 hb1;go_wp2;go_roundw
    case rel=>exact ⟨j+1,PO x.keys[j] m,by omega,by go_num,rfl,HZ3.out,HN.out,(HH.out.1).trans (HB1.out.mono HH.out.1.size),zB HH.out.2 HB1⟩
    case measure=>simp[intOf];omega
   ·have HE:Hid (m=M2):=by
     show _=_
     rw[<-HS.out]
     by_cases hlt:j<x.keys.length
     ·rw[WH (by omega)]
     ·rw[WI (by omega)]
    clear HS
    by_cases h1:(j:Int)<(x.keys.length:Int)
    ·have h2:¬ m >= 0:=by omega
     go_wp2
     go_meet
     exact ⟨by rw[HE.out],HH.out⟩
    ·go_wp2
     go_meet
     exact ⟨by rw[HE.out],HH.out⟩
 case rest =>
 obtain ⟨rfl,GQ⟩:=hcut;obtain ⟨W3,rfl⟩:∃W3:World,W3=wc:=⟨_,rfl⟩;have HH3:=zh GQ.out;clear GQ;obtain ⟨M3,hM3⟩:∃M3,MU x.items M2=M3:=⟨_,rfl⟩;rw[hM3] at nM;have O1:=zh hM3;have vz:Hid (M3<=3000):=by show _<=_;have:=Ik x.items M2;have:=wB.out;omega
 clear hM3
 go_upto_block 4 with fail
 go_cut [1] (fun z wx=>z = .int .i64 M3/\Hid (Below w.heap.size w wx/\Below W0.heap.size W0 wx))
 case first =>
  go_wp2_with fail
  go_loopw [1,7] (fun a i wr=>∃ (j:Nat) (m:Int),j<=x.items.length/\i = .int .i64 j/\a = .int .i64 m/\m<=3000/\Hid (MU (x.items.drop j) m=M3)/\Hid (Below w.heap.size w wr/\Below W0.heap.size W0 wr)) (fun _ i _=>x.items.length - (intOf i).toNat)
  case atStart=>exact ⟨0,M2,by omega,rfl,rfl,wB.out,O1.out,HH3.out⟩
  case round =>
   obtain ⟨j,m,hj,rfl,rfl,kH,hs,hh⟩:=hrel;obtain ⟨wo,rfl⟩:∃wo:World,wo=wr:=⟨_,rfl⟩;have HS:=zh hs.out;have HH:=zh hh.out;have vJ:=zh (zE HY HH.out.2);obtain ⟨v0,v1,v2,v3,v4,v5,v6,v7⟩:=zF vJ;clear hs hh
   by_cases hgo:j<x.items.length/\0<=m
   ·obtain ⟨hlt,hm0⟩:=hgo
    obtain ⟨b,o,E1,e1,E2,e2,E3,e3,rfl,Yi,r0,r1,r2,r3,r4,r5,r6,r7⟩:=(HR.out.items.below HH.out.2).at8 hlt;have fD:=zh Yi;have h1:(0:Int)<=(j:Int):=by omega
    have h2:(j:Int)<(x.items.length:Int):=by omega
    have h3:m >= 0:=hm0;have HN:=zh ((Z8 hlt hm0).symm.trans HS);have HZ:=zh (IH.out x.items[j] (Nat.le_of_lt_succ (AAq (KY x _ (by exact Or.inr (AAK hlt))) HX)) (BA.out _ (AAK hlt)) m hm0 kH E1 e1 E2 e2 E3 e3 wo Yi)
    have HZ3:=zh (Z5 x.items[j] kH);clear HS Yi;go_wp2_with fail;refine HZ.out.mono ?_;rintro e w1 ⟨rfl,hb1⟩;have HB1:=zh hb1;clear v0 v1 v2 v3 v4 v5 v6 v7 r0 r1 r2 r3 r4 r5 r6 r7 hb1;go_wp2;go_roundw
    case rel=>exact ⟨j+1,PO x.items[j] m,by omega,by go_num,rfl,HZ3.out,HN.out,(HH.out.1).trans (HB1.out.mono HH.out.1.size),zB HH.out.2 HB1⟩
    case measure=>simp[intOf];omega
   ·have HE:Hid (m=M3):=by
     show _=_
     rw[<-HS.out]
     by_cases hlt:j<x.items.length
     ·rw[WH (by omega)]
     ·rw[WI (by omega)]
    clear HS
    by_cases h1:(j:Int)<(x.items.length:Int)
    ·have h2:¬ m >= 0:=by omega
     go_wp2
     go_meet
     exact ⟨by rw[HE.out],HH.out⟩
    ·go_wp2
     go_meet
     exact ⟨by rw[HE.out],HH.out⟩
 case rest =>
 obtain ⟨rfl,GQ⟩:=hcut;have HH4:=zh GQ.out;clear GQ;go_wp2;go_ret;exact ⟨by rw[nM.out];rfl,HH4.out.1⟩
theorem SX:∀n,pq n
 | 0=>fun x hx=>absurd hx (by obtain ⟨k,b,i,s,d,ks,is,r⟩:=x;simp[Val.mk.sizeOf_spec])
 | n+1=>Xp (SX n)
theorem PY (x:Val) (hs:GD x) (A1:zo) (c1:Nat) (A2:zo) (c2:Nat) (A3:zo) (c3:Nat) (w:World) (hr:Az w x A1 A2 A3) :
  Calls Tryz.prog 13 #[x.v A1 c1 A2 c2 A3 c3] w fun e w'=>e = .returned (.bool (decide (0<=PO x 3000)))/\Below w.heap.size w w':=by
 have HB0:=zh (zD w (x.box A1 c1 A2 c2 A3 c3));have HY:=zh (AAC w (x.box A1 c1 A2 c2 A3 c3));have HZ:=zh (SX _ x (AAH _) hs 3000 (by omega) (by omega) A1 c1 A2 c2 A3 c3 _ (hr.below HB0))
 clear hs hr
 go_enter Tryz.func13,Tryz.ntmps13
 go_upto_region 1 with fail
 generalize w.alloc (x.box A1 c1 A2 c2 A3 c3)=W0 at *;obtain ⟨v0,v1,v2,v3,v4,v5,v6,v7⟩:=zF HY;go_wp2_with fail;refine HZ.out.mono ?_;rintro e w1 ⟨rfl,hb1⟩;have HB1:=zh (zB HB0 hb1);clear v0 v1 v2 v3 v4 v5 v6 v7 hb1;go_wp2;go_ret;exact ⟨rfl,HB1.out⟩
def ABe (w:World) (B H b:Nat) (s:ByteArray):Prop:=B<=b/\b<H/\∃p v,(p = .pointer none\/p = .pointer (some ⟨b,0,none⟩))/\w.heap[b]? = some (.cells #[p,v] 57 (0,0))/\w.ownsRowF B 5 1 v (Lib.byteCells s.data.toList).length (Lib.byteCells s.data.toList)/\v.ownBlock≠some b/\∀g,v.ownBlock=some g->g<H
variable {b:Nat}
theorem CF.low {B:Nat} {s:ByteArray} (h:CF w B b s):ABe w B w.heap.size b s:=by
 have h':Lib.IsBuilderF 57 5 B b (Lib.byteCells s.data.toList) w:=by rw[<-Lib.strCells_eq];exact h
 rcases h' with ⟨hB,v,hb,ho,hn⟩|⟨hB,v,hb,ho,hn⟩
 ·exact ⟨hB,(zg.1 hb).1,_,v,.inl rfl,hb,ho,hn,fun g hg=>(ho.lt g hg).2⟩
 ·exact ⟨hB,(zg.1 hb).1,_,v,.inr rfl,hb,ho,hn,fun g hg=>(ho.lt g hg).2⟩
def UH (w:World) (A:zo) (l:List Int):Prop:=Aa 1 1 (fun z cs=>cs=[.int .u8 z]/\0<=z/\z<=255) w A l
theorem UH.below {w':World} {l:List Int} (h:UH w A l) (hb:Below w.heap.size w w'):UH w' A l:=Aa.imp h (fun _ _ _ h=>h) hb
theorem UH.UD {l:List Int} (h:UH w A l) (hi:i<l.length):∃b o,A=some ⟨b,o,none⟩/\(0<=l[i]/\l[i]<=255)/\w.cell? ⟨b,o+i,none⟩=some (.int .u8 l[i]):=by
 obtain ⟨b,o,cs,e,⟨rfl,h0⟩,h2⟩:=Aa.at_ h hi;have:=h2 0 _ rfl;rw[Nat.mul_one] at this;exact ⟨b,o,e,h0,this⟩
def tq (sp:List Int) (i:Nat):Nat:=if sp=[] then 0 else (sp.getD (i % sp.length) 0).toNat % 4
def sW (k:Nat):ByteArray:=bA (sV k)
structure uq (W0:World) (b:Nat) (o:List AQ) (sp:List Int) (i:Nat) (ys:ByteArray) (wr:World):Prop where
 Ot:CF wr W0.heap.size b ys
 eq:ys.data.toList++spread (tq sp) i (o.drop i)=spread (tq sp) 0 o
 Bb:Below W0.heap.size W0 wr
theorem uq.step {W0:World} {o:List AQ} {sp:List Int} {ys:ByteArray} {wr w':World} (h:uq W0 b o sp i ys wr) (hi:i<o.length) (hb:CF w' W0.heap.size b (ys++Ie o[i]++sW (tq sp i))) (hl:Below W0.heap.size W0 w'):uq W0 b o sp (i+1) (ys++Ie o[i]++sW (tq sp i)) w':=by
 refine ⟨hb,?_,hl⟩;rw[<-h.eq,AAv hi,spread,Ao,Ao,AA0,AA0]
 rfl
theorem uq.size {W0:World} {o:List AQ} {sp:List Int} {ys:ByteArray} {wr:World} (h:uq W0 b o sp i ys wr) {n:Nat} (hn:(spread (tq sp) 0 o).length<=n):ys.size<=n:=by
 have:=congrArg List.length h.eq;rw[AAt] at this;have e:ys.data.toList.length=ys.size:=rfl
 omega
end Go.Proofs.YthkkllmmbefedaaGreatDoor



