/-
  Walks: sheaveref08.size, Small.
-/
import Derived.Test.YthkkllmmbefedaaGreatDoorQGE0
namespace Go.Proofs.YthkkllmmbefedaaGreatDoor
open Go.RowKit Go.Proofs.Tryz
set_option maxHeartbeats 16000000
set_option maxRecDepth 100000
theorem rD {ch:UInt8} (h:ch.toNat<128):Utf8.encode (ch.toNat:Int)=⟨#[ch]⟩:=by
 have key:∀n:Fin 128,Utf8.encode ((UInt8.ofNat n.1).toNat:Int)=⟨#[UInt8.ofNat n.1]⟩:=by decide +kernel
 have:=key ⟨ch.toNat,h⟩;rw[show UInt8.ofNat ch.toNat=ch by simp] at this
 exact this
theorem AAw {m:Nat} (q:Nat) (h:q<16) (h':m<16):(⟨#[92,120]⟩:ByteArray)++(ByteArray.mk #[48,49,50,51,52,53,54,55,56,57,97,98,99,100,101,102]).extract q (q+1)++(ByteArray.mk #[48,49,50,51,52,53,54,55,56,57,97,98,99,100,101,102]).extract m (m+1)=⟨#[92,120,Ct q,Ct m]⟩:=by
 have key:∀n:Fin 16,(ByteArray.mk #[48,49,50,51,52,53,54,55,56,57,97,98,99,100,101,102]).extract n.1 (n.1+1)=⟨#[Ct n.1]⟩:=by decide +kernel
 rw[key ⟨q,h⟩,key ⟨m,h'⟩]
 rfl
theorem G7 (ch:UInt8) (w:World) :
  Calls prog 90 #[.int .u8 ch.toNat] w fun e w'=>e = .returned (.string (Jj ch))/\Below w.heap.size w w':=by
 have hch:ch.toNat<256:=ch.toNat_lt;have YT:Hid (Jj ch=if ch.toNat=34\/ch.toNat=92 then ⟨#[92,ch]⟩ else if ch.toNat=10 then ⟨#[92,110]⟩ else if ch.toNat<32\/126<ch.toNat then ⟨#[92,120,Ct (ch.toNat / 16),Ct (ch.toNat % 16)]⟩ else ⟨#[ch]⟩):=rfl
 have UK:=zh (fun h=>rD (ch:=ch) h)
 have HCH:Hid (ByteArray.mk #[92,ch]=⟨#[92]⟩++⟨#[ch]⟩):=rfl;obtain ⟨r,hr⟩:∃r,ch.toNat=r:=⟨_,rfl⟩;generalize Jj ch=Q at *;generalize hC2:ByteArray.mk #[92,ch]=C2 at *;generalize hC1:ByteArray.mk #[ch]=C1 at *;have hz1:C1.size=1:=by rw[<-hC1];rfl
 rw[hr] at YT UK hch;rw[hr];clear hr hC1 hC2;have u1:IntKind.i32.wrap (r:Int)=(r:Int):=by rw[IntKind.wrap_i32];omega
 go_enter func90,ntmps90
 by_cases c1:r=34\/r=92
 ·have HC:=zh (YT.O.trans (AAB c1))
  have HE:=zh (UK.O (by omega))
  have n1:¬ 9223372036854775807<(⟨#[92]⟩:ByteArray).size+(Utf8.encode (r:Int)).size:=by rw[HE.O,hz1];show ¬ _<1+1;omega
  have n2:¬ 9223372036854775807<1+(Utf8.encode (r:Int)).size:=n1;have HD:(¬ r=92/\r=34)\/r=92:=by omega
  generalize hen:Utf8.encode (r:Int)=EN at *;clear c1 YT UK
  rcases HD with ⟨vO,p34⟩|vO
  ·have q1:((r:Int)==92)=false:=by simp;omega
   have q2:((r:Int)==34)=true:=by simp[p34]
   clear vO p34;go_wp2;go_ret;exact ⟨by rw[HC.O,HCH.O,HE.O];rfl,Pe _ _⟩
  ·have q1:((r:Int)==92)=true:=by simp[vO]
   clear vO;go_wp2;go_ret;exact ⟨by rw[HC.O,HCH.O,HE.O];rfl,Pe _ _⟩
 ·have q1:((r:Int)==92)=false:=by simp;omega
  have q2:((r:Int)==34)=false:=by simp;omega
  have Zw:=zh (YT.O.trans (Pd c1))
  by_cases c2:r=10
  ·have HC:=zh (Zw.O.trans (AAB c2))
   have q3:((r:Int)==10)=true:=by simp[c2]
   clear c1 c2 YT Zw UK;go_wp2;go_ret;exact ⟨by rw[HC.O];rfl,Pe _ _⟩
  ·have q3:((r:Int)==10)=false:=by simp;omega
   have fT:=zh (Zw.O.trans (Pd c2))
   by_cases c3:r<32\/126<r
   ·have HC:=zh (fT.O.trans (AAB c3))
    have HD:(¬ (32:Int)<=(r:Int))\/((32:Int)<=(r:Int)/\¬ (r:Int)<=126):=by omega
    obtain ⟨q,hq⟩:∃q,q=r / 16:=⟨_,rfl⟩;obtain ⟨m,hm⟩:∃m,m=r % 16:=⟨_,rfl⟩;have ADF:q<16:=by omega
    have ADH:m<16:=by omega
    have ed1:(r:Int).tdiv 16=(q:Int):=by rw[hq];rfl
    have ed2:(r:Int) / 16=(q:Int):=by omega
    have em1:(r:Int).tmod 16=(m:Int):=by rw[hm];rfl
    have em2:(r:Int) % 16=(m:Int):=by omega
    have uq:IntKind.u8.wrap (q:Int)=(q:Int):=by rw[IntKind.wrap_u8];omega
    have um:IntKind.u8.wrap (m:Int)=(m:Int):=by rw[IntKind.wrap_u8];omega
    have uq1:IntKind.u8.wrap ((q:Int)+1)=(q:Int)+1:=by rw[IntKind.wrap_u8];omega
    have um1:IntKind.u8.wrap ((m:Int)+1)=(m:Int)+1:=by rw[IntKind.wrap_u8];omega
    have n5:¬ 9223372036854775807<2+(min (q+1) 16 - q):=by omega
    have n6:¬ 9223372036854775807<2+(min (q+1) 16 - q)+(min (m+1) 16 - m):=by omega
    have g1:(0:Int)<=(q:Int):=by omega
    have g2:(0:Int)<=(m:Int):=by omega
    have g3:(q:Int)<=(q:Int)+1:=by omega
    have g4:(m:Int)<=(m:Int)+1:=by omega
    have g5:(q:Int)+1<=16:=by omega
    have g6:(m:Int)+1<=16:=by omega
    rw[<-hq,<-hm] at HC;have HQM:=zh (And.intro ADF ADH);clear c1 c2 c3 YT Zw fT UK hq hm
    rcases HD with p1|⟨p1,p2⟩
    ·go_upto_region 8 with fail
     refine wp_region_held_drew (S:=(fun w'=>Hid (Below w.heap.size w w'))) (by kernel_rfl) ?_ (fun AQ=>?_)
     ·(try dsimp only);exact zC (Pe _ _) 1
     refine tL 0 ?_;refine tL 1 ?_;refine tL 2 ?_;refine tL 3 ?_;refine tL 4 ?_;refine tL 5 ?_;try simp only[ps]
     refine tL 6 ?_;refine tL 7 ?_;refine tL 8 ?_;refine tL 9 ?_;refine tL 10 ?_;refine tL 11 ?_;try simp only[ps]
     refine tL 12 ?_;refine tL 13 ?_;refine tL 14 ?_;refine tL 15 ?_;refine tL 16 ?_;refine wpAnyH_done (by kernel_rfl) ?_ _
     have JX:=AQ;clear AQ;go_wp2;go_ret;exact ⟨by rw[HC.O,<-AAw q HQM.O.1 HQM.O.2];rfl,JX.O⟩
    ·go_upto_region 8 with fail
     refine wp_region_held_drew (S:=(fun w'=>Hid (Below w.heap.size w w'))) (by kernel_rfl) ?_ (fun AQ=>?_)
     ·(try dsimp only);exact zC (Pe _ _) 1
     refine tL 0 ?_;try simp only[ps]
     refine tL 1 ?_;refine tL 2 ?_;refine tL 3 ?_;refine tL 4 ?_;refine tL 5 ?_;refine tL 6 ?_;try simp only[ps]
     refine tL 7 ?_;refine tL 8 ?_;refine tL 9 ?_;refine tL 10 ?_;refine tL 11 ?_;refine tL 12 ?_;try simp only[ps]
     refine tL 13 ?_;refine tL 14 ?_;refine tL 15 ?_;refine tL 16 ?_;refine wpAnyH_done (by kernel_rfl) ?_ _
     have JX:=AQ;clear AQ;go_wp2;go_ret;exact ⟨by rw[HC.O,<-AAw q HQM.O.1 HQM.O.2];rfl,JX.O⟩
   ·have HC:=zh (fT.O.trans (Pd c3))
    have HE:=zh (UK.O (by omega))
    have p1:(32:Int)<=(r:Int):=by omega
    have p2:(r:Int)<=126:=by omega
    generalize hen:Utf8.encode (r:Int)=EN at *;clear c1 c2 c3 YT Zw fT UK;go_wp2;go_ret;exact ⟨by rw[HC.O,<-HE.O];rfl,Pe _ _⟩
def AEh (w:World) (B H b:Nat) (s:ByteArray):Prop:=B<=b/\b<H/\∃p v,(p = .pointer none\/p = .pointer (some ⟨b,0,none⟩))/\w.heap[b]? = some (.cells #[p,v] 57 (0,0))/\w.ownsRowF B 5 1 v (Lib.byteCells s.data.toList).length (Lib.byteCells s.data.toList)/\v.ownBlock≠some b/\∀g,v.ownBlock=some g->g<H
variable {b:Nat} {w:World}
theorem CX.low {B:Nat} {s:ByteArray} (h:CX w B b s):AEh w B w.heap.size b s:=by
 have h':Lib.IsBuilderF 57 5 B b (Lib.byteCells s.data.toList) w:=by rw[<-Lib.strCells_eq];exact h
 rcases h' with ⟨hB,v,hb,ho,hn⟩|⟨hB,v,hb,ho,hn⟩
 ·exact ⟨hB,(zg.1 hb).1,_,v,.inl rfl,hb,ho,hn,fun g hg=>(ho.lt g hg).2⟩
 ·exact ⟨hB,(zg.1 hb).1,_,v,.inr rfl,hb,ho,hn,fun g hg=>(ho.lt g hg).2⟩
def V5 (w:World) (A:zo) (l:List Int):Prop:=AY 1 1 (fun z cs=>cs=[.int .u8 z]/\0<=z/\z<=255) w A l
variable {A:zo}
theorem V5.below {w':World} {l:List Int} (h:V5 w A l) (hb:Below w.heap.size w w'):V5 w' A l:=AY.imp h (fun _ _ _ h=>h) hb
variable {i:Nat}
theorem V5.fF {l:List Int} (h:V5 w A l) (hi:i<l.length):∃b o,A=some ⟨b,o,none⟩/\(0<=l[i]/\l[i]<=255)/\w.cell? ⟨b,o+i,none⟩=some (.int .u8 l[i]):=by
 obtain ⟨b,o,cs,e,⟨rfl,h0⟩,h2⟩:=AY.at_ h hi;have:=h2 0 _ rfl;rw[Nat.mul_one] at this;exact ⟨b,o,e,h0,this⟩
def ksI (sp:List Int) (i:Nat):Nat:=if sp=[] then 0 else (sp.getD (i % sp.length) 0).toNat % 4
def AAR (k:Nat):ByteArray:=bA (AAQ k)
structure SpS (W0:World) (b:Nat) (o:List AJ) (sp:List Int) (i:Nat) (ys:ByteArray) (wr:World):Prop where
 FZ:CX wr W0.heap.size b ys
 eq:ys.data.toList++spread (ksI sp) i (o.drop i)=spread (ksI sp) 0 o
 Cm:Below W0.heap.size W0 wr
theorem SpS.step {W0:World} {o:List AJ} {sp:List Int} {ys:ByteArray} {wr w':World} (h:SpS W0 b o sp i ys wr) (hi:i<o.length) (hb:CX w' W0.heap.size b (ys++JZ o[i]++AAR (ksI sp i))) (hl:Below W0.heap.size W0 w'):SpS W0 b o sp (i+1) (ys++JZ o[i]++AAR (ksI sp i)) w':=by
 refine ⟨hb,?_,hl⟩;rw[<-h.eq,ABf hi,spread,Al,Al,AAo,AAo]
 rfl
theorem SpS.size {W0:World} {o:List AJ} {sp:List Int} {ys:ByteArray} {wr:World} (h:SpS W0 b o sp i ys wr) {n:Nat} (hn:(spread (ksI sp) 0 o).length<=n):ys.size<=n:=by
 have:=congrArg List.length h.eq;rw[ABF] at this;have e:ys.data.toList.length=ys.size:=rfl
 omega
def xA (n:Nat):Prop:=∀ (x:Val),SizeOf.sizeOf x<=n->Ku x->∀ (k:Int),0<=k->k<=3000->∀ (A1:zo) (c1:Nat) (A2:zo) (c2:Nat) (A3:zo) (c3:Nat) (w:World),Ar w x A1 A2 A3 ->
  Calls prog 42 #[x.v A1 c1 A2 c2 A3 c3,.int .i64 k] w fun e w'=>e = .returned (.int .i64 (Qh x k))/\Below w.heap.size w w'
theorem iM (x:Val) {k:Int} (h:k<=3000):Qh x k<=3000:=by have:=iL x k;omega
theorem jL {l:List Af} (h:FB w A l) (hi:i<l.length):∃b o,A=some ⟨b,o,none⟩/\w.cell? ⟨b,o+i * 2,none⟩=some (.int .i64 (l[i]).id)/\w.cell? ⟨b,o+i * 2+1,none⟩=some (.string (l[i]).data):=by
 obtain ⟨b,o,cs,e,⟨_,rfl⟩,h2⟩:=AY.at_ h hi;exact ⟨b,o,e,h2 0 _ rfl,h2 1 _ rfl⟩
theorem aS {n:Nat} (ih:xA n):xA (n+1):=by
 intro x hx hsb k hk0 hk1 A1 c1 A2 c2 A3 c3 w hr
 have IH:=zh ih;obtain ⟨b1,b2,b3,b4⟩:=hsb.O;have HB2:=zh b2;have HB3:=zh b3;have ED:=zh b4;have HX:=zh hx;have hn3:x.rest.length<=5864062014806:=by have:=hr.rest.1;unfold EF at this;omega
 have hn1:x.keys.length<=1172812402961:=by have:=hr.keys.1;unfold EF at this;omega
 have hn2:x.items.length<=1172812402961:=by have:=hr.items.1;unfold EF at this;omega
 have HB0:=zh (zD w (x.box A1 c1 A2 c2 A3 c3));have HR:=zh (hr.below HB0);have HY:=zh (AAA w (x.box A1 c1 A2 c2 A3 c3));have uS:=zh (om x k);clear ih hsb b2 b3 b4 hx hr
 go_enter func42,ntmps42
 go_upto_region 1 with fail
 generalize w.alloc (x.box A1 c1 A2 c2 A3 c3)=W0 at *;obtain ⟨v0,v1,v2,v3,v4,v5,v6,v7⟩:=zF HY
 go_upto_block 0 with fail
 clear v0 v1 v2 v3 v4 v5 v6 v7;obtain ⟨k1,hk⟩:∃k1:Int,k - (10+(x.str.size:Int)+(x.rest.length:Int))=k1:=⟨_,rfl⟩;rw[hk];rw[hk] at uS;have hk3:k1<=3000:=by omega
 clear hk hk0 hk1;obtain ⟨M1,hM1⟩:∃M1,Oi x.rest k1=M1:=⟨_,rfl⟩;rw[hM1] at uS;have D7:=zh hM1;have ABv:Hid (M1<=3000):=by show _<=_;have:=XC x.rest k1;omega
 clear hM1
 go_cut [1] (fun z wx=>z = .int .i64 M1/\Hid (Below w.heap.size w wx/\Below W0.heap.size W0 wx))
 case first =>
  go_wp2_with fail
  go_loopw [1,5] (fun a i wr=>∃ (j:Nat) (m:Int),j<=x.rest.length/\i = .int .i64 j/\a = .int .i64 m/\m<=3000/\Hid (Oi (x.rest.drop j) m=M1)/\Hid (Below w.heap.size w wr/\Below W0.heap.size W0 wr)) (fun _ i _=>x.rest.length - (intOf i).toNat)
  case atStart=>exact ⟨0,k1,by omega,rfl,rfl,hk3,D7.O,HB0.O,Pe _ _⟩
  case round =>
   obtain ⟨j,m,hj,rfl,rfl,qh,hs,hh⟩:=hrel;have HS:=zh hs.O;have HH:=zh hh.O;have HYr:=zh (zE HY HH.O.2);obtain ⟨v0,v1,v2,v3,v4,v5,v6,v7⟩:=zF HYr;clear hs hh
   by_cases hgo:j<x.rest.length/\0<=m
   ·obtain ⟨hlt,hm0⟩:=hgo
    obtain ⟨b,o,rfl,r0,r1⟩:=jL (HR.O.rest.below HH.O.2) hlt;have h1:(0:Int)<=(j:Int):=by omega
    have h2:(j:Int)<(x.rest.length:Int):=by omega
    have h3:m >= 0:=hm0;have hsz:=HB2.O _ (AAL hlt);have HN:=zh ((uy hlt hm0).symm.trans HS);clear HS;go_wp2;go_roundw
    case rel=>exact ⟨j+1,m - (x.rest[j]).data.size,by omega,by go_num,by go_num,by omega,HN.O,HH.O⟩
    case measure=>simp[intOf];omega
   ·have HE:Hid (m=M1):=by
     show _=_
     rw[<-HS.O]
     by_cases hlt:j<x.rest.length
     ·rw[oo (by omega)]
     ·rw[ou (by omega)]
    clear HS
    by_cases h1:(j:Int)<(x.rest.length:Int)
    ·have h2:¬ m >= 0:=by omega
     go_wp2
     go_meet
     exact ⟨by rw[HE.O],HH.O⟩
    ·go_wp2
     go_meet
     exact ⟨by rw[HE.O],HH.O⟩
 case rest =>
 obtain ⟨rfl,Js⟩:=hcut;obtain ⟨W2,rfl⟩:∃W2:World,W2=wc:=⟨_,rfl⟩;have HH2:=zh Js.O;clear Js;obtain ⟨M2,hM2⟩:∃M2,OG x.keys M1=M2:=⟨_,rfl⟩;rw[hM2] at uS;have Fb:=zh hM2;have ABu:Hid (M2<=3000):=by show _<=_;have:=Jf x.keys M1;have:=ABv.O;omega
 clear hM2
 go_upto_block 2 with fail
 go_cut [1] (fun z wx=>z = .int .i64 M2/\Hid (Below w.heap.size w wx/\Below W0.heap.size W0 wx))
 case first =>
  go_wp2_with fail
  go_loopw [1,6] (fun a i wr=>∃ (j:Nat) (m:Int),j<=x.keys.length/\i = .int .i64 j/\a = .int .i64 m/\m<=3000/\Hid (OG (x.keys.drop j) m=M2)/\Hid (Below w.heap.size w wr/\Below W0.heap.size W0 wr)) (fun _ i _=>x.keys.length - (intOf i).toNat)
  case atStart=>exact ⟨0,M1,by omega,rfl,rfl,ABv.O,Fb.O,HH2.O⟩
  case round =>
   obtain ⟨j,m,hj,rfl,rfl,qh,hs,hh⟩:=hrel;obtain ⟨wo,rfl⟩:∃wo:World,wo=wr:=⟨_,rfl⟩;have HS:=zh hs.O;have HH:=zh hh.O;have HYr:=zh (zE HY HH.O.2);obtain ⟨v0,v1,v2,v3,v4,v5,v6,v7⟩:=zF HYr;clear hs hh
   by_cases hgo:j<x.keys.length/\0<=m
   ·obtain ⟨hlt,hm0⟩:=hgo
    obtain ⟨b,o,E1,e1,E2,e2,E3,e3,rfl,cZ,r0,r1,r2,r3,r4,r5,r6,r7⟩:=(HR.O.keys.below HH.O.2).at8 hlt;have xR:=zh cZ;have h1:(0:Int)<=(j:Int):=by omega
    have h2:(j:Int)<(x.keys.length:Int):=by omega
    have h3:m >= 0:=hm0;have HN:=zh ((iP hlt hm0).symm.trans HS);have HZ:=zh (IH.O x.keys[j] (Nat.le_of_lt_succ (ABa (PX x _ (by exact Or.inl (AAL hlt))) HX)) (HB3.O _ (AAL hlt)) m hm0 qh E1 e1 E2 e2 E3 e3 wo cZ)
    have HZ3:=zh (iM x.keys[j] qh);clear HS cZ;go_wp2_with fail;refine HZ.O.mono ?_;rintro e w1 ⟨rfl,hb1⟩;have HB1:=zh hb1;clear v0 v1 v2 v3 v4 v5 v6 v7 r0 r1 r2 r3 r4 r5 r6 r7 hb1;go_wp2;go_roundw
    case rel=>exact ⟨j+1,Qh x.keys[j] m,by omega,by go_num,rfl,HZ3.O,HN.O,(HH.O.1).trans (HB1.O.mono HH.O.1.size),zB HH.O.2 HB1⟩
    case measure=>simp[intOf];omega
   ·have HE:Hid (m=M2):=by
     show _=_
     rw[<-HS.O]
     by_cases hlt:j<x.keys.length
     ·rw[Yq (by omega)]
     ·rw[Yr (by omega)]
    clear HS
    by_cases h1:(j:Int)<(x.keys.length:Int)
    ·have h2:¬ m >= 0:=by omega
     go_wp2
     go_meet
     exact ⟨by rw[HE.O],HH.O⟩
    ·go_wp2
     go_meet
     exact ⟨by rw[HE.O],HH.O⟩
 case rest =>
 obtain ⟨rfl,Js⟩:=hcut;obtain ⟨W3,rfl⟩:∃W3:World,W3=wc:=⟨_,rfl⟩;have HH3:=zh Js.O;clear Js;obtain ⟨M3,hM3⟩:∃M3,OG x.items M2=M3:=⟨_,rfl⟩;rw[hM3] at uS;have Qw:=zh hM3;have ABt:Hid (M3<=3000):=by show _<=_;have:=Jf x.items M2;have:=ABu.O;omega
 clear hM3
 go_upto_block 4 with fail
 go_cut [1] (fun z wx=>z = .int .i64 M3/\Hid (Below w.heap.size w wx/\Below W0.heap.size W0 wx))
 case first =>
  go_wp2_with fail
  go_loopw [1,7] (fun a i wr=>∃ (j:Nat) (m:Int),j<=x.items.length/\i = .int .i64 j/\a = .int .i64 m/\m<=3000/\Hid (OG (x.items.drop j) m=M3)/\Hid (Below w.heap.size w wr/\Below W0.heap.size W0 wr)) (fun _ i _=>x.items.length - (intOf i).toNat)
  case atStart=>exact ⟨0,M2,by omega,rfl,rfl,ABu.O,Qw.O,HH3.O⟩
  case round =>
   obtain ⟨j,m,hj,rfl,rfl,qh,hs,hh⟩:=hrel;obtain ⟨wo,rfl⟩:∃wo:World,wo=wr:=⟨_,rfl⟩;have HS:=zh hs.O;have HH:=zh hh.O;have HYr:=zh (zE HY HH.O.2);obtain ⟨v0,v1,v2,v3,v4,v5,v6,v7⟩:=zF HYr;clear hs hh
   by_cases hgo:j<x.items.length/\0<=m
   ·obtain ⟨hlt,hm0⟩:=hgo
    obtain ⟨b,o,E1,e1,E2,e2,E3,e3,rfl,cZ,r0,r1,r2,r3,r4,r5,r6,r7⟩:=(HR.O.items.below HH.O.2).at8 hlt;have xR:=zh cZ;have h1:(0:Int)<=(j:Int):=by omega
    have h2:(j:Int)<(x.items.length:Int):=by omega
    have h3:m >= 0:=hm0;have HN:=zh ((iP hlt hm0).symm.trans HS);have HZ:=zh (IH.O x.items[j] (Nat.le_of_lt_succ (ABa (PX x _ (by exact Or.inr (AAL hlt))) HX)) (ED.O _ (AAL hlt)) m hm0 qh E1 e1 E2 e2 E3 e3 wo cZ)
    have HZ3:=zh (iM x.items[j] qh);clear HS cZ;go_wp2_with fail;refine HZ.O.mono ?_;rintro e w1 ⟨rfl,hb1⟩;have HB1:=zh hb1;clear v0 v1 v2 v3 v4 v5 v6 v7 r0 r1 r2 r3 r4 r5 r6 r7 hb1;go_wp2;go_roundw
    case rel=>exact ⟨j+1,Qh x.items[j] m,by omega,by go_num,rfl,HZ3.O,HN.O,(HH.O.1).trans (HB1.O.mono HH.O.1.size),zB HH.O.2 HB1⟩
    case measure=>simp[intOf];omega
   ·have HE:Hid (m=M3):=by
     show _=_
     rw[<-HS.O]
     by_cases hlt:j<x.items.length
     ·rw[Yq (by omega)]
     ·rw[Yr (by omega)]
    clear HS
    by_cases h1:(j:Int)<(x.items.length:Int)
    ·have h2:¬ m >= 0:=by omega
     go_wp2
     go_meet
     exact ⟨by rw[HE.O],HH.O⟩
    ·go_wp2
     go_meet
     exact ⟨by rw[HE.O],HH.O⟩
 case rest =>
 obtain ⟨rfl,Js⟩:=hcut;have HH4:=zh Js.O;clear Js;go_wp2;go_ret;exact ⟨by rw[uS.O];rfl,HH4.O.1⟩
theorem Uj:∀n,xA n
 | 0=>fun x hx=>absurd hx (by obtain ⟨k,b,i,s,d,ks,is,r⟩:=x;simp[Val.mk.sizeOf_spec])
 | n+1=>aS (Uj n)
theorem aP (x:Val) (hs:Ku x) (A1:zo) (c1:Nat) (A2:zo) (c2:Nat) (A3:zo) (c3:Nat) (w:World) (hr:Ar w x A1 A2 A3) :
  Calls prog 13 #[x.v A1 c1 A2 c2 A3 c3] w fun e w'=>e = .returned (.bool (decide (0<=Qh x 3000)))/\Below w.heap.size w w':=by
 have HB0:=zh (zD w (x.box A1 c1 A2 c2 A3 c3));have HY:=zh (AAA w (x.box A1 c1 A2 c2 A3 c3));have HZ:=zh (Uj _ x (AAF _) hs 3000 (by omega) (by omega) A1 c1 A2 c2 A3 c3 _ (hr.below HB0))
 clear hs hr
 go_enter func13,ntmps13
 go_upto_region 1 with fail
 generalize w.alloc (x.box A1 c1 A2 c2 A3 c3)=W0 at *;obtain ⟨v0,v1,v2,v3,v4,v5,v6,v7⟩:=zF HY;go_wp2_with fail;refine HZ.O.mono ?_;rintro e w1 ⟨rfl,hb1⟩;have HB1:=zh (zB HB0 hb1);clear v0 v1 v2 v3 v4 v5 v6 v7 hb1;go_wp2;go_ret;exact ⟨rfl,HB1.O⟩
