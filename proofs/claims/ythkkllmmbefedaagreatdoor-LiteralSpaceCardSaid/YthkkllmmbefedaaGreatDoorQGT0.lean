/-
  Walks: the reference's text, kinds 1, 2, 3, 4.
-/
import Derived.Test.YthkkllmmbefedaaGreatDoorQGA10
import Derived.Test.YthkkllmmbefedaaGreatDoorQGA8
import Derived.Test.YthkkllmmbefedaaGreatDoorQRT0
import Derived.Test.YthkkllmmbefedaaGreatDoorQGA7
import Derived.Test.YthkkllmmbefedaaGreatDoorQGM0
import Derived.Test.YthkkllmmbefedaaGreatDoorQGA9
import Derived.Deep.CutBlock
namespace Go.Proofs.YthkkllmmbefedaaGreatDoor
open Go.RowKit
set_option maxHeartbeats 16000000
set_option maxRecDepth 100000
def SzAt (n:Nat):Prop:=∀ (x:Val),SizeOf.sizeOf x≤n→StrB x→∀ (k:Int),0≤k→k≤3000→∀ (A1:zo) (c1:Nat) (A2:zo) (c2:Nat) (A3:zo) (c3:Nat) (w:World),ValR w x A1 A2 A3 →
  Calls Tryz.prog 42 #[x.v A1 c1 A2 c2 A3 c3,.int .i64 k] w fun e w'=>e = .returned (.int .i64 (szV x k))∧Below w.heap.size w w'
theorem szV_hi (x:Val) {k:Int} (h:k≤3000):szV x k≤3000:=by have:=szV_le x k;omega
theorem raws_at2 {w:World} {A:zo} {l:List RawD} (h:RawsR w A l) {i:Nat} (hi:i<l.length):∃b o,A=some ⟨b,o,none⟩∧w.cell? ⟨b,o+i * 2,none⟩=some (.int .i64 (l[i]).id)∧w.cell? ⟨b,o+i * 2+1,none⟩=some (.string (l[i]).data):=by
 obtain ⟨b,o,cs,e,⟨_,rfl⟩,h2⟩:=RowsR.at_ h hi;exact ⟨b,o,e,h2 0 _ rfl,h2 1 _ rfl⟩
theorem size_step {n:Nat} (ih:SzAt n):SzAt (n+1):=by
 intro x hx hsb k hk0 hk1 A1 c1 A2 c2 A3 c3 w hr
 have IH:=zh ih;obtain ⟨b1,b2,b3,b4⟩:=hsb.out;have HB2:=zh b2;have HB3:=zh b3;have HB4:=zh b4;have HX:=zh hx;have hn3:x.rest.length≤5864062014806:=by have:=hr.rest.1;unfold Lim at this;omega
 have hn1:x.keys.length≤1172812402961:=by have:=hr.keys.1;unfold Lim at this;omega
 have hn2:x.items.length≤1172812402961:=by have:=hr.items.1;unfold Lim at this;omega
 have HB0:=zh (zD w (x.box A1 c1 A2 c2 A3 c3));have HR:=zh (hr.below HB0.out);have HY:=zh (heap_alloc_new w (x.box A1 c1 A2 c2 A3 c3));have HDF:=zh (szV_def x k);clear ih hsb b2 b3 b4 hx hr
 go_enter Tryz.func42,Tryz.ntmps42
 go_upto_region 1 with fail
 generalize w.alloc (x.box A1 c1 A2 c2 A3 c3)=W0 at *;obtain ⟨v0,v1,v2,v3,v4,v5,v6,v7⟩:=zF HY.out
 go_upto_block 0 with fail
 clear v0 v1 v2 v3 v4 v5 v6 v7;obtain ⟨k1,hk⟩:∃k1:Int,k - (10+(x.str.size:Int)+(x.rest.length:Int))=k1:=⟨_,rfl⟩;rw[hk];rw[hk] at HDF;have hk3:k1≤3000:=by omega
 clear hk hk0 hk1;obtain ⟨M1,hM1⟩:∃M1,szR x.rest k1=M1:=⟨_,rfl⟩;rw[hM1] at HDF;have HM1:=zh hM1;have HM1b:Hid (M1≤3000):=by show _≤_;have:=szR_le x.rest k1;omega
 clear hM1
 go_cut [1] (fun z wx=>z = .int .i64 M1∧Hid (Below w.heap.size w wx∧Below W0.heap.size W0 wx))
 case first =>
  go_wp2_with fail
  go_loopw [1,5] (fun a i wr=>∃ (j:Nat) (m:Int),j≤x.rest.length∧i = .int .i64 j∧a = .int .i64 m∧m≤3000∧Hid (szR (x.rest.drop j) m=M1)∧Hid (Below w.heap.size w wr∧Below W0.heap.size W0 wr)) (fun _ i _=>x.rest.length - (intOf i).toNat)
  case atStart=>exact ⟨0,k1,by omega,rfl,rfl,hk3,HM1.out,HB0.out,Below.refl _ _⟩
  case round =>
   obtain ⟨j,m,hj,rfl,rfl,hm3,hs,hh⟩:=hrel;have HS:=zh hs.out;have HH:=zh hh.out;have HYr:=zh (zE HY.out HH.out.2);obtain ⟨v0,v1,v2,v3,v4,v5,v6,v7⟩:=zF HYr.out;clear hs hh
   by_cases hgo:j<x.rest.length∧0≤m
   ·obtain ⟨hlt,hm0⟩:=hgo
    obtain ⟨b,o,rfl,r0,r1⟩:=raws_at2 (HR.out.rest.below HH.out.2) hlt;have h1:(0:Int)≤(j:Int):=by omega
    have h2:(j:Int)<(x.rest.length:Int):=by omega
    have h3:m ≥ 0:=hm0;have hsz:=HB2.out _ (List.getElem_mem hlt);have HN:=zh ((szR_at hlt hm0).symm.trans HS.out);clear HS;go_wp2;go_roundw
    case rel=>exact ⟨j+1,m - (x.rest[j]).data.size,by omega,by go_num,by go_num,by omega,HN.out,HH.out⟩
    case measure=>simp[intOf];omega
   ·have HE:Hid (m=M1):=by
     show _=_
     rw[←HS.out]
     by_cases hlt:j<x.rest.length
     ·rw[szR_neg (by omega)]
     ·rw[szR_end (by omega)]
    clear HS
    by_cases h1:(j:Int)<(x.rest.length:Int)
    ·have h2:¬ m ≥ 0:=by omega
     go_wp2
     go_meet
     exact ⟨by rw[HE.out],HH.out⟩
    ·go_wp2
     go_meet
     exact ⟨by rw[HE.out],HH.out⟩
 case rest =>
 obtain ⟨rfl,hcut2⟩:=hcut;obtain ⟨W2,rfl⟩:∃W2:World,W2=wc:=⟨_,rfl⟩;have HH2:=zh hcut2.out;clear hcut2;obtain ⟨M2,hM2⟩:∃M2,szL x.keys M1=M2:=⟨_,rfl⟩;rw[hM2] at HDF;have HM2:=zh hM2;have HM2b:Hid (M2≤3000):=by show _≤_;have:=szL_le x.keys M1;have:=HM1b.out;omega
 clear hM2
 go_upto_block 2 with fail
 go_cut [1] (fun z wx=>z = .int .i64 M2∧Hid (Below w.heap.size w wx∧Below W0.heap.size W0 wx))
 case first =>
  go_wp2_with fail
  go_loopw [1,6] (fun a i wr=>∃ (j:Nat) (m:Int),j≤x.keys.length∧i = .int .i64 j∧a = .int .i64 m∧m≤3000∧Hid (szL (x.keys.drop j) m=M2)∧Hid (Below w.heap.size w wr∧Below W0.heap.size W0 wr)) (fun _ i _=>x.keys.length - (intOf i).toNat)
  case atStart=>exact ⟨0,M1,by omega,rfl,rfl,HM1b.out,HM2.out,HH2.out⟩
  case round =>
   obtain ⟨j,m,hj,rfl,rfl,hm3,hs,hh⟩:=hrel;obtain ⟨wo,rfl⟩:∃wo:World,wo=wr:=⟨_,rfl⟩;have HS:=zh hs.out;have HH:=zh hh.out;have HYr:=zh (zE HY.out HH.out.2);obtain ⟨v0,v1,v2,v3,v4,v5,v6,v7⟩:=zF HYr.out;clear hs hh
   by_cases hgo:j<x.keys.length∧0≤m
   ·obtain ⟨hlt,hm0⟩:=hgo
    obtain ⟨b,o,E1,e1,E2,e2,E3,e3,rfl,hvr,r0,r1,r2,r3,r4,r5,r6,r7⟩:=(HR.out.keys.below HH.out.2).at8 hlt;have HVR:=zh hvr;have h1:(0:Int)≤(j:Int):=by omega
    have h2:(j:Int)<(x.keys.length:Int):=by omega
    have h3:m ≥ 0:=hm0;have HN:=zh ((szL_at hlt hm0).symm.trans HS.out);have HZ:=zh (IH.out x.keys[j] (Nat.le_of_lt_succ (Nat.lt_of_lt_of_le (val_size x _ (by exact Or.inl (List.getElem_mem hlt))) HX.out)) (HB3.out _ (List.getElem_mem hlt)) m hm0 hm3 E1 e1 E2 e2 E3 e3 wo hvr)
    have HZ3:=zh (szV_hi x.keys[j] hm3);clear HS hvr;go_wp2_with fail;refine HZ.out.mono ?_;rintro e w1 ⟨rfl,hb1⟩;have HB1:=zh hb1;clear v0 v1 v2 v3 v4 v5 v6 v7 r0 r1 r2 r3 r4 r5 r6 r7 hb1;go_wp2;go_roundw
    case rel=>exact ⟨j+1,szV x.keys[j] m,by omega,by go_num,rfl,HZ3.out,HN.out,(HH.out.1).trans (HB1.out.mono HH.out.1.size),zB HH.out.2 HB1.out⟩
    case measure=>simp[intOf];omega
   ·have HE:Hid (m=M2):=by
     show _=_
     rw[←HS.out]
     by_cases hlt:j<x.keys.length
     ·rw[szL_neg (by omega)]
     ·rw[szL_end (by omega)]
    clear HS
    by_cases h1:(j:Int)<(x.keys.length:Int)
    ·have h2:¬ m ≥ 0:=by omega
     go_wp2
     go_meet
     exact ⟨by rw[HE.out],HH.out⟩
    ·go_wp2
     go_meet
     exact ⟨by rw[HE.out],HH.out⟩
 case rest =>
 obtain ⟨rfl,hcut2⟩:=hcut;obtain ⟨W3,rfl⟩:∃W3:World,W3=wc:=⟨_,rfl⟩;have HH3:=zh hcut2.out;clear hcut2;obtain ⟨M3,hM3⟩:∃M3,szL x.items M2=M3:=⟨_,rfl⟩;rw[hM3] at HDF;have HM3:=zh hM3;have HM3b:Hid (M3≤3000):=by show _≤_;have:=szL_le x.items M2;have:=HM2b.out;omega
 clear hM3
 go_upto_block 4 with fail
 go_cut [1] (fun z wx=>z = .int .i64 M3∧Hid (Below w.heap.size w wx∧Below W0.heap.size W0 wx))
 case first =>
  go_wp2_with fail
  go_loopw [1,7] (fun a i wr=>∃ (j:Nat) (m:Int),j≤x.items.length∧i = .int .i64 j∧a = .int .i64 m∧m≤3000∧Hid (szL (x.items.drop j) m=M3)∧Hid (Below w.heap.size w wr∧Below W0.heap.size W0 wr)) (fun _ i _=>x.items.length - (intOf i).toNat)
  case atStart=>exact ⟨0,M2,by omega,rfl,rfl,HM2b.out,HM3.out,HH3.out⟩
  case round =>
   obtain ⟨j,m,hj,rfl,rfl,hm3,hs,hh⟩:=hrel;obtain ⟨wo,rfl⟩:∃wo:World,wo=wr:=⟨_,rfl⟩;have HS:=zh hs.out;have HH:=zh hh.out;have HYr:=zh (zE HY.out HH.out.2);obtain ⟨v0,v1,v2,v3,v4,v5,v6,v7⟩:=zF HYr.out;clear hs hh
   by_cases hgo:j<x.items.length∧0≤m
   ·obtain ⟨hlt,hm0⟩:=hgo
    obtain ⟨b,o,E1,e1,E2,e2,E3,e3,rfl,hvr,r0,r1,r2,r3,r4,r5,r6,r7⟩:=(HR.out.items.below HH.out.2).at8 hlt;have HVR:=zh hvr;have h1:(0:Int)≤(j:Int):=by omega
    have h2:(j:Int)<(x.items.length:Int):=by omega
    have h3:m ≥ 0:=hm0;have HN:=zh ((szL_at hlt hm0).symm.trans HS.out);have HZ:=zh (IH.out x.items[j] (Nat.le_of_lt_succ (Nat.lt_of_lt_of_le (val_size x _ (by exact Or.inr (List.getElem_mem hlt))) HX.out)) (HB4.out _ (List.getElem_mem hlt)) m hm0 hm3 E1 e1 E2 e2 E3 e3 wo hvr)
    have HZ3:=zh (szV_hi x.items[j] hm3);clear HS hvr;go_wp2_with fail;refine HZ.out.mono ?_;rintro e w1 ⟨rfl,hb1⟩;have HB1:=zh hb1;clear v0 v1 v2 v3 v4 v5 v6 v7 r0 r1 r2 r3 r4 r5 r6 r7 hb1;go_wp2;go_roundw
    case rel=>exact ⟨j+1,szV x.items[j] m,by omega,by go_num,rfl,HZ3.out,HN.out,(HH.out.1).trans (HB1.out.mono HH.out.1.size),zB HH.out.2 HB1.out⟩
    case measure=>simp[intOf];omega
   ·have HE:Hid (m=M3):=by
     show _=_
     rw[←HS.out]
     by_cases hlt:j<x.items.length
     ·rw[szL_neg (by omega)]
     ·rw[szL_end (by omega)]
    clear HS
    by_cases h1:(j:Int)<(x.items.length:Int)
    ·have h2:¬ m ≥ 0:=by omega
     go_wp2
     go_meet
     exact ⟨by rw[HE.out],HH.out⟩
    ·go_wp2
     go_meet
     exact ⟨by rw[HE.out],HH.out⟩
 case rest =>
 obtain ⟨rfl,hcut2⟩:=hcut;have HH4:=zh hcut2.out;clear hcut2;go_wp2;go_ret;exact ⟨by rw[HDF.out];rfl,HH4.out.1⟩
theorem size_all:∀n,SzAt n
 | 0=>fun x hx=>absurd hx (by obtain ⟨k,b,i,s,d,ks,is,r⟩:=x;simp[Val.mk.sizeOf_spec])
 | n+1=>size_step (size_all n)
theorem small_any (x:Val) (hs:StrB x) (A1:zo) (c1:Nat) (A2:zo) (c2:Nat) (A3:zo) (c3:Nat) (w:World) (hr:ValR w x A1 A2 A3) :
  Calls Tryz.prog 13 #[x.v A1 c1 A2 c2 A3 c3] w fun e w'=>e = .returned (.bool (decide (0≤szV x 3000)))∧Below w.heap.size w w':=by
 have HB0:=zh (zD w (x.box A1 c1 A2 c2 A3 c3));have HY:=zh (heap_alloc_new w (x.box A1 c1 A2 c2 A3 c3));have HZ:=zh (size_all _ x (Nat.le_refl _) hs 3000 (by omega) (by omega) A1 c1 A2 c2 A3 c3 _ (hr.below HB0.out))
 clear hs hr
 go_enter Tryz.func13,Tryz.ntmps13
 go_upto_region 1 with fail
 generalize w.alloc (x.box A1 c1 A2 c2 A3 c3)=W0 at *;obtain ⟨v0,v1,v2,v3,v4,v5,v6,v7⟩:=zF HY.out;go_wp2_with fail;refine HZ.out.mono ?_;rintro e w1 ⟨rfl,hb1⟩;have HB1:=zh (zB HB0.out hb1);clear v0 v1 v2 v3 v4 v5 v6 v7 hb1;go_wp2;go_ret;exact ⟨rfl,HB1.out⟩
theorem quB_pos (c:UInt8):1≤(quB c).size:=by
 unfold quB
 repeat' split
 all_goals (first|(show 1≤2;omega)|(show 1≤4;omega)|exact Nat.le_refl _)
theorem quK_ge (s:ByteArray):∀k,k≤(quK s k).size
 | 0=>Nat.zero_le _
 | k+1=>by
  have:=quK_ge s k;have:=quB_pos (s.data.getD k 0);unfold quK;rw[ByteArray.size_append]
  omega
theorem rQuote_any (s:ByteArray) (hl:(quD s).size≤140737488355328) (w:World) :
  Calls Tryz.prog 56 #[.string s] w fun e w'=>e = .returned (.string (quD s))∧Below w.heap.size w w':=by
 have HL:Hid ((quK s s.size).size+1≤140737488355328):=by
  show _≤_
  unfold quD at hl;rw[ByteArray.size_append] at hl;exact hl
 have hz:s.size<9223372036854775807:=by have:=quK_ge s s.size;have:=HL.out;omega
 have HQ0:Hid (quK s 0=⟨#[34]⟩):=rfl;clear hl
 go_enter Tryz.func56,Tryz.ntmps56
 go_wp2_with fail
 go_loopw [3,4] (fun o i wr=>∃k:Nat,k≤s.size∧o = .string (quK s k)∧i = .int .i64 (k:Int)∧Hid (Below w.heap.size w wr)) (fun _ i _=>s.size - (intOf i).toNat)
 case atStart=>exact ⟨0,by omega,by rw[HQ0.out],rfl,Below.refl _ _⟩
 case round =>
  obtain ⟨k,hk,rfl,rfl,hh⟩:=hrel;obtain ⟨wk,rfl⟩:∃wk:World,wk=wr:=⟨_,rfl⟩;have HB:=zh hh.out;clear hh
  by_cases hlt:k<s.size
  ·have HS1:=zh (quK_succ hlt)
   have h1:(0:Int)≤(k:Int):=by omega
   have h2:(k:Int)<(s.size:Int):=by omega
   have hsz:=quK_mono s (show k+1≤s.size by omega)
   rw[HS1.out,ByteArray.size_append] at hsz;have n1:¬ 9223372036854775807<(quK s k).size+(quB s[k]).size:=by have:=HL.out;omega
   have HCL:=zh (rQuoted_any s[k]);clear hsz;go_wp2_with fail;refine (HCL.out _).mono ?_;rintro e w2 ⟨rfl,hb2⟩;have HB2:=zh (zB HB.out hb2);clear hb2;go_wp2;go_roundw
   case rel=>exact ⟨k+1,by omega,by rw[HS1.out],by go_num,HB2.out⟩
   case measure=>simp[intOf];omega
  ·obtain rfl:k=s.size:=by omega
   have HD:Hid (quD s=quK s s.size++⟨#[34]⟩):=rfl;have n1:¬ 9223372036854775807<(quK s s.size).size+(⟨#[34]⟩:ByteArray).size:=by have:=HL.out;show ¬ _<_+1;omega
   have n2:¬ 9223372036854775807<(quK s s.size).size+1:=n1;go_wp2;go_ret;exact ⟨by rw[HD.out];rfl,HB.out⟩
def StrAt (w:World) (A:zo) (l:List ByteArray):Prop:=∀k (h:k<l.length),∃b o,A=some ⟨b,o,none⟩∧w.cell? ⟨b,o+k,none⟩=some (.string l[k])
theorem StrAt.below {w w':World} {A:zo} {l:List ByteArray} (h:StrAt w A l) (hb:Below w.heap.size w w'):StrAt w' A l:=fun k hk=>by
 obtain ⟨b,o,e,h1⟩:=h k hk;exact ⟨b,o,e,zA hb h1⟩
theorem rJoined_any (l:List ByteArray) (A:zo) (c:Nat) (hn:l.length≤140737488355328) (hl:(catL l).size≤140737488355328) (w:World) (hs:StrAt w A l) :
  Calls Tryz.prog 73 #[.slice A l.length c] w fun e w'=>e = .returned (.string (catL l))∧Below w.heap.size w w':=by
 have HL:=zh hl;have HS:=zh hs;obtain ⟨f,hf⟩:∃f:Nat→ByteArray,(fun i=>l.getD i ⟨#[]⟩)=f:=⟨_,rfl⟩
 have HC:Hid (catL l=catK f l.length):=by show _=_;rw[←hf];rfl
 have HP:Hid (∀k (h:k<l.length),catK f (k+1)=catK f k++(if k=0 then ⟨#[]⟩ else ⟨#[44,32]⟩)++l[k]):=fun k h=>by rw[←hf];exact catL_step h
 have HZ:Hid (∀k (h:k<l.length),(catK f k).size+(if k=0 then (⟨#[]⟩:ByteArray) else ⟨#[44,32]⟩).size+(l[k]).size≤140737488355328):=fun k h=>by have:=catL_part h;rw[←hf];omega
 have HQ0:Hid (catK f 0=⟨#[]⟩):=rfl;clear hl hs hf
 go_enter Tryz.func73,Tryz.ntmps73
 go_wp2_with fail
 go_loopw [3,4] (fun o i wr=>∃k:Nat,k≤l.length∧o = .string (catK f k)∧i = .int .i64 (k:Int)∧Hid (Below w.heap.size w wr)) (fun _ i _=>l.length - (intOf i).toNat)
 case atStart=>exact ⟨0,by omega,by rw[HQ0.out],rfl,Below.refl _ _⟩
 case round =>
  obtain ⟨k,hk,rfl,rfl,hh⟩:=hrel;obtain ⟨wk,rfl⟩:∃wk:World,wk=wr:=⟨_,rfl⟩;have HB:=zh hh.out;clear hh
  by_cases hlt:k<l.length
  ·obtain ⟨b,o,hA,hc⟩:=(HS.out.below HB.out) k hlt
   subst hA;have HP1:=zh (HP.out k hlt);have HZ1:=zh (HZ.out k hlt);have h1:(0:Int)≤(k:Int):=by omega
   have h2:(k:Int)<(l.length:Int):=by omega
   generalize l[k]=y at *
   by_cases hk0:k=0
   ·have n1:¬ 9223372036854775807<(catK f k).size+y.size:=by have:=HZ1.out;rw[if_pos hk0] at this;change _+0+_≤_ at this;omega
    have HP2:Hid (catK f (k+1)=catK f k++y):=by show _=_;rw[HP1.out,if_pos hk0,app_nil]
    have q1:¬ (0:Int)<(k:Int):=by omega
    clear hk0;go_wp2;go_roundw
    case rel=>exact ⟨k+1,by omega,by rw[HP2.out],by go_num,HB.out⟩
    case measure=>simp[intOf];omega
   ·have hz:=HZ1.out
    rw[if_neg hk0] at hz
    change _+2+_≤_ at hz
    have n1:¬ 9223372036854775807<(catK f k).size+(⟨#[44,32]⟩:ByteArray).size:=by show ¬ _<_+2;omega
    have n2:¬ 9223372036854775807<(catK f k).size+2:=n1;have n3:¬ 9223372036854775807<(catK f k++⟨#[44,32]⟩:ByteArray).size+y.size:=by rw[zH];show ¬ _<_+2+_;omega
    have n4:¬ 9223372036854775807<(catK f k).size+2+y.size:=by omega
    have HP2:Hid (catK f (k+1)=catK f k++⟨#[44,32]⟩++y):=by show _=_;rw[HP1.out,if_neg hk0]
    have q1:(0:Int)<(k:Int):=by omega
    clear hk0 hz;go_wp2;go_roundw
    case rel=>exact ⟨k+1,by omega,by rw[HP2.out],by go_num,HB.out⟩
    case measure=>simp[intOf];omega
  ·obtain rfl:k=l.length:=by omega
   go_wp2
   go_ret
   exact ⟨by rw[HC.out];rfl,HB.out⟩
def TextAt (s:List TyD) (A:zo) (c:Nat) (n:Nat):Prop:=∀ (t:Int) (v:Val) (A1:zo) (c1:Nat) (A2:zo) (c2:Nat) (A3:zo) (c3:Nat) (w:World),
 fitF s false n t v=true→TysR w A s→ValR w v A1 A2 A3→Tab w→(litF s n t v).size≤1073741824 →
 Calls Tryz.prog 46 #[.agg #[.slice A s.length c],.int .i64 t,v.v A1 c1 A2 c2 A3 c3] w fun e w'=>e = .returned (.string (litF s n t v))∧Below w.heap.size w w'
def TextK (s:List TyD) (A:zo) (c:Nat) (n:Nat) (k:Int):Prop:=∀ (tn:Nat) (htn:tn<s.length) (v:Val) (A1:zo) (c1:Nat) (A2:zo) (c2:Nat) (A3:zo) (c3:Nat) (w:World),
 (s[tn]).kind=k→fitB (fitF s false n) false s[tn] v=true→TysR w A s→ValR w v A1 A2 A3→Tab w→(litB (litF s n) s[tn] v).size≤1073741824 →
 Calls Tryz.prog 46 #[.agg #[.slice A s.length c],.int .i64 (tn:Int),v.v A1 c1 A2 c2 A3 c3] w fun e w'=>e = .returned (.string (litB (litF s n) s[tn] v))∧Below w.heap.size w w'
theorem elem_one (x:ByteArray):∀u∈([.string x]:List Value),u.oneCell'=true:=by simp[Value.oneCell']
theorem rtext_1 {s:List TyD} {A:zo} {c n:Nat} (hn:Num64 s) (_ih:TextAt s A c n):TextK s A c n 1:=by
 intro tn htn v A1 c1 A2 c2 A3 c3 w e hf hs hr htb hz
 have hln:=hs.1.lt (by omega)
 obtain ⟨HB0,H5,H7⟩:=zy w (.cells #[.slice A s.length c] 31) (v.box A1 c1 A2 c2 A3 c3);have HIH:=zh _ih;have HS:=zh hs;have HR:=zh hr;have HTB:=zh htb;have HXN:=zh (hn _ (List.getElem_mem htn));obtain ⟨L,hL⟩:∃L,litB (litF s n) s[tn] v=L:=⟨_,rfl⟩;rw[hL] at hz ⊢;obtain ⟨b,o,As,cs,Am,cm,hA,htr,t0,t1,t2,t3,t4,t5,t6,t7,t8,t9⟩:=(hs.below HB0.out).at10 htn;clear hs hr htb _ih hn;subst hA
 generalize s[tn]=x at *;have HL0:Hid (L=litB (litF s n) x v):=hL.symm;have HSZ:=zh hz;have HTR:=zh htr;have HFB:=zh hf;have HK:=zh e;clear hL hz htr hf e;have h1:(0:Int)≤(tn:Int):=by omega
 have h2:(tn:Int)<(s.length:Int):=by omega
 go_enter Tryz.func46,Tryz.ntmps46
 go_upto_region 1 with fail
 generalize (w.alloc (.cells #[.slice (some ⟨b,o,none⟩) s.length c] 31)).alloc (v.box A1 c1 A2 c2 A3 c3)=W2 at *;have x0:=zb H5.out;go_upto_region 2 with fail
 clear t0 t1 t2 t3 t4 t5 t6 t7 t8 t9 x0;have HBX:=zh (zD W2 (x.box As cs Am cm));have HT4:Hid (TBox (W2.alloc (x.box As cs Am cm)) W2.heap.size x As cs Am cm):=heap_alloc_new W2 _;have H54:=zh (zE H5.out HBX.out);have H74:=zh (zE H7.out HBX.out);have HB4:=zh (zB HB0.out HBX.out);have HTR4:=zh (HTR.out.below HBX.out);generalize W2.alloc (x.box As cs Am cm)=w4 at *;generalize W2.heap.size=p7 at *
 clear H5 H7 HTR HBX HB0;have q1:=zk1 HK.out;obtain ⟨v0,v1,v2,v3,v4,v5,v6,v7⟩:=zF H74.out;obtain ⟨b0,b1,b2,b3,b4,b5,b6,b7,b8,b9⟩:=zG HT4.out;have x0:=zb H54.out;have HL1:=zh (HL0.out.trans (lit1 HK.out))
 cases hb:v.bool with
 | true =>
  have HL:Hid (L=⟨#[116,114,117,101]⟩):=by show _=_;rw[HL1.out,hb];rfl
  rw[hb] at v1;clear hb HL1;go_wp2;go_ret;exact ⟨by rw[HL.out];rfl,HB4.out⟩
 | false =>
  have HL:Hid (L=⟨#[102,97,108,115,101]⟩):=by show _=_;rw[HL1.out,hb];rfl
  rw[hb] at v1;clear hb HL1;go_wp2;go_ret;exact ⟨by rw[HL.out];rfl,HB4.out⟩
theorem rtext_2 {s:List TyD} {A:zo} {c n:Nat} (hn:Num64 s) (_ih:TextAt s A c n):TextK s A c n 2:=by
 intro tn htn v A1 c1 A2 c2 A3 c3 w e hf hs hr htb hz
 have hln:=hs.1.lt (by omega)
 obtain ⟨HB0,H5,H7⟩:=zy w (.cells #[.slice A s.length c] 31) (v.box A1 c1 A2 c2 A3 c3);have HIH:=zh _ih;have HS:=zh hs;have HR:=zh hr;have HTB:=zh htb;have HXN:=zh (hn _ (List.getElem_mem htn));obtain ⟨L,hL⟩:∃L,litB (litF s n) s[tn] v=L:=⟨_,rfl⟩;rw[hL] at hz ⊢;obtain ⟨b,o,As,cs,Am,cm,hA,htr,t0,t1,t2,t3,t4,t5,t6,t7,t8,t9⟩:=(hs.below HB0.out).at10 htn;clear hs hr htb _ih hn;subst hA
 generalize s[tn]=x at *;have HL0:Hid (L=litB (litF s n) x v):=hL.symm;have HSZ:=zh hz;have HTR:=zh htr;have HFB:=zh hf;have HK:=zh e;clear hL hz htr hf e;have h1:(0:Int)≤(tn:Int):=by omega
 have h2:(tn:Int)<(s.length:Int):=by omega
 go_enter Tryz.func46,Tryz.ntmps46
 go_upto_region 1 with fail
 generalize (w.alloc (.cells #[.slice (some ⟨b,o,none⟩) s.length c] 31)).alloc (v.box A1 c1 A2 c2 A3 c3)=W2 at *;have x0:=zb H5.out;go_upto_region 2 with fail
 clear t0 t1 t2 t3 t4 t5 t6 t7 t8 t9 x0;have HBX:=zh (zD W2 (x.box As cs Am cm));have HT4:Hid (TBox (W2.alloc (x.box As cs Am cm)) W2.heap.size x As cs Am cm):=heap_alloc_new W2 _;have H54:=zh (zE H5.out HBX.out);have H74:=zh (zE H7.out HBX.out);have HB4:=zh (zB HB0.out HBX.out);have HTR4:=zh (HTR.out.below HBX.out);generalize W2.alloc (x.box As cs Am cm)=w4 at *;generalize W2.heap.size=p7 at *
 clear H5 H7 HTR HBX HB0;obtain ⟨q1,q2⟩:=zk2 HK.out;obtain ⟨v0,v1,v2,v3,v4,v5,v6,v7⟩:=zF H74.out;obtain ⟨b0,b1,b2,b3,b4,b5,b6,b7,b8,b9⟩:=zG HT4.out;have x0:=zb H54.out;have HL:=zh (HL0.out.trans (lit2 HK.out));have HI:Hid (In64 v.int):=by have:=fit2 HK.out HFB.out;have:=HXN.out;unfold In64 at *;show _∧_;omega
 go_wp2_with fail
 refine (fmt_any v.int HI.out _ (HTB.out.below HB4.out)).mono ?_;rintro e w5 ⟨rfl,hb5⟩;have HB5:=zh (zB HB4.out hb5);clear hb5;go_wp2;go_ret;exact ⟨by rw[HL.out];rfl,HB5.out⟩
theorem rtext_3 {s:List TyD} {A:zo} {c n:Nat} (hn:Num64 s) (_ih:TextAt s A c n):TextK s A c n 3:=by
 intro tn htn v A1 c1 A2 c2 A3 c3 w e hf hs hr htb hz
 have hln:=hs.1.lt (by omega)
 obtain ⟨HB0,H5,H7⟩:=zy w (.cells #[.slice A s.length c] 31) (v.box A1 c1 A2 c2 A3 c3);have HIH:=zh _ih;have HS:=zh hs;have HR:=zh hr;have HTB:=zh htb;have HXN:=zh (hn _ (List.getElem_mem htn));obtain ⟨L,hL⟩:∃L,litB (litF s n) s[tn] v=L:=⟨_,rfl⟩;rw[hL] at hz ⊢;obtain ⟨b,o,As,cs,Am,cm,hA,htr,t0,t1,t2,t3,t4,t5,t6,t7,t8,t9⟩:=(hs.below HB0.out).at10 htn;clear hs hr htb _ih hn;subst hA
 generalize s[tn]=x at *;have HL0:Hid (L=litB (litF s n) x v):=hL.symm;have HSZ:=zh hz;have HTR:=zh htr;have HFB:=zh hf;have HK:=zh e;clear hL hz htr hf e;have h1:(0:Int)≤(tn:Int):=by omega
 have h2:(tn:Int)<(s.length:Int):=by omega
 go_enter Tryz.func46,Tryz.ntmps46
 go_upto_region 1 with fail
 generalize (w.alloc (.cells #[.slice (some ⟨b,o,none⟩) s.length c] 31)).alloc (v.box A1 c1 A2 c2 A3 c3)=W2 at *;have x0:=zb H5.out;go_upto_region 2 with fail
 clear t0 t1 t2 t3 t4 t5 t6 t7 t8 t9 x0;have HBX:=zh (zD W2 (x.box As cs Am cm));have HT4:Hid (TBox (W2.alloc (x.box As cs Am cm)) W2.heap.size x As cs Am cm):=heap_alloc_new W2 _;have H54:=zh (zE H5.out HBX.out);have H74:=zh (zE H7.out HBX.out);have HB4:=zh (zB HB0.out HBX.out);have HTR4:=zh (HTR.out.below HBX.out);generalize W2.alloc (x.box As cs Am cm)=w4 at *;generalize W2.heap.size=p7 at *
 clear H5 H7 HTR HBX HB0;obtain ⟨q1,q2,q3⟩:=zk3 HK.out;obtain ⟨v0,v1,v2,v3,v4,v5,v6,v7⟩:=zF H74.out;obtain ⟨b0,b1,b2,b3,b4,b5,b6,b7,b8,b9⟩:=zG HT4.out;have x0:=zb H54.out;have HL:=zh (HL0.out.trans (lit3 HK.out));have HZ:Hid ((quD v.str).size≤1073741824):=by have:=HSZ.out;rw[HL.out] at this;exact this
 go_wp2_with fail
 refine (rQuote_any v.str (by have:=HZ.out;omega) _).mono ?_
 rintro e w5 ⟨rfl,hb5⟩;have HB5:=zh (zB HB4.out hb5);clear hb5;go_wp2;go_ret;exact ⟨by rw[HL.out];rfl,HB5.out⟩
theorem rtext_4 {s:List TyD} {A:zo} {c n:Nat} (hn:Num64 s) (_ih:TextAt s A c n):TextK s A c n 4:=by
 intro tn htn v A1 c1 A2 c2 A3 c3 w e hf hs hr htb hz
 have hln:=hs.1.lt (by omega)
 obtain ⟨HB0,H5,H7⟩:=zy w (.cells #[.slice A s.length c] 31) (v.box A1 c1 A2 c2 A3 c3);have HIH:=zh _ih;have HS:=zh hs;have HR:=zh hr;have HTB:=zh htb;have HXN:=zh (hn _ (List.getElem_mem htn));obtain ⟨L,hL⟩:∃L,litB (litF s n) s[tn] v=L:=⟨_,rfl⟩;rw[hL] at hz ⊢;obtain ⟨b,o,As,cs,Am,cm,hA,htr,t0,t1,t2,t3,t4,t5,t6,t7,t8,t9⟩:=(hs.below HB0.out).at10 htn;clear hs hr htb _ih hn;subst hA
 generalize s[tn]=x at *;have HL0:Hid (L=litB (litF s n) x v):=hL.symm;have HSZ:=zh hz;have HTR:=zh htr;have HFB:=zh hf;have HK:=zh e;clear hL hz htr hf e;have h1:(0:Int)≤(tn:Int):=by omega
 have h2:(tn:Int)<(s.length:Int):=by omega
 go_enter Tryz.func46,Tryz.ntmps46
 go_upto_region 1 with fail
 generalize (w.alloc (.cells #[.slice (some ⟨b,o,none⟩) s.length c] 31)).alloc (v.box A1 c1 A2 c2 A3 c3)=W2 at *;have x0:=zb H5.out;go_upto_region 2 with fail
 clear t0 t1 t2 t3 t4 t5 t6 t7 t8 t9 x0;have HBX:=zh (zD W2 (x.box As cs Am cm));have HT4:Hid (TBox (W2.alloc (x.box As cs Am cm)) W2.heap.size x As cs Am cm):=heap_alloc_new W2 _;have H54:=zh (zE H5.out HBX.out);have H74:=zh (zE H7.out HBX.out);have HB4:=zh (zB HB0.out HBX.out);have HTR4:=zh (HTR.out.below HBX.out);generalize W2.alloc (x.box As cs Am cm)=w4 at *;generalize W2.heap.size=p7 at *
 clear H5 H7 HTR HBX HB0;obtain ⟨q1,q2,q3,q4⟩:=zk4 HK.out;obtain ⟨v0,v1,v2,v3,v4,v5,v6,v7⟩:=zF H74.out;obtain ⟨b0,b1,b2,b3,b4,b5,b6,b7,b8,b9⟩:=zG HT4.out;have x0:=zb H54.out;have HL1:=zh (HL0.out.trans (lit4 HK.out));have HF:=zh (fit4 HK.out HFB.out);obtain ⟨an,han⟩:∃an,(x.syms.any fun y=>decide (y.id=v.id))=an:=⟨_,rfl⟩
 have hcall:=rSym_any v.id x As cs Am cm w4 HTR4.out;rw[han] at hcall;have HCL:=zh hcall;have HAN:=zh han;clear hcall han;go_wp2_with fail;refine HCL.out.mono ?_;rintro e w5 ⟨r,rfl,hr5,hb5⟩;have HR5:=zh hr5;have HB5:=zh (zB HB4.out hb5);have HT5:=zh (HT4.out.below hb5);have H55:=zh (zE H54.out hb5);have H75:=zh (zE H74.out hb5);have HTR5:=zh (HTR4.out.below hb5);clear hb5 hr5 HCL
 clear v0 v1 v2 v3 v4 v5 v6 v7 b0 b1 b2 b3 b4 b5 b6 b7 b8 b9 x0;obtain ⟨v0,v1,v2,v3,v4,v5,v6,v7⟩:=zF H75.out;obtain ⟨b0,b1,b2,b3,b4,b5,b6,b7,b8,b9⟩:=zG HT5.out;have x0:=zb H55.out
 cases an with
 | true =>
  obtain ⟨k,hk,e1,e2⟩:=find_idx x.syms HAN.out;have HL:Hid (L=(x.syms[k]).name):=by show _=_;rw[HL1.out,e2]
  obtain rfl:r=(k:Int):=(HR5.out rfl).trans e1;obtain ⟨sb,so,hAs,_,a0,a1⟩:=HTR5.out.syms.at2 hk;subst hAs;have j1:(0:Int)≤(k:Int):=by omega
  have j2:(k:Int)<(x.syms.length:Int):=by omega
  clear e1 e2 a0;go_wp2;go_ret;exact ⟨by rw[HL.out];rfl,HB5.out⟩
 | false =>
  have HL:Hid (L=⟨#[64]⟩++decB v.id):=by show _=_;rw[HL1.out,find_no x.syms HAN.out]
  have HFR:Hid (freeD v.id=true):=by
   rcases HF.out with h|h
   ·rw[HAN.out] at h;cases h
   ·exact h.2
  have n1:¬ 9223372036854775807<(⟨#[64]⟩:ByteArray).size+(decB v.id).size:=by have:=decB_le (free_in HFR.out);show ¬ _<1+_;omega
  have n2:¬ 9223372036854775807<1+(decB v.id).size:=n1;go_wp2_with fail;refine (itoa_any v.id (free_in HFR.out) _ (HTB.out.below HB5.out)).mono ?_;rintro e w6 ⟨rfl,hb6⟩;have HB6:=zh (zB HB5.out hb6);clear hb6;go_wp2;go_ret;exact ⟨by rw[HL.out];rfl,HB6.out⟩
end Go.Proofs.YthkkllmmbefedaaGreatDoor


