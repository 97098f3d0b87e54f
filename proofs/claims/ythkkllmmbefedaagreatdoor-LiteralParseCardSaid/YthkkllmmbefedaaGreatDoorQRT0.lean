/-
  Walks: the reference's quoted, Quote.
-/
import Derived.Test.YthkkllmmbefedaaGreatDoorQGA10
import Derived.BigRegion
namespace Go.Proofs.YthkkllmmbefedaaGreatDoor
open Go.RowKit
set_option maxHeartbeats 16000000
set_option maxRecDepth 100000
theorem lM {ch:UInt8} (h:ch.toNat<128):Utf8.encode (ch.toNat:Int)=⟨#[ch]⟩:=by
 have key:∀n:Fin 128,Utf8.encode ((UInt8.ofNat n.1).toNat:Int)=⟨#[UInt8.ofNat n.1]⟩:=by decide +kernel
 have:=key ⟨ch.toNat,h⟩;rw[show UInt8.ofNat ch.toNat=ch by simp] at this
 exact this
theorem uS {m:Nat} (q:Nat) (h:q<16) (h':m<16):(⟨#[92,120]⟩:ByteArray)++(ByteArray.mk #[48,49,50,51,52,53,54,55,56,57,97,98,99,100,101,102]).extract q (q+1)++(ByteArray.mk #[48,49,50,51,52,53,54,55,56,57,97,98,99,100,101,102]).extract m (m+1)=⟨#[92,120,Cu q,Cu m]⟩:=by
 have key:∀n:Fin 16,(ByteArray.mk #[48,49,50,51,52,53,54,55,56,57,97,98,99,100,101,102]).extract n.1 (n.1+1)=⟨#[Cu n.1]⟩:=by decide +kernel
 rw[key ⟨q,h⟩,key ⟨m,h'⟩]
 rfl
theorem Gt (ch:UInt8) (w:World) :
  Calls Tryz.prog 90 #[.int .u8 ch.toNat] w fun e w'=>e = .returned (.string (KY ch))/\Below w.heap.size w w':=by
 have hch:ch.toNat<256:=ch.toNat_lt;have YX:Hid (KY ch=if ch.toNat=34\/ch.toNat=92 then ⟨#[92,ch]⟩ else if ch.toNat=10 then ⟨#[92,110]⟩ else if ch.toNat<32\/126<ch.toNat then ⟨#[92,120,Cu (ch.toNat / 16),Cu (ch.toNat % 16)]⟩ else ⟨#[ch]⟩):=rfl
 have rW:=zh (fun h=>lM (ch:=ch) h)
 have HCH:Hid (ByteArray.mk #[92,ch]=⟨#[92]⟩++⟨#[ch]⟩):=rfl;obtain ⟨r,hr⟩:∃r,ch.toNat=r:=⟨_,rfl⟩;generalize KY ch=Q at *;generalize hC2:ByteArray.mk #[92,ch]=C2 at *;generalize hC1:ByteArray.mk #[ch]=C1 at *;have hz1:C1.size=1:=by rw[<-hC1];rfl
 rw[hr] at YX rW hch;rw[hr];clear hr hC1 hC2;have u1:IntKind.i32.wrap (r:Int)=(r:Int):=by rw[IntKind.wrap_i32];omega
 go_enter Tryz.func90,Tryz.ntmps90
 by_cases c1:r=34\/r=92
 ·have HC:=zh (YX.out.trans (AAC c1))
  have HE:=zh (rW.out (by omega))
  have n1:¬ 9223372036854775807<(⟨#[92]⟩:ByteArray).size+(Utf8.encode (r:Int)).size:=by rw[HE.out,hz1];show ¬ _<1+1;omega
  have n2:¬ 9223372036854775807<1+(Utf8.encode (r:Int)).size:=n1;have HD:(¬ r=92/\r=34)\/r=92:=by omega
  generalize hen:Utf8.encode (r:Int)=EN at *;clear c1 YX rW
  rcases HD with ⟨pE,p34⟩|pE
  ·have q1:((r:Int)==92)=false:=by simp;omega
   have q2:((r:Int)==34)=true:=by simp[p34]
   clear pE p34;go_wp2;go_ret;exact ⟨by rw[HC.out,HCH.out,HE.out];rfl,Pd _ _⟩
  ·have q1:((r:Int)==92)=true:=by simp[pE]
   clear pE;go_wp2;go_ret;exact ⟨by rw[HC.out,HCH.out,HE.out];rfl,Pd _ _⟩
 ·have q1:((r:Int)==92)=false:=by simp;omega
  have q2:((r:Int)==34)=false:=by simp;omega
  have gY:=zh (YX.out.trans (Pe c1))
  by_cases c2:r=10
  ·have HC:=zh (gY.out.trans (AAC c2))
   have q3:((r:Int)==10)=true:=by simp[c2]
   clear c1 c2 YX gY rW;go_wp2;go_ret;exact ⟨by rw[HC.out];rfl,Pd _ _⟩
  ·have q3:((r:Int)==10)=false:=by simp;omega
   have mF:=zh (gY.out.trans (Pe c2))
   by_cases c3:r<32\/126<r
   ·have HC:=zh (mF.out.trans (AAC c3))
    have HD:(¬ (32:Int)<=(r:Int))\/((32:Int)<=(r:Int)/\¬ (r:Int)<=126):=by omega
    obtain ⟨q,hq⟩:∃q,q=r / 16:=⟨_,rfl⟩;obtain ⟨m,hm⟩:∃m,m=r % 16:=⟨_,rfl⟩;have xg:q<16:=by omega
    have xw:m<16:=by omega
    have ed1:(r:Int).tdiv 16=(q:Int):=by rw[hq];rfl
    have ed2:(r:Int) / 16=(q:Int):=by omega
    have em1:(r:Int).tmod 16=(m:Int):=by rw[hm];rfl
    have em2:(r:Int) % 16=(m:Int):=by omega
    have uq:IntKind.u8.wrap (q:Int)=(q:Int):=by rw[IntKind.wrap_u8];omega
    have um:IntKind.u8.wrap (m:Int)=(m:Int):=by rw[IntKind.wrap_u8];omega
    have uq1:IntKind.u8.wrap ((q:Int)+1)=(q:Int)+1:=by rw[IntKind.wrap_u8];omega
    have um1:IntKind.u8.wrap ((m:Int)+1)=(m:Int)+1:=by rw[IntKind.wrap_u8];omega
    have n5:¬ 9223372036854775807<2+(min (q+1) 16 - q):=by omega
    have n6:¬ 9223372036854775807<2+(min (q+1) 16 - q)+(min (m+1) 16 - m):=by omega
    have g1:(0:Int)<=(q:Int):=by omega
    have g2:(0:Int)<=(m:Int):=by omega
    have g3:(q:Int)<=(q:Int)+1:=by omega
    have g4:(m:Int)<=(m:Int)+1:=by omega
    have g5:(q:Int)+1<=16:=by omega
    have g6:(m:Int)+1<=16:=by omega
    rw[<-hq,<-hm] at HC;have wZ:=zh (And.intro xg xw);clear c1 c2 c3 YX gY mF rW hq hm
    rcases HD with p1|⟨p1,p2⟩
    ·go_upto_region 8 with fail
     refine wp_region_held_drew (S:=(fun w'=>Hid (Below w.heap.size w w'))) (by kernel_rfl) ?_ (fun AU=>?_)
     ·(try dsimp only);exact zC (Pd _ _) 1
     refine tL 0 ?_;refine tL 1 ?_;refine tL 2 ?_;refine tL 3 ?_;refine tL 4 ?_;refine tL 5 ?_;try simp only[ps]
     refine tL 6 ?_;refine tL 7 ?_;refine tL 8 ?_;refine tL 9 ?_;refine tL 10 ?_;refine tL 11 ?_;try simp only[ps]
     refine tL 12 ?_;refine tL 13 ?_;refine tL 14 ?_;refine tL 15 ?_;refine tL 16 ?_;refine wpAnyH_done (by kernel_rfl) ?_ _
     have JV:=AU;clear AU;go_wp2;go_ret;exact ⟨by rw[HC.out,<-uS q wZ.out.1 wZ.out.2];rfl,JV.out⟩
    ·go_upto_region 8 with fail
     refine wp_region_held_drew (S:=(fun w'=>Hid (Below w.heap.size w w'))) (by kernel_rfl) ?_ (fun AU=>?_)
     ·(try dsimp only);exact zC (Pd _ _) 1
     refine tL 0 ?_;try simp only[ps]
     refine tL 1 ?_;refine tL 2 ?_;refine tL 3 ?_;refine tL 4 ?_;refine tL 5 ?_;refine tL 6 ?_;try simp only[ps]
     refine tL 7 ?_;refine tL 8 ?_;refine tL 9 ?_;refine tL 10 ?_;refine tL 11 ?_;refine tL 12 ?_;try simp only[ps]
     refine tL 13 ?_;refine tL 14 ?_;refine tL 15 ?_;refine tL 16 ?_;refine wpAnyH_done (by kernel_rfl) ?_ _
     have JV:=AU;clear AU;go_wp2;go_ret;exact ⟨by rw[HC.out,<-uS q wZ.out.1 wZ.out.2];rfl,JV.out⟩
   ·have HC:=zh (mF.out.trans (Pe c3))
    have HE:=zh (rW.out (by omega))
    have p1:(32:Int)<=(r:Int):=by omega
    have p2:(r:Int)<=126:=by omega
    generalize hen:Utf8.encode (r:Int)=EN at *;clear c1 c2 c3 YX gY mF rW;go_wp2;go_ret;exact ⟨by rw[HC.out,<-HE.out];rfl,Pd _ _⟩
end Go.Proofs.YthkkllmmbefedaaGreatDoor



