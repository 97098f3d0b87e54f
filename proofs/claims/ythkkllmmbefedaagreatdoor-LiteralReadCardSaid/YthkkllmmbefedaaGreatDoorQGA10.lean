/-
  No string of a value is too long; what size computes: plain Lean.
-/
import Derived.Test.YthkkllmmbefedaaGreatDoorQGA9
import Derived.Test.YthkkllmmbefedaaGreatDoorShelfB
import Derived.Test.YthkkllmmbefedaaGreatDoorQGA3
import Derived.Test.YthkkllmmbefedaaGreatDoorQGA7
import Derived.Test.YthkkllmmbefedaaGreatDoorQGA8
import Derived.Test.YthkkllmmbefedaaGreatDoorQGA6
import Derived.Test.YthkkllmmbefedaaGreatDoorQGA5
import Derived.Test.YthkkllmmbefedaaGreatDoorQGA2
import Derived.Test.YthkkllmmbefedaaGreatDoorQGA1
import Derived.Shelf.Strings.BuilderK
namespace Go.Proofs.YthkkllmmbefedaaGreatDoor
open Go.RowKit
set_option maxHeartbeats 16000000
set_option maxRecDepth 100000
variable {B:Nat} {w w':World}
theorem M8 {b:Nat} {bs:List Value} (h:Lib.IsBuilderF 57 5 B b bs w) (hb:Below w.heap.size w w'):Lib.IsBuilderF 57 5 B b bs w':=by
 have hg:w.grownBy w' none:=⟨hb.os,hb.tape,hb.output,hb.size,fun k hk _=>hb.block k hk⟩
 have step:∀p,Lib.BuilderAtF 57 5 B b p bs w->Lib.BuilderAtF 57 5 B b p bs w':=fun p h=>by
  obtain ⟨hB,v,hbk,hown,hne⟩:=h;have hlt:=(zg.1 hbk).1;refine ⟨hB,v,(hb.block b hlt).trans hbk,?_,hne⟩
  rcases hv:v.ownBlock with _|g
  ·exact hown.kept hg (Or.inl hv)
  ·exact hown.kept hg (Or.inr (by rw[hv];simp))
 exact h.imp (step _) (step _)
def Ci (w:World) (B b:Nat) (s:ByteArray):Prop:=Lib.IsBuilderF 57 5 B b (Lib.strCells s) w
abbrev YS (b:Nat) (w w':World):Prop:=Lib.OthersKept 5 (some b) w w'
section
variable {w w':World} {B b:Nat} {s:ByteArray}
theorem Ci.below (h:Ci w B b s) (hb:Below w.heap.size w w'):Ci w' B b s:=M8 h hb
theorem Ci.new (w:World) (hB:B<=w.heap.size):Ci (w.alloc (.cells #[.pointer none,.slice none 0 0] 57)) B w.heap.size ⟨#[]⟩:=Lib.IsBuilderF.of (RN.new w hB)
theorem Ci.write (h:Ci w B b s) (x:ByteArray) (hl:s.size+x.size<=140737488355328) (hB:B<=w.heap.size) :
  Calls Tryz.prog 23 #[.pointer (some ⟨b,0,none⟩),.string x] w fun e w'=>e = .returned (.tuple #[.int .i64 x.size,.nilIface])/\Ci w' B b (s++x)/\Below B w w'/\YS b w w' :=
 (Any.Builder_WriteString_k YA Ut B b (Lib.strCells s) x w h (by rw[Lib.strCells_length];exact hl) hB).mono fun _ _ ⟨h1,h2,h3,h4⟩=>⟨h1,by rw[Lb] at h2;exact Or.inr h2,h3,h4⟩
theorem Ci.str (h:Ci w B b s) (hB:B<=w.heap.size) :
  Calls Tryz.prog 25 #[.pointer (some ⟨b,0,none⟩)] w fun e w'=>e = .returned (.string s)/\Below B w w':=by
 have h':Lib.IsBuilderF 57 5 B b (Lib.byteCells s.data.toList) w:=by rw[<-Lib.strCells_eq];exact h
 refine (Any.Builder_String_any_k Tryz.lays169 Tryz.Builder_Extra_169 B b s.data.toList w h' hB).mono fun _ _ ⟨h1,_,h3,_⟩=>⟨?_,h3⟩
 rw[h1]
end
variable {s:ByteArray}
theorem Ci.lt {b:Nat} (h:Ci w B b s):b<w.heap.size:=by
 rcases h with ⟨_,_,h,_⟩|⟨_,_,h,_⟩ <;> exact (zg.1 h).1
variable {k:Nat}
theorem YS.blk {b:Nat} {cs:Array Value} {t:TypeId} {fz:Nat×Nat} (h:YS b w w') (hk:w.heap[k]? = some (.cells cs t fz)) (hkb:k≠b) (ht:t≠5):w'.heap[k]? = some (.cells cs t fz) :=
 h k _ hk (fun e=>hkb (AAb e)) fun _ _ e=>by injection e with _ e2;exact ht e2
theorem kT:Go.Proofs.Lays.n167 Tryz.prog Vu:={ YA with
 f167:=Tryz.func69.trans (congrArg some (by kernel_rfl))
 t5:=Tryz.underlying5
 a5:=Tryz.isAgg5
 z5:=Tryz.sizeOf5
 v5:=Tryz.zeroValue5 }
def GU (c:UInt8):ByteArray:=⟨#[c]⟩
theorem RZ (c:UInt8):Lib.strCells (GU c)=[.int .u8 c.toNat]:=rfl
theorem Ci.byte {b:Nat} (h:Ci w B b s) (c:UInt8) (hl:s.size+1<=140737488355328) (hB:B<=w.heap.size):
  Calls Tryz.prog 69 #[.pointer (some ⟨b,0,none⟩),.int .u8 c.toNat] w fun e w'=>e = .returned .nilIface/\Ci w' B b (s++GU c)/\Below B w w'/\YS b w w' :=
 (Any.Builder_WriteByte_k kT Ut B b (Lib.strCells s) c.toNat w h (by rw[Lib.strCells_length];exact hl) hB).mono fun _ _ ⟨h1,h2,h3,h4⟩=>⟨h1,by rw[<-RZ,Lb] at h2;exact Or.inr h2,h3,h4⟩
theorem Qx {b:Nat} (h:Ci w B b s) (i:Nat) (hl:s.size+(if i=0 then (⟨#[]⟩:ByteArray) else ⟨#[44,32]⟩).size<=140737488355328) (hB:B<=w.heap.size):
  Calls Tryz.prog 70 #[.pointer (some ⟨b,0,none⟩),.int .i64 i] w fun e w'=>e = .returned (.tuple #[])/\Ci w' B b (s++(if i=0 then ⟨#[]⟩ else ⟨#[44,32]⟩))/\Below B w w'/\YS b w w':=by
 have H:=zh h;have HG:=zh hB;have hlt:=h.lt
 by_cases hi:i=0
 ·subst hi
  clear h hl
  go_enter Tryz.func70,Tryz.ntmps70
  go_wp2
  refine bodyPost_end (results_none (by rfl) _ _ _) rfl ⟨rfl,?_,Pd _ _,fun _ _ h _ _=>h⟩
  show Ci w B b (s++ByteArray.empty)
  rw[ByteArray.append_empty];exact H.out
 ·have HL:Hid (s.size+(⟨#[44,32]⟩:ByteArray).size<=140737488355328):=by rw[Pe hi] at hl;exact hl
  have p1:(0:Int)<(i:Int):=by omega
  rw[Pe hi];clear h hl hi
  go_enter Tryz.func70,Tryz.ntmps70
  go_wp2_with fail
  refine (H.out.write ⟨#[44,32]⟩ HL HG).mono ?_;rintro e w1 ⟨rfl,h1,h2,h3⟩;have H1:=zh h1;have H2:=zh h2;have H3:=zh h3;clear h1 h2 h3;go_wp2;refine bodyPost_end (results_none (by rfl) _ _ _) rfl ⟨rfl,H1.out,H2.out,H3.out⟩
theorem Uo (n:Nat) (h:n<16):(ByteArray.mk #[48,49,50,51,52,53,54,55,56,57,97,98,99,100,101,102]).data.getD n 0=Cu n:=by
 have:∀m:Fin 16,(ByteArray.mk #[48,49,50,51,52,53,54,55,56,57,97,98,99,100,101,102]).data.getD m.1 0=Cu m.1:=by decide
 exact this ⟨n,h⟩
theorem kY (n:Nat) (h:n<16) {h'}:(ByteArray.mk #[48,49,50,51,52,53,54,55,56,57,97,98,99,100,101,102])[n]'h'=Cu n:=by
 rw[<-Uo n h]
 show Array.getInternal _ n _=_
 rw[Array.getD_eq_getD_getElem?,Array.getElem?_eq_getElem (by exact h)]
 rfl
theorem cZ (h:k<s.size):Ns s (k+1)=Ns s k++KY s[k]:=by
 rw[Ns]
 congr 2
 show s.data.getD k 0=s.data[k]
 rw[Array.getD_eq_getD_getElem?,Array.getElem?_eq_getElem h];rfl
theorem YO (a:ByteArray) (x y:UInt8):a++GU x++GU y=a++(⟨#[x,y]⟩:ByteArray):=by
 rw[AAu];rfl
theorem ZA (s:ByteArray) (hl:(TG s).size<=140737488355328) (w:World) :
  Calls Tryz.prog 67 #[.string s] w fun e w'=>e = .returned (.string (TG s))/\Below w.heap.size w w':=by
 have HL:Hid ((Ns s s.size).size+1<=140737488355328):=by
  show _<=_
  unfold TG at hl;rw[AAa] at hl;exact hl
 have hz:s.size<9223372036854775807:=by
  have:∀k,k<=(Ns s k).size:=fun k=>by
   induction k with
   | zero=>exact Nat.zero_le _
   | succ k ih =>
    have:1<=(KY (s.data.getD k 0)).size:=by
     unfold KY
     repeat' split
     all_goals (first|(show 1<=2;omega)|(show 1<=4;omega)|exact AAQ _)
    unfold Ns;rw[AAa];omega
  have:=this s.size;have:=HL.out
  omega
 have HB0:=zh (zD w (.cells #[.pointer none,.slice none 0 0] 57));have IZ:=zh (Ci.new w (AAQ _));clear hl
 go_enter Tryz.func67,Tryz.ntmps67
 go_wp2_with fail
 have hs0:w.heap.size<(w.alloc (.cells #[.pointer none,.slice none 0 0] 57)).heap.size:=by simp
 generalize w.alloc (.cells #[.pointer none,.slice none 0 0] 57)=W1 at *;refine (IZ.out.byte 34 (by show 0+1<=_;omega) HB0.out.size).mono ?_
 rintro e w1 ⟨rfl,h1,h2,_⟩;have OU:Hid (Ci w1 w.heap.size w.heap.size (Ns s 0)):=by
  have e:(⟨#[]⟩:ByteArray)++GU 34=Ns s 0:=rfl;rw[e] at h1;exact h1
 have HB1:=zh (HB0.out.trans h2);clear h1 h2 hs0;go_wp2_with fail
 go_loopw [9] (fun i wr=>∃k:Nat,k<=s.size/\i = .int .i64 k/\Hid (Ci wr w.heap.size w.heap.size (Ns s k)/\Below w.heap.size w wr)) (fun i _=>s.size - (intOf i).toNat)
 case atStart=>exact ⟨0,by omega,rfl,OU.out,HB1.out⟩
 case round =>
  obtain ⟨k,hk,rfl,hh⟩:=hrel;have HN:=zh hh.out.1;have HB:=zh hh.out.2;clear hh
  by_cases hlt:k<s.size
  ·have Kg:=zh (cZ hlt)
   have HZ:Hid ((Ns s (k+1)).size+1<=140737488355328):=by
    have:=HL.out;have:=cu s (show k+1<=s.size by omega)
    show _<=_
    omega
   have h1:(0:Int)<=(k:Int):=by omega
   have h2:(k:Int)<(s.size:Int):=by omega
   go_upto_region 8 with fail
   generalize s[k]=ch at *;generalize hQ:Ns s k=Q at *;have hch:ch.toNat<256:=ch.toNat_lt;have HT:Hid (∀X,X=KY ch->Q++X=Ns s (k+1)):=fun X hX=>by rw[hX,Kg.out]
   have HZ2:Hid (∀X,X=KY ch->Q.size+X.size+1<=140737488355328):=fun X hX=>by
    have:=HZ.out;rw[<-HT.out X hX,AAa] at this;exact this
   have YX:Hid (KY ch=if ch.toNat=34\/ch.toNat=92 then ⟨#[92,ch]⟩ else if ch.toNat=10 then ⟨#[92,110]⟩ else if ch.toNat<32\/126<ch.toNat then ⟨#[92,120,Cu (ch.toNat / 16),Cu (ch.toNat % 16)]⟩ else ⟨#[ch]⟩):=rfl
   clear Kg HZ hQ
   by_cases c1:ch.toNat=34\/ch.toNat=92
   ·have HC:=zh (YX.out.trans (AAC c1))
    have HZ3:=zh (HZ2.out _ HC.out.symm);have HT3:=zh (HT.out _ HC.out.symm);have HD:(ch.toNat=34)\/(¬ ch.toNat=34/\ch.toNat=92):=by omega
    clear c1 HC HZ2 HT YX
    rcases HD with p34|⟨p34,pE⟩
    ·have q1:((ch.toNat:Int)==34)=true:=by simp[p34]
     clear p34;go_wp2_with fail;refine (HN.out.byte 92 (by have:=HZ3.out;rw[show (ByteArray.mk #[92,ch]).size=2 from rfl] at this;omega) HB.out.size).mono ?_
     rintro e w5 ⟨rfl,g1,g2,_⟩;have XQ:=zh g1;have BB:=zh (HB.out.trans g2);clear g1 g2;go_wp2_with fail;refine (XQ.out.byte ch (by have:=HZ3.out;rw[show (ByteArray.mk #[92,ch]).size=2 from rfl] at this;rw[AAa];show _+1+1<=_;omega) BB.out.size).mono ?_
     rintro e w6 ⟨rfl,g1,g2,_⟩;have VQ:=zh g1;have BA:=zh (BB.out.trans g2);clear g1 g2;have HF:Hid (Ci w6 w.heap.size w.heap.size (Ns s (k+1))):=by
      have h:=VQ.out
      show Ci _ _ _ _
      rw[YO,HT3.out] at h;exact h
     clear VQ;go_wp2;go_roundw
     case rel=>exact ⟨k+1,by omega,by go_num,HF.out,BA.out⟩
     case measure=>simp[intOf];omega
    ·have q1:((ch.toNat:Int)==34)=false:=by simp;omega
     have q2:((ch.toNat:Int)==92)=true:=by simp[pE]
     clear p34 pE;go_wp2_with fail;refine (HN.out.byte 92 (by have:=HZ3.out;rw[show (ByteArray.mk #[92,ch]).size=2 from rfl] at this;omega) HB.out.size).mono ?_
     rintro e w5 ⟨rfl,g1,g2,_⟩;have XQ:=zh g1;have BB:=zh (HB.out.trans g2);clear g1 g2;go_wp2_with fail;refine (XQ.out.byte ch (by have:=HZ3.out;rw[show (ByteArray.mk #[92,ch]).size=2 from rfl] at this;rw[AAa];show _+1+1<=_;omega) BB.out.size).mono ?_
     rintro e w6 ⟨rfl,g1,g2,_⟩;have VQ:=zh g1;have BA:=zh (BB.out.trans g2);clear g1 g2;have HF:Hid (Ci w6 w.heap.size w.heap.size (Ns s (k+1))):=by
      have h:=VQ.out
      show Ci _ _ _ _
      rw[YO,HT3.out] at h;exact h
     clear VQ;go_wp2;go_roundw
     case rel=>exact ⟨k+1,by omega,by go_num,HF.out,BA.out⟩
     case measure=>simp[intOf];omega
   ·have q1:((ch.toNat:Int)==34)=false:=by simp;omega
    have q2:((ch.toNat:Int)==92)=false:=by simp;omega
    have gY:=zh (YX.out.trans (Pe c1))
    by_cases c2:ch.toNat=10
    ·have HC:=zh (gY.out.trans (AAC c2))
     have HZ3:=zh (HZ2.out _ HC.out.symm);have HT3:=zh (HT.out _ HC.out.symm);have q3:((ch.toNat:Int)==10)=true:=by simp[c2]
     clear c1 c2 HC HZ2 HT YX gY;go_wp2_with fail;refine (HN.out.write ⟨#[92,110]⟩ (by have:=HZ3.out;omega) HB.out.size).mono ?_
     rintro e w5 ⟨rfl,g1,g2,_⟩;have XQ:=zh g1;have BB:=zh (HB.out.trans g2);clear g1 g2;have HF:Hid (Ci w5 w.heap.size w.heap.size (Ns s (k+1))):=by
      have h:=XQ.out
      show Ci _ _ _ _
      rw[HT3.out] at h;exact h
     clear XQ;go_wp2;go_roundw
     case rel=>exact ⟨k+1,by omega,by go_num,HF.out,BB.out⟩
     case measure=>simp[intOf];omega
    ·have q3:((ch.toNat:Int)==10)=false:=by simp;omega
     have mF:=zh (gY.out.trans (Pe c2))
     by_cases c3:ch.toNat<32\/126<ch.toNat
     ·have HC:=zh (mF.out.trans (AAC c3))
      have HZ3:=zh (HZ2.out _ HC.out.symm);have HT3:=zh (HT.out _ HC.out.symm);have HD:(ch.toNat:Int)<32\/(¬ (ch.toNat:Int)<32/\(126:Int)<(ch.toNat:Int)):=by omega
      clear c1 c2 c3 HC HZ2 HT YX gY mF
      rcases HD with p1|⟨p1,p2⟩
      ·go_wp2_with fail
       refine (HN.out.write ⟨#[92,120]⟩ (by have:=HZ3.out;rw[show (ByteArray.mk #[92,120,Cu (ch.toNat / 16),Cu (ch.toNat % 16)]).size=4 from rfl] at this;show _+2<=_;omega) HB.out.size).mono ?_
       rintro e w5 ⟨rfl,g1,g2,_⟩;have XQ:=zh g1;have BB:=zh (HB.out.trans g2);clear g1 g2;go_wp2_with fail;refine (XQ.out.byte _ (by have:=HZ3.out;rw[show (ByteArray.mk #[92,120,Cu (ch.toNat / 16),Cu (ch.toNat % 16)]).size=4 from rfl] at this;rw[AAa];show _+2+1<=_;omega) BB.out.size).mono ?_
       rintro e w6 ⟨rfl,g1,g2,_⟩;have VQ:=zh g1;have BA:=zh (BB.out.trans g2);clear g1 g2;go_wp2_with fail;refine (VQ.out.byte _ (by have:=HZ3.out;rw[show (ByteArray.mk #[92,120,Cu (ch.toNat / 16),Cu (ch.toNat % 16)]).size=4 from rfl] at this;rw[AAa,AAa];show _+2+1+1<=_;omega) BA.out.size).mono ?_
       rintro e w7 ⟨rfl,g1,g2,_⟩;have vW:=zh g1;have CJ:=zh (BA.out.trans g2);clear g1 g2;have HF:Hid (Ci w7 w.heap.size w.heap.size (Ns s (k+1))):=by
        have h:=vW.out
        show Ci _ _ _ _
        rw[kY _ (by omega),kY _ (by omega),show Q++(⟨#[92,120]⟩:ByteArray)++GU (Cu (ch.toNat / 16))++GU (Cu (ch.toNat % 16))=Q++(⟨#[92,120,Cu (ch.toNat / 16),Cu (ch.toNat % 16)]⟩:ByteArray) by rw[AAu,AAu];rfl,HT3.out] at h;exact h
       clear vW;go_wp2;go_roundw
       case rel=>exact ⟨k+1,by omega,by go_num,HF.out,CJ.out⟩
       case measure=>simp[intOf];omega
      ·go_wp2_with fail
       refine (HN.out.write ⟨#[92,120]⟩ (by have:=HZ3.out;rw[show (ByteArray.mk #[92,120,Cu (ch.toNat / 16),Cu (ch.toNat % 16)]).size=4 from rfl] at this;show _+2<=_;omega) HB.out.size).mono ?_
       rintro e w5 ⟨rfl,g1,g2,_⟩;have XQ:=zh g1;have BB:=zh (HB.out.trans g2);clear g1 g2;go_wp2_with fail;refine (XQ.out.byte _ (by have:=HZ3.out;rw[show (ByteArray.mk #[92,120,Cu (ch.toNat / 16),Cu (ch.toNat % 16)]).size=4 from rfl] at this;rw[AAa];show _+2+1<=_;omega) BB.out.size).mono ?_
       rintro e w6 ⟨rfl,g1,g2,_⟩;have VQ:=zh g1;have BA:=zh (BB.out.trans g2);clear g1 g2;go_wp2_with fail;refine (VQ.out.byte _ (by have:=HZ3.out;rw[show (ByteArray.mk #[92,120,Cu (ch.toNat / 16),Cu (ch.toNat % 16)]).size=4 from rfl] at this;rw[AAa,AAa];show _+2+1+1<=_;omega) BA.out.size).mono ?_
       rintro e w7 ⟨rfl,g1,g2,_⟩;have vW:=zh g1;have CJ:=zh (BA.out.trans g2);clear g1 g2;have HF:Hid (Ci w7 w.heap.size w.heap.size (Ns s (k+1))):=by
        have h:=vW.out
        show Ci _ _ _ _
        rw[kY _ (by omega),kY _ (by omega),show Q++(⟨#[92,120]⟩:ByteArray)++GU (Cu (ch.toNat / 16))++GU (Cu (ch.toNat % 16))=Q++(⟨#[92,120,Cu (ch.toNat / 16),Cu (ch.toNat % 16)]⟩:ByteArray) by rw[AAu,AAu];rfl,HT3.out] at h;exact h
       clear vW;go_wp2;go_roundw
       case rel=>exact ⟨k+1,by omega,by go_num,HF.out,CJ.out⟩
       case measure=>simp[intOf];omega
     ·have HC:=zh (mF.out.trans (Pe c3))
      have HZ3:=zh (HZ2.out _ HC.out.symm);have HT3:=zh (HT.out _ HC.out.symm);have p1:¬ (ch.toNat:Int)<32:=by omega
      have p2:¬ (126:Int)<(ch.toNat:Int):=by omega
      clear c1 c2 c3 HC HZ2 HT YX gY mF;go_wp2_with fail;refine (HN.out.byte ch (by have:=HZ3.out;rw[show (ByteArray.mk #[ch]).size=1 from rfl] at this;omega) HB.out.size).mono ?_
      rintro e w5 ⟨rfl,g1,g2,_⟩;have XQ:=zh g1;have BB:=zh (HB.out.trans g2);clear g1 g2;have HF:Hid (Ci w5 w.heap.size w.heap.size (Ns s (k+1))):=by
       have h:=XQ.out
       show Ci _ _ _ _
       rw[show Q++GU ch=Q++(⟨#[ch]⟩:ByteArray) from rfl,HT3.out] at h;exact h
      clear XQ;go_wp2;go_roundw
      case rel=>exact ⟨k+1,by omega,by go_num,HF.out,BB.out⟩
      case measure=>simp[intOf];omega
  ·obtain rfl:k=s.size:=by omega
   go_wp2_with fail
   refine (HN.out.byte 34 HL HB.out.size).mono ?_;rintro e w2 ⟨rfl,h1,h2,_⟩;have mI:Hid (Ci w2 w.heap.size w.heap.size (TG s)):=h1;have HB2:=zh (HB.out.trans h2);clear h1 h2;go_wp2_with fail;refine (mI.out.str HB2.out.size).mono ?_;rintro e w3 ⟨rfl,h3⟩;have HB3:=zh (HB2.out.trans h3);clear h3;go_wp2;go_ret;exact ⟨rfl,HB3.out⟩
theorem yD {b:Nat} (hb:Below w.heap.size w w'):YS b w w':=fun _ _ hk _ _=>zE hk hb
theorem IB {b:Nat} {w1 w2:World} (h:YS b w w1) (h':YS b w1 w2):YS b w w2:=fun k o hk h1 h2=>h' k o (h k o hk h1 h2) h1 h2
structure Iy (s:List AZ) (A:zo) (c:Nat) (x:AZ) (As:zo) (cs:Nat) (Am:zo) (cm:Nat) (v:Val) (A1:zo) (c1:Nat) (A2:zo) (c2:Nat) (A3:zo) (c3:Nat) (B b p5 p7 p8:Nat) (ws w:World) (T:ByteArray):Prop where
 Q0:Ci w B b T
 fr:Below B ws w
 ot:YS b ws w
 n5:p5≠b
 n7:p7≠b
 n8:p8≠b
 h5:w.heap[p5]? = some (.cells #[.slice A s.length c] 31)
 h7:w.heap[p7]? = some (v.box A1 c1 A2 c2 A3 c3)
 h8:w.heap[p8]? = some (x.box As cs Am cm)
 ge:B<=w.heap.size
section
variable {s:List AZ} {A:zo} {c:Nat} {x:AZ} {As:zo} {cs:Nat} {Am:zo} {cm:Nat} {v:Val} {A1:zo} {c1:Nat} {A2:zo} {c2:Nat} {A3:zo} {c3:Nat} {B b p5 p7 p8:Nat} {ws w w':World} {T T':ByteArray}
theorem Iy.step (h:Iy s A c x As cs Am cm v A1 c1 A2 c2 A3 c3 B b p5 p7 p8 ws w T) (h1:Ci w' B b T') (h2:Below B w w') (h3:YS b w w'):Iy s A c x As cs Am cm v A1 c1 A2 c2 A3 c3 B b p5 p7 p8 ws w' T' :=
 ⟨h1,h.fr.trans h2,IB h.ot h3,h.n5,h.n7,h.n8,h3.blk h.h5 h.n5 (by decide),h3.blk h.h7 h.n7 (by decide),h3.blk h.h8 h.n8 (by decide),Nat.le_trans h.ge h2.size⟩
theorem Iy.below (h:Iy s A c x As cs Am cm v A1 c1 A2 c2 A3 c3 B b p5 p7 p8 ws w T) (hb:Below w.heap.size w w'):Iy s A c x As cs Am cm v A1 c1 A2 c2 A3 c3 B b p5 p7 p8 ws w' T :=
 ⟨h.Q0.below hb,h.fr.trans (hb.mono h.ge),IB h.ot (yD hb),h.n5,h.n7,h.n8,zE h.h5 hb,zE h.h7 hb,zE h.h8 hb,Nat.le_trans h.ge hb.size⟩
theorem Iy.c5 (h:Iy s A c x As cs Am cm v A1 c1 A2 c2 A3 c3 B b p5 p7 p8 ws w T):w.cell? ⟨p5,0,none⟩=some (.slice A s.length c):=by rw[AAB _ _ _ _ _ _ h.h5];rfl
theorem Iy.fin (h:Iy s A c x As cs Am cm v A1 c1 A2 c2 A3 c3 B b p5 p7 p8 ws w T):Ci w B b T/\Below B ws w/\YS b ws w:=⟨h.Q0,h.fr,h.ot⟩
theorem Iy.up {w0:World} (h:Iy s A c x As cs Am cm v A1 c1 A2 c2 A3 c3 B b p5 p7 p8 ws w T) (hb:Below B w0 ws) (hg:w0.heap.size<=B):Below w0.heap.size w0 w:=(hb.trans h.fr).mono hg
end
def WriteAt (s:List AZ) (A:zo) (c:Nat) (n:Nat):Prop:=∀ (t:Int) (v:Val) (A1:zo) (c1:Nat) (A2:zo) (c2:Nat) (A3:zo) (c3:Nat) (w0 w:World) (B b:Nat) (T:ByteArray),
 AQ s false n t v=true->DV w0 A s->BO w0 v A1 A2 A3->iK w0->w0.heap.size<=B->Below B w0 w->B<=w.heap.size->Ci w B b T->T.size+(Ct s n t v).size<=140737488355328 ->
 Calls Tryz.prog 44 #[.pointer (some ⟨b,0,none⟩),.agg #[.slice A s.length c],.int .i64 t,v.v A1 c1 A2 c2 A3 c3] w fun e w'=>e = .returned (.tuple #[])/\Ci w' B b (T++Ct s n t v)/\Below B w w'/\YS b w w'
def XD (s:List AZ) (A:zo) (c:Nat) (n:Nat) (k:Int):Prop:=∀ (t:Int) (v:Val) (A1:zo) (c1:Nat) (A2:zo) (c2:Nat) (A3:zo) (c3:Nat) (w0 w:World) (B b:Nat) (T:ByteArray),
 (AR s t).kind=k->AQ s false (n+1) t v=true->DV w0 A s->BO w0 v A1 A2 A3->iK w0->w0.heap.size<=B->Below B w0 w->B<=w.heap.size->Ci w B b T->T.size+(Ct s (n+1) t v).size<=140737488355328 ->
 Calls Tryz.prog 44 #[.pointer (some ⟨b,0,none⟩),.agg #[.slice A s.length c],.int .i64 t,v.v A1 c1 A2 c2 A3 c3] w fun e w'=>e = .returned (.tuple #[])/\Ci w' B b (T++Ct s (n+1) t v)/\Below B w w'/\YS b w w'
theorem ZY {α:Type} {l:List α} (h:0<l.length):∃y r,l=y::r/\l[0]=y:=by
 cases l with
 | nil=>cases h
 | cons y r=>exact ⟨y,r,rfl,rfl⟩
section
variable {f:Int->Val->ByteArray} {x:AZ} {v:Val}
theorem ZX (e:x.kind=9) (h:0<v.items.length):O1 f x v=⟨#[115,111,109,101,40]⟩++f x.elem v.items[0]++⟨#[41]⟩:=by
 obtain ⟨y,r,h1,h2⟩:=ZY h;rw[h2,uJ e,h1]
end
structure LK where
 t:AZ
 As:zo
 cs:Nat
 Am:zo
 cm:Nat
def LK.cells (x:LK):List Value:=x.t.cs x.As x.cs x.Am x.cm
theorem iw (x:LK):∀u∈x.cells,u.oneCell'=true:=fun u hu=>by
 unfold LK.cells at hu;simp only[AAf,List.mem_nil_iff,or_false] at hu
 rcases hu with rfl|rfl|rfl|rfl|rfl|rfl|rfl|rfl|rfl|rfl <;> rfl
theorem Le {T E:TypeId} {size bytes:Nat} (hE:Elem T E size bytes) (w:World) (base:Nat) (ty:TypeId) (v:Value) (n:Nat) (xs:List Value) (h:w.ownsRow base E size v n xs) (b o m c:Nat) (news:List Value) (hl:news.length=m * size)
  (hnews:w.rangeAt b o news) (h1:∀u∈news,u.oneCell'=true) (hlen:n+m<=9223372036854775807) (hby:(n+m) * bytes<=140737488355328) (hb:base<=w.heap.size) :
  ∃v' w',(Builtin.append_ #[T,T] ty #[v,.slice (some ⟨b,o,none⟩) m c]).run Tryz.prog w = .ok v' w'/\w'.ownsRow base E size v' (n+m) (xs++news)/\w.grownBy w' v.ownBlock/\(v'.ownBlock=v.ownBlock\/v'.ownBlock=some w.heap.size):=by
 obtain ⟨z,Wi,hzs⟩:=hE.info;obtain ⟨i0,hi,hz0,hz1,hz2⟩:=info_parts Wi;obtain ⟨v',w',hr,h2,h3,_,h5⟩:=run_append_own_at (P:=Tryz.prog) w base T ty E i0 z size bytes hE.under hi hz0 hz1 hz2 hzs hE.pos v n xs h ⟨b,o,none⟩ m c news hl (fun j u hj=>by rw[Addr.add_mid];exact hnews j u hj) h1 (by unfold maxLen;omega) hby hb
 exact ⟨v',w',hr,h2,h3,h5⟩
theorem Pj {T E:TypeId} {size bytes:Nat} (hE:Elem T E size bytes) {ops:Array Oper} {op:Oper} {a:Act} {K:Act->World->Prop} {Q:Exit->Act->World->Prop} {El:Prop} (hgd:op.guard=none) (s x:Operand) (ho:op.op = .call { callee := .builtin .append,args:=#[s,x],argTypes:=#[T,T] }) (base:Nat) (v:Value) (n:Nat) (xs:List Value) (hs:a.eval s=v) (h:w.ownsRow base E size v n xs) (b o m c:Nat) (news:List Value) (hx:a.eval x = .slice (some ⟨b,o,none⟩) m c) (hl:news.length=m * size) (hnews:w.rangeAt b o news) (h1:∀u∈news,u.oneCell'=true) (hlen:n+m<=9223372036854775807) (hby:(n+m) * bytes<=140737488355328) (hb:base<=w.heap.size) (hk:∀v' w',w'.ownsRow base E size v' (n+m) (xs++news)->w.grownBy w' v.ownBlock->(v'.ownBlock=v.ownBlock\/v'.ownBlock=some w.heap.size)->K (a.put op.dst v') w'):if Region.wanted op (yielded ops a.tmps)=true then Oper.wp Tryz.prog op a w K Q else El:=by
 have hw:Region.wanted op (yielded ops a.tmps)=true:=by simp[Region.wanted,hgd]
 rw[AAC hw];obtain ⟨v',w',hr,h2,h3,h5⟩:=Le hE w base op.type v n xs h b o m c news hl hnews h1 hlen hby hb;unfold Oper.wp execOp;simp only[ho,resolve,invoke,builtin,Sem.run_bind,Sem.run_pure,Result.andThen_ok,List.map_toArray,ABB,List.map_nil,hs,hx,hr];exact hk v' w' h2 h3 h5
theorem lN:Elem 29 87 10 120:=⟨Tryz.underlying29,⟨.agg #[.int .i64 0,.string ⟨#[]⟩,.int .i64 0,.int .i64 0,.int .i64 0,.slice none 0 0,.slice none 0 0,.int .i64 0,.int .i64 0,.bool false],by kernel_rfl,rfl⟩,by omega⟩
theorem Xh:(Tryz.prog.info? 87).map (·.size)=some 10:=by kernel_rfl
theorem ai (t:AZ) (As:zo) (cs:Nat) (Am:zo) (cm:Nat):((t.cs As cs Am cm).toArray).all (·.oneCell')=true :=
 all_oneCell_toArray fun u hu=>by
  simp only[AAf,List.mem_nil_iff,or_false] at hu
  rcases hu with rfl|rfl|rfl|rfl|rfl|rfl|rfl|rfl|rfl|rfl <;> rfl
theorem Off.more {S S':Nat->Prop} {w1:World} {P:World->Prop} (h:Off S w P) (hs:∀q,q<w.heap.size->S' q->S q) (hk:∀q,q<w.heap.size->¬ S q->w1.heap[q]? = w.heap[q]?) (hz:w.heap.size<=w1.heap.size):Off S' w1 P :=
 fun w' hw=>h w' fun q hq hl=>(hw q (fun h'=>hq (hs q hl h')) (by omega)).trans (hk q hl hq)
theorem J9 (h:s.size<=100):Dc s:=by unfold Dc;omega
theorem iq (w:World) (L:List LK) (h:∀x∈L,Ic w x.t x.As x.Am) (hl:L.length<=1000):DV (w.alloc (.cells (L.flatMap LK.cells).toArray 87)) (some ⟨w.heap.size,0,none⟩) (L.map (·.t)):=by
 refine ⟨by unfold D9;rw[AAk];omega,fun _=>⟨_,_,rfl,fun i x hx=>?_⟩⟩
 rw[List.getElem?_map] at hx
 cases hL:L[i]? with
 | none=>rw[hL] at hx;cases hx
 | some y =>
  rw[hL] at hx;obtain rfl:y.t=x:=by simpa using hx
  refine ⟨y.cells,⟨y.As,y.cs,y.Am,y.cm,rfl,(h y (AAz hL)).below (zD _ _)⟩,?_⟩;exact Oh (enc:=LK.cells) (k:=10) (fun _=>rfl) (zR w _ _) hL
def lX (l:List AZ) (w:World) (e:Ending) (w':World):Prop:=∃A c,e = .returned (.agg #[.slice A l.length c])/\DV w' A l/\Below w.heap.size w w'
theorem OW {t:AZ} {Am:zo} (hn:Dc t.name) (hs:t.Ab=[]) (hm:Fv w Am t.AA):Ic w t none Am:=⟨hn,by rw[hs];exact Ae.nil _ _ _ _ _,hm⟩
theorem Dw {t:AZ} (hn:Dc t.name) (hs:t.Ab=[]) (hm:t.AA=[]):Ic w t none none:=⟨hn,by rw[hs];exact Ae.nil _ _ _ _ _,by rw[hm];exact Ae.nil _ _ _ _ _⟩
theorem V5 (n:Int) (w:World):Calls Tryz.prog 35 #[.int .i64 n] w fun e w'=>e = .returned (.bool (DR n))/\w=w':=by
 by_cases h1:n=4
 ·subst h1
  go_enter Tryz.func35,Tryz.ntmps35
  go_wp2
  go_ret
  exact ⟨rfl,rfl⟩
 by_cases h2:n=5
 ·subst h2
  go_enter Tryz.func35,Tryz.ntmps35
  go_wp2
  go_ret
  exact ⟨rfl,rfl⟩
 by_cases h3:n=6
 ·subst h3
  go_enter Tryz.func35,Tryz.ntmps35
  go_wp2
  go_ret
  exact ⟨rfl,rfl⟩
 have HL:=zh (show DR n=false by simp[DR,h1,h2,h3])
 have e1:(n==4)=false:=by simp[h1]
 have e2:(n==5)=false:=by simp[h2]
 have e3:(n==6)=false:=by simp[h3]
 clear h1 h2 h3
 go_enter Tryz.func35,Tryz.ntmps35
 go_wp2
 go_ret
 exact ⟨by rw[HL.out];rfl,rfl⟩
theorem Rs (n : Int) (w : World) : Calls Tryz.prog 64 #[.int .i64 n] w fun e w' => e = .returned (.bool (Bd n)) /\ w = w' := by
  by_cases h2 : 1 <= n <;> by_cases h3 : n <= 4
  all_goals
    (have HL := zh (show Bd n = _ by unfold Bd; simp only [h2, h3]; rfl)
     go_enter Tryz.func64, Tryz.ntmps64
     go_wp2
     go_ret
     exact ⟨by rw [HL.out]; rfl, rfl⟩)
def J3.At (p:J3) (cs:List Value):Prop:=(p.id<256/\p.type<256/\p.flag<256)/\cs=[.int .u8 p.id,.int .u8 p.type,.int .u8 p.flag]
def NJ (w:World) (A:zo) (l:List J3):Prop:=Ae 3 3 J3.At w A l
variable {A:zo}
theorem NJ.below {l:List J3} (h:NJ w A l) (hb:Below w.heap.size w w'):NJ w' A l:=Ae.imp h (fun _ _ _ h=>h) hb
abbrev Aa.v (x:Aa) (A:zo) (c:Nat):Value := .agg #[.int .u8 x.kind,.int .u8 x.a,.int .u8 x.b,.int .u8 x.c,.slice A x.parts.length c]
abbrev Aa.cs (x:Aa) (A:zo) (c:Nat):List Value:=[.int .u8 x.kind,.int .u8 x.a,.int .u8 x.b,.int .u8 x.c,.slice A x.parts.length c]
structure Ni (w:World) (x:Aa) (A:zo):Prop where
 kind:x.kind<256
 a:x.a<256
 b:x.b<256
 c:x.c<256
 parts:NJ w A x.parts
variable {x:Aa}
theorem Ni.below (h:Ni w x A) (hb:Below w.heap.size w w'):Ni w' x A:=⟨h.kind,h.a,h.b,h.c,h.parts.below hb⟩
def Aa.At (w:World) (x:Aa) (cs:List Value):Prop:=∃A c,cs=x.cs A c/\Ni w x A
theorem Aa.FQ (hb:Below w.heap.size w w') {cs:List Value}:x.At w cs->x.At w' cs:=fun ⟨A,c,e,h⟩=>⟨A,c,e,h.below hb⟩
def BR (w:World) (A:zo) (d:List Aa):Prop:=Ae 5 32 (Aa.At w) w A d
theorem BR.below {l:List Aa} (h:BR w A l) (hb:Below w.heap.size w w'):BR w' A l:=Ae.imp h (fun _ _ _=>Aa.FQ hb) hb
abbrev DU (A:zo) (n c:Nat):Value := .agg #[.slice A n c]
variable {d:List Aa} {i:Nat}
theorem BR.Wy (h:BR w A d) (hi:i<d.length):∃b o A' c',A=some ⟨b,o,none⟩/\Ni w (d.getD i Dx) A' /\
  w.cell? ⟨b,o+i * 5,none⟩=some (.int .u8 (d.getD i Dx).kind)/\w.cell? ⟨b,o+i * 5+1,none⟩=some (.int .u8 (d.getD i Dx).a)/\w.cell? ⟨b,o+i * 5+2,none⟩=some (.int .u8 (d.getD i Dx).b)/\w.cell? ⟨b,o+i * 5+3,none⟩=some (.int .u8 (d.getD i Dx).c)/\w.cell? ⟨b,o+i * 5+4,none⟩=some (.slice A' (d.getD i Dx).parts.length c'):=by
 obtain ⟨b,o,cs,e,⟨A',c',rfl,hr⟩,h2⟩:=Ae.at_ h hi;have eg:d.getD i Dx=d[i]:=by rw[AAi,zl hi];rfl
 rw[eg];exact ⟨b,o,A',c',e,hr,h2 0 _ rfl,h2 1 _ rfl,h2 2 _ rfl,h2 3 _ rfl,h2 4 _ rfl⟩
theorem NJ.at3 {d:List J3} (h:NJ w A d) (hi:i<d.length):∃b o,A=some ⟨b,o,none⟩/\(d[i].id<256/\d[i].type<256/\d[i].flag<256) /\
  w.cell? ⟨b,o+i * 3,none⟩=some (.int .u8 d[i].id)/\w.cell? ⟨b,o+i * 3+1,none⟩=some (.int .u8 d[i].type)/\w.cell? ⟨b,o+i * 3+2,none⟩=some (.int .u8 d[i].flag):=by
 obtain ⟨b,o,cs,e,⟨h1,rfl⟩,h2⟩:=Ae.at_ h hi;exact ⟨b,o,e,h1,h2 0 _ rfl,h2 1 _ rfl,h2 2 _ rfl⟩
theorem dz (hi:i<d.length):BH d i=1+(d[i].kind:Int) % 9:=by
 unfold BH;rw[AAi,zl hi];simp
theorem Cc (d:List Aa) (i:Nat) (A:zo) (c:Nat) (w:World) (hd:BR w A d) (hi:i<d.length) :
  Calls Tryz.prog 34 #[DU A d.length c,.int .i64 i] w fun e w'=>e = .returned (.int .i64 (BH d i))/\Below w.heap.size w w':=by
 have hn:=hd.1.lt (by omega)
 obtain ⟨b,o,A',c',rfl,hr,c0,_,_,_,_⟩:=(hd.below (zD w (.cells #[.slice A d.length c] 24))).Wy hi;have h1:(0:Int)<=(i:Int):=by omega
 have h2:(i:Int)<(d.length:Int):=by omega
 have hk:=hr.kind
 go_enter Tryz.func34,Tryz.ntmps34
 go_wp2
 go_ret
 exact ⟨by rw[dz hi];rfl,zD _ _⟩
theorem O4 (n:Int) (w:World):Calls Tryz.prog 95 #[.int .i64 n] w fun e w'=>e = .returned (.bool (Iq n))/\w=w':=by
 go_enter Tryz.func95,Tryz.ntmps95
 go_wp2
 go_ret
 exact ⟨rfl,rfl⟩
structure LG (w0 w:World) (A:zo) (d:List Aa) (c:Nat):Prop where
 lt:w0.heap.size<w.heap.size
 cell:w.cell? ⟨w0.heap.size,0,none⟩=some (.slice A d.length c)
 nodes:BR w A d
 below:Below w0.heap.size w0 w
theorem LG.step {w0:World} {c:Nat} (h:LG w0 w A d c) (hb:Below w.heap.size w w'):LG w0 w' A d c :=
 ⟨AAt h.lt hb.size,zA hb h.cell,h.nodes.below hb,zB h.below hb⟩
theorem LG.new {c:Nat} (h:BR w A d):LG w (w.alloc (.cells #[.slice A d.length c] 24)) A d c :=
 ⟨by simp,by rw[AAB _ _ _ _ _ _ (AAA w _)];rfl,h.below (zD _ _),zD _ _⟩
variable {n:Nat} {p:Nat->Bool}
theorem kr (hk:k<n) (hp:p k=true) (hno:∀j,j<k->p j=false):Wl n p=(k:Int):=by
 unfold Wl;have:(List.range n).find? p=some k:=by
  rw[List.find?_range_eq_some];exact ⟨hp,by simpa using hk,fun j hj=>by simp[hno j hj]⟩
 rw[this]
theorem kg (hno:∀j,j<n->p j=false):Wl n p = -1:=by
 unfold Wl;have:(List.range n).find? p=none:=by
  rw[List.find?_eq_none]
  intro x hx
  simp[hno x (by simpa using hx)]
 rw[this]
theorem Vn (d:List Aa) (i code:Nat) (A:zo) (c:Nat) (w:World) (hd:BR w A d) (hi:i<d.length) (hco:code<256) :
  Calls Tryz.prog 62 #[DU A d.length c,.int .i64 i,.int .u8 code] w fun e w'=>e = .returned (.int .i64 (DY d i code))/\Below w.heap.size w w':=by
 have hn:=hd.1.lt (by omega)
 have HB:=zh (LG.new (c:=c) hd);clear hd;obtain ⟨t,ht⟩:∃t:Nat,t=code % d.length:=⟨_,rfl⟩;have htl:t<d.length:=by rw[ht];exact Nat.mod_lt _ (by omega)
 have HT:=zh ht;have et:(code:Int) % (d.length:Int)=(t:Int):=by rw[ht];simp
 clear ht;have hpos:(0:Int)<(d.length:Int):=by omega
 go_enter Tryz.func62,Tryz.ntmps62
 go_wp2_with fail
 refine (Cc d t A c _ HB.out.nodes htl).mono ?_;rintro e w2 ⟨rfl,hb2⟩;replace HB:=zh (HB.out.step hb2);clear hb2;go_wp2_with fail;refine (O4 _ _).mono ?_;rintro e w3 ⟨rfl,rfl⟩
 cases hh:Iq (BH d t) with
 | true =>
  have HD:=zh (show DY d i code=(t:Int) by unfold DY;rw[<-HT.out,hh];rfl)
  go_wp2
  go_ret
  exact ⟨by rw[HD.out];rfl,HB.out.below⟩
 | false =>
  by_cases hti:t<i
  ·have HD:=zh (show DY d i code=(t:Int) by unfold DY;rw[<-HT.out,hh];simp[hti])
   go_wp2
   go_ret
   exact ⟨by rw[HD.out];rfl,HB.out.below⟩
  by_cases hi0:0<i
  ·have HD:=zh (show DY d i code=((t % i:Nat):Int) by unfold DY;rw[<-HT.out,hh];simp[hti,hi0])
   have hi1:(0:Int)<(i:Int):=by omega
   go_wp2
   go_ret
   exact ⟨by rw[HD.out];simp,HB.out.below⟩
  have HD:=zh (show DY d i code=Wl d.length fun k=>Iq (BH d k) by unfold DY;rw[<-HT.out,hh];simp[hti,hi0])
  have hi2:i=0:=by omega
  subst hi2;clear hti hi0 hh et;go_wp2
  go_loopw [9] (fun i wr=>∃k:Nat,k<=d.length/\i = .int .i64 k/\Hid ((∀j,j<k->Iq (BH d j)=false)/\LG w wr A d c)) (fun i _=>d.length - (intOf i).toNat)
  case atStart=>exact ⟨0,by omega,rfl,(fun j h=>absurd h (by omega)),HB.out⟩
  case round =>
   obtain ⟨k,hk,rfl,hq⟩:=hrel
   by_cases hlt:k<d.length
   ·have sc0:=hq.out.2.cell
    have hz:=hq.out.2.lt;go_wp2_with fail;refine (Cc d k A c _ hq.out.2.nodes hlt).mono ?_;rintro e w3 ⟨rfl,hb3⟩;have HB3:=zh (hq.out.2.step hb3);clear hb3;go_wp2_with fail;refine (O4 _ _).mono ?_;rintro e w4 ⟨rfl,rfl⟩
    cases hh:Iq (BH d k) with
    | true =>
     replace HD:=zh (HD.out.trans (kr hlt hh hq.out.1));clear hh;go_wp2;go_ret;exact ⟨by rw[HD.out];rfl,HB3.out.below⟩
    | false =>
     have HN:=zh hh;clear hh;go_wp2;go_roundw
     case rel =>
      refine ⟨k+1,by omega,by go_num,(fun j hj=>?_),HB3.out⟩
      by_cases e:j=k
      ·subst e;exact HN.out
      ·exact hq.out.1 j (by omega)
     case measure=>simp[intOf];omega
   ·replace HD:=zh (HD.out.trans (kg fun j hj=>hq.out.1 j (by omega)))
    go_wp2
    go_ret
    exact ⟨by rw[HD.out];rfl,hq.out.2.below⟩
theorem lF (hk:k<n) (hp:p k=true) (hno:∀j,j<k->p j=false):(List.range n).find? p=some k:=by
 rw[List.find?_range_eq_some];exact ⟨hp,by simpa using hk,fun j hj=>by simp[hno j hj]⟩
theorem fK (hno:∀j,j<n->p j=false):(List.range n).find? p=none:=by
 rw[List.find?_eq_none]
 intro x hx
 simp[hno x (by simpa using hx)]
theorem SI (d:List Aa) (code:Nat) (A:zo) (c:Nat) (w:World) (hd:BR w A d) (hco:code<256) :
  Calls Tryz.prog 40 #[DU A d.length c,.int .u8 code] w fun e w'=>e = .returned (.int .i64 (KZ d code))/\Below w.heap.size w w':=by
 have hn:=hd.1.lt (by omega)
 have HB:=zh (LG.new (c:=c) hd);clear hd
 go_enter Tryz.func40,Tryz.ntmps40
 go_wp2
 go_loopw [6] (fun i wr=>∃k:Nat,k<=d.length/\i = .int .i64 k/\Hid ((∀j,j<k->Bd (BH d ((code+j) % d.length))=false)/\LG w wr A d c)) (fun i _=>d.length - (intOf i).toNat)
 case atStart=>exact ⟨0,by omega,rfl,(fun j h=>absurd h (by omega)),HB.out⟩
 case round =>
  obtain ⟨k,hk,rfl,hq⟩:=hrel
  by_cases hlt:k<d.length
  ·have sc0:=hq.out.2.cell
   have hz:=hq.out.2.lt;have hpos:(0:Int)<(d.length:Int):=by omega
   obtain ⟨t,ht⟩:∃t:Nat,t=(code+k) % d.length:=⟨_,rfl⟩;have htl:t<d.length:=by rw[ht];exact Nat.mod_lt _ (by omega)
   have HT:=zh ht;have et:((code:Int)+(k:Int)) % (d.length:Int)=(t:Int):=by rw[ht];simp
   clear ht;go_wp2_with fail;refine (Cc d t A c _ hq.out.2.nodes htl).mono ?_;rintro e w3 ⟨rfl,hb3⟩;have HB3:=zh (hq.out.2.step hb3);clear hb3;go_wp2_with fail;refine (Rs _ _).mono ?_;rintro e w4 ⟨rfl,rfl⟩
   cases hh:Bd (BH d t) with
   | true =>
    have HD:=zh (show KZ d code=(t:Int) by unfold KZ;rw[lF hlt (by rw[<-HT.out];exact hh) hq.out.1,HT.out])
    clear hh;go_wp2;go_ret;exact ⟨by rw[HD.out];rfl,HB3.out.below⟩
   | false =>
    have HN:=zh hh;clear hh;go_wp2;go_roundw
    case rel =>
     refine ⟨k+1,by omega,by go_num,(fun j hj=>?_),HB3.out⟩
     by_cases e:j=k
     ·subst e;rw[<-HT.out];exact HN.out
     ·exact hq.out.1 j (by omega)
    case measure=>simp[intOf];omega
  ·have HD:=zh (show KZ d code = -1 by unfold KZ;rw[fK fun j hj=>hq.out.1 j (by omega)])
   go_wp2
   go_ret
   exact ⟨by rw[HD.out];rfl,hq.out.2.below⟩
theorem OI (x:Aa) (A:zo) (c:Nat) (w:World) (ha:x.a<256) :
  Calls Tryz.prog 36 #[x.v A c] w fun e w'=>e = .returned (.int .i64 (K8 x))/\Below w.heap.size w w':=by
 have HD:=zh (show K8 x=(x.a:Int) % 7 - 3 by unfold K8;simp)
 go_enter Tryz.func36,Tryz.ntmps36
 go_wp2
 go_ret
 exact ⟨by rw[HD.out];rfl,zD _ _⟩
abbrev Aa.box (x:Aa) (A:zo) (c:Nat):Obj := .cells #[.int .u8 x.kind,.int .u8 x.a,.int .u8 x.b,.int .u8 x.c,.slice A x.parts.length c] 82
def G9 (W:World) (b:Nat) (x:Aa) (A:zo) (c:Nat):Prop:=W.heap[b]? = some (.cells #[.int .u8 x.kind,.int .u8 x.a,.int .u8 x.b,.int .u8 x.c,.slice A x.parts.length c] 82 (0,0))
variable {W:World}
theorem G9.cell {b:Nat} {c:Nat} (h:G9 W b x A c) (j:Nat):W.cell? ⟨b,j,none⟩=(#[.int .u8 x.kind,.int .u8 x.a,.int .u8 x.b,.int .u8 x.c,.slice A x.parts.length c]:Array Value)[j]? := AAB _ _ _ _ _ _ h
theorem G9.blt {b:Nat} {c:Nat} (h:G9 W b x A c):b<W.heap.size:=(zg.1 h).1
theorem G9.below {b:Nat} {c:Nat} (h:G9 W b x A c) (hb:Below W.heap.size W w'):G9 w' b x A c:=(hb.block b h.blt).trans h
theorem G9.new (w:World) (x:Aa) (A:zo) (c:Nat):G9 (w.alloc (x.box A c)) w.heap.size x A c:=AAA w (x.box A c)
theorem Ua {b:Nat} {c:Nat} {P:Prop} (h:G9 w' b x A c) (hp:P):(w'.cell? ⟨b,0,none⟩=some (.int .u8 x.kind)/\w'.cell? ⟨b,1,none⟩=some (.int .u8 x.a)/\w'.cell? ⟨b,2,none⟩=some (.int .u8 x.b)/\w'.cell? ⟨b,3,none⟩=some (.int .u8 x.c)/\w'.cell? ⟨b,4,none⟩=some (.slice A x.parts.length c))/\Hid (G9 w' b x A c/\P) :=
 ⟨⟨h.cell 0,h.cell 1,h.cell 2,h.cell 3,h.cell 4⟩,h,hp⟩
theorem pV (x:Aa):-3<=K8 x/\K8 x<=3:=by unfold K8;omega
theorem Zl (x:Aa):Kn x=IntKind.i64.wrap (K8 x+IntKind.i64.wrap ((x.b:Int).tmod 6)):=by
 have h1:(x.b:Int).tmod 6=((x.b % 6:Nat):Int):=rfl;have h2:=pV x;rw[h1,IntWalk.i64_in (((x.b % 6:Nat):Int)) (by omega),IntWalk.i64_in _ (by omega)]
 rfl
theorem Un (x:Aa) (A:zo) (c:Nat) (w:World) (ha:x.a<256) :
  Calls Tryz.prog 37 #[x.v A c] w fun e w'=>e = .returned (.int .i64 (Kn x))/\Below w.heap.size w w':=by
 have HD:=zh (Zl x);have HB0:=zh (zD w (x.box A c));have IZ:=zh (G9.new w x A c)
 go_enter Tryz.func37,Tryz.ntmps37
 go_wp2
 generalize w.alloc (x.box A c)=wc at *
 refine wp_region_held_drew (S:=(fun w'=>(w'.cell? ⟨w.heap.size,0,none⟩=some (.int .u8 x.kind)/\w'.cell? ⟨w.heap.size,1,none⟩=some (.int .u8 x.a)/\w'.cell? ⟨w.heap.size,2,none⟩=some (.int .u8 x.b)/\w'.cell? ⟨w.heap.size,3,none⟩=some (.int .u8 x.c)/\w'.cell? ⟨w.heap.size,4,none⟩=some (.slice A x.parts.length c))/\Hid (G9 w' w.heap.size x A c/\Below w.heap.size w w'))) (by kernel_rfl) ?_ (fun AU=>?_)
 ·(try dsimp only);exact Ua (IZ.out.below (zC (Pd _ _) 1)) (zC HB0 1)
 refine tL 0 ?_;refine tL 2 ?_;refine tL 3 ?_;refine tL 4 ?_;refine tL 5 ?_;refine tR 1 (fun K hK=>?_)
 go_simp
 (refine (OI x A c _ ha).mono ?_;rintro e w3 ⟨rfl,hbx⟩)
 refine hK.out _ _ ?_ (fun AU=>?_)
 ·(try dsimp only);exact Ua (AU.2.out.1.below hbx) (zB AU.2.out.2 hbx)
 clear hK K;try simp only[ps]
 refine tL 6 ?_;refine tL 7 ?_;refine wpAnyH_done (by kernel_rfl) ?_ _
 go_wp2
 go_ret
 exact ⟨by rw[HD.out];rfl,AU.2.out.2⟩
def Wv (x:Aa) (i:Nat):Bool:=(x.a >>> i) % 2==1
def Gx (x:Aa) (k:Nat):List Int:=((List.range k).filter (Wv x)).map fun i=>((i+1:Nat):Int)
theorem Wd (x:Aa) (k:Nat):Gx x (k+1)=if Wv x k then Gx x k++[((k+1:Nat):Int)] else Gx x k:=by
 unfold Gx;rw[List.range_succ,List.filter_append,List.map_append]
 cases h:Wv x k <;> simp[h]
theorem Qq (x:Aa) (k:Nat):(Gx x k).length<=k:=by
 unfold Gx;rw[AAk];exact Nat.le_trans (List.length_filter_le _ _) (by simp)
theorem YE (x:Aa):EB x=if Gx x 6=[] then [1] else Gx x 6:=rfl
theorem qO (x:Aa) (k:Nat):(((x.a:Int) / 2 ^ k).tmod 2==1)=Wv x k:=by
 have h:(x.a:Int) / 2 ^ k=((x.a / 2 ^ k:Nat):Int):=by simp
 rw[h];unfold Wv;rw[Nat.shiftRight_eq_div_pow];have:(((x.a / 2 ^ k:Nat):Int).tmod 2)=((x.a / 2 ^ k % 2:Nat):Int):=rfl;rw[this]
 rcases Nat.mod_two_eq_zero_or_one (x.a / 2 ^ k) with e|e <;> rw[e] <;> rfl
theorem Oi (x:Aa) (A:zo) (c:Nat) (w:World) (_:x.a<256) :
  Calls Tryz.prog 38 #[x.v A c] w fun e w'=>∃v,e = .returned v/\VG w' w.heap.size v (EB x)/\Below w.heap.size w w':=by
 have HB0:=zh (zD w (x.box A c));have IZ:=zh (G9.new w x A c)
 go_enter Tryz.func38,Tryz.ntmps38
 go_wp2
 generalize w.alloc (x.box A c)=wc at *
 go_loopw [3,4] (fun v i wr=>∃k:Nat,k<=6/\i = .int .i64 k/\Hid (VG wr wc.heap.size v (Gx x k)/\Below wc.heap.size wc wr)) (fun _ i _=>6 - (intOf i).toNat)
 case atStart=>exact ⟨0,by omega,rfl,Ak.nil _ _,Pd _ _⟩
 case round =>
  obtain ⟨k,hk,rfl,hh⟩:=hrel;obtain ⟨wo,rfl⟩:∃wo:World,wo=wr:=⟨_,rfl⟩;have hn0:=zA hh.out.2 (IZ.out.cell 1)
  by_cases hlt:k<6
  ·have h1:(0:Int)<=(k:Int):=by omega
   have CJ:=zh hh.out.2;have vT:=zh hh.out.1;have P8:=zh (Qq x k);have KV:=zh (Wd x k);have hbt:(((x.a:Int) / 2 ^ k).tmod 2==1)=Wv x k:=qO x k;clear hh
   cases hb:Wv x k with
   | true =>
    rw[hb] at hbt KV;clear hb;have JR:=zh (Ak.alloc vT (.cells #[.int .i64 ((k:Int)+1)] 3));have MR:Hid ((wo.alloc (.cells #[.int .i64 ((k:Int)+1)] 3)).rangeAt wo.heap.size 0 [.int .i64 ((k:Int)+1)]):=zR wo [.int .i64 ((k:Int)+1)] 3;have KS:Hid (wc.heap.size<=(wo.alloc (.cells #[.int .i64 ((k:Int)+1)] 3)).heap.size):=by have:=CJ.out.size;show _<=_;simp;omega
    go_wp2_with (at_builtin;refine yG U3 _ rfl (.tmp 15) (.tmp 18) rfl wc.heap.size _ _ _ rfl JR wo.heap.size 0 1 1 [.int .i64 ((k:Int)+1)] rfl rfl MR (by simp[Value.oneCell']) (by have:=P8.out;omega) (by have:=P8.out;omega) KS ?_;intro v8 w8 Bq Bp)
    go_roundw
    case rel=>exact ⟨k+1,by omega,by go_num,(by rw[KV.out];exact Ak.snoc (x:=(((k+1:Nat):Int))) Bq),(CJ.out.alloc CJ.out.size _).grown Bp KS JR.out.lt⟩
    case measure=>simp[intOf];omega
   | false =>
    rw[hb] at hbt KV;clear hb;go_wp2;go_roundw
    case rel=>exact ⟨k+1,by omega,by go_num,(by rw[KV.out];exact vT.out),CJ.out⟩
    case measure=>simp[intOf];omega
  ·have aM:k=6:=by omega
   subst aM;have CJ:=zh hh.out.2;have P8:=zh (Qq x 6);have HW:Hid (w.heap.size<=wc.heap.size):=HB0.out.size;obtain ⟨A7,c7,rfl,_⟩:=VG.ints hh.out.1 (by have:=P8.out;unfold D9;omega)
   have vT:=zh hh.out.1;clear hh hlt
   by_cases he:Gx x 6=[]
   ·have HI:=zh (show EB x=[1] by rw[YE,AAC he])
    have hel:(((Gx x 6).length:Int)==0)=true:=by rw[he];rfl
    have HE:=zh he;clear he;have JR:=zh (Ak.alloc vT (.cells #[.int .i64 1] 3));have MR:Hid ((wo.alloc (.cells #[.int .i64 1] 3)).rangeAt wo.heap.size 0 [.int .i64 1]):=zR wo [.int .i64 1] 3;have KS:Hid (wc.heap.size<=(wo.alloc (.cells #[.int .i64 1] 3)).heap.size):=by have:=CJ.out.size;show _<=_;simp;omega
    go_wp2_with (at_builtin;refine yG U3 _ rfl (.tmp 23) (.tmp 24) rfl wc.heap.size _ _ _ rfl JR wo.heap.size 0 1 1 [.int .i64 1] rfl rfl MR (by simp[Value.oneCell']) (by have:=P8.out;omega) (by have:=P8.out;omega) KS ?_;intro v8 w8 Bq Bp)
    go_ret
    refine ⟨_,rfl,?_,zB HB0 ((CJ.out.alloc CJ.out.size _).grown Bp KS JR.out.lt)⟩;have:=Ak.base (Ak.snoc (x:=(1:Int)) Bq) HW;rw[HE.out] at this;rw[HI.out];exact this
   ·have HI:=zh (show EB x=Gx x 6 by rw[YE,Pe he])
    have hel:(((Gx x 6).length:Int)==0)=false:=by
     have:(Gx x 6).length≠0:=fun e=>he (AAo e)
     simp;omega
    clear he;go_wp2;go_ret;refine ⟨_,rfl,?_,zB HB0 CJ⟩;rw[HI.out];exact Ak.base vT HW
def Nv (i:Nat):ByteArray:=⟨#[UInt8.ofNat (65+i)]⟩
def UZ (c:UInt8) (n:Nat):ByteArray:=⟨#[c,UInt8.ofNat (97+n)]⟩
theorem ah {a b:Nat} (ha:a<256) (hb:b<256) (h:UInt8.ofNat a=UInt8.ofNat b):a=b:=by
 have:=congrArg UInt8.toNat h;simp only[UInt8.toNat_ofNat'] at this
 omega
theorem kL {c:UInt8} {m:Nat} (hn:n<=20) (hm:m<=20) (h:UZ c n=UZ c m):n=m:=by
 unfold UZ at h
 injection h with h
 have h2:=congrArg Array.toList h;simp only[List.cons.injEq,true_and,and_true] at h2;have:=ah (by omega) (by omega) h2
 omega
theorem kK {m:Nat} (hn:n<=20) (hm:m<=20) (h:Nv n=Nv m):n=m:=by
 unfold Nv at h
 injection h with h
 have h2:=congrArg Array.toList h;simp only[List.cons.injEq,and_true] at h2;have:=ah (by omega) (by omega) h2
 omega
theorem pK (hn:n<=20):CV (Nv n)=true:=by
 have:∀m:Fin 21,CV (Nv m.1)=true:=by decide +kernel
 exact this ⟨n,by omega⟩
theorem pO {c:UInt8} (hc:c=109\/c=115) (hn:n<=20):CV (UZ c n)=true:=by
 have h1:∀m:Fin 21,CV (UZ 109 m.1)=true:=by decide +kernel
 have h2:∀m:Fin 21,CV (UZ 115 m.1)=true:=by decide +kernel
 rcases hc with rfl|rfl
 ·exact h1 ⟨n,by omega⟩
 ·exact h2 ⟨n,by omega⟩
theorem Ul {c:UInt8} (hc:c=109\/c=115):∀ (L:List (Int×ByteArray)) (b:Int) (seen:List ByteArray),0<=b->(L.map (·.1)).Pairwise (· < ·)->(∀x∈L,b<x.1/\x.1<=12/\x.2=UZ c x.1.toNat)->(∀x∈seen,∃i:Nat,(i:Int)<=b/\x=UZ c i)->b<=12->Nb b seen L=true
 | [],_,_,_,_,_,_,_=>rfl
 | x::L,b,seen,h0,hp,hx,hs,hb=>by
  obtain ⟨h1,h2,h3⟩:=hx x (AA9 ..);rw[ABB,List.pairwise_cons] at hp;rw[Nb];simp only[AAG,AAY];refine ⟨⟨⟨⟨⟨by omega,by omega⟩,h1⟩,?_⟩,?_⟩,?_⟩
  ·have:K6 x.2 seen=false:=by
    cases hm:K6 x.2 seen with
    | false=>rfl
    | true =>
     obtain ⟨j,hj,e⟩:=hs _ (dV.1 hm);rw[h3] at e;have:=kL (by omega) (by omega) e
     omega
   rw[this];rfl
  ·rw[h3];exact pO hc (by omega)
  ·refine Ul hc L x.1 _ (by omega) hp.2 (fun y hy=>?_) (fun y hy=>?_) h2
   ·have a:=hx y (ABA _ hy)
    have b:=hp.1 y.1 (List.mem_map_of_mem hy);exact ⟨b,a.2⟩
   ·rcases AAl.1 hy with k|k
    ·obtain ⟨j,hj,e⟩:=hs y k
     exact ⟨j,by omega,e⟩
    ·obtain rfl:y=x.2:=by simpa using k
     exact ⟨x.1.toNat,by omega,h3⟩
theorem MI:∀ (L:List Int) (b k:Int),L.Pairwise (· < ·)->(∀x∈L,b<x/\x<=k)->b<=k->(L.length:Int)<=k - b
 | [],b,k,_,_,h=>by simp;omega
 | x::L,b,k,hp,hx,h=>by
  rw[List.pairwise_cons] at hp;have a:=hx x (AA9 ..);have:=MI L x k hp.2 (fun y hy=>⟨hp.1 y hy,(hx y (ABA _ hy)).2⟩) (by omega)
  rw[AAS]
  omega
theorem YF {c:UInt8} (hc:c=109\/c=115) {L:List (Int×ByteArray)} (hp:(L.map (·.1)).Pairwise (· < ·)) (hx:∀x∈L,0<x.1/\x.1<=12/\x.2=UZ c x.1.toNat):SL L=true:=by
 unfold SL;rw[AAG];refine ⟨Ul hc L 0 [] (by omega) hp hx (fun x hx=>by cases hx) (by omega),?_⟩
 have:=MI (L.map (·.1)) 0 12 hp (fun y hy=>by obtain ⟨x,h1,rfl⟩:=List.mem_map.1 hy;exact ⟨(hx x h1).1,(hx x h1).2.1⟩) (by omega)
 rw[AAk] at this;exact AAM (by omega)
def He (rec:Bool) (n:Nat) (k:Int) (ms:List AY):Prop :=
 (ms.map (·.id)).Pairwise (· < ·)/\∀m∈ms,(0<m.id/\m.id<=k)/\m.name=UZ 109 m.id.toNat/\(0<=m.type/\m.type<(n:Int))/\Qi rec m=true
theorem He.nil (rec:Bool) (n:Nat) (k:Int):He rec n k []:=⟨List.Pairwise.nil,fun _ h=>by cases h⟩
variable {rec:Bool} {ms:List AY}
theorem He.mono {k k':Int} (h:He rec n k ms) (hk:k<=k'):He rec n k' ms :=
 ⟨h.1,fun m hm=>⟨⟨(h.2 m hm).1.1,Int.le_trans (h.2 m hm).1.2 hk⟩,(h.2 m hm).2⟩⟩
theorem He.snoc (h:He rec n k ms) {m:AY} (hi:m.id=((k+1:Nat):Int)) (hn:m.name=UZ 109 (k+1)) (ht:0<=m.type/\m.type<(n:Int)) (hm:Qi rec m=true):He rec n ((k+1:Nat):Int) (ms++[m]):=by
 refine ⟨?_,fun x hx=>?_⟩
 ·rw[List.map_append,List.pairwise_append]
  refine ⟨h.1,by simp,fun a ha b hb=>?_⟩
  obtain ⟨x,h1,rfl⟩:=List.mem_map.1 ha;obtain rfl:b=m.id:=by simpa using hb
  have:=(h.2 x h1).1
  omega
 ·rcases AAl.1 hx with a|a
  ·exact (h.mono (by omega)).2 x a
  ·obtain rfl:x=m:=by simpa using a
   exact ⟨by omega,by rw[hn,hi];rfl,ht,hm⟩
theorem He.len (h:He rec n 12 ms):ms.length<=12:=by
 have:=MI (ms.map (·.id)) 0 12 h.1 (fun y hy=>by obtain ⟨x,h1,rfl⟩:=List.mem_map.1 hy;exact (h.2 x h1).1) (by omega)
 rw[AAk] at this
 omega
theorem He.AA (h:He rec n 12 ms) (hne:rec=true\/ms≠[]):NV rec ms=true:=by
 unfold NV;rw[AAG,AAG];refine ⟨⟨AAq.2 fun m hm=>(h.2 m hm).2.2.2,YF (.inl rfl) ?_ fun x hx=>?_⟩,?_⟩
 ·rw[List.map_map];exact h.1
 ·obtain ⟨m,h1,rfl⟩:=List.mem_map.1 hx
  exact ⟨(h.2 m h1).1.1,(h.2 m h1).1.2,(h.2 m h1).2.1⟩
 ·rcases hne with e|e
  ·rw[e];rfl
  ·simp[e]
def Hy (x:Aa):List CB:=(EB x).map fun n=>⟨n,UZ 115 n.toNat⟩
theorem SK (x : Aa) : (EB x).Pairwise (· < ·) /\ (∀ n ∈ EB x, 0 < n /\ n <= 6) /\ EB x ≠ [] := by
  have h : ∀ p : Nat -> Bool, ((((List.range 6).filter p).map fun i => ((i + 1 : Nat) : Int)).Pairwise (· < ·)) /\ ∀ n ∈ ((List.range 6).filter p).map (fun i => ((i + 1 : Nat) : Int)), 0 < n /\ n <= 6 := fun p => by
    refine ⟨?_, fun n hn => ?_⟩
    · rw [List.pairwise_map]
      refine List.Pairwise.filter p (List.Pairwise.imp (fun h => ?_) List.pairwise_lt_range)
      omega
    · obtain ⟨i, h1, rfl⟩ := List.mem_map.1 hn
      have := List.mem_range.1 (List.mem_filter.1 h1).1
      omega
  unfold EB;simp only
  split
  · exact ⟨List.pairwise_singleton .., fun n hn => by obtain rfl : n = 1 := by simpa using hn
                                                      omega, by simp⟩
  · rename_i hne
    exact ⟨(h _).1, (h _).2, hne⟩
theorem bI (x:Aa):Xj (Hy x)=true:=by
 obtain ⟨h1,h2,h3⟩:=SK x;unfold Xj Hy;rw[AAG];refine ⟨YF (.inr rfl) ?_ fun y hy=>?_,by simpa using h3⟩
 ·rw[List.map_map,List.map_map]
  have:(EB x).map (((fun y:Int×ByteArray=>y.1)∘(fun s:CB=>(s.id,s.name)))∘fun n=>⟨n,UZ 115 n.toNat⟩)=EB x:=by
   simp[Function.comp_def]
  rw[this];exact h1
 ·rw[List.map_map] at hy
  obtain ⟨n,hn,rfl⟩:=List.mem_map.1 hy;have:=h2 n hn;exact ⟨this.1,by simp only[Function.comp];omega,rfl⟩
def Kv (x:Val):Prop:=(x.str.size<=1/\x.kind≠5/\x.kind≠6)/\x.keys=[]/\x.items=[]/\x.rest=[]
structure Nz (d:List Aa) (i:Nat) (t:AZ):Prop where
 form:GZ t=true
 name:t.name=if DR t.kind then Nv i else ⟨#[]⟩
 uses:∀u∈bF t,0<=u/\u<(d.length:Int)
 kind:Bd (BH d i)=true->t.kind=BH d i
 key:t.kind=8->Bd (BH d t.key.toNat)=true/\0<=t.key/\t.key<(d.length:Int)
 AA:∀m∈t.AA,m.name.size=2
 Ab:∀m∈t.Ab,m.name.size=2
 flat:∀m∈t.AA,Kv m.dflt
 num:In64 t.low/\In64 t.high
def KX (d:List Aa) (s:List AZ):Prop:=s.length=d.length/\∀i (h:i<s.length),Nz d i s[i]
def Short (s:List AZ):Prop:=∀t∈s,t.name.size<=1/\(∀m∈t.AA,m.name.size<=2)/\∀m∈t.Ab,m.name.size<=2
theorem U5 {s:List AZ} (h:KX d s) (hl:d.length<=5):zQ s=0:=by
 obtain ⟨h1,h2⟩:=h;refine aX (by omega) fun i hi=>?_
 have ho:=h2 i hi;refine ax ho.form (fun hn hm=>?_) (by rw[h1];exact ho.uses) (fun hk=>?_)
 ·obtain ⟨t,ht,e⟩:=List.mem_map.1 hm
  obtain ⟨j,hj,e2⟩:=AAs ht;have hji:j<i:=by rw[List.length_take] at hj;omega
  rw[List.getElem_take] at e2;have hoj:=h2 j (by omega)
  rw[e2] at hoj;rw[ho.name] at hn e;rw[hoj.name] at e
  by_cases a:DR (s[i]).kind=true
  ·rw[AAC a] at e hn
   by_cases b:DR t.kind=true
   ·rw[AAC b] at e
    have:=kK (by omega) (by omega) e
    omega
   ·rw[Pe b] at e;exact hn e.symm
  ·rw[Pe a] at hn;exact hn rfl
 ·obtain ⟨a,b,c⟩:=ho.key hk
  have hkl:(s[i]).key.toNat<s.length:=by omega
  have:=(h2 _ hkl).kind a;rw[AAi,zl hkl,Option.getD_some,this];exact a
theorem U6 {s:List AZ} (h:KX d s):Short s:=fun t ht=>by
 obtain ⟨i,hi,rfl⟩:=AAs ht;have ho:=h.2 i hi;refine ⟨?_,fun m hm=>Nat.le_of_eq (ho.AA m hm),fun m hm=>Nat.le_of_eq (ho.Ab m hm)⟩
 rw[ho.name]
 split
 ·exact Nat.le_of_eq rfl
 ·exact Nat.zero_le _
theorem Wq {s:List AZ} (h:KX d s):∀t∈s,∀m∈t.AA,Kv m.dflt:=fun t ht=>by
 obtain ⟨i,hi,rfl⟩:=AAs ht;exact (h.2 i hi).flat
theorem Zu {s:List AZ} (h:KX d s):∀t∈s,In64 t.low/\In64 t.high:=fun t ht=>by
 obtain ⟨i,hi,rfl⟩:=AAs ht;exact (h.2 i hi).num
theorem Jm:In64 0/\In64 0:=by unfold In64;omega
theorem kQ (x:Aa):In64 (K8 x)/\In64 (Kn x):=by unfold In64 Kn K8;omega
theorem Fz {t:AZ} (hi:i<=20) (h1:1<=t.kind/\t.kind<=9) (h2:t=Fe t) (h3:t.name=if DR t.kind then Nv i else ⟨#[]⟩) (h4:Kq t=true):GZ t=true:=by
 unfold GZ;simp only[AAG,AAY];refine ⟨⟨⟨h1,h2⟩,?_⟩,h4⟩
 cases hn:DR t.kind with
 | false=>rfl
 | true=>rw[h3,AAC hn,pK hi];rfl
theorem Hw {t:AZ} (hk:¬ (t.kind=8\/t.kind=7\/t.kind=9)):bF t=t.AA.map (·.type):=by
 unfold bF JZ;rw[Pe (fun e=>hk (.inl e)),Pe (fun e=>hk (.inr e)),List.append_nil,List.map_map];rfl
section
variable {d:List Aa} {i:Nat}
theorem Yp (hi:i<=20) (hk:BH d i=1):Nz d i { Ar with kind:=1 } :=
 ⟨Fz hi ⟨by show (1:Int)<=(1:Int);decide,by show (1:Int)<=(9:Int);decide⟩ rfl rfl rfl,rfl,(by rw[Hw (by show ¬ ((1:Int)=8\/(1:Int)=7\/(1:Int)=9);decide)];intro u hu;cases hu),fun _=>hk.symm,(fun h=>by cases h),(fun _ h=>by cases h),(fun _ h=>by cases h),(fun _ h=>by cases h),Jm⟩
theorem av (hi:i<=20) (hk:BH d i=2) {a b:Int} (hab:a<=b) (hn:In64 a/\In64 b):Nz d i { Ar with kind:=2,low:=a,high:=b } :=
 ⟨Fz hi ⟨by show (1:Int)<=(2:Int);decide,by show (2:Int)<=(9:Int);decide⟩ rfl rfl (AAM hab),rfl,(by rw[Hw (by show ¬ ((2:Int)=8\/(2:Int)=7\/(2:Int)=9);decide)];intro u hu;cases hu),fun _=>hk.symm,(fun h=>by cases h),(fun _ h=>by cases h),(fun _ h=>by cases h),(fun _ h=>by cases h),hn⟩
theorem aj (hi:i<=20) (hk:BH d i=3) {a:Int} (ha:0<=a/\a<=3):Nz d i { Ar with kind:=3,max:=a } :=
 ⟨Fz hi ⟨by show (1:Int)<=(3:Int);decide,by show (3:Int)<=(9:Int);decide⟩ rfl rfl (by unfold Kq;simp;omega),rfl,(by rw[Hw (by show ¬ ((3:Int)=8\/(3:Int)=7\/(3:Int)=9);decide)];intro u hu;cases hu),fun _=>hk.symm,(fun h=>by cases h),(fun _ h=>by cases h),(fun _ h=>by cases h),(fun _ h=>by cases h),Jm⟩
theorem Yo (hi:i<=20) (hk:BH d i=4) (x:Aa) (o:Bool):Nz d i { Ar with kind:=4,name:=Nv i,Ab:=Hy x,open_:=o } :=
 ⟨Fz hi ⟨by show (1:Int)<=(4:Int);decide,by show (4:Int)<=(9:Int);decide⟩ rfl rfl (bI x),rfl,(by rw[Hw (by show ¬ ((4:Int)=8\/(4:Int)=7\/(4:Int)=9);decide)];intro u hu;cases hu),fun _=>hk.symm,(fun h=>by cases h),(fun _ h=>by cases h),(fun m hm=>by
  obtain ⟨n,_,rfl⟩:=List.mem_map.1 (show m∈Hy x from hm)
  rfl),(fun _ h=>by cases h),Jm⟩
variable {ms:List AY}
theorem He.size {rec:Bool} {n:Nat} (h:He rec n 12 ms):∀m∈ms,m.name.size=2:=fun m hm=>by rw[(h.2 m hm).2.1];rfl
theorem He.types {rec:Bool} {n:Nat} (h:He rec n 12 ms):∀u∈ms.map (·.type),0<=u/\u<(n:Int):=fun u hu=>by
 obtain ⟨m,hm,rfl⟩:=List.mem_map.1 hu;exact (h.2 m hm).2.2.1
theorem TW (hi:i<=20) (hk:Bd (BH d i)=false) (h:He true d.length 12 ms) (hf:∀m∈ms,Kv m.dflt):Nz d i { Ar with kind:=5,name:=Nv i,AA:=ms } :=
 ⟨Fz hi ⟨by show (1:Int)<=(5:Int);decide,by show (5:Int)<=(9:Int);decide⟩ rfl rfl (h.AA (.inl rfl)),rfl,(by rw[Hw (by show ¬ ((5:Int)=8\/(5:Int)=7\/(5:Int)=9);decide)];exact h.types),(fun e=>by rw[hk] at e;cases e),(fun h=>by cases h),h.size,(fun _ h=>by cases h),hf,Jm⟩
theorem Vj (hi:i<=20) (hk:Bd (BH d i)=false) (h:He false d.length 12 ms) (hf:∀m∈ms,Kv m.dflt) (hne:ms≠[]) (o:Bool):Nz d i { Ar with kind:=6,name:=Nv i,AA:=ms,open_:=o } :=
 ⟨Fz hi ⟨by show (1:Int)<=(6:Int);decide,by show (6:Int)<=(9:Int);decide⟩ rfl rfl (h.AA (.inr hne)),rfl,(by rw[Hw (by show ¬ ((6:Int)=8\/(6:Int)=7\/(6:Int)=9);decide)];exact h.types),(fun e=>by rw[hk] at e;cases e),(fun h=>by cases h),h.size,(fun _ h=>by cases h),hf,Jm⟩
theorem QK (hi:i<=20) (hk:Bd (BH d i)=false) {a b:Int} (ha:0<=a/\a<=3) (hb:0<=b/\b<(d.length:Int)):Nz d i { Ar with kind:=7,max:=a,elem:=b } :=
 ⟨Fz hi ⟨by show (1:Int)<=(7:Int);decide,by show (7:Int)<=(9:Int);decide⟩ rfl rfl (by unfold Kq;simp;omega),rfl,(fun u hu=>by rw[show u=b by simpa[bF,JZ,show Ar.AA=[] from rfl] using hu];exact hb),(fun e=>by rw[hk] at e;cases e),(fun h=>by cases h),(fun _ h=>by cases h),(fun _ h=>by cases h),(fun _ h=>by cases h),Jm⟩
theorem au (hi:i<=20) (hk:Bd (BH d i)=false) {a b c:Int} (ha:0<=a/\a<=3) (hb:0<=b/\b<(d.length:Int)) (hc:0<=c/\c<(d.length:Int)) (hkc:Bd (BH d c.toNat)=true):Nz d i { Ar with kind:=8,max:=a,key:=c,elem:=b } :=
 ⟨Fz hi ⟨by show (1:Int)<=(8:Int);decide,by show (8:Int)<=(9:Int);decide⟩ rfl rfl (by unfold Kq;simp;omega),rfl,(fun u hu=>by
  have:u=c\/u=b:=by simpa[bF,JZ,show Ar.AA=[] from rfl] using hu
  rcases this with rfl|rfl
  ·exact hc
  ·exact hb),(fun e=>by rw[hk] at e;cases e),(fun _=>⟨hkc,hc⟩),(fun _ h=>by cases h),(fun _ h=>by cases h),(fun _ h=>by cases h),Jm⟩
theorem ak (hi:i<=20) (hk:Bd (BH d i)=false) {b:Int} (hb:0<=b/\b<(d.length:Int)):Nz d i { Ar with kind:=9,elem:=b } :=
 ⟨Fz hi ⟨by show (1:Int)<=(9:Int);decide,by show (9:Int)<=(9:Int);decide⟩ rfl rfl rfl,rfl,(fun u hu=>by rw[show u=b by simpa[bF,JZ,show Ar.AA=[] from rfl] using hu];exact hb),(fun e=>by rw[hk] at e;cases e),(fun h=>by cases h),(fun _ h=>by cases h),(fun _ h=>by cases h),(fun _ h=>by cases h),Jm⟩
end
theorem Na (d:List Aa) (i:Nat):1<=BH d i/\BH d i<=9:=by unfold BH;omega
theorem kU {d:List Aa} {code:Nat} (h:¬ KZ d code<0):(0<=KZ d code/\KZ d code<(d.length:Int))/\Bd (BH d (KZ d code).toNat)=true:=by
 unfold KZ at h ⊢
 split
 ·rename_i k hk
  have h1:=List.find?_some hk;have h2:=List.mem_range.1 (List.mem_of_find?_eq_some hk);have h3:(code+k) % d.length<d.length:=Nat.mod_lt _ (by omega)
  exact ⟨⟨by omega,by omega⟩,h1⟩
 ·rename_i hk
  rw[hk] at h;exact absurd (show (-1:Int)<0 by decide) h
theorem Vo {d:List Aa} {i code:Nat} (hi:i<d.length) (h:¬ DY d i code<0):0<=DY d i code/\DY d i code<(d.length:Int):=by
 refine ⟨by omega,?_⟩
 have h3:code % d.length<d.length:=Nat.mod_lt _ (by omega)
 unfold DY at h ⊢
 split
 ·omega
 ·split
  ·have:code % d.length % i<i:=Nat.mod_lt _ (by assumption)
   omega
  ·unfold Wl
   split
   ·rename_i k hk
    have h2:=List.mem_range.1 (List.mem_of_find?_eq_some hk)
    omega
   ·omega
theorem dZ (x:Aa):K8 x<=Kn x:=by unfold Kn;omega
def lW (x:Bool) (s:ByteArray):ByteArray:=if x then s++⟨#[120]⟩ else s
theorem gI (s u:ByteArray):(s++u).data.toList=s.data.toList++u.data.toList:=by
 rw[ByteArray.data_append];simp
theorem Zy {u:ByteArray} (h:s.data.toList=u.data.toList):s=u:=by
 cases s;cases u;congr;exact Array.toList_inj.1 h
def Sh (n:Nat) (a b:Int):Prop:=b=a\/b=a+(n:Int)
def cpM (x:Bool) (m:AY) (u:Int):AY:={ m with name:=lW x m.name,type:=u }
def cpS (x:Bool) (s:CB):CB:={ s with name:=lW x s.name }
def cpN (x:Bool) (s:ByteArray):ByteArray:=if s=⟨#[]⟩ then s else lW x s
def cpT (x:Bool) (t:AZ) (ms:List AY) (k e:Int):AZ:={ t with name:=cpN x t.name,Ab:=t.Ab.map (cpS x),AA:=ms,key:=k,elem:=e }
def MO (n:Nat) (x:Bool):List AY->List AY->Prop
 | [],[]=>True
 | m::r,c::q=>(∃u,Sh n m.type u/\c=cpM x m u)/\MO n x r q
 | _,_=>False
structure wN (n:Nat) (x:Bool) (t:AZ) (ms:List AY) (k e:Int):Prop where
 AA:MO n x t.AA ms
 key:if t.kind=8 then Sh n t.key k else k=t.key
 elem:if t.kind=8\/t.kind=7\/t.kind=9 then Sh n t.elem e else e=t.elem
theorem MO.len {n:Nat} {x:Bool}:∀ {l m:List AY},MO n x l m->m.length=l.length
 | [],[],_=>rfl
 | a::l,b::m,h=>by rw[AAS,AAS,MO.len h.2]
 | [],_::_,h=>h.elim
 | _::_,[],h=>h.elim
theorem MO.ids {n:Nat} {x:Bool}:∀ {l m:List AY},MO n x l m->(m.map fun y=>(y.id,y.name))=(l.map fun y=>(y.id,y.name)).map fun y=>(y.1,lW x y.2)
 | [],[],_=>rfl
 | a::l,b::m,h=>by
  obtain ⟨⟨u,_,e⟩,h2⟩:=h;rw[ABB,ABB,ABB,MO.ids h2,e];rfl
 | [],_::_,h=>h.elim
 | _::_,[],h=>h.elim
theorem MO.all {n:Nat} {x r:Bool}:∀ {l m:List AY},MO n x l m->m.all (Qi r)=l.all (Qi r)
 | [],[],_=>rfl
 | a::l,b::m,h=>by
  obtain ⟨⟨u,_,e⟩,h2⟩:=h;rw[List.all_cons,List.all_cons,MO.all h2,e];rfl
 | [],_::_,h=>h.elim
 | _::_,[],h=>h.elim
def Pw (n:Nat):List (Int×Int)->List (Int×Int)->Prop
 | [],[]=>True
 | u::r,v::q=>(v.1=u.1/\Sh n u.2 v.2)/\Pw n r q
 | _,_=>False
theorem Pw.app {n:Nat}:∀ {a b c d:List (Int×Int)},Pw n a b->Pw n c d->Pw n (a++c) (b++d)
 | [],[],_,_,_,h=>h
 | _::_,_::_,_,_,h1,h2=>⟨h1.1,Pw.app h1.2 h2⟩
 | [],_::_,_,_,h,_=>h.elim
 | _::_,[],_,_,h,_=>h.elim
theorem MO.uses {n:Nat} {x:Bool}:∀ {l m:List AY},MO n x l m->Pw n (l.map fun y=>(y.id,y.type)) (m.map fun y=>(y.id,y.type))
 | [],[],_=>trivial
 | a::l,b::m,h=>by
  obtain ⟨⟨u,hs,e⟩,h2⟩:=h;rw[ABB,ABB,e];exact ⟨⟨rfl,hs⟩,MO.uses h2⟩
 | [],_::_,h=>h.elim
 | _::_,[],h=>h.elim
section
variable {n:Nat} {x:Bool} {t:AZ} {ms:List AY} {k e:Int}
theorem wN.uses (h:wN n x t ms k e):Pw n (JZ t) (JZ (cpT x t ms k e)):=by
 unfold JZ;refine Pw.app h.AA.uses ?_
 show Pw n _ (if t.kind=8 then [(0,k),(-1,e)] else if t.kind=7\/t.kind=9 then [(-1,e)] else [])
 have hk:=h.key;have he:=h.elem
 by_cases h8:t.kind=8
 ·rw[AAC h8] at hk
  rw[AAC (.inl h8)] at he;rw[AAC h8,AAC h8];exact ⟨⟨rfl,hk⟩,⟨rfl,he⟩,trivial⟩
 ·rw[Pe h8,Pe h8]
  by_cases h7:t.kind=7\/t.kind=9
  ·rw[AAC (.inr h7)] at he
   rw[AAC h7,AAC h7];exact ⟨⟨rfl,he⟩,trivial⟩
  ·rw[Pe h7,Pe h7]
   exact trivial
end
section
variable {s c:List AZ}
end
structure FV (po:Nat) (wr:World) (v:Value) (L:List LK):Prop where
 own:Ak 87 10 LK.cells wr (po+1) v L
 off:∀x∈L,Off (fun q=>q<=po\/v.ownBlock=some q) wr fun u=>Ic u x.t x.As x.Am
variable {L:List LK} {po:Nat} {wr:World}
theorem FV.below {v:Value} (h:FV po wr v L) (hb:Below wr.heap.size wr w'):FV po w' v L:=⟨h.own.below hb,fun x hx=>(h.off x hx).low hb⟩
theorem FV.nil (po:Nat) (wr:World):FV po wr (.slice none 0 0) []:=⟨Ak.nil _ _,fun x hx=>by cases hx⟩
theorem FV.set {v:Value} (h:FV po wr v L) (hs:wr.heap.size<=w'.heap.size) {b:Nat} (hb:b<=po) (hk:∀q,q≠b->q<wr.heap.size->w'.heap[q]? = wr.heap[q]?):FV po w' v L :=
 ⟨h.own.keep fun g h1 h2 _=>hk g (by omega) h2,fun x hx=>(h.off x hx).step hs fun q hq hl=>hk q (fun e=>hq (.inl (e▸hb))) hl⟩
theorem FV.snoc {v v':Value} {x:LK} (h:FV po wr v L) (hx:Off (fun q=>q<=po\/v.ownBlock=some q) wr fun u=>Ic u x.t x.As x.Am) (ho:w'.ownsRow (po+1) 87 10 v' (L.length+1) (L.flatMap LK.cells++x.cells)) (hg:wr.grownBy w' v.ownBlock) (hv:v'.ownBlock=v.ownBlock\/v'.ownBlock=some wr.heap.size):FV po w' v' (L++[x]):=by
 refine ⟨Ak.snoc ho,fun y hy=>?_⟩
 have hy':Off (fun q=>q<=po\/v.ownBlock=some q) wr fun u=>Ic u y.t y.As y.Am:=by
  rcases AAl.1 hy with k|k
  ·exact h.off y k
  ·obtain rfl:y=x:=by simpa using k
   exact hx
 intro u hu
 refine hy' u fun q hq hl=>?_
 have hqw:w'.heap[q]? = wr.heap[q]? := yA hg hl fun k hk e=>hq (.inr (by rw[hk,e]))
 rw[<-hqw];refine hu q (fun hs=>hs.elim (fun h1=>hq (.inl h1)) fun h2=>?_) (AAt hl hg.size)
 rcases hv with e|e
 ·exact hq (.inr (e▸h2))
 ·rw[e] at h2
  have:=AAb h2
  omega
theorem FV.rows {v:Value} (h:FV po wr v L) (hl:L.length<=1000):∃A c,v = .slice A L.length c/\DV wr A (L.map (·.t)):=by
 obtain ⟨A,c,hv,hr⟩:=Ak.rows (bytes:=120) h.own (fun _=>rfl) (by unfold D9;omega) (at_:=fun x cs=>AZ.At wr x.t cs) (fun x hx=>⟨x.As,x.cs,x.Am,x.cm,rfl,(h.off x hx).out⟩)
 refine ⟨A,c,hv,by unfold D9;rw[AAk];omega,fun hn=>?_⟩
 obtain ⟨b,o,e,hi⟩:=hr.2 (fun e=>hn (by rw[e];rfl))
 refine ⟨b,o,e,fun i x hx=>?_⟩
 rw[List.getElem?_map] at hx;obtain ⟨y,hy,rfl⟩:=AAj.1 hx;exact hi i y hy
mutual
def XE:Val->Prop
 | .mk _ _ _ s _ ks is rs=>s.size<=140737488355328/\(∀r∈rs,r.data.size<=140737488355328)/\Q7 ks/\Q7 is
def Q7:List Val->Prop
 | []=>True
 | v::l=>XE v/\Q7 l
end
theorem Ml:∀l:List Val,Q7 l↔∀v∈l,XE v
 | []=>by rw[Q7];exact ⟨fun _ _ h=>(by cases h),fun _=>trivial⟩
 | v::l=>by
  rw[Q7,Ml l];simp only[AAf,forall_eq_or_imp]
theorem XE.out {v:Val} (h:XE v):v.str.size<=140737488355328/\(∀r∈v.rest,r.data.size<=140737488355328)/\(∀y∈v.keys,XE y)/\(∀y∈v.items,XE y):=by
 obtain ⟨k,b,i,s,d,ks,is,rs⟩:=v;rw[XE] at h;exact ⟨h.1,h.2.1,(Ml ks).1 h.2.2.1,(Ml is).1 h.2.2.2⟩
end Go.Proofs.YthkkllmmbefedaaGreatDoor



