/-
  Walks: literal.write, kinds 7.
-/
import Derived.Test.YthkkllmmbefedaaGreatDoorQGA9
import Derived.Test.YthkkllmmbefedaaGreatDoorShelfB
import Derived.Test.YthkkllmmbefedaaGreatDoorQGA3
import Derived.Test.YthkkllmmbefedaaGreatDoorQGA7
import Derived.Test.YthkkllmmbefedaaGreatDoorQGA8
import Derived.Shelf.Strings.BuilderK
namespace Go.Proofs.YthkkllmmbefedaaGreatDoor
open Go.RowKit
set_option maxHeartbeats 16000000
set_option maxRecDepth 100000
variable {B b:Nat} {w w':World}
theorem M9 {bs:List Value} (h:Lib.IsBuilderF 57 5 B b bs w) (hb:Below w.heap.size w w'):Lib.IsBuilderF 57 5 B b bs w':=by
 have hg:w.grownBy w' none:=⟨hb.os,hb.tape,hb.output,hb.size,fun k hk _=>hb.block k hk⟩
 have step:∀p,Lib.BuilderAtF 57 5 B b p bs w->Lib.BuilderAtF 57 5 B b p bs w':=fun p h=>by
  obtain ⟨hB,v,hbk,hown,hne⟩:=h;have hlt:=(zg.1 hbk).1;refine ⟨hB,v,(hb.block b hlt).trans hbk,?_,hne⟩
  rcases hv:v.ownBlock with _|g
  ·exact hown.kept hg (Or.inl hv)
  ·exact hown.kept hg (Or.inr (by rw[hv];simp))
 exact h.imp (step _) (step _)
def CP (w:World) (B b:Nat) (s:ByteArray):Prop:=Lib.IsBuilderF 57 5 B b (Lib.strCells s) w
abbrev YU (b:Nat) (w w':World):Prop:=Lib.OthersKept 5 (some b) w w'
section
variable {w w':World} {B b:Nat} {s:ByteArray}
theorem CP.below (h:CP w B b s) (hb:Below w.heap.size w w'):CP w' B b s:=M9 h hb
theorem CP.new (w:World) (hB:B<=w.heap.size):CP (w.alloc (.cells #[.pointer none,.slice none 0 0] 57)) B w.heap.size ⟨#[]⟩:=Lib.IsBuilderF.of (RU.new w hB)
theorem CP.write (h:CP w B b s) (x:ByteArray) (hl:s.size+x.size<=140737488355328) (hB:B<=w.heap.size) :
  Calls Tryz.prog 23 #[.pointer (some ⟨b,0,none⟩),.string x] w fun e w'=>e = .returned (.tuple #[.int .i64 x.size,.nilIface])/\CP w' B b (s++x)/\Below B w w'/\YU b w w' :=
 (Any.Builder_WriteString_k X7 Uh B b (Lib.strCells s) x w h (by rw[Lib.strCells_length];exact hl) hB).mono fun _ _ ⟨h1,h2,h3,h4⟩=>⟨h1,by rw[LY] at h2;exact Or.inr h2,h3,h4⟩
theorem CP.str (h:CP w B b s) (hB:B<=w.heap.size) :
  Calls Tryz.prog 25 #[.pointer (some ⟨b,0,none⟩)] w fun e w'=>e = .returned (.string s)/\Below B w w':=by
 have h':Lib.IsBuilderF 57 5 B b (Lib.byteCells s.data.toList) w:=by rw[<-Lib.strCells_eq];exact h
 refine (Any.Builder_String_any_k Tryz.lays169 Tryz.Builder_Extra_169 B b s.data.toList w h' hB).mono fun _ _ ⟨h1,_,h3,_⟩=>⟨?_,h3⟩
 rw[h1]
end
variable {s:ByteArray}
theorem CP.lt (h:CP w B b s):b<w.heap.size:=by
 rcases h with ⟨_,_,h,_⟩|⟨_,_,h,_⟩ <;> exact (zg.1 h).1
theorem YU.blk {k:Nat} {cs:Array Value} {t:TypeId} {fz:Nat×Nat} (h:YU b w w') (hk:w.heap[k]? = some (.cells cs t fz)) (hkb:k≠b) (ht:t≠5):w'.heap[k]? = some (.cells cs t fz) :=
 h k _ hk (fun e=>hkb (AAh e)) fun _ _ e=>by injection e with _ e2;exact ht e2
theorem nI:Go.Proofs.Lays.n167 Tryz.prog Vo:={ X7 with
 f167:=Tryz.func69.trans (congrArg some (by kernel_rfl))
 t5:=Tryz.underlying5
 a5:=Tryz.isAgg5
 z5:=Tryz.sizeOf5
 v5:=Tryz.zeroValue5 }
def Cq (c:UInt8):ByteArray:=⟨#[c]⟩
theorem Rb (c:UInt8):Lib.strCells (Cq c)=[.int .u8 c.toNat]:=rfl
theorem CP.byte (h:CP w B b s) (c:UInt8) (hl:s.size+1<=140737488355328) (hB:B<=w.heap.size):
  Calls Tryz.prog 69 #[.pointer (some ⟨b,0,none⟩),.int .u8 c.toNat] w fun e w'=>e = .returned .nilIface/\CP w' B b (s++Cq c)/\Below B w w'/\YU b w w' :=
 (Any.Builder_WriteByte_k nI Uh B b (Lib.strCells s) c.toNat w h (by rw[Lib.strCells_length];exact hl) hB).mono fun _ _ ⟨h1,h2,h3,h4⟩=>⟨h1,by rw[<-Rb,LY] at h2;exact Or.inr h2,h3,h4⟩
theorem SS (b:Bool) (w:World) :
  Calls Tryz.prog 66 #[.bool b] w fun e w'=>e = .returned (.string (if b then ⟨#[116,114,117,101]⟩ else ⟨#[102,97,108,115,101]⟩))/\w'=w :=
 (Tryz.strconv_FormatBool b w).mono fun _ _ ⟨h1,h2⟩=>⟨by rw[h1];cases b <;> rfl,h2⟩
theorem KF (h:CP w B b s) (i:Nat) (hl:s.size+(if i=0 then (⟨#[]⟩:ByteArray) else ⟨#[44,32]⟩).size<=140737488355328) (hB:B<=w.heap.size):
  Calls Tryz.prog 70 #[.pointer (some ⟨b,0,none⟩),.int .i64 i] w fun e w'=>e = .returned (.tuple #[])/\CP w' B b (s++(if i=0 then ⟨#[]⟩ else ⟨#[44,32]⟩))/\Below B w w'/\YU b w w':=by
 have H:=zh h;have HG:=zh hB;have hlt:=h.lt
 by_cases hi:i=0
 ·subst hi
  clear h hl
  go_enter Tryz.func70,Tryz.ntmps70
  go_wp2
  refine bodyPost_end (results_none (by rfl) _ _ _) rfl ⟨rfl,?_,Pe _ _,fun _ _ h _ _=>h⟩
  show CP w B b (s++ByteArray.empty)
  rw[ByteArray.append_empty];exact H.out
 ·have HL:Hid (s.size+(⟨#[44,32]⟩:ByteArray).size<=140737488355328):=by rw[Pd hi] at hl;exact hl
  have p1:(0:Int)<(i:Int):=by omega
  rw[Pd hi];clear h hl hi
  go_enter Tryz.func70,Tryz.ntmps70
  go_wp2_with fail
  refine (H.out.write ⟨#[44,32]⟩ HL HG).mono ?_;rintro e w1 ⟨rfl,h1,h2,h3⟩;have H1:=zh h1;have H2:=zh h2;have H3:=zh h3;clear h1 h2 h3;go_wp2;refine bodyPost_end (results_none (by rfl) _ _ _) rfl ⟨rfl,H1.out,H2.out,H3.out⟩
theorem UZ (n:Nat) (h:n<16):(ByteArray.mk #[48,49,50,51,52,53,54,55,56,57,97,98,99,100,101,102]).data.getD n 0=DK n:=by
 have:∀m:Fin 16,(ByteArray.mk #[48,49,50,51,52,53,54,55,56,57,97,98,99,100,101,102]).data.getD m.1 0=DK m.1:=by decide
 exact this ⟨n,h⟩
theorem nQ (n:Nat) (h:n<16) {h'}:(ByteArray.mk #[48,49,50,51,52,53,54,55,56,57,97,98,99,100,101,102])[n]'h'=DK n:=by
 rw[<-UZ n h]
 show Array.getInternal _ n _=_
 rw[Array.getD_eq_getD_getElem?,Array.getElem?_eq_getElem (by exact h)]
 rfl
theorem eu {k:Nat} (h:k<s.size):Mr s (k+1)=Mr s k++fD s[k]:=by
 rw[Mr]
 congr 2
 show s.data.getD k 0=s.data[k]
 rw[Array.getD_eq_getD_getElem?,Array.getElem?_eq_getElem h];rfl
theorem YO (a:ByteArray) (x y:UInt8):a++Cq x++Cq y=a++(⟨#[x,y]⟩:ByteArray):=by
 rw[AAk];rfl
theorem Ml (s:ByteArray) (hl:(LG s).size<=140737488355328) (w:World) :
  Calls Tryz.prog 67 #[.string s] w fun e w'=>e = .returned (.string (LG s))/\Below w.heap.size w w':=by
 have HL:Hid ((Mr s s.size).size+1<=140737488355328):=by
  show _<=_
  unfold LG at hl;rw[AAQ] at hl;exact hl
 have hz:s.size<9223372036854775807:=by
  have:∀k,k<=(Mr s k).size:=fun k=>by
   induction k with
   | zero=>exact Nat.zero_le _
   | succ k ih =>
    have:1<=(fD (s.data.getD k 0)).size:=by
     unfold fD
     repeat' split
     all_goals (first|(show 1<=2;omega)|(show 1<=4;omega)|exact AAP _)
    unfold Mr;rw[AAQ];omega
  have:=this s.size;have:=HL.out
  omega
 have HB0:=zh (zD w (.cells #[.pointer none,.slice none 0 0] 57));have jR:=zh (CP.new w (AAP _));clear hl
 go_enter Tryz.func67,Tryz.ntmps67
 go_wp2_with fail
 have hs0:w.heap.size<(w.alloc (.cells #[.pointer none,.slice none 0 0] 57)).heap.size:=by simp
 generalize w.alloc (.cells #[.pointer none,.slice none 0 0] 57)=W1 at *;refine (jR.out.byte 34 (by show 0+1<=_;omega) HB0.out.size).mono ?_
 rintro e w1 ⟨rfl,h1,h2,_⟩;have VQ:Hid (CP w1 w.heap.size w.heap.size (Mr s 0)):=by
  have e:(⟨#[]⟩:ByteArray)++Cq 34=Mr s 0:=rfl;rw[e] at h1;exact h1
 have HB1:=zh (HB0.out.trans h2);clear h1 h2 hs0;go_wp2_with fail
 go_loopw [9] (fun i wr=>∃k:Nat,k<=s.size/\i = .int .i64 k/\Hid (CP wr w.heap.size w.heap.size (Mr s k)/\Below w.heap.size w wr)) (fun i _=>s.size - (intOf i).toNat)
 case atStart=>exact ⟨0,by omega,rfl,VQ.out,HB1.out⟩
 case round =>
  obtain ⟨k,hk,rfl,hh⟩:=hrel;have HN:=zh hh.out.1;have HB:=zh hh.out.2;clear hh
  by_cases hlt:k<s.size
  ·have IA:=zh (eu hlt)
   have HZ:Hid ((Mr s (k+1)).size+1<=140737488355328):=by
    have:=HL.out;have:=fA s (show k+1<=s.size by omega)
    show _<=_
    omega
   have h1:(0:Int)<=(k:Int):=by omega
   have h2:(k:Int)<(s.size:Int):=by omega
   go_upto_region 8 with fail
   generalize s[k]=ch at *;generalize hQ:Mr s k=Q at *;have hch:ch.toNat<256:=ch.toNat_lt;have HT:Hid (∀X,X=fD ch->Q++X=Mr s (k+1)):=fun X hX=>by rw[hX,IA.out]
   have HZ2:Hid (∀X,X=fD ch->Q.size+X.size+1<=140737488355328):=fun X hX=>by
    have:=HZ.out;rw[<-HT.out X hX,AAQ] at this;exact this
   have uO:Hid (fD ch=if ch.toNat=34\/ch.toNat=92 then ⟨#[92,ch]⟩ else if ch.toNat=10 then ⟨#[92,110]⟩ else if ch.toNat<32\/126<ch.toNat then ⟨#[92,120,DK (ch.toNat / 16),DK (ch.toNat % 16)]⟩ else ⟨#[ch]⟩):=rfl
   clear IA HZ hQ
   by_cases c1:ch.toNat=34\/ch.toNat=92
   ·have HC:=zh (uO.out.trans (AAH c1))
    have HZ3:=zh (HZ2.out _ HC.out.symm);have HT3:=zh (HT.out _ HC.out.symm);have HD:(ch.toNat=34)\/(¬ ch.toNat=34/\ch.toNat=92):=by omega
    clear c1 HC HZ2 HT uO
    rcases HD with p34|⟨p34,p92⟩
    ·have q1:((ch.toNat:Int)==34)=true:=by simp[p34]
     clear p34;go_wp2_with fail;refine (HN.out.byte 92 (by have:=HZ3.out;rw[show (ByteArray.mk #[92,ch]).size=2 from rfl] at this;omega) HB.out.size).mono ?_
     rintro e w5 ⟨rfl,g1,g2,_⟩;have U7:=zh g1;have Ap:=zh (HB.out.trans g2);clear g1 g2;go_wp2_with fail;refine (U7.out.byte ch (by have:=HZ3.out;rw[show (ByteArray.mk #[92,ch]).size=2 from rfl] at this;rw[AAQ];show _+1+1<=_;omega) Ap.out.size).mono ?_
     rintro e w6 ⟨rfl,g1,g2,_⟩;have oV:=zh g1;have BH:=zh (Ap.out.trans g2);clear g1 g2;have HF:Hid (CP w6 w.heap.size w.heap.size (Mr s (k+1))):=by
      have h:=oV.out
      show CP _ _ _ _
      rw[YO,HT3.out] at h;exact h
     clear oV;go_wp2;go_roundw
     case rel=>exact ⟨k+1,by omega,by go_num,HF.out,BH.out⟩
     case measure=>simp[intOf];omega
    ·have q1:((ch.toNat:Int)==34)=false:=by simp;omega
     have q2:((ch.toNat:Int)==92)=true:=by simp[p92]
     clear p34 p92;go_wp2_with fail;refine (HN.out.byte 92 (by have:=HZ3.out;rw[show (ByteArray.mk #[92,ch]).size=2 from rfl] at this;omega) HB.out.size).mono ?_
     rintro e w5 ⟨rfl,g1,g2,_⟩;have U7:=zh g1;have Ap:=zh (HB.out.trans g2);clear g1 g2;go_wp2_with fail;refine (U7.out.byte ch (by have:=HZ3.out;rw[show (ByteArray.mk #[92,ch]).size=2 from rfl] at this;rw[AAQ];show _+1+1<=_;omega) Ap.out.size).mono ?_
     rintro e w6 ⟨rfl,g1,g2,_⟩;have oV:=zh g1;have BH:=zh (Ap.out.trans g2);clear g1 g2;have HF:Hid (CP w6 w.heap.size w.heap.size (Mr s (k+1))):=by
      have h:=oV.out
      show CP _ _ _ _
      rw[YO,HT3.out] at h;exact h
     clear oV;go_wp2;go_roundw
     case rel=>exact ⟨k+1,by omega,by go_num,HF.out,BH.out⟩
     case measure=>simp[intOf];omega
   ·have q1:((ch.toNat:Int)==34)=false:=by simp;omega
    have q2:((ch.toNat:Int)==92)=false:=by simp;omega
    have p9:=zh (uO.out.trans (Pd c1))
    by_cases c2:ch.toNat=10
    ·have HC:=zh (p9.out.trans (AAH c2))
     have HZ3:=zh (HZ2.out _ HC.out.symm);have HT3:=zh (HT.out _ HC.out.symm);have q3:((ch.toNat:Int)==10)=true:=by simp[c2]
     clear c1 c2 HC HZ2 HT uO p9;go_wp2_with fail;refine (HN.out.write ⟨#[92,110]⟩ (by have:=HZ3.out;omega) HB.out.size).mono ?_
     rintro e w5 ⟨rfl,g1,g2,_⟩;have U7:=zh g1;have Ap:=zh (HB.out.trans g2);clear g1 g2;have HF:Hid (CP w5 w.heap.size w.heap.size (Mr s (k+1))):=by
      have h:=U7.out
      show CP _ _ _ _
      rw[HT3.out] at h;exact h
     clear U7;go_wp2;go_roundw
     case rel=>exact ⟨k+1,by omega,by go_num,HF.out,Ap.out⟩
     case measure=>simp[intOf];omega
    ·have q3:((ch.toNat:Int)==10)=false:=by simp;omega
     have uP:=zh (p9.out.trans (Pd c2))
     by_cases c3:ch.toNat<32\/126<ch.toNat
     ·have HC:=zh (uP.out.trans (AAH c3))
      have HZ3:=zh (HZ2.out _ HC.out.symm);have HT3:=zh (HT.out _ HC.out.symm);have HD:(ch.toNat:Int)<32\/(¬ (ch.toNat:Int)<32/\(126:Int)<(ch.toNat:Int)):=by omega
      clear c1 c2 c3 HC HZ2 HT uO p9 uP
      rcases HD with p1|⟨p1,p2⟩
      ·go_wp2_with fail
       refine (HN.out.write ⟨#[92,120]⟩ (by have:=HZ3.out;rw[show (ByteArray.mk #[92,120,DK (ch.toNat / 16),DK (ch.toNat % 16)]).size=4 from rfl] at this;show _+2<=_;omega) HB.out.size).mono ?_
       rintro e w5 ⟨rfl,g1,g2,_⟩;have U7:=zh g1;have Ap:=zh (HB.out.trans g2);clear g1 g2;go_wp2_with fail;refine (U7.out.byte _ (by have:=HZ3.out;rw[show (ByteArray.mk #[92,120,DK (ch.toNat / 16),DK (ch.toNat % 16)]).size=4 from rfl] at this;rw[AAQ];show _+2+1<=_;omega) Ap.out.size).mono ?_
       rintro e w6 ⟨rfl,g1,g2,_⟩;have oV:=zh g1;have BH:=zh (Ap.out.trans g2);clear g1 g2;go_wp2_with fail;refine (oV.out.byte _ (by have:=HZ3.out;rw[show (ByteArray.mk #[92,120,DK (ch.toNat / 16),DK (ch.toNat % 16)]).size=4 from rfl] at this;rw[AAQ,AAQ];show _+2+1+1<=_;omega) BH.out.size).mono ?_
       rintro e w7 ⟨rfl,g1,g2,_⟩;have yj:=zh g1;have Ca:=zh (BH.out.trans g2);clear g1 g2;have HF:Hid (CP w7 w.heap.size w.heap.size (Mr s (k+1))):=by
        have h:=yj.out
        show CP _ _ _ _
        rw[nQ _ (by omega),nQ _ (by omega),show Q++(⟨#[92,120]⟩:ByteArray)++Cq (DK (ch.toNat / 16))++Cq (DK (ch.toNat % 16))=Q++(⟨#[92,120,DK (ch.toNat / 16),DK (ch.toNat % 16)]⟩:ByteArray) by rw[AAk,AAk];rfl,HT3.out] at h;exact h
       clear yj;go_wp2;go_roundw
       case rel=>exact ⟨k+1,by omega,by go_num,HF.out,Ca.out⟩
       case measure=>simp[intOf];omega
      ·go_wp2_with fail
       refine (HN.out.write ⟨#[92,120]⟩ (by have:=HZ3.out;rw[show (ByteArray.mk #[92,120,DK (ch.toNat / 16),DK (ch.toNat % 16)]).size=4 from rfl] at this;show _+2<=_;omega) HB.out.size).mono ?_
       rintro e w5 ⟨rfl,g1,g2,_⟩;have U7:=zh g1;have Ap:=zh (HB.out.trans g2);clear g1 g2;go_wp2_with fail;refine (U7.out.byte _ (by have:=HZ3.out;rw[show (ByteArray.mk #[92,120,DK (ch.toNat / 16),DK (ch.toNat % 16)]).size=4 from rfl] at this;rw[AAQ];show _+2+1<=_;omega) Ap.out.size).mono ?_
       rintro e w6 ⟨rfl,g1,g2,_⟩;have oV:=zh g1;have BH:=zh (Ap.out.trans g2);clear g1 g2;go_wp2_with fail;refine (oV.out.byte _ (by have:=HZ3.out;rw[show (ByteArray.mk #[92,120,DK (ch.toNat / 16),DK (ch.toNat % 16)]).size=4 from rfl] at this;rw[AAQ,AAQ];show _+2+1+1<=_;omega) BH.out.size).mono ?_
       rintro e w7 ⟨rfl,g1,g2,_⟩;have yj:=zh g1;have Ca:=zh (BH.out.trans g2);clear g1 g2;have HF:Hid (CP w7 w.heap.size w.heap.size (Mr s (k+1))):=by
        have h:=yj.out
        show CP _ _ _ _
        rw[nQ _ (by omega),nQ _ (by omega),show Q++(⟨#[92,120]⟩:ByteArray)++Cq (DK (ch.toNat / 16))++Cq (DK (ch.toNat % 16))=Q++(⟨#[92,120,DK (ch.toNat / 16),DK (ch.toNat % 16)]⟩:ByteArray) by rw[AAk,AAk];rfl,HT3.out] at h;exact h
       clear yj;go_wp2;go_roundw
       case rel=>exact ⟨k+1,by omega,by go_num,HF.out,Ca.out⟩
       case measure=>simp[intOf];omega
     ·have HC:=zh (uP.out.trans (Pd c3))
      have HZ3:=zh (HZ2.out _ HC.out.symm);have HT3:=zh (HT.out _ HC.out.symm);have p1:¬ (ch.toNat:Int)<32:=by omega
      have p2:¬ (126:Int)<(ch.toNat:Int):=by omega
      clear c1 c2 c3 HC HZ2 HT uO p9 uP;go_wp2_with fail;refine (HN.out.byte ch (by have:=HZ3.out;rw[show (ByteArray.mk #[ch]).size=1 from rfl] at this;omega) HB.out.size).mono ?_
      rintro e w5 ⟨rfl,g1,g2,_⟩;have U7:=zh g1;have Ap:=zh (HB.out.trans g2);clear g1 g2;have HF:Hid (CP w5 w.heap.size w.heap.size (Mr s (k+1))):=by
       have h:=U7.out
       show CP _ _ _ _
       rw[show Q++Cq ch=Q++(⟨#[ch]⟩:ByteArray) from rfl,HT3.out] at h;exact h
      clear U7;go_wp2;go_roundw
      case rel=>exact ⟨k+1,by omega,by go_num,HF.out,Ap.out⟩
      case measure=>simp[intOf];omega
  ·obtain rfl:k=s.size:=by omega
   go_wp2_with fail
   refine (HN.out.byte 34 HL HB.out.size).mono ?_;rintro e w2 ⟨rfl,h1,h2,_⟩;have yo:Hid (CP w2 w.heap.size w.heap.size (LG s)):=h1;have HB2:=zh (HB.out.trans h2);clear h1 h2;go_wp2_with fail;refine (yo.out.str HB2.out.size).mono ?_;rintro e w3 ⟨rfl,h3⟩;have HB3:=zh (HB2.out.trans h3);clear h3;go_wp2;go_ret;exact ⟨rfl,HB3.out⟩
theorem yD (hb:Below w.heap.size w w'):YU b w w':=fun _ _ hk _ _=>zE hk hb
theorem Cb {w1 w2:World} (h:YU b w w1) (h':YU b w1 w2):YU b w w2:=fun k o hk h1 h2=>h' k o (h k o hk h1 h2) h1 h2
structure EA (s:List Aa) (A:zo) (c:Nat) (x:Aa) (As:zo) (cs:Nat) (Am:zo) (cm:Nat) (v:Val) (A1:zo) (c1:Nat) (A2:zo) (c2:Nat) (A3:zo) (c3:Nat) (B b p5 p7 p8:Nat) (ws w:World) (T:ByteArray):Prop where
 FD:CP w B b T
 fr:Below B ws w
 ot:YU b ws w
 n5:p5≠b
 n7:p7≠b
 n8:p8≠b
 h5:w.heap[p5]? = some (.cells #[.slice A s.length c] 31)
 h7:w.heap[p7]? = some (v.box A1 c1 A2 c2 A3 c3)
 h8:w.heap[p8]? = some (x.box As cs Am cm)
 ge:B<=w.heap.size
section
variable {s:List Aa} {A:zo} {c:Nat} {x:Aa} {As:zo} {cs:Nat} {Am:zo} {cm:Nat} {v:Val} {A1:zo} {c1:Nat} {A2:zo} {c2:Nat} {A3:zo} {c3:Nat} {B b p5 p7 p8:Nat} {ws w w':World} {T T':ByteArray}
theorem EA.step (h:EA s A c x As cs Am cm v A1 c1 A2 c2 A3 c3 B b p5 p7 p8 ws w T) (h1:CP w' B b T') (h2:Below B w w') (h3:YU b w w'):EA s A c x As cs Am cm v A1 c1 A2 c2 A3 c3 B b p5 p7 p8 ws w' T' :=
 ⟨h1,h.fr.trans h2,Cb h.ot h3,h.n5,h.n7,h.n8,h3.blk h.h5 h.n5 (by decide),h3.blk h.h7 h.n7 (by decide),h3.blk h.h8 h.n8 (by decide),Nat.le_trans h.ge h2.size⟩
theorem EA.below (h:EA s A c x As cs Am cm v A1 c1 A2 c2 A3 c3 B b p5 p7 p8 ws w T) (hb:Below w.heap.size w w'):EA s A c x As cs Am cm v A1 c1 A2 c2 A3 c3 B b p5 p7 p8 ws w' T :=
 ⟨h.FD.below hb,h.fr.trans (hb.mono h.ge),Cb h.ot (yD hb),h.n5,h.n7,h.n8,zE h.h5 hb,zE h.h7 hb,zE h.h8 hb,Nat.le_trans h.ge hb.size⟩
theorem EA.c5 (h:EA s A c x As cs Am cm v A1 c1 A2 c2 A3 c3 B b p5 p7 p8 ws w T):w.cell? ⟨p5,0,none⟩=some (.slice A s.length c):=by rw[AAN _ _ _ _ _ _ h.h5];rfl
theorem EA.fin (h:EA s A c x As cs Am cm v A1 c1 A2 c2 A3 c3 B b p5 p7 p8 ws w T):CP w B b T/\Below B ws w/\YU b ws w:=⟨h.FD,h.fr,h.ot⟩
theorem EA.up {w0:World} (h:EA s A c x As cs Am cm v A1 c1 A2 c2 A3 c3 B b p5 p7 p8 ws w T) (hb:Below B w0 ws) (hg:w0.heap.size<=B):Below w0.heap.size w0 w:=(hb.trans h.fr).mono hg
end
def WriteAt (s:List Aa) (A:zo) (c:Nat) (n:Nat):Prop:=∀ (t:Int) (v:Val) (A1:zo) (c1:Nat) (A2:zo) (c2:Nat) (A3:zo) (c3:Nat) (w0 w:World) (B b:Nat) (T:ByteArray),
 Ad s false n t v=true->C8 w0 A s->Ao w0 v A1 A2 A3->jf w0->w0.heap.size<=B->Below B w0 w->B<=w.heap.size->CP w B b T->T.size+(Ae s n t v).size<=140737488355328 ->
 Calls Tryz.prog 44 #[.pointer (some ⟨b,0,none⟩),.agg #[.slice A s.length c],.int .i64 t,v.v A1 c1 A2 c2 A3 c3] w fun e w'=>e = .returned (.tuple #[])/\CP w' B b (T++Ae s n t v)/\Below B w w'/\YU b w w'
def IW (s:List Aa) (A:zo) (c:Nat) (n:Nat) (k:Int):Prop:=∀ (t:Int) (v:Val) (A1:zo) (c1:Nat) (A2:zo) (c2:Nat) (A3:zo) (c3:Nat) (w0 w:World) (B b:Nat) (T:ByteArray),
 (AO s t).kind=k->Ad s false (n+1) t v=true->C8 w0 A s->Ao w0 v A1 A2 A3->jf w0->w0.heap.size<=B->Below B w0 w->B<=w.heap.size->CP w B b T->T.size+(Ae s (n+1) t v).size<=140737488355328 ->
 Calls Tryz.prog 44 #[.pointer (some ⟨b,0,none⟩),.agg #[.slice A s.length c],.int .i64 t,v.v A1 c1 A2 c2 A3 c3] w fun e w'=>e = .returned (.tuple #[])/\CP w' B b (T++Ae s (n+1) t v)/\Below B w w'/\YU b w w'
theorem Vl (n:Int) (t:Aa) (As:zo) (cs:Nat) (Am:zo) (cm:Nat) (w:World) (ht:JY w t As Am) :
  Calls Tryz.prog 68 #[t.v As cs Am cm,.int .i64 n] w fun e w'=>∃r:Int,e = .returned (.tuple #[.int .i64 r,.bool (t.AV.any fun y=>decide (y.id=n))])/\((t.AV.any fun y=>decide (y.id=n))=true->r=Bg (fun y:Bq=>decide (y.id=n)) t.AV)/\Below w.heap.size w w' :=
 (Mh n t As cs Am cm w ht).mono fun e w' ⟨h1,h2⟩=>⟨_,h1.trans (by rw[FJ]),fun h=>by
  rw[<-FJ] at h;exact Pd (by have:=AAe h;omega),h2⟩
theorem M6 {α:Type} {l:List α} (h:0<l.length):∃y r,l=y::r/\l[0]=y:=by
 cases l with
 | nil=>cases h
 | cons y r=>exact ⟨y,r,rfl,rfl⟩
section
variable {f:Int->Val->ByteArray} {x:Aa} {v:Val}
theorem ZV (e:x.kind=9) (h:0<v.items.length):Bd f x v=⟨#[115,111,109,101,40]⟩++f x.elem v.items[0]++⟨#[41]⟩:=by
 obtain ⟨y,r,h1,h2⟩:=M6 h;rw[h2,wL e,h1]
theorem gI (e:x.kind=6) {m:AY} (hf:x.AA.find? (fun y=>decide (y.id=v.id))=some m) (h:0<v.items.length):Bd f x v=m.name++⟨#[40]⟩++f m.type v.items[0]++⟨#[41]⟩:=by
 obtain ⟨y,r,h1,h2⟩:=M6 h;rw[h2,wM e,hf,h1]
theorem nA (e:x.kind=6) (hf:x.AA.find? (fun y=>decide (y.id=v.id))=none) (h:0<v.rest.length):Bd f x v=⟨#[64]⟩++CX v.id++⟨#[40]⟩++LG (v.rest[0]).data++⟨#[41]⟩:=by
 obtain ⟨y,r,h1,h2⟩:=M6 h;rw[h2,wM e,hf,h1]
end
theorem bK {s:List Aa} {A:zo} {c n:Nat} (_hv:zQ s=0) (hn:DI s) (ih:WriteAt s A c n):IW s A c n 7:=by
 intro t v A1 c1 A2 c2 A3 c3 w0 w B b T e hf hs hr htb hg hb0 hB hbl hsz
 obtain ⟨i0,i1,i2,i3⟩:=Bt hf;obtain ⟨tn,rfl⟩:=AAY i0;have htn:tn<s.length:=by omega
 have hln:=hs.1.lt (by omega)
 rw[zT htn] at i2 i3 e;have Gc:Hid (Ae s (n+1) (tn:Int) v=Bd (Ae s n) s[tn] v):=by show _=_;rw[Ae,zT htn]
 have oL:=zh (hn _ (AAU htn));obtain ⟨Bw,H5,H7⟩:=zy w (.cells #[.slice A s.length c] 31) (v.box A1 c1 A2 c2 A3 c3);have EI:=zh ih;have HS:=zh hs;have HR:=zh hr;have KJ:=zh htb;have HG:=zh hg;have HB0:=zh hb0;have Jh:=zh hB;have F5:=zh hbl;have hblt:=hbl.lt;obtain ⟨L,hL⟩:∃L,Ae s (n+1) (tn:Int) v=L:=⟨_,rfl⟩;rw[hL] at hsz Gc;simp only[hL];have Ee:=zh hsz
 have HU:Hid (Below w0.heap.size w0 ((w.alloc (.cells #[.slice A s.length c] 31)).alloc (v.box A1 c1 A2 c2 A3 c3))):=(hb0.trans (Bw.out.mono hB)).mono hg;obtain ⟨bq,oq,As,cs,Am,cm,hA,htr,t0,t1,t2,t3,t4,t5,t6,t7,t8,t9⟩:=hs.JX htn;clear hL hf ih hs hr htb hg hb0 hB hbl hsz _hv hn i0 i1;subst hA;generalize s[tn]=x at *;have Hz:=zh htr;have Fe:=zh i3;have jM:=zh (i2.trans e);have HK:=zh e
 clear htr i3 i2 e;replace t0:=zA HU t0;replace t1:=zA HU t1;replace t2:=zA HU t2;replace t3:=zA HU t3;replace t4:=zA HU t4;replace t5:=zA HU t5;replace t6:=zA HU t6;replace t7:=zA HU t7;replace t8:=zA HU t8;replace t9:=zA HU t9;have h1:(0:Int)<=(tn:Int):=by omega
 have h2:(tn:Int)<(s.length:Int):=by omega
 go_enter Tryz.func44,Tryz.ntmps44
 go_upto_region 1 with fail
 have hsz2:Hid (((w.alloc (.cells #[.slice (some ⟨bq,oq,none⟩) s.length c] 31)).alloc (v.box A1 c1 A2 c2 A3 c3)).heap.size=w.heap.size+2):=by show _=_;simp
 generalize (w.alloc (.cells #[.slice (some ⟨bq,oq,none⟩) s.length c] 31)).alloc (v.box A1 c1 A2 c2 A3 c3)=W2 at *;have x0:=zb H5;go_upto_region 2 with fail
 clear t0 t1 t2 t3 t4 t5 t6 t7 t8 t9 x0;have BS:=zh (zD W2 (x.box As cs Am cm));have ST:Hid (EA s (some ⟨bq,oq,none⟩) c x As cs Am cm v A1 c1 A2 c2 A3 c3 B b w.heap.size (w.heap.size+1) W2.heap.size w (W2.alloc (x.box As cs Am cm)) (T)):=by
  have hz:=hsz2.out;have hge:=Jh.out;exact ⟨(F5.out.below Bw).below BS,(Bw.out.mono Jh.out).trans (BS.out.mono (by omega)),Cb (yD Bw) (yD BS),by omega,by omega,by omega,zE H5 BS,zE H7 BS,AAL W2 _,by have:=Jh.out;have:=BS.out.size;omega⟩
 generalize W2.alloc (x.box As cs Am cm)=W3 at *;generalize W2.heap.size=p8 at *;clear hsz2 hblt Bw H5 H7 F5 HU BS h1 h2;obtain ⟨q1,q2,q3,q4,q5,q6,q7⟩:=zk7 HK;obtain ⟨v0,v1,v2,v3,v4,v5,v6,v7⟩:=zF ST.out.h7;obtain ⟨b0,b1,b2,b3,b4,b5,b6,b7,b8,b9⟩:=zG ST.out.h8;have x0:=ST.out.c5;have HL:=zh (Gc.out.trans (AA7 HK));have HF:=zh (xE HK Fe);have rZ:=HR.out.items.1.lt (by omega)
 have HZ:Hid (T.size+(1+(FN (v.items.map (Ae s n x.elem))).size+1)<=140737488355328):=by have:=Ee.out;rw[HL.out,zH,zH] at this;exact this
 go_wp2_with fail
 refine (ST.out.FD.byte 91 (by have:=HZ.out;omega) ST.out.ge).mono ?_
 rintro e' w5 ⟨rfl,g1,g2,g3⟩;have EN:=zh (ST.out.step g1 g2 g3);clear g1 g2 g3;clear v0 v1 v2 v3 v4 v5 v6 v7 b0 b1 b2 b3 b4 b5 b6 b7 b8 b9 x0;obtain ⟨v0,v1,v2,v3,v4,v5,v6,v7⟩:=zF EN.out.h7;obtain ⟨b0,b1,b2,b3,b4,b5,b6,b7,b8,b9⟩:=zG EN.out.h8;have x0:=EN.out.c5;go_wp2_with fail
 go_loopw [187] (fun i wr=>∃k:Nat,k<=v.items.length/\i = .int .i64 (k:Int)/\Hid (EA s (some ⟨bq,oq,none⟩) c x As cs Am cm v A1 c1 A2 c2 A3 c3 B b w.heap.size (w.heap.size+1) p8 w wr (T++Cq 91++Dw (fun i=>(v.items.map (Ae s n x.elem)).getD i ⟨#[]⟩) k))) (fun i _=>v.items.length - (intOf i).toNat)
 case atStart=>exact ⟨0,by omega,rfl,by have h:=EN.out;rw[show T++Cq 91=T++Cq 91++Dw (fun i=>(v.items.map (Ae s n x.elem)).getD i ⟨#[]⟩) 0 from (OX _).symm] at h;exact h⟩
 case round =>
  obtain ⟨k,hk,rfl,hh⟩:=hrel;have Eg:=zh hh.out;clear v0 v1 v2 v3 v4 v5 v6 v7 b0 b1 b2 b3 b4 b5 b6 b7 b8 b9 x0 hh
  by_cases hlt:k<v.items.length
  ·obtain ⟨ib,io,E1,e1,E2,e2,E3,e3,hI,hir,a0,a1,a2,a3,a4,a5,a6,a7⟩:=HR.out.items.at8 hlt
   have og:=zh hir;clear hir;replace a0:=zA (Eg.out.up HB0 HG) a0;replace a1:=zA (Eg.out.up HB0 HG) a1;replace a2:=zA (Eg.out.up HB0 HG) a2;replace a3:=zA (Eg.out.up HB0 HG) a3;replace a4:=zA (Eg.out.up HB0 HG) a4;replace a5:=zA (Eg.out.up HB0 HG) a5;replace a6:=zA (Eg.out.up HB0 HG) a6;replace a7:=zA (Eg.out.up HB0 HG) a7
   have hmem:=HF.out _ (AAU hlt);have YZ:=zh (KH (l:=v.items.map (Ae s n x.elem)) (k:=k) (by simpa using hlt))
   have aY:=zh (KG (l:=v.items.map (Ae s n x.elem)) (k:=k) (by simpa using hlt))
   rw[List.getElem_map] at YZ aY;generalize v.items[k]=y at *;have Yf:=zh hmem;clear hmem;generalize hCK:Dw (fun i=>(v.items.map (Ae s n x.elem)).getD i ⟨#[]⟩) k=CK at *
   generalize hCM:(if k=0 then (⟨#[]⟩:ByteArray) else ⟨#[44,32]⟩)=CM at *
   have IZ:Hid ((T++Cq 91++CK).size+CM.size+(Ae s n x.elem y).size<=140737488355328):=by have:=HZ.out;have:=YZ.out;rw[zH,zH];show _+1+_+_+_<=_;omega
   subst hI;have h1:(0:Int)<=(k:Int):=by omega
   have h2:(k:Int)<(v.items.length:Int):=by omega
   have hblt:=Eg.out.FD.lt;have NP:=zh (zD wr (y.box E1 e1 E2 e2 E3 e3));have ak:=zh (AAL wr (y.box E1 e1 E2 e2 E3 e3));have Sq:=zh (Eg.out.below NP);obtain ⟨v0,v1,v2,v3,v4,v5,v6,v7⟩:=zF Eg.out.h7;obtain ⟨b0,b1,b2,b3,b4,b5,b6,b7,b8,b9⟩:=zG Eg.out.h8;have x0:=Eg.out.c5;go_upto_region 42 with fail
   clear v0 v1 v2 v3 v4 v5 v6 v7 b0 b1 b2 b3 b4 b5 b6 b7 b8 b9 x0 a0 a1 a2 a3 a4 a5 a6 a7;generalize wr.alloc (y.box E1 e1 E2 e2 E3 e3)=W4 at *;generalize wr.heap.size=p18 at *;have hne:p18≠b:=by omega
   go_wp2_with fail
   refine (KF Sq.out.FD k (by rw[hCM];have:=IZ.out;omega) Sq.out.ge).mono ?_
   rintro e' w6 ⟨rfl,g1,g2,g3⟩;rw[hCM] at g1;have GZ:=zh (Sq.out.step g1 g2 g3);have au:=zh (g3.blk ak hne (by decide))
   clear g1 g2 g3;obtain ⟨v0,v1,v2,v3,v4,v5,v6,v7⟩:=zF GZ.out.h7;obtain ⟨b0,b1,b2,b3,b4,b5,b6,b7,b8,b9⟩:=zG GZ.out.h8;have x0:=GZ.out.c5;obtain ⟨y0,y1,y2,y3,y4,y5,y6,y7⟩:=zF au;go_wp2_with fail;refine (EI.out x.elem y E1 e1 E2 e2 E3 e3 w0 _ B b _ Yf HS og KJ HG (HB0.out.trans GZ.out.fr) GZ.out.ge GZ.out.FD (by have:=IZ.out;rw[zH];omega)).mono ?_
   rintro e' w7 ⟨rfl,g1,g2,g3⟩;have Nq:=zh (GZ.out.step g1 g2 g3);clear g1 g2 g3;clear v0 v1 v2 v3 v4 v5 v6 v7 b0 b1 b2 b3 b4 b5 b6 b7 b8 b9 x0 y0 y1 y2 y3 y4 y5 y6 y7;have HE:Hid (T++Cq 91++CK++CM++Ae s n x.elem y=T++Cq 91++Dw (fun i=>(v.items.map (Ae s n x.elem)).getD i ⟨#[]⟩) (k+1)):=by show _=_;rw[aY.out];simp only[AAk]
   go_wp2
   go_roundw
   case rel=>exact ⟨k+1,by omega,by go_num,by have h:=Nq.out;rw[HE.out] at h;exact h⟩
   case measure=>simp[intOf];omega
  ·obtain rfl:k=v.items.length:=by omega
   have HE:Hid (Dw (fun i=>(v.items.map (Ae s n x.elem)).getD i ⟨#[]⟩) v.items.length=FN (v.items.map (Ae s n x.elem))):=by show _=_;unfold FN;rw[AAd]
   have YT:=Eg;rw[HE.out] at YT;go_wp2_with fail;refine (YT.out.FD.byte 93 (by have:=HZ.out;rw[zH,zH];show _+1+_+1<=_;omega) YT.out.ge).mono ?_
   rintro e' w8 ⟨rfl,g1,g2,g3⟩;have Kj:=zh (YT.out.step g1 g2 g3);clear g1 g2 g3;go_wp2;refine bodyPost_end (results_none Tryz.results44 _ _ _) rfl ⟨rfl,by rw[HL.out];(have h:=Kj.out.FD;simp only[AAk] at h ⊢;exact h),Kj.out.fr,Kj.out.ot⟩
end Go.Proofs.YthkkllmmbefedaaGreatDoor



