/-
  A row of types that is built (as in canon's CA0).
-/
import Derived.Test.YthkkllmmbefedaaGreatDoorQGA9
import Derived.Test.YthkkllmmbefedaaGreatDoorShelfB
import Derived.Test.YthkkllmmbefedaaGreatDoorQGA3
import Derived.Test.YthkkllmmbefedaaGreatDoorQGA7
import Derived.Test.YthkkllmmbefedaaGreatDoorQGA8
import Derived.Test.YthkkllmmbefedaaGreatDoorQGA6
import Derived.Test.YthkkllmmbefedaaGreatDoorQGA5
import Derived.Test.YthkkllmmbefedaaGreatDoorQGA2
import Derived.Test.YthkkllmmbefedaaGreatDoorQGA1
import Derived.Shelf.Strings.BuilderK
namespace Go.Proofs.YthkkllmmbefedaaGreatDoor
open Go.RowKit
set_option maxHeartbeats 16000000
set_option maxRecDepth 100000
theorem isBuilderF_below {B b:Nat} {bs:List Value} {w w':World} (h:Lib.IsBuilderF 57 5 B b bs w) (hb:Below w.heap.size w w'):Lib.IsBuilderF 57 5 B b bs w':=by
 have hg:w.grownBy w' none:=⟨hb.os,hb.tape,hb.output,hb.size,fun k hk _=>hb.block k hk⟩
 have step:∀p,Lib.BuilderAtF 57 5 B b p bs w→Lib.BuilderAtF 57 5 B b p bs w':=fun p h=>by
  obtain ⟨hB,v,hbk,hown,hne⟩:=h;have hlt:=(zg.1 hbk).1;refine ⟨hB,v,(hb.block b hlt).trans hbk,?_,hne⟩
  rcases hv:v.ownBlock with _|g
  ·exact hown.kept hg (Or.inl hv)
  ·exact hown.kept hg (Or.inr (by rw[hv];simp))
 exact h.imp (step _) (step _)
def BldF (w:World) (B b:Nat) (s:ByteArray):Prop:=Lib.IsBuilderF 57 5 B b (Lib.strCells s) w
abbrev Oth (b:Nat) (w w':World):Prop:=Lib.OthersKept 5 (some b) w w'
section
variable {w w':World} {B b:Nat} {s:ByteArray}
theorem BldF.below (h:BldF w B b s) (hb:Below w.heap.size w w'):BldF w' B b s:=isBuilderF_below h hb
theorem BldF.new (w:World) (hB:B≤w.heap.size):BldF (w.alloc (.cells #[.pointer none,.slice none 0 0] 57)) B w.heap.size ⟨#[]⟩:=Lib.IsBuilderF.of (BldAt.new w hB)
theorem BldF.write (h:BldF w B b s) (x:ByteArray) (hl:s.size+x.size≤140737488355328) (hB:B≤w.heap.size) :
  Calls Tryz.prog 23 #[.pointer (some ⟨b,0,none⟩),.string x] w fun e w'=>e = .returned (.tuple #[.int .i64 x.size,.nilIface])∧BldF w' B b (s++x)∧Below B w w'∧Oth b w w' :=
 (Any.Builder_WriteString_k lays166 extra166 B b (Lib.strCells s) x w h (by rw[Lib.strCells_length];exact hl) hB).mono fun _ _ ⟨h1,h2,h3,h4⟩=>⟨h1,by rw[strCells_app] at h2;exact Or.inr h2,h3,h4⟩
theorem BldF.str (h:BldF w B b s) (hB:B≤w.heap.size) :
  Calls Tryz.prog 25 #[.pointer (some ⟨b,0,none⟩)] w fun e w'=>e = .returned (.string s)∧Below B w w':=by
 have h':Lib.IsBuilderF 57 5 B b (Lib.byteCells s.data.toList) w:=by rw[←Lib.strCells_eq];exact h
 refine (Any.Builder_String_any_k Tryz.lays169 Tryz.Builder_Extra_169 B b s.data.toList w h' hB).mono fun _ _ ⟨h1,_,h3,_⟩=>⟨?_,h3⟩
 rw[h1]
end
theorem BldF.lt {w:World} {B b:Nat} {s:ByteArray} (h:BldF w B b s):b<w.heap.size:=by
 rcases h with ⟨_,_,h,_⟩|⟨_,_,h,_⟩ <;> exact (zg.1 h).1
theorem Oth.blk {b k:Nat} {w w':World} {cs:Array Value} {t:TypeId} {fz:Nat×Nat} (h:Oth b w w') (hk:w.heap[k]? = some (.cells cs t fz)) (hkb:k≠b) (ht:t≠5):w'.heap[k]? = some (.cells cs t fz) :=
 h k _ hk (fun e=>hkb (Option.some.inj e)) fun _ _ e=>by injection e with _ e2;exact ht e2
theorem lays167:Go.Proofs.Lays.n167 Tryz.prog ren166:={ lays166 with
 f167:=Tryz.func69.trans (congrArg some (by kernel_rfl))
 t5:=Tryz.underlying5
 a5:=Tryz.isAgg5
 z5:=Tryz.sizeOf5
 v5:=Tryz.zeroValue5 }
def oneB (c:UInt8):ByteArray:=⟨#[c]⟩
theorem strCells_one (c:UInt8):Lib.strCells (oneB c)=[.int .u8 c.toNat]:=rfl
theorem BldF.byte {w:World} {B b:Nat} {s:ByteArray} (h:BldF w B b s) (c:UInt8) (hl:s.size+1≤140737488355328) (hB:B≤w.heap.size) :
  Calls Tryz.prog 69 #[.pointer (some ⟨b,0,none⟩),.int .u8 c.toNat] w fun e w'=>e = .returned .nilIface∧BldF w' B b (s++oneB c)∧Below B w w'∧Oth b w w' :=
 (Any.Builder_WriteByte_k lays167 extra166 B b (Lib.strCells s) c.toNat w h (by rw[Lib.strCells_length];exact hl) hB).mono fun _ _ ⟨h1,h2,h3,h4⟩=>⟨h1,by rw[←strCells_one,strCells_app] at h2;exact Or.inr h2,h3,h4⟩
theorem boolText_any (b:Bool) (w:World) :
  Calls Tryz.prog 66 #[.bool b] w fun e w'=>e = .returned (.string (if b then ⟨#[116,114,117,101]⟩ else ⟨#[102,97,108,115,101]⟩))∧w'=w :=
 (Tryz.strconv_FormatBool b w).mono fun _ _ ⟨h1,h2⟩=>⟨by rw[h1];cases b <;> rfl,h2⟩
theorem comma_any {w:World} {B b:Nat} {s:ByteArray} (h:BldF w B b s) (i:Nat) (hl:s.size+(if i=0 then (⟨#[]⟩:ByteArray) else ⟨#[44,32]⟩).size≤140737488355328) (hB:B≤w.heap.size) :
  Calls Tryz.prog 70 #[.pointer (some ⟨b,0,none⟩),.int .i64 i] w fun e w'=>e = .returned (.tuple #[])∧BldF w' B b (s++(if i=0 then ⟨#[]⟩ else ⟨#[44,32]⟩))∧Below B w w'∧Oth b w w':=by
 have H:=zh h;have HG:=zh hB;have hlt:=h.lt
 by_cases hi:i=0
 ·subst hi
  clear h hl
  go_enter Tryz.func70,Tryz.ntmps70
  go_wp2
  refine bodyPost_end (results_none (by rfl) _ _ _) rfl ⟨rfl,?_,Below.refl _ _,fun _ _ h _ _=>h⟩
  show BldF w B b (s++ByteArray.empty)
  rw[ByteArray.append_empty];exact H.out
 ·have HL:Hid (s.size+(⟨#[44,32]⟩:ByteArray).size≤140737488355328):=by rw[if_neg hi] at hl;exact hl
  have p1:(0:Int)<(i:Int):=by omega
  rw[if_neg hi];clear h hl hi
  go_enter Tryz.func70,Tryz.ntmps70
  go_wp2_with fail
  refine (H.out.write ⟨#[44,32]⟩ HL.out HG.out).mono ?_;rintro e w1 ⟨rfl,h1,h2,h3⟩;have H1:=zh h1;have H2:=zh h2;have H3:=zh h3;clear h1 h2 h3;go_wp2;refine bodyPost_end (results_none (by rfl) _ _ _) rfl ⟨rfl,H1.out,H2.out,H3.out⟩
theorem hexText_get (n:Nat) (h:n<16):(ByteArray.mk #[48,49,50,51,52,53,54,55,56,57,97,98,99,100,101,102]).data.getD n 0=hexB n:=by
 have:∀m:Fin 16,(ByteArray.mk #[48,49,50,51,52,53,54,55,56,57,97,98,99,100,101,102]).data.getD m.1 0=hexB m.1:=by decide
 exact this ⟨n,h⟩
theorem hexG (n:Nat) (h:n<16) {h'}:(ByteArray.mk #[48,49,50,51,52,53,54,55,56,57,97,98,99,100,101,102])[n]'h'=hexB n:=by
 rw[←hexText_get n h]
 show Array.getInternal _ n _=_
 rw[Array.getD_eq_getD_getElem?,Array.getElem?_eq_getElem (by exact h)]
 rfl
theorem quK_succ {s:ByteArray} {k:Nat} (h:k<s.size):quK s (k+1)=quK s k++quB s[k]:=by
 rw[quK]
 congr 2
 show s.data.getD k 0=s.data[k]
 rw[Array.getD_eq_getD_getElem?,Array.getElem?_eq_getElem h];rfl
theorem app_one (a:ByteArray) (x y:UInt8):a++oneB x++oneB y=a++(⟨#[x,y]⟩:ByteArray):=by
 rw[ByteArray.append_assoc];rfl
theorem quote_any (s:ByteArray) (hl:(quD s).size≤140737488355328) (w:World) :
  Calls Tryz.prog 67 #[.string s] w fun e w'=>e = .returned (.string (quD s))∧Below w.heap.size w w':=by
 have HL:Hid ((quK s s.size).size+1≤140737488355328):=by
  show _≤_
  unfold quD at hl;rw[ByteArray.size_append] at hl;exact hl
 have hz:s.size<9223372036854775807:=by
  have:∀k,k≤(quK s k).size:=fun k=>by
   induction k with
   | zero=>exact Nat.zero_le _
   | succ k ih =>
    have:1≤(quB (s.data.getD k 0)).size:=by
     unfold quB
     repeat' split
     all_goals (first|(show 1≤2;omega)|(show 1≤4;omega)|exact Nat.le_refl _)
    unfold quK;rw[ByteArray.size_append];omega
  have:=this s.size;have:=HL.out
  omega
 have HB0:=zh (zD w (.cells #[.pointer none,.slice none 0 0] 57));have HN0:=zh (BldF.new w (Nat.le_refl _));clear hl
 go_enter Tryz.func67,Tryz.ntmps67
 go_wp2_with fail
 have hs0:w.heap.size<(w.alloc (.cells #[.pointer none,.slice none 0 0] 57)).heap.size:=by simp
 generalize w.alloc (.cells #[.pointer none,.slice none 0 0] 57)=W1 at *;refine (HN0.out.byte 34 (by show 0+1≤_;omega) HB0.out.size).mono ?_
 rintro e w1 ⟨rfl,h1,h2,_⟩;have HN1:Hid (BldF w1 w.heap.size w.heap.size (quK s 0)):=by
  have e:(⟨#[]⟩:ByteArray)++oneB 34=quK s 0:=rfl;rw[e] at h1;exact h1
 have HB1:=zh (HB0.out.trans h2);clear h1 h2 hs0;go_wp2_with fail
 go_loopw [9] (fun i wr=>∃k:Nat,k≤s.size∧i = .int .i64 k∧Hid (BldF wr w.heap.size w.heap.size (quK s k)∧Below w.heap.size w wr)) (fun i _=>s.size - (intOf i).toNat)
 case atStart=>exact ⟨0,by omega,rfl,HN1.out,HB1.out⟩
 case round =>
  obtain ⟨k,hk,rfl,hh⟩:=hrel;have HN:=zh hh.out.1;have HB:=zh hh.out.2;clear hh
  by_cases hlt:k<s.size
  ·have HS1:=zh (quK_succ hlt)
   have HZ:Hid ((quK s (k+1)).size+1≤140737488355328):=by
    have:=HL.out;have:=quK_mono s (show k+1≤s.size by omega)
    show _≤_
    omega
   have h1:(0:Int)≤(k:Int):=by omega
   have h2:(k:Int)<(s.size:Int):=by omega
   go_upto_region 8 with fail
   generalize s[k]=ch at *;generalize hQ:quK s k=Q at *;have hch:ch.toNat<256:=ch.toNat_lt;have HT:Hid (∀X,X=quB ch→Q++X=quK s (k+1)):=fun X hX=>by rw[hX,HS1.out]
   have HZ2:Hid (∀X,X=quB ch→Q.size+X.size+1≤140737488355328):=fun X hX=>by
    have:=HZ.out;rw[←HT.out X hX,ByteArray.size_append] at this;exact this
   have HQB:Hid (quB ch=if ch.toNat=34∨ch.toNat=92 then ⟨#[92,ch]⟩ else if ch.toNat=10 then ⟨#[92,110]⟩ else if ch.toNat<32∨126<ch.toNat then ⟨#[92,120,hexB (ch.toNat / 16),hexB (ch.toNat % 16)]⟩ else ⟨#[ch]⟩):=rfl
   clear HS1 HZ hQ
   by_cases c1:ch.toNat=34∨ch.toNat=92
   ·have HC:=zh (HQB.out.trans (if_pos c1))
    have HZ3:=zh (HZ2.out _ HC.out.symm);have HT3:=zh (HT.out _ HC.out.symm);have HD:(ch.toNat=34)∨(¬ ch.toNat=34∧ch.toNat=92):=by omega
    clear c1 HC HZ2 HT HQB
    rcases HD with p34|⟨p34,p92⟩
    ·have q1:((ch.toNat:Int)==34)=true:=by simp[p34]
     clear p34;go_wp2_with fail;refine (HN.out.byte 92 (by have:=HZ3.out;rw[show (ByteArray.mk #[92,ch]).size=2 from rfl] at this;omega) HB.out.size).mono ?_
     rintro e w5 ⟨rfl,g1,g2,_⟩;have HN5:=zh g1;have HB5:=zh (HB.out.trans g2);clear g1 g2;go_wp2_with fail;refine (HN5.out.byte ch (by have:=HZ3.out;rw[show (ByteArray.mk #[92,ch]).size=2 from rfl] at this;rw[ByteArray.size_append];show _+1+1≤_;omega) HB5.out.size).mono ?_
     rintro e w6 ⟨rfl,g1,g2,_⟩;have HN6:=zh g1;have HB6:=zh (HB5.out.trans g2);clear g1 g2;have HF:Hid (BldF w6 w.heap.size w.heap.size (quK s (k+1))):=by
      have h:=HN6.out
      show BldF _ _ _ _
      rw[app_one,HT3.out] at h;exact h
     clear HN6;go_wp2;go_roundw
     case rel=>exact ⟨k+1,by omega,by go_num,HF.out,HB6.out⟩
     case measure=>simp[intOf];omega
    ·have q1:((ch.toNat:Int)==34)=false:=by simp;omega
     have q2:((ch.toNat:Int)==92)=true:=by simp[p92]
     clear p34 p92;go_wp2_with fail;refine (HN.out.byte 92 (by have:=HZ3.out;rw[show (ByteArray.mk #[92,ch]).size=2 from rfl] at this;omega) HB.out.size).mono ?_
     rintro e w5 ⟨rfl,g1,g2,_⟩;have HN5:=zh g1;have HB5:=zh (HB.out.trans g2);clear g1 g2;go_wp2_with fail;refine (HN5.out.byte ch (by have:=HZ3.out;rw[show (ByteArray.mk #[92,ch]).size=2 from rfl] at this;rw[ByteArray.size_append];show _+1+1≤_;omega) HB5.out.size).mono ?_
     rintro e w6 ⟨rfl,g1,g2,_⟩;have HN6:=zh g1;have HB6:=zh (HB5.out.trans g2);clear g1 g2;have HF:Hid (BldF w6 w.heap.size w.heap.size (quK s (k+1))):=by
      have h:=HN6.out
      show BldF _ _ _ _
      rw[app_one,HT3.out] at h;exact h
     clear HN6;go_wp2;go_roundw
     case rel=>exact ⟨k+1,by omega,by go_num,HF.out,HB6.out⟩
     case measure=>simp[intOf];omega
   ·have q1:((ch.toNat:Int)==34)=false:=by simp;omega
    have q2:((ch.toNat:Int)==92)=false:=by simp;omega
    have HQ1:=zh (HQB.out.trans (if_neg c1))
    by_cases c2:ch.toNat=10
    ·have HC:=zh (HQ1.out.trans (if_pos c2))
     have HZ3:=zh (HZ2.out _ HC.out.symm);have HT3:=zh (HT.out _ HC.out.symm);have q3:((ch.toNat:Int)==10)=true:=by simp[c2]
     clear c1 c2 HC HZ2 HT HQB HQ1;go_wp2_with fail;refine (HN.out.write ⟨#[92,110]⟩ (by have:=HZ3.out;omega) HB.out.size).mono ?_
     rintro e w5 ⟨rfl,g1,g2,_⟩;have HN5:=zh g1;have HB5:=zh (HB.out.trans g2);clear g1 g2;have HF:Hid (BldF w5 w.heap.size w.heap.size (quK s (k+1))):=by
      have h:=HN5.out
      show BldF _ _ _ _
      rw[HT3.out] at h;exact h
     clear HN5;go_wp2;go_roundw
     case rel=>exact ⟨k+1,by omega,by go_num,HF.out,HB5.out⟩
     case measure=>simp[intOf];omega
    ·have q3:((ch.toNat:Int)==10)=false:=by simp;omega
     have HQ2:=zh (HQ1.out.trans (if_neg c2))
     by_cases c3:ch.toNat<32∨126<ch.toNat
     ·have HC:=zh (HQ2.out.trans (if_pos c3))
      have HZ3:=zh (HZ2.out _ HC.out.symm);have HT3:=zh (HT.out _ HC.out.symm);have HD:(ch.toNat:Int)<32∨(¬ (ch.toNat:Int)<32∧(126:Int)<(ch.toNat:Int)):=by omega
      clear c1 c2 c3 HC HZ2 HT HQB HQ1 HQ2
      rcases HD with p1|⟨p1,p2⟩
      ·go_wp2_with fail
       refine (HN.out.write ⟨#[92,120]⟩ (by have:=HZ3.out;rw[show (ByteArray.mk #[92,120,hexB (ch.toNat / 16),hexB (ch.toNat % 16)]).size=4 from rfl] at this;show _+2≤_;omega) HB.out.size).mono ?_
       rintro e w5 ⟨rfl,g1,g2,_⟩;have HN5:=zh g1;have HB5:=zh (HB.out.trans g2);clear g1 g2;go_wp2_with fail;refine (HN5.out.byte _ (by have:=HZ3.out;rw[show (ByteArray.mk #[92,120,hexB (ch.toNat / 16),hexB (ch.toNat % 16)]).size=4 from rfl] at this;rw[ByteArray.size_append];show _+2+1≤_;omega) HB5.out.size).mono ?_
       rintro e w6 ⟨rfl,g1,g2,_⟩;have HN6:=zh g1;have HB6:=zh (HB5.out.trans g2);clear g1 g2;go_wp2_with fail;refine (HN6.out.byte _ (by have:=HZ3.out;rw[show (ByteArray.mk #[92,120,hexB (ch.toNat / 16),hexB (ch.toNat % 16)]).size=4 from rfl] at this;rw[ByteArray.size_append,ByteArray.size_append];show _+2+1+1≤_;omega) HB6.out.size).mono ?_
       rintro e w7 ⟨rfl,g1,g2,_⟩;have HN7:=zh g1;have HB7:=zh (HB6.out.trans g2);clear g1 g2;have HF:Hid (BldF w7 w.heap.size w.heap.size (quK s (k+1))):=by
        have h:=HN7.out
        show BldF _ _ _ _
        rw[hexG _ (by omega),hexG _ (by omega),show Q++(⟨#[92,120]⟩:ByteArray)++oneB (hexB (ch.toNat / 16))++oneB (hexB (ch.toNat % 16))=Q++(⟨#[92,120,hexB (ch.toNat / 16),hexB (ch.toNat % 16)]⟩:ByteArray) by rw[ByteArray.append_assoc,ByteArray.append_assoc];rfl,HT3.out] at h;exact h
       clear HN7;go_wp2;go_roundw
       case rel=>exact ⟨k+1,by omega,by go_num,HF.out,HB7.out⟩
       case measure=>simp[intOf];omega
      ·go_wp2_with fail
       refine (HN.out.write ⟨#[92,120]⟩ (by have:=HZ3.out;rw[show (ByteArray.mk #[92,120,hexB (ch.toNat / 16),hexB (ch.toNat % 16)]).size=4 from rfl] at this;show _+2≤_;omega) HB.out.size).mono ?_
       rintro e w5 ⟨rfl,g1,g2,_⟩;have HN5:=zh g1;have HB5:=zh (HB.out.trans g2);clear g1 g2;go_wp2_with fail;refine (HN5.out.byte _ (by have:=HZ3.out;rw[show (ByteArray.mk #[92,120,hexB (ch.toNat / 16),hexB (ch.toNat % 16)]).size=4 from rfl] at this;rw[ByteArray.size_append];show _+2+1≤_;omega) HB5.out.size).mono ?_
       rintro e w6 ⟨rfl,g1,g2,_⟩;have HN6:=zh g1;have HB6:=zh (HB5.out.trans g2);clear g1 g2;go_wp2_with fail;refine (HN6.out.byte _ (by have:=HZ3.out;rw[show (ByteArray.mk #[92,120,hexB (ch.toNat / 16),hexB (ch.toNat % 16)]).size=4 from rfl] at this;rw[ByteArray.size_append,ByteArray.size_append];show _+2+1+1≤_;omega) HB6.out.size).mono ?_
       rintro e w7 ⟨rfl,g1,g2,_⟩;have HN7:=zh g1;have HB7:=zh (HB6.out.trans g2);clear g1 g2;have HF:Hid (BldF w7 w.heap.size w.heap.size (quK s (k+1))):=by
        have h:=HN7.out
        show BldF _ _ _ _
        rw[hexG _ (by omega),hexG _ (by omega),show Q++(⟨#[92,120]⟩:ByteArray)++oneB (hexB (ch.toNat / 16))++oneB (hexB (ch.toNat % 16))=Q++(⟨#[92,120,hexB (ch.toNat / 16),hexB (ch.toNat % 16)]⟩:ByteArray) by rw[ByteArray.append_assoc,ByteArray.append_assoc];rfl,HT3.out] at h;exact h
       clear HN7;go_wp2;go_roundw
       case rel=>exact ⟨k+1,by omega,by go_num,HF.out,HB7.out⟩
       case measure=>simp[intOf];omega
     ·have HC:=zh (HQ2.out.trans (if_neg c3))
      have HZ3:=zh (HZ2.out _ HC.out.symm);have HT3:=zh (HT.out _ HC.out.symm);have p1:¬ (ch.toNat:Int)<32:=by omega
      have p2:¬ (126:Int)<(ch.toNat:Int):=by omega
      clear c1 c2 c3 HC HZ2 HT HQB HQ1 HQ2;go_wp2_with fail;refine (HN.out.byte ch (by have:=HZ3.out;rw[show (ByteArray.mk #[ch]).size=1 from rfl] at this;omega) HB.out.size).mono ?_
      rintro e w5 ⟨rfl,g1,g2,_⟩;have HN5:=zh g1;have HB5:=zh (HB.out.trans g2);clear g1 g2;have HF:Hid (BldF w5 w.heap.size w.heap.size (quK s (k+1))):=by
       have h:=HN5.out
       show BldF _ _ _ _
       rw[show Q++oneB ch=Q++(⟨#[ch]⟩:ByteArray) from rfl,HT3.out] at h;exact h
      clear HN5;go_wp2;go_roundw
      case rel=>exact ⟨k+1,by omega,by go_num,HF.out,HB5.out⟩
      case measure=>simp[intOf];omega
  ·obtain rfl:k=s.size:=by omega
   go_wp2_with fail
   refine (HN.out.byte 34 HL.out HB.out.size).mono ?_;rintro e w2 ⟨rfl,h1,h2,_⟩;have HN2:Hid (BldF w2 w.heap.size w.heap.size (quD s)):=h1;have HB2:=zh (HB.out.trans h2);clear h1 h2;go_wp2_with fail;refine (HN2.out.str HB2.out.size).mono ?_;rintro e w3 ⟨rfl,h3⟩;have HB3:=zh (HB2.out.trans h3);clear h3;go_wp2;go_ret;exact ⟨rfl,HB3.out⟩
theorem yD {b:Nat} {w w':World} (hb:Below w.heap.size w w'):Oth b w w':=fun _ _ hk _ _=>zE hk hb
theorem oth_trans {b:Nat} {w w1 w2:World} (h:Oth b w w1) (h':Oth b w1 w2):Oth b w w2:=fun k o hk h1 h2=>h' k o (h k o hk h1 h2) h1 h2
structure WrSt (s:List TyD) (A:zo) (c:Nat) (x:TyD) (As:zo) (cs:Nat) (Am:zo) (cm:Nat) (v:Val) (A1:zo) (c1:Nat) (A2:zo) (c2:Nat) (A3:zo) (c3:Nat) (B b p5 p7 p8:Nat) (ws w:World) (T:ByteArray):Prop where
 bld:BldF w B b T
 fr:Below B ws w
 ot:Oth b ws w
 n5:p5≠b
 n7:p7≠b
 n8:p8≠b
 h5:w.heap[p5]? = some (.cells #[.slice A s.length c] 31)
 h7:w.heap[p7]? = some (v.box A1 c1 A2 c2 A3 c3)
 h8:w.heap[p8]? = some (x.box As cs Am cm)
 ge:B≤w.heap.size
section
variable {s:List TyD} {A:zo} {c:Nat} {x:TyD} {As:zo} {cs:Nat} {Am:zo} {cm:Nat} {v:Val} {A1:zo} {c1:Nat} {A2:zo} {c2:Nat} {A3:zo} {c3:Nat} {B b p5 p7 p8:Nat} {ws w w':World} {T T':ByteArray}
theorem WrSt.step (h:WrSt s A c x As cs Am cm v A1 c1 A2 c2 A3 c3 B b p5 p7 p8 ws w T) (h1:BldF w' B b T') (h2:Below B w w') (h3:Oth b w w'):WrSt s A c x As cs Am cm v A1 c1 A2 c2 A3 c3 B b p5 p7 p8 ws w' T' :=
 ⟨h1,h.fr.trans h2,oth_trans h.ot h3,h.n5,h.n7,h.n8,h3.blk h.h5 h.n5 (by decide),h3.blk h.h7 h.n7 (by decide),h3.blk h.h8 h.n8 (by decide),Nat.le_trans h.ge h2.size⟩
theorem WrSt.below (h:WrSt s A c x As cs Am cm v A1 c1 A2 c2 A3 c3 B b p5 p7 p8 ws w T) (hb:Below w.heap.size w w'):WrSt s A c x As cs Am cm v A1 c1 A2 c2 A3 c3 B b p5 p7 p8 ws w' T :=
 ⟨h.bld.below hb,h.fr.trans (hb.mono h.ge),oth_trans h.ot (yD hb),h.n5,h.n7,h.n8,zE h.h5 hb,zE h.h7 hb,zE h.h8 hb,Nat.le_trans h.ge hb.size⟩
theorem WrSt.c5 (h:WrSt s A c x As cs Am cm v A1 c1 A2 c2 A3 c3 B b p5 p7 p8 ws w T):w.cell? ⟨p5,0,none⟩=some (.slice A s.length c):=by rw[cell_of_row _ _ _ _ _ _ h.h5];rfl
theorem WrSt.fin (h:WrSt s A c x As cs Am cm v A1 c1 A2 c2 A3 c3 B b p5 p7 p8 ws w T):BldF w B b T∧Below B ws w∧Oth b ws w:=⟨h.bld,h.fr,h.ot⟩
theorem WrSt.up {w0:World} (h:WrSt s A c x As cs Am cm v A1 c1 A2 c2 A3 c3 B b p5 p7 p8 ws w T) (hb:Below B w0 ws) (hg:w0.heap.size≤B):Below w0.heap.size w0 w:=(hb.trans h.fr).mono hg
end
def WriteAt (s:List TyD) (A:zo) (c:Nat) (n:Nat):Prop:=∀ (t:Int) (v:Val) (A1:zo) (c1:Nat) (A2:zo) (c2:Nat) (A3:zo) (c3:Nat) (w0 w:World) (B b:Nat) (T:ByteArray),
 fitF s false n t v=true→TysR w0 A s→ValR w0 v A1 A2 A3→Tab w0→w0.heap.size≤B→Below B w0 w→B≤w.heap.size→BldF w B b T→T.size+(litF s n t v).size≤140737488355328 →
 Calls Tryz.prog 44 #[.pointer (some ⟨b,0,none⟩),.agg #[.slice A s.length c],.int .i64 t,v.v A1 c1 A2 c2 A3 c3] w fun e w'=>e = .returned (.tuple #[])∧BldF w' B b (T++litF s n t v)∧Below B w w'∧Oth b w w'
def WriteK (s:List TyD) (A:zo) (c:Nat) (n:Nat) (k:Int):Prop:=∀ (t:Int) (v:Val) (A1:zo) (c1:Nat) (A2:zo) (c2:Nat) (A3:zo) (c3:Nat) (w0 w:World) (B b:Nat) (T:ByteArray),
 (tyAt s t).kind=k→fitF s false (n+1) t v=true→TysR w0 A s→ValR w0 v A1 A2 A3→Tab w0→w0.heap.size≤B→Below B w0 w→B≤w.heap.size→BldF w B b T→T.size+(litF s (n+1) t v).size≤140737488355328 →
 Calls Tryz.prog 44 #[.pointer (some ⟨b,0,none⟩),.agg #[.slice A s.length c],.int .i64 t,v.v A1 c1 A2 c2 A3 c3] w fun e w'=>e = .returned (.tuple #[])∧BldF w' B b (T++litF s (n+1) t v)∧Below B w w'∧Oth b w w'
theorem scSymB_any (n:Int) (t:TyD) (As:zo) (cs:Nat) (Am:zo) (cm:Nat) (w:World) (ht:TyR w t As Am) :
  Calls Tryz.prog 68 #[t.v As cs Am cm,.int .i64 n] w fun e w'=>∃r:Int,e = .returned (.tuple #[.int .i64 r,.bool (t.syms.any fun y=>decide (y.id=n))])∧((t.syms.any fun y=>decide (y.id=n))=true→r=idxD (fun y:SymD=>decide (y.id=n)) t.syms)∧Below w.heap.size w w' :=
 (scSym_any n t As cs Am cm w ht).mono fun e w' ⟨h1,h2⟩=>⟨_,h1.trans (by rw[idxD_any]),fun h=>by
  rw[←idxD_any] at h;exact if_neg (by have:=of_decide_eq_true h;omega),h2⟩
theorem list_head {α:Type} {l:List α} (h:0<l.length):∃y r,l=y::r∧l[0]=y:=by
 cases l with
 | nil=>cases h
 | cons y r=>exact ⟨y,r,rfl,rfl⟩
section
variable {f:Int→Val→ByteArray} {x:TyD} {v:Val}
theorem lit9_some (e:x.kind=9) (h:0<v.items.length):litB f x v=⟨#[115,111,109,101,40]⟩++f x.elem v.items[0]++⟨#[41]⟩:=by
 obtain ⟨y,r,h1,h2⟩:=list_head h;rw[h2,lit9 e,h1]
theorem lit6_yes (e:x.kind=6) {m:MemD} (hf:x.mems.find? (fun y=>decide (y.id=v.id))=some m) (h:0<v.items.length):litB f x v=m.name++⟨#[40]⟩++f m.type v.items[0]++⟨#[41]⟩:=by
 obtain ⟨y,r,h1,h2⟩:=list_head h;rw[h2,lit6 e,hf,h1]
theorem lit6_no (e:x.kind=6) (hf:x.mems.find? (fun y=>decide (y.id=v.id))=none) (h:0<v.rest.length):litB f x v=⟨#[64]⟩++decB v.id++⟨#[40]⟩++quD (v.rest[0]).data++⟨#[41]⟩:=by
 obtain ⟨y,r,h1,h2⟩:=list_head h;rw[h2,lit6 e,hf,h1]
end
theorem write_k7 {s:List TyD} {A:zo} {c n:Nat} (_hv:zQ s=0) (hn:Num64 s) (ih:WriteAt s A c n):WriteK s A c n 7:=by
 intro t v A1 c1 A2 c2 A3 c3 w0 w B b T e hf hs hr htb hg hb0 hB hbl hsz
 obtain ⟨i0,i1,i2,i3⟩:=fitF_out hf;obtain ⟨tn,rfl⟩:=Int.eq_ofNat_of_zero_le i0;have htn:tn<s.length:=by omega
 have hln:=hs.1.lt (by omega)
 rw[zT htn] at i2 i3 e;have HL0:Hid (litF s (n+1) (tn:Int) v=litB (litF s n) s[tn] v):=by show _=_;rw[litF,zT htn]
 have HXN:=zh (hn _ (List.getElem_mem htn));obtain ⟨HBW,H5,H7⟩:=zy w (.cells #[.slice A s.length c] 31) (v.box A1 c1 A2 c2 A3 c3);have HIH:=zh ih;have HS:=zh hs;have HR:=zh hr;have HTB:=zh htb;have HG:=zh hg;have HB0:=zh hb0;have HGE:=zh hB;have HBL:=zh hbl;have hblt:=hbl.lt;obtain ⟨L,hL⟩:∃L,litF s (n+1) (tn:Int) v=L:=⟨_,rfl⟩;rw[hL] at hsz HL0;simp only[hL];have HSZ:=zh hsz
 have HU:Hid (Below w0.heap.size w0 ((w.alloc (.cells #[.slice A s.length c] 31)).alloc (v.box A1 c1 A2 c2 A3 c3))):=(hb0.trans (HBW.out.mono hB)).mono hg;obtain ⟨bq,oq,As,cs,Am,cm,hA,htr,t0,t1,t2,t3,t4,t5,t6,t7,t8,t9⟩:=hs.at10 htn;clear hL hf ih hs hr htb hg hb0 hB hbl hsz _hv hn i0 i1;subst hA;generalize s[tn]=x at *;have HTR:=zh htr;have HFB:=zh i3;have HVK:=zh (i2.trans e);have HK:=zh e
 clear htr i3 i2 e;replace t0:=zA HU.out t0;replace t1:=zA HU.out t1;replace t2:=zA HU.out t2;replace t3:=zA HU.out t3;replace t4:=zA HU.out t4;replace t5:=zA HU.out t5;replace t6:=zA HU.out t6;replace t7:=zA HU.out t7;replace t8:=zA HU.out t8;replace t9:=zA HU.out t9;have h1:(0:Int)≤(tn:Int):=by omega
 have h2:(tn:Int)<(s.length:Int):=by omega
 go_enter Tryz.func44,Tryz.ntmps44
 go_upto_region 1 with fail
 have hsz2:Hid (((w.alloc (.cells #[.slice (some ⟨bq,oq,none⟩) s.length c] 31)).alloc (v.box A1 c1 A2 c2 A3 c3)).heap.size=w.heap.size+2):=by show _=_;simp
 generalize (w.alloc (.cells #[.slice (some ⟨bq,oq,none⟩) s.length c] 31)).alloc (v.box A1 c1 A2 c2 A3 c3)=W2 at *;have x0:=zb H5.out;go_upto_region 2 with fail
 clear t0 t1 t2 t3 t4 t5 t6 t7 t8 t9 x0;have HBX:=zh (zD W2 (x.box As cs Am cm));have ST:Hid (WrSt s (some ⟨bq,oq,none⟩) c x As cs Am cm v A1 c1 A2 c2 A3 c3 B b w.heap.size (w.heap.size+1) W2.heap.size w (W2.alloc (x.box As cs Am cm)) (T)):=by
  have hz:=hsz2.out;have hge:=HGE.out;exact ⟨(HBL.out.below HBW.out).below HBX.out,(HBW.out.mono HGE.out).trans (HBX.out.mono (by omega)),oth_trans (yD HBW.out) (yD HBX.out),by omega,by omega,by omega,zE H5.out HBX.out,zE H7.out HBX.out,heap_alloc_new W2 _,by have:=HGE.out;have:=HBX.out.size;omega⟩
 generalize W2.alloc (x.box As cs Am cm)=W3 at *;generalize W2.heap.size=p8 at *;clear hsz2 hblt HBW H5 H7 HBL HU HBX h1 h2;obtain ⟨q1,q2,q3,q4,q5,q6,q7⟩:=zk7 HK.out;obtain ⟨v0,v1,v2,v3,v4,v5,v6,v7⟩:=zF ST.out.h7;obtain ⟨b0,b1,b2,b3,b4,b5,b6,b7,b8,b9⟩:=zG ST.out.h8;have x0:=ST.out.c5;have HL:=zh (HL0.out.trans (lit7 HK.out));have HF:=zh (fit7 HK.out HFB.out);have hli:=HR.out.items.1.lt (by omega)
 have HZ:Hid (T.size+(1+(catL (v.items.map (litF s n x.elem))).size+1)≤140737488355328):=by have:=HSZ.out;rw[HL.out,zH,zH] at this;exact this
 go_wp2_with fail
 refine (ST.out.bld.byte 91 (by have:=HZ.out;omega) ST.out.ge).mono ?_
 rintro e' w5 ⟨rfl,g1,g2,g3⟩;have ST5:=zh (ST.out.step g1 g2 g3);clear g1 g2 g3;clear v0 v1 v2 v3 v4 v5 v6 v7 b0 b1 b2 b3 b4 b5 b6 b7 b8 b9 x0;obtain ⟨v0,v1,v2,v3,v4,v5,v6,v7⟩:=zF ST5.out.h7;obtain ⟨b0,b1,b2,b3,b4,b5,b6,b7,b8,b9⟩:=zG ST5.out.h8;have x0:=ST5.out.c5;go_wp2_with fail
 go_loopw [187] (fun i wr=>∃k:Nat,k≤v.items.length∧i = .int .i64 (k:Int)∧Hid (WrSt s (some ⟨bq,oq,none⟩) c x As cs Am cm v A1 c1 A2 c2 A3 c3 B b w.heap.size (w.heap.size+1) p8 w wr (T++oneB 91++catK (fun i=>(v.items.map (litF s n x.elem)).getD i ⟨#[]⟩) k))) (fun i _=>v.items.length - (intOf i).toNat)
 case atStart=>exact ⟨0,by omega,rfl,by have h:=ST5.out;rw[show T++oneB 91=T++oneB 91++catK (fun i=>(v.items.map (litF s n x.elem)).getD i ⟨#[]⟩) 0 from (app_nil _).symm] at h;exact h⟩
 case round =>
  obtain ⟨k,hk,rfl,hh⟩:=hrel;have STr:=zh hh.out;clear v0 v1 v2 v3 v4 v5 v6 v7 b0 b1 b2 b3 b4 b5 b6 b7 b8 b9 x0 hh
  by_cases hlt:k<v.items.length
  ·obtain ⟨ib,io,E1,e1,E2,e2,E3,e3,hI,hir,a0,a1,a2,a3,a4,a5,a6,a7⟩:=HR.out.items.at8 hlt
   have HIR:=zh hir;clear hir;replace a0:=zA (STr.out.up HB0.out HG.out) a0;replace a1:=zA (STr.out.up HB0.out HG.out) a1;replace a2:=zA (STr.out.up HB0.out HG.out) a2;replace a3:=zA (STr.out.up HB0.out HG.out) a3;replace a4:=zA (STr.out.up HB0.out HG.out) a4;replace a5:=zA (STr.out.up HB0.out HG.out) a5;replace a6:=zA (STr.out.up HB0.out HG.out) a6;replace a7:=zA (STr.out.up HB0.out HG.out) a7
   have hmem:=HF.out _ (List.getElem_mem hlt);have HPT:=zh (catL_part (l:=v.items.map (litF s n x.elem)) (k:=k) (by simpa using hlt))
   have HCS:=zh (catL_step (l:=v.items.map (litF s n x.elem)) (k:=k) (by simpa using hlt))
   rw[List.getElem_map] at HPT HCS;generalize v.items[k]=y at *;have HFY:=zh hmem;clear hmem;generalize hCK:catK (fun i=>(v.items.map (litF s n x.elem)).getD i ⟨#[]⟩) k=CK at *
   generalize hCM:(if k=0 then (⟨#[]⟩:ByteArray) else ⟨#[44,32]⟩)=CM at *
   have HSZ2:Hid ((T++oneB 91++CK).size+CM.size+(litF s n x.elem y).size≤140737488355328):=by have:=HZ.out;have:=HPT.out;rw[zH,zH];show _+1+_+_+_≤_;omega
   subst hI;have h1:(0:Int)≤(k:Int):=by omega
   have h2:(k:Int)<(v.items.length:Int):=by omega
   have hblt:=STr.out.bld.lt;have HNB:=zh (zD wr (y.box E1 e1 E2 e2 E3 e3));have HYB:=zh (heap_alloc_new wr (y.box E1 e1 E2 e2 E3 e3));have STa:=zh (STr.out.below HNB.out);obtain ⟨v0,v1,v2,v3,v4,v5,v6,v7⟩:=zF STr.out.h7;obtain ⟨b0,b1,b2,b3,b4,b5,b6,b7,b8,b9⟩:=zG STr.out.h8;have x0:=STr.out.c5;go_upto_region 42 with fail
   clear v0 v1 v2 v3 v4 v5 v6 v7 b0 b1 b2 b3 b4 b5 b6 b7 b8 b9 x0 a0 a1 a2 a3 a4 a5 a6 a7;generalize wr.alloc (y.box E1 e1 E2 e2 E3 e3)=W4 at *;generalize wr.heap.size=p18 at *;have hne:p18≠b:=by omega
   go_wp2_with fail
   refine (comma_any STa.out.bld k (by rw[hCM];have:=HSZ2.out;omega) STa.out.ge).mono ?_
   rintro e' w6 ⟨rfl,g1,g2,g3⟩;rw[hCM] at g1;have ST6:=zh (STa.out.step g1 g2 g3);have HY6:=zh (g3.blk HYB.out hne (by decide))
   clear g1 g2 g3;obtain ⟨v0,v1,v2,v3,v4,v5,v6,v7⟩:=zF ST6.out.h7;obtain ⟨b0,b1,b2,b3,b4,b5,b6,b7,b8,b9⟩:=zG ST6.out.h8;have x0:=ST6.out.c5;obtain ⟨y0,y1,y2,y3,y4,y5,y6,y7⟩:=zF HY6.out;go_wp2_with fail;refine (HIH.out x.elem y E1 e1 E2 e2 E3 e3 w0 _ B b _ HFY.out HS.out HIR.out HTB.out HG.out (HB0.out.trans ST6.out.fr) ST6.out.ge ST6.out.bld (by have:=HSZ2.out;rw[zH];omega)).mono ?_
   rintro e' w7 ⟨rfl,g1,g2,g3⟩;have ST7:=zh (ST6.out.step g1 g2 g3);clear g1 g2 g3;clear v0 v1 v2 v3 v4 v5 v6 v7 b0 b1 b2 b3 b4 b5 b6 b7 b8 b9 x0 y0 y1 y2 y3 y4 y5 y6 y7;have HE:Hid (T++oneB 91++CK++CM++litF s n x.elem y=T++oneB 91++catK (fun i=>(v.items.map (litF s n x.elem)).getD i ⟨#[]⟩) (k+1)):=by show _=_;rw[HCS.out];simp only[ByteArray.append_assoc]
   go_wp2
   go_roundw
   case rel=>exact ⟨k+1,by omega,by go_num,by have h:=ST7.out;rw[HE.out] at h;exact h⟩
   case measure=>simp[intOf];omega
  ·obtain rfl:k=v.items.length:=by omega
   have HE:Hid (catK (fun i=>(v.items.map (litF s n x.elem)).getD i ⟨#[]⟩) v.items.length=catL (v.items.map (litF s n x.elem))):=by show _=_;unfold catL;rw[List.length_map]
   have STe:=STr;rw[HE.out] at STe;go_wp2_with fail;refine (STe.out.bld.byte 93 (by have:=HZ.out;rw[zH,zH];show _+1+_+1≤_;omega) STe.out.ge).mono ?_
   rintro e' w8 ⟨rfl,g1,g2,g3⟩;have ST8:=zh (STe.out.step g1 g2 g3);clear g1 g2 g3;go_wp2;refine bodyPost_end (results_none Tryz.results44 _ _ _) rfl ⟨rfl,by rw[HL.out];(have h:=ST8.out.bld;simp only[ByteArray.append_assoc] at h ⊢;exact h),ST8.out.fr,ST8.out.ot⟩
structure TyA where
 t:TyD
 As:zo
 cs:Nat
 Am:zo
 cm:Nat
def TyA.cells (x:TyA):List Value:=x.t.cs x.As x.cs x.Am x.cm
theorem tyA_one (x:TyA):∀u∈x.cells,u.oneCell'=true:=fun u hu=>by
 unfold TyA.cells at hu;simp only[List.mem_cons,List.mem_nil_iff,or_false] at hu
 rcases hu with rfl|rfl|rfl|rfl|rfl|rfl|rfl|rfl|rfl|rfl <;> rfl
theorem run_append_o {T E:TypeId} {size bytes:Nat} (hE:Elem T E size bytes) (w:World) (base:Nat) (ty:TypeId) (v:Value) (n:Nat) (xs:List Value) (h:w.ownsRow base E size v n xs) (b o m c:Nat) (news:List Value) (hl:news.length=m * size)
  (hnews:w.rangeAt b o news) (h1:∀u∈news,u.oneCell'=true) (hlen:n+m≤9223372036854775807) (hby:(n+m) * bytes≤140737488355328) (hb:base≤w.heap.size) :
  ∃v' w',(Builtin.append_ #[T,T] ty #[v,.slice (some ⟨b,o,none⟩) m c]).run Tryz.prog w = .ok v' w'∧w'.ownsRow base E size v' (n+m) (xs++news)∧w.grownBy w' v.ownBlock∧(v'.ownBlock=v.ownBlock∨v'.ownBlock=some w.heap.size):=by
 obtain ⟨z,hinf,hzs⟩:=hE.info;obtain ⟨i0,hi,hz0,hz1,hz2⟩:=info_parts hinf;obtain ⟨v',w',hr,h2,h3,_,h5⟩:=run_append_own_at (P:=Tryz.prog) w base T ty E i0 z size bytes hE.under hi hz0 hz1 hz2 hzs hE.pos v n xs h ⟨b,o,none⟩ m c news hl (fun j u hj=>by rw[Addr.add_mid];exact hnews j u hj) h1 (by unfold maxLen;omega) hby hb
 exact ⟨v',w',hr,h2,h3,h5⟩
theorem step_append_o {T E:TypeId} {size bytes:Nat} (hE:Elem T E size bytes) {w:World} {ops:Array Oper} {op:Oper} {a:Act} {K:Act→World→Prop} {Q:Exit→Act→World→Prop} {El:Prop} (hgd:op.guard=none) (s x:Operand)
  (ho:op.op = .call { callee := .builtin .append,args:=#[s,x],argTypes:=#[T,T] }) (base:Nat) (v:Value) (n:Nat) (xs:List Value) (hs:a.eval s=v) (h:w.ownsRow base E size v n xs) (b o m c:Nat) (news:List Value) (hx:a.eval x = .slice (some ⟨b,o,none⟩) m c)
  (hl:news.length=m * size) (hnews:w.rangeAt b o news) (h1:∀u∈news,u.oneCell'=true) (hlen:n+m≤9223372036854775807) (hby:(n+m) * bytes≤140737488355328) (hb:base≤w.heap.size)
  (hk:∀v' w',w'.ownsRow base E size v' (n+m) (xs++news)→w.grownBy w' v.ownBlock→(v'.ownBlock=v.ownBlock∨v'.ownBlock=some w.heap.size)→K (a.put op.dst v') w'):if Region.wanted op (yielded ops a.tmps)=true then Oper.wp Tryz.prog op a w K Q else El:=by
 have hw:Region.wanted op (yielded ops a.tmps)=true:=by simp[Region.wanted,hgd]
 rw[if_pos hw];obtain ⟨v',w',hr,h2,h3,h5⟩:=run_append_o hE w base op.type v n xs h b o m c news hl hnews h1 hlen hby hb;unfold Oper.wp execOp;simp only[ho,resolve,invoke,builtin,Sem.run_bind,Sem.run_pure,Result.andThen_ok,List.map_toArray,List.map_cons,List.map_nil,hs,hx,hr];exact hk v' w' h2 h3 h5
theorem elem_ty:Elem 29 87 10 120:=⟨Tryz.underlying29,⟨.agg #[.int .i64 0,.string ⟨#[]⟩,.int .i64 0,.int .i64 0,.int .i64 0,.slice none 0 0,.slice none 0 0,.int .i64 0,.int .i64 0,.bool false],by kernel_rfl,rfl⟩,by omega⟩
theorem ty_info:(Tryz.prog.info? 87).map (·.size)=some 10:=by kernel_rfl
theorem ty_one (t:TyD) (As:zo) (cs:Nat) (Am:zo) (cm:Nat):((t.cs As cs Am cm).toArray).all (·.oneCell')=true :=
 all_oneCell_toArray fun u hu=>by
  simp only[List.mem_cons,List.mem_nil_iff,or_false] at hu
  rcases hu with rfl|rfl|rfl|rfl|rfl|rfl|rfl|rfl|rfl|rfl <;> rfl
theorem Off.more {S S':Nat→Prop} {w w1:World} {P:World→Prop} (h:Off S w P) (hs:∀q,q<w.heap.size→S' q→S q) (hk:∀q,q<w.heap.size→¬ S q→w1.heap[q]? = w.heap[q]?) (hz:w.heap.size≤w1.heap.size):Off S' w1 P :=
 fun w' hw=>h w' fun q hq hl=>(hw q (fun h'=>hq (hs q hl h')) (by omega)).trans (hk q hl hq)
theorem sok_small {s:ByteArray} (h:s.size≤100):SOk s:=by unfold SOk;omega
theorem tys_new (w:World) (L:List TyA) (h:∀x∈L,TyR w x.t x.As x.Am) (hl:L.length≤1000):TysR (w.alloc (.cells (L.flatMap TyA.cells).toArray 87)) (some ⟨w.heap.size,0,none⟩) (L.map (·.t)):=by
 refine ⟨by unfold Lim;rw[List.length_map];omega,fun _=>⟨_,_,rfl,fun i x hx=>?_⟩⟩
 rw[List.getElem?_map] at hx
 cases hL:L[i]? with
 | none=>rw[hL] at hx;cases hx
 | some y =>
  rw[hL] at hx;obtain rfl:y.t=x:=by simpa using hx
  refine ⟨y.cells,⟨y.As,y.cs,y.Am,y.cm,rfl,(h y (List.mem_of_getElem? hL)).below (zD _ _)⟩,?_⟩;exact range_flat (enc:=TyA.cells) (k:=10) (fun _=>rfl) (zR w _ _) hL
def SchPost (l:List TyD) (w:World) (e:Ending) (w':World):Prop:=∃A c,e = .returned (.agg #[.slice A l.length c])∧TysR w' A l∧Below w.heap.size w w'
theorem tyR_mems {w:World} {t:TyD} {Am:zo} (hn:SOk t.name) (hs:t.syms=[]) (hm:MemsR w Am t.mems):TyR w t none Am:=⟨hn,by rw[hs];exact RowsR.nil _ _ _ _ _,hm⟩
theorem tyR_none {w:World} {t:TyD} (hn:SOk t.name) (hs:t.syms=[]) (hm:t.mems=[]):TyR w t none none:=⟨hn,by rw[hs];exact RowsR.nil _ _ _ _ _,by rw[hm];exact RowsR.nil _ _ _ _ _⟩
mutual
def StrB:Val→Prop
 | .mk _ _ _ s _ ks is rs=>s.size≤140737488355328∧(∀r∈rs,r.data.size≤140737488355328)∧StrBs ks∧StrBs is
def StrBs:List Val→Prop
 | []=>True
 | v::l=>StrB v∧StrBs l
end
theorem strBs_iff:∀l:List Val,StrBs l↔∀v∈l,StrB v
 | []=>by rw[StrBs];exact ⟨fun _ _ h=>(by cases h),fun _=>trivial⟩
 | v::l=>by
  rw[StrBs,strBs_iff l];simp only[List.mem_cons,forall_eq_or_imp]
theorem StrB.out {v:Val} (h:StrB v):v.str.size≤140737488355328∧(∀r∈v.rest,r.data.size≤140737488355328)∧(∀y∈v.keys,StrB y)∧(∀y∈v.items,StrB y):=by
 obtain ⟨k,b,i,s,d,ks,is,rs⟩:=v;rw[StrB] at h;exact ⟨h.1,h.2.1,(strBs_iff ks).1 h.2.2.1,(strBs_iff is).1 h.2.2.2⟩
theorem szR_neg {l:List RawD} {n:Int} (h:n<0):szR l n=n:=by
 cases l with
 | nil=>rw[szR]
 | cons a r=>rw[szR,if_pos h]
theorem szL_neg {l:List Val} {n:Int} (h:n<0):szL l n=n:=by
 cases l with
 | nil=>rw[szL]
 | cons a r=>rw[szL,if_pos h]
theorem szR_at {l:List RawD} {i:Nat} {n:Int} (hi:i<l.length) (h:0≤n):szR (l.drop i) n=szR (l.drop (i+1)) (n - (l[i]).data.size):=by
 rw[List.drop_eq_getElem_cons hi,szR,if_neg (by omega)]
theorem szL_at {l:List Val} {i:Nat} {n:Int} (hi:i<l.length) (h:0≤n):szL (l.drop i) n=szL (l.drop (i+1)) (szV l[i] n):=by
 rw[List.drop_eq_getElem_cons hi,szL,if_neg (by omega)]
theorem szR_end {l:List RawD} {i:Nat} {n:Int} (h:l.length≤i):szR (l.drop i) n=n:=by
 rw[List.drop_eq_nil_of_le h,szR]
theorem szL_end {l:List Val} {i:Nat} {n:Int} (h:l.length≤i):szL (l.drop i) n=n:=by
 rw[List.drop_eq_nil_of_le h,szL]
theorem szV_def (v:Val) (n:Int):szV v n=szL v.items (szL v.keys (szR v.rest (n - (10+v.str.size+v.rest.length)))):=by
 obtain ⟨k,b,i,s,d,ks,is,rs⟩:=v;rw[szV];rfl
def SmallV (v:Val):Prop:=0≤szV v 3000
theorem small_kV {v:Val} (h:SmallV v):kV v≤3000:=by
 have:=szV_eq v 3000 h;unfold SmallV at h
 omega
theorem rNamed_any (n:Int) (w:World):Calls Tryz.prog 35 #[.int .i64 n] w fun e w'=>e = .returned (.bool (namedD n))∧w=w':=by
 by_cases h1:n=4
 ·subst h1
  go_enter Tryz.func35,Tryz.ntmps35
  go_wp2
  go_ret
  exact ⟨rfl,rfl⟩
 by_cases h2:n=5
 ·subst h2
  go_enter Tryz.func35,Tryz.ntmps35
  go_wp2
  go_ret
  exact ⟨rfl,rfl⟩
 by_cases h3:n=6
 ·subst h3
  go_enter Tryz.func35,Tryz.ntmps35
  go_wp2
  go_ret
  exact ⟨rfl,rfl⟩
 have HL:=zh (show namedD n=false by simp[namedD,h1,h2,h3])
 have e1:(n==4)=false:=by simp[h1]
 have e2:(n==5)=false:=by simp[h2]
 have e3:(n==6)=false:=by simp[h3]
 clear h1 h2 h3
 go_enter Tryz.func35,Tryz.ntmps35
 go_wp2
 go_ret
 exact ⟨by rw[HL.out];rfl,rfl⟩
theorem rKeyKind_any (n : Int) (w : World) : Calls Tryz.prog 64 #[.int .i64 n] w fun e w' => e = .returned (.bool (keyKind n)) ∧ w = w' := by
  by_cases h2 : 1 ≤ n <;> by_cases h3 : n ≤ 4
  all_goals
    (have HL := zh (show keyKind n = _ by unfold keyKind; simp only [h2, h3]; rfl)
     go_enter Tryz.func64, Tryz.ntmps64
     go_wp2
     go_ret
     exact ⟨by rw [HL.out]; rfl, rfl⟩)
def PartD.At (p:PartD) (cs:List Value):Prop:=(p.id<256∧p.type<256∧p.flag<256)∧cs=[.int .u8 p.id,.int .u8 p.type,.int .u8 p.flag]
def PartsR (w:World) (A:zo) (l:List PartD):Prop:=RowsR 3 3 PartD.At w A l
theorem PartsR.below {w w':World} {A:zo} {l:List PartD} (h:PartsR w A l) (hb:Below w.heap.size w w'):PartsR w' A l:=RowsR.imp h (fun _ _ _ h=>h) hb
abbrev NodeD.v (x:NodeD) (A:zo) (c:Nat):Value := .agg #[.int .u8 x.kind,.int .u8 x.a,.int .u8 x.b,.int .u8 x.c,.slice A x.parts.length c]
abbrev NodeD.cs (x:NodeD) (A:zo) (c:Nat):List Value:=[.int .u8 x.kind,.int .u8 x.a,.int .u8 x.b,.int .u8 x.c,.slice A x.parts.length c]
structure NodeR (w:World) (x:NodeD) (A:zo):Prop where
 kind:x.kind<256
 a:x.a<256
 b:x.b<256
 c:x.c<256
 parts:PartsR w A x.parts
theorem NodeR.below {w w':World} {x:NodeD} {A:zo} (h:NodeR w x A) (hb:Below w.heap.size w w'):NodeR w' x A:=⟨h.kind,h.a,h.b,h.c,h.parts.below hb⟩
def NodeD.At (w:World) (x:NodeD) (cs:List Value):Prop:=∃A c,cs=x.cs A c∧NodeR w x A
theorem NodeD.at_below {w w':World} (hb:Below w.heap.size w w') {x:NodeD} {cs:List Value}:x.At w cs→x.At w' cs:=fun ⟨A,c,e,h⟩=>⟨A,c,e,h.below hb⟩
def NodesR (w:World) (A:zo) (d:List NodeD):Prop:=RowsR 5 32 (NodeD.At w) w A d
theorem NodesR.below {w w':World} {A:zo} {l:List NodeD} (h:NodesR w A l) (hb:Below w.heap.size w w'):NodesR w' A l:=RowsR.imp h (fun _ _ _=>NodeD.at_below hb) hb
abbrev draftV (A:zo) (n c:Nat):Value := .agg #[.slice A n c]
theorem NodesR.at5 {w:World} {A:zo} {d:List NodeD} (h:NodesR w A d) {i:Nat} (hi:i<d.length):∃b o A' c',A=some ⟨b,o,none⟩∧NodeR w (d.getD i node0) A' ∧
  w.cell? ⟨b,o+i * 5,none⟩=some (.int .u8 (d.getD i node0).kind)∧w.cell? ⟨b,o+i * 5+1,none⟩=some (.int .u8 (d.getD i node0).a)∧w.cell? ⟨b,o+i * 5+2,none⟩=some (.int .u8 (d.getD i node0).b)∧w.cell? ⟨b,o+i * 5+3,none⟩=some (.int .u8 (d.getD i node0).c)∧w.cell? ⟨b,o+i * 5+4,none⟩=some (.slice A' (d.getD i node0).parts.length c'):=by
 obtain ⟨b,o,cs,e,⟨A',c',rfl,hr⟩,h2⟩:=RowsR.at_ h hi;have eg:d.getD i node0=d[i]:=by rw[List.getD_eq_getElem?_getD,zl hi];rfl
 rw[eg];exact ⟨b,o,A',c',e,hr,h2 0 _ rfl,h2 1 _ rfl,h2 2 _ rfl,h2 3 _ rfl,h2 4 _ rfl⟩
theorem PartsR.at3 {w:World} {A:zo} {d:List PartD} (h:PartsR w A d) {i:Nat} (hi:i<d.length):∃b o,A=some ⟨b,o,none⟩∧(d[i].id<256∧d[i].type<256∧d[i].flag<256) ∧
  w.cell? ⟨b,o+i * 3,none⟩=some (.int .u8 d[i].id)∧w.cell? ⟨b,o+i * 3+1,none⟩=some (.int .u8 d[i].type)∧w.cell? ⟨b,o+i * 3+2,none⟩=some (.int .u8 d[i].flag):=by
 obtain ⟨b,o,cs,e,⟨h1,rfl⟩,h2⟩:=RowsR.at_ h hi;exact ⟨b,o,e,h1,h2 0 _ rfl,h2 1 _ rfl,h2 2 _ rfl⟩
theorem kindN_at {d:List NodeD} {i:Nat} (hi:i<d.length):kindN d i=1+(d[i].kind:Int) % 9:=by
 unfold kindN;rw[List.getD_eq_getElem?_getD,zl hi];simp
theorem kind_any (d:List NodeD) (i:Nat) (A:zo) (c:Nat) (w:World) (hd:NodesR w A d) (hi:i<d.length) :
  Calls Tryz.prog 34 #[draftV A d.length c,.int .i64 i] w fun e w'=>e = .returned (.int .i64 (kindN d i))∧Below w.heap.size w w':=by
 have hn:=hd.1.lt (by omega)
 obtain ⟨b,o,A',c',rfl,hr,c0,_,_,_,_⟩:=(hd.below (zD w (.cells #[.slice A d.length c] 24))).at5 hi;have h1:(0:Int)≤(i:Int):=by omega
 have h2:(i:Int)<(d.length:Int):=by omega
 have hk:=hr.kind
 go_enter Tryz.func34,Tryz.ntmps34
 go_wp2
 go_ret
 exact ⟨by rw[kindN_at hi];rfl,zD _ _⟩
theorem hollow_any (n:Int) (w:World):Calls Tryz.prog 95 #[.int .i64 n] w fun e w'=>e = .returned (.bool (hollowD n))∧w=w':=by
 go_enter Tryz.func95,Tryz.ntmps95
 go_wp2
 go_ret
 exact ⟨rfl,rfl⟩
structure DBox (w0 w:World) (A:zo) (d:List NodeD) (c:Nat):Prop where
 lt:w0.heap.size<w.heap.size
 cell:w.cell? ⟨w0.heap.size,0,none⟩=some (.slice A d.length c)
 nodes:NodesR w A d
 below:Below w0.heap.size w0 w
theorem DBox.step {w0 w w':World} {A:zo} {d:List NodeD} {c:Nat} (h:DBox w0 w A d c) (hb:Below w.heap.size w w'):DBox w0 w' A d c :=
 ⟨Nat.lt_of_lt_of_le h.lt hb.size,zA hb h.cell,h.nodes.below hb,zB h.below hb⟩
theorem DBox.new {w:World} {A:zo} {d:List NodeD} {c:Nat} (h:NodesR w A d):DBox w (w.alloc (.cells #[.slice A d.length c] 24)) A d c :=
 ⟨by simp,by rw[cell_of_row _ _ _ _ _ _ (heap_alloc_new w _)];rfl,h.below (zD _ _),zD _ _⟩
theorem fstN_at {n k:Nat} {p:Nat→Bool} (hk:k<n) (hp:p k=true) (hno:∀j,j<k→p j=false):fstN n p=(k:Int):=by
 unfold fstN;have:(List.range n).find? p=some k:=by
  rw[List.find?_range_eq_some];exact ⟨hp,by simpa using hk,fun j hj=>by simp[hno j hj]⟩
 rw[this]
theorem fstN_no {n:Nat} {p:Nat→Bool} (hno:∀j,j<n→p j=false):fstN n p = -1:=by
 unfold fstN;have:(List.range n).find? p=none:=by
  rw[List.find?_eq_none]
  intro x hx
  simp[hno x (by simpa using hx)]
 rw[this]
theorem target_any (d:List NodeD) (i code:Nat) (A:zo) (c:Nat) (w:World) (hd:NodesR w A d) (hi:i<d.length) (hco:code<256) :
  Calls Tryz.prog 62 #[draftV A d.length c,.int .i64 i,.int .u8 code] w fun e w'=>e = .returned (.int .i64 (targetD d i code))∧Below w.heap.size w w':=by
 have hn:=hd.1.lt (by omega)
 have HB:=zh (DBox.new (c:=c) hd);clear hd;obtain ⟨t,ht⟩:∃t:Nat,t=code % d.length:=⟨_,rfl⟩;have htl:t<d.length:=by rw[ht];exact Nat.mod_lt _ (by omega)
 have HT:=zh ht;have et:(code:Int) % (d.length:Int)=(t:Int):=by rw[ht];simp
 clear ht;have hpos:(0:Int)<(d.length:Int):=by omega
 go_enter Tryz.func62,Tryz.ntmps62
 go_wp2_with fail
 refine (kind_any d t A c _ HB.out.nodes htl).mono ?_;rintro e w2 ⟨rfl,hb2⟩;replace HB:=zh (HB.out.step hb2);clear hb2;go_wp2_with fail;refine (hollow_any _ _).mono ?_;rintro e w3 ⟨rfl,rfl⟩
 cases hh:hollowD (kindN d t) with
 | true =>
  have HD:=zh (show targetD d i code=(t:Int) by unfold targetD;rw[←HT.out,hh];rfl)
  go_wp2
  go_ret
  exact ⟨by rw[HD.out];rfl,HB.out.below⟩
 | false =>
  by_cases hti:t<i
  ·have HD:=zh (show targetD d i code=(t:Int) by unfold targetD;rw[←HT.out,hh];simp[hti])
   go_wp2
   go_ret
   exact ⟨by rw[HD.out];rfl,HB.out.below⟩
  by_cases hi0:0<i
  ·have HD:=zh (show targetD d i code=((t % i:Nat):Int) by unfold targetD;rw[←HT.out,hh];simp[hti,hi0])
   have hi1:(0:Int)<(i:Int):=by omega
   go_wp2
   go_ret
   exact ⟨by rw[HD.out];simp,HB.out.below⟩
  have HD:=zh (show targetD d i code=fstN d.length fun k=>hollowD (kindN d k) by unfold targetD;rw[←HT.out,hh];simp[hti,hi0])
  have hi2:i=0:=by omega
  subst hi2;clear hti hi0 hh et;go_wp2
  go_loopw [9] (fun i wr=>∃k:Nat,k≤d.length∧i = .int .i64 k∧Hid ((∀j,j<k→hollowD (kindN d j)=false)∧DBox w wr A d c)) (fun i _=>d.length - (intOf i).toNat)
  case atStart=>exact ⟨0,by omega,rfl,(fun j h=>absurd h (by omega)),HB.out⟩
  case round =>
   obtain ⟨k,hk,rfl,hq⟩:=hrel
   by_cases hlt:k<d.length
   ·have sc0:=hq.out.2.cell
    have hz:=hq.out.2.lt;go_wp2_with fail;refine (kind_any d k A c _ hq.out.2.nodes hlt).mono ?_;rintro e w3 ⟨rfl,hb3⟩;have HB3:=zh (hq.out.2.step hb3);clear hb3;go_wp2_with fail;refine (hollow_any _ _).mono ?_;rintro e w4 ⟨rfl,rfl⟩
    cases hh:hollowD (kindN d k) with
    | true =>
     replace HD:=zh (HD.out.trans (fstN_at hlt hh hq.out.1));clear hh;go_wp2;go_ret;exact ⟨by rw[HD.out];rfl,HB3.out.below⟩
    | false =>
     have HN:=zh hh;clear hh;go_wp2;go_roundw
     case rel =>
      refine ⟨k+1,by omega,by go_num,(fun j hj=>?_),HB3.out⟩
      by_cases e:j=k
      ·subst e;exact HN.out
      ·exact hq.out.1 j (by omega)
     case measure=>simp[intOf];omega
   ·replace HD:=zh (HD.out.trans (fstN_no fun j hj=>hq.out.1 j (by omega)))
    go_wp2
    go_ret
    exact ⟨by rw[HD.out];rfl,hq.out.2.below⟩
theorem find_at {n k:Nat} {p:Nat→Bool} (hk:k<n) (hp:p k=true) (hno:∀j,j<k→p j=false):(List.range n).find? p=some k:=by
 rw[List.find?_range_eq_some];exact ⟨hp,by simpa using hk,fun j hj=>by simp[hno j hj]⟩
theorem dfind_no {n:Nat} {p:Nat→Bool} (hno:∀j,j<n→p j=false):(List.range n).find? p=none:=by
 rw[List.find?_eq_none]
 intro x hx
 simp[hno x (by simpa using hx)]
theorem key_any (d:List NodeD) (code:Nat) (A:zo) (c:Nat) (w:World) (hd:NodesR w A d) (hco:code<256) :
  Calls Tryz.prog 40 #[draftV A d.length c,.int .u8 code] w fun e w'=>e = .returned (.int .i64 (keyD d code))∧Below w.heap.size w w':=by
 have hn:=hd.1.lt (by omega)
 have HB:=zh (DBox.new (c:=c) hd);clear hd
 go_enter Tryz.func40,Tryz.ntmps40
 go_wp2
 go_loopw [6] (fun i wr=>∃k:Nat,k≤d.length∧i = .int .i64 k∧Hid ((∀j,j<k→keyKind (kindN d ((code+j) % d.length))=false)∧DBox w wr A d c)) (fun i _=>d.length - (intOf i).toNat)
 case atStart=>exact ⟨0,by omega,rfl,(fun j h=>absurd h (by omega)),HB.out⟩
 case round =>
  obtain ⟨k,hk,rfl,hq⟩:=hrel
  by_cases hlt:k<d.length
  ·have sc0:=hq.out.2.cell
   have hz:=hq.out.2.lt;have hpos:(0:Int)<(d.length:Int):=by omega
   obtain ⟨t,ht⟩:∃t:Nat,t=(code+k) % d.length:=⟨_,rfl⟩;have htl:t<d.length:=by rw[ht];exact Nat.mod_lt _ (by omega)
   have HT:=zh ht;have et:((code:Int)+(k:Int)) % (d.length:Int)=(t:Int):=by rw[ht];simp
   clear ht;go_wp2_with fail;refine (kind_any d t A c _ hq.out.2.nodes htl).mono ?_;rintro e w3 ⟨rfl,hb3⟩;have HB3:=zh (hq.out.2.step hb3);clear hb3;go_wp2_with fail;refine (rKeyKind_any _ _).mono ?_;rintro e w4 ⟨rfl,rfl⟩
   cases hh:keyKind (kindN d t) with
   | true =>
    have HD:=zh (show keyD d code=(t:Int) by unfold keyD;rw[find_at hlt (by rw[←HT.out];exact hh) hq.out.1,HT.out])
    clear hh;go_wp2;go_ret;exact ⟨by rw[HD.out];rfl,HB3.out.below⟩
   | false =>
    have HN:=zh hh;clear hh;go_wp2;go_roundw
    case rel =>
     refine ⟨k+1,by omega,by go_num,(fun j hj=>?_),HB3.out⟩
     by_cases e:j=k
     ·subst e;rw[←HT.out];exact HN.out
     ·exact hq.out.1 j (by omega)
    case measure=>simp[intOf];omega
  ·have HD:=zh (show keyD d code = -1 by unfold keyD;rw[dfind_no fun j hj=>hq.out.1 j (by omega)])
   go_wp2
   go_ret
   exact ⟨by rw[HD.out];rfl,hq.out.2.below⟩
theorem low_any (x:NodeD) (A:zo) (c:Nat) (w:World) (ha:x.a<256) :
  Calls Tryz.prog 36 #[x.v A c] w fun e w'=>e = .returned (.int .i64 (lowN x))∧Below w.heap.size w w':=by
 have HD:=zh (show lowN x=(x.a:Int) % 7 - 3 by unfold lowN;simp)
 go_enter Tryz.func36,Tryz.ntmps36
 go_wp2
 go_ret
 exact ⟨by rw[HD.out];rfl,zD _ _⟩
abbrev NodeD.box (x:NodeD) (A:zo) (c:Nat):Obj := .cells #[.int .u8 x.kind,.int .u8 x.a,.int .u8 x.b,.int .u8 x.c,.slice A x.parts.length c] 82
def NBox (W:World) (b:Nat) (x:NodeD) (A:zo) (c:Nat):Prop:=W.heap[b]? = some (.cells #[.int .u8 x.kind,.int .u8 x.a,.int .u8 x.b,.int .u8 x.c,.slice A x.parts.length c] 82 (0,0))
theorem NBox.cell {W:World} {b:Nat} {x:NodeD} {A:zo} {c:Nat} (h:NBox W b x A c) (j:Nat):W.cell? ⟨b,j,none⟩=(#[.int .u8 x.kind,.int .u8 x.a,.int .u8 x.b,.int .u8 x.c,.slice A x.parts.length c]:Array Value)[j]? := cell_of_row _ _ _ _ _ _ h
theorem NBox.blt {W:World} {b:Nat} {x:NodeD} {A:zo} {c:Nat} (h:NBox W b x A c):b<W.heap.size:=(zg.1 h).1
theorem NBox.below {W w':World} {b:Nat} {x:NodeD} {A:zo} {c:Nat} (h:NBox W b x A c) (hb:Below W.heap.size W w'):NBox w' b x A c:=(hb.block b h.blt).trans h
theorem NBox.new (w:World) (x:NodeD) (A:zo) (c:Nat):NBox (w.alloc (x.box A c)) w.heap.size x A c:=heap_alloc_new w (x.box A c)
theorem nb_cells {w':World} {b:Nat} {x:NodeD} {A:zo} {c:Nat} {P:Prop} (h:NBox w' b x A c) (hp:P):(w'.cell? ⟨b,0,none⟩=some (.int .u8 x.kind)∧w'.cell? ⟨b,1,none⟩=some (.int .u8 x.a)∧w'.cell? ⟨b,2,none⟩=some (.int .u8 x.b)∧w'.cell? ⟨b,3,none⟩=some (.int .u8 x.c)∧w'.cell? ⟨b,4,none⟩=some (.slice A x.parts.length c))∧Hid (NBox w' b x A c∧P) :=
 ⟨⟨h.cell 0,h.cell 1,h.cell 2,h.cell 3,h.cell 4⟩,h,hp⟩
theorem low_le (x:NodeD):-3≤lowN x∧lowN x≤3:=by unfold lowN;omega
theorem high_wrap (x:NodeD):highN x=IntKind.i64.wrap (lowN x+IntKind.i64.wrap ((x.b:Int).tmod 6)):=by
 have h1:(x.b:Int).tmod 6=((x.b % 6:Nat):Int):=rfl;have h2:=low_le x;rw[h1,IntWalk.i64_in (((x.b % 6:Nat):Int)) (by omega),IntWalk.i64_in _ (by omega)]
 rfl
theorem high_any (x:NodeD) (A:zo) (c:Nat) (w:World) (ha:x.a<256) :
  Calls Tryz.prog 37 #[x.v A c] w fun e w'=>e = .returned (.int .i64 (highN x))∧Below w.heap.size w w':=by
 have HD:=zh (high_wrap x);have HB0:=zh (zD w (x.box A c));have HN0:=zh (NBox.new w x A c)
 go_enter Tryz.func37,Tryz.ntmps37
 go_wp2
 generalize w.alloc (x.box A c)=wc at *
 refine wp_region_held_drew (S:=(fun w'=>(w'.cell? ⟨w.heap.size,0,none⟩=some (.int .u8 x.kind)∧w'.cell? ⟨w.heap.size,1,none⟩=some (.int .u8 x.a)∧w'.cell? ⟨w.heap.size,2,none⟩=some (.int .u8 x.b)∧w'.cell? ⟨w.heap.size,3,none⟩=some (.int .u8 x.c)∧w'.cell? ⟨w.heap.size,4,none⟩=some (.slice A x.parts.length c))∧Hid (NBox w' w.heap.size x A c∧Below w.heap.size w w'))) (by kernel_rfl) ?_ (fun zH_=>?_)
 ·(try dsimp only);exact nb_cells (HN0.out.below (zC (Below.refl _ _) 1)) (zC HB0.out 1)
 refine tL 0 ?_;refine tL 2 ?_;refine tL 3 ?_;refine tL 4 ?_;refine tL 5 ?_;refine tR 1 (fun K hK=>?_)
 go_simp
 (refine (low_any x A c _ ha).mono ?_;rintro e w3 ⟨rfl,hbx⟩)
 refine hK.out _ _ ?_ (fun zH_=>?_)
 ·(try dsimp only);exact nb_cells (zH_.2.out.1.below hbx) (zB zH_.2.out.2 hbx)
 clear hK K;try simp only[ps]
 refine tL 6 ?_;refine tL 7 ?_;refine wpAnyH_done (by kernel_rfl) ?_ _
 go_wp2
 go_ret
 exact ⟨by rw[HD.out];rfl,zH_.2.out.2⟩
def bitN (x:NodeD) (i:Nat):Bool:=(x.a >>> i) % 2==1
def idsTo (x:NodeD) (k:Nat):List Int:=((List.range k).filter (bitN x)).map fun i=>((i+1:Nat):Int)
theorem idsTo_next (x:NodeD) (k:Nat):idsTo x (k+1)=if bitN x k then idsTo x k++[((k+1:Nat):Int)] else idsTo x k:=by
 unfold idsTo;rw[List.range_succ,List.filter_append,List.map_append]
 cases h:bitN x k <;> simp[h]
theorem idsTo_len (x:NodeD) (k:Nat):(idsTo x k).length≤k:=by
 unfold idsTo;rw[List.length_map];exact Nat.le_trans (List.length_filter_le _ _) (by simp)
theorem idsN_to (x:NodeD):idsN x=if idsTo x 6=[] then [1] else idsTo x 6:=rfl
theorem bit_eq (x:NodeD) (k:Nat):(((x.a:Int) / 2 ^ k).tmod 2==1)=bitN x k:=by
 have h:(x.a:Int) / 2 ^ k=((x.a / 2 ^ k:Nat):Int):=by simp
 rw[h];unfold bitN;rw[Nat.shiftRight_eq_div_pow];have:(((x.a / 2 ^ k:Nat):Int).tmod 2)=((x.a / 2 ^ k % 2:Nat):Int):=rfl;rw[this]
 rcases Nat.mod_two_eq_zero_or_one (x.a / 2 ^ k) with e|e <;> rw[e] <;> rfl
theorem rIds_any (x:NodeD) (A:zo) (c:Nat) (w:World) (_:x.a<256) :
  Calls Tryz.prog 38 #[x.v A c] w fun e w'=>∃v,e = .returned v∧OwnI w' w.heap.size v (idsN x)∧Below w.heap.size w w':=by
 have HB0:=zh (zD w (x.box A c));have HN0:=zh (NBox.new w x A c)
 go_enter Tryz.func38,Tryz.ntmps38
 go_wp2
 generalize w.alloc (x.box A c)=wc at *
 go_loopw [3,4] (fun v i wr=>∃k:Nat,k≤6∧i = .int .i64 k∧Hid (OwnI wr wc.heap.size v (idsTo x k)∧Below wc.heap.size wc wr)) (fun _ i _=>6 - (intOf i).toNat)
 case atStart=>exact ⟨0,by omega,rfl,OwnL.nil _ _,Below.refl _ _⟩
 case round =>
  obtain ⟨k,hk,rfl,hh⟩:=hrel;obtain ⟨wo,rfl⟩:∃wo:World,wo=wr:=⟨_,rfl⟩;have hn0:=zA hh.out.2 (HN0.out.cell 1)
  by_cases hlt:k<6
  ·have h1:(0:Int)≤(k:Int):=by omega
   have HB7:=zh hh.out.2;have HO7:=zh hh.out.1;have HLN:=zh (idsTo_len x k);have HNX:=zh (idsTo_next x k);have hbt:(((x.a:Int) / 2 ^ k).tmod 2==1)=bitN x k:=bit_eq x k;clear hh
   cases hb:bitN x k with
   | true =>
    rw[hb] at hbt HNX;clear hb;have HO1:=zh (OwnL.alloc HO7.out (.cells #[.int .i64 ((k:Int)+1)] 3));have HRN:Hid ((wo.alloc (.cells #[.int .i64 ((k:Int)+1)] 3)).rangeAt wo.heap.size 0 [.int .i64 ((k:Int)+1)]):=zR wo [.int .i64 ((k:Int)+1)] 3;have HZ7:Hid (wc.heap.size≤(wo.alloc (.cells #[.int .i64 ((k:Int)+1)] 3)).heap.size):=by have:=HB7.out.size;show _≤_;simp;omega
    go_wp2_with (at_builtin;refine yG elem_int _ rfl (.tmp 15) (.tmp 18) rfl wc.heap.size _ _ _ rfl HO1.out wo.heap.size 0 1 1 [.int .i64 ((k:Int)+1)] rfl rfl HRN.out (by simp[Value.oneCell']) (by have:=HLN.out;omega) (by have:=HLN.out;omega) HZ7.out ?_;intro v8 w8 ho8 hg8)
    go_roundw
    case rel=>exact ⟨k+1,by omega,by go_num,(by rw[HNX.out];exact OwnL.snoc (x:=(((k+1:Nat):Int))) ho8),(HB7.out.alloc HB7.out.size _).grown hg8 HZ7.out HO1.out.lt⟩
    case measure=>simp[intOf];omega
   | false =>
    rw[hb] at hbt HNX;clear hb;go_wp2;go_roundw
    case rel=>exact ⟨k+1,by omega,by go_num,(by rw[HNX.out];exact HO7.out),HB7.out⟩
    case measure=>simp[intOf];omega
  ·have hk6:k=6:=by omega
   subst hk6;have HB7:=zh hh.out.2;have HLN:=zh (idsTo_len x 6);have HW:Hid (w.heap.size≤wc.heap.size):=HB0.out.size;obtain ⟨A7,c7,rfl,_⟩:=OwnI.ints hh.out.1 (by have:=HLN.out;unfold Lim;omega)
   have HO7:=zh hh.out.1;clear hh hlt
   by_cases he:idsTo x 6=[]
   ·have HI:=zh (show idsN x=[1] by rw[idsN_to,if_pos he])
    have hel:(((idsTo x 6).length:Int)==0)=true:=by rw[he];rfl
    have HE:=zh he;clear he;have HO1:=zh (OwnL.alloc HO7.out (.cells #[.int .i64 1] 3));have HRN:Hid ((wo.alloc (.cells #[.int .i64 1] 3)).rangeAt wo.heap.size 0 [.int .i64 1]):=zR wo [.int .i64 1] 3;have HZ7:Hid (wc.heap.size≤(wo.alloc (.cells #[.int .i64 1] 3)).heap.size):=by have:=HB7.out.size;show _≤_;simp;omega
    go_wp2_with (at_builtin;refine yG elem_int _ rfl (.tmp 23) (.tmp 24) rfl wc.heap.size _ _ _ rfl HO1.out wo.heap.size 0 1 1 [.int .i64 1] rfl rfl HRN.out (by simp[Value.oneCell']) (by have:=HLN.out;omega) (by have:=HLN.out;omega) HZ7.out ?_;intro v8 w8 ho8 hg8)
    go_ret
    refine ⟨_,rfl,?_,zB HB0.out ((HB7.out.alloc HB7.out.size _).grown hg8 HZ7.out HO1.out.lt)⟩;have:=OwnL.base (OwnL.snoc (x:=(1:Int)) ho8) HW.out;rw[HE.out] at this;rw[HI.out];exact this
   ·have HI:=zh (show idsN x=idsTo x 6 by rw[idsN_to,if_neg he])
    have hel:(((idsTo x 6).length:Int)==0)=false:=by
     have:(idsTo x 6).length≠0:=fun e=>he (List.eq_nil_of_length_eq_zero e)
     simp;omega
    clear he;go_wp2;go_ret;refine ⟨_,rfl,?_,zB HB0.out HB7.out⟩;rw[HI.out];exact OwnL.base HO7.out HW.out
def nmT (i:Nat):ByteArray:=⟨#[UInt8.ofNat (65+i)]⟩
def nmM (c:UInt8) (n:Nat):ByteArray:=⟨#[c,UInt8.ofNat (97+n)]⟩
theorem u8_inj {a b:Nat} (ha:a<256) (hb:b<256) (h:UInt8.ofNat a=UInt8.ofNat b):a=b:=by
 have:=congrArg UInt8.toNat h;simp only[UInt8.toNat_ofNat'] at this
 omega
theorem nmM_inj {c:UInt8} {n m:Nat} (hn:n≤20) (hm:m≤20) (h:nmM c n=nmM c m):n=m:=by
 unfold nmM at h
 injection h with h
 have h2:=congrArg Array.toList h;simp only[List.cons.injEq,true_and,and_true] at h2;have:=u8_inj (by omega) (by omega) h2
 omega
theorem nmT_inj {n m:Nat} (hn:n≤20) (hm:m≤20) (h:nmT n=nmT m):n=m:=by
 unfold nmT at h
 injection h with h
 have h2:=congrArg Array.toList h;simp only[List.cons.injEq,and_true] at h2;have:=u8_inj (by omega) (by omega) h2
 omega
theorem nmT_ok {n:Nat} (hn:n≤20):nameB (nmT n)=true:=by
 have:∀m:Fin 21,nameB (nmT m.1)=true:=by decide +kernel
 exact this ⟨n,by omega⟩
theorem nmM_ok {c:UInt8} (hc:c=109∨c=115) {n:Nat} (hn:n≤20):nameB (nmM c n)=true:=by
 have h1:∀m:Fin 21,nameB (nmM 109 m.1)=true:=by decide +kernel
 have h2:∀m:Fin 21,nameB (nmM 115 m.1)=true:=by decide +kernel
 rcases hc with rfl|rfl
 ·exact h1 ⟨n,by omega⟩
 ·exact h2 ⟨n,by omega⟩
theorem idsOk_nm {c:UInt8} (hc:c=109∨c=115):∀ (L:List (Int×ByteArray)) (b:Int) (seen:List ByteArray),0≤b→(L.map (·.1)).Pairwise (· < ·)→(∀x∈L,b<x.1∧x.1≤12∧x.2=nmM c x.1.toNat)→(∀x∈seen,∃i:Nat,(i:Int)≤b∧x=nmM c i)→b≤12→idsOk b seen L=true
 | [],_,_,_,_,_,_,_=>rfl
 | x::L,b,seen,h0,hp,hx,hs,hb=>by
  obtain ⟨h1,h2,h3⟩:=hx x (List.mem_cons_self ..);rw[List.map_cons,List.pairwise_cons] at hp;rw[idsOk];simp only[Bool.and_eq_true,decide_eq_true_eq];refine ⟨⟨⟨⟨⟨by omega,by omega⟩,h1⟩,?_⟩,?_⟩,?_⟩
  ·have:memD x.2 seen=false:=by
    cases hm:memD x.2 seen with
    | false=>rfl
    | true =>
     obtain ⟨j,hj,e⟩:=hs _ (memD_iff.1 hm);rw[h3] at e;have:=nmM_inj (by omega) (by omega) e
     omega
   rw[this];rfl
  ·rw[h3];exact nmM_ok hc (by omega)
  ·refine idsOk_nm hc L x.1 _ (by omega) hp.2 (fun y hy=>?_) (fun y hy=>?_) h2
   ·have a:=hx y (List.mem_cons_of_mem _ hy)
    have b:=hp.1 y.1 (List.mem_map_of_mem hy);exact ⟨b,a.2⟩
   ·rcases List.mem_append.1 hy with k|k
    ·obtain ⟨j,hj,e⟩:=hs y k
     exact ⟨j,by omega,e⟩
    ·obtain rfl:y=x.2:=by simpa using k
     exact ⟨x.1.toNat,by omega,h3⟩
theorem asc_len:∀ (L:List Int) (b k:Int),L.Pairwise (· < ·)→(∀x∈L,b<x∧x≤k)→b≤k→(L.length:Int)≤k - b
 | [],b,k,_,_,h=>by simp;omega
 | x::L,b,k,hp,hx,h=>by
  rw[List.pairwise_cons] at hp;have a:=hx x (List.mem_cons_self ..);have:=asc_len L x k hp.2 (fun y hy=>⟨hp.1 y hy,(hx y (List.mem_cons_of_mem _ hy)).2⟩) (by omega)
  rw[List.length_cons]
  omega
theorem idsD_nm {c:UInt8} (hc:c=109∨c=115) {L:List (Int×ByteArray)} (hp:(L.map (·.1)).Pairwise (· < ·)) (hx:∀x∈L,0<x.1∧x.1≤12∧x.2=nmM c x.1.toNat):idsD L=true:=by
 unfold idsD;rw[Bool.and_eq_true];refine ⟨idsOk_nm hc L 0 [] (by omega) hp hx (fun x hx=>by cases hx) (by omega),?_⟩
 have:=asc_len (L.map (·.1)) 0 12 hp (fun y hy=>by obtain ⟨x,h1,rfl⟩:=List.mem_map.1 hy;exact ⟨(hx x h1).1,(hx x h1).2.1⟩) (by omega)
 rw[List.length_map] at this;exact decide_eq_true (by omega)
def MsOk (rec:Bool) (n:Nat) (k:Int) (ms:List MemD):Prop :=
 (ms.map (·.id)).Pairwise (· < ·)∧∀m∈ms,(0<m.id∧m.id≤k)∧m.name=nmM 109 m.id.toNat∧(0≤m.type∧m.type<(n:Int))∧memOk rec m=true
theorem MsOk.nil (rec:Bool) (n:Nat) (k:Int):MsOk rec n k []:=⟨List.Pairwise.nil,fun _ h=>by cases h⟩
theorem MsOk.mono {rec:Bool} {n:Nat} {k k':Int} {ms:List MemD} (h:MsOk rec n k ms) (hk:k≤k'):MsOk rec n k' ms :=
 ⟨h.1,fun m hm=>⟨⟨(h.2 m hm).1.1,Int.le_trans (h.2 m hm).1.2 hk⟩,(h.2 m hm).2⟩⟩
theorem MsOk.snoc {rec:Bool} {n:Nat} {k:Nat} {ms:List MemD} (h:MsOk rec n k ms) {m:MemD} (hi:m.id=((k+1:Nat):Int)) (hn:m.name=nmM 109 (k+1)) (ht:0≤m.type∧m.type<(n:Int)) (hm:memOk rec m=true):MsOk rec n ((k+1:Nat):Int) (ms++[m]):=by
 refine ⟨?_,fun x hx=>?_⟩
 ·rw[List.map_append,List.pairwise_append]
  refine ⟨h.1,by simp,fun a ha b hb=>?_⟩
  obtain ⟨x,h1,rfl⟩:=List.mem_map.1 ha;obtain rfl:b=m.id:=by simpa using hb
  have:=(h.2 x h1).1
  omega
 ·rcases List.mem_append.1 hx with a|a
  ·exact (h.mono (by omega)).2 x a
  ·obtain rfl:x=m:=by simpa using a
   exact ⟨by omega,by rw[hn,hi];rfl,ht,hm⟩
theorem MsOk.len {rec:Bool} {n:Nat} {ms:List MemD} (h:MsOk rec n 12 ms):ms.length≤12:=by
 have:=asc_len (ms.map (·.id)) 0 12 h.1 (fun y hy=>by obtain ⟨x,h1,rfl⟩:=List.mem_map.1 hy;exact (h.2 x h1).1) (by omega)
 rw[List.length_map] at this
 omega
theorem MsOk.mems {rec:Bool} {n:Nat} {ms:List MemD} (h:MsOk rec n 12 ms) (hne:rec=true∨ms≠[]):memsD rec ms=true:=by
 unfold memsD;rw[Bool.and_eq_true,Bool.and_eq_true];refine ⟨⟨List.all_eq_true.2 fun m hm=>(h.2 m hm).2.2.2,idsD_nm (.inl rfl) ?_ fun x hx=>?_⟩,?_⟩
 ·rw[List.map_map];exact h.1
 ·obtain ⟨m,h1,rfl⟩:=List.mem_map.1 hx
  exact ⟨(h.2 m h1).1.1,(h.2 m h1).1.2,(h.2 m h1).2.1⟩
 ·rcases hne with e|e
  ·rw[e];rfl
  ·simp[e]
def symsN (x:NodeD):List SymD:=(idsN x).map fun n=>⟨n,nmM 115 n.toNat⟩
theorem idsN_ok (x : NodeD) : (idsN x).Pairwise (· < ·) ∧ (∀ n ∈ idsN x, 0 < n ∧ n ≤ 6) ∧ idsN x ≠ [] := by
  have h : ∀ p : Nat → Bool, ((((List.range 6).filter p).map fun i => ((i + 1 : Nat) : Int)).Pairwise (· < ·)) ∧ ∀ n ∈ ((List.range 6).filter p).map (fun i => ((i + 1 : Nat) : Int)), 0 < n ∧ n ≤ 6 := fun p => by
    refine ⟨?_, fun n hn => ?_⟩
    · rw [List.pairwise_map]
      refine List.Pairwise.filter p (List.Pairwise.imp (fun h => ?_) List.pairwise_lt_range)
      omega
    · obtain ⟨i, h1, rfl⟩ := List.mem_map.1 hn
      have := List.mem_range.1 (List.mem_filter.1 h1).1
      omega
  unfold idsN;simp only
  split
  · exact ⟨List.pairwise_singleton .., fun n hn => by obtain rfl : n = 1 := by simpa using hn
                                                      omega, by simp⟩
  · rename_i hne
    exact ⟨(h _).1, (h _).2, hne⟩
theorem symsN_ok (x:NodeD):symsD (symsN x)=true:=by
 obtain ⟨h1,h2,h3⟩:=idsN_ok x;unfold symsD symsN;rw[Bool.and_eq_true];refine ⟨idsD_nm (.inr rfl) ?_ fun y hy=>?_,by simpa using h3⟩
 ·rw[List.map_map,List.map_map]
  have:(idsN x).map (((fun y:Int×ByteArray=>y.1)∘(fun s:SymD=>(s.id,s.name)))∘fun n=>⟨n,nmM 115 n.toNat⟩)=idsN x:=by
   simp[Function.comp_def]
  rw[this];exact h1
 ·rw[List.map_map] at hy
  obtain ⟨n,hn,rfl⟩:=List.mem_map.1 hy;have:=h2 n hn;exact ⟨this.1,by simp only[Function.comp];omega,rfl⟩
def FlatV (x:Val):Prop:=(x.str.size≤1∧x.kind≠5∧x.kind≠6)∧x.keys=[]∧x.items=[]∧x.rest=[]
structure TyOk (d:List NodeD) (i:Nat) (t:TyD):Prop where
 form:formD t=true
 name:t.name=if namedD t.kind then nmT i else ⟨#[]⟩
 uses:∀u∈toD t,0≤u∧u<(d.length:Int)
 kind:keyKind (kindN d i)=true→t.kind=kindN d i
 key:t.kind=8→keyKind (kindN d t.key.toNat)=true∧0≤t.key∧t.key<(d.length:Int)
 mems:∀m∈t.mems,m.name.size=2
 syms:∀m∈t.syms,m.name.size=2
 flat:∀m∈t.mems,FlatV m.dflt
 num:In64 t.low∧In64 t.high
def DraftOk (d:List NodeD) (s:List TyD):Prop:=s.length=d.length∧∀i (h:i<s.length),TyOk d i s[i]
def Short (s:List TyD):Prop:=∀t∈s,t.name.size≤1∧(∀m∈t.mems,m.name.size≤2)∧∀m∈t.syms,m.name.size≤2
theorem draft_valid {d:List NodeD} {s:List TyD} (h:DraftOk d s) (hl:d.length≤5):zQ s=0:=by
 obtain ⟨h1,h2⟩:=h;refine valid_of (by omega) fun i hi=>?_
 have ho:=h2 i hi;refine tyErr_of ho.form (fun hn hm=>?_) (by rw[h1];exact ho.uses) (fun hk=>?_)
 ·obtain ⟨t,ht,e⟩:=List.mem_map.1 hm
  obtain ⟨j,hj,e2⟩:=List.getElem_of_mem ht;have hji:j<i:=by rw[List.length_take] at hj;omega
  rw[List.getElem_take] at e2;have hoj:=h2 j (by omega)
  rw[e2] at hoj;rw[ho.name] at hn e;rw[hoj.name] at e
  by_cases a:namedD (s[i]).kind=true
  ·rw[if_pos a] at e hn
   by_cases b:namedD t.kind=true
   ·rw[if_pos b] at e
    have:=nmT_inj (by omega) (by omega) e
    omega
   ·rw[if_neg b] at e;exact hn e.symm
  ·rw[if_neg a] at hn;exact hn rfl
 ·obtain ⟨a,b,c⟩:=ho.key hk
  have hkl:(s[i]).key.toNat<s.length:=by omega
  have:=(h2 _ hkl).kind a;rw[List.getD_eq_getElem?_getD,zl hkl,Option.getD_some,this];exact a
theorem draft_short {d:List NodeD} {s:List TyD} (h:DraftOk d s):Short s:=fun t ht=>by
 obtain ⟨i,hi,rfl⟩:=List.getElem_of_mem ht;have ho:=h.2 i hi;refine ⟨?_,fun m hm=>Nat.le_of_eq (ho.mems m hm),fun m hm=>Nat.le_of_eq (ho.syms m hm)⟩
 rw[ho.name]
 split
 ·exact Nat.le_of_eq rfl
 ·exact Nat.zero_le _
theorem draft_flat {d:List NodeD} {s:List TyD} (h:DraftOk d s):∀t∈s,∀m∈t.mems,FlatV m.dflt:=fun t ht=>by
 obtain ⟨i,hi,rfl⟩:=List.getElem_of_mem ht;exact (h.2 i hi).flat
theorem draft_num {d:List NodeD} {s:List TyD} (h:DraftOk d s):∀t∈s,In64 t.low∧In64 t.high:=fun t ht=>by
 obtain ⟨i,hi,rfl⟩:=List.getElem_of_mem ht;exact (h.2 i hi).num
theorem in64_0:In64 0∧In64 0:=by unfold In64;omega
theorem low_num (x:NodeD):In64 (lowN x)∧In64 (highN x):=by unfold In64 highN lowN;omega
theorem form_of {i:Nat} {t:TyD} (hi:i≤20) (h1:1≤t.kind∧t.kind≤9) (h2:t=plainD t) (h3:t.name=if namedD t.kind then nmT i else ⟨#[]⟩) (h4:caseD t=true):formD t=true:=by
 unfold formD;simp only[Bool.and_eq_true,decide_eq_true_eq];refine ⟨⟨⟨h1,h2⟩,?_⟩,h4⟩
 cases hn:namedD t.kind with
 | false=>rfl
 | true=>rw[h3,if_pos hn,nmT_ok hi];rfl
theorem toD_mems {t:TyD} (hk:¬ (t.kind=8∨t.kind=7∨t.kind=9)):toD t=t.mems.map (·.type):=by
 unfold toD usesD;rw[if_neg (fun e=>hk (.inl e)),if_neg (fun e=>hk (.inr e)),List.append_nil,List.map_map];rfl
section
variable {d:List NodeD} {i:Nat}
theorem tyOk_bool (hi:i≤20) (hk:kindN d i=1):TyOk d i { zeroT with kind:=1 } :=
 ⟨form_of hi ⟨by show (1:Int)≤(1:Int);decide,by show (1:Int)≤(9:Int);decide⟩ rfl rfl rfl,rfl,(by rw[toD_mems (by show ¬ ((1:Int)=8∨(1:Int)=7∨(1:Int)=9);decide)];intro u hu;cases hu),fun _=>hk.symm,(fun h=>by cases h),(fun _ h=>by cases h),(fun _ h=>by cases h),(fun _ h=>by cases h),in64_0⟩
theorem tyOk_int (hi:i≤20) (hk:kindN d i=2) {a b:Int} (hab:a≤b) (hn:In64 a∧In64 b):TyOk d i { zeroT with kind:=2,low:=a,high:=b } :=
 ⟨form_of hi ⟨by show (1:Int)≤(2:Int);decide,by show (2:Int)≤(9:Int);decide⟩ rfl rfl (decide_eq_true hab),rfl,(by rw[toD_mems (by show ¬ ((2:Int)=8∨(2:Int)=7∨(2:Int)=9);decide)];intro u hu;cases hu),fun _=>hk.symm,(fun h=>by cases h),(fun _ h=>by cases h),(fun _ h=>by cases h),(fun _ h=>by cases h),hn⟩
theorem tyOk_str (hi:i≤20) (hk:kindN d i=3) {a:Int} (ha:0≤a∧a≤3):TyOk d i { zeroT with kind:=3,max:=a } :=
 ⟨form_of hi ⟨by show (1:Int)≤(3:Int);decide,by show (3:Int)≤(9:Int);decide⟩ rfl rfl (by unfold caseD;simp;omega),rfl,(by rw[toD_mems (by show ¬ ((3:Int)=8∨(3:Int)=7∨(3:Int)=9);decide)];intro u hu;cases hu),fun _=>hk.symm,(fun h=>by cases h),(fun _ h=>by cases h),(fun _ h=>by cases h),(fun _ h=>by cases h),in64_0⟩
theorem tyOk_enum (hi:i≤20) (hk:kindN d i=4) (x:NodeD) (o:Bool):TyOk d i { zeroT with kind:=4,name:=nmT i,syms:=symsN x,open_:=o } :=
 ⟨form_of hi ⟨by show (1:Int)≤(4:Int);decide,by show (4:Int)≤(9:Int);decide⟩ rfl rfl (symsN_ok x),rfl,(by rw[toD_mems (by show ¬ ((4:Int)=8∨(4:Int)=7∨(4:Int)=9);decide)];intro u hu;cases hu),fun _=>hk.symm,(fun h=>by cases h),(fun _ h=>by cases h),(fun m hm=>by
  obtain ⟨n,_,rfl⟩:=List.mem_map.1 (show m∈symsN x from hm)
  rfl),(fun _ h=>by cases h),in64_0⟩
theorem MsOk.size {rec:Bool} {n:Nat} {ms:List MemD} (h:MsOk rec n 12 ms):∀m∈ms,m.name.size=2:=fun m hm=>by rw[(h.2 m hm).2.1];rfl
theorem MsOk.types {rec:Bool} {n:Nat} {ms:List MemD} (h:MsOk rec n 12 ms):∀u∈ms.map (·.type),0≤u∧u<(n:Int):=fun u hu=>by
 obtain ⟨m,hm,rfl⟩:=List.mem_map.1 hu;exact (h.2 m hm).2.2.1
theorem tyOk_rec (hi:i≤20) (hk:keyKind (kindN d i)=false) {ms:List MemD} (h:MsOk true d.length 12 ms) (hf:∀m∈ms,FlatV m.dflt):TyOk d i { zeroT with kind:=5,name:=nmT i,mems:=ms } :=
 ⟨form_of hi ⟨by show (1:Int)≤(5:Int);decide,by show (5:Int)≤(9:Int);decide⟩ rfl rfl (h.mems (.inl rfl)),rfl,(by rw[toD_mems (by show ¬ ((5:Int)=8∨(5:Int)=7∨(5:Int)=9);decide)];exact h.types),(fun e=>by rw[hk] at e;cases e),(fun h=>by cases h),h.size,(fun _ h=>by cases h),hf,in64_0⟩
theorem tyOk_union (hi:i≤20) (hk:keyKind (kindN d i)=false) {ms:List MemD} (h:MsOk false d.length 12 ms) (hf:∀m∈ms,FlatV m.dflt) (hne:ms≠[]) (o:Bool):TyOk d i { zeroT with kind:=6,name:=nmT i,mems:=ms,open_:=o } :=
 ⟨form_of hi ⟨by show (1:Int)≤(6:Int);decide,by show (6:Int)≤(9:Int);decide⟩ rfl rfl (h.mems (.inr hne)),rfl,(by rw[toD_mems (by show ¬ ((6:Int)=8∨(6:Int)=7∨(6:Int)=9);decide)];exact h.types),(fun e=>by rw[hk] at e;cases e),(fun h=>by cases h),h.size,(fun _ h=>by cases h),hf,in64_0⟩
theorem tyOk_list (hi:i≤20) (hk:keyKind (kindN d i)=false) {a b:Int} (ha:0≤a∧a≤3) (hb:0≤b∧b<(d.length:Int)):TyOk d i { zeroT with kind:=7,max:=a,elem:=b } :=
 ⟨form_of hi ⟨by show (1:Int)≤(7:Int);decide,by show (7:Int)≤(9:Int);decide⟩ rfl rfl (by unfold caseD;simp;omega),rfl,(fun u hu=>by rw[show u=b by simpa[toD,usesD,show zeroT.mems=[] from rfl] using hu];exact hb),(fun e=>by rw[hk] at e;cases e),(fun h=>by cases h),(fun _ h=>by cases h),(fun _ h=>by cases h),(fun _ h=>by cases h),in64_0⟩
theorem tyOk_map (hi:i≤20) (hk:keyKind (kindN d i)=false) {a b c:Int} (ha:0≤a∧a≤3) (hb:0≤b∧b<(d.length:Int)) (hc:0≤c∧c<(d.length:Int)) (hkc:keyKind (kindN d c.toNat)=true):TyOk d i { zeroT with kind:=8,max:=a,key:=c,elem:=b } :=
 ⟨form_of hi ⟨by show (1:Int)≤(8:Int);decide,by show (8:Int)≤(9:Int);decide⟩ rfl rfl (by unfold caseD;simp;omega),rfl,(fun u hu=>by
  have:u=c∨u=b:=by simpa[toD,usesD,show zeroT.mems=[] from rfl] using hu
  rcases this with rfl|rfl
  ·exact hc
  ·exact hb),(fun e=>by rw[hk] at e;cases e),(fun _=>⟨hkc,hc⟩),(fun _ h=>by cases h),(fun _ h=>by cases h),(fun _ h=>by cases h),in64_0⟩
theorem tyOk_opt (hi:i≤20) (hk:keyKind (kindN d i)=false) {b:Int} (hb:0≤b∧b<(d.length:Int)):TyOk d i { zeroT with kind:=9,elem:=b } :=
 ⟨form_of hi ⟨by show (1:Int)≤(9:Int);decide,by show (9:Int)≤(9:Int);decide⟩ rfl rfl rfl,rfl,(fun u hu=>by rw[show u=b by simpa[toD,usesD,show zeroT.mems=[] from rfl] using hu];exact hb),(fun e=>by rw[hk] at e;cases e),(fun h=>by cases h),(fun _ h=>by cases h),(fun _ h=>by cases h),(fun _ h=>by cases h),in64_0⟩
end
theorem kindN_range (d:List NodeD) (i:Nat):1≤kindN d i∧kindN d i≤9:=by unfold kindN;omega
theorem keyD_ok {d:List NodeD} {code:Nat} (h:¬ keyD d code<0):(0≤keyD d code∧keyD d code<(d.length:Int))∧keyKind (kindN d (keyD d code).toNat)=true:=by
 unfold keyD at h ⊢
 split
 ·rename_i k hk
  have h1:=List.find?_some hk;have h2:=List.mem_range.1 (List.mem_of_find?_eq_some hk);have h3:(code+k) % d.length<d.length:=Nat.mod_lt _ (by omega)
  exact ⟨⟨by omega,by omega⟩,h1⟩
 ·rename_i hk
  rw[hk] at h;exact absurd (show (-1:Int)<0 by decide) h
theorem targetD_ok {d:List NodeD} {i code:Nat} (hi:i<d.length) (h:¬ targetD d i code<0):0≤targetD d i code∧targetD d i code<(d.length:Int):=by
 refine ⟨by omega,?_⟩
 have h3:code % d.length<d.length:=Nat.mod_lt _ (by omega)
 unfold targetD at h ⊢
 split
 ·omega
 ·split
  ·have:code % d.length % i<i:=Nat.mod_lt _ (by assumption)
   omega
  ·unfold fstN
   split
   ·rename_i k hk
    have h2:=List.mem_range.1 (List.mem_of_find?_eq_some hk)
    omega
   ·omega
theorem low_high (x:NodeD):lowN x≤highN x:=by unfold highN;omega
def addX (x:Bool) (s:ByteArray):ByteArray:=if x then s++⟨#[120]⟩ else s
theorem app_list (s u:ByteArray):(s++u).data.toList=s.data.toList++u.data.toList:=by
 rw[ByteArray.data_append];simp
theorem bytes_ext {s u:ByteArray} (h:s.data.toList=u.data.toList):s=u:=by
 cases s;cases u;congr;exact Array.toList_inj.1 h
def Sh (n:Nat) (a b:Int):Prop:=b=a∨b=a+(n:Int)
def cpM (x:Bool) (m:MemD) (u:Int):MemD:={ m with name:=addX x m.name,type:=u }
def cpS (x:Bool) (s:SymD):SymD:={ s with name:=addX x s.name }
def cpN (x:Bool) (s:ByteArray):ByteArray:=if s=⟨#[]⟩ then s else addX x s
def cpT (x:Bool) (t:TyD) (ms:List MemD) (k e:Int):TyD:={ t with name:=cpN x t.name,syms:=t.syms.map (cpS x),mems:=ms,key:=k,elem:=e }
def MsSh (n:Nat) (x:Bool):List MemD→List MemD→Prop
 | [],[]=>True
 | m::r,c::q=>(∃u,Sh n m.type u∧c=cpM x m u)∧MsSh n x r q
 | _,_=>False
structure CpIs (n:Nat) (x:Bool) (t:TyD) (ms:List MemD) (k e:Int):Prop where
 mems:MsSh n x t.mems ms
 key:if t.kind=8 then Sh n t.key k else k=t.key
 elem:if t.kind=8∨t.kind=7∨t.kind=9 then Sh n t.elem e else e=t.elem
theorem MsSh.len {n:Nat} {x:Bool}:∀ {l m:List MemD},MsSh n x l m→m.length=l.length
 | [],[],_=>rfl
 | a::l,b::m,h=>by rw[List.length_cons,List.length_cons,MsSh.len h.2]
 | [],_::_,h=>h.elim
 | _::_,[],h=>h.elim
theorem MsSh.ids {n:Nat} {x:Bool}:∀ {l m:List MemD},MsSh n x l m→(m.map fun y=>(y.id,y.name))=(l.map fun y=>(y.id,y.name)).map fun y=>(y.1,addX x y.2)
 | [],[],_=>rfl
 | a::l,b::m,h=>by
  obtain ⟨⟨u,_,e⟩,h2⟩:=h;rw[List.map_cons,List.map_cons,List.map_cons,MsSh.ids h2,e];rfl
 | [],_::_,h=>h.elim
 | _::_,[],h=>h.elim
theorem MsSh.all {n:Nat} {x r:Bool}:∀ {l m:List MemD},MsSh n x l m→m.all (memOk r)=l.all (memOk r)
 | [],[],_=>rfl
 | a::l,b::m,h=>by
  obtain ⟨⟨u,_,e⟩,h2⟩:=h;rw[List.all_cons,List.all_cons,MsSh.all h2,e];rfl
 | [],_::_,h=>h.elim
 | _::_,[],h=>h.elim
def UsSh (n:Nat):List (Int×Int)→List (Int×Int)→Prop
 | [],[]=>True
 | u::r,v::q=>(v.1=u.1∧Sh n u.2 v.2)∧UsSh n r q
 | _,_=>False
theorem UsSh.app {n:Nat}:∀ {a b c d:List (Int×Int)},UsSh n a b→UsSh n c d→UsSh n (a++c) (b++d)
 | [],[],_,_,_,h=>h
 | _::_,_::_,_,_,h1,h2=>⟨h1.1,UsSh.app h1.2 h2⟩
 | [],_::_,_,_,h,_=>h.elim
 | _::_,[],_,_,h,_=>h.elim
theorem MsSh.uses {n:Nat} {x:Bool}:∀ {l m:List MemD},MsSh n x l m→UsSh n (l.map fun y=>(y.id,y.type)) (m.map fun y=>(y.id,y.type))
 | [],[],_=>trivial
 | a::l,b::m,h=>by
  obtain ⟨⟨u,hs,e⟩,h2⟩:=h;rw[List.map_cons,List.map_cons,e];exact ⟨⟨rfl,hs⟩,MsSh.uses h2⟩
 | [],_::_,h=>h.elim
 | _::_,[],h=>h.elim
section
variable {n:Nat} {x:Bool} {t:TyD} {ms:List MemD} {k e:Int}
theorem CpIs.uses (h:CpIs n x t ms k e):UsSh n (usesD t) (usesD (cpT x t ms k e)):=by
 unfold usesD;refine UsSh.app h.mems.uses ?_
 show UsSh n _ (if t.kind=8 then [(0,k),(-1,e)] else if t.kind=7∨t.kind=9 then [(-1,e)] else [])
 have hk:=h.key;have he:=h.elem
 by_cases h8:t.kind=8
 ·rw[if_pos h8] at hk
  rw[if_pos (.inl h8)] at he;rw[if_pos h8,if_pos h8];exact ⟨⟨rfl,hk⟩,⟨rfl,he⟩,trivial⟩
 ·rw[if_neg h8,if_neg h8]
  by_cases h7:t.kind=7∨t.kind=9
  ·rw[if_pos (.inr h7)] at he
   rw[if_pos h7,if_pos h7];exact ⟨⟨rfl,he⟩,trivial⟩
  ·rw[if_neg h7,if_neg h7]
   exact trivial
end
section
variable {s c:List TyD}
end
structure OutSt (po:Nat) (wr:World) (v:Value) (L:List TyA):Prop where
 own:OwnL 87 10 TyA.cells wr (po+1) v L
 off:∀x∈L,Off (fun q=>q≤po∨v.ownBlock=some q) wr fun u=>TyR u x.t x.As x.Am
theorem OutSt.below {po:Nat} {wr w':World} {v:Value} {L:List TyA} (h:OutSt po wr v L) (hb:Below wr.heap.size wr w'):OutSt po w' v L:=⟨h.own.below hb,fun x hx=>(h.off x hx).low hb⟩
theorem OutSt.nil (po:Nat) (wr:World):OutSt po wr (.slice none 0 0) []:=⟨OwnL.nil _ _,fun x hx=>by cases hx⟩
theorem OutSt.set {po:Nat} {wr w':World} {v:Value} {L:List TyA} (h:OutSt po wr v L) (hs:wr.heap.size≤w'.heap.size) {b:Nat} (hb:b≤po) (hk:∀q,q≠b→q<wr.heap.size→w'.heap[q]? = wr.heap[q]?):OutSt po w' v L :=
 ⟨h.own.keep fun g h1 h2 _=>hk g (by omega) h2,fun x hx=>(h.off x hx).step hs fun q hq hl=>hk q (fun e=>hq (.inl (e▸hb))) hl⟩
theorem OutSt.snoc {po:Nat} {wr w':World} {v v':Value} {L:List TyA} {x:TyA} (h:OutSt po wr v L) (hx:Off (fun q=>q≤po∨v.ownBlock=some q) wr fun u=>TyR u x.t x.As x.Am)
  (ho:w'.ownsRow (po+1) 87 10 v' (L.length+1) (L.flatMap TyA.cells++x.cells)) (hg:wr.grownBy w' v.ownBlock) (hv:v'.ownBlock=v.ownBlock∨v'.ownBlock=some wr.heap.size):OutSt po w' v' (L++[x]):=by
 refine ⟨OwnL.snoc ho,fun y hy=>?_⟩
 have hy':Off (fun q=>q≤po∨v.ownBlock=some q) wr fun u=>TyR u y.t y.As y.Am:=by
  rcases List.mem_append.1 hy with k|k
  ·exact h.off y k
  ·obtain rfl:y=x:=by simpa using k
   exact hx
 intro u hu
 refine hy' u fun q hq hl=>?_
 have hqw:w'.heap[q]? = wr.heap[q]? := yA hg hl fun k hk e=>hq (.inr (by rw[hk,e]))
 rw[←hqw];refine hu q (fun hs=>hs.elim (fun h1=>hq (.inl h1)) fun h2=>?_) (Nat.lt_of_lt_of_le hl hg.size)
 rcases hv with e|e
 ·exact hq (.inr (e▸h2))
 ·rw[e] at h2
  have:=Option.some.inj h2
  omega
theorem OutSt.rows {po:Nat} {wr:World} {v:Value} {L:List TyA} (h:OutSt po wr v L) (hl:L.length≤1000):∃A c,v = .slice A L.length c∧TysR wr A (L.map (·.t)):=by
 obtain ⟨A,c,hv,hr⟩:=OwnL.rows (bytes:=120) h.own (fun _=>rfl) (by unfold Lim;omega) (at_:=fun x cs=>TyD.At wr x.t cs) (fun x hx=>⟨x.As,x.cs,x.Am,x.cm,rfl,(h.off x hx).out⟩)
 refine ⟨A,c,hv,by unfold Lim;rw[List.length_map];omega,fun hn=>?_⟩
 obtain ⟨b,o,e,hi⟩:=hr.2 (fun e=>hn (by rw[e];rfl))
 refine ⟨b,o,e,fun i x hx=>?_⟩
 rw[List.getElem?_map] at hx;obtain ⟨y,hy,rfl⟩:=Option.map_eq_some_iff.1 hx;exact hi i y hy
end Go.Proofs.YthkkllmmbefedaaGreatDoor


