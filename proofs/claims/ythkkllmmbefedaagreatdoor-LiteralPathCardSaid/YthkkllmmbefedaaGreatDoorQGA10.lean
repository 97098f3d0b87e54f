/-
  The texts of unions and optional values: plain Lean.
-/
import Derived.Test.YthkkllmmbefedaaGreatDoorQGA9
import Derived.Test.YthkkllmmbefedaaGreatDoorShelfB
import Derived.Test.YthkkllmmbefedaaGreatDoorQGA3
import Derived.Test.YthkkllmmbefedaaGreatDoorQGA7
import Derived.Test.YthkkllmmbefedaaGreatDoorQGA8
import Derived.Shelf.Strings.BuilderK
namespace Go.Proofs.YthkkllmmbefedaaGreatDoor
open Go.RowKit
set_option maxHeartbeats 16000000
set_option maxRecDepth 100000
variable {B b:Nat} {w w':World}
theorem Lx {bs:List Value} (h:Lib.IsBuilderF 57 5 B b bs w) (hb:Below w.heap.size w w'):Lib.IsBuilderF 57 5 B b bs w':=by
 have hg:w.grownBy w' none:=⟨hb.os,hb.tape,hb.output,hb.size,fun k hk _=>hb.block k hk⟩
 have step:∀p,Lib.BuilderAtF 57 5 B b p bs w->Lib.BuilderAtF 57 5 B b p bs w':=fun p h=>by
  obtain ⟨hB,v,hbk,hown,hne⟩:=h;have hlt:=(zg.1 hbk).1;refine ⟨hB,v,(hb.block b hlt).trans hbk,?_,hne⟩
  rcases hv:v.ownBlock with _|g
  ·exact hown.kept hg (Or.inl hv)
  ·exact hown.kept hg (Or.inr (by rw[hv];simp))
 exact h.imp (step _) (step _)
def CF (w:World) (B b:Nat) (s:ByteArray):Prop:=Lib.IsBuilderF 57 5 B b (Lib.strCells s) w
abbrev XQ (b:Nat) (w w':World):Prop:=Lib.OthersKept 5 (some b) w w'
section
variable {w w':World} {B b:Nat} {s:ByteArray}
theorem CF.below (h:CF w B b s) (hb:Below w.heap.size w w'):CF w' B b s:=Lx h hb
theorem CF.new (w:World) (hB:B<=w.heap.size):CF (w.alloc (.cells #[.pointer none,.slice none 0 0] 57)) B w.heap.size ⟨#[]⟩:=Lib.IsBuilderF.of (Qb.new w hB)
theorem CF.write (h:CF w B b s) (x:ByteArray) (hl:s.size+x.size<=140737488355328) (hB:B<=w.heap.size) :
  Calls Tryz.prog 23 #[.pointer (some ⟨b,0,none⟩),.string x] w fun e w'=>e = .returned (.tuple #[.int .i64 x.size,.nilIface])/\CF w' B b (s++x)/\Below B w w'/\XQ b w w' :=
 (Any.Builder_WriteString_k Ws Tp B b (Lib.strCells s) x w h (by rw[Lib.strCells_length];exact hl) hB).mono fun _ _ ⟨h1,h2,h3,h4⟩=>⟨h1,by rw[Ke] at h2;exact Or.inr h2,h3,h4⟩
theorem CF.str (h:CF w B b s) (hB:B<=w.heap.size) :
  Calls Tryz.prog 25 #[.pointer (some ⟨b,0,none⟩)] w fun e w'=>e = .returned (.string s)/\Below B w w':=by
 have h':Lib.IsBuilderF 57 5 B b (Lib.byteCells s.data.toList) w:=by rw[<-Lib.strCells_eq];exact h
 refine (Any.Builder_String_any_k Tryz.lays169 Tryz.Builder_Extra_169 B b s.data.toList w h' hB).mono fun _ _ ⟨h1,_,h3,_⟩=>⟨?_,h3⟩
 rw[h1]
end
variable {s:ByteArray}
theorem CF.lt (h:CF w B b s):b<w.heap.size:=by
 rcases h with ⟨_,_,h,_⟩|⟨_,_,h,_⟩ <;> exact (zg.1 h).1
theorem XQ.blk {k:Nat} {cs:Array Value} {t:TypeId} {fz:Nat×Nat} (h:XQ b w w') (hk:w.heap[k]? = some (.cells cs t fz)) (hkb:k≠b) (ht:t≠5):w'.heap[k]? = some (.cells cs t fz) :=
 h k _ hk (fun e=>hkb (AAm e)) fun _ _ e=>by injection e with _ e2;exact ht e2
theorem jy:Go.Proofs.Lays.n167 Tryz.prog Us:={ Ws with
 f167:=Tryz.func69.trans (congrArg some (by kernel_rfl))
 t5:=Tryz.underlying5
 a5:=Tryz.isAgg5
 z5:=Tryz.sizeOf5
 v5:=Tryz.zeroValue5 }
def Fj (c:UInt8):ByteArray:=⟨#[c]⟩
theorem Qj (c:UInt8):Lib.strCells (Fj c)=[.int .u8 c.toNat]:=rfl
theorem CF.byte (h:CF w B b s) (c:UInt8) (hl:s.size+1<=140737488355328) (hB:B<=w.heap.size):
  Calls Tryz.prog 69 #[.pointer (some ⟨b,0,none⟩),.int .u8 c.toNat] w fun e w'=>e = .returned .nilIface/\CF w' B b (s++Fj c)/\Below B w w'/\XQ b w w' :=
 (Any.Builder_WriteByte_k jy Tp B b (Lib.strCells s) c.toNat w h (by rw[Lib.strCells_length];exact hl) hB).mono fun _ _ ⟨h1,h2,h3,h4⟩=>⟨h1,by rw[<-Qj,Ke] at h2;exact Or.inr h2,h3,h4⟩
theorem QK (h:CF w B b s) (i:Nat) (hl:s.size+(if i=0 then (⟨#[]⟩:ByteArray) else ⟨#[44,32]⟩).size<=140737488355328) (hB:B<=w.heap.size):
  Calls Tryz.prog 70 #[.pointer (some ⟨b,0,none⟩),.int .i64 i] w fun e w'=>e = .returned (.tuple #[])/\CF w' B b (s++(if i=0 then ⟨#[]⟩ else ⟨#[44,32]⟩))/\Below B w w'/\XQ b w w':=by
 have H:=zh h;have HG:=zh hB;have hlt:=h.lt
 by_cases hi:i=0
 ·subst hi
  clear h hl
  go_enter Tryz.func70,Tryz.ntmps70
  go_wp2
  refine bodyPost_end (results_none (by rfl) _ _ _) rfl ⟨rfl,?_,Pe _ _,fun _ _ h _ _=>h⟩
  show CF w B b (s++ByteArray.empty)
  rw[ByteArray.append_empty];exact H.out
 ·have HL:Hid (s.size+(⟨#[44,32]⟩:ByteArray).size<=140737488355328):=by rw[Pd hi] at hl;exact hl
  have p1:(0:Int)<(i:Int):=by omega
  rw[Pd hi];clear h hl hi
  go_enter Tryz.func70,Tryz.ntmps70
  go_wp2_with fail
  refine (H.out.write ⟨#[44,32]⟩ HL HG).mono ?_;rintro e w1 ⟨rfl,h1,h2,h3⟩;have H1:=zh h1;have H2:=zh h2;have H3:=zh h3;clear h1 h2 h3;go_wp2;refine bodyPost_end (results_none (by rfl) _ _ _) rfl ⟨rfl,H1.out,H2.out,H3.out⟩
theorem Te (n:Nat) (h:n<16):(ByteArray.mk #[48,49,50,51,52,53,54,55,56,57,97,98,99,100,101,102]).data.getD n 0=Dl n:=by
 have:∀m:Fin 16,(ByteArray.mk #[48,49,50,51,52,53,54,55,56,57,97,98,99,100,101,102]).data.getD m.1 0=Dl m.1:=by decide
 exact this ⟨n,h⟩
theorem kK (n:Nat) (h:n<16) {h'}:(ByteArray.mk #[48,49,50,51,52,53,54,55,56,57,97,98,99,100,101,102])[n]'h'=Dl n:=by
 rw[<-Te n h]
 show Array.getInternal _ n _=_
 rw[Array.getD_eq_getD_getElem?,Array.getElem?_eq_getElem (by exact h)]
 rfl
theorem aX {k:Nat} (h:k<s.size):Mv s (k+1)=Mv s k++jM s[k]:=by
 rw[Mv]
 congr 2
 show s.data.getD k 0=s.data[k]
 rw[Array.getD_eq_getD_getElem?,Array.getElem?_eq_getElem h];rfl
theorem XK (a:ByteArray) (x y:UInt8):a++Fj x++Fj y=a++(⟨#[x,y]⟩:ByteArray):=by
 rw[AA8];rfl
theorem X6 (s:ByteArray) (hl:(Rs s).size<=140737488355328) (w:World) :
  Calls Tryz.prog 67 #[.string s] w fun e w'=>e = .returned (.string (Rs s))/\Below w.heap.size w w':=by
 have HL:Hid ((Mv s s.size).size+1<=140737488355328):=by
  show _<=_
  unfold Rs at hl;rw[AAa] at hl;exact hl
 have hz:s.size<9223372036854775807:=by
  have:∀k,k<=(Mv s k).size:=fun k=>by
   induction k with
   | zero=>exact Nat.zero_le _
   | succ k ih =>
    have:1<=(jM (s.data.getD k 0)).size:=by
     unfold jM
     repeat' split
     all_goals (first|(show 1<=2;omega)|(show 1<=4;omega)|exact AAH _)
    unfold Mv;rw[AAa];omega
  have:=this s.size;have:=HL.out
  omega
 have HB0:=zh (zD w (.cells #[.pointer none,.slice none 0 0] 57));have ZK:=zh (CF.new w (AAH _));clear hl
 go_enter Tryz.func67,Tryz.ntmps67
 go_wp2_with fail
 have hs0:w.heap.size<(w.alloc (.cells #[.pointer none,.slice none 0 0] 57)).heap.size:=by simp
 generalize w.alloc (.cells #[.pointer none,.slice none 0 0] 57)=W1 at *;refine (ZK.out.byte 34 (by show 0+1<=_;omega) HB0.out.size).mono ?_
 rintro e w1 ⟨rfl,h1,h2,_⟩;have qh:Hid (CF w1 w.heap.size w.heap.size (Mv s 0)):=by
  have e:(⟨#[]⟩:ByteArray)++Fj 34=Mv s 0:=rfl;rw[e] at h1;exact h1
 have HB1:=zh (HB0.out.trans h2);clear h1 h2 hs0;go_wp2_with fail
 go_loopw [9] (fun i wr=>∃k:Nat,k<=s.size/\i = .int .i64 k/\Hid (CF wr w.heap.size w.heap.size (Mv s k)/\Below w.heap.size w wr)) (fun i _=>s.size - (intOf i).toNat)
 case atStart=>exact ⟨0,by omega,rfl,qh.out,HB1.out⟩
 case round =>
  obtain ⟨k,hk,rfl,hh⟩:=hrel;have HN:=zh hh.out.1;have HB:=zh hh.out.2;clear hh
  by_cases hlt:k<s.size
  ·have KP:=zh (aX hlt)
   have HZ:Hid ((Mv s (k+1)).size+1<=140737488355328):=by
    have:=HL.out;have:=aY s (show k+1<=s.size by omega)
    show _<=_
    omega
   have h1:(0:Int)<=(k:Int):=by omega
   have h2:(k:Int)<(s.size:Int):=by omega
   go_upto_region 8 with fail
   generalize s[k]=ch at *;generalize hQ:Mv s k=Q at *;have hch:ch.toNat<256:=ch.toNat_lt;have HT:Hid (∀X,X=jM ch->Q++X=Mv s (k+1)):=fun X hX=>by rw[hX,KP.out]
   have HZ2:Hid (∀X,X=jM ch->Q.size+X.size+1<=140737488355328):=fun X hX=>by
    have:=HZ.out;rw[<-HT.out X hX,AAa] at this;exact this
   have qX:Hid (jM ch=if ch.toNat=34\/ch.toNat=92 then ⟨#[92,ch]⟩ else if ch.toNat=10 then ⟨#[92,110]⟩ else if ch.toNat<32\/126<ch.toNat then ⟨#[92,120,Dl (ch.toNat / 16),Dl (ch.toNat % 16)]⟩ else ⟨#[ch]⟩):=rfl
   clear KP HZ hQ
   by_cases c1:ch.toNat=34\/ch.toNat=92
   ·have HC:=zh (qX.out.trans (AAG c1))
    have HZ3:=zh (HZ2.out _ HC.out.symm);have HT3:=zh (HT.out _ HC.out.symm);have HD:(ch.toNat=34)\/(¬ ch.toNat=34/\ch.toNat=92):=by omega
    clear c1 HC HZ2 HT qX
    rcases HD with p34|⟨p34,p92⟩
    ·have q1:((ch.toNat:Int)==34)=true:=by simp[p34]
     clear p34;go_wp2_with fail;refine (HN.out.byte 92 (by have:=HZ3.out;rw[show (ByteArray.mk #[92,ch]).size=2 from rfl] at this;omega) HB.out.size).mono ?_
     rintro e w5 ⟨rfl,g1,g2,_⟩;have Ry:=zh g1;have Ap:=zh (HB.out.trans g2);clear g1 g2;go_wp2_with fail;refine (Ry.out.byte ch (by have:=HZ3.out;rw[show (ByteArray.mk #[92,ch]).size=2 from rfl] at this;rw[AAa];show _+1+1<=_;omega) Ap.out.size).mono ?_
     rintro e w6 ⟨rfl,g1,g2,_⟩;have lW:=zh g1;have BN:=zh (Ap.out.trans g2);clear g1 g2;have HF:Hid (CF w6 w.heap.size w.heap.size (Mv s (k+1))):=by
      have h:=lW.out
      show CF _ _ _ _
      rw[XK,HT3.out] at h;exact h
     clear lW;go_wp2;go_roundw
     case rel=>exact ⟨k+1,by omega,by go_num,HF.out,BN.out⟩
     case measure=>simp[intOf];omega
    ·have q1:((ch.toNat:Int)==34)=false:=by simp;omega
     have q2:((ch.toNat:Int)==92)=true:=by simp[p92]
     clear p34 p92;go_wp2_with fail;refine (HN.out.byte 92 (by have:=HZ3.out;rw[show (ByteArray.mk #[92,ch]).size=2 from rfl] at this;omega) HB.out.size).mono ?_
     rintro e w5 ⟨rfl,g1,g2,_⟩;have Ry:=zh g1;have Ap:=zh (HB.out.trans g2);clear g1 g2;go_wp2_with fail;refine (Ry.out.byte ch (by have:=HZ3.out;rw[show (ByteArray.mk #[92,ch]).size=2 from rfl] at this;rw[AAa];show _+1+1<=_;omega) Ap.out.size).mono ?_
     rintro e w6 ⟨rfl,g1,g2,_⟩;have lW:=zh g1;have BN:=zh (Ap.out.trans g2);clear g1 g2;have HF:Hid (CF w6 w.heap.size w.heap.size (Mv s (k+1))):=by
      have h:=lW.out
      show CF _ _ _ _
      rw[XK,HT3.out] at h;exact h
     clear lW;go_wp2;go_roundw
     case rel=>exact ⟨k+1,by omega,by go_num,HF.out,BN.out⟩
     case measure=>simp[intOf];omega
   ·have q1:((ch.toNat:Int)==34)=false:=by simp;omega
    have q2:((ch.toNat:Int)==92)=false:=by simp;omega
    have nA:=zh (qX.out.trans (Pd c1))
    by_cases c2:ch.toNat=10
    ·have HC:=zh (nA.out.trans (AAG c2))
     have HZ3:=zh (HZ2.out _ HC.out.symm);have HT3:=zh (HT.out _ HC.out.symm);have q3:((ch.toNat:Int)==10)=true:=by simp[c2]
     clear c1 c2 HC HZ2 HT qX nA;go_wp2_with fail;refine (HN.out.write ⟨#[92,110]⟩ (by have:=HZ3.out;omega) HB.out.size).mono ?_
     rintro e w5 ⟨rfl,g1,g2,_⟩;have Ry:=zh g1;have Ap:=zh (HB.out.trans g2);clear g1 g2;have HF:Hid (CF w5 w.heap.size w.heap.size (Mv s (k+1))):=by
      have h:=Ry.out
      show CF _ _ _ _
      rw[HT3.out] at h;exact h
     clear Ry;go_wp2;go_roundw
     case rel=>exact ⟨k+1,by omega,by go_num,HF.out,Ap.out⟩
     case measure=>simp[intOf];omega
    ·have q3:((ch.toNat:Int)==10)=false:=by simp;omega
     have qY:=zh (nA.out.trans (Pd c2))
     by_cases c3:ch.toNat<32\/126<ch.toNat
     ·have HC:=zh (qY.out.trans (AAG c3))
      have HZ3:=zh (HZ2.out _ HC.out.symm);have HT3:=zh (HT.out _ HC.out.symm);have HD:(ch.toNat:Int)<32\/(¬ (ch.toNat:Int)<32/\(126:Int)<(ch.toNat:Int)):=by omega
      clear c1 c2 c3 HC HZ2 HT qX nA qY
      rcases HD with p1|⟨p1,p2⟩
      ·go_wp2_with fail
       refine (HN.out.write ⟨#[92,120]⟩ (by have:=HZ3.out;rw[show (ByteArray.mk #[92,120,Dl (ch.toNat / 16),Dl (ch.toNat % 16)]).size=4 from rfl] at this;show _+2<=_;omega) HB.out.size).mono ?_
       rintro e w5 ⟨rfl,g1,g2,_⟩;have Ry:=zh g1;have Ap:=zh (HB.out.trans g2);clear g1 g2;go_wp2_with fail;refine (Ry.out.byte _ (by have:=HZ3.out;rw[show (ByteArray.mk #[92,120,Dl (ch.toNat / 16),Dl (ch.toNat % 16)]).size=4 from rfl] at this;rw[AAa];show _+2+1<=_;omega) Ap.out.size).mono ?_
       rintro e w6 ⟨rfl,g1,g2,_⟩;have lW:=zh g1;have BN:=zh (Ap.out.trans g2);clear g1 g2;go_wp2_with fail;refine (lW.out.byte _ (by have:=HZ3.out;rw[show (ByteArray.mk #[92,120,Dl (ch.toNat / 16),Dl (ch.toNat % 16)]).size=4 from rfl] at this;rw[AAa,AAa];show _+2+1+1<=_;omega) BN.out.size).mono ?_
       rintro e w7 ⟨rfl,g1,g2,_⟩;have vo:=zh g1;have CS:=zh (BN.out.trans g2);clear g1 g2;have HF:Hid (CF w7 w.heap.size w.heap.size (Mv s (k+1))):=by
        have h:=vo.out
        show CF _ _ _ _
        rw[kK _ (by omega),kK _ (by omega),show Q++(⟨#[92,120]⟩:ByteArray)++Fj (Dl (ch.toNat / 16))++Fj (Dl (ch.toNat % 16))=Q++(⟨#[92,120,Dl (ch.toNat / 16),Dl (ch.toNat % 16)]⟩:ByteArray) by rw[AA8,AA8];rfl,HT3.out] at h;exact h
       clear vo;go_wp2;go_roundw
       case rel=>exact ⟨k+1,by omega,by go_num,HF.out,CS.out⟩
       case measure=>simp[intOf];omega
      ·go_wp2_with fail
       refine (HN.out.write ⟨#[92,120]⟩ (by have:=HZ3.out;rw[show (ByteArray.mk #[92,120,Dl (ch.toNat / 16),Dl (ch.toNat % 16)]).size=4 from rfl] at this;show _+2<=_;omega) HB.out.size).mono ?_
       rintro e w5 ⟨rfl,g1,g2,_⟩;have Ry:=zh g1;have Ap:=zh (HB.out.trans g2);clear g1 g2;go_wp2_with fail;refine (Ry.out.byte _ (by have:=HZ3.out;rw[show (ByteArray.mk #[92,120,Dl (ch.toNat / 16),Dl (ch.toNat % 16)]).size=4 from rfl] at this;rw[AAa];show _+2+1<=_;omega) Ap.out.size).mono ?_
       rintro e w6 ⟨rfl,g1,g2,_⟩;have lW:=zh g1;have BN:=zh (Ap.out.trans g2);clear g1 g2;go_wp2_with fail;refine (lW.out.byte _ (by have:=HZ3.out;rw[show (ByteArray.mk #[92,120,Dl (ch.toNat / 16),Dl (ch.toNat % 16)]).size=4 from rfl] at this;rw[AAa,AAa];show _+2+1+1<=_;omega) BN.out.size).mono ?_
       rintro e w7 ⟨rfl,g1,g2,_⟩;have vo:=zh g1;have CS:=zh (BN.out.trans g2);clear g1 g2;have HF:Hid (CF w7 w.heap.size w.heap.size (Mv s (k+1))):=by
        have h:=vo.out
        show CF _ _ _ _
        rw[kK _ (by omega),kK _ (by omega),show Q++(⟨#[92,120]⟩:ByteArray)++Fj (Dl (ch.toNat / 16))++Fj (Dl (ch.toNat % 16))=Q++(⟨#[92,120,Dl (ch.toNat / 16),Dl (ch.toNat % 16)]⟩:ByteArray) by rw[AA8,AA8];rfl,HT3.out] at h;exact h
       clear vo;go_wp2;go_roundw
       case rel=>exact ⟨k+1,by omega,by go_num,HF.out,CS.out⟩
       case measure=>simp[intOf];omega
     ·have HC:=zh (qY.out.trans (Pd c3))
      have HZ3:=zh (HZ2.out _ HC.out.symm);have HT3:=zh (HT.out _ HC.out.symm);have p1:¬ (ch.toNat:Int)<32:=by omega
      have p2:¬ (126:Int)<(ch.toNat:Int):=by omega
      clear c1 c2 c3 HC HZ2 HT qX nA qY;go_wp2_with fail;refine (HN.out.byte ch (by have:=HZ3.out;rw[show (ByteArray.mk #[ch]).size=1 from rfl] at this;omega) HB.out.size).mono ?_
      rintro e w5 ⟨rfl,g1,g2,_⟩;have Ry:=zh g1;have Ap:=zh (HB.out.trans g2);clear g1 g2;have HF:Hid (CF w5 w.heap.size w.heap.size (Mv s (k+1))):=by
       have h:=Ry.out
       show CF _ _ _ _
       rw[show Q++Fj ch=Q++(⟨#[ch]⟩:ByteArray) from rfl,HT3.out] at h;exact h
      clear Ry;go_wp2;go_roundw
      case rel=>exact ⟨k+1,by omega,by go_num,HF.out,Ap.out⟩
      case measure=>simp[intOf];omega
  ·obtain rfl:k=s.size:=by omega
   go_wp2_with fail
   refine (HN.out.byte 34 HL HB.out.size).mono ?_;rintro e w2 ⟨rfl,h1,h2,_⟩;have qg:Hid (CF w2 w.heap.size w.heap.size (Rs s)):=h1;have HB2:=zh (HB.out.trans h2);clear h1 h2;go_wp2_with fail;refine (qg.out.str HB2.out.size).mono ?_;rintro e w3 ⟨rfl,h3⟩;have HB3:=zh (HB2.out.trans h3);clear h3;go_wp2;go_ret;exact ⟨rfl,HB3.out⟩
theorem yD (hb:Below w.heap.size w w'):XQ b w w':=fun _ _ hk _ _=>zE hk hb
theorem Gs {w1 w2:World} (h:XQ b w w1) (h':XQ b w1 w2):XQ b w w2:=fun k o hk h1 h2=>h' k o (h k o hk h1 h2) h1 h2
structure Hu (s:List Ae) (A:zo) (c:Nat) (x:Ae) (As:zo) (cs:Nat) (Am:zo) (cm:Nat) (v:Val) (A1:zo) (c1:Nat) (A2:zo) (c2:Nat) (A3:zo) (c3:Nat) (B b p5 p7 p8:Nat) (ws w:World) (T:ByteArray):Prop where
 Ot:CF w B b T
 fr:Below B ws w
 ot:XQ b ws w
 n5:p5≠b
 n7:p7≠b
 n8:p8≠b
 h5:w.heap[p5]? = some (.cells #[.slice A s.length c] 31)
 h7:w.heap[p7]? = some (v.box A1 c1 A2 c2 A3 c3)
 h8:w.heap[p8]? = some (x.box As cs Am cm)
 ge:B<=w.heap.size
section
variable {s:List Ae} {A:zo} {c:Nat} {x:Ae} {As:zo} {cs:Nat} {Am:zo} {cm:Nat} {v:Val} {A1:zo} {c1:Nat} {A2:zo} {c2:Nat} {A3:zo} {c3:Nat} {B b p5 p7 p8:Nat} {ws w w':World} {T T':ByteArray}
theorem Hu.step (h:Hu s A c x As cs Am cm v A1 c1 A2 c2 A3 c3 B b p5 p7 p8 ws w T) (h1:CF w' B b T') (h2:Below B w w') (h3:XQ b w w'):Hu s A c x As cs Am cm v A1 c1 A2 c2 A3 c3 B b p5 p7 p8 ws w' T' :=
 ⟨h1,h.fr.trans h2,Gs h.ot h3,h.n5,h.n7,h.n8,h3.blk h.h5 h.n5 (by decide),h3.blk h.h7 h.n7 (by decide),h3.blk h.h8 h.n8 (by decide),Nat.le_trans h.ge h2.size⟩
theorem Hu.below (h:Hu s A c x As cs Am cm v A1 c1 A2 c2 A3 c3 B b p5 p7 p8 ws w T) (hb:Below w.heap.size w w'):Hu s A c x As cs Am cm v A1 c1 A2 c2 A3 c3 B b p5 p7 p8 ws w' T :=
 ⟨h.Ot.below hb,h.fr.trans (hb.mono h.ge),Gs h.ot (yD hb),h.n5,h.n7,h.n8,zE h.h5 hb,zE h.h7 hb,zE h.h8 hb,Nat.le_trans h.ge hb.size⟩
theorem Hu.c5 (h:Hu s A c x As cs Am cm v A1 c1 A2 c2 A3 c3 B b p5 p7 p8 ws w T):w.cell? ⟨p5,0,none⟩=some (.slice A s.length c):=by rw[AAE _ _ _ _ _ _ h.h5];rfl
theorem Hu.fin (h:Hu s A c x As cs Am cm v A1 c1 A2 c2 A3 c3 B b p5 p7 p8 ws w T):CF w B b T/\Below B ws w/\XQ b ws w:=⟨h.Ot,h.fr,h.ot⟩
theorem Hu.up {w0:World} (h:Hu s A c x As cs Am cm v A1 c1 A2 c2 A3 c3 B b p5 p7 p8 ws w T) (hb:Below B w0 ws) (hg:w0.heap.size<=B):Below w0.heap.size w0 w:=(hb.trans h.fr).mono hg
end
def WriteAt (s:List Ae) (A:zo) (c:Nat) (n:Nat):Prop:=∀ (t:Int) (v:Val) (A1:zo) (c1:Nat) (A2:zo) (c2:Nat) (A3:zo) (c3:Nat) (w0 w:World) (B b:Nat) (T:ByteArray),
 AU s false n t v=true->CQ w0 A s->Az w0 v A1 A2 A3->eH w0->w0.heap.size<=B->Below B w0 w->B<=w.heap.size->CF w B b T->T.size+(CZ s n t v).size<=140737488355328 ->
 Calls Tryz.prog 44 #[.pointer (some ⟨b,0,none⟩),.agg #[.slice A s.length c],.int .i64 t,v.v A1 c1 A2 c2 A3 c3] w fun e w'=>e = .returned (.tuple #[])/\CF w' B b (T++CZ s n t v)/\Below B w w'/\XQ b w w'
def Vk (s:List Ae) (A:zo) (c:Nat) (n:Nat) (k:Int):Prop:=∀ (t:Int) (v:Val) (A1:zo) (c1:Nat) (A2:zo) (c2:Nat) (A3:zo) (c3:Nat) (w0 w:World) (B b:Nat) (T:ByteArray),
 (AB s t).kind=k->AU s false (n+1) t v=true->CQ w0 A s->Az w0 v A1 A2 A3->eH w0->w0.heap.size<=B->Below B w0 w->B<=w.heap.size->CF w B b T->T.size+(CZ s (n+1) t v).size<=140737488355328 ->
 Calls Tryz.prog 44 #[.pointer (some ⟨b,0,none⟩),.agg #[.slice A s.length c],.int .i64 t,v.v A1 c1 A2 c2 A3 c3] w fun e w'=>e = .returned (.tuple #[])/\CF w' B b (T++CZ s (n+1) t v)/\Below B w w'/\XQ b w w'
theorem YT {α:Type} {l:List α} (h:0<l.length):∃y r,l=y::r/\l[0]=y:=by
 cases l with
 | nil=>cases h
 | cons y r=>exact ⟨y,r,rfl,rfl⟩
section
variable {f:Int->Val->ByteArray} {x:Ae} {v:Val}
theorem YS (e:x.kind=9) (h:0<v.items.length):Nz f x v=⟨#[115,111,109,101,40]⟩++f x.elem v.items[0]++⟨#[41]⟩:=by
 obtain ⟨y,r,h1,h2⟩:=YT h;rw[h2,tX e,h1]
end
end Go.Proofs.YthkkllmmbefedaaGreatDoor



