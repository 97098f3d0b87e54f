/-
  Walks: literal.write, kinds 7.
-/
import Derived.Test.YthkkllmmbefedaaGreatDoorQGA9
namespace Go.Proofs.YthkkllmmbefedaaGreatDoor
open Go.RowKit Tryz
set_option maxHeartbeats 16000000
set_option maxRecDepth 100000
variable {B b:Nat} {w w':World}
theorem Np {bs:List Value} (h:Lib.IsBuilderF 57 5 B b bs w) (hb:Below w.heap.size w w'):Lib.IsBuilderF 57 5 B b bs w':=by
 have hg:w.grownBy w' none:=⟨hb.os,hb.tape,hb.output,hb.size,fun k hk _=>hb.block k hk⟩
 have step:∀p,Lib.BuilderAtF 57 5 B b p bs w->Lib.BuilderAtF 57 5 B b p bs w':=fun p h=>by
  obtain ⟨hB,v,hbk,hown,hne⟩:=h;have hlt:=(zg.1 hbk).1;refine ⟨hB,v,(hb.block b hlt).trans hbk,?_,hne⟩
  rcases hv:v.ownBlock with _|g
  ·exact hown.kept hg (Or.inl hv)
  ·exact hown.kept hg (Or.inr (by rw[hv];simp))
 exact h.imp (step _) (step _)
def CX (w:World) (B b:Nat) (s:ByteArray):Prop:=Lib.IsBuilderF 57 5 B b (Lib.strCells s) w
abbrev Zr (b:Nat) (w w':World):Prop:=Lib.OthersKept 5 (some b) w w'
section
variable {w w':World} {B b:Nat} {s:ByteArray}
theorem CX.below (h:CX w B b s) (hb:Below w.heap.size w w'):CX w' B b s:=Np h hb
theorem CX.new (w:World) (hB:B<=w.heap.size):CX (w.alloc (.cells #[.pointer none,.slice none 0 0] 57)) B w.heap.size ⟨#[]⟩:=Lib.IsBuilderF.of (SG.new w hB)
theorem CX.write (h:CX w B b s) (x:ByteArray) (hl:s.size+x.size<=140737488355328) (hB:B<=w.heap.size) :
  Calls prog 23 #[.pointer (some ⟨b,0,none⟩),.string x] w fun e w'=>e = .returned (.tuple #[.int .i64 x.size,.nilIface])/\CX w' B b (s++x)/\Below B w w'/\Zr b w w' :=
 (Any.Builder_WriteString_k ZQ Vm B b (Lib.strCells s) x w h (by rw[Lib.strCells_length];exact hl) hB).mono fun _ _ ⟨h1,h2,h3,h4⟩=>⟨h1,by rw[MF] at h2;exact Or.inr h2,h3,h4⟩
theorem CX.str (h:CX w B b s) (hB:B<=w.heap.size) :
  Calls prog 25 #[.pointer (some ⟨b,0,none⟩)] w fun e w'=>e = .returned (.string s)/\Below B w w':=by
 have h':Lib.IsBuilderF 57 5 B b (Lib.byteCells s.data.toList) w:=by rw[<-Lib.strCells_eq];exact h
 refine (Any.Builder_String_any_k lays169 Tryz.Builder_Extra_169 B b s.data.toList w h' hB).mono fun _ _ ⟨h1,_,h3,_⟩=>⟨?_,h3⟩
 rw[h1]
end
variable {s:ByteArray}
theorem CX.lt (h:CX w B b s):b<w.heap.size:=by
 rcases h with ⟨_,_,h,_⟩|⟨_,_,h,_⟩ <;> exact (zg.1 h).1
theorem Zr.blk {k:Nat} {cs:Array Value} {t:TypeId} {fz:Nat×Nat} (h:Zr b w w') (hk:w.heap[k]? = some (.cells cs t fz)) (hkb:k≠b) (ht:t≠5):w'.heap[k]? = some (.cells cs t fz) :=
 h k _ hk (fun e=>hkb (ABW e)) fun _ _ e=>by injection e with _ e2;exact ht e2
theorem qc:Go.Proofs.Lays.n167 prog XO:={ ZQ with
 f167:=func69.trans (congrArg some (by kernel_rfl))
 t5:=underlying5
 a5:=isAgg5
 z5:=sizeOf5
 v5:=zeroValue5 }
def DL (c:UInt8):ByteArray:=⟨#[c]⟩
theorem SY (c:UInt8):Lib.strCells (DL c)=[.int .u8 c.toNat]:=rfl
theorem CX.byte (h:CX w B b s) (c:UInt8) (hl:s.size+1<=140737488355328) (hB:B<=w.heap.size):
  Calls prog 69 #[.pointer (some ⟨b,0,none⟩),.int .u8 c.toNat] w fun e w'=>e = .returned .nilIface/\CX w' B b (s++DL c)/\Below B w w'/\Zr b w w' :=
 (Any.Builder_WriteByte_k qc Vm B b (Lib.strCells s) c.toNat w h (by rw[Lib.strCells_length];exact hl) hB).mono fun _ _ ⟨h1,h2,h3,h4⟩=>⟨h1,by rw[<-SY,MF] at h2;exact Or.inr h2,h3,h4⟩
theorem Tj (b:Bool) (w:World) :
  Calls prog 66 #[.bool b] w fun e w'=>e = .returned (.string (if b then ⟨#[116,114,117,101]⟩ else ⟨#[102,97,108,115,101]⟩))/\w'=w :=
 (strconv_FormatBool b w).mono fun _ _ ⟨h1,h2⟩=>⟨by rw[h1];cases b <;> rfl,h2⟩
theorem Ki (h:CX w B b s) (i:Nat) (hl:s.size+(if i=0 then (⟨#[]⟩:ByteArray) else ⟨#[44,32]⟩).size<=140737488355328) (hB:B<=w.heap.size):
  Calls prog 70 #[.pointer (some ⟨b,0,none⟩),.int .i64 i] w fun e w'=>e = .returned (.tuple #[])/\CX w' B b (s++(if i=0 then ⟨#[]⟩ else ⟨#[44,32]⟩))/\Below B w w'/\Zr b w w':=by
 have H:=zh h;have HG:=zh hB;have hlt:=h.lt
 by_cases hi:i=0
 ·subst hi
  clear h hl
  go_enter func70,ntmps70
  go_wp2
  refine bodyPost_end (results_none (by rfl) _ _ _) rfl ⟨rfl,?_,Pe _ _,fun _ _ h _ _=>h⟩
  show CX w B b (s++ByteArray.empty)
  rw[ByteArray.append_empty];exact H.O
 ·have HL:Hid (s.size+(⟨#[44,32]⟩:ByteArray).size<=140737488355328):=by rw[Pd hi] at hl;exact hl
  have p1:(0:Int)<(i:Int):=by omega
  rw[Pd hi];clear h hl hi
  go_enter func70,ntmps70
  go_wp2_with fail
  refine (H.O.write ⟨#[44,32]⟩ HL HG).mono ?_;rintro e w1 ⟨rfl,h1,h2,h3⟩;have H1:=zh h1;have H2:=zh h2;have H3:=zh h3;clear h1 h2 h3;go_wp2;refine bodyPost_end (results_none (by rfl) _ _ _) rfl ⟨rfl,H1.O,H2.O,H3.O⟩
theorem Vb (n:Nat) (h:n<16):(ByteArray.mk #[48,49,50,51,52,53,54,55,56,57,97,98,99,100,101,102]).data.getD n 0=Ct n:=by
 have:∀m:Fin 16,(ByteArray.mk #[48,49,50,51,52,53,54,55,56,57,97,98,99,100,101,102]).data.getD m.1 0=Ct m.1:=by decide
 exact this ⟨n,h⟩
theorem qj (n:Nat) (h:n<16) {h'}:(ByteArray.mk #[48,49,50,51,52,53,54,55,56,57,97,98,99,100,101,102])[n]'h'=Ct n:=by
 rw[<-Vb n h]
 show Array.getInternal _ n _=_
 rw[Array.getD_eq_getD_getElem?,Array.getElem?_eq_getElem (by exact h)]
 rfl
theorem jQ {k:Nat} (h:k<s.size):NV s (k+1)=NV s k++Jj s[k]:=by
 rw[NV]
 congr 2
 show s.data.getD k 0=s.data[k]
 rw[Array.getD_eq_getD_getElem?,Array.getElem?_eq_getElem h];rfl
theorem Zl (a:ByteArray) (x y:UInt8):a++DL x++DL y=a++(⟨#[x,y]⟩:ByteArray):=by
 rw[ABX];rfl
theorem NT (s:ByteArray) (hl:(Lr s).size<=140737488355328) (w:World) :
  Calls prog 67 #[.string s] w fun e w'=>e = .returned (.string (Lr s))/\Below w.heap.size w w':=by
 have HL:Hid ((NV s s.size).size+1<=140737488355328):=by
  show _<=_
  unfold Lr at hl;rw[AAH] at hl;exact hl
 have hz:s.size<9223372036854775807:=by
  have:∀k,k<=(NV s k).size:=fun k=>by
   induction k with
   | zero=>exact Nat.zero_le _
   | succ k ih =>
    have:1<=(Jj (s.data.getD k 0)).size:=by
     unfold Jj
     repeat' split
     all_goals (first|(show 1<=2;omega)|(show 1<=4;omega)|exact AAF _)
    unfold NV;rw[AAH];omega
  have:=this s.size;have:=HL.O
  omega
 have HB0:=zh (zD w (.cells #[.pointer none,.slice none 0 0] 57));have nG:=zh (CX.new w (AAF _));clear hl
 go_enter func67,ntmps67
 go_wp2_with fail
 have hs0:w.heap.size<(w.alloc (.cells #[.pointer none,.slice none 0 0] 57)).heap.size:=by simp
 generalize w.alloc (.cells #[.pointer none,.slice none 0 0] 57)=W1 at *;refine (nG.O.byte 34 (by show 0+1<=_;omega) HB0.O.size).mono ?_
 rintro e w1 ⟨rfl,h1,h2,_⟩;have SB:Hid (CX w1 w.heap.size w.heap.size (NV s 0)):=by
  have e:(⟨#[]⟩:ByteArray)++DL 34=NV s 0:=rfl;rw[e] at h1;exact h1
 have HB1:=zh (HB0.O.trans h2);clear h1 h2 hs0;go_wp2_with fail
 go_loopw [9] (fun i wr=>∃k:Nat,k<=s.size/\i = .int .i64 k/\Hid (CX wr w.heap.size w.heap.size (NV s k)/\Below w.heap.size w wr)) (fun i _=>s.size - (intOf i).toNat)
 case atStart=>exact ⟨0,by omega,rfl,SB.O,HB1.O⟩
 case round =>
  obtain ⟨k,hk,rfl,hh⟩:=hrel;have HN:=zh hh.O.1;have HB:=zh hh.O.2;clear hh
  by_cases hlt:k<s.size
  ·have Il:=zh (jQ hlt)
   have HZ:Hid ((NV s (k+1)).size+1<=140737488355328):=by
    have:=HL.O;have:=jR s (show k+1<=s.size by omega)
    show _<=_
    omega
   have h1:(0:Int)<=(k:Int):=by omega
   have h2:(k:Int)<(s.size:Int):=by omega
   go_upto_region 8 with fail
   generalize s[k]=ch at *;generalize hQ:NV s k=Q at *;have hch:ch.toNat<256:=ch.toNat_lt;have HT:Hid (∀X,X=Jj ch->Q++X=NV s (k+1)):=fun X hX=>by rw[hX,Il.O]
   have HZ2:Hid (∀X,X=Jj ch->Q.size+X.size+1<=140737488355328):=fun X hX=>by
    have:=HZ.O;rw[<-HT.O X hX,AAH] at this;exact this
   have YT:Hid (Jj ch=if ch.toNat=34\/ch.toNat=92 then ⟨#[92,ch]⟩ else if ch.toNat=10 then ⟨#[92,110]⟩ else if ch.toNat<32\/126<ch.toNat then ⟨#[92,120,Ct (ch.toNat / 16),Ct (ch.toNat % 16)]⟩ else ⟨#[ch]⟩):=rfl
   clear Il HZ hQ
   by_cases c1:ch.toNat=34\/ch.toNat=92
   ·have HC:=zh (YT.O.trans (AAB c1))
    have HZ3:=zh (HZ2.O _ HC.O.symm);have HT3:=zh (HT.O _ HC.O.symm);have HD:(ch.toNat=34)\/(¬ ch.toNat=34/\ch.toNat=92):=by omega
    clear c1 HC HZ2 HT YT
    rcases HD with p34|⟨p34,vO⟩
    ·have q1:((ch.toNat:Int)==34)=true:=by simp[p34]
     clear p34;go_wp2_with fail;refine (HN.O.byte 92 (by have:=HZ3.O;rw[show (ByteArray.mk #[92,ch]).size=2 from rfl] at this;omega) HB.O.size).mono ?_
     rintro e w5 ⟨rfl,g1,g2,_⟩;have WS:=zh g1;have Aq:=zh (HB.O.trans g2);clear g1 g2;go_wp2_with fail;refine (WS.O.byte ch (by have:=HZ3.O;rw[show (ByteArray.mk #[92,ch]).size=2 from rfl] at this;rw[AAH];show _+1+1<=_;omega) Aq.O.size).mono ?_
     rintro e w6 ⟨rfl,g1,g2,_⟩;have nD:=zh g1;have BH:=zh (Aq.O.trans g2);clear g1 g2;have HF:Hid (CX w6 w.heap.size w.heap.size (NV s (k+1))):=by
      have h:=nD.O
      show CX _ _ _ _
      rw[Zl,HT3.O] at h;exact h
     clear nD;go_wp2;go_roundw
     case rel=>exact ⟨k+1,by omega,by go_num,HF.O,BH.O⟩
     case measure=>simp[intOf];omega
    ·have q1:((ch.toNat:Int)==34)=false:=by simp;omega
     have q2:((ch.toNat:Int)==92)=true:=by simp[vO]
     clear p34 vO;go_wp2_with fail;refine (HN.O.byte 92 (by have:=HZ3.O;rw[show (ByteArray.mk #[92,ch]).size=2 from rfl] at this;omega) HB.O.size).mono ?_
     rintro e w5 ⟨rfl,g1,g2,_⟩;have WS:=zh g1;have Aq:=zh (HB.O.trans g2);clear g1 g2;go_wp2_with fail;refine (WS.O.byte ch (by have:=HZ3.O;rw[show (ByteArray.mk #[92,ch]).size=2 from rfl] at this;rw[AAH];show _+1+1<=_;omega) Aq.O.size).mono ?_
     rintro e w6 ⟨rfl,g1,g2,_⟩;have nD:=zh g1;have BH:=zh (Aq.O.trans g2);clear g1 g2;have HF:Hid (CX w6 w.heap.size w.heap.size (NV s (k+1))):=by
      have h:=nD.O
      show CX _ _ _ _
      rw[Zl,HT3.O] at h;exact h
     clear nD;go_wp2;go_roundw
     case rel=>exact ⟨k+1,by omega,by go_num,HF.O,BH.O⟩
     case measure=>simp[intOf];omega
   ·have q1:((ch.toNat:Int)==34)=false:=by simp;omega
    have q2:((ch.toNat:Int)==92)=false:=by simp;omega
    have Zw:=zh (YT.O.trans (Pd c1))
    by_cases c2:ch.toNat=10
    ·have HC:=zh (Zw.O.trans (AAB c2))
     have HZ3:=zh (HZ2.O _ HC.O.symm);have HT3:=zh (HT.O _ HC.O.symm);have q3:((ch.toNat:Int)==10)=true:=by simp[c2]
     clear c1 c2 HC HZ2 HT YT Zw;go_wp2_with fail;refine (HN.O.write ⟨#[92,110]⟩ (by have:=HZ3.O;omega) HB.O.size).mono ?_
     rintro e w5 ⟨rfl,g1,g2,_⟩;have WS:=zh g1;have Aq:=zh (HB.O.trans g2);clear g1 g2;have HF:Hid (CX w5 w.heap.size w.heap.size (NV s (k+1))):=by
      have h:=WS.O
      show CX _ _ _ _
      rw[HT3.O] at h;exact h
     clear WS;go_wp2;go_roundw
     case rel=>exact ⟨k+1,by omega,by go_num,HF.O,Aq.O⟩
     case measure=>simp[intOf];omega
    ·have q3:((ch.toNat:Int)==10)=false:=by simp;omega
     have fT:=zh (Zw.O.trans (Pd c2))
     by_cases c3:ch.toNat<32\/126<ch.toNat
     ·have HC:=zh (fT.O.trans (AAB c3))
      have HZ3:=zh (HZ2.O _ HC.O.symm);have HT3:=zh (HT.O _ HC.O.symm);have HD:(ch.toNat:Int)<32\/(¬ (ch.toNat:Int)<32/\(126:Int)<(ch.toNat:Int)):=by omega
      clear c1 c2 c3 HC HZ2 HT YT Zw fT
      rcases HD with p1|⟨p1,p2⟩
      ·go_wp2_with fail
       refine (HN.O.write ⟨#[92,120]⟩ (by have:=HZ3.O;rw[show (ByteArray.mk #[92,120,Ct (ch.toNat / 16),Ct (ch.toNat % 16)]).size=4 from rfl] at this;show _+2<=_;omega) HB.O.size).mono ?_
       rintro e w5 ⟨rfl,g1,g2,_⟩;have WS:=zh g1;have Aq:=zh (HB.O.trans g2);clear g1 g2;go_wp2_with fail;refine (WS.O.byte _ (by have:=HZ3.O;rw[show (ByteArray.mk #[92,120,Ct (ch.toNat / 16),Ct (ch.toNat % 16)]).size=4 from rfl] at this;rw[AAH];show _+2+1<=_;omega) Aq.O.size).mono ?_
       rintro e w6 ⟨rfl,g1,g2,_⟩;have nD:=zh g1;have BH:=zh (Aq.O.trans g2);clear g1 g2;go_wp2_with fail;refine (nD.O.byte _ (by have:=HZ3.O;rw[show (ByteArray.mk #[92,120,Ct (ch.toNat / 16),Ct (ch.toNat % 16)]).size=4 from rfl] at this;rw[AAH,AAH];show _+2+1+1<=_;omega) BH.O.size).mono ?_
       rintro e w7 ⟨rfl,g1,g2,_⟩;have HN7:=zh g1;have Bv:=zh (BH.O.trans g2);clear g1 g2;have HF:Hid (CX w7 w.heap.size w.heap.size (NV s (k+1))):=by
        have h:=HN7.O
        show CX _ _ _ _
        rw[qj _ (by omega),qj _ (by omega),show Q++(⟨#[92,120]⟩:ByteArray)++DL (Ct (ch.toNat / 16))++DL (Ct (ch.toNat % 16))=Q++(⟨#[92,120,Ct (ch.toNat / 16),Ct (ch.toNat % 16)]⟩:ByteArray) by rw[ABX,ABX];rfl,HT3.O] at h;exact h
       clear HN7;go_wp2;go_roundw
       case rel=>exact ⟨k+1,by omega,by go_num,HF.O,Bv.O⟩
       case measure=>simp[intOf];omega
      ·go_wp2_with fail
       refine (HN.O.write ⟨#[92,120]⟩ (by have:=HZ3.O;rw[show (ByteArray.mk #[92,120,Ct (ch.toNat / 16),Ct (ch.toNat % 16)]).size=4 from rfl] at this;show _+2<=_;omega) HB.O.size).mono ?_
       rintro e w5 ⟨rfl,g1,g2,_⟩;have WS:=zh g1;have Aq:=zh (HB.O.trans g2);clear g1 g2;go_wp2_with fail;refine (WS.O.byte _ (by have:=HZ3.O;rw[show (ByteArray.mk #[92,120,Ct (ch.toNat / 16),Ct (ch.toNat % 16)]).size=4 from rfl] at this;rw[AAH];show _+2+1<=_;omega) Aq.O.size).mono ?_
       rintro e w6 ⟨rfl,g1,g2,_⟩;have nD:=zh g1;have BH:=zh (Aq.O.trans g2);clear g1 g2;go_wp2_with fail;refine (nD.O.byte _ (by have:=HZ3.O;rw[show (ByteArray.mk #[92,120,Ct (ch.toNat / 16),Ct (ch.toNat % 16)]).size=4 from rfl] at this;rw[AAH,AAH];show _+2+1+1<=_;omega) BH.O.size).mono ?_
       rintro e w7 ⟨rfl,g1,g2,_⟩;have HN7:=zh g1;have Bv:=zh (BH.O.trans g2);clear g1 g2;have HF:Hid (CX w7 w.heap.size w.heap.size (NV s (k+1))):=by
        have h:=HN7.O
        show CX _ _ _ _
        rw[qj _ (by omega),qj _ (by omega),show Q++(⟨#[92,120]⟩:ByteArray)++DL (Ct (ch.toNat / 16))++DL (Ct (ch.toNat % 16))=Q++(⟨#[92,120,Ct (ch.toNat / 16),Ct (ch.toNat % 16)]⟩:ByteArray) by rw[ABX,ABX];rfl,HT3.O] at h;exact h
       clear HN7;go_wp2;go_roundw
       case rel=>exact ⟨k+1,by omega,by go_num,HF.O,Bv.O⟩
       case measure=>simp[intOf];omega
     ·have HC:=zh (fT.O.trans (Pd c3))
      have HZ3:=zh (HZ2.O _ HC.O.symm);have HT3:=zh (HT.O _ HC.O.symm);have p1:¬ (ch.toNat:Int)<32:=by omega
      have p2:¬ (126:Int)<(ch.toNat:Int):=by omega
      clear c1 c2 c3 HC HZ2 HT YT Zw fT;go_wp2_with fail;refine (HN.O.byte ch (by have:=HZ3.O;rw[show (ByteArray.mk #[ch]).size=1 from rfl] at this;omega) HB.O.size).mono ?_
      rintro e w5 ⟨rfl,g1,g2,_⟩;have WS:=zh g1;have Aq:=zh (HB.O.trans g2);clear g1 g2;have HF:Hid (CX w5 w.heap.size w.heap.size (NV s (k+1))):=by
       have h:=WS.O
       show CX _ _ _ _
       rw[show Q++DL ch=Q++(⟨#[ch]⟩:ByteArray) from rfl,HT3.O] at h;exact h
      clear WS;go_wp2;go_roundw
      case rel=>exact ⟨k+1,by omega,by go_num,HF.O,Aq.O⟩
      case measure=>simp[intOf];omega
  ·obtain rfl:k=s.size:=by omega
   go_wp2_with fail
   refine (HN.O.byte 34 HL HB.O.size).mono ?_;rintro e w2 ⟨rfl,h1,h2,_⟩;have nE:Hid (CX w2 w.heap.size w.heap.size (Lr s)):=h1;have HB2:=zh (HB.O.trans h2);clear h1 h2;go_wp2_with fail;refine (nE.O.str HB2.O.size).mono ?_;rintro e w3 ⟨rfl,h3⟩;have HB3:=zh (HB2.O.trans h3);clear h3;go_wp2;go_ret;exact ⟨rfl,HB3.O⟩
theorem yD (hb:Below w.heap.size w w'):Zr b w w':=fun _ _ hk _ _=>zE hk hb
theorem Co {w1 w2:World} (h:Zr b w w1) (h':Zr b w1 w2):Zr b w w2:=fun k o hk h1 h2=>h' k o (h k o hk h1 h2) h1 h2
structure EX (s:List Aa) (A:zo) (c:Nat) (x:Aa) (As:zo) (cs:Nat) (Am:zo) (cm:Nat) (v:Val) (A1:zo) (c1:Nat) (A2:zo) (c2:Nat) (A3:zo) (c3:Nat) (B b p5 p7 p8:Nat) (ws w:World) (T:ByteArray):Prop where
 FZ:CX w B b T
 fr:Below B ws w
 ot:Zr b ws w
 n5:p5≠b
 n7:p7≠b
 n8:p8≠b
 h5:w.heap[p5]? = some (.cells #[.slice A s.length c] 31)
 h7:w.heap[p7]? = some (v.box A1 c1 A2 c2 A3 c3)
 h8:w.heap[p8]? = some (x.box As cs Am cm)
 ge:B<=w.heap.size
section
variable {s:List Aa} {A:zo} {c:Nat} {x:Aa} {As:zo} {cs:Nat} {Am:zo} {cm:Nat} {v:Val} {A1:zo} {c1:Nat} {A2:zo} {c2:Nat} {A3:zo} {c3:Nat} {B b p5 p7 p8:Nat} {ws w w':World} {T T':ByteArray}
theorem EX.step (h:EX s A c x As cs Am cm v A1 c1 A2 c2 A3 c3 B b p5 p7 p8 ws w T) (h1:CX w' B b T') (h2:Below B w w') (h3:Zr b w w'):EX s A c x As cs Am cm v A1 c1 A2 c2 A3 c3 B b p5 p7 p8 ws w' T' :=
 ⟨h1,h.fr.trans h2,Co h.ot h3,h.n5,h.n7,h.n8,h3.blk h.h5 h.n5 (by decide),h3.blk h.h7 h.n7 (by decide),h3.blk h.h8 h.n8 (by decide),Nat.le_trans h.ge h2.size⟩
theorem EX.below (h:EX s A c x As cs Am cm v A1 c1 A2 c2 A3 c3 B b p5 p7 p8 ws w T) (hb:Below w.heap.size w w'):EX s A c x As cs Am cm v A1 c1 A2 c2 A3 c3 B b p5 p7 p8 ws w' T :=
 ⟨h.FZ.below hb,h.fr.trans (hb.mono h.ge),Co h.ot (yD hb),h.n5,h.n7,h.n8,zE h.h5 hb,zE h.h7 hb,zE h.h8 hb,Nat.le_trans h.ge hb.size⟩
theorem EX.c5 (h:EX s A c x As cs Am cm v A1 c1 A2 c2 A3 c3 B b p5 p7 p8 ws w T):w.cell? ⟨p5,0,none⟩=some (.slice A s.length c):=by rw[AAC _ _ _ _ _ _ h.h5];rfl
theorem EX.fin (h:EX s A c x As cs Am cm v A1 c1 A2 c2 A3 c3 B b p5 p7 p8 ws w T):CX w B b T/\Below B ws w/\Zr b ws w:=⟨h.FZ,h.fr,h.ot⟩
theorem EX.up {w0:World} (h:EX s A c x As cs Am cm v A1 c1 A2 c2 A3 c3 B b p5 p7 p8 ws w T) (hb:Below B w0 ws) (hg:w0.heap.size<=B):Below w0.heap.size w0 w:=(hb.trans h.fr).mono hg
end
def WriteAt (s:List Aa) (A:zo) (c:Nat) (n:Nat):Prop:=∀ (t:Int) (v:Val) (A1:zo) (c1:Nat) (A2:zo) (c2:Nat) (A3:zo) (c3:Nat) (w0 w:World) (B b:Nat) (T:ByteArray),
 Ad s false n t v=true->DC w0 A s->Ar w0 v A1 A2 A3->nQ w0->w0.heap.size<=B->Below B w0 w->B<=w.heap.size->CX w B b T->T.size+(Ae s n t v).size<=140737488355328 ->
 Calls prog 44 #[.pointer (some ⟨b,0,none⟩),.agg #[.slice A s.length c],.int .i64 t,v.v A1 c1 A2 c2 A3 c3] w fun e w'=>e = .returned (.tuple #[])/\CX w' B b (T++Ae s n t v)/\Below B w w'/\Zr b w w'
def JA (s:List Aa) (A:zo) (c:Nat) (n:Nat) (k:Int):Prop:=∀ (t:Int) (v:Val) (A1:zo) (c1:Nat) (A2:zo) (c2:Nat) (A3:zo) (c3:Nat) (w0 w:World) (B b:Nat) (T:ByteArray),
 (AO s t).kind=k->Ad s false (n+1) t v=true->DC w0 A s->Ar w0 v A1 A2 A3->nQ w0->w0.heap.size<=B->Below B w0 w->B<=w.heap.size->CX w B b T->T.size+(Ae s (n+1) t v).size<=140737488355328 ->
 Calls prog 44 #[.pointer (some ⟨b,0,none⟩),.agg #[.slice A s.length c],.int .i64 t,v.v A1 c1 A2 c2 A3 c3] w fun e w'=>e = .returned (.tuple #[])/\CX w' B b (T++Ae s (n+1) t v)/\Below B w w'/\Zr b w w'
theorem XK (n:Int) (t:Aa) (As:zo) (cs:Nat) (Am:zo) (cm:Nat) (w:World) (ht:J4 w t As Am) :
  Calls prog 68 #[t.v As cs Am cm,.int .i64 n] w fun e w'=>∃r:Int,e = .returned (.tuple #[.int .i64 r,.bool (t.AX.any fun y=>decide (y.id=n))])/\((t.AX.any fun y=>decide (y.id=n))=true->r=Bt (fun y:Bu=>decide (y.id=n)) t.AX)/\Below w.heap.size w w' :=
 (NK n t As cs Am cm w ht).mono fun e w' ⟨h1,h2⟩=>⟨_,h1.trans (by rw[Fj]),fun h=>by
  rw[<-Fj] at h;exact Pd (by have:=AAr h;omega),h2⟩
theorem Nj {α:Type} {l:List α} (h:0<l.length):∃y r,l=y::r/\l[0]=y:=by
 cases l with
 | nil=>cases h
 | cons y r=>exact ⟨y,r,rfl,rfl⟩
section
variable {f:Int->Val->ByteArray} {x:Aa} {v:Val}
theorem bQ (e:x.kind=9) (h:0<v.items.length):Bg f x v=⟨#[115,111,109,101,40]⟩++f x.elem v.items[0]++⟨#[41]⟩:=by
 obtain ⟨y,r,h1,h2⟩:=Nj h;rw[h2,AAf e,h1]
theorem kK (e:x.kind=6) {m:Ac} (hf:x.AA.find? (fun y=>decide (y.id=v.id))=some m) (h:0<v.items.length):Bg f x v=m.name++⟨#[40]⟩++f m.type v.items[0]++⟨#[41]⟩:=by
 obtain ⟨y,r,h1,h2⟩:=Nj h;rw[h2,AAg e,hf,h1]
theorem qV (e:x.kind=6) (hf:x.AA.find? (fun y=>decide (y.id=v.id))=none) (h:0<v.rest.length):Bg f x v=⟨#[64]⟩++Ch v.id++⟨#[40]⟩++Lr (v.rest[0]).data++⟨#[41]⟩:=by
 obtain ⟨y,r,h1,h2⟩:=Nj h;rw[h2,AAg e,hf,h1]
end
theorem gF {s:List Aa} {A:zo} {c n:Nat} (_hv:zQ s=0) (hn:DW s) (ih:WriteAt s A c n):JA s A c n 7:=by
 intro t v A1 c1 A2 c2 A3 c3 w0 w B b T e hf hs hr htb hg hb0 hB hbl hsz
 obtain ⟨i0,i1,i2,i3⟩:=CF hf;obtain ⟨tn,rfl⟩:=AAh i0;have htn:tn<s.length:=by omega
 have hln:=hs.1.lt (by omega)
 rw[zT htn] at i2 i3 e;have Fy:Hid (Ae s (n+1) (tn:Int) v=Bg (Ae s n) s[tn] v):=by show _=_;rw[Ae,zT htn]
 have rY:=zh (hn _ (AAL htn));obtain ⟨Bf,H5,H7⟩:=zy w (.cells #[.slice A s.length c] 31) (v.box A1 c1 A2 c2 A3 c3);have Ed:=zh ih;have HS:=zh hs;have HR:=zh hr;have Kw:=zh htb;have HG:=zh hg;have HB0:=zh hb0;have KE:=zh hB;have GV:=zh hbl;have hblt:=hbl.lt;obtain ⟨L,hL⟩:∃L,Ae s (n+1) (tn:Int) v=L:=⟨_,rfl⟩;rw[hL] at hsz Fy;simp only[hL];have E5:=zh hsz
 have HU:Hid (Below w0.heap.size w0 ((w.alloc (.cells #[.slice A s.length c] 31)).alloc (v.box A1 c1 A2 c2 A3 c3))):=(hb0.trans (Bf.O.mono hB)).mono hg;obtain ⟨bq,oq,As,cs,Am,cm,hA,htr,t0,t1,t2,t3,t4,t5,t6,t7,t8,t9⟩:=hs.J3 htn;clear hL hf ih hs hr htb hg hb0 hB hbl hsz _hv hn i0 i1;subst hA;generalize s[tn]=x at *;have Ie:=zh htr;have GH:=zh i3;have mZ:=zh (i2.trans e);have HK:=zh e
 clear htr i3 i2 e;replace t0:=zA HU t0;replace t1:=zA HU t1;replace t2:=zA HU t2;replace t3:=zA HU t3;replace t4:=zA HU t4;replace t5:=zA HU t5;replace t6:=zA HU t6;replace t7:=zA HU t7;replace t8:=zA HU t8;replace t9:=zA HU t9;have h1:(0:Int)<=(tn:Int):=by omega
 have h2:(tn:Int)<(s.length:Int):=by omega
 go_enter func44,ntmps44
 go_upto_region 1 with fail
 have hsz2:Hid (((w.alloc (.cells #[.slice (some ⟨bq,oq,none⟩) s.length c] 31)).alloc (v.box A1 c1 A2 c2 A3 c3)).heap.size=w.heap.size+2):=by show _=_;simp
 generalize (w.alloc (.cells #[.slice (some ⟨bq,oq,none⟩) s.length c] 31)).alloc (v.box A1 c1 A2 c2 A3 c3)=W2 at *;have x0:=zb H5;go_upto_region 2 with fail
 clear t0 t1 t2 t3 t4 t5 t6 t7 t8 t9 x0;have BL:=zh (zD W2 (x.box As cs Am cm));have ST:Hid (EX s (some ⟨bq,oq,none⟩) c x As cs Am cm v A1 c1 A2 c2 A3 c3 B b w.heap.size (w.heap.size+1) W2.heap.size w (W2.alloc (x.box As cs Am cm)) (T)):=by
  have hz:=hsz2.O;have hge:=KE.O;exact ⟨(GV.O.below Bf).below BL,(Bf.O.mono KE.O).trans (BL.O.mono (by omega)),Co (yD Bf) (yD BL),by omega,by omega,by omega,zE H5 BL,zE H7 BL,AAA W2 _,by have:=KE.O;have:=BL.O.size;omega⟩
 generalize W2.alloc (x.box As cs Am cm)=W3 at *;generalize W2.heap.size=p8 at *;clear hsz2 hblt Bf H5 H7 GV HU BL h1 h2;obtain ⟨q1,q2,q3,q4,q5,q6,q7⟩:=zk7 HK;obtain ⟨v0,v1,v2,v3,v4,v5,v6,v7⟩:=zF ST.O.h7;obtain ⟨b0,b1,b2,b3,b4,b5,b6,b7,b8,b9⟩:=zG ST.O.h8;have x0:=ST.O.c5;have HL:=zh (Fy.O.trans (AC4 HK));have HF:=zh (AA5 HK GH);have wF:=HR.O.items.1.lt (by omega)
 have HZ:Hid (T.size+(1+(Fv (v.items.map (Ae s n x.elem))).size+1)<=140737488355328):=by have:=E5.O;rw[HL.O,zH,zH] at this;exact this
 go_wp2_with fail
 refine (ST.O.FZ.byte 91 (by have:=HZ.O;omega) ST.O.ge).mono ?_
 rintro e' w5 ⟨rfl,g1,g2,g3⟩;have Eg:=zh (ST.O.step g1 g2 g3);clear g1 g2 g3;clear v0 v1 v2 v3 v4 v5 v6 v7 b0 b1 b2 b3 b4 b5 b6 b7 b8 b9 x0;obtain ⟨v0,v1,v2,v3,v4,v5,v6,v7⟩:=zF Eg.O.h7;obtain ⟨b0,b1,b2,b3,b4,b5,b6,b7,b8,b9⟩:=zG Eg.O.h8;have x0:=Eg.O.c5;go_wp2_with fail
 go_loopw [187] (fun i wr=>∃k:Nat,k<=v.items.length/\i = .int .i64 (k:Int)/\Hid (EX s (some ⟨bq,oq,none⟩) c x As cs Am cm v A1 c1 A2 c2 A3 c3 B b w.heap.size (w.heap.size+1) p8 w wr (T++DL 91++EL (fun i=>(v.items.map (Ae s n x.elem)).getD i ⟨#[]⟩) k))) (fun i _=>v.items.length - (intOf i).toNat)
 case atStart=>exact ⟨0,by omega,rfl,by have h:=Eg.O;rw[show T++DL 91=T++DL 91++EL (fun i=>(v.items.map (Ae s n x.elem)).getD i ⟨#[]⟩) 0 from (PD _).symm] at h;exact h⟩
 case round =>
  obtain ⟨k,hk,rfl,hh⟩:=hrel;have E9:=zh hh.O;clear v0 v1 v2 v3 v4 v5 v6 v7 b0 b1 b2 b3 b4 b5 b6 b7 b8 b9 x0 hh
  by_cases hlt:k<v.items.length
  ·obtain ⟨ib,io,E1,e1,E2,e2,E3,e3,hI,hir,a0,a1,a2,a3,a4,a5,a6,a7⟩:=HR.O.items.at8 hlt
   have sJ:=zh hir;clear hir;replace a0:=zA (E9.O.up HB0 HG) a0;replace a1:=zA (E9.O.up HB0 HG) a1;replace a2:=zA (E9.O.up HB0 HG) a2;replace a3:=zA (E9.O.up HB0 HG) a3;replace a4:=zA (E9.O.up HB0 HG) a4;replace a5:=zA (E9.O.up HB0 HG) a5;replace a6:=zA (E9.O.up HB0 HG) a6;replace a7:=zA (E9.O.up HB0 HG) a7
   have hmem:=HF.O _ (AAL hlt);have Zx:=zh (Kk (l:=v.items.map (Ae s n x.elem)) (k:=k) (by simpa using hlt))
   have eu:=zh (Kj (l:=v.items.map (Ae s n x.elem)) (k:=k) (by simpa using hlt))
   rw[List.getElem_map] at Zx eu;generalize v.items[k]=y at *;have Z5:=zh hmem;clear hmem;generalize hCK:EL (fun i=>(v.items.map (Ae s n x.elem)).getD i ⟨#[]⟩) k=CK at *
   generalize hCM:(if k=0 then (⟨#[]⟩:ByteArray) else ⟨#[44,32]⟩)=CM at *
   have JD:Hid ((T++DL 91++CK).size+CM.size+(Ae s n x.elem y).size<=140737488355328):=by have:=HZ.O;have:=Zx.O;rw[zH,zH];show _+1+_+_+_<=_;omega
   subst hI;have h1:(0:Int)<=(k:Int):=by omega
   have h2:(k:Int)<(v.items.length:Int):=by omega
   have hblt:=E9.O.FZ.lt;have Km:=zh (zD wr (y.box E1 e1 E2 e2 E3 e3));have fG:=zh (AAA wr (y.box E1 e1 E2 e2 E3 e3));have UD:=zh (E9.O.below Km);obtain ⟨v0,v1,v2,v3,v4,v5,v6,v7⟩:=zF E9.O.h7;obtain ⟨b0,b1,b2,b3,b4,b5,b6,b7,b8,b9⟩:=zG E9.O.h8;have x0:=E9.O.c5;go_upto_region 42 with fail
   clear v0 v1 v2 v3 v4 v5 v6 v7 b0 b1 b2 b3 b4 b5 b6 b7 b8 b9 x0 a0 a1 a2 a3 a4 a5 a6 a7;generalize wr.alloc (y.box E1 e1 E2 e2 E3 e3)=W4 at *;generalize wr.heap.size=p18 at *;have hne:p18≠b:=by omega
   go_wp2_with fail
   refine (Ki UD.O.FZ k (by rw[hCM];have:=JD.O;omega) UD.O.ge).mono ?_
   rintro e' w6 ⟨rfl,g1,g2,g3⟩;rw[hCM] at g1;have Gw:=zh (UD.O.step g1 g2 g3);have fH:=zh (g3.blk fG hne (by decide))
   clear g1 g2 g3;obtain ⟨v0,v1,v2,v3,v4,v5,v6,v7⟩:=zF Gw.O.h7;obtain ⟨b0,b1,b2,b3,b4,b5,b6,b7,b8,b9⟩:=zG Gw.O.h8;have x0:=Gw.O.c5;obtain ⟨y0,y1,y2,y3,y4,y5,y6,y7⟩:=zF fH;go_wp2_with fail;refine (Ed.O x.elem y E1 e1 E2 e2 E3 e3 w0 _ B b _ Z5 HS sJ Kw HG (HB0.O.trans Gw.O.fr) Gw.O.ge Gw.O.FZ (by have:=JD.O;rw[zH];omega)).mono ?_
   rintro e' w7 ⟨rfl,g1,g2,g3⟩;have OY:=zh (Gw.O.step g1 g2 g3);clear g1 g2 g3;clear v0 v1 v2 v3 v4 v5 v6 v7 b0 b1 b2 b3 b4 b5 b6 b7 b8 b9 x0 y0 y1 y2 y3 y4 y5 y6 y7;have HE:Hid (T++DL 91++CK++CM++Ae s n x.elem y=T++DL 91++EL (fun i=>(v.items.map (Ae s n x.elem)).getD i ⟨#[]⟩) (k+1)):=by show _=_;rw[eu.O];simp only[ABX]
   go_wp2
   go_roundw
   case rel=>exact ⟨k+1,by omega,by go_num,by have h:=OY.O;rw[HE.O] at h;exact h⟩
   case measure=>simp[intOf];omega
  ·obtain rfl:k=v.items.length:=by omega
   have HE:Hid (EL (fun i=>(v.items.map (Ae s n x.elem)).getD i ⟨#[]⟩) v.items.length=Fv (v.items.map (Ae s n x.elem))):=by show _=_;unfold Fv;rw[AAt]
   have Zq:=E9;rw[HE.O] at Zq;go_wp2_with fail;refine (Zq.O.FZ.byte 93 (by have:=HZ.O;rw[zH,zH];show _+1+_+1<=_;omega) Zq.O.ge).mono ?_
   rintro e' w8 ⟨rfl,g1,g2,g3⟩;have LC:=zh (Zq.O.step g1 g2 g3);clear g1 g2 g3;go_wp2;refine bodyPost_end (results_none results44 _ _ _) rfl ⟨rfl,by rw[HL.O];(have h:=LC.O.FZ;simp only[ABX] at h ⊢;exact h),LC.O.fr,LC.O.ot⟩
