/-
  Walks: lexer.token: where no symbol stands in front.
-/
import Derived.Test.YthkkllmmbefedaaGreatDoorQGA5
import Derived.Test.YthkkllmmbefedaaGreatDoorQGA3
import Derived.Test.YthkkllmmbefedaaGreatDoorQGA7
import Derived.Test.YthkkllmmbefedaaGreatDoorShelf
import Derived.BigQuiet
import Derived.Deep.DeepCutAuto
import Derived.Laws.IdiomStrings
import Derived.Lib.AppendIntMem
import Derived.Lib.MinMax
namespace Go.Proofs.YthkkllmmbefedaaGreatDoor
open Go.RowKit
set_option maxHeartbeats 16000000
set_option maxRecDepth 100000
variable {s:ByteArray}
theorem GV (h:0<s.size):s.data.toList=s[0]::s.data.toList.drop 1:=by
 have h':0<s.data.toList.length:=h;have:=AAy h';rw[List.drop_zero] at this;exact this
theorem NZ {n:Nat} (h:n<s.size):s.data.toList.drop n=s[n]::s.data.toList.drop (n+1):=AAy (l:=s.data.toList) h
theorem Ue (h:s.size=0):s=⟨#[]⟩:=by
 obtain ⟨d⟩:=s;have:d.size=0:=h;rw[Array.eq_empty_of_size_eq_zero this]
def uT:ByteArray:=⟨#[48,49,50,51,52,53,54,55,56,57,97,98,99,100,101,102]⟩
theorem eu (c:UInt8):Lib.indexByte uT.data.toList c=match JL c with|some x=>(x:Int)|none => -1:=by
 have key:∀n:Fin 256,Lib.indexByte uT.data.toList (UInt8.ofNat n.1)=match JL (UInt8.ofNat n.1) with|some x=>(x:Int)|none => -1:=by decide +kernel
 have:=key ⟨c.toNat,c.toNat_lt⟩
 rwa [UInt8.ofNat_toNat] at this
theorem byte_back (c:UInt8):((c.toNat:Nat):Int).toNat.toUInt8=c:=by simp
def E5 (l:List UInt8) (b k:Int) (ok:Bool):Prop:=match F5 l with
 | some p=>ok=true/\b=(p.1.toNat:Int)/\k=(p.2:Int)
 | none=>ok=false
def mR (w:World) (l:List UInt8) (e:Ending) (w':World):Prop:=∃b k ok,e = .returned (.tuple #[.int .u8 b,.int .i64 k,.bool ok])/\E5 l b k ok/\Below w.heap.size w w'
theorem Uu (s:ByteArray) (hs:Dc s) (w:World):Calls Tryz.prog 159 #[.string s] w (mR w s.data.toList):=by
 unfold Dc at hs
 by_cases h0:s.size=0
 ·obtain rfl:=Ue h0
  clear hs h0
  go_enter Tryz.func159,Tryz.ntmps159
  go_wp2
  go_ret3
  exact ⟨_,_,_,rfl,rfl,Pd _ _⟩
 have hp:0<s.size:=by omega
 have hne2:s.toList.isEmpty=false:=by simpa using Iw hp
 have HL:=zh (GV hp);obtain ⟨c,hc⟩:∃c,c=s[0]:=⟨_,rfl⟩;have HC:=zh hc;rw[<-hc] at HL;clear hc
 by_cases h1:c.toNat=34\/c.toNat=92
 ·have HE:Hid (F5 s.data.toList=some (c,1)):=by
   show _=_
   rw[HL.out];unfold F5;simp only[AAC h1]
  have HD:c.toNat=34\/(¬ c.toNat=34/\c.toNat=92):=by omega
  clear h1 h0
  rcases HD with p|⟨p,q⟩
  ·have q1:((s[0].toNat:Int)==34)=true:=by rw[<-HC.out];simp[p]
   go_enter Tryz.func159,Tryz.ntmps159
   go_wp2
   go_ret3
   exact ⟨_,_,_,rfl,by unfold E5;rw[HE.out,HC.out];exact ⟨rfl,rfl,rfl⟩,Pd _ _⟩
  ·have q1:((s[0].toNat:Int)==34)=false:=by rw[<-HC.out];simp;omega
   have q2:((s[0].toNat:Int)==92)=true:=by rw[<-HC.out];simp[q]
   go_enter Tryz.func159,Tryz.ntmps159
   go_wp2
   go_ret3
   exact ⟨_,_,_,rfl,by unfold E5;rw[HE.out,HC.out];exact ⟨rfl,rfl,rfl⟩,Pd _ _⟩
 have q1:((s[0].toNat:Int)==34)=false:=by rw[<-HC.out];simp;omega
 have q2:((s[0].toNat:Int)==92)=false:=by rw[<-HC.out];simp;omega
 by_cases h2:c.toNat=110
 ·have HE:Hid (F5 s.data.toList=some (10,1)):=by
   show _=_
   rw[HL.out];unfold F5;simp only[Pe h1,AAC h2]
  have q3:((s[0].toNat:Int)==110)=true:=by rw[<-HC.out];simp[h2]
  clear h1 h2 h0
  go_enter Tryz.func159,Tryz.ntmps159
  go_wp2
  go_ret3
  exact ⟨_,_,_,rfl,by unfold E5;rw[HE.out];exact ⟨rfl,rfl,rfl⟩,Pd _ _⟩
 have q3:((s[0].toNat:Int)==110)=false:=by rw[<-HC.out];simp;omega
 by_cases h3:c.toNat=120
 case neg =>
  have HE:Hid (F5 s.data.toList=none):=by
   show _=_
   rw[HL.out];unfold F5;simp only[Pe h1,Pe h2,Pe h3]
  have q4:((s[0].toNat:Int)==120)=false:=by rw[<-HC.out];simp;omega
  clear h1 h2 h3 h0
  go_enter Tryz.func159,Tryz.ntmps159
  go_wp2
  go_ret3
  exact ⟨_,_,_,rfl,by unfold E5;rw[HE.out],Pd _ _⟩
 have q4:((s[0].toNat:Int)==120)=true:=by rw[<-HC.out];simp[h3]
 by_cases h4:s.size<3
 ·have HE:Hid (F5 s.data.toList=none):=by
   show _=_
   have hl:(s.data.toList.drop 1).length<=1:=by
    rw[AAc];have:s.data.toList.length=s.size:=rfl
    omega
   rw[HL.out];unfold F5;simp only[Pe h1,Pe h2,AAC h3];generalize s.data.toList.drop 1=q at hl
   match q,hl with
   | [],_=>rfl
   | [_],_=>rfl
  have q5:(s.size:Int)<3:=by omega
  clear h1 h2 h3 h0 h4
  go_enter Tryz.func159,Tryz.ntmps159
  go_wp2
  go_ret3
  exact ⟨_,_,_,rfl,by unfold E5;rw[HE.out],Pd _ _⟩
 have k1:1<s.size:=by omega
 have k2:2<s.size:=by omega
 have HL2:Hid (s.data.toList=c::s[1]::s[2]::s.data.toList.drop 3):=by
  exact HL.out.trans (by rw[NZ k1,NZ k2])
 have q5:¬ (s.size:Int)<3:=by omega
 have i1:(1:Int)<(s.size:Int):=by omega
 have i2:(2:Int)<(s.size:Int):=by omega
 have HI1:=zh (eu s[1]);have HI2:=zh (eu s[2]);have HE:Hid (F5 s.data.toList=match JL s[1],JL s[2] with
    | some x,some y=>if (16 * x+y<32\/126<16 * x+y)/\16 * x+y≠10 then some (UInt8.ofNat (16 * x+y),3) else none
    | _,_=>none):=by
  refine (congrArg F5 HL2.out).trans ?_;unfold F5;simp only[Pe h1,Pe h2,AAC h3]
  cases JL s[1] <;> cases JL s[2] <;> rfl
 clear h1 h2 h3 h0 h4 HL HL2
 go_enter Tryz.func159,Tryz.ntmps159
 go_upto_region 12 with fail
 go_quiet (first|(go_at_call 76;refine Calls.quiet_of_same (Tryz.strings_IndexByte _ _ _)))
 generalize hv1:Lib.indexByte (ByteArray.mk #[48,49,50,51,52,53,54,55,56,57,97,98,99,100,101,102]).data.toList (((s[1].toNat:Nat):Int).toNat.toUInt8)=v1;generalize hv2:Lib.indexByte (ByteArray.mk #[48,49,50,51,52,53,54,55,56,57,97,98,99,100,101,102]).data.toList (((s[2].toNat:Nat):Int).toNat.toUInt8)=v2;have e1:v1=match JL s[1] with|some x=>(x:Int)|none => -1:=by rw[<-hv1,byte_back];exact HI1.out
 have e2:v2=match JL s[2] with|some x=>(x:Int)|none => -1:=by rw[<-hv2,byte_back];exact HI2.out
 clear hv1 hv2 HI1 HI2
 cases hx:JL s[1] with
 | none =>
  rw[hx] at e1;simp only at e1;have HF:Hid (F5 s.data.toList=none):=by
   refine HE.out.trans ?_;rw[hx]
  have z1:v1<0:=by omega
  clear hx e1 e2 HE HC;go_wp2
  go_ret3
  exact ⟨_,_,_,rfl,by unfold E5;rw[HF.out],zC (Pd _ _) _⟩
 | some x =>
  rw[hx] at e1;simp only at e1;have hx16:=OM hx;have z1:¬ v1<0:=by omega
  cases hy:JL s[2] with
  | none =>
   rw[hy] at e2;simp only at e2;have HF:Hid (F5 s.data.toList=none):=by
    refine HE.out.trans ?_;rw[hx,hy]
   have z2:v2<0:=by omega
   clear hx hy e1 e2 HE HC;go_wp2
   go_ret3
   exact ⟨_,_,_,rfl,by unfold E5;rw[HF.out],zC (Pd _ _) _⟩
  | some y =>
   rw[hy] at e2;simp only at e2;have xY:=OM hy;have z2:¬ v2<0:=by omega
   obtain ⟨k,hk⟩:∃k,k=16 * x+y:=⟨_,rfl⟩;have HF:Hid (F5 s.data.toList=if (k<32\/126<k)/\k≠10 then some (UInt8.ofNat k,3) else none):=by
    refine HE.out.trans ?_;rw[hx,hy,hk]
   have ABe:k<256:=by omega
   have w1:IntKind.i64.wrap (16 * v1)=16 * v1:=by rw[IntKind.wrap_i64];omega
   have w2:IntKind.i64.wrap (16 * v1+v2)=(k:Int):=by rw[IntKind.wrap_i64];omega
   have w3:IntKind.u8.wrap (k:Int)=(k:Int):=by rw[IntKind.wrap_u8];omega
   have hb:(UInt8.ofNat k).toNat=k:=by rw[UInt8.toNat_ofNat'];omega
   have r9:=zh hb;clear hx hy e1 e2 HE HC hb
   by_cases c1:(k:Int)<32
   ·by_cases c3:k=10
    ·have q6:((k:Int) != 10)=false:=by simp[c3]
     go_wp2
     go_ret3
     exact ⟨_,_,_,rfl,by unfold E5;rw[HF.out,Pe (by omega)];simp;omega,zC (Pd _ _) _⟩
    ·have q6:((k:Int) != 10)=true:=by simp;omega
     go_wp2
     go_ret3
     exact ⟨_,_,_,rfl,by unfold E5;rw[HF.out,AAC (by omega)];exact ⟨by simp;omega,by rw[r9.out];omega,rfl⟩,zC (Pd _ _) _⟩
   ·by_cases c2:(126:Int)<(k:Int)
    ·have q6:((k:Int) != 10)=true:=by simp;omega
     go_wp2
     go_ret3
     exact ⟨_,_,_,rfl,by unfold E5;rw[HF.out,AAC (by omega)];exact ⟨by simp;omega,by rw[r9.out];omega,rfl⟩,zC (Pd _ _) _⟩
    ·go_wp2
     go_ret3
     exact ⟨_,_,_,rfl,by unfold E5;rw[HF.out,Pe (by omega)],zC (Pd _ _) _⟩
def uf (c:UInt8):List Value:=[.int .u8 (c.toNat:Int)]
abbrev lY:=Ak 5 1 uf
theorem Sb:Elem 40 5 1 1:=⟨Tryz.underlying40,⟨.int .u8 0,by kernel_rfl,rfl⟩,by omega⟩
theorem qD (l:List UInt8):l.flatMap uf=l.map fun c=>Value.int .u8 (c.toNat:Int):=by
 induction l with
 | nil=>rfl
 | cons a r ih=>rw[ABG,ih];rfl
variable {l:List UInt8} {w:World}
theorem Rf {base:Nat} {v:Value} (h:lY w base v l):(convert 40 9 v).run Tryz.prog w = .ok (.string (bA l)) w:=by
 obtain ⟨A,c,rfl,_,_,hA⟩:=h.reads
 cases l with
 | nil =>
  cases A with
  | none =>
   show (convert _ _ (.slice none 0 c)).run _ w=_
   rw[run_convert_bytes_string w 40 9 5 none 0 c Tryz.underlying40 (by kernel_rfl) (by kernel_rfl)]
   rfl
  | some a=>exact run_convert_bytes_back (P:=Tryz.prog) w 40 9 5 a c [] Tryz.underlying40 (by kernel_rfl) (by kernel_rfl) fun j hj=>absurd hj (Nat.not_lt_zero _)
 | cons x r =>
  obtain ⟨g,rfl,_,hr⟩:=hA (by simp)
  refine run_convert_bytes_back (P:=Tryz.prog) w 40 9 5 ⟨g,0,none⟩ c (x::r) Tryz.underlying40 (by kernel_rfl) (by kernel_rfl) fun j hj=>?_
  rw[Addr.add_mid];refine hr j _ ?_;rw[qD,List.getElem?_map,zl hj];rfl
theorem NR {ops:Array Oper} {rest:List Oper} {op:Oper} {a:Act} {Q:Exit->Act->World->Prop} (hgd:op.guard=none) (x:Operand) (ho:op.op = .convert 40 9 x) (base:Nat) (v:Value) (l:List UInt8) (hx:a.eval x=v) (h:lY w base v l) (hq:wpList Tryz.prog ops Q rest (a.put op.dst (.string (bA l))) w):wpList Tryz.prog ops Q (op::rest) a w:=by
 refine wpList_plain hgd fun K hK=>?_
 have hr:=Rf h;unfold Oper.wp execOp;simp only[ho,hx,Sem.run_bind,Sem.run_pure,Result.andThen_ok,hr];exact hK _ _ hq
def Sq (w:World) (l:List UInt8) (e:Ending) (w':World):Prop:=∃ (u:ByteArray) (n:Int) (ok:Bool),e = .returned (.tuple #[.string u,.int .i64 n,.bool ok])/\(match Fb l with
 | some p=>ok=true/\u=bA p.1/\n=((p.2+1:Nat):Int)
 | none=>ok=false)/\Below w.heap.size w w'
variable {w':World}
theorem Li (h:Fb l=none) (hb:Below w.heap.size w w') (u:ByteArray) (n:Int):Sq w l (.returned (.tuple #[.string u,.int .i64 n,.bool false])) w':=⟨u,n,false,rfl,by rw[h],hb⟩
variable {n:Int} {o:List UInt8} {k:Nat}
theorem cO (h:Fb l=some (o,k)) (hb:Below w.heap.size w w') {u:ByteArray} (hu:u=bA o) (hn:n=((k+1:Nat):Int)):Sq w l (.returned (.tuple #[.string u,.int .i64 n,.bool true])) w':=⟨u,n,true,rfl,by rw[h];exact ⟨rfl,hu,hn⟩,hb⟩
def FU (L:List UInt8) (k:Nat) (o:List UInt8):Prop:=Fb (L.drop 1)=(Fb (L.drop k)).map fun p=>(o++p.1,p.2+(k - 1))
variable {L:List UInt8}
theorem FU.end_ (h:FU L k o) (hk:L.length<=k):Fb (L.drop 1)=none:=by
 unfold FU at h;rw[AAp hk,UG] at h;exact h
variable {r:List UInt8} {c:UInt8}
theorem FU.close (h:FU L k o) (h1:1<=k) (hd:L.drop k=c::r) (hc:c.toNat=34):Fb (L.drop 1)=some (o,k):=by
 unfold FU at h;rw[hd,KE,AAC hc] at h;rw[h]
 show some (o++[],1+(k - 1))=_
 rw[List.append_nil,show 1+(k - 1)=k by omega]
theorem FU.bad (h:FU L k o) (hd:L.drop k=c::r) (hc:c.toNat≠34) (hp:DC (c::r)=none):Fb (L.drop 1)=none:=by
 unfold FU at h;rw[hd,KE,Pe hc,hp] at h;exact h
theorem FU.step (h:FU L k o) (h1:1<=k) (hd:L.drop k=c::r) (hc:c.toNat≠34) {b:UInt8} {n:Nat} (hp:DC (c::r)=some (b,n)):FU L (k+n) (o++[b]):=by
 unfold FU at h ⊢;rw[hd,KE,Pe hc,hp] at h;have hd2:(c::r).drop n=L.drop (k+n):=by rw[<-hd,List.drop_drop]
 simp only at h;rw[hd2] at h;rw[h]
 cases Fb (L.drop (k+n)) with
 | none=>rfl
 | some p =>
  show some (o++b::p.1,p.2+n+(k - 1))=some (o++[b]++p.1,p.2+(k+n - 1))
  rw[AAx,show p.2+n+(k - 1)=p.2+(k+n - 1) by omega];rfl
theorem Ea {n:Nat}:(s.extract n s.size).data.toList=s.data.toList.drop n:=by
 rw[Lib.extract_data];rw[List.take_of_length_le];rw[AAc];have:s.data.toList.length=s.size:=rfl
 omega
theorem WA (s:ByteArray) (hs:s.size<=140737488355328) (h1:0<s.size) (w:World):Calls Tryz.prog 119 #[.string s] w (Sq w (s.data.toList.drop 1)):=by
 have ED:=zh hs;obtain ⟨L1,hL1⟩:∃L1,s.data.toList.drop 1=L1:=⟨_,rfl⟩;rw[hL1];have QB:=zh hL1;clear hL1
 go_enter Tryz.func119,Tryz.ntmps119
 go_wp2
 go_loopw [5,6] (fun v i wr=>∃ (k:Nat) (o:List UInt8),1<=k/\k<=s.size/\o.length<k/\i = .int .i64 k/\Hid (FU s.data.toList k o/\lY wr w.heap.size v o/\Below w.heap.size w wr)) (fun _ i _=>s.size - (intOf i).toNat)
 case atStart =>
  refine ⟨1,[],by omega,by omega,by simp,rfl,?_,Ak.nil _ _,Pd _ _⟩
  unfold FU
  cases Fb (s.data.toList.drop 1) <;> rfl
 case round =>
  obtain ⟨k,o,hk1,hk2,hol,rfl,hh⟩:=hrel;have HQ:=zh hh.out.1;have HO:=zh hh.out.2.1;have HB:=zh hh.out.2.2;clear hh;obtain ⟨wo,rfl⟩:∃wo:World,wo=wr:=⟨_,rfl⟩
  by_cases hlt:k<s.size
  case neg =>
   have HN:=zh (QB.out▸HQ.out.end_ (show s.data.toList.length<=k by have:s.data.toList.length=s.size:=rfl;omega))
   have q0:¬ (k:Int)<(s.size:Int):=by omega
   clear hlt;go_wp2
   go_ret3
   exact Li HN HB _ _
  have g1:(0:Int)<=(k:Int):=by omega
  have g2:(k:Int)<(s.size:Int):=by omega
  have HD:=zh (NZ hlt);obtain ⟨c,hc⟩:∃c,c=s[k]:=⟨_,rfl⟩;rw[<-hc] at HD
  by_cases c1:c.toNat=34
  ·have HN:=zh (QB.out▸HQ.out.close hk1 HD c1)
   have q1:((s[k].toNat:Int)==34)=true:=by rw[<-hc];simp[c1]
   clear c1 HD;go_wp2_with (refine NR rfl (.tmp 27) rfl w.heap.size _ o rfl HO ?_)
   go_ret3
   exact cO HN HB rfl (by go_num)
  have q1:((s[k].toNat:Int)==34)=false:=by rw[<-hc];simp;omega
  by_cases c2:c.toNat=92
  ·have q2:((s[k].toNat:Int)==92)=true:=by rw[<-hc];simp[c2]
   have HP:Hid (∀p,F5 (s.data.toList.drop (k+1))=p->DC (c::s.data.toList.drop (k+1))=p.map fun x=>(x.1,x.2+1)):=fun p hp=>by rw[DC,AAC c2,hp]
   have wX:Hid (Dc (s.extract (k+1) s.size)):=by
    have h:(s.extract (k+1) s.size).size=(s.data.toList.drop (k+1)).length:=by rw[<-Ea];rfl
    show _<=_
    rw[h,AAc];have h2:s.data.toList.length=s.size:=rfl;have:=ED.out
    omega
   have J6:=zh c1;clear c1 c2;go_wp2_with fail;refine (Uu _ wX wo).mono ?_;rintro e w5 ⟨b,n,ok,rfl,he,hb⟩;rw[Ea] at he;have BB:=zh (HB.out.trans (hb.mono HB.out.size));have TL:=zh (HO.out.below hb);clear hb;unfold E5 at he
   cases hes:F5 (s.data.toList.drop (k+1)) with
   | none =>
    rw[hes] at he;simp only at he;subst he;have HN:=zh (QB.out▸HQ.out.bad HD J6 (HP.out _ hes));clear hes HD;go_wp2
    go_ret3
    exact Li HN BB _ _
   | some p =>
    obtain ⟨b',n'⟩:=p;rw[hes] at he;obtain ⟨rfl,rfl,rfl⟩:=he;have hle:=YI hes;rw[AAc] at hle;have h2:s.data.toList.length=s.size:=rfl;rw[h2] at hle;have HN:=zh (HQ.out.step hk1 HD J6 (HP.out _ hes));have JR:=zh (Ak.alloc TL (.cells #[.int .u8 (b'.toNat:Int)] 5))
    have MR:Hid ((w5.alloc (.cells #[.int .u8 (b'.toNat:Int)] 5)).rangeAt w5.heap.size 0 [.int .u8 (b'.toNat:Int)]):=zR w5 [.int .u8 (b'.toNat:Int)] 5;have KS:Hid (w.heap.size<=(w5.alloc (.cells #[.int .u8 (b'.toNat:Int)] 5)).heap.size):=by have:=BB.out.size;show _<=_;simp;omega
    clear hes HD h2;go_wp2_with (at_builtin;refine yG Sb _ rfl (.tmp 45) (.tmp 47) rfl w.heap.size _ _ _ rfl JR w5.heap.size 0 1 1 [.int .u8 (b'.toNat:Int)] rfl rfl MR (by simp[Value.oneCell']) (by have:=ED.out;omega) (by have:=ED.out;omega) KS ?_;intro v8 w8 Bq Bp)
    go_roundw
    case rel=>exact ⟨k+(n'+1),o++[b'],by omega,by omega,by simp;omega,by go_num,HN.out,Ak.snoc Bq,(BB.out.alloc BB.out.size _).grown Bp KS JR.out.lt⟩
    case measure=>simp[intOf];omega
  have q2:((s[k].toNat:Int)==92)=false:=by rw[<-hc];simp;omega
  by_cases c3:c.toNat<32\/126<c.toNat
  ·have HN:=zh (QB.out▸HQ.out.bad HD c1 (by rw[DC,Pe c2,AAC c3]))
   have hD:(s[k].toNat:Int)<32\/(¬ (s[k].toNat:Int)<32/\(126:Int)<(s[k].toNat:Int)):=by rw[<-hc];omega
   clear c1 c2 c3 HD
   rcases hD with p1|⟨p1,p2⟩
   ·go_wp2
    go_ret3
    exact Li HN HB _ _
   ·go_wp2
    go_ret3
    exact Li HN HB _ _
  ·have p1:¬ (s[k].toNat:Int)<32:=by rw[<-hc];omega
   have p2:¬ (126:Int)<(s[k].toNat:Int):=by rw[<-hc];omega
   have HN:=zh (HQ.out.step hk1 HD c1 (show DC (c::s.data.toList.drop (k+1))=some (c,1) by rw[DC,Pe c2,Pe c3]))
   have JR:=zh (Ak.alloc HO (.cells #[.int .u8 (s[k].toNat:Int)] 5));have MR:Hid ((wo.alloc (.cells #[.int .u8 (s[k].toNat:Int)] 5)).rangeAt wo.heap.size 0 [.int .u8 (s[k].toNat:Int)]):=zR wo [.int .u8 (s[k].toNat:Int)] 5;have KS:Hid (w.heap.size<=(wo.alloc (.cells #[.int .u8 (s[k].toNat:Int)] 5)).heap.size):=by have:=HB.out.size;show _<=_;simp;omega
   have FD:=zh hc;clear c1 c2 c3 HD;go_wp2_with (at_builtin;refine yG Sb _ rfl (.tmp 18) (.tmp 20) rfl w.heap.size _ _ _ rfl JR wo.heap.size 0 1 1 [.int .u8 (s[k].toNat:Int)] rfl rfl MR (by simp[Value.oneCell']) (by have:=ED.out;omega) (by have:=ED.out;omega) KS ?_;intro v8 w8 Bq Bp)
   go_roundw
   case rel=>exact ⟨k+1,o++[c],by omega,by omega,by simp;omega,by go_num,HN.out,Ak.snoc (by rw[FD.out];exact Bq),(HB.out.alloc HB.out.size _).grown Bp KS JR.out.lt⟩
   case measure=>simp[intOf];omega
structure Gq (w:World):Prop where
 tab : Lib.TabIs Tryz.prog w "internal/strconv.uint64pow10" .u64 Lib.pow10Tab
 syn:∃t p,w.cell? ⟨5,0,none⟩=some (.iface t p)
 rng:∃t p,w.cell? ⟨6,0,none⟩=some (.iface t p)
theorem Gq.below (h:Gq w) (hb:Below w.heap.size w w'):Gq w':=by
 obtain ⟨t,p,hs⟩:=h.syn;obtain ⟨t',p',hr⟩:=h.rng;exact ⟨Lib.tabBelow_of_tabIs h.tab w' hb,⟨t,p,zA hb hs⟩,⟨t',p',zA hb hr⟩⟩
theorem O8 (n:Int) (hn:In64 n) (w:World) (ht:Gq w) :
  Calls Tryz.prog 55 #[.int .i64 n,.int .i64 10] w fun e w'=>e = .returned (.string (bA (Lib.itoa n)))/\Below w.heap.size w w' :=
 (Tryz.strconv_FormatInt_10 n hn.1 hn.2 w ht.tab).mono fun e w' ⟨he,k,os,hw⟩=>⟨he,by subst hw;exact Lib.below_grow _ _ (AAQ _) _ _⟩
def qV (w:World) (T:List UInt8) (e:Ending) (w':World):Prop:=∃ (v n:Int) (ok:Bool),e = .returned (.tuple #[.int .i64 v,.int .i64 n,.bool ok])/\n=(T.length:Int)/\(match Fy T with
 | some x=>ok=true/\v=x
 | none=>ok=false)/\Below w.heap.size w w'
theorem D6 {n:Nat}:(s.extract 0 n).data.toList=s.data.toList.take n:=by
 rw[Lib.extract_data];simp
theorem NG {a:ByteArray}:bA l=a↔l=a.data.toList:=by
 constructor
 ·rintro rfl;rfl
 ·rintro rfl;rfl
theorem X7 (v:Int) {a:ByteArray} {T:List UInt8} (h:a.data.toList=T):match if Lib.itoa v=T then some v else none with
 | some x=>((bA (Lib.itoa v)).toList==a.toList)=true/\v=x
 | none=>((bA (Lib.itoa v)).toList==a.toList)=false:=by
 rw[Lib.toList_data,Lib.toList_data,h]
 by_cases e:Lib.itoa v=T
 ·rw[AAC e]
  exact ⟨by rw[show (bA (Lib.itoa v)).data.toList=Lib.itoa v from rfl,e];simp,rfl⟩
 ·rw[Pe e]
  show (Lib.itoa v==T)=false
  simp[e]
theorem Ou (s:ByteArray) (hs:s.size<=140737488355328) (h1:0<s.size) (w:World) (hE:Gq w):Calls Tryz.prog 118 #[.string s] w (qV w (s.data.toList.take (1+EI (s.data.toList.drop 1)))):=by
 have ED:=zh hs;have HE:=zh hE;obtain ⟨T,hT⟩:∃T,s.data.toList.take (1+EI (s.data.toList.drop 1))=T:=⟨_,rfl⟩;rw[hT];have HT:=zh hT;clear hT hE;have hsl:s.data.toList.length=s.size:=rfl;have HAT:Hid (∀k,1<=k->k<=s.size->(∀j (hj:j<s.size),1<=j->j<k->zZ s[j]=true)->(∀h:k<s.size,zZ s[k]=false)->s.data.toList.take k=T):=fun k hk1 hk2 ha hb=>by
  rw[<-HT.out];have:=U7 (l:=s.data.toList.drop 1) (n:=k - 1) (by rw[AAc];omega) (fun i hi hik=>by
   rw[List.getElem_drop];exact ha (1+i) (by rw[AAc] at hi;omega) (by omega) (by omega)) (fun h=>by
   rw[List.getElem_drop];have e:1+(k - 1)=k:=by omega
   have h2:k<s.size:=by rw[AAc] at h;omega
   have:=hb h2;simp only[e];exact this)
  rw[this,show 1+(k - 1)=k by omega]
 clear hsl
 go_enter Tryz.func118,Tryz.ntmps118
 go_wp2
 go_loopw [5] (fun i wr=>∃k:Nat,1<=k/\k<=s.size/\i = .int .i64 k/\wr=w/\Hid (∀j (hj:j<s.size),1<=j->j<k->zZ s[j]=true)) (fun i _=>s.size - (intOf i).toNat)
 case atStart=>exact ⟨1,by omega,by omega,rfl,rfl,fun j _ h1 h2=>absurd h1 (by omega)⟩
 case round =>
  obtain ⟨k,hk1,hk2,rfl,rfl,hh⟩:=hrel;have g1:(0:Int)<=(k:Int):=by omega
  by_cases hlt:k<s.size
  ·have g2:(k:Int)<(s.size:Int):=by omega
   cases hd:Eb (s[k].toNat:Int) with
   | true =>
    have HD:=zh hd;have HN:Hid (∀j (hj:j<s.size),1<=j->j<k+1->zZ s[j]=true):=fun j hj h1 h2=>by
     by_cases e:j=k
     ·subst e;exact hd
     ·exact hh.out j hj h1 (by omega)
    clear hd hh;go_wp2_with (go_at_call 117;refine (BZ _ _).mono ?_;rintro e w' ⟨rfl,rfl⟩;rw[HD.out]);go_roundw
    case rel=>exact ⟨k+1,by omega,by omega,by go_num,trivial,HN.out⟩
    case measure=>simp[intOf];omega
   | false =>
    have HD:=zh hd;have HK:=zh (HAT.out k hk1 hk2 hh fun _=>hd)
    clear hd hh;go_wp2_with (go_at_call 117;refine (BZ _ _).mono ?_;rintro e w' ⟨rfl,rfl⟩;rw[HD.out]);have HX:Hid ((s.extract 0 k).data.toList=T):=by show _=_;rw[D6];exact HK.out
    have l8:Hid (T.length=k):=by show _=_;rw[<-HK.out,List.length_take];(have:s.data.toList.length=s.size:=rfl);omega
    have h0:(s.extract 0 k).size=T.length:=by rw[<-HX.out];rfl
    have uR:(s.extract 0 k).size<=140737488355328:=by rw[h0,l8.out];have:=ED.out;omega
    have rT:=zh uR;clear uR h0
    rcases hp:Lib.parseIntB 64 (s.extract 0 k).data.toList with v|_|_
    ·
     have hvb:=Lib.parseIntB_bounds hp;have e2:(2 ^ (64 - 1):Nat)=9223372036854775808:=by decide
     rw[e2] at hvb;have HV:Hid (In64 v):=⟨by omega,by omega⟩
     have HI:Hid (Fy T=if Lib.itoa v=T then some v else none):=by show _=_;rw[<-HX.out];unfold Fy;rw[hp]
     refine (Tryz.strconv_ParseInt_10_at64_ok _ (by have:=rT.out;omega) v hp _).mono ?_
     rintro e w5 ⟨rfl,uN⟩;have BB:Hid (Below wr.heap.size wr w5):=by
      show Below _ _ _
      rcases uN with rfl|⟨t,rfl⟩
      ·exact Pd _ _
      ·exact Lib.bytesWorld_below _ _ _
     have HE5:=zh (HE.out.below BB);clear uN hp hvb e2;go_wp2_with fail;refine wp_region_held_drew (S:=(fun w'=>Hid (Gq w')/\Hid (Below wr.heap.size wr w'))) (by kernel_rfl) ?_ (fun AU=>?_)
     ·(try dsimp only);exact ⟨HE5.out.below (zC (Pd _ _) 1),zC BB 1⟩
     refine tL 0 ?_;refine tL 1 ?_;refine tL 2 ?_;refine tL 3 ?_;refine tL 4 ?_;refine tL 5 ?_;try simp only[ps]
     refine tL 7 ?_;refine tL 8 ?_;refine tL 9 ?_;refine tR 6 (fun K hK=>?_)
     go_simp
     (refine (O8 v HV _ AU.1.out).mono ?_;rintro e w6 ⟨rfl,hb6⟩;have BA:=zh (zB AU.2.out hb6);have HE6:=zh (AU.1.out.below hb6);clear hb6)
     refine hK.out _ _ ?_ (fun AU=>?_)
     ·(try dsimp only);exact ⟨HE6.out,BA.out⟩
     clear hK K;refine tL 10 ?_;refine tL 11 ?_;try simp only[ps]
     refine tL 12 ?_;refine tL 13 ?_;refine tL 14 ?_;refine wpAnyH_done (by kernel_rfl) ?_ _
     go_wp2
     go_ret3
     refine ⟨_,_,_,rfl,by rw[l8.out],?_,AU.2.out⟩
     rw[HI.out];exact X7 v HX
    ·
     have HI:Hid (Fy T=none):=by show _=_;rw[<-HX.out];unfold Fy;rw[hp]
     obtain ⟨t,p,hv⟩:=HE.out.syn;refine (Tryz.strconv_ParseInt_10_at64_syntax _ (by have:=rT.out;omega) hp (.iface t p) _ hv (Or.inr ⟨t,p,rfl⟩)).mono ?_
     rintro e w5 ⟨N,rfl,_,_,hb5⟩;have BB:=zh hb5;clear hp hv hb5;go_wp2_with fail
     go_quiet (fail)
     go_wp2
     go_ret3
     exact ⟨_,_,_,rfl,by rw[l8.out],by rw[HI.out],zC BB _⟩
    ·
     have HI:Hid (Fy T=none):=by show _=_;rw[<-HX.out];unfold Fy;rw[hp]
     obtain ⟨t,p,hv⟩:=HE.out.rng;refine (Tryz.strconv_ParseInt_10_at64_range _ (by have:=rT.out;omega) hp (.iface t p) _ hv (Or.inr ⟨t,p,rfl⟩)).mono ?_
     rintro e w5 ⟨N,rfl,_,_,hb5⟩;have BB:=zh hb5;clear hp hv hb5;go_wp2_with fail
     go_quiet (fail)
     go_wp2
     go_ret3
     exact ⟨_,_,_,rfl,by rw[l8.out],by rw[HI.out],zC BB _⟩
  ·have HK:=zh (HAT.out k hk1 hk2 hh fun h=>absurd h hlt)
   have g2:¬ (k:Int)<(s.size:Int):=by omega
   clear hh;go_wp2_with fail;have HX:Hid ((s.extract 0 k).data.toList=T):=by show _=_;rw[D6];exact HK.out
   have l8:Hid (T.length=k):=by show _=_;rw[<-HK.out,List.length_take];(have:s.data.toList.length=s.size:=rfl);omega
   have h0:(s.extract 0 k).size=T.length:=by rw[<-HX.out];rfl
   have uR:(s.extract 0 k).size<=140737488355328:=by rw[h0,l8.out];have:=ED.out;omega
   have rT:=zh uR;clear uR h0
   rcases hp:Lib.parseIntB 64 (s.extract 0 k).data.toList with v|_|_
   ·
    have hvb:=Lib.parseIntB_bounds hp;have e2:(2 ^ (64 - 1):Nat)=9223372036854775808:=by decide
    rw[e2] at hvb;have HV:Hid (In64 v):=⟨by omega,by omega⟩
    have HI:Hid (Fy T=if Lib.itoa v=T then some v else none):=by show _=_;rw[<-HX.out];unfold Fy;rw[hp]
    refine (Tryz.strconv_ParseInt_10_at64_ok _ (by have:=rT.out;omega) v hp _).mono ?_
    rintro e w5 ⟨rfl,uN⟩;have BB:Hid (Below wr.heap.size wr w5):=by
     show Below _ _ _
     rcases uN with rfl|⟨t,rfl⟩
     ·exact Pd _ _
     ·exact Lib.bytesWorld_below _ _ _
    have HE5:=zh (HE.out.below BB);clear uN hp hvb e2;go_wp2_with fail;refine wp_region_held_drew (S:=(fun w'=>Hid (Gq w')/\Hid (Below wr.heap.size wr w'))) (by kernel_rfl) ?_ (fun AU=>?_)
    ·(try dsimp only);exact ⟨HE5.out.below (zC (Pd _ _) 1),zC BB 1⟩
    refine tL 0 ?_;refine tL 1 ?_;refine tL 2 ?_;try simp only[ps]
    refine tL 3 ?_;refine tL 4 ?_;refine tL 5 ?_;refine tL 7 ?_;refine tL 8 ?_;refine tL 9 ?_;try simp only[ps]
    refine tR 6 (fun K hK=>?_)
    go_simp
    (refine (O8 v HV _ AU.1.out).mono ?_;rintro e w6 ⟨rfl,hb6⟩;have BA:=zh (zB AU.2.out hb6);have HE6:=zh (AU.1.out.below hb6);clear hb6)
    refine hK.out _ _ ?_ (fun AU=>?_)
    ·(try dsimp only);exact ⟨HE6.out,BA.out⟩
    clear hK K;refine tL 10 ?_;refine tL 11 ?_;refine tL 12 ?_;refine tL 13 ?_;refine tL 14 ?_;try simp only[ps]
    refine wpAnyH_done (by kernel_rfl) ?_ _
    go_wp2
    go_ret3
    refine ⟨_,_,_,rfl,by rw[l8.out],?_,AU.2.out⟩
    rw[HI.out];exact X7 v HX
   ·
    have HI:Hid (Fy T=none):=by show _=_;rw[<-HX.out];unfold Fy;rw[hp]
    obtain ⟨t,p,hv⟩:=HE.out.syn;refine (Tryz.strconv_ParseInt_10_at64_syntax _ (by have:=rT.out;omega) hp (.iface t p) _ hv (Or.inr ⟨t,p,rfl⟩)).mono ?_
    rintro e w5 ⟨N,rfl,_,_,hb5⟩;have BB:=zh hb5;clear hp hv hb5;go_wp2_with fail
    go_quiet (fail)
    go_wp2
    go_ret3
    exact ⟨_,_,_,rfl,by rw[l8.out],by rw[HI.out],zC BB _⟩
   ·
    have HI:Hid (Fy T=none):=by show _=_;rw[<-HX.out];unfold Fy;rw[hp]
    obtain ⟨t,p,hv⟩:=HE.out.rng;refine (Tryz.strconv_ParseInt_10_at64_range _ (by have:=rT.out;omega) hp (.iface t p) _ hv (Or.inr ⟨t,p,rfl⟩)).mono ?_
    rintro e w5 ⟨N,rfl,_,_,hb5⟩;have BB:=zh hb5;clear hp hv hb5;go_wp2_with fail
    go_quiet (fail)
    go_wp2
    go_ret3
    exact ⟨_,_,_,rfl,by rw[l8.out],by rw[HI.out],zC BB _⟩
def lg {α:Type} (p:α->Bool) (l:List α) (i:Int):Prop:=(i = -1/\∀j (h:j<l.length),p l[j]=false)\/∃ (k:Nat) (h:k<l.length),i=(k:Int)/\p l[k]=true/\∀j (hj:j<l.length),j<k->p l[j]=false
def preB (s x:ByteArray):Bool:=Lib.hasPrefix s.data.toList x.data.toList
theorem Tc (s:ByteArray) (q:Nat) (x:ByteArray) (w:World) (hq:w.cell? ⟨q,0,none⟩=some (.string s)) :
  Calls Tryz.prog 121 #[.string x,.pointer (some ⟨q,0,none⟩)] w fun e w'=>e = .returned (.bool (preB s x))/\Below w.heap.size w w':=by
 have hlt:=zL hq;simp only at hlt;have HP:Hid (Lib.hasPrefix s.data.toList x.data.toList=preB s x):=rfl
 go_enter Tryz.func121,Tryz.ntmps121
 go_wp2_with (go_at_call 75;refine (Tryz.strings_HasPrefix s x _).mono ?_;rintro e w' ⟨rfl,rfl⟩;rw[HP.out])
 go_ret
 exact ⟨rfl,Pd _ _⟩
theorem GY (s:ByteArray) (q:Nat) (l:List ByteArray) (A:zo) (c:Nat) (w:World) (hl:JG w A l) (hq:w.cell? ⟨q,0,none⟩=some (.string s)) :
  Calls Tryz.prog 120 #[.slice A l.length c,.func (.func 121) #[] #[.pointer (some ⟨q,0,none⟩)]] w fun e w'=>∃i,e = .returned (.int .i64 i)/\lg (preB s) l i/\Below w.heap.size w w':=by
 have hln:=hl.1;unfold D9 at hln;have HL:=zh hl;have HQ:=zh hq;clear hl hq
 go_enter Tryz.func120,Tryz.ntmps120
 go_wp2
 go_loopw [8] (fun i wr=>∃k:Nat,k<=l.length/\i = .int .i64 (k:Int)/\Hid ((∀j (h:j<l.length),j<k->preB s l[j]=false)/\Below w.heap.size w wr)) (fun i _=>l.length - (intOf i).toNat)
 case atStart=>exact ⟨0,by omega,rfl,(fun j _ h=>absurd h (by omega)),Pd _ _⟩
 case round =>
  obtain ⟨k,hk,rfl,hh⟩:=hrel
  by_cases hlt:k<l.length
  ·obtain ⟨b,o,rfl,hr1,a0⟩:=(HL.out.below hh.out.2).iJ hlt
   clear hr1;have h1:(0:Int)<=(k:Int):=by omega
   have h2:(k:Int)<(l.length:Int):=by omega
   cases he:preB s l[k] with
   | true =>
    have HD:=zh he;have HI:Hid (lg (preB s) l (k:Int)):=Or.inr ⟨k,hlt,rfl,he,hh.out.1⟩;clear he;go_wp2_with (go_at_call 121;refine (Tc s q l[k] _ (zA hh.out.2 HQ)).mono ?_;rintro e w2 ⟨rfl,hb2⟩;rw[HD.out]);go_ret;exact ⟨_,rfl,HI.out,zB hh.out.2 hb2⟩
   | false =>
    have HD:=zh he;have HN:Hid (∀j (h:j<l.length),j<k+1->preB s l[j]=false):=fun j h hj=>by
     by_cases e:j=k
     ·subst e;exact he
     ·exact hh.out.1 j h (by omega)
    clear he;go_wp2_with (go_at_call 121;refine (Tc s q l[k] _ (zA hh.out.2 HQ)).mono ?_;rintro e w2 ⟨rfl,hb2⟩;rw[HD.out]);go_roundw
    case rel=>exact ⟨k+1,by omega,by go_num,HN.out,zB hh.out.2 hb2⟩
    case measure=>simp[intOf];omega
  ·have HI:Hid (lg (preB s) l (-1)):=Or.inl ⟨rfl,fun j h=>hh.out.1 j h (by omega)⟩
   go_wp2
   go_ret
   exact ⟨_,rfl,HI.out,hh.out.2⟩
theorem NU {g:Nat} {o:Obj} (h:w.heap[g]? = some o) (hb:Below w.heap.size w w'):w'.heap[g]? = some o:=(hb.block _ (zg.1 h).1).trans h
def Dr (w:World) (L:List UInt8) (e:Ending) (w':World):Prop:=∃ (u:AB) (n:Int) (ok:Bool),e = .returned (.tuple #[.agg (Wp u).toArray,.int .i64 n,.bool ok])/\(match Cj L with
 | some p=>ok=true/\u=p.1/\n=(p.2:Int)
 | none=>ok=false)/\Below w.heap.size w w'
variable {ok:Bool}
theorem N9 {u:AB} (h:Cj L=some (u,k)) (hb:Below w.heap.size w w') {cs:Array Value} (hc:cs=(Wp u).toArray) (hn:n=(k:Int)) (hk:ok=true):Dr w L (.returned (.tuple #[.agg cs,.int .i64 n,.bool ok])) w' :=
 ⟨u,n,ok,by rw[hc],by rw[h];exact ⟨hk,rfl,hn⟩,hb⟩
theorem J8 (h:Cj L=none) (hb:Below w.heap.size w w') (u:AB) {cs:Array Value} (hc:cs=(Wp u).toArray) (hk:ok=false):Dr w L (.returned (.tuple #[.agg cs,.int .i64 n,.bool ok])) w' :=
 ⟨u,n,ok,by rw[hc],by rw[h];exact hk,hb⟩
theorem TN (hL:s.data.toList=L) (h0:L=c::r) (hc:DT (c.toNat:Int)=true) (hk:CG L=k) (hb:Below w.heap.size w w'):
  Dr w L (.returned (.tuple #[.agg #[.int .i64 1,.string (s.extract 0 k),.int .i64 0,.string ⟨#[]⟩,.int .i64 0],.int .i64 k,.bool (decide ((k:Int)<=24))])) w':=by
 have e:bA (L.take k)=s.extract 0 k:=NG.2 (by rw[D6,hL])
 have ht:Cj L=if k<=24 then some (⟨1,bA (L.take k),0,⟨#[]⟩,0⟩,k) else none:=by
  rw[<-hk];subst h0;rw[Cj,AAC (show BS c=true from hc)]
 by_cases h:k<=24
 ·rw[AAC h] at ht
  exact N9 ht hb (by rw[e];rfl) rfl (AAM (by omega))
 ·rw[Pe h] at ht
  exact J8 ht hb ⟨1,s.extract 0 k,0,⟨#[]⟩,0⟩ rfl (AAE (by omega))
theorem ay (s:ByteArray) (hs:s.size<=140737488355328) (h1:0<s.size) (hl:DT (s[0].toNat:Int)=true) (w:World):Calls Tryz.prog 77 #[.string s] w (Dr w s.data.toList):=by
 have ED:=zh hs;have HL:=zh hl;have KW:=zh (GV h1);obtain ⟨L,hL⟩:∃L,s.data.toList=L:=⟨_,rfl⟩;have PX:=zh hL;rw[hL];rw[hL] at KW;have HAT:Hid (∀k,1<=k->k<=s.size->(∀j (hj:j<s.size),j<k->Ko s[j]=true)->(∀h:k<s.size,Ko s[k]=false)->CG L=k):=fun k hk1 hk2 ha hb=>by
  refine Uh (by rw[<-PX.out];exact hk2) (fun i hi hik=>?_) fun h=>?_
  ·have h2:i<s.size:=by rw[<-PX.out] at hi;exact hi
   have:=ha i h2 hik;have e:L[i]=s[i]:=by simp only[<-PX.out];rfl
   rw[e];exact this
  ·have h2:k<s.size:=by rw[<-PX.out] at h;exact h
   have:=hb h2;have e:L[k]=s[k]:=by simp only[<-PX.out];rfl
   rw[e];exact this
 clear hL hl;obtain ⟨HB1,HX0,EM⟩:=zy w (.cells #[.string s] 9) (.cells #[.int .i64 0,.string ⟨#[]⟩,.int .i64 0,.string ⟨#[]⟩,.int .i64 0] 59)
 go_enter Tryz.func77,Tryz.ntmps77
 go_upto_region 1 with fail
 generalize (w.alloc (.cells #[.string s] 9)).alloc (.cells #[.int .i64 0,.string ⟨#[]⟩,.int .i64 0,.string ⟨#[]⟩,.int .i64 0] 59)=W1 at *;have x0:W1.cell? ⟨w.heap.size,0,none⟩=some (.string s):=by rw[AAB _ _ _ _ _ _ HX0.out];rfl
 go_wp2_with (go_at_call 116;refine (yI _ _).mono ?_;rintro e w' ⟨rfl,rfl⟩;rw[HL.out])
 have AAF:=zh x0;clear x0
 go_loopw [5] (fun i wr=>∃k:Nat,1<=k/\k<=s.size/\i = .int .i64 k/\Hid (wr=W1/\∀j (hj:j<s.size),j<k->Ko s[j]=true)) (fun i _=>s.size - (intOf i).toNat)
 case atStart=>exact ⟨1,by omega,by omega,rfl,rfl,fun j hj h=>by
  obtain rfl:j=0:=by omega
  unfold Ko;rw[HL.out];rfl⟩
 case round =>
  obtain ⟨k,hk1,hk2,rfl,hh⟩:=hrel;obtain ⟨hw,hcc⟩:=hh.out;have HC:=zh hcc;clear hh hcc;subst hw;have x0:=AAF.out;have g1:(0:Int)<=(k:Int):=by omega
  by_cases hlt:k<s.size
  ·have g2:(k:Int)<(s.size:Int):=by omega
   cases hd:DT (s[k].toNat:Int) with
   | true =>
    have HD:=zh hd;have HN:Hid (∀j (hj:j<s.size),j<k+1->Ko s[j]=true):=fun j hj h2=>by
     by_cases e:j=k
     ·subst e;unfold Ko;rw[hd];rfl
     ·exact HC.out j hj (by omega)
    clear hd;go_wp2_with (go_at_call 116;refine (yI _ _).mono ?_;rintro e w' ⟨rfl,rfl⟩;rw[HD.out]);go_roundw
    case rel=>exact ⟨k+1,by omega,by omega,by go_num,trivial,HN.out⟩
    case measure=>simp[intOf];omega
   | false =>
    have HD:=zh hd;clear hd
    cases hd2:Eb (s[k].toNat:Int) with
    | true =>
     have HD2:=zh hd2;have HN:Hid (∀j (hj:j<s.size),j<k+1->Ko s[j]=true):=fun j hj h2=>by
      by_cases e:j=k
      ·subst e;unfold Ko;rw[HD.out,hd2];rfl
      ·exact HC.out j hj (by omega)
     clear hd2;go_wp2_with (first|(go_at_call 116;refine (yI _ _).mono ?_;rintro e w' ⟨rfl,rfl⟩;rw[HD.out])|(go_at_call 117;refine (BZ _ _).mono ?_;rintro e w' ⟨rfl,rfl⟩;rw[HD2.out]));go_roundw
     case rel=>exact ⟨k+1,by omega,by omega,by go_num,trivial,HN.out⟩
     case measure=>simp[intOf];omega
    | false =>
     have HD2:=zh hd2;have t0:wr.cell? ⟨w.heap.size+1,0,none⟩=some (.int .i64 0):=by rw[AAB _ _ _ _ _ _ EM.out];rfl
     have t1:wr.cell? ⟨w.heap.size+1,1,none⟩=some (.string ⟨#[]⟩):=by rw[AAB _ _ _ _ _ _ EM.out];rfl
     have t2:wr.cell? ⟨w.heap.size+1,2,none⟩=some (.int .i64 0):=by rw[AAB _ _ _ _ _ _ EM.out];rfl
     have t3:wr.cell? ⟨w.heap.size+1,3,none⟩=some (.string ⟨#[]⟩):=by rw[AAB _ _ _ _ _ _ EM.out];rfl
     have t4:wr.cell? ⟨w.heap.size+1,4,none⟩=some (.int .i64 0):=by rw[AAB _ _ _ _ _ _ EM.out];rfl
     have f0:=AAK _ _ 0 _ _ EM;have f1:=AAK _ _ 1 _ _ EM;have f2:=AAK _ _ 2 _ _ EM;have f3:=AAK _ _ 3 _ _ EM;have f4:=AAK _ _ 4 _ _ EM;have HK:=zh (HAT.out k hk1 hk2 HC fun _=>by unfold Ko;rw[HD.out,hd2];rfl)
     clear hd2;go_wp2_with (first|(go_at_call 116;refine (yI _ _).mono ?_;rintro e w' ⟨rfl,rfl⟩;rw[HD.out])|(go_at_call 117;refine (BZ _ _).mono ?_;rintro e w' ⟨rfl,rfl⟩;rw[HD2.out]))
     refine bodyPost_ret (v := .tuple #[.agg #[.int .i64 1,.string (s.extract 0 k),.int .i64 0,.string ⟨#[]⟩,.int .i64 0],.int .i64 k,.bool (decide ((k:Int)<=24))]) (by simp[results,Tryz.results77,go_sem,t0,t1,t2,t3,t4]) rfl ?_
     exact TN PX KW HL HK (((((HB1.out.setCell (p:=⟨w.heap.size+1,0,none⟩) (by simp) _).setCell (p:=⟨w.heap.size+1,1,none⟩) (by simp) _).setCell (p:=⟨w.heap.size+1,2,none⟩) (by simp) _).setCell (p:=⟨w.heap.size+1,3,none⟩) (by simp) _).setCell (p:=⟨w.heap.size+1,4,none⟩) (by simp) _)
  ·have HK:=zh (HAT.out k hk1 hk2 HC fun h=>absurd h hlt)
   have g2:¬ (k:Int)<(s.size:Int):=by omega
   have t0:wr.cell? ⟨w.heap.size+1,0,none⟩=some (.int .i64 0):=by rw[AAB _ _ _ _ _ _ EM.out];rfl
   have t1:wr.cell? ⟨w.heap.size+1,1,none⟩=some (.string ⟨#[]⟩):=by rw[AAB _ _ _ _ _ _ EM.out];rfl
   have t2:wr.cell? ⟨w.heap.size+1,2,none⟩=some (.int .i64 0):=by rw[AAB _ _ _ _ _ _ EM.out];rfl
   have t3:wr.cell? ⟨w.heap.size+1,3,none⟩=some (.string ⟨#[]⟩):=by rw[AAB _ _ _ _ _ _ EM.out];rfl
   have t4:wr.cell? ⟨w.heap.size+1,4,none⟩=some (.int .i64 0):=by rw[AAB _ _ _ _ _ _ EM.out];rfl
   have f0:=AAK _ _ 0 _ _ EM;have f1:=AAK _ _ 1 _ _ EM;have f2:=AAK _ _ 2 _ _ EM;have f3:=AAK _ _ 3 _ _ EM;have f4:=AAK _ _ 4 _ _ EM;go_wp2
   refine bodyPost_ret (v := .tuple #[.agg #[.int .i64 1,.string (s.extract 0 k),.int .i64 0,.string ⟨#[]⟩,.int .i64 0],.int .i64 k,.bool (decide ((k:Int)<=24))]) (by simp[results,Tryz.results77,go_sem,t0,t1,t2,t3,t4]) rfl ?_
   exact TN PX KW HL HK (((((HB1.out.setCell (p:=⟨w.heap.size+1,0,none⟩) (by simp) _).setCell (p:=⟨w.heap.size+1,1,none⟩) (by simp) _).setCell (p:=⟨w.heap.size+1,2,none⟩) (by simp) _).setCell (p:=⟨w.heap.size+1,3,none⟩) (by simp) _).setCell (p:=⟨w.heap.size+1,4,none⟩) (by simp) _)
theorem X6 (h0:L=c::r) (hl:BS c=false) (hd:(zZ c||(decide (c.toNat=45)&&zZ (r.headD 0)))=true) (hb:Below w.heap.size w w') {v:Int} (hn:n=((L.take (1+EI (L.drop 1))).length:Int)) (hi:match Fy (L.take (1+EI (L.drop 1))) with
 | some x=>ok=true/\v=x
 | none=>ok=false):Dr w L (.returned (.tuple #[.agg #[.int .i64 2,.string ⟨#[]⟩,.int .i64 v,.string ⟨#[]⟩,.int .i64 0],.int .i64 n,.bool ok])) w':=by
 subst h0;have hk:=Jt r;have ht:Cj (c::r)=(Fy ((c::r).take (1+EI r))).map fun v=>(⟨2,⟨#[]⟩,v,⟨#[]⟩,0⟩,1+EI r):=by
  rw[Cj,Pe (by rw[hl];simp),AAC hd]
 rw[List.drop_one,List.tail_cons] at hn hi;have hlen:((c::r).take (1+EI r)).length=1+EI r:=by rw[List.length_take,AAS];omega
 rw[hlen] at hn
 cases hx:Fy ((c::r).take (1+EI r)) with
 | none =>
  rw[hx] at hi ht;exact J8 ht hb ⟨2,⟨#[]⟩,v,⟨#[]⟩,0⟩ rfl hi
 | some x =>
  rw[hx] at hi ht;obtain ⟨h1,rfl⟩:=hi;exact N9 ht hb rfl hn h1
theorem jI (h0:L=c::r) (hc:c.toNat=34) (hb:Below w.heap.size w w') {u:ByteArray} (hi:match Fb (L.drop 1) with
 | some p=>ok=true/\u=bA p.1/\n=((p.2+1:Nat):Int)
 | none=>ok=false):Dr w L (.returned (.tuple #[.agg #[.int .i64 3,.string ⟨#[]⟩,.int .i64 0,.string u,.int .i64 0],.int .i64 n,.bool ok])) w':=by
 subst h0;have ht:Cj (c::r)=(Fb r).map fun p=>(⟨3,⟨#[]⟩,0,bA p.1,0⟩,p.2+1):=by
  have e1:BS c=false:=by
   cases h:BS c with
   | false=>rfl
   | true=>unfold BS DT at h;rw[hc] at h;exact absurd h (by decide)
  have e2:zZ c=false:=by
   cases h:zZ c with
   | false=>rfl
   | true=>unfold zZ Eb at h;rw[hc] at h;exact absurd h (by decide)
  rw[Cj,e1,Pe (by simp),e2,Pe (by simp[hc]),AAC hc]
 rw[List.drop_one,List.tail_cons] at hi
 cases hx:Fb r with
 | none =>
  rw[hx] at hi ht;exact J8 ht hb ⟨3,⟨#[]⟩,0,u,0⟩ rfl hi
 | some p =>
  rw[hx] at hi ht;obtain ⟨h1,rfl,h3⟩:=hi;exact N9 ht hb rfl h3 h1
theorem jG (s:ByteArray) (hs:s.size<=140737488355328) (h1:0<s.size) (hl:BS s[0]=false) (hd:zZ s[0]=true) (w:World) (hE:Gq w):Calls Tryz.prog 77 #[.string s] w (Dr w s.data.toList):=by
 have HDG:Hid ((zZ s[0]||(decide (s[0].toNat=45)&&zZ ((s.data.toList.drop 1).headD 0)))=true):=by show _=_;rw[hd];rfl
 have HD:Hid (Eb (s[0].toNat:Int)=true):=hd;have hl':DT (s[0].toNat:Int)=false:=hl;have Mc:=zh (hE.below (zI w (.cells #[.string s] 9) (.cells #[.int .i64 0,.string ⟨#[]⟩,.int .i64 0,.string ⟨#[]⟩,.int .i64 0] 59)));clear hd hE;have ED:=zh hs;have VU:Hid (DT (s[0].toNat:Int)=false):=hl'
 obtain ⟨HB1,HX0,EM⟩:=zy w (.cells #[.string s] 9) (.cells #[.int .i64 0,.string ⟨#[]⟩,.int .i64 0,.string ⟨#[]⟩,.int .i64 0] 59);clear hl hl'
 go_enter Tryz.func77,Tryz.ntmps77
 go_upto_region 1 with fail
 generalize (w.alloc (.cells #[.string s] 9)).alloc (.cells #[.int .i64 0,.string ⟨#[]⟩,.int .i64 0,.string ⟨#[]⟩,.int .i64 0] 59)=W1 at *;have x0:W1.cell? ⟨w.heap.size,0,none⟩=some (.string s):=by rw[AAB _ _ _ _ _ _ HX0.out];rfl
 go_wp2_with (first|(go_at_call 116;refine (yI _ _).mono ?_;rintro e w' ⟨rfl,rfl⟩;rw[VU.out])|(go_at_call 117;refine (BZ _ _).mono ?_;rintro e w' ⟨rfl,rfl⟩;rw[HD.out]))
 refine (Ou s ED h1 W1 Mc).mono ?_;rintro e w5 ⟨v,n,ok,rfl,hn,hi,hb⟩;have BK:=zh (NU EM hb);have BB:=zh (zB HB1 hb);have HF:=zh (fun w' (h:Below w.heap.size w w')=>X6 (w:=w) (w':=w') (GV h1) VU HDG h hn hi)
 clear hb hn hi x0;have t0:w5.cell? ⟨w.heap.size+1,0,none⟩=some (.int .i64 0):=by rw[AAB _ _ _ _ _ _ BK.out];rfl
 have t1:w5.cell? ⟨w.heap.size+1,1,none⟩=some (.string ⟨#[]⟩):=by rw[AAB _ _ _ _ _ _ BK.out];rfl
 have t2:w5.cell? ⟨w.heap.size+1,2,none⟩=some (.int .i64 0):=by rw[AAB _ _ _ _ _ _ BK.out];rfl
 have t3:w5.cell? ⟨w.heap.size+1,3,none⟩=some (.string ⟨#[]⟩):=by rw[AAB _ _ _ _ _ _ BK.out];rfl
 have t4:w5.cell? ⟨w.heap.size+1,4,none⟩=some (.int .i64 0):=by rw[AAB _ _ _ _ _ _ BK.out];rfl
 have f0:=AAK _ _ 0 _ _ BK;have f1:=AAK _ _ 1 _ _ BK;have f2:=AAK _ _ 2 _ _ BK;have f3:=AAK _ _ 3 _ _ BK;have f4:=AAK _ _ 4 _ _ BK;go_wp2
 refine bodyPost_ret (v := .tuple #[.agg #[.int .i64 2,.string ⟨#[]⟩,.int .i64 v,.string ⟨#[]⟩,.int .i64 0],.int .i64 n,.bool ok]) (by simp[results,Tryz.results77,go_sem,t0,t1,t2,t3,t4]) rfl ?_
 exact HF.out _ (((((BB.out.setCell (p:=⟨w.heap.size+1,0,none⟩) (by simp) _).setCell (p:=⟨w.heap.size+1,1,none⟩) (by simp) _).setCell (p:=⟨w.heap.size+1,2,none⟩) (by simp) _).setCell (p:=⟨w.heap.size+1,3,none⟩) (by simp) _).setCell (p:=⟨w.heap.size+1,4,none⟩) (by simp) _)
theorem jB (s:ByteArray) (hs:s.size<=140737488355328) (h1:0<s.size) (hc:s[0].toNat=34) (w:World):Calls Tryz.prog 77 #[.string s] w (Dr w s.data.toList):=by
 have hl:DT (s[0].toNat:Int)=false:=by rw[hc];decide
 have HD:Hid (Eb (s[0].toNat:Int)=false):=by show _=_;rw[hc];decide
 have q1:((s[0].toNat:Int)==45)=false:=by rw[hc];decide
 have q2:((s[0].toNat:Int)==34)=true:=by rw[hc];decide
 have FD:=zh hc;clear hc;have ED:=zh hs;have VU:=zh hl;obtain ⟨HB1,HX0,EM⟩:=zy w (.cells #[.string s] 9) (.cells #[.int .i64 0,.string ⟨#[]⟩,.int .i64 0,.string ⟨#[]⟩,.int .i64 0] 59);clear hl
 go_enter Tryz.func77,Tryz.ntmps77
 go_upto_region 1 with fail
 generalize (w.alloc (.cells #[.string s] 9)).alloc (.cells #[.int .i64 0,.string ⟨#[]⟩,.int .i64 0,.string ⟨#[]⟩,.int .i64 0] 59)=W1 at *;have x0:W1.cell? ⟨w.heap.size,0,none⟩=some (.string s):=by rw[AAB _ _ _ _ _ _ HX0.out];rfl
 go_wp2_with (first|(go_at_call 116;refine (yI _ _).mono ?_;rintro e w' ⟨rfl,rfl⟩;rw[VU.out])|(go_at_call 117;refine (BZ _ _).mono ?_;rintro e w' ⟨rfl,rfl⟩;rw[HD.out]))
 refine (WA s ED h1 W1).mono ?_;rintro e w5 ⟨u,n,ok,rfl,hi,hb⟩;have BK:=zh (NU EM hb);have BB:=zh (zB HB1 hb);have HF:=zh (fun w' (h:Below w.heap.size w w')=>jI (w:=w) (w':=w') (GV h1) FD h hi)
 clear hb hi x0 q1 q2;have t0:w5.cell? ⟨w.heap.size+1,0,none⟩=some (.int .i64 0):=by rw[AAB _ _ _ _ _ _ BK.out];rfl
 have t1:w5.cell? ⟨w.heap.size+1,1,none⟩=some (.string ⟨#[]⟩):=by rw[AAB _ _ _ _ _ _ BK.out];rfl
 have t2:w5.cell? ⟨w.heap.size+1,2,none⟩=some (.int .i64 0):=by rw[AAB _ _ _ _ _ _ BK.out];rfl
 have t3:w5.cell? ⟨w.heap.size+1,3,none⟩=some (.string ⟨#[]⟩):=by rw[AAB _ _ _ _ _ _ BK.out];rfl
 have t4:w5.cell? ⟨w.heap.size+1,4,none⟩=some (.int .i64 0):=by rw[AAB _ _ _ _ _ _ BK.out];rfl
 have f0:=AAK _ _ 0 _ _ BK;have f1:=AAK _ _ 1 _ _ BK;have f2:=AAK _ _ 2 _ _ BK;have f3:=AAK _ _ 3 _ _ BK;have f4:=AAK _ _ 4 _ _ BK;go_wp2;refine bodyPost_ret (v := .tuple #[.agg #[.int .i64 3,.string ⟨#[]⟩,.int .i64 0,.string u,.int .i64 0],.int .i64 n,.bool ok]) (by simp[results,Tryz.results77,go_sem,t0,t1,t2,t3,t4]) rfl ?_
 exact HF.out _ (((((BB.out.setCell (p:=⟨w.heap.size+1,0,none⟩) (by simp) _).setCell (p:=⟨w.heap.size+1,1,none⟩) (by simp) _).setCell (p:=⟨w.heap.size+1,2,none⟩) (by simp) _).setCell (p:=⟨w.heap.size+1,3,none⟩) (by simp) _).setCell (p:=⟨w.heap.size+1,4,none⟩) (by simp) _)
theorem Oc (h:1<s.size):(s.data.toList.drop 1).headD 0=s[1]:=by rw[NZ h];rfl
theorem jF (s:ByteArray) (hs:s.size<=140737488355328) (h2:1<s.size) (h1:0<s.size) (hc:s[0].toNat=45) (hd:zZ s[1]=true) (w:World) (hE:Gq w):Calls Tryz.prog 77 #[.string s] w (Dr w s.data.toList):=by
 have hl:DT (s[0].toNat:Int)=false:=by rw[hc];decide
 have HDG:Hid ((zZ s[0]||(decide (s[0].toNat=45)&&zZ ((s.data.toList.drop 1).headD 0)))=true):=by show _=_;rw[Oc h2,hd,hc];simp
 have HD:Hid (Eb (s[0].toNat:Int)=false):=by show _=_;rw[hc];decide
 have HD1:Hid (Eb (s[1].toNat:Int)=true):=hd;have q1:((s[0].toNat:Int)==45)=true:=by rw[hc];decide
 have i1:(1:Int)<(s.size:Int):=by omega
 have Mc:=zh (hE.below (zI w (.cells #[.string s] 9) (.cells #[.int .i64 0,.string ⟨#[]⟩,.int .i64 0,.string ⟨#[]⟩,.int .i64 0] 59)));clear hd hE hc;have ED:=zh hs;have VU:=zh hl;obtain ⟨HB1,HX0,EM⟩:=zy w (.cells #[.string s] 9) (.cells #[.int .i64 0,.string ⟨#[]⟩,.int .i64 0,.string ⟨#[]⟩,.int .i64 0] 59);clear hl
 go_enter Tryz.func77,Tryz.ntmps77
 go_upto_region 1 with fail
 generalize (w.alloc (.cells #[.string s] 9)).alloc (.cells #[.int .i64 0,.string ⟨#[]⟩,.int .i64 0,.string ⟨#[]⟩,.int .i64 0] 59)=W1 at *;have x0:W1.cell? ⟨w.heap.size,0,none⟩=some (.string s):=by rw[AAB _ _ _ _ _ _ HX0.out];rfl
 go_wp2_with (first|(go_at_call 116;refine (yI _ _).mono ?_;rintro e w' ⟨rfl,rfl⟩;rw[VU.out])|(go_at_call 117;refine (BZ _ _).mono ?_;rintro e w' ⟨rfl,rfl⟩;first|rw[HD.out]|rw[HD1.out]))
 refine (Ou s ED h1 W1 Mc).mono ?_;rintro e w5 ⟨v,n,ok,rfl,hn,hi,hb⟩;have BK:=zh (NU EM hb);have BB:=zh (zB HB1 hb);have HF:=zh (fun w' (h:Below w.heap.size w w')=>X6 (w:=w) (w':=w') (GV h1) VU HDG h hn hi)
 clear hb hn hi x0 q1;have t0:w5.cell? ⟨w.heap.size+1,0,none⟩=some (.int .i64 0):=by rw[AAB _ _ _ _ _ _ BK.out];rfl
 have t1:w5.cell? ⟨w.heap.size+1,1,none⟩=some (.string ⟨#[]⟩):=by rw[AAB _ _ _ _ _ _ BK.out];rfl
 have t2:w5.cell? ⟨w.heap.size+1,2,none⟩=some (.int .i64 0):=by rw[AAB _ _ _ _ _ _ BK.out];rfl
 have t3:w5.cell? ⟨w.heap.size+1,3,none⟩=some (.string ⟨#[]⟩):=by rw[AAB _ _ _ _ _ _ BK.out];rfl
 have t4:w5.cell? ⟨w.heap.size+1,4,none⟩=some (.int .i64 0):=by rw[AAB _ _ _ _ _ _ BK.out];rfl
 have f0:=AAK _ _ 0 _ _ BK;have f1:=AAK _ _ 1 _ _ BK;have f2:=AAK _ _ 2 _ _ BK;have f3:=AAK _ _ 3 _ _ BK;have f4:=AAK _ _ 4 _ _ BK;go_wp2
 refine bodyPost_ret (v := .tuple #[.agg #[.int .i64 2,.string ⟨#[]⟩,.int .i64 v,.string ⟨#[]⟩,.int .i64 0],.int .i64 n,.bool ok]) (by simp[results,Tryz.results77,go_sem,t0,t1,t2,t3,t4]) rfl ?_
 exact HF.out _ (((((BB.out.setCell (p:=⟨w.heap.size+1,0,none⟩) (by simp) _).setCell (p:=⟨w.heap.size+1,1,none⟩) (by simp) _).setCell (p:=⟨w.heap.size+1,2,none⟩) (by simp) _).setCell (p:=⟨w.heap.size+1,3,none⟩) (by simp) _).setCell (p:=⟨w.heap.size+1,4,none⟩) (by simp) _)
def DZ:List ByteArray:=Ap.map bA
structure LA (w:World) (A:zo) (c:Nat):Prop where
 cell:w.cell? ⟨0,0,none⟩=some (.slice A 18 c)
 rows:JG w A DZ
variable {A:zo}
theorem LA.below {c:Nat} (h:LA w A c) (hb:Below w.heap.size w w'):LA w' A c:=⟨zA hb h.cell,h.rows.below hb⟩
theorem Xx {x:ByteArray}:preB s x=true↔x.data.toList <+: s.data.toList:=by
 unfold preB Lib.hasPrefix;exact List.isPrefixOf_iff_prefix
theorem Lr {i:Int} (h:lg (preB s) DZ i):(i = -1/\Ck s.data.toList=none)\/∃ (k:Nat) (hk:k<Ap.length),i=(k:Int)/\Ck s.data.toList=some Ap[k].length/\s.data.toList.take Ap[k].length=Ap[k]:=by
 have hl:DZ.length=Ap.length:=AAk ..;have hg:∀j (hj:j<Ap.length),(DZ[j]'(by rw[hl];exact hj)).data.toList=Ap[j]:=fun j hj=>by
  simp only[DZ,List.getElem_map];rfl
 have hno:∀j (hj:j<Ap.length),preB s (DZ[j]'(by rw[hl];exact hj))=false->¬ Ap[j] <+: s.data.toList:=fun j hj h hp=>by
  rw[<-hg j hj] at hp;rw[Xx.2 hp] at h;cases h
 rcases h with ⟨h1,h2⟩|⟨k,hk,h1,h2,h3⟩
 ·exact Or.inl ⟨h1,bJ fun j hj=>hno j hj (h2 j (by rw[hl];exact hj))⟩
 ·have hk':k<Ap.length:=by rw[<-hl];exact hk
  have hp:=Xx.1 h2;rw[hg k hk'] at hp;have:=Yu hk' hp fun j hj=>hno j (Nat.lt_trans hj hk') (h3 j (by rw[hl];omega) hj)
  exact Or.inr ⟨k,hk',h1,this.1,this.2⟩
theorem OX (h0:s.data.toList=c::r) (hl:BS c=false) (hd:zZ c=false) (hn:(decide (c.toNat=45)&&zZ (r.headD 0))=false) (hc:c.toNat≠34):Cj s.data.toList=(Ck s.data.toList).map fun n=>(⟨4,bA (s.data.toList.take n),0,⟨#[]⟩,0⟩,n):=by
 rw[h0,Cj,hl,Pe (by simp),hd,hn,Bool.false_or,Pe (by simp),Pe hc]
theorem jE (s:ByteArray) (hs:s.size<=140737488355328) (h1:0<s.size) (h45:s[0].toNat≠45) (hl0:BS s[0]=false) (hd0:zZ s[0]=false) (hc:s[0].toNat≠34) (hsy:Ck s.data.toList=none) (w:World) {c:Nat} (hE:LA w A c):Calls Tryz.prog 77 #[.string s] w (Dr w s.data.toList):=by
 have NK:Hid (Cj s.data.toList=none):=by
  show _=_
  rw[OX (GV h1) hl0 hd0 (by simp[h45]) hc,hsy];rfl
 have hl:DT (s[0].toNat:Int)=false:=hl0;have HD:Hid (Eb (s[0].toNat:Int)=false):=hd0;have q2:((s[0].toNat:Int)==34)=false:=by simp;omega
 have q1:((s[0].toNat:Int)==45)=false:=by simp;omega
 have HD1:=HD;clear h45;have XL:=zh hsy;have Mc:=zh (hE.below (zI w (.cells #[.string s] 9) (.cells #[.int .i64 0,.string ⟨#[]⟩,.int .i64 0,.string ⟨#[]⟩,.int .i64 0] 59)));clear hE hl0 hd0 hsy hc;have ED:=zh hs;have VU:=zh hl;obtain ⟨HB1,HX0,EM⟩:=zy w (.cells #[.string s] 9) (.cells #[.int .i64 0,.string ⟨#[]⟩,.int .i64 0,.string ⟨#[]⟩,.int .i64 0] 59);clear hl
 go_enter Tryz.func77,Tryz.ntmps77
 go_upto_region 1 with fail
 generalize (w.alloc (.cells #[.string s] 9)).alloc (.cells #[.int .i64 0,.string ⟨#[]⟩,.int .i64 0,.string ⟨#[]⟩,.int .i64 0] 59)=W1 at *;have x0:W1.cell? ⟨w.heap.size,0,none⟩=some (.string s):=by rw[AAB _ _ _ _ _ _ HX0.out];rfl
 have y0:=Mc.out.cell;have Sw:=zh x0;go_wp2_with (first|(go_at_call 116;refine (yI _ _).mono ?_;rintro e w' ⟨rfl,rfl⟩;rw[VU.out])|(go_at_call 117;refine (BZ _ _).mono ?_;rintro e w' ⟨rfl,rfl⟩;first|rw[HD.out]|rw[HD1.out]));refine (GY s w.heap.size DZ A c W1 Mc.out.rows Sw).mono ?_;rintro e w5 ⟨i,rfl,hi,hb⟩;have hm:i = -1:=by
  rcases Lr hi with ⟨h,_⟩|⟨k,hk,_,h,_⟩
  ·exact h
  ·rw[XL.out] at h;cases h
 subst hm;have BK:=zh (NU EM hb);have BB:=zh (zB HB1 hb);clear hb hi x0 y0;have t0:w5.cell? ⟨w.heap.size+1,0,none⟩=some (.int .i64 0):=by rw[AAB _ _ _ _ _ _ BK.out];rfl
 have t1:w5.cell? ⟨w.heap.size+1,1,none⟩=some (.string ⟨#[]⟩):=by rw[AAB _ _ _ _ _ _ BK.out];rfl
 have t2:w5.cell? ⟨w.heap.size+1,2,none⟩=some (.int .i64 0):=by rw[AAB _ _ _ _ _ _ BK.out];rfl
 have t3:w5.cell? ⟨w.heap.size+1,3,none⟩=some (.string ⟨#[]⟩):=by rw[AAB _ _ _ _ _ _ BK.out];rfl
 have t4:w5.cell? ⟨w.heap.size+1,4,none⟩=some (.int .i64 0):=by rw[AAB _ _ _ _ _ _ BK.out];rfl
 have f0:=AAK _ _ 0 _ _ BK;have f1:=AAK _ _ 1 _ _ BK;have f2:=AAK _ _ 2 _ _ BK;have f3:=AAK _ _ 3 _ _ BK;have f4:=AAK _ _ 4 _ _ BK;go_wp2
 refine bodyPost_ret (v := .tuple #[.agg #[.int .i64 0,.string ⟨#[]⟩,.int .i64 0,.string ⟨#[]⟩,.int .i64 0],.int .i64 0,.bool false]) (by simp[results,Tryz.results77,go_sem,t0,t1,t2,t3,t4]) rfl ?_
 exact J8 NK (((((BB.out.setCell (p:=⟨w.heap.size+1,0,none⟩) (by simp) _).setCell (p:=⟨w.heap.size+1,1,none⟩) (by simp) _).setCell (p:=⟨w.heap.size+1,2,none⟩) (by simp) _).setCell (p:=⟨w.heap.size+1,3,none⟩) (by simp) _).setCell (p:=⟨w.heap.size+1,4,none⟩) (by simp) _) ⟨0,⟨#[]⟩,0,⟨#[]⟩,0⟩ rfl rfl
theorem jD (s:ByteArray) (hs:s.size<=140737488355328) (h1:0<s.size) (h45:s[0].toNat=45) (hz:s.size=1) (hl0:BS s[0]=false) (hd0:zZ s[0]=false) (hc:s[0].toNat≠34) (hsy:Ck s.data.toList=none) (w:World) {c:Nat} (hE:LA w A c):Calls Tryz.prog 77 #[.string s] w (Dr w s.data.toList):=by
 have NK:Hid (Cj s.data.toList=none):=by
  show _=_
  rw[OX (GV h1) hl0 hd0 (by rw[show s.data.toList.drop 1=[] from AAp (by rw[show s.data.toList.length=s.size from rfl,hz];exact AAQ _)];rw[Bool.and_eq_false_iff];exact Or.inr (by decide)) hc,hsy];rfl
 have hl:DT (s[0].toNat:Int)=false:=hl0;have HD:Hid (Eb (s[0].toNat:Int)=false):=hd0;have q2:((s[0].toNat:Int)==34)=false:=by simp;omega
 have q1:((s[0].toNat:Int)==45)=true:=by simp[h45]
 have i1:¬ (1:Int)<(s.size:Int):=by omega
 have HD1:=HD;clear h45 hz;have XL:=zh hsy;have Mc:=zh (hE.below (zI w (.cells #[.string s] 9) (.cells #[.int .i64 0,.string ⟨#[]⟩,.int .i64 0,.string ⟨#[]⟩,.int .i64 0] 59)));clear hE hl0 hd0 hsy hc;have ED:=zh hs;have VU:=zh hl;obtain ⟨HB1,HX0,EM⟩:=zy w (.cells #[.string s] 9) (.cells #[.int .i64 0,.string ⟨#[]⟩,.int .i64 0,.string ⟨#[]⟩,.int .i64 0] 59);clear hl
 go_enter Tryz.func77,Tryz.ntmps77
 go_upto_region 1 with fail
 generalize (w.alloc (.cells #[.string s] 9)).alloc (.cells #[.int .i64 0,.string ⟨#[]⟩,.int .i64 0,.string ⟨#[]⟩,.int .i64 0] 59)=W1 at *;have x0:W1.cell? ⟨w.heap.size,0,none⟩=some (.string s):=by rw[AAB _ _ _ _ _ _ HX0.out];rfl
 have y0:=Mc.out.cell;have Sw:=zh x0;go_wp2_with (first|(go_at_call 116;refine (yI _ _).mono ?_;rintro e w' ⟨rfl,rfl⟩;rw[VU.out])|(go_at_call 117;refine (BZ _ _).mono ?_;rintro e w' ⟨rfl,rfl⟩;first|rw[HD.out]|rw[HD1.out]));refine (GY s w.heap.size DZ A c W1 Mc.out.rows Sw).mono ?_;rintro e w5 ⟨i,rfl,hi,hb⟩;have hm:i = -1:=by
  rcases Lr hi with ⟨h,_⟩|⟨k,hk,_,h,_⟩
  ·exact h
  ·rw[XL.out] at h;cases h
 subst hm;have BK:=zh (NU EM hb);have BB:=zh (zB HB1 hb);clear hb hi x0 y0;have t0:w5.cell? ⟨w.heap.size+1,0,none⟩=some (.int .i64 0):=by rw[AAB _ _ _ _ _ _ BK.out];rfl
 have t1:w5.cell? ⟨w.heap.size+1,1,none⟩=some (.string ⟨#[]⟩):=by rw[AAB _ _ _ _ _ _ BK.out];rfl
 have t2:w5.cell? ⟨w.heap.size+1,2,none⟩=some (.int .i64 0):=by rw[AAB _ _ _ _ _ _ BK.out];rfl
 have t3:w5.cell? ⟨w.heap.size+1,3,none⟩=some (.string ⟨#[]⟩):=by rw[AAB _ _ _ _ _ _ BK.out];rfl
 have t4:w5.cell? ⟨w.heap.size+1,4,none⟩=some (.int .i64 0):=by rw[AAB _ _ _ _ _ _ BK.out];rfl
 have f0:=AAK _ _ 0 _ _ BK;have f1:=AAK _ _ 1 _ _ BK;have f2:=AAK _ _ 2 _ _ BK;have f3:=AAK _ _ 3 _ _ BK;have f4:=AAK _ _ 4 _ _ BK;go_wp2
 refine bodyPost_ret (v := .tuple #[.agg #[.int .i64 0,.string ⟨#[]⟩,.int .i64 0,.string ⟨#[]⟩,.int .i64 0],.int .i64 0,.bool false]) (by simp[results,Tryz.results77,go_sem,t0,t1,t2,t3,t4]) rfl ?_
 exact J8 NK (((((BB.out.setCell (p:=⟨w.heap.size+1,0,none⟩) (by simp) _).setCell (p:=⟨w.heap.size+1,1,none⟩) (by simp) _).setCell (p:=⟨w.heap.size+1,2,none⟩) (by simp) _).setCell (p:=⟨w.heap.size+1,3,none⟩) (by simp) _).setCell (p:=⟨w.heap.size+1,4,none⟩) (by simp) _) ⟨0,⟨#[]⟩,0,⟨#[]⟩,0⟩ rfl rfl
theorem jC (s:ByteArray) (hs:s.size<=140737488355328) (h1:0<s.size) (h45:s[0].toNat=45) (h2:1<s.size) (hd1:zZ s[1]=false) (hl0:BS s[0]=false) (hd0:zZ s[0]=false) (hc:s[0].toNat≠34) (hsy:Ck s.data.toList=none) (w:World) {c:Nat} (hE:LA w A c):Calls Tryz.prog 77 #[.string s] w (Dr w s.data.toList):=by
 have NK:Hid (Cj s.data.toList=none):=by
  show _=_
  rw[OX (GV h1) hl0 hd0 (by rw[Oc h2,hd1,Bool.and_false]) hc,hsy];rfl
 have hl:DT (s[0].toNat:Int)=false:=hl0;have HD:Hid (Eb (s[0].toNat:Int)=false):=hd0;have q2:((s[0].toNat:Int)==34)=false:=by simp;omega
 have q1:((s[0].toNat:Int)==45)=true:=by simp[h45]
 have i1:(1:Int)<(s.size:Int):=by omega
 have HD1:Hid (Eb (s[1].toNat:Int)=false):=hd1;clear h45 hd1;have XL:=zh hsy;have Mc:=zh (hE.below (zI w (.cells #[.string s] 9) (.cells #[.int .i64 0,.string ⟨#[]⟩,.int .i64 0,.string ⟨#[]⟩,.int .i64 0] 59)));clear hE hl0 hd0 hsy hc;have ED:=zh hs;have VU:=zh hl;obtain ⟨HB1,HX0,EM⟩:=zy w (.cells #[.string s] 9) (.cells #[.int .i64 0,.string ⟨#[]⟩,.int .i64 0,.string ⟨#[]⟩,.int .i64 0] 59)
 clear hl
 go_enter Tryz.func77,Tryz.ntmps77
 go_upto_region 1 with fail
 generalize (w.alloc (.cells #[.string s] 9)).alloc (.cells #[.int .i64 0,.string ⟨#[]⟩,.int .i64 0,.string ⟨#[]⟩,.int .i64 0] 59)=W1 at *;have x0:W1.cell? ⟨w.heap.size,0,none⟩=some (.string s):=by rw[AAB _ _ _ _ _ _ HX0.out];rfl
 have y0:=Mc.out.cell;have Sw:=zh x0;go_wp2_with (first|(go_at_call 116;refine (yI _ _).mono ?_;rintro e w' ⟨rfl,rfl⟩;rw[VU.out])|(go_at_call 117;refine (BZ _ _).mono ?_;rintro e w' ⟨rfl,rfl⟩;first|rw[HD.out]|rw[HD1.out]));refine (GY s w.heap.size DZ A c W1 Mc.out.rows Sw).mono ?_;rintro e w5 ⟨i,rfl,hi,hb⟩;have hm:i = -1:=by
  rcases Lr hi with ⟨h,_⟩|⟨k,hk,_,h,_⟩
  ·exact h
  ·rw[XL.out] at h;cases h
 subst hm;have BK:=zh (NU EM hb);have BB:=zh (zB HB1 hb);clear hb hi x0 y0;have t0:w5.cell? ⟨w.heap.size+1,0,none⟩=some (.int .i64 0):=by rw[AAB _ _ _ _ _ _ BK.out];rfl
 have t1:w5.cell? ⟨w.heap.size+1,1,none⟩=some (.string ⟨#[]⟩):=by rw[AAB _ _ _ _ _ _ BK.out];rfl
 have t2:w5.cell? ⟨w.heap.size+1,2,none⟩=some (.int .i64 0):=by rw[AAB _ _ _ _ _ _ BK.out];rfl
 have t3:w5.cell? ⟨w.heap.size+1,3,none⟩=some (.string ⟨#[]⟩):=by rw[AAB _ _ _ _ _ _ BK.out];rfl
 have t4:w5.cell? ⟨w.heap.size+1,4,none⟩=some (.int .i64 0):=by rw[AAB _ _ _ _ _ _ BK.out];rfl
 have f0:=AAK _ _ 0 _ _ BK;have f1:=AAK _ _ 1 _ _ BK;have f2:=AAK _ _ 2 _ _ BK;have f3:=AAK _ _ 3 _ _ BK;have f4:=AAK _ _ 4 _ _ BK;go_wp2
 refine bodyPost_ret (v := .tuple #[.agg #[.int .i64 0,.string ⟨#[]⟩,.int .i64 0,.string ⟨#[]⟩,.int .i64 0],.int .i64 0,.bool false]) (by simp[results,Tryz.results77,go_sem,t0,t1,t2,t3,t4]) rfl ?_
 exact J8 NK (((((BB.out.setCell (p:=⟨w.heap.size+1,0,none⟩) (by simp) _).setCell (p:=⟨w.heap.size+1,1,none⟩) (by simp) _).setCell (p:=⟨w.heap.size+1,2,none⟩) (by simp) _).setCell (p:=⟨w.heap.size+1,3,none⟩) (by simp) _).setCell (p:=⟨w.heap.size+1,4,none⟩) (by simp) _) ⟨0,⟨#[]⟩,0,⟨#[]⟩,0⟩ rfl rfl
end Go.Proofs.YthkkllmmbefedaaGreatDoor



