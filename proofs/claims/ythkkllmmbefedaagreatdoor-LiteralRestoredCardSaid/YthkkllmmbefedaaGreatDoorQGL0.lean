/-
  Walks: lexer.token: where no symbol stands in front.
-/
import Derived.Test.YthkkllmmbefedaaGreatDoorQGA5
import Derived.Test.YthkkllmmbefedaaGreatDoorQGA3
import Derived.Test.YthkkllmmbefedaaGreatDoorQGA7
import Derived.Test.YthkkllmmbefedaaGreatDoorShelf
import Derived.BigQuiet
import Derived.Deep.DeepCutAuto
import Derived.Laws.IdiomStrings
import Derived.Lib.AppendIntMem
import Derived.Lib.MinMax
namespace Go.Proofs.YthkkllmmbefedaaGreatDoor
open Go.RowKit
set_option maxHeartbeats 16000000
set_option maxRecDepth 100000
variable {s:ByteArray}
theorem Ij (h:0<s.size):s.data.toList=s[0]::s.data.toList.drop 1:=by
 have h':0<s.data.toList.length:=h;have:=ABJ h';rw[List.drop_zero] at this;exact this
theorem X5 {n:Nat} (h:n<s.size):s.data.toList.drop n=s[n]::s.data.toList.drop (n+1):=ABJ (l:=s.data.toList) h
theorem UK (h:s.size=0):s=⟨#[]⟩:=by
 obtain ⟨d⟩:=s;have:d.size=0:=h;rw[Array.eq_empty_of_size_eq_zero this]
def wh:ByteArray:=⟨#[48,49,50,51,52,53,54,55,56,57,97,98,99,100,101,102]⟩
theorem iD (c:UInt8):Lib.indexByte wh.data.toList c=match Iu c with|some x=>(x:Int)|none => -1:=by
 have key:∀n:Fin 256,Lib.indexByte wh.data.toList (UInt8.ofNat n.1)=match Iu (UInt8.ofNat n.1) with|some x=>(x:Int)|none => -1:=by decide +kernel
 have:=key ⟨c.toNat,c.toNat_lt⟩
 rwa [UInt8.ofNat_toNat] at this
theorem byte_back (c:UInt8):((c.toNat:Nat):Int).toNat.toUInt8=c:=by simp
def E9 (l:List UInt8) (b k:Int) (ok:Bool):Prop:=match Fx l with
 | some p=>ok=true/\b=(p.1.toNat:Int)/\k=(p.2:Int)
 | none=>ok=false
def oo (w:World) (l:List UInt8) (e:Ending) (w':World):Prop:=∃b k ok,e = .returned (.tuple #[.int .u8 b,.int .i64 k,.bool ok])/\E9 l b k ok/\Below w.heap.size w w'
theorem Ui (s:ByteArray) (hs:Dk s) (w:World):Calls Tryz.prog 159 #[.string s] w (oo w s.data.toList):=by
 unfold Dk at hs
 by_cases h0:s.size=0
 ·obtain rfl:=UK h0
  clear hs h0
  go_enter Tryz.func159,Tryz.ntmps159
  go_wp2
  go_ret3
  exact ⟨_,_,_,rfl,rfl,Pe _ _⟩
 have hp:0<s.size:=by omega
 have hne2:s.toList.isEmpty=false:=by simpa using Pf hp
 have HL:=zh (Ij hp);obtain ⟨c,hc⟩:∃c,c=s[0]:=⟨_,rfl⟩;have HC:=zh hc;rw[<-hc] at HL;clear hc
 by_cases h1:c.toNat=34\/c.toNat=92
 ·have HE:Hid (Fx s.data.toList=some (c,1)):=by
   show _=_
   rw[HL.out];unfold Fx;simp only[AAH h1]
  have HD:c.toNat=34\/(¬ c.toNat=34/\c.toNat=92):=by omega
  clear h1 h0
  rcases HD with p|⟨p,q⟩
  ·have q1:((s[0].toNat:Int)==34)=true:=by rw[<-HC.out];simp[p]
   go_enter Tryz.func159,Tryz.ntmps159
   go_wp2
   go_ret3
   exact ⟨_,_,_,rfl,by unfold E9;rw[HE.out,HC.out];exact ⟨rfl,rfl,rfl⟩,Pe _ _⟩
  ·have q1:((s[0].toNat:Int)==34)=false:=by rw[<-HC.out];simp;omega
   have q2:((s[0].toNat:Int)==92)=true:=by rw[<-HC.out];simp[q]
   go_enter Tryz.func159,Tryz.ntmps159
   go_wp2
   go_ret3
   exact ⟨_,_,_,rfl,by unfold E9;rw[HE.out,HC.out];exact ⟨rfl,rfl,rfl⟩,Pe _ _⟩
 have q1:((s[0].toNat:Int)==34)=false:=by rw[<-HC.out];simp;omega
 have q2:((s[0].toNat:Int)==92)=false:=by rw[<-HC.out];simp;omega
 by_cases h2:c.toNat=110
 ·have HE:Hid (Fx s.data.toList=some (10,1)):=by
   show _=_
   rw[HL.out];unfold Fx;simp only[Pd h1,AAH h2]
  have q3:((s[0].toNat:Int)==110)=true:=by rw[<-HC.out];simp[h2]
  clear h1 h2 h0
  go_enter Tryz.func159,Tryz.ntmps159
  go_wp2
  go_ret3
  exact ⟨_,_,_,rfl,by unfold E9;rw[HE.out];exact ⟨rfl,rfl,rfl⟩,Pe _ _⟩
 have q3:((s[0].toNat:Int)==110)=false:=by rw[<-HC.out];simp;omega
 by_cases h3:c.toNat=120
 case neg =>
  have HE:Hid (Fx s.data.toList=none):=by
   show _=_
   rw[HL.out];unfold Fx;simp only[Pd h1,Pd h2,Pd h3]
  have q4:((s[0].toNat:Int)==120)=false:=by rw[<-HC.out];simp;omega
  clear h1 h2 h3 h0
  go_enter Tryz.func159,Tryz.ntmps159
  go_wp2
  go_ret3
  exact ⟨_,_,_,rfl,by unfold E9;rw[HE.out],Pe _ _⟩
 have q4:((s[0].toNat:Int)==120)=true:=by rw[<-HC.out];simp[h3]
 by_cases h4:s.size<3
 ·have HE:Hid (Fx s.data.toList=none):=by
   show _=_
   have hl:(s.data.toList.drop 1).length<=1:=by
    rw[AAy];have:s.data.toList.length=s.size:=rfl
    omega
   rw[HL.out];unfold Fx;simp only[Pd h1,Pd h2,AAH h3];generalize s.data.toList.drop 1=q at hl
   match q,hl with
   | [],_=>rfl
   | [_],_=>rfl
  have q5:(s.size:Int)<3:=by omega
  clear h1 h2 h3 h0 h4
  go_enter Tryz.func159,Tryz.ntmps159
  go_wp2
  go_ret3
  exact ⟨_,_,_,rfl,by unfold E9;rw[HE.out],Pe _ _⟩
 have k1:1<s.size:=by omega
 have k2:2<s.size:=by omega
 have HL2:Hid (s.data.toList=c::s[1]::s[2]::s.data.toList.drop 3):=by
  exact HL.out.trans (by rw[X5 k1,X5 k2])
 have q5:¬ (s.size:Int)<3:=by omega
 have i1:(1:Int)<(s.size:Int):=by omega
 have i2:(2:Int)<(s.size:Int):=by omega
 have HI1:=zh (iD s[1]);have HI2:=zh (iD s[2]);have HE:Hid (Fx s.data.toList=match Iu s[1],Iu s[2] with
    | some x,some y=>if (16 * x+y<32\/126<16 * x+y)/\16 * x+y≠10 then some (UInt8.ofNat (16 * x+y),3) else none
    | _,_=>none):=by
  refine (congrArg Fx HL2.out).trans ?_;unfold Fx;simp only[Pd h1,Pd h2,AAH h3]
  cases Iu s[1] <;> cases Iu s[2] <;> rfl
 clear h1 h2 h3 h0 h4 HL HL2
 go_enter Tryz.func159,Tryz.ntmps159
 go_upto_region 12 with fail
 go_quiet (first|(go_at_call 76;refine Calls.quiet_of_same (Tryz.strings_IndexByte _ _ _)))
 generalize hv1:Lib.indexByte (ByteArray.mk #[48,49,50,51,52,53,54,55,56,57,97,98,99,100,101,102]).data.toList (((s[1].toNat:Nat):Int).toNat.toUInt8)=v1;generalize hv2:Lib.indexByte (ByteArray.mk #[48,49,50,51,52,53,54,55,56,57,97,98,99,100,101,102]).data.toList (((s[2].toNat:Nat):Int).toNat.toUInt8)=v2;have e1:v1=match Iu s[1] with|some x=>(x:Int)|none => -1:=by rw[<-hv1,byte_back];exact HI1.out
 have e2:v2=match Iu s[2] with|some x=>(x:Int)|none => -1:=by rw[<-hv2,byte_back];exact HI2.out
 clear hv1 hv2 HI1 HI2
 cases hx:Iu s[1] with
 | none =>
  rw[hx] at e1;simp only at e1;have HF:Hid (Fx s.data.toList=none):=by
   refine HE.out.trans ?_;rw[hx]
  have z1:v1<0:=by omega
  clear hx e1 e2 HE HC;go_wp2
  go_ret3
  exact ⟨_,_,_,rfl,by unfold E9;rw[HF.out],zC (Pe _ _) _⟩
 | some x =>
  rw[hx] at e1;simp only at e1;have hx16:=OT hx;have z1:¬ v1<0:=by omega
  cases hy:Iu s[2] with
  | none =>
   rw[hy] at e2;simp only at e2;have HF:Hid (Fx s.data.toList=none):=by
    refine HE.out.trans ?_;rw[hx,hy]
   have z2:v2<0:=by omega
   clear hx hy e1 e2 HE HC;go_wp2
   go_ret3
   exact ⟨_,_,_,rfl,by unfold E9;rw[HF.out],zC (Pe _ _) _⟩
  | some y =>
   rw[hy] at e2;simp only at e2;have ABE:=OT hy;have z2:¬ v2<0:=by omega
   obtain ⟨k,hk⟩:∃k,k=16 * x+y:=⟨_,rfl⟩;have HF:Hid (Fx s.data.toList=if (k<32\/126<k)/\k≠10 then some (UInt8.ofNat k,3) else none):=by
    refine HE.out.trans ?_;rw[hx,hy,hk]
   have AC9:k<256:=by omega
   have w1:IntKind.i64.wrap (16 * v1)=16 * v1:=by rw[IntKind.wrap_i64];omega
   have w2:IntKind.i64.wrap (16 * v1+v2)=(k:Int):=by rw[IntKind.wrap_i64];omega
   have w3:IntKind.u8.wrap (k:Int)=(k:Int):=by rw[IntKind.wrap_u8];omega
   have hb:(UInt8.ofNat k).toNat=k:=by rw[UInt8.toNat_ofNat'];omega
   have HBY:=zh hb;clear hx hy e1 e2 HE HC hb
   by_cases c1:(k:Int)<32
   ·by_cases c3:k=10
    ·have q6:((k:Int) != 10)=false:=by simp[c3]
     go_wp2
     go_ret3
     exact ⟨_,_,_,rfl,by unfold E9;rw[HF.out,Pd (by omega)];simp;omega,zC (Pe _ _) _⟩
    ·have q6:((k:Int) != 10)=true:=by simp;omega
     go_wp2
     go_ret3
     exact ⟨_,_,_,rfl,by unfold E9;rw[HF.out,AAH (by omega)];exact ⟨by simp;omega,by rw[HBY.out];omega,rfl⟩,zC (Pe _ _) _⟩
   ·by_cases c2:(126:Int)<(k:Int)
    ·have q6:((k:Int) != 10)=true:=by simp;omega
     go_wp2
     go_ret3
     exact ⟨_,_,_,rfl,by unfold E9;rw[HF.out,AAH (by omega)];exact ⟨by simp;omega,by rw[HBY.out];omega,rfl⟩,zC (Pe _ _) _⟩
    ·go_wp2
     go_ret3
     exact ⟨_,_,_,rfl,by unfold E9;rw[HF.out,Pd (by omega)],zC (Pe _ _) _⟩
def xJ (c:UInt8):List Value:=[.int .u8 (c.toNat:Int)]
abbrev tJ:=Ab 5 1 xJ
theorem YI:Elem 40 5 1 1:=⟨Tryz.underlying40,⟨.int .u8 0,by kernel_rfl,rfl⟩,by omega⟩
theorem sJ (l:List UInt8):l.flatMap xJ=l.map fun c=>Value.int .u8 (c.toNat:Int):=by
 induction l with
 | nil=>rfl
 | cons a r ih=>rw[ABf,ih];rfl
variable {l:List UInt8} {w:World}
theorem Ri {base:Nat} {v:Value} (h:tJ w base v l):(convert 40 9 v).run Tryz.prog w = .ok (.string (bA l)) w:=by
 obtain ⟨A,c,rfl,_,_,hA⟩:=h.reads
 cases l with
 | nil =>
  cases A with
  | none =>
   show (convert _ _ (.slice none 0 c)).run _ w=_
   rw[run_convert_bytes_string w 40 9 5 none 0 c Tryz.underlying40 (by kernel_rfl) (by kernel_rfl)]
   rfl
  | some a=>exact run_convert_bytes_back (P:=Tryz.prog) w 40 9 5 a c [] Tryz.underlying40 (by kernel_rfl) (by kernel_rfl) fun j hj=>absurd hj (Nat.not_lt_zero _)
 | cons x r =>
  obtain ⟨g,rfl,_,hr⟩:=hA (by simp)
  refine run_convert_bytes_back (P:=Tryz.prog) w 40 9 5 ⟨g,0,none⟩ c (x::r) Tryz.underlying40 (by kernel_rfl) (by kernel_rfl) fun j hj=>?_
  rw[Addr.add_mid];refine hr j _ ?_;rw[sJ,List.getElem?_map,zl hj];rfl
theorem TB {ops:Array Oper} {rest:List Oper} {op:Oper} {a:Act} {Q:Exit->Act->World->Prop} (hgd:op.guard=none) (x:Operand) (ho:op.op = .convert 40 9 x) (base:Nat) (v:Value) (l:List UInt8) (hx:a.eval x=v) (h:tJ w base v l) (hq:wpList Tryz.prog ops Q rest (a.put op.dst (.string (bA l))) w):wpList Tryz.prog ops Q (op::rest) a w:=by
 refine wpList_plain hgd fun K hK=>?_
 have hr:=Ri h;unfold Oper.wp execOp;simp only[ho,hx,Sem.run_bind,Sem.run_pure,Result.andThen_ok,hr];exact hK _ _ hq
def SY (w:World) (l:List UInt8) (e:Ending) (w':World):Prop:=∃ (u:ByteArray) (n:Int) (ok:Bool),e = .returned (.tuple #[.string u,.int .i64 n,.bool ok])/\(match Gn l with
 | some p=>ok=true/\u=bA p.1/\n=((p.2+1:Nat):Int)
 | none=>ok=false)/\Below w.heap.size w w'
variable {w':World}
theorem Le (h:Gn l=none) (hb:Below w.heap.size w w') (u:ByteArray) (n:Int):SY w l (.returned (.tuple #[.string u,.int .i64 n,.bool false])) w':=⟨u,n,false,rfl,by rw[h],hb⟩
variable {n:Int} {o:List UInt8} {k:Nat}
theorem eZ (h:Gn l=some (o,k)) (hb:Below w.heap.size w w') {u:ByteArray} (hu:u=bA o) (hn:n=((k+1:Nat):Int)):SY w l (.returned (.tuple #[.string u,.int .i64 n,.bool true])) w':=⟨u,n,true,rfl,by rw[h];exact ⟨rfl,hu,hn⟩,hb⟩
def GU (L:List UInt8) (k:Nat) (o:List UInt8):Prop:=Gn (L.drop 1)=(Gn (L.drop k)).map fun p=>(o++p.1,p.2+(k - 1))
variable {L:List UInt8}
theorem GU.end_ (h:GU L k o) (hk:L.length<=k):Gn (L.drop 1)=none:=by
 unfold GU at h;rw[ABW hk,Tv] at h;exact h
variable {r:List UInt8} {c:UInt8}
theorem GU.close (h:GU L k o) (h1:1<=k) (hd:L.drop k=c::r) (hc:c.toNat=34):Gn (L.drop 1)=some (o,k):=by
 unfold GU at h;rw[hd,Fz,AAH hc] at h;rw[h]
 show some (o++[],1+(k - 1))=_
 rw[List.append_nil,show 1+(k - 1)=k by omega]
theorem GU.bad (h:GU L k o) (hd:L.drop k=c::r) (hc:c.toNat≠34) (hp:DV (c::r)=none):Gn (L.drop 1)=none:=by
 unfold GU at h;rw[hd,Fz,Pd hc,hp] at h;exact h
theorem GU.step (h:GU L k o) (h1:1<=k) (hd:L.drop k=c::r) (hc:c.toNat≠34) {b:UInt8} {n:Nat} (hp:DV (c::r)=some (b,n)):GU L (k+n) (o++[b]):=by
 unfold GU at h ⊢;rw[hd,Fz,Pd hc,hp] at h;have hd2:(c::r).drop n=L.drop (k+n):=by rw[<-hd,List.drop_drop]
 simp only at h;rw[hd2] at h;rw[h]
 cases Gn (L.drop (k+n)) with
 | none=>rfl
 | some p =>
  show some (o++b::p.1,p.2+n+(k - 1))=some (o++[b]++p.1,p.2+(k+n - 1))
  rw[AAb,show p.2+n+(k - 1)=p.2+(k+n - 1) by omega];rfl
theorem Hu {n:Nat}:(s.extract n s.size).data.toList=s.data.toList.drop n:=by
 rw[Lib.extract_data];rw[List.take_of_length_le];rw[AAy];have:s.data.toList.length=s.size:=rfl
 omega
theorem Vy (s:ByteArray) (hs:s.size<=140737488355328) (h1:0<s.size) (w:World):Calls Tryz.prog 119 #[.string s] w (SY w (s.data.toList.drop 1)):=by
 have Ee:=zh hs;obtain ⟨L1,hL1⟩:∃L1,s.data.toList.drop 1=L1:=⟨_,rfl⟩;rw[hL1];have Sk:=zh hL1;clear hL1
 go_enter Tryz.func119,Tryz.ntmps119
 go_wp2
 go_loopw [5,6] (fun v i wr=>∃ (k:Nat) (o:List UInt8),1<=k/\k<=s.size/\o.length<k/\i = .int .i64 k/\Hid (GU s.data.toList k o/\tJ wr w.heap.size v o/\Below w.heap.size w wr)) (fun _ i _=>s.size - (intOf i).toNat)
 case atStart =>
  refine ⟨1,[],by omega,by omega,by simp,rfl,?_,Ab.nil _ _,Pe _ _⟩
  unfold GU
  cases Gn (s.data.toList.drop 1) <;> rfl
 case round =>
  obtain ⟨k,o,hk1,hk2,hol,rfl,hh⟩:=hrel;have HQ:=zh hh.out.1;have HO:=zh hh.out.2.1;have HB:=zh hh.out.2.2;clear hh;obtain ⟨wo,rfl⟩:∃wo:World,wo=wr:=⟨_,rfl⟩
  by_cases hlt:k<s.size
  case neg =>
   have HN:=zh (Sk.out▸HQ.out.end_ (show s.data.toList.length<=k by have:s.data.toList.length=s.size:=rfl;omega))
   have q0:¬ (k:Int)<(s.size:Int):=by omega
   clear hlt;go_wp2
   go_ret3
   exact Le HN HB _ _
  have g1:(0:Int)<=(k:Int):=by omega
  have g2:(k:Int)<(s.size:Int):=by omega
  have HD:=zh (X5 hlt);obtain ⟨c,hc⟩:∃c,c=s[k]:=⟨_,rfl⟩;rw[<-hc] at HD
  by_cases c1:c.toNat=34
  ·have HN:=zh (Sk.out▸HQ.out.close hk1 HD c1)
   have q1:((s[k].toNat:Int)==34)=true:=by rw[<-hc];simp[c1]
   clear c1 HD;go_wp2_with (refine TB rfl (.tmp 27) rfl w.heap.size _ o rfl HO ?_)
   go_ret3
   exact eZ HN HB rfl (by go_num)
  have q1:((s[k].toNat:Int)==34)=false:=by rw[<-hc];simp;omega
  by_cases c2:c.toNat=92
  ·have q2:((s[k].toNat:Int)==92)=true:=by rw[<-hc];simp[c2]
   have HP:Hid (∀p,Fx (s.data.toList.drop (k+1))=p->DV (c::s.data.toList.drop (k+1))=p.map fun x=>(x.1,x.2+1)):=fun p hp=>by rw[DV,AAH c2,hp]
   have HSE:Hid (Dk (s.extract (k+1) s.size)):=by
    have h:(s.extract (k+1) s.size).size=(s.data.toList.drop (k+1)).length:=by rw[<-Hu];rfl
    show _<=_
    rw[h,AAy];have h2:s.data.toList.length=s.size:=rfl;have:=Ee.out
    omega
   have NU:=zh c1;clear c1 c2;go_wp2_with fail;refine (Ui _ HSE wo).mono ?_;rintro e w5 ⟨b,n,ok,rfl,he,hb⟩;rw[Hu] at he;have Ap:=zh (HB.out.trans (hb.mono HB.out.size));have KU:=zh (HO.out.below hb);clear hb;unfold E9 at he
   cases hes:Fx (s.data.toList.drop (k+1)) with
   | none =>
    rw[hes] at he;simp only at he;subst he;have HN:=zh (Sk.out▸HQ.out.bad HD NU (HP.out _ hes));clear hes HD;go_wp2
    go_ret3
    exact Le HN Ap _ _
   | some p =>
    obtain ⟨b',n'⟩:=p;rw[hes] at he;obtain ⟨rfl,rfl,rfl⟩:=he;have hle:=YH hes;rw[AAy] at hle;have h2:s.data.toList.length=s.size:=rfl;rw[h2] at hle;have HN:=zh (HQ.out.step hk1 HD NU (HP.out _ hes));have LM:=zh (Ab.alloc KU (.cells #[.int .u8 (b'.toNat:Int)] 5))
    have Po:Hid ((w5.alloc (.cells #[.int .u8 (b'.toNat:Int)] 5)).rangeAt w5.heap.size 0 [.int .u8 (b'.toNat:Int)]):=zR w5 [.int .u8 (b'.toNat:Int)] 5;have MU:Hid (w.heap.size<=(w5.alloc (.cells #[.int .u8 (b'.toNat:Int)] 5)).heap.size):=by have:=Ap.out.size;show _<=_;simp;omega
    clear hes HD h2;go_wp2_with (at_builtin;refine yG YI _ rfl (.tmp 45) (.tmp 47) rfl w.heap.size _ _ _ rfl LM w5.heap.size 0 1 1 [.int .u8 (b'.toNat:Int)] rfl rfl Po (by simp[Value.oneCell']) (by have:=Ee.out;omega) (by have:=Ee.out;omega) MU ?_;intro v8 w8 BI BB)
    go_roundw
    case rel=>exact ⟨k+(n'+1),o++[b'],by omega,by omega,by simp;omega,by go_num,HN.out,Ab.snoc BI,(Ap.out.alloc Ap.out.size _).grown BB MU LM.out.lt⟩
    case measure=>simp[intOf];omega
  have q2:((s[k].toNat:Int)==92)=false:=by rw[<-hc];simp;omega
  by_cases c3:c.toNat<32\/126<c.toNat
  ·have HN:=zh (Sk.out▸HQ.out.bad HD c1 (by rw[DV,Pd c2,AAH c3]))
   have hD:(s[k].toNat:Int)<32\/(¬ (s[k].toNat:Int)<32/\(126:Int)<(s[k].toNat:Int)):=by rw[<-hc];omega
   clear c1 c2 c3 HD
   rcases hD with p1|⟨p1,p2⟩
   ·go_wp2
    go_ret3
    exact Le HN HB _ _
   ·go_wp2
    go_ret3
    exact Le HN HB _ _
  ·have p1:¬ (s[k].toNat:Int)<32:=by rw[<-hc];omega
   have p2:¬ (126:Int)<(s[k].toNat:Int):=by rw[<-hc];omega
   have HN:=zh (HQ.out.step hk1 HD c1 (show DV (c::s.data.toList.drop (k+1))=some (c,1) by rw[DV,Pd c2,Pd c3]))
   have LM:=zh (Ab.alloc HO (.cells #[.int .u8 (s[k].toNat:Int)] 5));have Po:Hid ((wo.alloc (.cells #[.int .u8 (s[k].toNat:Int)] 5)).rangeAt wo.heap.size 0 [.int .u8 (s[k].toNat:Int)]):=zR wo [.int .u8 (s[k].toNat:Int)] 5;have MU:Hid (w.heap.size<=(wo.alloc (.cells #[.int .u8 (s[k].toNat:Int)] 5)).heap.size):=by have:=HB.out.size;show _<=_;simp;omega
   have Ip:=zh hc;clear c1 c2 c3 HD;go_wp2_with (at_builtin;refine yG YI _ rfl (.tmp 18) (.tmp 20) rfl w.heap.size _ _ _ rfl LM wo.heap.size 0 1 1 [.int .u8 (s[k].toNat:Int)] rfl rfl Po (by simp[Value.oneCell']) (by have:=Ee.out;omega) (by have:=Ee.out;omega) MU ?_;intro v8 w8 BI BB)
   go_roundw
   case rel=>exact ⟨k+1,o++[c],by omega,by omega,by simp;omega,by go_num,HN.out,Ab.snoc (by rw[Ip.out];exact BI),(HB.out.alloc HB.out.size _).grown BB MU LM.out.lt⟩
   case measure=>simp[intOf];omega
structure KZ (w:World):Prop where
 tab : Lib.TabIs Tryz.prog w "internal/strconv.uint64pow10" .u64 Lib.pow10Tab
 syn:∃t p,w.cell? ⟨5,0,none⟩=some (.iface t p)
 rng:∃t p,w.cell? ⟨6,0,none⟩=some (.iface t p)
theorem KZ.below (h:KZ w) (hb:Below w.heap.size w w'):KZ w':=by
 obtain ⟨t,p,hs⟩:=h.syn;obtain ⟨t',p',hr⟩:=h.rng;exact ⟨Lib.tabBelow_of_tabIs h.tab w' hb,⟨t,p,zA hb hs⟩,⟨t',p',zA hb hr⟩⟩
theorem Ud (n:Int) (hn:In64 n) (w:World) (ht:KZ w) :
  Calls Tryz.prog 55 #[.int .i64 n,.int .i64 10] w fun e w'=>e = .returned (.string (bA (Lib.itoa n)))/\Below w.heap.size w w' :=
 (Tryz.strconv_FormatInt_10 n hn.1 hn.2 w ht.tab).mono fun e w' ⟨he,k,os,hw⟩=>⟨he,by subst hw;exact Lib.below_grow _ _ (AAP _) _ _⟩
def tK (w:World) (T:List UInt8) (e:Ending) (w':World):Prop:=∃ (v n:Int) (ok:Bool),e = .returned (.tuple #[.int .i64 v,.int .i64 n,.bool ok])/\n=(T.length:Int)/\(match Hq T with
 | some x=>ok=true/\v=x
 | none=>ok=false)/\Below w.heap.size w w'
theorem PY {n:Nat}:(s.extract 0 n).data.toList=s.data.toList.take n:=by
 rw[Lib.extract_data];simp
theorem Z4 {a:ByteArray}:bA l=a↔l=a.data.toList:=by
 constructor
 ·rintro rfl;rfl
 ·rintro rfl;rfl
theorem Xw (v:Int) {a:ByteArray} {T:List UInt8} (h:a.data.toList=T):match if Lib.itoa v=T then some v else none with
 | some x=>((bA (Lib.itoa v)).toList==a.toList)=true/\v=x
 | none=>((bA (Lib.itoa v)).toList==a.toList)=false:=by
 rw[Lib.toList_data,Lib.toList_data,h]
 by_cases e:Lib.itoa v=T
 ·rw[AAH e]
  exact ⟨by rw[show (bA (Lib.itoa v)).data.toList=Lib.itoa v from rfl,e];simp,rfl⟩
 ·rw[Pd e]
  show (Lib.itoa v==T)=false
  simp[e]
theorem O7 (s:ByteArray) (hs:s.size<=140737488355328) (h1:0<s.size) (w:World) (hE:KZ w):Calls Tryz.prog 118 #[.string s] w (tK w (s.data.toList.take (1+Du (s.data.toList.drop 1)))):=by
 have Ee:=zh hs;have HE:=zh hE;obtain ⟨T,hT⟩:∃T,s.data.toList.take (1+Du (s.data.toList.drop 1))=T:=⟨_,rfl⟩;rw[hT];have HT:=zh hT;clear hT hE;have hsl:s.data.toList.length=s.size:=rfl;have HAT:Hid (∀k,1<=k->k<=s.size->(∀j (hj:j<s.size),1<=j->j<k->zZ s[j]=true)->(∀h:k<s.size,zZ s[k]=false)->s.data.toList.take k=T):=fun k hk1 hk2 ha hb=>by
  rw[<-HT.out];have:=iO (l:=s.data.toList.drop 1) (n:=k - 1) (by rw[AAy];omega) (fun i hi hik=>by
   rw[List.getElem_drop];exact ha (1+i) (by rw[AAy] at hi;omega) (by omega) (by omega)) (fun h=>by
   rw[List.getElem_drop];have e:1+(k - 1)=k:=by omega
   have h2:k<s.size:=by rw[AAy] at h;omega
   have:=hb h2;simp only[e];exact this)
  rw[this,show 1+(k - 1)=k by omega]
 clear hsl
 go_enter Tryz.func118,Tryz.ntmps118
 go_wp2
 go_loopw [5] (fun i wr=>∃k:Nat,1<=k/\k<=s.size/\i = .int .i64 k/\wr=w/\Hid (∀j (hj:j<s.size),1<=j->j<k->zZ s[j]=true)) (fun i _=>s.size - (intOf i).toNat)
 case atStart=>exact ⟨1,by omega,by omega,rfl,rfl,fun j _ h1 h2=>absurd h1 (by omega)⟩
 case round =>
  obtain ⟨k,hk1,hk2,rfl,rfl,hh⟩:=hrel;have g1:(0:Int)<=(k:Int):=by omega
  by_cases hlt:k<s.size
  ·have g2:(k:Int)<(s.size:Int):=by omega
   cases hd:Hw (s[k].toNat:Int) with
   | true =>
    have HD:=zh hd;have HN:Hid (∀j (hj:j<s.size),1<=j->j<k+1->zZ s[j]=true):=fun j hj h1 h2=>by
     by_cases e:j=k
     ·subst e;exact hd
     ·exact hh.out j hj h1 (by omega)
    clear hd hh;go_wp2_with (go_at_call 117;refine (BR _ _).mono ?_;rintro e w' ⟨rfl,rfl⟩;rw[HD.out]);go_roundw
    case rel=>exact ⟨k+1,by omega,by omega,by go_num,trivial,HN.out⟩
    case measure=>simp[intOf];omega
   | false =>
    have HD:=zh hd;have HK:=zh (HAT.out k hk1 hk2 hh fun _=>hd)
    clear hd hh;go_wp2_with (go_at_call 117;refine (BR _ _).mono ?_;rintro e w' ⟨rfl,rfl⟩;rw[HD.out]);have HX:Hid ((s.extract 0 k).data.toList=T):=by show _=_;rw[PY];exact HK.out
    have oO:Hid (T.length=k):=by show _=_;rw[<-HK.out,List.length_take];(have:s.data.toList.length=s.size:=rfl);omega
    have h0:(s.extract 0 k).size=T.length:=by rw[<-HX.out];rfl
    have wZ:(s.extract 0 k).size<=140737488355328:=by rw[h0,oO.out];have:=Ee.out;omega
    have uw:=zh wZ;clear wZ h0
    rcases hp:Lib.parseIntB 64 (s.extract 0 k).data.toList with v|_|_
    ·
     have hvb:=Lib.parseIntB_bounds hp;have e2:(2 ^ (64 - 1):Nat)=9223372036854775808:=by decide
     rw[e2] at hvb;have HV:Hid (In64 v):=⟨by omega,by omega⟩
     have HI:Hid (Hq T=if Lib.itoa v=T then some v else none):=by show _=_;rw[<-HX.out];unfold Hq;rw[hp]
     refine (Tryz.strconv_ParseInt_10_at64_ok _ (by have:=uw.out;omega) v hp _).mono ?_
     rintro e w5 ⟨rfl,wT⟩;have Ap:Hid (Below wr.heap.size wr w5):=by
      show Below _ _ _
      rcases wT with rfl|⟨t,rfl⟩
      ·exact Pe _ _
      ·exact Lib.bytesWorld_below _ _ _
     have HE5:=zh (HE.out.below Ap);clear wT hp hvb e2;go_wp2_with fail;refine wp_region_held_drew (S:=(fun w'=>Hid (KZ w')/\Hid (Below wr.heap.size wr w'))) (by kernel_rfl) ?_ (fun AQ=>?_)
     ·(try dsimp only);exact ⟨HE5.out.below (zC (Pe _ _) 1),zC Ap 1⟩
     refine tL 0 ?_;refine tL 1 ?_;refine tL 2 ?_;refine tL 3 ?_;refine tL 4 ?_;refine tL 5 ?_;try simp only[ps]
     refine tL 7 ?_;refine tL 8 ?_;refine tL 9 ?_;refine tR 6 (fun K hK=>?_)
     go_simp
     (refine (Ud v HV _ AQ.1.out).mono ?_;rintro e w6 ⟨rfl,hb6⟩;have BH:=zh (zB AQ.2.out hb6);have HE6:=zh (AQ.1.out.below hb6);clear hb6)
     refine hK.out _ _ ?_ (fun AQ=>?_)
     ·(try dsimp only);exact ⟨HE6.out,BH.out⟩
     clear hK K;refine tL 10 ?_;refine tL 11 ?_;try simp only[ps]
     refine tL 12 ?_;refine tL 13 ?_;refine tL 14 ?_;refine wpAnyH_done (by kernel_rfl) ?_ _
     go_wp2
     go_ret3
     refine ⟨_,_,_,rfl,by rw[oO.out],?_,AQ.2.out⟩
     rw[HI.out];exact Xw v HX
    ·
     have HI:Hid (Hq T=none):=by show _=_;rw[<-HX.out];unfold Hq;rw[hp]
     obtain ⟨t,p,hv⟩:=HE.out.syn;refine (Tryz.strconv_ParseInt_10_at64_syntax _ (by have:=uw.out;omega) hp (.iface t p) _ hv (Or.inr ⟨t,p,rfl⟩)).mono ?_
     rintro e w5 ⟨N,rfl,_,_,hb5⟩;have Ap:=zh hb5;clear hp hv hb5;go_wp2_with fail
     go_quiet (fail)
     go_wp2
     go_ret3
     exact ⟨_,_,_,rfl,by rw[oO.out],by rw[HI.out],zC Ap _⟩
    ·
     have HI:Hid (Hq T=none):=by show _=_;rw[<-HX.out];unfold Hq;rw[hp]
     obtain ⟨t,p,hv⟩:=HE.out.rng;refine (Tryz.strconv_ParseInt_10_at64_range _ (by have:=uw.out;omega) hp (.iface t p) _ hv (Or.inr ⟨t,p,rfl⟩)).mono ?_
     rintro e w5 ⟨N,rfl,_,_,hb5⟩;have Ap:=zh hb5;clear hp hv hb5;go_wp2_with fail
     go_quiet (fail)
     go_wp2
     go_ret3
     exact ⟨_,_,_,rfl,by rw[oO.out],by rw[HI.out],zC Ap _⟩
  ·have HK:=zh (HAT.out k hk1 hk2 hh fun h=>absurd h hlt)
   have g2:¬ (k:Int)<(s.size:Int):=by omega
   clear hh;go_wp2_with fail;have HX:Hid ((s.extract 0 k).data.toList=T):=by show _=_;rw[PY];exact HK.out
   have oO:Hid (T.length=k):=by show _=_;rw[<-HK.out,List.length_take];(have:s.data.toList.length=s.size:=rfl);omega
   have h0:(s.extract 0 k).size=T.length:=by rw[<-HX.out];rfl
   have wZ:(s.extract 0 k).size<=140737488355328:=by rw[h0,oO.out];have:=Ee.out;omega
   have uw:=zh wZ;clear wZ h0
   rcases hp:Lib.parseIntB 64 (s.extract 0 k).data.toList with v|_|_
   ·
    have hvb:=Lib.parseIntB_bounds hp;have e2:(2 ^ (64 - 1):Nat)=9223372036854775808:=by decide
    rw[e2] at hvb;have HV:Hid (In64 v):=⟨by omega,by omega⟩
    have HI:Hid (Hq T=if Lib.itoa v=T then some v else none):=by show _=_;rw[<-HX.out];unfold Hq;rw[hp]
    refine (Tryz.strconv_ParseInt_10_at64_ok _ (by have:=uw.out;omega) v hp _).mono ?_
    rintro e w5 ⟨rfl,wT⟩;have Ap:Hid (Below wr.heap.size wr w5):=by
     show Below _ _ _
     rcases wT with rfl|⟨t,rfl⟩
     ·exact Pe _ _
     ·exact Lib.bytesWorld_below _ _ _
    have HE5:=zh (HE.out.below Ap);clear wT hp hvb e2;go_wp2_with fail;refine wp_region_held_drew (S:=(fun w'=>Hid (KZ w')/\Hid (Below wr.heap.size wr w'))) (by kernel_rfl) ?_ (fun AQ=>?_)
    ·(try dsimp only);exact ⟨HE5.out.below (zC (Pe _ _) 1),zC Ap 1⟩
    refine tL 0 ?_;refine tL 1 ?_;refine tL 2 ?_;try simp only[ps]
    refine tL 3 ?_;refine tL 4 ?_;refine tL 5 ?_;refine tL 7 ?_;refine tL 8 ?_;refine tL 9 ?_;try simp only[ps]
    refine tR 6 (fun K hK=>?_)
    go_simp
    (refine (Ud v HV _ AQ.1.out).mono ?_;rintro e w6 ⟨rfl,hb6⟩;have BH:=zh (zB AQ.2.out hb6);have HE6:=zh (AQ.1.out.below hb6);clear hb6)
    refine hK.out _ _ ?_ (fun AQ=>?_)
    ·(try dsimp only);exact ⟨HE6.out,BH.out⟩
    clear hK K;refine tL 10 ?_;refine tL 11 ?_;refine tL 12 ?_;refine tL 13 ?_;refine tL 14 ?_;try simp only[ps]
    refine wpAnyH_done (by kernel_rfl) ?_ _
    go_wp2
    go_ret3
    refine ⟨_,_,_,rfl,by rw[oO.out],?_,AQ.2.out⟩
    rw[HI.out];exact Xw v HX
   ·
    have HI:Hid (Hq T=none):=by show _=_;rw[<-HX.out];unfold Hq;rw[hp]
    obtain ⟨t,p,hv⟩:=HE.out.syn;refine (Tryz.strconv_ParseInt_10_at64_syntax _ (by have:=uw.out;omega) hp (.iface t p) _ hv (Or.inr ⟨t,p,rfl⟩)).mono ?_
    rintro e w5 ⟨N,rfl,_,_,hb5⟩;have Ap:=zh hb5;clear hp hv hb5;go_wp2_with fail
    go_quiet (fail)
    go_wp2
    go_ret3
    exact ⟨_,_,_,rfl,by rw[oO.out],by rw[HI.out],zC Ap _⟩
   ·
    have HI:Hid (Hq T=none):=by show _=_;rw[<-HX.out];unfold Hq;rw[hp]
    obtain ⟨t,p,hv⟩:=HE.out.rng;refine (Tryz.strconv_ParseInt_10_at64_range _ (by have:=uw.out;omega) hp (.iface t p) _ hv (Or.inr ⟨t,p,rfl⟩)).mono ?_
    rintro e w5 ⟨N,rfl,_,_,hb5⟩;have Ap:=zh hb5;clear hp hv hb5;go_wp2_with fail
    go_quiet (fail)
    go_wp2
    go_ret3
    exact ⟨_,_,_,rfl,by rw[oO.out],by rw[HI.out],zC Ap _⟩
def oJ {α:Type} (p:α->Bool) (l:List α) (i:Int):Prop:=(i = -1/\∀j (h:j<l.length),p l[j]=false)\/∃ (k:Nat) (h:k<l.length),i=(k:Int)/\p l[k]=true/\∀j (hj:j<l.length),j<k->p l[j]=false
def preB (s x:ByteArray):Bool:=Lib.hasPrefix s.data.toList x.data.toList
theorem TQ (s:ByteArray) (q:Nat) (x:ByteArray) (w:World) (hq:w.cell? ⟨q,0,none⟩=some (.string s)) :
  Calls Tryz.prog 121 #[.string x,.pointer (some ⟨q,0,none⟩)] w fun e w'=>e = .returned (.bool (preB s x))/\Below w.heap.size w w':=by
 have hlt:=zL hq;simp only at hlt;have HP:Hid (Lib.hasPrefix s.data.toList x.data.toList=preB s x):=rfl
 go_enter Tryz.func121,Tryz.ntmps121
 go_wp2_with (go_at_call 75;refine (Tryz.strings_HasPrefix s x _).mono ?_;rintro e w' ⟨rfl,rfl⟩;rw[HP.out])
 go_ret
 exact ⟨rfl,Pe _ _⟩
theorem GJ (s:ByteArray) (q:Nat) (l:List ByteArray) (A:zo) (c:Nat) (w:World) (hl:MK w A l) (hq:w.cell? ⟨q,0,none⟩=some (.string s)) :
  Calls Tryz.prog 120 #[.slice A l.length c,.func (.func 121) #[] #[.pointer (some ⟨q,0,none⟩)]] w fun e w'=>∃i,e = .returned (.int .i64 i)/\oJ (preB s) l i/\Below w.heap.size w w':=by
 have hln:=hl.1;unfold EK at hln;have HL:=zh hl;have HQ:=zh hq;clear hl hq
 go_enter Tryz.func120,Tryz.ntmps120
 go_wp2
 go_loopw [8] (fun i wr=>∃k:Nat,k<=l.length/\i = .int .i64 (k:Int)/\Hid ((∀j (h:j<l.length),j<k->preB s l[j]=false)/\Below w.heap.size w wr)) (fun i _=>l.length - (intOf i).toNat)
 case atStart=>exact ⟨0,by omega,rfl,(fun j _ h=>absurd h (by omega)),Pe _ _⟩
 case round =>
  obtain ⟨k,hk,rfl,hh⟩:=hrel
  by_cases hlt:k<l.length
  ·obtain ⟨b,o,rfl,hr1,a0⟩:=(HL.out.below hh.out.2).aj hlt
   clear hr1;have h1:(0:Int)<=(k:Int):=by omega
   have h2:(k:Int)<(l.length:Int):=by omega
   cases he:preB s l[k] with
   | true =>
    have HD:=zh he;have HI:Hid (oJ (preB s) l (k:Int)):=Or.inr ⟨k,hlt,rfl,he,hh.out.1⟩;clear he;go_wp2_with (go_at_call 121;refine (TQ s q l[k] _ (zA hh.out.2 HQ)).mono ?_;rintro e w2 ⟨rfl,hb2⟩;rw[HD.out]);go_ret;exact ⟨_,rfl,HI.out,zB hh.out.2 hb2⟩
   | false =>
    have HD:=zh he;have HN:Hid (∀j (h:j<l.length),j<k+1->preB s l[j]=false):=fun j h hj=>by
     by_cases e:j=k
     ·subst e;exact he
     ·exact hh.out.1 j h (by omega)
    clear he;go_wp2_with (go_at_call 121;refine (TQ s q l[k] _ (zA hh.out.2 HQ)).mono ?_;rintro e w2 ⟨rfl,hb2⟩;rw[HD.out]);go_roundw
    case rel=>exact ⟨k+1,by omega,by go_num,HN.out,zB hh.out.2 hb2⟩
    case measure=>simp[intOf];omega
  ·have HI:Hid (oJ (preB s) l (-1)):=Or.inl ⟨rfl,fun j h=>hh.out.1 j h (by omega)⟩
   go_wp2
   go_ret
   exact ⟨_,rfl,HI.out,hh.out.2⟩
theorem Na {g:Nat} {o:Obj} (h:w.heap[g]? = some o) (hb:Below w.heap.size w w'):w'.heap[g]? = some o:=(hb.block _ (zg.1 h).1).trans h
def Dn (w:World) (L:List UInt8) (e:Ending) (w':World):Prop:=∃ (u:AJ) (n:Int) (ok:Bool),e = .returned (.tuple #[.agg (Wi u).toArray,.int .i64 n,.bool ok])/\(match DR L with
 | some p=>ok=true/\u=p.1/\n=(p.2:Int)
 | none=>ok=false)/\Below w.heap.size w w'
variable {ok:Bool}
theorem OI {u:AJ} (h:DR L=some (u,k)) (hb:Below w.heap.size w w') {cs:Array Value} (hc:cs=(Wi u).toArray) (hn:n=(k:Int)) (hk:ok=true):Dn w L (.returned (.tuple #[.agg cs,.int .i64 n,.bool ok])) w' :=
 ⟨u,n,ok,by rw[hc],by rw[h];exact ⟨hk,rfl,hn⟩,hb⟩
theorem Jo (h:DR L=none) (hb:Below w.heap.size w w') (u:AJ) {cs:Array Value} (hc:cs=(Wi u).toArray) (hk:ok=false):Dn w L (.returned (.tuple #[.agg cs,.int .i64 n,.bool ok])) w' :=
 ⟨u,n,ok,by rw[hc],by rw[h];exact hk,hb⟩
theorem TD (hL:s.data.toList=L) (h0:L=c::r) (hc:Ho (c.toNat:Int)=true) (hk:GI L=k) (hb:Below w.heap.size w w'):
  Dn w L (.returned (.tuple #[.agg #[.int .i64 1,.string (s.extract 0 k),.int .i64 0,.string ⟨#[]⟩,.int .i64 0],.int .i64 k,.bool (decide ((k:Int)<=24))])) w':=by
 have e:bA (L.take k)=s.extract 0 k:=Z4.2 (by rw[PY,hL])
 have ht:DR L=if k<=24 then some (⟨1,bA (L.take k),0,⟨#[]⟩,0⟩,k) else none:=by
  rw[<-hk];subst h0;rw[DR,AAH (show Ba c=true from hc)]
 by_cases h:k<=24
 ·rw[AAH h] at ht
  exact OI ht hb (by rw[e];rfl) rfl (AAT (by omega))
 ·rw[Pd h] at ht
  exact Jo ht hb ⟨1,s.extract 0 k,0,⟨#[]⟩,0⟩ rfl (AAZ (by omega))
theorem dD (s:ByteArray) (hs:s.size<=140737488355328) (h1:0<s.size) (hl:Ho (s[0].toNat:Int)=true) (w:World):Calls Tryz.prog 77 #[.string s] w (Dn w s.data.toList):=by
 have Ee:=zh hs;have HL:=zh hl;have Gc:=zh (Ij h1);obtain ⟨L,hL⟩:∃L,s.data.toList=L:=⟨_,rfl⟩;have RL:=zh hL;rw[hL];rw[hL] at Gc;have HAT:Hid (∀k,1<=k->k<=s.size->(∀j (hj:j<s.size),j<k->jb s[j]=true)->(∀h:k<s.size,jb s[k]=false)->GI L=k):=fun k hk1 hk2 ha hb=>by
  refine gN (by rw[<-RL.out];exact hk2) (fun i hi hik=>?_) fun h=>?_
  ·have h2:i<s.size:=by rw[<-RL.out] at hi;exact hi
   have:=ha i h2 hik;have e:L[i]=s[i]:=by simp only[<-RL.out];rfl
   rw[e];exact this
  ·have h2:k<s.size:=by rw[<-RL.out] at h;exact h
   have:=hb h2;have e:L[k]=s[k]:=by simp only[<-RL.out];rfl
   rw[e];exact this
 clear hL hl;obtain ⟨HB1,HX0,EH⟩:=zy w (.cells #[.string s] 9) (.cells #[.int .i64 0,.string ⟨#[]⟩,.int .i64 0,.string ⟨#[]⟩,.int .i64 0] 59)
 go_enter Tryz.func77,Tryz.ntmps77
 go_upto_region 1 with fail
 generalize (w.alloc (.cells #[.string s] 9)).alloc (.cells #[.int .i64 0,.string ⟨#[]⟩,.int .i64 0,.string ⟨#[]⟩,.int .i64 0] 59)=W1 at *;have x0:W1.cell? ⟨w.heap.size,0,none⟩=some (.string s):=by rw[AAN _ _ _ _ _ _ HX0.out];rfl
 go_wp2_with (go_at_call 116;refine (yI _ _).mono ?_;rintro e w' ⟨rfl,rfl⟩;rw[HL.out])
 have ABk:=zh x0;clear x0
 go_loopw [5] (fun i wr=>∃k:Nat,1<=k/\k<=s.size/\i = .int .i64 k/\Hid (wr=W1/\∀j (hj:j<s.size),j<k->jb s[j]=true)) (fun i _=>s.size - (intOf i).toNat)
 case atStart=>exact ⟨1,by omega,by omega,rfl,rfl,fun j hj h=>by
  obtain rfl:j=0:=by omega
  unfold jb;rw[HL.out];rfl⟩
 case round =>
  obtain ⟨k,hk1,hk2,rfl,hh⟩:=hrel;obtain ⟨hw,hcc⟩:=hh.out;have HC:=zh hcc;clear hh hcc;subst hw;have x0:=ABk.out;have g1:(0:Int)<=(k:Int):=by omega
  by_cases hlt:k<s.size
  ·have g2:(k:Int)<(s.size:Int):=by omega
   cases hd:Ho (s[k].toNat:Int) with
   | true =>
    have HD:=zh hd;have HN:Hid (∀j (hj:j<s.size),j<k+1->jb s[j]=true):=fun j hj h2=>by
     by_cases e:j=k
     ·subst e;unfold jb;rw[hd];rfl
     ·exact HC.out j hj (by omega)
    clear hd;go_wp2_with (go_at_call 116;refine (yI _ _).mono ?_;rintro e w' ⟨rfl,rfl⟩;rw[HD.out]);go_roundw
    case rel=>exact ⟨k+1,by omega,by omega,by go_num,trivial,HN.out⟩
    case measure=>simp[intOf];omega
   | false =>
    have HD:=zh hd;clear hd
    cases hd2:Hw (s[k].toNat:Int) with
    | true =>
     have HD2:=zh hd2;have HN:Hid (∀j (hj:j<s.size),j<k+1->jb s[j]=true):=fun j hj h2=>by
      by_cases e:j=k
      ·subst e;unfold jb;rw[HD.out,hd2];rfl
      ·exact HC.out j hj (by omega)
     clear hd2;go_wp2_with (first|(go_at_call 116;refine (yI _ _).mono ?_;rintro e w' ⟨rfl,rfl⟩;rw[HD.out])|(go_at_call 117;refine (BR _ _).mono ?_;rintro e w' ⟨rfl,rfl⟩;rw[HD2.out]));go_roundw
     case rel=>exact ⟨k+1,by omega,by omega,by go_num,trivial,HN.out⟩
     case measure=>simp[intOf];omega
    | false =>
     have HD2:=zh hd2;have t0:wr.cell? ⟨w.heap.size+1,0,none⟩=some (.int .i64 0):=by rw[AAN _ _ _ _ _ _ EH.out];rfl
     have t1:wr.cell? ⟨w.heap.size+1,1,none⟩=some (.string ⟨#[]⟩):=by rw[AAN _ _ _ _ _ _ EH.out];rfl
     have t2:wr.cell? ⟨w.heap.size+1,2,none⟩=some (.int .i64 0):=by rw[AAN _ _ _ _ _ _ EH.out];rfl
     have t3:wr.cell? ⟨w.heap.size+1,3,none⟩=some (.string ⟨#[]⟩):=by rw[AAN _ _ _ _ _ _ EH.out];rfl
     have t4:wr.cell? ⟨w.heap.size+1,4,none⟩=some (.int .i64 0):=by rw[AAN _ _ _ _ _ _ EH.out];rfl
     have f0:=AAR _ _ 0 _ _ EH;have f1:=AAR _ _ 1 _ _ EH;have f2:=AAR _ _ 2 _ _ EH;have f3:=AAR _ _ 3 _ _ EH;have f4:=AAR _ _ 4 _ _ EH;have HK:=zh (HAT.out k hk1 hk2 HC fun _=>by unfold jb;rw[HD.out,hd2];rfl)
     clear hd2;go_wp2_with (first|(go_at_call 116;refine (yI _ _).mono ?_;rintro e w' ⟨rfl,rfl⟩;rw[HD.out])|(go_at_call 117;refine (BR _ _).mono ?_;rintro e w' ⟨rfl,rfl⟩;rw[HD2.out]))
     refine bodyPost_ret (v := .tuple #[.agg #[.int .i64 1,.string (s.extract 0 k),.int .i64 0,.string ⟨#[]⟩,.int .i64 0],.int .i64 k,.bool (decide ((k:Int)<=24))]) (by simp[results,Tryz.results77,go_sem,t0,t1,t2,t3,t4]) rfl ?_
     exact TD RL Gc HL HK (((((HB1.out.setCell (p:=⟨w.heap.size+1,0,none⟩) (by simp) _).setCell (p:=⟨w.heap.size+1,1,none⟩) (by simp) _).setCell (p:=⟨w.heap.size+1,2,none⟩) (by simp) _).setCell (p:=⟨w.heap.size+1,3,none⟩) (by simp) _).setCell (p:=⟨w.heap.size+1,4,none⟩) (by simp) _)
  ·have HK:=zh (HAT.out k hk1 hk2 HC fun h=>absurd h hlt)
   have g2:¬ (k:Int)<(s.size:Int):=by omega
   have t0:wr.cell? ⟨w.heap.size+1,0,none⟩=some (.int .i64 0):=by rw[AAN _ _ _ _ _ _ EH.out];rfl
   have t1:wr.cell? ⟨w.heap.size+1,1,none⟩=some (.string ⟨#[]⟩):=by rw[AAN _ _ _ _ _ _ EH.out];rfl
   have t2:wr.cell? ⟨w.heap.size+1,2,none⟩=some (.int .i64 0):=by rw[AAN _ _ _ _ _ _ EH.out];rfl
   have t3:wr.cell? ⟨w.heap.size+1,3,none⟩=some (.string ⟨#[]⟩):=by rw[AAN _ _ _ _ _ _ EH.out];rfl
   have t4:wr.cell? ⟨w.heap.size+1,4,none⟩=some (.int .i64 0):=by rw[AAN _ _ _ _ _ _ EH.out];rfl
   have f0:=AAR _ _ 0 _ _ EH;have f1:=AAR _ _ 1 _ _ EH;have f2:=AAR _ _ 2 _ _ EH;have f3:=AAR _ _ 3 _ _ EH;have f4:=AAR _ _ 4 _ _ EH;go_wp2
   refine bodyPost_ret (v := .tuple #[.agg #[.int .i64 1,.string (s.extract 0 k),.int .i64 0,.string ⟨#[]⟩,.int .i64 0],.int .i64 k,.bool (decide ((k:Int)<=24))]) (by simp[results,Tryz.results77,go_sem,t0,t1,t2,t3,t4]) rfl ?_
   exact TD RL Gc HL HK (((((HB1.out.setCell (p:=⟨w.heap.size+1,0,none⟩) (by simp) _).setCell (p:=⟨w.heap.size+1,1,none⟩) (by simp) _).setCell (p:=⟨w.heap.size+1,2,none⟩) (by simp) _).setCell (p:=⟨w.heap.size+1,3,none⟩) (by simp) _).setCell (p:=⟨w.heap.size+1,4,none⟩) (by simp) _)
theorem Xv (h0:L=c::r) (hl:Ba c=false) (hd:(zZ c||(decide (c.toNat=45)&&zZ (r.headD 0)))=true) (hb:Below w.heap.size w w') {v:Int} (hn:n=((L.take (1+Du (L.drop 1))).length:Int)) (hi:match Hq (L.take (1+Du (L.drop 1))) with
 | some x=>ok=true/\v=x
 | none=>ok=false):Dn w L (.returned (.tuple #[.agg #[.int .i64 2,.string ⟨#[]⟩,.int .i64 v,.string ⟨#[]⟩,.int .i64 0],.int .i64 n,.bool ok])) w':=by
 subst h0;have hk:=MC r;have ht:DR (c::r)=(Hq ((c::r).take (1+Du r))).map fun v=>(⟨2,⟨#[]⟩,v,⟨#[]⟩,0⟩,1+Du r):=by
  rw[DR,Pd (by rw[hl];simp),AAH hd]
 rw[List.drop_one,List.tail_cons] at hn hi;have hlen:((c::r).take (1+Du r)).length=1+Du r:=by rw[List.length_take,AAS];omega
 rw[hlen] at hn
 cases hx:Hq ((c::r).take (1+Du r)) with
 | none =>
  rw[hx] at hi ht;exact Jo ht hb ⟨2,⟨#[]⟩,v,⟨#[]⟩,0⟩ rfl hi
 | some x =>
  rw[hx] at hi ht;obtain ⟨h1,rfl⟩:=hi;exact OI ht hb rfl hn h1
theorem lJ (h0:L=c::r) (hc:c.toNat=34) (hb:Below w.heap.size w w') {u:ByteArray} (hi:match Gn (L.drop 1) with
 | some p=>ok=true/\u=bA p.1/\n=((p.2+1:Nat):Int)
 | none=>ok=false):Dn w L (.returned (.tuple #[.agg #[.int .i64 3,.string ⟨#[]⟩,.int .i64 0,.string u,.int .i64 0],.int .i64 n,.bool ok])) w':=by
 subst h0;have ht:DR (c::r)=(Gn r).map fun p=>(⟨3,⟨#[]⟩,0,bA p.1,0⟩,p.2+1):=by
  have e1:Ba c=false:=by
   cases h:Ba c with
   | false=>rfl
   | true=>unfold Ba Ho at h;rw[hc] at h;exact absurd h (by decide)
  have e2:zZ c=false:=by
   cases h:zZ c with
   | false=>rfl
   | true=>unfold zZ Hw at h;rw[hc] at h;exact absurd h (by decide)
  rw[DR,e1,Pd (by simp),e2,Pd (by simp[hc]),AAH hc]
 rw[List.drop_one,List.tail_cons] at hi
 cases hx:Gn r with
 | none =>
  rw[hx] at hi ht;exact Jo ht hb ⟨3,⟨#[]⟩,0,u,0⟩ rfl hi
 | some p =>
  rw[hx] at hi ht;obtain ⟨h1,rfl,h3⟩:=hi;exact OI ht hb rfl h3 h1
theorem lC (s:ByteArray) (hs:s.size<=140737488355328) (h1:0<s.size) (hl:Ba s[0]=false) (hd:zZ s[0]=true) (w:World) (hE:KZ w):Calls Tryz.prog 77 #[.string s] w (Dn w s.data.toList):=by
 have HDG:Hid ((zZ s[0]||(decide (s[0].toNat=45)&&zZ ((s.data.toList.drop 1).headD 0)))=true):=by show _=_;rw[hd];rfl
 have HD:Hid (Hw (s[0].toNat:Int)=true):=hd;have hl':Ho (s[0].toNat:Int)=false:=hl;have Oc:=zh (hE.below (zI w (.cells #[.string s] 9) (.cells #[.int .i64 0,.string ⟨#[]⟩,.int .i64 0,.string ⟨#[]⟩,.int .i64 0] 59)));clear hd hE;have Ee:=zh hs;have VA:Hid (Ho (s[0].toNat:Int)=false):=hl'
 obtain ⟨HB1,HX0,EH⟩:=zy w (.cells #[.string s] 9) (.cells #[.int .i64 0,.string ⟨#[]⟩,.int .i64 0,.string ⟨#[]⟩,.int .i64 0] 59);clear hl hl'
 go_enter Tryz.func77,Tryz.ntmps77
 go_upto_region 1 with fail
 generalize (w.alloc (.cells #[.string s] 9)).alloc (.cells #[.int .i64 0,.string ⟨#[]⟩,.int .i64 0,.string ⟨#[]⟩,.int .i64 0] 59)=W1 at *;have x0:W1.cell? ⟨w.heap.size,0,none⟩=some (.string s):=by rw[AAN _ _ _ _ _ _ HX0.out];rfl
 go_wp2_with (first|(go_at_call 116;refine (yI _ _).mono ?_;rintro e w' ⟨rfl,rfl⟩;rw[VA.out])|(go_at_call 117;refine (BR _ _).mono ?_;rintro e w' ⟨rfl,rfl⟩;rw[HD.out]))
 refine (O7 s Ee h1 W1 Oc).mono ?_;rintro e w5 ⟨v,n,ok,rfl,hn,hi,hb⟩;have CF:=zh (Na EH hb);have Ap:=zh (zB HB1 hb);have HF:=zh (fun w' (h:Below w.heap.size w w')=>Xv (w:=w) (w':=w') (Ij h1) VA HDG h hn hi)
 clear hb hn hi x0;have t0:w5.cell? ⟨w.heap.size+1,0,none⟩=some (.int .i64 0):=by rw[AAN _ _ _ _ _ _ CF.out];rfl
 have t1:w5.cell? ⟨w.heap.size+1,1,none⟩=some (.string ⟨#[]⟩):=by rw[AAN _ _ _ _ _ _ CF.out];rfl
 have t2:w5.cell? ⟨w.heap.size+1,2,none⟩=some (.int .i64 0):=by rw[AAN _ _ _ _ _ _ CF.out];rfl
 have t3:w5.cell? ⟨w.heap.size+1,3,none⟩=some (.string ⟨#[]⟩):=by rw[AAN _ _ _ _ _ _ CF.out];rfl
 have t4:w5.cell? ⟨w.heap.size+1,4,none⟩=some (.int .i64 0):=by rw[AAN _ _ _ _ _ _ CF.out];rfl
 have f0:=AAR _ _ 0 _ _ CF;have f1:=AAR _ _ 1 _ _ CF;have f2:=AAR _ _ 2 _ _ CF;have f3:=AAR _ _ 3 _ _ CF;have f4:=AAR _ _ 4 _ _ CF;go_wp2
 refine bodyPost_ret (v := .tuple #[.agg #[.int .i64 2,.string ⟨#[]⟩,.int .i64 v,.string ⟨#[]⟩,.int .i64 0],.int .i64 n,.bool ok]) (by simp[results,Tryz.results77,go_sem,t0,t1,t2,t3,t4]) rfl ?_
 exact HF.out _ (((((Ap.out.setCell (p:=⟨w.heap.size+1,0,none⟩) (by simp) _).setCell (p:=⟨w.heap.size+1,1,none⟩) (by simp) _).setCell (p:=⟨w.heap.size+1,2,none⟩) (by simp) _).setCell (p:=⟨w.heap.size+1,3,none⟩) (by simp) _).setCell (p:=⟨w.heap.size+1,4,none⟩) (by simp) _)
theorem kZ (s:ByteArray) (hs:s.size<=140737488355328) (h1:0<s.size) (hc:s[0].toNat=34) (w:World):Calls Tryz.prog 77 #[.string s] w (Dn w s.data.toList):=by
 have hl:Ho (s[0].toNat:Int)=false:=by rw[hc];decide
 have HD:Hid (Hw (s[0].toNat:Int)=false):=by show _=_;rw[hc];decide
 have q1:((s[0].toNat:Int)==45)=false:=by rw[hc];decide
 have q2:((s[0].toNat:Int)==34)=true:=by rw[hc];decide
 have Ip:=zh hc;clear hc;have Ee:=zh hs;have VA:=zh hl;obtain ⟨HB1,HX0,EH⟩:=zy w (.cells #[.string s] 9) (.cells #[.int .i64 0,.string ⟨#[]⟩,.int .i64 0,.string ⟨#[]⟩,.int .i64 0] 59);clear hl
 go_enter Tryz.func77,Tryz.ntmps77
 go_upto_region 1 with fail
 generalize (w.alloc (.cells #[.string s] 9)).alloc (.cells #[.int .i64 0,.string ⟨#[]⟩,.int .i64 0,.string ⟨#[]⟩,.int .i64 0] 59)=W1 at *;have x0:W1.cell? ⟨w.heap.size,0,none⟩=some (.string s):=by rw[AAN _ _ _ _ _ _ HX0.out];rfl
 go_wp2_with (first|(go_at_call 116;refine (yI _ _).mono ?_;rintro e w' ⟨rfl,rfl⟩;rw[VA.out])|(go_at_call 117;refine (BR _ _).mono ?_;rintro e w' ⟨rfl,rfl⟩;rw[HD.out]))
 refine (Vy s Ee h1 W1).mono ?_;rintro e w5 ⟨u,n,ok,rfl,hi,hb⟩;have CF:=zh (Na EH hb);have Ap:=zh (zB HB1 hb);have HF:=zh (fun w' (h:Below w.heap.size w w')=>lJ (w:=w) (w':=w') (Ij h1) Ip h hi)
 clear hb hi x0 q1 q2;have t0:w5.cell? ⟨w.heap.size+1,0,none⟩=some (.int .i64 0):=by rw[AAN _ _ _ _ _ _ CF.out];rfl
 have t1:w5.cell? ⟨w.heap.size+1,1,none⟩=some (.string ⟨#[]⟩):=by rw[AAN _ _ _ _ _ _ CF.out];rfl
 have t2:w5.cell? ⟨w.heap.size+1,2,none⟩=some (.int .i64 0):=by rw[AAN _ _ _ _ _ _ CF.out];rfl
 have t3:w5.cell? ⟨w.heap.size+1,3,none⟩=some (.string ⟨#[]⟩):=by rw[AAN _ _ _ _ _ _ CF.out];rfl
 have t4:w5.cell? ⟨w.heap.size+1,4,none⟩=some (.int .i64 0):=by rw[AAN _ _ _ _ _ _ CF.out];rfl
 have f0:=AAR _ _ 0 _ _ CF;have f1:=AAR _ _ 1 _ _ CF;have f2:=AAR _ _ 2 _ _ CF;have f3:=AAR _ _ 3 _ _ CF;have f4:=AAR _ _ 4 _ _ CF;go_wp2;refine bodyPost_ret (v := .tuple #[.agg #[.int .i64 3,.string ⟨#[]⟩,.int .i64 0,.string u,.int .i64 0],.int .i64 n,.bool ok]) (by simp[results,Tryz.results77,go_sem,t0,t1,t2,t3,t4]) rfl ?_
 exact HF.out _ (((((Ap.out.setCell (p:=⟨w.heap.size+1,0,none⟩) (by simp) _).setCell (p:=⟨w.heap.size+1,1,none⟩) (by simp) _).setCell (p:=⟨w.heap.size+1,2,none⟩) (by simp) _).setCell (p:=⟨w.heap.size+1,3,none⟩) (by simp) _).setCell (p:=⟨w.heap.size+1,4,none⟩) (by simp) _)
theorem Ou (h:1<s.size):(s.data.toList.drop 1).headD 0=s[1]:=by rw[X5 h];rfl
theorem kz (s:ByteArray) (hs:s.size<=140737488355328) (h2:1<s.size) (h1:0<s.size) (hc:s[0].toNat=45) (hd:zZ s[1]=true) (w:World) (hE:KZ w):Calls Tryz.prog 77 #[.string s] w (Dn w s.data.toList):=by
 have hl:Ho (s[0].toNat:Int)=false:=by rw[hc];decide
 have HDG:Hid ((zZ s[0]||(decide (s[0].toNat=45)&&zZ ((s.data.toList.drop 1).headD 0)))=true):=by show _=_;rw[Ou h2,hd,hc];simp
 have HD:Hid (Hw (s[0].toNat:Int)=false):=by show _=_;rw[hc];decide
 have HD1:Hid (Hw (s[1].toNat:Int)=true):=hd;have q1:((s[0].toNat:Int)==45)=true:=by rw[hc];decide
 have i1:(1:Int)<(s.size:Int):=by omega
 have Oc:=zh (hE.below (zI w (.cells #[.string s] 9) (.cells #[.int .i64 0,.string ⟨#[]⟩,.int .i64 0,.string ⟨#[]⟩,.int .i64 0] 59)));clear hd hE hc;have Ee:=zh hs;have VA:=zh hl;obtain ⟨HB1,HX0,EH⟩:=zy w (.cells #[.string s] 9) (.cells #[.int .i64 0,.string ⟨#[]⟩,.int .i64 0,.string ⟨#[]⟩,.int .i64 0] 59);clear hl
 go_enter Tryz.func77,Tryz.ntmps77
 go_upto_region 1 with fail
 generalize (w.alloc (.cells #[.string s] 9)).alloc (.cells #[.int .i64 0,.string ⟨#[]⟩,.int .i64 0,.string ⟨#[]⟩,.int .i64 0] 59)=W1 at *;have x0:W1.cell? ⟨w.heap.size,0,none⟩=some (.string s):=by rw[AAN _ _ _ _ _ _ HX0.out];rfl
 go_wp2_with (first|(go_at_call 116;refine (yI _ _).mono ?_;rintro e w' ⟨rfl,rfl⟩;rw[VA.out])|(go_at_call 117;refine (BR _ _).mono ?_;rintro e w' ⟨rfl,rfl⟩;first|rw[HD.out]|rw[HD1.out]))
 refine (O7 s Ee h1 W1 Oc).mono ?_;rintro e w5 ⟨v,n,ok,rfl,hn,hi,hb⟩;have CF:=zh (Na EH hb);have Ap:=zh (zB HB1 hb);have HF:=zh (fun w' (h:Below w.heap.size w w')=>Xv (w:=w) (w':=w') (Ij h1) VA HDG h hn hi)
 clear hb hn hi x0 q1;have t0:w5.cell? ⟨w.heap.size+1,0,none⟩=some (.int .i64 0):=by rw[AAN _ _ _ _ _ _ CF.out];rfl
 have t1:w5.cell? ⟨w.heap.size+1,1,none⟩=some (.string ⟨#[]⟩):=by rw[AAN _ _ _ _ _ _ CF.out];rfl
 have t2:w5.cell? ⟨w.heap.size+1,2,none⟩=some (.int .i64 0):=by rw[AAN _ _ _ _ _ _ CF.out];rfl
 have t3:w5.cell? ⟨w.heap.size+1,3,none⟩=some (.string ⟨#[]⟩):=by rw[AAN _ _ _ _ _ _ CF.out];rfl
 have t4:w5.cell? ⟨w.heap.size+1,4,none⟩=some (.int .i64 0):=by rw[AAN _ _ _ _ _ _ CF.out];rfl
 have f0:=AAR _ _ 0 _ _ CF;have f1:=AAR _ _ 1 _ _ CF;have f2:=AAR _ _ 2 _ _ CF;have f3:=AAR _ _ 3 _ _ CF;have f4:=AAR _ _ 4 _ _ CF;go_wp2
 refine bodyPost_ret (v := .tuple #[.agg #[.int .i64 2,.string ⟨#[]⟩,.int .i64 v,.string ⟨#[]⟩,.int .i64 0],.int .i64 n,.bool ok]) (by simp[results,Tryz.results77,go_sem,t0,t1,t2,t3,t4]) rfl ?_
 exact HF.out _ (((((Ap.out.setCell (p:=⟨w.heap.size+1,0,none⟩) (by simp) _).setCell (p:=⟨w.heap.size+1,1,none⟩) (by simp) _).setCell (p:=⟨w.heap.size+1,2,none⟩) (by simp) _).setCell (p:=⟨w.heap.size+1,3,none⟩) (by simp) _).setCell (p:=⟨w.heap.size+1,4,none⟩) (by simp) _)
def DF:List ByteArray:=BF.map bA
structure K6 (w:World) (A:zo) (c:Nat):Prop where
 cell:w.cell? ⟨0,0,none⟩=some (.slice A 18 c)
 rows:MK w A DF
variable {A:zo}
theorem K6.below {c:Nat} (h:K6 w A c) (hb:Below w.heap.size w w'):K6 w' A c:=⟨zA hb h.cell,h.rows.below hb⟩
theorem Xp {x:ByteArray}:preB s x=true↔x.data.toList <+: s.data.toList:=by
 unfold preB Lib.hasPrefix;exact List.isPrefixOf_iff_prefix
theorem Lu {i:Int} (h:oJ (preB s) DF i):(i = -1/\Fp s.data.toList=none)\/∃ (k:Nat) (hk:k<BF.length),i=(k:Int)/\Fp s.data.toList=some BF[k].length/\s.data.toList.take BF[k].length=BF[k]:=by
 have hl:DF.length=BF.length:=AAd ..;have hg:∀j (hj:j<BF.length),(DF[j]'(by rw[hl];exact hj)).data.toList=BF[j]:=fun j hj=>by
  simp only[DF,List.getElem_map];rfl
 have hno:∀j (hj:j<BF.length),preB s (DF[j]'(by rw[hl];exact hj))=false->¬ BF[j] <+: s.data.toList:=fun j hj h hp=>by
  rw[<-hg j hj] at hp;rw[Xp.2 hp] at h;cases h
 rcases h with ⟨h1,h2⟩|⟨k,hk,h1,h2,h3⟩
 ·exact Or.inl ⟨h1,dQ fun j hj=>hno j hj (h2 j (by rw[hl];exact hj))⟩
 ·have hk':k<BF.length:=by rw[<-hl];exact hk
  have hp:=Xp.1 h2;rw[hg k hk'] at hp;have:=Yy hk' hp fun j hj=>hno j (Nat.lt_trans hj hk') (h3 j (by rw[hl];omega) hj)
  exact Or.inr ⟨k,hk',h1,this.1,this.2⟩
theorem Oi (h0:s.data.toList=c::r) (hl:Ba c=false) (hd:zZ c=false) (hn:(decide (c.toNat=45)&&zZ (r.headD 0))=false) (hc:c.toNat≠34):DR s.data.toList=(Fp s.data.toList).map fun n=>(⟨4,bA (s.data.toList.take n),0,⟨#[]⟩,0⟩,n):=by
 rw[h0,DR,hl,Pd (by simp),hd,hn,Bool.false_or,Pd (by simp),Pd hc]
theorem ku (s:ByteArray) (hs:s.size<=140737488355328) (h1:0<s.size) (h45:s[0].toNat≠45) (hl0:Ba s[0]=false) (hd0:zZ s[0]=false) (hc:s[0].toNat≠34) (hsy:Fp s.data.toList=none) (w:World) {c:Nat} (hE:K6 w A c):Calls Tryz.prog 77 #[.string s] w (Dn w s.data.toList):=by
 have VO:Hid (DR s.data.toList=none):=by
  show _=_
  rw[Oi (Ij h1) hl0 hd0 (by simp[h45]) hc,hsy];rfl
 have hl:Ho (s[0].toNat:Int)=false:=hl0;have HD:Hid (Hw (s[0].toNat:Int)=false):=hd0;have q2:((s[0].toNat:Int)==34)=false:=by simp;omega
 have q1:((s[0].toNat:Int)==45)=false:=by simp;omega
 have HD1:=HD;clear h45;have ax:=zh hsy;have Oc:=zh (hE.below (zI w (.cells #[.string s] 9) (.cells #[.int .i64 0,.string ⟨#[]⟩,.int .i64 0,.string ⟨#[]⟩,.int .i64 0] 59)));clear hE hl0 hd0 hsy hc;have Ee:=zh hs;have VA:=zh hl;obtain ⟨HB1,HX0,EH⟩:=zy w (.cells #[.string s] 9) (.cells #[.int .i64 0,.string ⟨#[]⟩,.int .i64 0,.string ⟨#[]⟩,.int .i64 0] 59);clear hl
 go_enter Tryz.func77,Tryz.ntmps77
 go_upto_region 1 with fail
 generalize (w.alloc (.cells #[.string s] 9)).alloc (.cells #[.int .i64 0,.string ⟨#[]⟩,.int .i64 0,.string ⟨#[]⟩,.int .i64 0] 59)=W1 at *;have x0:W1.cell? ⟨w.heap.size,0,none⟩=some (.string s):=by rw[AAN _ _ _ _ _ _ HX0.out];rfl
 have y0:=Oc.out.cell;have Sc:=zh x0;go_wp2_with (first|(go_at_call 116;refine (yI _ _).mono ?_;rintro e w' ⟨rfl,rfl⟩;rw[VA.out])|(go_at_call 117;refine (BR _ _).mono ?_;rintro e w' ⟨rfl,rfl⟩;first|rw[HD.out]|rw[HD1.out]));refine (GJ s w.heap.size DF A c W1 Oc.out.rows Sc).mono ?_;rintro e w5 ⟨i,rfl,hi,hb⟩;have hm:i = -1:=by
  rcases Lu hi with ⟨h,_⟩|⟨k,hk,_,h,_⟩
  ·exact h
  ·rw[ax.out] at h;cases h
 subst hm;have CF:=zh (Na EH hb);have Ap:=zh (zB HB1 hb);clear hb hi x0 y0;have t0:w5.cell? ⟨w.heap.size+1,0,none⟩=some (.int .i64 0):=by rw[AAN _ _ _ _ _ _ CF.out];rfl
 have t1:w5.cell? ⟨w.heap.size+1,1,none⟩=some (.string ⟨#[]⟩):=by rw[AAN _ _ _ _ _ _ CF.out];rfl
 have t2:w5.cell? ⟨w.heap.size+1,2,none⟩=some (.int .i64 0):=by rw[AAN _ _ _ _ _ _ CF.out];rfl
 have t3:w5.cell? ⟨w.heap.size+1,3,none⟩=some (.string ⟨#[]⟩):=by rw[AAN _ _ _ _ _ _ CF.out];rfl
 have t4:w5.cell? ⟨w.heap.size+1,4,none⟩=some (.int .i64 0):=by rw[AAN _ _ _ _ _ _ CF.out];rfl
 have f0:=AAR _ _ 0 _ _ CF;have f1:=AAR _ _ 1 _ _ CF;have f2:=AAR _ _ 2 _ _ CF;have f3:=AAR _ _ 3 _ _ CF;have f4:=AAR _ _ 4 _ _ CF;go_wp2
 refine bodyPost_ret (v := .tuple #[.agg #[.int .i64 0,.string ⟨#[]⟩,.int .i64 0,.string ⟨#[]⟩,.int .i64 0],.int .i64 0,.bool false]) (by simp[results,Tryz.results77,go_sem,t0,t1,t2,t3,t4]) rfl ?_
 exact Jo VO (((((Ap.out.setCell (p:=⟨w.heap.size+1,0,none⟩) (by simp) _).setCell (p:=⟨w.heap.size+1,1,none⟩) (by simp) _).setCell (p:=⟨w.heap.size+1,2,none⟩) (by simp) _).setCell (p:=⟨w.heap.size+1,3,none⟩) (by simp) _).setCell (p:=⟨w.heap.size+1,4,none⟩) (by simp) _) ⟨0,⟨#[]⟩,0,⟨#[]⟩,0⟩ rfl rfl
theorem kr (s:ByteArray) (hs:s.size<=140737488355328) (h1:0<s.size) (h45:s[0].toNat=45) (hz:s.size=1) (hl0:Ba s[0]=false) (hd0:zZ s[0]=false) (hc:s[0].toNat≠34) (hsy:Fp s.data.toList=none) (w:World) {c:Nat} (hE:K6 w A c):Calls Tryz.prog 77 #[.string s] w (Dn w s.data.toList):=by
 have VO:Hid (DR s.data.toList=none):=by
  show _=_
  rw[Oi (Ij h1) hl0 hd0 (by rw[show s.data.toList.drop 1=[] from ABW (by rw[show s.data.toList.length=s.size from rfl,hz];exact AAP _)];rw[Bool.and_eq_false_iff];exact Or.inr (by decide)) hc,hsy];rfl
 have hl:Ho (s[0].toNat:Int)=false:=hl0;have HD:Hid (Hw (s[0].toNat:Int)=false):=hd0;have q2:((s[0].toNat:Int)==34)=false:=by simp;omega
 have q1:((s[0].toNat:Int)==45)=true:=by simp[h45]
 have i1:¬ (1:Int)<(s.size:Int):=by omega
 have HD1:=HD;clear h45 hz;have ax:=zh hsy;have Oc:=zh (hE.below (zI w (.cells #[.string s] 9) (.cells #[.int .i64 0,.string ⟨#[]⟩,.int .i64 0,.string ⟨#[]⟩,.int .i64 0] 59)));clear hE hl0 hd0 hsy hc;have Ee:=zh hs;have VA:=zh hl;obtain ⟨HB1,HX0,EH⟩:=zy w (.cells #[.string s] 9) (.cells #[.int .i64 0,.string ⟨#[]⟩,.int .i64 0,.string ⟨#[]⟩,.int .i64 0] 59);clear hl
 go_enter Tryz.func77,Tryz.ntmps77
 go_upto_region 1 with fail
 generalize (w.alloc (.cells #[.string s] 9)).alloc (.cells #[.int .i64 0,.string ⟨#[]⟩,.int .i64 0,.string ⟨#[]⟩,.int .i64 0] 59)=W1 at *;have x0:W1.cell? ⟨w.heap.size,0,none⟩=some (.string s):=by rw[AAN _ _ _ _ _ _ HX0.out];rfl
 have y0:=Oc.out.cell;have Sc:=zh x0;go_wp2_with (first|(go_at_call 116;refine (yI _ _).mono ?_;rintro e w' ⟨rfl,rfl⟩;rw[VA.out])|(go_at_call 117;refine (BR _ _).mono ?_;rintro e w' ⟨rfl,rfl⟩;first|rw[HD.out]|rw[HD1.out]));refine (GJ s w.heap.size DF A c W1 Oc.out.rows Sc).mono ?_;rintro e w5 ⟨i,rfl,hi,hb⟩;have hm:i = -1:=by
  rcases Lu hi with ⟨h,_⟩|⟨k,hk,_,h,_⟩
  ·exact h
  ·rw[ax.out] at h;cases h
 subst hm;have CF:=zh (Na EH hb);have Ap:=zh (zB HB1 hb);clear hb hi x0 y0;have t0:w5.cell? ⟨w.heap.size+1,0,none⟩=some (.int .i64 0):=by rw[AAN _ _ _ _ _ _ CF.out];rfl
 have t1:w5.cell? ⟨w.heap.size+1,1,none⟩=some (.string ⟨#[]⟩):=by rw[AAN _ _ _ _ _ _ CF.out];rfl
 have t2:w5.cell? ⟨w.heap.size+1,2,none⟩=some (.int .i64 0):=by rw[AAN _ _ _ _ _ _ CF.out];rfl
 have t3:w5.cell? ⟨w.heap.size+1,3,none⟩=some (.string ⟨#[]⟩):=by rw[AAN _ _ _ _ _ _ CF.out];rfl
 have t4:w5.cell? ⟨w.heap.size+1,4,none⟩=some (.int .i64 0):=by rw[AAN _ _ _ _ _ _ CF.out];rfl
 have f0:=AAR _ _ 0 _ _ CF;have f1:=AAR _ _ 1 _ _ CF;have f2:=AAR _ _ 2 _ _ CF;have f3:=AAR _ _ 3 _ _ CF;have f4:=AAR _ _ 4 _ _ CF;go_wp2
 refine bodyPost_ret (v := .tuple #[.agg #[.int .i64 0,.string ⟨#[]⟩,.int .i64 0,.string ⟨#[]⟩,.int .i64 0],.int .i64 0,.bool false]) (by simp[results,Tryz.results77,go_sem,t0,t1,t2,t3,t4]) rfl ?_
 exact Jo VO (((((Ap.out.setCell (p:=⟨w.heap.size+1,0,none⟩) (by simp) _).setCell (p:=⟨w.heap.size+1,1,none⟩) (by simp) _).setCell (p:=⟨w.heap.size+1,2,none⟩) (by simp) _).setCell (p:=⟨w.heap.size+1,3,none⟩) (by simp) _).setCell (p:=⟨w.heap.size+1,4,none⟩) (by simp) _) ⟨0,⟨#[]⟩,0,⟨#[]⟩,0⟩ rfl rfl
theorem kg (s:ByteArray) (hs:s.size<=140737488355328) (h1:0<s.size) (h45:s[0].toNat=45) (h2:1<s.size) (hd1:zZ s[1]=false) (hl0:Ba s[0]=false) (hd0:zZ s[0]=false) (hc:s[0].toNat≠34) (hsy:Fp s.data.toList=none) (w:World) {c:Nat} (hE:K6 w A c):Calls Tryz.prog 77 #[.string s] w (Dn w s.data.toList):=by
 have VO:Hid (DR s.data.toList=none):=by
  show _=_
  rw[Oi (Ij h1) hl0 hd0 (by rw[Ou h2,hd1,Bool.and_false]) hc,hsy];rfl
 have hl:Ho (s[0].toNat:Int)=false:=hl0;have HD:Hid (Hw (s[0].toNat:Int)=false):=hd0;have q2:((s[0].toNat:Int)==34)=false:=by simp;omega
 have q1:((s[0].toNat:Int)==45)=true:=by simp[h45]
 have i1:(1:Int)<(s.size:Int):=by omega
 have HD1:Hid (Hw (s[1].toNat:Int)=false):=hd1;clear h45 hd1;have ax:=zh hsy;have Oc:=zh (hE.below (zI w (.cells #[.string s] 9) (.cells #[.int .i64 0,.string ⟨#[]⟩,.int .i64 0,.string ⟨#[]⟩,.int .i64 0] 59)));clear hE hl0 hd0 hsy hc;have Ee:=zh hs;have VA:=zh hl;obtain ⟨HB1,HX0,EH⟩:=zy w (.cells #[.string s] 9) (.cells #[.int .i64 0,.string ⟨#[]⟩,.int .i64 0,.string ⟨#[]⟩,.int .i64 0] 59)
 clear hl
 go_enter Tryz.func77,Tryz.ntmps77
 go_upto_region 1 with fail
 generalize (w.alloc (.cells #[.string s] 9)).alloc (.cells #[.int .i64 0,.string ⟨#[]⟩,.int .i64 0,.string ⟨#[]⟩,.int .i64 0] 59)=W1 at *;have x0:W1.cell? ⟨w.heap.size,0,none⟩=some (.string s):=by rw[AAN _ _ _ _ _ _ HX0.out];rfl
 have y0:=Oc.out.cell;have Sc:=zh x0;go_wp2_with (first|(go_at_call 116;refine (yI _ _).mono ?_;rintro e w' ⟨rfl,rfl⟩;rw[VA.out])|(go_at_call 117;refine (BR _ _).mono ?_;rintro e w' ⟨rfl,rfl⟩;first|rw[HD.out]|rw[HD1.out]));refine (GJ s w.heap.size DF A c W1 Oc.out.rows Sc).mono ?_;rintro e w5 ⟨i,rfl,hi,hb⟩;have hm:i = -1:=by
  rcases Lu hi with ⟨h,_⟩|⟨k,hk,_,h,_⟩
  ·exact h
  ·rw[ax.out] at h;cases h
 subst hm;have CF:=zh (Na EH hb);have Ap:=zh (zB HB1 hb);clear hb hi x0 y0;have t0:w5.cell? ⟨w.heap.size+1,0,none⟩=some (.int .i64 0):=by rw[AAN _ _ _ _ _ _ CF.out];rfl
 have t1:w5.cell? ⟨w.heap.size+1,1,none⟩=some (.string ⟨#[]⟩):=by rw[AAN _ _ _ _ _ _ CF.out];rfl
 have t2:w5.cell? ⟨w.heap.size+1,2,none⟩=some (.int .i64 0):=by rw[AAN _ _ _ _ _ _ CF.out];rfl
 have t3:w5.cell? ⟨w.heap.size+1,3,none⟩=some (.string ⟨#[]⟩):=by rw[AAN _ _ _ _ _ _ CF.out];rfl
 have t4:w5.cell? ⟨w.heap.size+1,4,none⟩=some (.int .i64 0):=by rw[AAN _ _ _ _ _ _ CF.out];rfl
 have f0:=AAR _ _ 0 _ _ CF;have f1:=AAR _ _ 1 _ _ CF;have f2:=AAR _ _ 2 _ _ CF;have f3:=AAR _ _ 3 _ _ CF;have f4:=AAR _ _ 4 _ _ CF;go_wp2
 refine bodyPost_ret (v := .tuple #[.agg #[.int .i64 0,.string ⟨#[]⟩,.int .i64 0,.string ⟨#[]⟩,.int .i64 0],.int .i64 0,.bool false]) (by simp[results,Tryz.results77,go_sem,t0,t1,t2,t3,t4]) rfl ?_
 exact Jo VO (((((Ap.out.setCell (p:=⟨w.heap.size+1,0,none⟩) (by simp) _).setCell (p:=⟨w.heap.size+1,1,none⟩) (by simp) _).setCell (p:=⟨w.heap.size+1,2,none⟩) (by simp) _).setCell (p:=⟨w.heap.size+1,3,none⟩) (by simp) _).setCell (p:=⟨w.heap.size+1,4,none⟩) (by simp) _) ⟨0,⟨#[]⟩,0,⟨#[]⟩,0⟩ rfl rfl
end Go.Proofs.YthkkllmmbefedaaGreatDoor



