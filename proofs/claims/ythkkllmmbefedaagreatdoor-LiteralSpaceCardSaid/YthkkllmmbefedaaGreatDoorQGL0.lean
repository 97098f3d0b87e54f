/-
  Walks: lexer.token: where no symbol stands in front.
-/
import Derived.Test.YthkkllmmbefedaaGreatDoorQGA5
import Derived.Test.YthkkllmmbefedaaGreatDoorQGA3
import Derived.Test.YthkkllmmbefedaaGreatDoorQGA7
import Derived.Test.YthkkllmmbefedaaGreatDoorShelf
import Derived.BigQuiet
import Derived.Deep.DeepCutAuto
import Derived.Laws.IdiomStrings
import Derived.Lib.AppendIntMem
import Derived.Lib.MinMax
namespace Go.Proofs.YthkkllmmbefedaaGreatDoor
open Go.RowKit
set_option maxHeartbeats 16000000
set_option maxRecDepth 100000
theorem list0 {s:ByteArray} (h:0<s.size):s.data.toList=s[0]::s.data.toList.drop 1:=by
 have h':0<s.data.toList.length:=h;have:=List.drop_eq_getElem_cons h';rw[List.drop_zero] at this;exact this
theorem list1 {s:ByteArray} {n:Nat} (h:n<s.size):s.data.toList.drop n=s[n]::s.data.toList.drop (n+1):=List.drop_eq_getElem_cons (l:=s.data.toList) h
theorem list_nil {s:ByteArray} (h:s.size=0):s=⟨#[]⟩:=by
 obtain ⟨d⟩:=s;have:d.size=0:=h;rw[Array.eq_empty_of_size_eq_zero this]
def hexT:ByteArray:=⟨#[48,49,50,51,52,53,54,55,56,57,97,98,99,100,101,102]⟩
theorem hexIdx (c:UInt8):Lib.indexByte hexT.data.toList c=match hexV c with|some x=>(x:Int)|none => -1:=by
 have key:∀n:Fin 256,Lib.indexByte hexT.data.toList (UInt8.ofNat n.1)=match hexV (UInt8.ofNat n.1) with|some x=>(x:Int)|none => -1:=by decide +kernel
 have:=key ⟨c.toNat,c.toNat_lt⟩
 rwa [UInt8.ofNat_toNat] at this
theorem byte_back (c:UInt8):((c.toNat:Nat):Int).toNat.toUInt8=c:=by simp
def EscOut (l:List UInt8) (b k:Int) (ok:Bool):Prop:=match escL l with
 | some p=>ok=true∧b=(p.1.toNat:Int)∧k=(p.2:Int)
 | none=>ok=false
def EscPost (w:World) (l:List UInt8) (e:Ending) (w':World):Prop:=∃b k ok,e = .returned (.tuple #[.int .u8 b,.int .i64 k,.bool ok])∧EscOut l b k ok∧Below w.heap.size w w'
theorem escaped_any (s:ByteArray) (hs:SOk s) (w:World):Calls Tryz.prog 159 #[.string s] w (EscPost w s.data.toList):=by
 unfold SOk at hs
 by_cases h0:s.size=0
 ·obtain rfl:=list_nil h0
  clear hs h0
  go_enter Tryz.func159,Tryz.ntmps159
  go_wp2
  go_ret3
  exact ⟨_,_,_,rfl,rfl,Below.refl _ _⟩
 have hp:0<s.size:=by omega
 have hne2:s.toList.isEmpty=false:=by simpa using bytes_cons hp
 have HL:=zh (list0 hp);obtain ⟨c,hc⟩:∃c,c=s[0]:=⟨_,rfl⟩;have HC:=zh hc;rw[←hc] at HL;clear hc
 by_cases h1:c.toNat=34∨c.toNat=92
 ·have HE:Hid (escL s.data.toList=some (c,1)):=by
   show _=_
   rw[HL.out];unfold escL;simp only[if_pos h1]
  have HD:c.toNat=34∨(¬ c.toNat=34∧c.toNat=92):=by omega
  clear h1 h0
  rcases HD with p|⟨p,q⟩
  ·have q1:((s[0].toNat:Int)==34)=true:=by rw[←HC.out];simp[p]
   go_enter Tryz.func159,Tryz.ntmps159
   go_wp2
   go_ret3
   exact ⟨_,_,_,rfl,by unfold EscOut;rw[HE.out,HC.out];exact ⟨rfl,rfl,rfl⟩,Below.refl _ _⟩
  ·have q1:((s[0].toNat:Int)==34)=false:=by rw[←HC.out];simp;omega
   have q2:((s[0].toNat:Int)==92)=true:=by rw[←HC.out];simp[q]
   go_enter Tryz.func159,Tryz.ntmps159
   go_wp2
   go_ret3
   exact ⟨_,_,_,rfl,by unfold EscOut;rw[HE.out,HC.out];exact ⟨rfl,rfl,rfl⟩,Below.refl _ _⟩
 have q1:((s[0].toNat:Int)==34)=false:=by rw[←HC.out];simp;omega
 have q2:((s[0].toNat:Int)==92)=false:=by rw[←HC.out];simp;omega
 by_cases h2:c.toNat=110
 ·have HE:Hid (escL s.data.toList=some (10,1)):=by
   show _=_
   rw[HL.out];unfold escL;simp only[if_neg h1,if_pos h2]
  have q3:((s[0].toNat:Int)==110)=true:=by rw[←HC.out];simp[h2]
  clear h1 h2 h0
  go_enter Tryz.func159,Tryz.ntmps159
  go_wp2
  go_ret3
  exact ⟨_,_,_,rfl,by unfold EscOut;rw[HE.out];exact ⟨rfl,rfl,rfl⟩,Below.refl _ _⟩
 have q3:((s[0].toNat:Int)==110)=false:=by rw[←HC.out];simp;omega
 by_cases h3:c.toNat=120
 case neg =>
  have HE:Hid (escL s.data.toList=none):=by
   show _=_
   rw[HL.out];unfold escL;simp only[if_neg h1,if_neg h2,if_neg h3]
  have q4:((s[0].toNat:Int)==120)=false:=by rw[←HC.out];simp;omega
  clear h1 h2 h3 h0
  go_enter Tryz.func159,Tryz.ntmps159
  go_wp2
  go_ret3
  exact ⟨_,_,_,rfl,by unfold EscOut;rw[HE.out],Below.refl _ _⟩
 have q4:((s[0].toNat:Int)==120)=true:=by rw[←HC.out];simp[h3]
 by_cases h4:s.size<3
 ·have HE:Hid (escL s.data.toList=none):=by
   show _=_
   have hl:(s.data.toList.drop 1).length≤1:=by
    rw[List.length_drop];have:s.data.toList.length=s.size:=rfl
    omega
   rw[HL.out];unfold escL;simp only[if_neg h1,if_neg h2,if_pos h3];generalize s.data.toList.drop 1=q at hl
   match q,hl with
   | [],_=>rfl
   | [_],_=>rfl
  have q5:(s.size:Int)<3:=by omega
  clear h1 h2 h3 h0 h4
  go_enter Tryz.func159,Tryz.ntmps159
  go_wp2
  go_ret3
  exact ⟨_,_,_,rfl,by unfold EscOut;rw[HE.out],Below.refl _ _⟩
 have k1:1<s.size:=by omega
 have k2:2<s.size:=by omega
 have HL2:Hid (s.data.toList=c::s[1]::s[2]::s.data.toList.drop 3):=by
  exact HL.out.trans (by rw[list1 k1,list1 k2])
 have q5:¬ (s.size:Int)<3:=by omega
 have i1:(1:Int)<(s.size:Int):=by omega
 have i2:(2:Int)<(s.size:Int):=by omega
 have HI1:=zh (hexIdx s[1]);have HI2:=zh (hexIdx s[2]);have HE:Hid (escL s.data.toList=match hexV s[1],hexV s[2] with
    | some x,some y=>if (16 * x+y<32∨126<16 * x+y)∧16 * x+y≠10 then some (UInt8.ofNat (16 * x+y),3) else none
    | _,_=>none):=by
  refine (congrArg escL HL2.out).trans ?_;unfold escL;simp only[if_neg h1,if_neg h2,if_pos h3]
  cases hexV s[1] <;> cases hexV s[2] <;> rfl
 clear h1 h2 h3 h0 h4 HL HL2
 go_enter Tryz.func159,Tryz.ntmps159
 go_upto_region 12 with fail
 go_quiet (first|(go_at_call 76;refine Calls.quiet_of_same (Tryz.strings_IndexByte _ _ _)))
 generalize hv1:Lib.indexByte (ByteArray.mk #[48,49,50,51,52,53,54,55,56,57,97,98,99,100,101,102]).data.toList (((s[1].toNat:Nat):Int).toNat.toUInt8)=v1;generalize hv2:Lib.indexByte (ByteArray.mk #[48,49,50,51,52,53,54,55,56,57,97,98,99,100,101,102]).data.toList (((s[2].toNat:Nat):Int).toNat.toUInt8)=v2;have e1:v1=match hexV s[1] with|some x=>(x:Int)|none => -1:=by rw[←hv1,byte_back];exact HI1.out
 have e2:v2=match hexV s[2] with|some x=>(x:Int)|none => -1:=by rw[←hv2,byte_back];exact HI2.out
 clear hv1 hv2 HI1 HI2
 cases hx:hexV s[1] with
 | none =>
  rw[hx] at e1;simp only at e1;have HF:Hid (escL s.data.toList=none):=by
   refine HE.out.trans ?_;rw[hx]
  have z1:v1<0:=by omega
  clear hx e1 e2 HE HC;go_wp2
  go_ret3
  exact ⟨_,_,_,rfl,by unfold EscOut;rw[HF.out],zC (Below.refl _ _) _⟩
 | some x =>
  rw[hx] at e1;simp only at e1;have hx16:=hexV_lt hx;have z1:¬ v1<0:=by omega
  cases hy:hexV s[2] with
  | none =>
   rw[hy] at e2;simp only at e2;have HF:Hid (escL s.data.toList=none):=by
    refine HE.out.trans ?_;rw[hx,hy]
   have z2:v2<0:=by omega
   clear hx hy e1 e2 HE HC;go_wp2
   go_ret3
   exact ⟨_,_,_,rfl,by unfold EscOut;rw[HF.out],zC (Below.refl _ _) _⟩
  | some y =>
   rw[hy] at e2;simp only at e2;have hy16:=hexV_lt hy;have z2:¬ v2<0:=by omega
   obtain ⟨k,hk⟩:∃k,k=16 * x+y:=⟨_,rfl⟩;have HF:Hid (escL s.data.toList=if (k<32∨126<k)∧k≠10 then some (UInt8.ofNat k,3) else none):=by
    refine HE.out.trans ?_;rw[hx,hy,hk]
   have hk256:k<256:=by omega
   have w1:IntKind.i64.wrap (16 * v1)=16 * v1:=by rw[IntKind.wrap_i64];omega
   have w2:IntKind.i64.wrap (16 * v1+v2)=(k:Int):=by rw[IntKind.wrap_i64];omega
   have w3:IntKind.u8.wrap (k:Int)=(k:Int):=by rw[IntKind.wrap_u8];omega
   have hb:(UInt8.ofNat k).toNat=k:=by rw[UInt8.toNat_ofNat'];omega
   have HBY:=zh hb;clear hx hy e1 e2 HE HC hb
   by_cases c1:(k:Int)<32
   ·by_cases c3:k=10
    ·have q6:((k:Int) != 10)=false:=by simp[c3]
     go_wp2
     go_ret3
     exact ⟨_,_,_,rfl,by unfold EscOut;rw[HF.out,if_neg (by omega)];simp;omega,zC (Below.refl _ _) _⟩
    ·have q6:((k:Int) != 10)=true:=by simp;omega
     go_wp2
     go_ret3
     exact ⟨_,_,_,rfl,by unfold EscOut;rw[HF.out,if_pos (by omega)];exact ⟨by simp;omega,by rw[HBY.out];omega,rfl⟩,zC (Below.refl _ _) _⟩
   ·by_cases c2:(126:Int)<(k:Int)
    ·have q6:((k:Int) != 10)=true:=by simp;omega
     go_wp2
     go_ret3
     exact ⟨_,_,_,rfl,by unfold EscOut;rw[HF.out,if_pos (by omega)];exact ⟨by simp;omega,by rw[HBY.out];omega,rfl⟩,zC (Below.refl _ _) _⟩
    ·go_wp2
     go_ret3
     exact ⟨_,_,_,rfl,by unfold EscOut;rw[HF.out,if_neg (by omega)],zC (Below.refl _ _) _⟩
def encU (c:UInt8):List Value:=[.int .u8 (c.toNat:Int)]
abbrev OwnU:=OwnL 5 1 encU
theorem elem_u8:Elem 40 5 1 1:=⟨Tryz.underlying40,⟨.int .u8 0,by kernel_rfl,rfl⟩,by omega⟩
theorem flat_u (l:List UInt8):l.flatMap encU=l.map fun c=>Value.int .u8 (c.toNat:Int):=by
 induction l with
 | nil=>rfl
 | cons a r ih=>rw[List.flatMap_cons,ih];rfl
theorem run_conv_own {w:World} {base:Nat} {v:Value} {l:List UInt8} (h:OwnU w base v l):(convert 40 9 v).run Tryz.prog w = .ok (.string (bA l)) w:=by
 obtain ⟨A,c,rfl,_,_,hA⟩:=h.reads
 cases l with
 | nil =>
  cases A with
  | none =>
   show (convert _ _ (.slice none 0 c)).run _ w=_
   rw[run_convert_bytes_string w 40 9 5 none 0 c Tryz.underlying40 (by kernel_rfl) (by kernel_rfl)]
   rfl
  | some a=>exact run_convert_bytes_back (P:=Tryz.prog) w 40 9 5 a c [] Tryz.underlying40 (by kernel_rfl) (by kernel_rfl) fun j hj=>absurd hj (Nat.not_lt_zero _)
 | cons x r =>
  obtain ⟨g,rfl,_,hr⟩:=hA (by simp)
  refine run_convert_bytes_back (P:=Tryz.prog) w 40 9 5 ⟨g,0,none⟩ c (x::r) Tryz.underlying40 (by kernel_rfl) (by kernel_rfl) fun j hj=>?_
  rw[Addr.add_mid];refine hr j _ ?_;rw[flat_u,List.getElem?_map,zl hj];rfl
theorem wpList_conv {w:World} {ops:Array Oper} {rest:List Oper} {op:Oper} {a:Act} {Q:Exit→Act→World→Prop} (hgd:op.guard=none) (x:Operand) (ho:op.op = .convert 40 9 x) (base:Nat) (v:Value) (l:List UInt8) (hx:a.eval x=v) (h:OwnU w base v l)
  (hq:wpList Tryz.prog ops Q rest (a.put op.dst (.string (bA l))) w):wpList Tryz.prog ops Q (op::rest) a w:=by
 refine wpList_plain hgd fun K hK=>?_
 have hr:=run_conv_own h;unfold Oper.wp execOp;simp only[ho,hx,Sem.run_bind,Sem.run_pure,Result.andThen_ok,hr];exact hK _ _ hq
def QuoPost (w:World) (l:List UInt8) (e:Ending) (w':World):Prop:=∃ (u:ByteArray) (n:Int) (ok:Bool),e = .returned (.tuple #[.string u,.int .i64 n,.bool ok])∧(match quoL l with
 | some p=>ok=true∧u=bA p.1∧n=((p.2+1:Nat):Int)
 | none=>ok=false)∧Below w.heap.size w w'
theorem quo_none {w w':World} {l:List UInt8} (h:quoL l=none) (hb:Below w.heap.size w w') (u:ByteArray) (n:Int):QuoPost w l (.returned (.tuple #[.string u,.int .i64 n,.bool false])) w':=⟨u,n,false,rfl,by rw[h],hb⟩
theorem quo_some {w w':World} {l o:List UInt8} {k:Nat} (h:quoL l=some (o,k)) (hb:Below w.heap.size w w') {u:ByteArray} {n:Int} (hu:u=bA o) (hn:n=((k+1:Nat):Int)):QuoPost w l (.returned (.tuple #[.string u,.int .i64 n,.bool true])) w':=⟨u,n,true,rfl,by rw[h];exact ⟨rfl,hu,hn⟩,hb⟩
def QuoAt (L:List UInt8) (k:Nat) (o:List UInt8):Prop:=quoL (L.drop 1)=(quoL (L.drop k)).map fun p=>(o++p.1,p.2+(k - 1))
theorem QuoAt.end_ {L:List UInt8} {k:Nat} {o:List UInt8} (h:QuoAt L k o) (hk:L.length≤k):quoL (L.drop 1)=none:=by
 unfold QuoAt at h;rw[List.drop_eq_nil_of_le hk,quoL_nil] at h;exact h
theorem QuoAt.close {L:List UInt8} {k:Nat} {o:List UInt8} (h:QuoAt L k o) (h1:1≤k) {c:UInt8} {r:List UInt8} (hd:L.drop k=c::r) (hc:c.toNat=34):quoL (L.drop 1)=some (o,k):=by
 unfold QuoAt at h;rw[hd,quoL_cons,if_pos hc] at h;rw[h]
 show some (o++[],1+(k - 1))=_
 rw[List.append_nil,show 1+(k - 1)=k by omega]
theorem QuoAt.bad {L:List UInt8} {k:Nat} {o:List UInt8} (h:QuoAt L k o) {c:UInt8} {r:List UInt8} (hd:L.drop k=c::r) (hc:c.toNat≠34) (hp:partL (c::r)=none):quoL (L.drop 1)=none:=by
 unfold QuoAt at h;rw[hd,quoL_cons,if_neg hc,hp] at h;exact h
theorem QuoAt.step {L:List UInt8} {k:Nat} {o:List UInt8} (h:QuoAt L k o) (h1:1≤k) {c:UInt8} {r:List UInt8} (hd:L.drop k=c::r) (hc:c.toNat≠34) {b:UInt8} {n:Nat} (hp:partL (c::r)=some (b,n)):QuoAt L (k+n) (o++[b]):=by
 unfold QuoAt at h ⊢;rw[hd,quoL_cons,if_neg hc,hp] at h;have hd2:(c::r).drop n=L.drop (k+n):=by rw[←hd,List.drop_drop]
 simp only at h;rw[hd2] at h;rw[h]
 cases quoL (L.drop (k+n)) with
 | none=>rfl
 | some p =>
  show some (o++b::p.1,p.2+n+(k - 1))=some (o++[b]++p.1,p.2+(k+n - 1))
  rw[List.append_assoc,show p.2+n+(k - 1)=p.2+(k+n - 1) by omega];rfl
theorem ext_drop {s:ByteArray} {n:Nat}:(s.extract n s.size).data.toList=s.data.toList.drop n:=by
 rw[Lib.extract_data];rw[List.take_of_length_le];rw[List.length_drop];have:s.data.toList.length=s.size:=rfl
 omega
theorem quoted_any (s:ByteArray) (hs:s.size≤140737488355328) (h1:0<s.size) (w:World):Calls Tryz.prog 119 #[.string s] w (QuoPost w (s.data.toList.drop 1)):=by
 have HSZ:=zh hs;obtain ⟨L1,hL1⟩:∃L1,s.data.toList.drop 1=L1:=⟨_,rfl⟩;rw[hL1];have HL1:=zh hL1;clear hL1
 go_enter Tryz.func119,Tryz.ntmps119
 go_wp2
 go_loopw [5,6] (fun v i wr=>∃ (k:Nat) (o:List UInt8),1≤k∧k≤s.size∧o.length<k∧i = .int .i64 k∧Hid (QuoAt s.data.toList k o∧OwnU wr w.heap.size v o∧Below w.heap.size w wr)) (fun _ i _=>s.size - (intOf i).toNat)
 case atStart =>
  refine ⟨1,[],by omega,by omega,by simp,rfl,?_,OwnL.nil _ _,Below.refl _ _⟩
  unfold QuoAt
  cases quoL (s.data.toList.drop 1) <;> rfl
 case round =>
  obtain ⟨k,o,hk1,hk2,hol,rfl,hh⟩:=hrel;have HQ:=zh hh.out.1;have HO:=zh hh.out.2.1;have HB:=zh hh.out.2.2;clear hh;obtain ⟨wo,rfl⟩:∃wo:World,wo=wr:=⟨_,rfl⟩
  by_cases hlt:k<s.size
  case neg =>
   have HN:=zh (HL1.out▸HQ.out.end_ (show s.data.toList.length≤k by have:s.data.toList.length=s.size:=rfl;omega))
   have q0:¬ (k:Int)<(s.size:Int):=by omega
   clear hlt;go_wp2
   go_ret3
   exact quo_none HN.out HB.out _ _
  have g1:(0:Int)≤(k:Int):=by omega
  have g2:(k:Int)<(s.size:Int):=by omega
  have HD:=zh (list1 hlt);obtain ⟨c,hc⟩:∃c,c=s[k]:=⟨_,rfl⟩;rw[←hc] at HD
  by_cases c1:c.toNat=34
  ·have HN:=zh (HL1.out▸HQ.out.close hk1 HD.out c1)
   have q1:((s[k].toNat:Int)==34)=true:=by rw[←hc];simp[c1]
   clear c1 HD;go_wp2_with (refine wpList_conv rfl (.tmp 27) rfl w.heap.size _ o rfl HO.out ?_)
   go_ret3
   exact quo_some HN.out HB.out rfl (by go_num)
  have q1:((s[k].toNat:Int)==34)=false:=by rw[←hc];simp;omega
  by_cases c2:c.toNat=92
  ·have q2:((s[k].toNat:Int)==92)=true:=by rw[←hc];simp[c2]
   have HP:Hid (∀p,escL (s.data.toList.drop (k+1))=p→partL (c::s.data.toList.drop (k+1))=p.map fun x=>(x.1,x.2+1)):=fun p hp=>by rw[partL,if_pos c2,hp]
   have HSE:Hid (SOk (s.extract (k+1) s.size)):=by
    have h:(s.extract (k+1) s.size).size=(s.data.toList.drop (k+1)).length:=by rw[←ext_drop];rfl
    show _≤_
    rw[h,List.length_drop];have h2:s.data.toList.length=s.size:=rfl;have:=HSZ.out
    omega
   have HC34:=zh c1;clear c1 c2;go_wp2_with fail;refine (escaped_any _ HSE.out wo).mono ?_;rintro e w5 ⟨b,n,ok,rfl,he,hb⟩;rw[ext_drop] at he;have HB5:=zh (HB.out.trans (hb.mono HB.out.size));have HO5:=zh (HO.out.below hb);clear hb;unfold EscOut at he
   cases hes:escL (s.data.toList.drop (k+1)) with
   | none =>
    rw[hes] at he;simp only at he;subst he;have HN:=zh (HL1.out▸HQ.out.bad HD.out HC34.out (HP.out _ hes));clear hes HD;go_wp2
    go_ret3
    exact quo_none HN.out HB5.out _ _
   | some p =>
    obtain ⟨b',n'⟩:=p;rw[hes] at he;obtain ⟨rfl,rfl,rfl⟩:=he;have hle:=escL_le hes;rw[List.length_drop] at hle;have h2:s.data.toList.length=s.size:=rfl;rw[h2] at hle;have HN:=zh (HQ.out.step hk1 HD.out HC34.out (HP.out _ hes));have HO1:=zh (OwnL.alloc HO5.out (.cells #[.int .u8 (b'.toNat:Int)] 5))
    have HRN:Hid ((w5.alloc (.cells #[.int .u8 (b'.toNat:Int)] 5)).rangeAt w5.heap.size 0 [.int .u8 (b'.toNat:Int)]):=zR w5 [.int .u8 (b'.toNat:Int)] 5;have HZ7:Hid (w.heap.size≤(w5.alloc (.cells #[.int .u8 (b'.toNat:Int)] 5)).heap.size):=by have:=HB5.out.size;show _≤_;simp;omega
    clear hes HD h2;go_wp2_with (at_builtin;refine yG elem_u8 _ rfl (.tmp 45) (.tmp 47) rfl w.heap.size _ _ _ rfl HO1.out w5.heap.size 0 1 1 [.int .u8 (b'.toNat:Int)] rfl rfl HRN.out (by simp[Value.oneCell']) (by have:=HSZ.out;omega) (by have:=HSZ.out;omega) HZ7.out ?_;intro v8 w8 ho8 hg8)
    go_roundw
    case rel=>exact ⟨k+(n'+1),o++[b'],by omega,by omega,by simp;omega,by go_num,HN.out,OwnL.snoc ho8,(HB5.out.alloc HB5.out.size _).grown hg8 HZ7.out HO1.out.lt⟩
    case measure=>simp[intOf];omega
  have q2:((s[k].toNat:Int)==92)=false:=by rw[←hc];simp;omega
  by_cases c3:c.toNat<32∨126<c.toNat
  ·have HN:=zh (HL1.out▸HQ.out.bad HD.out c1 (by rw[partL,if_neg c2,if_pos c3]))
   have hD:(s[k].toNat:Int)<32∨(¬ (s[k].toNat:Int)<32∧(126:Int)<(s[k].toNat:Int)):=by rw[←hc];omega
   clear c1 c2 c3 HD
   rcases hD with p1|⟨p1,p2⟩
   ·go_wp2
    go_ret3
    exact quo_none HN.out HB.out _ _
   ·go_wp2
    go_ret3
    exact quo_none HN.out HB.out _ _
  ·have p1:¬ (s[k].toNat:Int)<32:=by rw[←hc];omega
   have p2:¬ (126:Int)<(s[k].toNat:Int):=by rw[←hc];omega
   have HN:=zh (HQ.out.step hk1 HD.out c1 (show partL (c::s.data.toList.drop (k+1))=some (c,1) by rw[partL,if_neg c2,if_neg c3]))
   have HO1:=zh (OwnL.alloc HO.out (.cells #[.int .u8 (s[k].toNat:Int)] 5));have HRN:Hid ((wo.alloc (.cells #[.int .u8 (s[k].toNat:Int)] 5)).rangeAt wo.heap.size 0 [.int .u8 (s[k].toNat:Int)]):=zR wo [.int .u8 (s[k].toNat:Int)] 5;have HZ7:Hid (w.heap.size≤(wo.alloc (.cells #[.int .u8 (s[k].toNat:Int)] 5)).heap.size):=by have:=HB.out.size;show _≤_;simp;omega
   have HCC:=zh hc;clear c1 c2 c3 HD;go_wp2_with (at_builtin;refine yG elem_u8 _ rfl (.tmp 18) (.tmp 20) rfl w.heap.size _ _ _ rfl HO1.out wo.heap.size 0 1 1 [.int .u8 (s[k].toNat:Int)] rfl rfl HRN.out (by simp[Value.oneCell']) (by have:=HSZ.out;omega) (by have:=HSZ.out;omega) HZ7.out ?_;intro v8 w8 ho8 hg8)
   go_roundw
   case rel=>exact ⟨k+1,o++[c],by omega,by omega,by simp;omega,by go_num,HN.out,OwnL.snoc (by rw[HCC.out];exact ho8),(HB.out.alloc HB.out.size _).grown hg8 HZ7.out HO1.out.lt⟩
   case measure=>simp[intOf];omega
structure EnvL (w:World):Prop where
 tab : Lib.TabIs Tryz.prog w "internal/strconv.uint64pow10" .u64 Lib.pow10Tab
 syn:∃t p,w.cell? ⟨5,0,none⟩=some (.iface t p)
 rng:∃t p,w.cell? ⟨6,0,none⟩=some (.iface t p)
theorem EnvL.below {w w':World} (h:EnvL w) (hb:Below w.heap.size w w'):EnvL w':=by
 obtain ⟨t,p,hs⟩:=h.syn;obtain ⟨t',p',hr⟩:=h.rng;exact ⟨Lib.tabBelow_of_tabIs h.tab w' hb,⟨t,p,zA hb hs⟩,⟨t',p',zA hb hr⟩⟩
theorem fmtL_any (n:Int) (hn:In64 n) (w:World) (ht:EnvL w) :
  Calls Tryz.prog 55 #[.int .i64 n,.int .i64 10] w fun e w'=>e = .returned (.string (bA (Lib.itoa n)))∧Below w.heap.size w w' :=
 (Tryz.strconv_FormatInt_10 n hn.1 hn.2 w ht.tab).mono fun e w' ⟨he,k,os,hw⟩=>⟨he,by subst hw;exact Lib.below_grow _ _ (Nat.le_refl _) _ _⟩
def NmPost (w:World) (T:List UInt8) (e:Ending) (w':World):Prop:=∃ (v n:Int) (ok:Bool),e = .returned (.tuple #[.int .i64 v,.int .i64 n,.bool ok])∧n=(T.length:Int)∧(match intL T with
 | some x=>ok=true∧v=x
 | none=>ok=false)∧Below w.heap.size w w'
theorem ext_take {s:ByteArray} {n:Nat}:(s.extract 0 n).data.toList=s.data.toList.take n:=by
 rw[Lib.extract_data];simp
theorem byte_list {a:ByteArray} {l:List UInt8}:bA l=a↔l=a.data.toList:=by
 constructor
 ·rintro rfl;rfl
 ·rintro rfl;rfl
theorem num_end (v:Int) {a:ByteArray} {T:List UInt8} (h:a.data.toList=T):match if Lib.itoa v=T then some v else none with
 | some x=>((bA (Lib.itoa v)).toList==a.toList)=true∧v=x
 | none=>((bA (Lib.itoa v)).toList==a.toList)=false:=by
 rw[Lib.toList_data,Lib.toList_data,h]
 by_cases e:Lib.itoa v=T
 ·rw[if_pos e]
  exact ⟨by rw[show (bA (Lib.itoa v)).data.toList=Lib.itoa v from rfl,e];simp,rfl⟩
 ·rw[if_neg e]
  show (Lib.itoa v==T)=false
  simp[e]
theorem number_any (s:ByteArray) (hs:s.size≤140737488355328) (h1:0<s.size) (w:World) (hE:EnvL w):Calls Tryz.prog 118 #[.string s] w (NmPost w (s.data.toList.take (1+digiK (s.data.toList.drop 1)))):=by
 have HSZ:=zh hs;have HE:=zh hE;obtain ⟨T,hT⟩:∃T,s.data.toList.take (1+digiK (s.data.toList.drop 1))=T:=⟨_,rfl⟩;rw[hT];have HT:=zh hT;clear hT hE;have hsl:s.data.toList.length=s.size:=rfl;have HAT:Hid (∀k,1≤k→k≤s.size→(∀j (hj:j<s.size),1≤j→j<k→zZ s[j]=true)→(∀h:k<s.size,zZ s[k]=false)→s.data.toList.take k=T):=fun k hk1 hk2 ha hb=>by
  rw[←HT.out];have:=digiK_at (l:=s.data.toList.drop 1) (n:=k - 1) (by rw[List.length_drop];omega) (fun i hi hik=>by
   rw[List.getElem_drop];exact ha (1+i) (by rw[List.length_drop] at hi;omega) (by omega) (by omega)) (fun h=>by
   rw[List.getElem_drop];have e:1+(k - 1)=k:=by omega
   have h2:k<s.size:=by rw[List.length_drop] at h;omega
   have:=hb h2;simp only[e];exact this)
  rw[this,show 1+(k - 1)=k by omega]
 clear hsl
 go_enter Tryz.func118,Tryz.ntmps118
 go_wp2
 go_loopw [5] (fun i wr=>∃k:Nat,1≤k∧k≤s.size∧i = .int .i64 k∧wr=w∧Hid (∀j (hj:j<s.size),1≤j→j<k→zZ s[j]=true)) (fun i _=>s.size - (intOf i).toNat)
 case atStart=>exact ⟨1,by omega,by omega,rfl,rfl,fun j _ h1 h2=>absurd h1 (by omega)⟩
 case round =>
  obtain ⟨k,hk1,hk2,rfl,rfl,hh⟩:=hrel;have g1:(0:Int)≤(k:Int):=by omega
  by_cases hlt:k<s.size
  ·have g2:(k:Int)<(s.size:Int):=by omega
   cases hd:digI (s[k].toNat:Int) with
   | true =>
    have HD:=zh hd;have HN:Hid (∀j (hj:j<s.size),1≤j→j<k+1→zZ s[j]=true):=fun j hj h1 h2=>by
     by_cases e:j=k
     ·subst e;exact hd
     ·exact hh.out j hj h1 (by omega)
    clear hd hh;go_wp2_with (go_at_call 117;refine (isDigit_any _ _).mono ?_;rintro e w' ⟨rfl,rfl⟩;rw[HD.out]);go_roundw
    case rel=>exact ⟨k+1,by omega,by omega,by go_num,trivial,HN.out⟩
    case measure=>simp[intOf];omega
   | false =>
    have HD:=zh hd;have HK:=zh (HAT.out k hk1 hk2 hh.out fun _=>hd)
    clear hd hh;go_wp2_with (go_at_call 117;refine (isDigit_any _ _).mono ?_;rintro e w' ⟨rfl,rfl⟩;rw[HD.out]);have HX:Hid ((s.extract 0 k).data.toList=T):=by show _=_;rw[ext_take];exact HK.out
    have HTL:Hid (T.length=k):=by show _=_;rw[←HK.out,List.length_take];(have:s.data.toList.length=s.size:=rfl);omega
    have h0:(s.extract 0 k).size=T.length:=by rw[←HX.out];rfl
    have hez:(s.extract 0 k).size≤140737488355328:=by rw[h0,HTL.out];have:=HSZ.out;omega
    have HEZ:=zh hez;clear hez h0
    rcases hp:Lib.parseIntB 64 (s.extract 0 k).data.toList with v|_|_
    ·
     have hvb:=Lib.parseIntB_bounds hp;have e2:(2 ^ (64 - 1):Nat)=9223372036854775808:=by decide
     rw[e2] at hvb;have HV:Hid (In64 v):=⟨by omega,by omega⟩
     have HI:Hid (intL T=if Lib.itoa v=T then some v else none):=by show _=_;rw[←HX.out];unfold intL;rw[hp]
     refine (Tryz.strconv_ParseInt_10_at64_ok _ (by have:=HEZ.out;omega) v hp _).mono ?_
     rintro e w5 ⟨rfl,hw5⟩;have HB5:Hid (Below wr.heap.size wr w5):=by
      show Below _ _ _
      rcases hw5 with rfl|⟨t,rfl⟩
      ·exact Below.refl _ _
      ·exact Lib.bytesWorld_below _ _ _
     have HE5:=zh (HE.out.below HB5.out);clear hw5 hp hvb e2;go_wp2_with fail;refine wp_region_held_drew (S:=(fun w'=>Hid (EnvL w')∧Hid (Below wr.heap.size wr w'))) (by kernel_rfl) ?_ (fun zH_=>?_)
     ·(try dsimp only);exact ⟨HE5.out.below (zC (Below.refl _ _) 1),zC HB5.out 1⟩
     refine tL 0 ?_;refine tL 1 ?_;refine tL 2 ?_;refine tL 3 ?_;refine tL 4 ?_;refine tL 5 ?_;try simp only[ps]
     refine tL 7 ?_;refine tL 8 ?_;refine tL 9 ?_;refine tR 6 (fun K hK=>?_)
     go_simp
     (refine (fmtL_any v HV.out _ zH_.1.out).mono ?_;rintro e w6 ⟨rfl,hb6⟩;have HB6:=zh (zB zH_.2.out hb6);have HE6:=zh (zH_.1.out.below hb6);clear hb6)
     refine hK.out _ _ ?_ (fun zH_=>?_)
     ·(try dsimp only);exact ⟨HE6.out,HB6.out⟩
     clear hK K;refine tL 10 ?_;refine tL 11 ?_;try simp only[ps]
     refine tL 12 ?_;refine tL 13 ?_;refine tL 14 ?_;refine wpAnyH_done (by kernel_rfl) ?_ _
     go_wp2
     go_ret3
     refine ⟨_,_,_,rfl,by rw[HTL.out],?_,zH_.2.out⟩
     rw[HI.out];exact num_end v HX.out
    ·
     have HI:Hid (intL T=none):=by show _=_;rw[←HX.out];unfold intL;rw[hp]
     obtain ⟨t,p,hv⟩:=HE.out.syn;refine (Tryz.strconv_ParseInt_10_at64_syntax _ (by have:=HEZ.out;omega) hp (.iface t p) _ hv (Or.inr ⟨t,p,rfl⟩)).mono ?_
     rintro e w5 ⟨N,rfl,_,_,hb5⟩;have HB5:=zh hb5;clear hp hv hb5;go_wp2_with fail
     go_quiet (fail)
     go_wp2
     go_ret3
     exact ⟨_,_,_,rfl,by rw[HTL.out],by rw[HI.out],zC HB5.out _⟩
    ·
     have HI:Hid (intL T=none):=by show _=_;rw[←HX.out];unfold intL;rw[hp]
     obtain ⟨t,p,hv⟩:=HE.out.rng;refine (Tryz.strconv_ParseInt_10_at64_range _ (by have:=HEZ.out;omega) hp (.iface t p) _ hv (Or.inr ⟨t,p,rfl⟩)).mono ?_
     rintro e w5 ⟨N,rfl,_,_,hb5⟩;have HB5:=zh hb5;clear hp hv hb5;go_wp2_with fail
     go_quiet (fail)
     go_wp2
     go_ret3
     exact ⟨_,_,_,rfl,by rw[HTL.out],by rw[HI.out],zC HB5.out _⟩
  ·have HK:=zh (HAT.out k hk1 hk2 hh.out fun h=>absurd h hlt)
   have g2:¬ (k:Int)<(s.size:Int):=by omega
   clear hh;go_wp2_with fail;have HX:Hid ((s.extract 0 k).data.toList=T):=by show _=_;rw[ext_take];exact HK.out
   have HTL:Hid (T.length=k):=by show _=_;rw[←HK.out,List.length_take];(have:s.data.toList.length=s.size:=rfl);omega
   have h0:(s.extract 0 k).size=T.length:=by rw[←HX.out];rfl
   have hez:(s.extract 0 k).size≤140737488355328:=by rw[h0,HTL.out];have:=HSZ.out;omega
   have HEZ:=zh hez;clear hez h0
   rcases hp:Lib.parseIntB 64 (s.extract 0 k).data.toList with v|_|_
   ·
    have hvb:=Lib.parseIntB_bounds hp;have e2:(2 ^ (64 - 1):Nat)=9223372036854775808:=by decide
    rw[e2] at hvb;have HV:Hid (In64 v):=⟨by omega,by omega⟩
    have HI:Hid (intL T=if Lib.itoa v=T then some v else none):=by show _=_;rw[←HX.out];unfold intL;rw[hp]
    refine (Tryz.strconv_ParseInt_10_at64_ok _ (by have:=HEZ.out;omega) v hp _).mono ?_
    rintro e w5 ⟨rfl,hw5⟩;have HB5:Hid (Below wr.heap.size wr w5):=by
     show Below _ _ _
     rcases hw5 with rfl|⟨t,rfl⟩
     ·exact Below.refl _ _
     ·exact Lib.bytesWorld_below _ _ _
    have HE5:=zh (HE.out.below HB5.out);clear hw5 hp hvb e2;go_wp2_with fail;refine wp_region_held_drew (S:=(fun w'=>Hid (EnvL w')∧Hid (Below wr.heap.size wr w'))) (by kernel_rfl) ?_ (fun zH_=>?_)
    ·(try dsimp only);exact ⟨HE5.out.below (zC (Below.refl _ _) 1),zC HB5.out 1⟩
    refine tL 0 ?_;refine tL 1 ?_;refine tL 2 ?_;try simp only[ps]
    refine tL 3 ?_;refine tL 4 ?_;refine tL 5 ?_;refine tL 7 ?_;refine tL 8 ?_;refine tL 9 ?_;try simp only[ps]
    refine tR 6 (fun K hK=>?_)
    go_simp
    (refine (fmtL_any v HV.out _ zH_.1.out).mono ?_;rintro e w6 ⟨rfl,hb6⟩;have HB6:=zh (zB zH_.2.out hb6);have HE6:=zh (zH_.1.out.below hb6);clear hb6)
    refine hK.out _ _ ?_ (fun zH_=>?_)
    ·(try dsimp only);exact ⟨HE6.out,HB6.out⟩
    clear hK K;refine tL 10 ?_;refine tL 11 ?_;refine tL 12 ?_;refine tL 13 ?_;refine tL 14 ?_;try simp only[ps]
    refine wpAnyH_done (by kernel_rfl) ?_ _
    go_wp2
    go_ret3
    refine ⟨_,_,_,rfl,by rw[HTL.out],?_,zH_.2.out⟩
    rw[HI.out];exact num_end v HX.out
   ·
    have HI:Hid (intL T=none):=by show _=_;rw[←HX.out];unfold intL;rw[hp]
    obtain ⟨t,p,hv⟩:=HE.out.syn;refine (Tryz.strconv_ParseInt_10_at64_syntax _ (by have:=HEZ.out;omega) hp (.iface t p) _ hv (Or.inr ⟨t,p,rfl⟩)).mono ?_
    rintro e w5 ⟨N,rfl,_,_,hb5⟩;have HB5:=zh hb5;clear hp hv hb5;go_wp2_with fail
    go_quiet (fail)
    go_wp2
    go_ret3
    exact ⟨_,_,_,rfl,by rw[HTL.out],by rw[HI.out],zC HB5.out _⟩
   ·
    have HI:Hid (intL T=none):=by show _=_;rw[←HX.out];unfold intL;rw[hp]
    obtain ⟨t,p,hv⟩:=HE.out.rng;refine (Tryz.strconv_ParseInt_10_at64_range _ (by have:=HEZ.out;omega) hp (.iface t p) _ hv (Or.inr ⟨t,p,rfl⟩)).mono ?_
    rintro e w5 ⟨N,rfl,_,_,hb5⟩;have HB5:=zh hb5;clear hp hv hb5;go_wp2_with fail
    go_quiet (fail)
    go_wp2
    go_ret3
    exact ⟨_,_,_,rfl,by rw[HTL.out],by rw[HI.out],zC HB5.out _⟩
def IdxP {α:Type} (p:α→Bool) (l:List α) (i:Int):Prop:=(i = -1∧∀j (h:j<l.length),p l[j]=false)∨∃ (k:Nat) (h:k<l.length),i=(k:Int)∧p l[k]=true∧∀j (hj:j<l.length),j<k→p l[j]=false
def preB (s x:ByteArray):Bool:=Lib.hasPrefix s.data.toList x.data.toList
theorem tok1_any (s:ByteArray) (q:Nat) (x:ByteArray) (w:World) (hq:w.cell? ⟨q,0,none⟩=some (.string s)) :
  Calls Tryz.prog 121 #[.string x,.pointer (some ⟨q,0,none⟩)] w fun e w'=>e = .returned (.bool (preB s x))∧Below w.heap.size w w':=by
 have hlt:=zL hq;simp only at hlt;have HP:Hid (Lib.hasPrefix s.data.toList x.data.toList=preB s x):=rfl
 go_enter Tryz.func121,Tryz.ntmps121
 go_wp2_with (go_at_call 75;refine (Tryz.strings_HasPrefix s x _).mono ?_;rintro e w' ⟨rfl,rfl⟩;rw[HP.out])
 go_ret
 exact ⟨rfl,Below.refl _ _⟩
theorem idxTok_any (s:ByteArray) (q:Nat) (l:List ByteArray) (A:zo) (c:Nat) (w:World) (hl:StrsR w A l) (hq:w.cell? ⟨q,0,none⟩=some (.string s)) :
  Calls Tryz.prog 120 #[.slice A l.length c,.func (.func 121) #[] #[.pointer (some ⟨q,0,none⟩)]] w fun e w'=>∃i,e = .returned (.int .i64 i)∧IdxP (preB s) l i∧Below w.heap.size w w':=by
 have hln:=hl.1;unfold Lim at hln;have HL:=zh hl;have HQ:=zh hq;clear hl hq
 go_enter Tryz.func120,Tryz.ntmps120
 go_wp2
 go_loopw [8] (fun i wr=>∃k:Nat,k≤l.length∧i = .int .i64 (k:Int)∧Hid ((∀j (h:j<l.length),j<k→preB s l[j]=false)∧Below w.heap.size w wr)) (fun i _=>l.length - (intOf i).toNat)
 case atStart=>exact ⟨0,by omega,rfl,(fun j _ h=>absurd h (by omega)),Below.refl _ _⟩
 case round =>
  obtain ⟨k,hk,rfl,hh⟩:=hrel
  by_cases hlt:k<l.length
  ·obtain ⟨b,o,rfl,hr1,a0⟩:=(HL.out.below hh.out.2).at1 hlt
   clear hr1;have h1:(0:Int)≤(k:Int):=by omega
   have h2:(k:Int)<(l.length:Int):=by omega
   cases he:preB s l[k] with
   | true =>
    have HD:=zh he;have HI:Hid (IdxP (preB s) l (k:Int)):=Or.inr ⟨k,hlt,rfl,he,hh.out.1⟩;clear he;go_wp2_with (go_at_call 121;refine (tok1_any s q l[k] _ (zA hh.out.2 HQ.out)).mono ?_;rintro e w2 ⟨rfl,hb2⟩;rw[HD.out]);go_ret;exact ⟨_,rfl,HI.out,zB hh.out.2 hb2⟩
   | false =>
    have HD:=zh he;have HN:Hid (∀j (h:j<l.length),j<k+1→preB s l[j]=false):=fun j h hj=>by
     by_cases e:j=k
     ·subst e;exact he
     ·exact hh.out.1 j h (by omega)
    clear he;go_wp2_with (go_at_call 121;refine (tok1_any s q l[k] _ (zA hh.out.2 HQ.out)).mono ?_;rintro e w2 ⟨rfl,hb2⟩;rw[HD.out]);go_roundw
    case rel=>exact ⟨k+1,by omega,by go_num,HN.out,zB hh.out.2 hb2⟩
    case measure=>simp[intOf];omega
  ·have HI:Hid (IdxP (preB s) l (-1)):=Or.inl ⟨rfl,fun j h=>hh.out.1 j h (by omega)⟩
   go_wp2
   go_ret
   exact ⟨_,rfl,HI.out,hh.out.2⟩
theorem nblkL {w w':World} {g:Nat} {o:Obj} (h:w.heap[g]? = some o) (hb:Below w.heap.size w w'):w'.heap[g]? = some o:=(hb.block _ (zg.1 h).1).trans h
def TkPost (w:World) (L:List UInt8) (e:Ending) (w':World):Prop:=∃ (u:TokD) (n:Int) (ok:Bool),e = .returned (.tuple #[.agg (encT u).toArray,.int .i64 n,.bool ok])∧(match tokL L with
 | some p=>ok=true∧u=p.1∧n=(p.2:Int)
 | none=>ok=false)∧Below w.heap.size w w'
theorem tk_some {w w':World} {L:List UInt8} {u:TokD} {k:Nat} (h:tokL L=some (u,k)) (hb:Below w.heap.size w w') {cs:Array Value} {n:Int} {ok:Bool} (hc:cs=(encT u).toArray) (hn:n=(k:Int)) (hk:ok=true):TkPost w L (.returned (.tuple #[.agg cs,.int .i64 n,.bool ok])) w' :=
 ⟨u,n,ok,by rw[hc],by rw[h];exact ⟨hk,rfl,hn⟩,hb⟩
theorem tk_none {w w':World} {L:List UInt8} (h:tokL L=none) (hb:Below w.heap.size w w') (u:TokD) {cs:Array Value} {n:Int} {ok:Bool} (hc:cs=(encT u).toArray) (hk:ok=false):TkPost w L (.returned (.tuple #[.agg cs,.int .i64 n,.bool ok])) w' :=
 ⟨u,n,ok,by rw[hc],by rw[h];exact hk,hb⟩
theorem word_end {w w':World} {s:ByteArray} {L r:List UInt8} {c:UInt8} {k:Nat} (hL:s.data.toList=L) (h0:L=c::r) (hc:letC (c.toNat:Int)=true) (hk:lettK L=k) (hb:Below w.heap.size w w') :
  TkPost w L (.returned (.tuple #[.agg #[.int .i64 1,.string (s.extract 0 k),.int .i64 0,.string ⟨#[]⟩,.int .i64 0],.int .i64 k,.bool (decide ((k:Int)≤24))])) w':=by
 have e:bA (L.take k)=s.extract 0 k:=byte_list.2 (by rw[ext_take,hL])
 have ht:tokL L=if k≤24 then some (⟨1,bA (L.take k),0,⟨#[]⟩,0⟩,k) else none:=by
  rw[←hk];subst h0;rw[tokL,if_pos (show isLetB c=true from hc)]
 by_cases h:k≤24
 ·rw[if_pos h] at ht
  exact tk_some ht hb (by rw[e];rfl) rfl (decide_eq_true (by omega))
 ·rw[if_neg h] at ht
  exact tk_none ht hb ⟨1,s.extract 0 k,0,⟨#[]⟩,0⟩ rfl (decide_eq_false (by omega))
theorem tok_word (s:ByteArray) (hs:s.size≤140737488355328) (h1:0<s.size) (hl:letC (s[0].toNat:Int)=true) (w:World):Calls Tryz.prog 77 #[.string s] w (TkPost w s.data.toList):=by
 have HSZ:=zh hs;have HL:=zh hl;have HL0:=zh (list0 h1);obtain ⟨L,hL⟩:∃L,s.data.toList=L:=⟨_,rfl⟩;have HLL:=zh hL;rw[hL];rw[hL] at HL0;have HAT:Hid (∀k,1≤k→k≤s.size→(∀j (hj:j<s.size),j<k→chB s[j]=true)→(∀h:k<s.size,chB s[k]=false)→lettK L=k):=fun k hk1 hk2 ha hb=>by
  refine lettK_at (by rw[←HLL.out];exact hk2) (fun i hi hik=>?_) fun h=>?_
  ·have h2:i<s.size:=by rw[←HLL.out] at hi;exact hi
   have:=ha i h2 hik;have e:L[i]=s[i]:=by simp only[←HLL.out];rfl
   rw[e];exact this
  ·have h2:k<s.size:=by rw[←HLL.out] at h;exact h
   have:=hb h2;have e:L[k]=s[k]:=by simp only[←HLL.out];rfl
   rw[e];exact this
 clear hL hl;obtain ⟨HB1,HX0,HX1⟩:=zy w (.cells #[.string s] 9) (.cells #[.int .i64 0,.string ⟨#[]⟩,.int .i64 0,.string ⟨#[]⟩,.int .i64 0] 59)
 go_enter Tryz.func77,Tryz.ntmps77
 go_upto_region 1 with fail
 generalize (w.alloc (.cells #[.string s] 9)).alloc (.cells #[.int .i64 0,.string ⟨#[]⟩,.int .i64 0,.string ⟨#[]⟩,.int .i64 0] 59)=W1 at *;have x0:W1.cell? ⟨w.heap.size,0,none⟩=some (.string s):=by rw[cell_of_row _ _ _ _ _ _ HX0.out];rfl
 go_wp2_with (go_at_call 116;refine (yI _ _).mono ?_;rintro e w' ⟨rfl,rfl⟩;rw[HL.out])
 have HX01:=zh x0;clear x0
 go_loopw [5] (fun i wr=>∃k:Nat,1≤k∧k≤s.size∧i = .int .i64 k∧Hid (wr=W1∧∀j (hj:j<s.size),j<k→chB s[j]=true)) (fun i _=>s.size - (intOf i).toNat)
 case atStart=>exact ⟨1,by omega,by omega,rfl,rfl,fun j hj h=>by
  obtain rfl:j=0:=by omega
  unfold chB;rw[HL.out];rfl⟩
 case round =>
  obtain ⟨k,hk1,hk2,rfl,hh⟩:=hrel;obtain ⟨hw,hcc⟩:=hh.out;have HC:=zh hcc;clear hh hcc;subst hw;have x0:=HX01.out;have g1:(0:Int)≤(k:Int):=by omega
  by_cases hlt:k<s.size
  ·have g2:(k:Int)<(s.size:Int):=by omega
   cases hd:letC (s[k].toNat:Int) with
   | true =>
    have HD:=zh hd;have HN:Hid (∀j (hj:j<s.size),j<k+1→chB s[j]=true):=fun j hj h2=>by
     by_cases e:j=k
     ·subst e;unfold chB;rw[hd];rfl
     ·exact HC.out j hj (by omega)
    clear hd;go_wp2_with (go_at_call 116;refine (yI _ _).mono ?_;rintro e w' ⟨rfl,rfl⟩;rw[HD.out]);go_roundw
    case rel=>exact ⟨k+1,by omega,by omega,by go_num,trivial,HN.out⟩
    case measure=>simp[intOf];omega
   | false =>
    have HD:=zh hd;clear hd
    cases hd2:digI (s[k].toNat:Int) with
    | true =>
     have HD2:=zh hd2;have HN:Hid (∀j (hj:j<s.size),j<k+1→chB s[j]=true):=fun j hj h2=>by
      by_cases e:j=k
      ·subst e;unfold chB;rw[HD.out,hd2];rfl
      ·exact HC.out j hj (by omega)
     clear hd2;go_wp2_with (first|(go_at_call 116;refine (yI _ _).mono ?_;rintro e w' ⟨rfl,rfl⟩;rw[HD.out])|(go_at_call 117;refine (isDigit_any _ _).mono ?_;rintro e w' ⟨rfl,rfl⟩;rw[HD2.out]));go_roundw
     case rel=>exact ⟨k+1,by omega,by omega,by go_num,trivial,HN.out⟩
     case measure=>simp[intOf];omega
    | false =>
     have HD2:=zh hd2;have t0:wr.cell? ⟨w.heap.size+1,0,none⟩=some (.int .i64 0):=by rw[cell_of_row _ _ _ _ _ _ HX1.out];rfl
     have t1:wr.cell? ⟨w.heap.size+1,1,none⟩=some (.string ⟨#[]⟩):=by rw[cell_of_row _ _ _ _ _ _ HX1.out];rfl
     have t2:wr.cell? ⟨w.heap.size+1,2,none⟩=some (.int .i64 0):=by rw[cell_of_row _ _ _ _ _ _ HX1.out];rfl
     have t3:wr.cell? ⟨w.heap.size+1,3,none⟩=some (.string ⟨#[]⟩):=by rw[cell_of_row _ _ _ _ _ _ HX1.out];rfl
     have t4:wr.cell? ⟨w.heap.size+1,4,none⟩=some (.int .i64 0):=by rw[cell_of_row _ _ _ _ _ _ HX1.out];rfl
     have f0:=frozen_of_row _ _ 0 _ _ HX1.out;have f1:=frozen_of_row _ _ 1 _ _ HX1.out;have f2:=frozen_of_row _ _ 2 _ _ HX1.out;have f3:=frozen_of_row _ _ 3 _ _ HX1.out;have f4:=frozen_of_row _ _ 4 _ _ HX1.out;have HK:=zh (HAT.out k hk1 hk2 HC.out fun _=>by unfold chB;rw[HD.out,hd2];rfl)
     clear hd2;go_wp2_with (first|(go_at_call 116;refine (yI _ _).mono ?_;rintro e w' ⟨rfl,rfl⟩;rw[HD.out])|(go_at_call 117;refine (isDigit_any _ _).mono ?_;rintro e w' ⟨rfl,rfl⟩;rw[HD2.out]))
     refine bodyPost_ret (v := .tuple #[.agg #[.int .i64 1,.string (s.extract 0 k),.int .i64 0,.string ⟨#[]⟩,.int .i64 0],.int .i64 k,.bool (decide ((k:Int)≤24))]) (by simp[results,Tryz.results77,go_sem,t0,t1,t2,t3,t4]) rfl ?_
     exact word_end HLL.out HL0.out HL.out HK.out (((((HB1.out.setCell (p:=⟨w.heap.size+1,0,none⟩) (by simp) _).setCell (p:=⟨w.heap.size+1,1,none⟩) (by simp) _).setCell (p:=⟨w.heap.size+1,2,none⟩) (by simp) _).setCell (p:=⟨w.heap.size+1,3,none⟩) (by simp) _).setCell (p:=⟨w.heap.size+1,4,none⟩) (by simp) _)
  ·have HK:=zh (HAT.out k hk1 hk2 HC.out fun h=>absurd h hlt)
   have g2:¬ (k:Int)<(s.size:Int):=by omega
   have t0:wr.cell? ⟨w.heap.size+1,0,none⟩=some (.int .i64 0):=by rw[cell_of_row _ _ _ _ _ _ HX1.out];rfl
   have t1:wr.cell? ⟨w.heap.size+1,1,none⟩=some (.string ⟨#[]⟩):=by rw[cell_of_row _ _ _ _ _ _ HX1.out];rfl
   have t2:wr.cell? ⟨w.heap.size+1,2,none⟩=some (.int .i64 0):=by rw[cell_of_row _ _ _ _ _ _ HX1.out];rfl
   have t3:wr.cell? ⟨w.heap.size+1,3,none⟩=some (.string ⟨#[]⟩):=by rw[cell_of_row _ _ _ _ _ _ HX1.out];rfl
   have t4:wr.cell? ⟨w.heap.size+1,4,none⟩=some (.int .i64 0):=by rw[cell_of_row _ _ _ _ _ _ HX1.out];rfl
   have f0:=frozen_of_row _ _ 0 _ _ HX1.out;have f1:=frozen_of_row _ _ 1 _ _ HX1.out;have f2:=frozen_of_row _ _ 2 _ _ HX1.out;have f3:=frozen_of_row _ _ 3 _ _ HX1.out;have f4:=frozen_of_row _ _ 4 _ _ HX1.out;go_wp2
   refine bodyPost_ret (v := .tuple #[.agg #[.int .i64 1,.string (s.extract 0 k),.int .i64 0,.string ⟨#[]⟩,.int .i64 0],.int .i64 k,.bool (decide ((k:Int)≤24))]) (by simp[results,Tryz.results77,go_sem,t0,t1,t2,t3,t4]) rfl ?_
   exact word_end HLL.out HL0.out HL.out HK.out (((((HB1.out.setCell (p:=⟨w.heap.size+1,0,none⟩) (by simp) _).setCell (p:=⟨w.heap.size+1,1,none⟩) (by simp) _).setCell (p:=⟨w.heap.size+1,2,none⟩) (by simp) _).setCell (p:=⟨w.heap.size+1,3,none⟩) (by simp) _).setCell (p:=⟨w.heap.size+1,4,none⟩) (by simp) _)
theorem num_tok {w w':World} {L r:List UInt8} {c:UInt8} (h0:L=c::r) (hl:isLetB c=false) (hd:(zZ c||(decide (c.toNat=45)&&zZ (r.headD 0)))=true) (hb:Below w.heap.size w w') {v n:Int} {ok:Bool}
  (hn:n=((L.take (1+digiK (L.drop 1))).length:Int)) (hi:match intL (L.take (1+digiK (L.drop 1))) with
 | some x=>ok=true∧v=x
 | none=>ok=false):TkPost w L (.returned (.tuple #[.agg #[.int .i64 2,.string ⟨#[]⟩,.int .i64 v,.string ⟨#[]⟩,.int .i64 0],.int .i64 n,.bool ok])) w':=by
 subst h0;have hk:=digiK_le r;have ht:tokL (c::r)=(intL ((c::r).take (1+digiK r))).map fun v=>(⟨2,⟨#[]⟩,v,⟨#[]⟩,0⟩,1+digiK r):=by
  rw[tokL,if_neg (by rw[hl];simp),if_pos hd]
 rw[List.drop_one,List.tail_cons] at hn hi;have hlen:((c::r).take (1+digiK r)).length=1+digiK r:=by rw[List.length_take,List.length_cons];omega
 rw[hlen] at hn
 cases hx:intL ((c::r).take (1+digiK r)) with
 | none =>
  rw[hx] at hi ht;exact tk_none ht hb ⟨2,⟨#[]⟩,v,⟨#[]⟩,0⟩ rfl hi
 | some x =>
  rw[hx] at hi ht;obtain ⟨h1,rfl⟩:=hi;exact tk_some ht hb rfl hn h1
theorem str_tok {w w':World} {L r:List UInt8} {c:UInt8} (h0:L=c::r) (hc:c.toNat=34) (hb:Below w.heap.size w w') {u:ByteArray} {n:Int} {ok:Bool}
  (hi:match quoL (L.drop 1) with
 | some p=>ok=true∧u=bA p.1∧n=((p.2+1:Nat):Int)
 | none=>ok=false):TkPost w L (.returned (.tuple #[.agg #[.int .i64 3,.string ⟨#[]⟩,.int .i64 0,.string u,.int .i64 0],.int .i64 n,.bool ok])) w':=by
 subst h0;have ht:tokL (c::r)=(quoL r).map fun p=>(⟨3,⟨#[]⟩,0,bA p.1,0⟩,p.2+1):=by
  have e1:isLetB c=false:=by
   cases h:isLetB c with
   | false=>rfl
   | true=>unfold isLetB letC at h;rw[hc] at h;exact absurd h (by decide)
  have e2:zZ c=false:=by
   cases h:zZ c with
   | false=>rfl
   | true=>unfold zZ digI at h;rw[hc] at h;exact absurd h (by decide)
  rw[tokL,e1,if_neg (by simp),e2,if_neg (by simp[hc]),if_pos hc]
 rw[List.drop_one,List.tail_cons] at hi
 cases hx:quoL r with
 | none =>
  rw[hx] at hi ht;exact tk_none ht hb ⟨3,⟨#[]⟩,0,u,0⟩ rfl hi
 | some p =>
  rw[hx] at hi ht;obtain ⟨h1,rfl,h3⟩:=hi;exact tk_some ht hb rfl h3 h1
theorem tok_dig (s:ByteArray) (hs:s.size≤140737488355328) (h1:0<s.size) (hl:isLetB s[0]=false) (hd:zZ s[0]=true) (w:World) (hE:EnvL w):Calls Tryz.prog 77 #[.string s] w (TkPost w s.data.toList):=by
 have HDG:Hid ((zZ s[0]||(decide (s[0].toNat=45)&&zZ ((s.data.toList.drop 1).headD 0)))=true):=by show _=_;rw[hd];rfl
 have HD:Hid (digI (s[0].toNat:Int)=true):=hd;have hl':letC (s[0].toNat:Int)=false:=hl;have HE1:=zh (hE.below (zI w (.cells #[.string s] 9) (.cells #[.int .i64 0,.string ⟨#[]⟩,.int .i64 0,.string ⟨#[]⟩,.int .i64 0] 59)));clear hd hE;have HSZ:=zh hs;have HLF:Hid (letC (s[0].toNat:Int)=false):=hl'
 obtain ⟨HB1,HX0,HX1⟩:=zy w (.cells #[.string s] 9) (.cells #[.int .i64 0,.string ⟨#[]⟩,.int .i64 0,.string ⟨#[]⟩,.int .i64 0] 59);clear hl hl'
 go_enter Tryz.func77,Tryz.ntmps77
 go_upto_region 1 with fail
 generalize (w.alloc (.cells #[.string s] 9)).alloc (.cells #[.int .i64 0,.string ⟨#[]⟩,.int .i64 0,.string ⟨#[]⟩,.int .i64 0] 59)=W1 at *;have x0:W1.cell? ⟨w.heap.size,0,none⟩=some (.string s):=by rw[cell_of_row _ _ _ _ _ _ HX0.out];rfl
 go_wp2_with (first|(go_at_call 116;refine (yI _ _).mono ?_;rintro e w' ⟨rfl,rfl⟩;rw[HLF.out])|(go_at_call 117;refine (isDigit_any _ _).mono ?_;rintro e w' ⟨rfl,rfl⟩;rw[HD.out]))
 refine (number_any s HSZ.out h1 W1 HE1.out).mono ?_;rintro e w5 ⟨v,n,ok,rfl,hn,hi,hb⟩;have HX5:=zh (nblkL HX1.out hb);have HB5:=zh (zB HB1.out hb);have HF:=zh (fun w' (h:Below w.heap.size w w')=>num_tok (w:=w) (w':=w') (list0 h1) HLF.out HDG.out h hn hi)
 clear hb hn hi x0;have t0:w5.cell? ⟨w.heap.size+1,0,none⟩=some (.int .i64 0):=by rw[cell_of_row _ _ _ _ _ _ HX5.out];rfl
 have t1:w5.cell? ⟨w.heap.size+1,1,none⟩=some (.string ⟨#[]⟩):=by rw[cell_of_row _ _ _ _ _ _ HX5.out];rfl
 have t2:w5.cell? ⟨w.heap.size+1,2,none⟩=some (.int .i64 0):=by rw[cell_of_row _ _ _ _ _ _ HX5.out];rfl
 have t3:w5.cell? ⟨w.heap.size+1,3,none⟩=some (.string ⟨#[]⟩):=by rw[cell_of_row _ _ _ _ _ _ HX5.out];rfl
 have t4:w5.cell? ⟨w.heap.size+1,4,none⟩=some (.int .i64 0):=by rw[cell_of_row _ _ _ _ _ _ HX5.out];rfl
 have f0:=frozen_of_row _ _ 0 _ _ HX5.out;have f1:=frozen_of_row _ _ 1 _ _ HX5.out;have f2:=frozen_of_row _ _ 2 _ _ HX5.out;have f3:=frozen_of_row _ _ 3 _ _ HX5.out;have f4:=frozen_of_row _ _ 4 _ _ HX5.out;go_wp2
 refine bodyPost_ret (v := .tuple #[.agg #[.int .i64 2,.string ⟨#[]⟩,.int .i64 v,.string ⟨#[]⟩,.int .i64 0],.int .i64 n,.bool ok]) (by simp[results,Tryz.results77,go_sem,t0,t1,t2,t3,t4]) rfl ?_
 exact HF.out _ (((((HB5.out.setCell (p:=⟨w.heap.size+1,0,none⟩) (by simp) _).setCell (p:=⟨w.heap.size+1,1,none⟩) (by simp) _).setCell (p:=⟨w.heap.size+1,2,none⟩) (by simp) _).setCell (p:=⟨w.heap.size+1,3,none⟩) (by simp) _).setCell (p:=⟨w.heap.size+1,4,none⟩) (by simp) _)
theorem tok_str (s:ByteArray) (hs:s.size≤140737488355328) (h1:0<s.size) (hc:s[0].toNat=34) (w:World):Calls Tryz.prog 77 #[.string s] w (TkPost w s.data.toList):=by
 have hl:letC (s[0].toNat:Int)=false:=by rw[hc];decide
 have HD:Hid (digI (s[0].toNat:Int)=false):=by show _=_;rw[hc];decide
 have q1:((s[0].toNat:Int)==45)=false:=by rw[hc];decide
 have q2:((s[0].toNat:Int)==34)=true:=by rw[hc];decide
 have HCC:=zh hc;clear hc;have HSZ:=zh hs;have HLF:=zh hl;obtain ⟨HB1,HX0,HX1⟩:=zy w (.cells #[.string s] 9) (.cells #[.int .i64 0,.string ⟨#[]⟩,.int .i64 0,.string ⟨#[]⟩,.int .i64 0] 59);clear hl
 go_enter Tryz.func77,Tryz.ntmps77
 go_upto_region 1 with fail
 generalize (w.alloc (.cells #[.string s] 9)).alloc (.cells #[.int .i64 0,.string ⟨#[]⟩,.int .i64 0,.string ⟨#[]⟩,.int .i64 0] 59)=W1 at *;have x0:W1.cell? ⟨w.heap.size,0,none⟩=some (.string s):=by rw[cell_of_row _ _ _ _ _ _ HX0.out];rfl
 go_wp2_with (first|(go_at_call 116;refine (yI _ _).mono ?_;rintro e w' ⟨rfl,rfl⟩;rw[HLF.out])|(go_at_call 117;refine (isDigit_any _ _).mono ?_;rintro e w' ⟨rfl,rfl⟩;rw[HD.out]))
 refine (quoted_any s HSZ.out h1 W1).mono ?_;rintro e w5 ⟨u,n,ok,rfl,hi,hb⟩;have HX5:=zh (nblkL HX1.out hb);have HB5:=zh (zB HB1.out hb);have HF:=zh (fun w' (h:Below w.heap.size w w')=>str_tok (w:=w) (w':=w') (list0 h1) HCC.out h hi)
 clear hb hi x0 q1 q2;have t0:w5.cell? ⟨w.heap.size+1,0,none⟩=some (.int .i64 0):=by rw[cell_of_row _ _ _ _ _ _ HX5.out];rfl
 have t1:w5.cell? ⟨w.heap.size+1,1,none⟩=some (.string ⟨#[]⟩):=by rw[cell_of_row _ _ _ _ _ _ HX5.out];rfl
 have t2:w5.cell? ⟨w.heap.size+1,2,none⟩=some (.int .i64 0):=by rw[cell_of_row _ _ _ _ _ _ HX5.out];rfl
 have t3:w5.cell? ⟨w.heap.size+1,3,none⟩=some (.string ⟨#[]⟩):=by rw[cell_of_row _ _ _ _ _ _ HX5.out];rfl
 have t4:w5.cell? ⟨w.heap.size+1,4,none⟩=some (.int .i64 0):=by rw[cell_of_row _ _ _ _ _ _ HX5.out];rfl
 have f0:=frozen_of_row _ _ 0 _ _ HX5.out;have f1:=frozen_of_row _ _ 1 _ _ HX5.out;have f2:=frozen_of_row _ _ 2 _ _ HX5.out;have f3:=frozen_of_row _ _ 3 _ _ HX5.out;have f4:=frozen_of_row _ _ 4 _ _ HX5.out;go_wp2;refine bodyPost_ret (v := .tuple #[.agg #[.int .i64 3,.string ⟨#[]⟩,.int .i64 0,.string u,.int .i64 0],.int .i64 n,.bool ok]) (by simp[results,Tryz.results77,go_sem,t0,t1,t2,t3,t4]) rfl ?_
 exact HF.out _ (((((HB5.out.setCell (p:=⟨w.heap.size+1,0,none⟩) (by simp) _).setCell (p:=⟨w.heap.size+1,1,none⟩) (by simp) _).setCell (p:=⟨w.heap.size+1,2,none⟩) (by simp) _).setCell (p:=⟨w.heap.size+1,3,none⟩) (by simp) _).setCell (p:=⟨w.heap.size+1,4,none⟩) (by simp) _)
theorem snd_head {s:ByteArray} (h:1<s.size):(s.data.toList.drop 1).headD 0=s[1]:=by rw[list1 h];rfl
theorem tok_neg (s:ByteArray) (hs:s.size≤140737488355328) (h2:1<s.size) (h1:0<s.size) (hc:s[0].toNat=45) (hd:zZ s[1]=true) (w:World) (hE:EnvL w):Calls Tryz.prog 77 #[.string s] w (TkPost w s.data.toList):=by
 have hl:letC (s[0].toNat:Int)=false:=by rw[hc];decide
 have HDG:Hid ((zZ s[0]||(decide (s[0].toNat=45)&&zZ ((s.data.toList.drop 1).headD 0)))=true):=by show _=_;rw[snd_head h2,hd,hc];simp
 have HD:Hid (digI (s[0].toNat:Int)=false):=by show _=_;rw[hc];decide
 have HD1:Hid (digI (s[1].toNat:Int)=true):=hd;have q1:((s[0].toNat:Int)==45)=true:=by rw[hc];decide
 have i1:(1:Int)<(s.size:Int):=by omega
 have HE1:=zh (hE.below (zI w (.cells #[.string s] 9) (.cells #[.int .i64 0,.string ⟨#[]⟩,.int .i64 0,.string ⟨#[]⟩,.int .i64 0] 59)));clear hd hE hc;have HSZ:=zh hs;have HLF:=zh hl;obtain ⟨HB1,HX0,HX1⟩:=zy w (.cells #[.string s] 9) (.cells #[.int .i64 0,.string ⟨#[]⟩,.int .i64 0,.string ⟨#[]⟩,.int .i64 0] 59);clear hl
 go_enter Tryz.func77,Tryz.ntmps77
 go_upto_region 1 with fail
 generalize (w.alloc (.cells #[.string s] 9)).alloc (.cells #[.int .i64 0,.string ⟨#[]⟩,.int .i64 0,.string ⟨#[]⟩,.int .i64 0] 59)=W1 at *;have x0:W1.cell? ⟨w.heap.size,0,none⟩=some (.string s):=by rw[cell_of_row _ _ _ _ _ _ HX0.out];rfl
 go_wp2_with (first|(go_at_call 116;refine (yI _ _).mono ?_;rintro e w' ⟨rfl,rfl⟩;rw[HLF.out])|(go_at_call 117;refine (isDigit_any _ _).mono ?_;rintro e w' ⟨rfl,rfl⟩;first|rw[HD.out]|rw[HD1.out]))
 refine (number_any s HSZ.out h1 W1 HE1.out).mono ?_;rintro e w5 ⟨v,n,ok,rfl,hn,hi,hb⟩;have HX5:=zh (nblkL HX1.out hb);have HB5:=zh (zB HB1.out hb);have HF:=zh (fun w' (h:Below w.heap.size w w')=>num_tok (w:=w) (w':=w') (list0 h1) HLF.out HDG.out h hn hi)
 clear hb hn hi x0 q1;have t0:w5.cell? ⟨w.heap.size+1,0,none⟩=some (.int .i64 0):=by rw[cell_of_row _ _ _ _ _ _ HX5.out];rfl
 have t1:w5.cell? ⟨w.heap.size+1,1,none⟩=some (.string ⟨#[]⟩):=by rw[cell_of_row _ _ _ _ _ _ HX5.out];rfl
 have t2:w5.cell? ⟨w.heap.size+1,2,none⟩=some (.int .i64 0):=by rw[cell_of_row _ _ _ _ _ _ HX5.out];rfl
 have t3:w5.cell? ⟨w.heap.size+1,3,none⟩=some (.string ⟨#[]⟩):=by rw[cell_of_row _ _ _ _ _ _ HX5.out];rfl
 have t4:w5.cell? ⟨w.heap.size+1,4,none⟩=some (.int .i64 0):=by rw[cell_of_row _ _ _ _ _ _ HX5.out];rfl
 have f0:=frozen_of_row _ _ 0 _ _ HX5.out;have f1:=frozen_of_row _ _ 1 _ _ HX5.out;have f2:=frozen_of_row _ _ 2 _ _ HX5.out;have f3:=frozen_of_row _ _ 3 _ _ HX5.out;have f4:=frozen_of_row _ _ 4 _ _ HX5.out;go_wp2
 refine bodyPost_ret (v := .tuple #[.agg #[.int .i64 2,.string ⟨#[]⟩,.int .i64 v,.string ⟨#[]⟩,.int .i64 0],.int .i64 n,.bool ok]) (by simp[results,Tryz.results77,go_sem,t0,t1,t2,t3,t4]) rfl ?_
 exact HF.out _ (((((HB5.out.setCell (p:=⟨w.heap.size+1,0,none⟩) (by simp) _).setCell (p:=⟨w.heap.size+1,1,none⟩) (by simp) _).setCell (p:=⟨w.heap.size+1,2,none⟩) (by simp) _).setCell (p:=⟨w.heap.size+1,3,none⟩) (by simp) _).setCell (p:=⟨w.heap.size+1,4,none⟩) (by simp) _)
def symsB:List ByteArray:=symsT.map bA
structure SymE (w:World) (A:zo) (c:Nat):Prop where
 cell:w.cell? ⟨0,0,none⟩=some (.slice A 18 c)
 rows:StrsR w A symsB
theorem SymE.below {w w':World} {A:zo} {c:Nat} (h:SymE w A c) (hb:Below w.heap.size w w'):SymE w' A c:=⟨zA hb h.cell,h.rows.below hb⟩
theorem pre_iff {s x:ByteArray}:preB s x=true↔x.data.toList <+: s.data.toList:=by
 unfold preB Lib.hasPrefix;exact List.isPrefixOf_iff_prefix
theorem idx_sym {s:ByteArray} {i:Int} (h:IdxP (preB s) symsB i):(i = -1∧symL s.data.toList=none)∨∃ (k:Nat) (hk:k<symsT.length),i=(k:Int)∧symL s.data.toList=some symsT[k].length∧s.data.toList.take symsT[k].length=symsT[k]:=by
 have hl:symsB.length=symsT.length:=List.length_map ..;have hg:∀j (hj:j<symsT.length),(symsB[j]'(by rw[hl];exact hj)).data.toList=symsT[j]:=fun j hj=>by
  simp only[symsB,List.getElem_map];rfl
 have hno:∀j (hj:j<symsT.length),preB s (symsB[j]'(by rw[hl];exact hj))=false→¬ symsT[j] <+: s.data.toList:=fun j hj h hp=>by
  rw[←hg j hj] at hp;rw[pre_iff.2 hp] at h;cases h
 rcases h with ⟨h1,h2⟩|⟨k,hk,h1,h2,h3⟩
 ·exact Or.inl ⟨h1,sym_none fun j hj=>hno j hj (h2 j (by rw[hl];exact hj))⟩
 ·have hk':k<symsT.length:=by rw[←hl];exact hk
  have hp:=pre_iff.1 h2;rw[hg k hk'] at hp;have:=sym_found hk' hp fun j hj=>hno j (Nat.lt_trans hj hk') (h3 j (by rw[hl];omega) hj)
  exact Or.inr ⟨k,hk',h1,this.1,this.2⟩
theorem tok_sy {s:ByteArray} {r:List UInt8} {c:UInt8} (h0:s.data.toList=c::r) (hl:isLetB c=false) (hd:zZ c=false) (hn:(decide (c.toNat=45)&&zZ (r.headD 0))=false) (hc:c.toNat≠34):tokL s.data.toList=(symL s.data.toList).map fun n=>(⟨4,bA (s.data.toList.take n),0,⟨#[]⟩,0⟩,n):=by
 rw[h0,tokL,hl,if_neg (by simp),hd,hn,Bool.false_or,if_neg (by simp),if_neg hc]
theorem tok_no1 (s:ByteArray) (hs:s.size≤140737488355328) (h1:0<s.size) (h45:s[0].toNat≠45) (hl0:isLetB s[0]=false) (hd0:zZ s[0]=false) (hc:s[0].toNat≠34) (hsy:symL s.data.toList=none) (w:World) {A:zo} {c:Nat} (hE:SymE w A c):Calls Tryz.prog 77 #[.string s] w (TkPost w s.data.toList):=by
 have HTK:Hid (tokL s.data.toList=none):=by
  show _=_
  rw[tok_sy (list0 h1) hl0 hd0 (by simp[h45]) hc,hsy];rfl
 have hl:letC (s[0].toNat:Int)=false:=hl0;have HD:Hid (digI (s[0].toNat:Int)=false):=hd0;have q2:((s[0].toNat:Int)==34)=false:=by simp;omega
 have q1:((s[0].toNat:Int)==45)=false:=by simp;omega
 have HD1:=HD;clear h45;have HSN:=zh hsy;have HE1:=zh (hE.below (zI w (.cells #[.string s] 9) (.cells #[.int .i64 0,.string ⟨#[]⟩,.int .i64 0,.string ⟨#[]⟩,.int .i64 0] 59)));clear hE hl0 hd0 hsy hc;have HSZ:=zh hs;have HLF:=zh hl;obtain ⟨HB1,HX0,HX1⟩:=zy w (.cells #[.string s] 9) (.cells #[.int .i64 0,.string ⟨#[]⟩,.int .i64 0,.string ⟨#[]⟩,.int .i64 0] 59);clear hl
 go_enter Tryz.func77,Tryz.ntmps77
 go_upto_region 1 with fail
 generalize (w.alloc (.cells #[.string s] 9)).alloc (.cells #[.int .i64 0,.string ⟨#[]⟩,.int .i64 0,.string ⟨#[]⟩,.int .i64 0] 59)=W1 at *;have x0:W1.cell? ⟨w.heap.size,0,none⟩=some (.string s):=by rw[cell_of_row _ _ _ _ _ _ HX0.out];rfl
 have y0:=HE1.out.cell;have HX0b:=zh x0;go_wp2_with (first|(go_at_call 116;refine (yI _ _).mono ?_;rintro e w' ⟨rfl,rfl⟩;rw[HLF.out])|(go_at_call 117;refine (isDigit_any _ _).mono ?_;rintro e w' ⟨rfl,rfl⟩;first|rw[HD.out]|rw[HD1.out]));refine (idxTok_any s w.heap.size symsB A c W1 HE1.out.rows HX0b.out).mono ?_;rintro e w5 ⟨i,rfl,hi,hb⟩;have hm:i = -1:=by
  rcases idx_sym hi with ⟨h,_⟩|⟨k,hk,_,h,_⟩
  ·exact h
  ·rw[HSN.out] at h;cases h
 subst hm;have HX5:=zh (nblkL HX1.out hb);have HB5:=zh (zB HB1.out hb);clear hb hi x0 y0;have t0:w5.cell? ⟨w.heap.size+1,0,none⟩=some (.int .i64 0):=by rw[cell_of_row _ _ _ _ _ _ HX5.out];rfl
 have t1:w5.cell? ⟨w.heap.size+1,1,none⟩=some (.string ⟨#[]⟩):=by rw[cell_of_row _ _ _ _ _ _ HX5.out];rfl
 have t2:w5.cell? ⟨w.heap.size+1,2,none⟩=some (.int .i64 0):=by rw[cell_of_row _ _ _ _ _ _ HX5.out];rfl
 have t3:w5.cell? ⟨w.heap.size+1,3,none⟩=some (.string ⟨#[]⟩):=by rw[cell_of_row _ _ _ _ _ _ HX5.out];rfl
 have t4:w5.cell? ⟨w.heap.size+1,4,none⟩=some (.int .i64 0):=by rw[cell_of_row _ _ _ _ _ _ HX5.out];rfl
 have f0:=frozen_of_row _ _ 0 _ _ HX5.out;have f1:=frozen_of_row _ _ 1 _ _ HX5.out;have f2:=frozen_of_row _ _ 2 _ _ HX5.out;have f3:=frozen_of_row _ _ 3 _ _ HX5.out;have f4:=frozen_of_row _ _ 4 _ _ HX5.out;go_wp2
 refine bodyPost_ret (v := .tuple #[.agg #[.int .i64 0,.string ⟨#[]⟩,.int .i64 0,.string ⟨#[]⟩,.int .i64 0],.int .i64 0,.bool false]) (by simp[results,Tryz.results77,go_sem,t0,t1,t2,t3,t4]) rfl ?_
 exact tk_none HTK.out (((((HB5.out.setCell (p:=⟨w.heap.size+1,0,none⟩) (by simp) _).setCell (p:=⟨w.heap.size+1,1,none⟩) (by simp) _).setCell (p:=⟨w.heap.size+1,2,none⟩) (by simp) _).setCell (p:=⟨w.heap.size+1,3,none⟩) (by simp) _).setCell (p:=⟨w.heap.size+1,4,none⟩) (by simp) _) ⟨0,⟨#[]⟩,0,⟨#[]⟩,0⟩ rfl rfl
theorem tok_no2 (s:ByteArray) (hs:s.size≤140737488355328) (h1:0<s.size) (h45:s[0].toNat=45) (hz:s.size=1) (hl0:isLetB s[0]=false) (hd0:zZ s[0]=false) (hc:s[0].toNat≠34) (hsy:symL s.data.toList=none) (w:World) {A:zo} {c:Nat} (hE:SymE w A c):Calls Tryz.prog 77 #[.string s] w (TkPost w s.data.toList):=by
 have HTK:Hid (tokL s.data.toList=none):=by
  show _=_
  rw[tok_sy (list0 h1) hl0 hd0 (by rw[show s.data.toList.drop 1=[] from List.drop_eq_nil_of_le (by rw[show s.data.toList.length=s.size from rfl,hz];exact Nat.le_refl _)];rw[Bool.and_eq_false_iff];exact Or.inr (by decide)) hc,hsy];rfl
 have hl:letC (s[0].toNat:Int)=false:=hl0;have HD:Hid (digI (s[0].toNat:Int)=false):=hd0;have q2:((s[0].toNat:Int)==34)=false:=by simp;omega
 have q1:((s[0].toNat:Int)==45)=true:=by simp[h45]
 have i1:¬ (1:Int)<(s.size:Int):=by omega
 have HD1:=HD;clear h45 hz;have HSN:=zh hsy;have HE1:=zh (hE.below (zI w (.cells #[.string s] 9) (.cells #[.int .i64 0,.string ⟨#[]⟩,.int .i64 0,.string ⟨#[]⟩,.int .i64 0] 59)));clear hE hl0 hd0 hsy hc;have HSZ:=zh hs;have HLF:=zh hl;obtain ⟨HB1,HX0,HX1⟩:=zy w (.cells #[.string s] 9) (.cells #[.int .i64 0,.string ⟨#[]⟩,.int .i64 0,.string ⟨#[]⟩,.int .i64 0] 59);clear hl
 go_enter Tryz.func77,Tryz.ntmps77
 go_upto_region 1 with fail
 generalize (w.alloc (.cells #[.string s] 9)).alloc (.cells #[.int .i64 0,.string ⟨#[]⟩,.int .i64 0,.string ⟨#[]⟩,.int .i64 0] 59)=W1 at *;have x0:W1.cell? ⟨w.heap.size,0,none⟩=some (.string s):=by rw[cell_of_row _ _ _ _ _ _ HX0.out];rfl
 have y0:=HE1.out.cell;have HX0b:=zh x0;go_wp2_with (first|(go_at_call 116;refine (yI _ _).mono ?_;rintro e w' ⟨rfl,rfl⟩;rw[HLF.out])|(go_at_call 117;refine (isDigit_any _ _).mono ?_;rintro e w' ⟨rfl,rfl⟩;first|rw[HD.out]|rw[HD1.out]));refine (idxTok_any s w.heap.size symsB A c W1 HE1.out.rows HX0b.out).mono ?_;rintro e w5 ⟨i,rfl,hi,hb⟩;have hm:i = -1:=by
  rcases idx_sym hi with ⟨h,_⟩|⟨k,hk,_,h,_⟩
  ·exact h
  ·rw[HSN.out] at h;cases h
 subst hm;have HX5:=zh (nblkL HX1.out hb);have HB5:=zh (zB HB1.out hb);clear hb hi x0 y0;have t0:w5.cell? ⟨w.heap.size+1,0,none⟩=some (.int .i64 0):=by rw[cell_of_row _ _ _ _ _ _ HX5.out];rfl
 have t1:w5.cell? ⟨w.heap.size+1,1,none⟩=some (.string ⟨#[]⟩):=by rw[cell_of_row _ _ _ _ _ _ HX5.out];rfl
 have t2:w5.cell? ⟨w.heap.size+1,2,none⟩=some (.int .i64 0):=by rw[cell_of_row _ _ _ _ _ _ HX5.out];rfl
 have t3:w5.cell? ⟨w.heap.size+1,3,none⟩=some (.string ⟨#[]⟩):=by rw[cell_of_row _ _ _ _ _ _ HX5.out];rfl
 have t4:w5.cell? ⟨w.heap.size+1,4,none⟩=some (.int .i64 0):=by rw[cell_of_row _ _ _ _ _ _ HX5.out];rfl
 have f0:=frozen_of_row _ _ 0 _ _ HX5.out;have f1:=frozen_of_row _ _ 1 _ _ HX5.out;have f2:=frozen_of_row _ _ 2 _ _ HX5.out;have f3:=frozen_of_row _ _ 3 _ _ HX5.out;have f4:=frozen_of_row _ _ 4 _ _ HX5.out;go_wp2
 refine bodyPost_ret (v := .tuple #[.agg #[.int .i64 0,.string ⟨#[]⟩,.int .i64 0,.string ⟨#[]⟩,.int .i64 0],.int .i64 0,.bool false]) (by simp[results,Tryz.results77,go_sem,t0,t1,t2,t3,t4]) rfl ?_
 exact tk_none HTK.out (((((HB5.out.setCell (p:=⟨w.heap.size+1,0,none⟩) (by simp) _).setCell (p:=⟨w.heap.size+1,1,none⟩) (by simp) _).setCell (p:=⟨w.heap.size+1,2,none⟩) (by simp) _).setCell (p:=⟨w.heap.size+1,3,none⟩) (by simp) _).setCell (p:=⟨w.heap.size+1,4,none⟩) (by simp) _) ⟨0,⟨#[]⟩,0,⟨#[]⟩,0⟩ rfl rfl
theorem tok_no3 (s:ByteArray) (hs:s.size≤140737488355328) (h1:0<s.size) (h45:s[0].toNat=45) (h2:1<s.size) (hd1:zZ s[1]=false) (hl0:isLetB s[0]=false) (hd0:zZ s[0]=false) (hc:s[0].toNat≠34) (hsy:symL s.data.toList=none) (w:World) {A:zo} {c:Nat} (hE:SymE w A c):Calls Tryz.prog 77 #[.string s] w (TkPost w s.data.toList):=by
 have HTK:Hid (tokL s.data.toList=none):=by
  show _=_
  rw[tok_sy (list0 h1) hl0 hd0 (by rw[snd_head h2,hd1,Bool.and_false]) hc,hsy];rfl
 have hl:letC (s[0].toNat:Int)=false:=hl0;have HD:Hid (digI (s[0].toNat:Int)=false):=hd0;have q2:((s[0].toNat:Int)==34)=false:=by simp;omega
 have q1:((s[0].toNat:Int)==45)=true:=by simp[h45]
 have i1:(1:Int)<(s.size:Int):=by omega
 have HD1:Hid (digI (s[1].toNat:Int)=false):=hd1;clear h45 hd1;have HSN:=zh hsy;have HE1:=zh (hE.below (zI w (.cells #[.string s] 9) (.cells #[.int .i64 0,.string ⟨#[]⟩,.int .i64 0,.string ⟨#[]⟩,.int .i64 0] 59)));clear hE hl0 hd0 hsy hc;have HSZ:=zh hs;have HLF:=zh hl;obtain ⟨HB1,HX0,HX1⟩:=zy w (.cells #[.string s] 9) (.cells #[.int .i64 0,.string ⟨#[]⟩,.int .i64 0,.string ⟨#[]⟩,.int .i64 0] 59)
 clear hl
 go_enter Tryz.func77,Tryz.ntmps77
 go_upto_region 1 with fail
 generalize (w.alloc (.cells #[.string s] 9)).alloc (.cells #[.int .i64 0,.string ⟨#[]⟩,.int .i64 0,.string ⟨#[]⟩,.int .i64 0] 59)=W1 at *;have x0:W1.cell? ⟨w.heap.size,0,none⟩=some (.string s):=by rw[cell_of_row _ _ _ _ _ _ HX0.out];rfl
 have y0:=HE1.out.cell;have HX0b:=zh x0;go_wp2_with (first|(go_at_call 116;refine (yI _ _).mono ?_;rintro e w' ⟨rfl,rfl⟩;rw[HLF.out])|(go_at_call 117;refine (isDigit_any _ _).mono ?_;rintro e w' ⟨rfl,rfl⟩;first|rw[HD.out]|rw[HD1.out]));refine (idxTok_any s w.heap.size symsB A c W1 HE1.out.rows HX0b.out).mono ?_;rintro e w5 ⟨i,rfl,hi,hb⟩;have hm:i = -1:=by
  rcases idx_sym hi with ⟨h,_⟩|⟨k,hk,_,h,_⟩
  ·exact h
  ·rw[HSN.out] at h;cases h
 subst hm;have HX5:=zh (nblkL HX1.out hb);have HB5:=zh (zB HB1.out hb);clear hb hi x0 y0;have t0:w5.cell? ⟨w.heap.size+1,0,none⟩=some (.int .i64 0):=by rw[cell_of_row _ _ _ _ _ _ HX5.out];rfl
 have t1:w5.cell? ⟨w.heap.size+1,1,none⟩=some (.string ⟨#[]⟩):=by rw[cell_of_row _ _ _ _ _ _ HX5.out];rfl
 have t2:w5.cell? ⟨w.heap.size+1,2,none⟩=some (.int .i64 0):=by rw[cell_of_row _ _ _ _ _ _ HX5.out];rfl
 have t3:w5.cell? ⟨w.heap.size+1,3,none⟩=some (.string ⟨#[]⟩):=by rw[cell_of_row _ _ _ _ _ _ HX5.out];rfl
 have t4:w5.cell? ⟨w.heap.size+1,4,none⟩=some (.int .i64 0):=by rw[cell_of_row _ _ _ _ _ _ HX5.out];rfl
 have f0:=frozen_of_row _ _ 0 _ _ HX5.out;have f1:=frozen_of_row _ _ 1 _ _ HX5.out;have f2:=frozen_of_row _ _ 2 _ _ HX5.out;have f3:=frozen_of_row _ _ 3 _ _ HX5.out;have f4:=frozen_of_row _ _ 4 _ _ HX5.out;go_wp2
 refine bodyPost_ret (v := .tuple #[.agg #[.int .i64 0,.string ⟨#[]⟩,.int .i64 0,.string ⟨#[]⟩,.int .i64 0],.int .i64 0,.bool false]) (by simp[results,Tryz.results77,go_sem,t0,t1,t2,t3,t4]) rfl ?_
 exact tk_none HTK.out (((((HB5.out.setCell (p:=⟨w.heap.size+1,0,none⟩) (by simp) _).setCell (p:=⟨w.heap.size+1,1,none⟩) (by simp) _).setCell (p:=⟨w.heap.size+1,2,none⟩) (by simp) _).setCell (p:=⟨w.heap.size+1,3,none⟩) (by simp) _).setCell (p:=⟨w.heap.size+1,4,none⟩) (by simp) _) ⟨0,⟨#[]⟩,0,⟨#[]⟩,0⟩ rfl rfl
end Go.Proofs.YthkkllmmbefedaaGreatDoor


