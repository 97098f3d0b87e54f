/-
  Walks: sheaveref06.Symbols, isSymbol.
-/
import Derived.Test.YthkkllmmbefedaaGreatDoorQRT0
import Derived.Test.YthkkllmmbefedaaGreatDoorQGL0
import Derived.Test.YthkkllmmbefedaaGreatDoorQGA5
import Derived.Test.YthkkllmmbefedaaGreatDoorQGA7
import Derived.Test.YthkkllmmbefedaaGreatDoorQGA3
import Derived.Deep.DeepCutAuto
namespace Go.Proofs.YthkkllmmbefedaaGreatDoor
open Go.RowKit
set_option maxHeartbeats 16000000
set_option maxRecDepth 100000
variable {ch:UInt8}
theorem jy {s:ByteArray}:((s.extract 0 (KY ch).size).toList==(KY ch).toList)=decide (Fx ch <+: s.data.toList):=by
 rw[bytes_beq];have h:s.extract 0 (KY ch).size=KY ch↔Fx ch <+: s.data.toList:=by
  rw[List.prefix_iff_eq_take,<-Oj]
  constructor
  ·intro h
   have:=congrArg (fun x:ByteArray=>x.data.toList) h
   simp only[D6] at this;exact this.symm
  ·intro h
   have h2:(s.extract 0 (KY ch).size).data.toList=(KY ch).data.toList:=by rw[D6];exact h.symm
   have h3:(s.extract 0 (KY ch).size).data=(KY ch).data:=Array.toList_inj.1 h2;exact ByteArray.ext h3
 simp only[h]
theorem dI {s:ByteArray} (h:Fx ch <+: s.data.toList):(KY ch).size<=s.size:=by
 have:=h.length_le;rw[<-UI] at this;exact this
def Q8 (S:List UInt8) (v:Int):Prop:=match DC S with
 | some (b,_)=>v=(b.toNat:Int)
 | none=>v = -1
theorem dM {S:List UInt8} (hq:∀c r,S=c::r->c.toNat≠34) (h:Fx ch <+: S):Q8 S (ch.toNat:Int):=by
 unfold Q8;rw[kC ch S h hq]
theorem kD {S:List UInt8} (hq:∀c r,S=c::r->c.toNat≠34) (h:∀ch:UInt8,¬ Fx ch <+: S):Q8 S (-1):=by
 unfold Q8
 cases hp:DC S with
 | none=>rfl
 | some p =>
  obtain ⟨b,k⟩:=p;exact absurd (R6 hp hq).1 (h b)
theorem TV (ch:UInt8):IntKind.u8.wrap (ch.toNat:Int)=(ch.toNat:Int):=by
 have:=ch.toNat_lt;rw[IntKind.wrap_u8]
 omega
theorem Y9 (s:ByteArray) (hq:∀c r,s.data.toList=c::r->c.toNat≠34) (_hz:s.size<=140737488355328) (w:World) :
  Calls Tryz.prog 138 #[.string s] w fun e w'=>∃v:Int,e = .returned (.int .i64 v)/\Q8 s.data.toList v/\Below w.heap.size w w':=by
 have HQ:=zh hq;clear hq
 go_enter Tryz.func138,Tryz.ntmps138
 go_wp2
 go_loopw [3] (fun i wr=>∃k:Nat,k<=256/\i = .int .i64 (k:Int)/\Hid (Below w.heap.size w wr/\∀ch:UInt8,ch.toNat<k->¬ Fx ch <+: s.data.toList)) (fun i _=>256 - (intOf i).toNat)
 case atStart=>exact ⟨0,by omega,rfl,Pd _ _,fun _ h=>absurd h (by omega)⟩
 case round =>
  obtain ⟨k,hk,rfl,hh⟩:=hrel;have HB:=zh hh.out.1;have HN:=zh hh.out.2;clear hh
  by_cases hlt:k<256
  ·obtain ⟨ch,rfl⟩:∃ch:UInt8,k=ch.toNat:=⟨UInt8.ofNat k,by simp[Nat.mod_eq_of_lt hlt]⟩
   have h1:(ch.toNat:Int)<256:=by omega
   have hw:=TV ch;have HE:=zh (jy (s:=s) (ch:=ch))
   by_cases hsz:(KY ch).size<=s.size
   ·have z1:decide ((s.size:Int) >= ((KY ch).size:Int))=true:=by simp;omega
    have z2:((KY ch).size:Int)<=(s.size:Int):=by omega
    have z3:(0:Int)<=((KY ch).size:Int):=by omega
    by_cases hp:Fx ch <+: s.data.toList
    ·have q1:((s.extract 0 (KY ch).size).toList==(KY ch).toList)=true:=by rw[HE.out];exact AAM hp
     have HR:=zh (dM HQ hp);clear hp HE hsz;go_wp2_with fail;refine (Gt ch _).mono ?_;rintro e w1 ⟨rfl,hb1⟩;have HB1:=zh (zB HB hb1);clear hb1;go_wp2;go_ret;exact ⟨_,rfl,HR.out,HB1.out⟩
    ·have q1:((s.extract 0 (KY ch).size).toList==(KY ch).toList)=false:=by rw[HE.out];exact AAE hp
     have OU:Hid (∀c:UInt8,c.toNat<ch.toNat+1->¬ Fx c <+: s.data.toList):=fun c hc=>by
      by_cases e:c.toNat=ch.toNat
      ·rw[Cn e];exact hp
      ·exact HN.out c (by omega)
     clear hp HE hsz;go_wp2_with fail;refine (Gt ch _).mono ?_;rintro e w1 ⟨rfl,hb1⟩;have HB1:=zh (zB HB hb1);clear hb1;go_wp2;go_roundw
     case rel=>exact ⟨ch.toNat+1,by omega,by go_num,HB1.out,OU.out⟩
     case measure=>simp[intOf];omega
   ·have z1:decide ((s.size:Int) >= ((KY ch).size:Int))=false:=by simp;omega
    have OU:Hid (∀c:UInt8,c.toNat<ch.toNat+1->¬ Fx c <+: s.data.toList):=fun c hc=>by
     by_cases e:c.toNat=ch.toNat
     ·rw[Cn e];exact fun h=>hsz (dI h)
     ·exact HN.out c (by omega)
    have z2:¬ (s.size:Int) >= ((KY ch).size:Int):=by omega
    clear HE;go_wp2_with fail;refine (Gt ch _).mono ?_;rintro e w1 ⟨rfl,hb1⟩;have HB1:=zh (zB HB hb1);clear hb1;go_wp2;go_roundw
    case rel=>exact ⟨ch.toNat+1,by omega,by go_num,HB1.out,OU.out⟩
    case measure=>simp[intOf];omega
  ·have HR:=zh (kD HQ fun ch=>HN.out ch (by have:=ch.toNat_lt;omega))
   have h1:¬ (k:Int)<256:=by omega
   go_wp2
   go_ret
   exact ⟨_,rfl,HR.out,HB.out⟩
def wM (u:ByteArray) (n:Int):Option (List UInt8×Nat)->Prop
 | some p=>u=bA p.1/\n=((p.2+1:Nat):Int)
 | none=>u=⟨#[]⟩/\n=0
def sG (w:World) (l:List UInt8) (e:Ending) (w':World):Prop:=∃ (u:ByteArray) (n:Int),e = .returned (.agg #[.string u,.int .i64 n])/\wM u n (Fb l)/\Below w.heap.size w w'
variable {w w':World}
theorem Us {l:List UInt8} (h:Fb l=none) (hb:Below w.heap.size w w'):sG w l (.returned (.agg #[.string ⟨#[]⟩,.int .i64 0])) w':=⟨_,_,rfl,by rw[h];exact ⟨rfl,rfl⟩,hb⟩
variable {k:Nat}
theorem fF {l o:List UInt8} (h:Fb l=some (o,k)) (hb:Below w.heap.size w w'):sG w l (.returned (.agg #[.string (bA o),.int .i64 ((k:Int)+1)])) w':=⟨_,_,rfl,by rw[h];exact ⟨rfl,by show (k:Int)+1=((k+1:Nat):Int);omega⟩,hb⟩
variable {p:Nat} {a0 a1:Value}
theorem qN {T:TypeId} (h:w.heap[p]? = some (.cells #[a0,a1] T)) (v0 v1:Value):((w.setCell ⟨p,0,none⟩ v0).setCell ⟨p,1,none⟩ v1).heap[p]? = some (.cells #[v0,v1] T):=by
 have h0:=AAV _ _ 0 _ _ v0 h;simp only[AAd,List.set_cons_zero] at h0;have h1:=AAV _ _ 1 _ _ v1 h0;simp only[AAd,List.set_cons_zero,List.set_cons_succ] at h1;exact h1
theorem Vl {T:TypeId} (h:w.heap[p]? = some (.cells #[a0,a1] T)):(w.cell? ⟨p,0,none⟩=some a0/\w.cell? ⟨p,1,none⟩=some a1)/\(w.frozen? ⟨p,0,none⟩=false/\w.frozen? ⟨p,1,none⟩=false):=by
 refine ⟨⟨?_,?_⟩,AAK _ _ _ _ _ h,AAK _ _ _ _ _ h⟩ <;> (rw[AAB _ _ _ _ _ _ h];rfl)
theorem Kw {B:Nat} (h:Below B w w') {q:Nat} (hq:B<=q) (v0 v1:Value):Below B w ((w'.setCell ⟨q,0,none⟩ v0).setCell ⟨q,1,none⟩ v1) :=
 (h.setCell (p:=⟨q,0,none⟩) hq _).setCell (p:=⟨q,1,none⟩) hq _
abbrev wO:Obj := .cells #[.string ⟨#[]⟩,.int .i64 0] 146
theorem V9 (s:ByteArray) (hs:s.size<=140737488355328) (h1:0<s.size) (hq0:s[0].toNat=34) (w:World):Calls Tryz.prog 86 #[.string s] w (sG w (s.data.toList.drop 1)):=by
 have ED:=zh hs;obtain ⟨L1,hL1⟩:∃L1,s.data.toList.drop 1=L1:=⟨_,rfl⟩;rw[hL1];have QB:=zh hL1;have q0:((s[0].toNat:Int) != 34)=false:=by rw[hq0];rfl
 have q00:s.toList.isEmpty=false:=by simpa using Iw h1
 have HX0:=zh (AAA w wO);have HB0:=zh (zD w wO);have HZ0:Hid ((w.alloc wO).heap.size=w.heap.size+1):=by show _=_;simp
 have h10:(0:Int)<(s.size:Int):=by omega
 clear hL1 hq0
 go_enter Tryz.func86,Tryz.ntmps86
 go_upto_region 1 with fail
 generalize w.alloc wO=W0 at *;go_wp2
 go_loopw [3,4] (fun v i wr=>∃ (k:Nat) (o:List UInt8),1<=k/\k<=s.size/\o.length<k/\i = .int .i64 k/\Hid (FU s.data.toList k o/\lY wr W0.heap.size v o/\Below W0.heap.size W0 wr)) (fun _ i _=>s.size - (intOf i).toNat)
 case atStart =>
  refine ⟨1,[],by omega,by omega,by simp,rfl,?_,Ak.nil _ _,Pd _ _⟩
  unfold FU
  cases Fb (s.data.toList.drop 1) <;> rfl
 case round =>
  obtain ⟨k,o,hk1,hk2,hol,rfl,hh⟩:=hrel;have HQ:=zh hh.out.1;have HO:=zh hh.out.2.1;have HB:=zh hh.out.2.2;have F8:=zh (zB HB0 hh.out.2.2);have HX:=zh (zE HX0 hh.out.2.2);clear hh;obtain ⟨wo,rfl⟩:∃wo:World,wo=wr:=⟨_,rfl⟩
  by_cases hlt:k<s.size
  case neg =>
   have HN:=zh (QB.out▸HQ.out.end_ (show s.data.toList.length<=k by have:s.data.toList.length=s.size:=rfl;omega))
   have e0:k=s.size:=by omega
   subst e0;have q1:¬ (s.size:Int)<(s.size:Int):=by omega
   have q2:((s.size:Int)==(s.size:Int))=true:=by simp
   obtain ⟨⟨z0,z1⟩,y0,y1⟩:=Vl HX;clear hlt;go_wp2;have HK:=zh (qN HX (.string ⟨#[]⟩) (.int .i64 0));have Kh:=zh (Us HN (Kw F8 (AAQ w.heap.size) (.string ⟨#[]⟩) (.int .i64 0)));clear z0 z1 y0 y1;generalize World.setCell _ _ _=W9 at *;obtain ⟨⟨z0,z1⟩,_⟩:=Vl HK
   exact bodyPost_ret (v := .agg #[.string ⟨#[]⟩,.int .i64 0]) (by simp[results,Tryz.results86,go_sem,z0,z1]) rfl Kh
  have g1:(0:Int)<=(k:Int):=by omega
  have g2:(k:Int)<(s.size:Int):=by omega
  have HD:=zh (NZ hlt);obtain ⟨c,hc⟩:∃c,c=s[k]:=⟨_,rfl⟩;rw[<-hc] at HD
  by_cases c1:c.toNat=34
  ·have HN:=zh (QB.out▸HQ.out.close hk1 HD c1)
   have q1:((s[k].toNat:Int) != 34)=false:=by rw[<-hc];simp[c1]
   have q2:((k:Int)==(s.size:Int))=false:=by simp;omega
   obtain ⟨⟨z0,z1⟩,y0,y1⟩:=Vl HX;clear c1 HD;go_wp2_with (refine NR rfl (.tmp 47) rfl W0.heap.size _ o rfl HO ?_);have HK:=zh (qN HX (.string (bA o)) (.int .i64 ((k:Int)+1)));have Kh:=zh (fF HN (Kw F8 (AAQ w.heap.size) (.string (bA o)) (.int .i64 ((k:Int)+1))));clear z0 z1 y0 y1;generalize World.setCell _ _ _=W9 at *
   obtain ⟨⟨z0,z1⟩,_⟩:=Vl HK;exact bodyPost_ret (v := .agg #[.string (bA o),.int .i64 ((k:Int)+1)]) (by simp[results,Tryz.results86,go_sem,z0,z1]) rfl Kh
  have q1:((s[k].toNat:Int) != 34)=true:=by rw[<-hc];simp;omega
  have mO:Hid ((s.extract k s.size).data.toList=c::s.data.toList.drop (k+1)):=by show _=_;rw[Ea,HD.out]
  have HPA:=zh (Y9 (s.extract k s.size) (fun c' r e=>by
   rw[mO.out] at e
   injection e with e _
   rw[<-e];exact c1) (by
   have h:(s.extract k s.size).size=(s.data.toList.drop k).length:=by rw[<-Ea];rfl
   rw[h,AAc,show s.data.toList.length=s.size from rfl];omega) wo)
  have J6:=zh c1;clear c1;go_wp2_with fail;refine HPA.out.mono ?_;rintro e w5 ⟨v,rfl,hp,hb⟩;have BB:=zh (zB HB hb);have TL:=zh (HO.out.below hb);have BK:=zh (zE HX hb);have MW:=zh (zB F8 hb);unfold Q8 at hp;rw[mO.out] at hp;clear hb
  cases hpl:DC (c::s.data.toList.drop (k+1)) with
  | none =>
   rw[hpl] at hp;simp only at hp;subst hp;have HN:=zh (QB.out▸HQ.out.bad HD J6 hpl);obtain ⟨⟨z0,z1⟩,y0,y1⟩:=Vl BK;clear hpl HD;go_wp2;have HK:=zh (qN BK (.string ⟨#[]⟩) (.int .i64 0));have Kh:=zh (Us HN (Kw MW (AAQ w.heap.size) (.string ⟨#[]⟩) (.int .i64 0)));clear z0 z1 y0 y1;generalize World.setCell _ _ _=W9 at *
   obtain ⟨⟨z0,z1⟩,_⟩:=Vl HK;exact bodyPost_ret (v := .agg #[.string ⟨#[]⟩,.int .i64 0]) (by simp[results,Tryz.results86,go_sem,z0,z1]) rfl Kh
  | some q =>
   obtain ⟨b,n⟩:=q;rw[hpl] at hp;simp only at hp;subst hp;have HN:=zh (HQ.out.step hk1 HD J6 hpl);have hop:=R6 hpl (fun c' r e=>by
    injection e with e _
    rw[<-e];exact J6.out)
   have hpr:=Jg hpl;have hqz:(KY b).size=n:=by rw[UI];exact hop.2.symm
   have hkn:k+n<=s.size:=by
    have:=hpr.2;rw[AAS,AAc,show s.data.toList.length=s.size from rfl] at this
    omega
   have hn1:=hpr.1;have p0:¬ (b.toNat:Int)<0:=by omega
   have hw:=TV b;have JR:=zh (Ak.alloc TL (.cells #[.int .u8 (b.toNat:Int)] 5));have MR:Hid ((w5.alloc (.cells #[.int .u8 (b.toNat:Int)] 5)).rangeAt w5.heap.size 0 [.int .u8 (b.toNat:Int)]):=zR w5 [.int .u8 (b.toNat:Int)] 5;have KS:Hid (W0.heap.size<=(w5.alloc (.cells #[.int .u8 (b.toNat:Int)] 5)).heap.size):=by have:=BB.out.size;show _<=_;simp;omega
   clear hpl HD hop hpr
   go_wp2_with (first|(at_builtin;refine yG Sb _ rfl (.tmp 31) (.tmp 34) rfl W0.heap.size _ _ _ rfl JR w5.heap.size 0 1 1 [.int .u8 (b.toNat:Int)] rfl rfl MR (by simp[Value.oneCell']) (by have:=ED.out;omega) (by have:=ED.out;omega) KS ?_;intro v8 w8 Bq Bp;have HO8:=zh (Ak.snoc (x:=b) Bq);have FY:=zh ((BB.out.alloc BB.out.size _).grown Bp KS JR.out.lt);clear Bq Bp)|fail)
   refine (Gt b _).mono ?_;rintro e w9 ⟨rfl,aN⟩;have HO9:=zh (HO8.out.below aN);have RI:=zh (zB FY aN);clear aN;go_wp2;go_roundw
   case rel=>exact ⟨k+n,o++[b],by omega,hkn,by simp;omega,by go_num,HN.out,HO9.out,RI.out⟩
   case measure=>simp[intOf];omega
abbrev Y4 (t:AB) (n:Int):Value := .agg #[.int .i64 t.kind,.string t.text,.int .i64 t.int,.string t.str,.int .i64 t.line,.int .i64 n]
abbrev Ve:AB:=⟨0,⟨#[]⟩,0,⟨#[]⟩,0⟩
def zi (t:AB) (n:Int):Option (AB×Nat)->Prop
 | some p=>t=p.1/\n=(p.2:Int)
 | none=>n=0
def VH (r:Option (AB×Nat)) (w:World) (e:Ending) (w':World):Prop:=∃ (t:AB) (n:Int),e = .returned (Y4 t n)/\zi t n r/\Below w.heap.size w w'
variable {r:Option (AB×Nat)}
theorem R9 (h:r=none) (hb:Below w.heap.size w w'):VH r w (.returned (Y4 Ve 0)) w':=⟨_,_,rfl,by rw[h];rfl,hb⟩
theorem R8 {t:AB} (h:r=some (t,k)) (hb:Below w.heap.size w w'):VH r w (.returned (Y4 t k)) w':=⟨_,_,rfl,by rw[h];exact ⟨rfl,rfl⟩,hb⟩
abbrev Np (w:World) (p:Nat) (v0 v1 v2 v3 v4 v5:Value):World:=(((((w.setCell ⟨p,0,none⟩ v0).setCell ⟨p,1,none⟩ v1).setCell ⟨p,2,none⟩ v2).setCell ⟨p,3,none⟩ v3).setCell ⟨p,4,none⟩ v4).setCell ⟨p,5,none⟩ v5
variable {a2 a3 a4 a5:Value}
theorem yw {T:TypeId} (h:w.heap[p]? = some (.cells #[a0,a1,a2,a3,a4,a5] T)) (v0 v1 v2 v3 v4 v5:Value):(Np w p v0 v1 v2 v3 v4 v5).heap[p]? = some (.cells #[v0,v1,v2,v3,v4,v5] T):=by
 have h0:=AAV _ _ 0 _ _ v0 h;simp only[AAd,List.set_cons_zero] at h0;have h1:=AAV _ _ 1 _ _ v1 h0;simp only[AAd,List.set_cons_zero,List.set_cons_succ] at h1;have h2:=AAV _ _ 2 _ _ v2 h1;simp only[AAd,List.set_cons_zero,List.set_cons_succ] at h2;have h3:=AAV _ _ 3 _ _ v3 h2
 simp only[AAd,List.set_cons_zero,List.set_cons_succ] at h3;have h4:=AAV _ _ 4 _ _ v4 h3;simp only[AAd,List.set_cons_zero,List.set_cons_succ] at h4;have h5:=AAV _ _ 5 _ _ v5 h4;simp only[AAd,List.set_cons_zero,List.set_cons_succ] at h5;exact h5
theorem BU {T:TypeId} (h:w.heap[p]? = some (.cells #[a0,a1,a2,a3,a4,a5] T)):(w.cell? ⟨p,0,none⟩=some a0/\w.cell? ⟨p,1,none⟩=some a1/\w.cell? ⟨p,2,none⟩=some a2/\w.cell? ⟨p,3,none⟩=some a3/\w.cell? ⟨p,4,none⟩=some a4/\w.cell? ⟨p,5,none⟩=some a5) /\
  (w.frozen? ⟨p,0,none⟩=false/\w.frozen? ⟨p,1,none⟩=false/\w.frozen? ⟨p,2,none⟩=false/\w.frozen? ⟨p,3,none⟩=false/\w.frozen? ⟨p,4,none⟩=false/\w.frozen? ⟨p,5,none⟩=false):=by
 refine ⟨⟨?_,?_,?_,?_,?_,?_⟩,AAK _ _ _ _ _ h,AAK _ _ _ _ _ h,AAK _ _ _ _ _ h,AAK _ _ _ _ _ h,AAK _ _ _ _ _ h,AAK _ _ _ _ _ h⟩ <;> (rw[AAB _ _ _ _ _ _ h];rfl)
theorem Vr {B:Nat} (h:Below B w w') {q:Nat} (hq:B<=q) (v0 v1 v2 v3 v4 v5:Value):Below B w (Np w' q v0 v1 v2 v3 v4 v5) :=
 (((((h.setCell (p:=⟨q,0,none⟩) hq _).setCell (p:=⟨q,1,none⟩) hq _).setCell (p:=⟨q,2,none⟩) hq _).setCell (p:=⟨q,3,none⟩) hq _).setCell (p:=⟨q,4,none⟩) hq _).setCell (p:=⟨q,5,none⟩) hq _
abbrev iT:Obj := .cells #[.int .i64 0,.string ⟨#[]⟩,.int .i64 0,.string ⟨#[]⟩,.int .i64 0,.int .i64 0] 109
variable {n:Int}
theorem FE {W:World} {t:AB} (hX:W.heap[w.heap.size]? = some (.cells #[a0,a1,a2,a3,a4,a5] 109)) (hb:Below w.heap.size w W) (h:∀w',Below w.heap.size w w'->VH r w (.returned (Y4 t n)) w'):
  (Np W w.heap.size (.int .i64 t.kind) (.string t.text) (.int .i64 t.int) (.string t.str) (.int .i64 t.line) (.int .i64 n)).heap[w.heap.size]? = some (.cells #[.int .i64 t.kind,.string t.text,.int .i64 t.int,.string t.str,.int .i64 t.line,.int .i64 n] 109) /\
  VH r w (.returned (Y4 t n)) (Np W w.heap.size (.int .i64 t.kind) (.string t.text) (.int .i64 t.int) (.string t.str) (.int .i64 t.line) (.int .i64 n)) :=
 ⟨yw hX _ _ _ _ _ _,h _ (Vr hb (AAQ _) _ _ _ _ _ _)⟩
def Gh (T:List UInt8) (k:Nat) (n sg:Int):Prop:=(-9223372036854775808<=n/\n<=9223372036854775807) /\
 (k=0->n=0/\sg=1)/\(1<=k->(sg = -1/\(T.headD 0).toNat=45/\∃z,n=MK (-1) 0 ((T.take k).drop 1)+18446744073709551616 * z)\/(sg=1/\(T.headD 0).toNat≠45/\∃z,n=MK 1 0 (T.take k)+18446744073709551616 * z))
theorem Gh.start (T:List UInt8):Gh T 0 0 1:=⟨by omega,fun _=>⟨rfl,rfl⟩,fun h=>absurd h (by omega)⟩
variable {T:List UInt8}
theorem Gh.neg (hT:0<T.length) (h:(T.headD 0).toNat=45):Gh T 1 0 (-1) :=
 ⟨by omega,fun h=>absurd h (by omega),fun _=>Or.inl ⟨rfl,h,0,by
  cases T with
  | nil=>cases hT
  | cons c r=>rfl⟩⟩
theorem Gh.step {sg m:Int} (h:Gh T k n sg) (hk:k<T.length) (hs:k=0->(T.headD 0).toNat≠45) (hm:-9223372036854775808<=m/\m<=9223372036854775807) {z:Int} (hz:m=10 * n+sg * ((T[k].toNat:Int) - 48)+18446744073709551616 * z):Gh T (k+1) m sg:=by
 refine ⟨hm,fun h=>absurd h (by omega),fun _=>?_⟩
 have ht:T.take (k+1)=T.take k++[T[k]]:=by rw[ABD hk]
 by_cases h0:k=0
 ·obtain ⟨rfl,rfl⟩:=h.2.1 h0
  right
  refine ⟨rfl,hs h0,z,?_⟩;subst h0;rw[ht,IV]
  show m=10 * MK 1 0 []+_+_
  rw[MK];exact hz
 ·rcases h.2.2 (by omega) with ⟨rfl,h1,y,hy⟩|⟨rfl,h1,y,hy⟩
  ·left
   refine ⟨rfl,h1,10 * y+z,?_⟩;rw[ht,List.drop_append_of_le_length (by rw[List.length_take];omega),IV]
   omega
  ·right
   refine ⟨rfl,h1,10 * y+z,?_⟩;rw[ht,IV]
   omega
theorem Gh.out {sg:Int} (h:Gh T T.length n sg) (h0:0<T.length):Fy T=if Lib.itoa n=T then some n else none:=by
 rcases h.2.2 h0 with ⟨rfl,h1,y,hy⟩|⟨rfl,h1,y,hy⟩
 ·refine Uj h.1.1 h.1.2 (k:=y) ?_
  rw[hy,List.take_length]
  cases T with
  | nil=>cases h0
  | cons c r=>rw[V3,AAC (show c.toNat=45 from h1)];rfl
 ·refine Uj h.1.1 h.1.2 (k:=y) ?_
  rw[hy,List.take_length]
  cases T with
  | nil=>cases h0
  | cons c r=>rw[V3,Pe (show ¬ c.toNat=45 from h1)]
def Zc (s:ByteArray):Option (AB×Nat):=(Fy s.data.toList).map fun v=>(⟨2,⟨#[]⟩,v,⟨#[]⟩,0⟩,s.size)
theorem Xc (x:Int):∃z,wrap64 x=x+18446744073709551616 * z /\ -9223372036854775808<=wrap64 x/\wrap64 x<=9223372036854775807:=by
 refine ⟨(wrap64 x - x) / 18446744073709551616,?_,?_,?_⟩ <;> (unfold wrap64;omega)
theorem Ru (s:ByteArray) (hs:s.size<=140737488355328) (h1:0<s.size) (w:World) (hE:Gq w):Calls Tryz.prog 85 #[.string s] w (VH (Zc s) w):=by
 have HE:=zh hE;have ED:=zh hs;have hsl:s.data.toList.length=s.size:=rfl;have h10:(0:Int)<(s.size:Int):=by omega
 have rO:Hid ((s.data.toList.headD 0).toNat=s[0].toNat):=by show _=_;rw[GV h1];rfl
 have HX0:=zh (AAA w iT);have HB0:=zh (zD w iT);obtain ⟨R,hR⟩:∃R,Zc s=R:=⟨_,rfl⟩;rw[hR];have HR:=zh hR;clear hE hR
 go_enter Tryz.func85,Tryz.ntmps85
 go_upto_region 1 with fail
 generalize w.alloc iT=W0 at *;go_wp2
 go_loopw [3,4,5] (fun a b i wr=>∃ (k:Nat) (n sg:Int),k<=s.size/\i = .int .i64 k/\a = .int .i64 n/\b = .int .i64 sg/\Hid (Gh s.data.toList k n sg)/\Hid (Below W0.heap.size W0 wr)) (fun _ _ i _=>s.size - (intOf i).toNat)
 case atStart=>exact ⟨0,0,1,by omega,rfl,rfl,rfl,Gh.start _,Pd _ _⟩
 case round =>
  obtain ⟨k,n,sg,hk,rfl,rfl,rfl,hia,hbw⟩:=hrel;obtain ⟨wo,rfl⟩:∃wo:World,wo=wr:=⟨_,rfl⟩
  by_cases hlt:k<s.size
  ·have g1:(0:Int)<=(k:Int):=by omega
   have g2:(k:Int)<(s.size:Int):=by omega
   by_cases hn:k=0/\s[0].toNat=45
   ·obtain ⟨rfl,h45⟩:=hn
    have q2:((s[0].toNat:Int)==45)=true:=by rw[h45];rfl
    have HN:=zh (Gh.neg (T:=s.data.toList) (by omega) (rO.out.trans h45))
    clear h45;obtain ⟨rfl,rfl⟩:=hia.out.2.1 rfl;go_wp2;go_roundw
    case rel=>exact ⟨1,0,-1,by omega,by go_num,rfl,rfl,HN.out,hbw.out⟩
    case measure=>simp[intOf];omega
   ·obtain ⟨ch,hch⟩:∃ch,ch=s[k]:=⟨_,rfl⟩
    have uV:s.data.toList[k]'(by omega)=ch:=by rw[hch];rfl
    have ADY:=ch.toNat_lt;obtain ⟨r1,hr1⟩:∃r1,wrap64 (10 * n)=r1:=⟨_,rfl⟩;obtain ⟨r2,hr2⟩:∃r2,wrap64 (r1+sg * ((ch.toNat:Int) - 48))=r2:=⟨_,rfl⟩;have YV:Hid (Gh s.data.toList (k+1) r2 sg):=by
     obtain ⟨z1,e1,_,_⟩:=Xc (10 * n);obtain ⟨z2,e2,e3,e4⟩:=Xc (r1+sg * ((ch.toNat:Int) - 48));rw[hr1] at e1;rw[hr2] at e2 e3 e4;refine hia.out.step (by omega) (fun h0 h45=>hn ⟨h0,?_⟩) ⟨e3,e4⟩ (z:=z1+z2) ?_
     ·rw[<-rO.out];exact h45
     ·rw[uV,e2,e1];omega
    have HSG:Hid (sg=1\/sg = -1):=by
     show _\/_
     by_cases h0:k=0
     ·exact Or.inl (hia.out.2.1 h0).2
     ·rcases hia.out.2.2 (by omega) with ⟨e,_⟩|⟨e,_⟩
      ·exact Or.inr e
      ·exact Or.inl e
    have hqq:((k:Int)==0)=false\/(((k:Int)==0)=true/\((s[k].toNat:Int)==45)=false):=by
     by_cases h0:k=0
     ·right
      subst h0;refine ⟨rfl,?_⟩;have:s[0].toNat≠45:=fun e=>hn ⟨rfl,e⟩
      simp;omega
     ·left;simp;omega
    subst hch;clear uV hn hia
    rcases HSG.out with rfl|rfl
    ·rcases hqq with q1|⟨q1,q2⟩
     ·go_wp2
      go_roundw
      case rel=>exact ⟨k+1,r2,1,by omega,by go_num,congrArg (Value.int .i64) (by rw[<-hr2];congr 1;omega),rfl,YV.out,hbw.out⟩
      case measure=>simp[intOf];omega
     ·go_wp2
      go_roundw
      case rel=>exact ⟨k+1,r2,1,by omega,by go_num,congrArg (Value.int .i64) (by rw[<-hr2];congr 1;omega),rfl,YV.out,hbw.out⟩
      case measure=>simp[intOf];omega
    ·rcases hqq with q1|⟨q1,q2⟩
     ·go_wp2
      go_roundw
      case rel=>exact ⟨k+1,r2,-1,by omega,by go_num,congrArg (Value.int .i64) (by rw[<-hr2];congr 1;omega),rfl,YV.out,hbw.out⟩
      case measure=>simp[intOf];omega
     ·go_wp2
      go_roundw
      case rel=>exact ⟨k+1,r2,-1,by omega,by go_num,congrArg (Value.int .i64) (by rw[<-hr2];congr 1;omega),rfl,YV.out,hbw.out⟩
      case measure=>simp[intOf];omega
  ·have e0:k=s.size:=by omega
   subst e0;have g3:¬ (s.size:Int)<(s.size:Int):=by omega
   have HO:=zh (Gh.out (show Gh s.data.toList s.data.toList.length n sg from hia.out) h1);have VQ:=zh hia.out.1;have F8:=zh (zB HB0 hbw.out);have lq:=zh (zE HX0 hbw.out);have HF:=zh (O8 n VQ wo (HE.out.below (zB HB0 hbw.out)));clear hia hbw hlt hk
   by_cases he:Lib.itoa n=s.data.toList
   ·have q1:((bA (Lib.itoa n)).toList != s.toList)=false:=by
     rw[Lib.toList_data,Lib.toList_data,show (bA (Lib.itoa n)).data.toList=Lib.itoa n from rfl,he];simp
    have q2:((bA (Lib.itoa n)).toList==s.toList)=true:=by
     rw[Lib.toList_data,Lib.toList_data,show (bA (Lib.itoa n)).data.toList=Lib.itoa n from rfl,he];simp
    have q3:(bA (Lib.itoa n)).toList=s.toList:=by simpa using q2
    have OQ:Hid (R=some (⟨2,⟨#[]⟩,n,⟨#[]⟩,0⟩,s.size)):=by
     show _=_
     rw[<-HR.out,Zc,HO.out,AAC he];rfl
    obtain ⟨⟨z0,z1,z2,z3,z4,z5⟩,y0,y1,y2,y3,y4,y5⟩:=BU lq;clear he z0 z1 z2 z3 z4 z5 y0 y1 y2 y3 y4 y5;go_wp2_with fail;refine HF.out.mono ?_;rintro e w5 ⟨rfl,hb5⟩;have MW:=zh (zB F8 hb5);have BK:=zh (zE lq hb5);clear hb5;obtain ⟨⟨z0,z1,z2,z3,z4,z5⟩,y0,y1,y2,y3,y4,y5⟩:=BU BK;go_wp2
    have HK:=zh (FE (t:=⟨2,⟨#[]⟩,n,⟨#[]⟩,0⟩) BK MW fun w' hb=>R8 OQ hb)
    clear z0 z1 z2 z3 z4 z5 y0 y1 y2 y3 y4 y5;unfold Go.Proofs.YthkkllmmbefedaaGreatDoor.Np at HK;generalize World.setCell _ _ _=W9 at *;obtain ⟨⟨z0,z1,z2,z3,z4,z5⟩,_⟩:=BU HK.out.1
    exact bodyPost_ret (v:=Y4 ⟨2,⟨#[]⟩,n,⟨#[]⟩,0⟩ s.size) (by simp[results,Tryz.results85,go_sem,z0,z1,z2,z3,z4,z5]) rfl HK.out.2
   ·have q1:((bA (Lib.itoa n)).toList != s.toList)=true:=by
     rw[Lib.toList_data,Lib.toList_data,show (bA (Lib.itoa n)).data.toList=Lib.itoa n from rfl];simp[he]
    have q2:((bA (Lib.itoa n)).toList==s.toList)=false:=by
     rw[Lib.toList_data,Lib.toList_data,show (bA (Lib.itoa n)).data.toList=Lib.itoa n from rfl];simp[he]
    have q3:¬ (bA (Lib.itoa n)).toList=s.toList:=by simpa using q2
    have OQ:Hid (R=none):=by
     show _=_
     rw[<-HR.out,Zc,HO.out,Pe he];rfl
    clear he;go_wp2_with fail;refine HF.out.mono ?_;rintro e w5 ⟨rfl,hb5⟩;have MW:=zh (zB F8 hb5);have BK:=zh (zE lq hb5);clear hb5;obtain ⟨⟨z0,z1,z2,z3,z4,z5⟩,y0,y1,y2,y3,y4,y5⟩:=BU BK;go_wp2;have HK:=zh (FE (t:=Ve) (n:=0) BK MW fun w' hb=>R9 OQ hb)
    clear z0 z1 z2 z3 z4 z5 y0 y1 y2 y3 y4 y5;unfold Go.Proofs.YthkkllmmbefedaaGreatDoor.Np at HK;generalize World.setCell _ _ _=W9 at *;obtain ⟨⟨z0,z1,z2,z3,z4,z5⟩,_⟩:=BU HK.out.1;exact bodyPost_ret (v:=Y4 Ve 0) (by simp[results,Tryz.results85,go_sem,z0,z1,z2,z3,z4,z5]) rfl HK.out.2
def Hz:List ByteArray:=[⟨#[123]⟩,⟨#[125]⟩,⟨#[40]⟩,⟨#[41]⟩,⟨#[91]⟩,⟨#[93]⟩,⟨#[44]⟩,⟨#[59]⟩,⟨#[58]⟩,⟨#[61]⟩,⟨#[46]⟩,⟨#[46,46]⟩,⟨#[45,62]⟩,⟨#[33]⟩,⟨#[63]⟩,⟨#[64]⟩,⟨#[42]⟩,⟨#[124]⟩]
theorem bM (w:World) (L:List ByteArray) (hL:L.length<=1000) (hz:∀x∈L,Dc x):JG (w.alloc (.cells (L.map Value.string).toArray 9)) (some ⟨w.heap.size,0,none⟩) L:=by
 refine ⟨by unfold D9;omega,fun _=>⟨_,_,rfl,fun i x hx=>⟨[.string x],⟨hz x (AAz hx),rfl⟩,fun j u hj=>?_⟩⟩⟩
 have hr:=zR w (L.map Value.string) 9
 match j,hj with
 | 0,hj =>
  obtain rfl:Value.string x=u:=by simpa using hj
  have:=hr i (.string x) (by rw[List.getElem?_map,hx];rfl)
  simpa using this
 | k+1,hj=>simp at hj
theorem bN {A:zo} {l:List ByteArray} (h:JG w A l) {i:Nat} (hi:i<l.length):∃b o,A=some ⟨b,o,none⟩/\w.cell? ⟨b,o+i,none⟩=some (.string l[i]):=by
 obtain ⟨b,o,cs,e,⟨_,rfl⟩,h2⟩:=Ae.at_ h hi;have:=h2 0 _ rfl;exact ⟨b,o,e,by simpa using this⟩
theorem bL:∀x∈Hz,Dc x:=by
 intro x hx
 have:∀y∈Hz,y.size<=100:=by decide
 have:=this x hx;unfold Dc;omega
theorem Rq (w:World):Calls Tryz.prog 139 #[] w fun e w'=>∃A c,e = .returned (.slice A Hz.length c)/\JG w' A Hz/\Below w.heap.size w w':=by
 have HN:=zh (bM w Hz (by decide) bL)
 have HB:=zh (zD w (.cells (Hz.map Value.string).toArray 9))
 go_enter Tryz.func139,Tryz.ntmps139
 go_wp2
 go_ret
 exact ⟨some ⟨w.heap.size,0,none⟩,18,rfl,HN.out,HB.out⟩
theorem Pn (s:ByteArray) (w:World):Calls Tryz.prog 87 #[.string s] w fun e w'=>e = .returned (.bool (Hz.any fun x=>decide (x=s)))/\Below w.heap.size w w':=by
 have NM:=zh Rq;have hlen:Hz.length<=18:=by decide
 generalize Hz=L at *
 go_enter Tryz.func87,Tryz.ntmps87
 go_wp2_with fail
 refine (NM.out w).mono ?_;rintro e w1 ⟨A,c,rfl,hr,hb⟩;have HR:=zh hr;have HB:=zh hb;clear hr hb;go_wp2
 go_loopw [4] (fun i wr=>∃k:Nat,k<=L.length/\i = .int .i64 k/\Hid (∀j (h:j<L.length),j<k->L[j]≠s)/\Hid (Below w1.heap.size w1 wr)) (fun i _=>L.length - (intOf i).toNat)
 case atStart=>exact ⟨0,by omega,rfl,fun j _ h=>absurd h (by omega),Pd _ _⟩
 case round =>
  obtain ⟨k,hk,rfl,hn,hbw⟩:=hrel;have HN:=zh hn.out;have F8:=zh hbw.out;clear hn hbw
  by_cases hlt:k<L.length
  ·obtain ⟨b,o,rfl,r0⟩:=bN (HR.out.below F8) hlt
   have g1:(0:Int)<=(k:Int):=by omega
   have g2:(k:Int)<(L.length:Int):=by omega
   by_cases he:L[k]=s
   ·have q1:((L[k]).toList==s.toList)=true:=by rw[bytes_beq];exact AAM he
    have HD:Hid ((L.any fun x=>decide (x=s))=true):=ABF.2 ⟨L[k],AAW hlt,AAM he⟩
    clear he;go_wp2;go_ret;exact ⟨by rw[HD.out];rfl,zB HB F8⟩
   ·have q1:((L[k]).toList==s.toList)=false:=by rw[bytes_beq];exact AAE he
    have mI:Hid (∀j (h:j<L.length),j<k+1->L[j]≠s):=fun j h hj=>by
     by_cases e:j=k
     ·subst e;exact he
     ·exact HN.out j h (by omega)
    clear he;go_wp2;go_roundw
    case rel=>exact ⟨k+1,by omega,by go_num,mI.out,F8.out⟩
    case measure=>simp[intOf];omega
  ·have HD:Hid ((L.any fun x=>decide (x=s))=false):=List.any_eq_false.2 fun x hm he=>by
    obtain ⟨j,hj,rfl⟩:=AAs hm;exact HN.out j hj (by omega) (AAm he)
   have g2:¬ (k:Int)<(L.length:Int):=by omega
   go_wp2
   go_ret
   exact ⟨by rw[HD.out];rfl,zB HB F8⟩
theorem Yv (l:List UInt8):(Hz.any fun x=>decide (x=bA l))=true↔l∈Ap:=by
 have h1:∀x∈Hz,x.data.toList∈Ap:=by decide
 have h2:∀x∈Ap,(Hz.any fun y=>decide (y=bA x))=true:=by decide
 constructor
 ·intro h
  obtain ⟨x,hx,he⟩:=ABF.1 h;have:=h1 x hx;rw[AAm he] at this;exact this
 ·exact h2 l
end Go.Proofs.YthkkllmmbefedaaGreatDoor



