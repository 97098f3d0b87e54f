/-
  Walks: sheaveref06.Symbols, isSymbol.
-/
import Derived.Test.YthkkllmmbefedaaGreatDoorQSXLS
import Derived.Test.YthkkllmmbefedaaGreatDoorQRT0
import Derived.Test.YthkkllmmbefedaaGreatDoorQGL0
import Derived.Test.YthkkllmmbefedaaGreatDoorQGA5
import Derived.Test.YthkkllmmbefedaaGreatDoorQGA7
import Derived.Test.YthkkllmmbefedaaGreatDoorQGA3
import Derived.Deep.DeepCutAuto
namespace Go.Proofs.YthkkllmmbefedaaGreatDoor
open Go.RowKit
set_option maxHeartbeats 16000000
set_option maxRecDepth 100000
theorem pre_ext {s:ByteArray} {ch:UInt8}:((s.extract 0 (quB ch).size).toList==(quB ch).toList)=decide (quBL ch <+: s.data.toList):=by
 rw[bytes_beq];have h:s.extract 0 (quB ch).size=quB ch↔quBL ch <+: s.data.toList:=by
  rw[List.prefix_iff_eq_take,←quB_list]
  constructor
  ·intro h
   have:=congrArg (fun x:ByteArray=>x.data.toList) h
   simp only[ext_take] at this;exact this.symm
  ·intro h
   have h2:(s.extract 0 (quB ch).size).data.toList=(quB ch).data.toList:=by rw[ext_take];exact h.symm
   have h3:(s.extract 0 (quB ch).size).data=(quB ch).data:=Array.toList_inj.1 h2;exact ByteArray.ext h3
 simp only[h]
theorem pre_size {s:ByteArray} {ch:UInt8} (h:quBL ch <+: s.data.toList):(quB ch).size≤s.size:=by
 have:=h.length_le;rw[←quB_size] at this;exact this
def PartP (S:List UInt8) (v:Int):Prop:=match partL S with
 | some (b,_)=>v=(b.toNat:Int)
 | none=>v = -1
theorem part_yes {S:List UInt8} (hq:∀c r,S=c::r→c.toNat≠34) {ch:UInt8} (h:quBL ch <+: S):PartP S (ch.toNat:Int):=by
 unfold PartP;rw[part_of ch S h hq]
theorem part_no {S:List UInt8} (hq:∀c r,S=c::r→c.toNat≠34) (h:∀ch:UInt8,¬ quBL ch <+: S):PartP S (-1):=by
 unfold PartP
 cases hp:partL S with
 | none=>rfl
 | some p =>
  obtain ⟨b,k⟩:=p;exact absurd (of_part hp hq).1 (h b)
theorem u8_wrapL (ch:UInt8):IntKind.u8.wrap (ch.toNat:Int)=(ch.toNat:Int):=by
 have:=ch.toNat_lt;rw[IntKind.wrap_u8]
 omega
theorem rPart_any (s:ByteArray) (hq:∀c r,s.data.toList=c::r→c.toNat≠34) (_hz:s.size≤140737488355328) (w:World) :
  Calls Tryz.prog 138 #[.string s] w fun e w'=>∃v:Int,e = .returned (.int .i64 v)∧PartP s.data.toList v∧Below w.heap.size w w':=by
 have HQ:=zh hq;clear hq
 go_enter Tryz.func138,Tryz.ntmps138
 go_wp2
 go_loopw [3] (fun i wr=>∃k:Nat,k≤256∧i = .int .i64 (k:Int)∧Hid (Below w.heap.size w wr∧∀ch:UInt8,ch.toNat<k→¬ quBL ch <+: s.data.toList)) (fun i _=>256 - (intOf i).toNat)
 case atStart=>exact ⟨0,by omega,rfl,Below.refl _ _,fun _ h=>absurd h (by omega)⟩
 case round =>
  obtain ⟨k,hk,rfl,hh⟩:=hrel;have HB:=zh hh.out.1;have HN:=zh hh.out.2;clear hh
  by_cases hlt:k<256
  ·obtain ⟨ch,rfl⟩:∃ch:UInt8,k=ch.toNat:=⟨UInt8.ofNat k,by simp[Nat.mod_eq_of_lt hlt]⟩
   have h1:(ch.toNat:Int)<256:=by omega
   have hw:=u8_wrapL ch;have HE:=zh (pre_ext (s:=s) (ch:=ch))
   by_cases hsz:(quB ch).size≤s.size
   ·have z1:decide ((s.size:Int) ≥ ((quB ch).size:Int))=true:=by simp;omega
    have z2:((quB ch).size:Int)≤(s.size:Int):=by omega
    have z3:(0:Int)≤((quB ch).size:Int):=by omega
    by_cases hp:quBL ch <+: s.data.toList
    ·have q1:((s.extract 0 (quB ch).size).toList==(quB ch).toList)=true:=by rw[HE.out];exact decide_eq_true hp
     have HR:=zh (part_yes HQ.out hp);clear hp HE hsz;go_wp2_with fail;refine (rQuoted_any ch _).mono ?_;rintro e w1 ⟨rfl,hb1⟩;have HB1:=zh (zB HB.out hb1);clear hb1;go_wp2;go_ret;exact ⟨_,rfl,HR.out,HB1.out⟩
    ·have q1:((s.extract 0 (quB ch).size).toList==(quB ch).toList)=false:=by rw[HE.out];exact decide_eq_false hp
     have HN1:Hid (∀c:UInt8,c.toNat<ch.toNat+1→¬ quBL c <+: s.data.toList):=fun c hc=>by
      by_cases e:c.toNat=ch.toNat
      ·rw[byte_eq e];exact hp
      ·exact HN.out c (by omega)
     clear hp HE hsz;go_wp2_with fail;refine (rQuoted_any ch _).mono ?_;rintro e w1 ⟨rfl,hb1⟩;have HB1:=zh (zB HB.out hb1);clear hb1;go_wp2;go_roundw
     case rel=>exact ⟨ch.toNat+1,by omega,by go_num,HB1.out,HN1.out⟩
     case measure=>simp[intOf];omega
   ·have z1:decide ((s.size:Int) ≥ ((quB ch).size:Int))=false:=by simp;omega
    have HN1:Hid (∀c:UInt8,c.toNat<ch.toNat+1→¬ quBL c <+: s.data.toList):=fun c hc=>by
     by_cases e:c.toNat=ch.toNat
     ·rw[byte_eq e];exact fun h=>hsz (pre_size h)
     ·exact HN.out c (by omega)
    have z2:¬ (s.size:Int) ≥ ((quB ch).size:Int):=by omega
    clear HE;go_wp2_with fail;refine (rQuoted_any ch _).mono ?_;rintro e w1 ⟨rfl,hb1⟩;have HB1:=zh (zB HB.out hb1);clear hb1;go_wp2;go_roundw
    case rel=>exact ⟨ch.toNat+1,by omega,by go_num,HB1.out,HN1.out⟩
    case measure=>simp[intOf];omega
  ·have HR:=zh (part_no HQ.out fun ch=>HN.out ch (by have:=ch.toNat_lt;omega))
   have h1:¬ (k:Int)<256:=by omega
   go_wp2
   go_ret
   exact ⟨_,rfl,HR.out,HB.out⟩
def FirM (u:ByteArray) (n:Int):Option (List UInt8×Nat)→Prop
 | some p=>u=bA p.1∧n=((p.2+1:Nat):Int)
 | none=>u=⟨#[]⟩∧n=0
def FirP (w:World) (l:List UInt8) (e:Ending) (w':World):Prop:=∃ (u:ByteArray) (n:Int),e = .returned (.agg #[.string u,.int .i64 n])∧FirM u n (quoL l)∧Below w.heap.size w w'
theorem fir_none {w w':World} {l:List UInt8} (h:quoL l=none) (hb:Below w.heap.size w w'):FirP w l (.returned (.agg #[.string ⟨#[]⟩,.int .i64 0])) w':=⟨_,_,rfl,by rw[h];exact ⟨rfl,rfl⟩,hb⟩
theorem fir_some {w w':World} {l o:List UInt8} {k:Nat} (h:quoL l=some (o,k)) (hb:Below w.heap.size w w'):FirP w l (.returned (.agg #[.string (bA o),.int .i64 ((k:Int)+1)])) w':=⟨_,_,rfl,by rw[h];exact ⟨rfl,by show (k:Int)+1=((k+1:Nat):Int);omega⟩,hb⟩
theorem box2 {w:World} {p:Nat} {a0 a1:Value} {T:TypeId} (h:w.heap[p]? = some (.cells #[a0,a1] T)) (v0 v1:Value):((w.setCell ⟨p,0,none⟩ v0).setCell ⟨p,1,none⟩ v1).heap[p]? = some (.cells #[v0,v1] T):=by
 have h0:=heap_setCell_same _ _ 0 _ _ v0 h;simp only[List.setIfInBounds_toArray,List.set_cons_zero] at h0;have h1:=heap_setCell_same _ _ 1 _ _ v1 h0;simp only[List.setIfInBounds_toArray,List.set_cons_zero,List.set_cons_succ] at h1;exact h1
theorem twoC {w:World} {p:Nat} {a0 a1:Value} {T:TypeId} (h:w.heap[p]? = some (.cells #[a0,a1] T)):(w.cell? ⟨p,0,none⟩=some a0∧w.cell? ⟨p,1,none⟩=some a1)∧(w.frozen? ⟨p,0,none⟩=false∧w.frozen? ⟨p,1,none⟩=false):=by
 refine ⟨⟨?_,?_⟩,frozen_of_row _ _ _ _ _ h,frozen_of_row _ _ _ _ _ h⟩ <;> (rw[cell_of_row _ _ _ _ _ _ h];rfl)
theorem set2_below {B:Nat} {w w':World} (h:Below B w w') {q:Nat} (hq:B≤q) (v0 v1:Value):Below B w ((w'.setCell ⟨q,0,none⟩ v0).setCell ⟨q,1,none⟩ v1) :=
 (h.setCell (p:=⟨q,0,none⟩) hq _).setCell (p:=⟨q,1,none⟩) hq _
abbrev zTx:Obj := .cells #[.string ⟨#[]⟩,.int .i64 0] 146
theorem rFirst_any (s:ByteArray) (hs:s.size≤140737488355328) (h1:0<s.size) (hq0:s[0].toNat=34) (w:World):Calls Tryz.prog 86 #[.string s] w (FirP w (s.data.toList.drop 1)):=by
 have HSZ:=zh hs;obtain ⟨L1,hL1⟩:∃L1,s.data.toList.drop 1=L1:=⟨_,rfl⟩;rw[hL1];have HL1:=zh hL1;have q0:((s[0].toNat:Int) != 34)=false:=by rw[hq0];rfl
 have q00:s.toList.isEmpty=false:=by simpa using bytes_cons h1
 have HX0:=zh (heap_alloc_new w zTx);have HB0:=zh (zD w zTx);have HZ0:Hid ((w.alloc zTx).heap.size=w.heap.size+1):=by show _=_;simp
 have h10:(0:Int)<(s.size:Int):=by omega
 clear hL1 hq0
 go_enter Tryz.func86,Tryz.ntmps86
 go_upto_region 1 with fail
 generalize w.alloc zTx=W0 at *;go_wp2
 go_loopw [3,4] (fun v i wr=>∃ (k:Nat) (o:List UInt8),1≤k∧k≤s.size∧o.length<k∧i = .int .i64 k∧Hid (QuoAt s.data.toList k o∧OwnU wr W0.heap.size v o∧Below W0.heap.size W0 wr)) (fun _ i _=>s.size - (intOf i).toNat)
 case atStart =>
  refine ⟨1,[],by omega,by omega,by simp,rfl,?_,OwnL.nil _ _,Below.refl _ _⟩
  unfold QuoAt
  cases quoL (s.data.toList.drop 1) <;> rfl
 case round =>
  obtain ⟨k,o,hk1,hk2,hol,rfl,hh⟩:=hrel;have HQ:=zh hh.out.1;have HO:=zh hh.out.2.1;have HB:=zh hh.out.2.2;have HBW:=zh (zB HB0.out hh.out.2.2);have HX:=zh (zE HX0.out hh.out.2.2);clear hh;obtain ⟨wo,rfl⟩:∃wo:World,wo=wr:=⟨_,rfl⟩
  by_cases hlt:k<s.size
  case neg =>
   have HN:=zh (HL1.out▸HQ.out.end_ (show s.data.toList.length≤k by have:s.data.toList.length=s.size:=rfl;omega))
   have e0:k=s.size:=by omega
   subst e0;have q1:¬ (s.size:Int)<(s.size:Int):=by omega
   have q2:((s.size:Int)==(s.size:Int))=true:=by simp
   obtain ⟨⟨z0,z1⟩,y0,y1⟩:=twoC HX.out;clear hlt;go_wp2;have HK:=zh (box2 HX.out (.string ⟨#[]⟩) (.int .i64 0));have HK2:=zh (fir_none HN.out (set2_below HBW.out (Nat.le_refl w.heap.size) (.string ⟨#[]⟩) (.int .i64 0)));clear z0 z1 y0 y1;generalize World.setCell (World.setCell wo _ _) _ _=W9 at *;obtain ⟨⟨z0,z1⟩,_⟩:=twoC HK.out
   exact bodyPost_ret (v := .agg #[.string ⟨#[]⟩,.int .i64 0]) (by simp[results,Tryz.results86,go_sem,z0,z1]) rfl HK2.out
  have g1:(0:Int)≤(k:Int):=by omega
  have g2:(k:Int)<(s.size:Int):=by omega
  have HD:=zh (list1 hlt);obtain ⟨c,hc⟩:∃c,c=s[k]:=⟨_,rfl⟩;rw[←hc] at HD
  by_cases c1:c.toNat=34
  ·have HN:=zh (HL1.out▸HQ.out.close hk1 HD.out c1)
   have q1:((s[k].toNat:Int) != 34)=false:=by rw[←hc];simp[c1]
   have q2:((k:Int)==(s.size:Int))=false:=by simp;omega
   obtain ⟨⟨z0,z1⟩,y0,y1⟩:=twoC HX.out;clear c1 HD;go_wp2_with (refine wpList_conv rfl (.tmp 47) rfl W0.heap.size _ o rfl HO.out ?_);have HK:=zh (box2 HX.out (.string (bA o)) (.int .i64 ((k:Int)+1)));have HK2:=zh (fir_some HN.out (set2_below HBW.out (Nat.le_refl w.heap.size) (.string (bA o)) (.int .i64 ((k:Int)+1))));clear z0 z1 y0 y1;generalize World.setCell (World.setCell wo _ _) _ _=W9 at *
   obtain ⟨⟨z0,z1⟩,_⟩:=twoC HK.out;exact bodyPost_ret (v := .agg #[.string (bA o),.int .i64 ((k:Int)+1)]) (by simp[results,Tryz.results86,go_sem,z0,z1]) rfl HK2.out
  have q1:((s[k].toNat:Int) != 34)=true:=by rw[←hc];simp;omega
  have HEX:Hid ((s.extract k s.size).data.toList=c::s.data.toList.drop (k+1)):=by show _=_;rw[ext_drop,HD.out]
  have HPA:=zh (rPart_any (s.extract k s.size) (fun c' r e=>by
   rw[HEX.out] at e
   injection e with e _
   rw[←e];exact c1) (by
   have h:(s.extract k s.size).size=(s.data.toList.drop k).length:=by rw[←ext_drop];rfl
   rw[h,List.length_drop,show s.data.toList.length=s.size from rfl];omega) wo)
  have HC34:=zh c1;clear c1;go_wp2_with fail;refine HPA.out.mono ?_;rintro e w5 ⟨v,rfl,hp,hb⟩;have HB5:=zh (zB HB.out hb);have HO5:=zh (HO.out.below hb);have HX5:=zh (zE HX.out hb);have HBW5:=zh (zB HBW.out hb);unfold PartP at hp;rw[HEX.out] at hp;clear hb
  cases hpl:partL (c::s.data.toList.drop (k+1)) with
  | none =>
   rw[hpl] at hp;simp only at hp;subst hp;have HN:=zh (HL1.out▸HQ.out.bad HD.out HC34.out hpl);obtain ⟨⟨z0,z1⟩,y0,y1⟩:=twoC HX5.out;clear hpl HD;go_wp2;have HK:=zh (box2 HX5.out (.string ⟨#[]⟩) (.int .i64 0));have HK2:=zh (fir_none HN.out (set2_below HBW5.out (Nat.le_refl w.heap.size) (.string ⟨#[]⟩) (.int .i64 0)));clear z0 z1 y0 y1;generalize World.setCell (World.setCell w5 _ _) _ _=W9 at *
   obtain ⟨⟨z0,z1⟩,_⟩:=twoC HK.out;exact bodyPost_ret (v := .agg #[.string ⟨#[]⟩,.int .i64 0]) (by simp[results,Tryz.results86,go_sem,z0,z1]) rfl HK2.out
  | some q =>
   obtain ⟨b,n⟩:=q;rw[hpl] at hp;simp only at hp;subst hp;have HN:=zh (HQ.out.step hk1 HD.out HC34.out hpl);have hop:=of_part hpl (fun c' r e=>by
    injection e with e _
    rw[←e];exact HC34.out)
   have hpr:=partL_le hpl;have hqz:(quB b).size=n:=by rw[quB_size];exact hop.2.symm
   have hkn:k+n≤s.size:=by
    have:=hpr.2;rw[List.length_cons,List.length_drop,show s.data.toList.length=s.size from rfl] at this
    omega
   have hn1:=hpr.1;have p0:¬ (b.toNat:Int)<0:=by omega
   have hw:=u8_wrapL b;have HO1:=zh (OwnL.alloc HO5.out (.cells #[.int .u8 (b.toNat:Int)] 5));have HRN:Hid ((w5.alloc (.cells #[.int .u8 (b.toNat:Int)] 5)).rangeAt w5.heap.size 0 [.int .u8 (b.toNat:Int)]):=zR w5 [.int .u8 (b.toNat:Int)] 5;have HZ7:Hid (W0.heap.size≤(w5.alloc (.cells #[.int .u8 (b.toNat:Int)] 5)).heap.size):=by have:=HB5.out.size;show _≤_;simp;omega
   clear hpl HD hop hpr
   go_wp2_with (first|(at_builtin;refine yG elem_u8 _ rfl (.tmp 31) (.tmp 34) rfl W0.heap.size _ _ _ rfl HO1.out w5.heap.size 0 1 1 [.int .u8 (b.toNat:Int)] rfl rfl HRN.out (by simp[Value.oneCell']) (by have:=HSZ.out;omega) (by have:=HSZ.out;omega) HZ7.out ?_;intro v8 w8 ho8 hg8;have HO8:=zh (OwnL.snoc (x:=b) ho8);have HB8:=zh ((HB5.out.alloc HB5.out.size _).grown hg8 HZ7.out HO1.out.lt);clear ho8 hg8)|fail)
   refine (rQuoted_any b _).mono ?_;rintro e w9 ⟨rfl,hb9⟩;have HO9:=zh (HO8.out.below hb9);have HB9:=zh (zB HB8.out hb9);clear hb9;go_wp2;go_roundw
   case rel=>exact ⟨k+n,o++[b],by omega,hkn,by simp;omega,by go_num,HN.out,HO9.out,HB9.out⟩
   case measure=>simp[intOf];omega
abbrev rdV (t:TokD) (n:Int):Value := .agg #[.int .i64 t.kind,.string t.text,.int .i64 t.int,.string t.str,.int .i64 t.line,.int .i64 n]
abbrev zTkn:TokD:=⟨0,⟨#[]⟩,0,⟨#[]⟩,0⟩
def NxM (t:TokD) (n:Int):Option (TokD×Nat)→Prop
 | some p=>t=p.1∧n=(p.2:Int)
 | none=>n=0
def NxtP (r:Option (TokD×Nat)) (w:World) (e:Ending) (w':World):Prop:=∃ (t:TokD) (n:Int),e = .returned (rdV t n)∧NxM t n r∧Below w.heap.size w w'
theorem nx_none {r:Option (TokD×Nat)} {w w':World} (h:r=none) (hb:Below w.heap.size w w'):NxtP r w (.returned (rdV zTkn 0)) w':=⟨_,_,rfl,by rw[h];rfl,hb⟩
theorem nx_some {r:Option (TokD×Nat)} {w w':World} {t:TokD} {k:Nat} (h:r=some (t,k)) (hb:Below w.heap.size w w'):NxtP r w (.returned (rdV t k)) w':=⟨_,_,rfl,by rw[h];exact ⟨rfl,rfl⟩,hb⟩
abbrev set6 (w:World) (p:Nat) (v0 v1 v2 v3 v4 v5:Value):World:=(((((w.setCell ⟨p,0,none⟩ v0).setCell ⟨p,1,none⟩ v1).setCell ⟨p,2,none⟩ v2).setCell ⟨p,3,none⟩ v3).setCell ⟨p,4,none⟩ v4).setCell ⟨p,5,none⟩ v5
theorem box6 {w:World} {p:Nat} {a0 a1 a2 a3 a4 a5:Value} {T:TypeId} (h:w.heap[p]? = some (.cells #[a0,a1,a2,a3,a4,a5] T)) (v0 v1 v2 v3 v4 v5:Value):(set6 w p v0 v1 v2 v3 v4 v5).heap[p]? = some (.cells #[v0,v1,v2,v3,v4,v5] T):=by
 have h0:=heap_setCell_same _ _ 0 _ _ v0 h;simp only[List.setIfInBounds_toArray,List.set_cons_zero] at h0;have h1:=heap_setCell_same _ _ 1 _ _ v1 h0;simp only[List.setIfInBounds_toArray,List.set_cons_zero,List.set_cons_succ] at h1;have h2:=heap_setCell_same _ _ 2 _ _ v2 h1;simp only[List.setIfInBounds_toArray,List.set_cons_zero,List.set_cons_succ] at h2;have h3:=heap_setCell_same _ _ 3 _ _ v3 h2
 simp only[List.setIfInBounds_toArray,List.set_cons_zero,List.set_cons_succ] at h3;have h4:=heap_setCell_same _ _ 4 _ _ v4 h3;simp only[List.setIfInBounds_toArray,List.set_cons_zero,List.set_cons_succ] at h4;have h5:=heap_setCell_same _ _ 5 _ _ v5 h4;simp only[List.setIfInBounds_toArray,List.set_cons_zero,List.set_cons_succ] at h5;exact h5
theorem six_cells {w:World} {p:Nat} {a0 a1 a2 a3 a4 a5:Value} {T:TypeId} (h:w.heap[p]? = some (.cells #[a0,a1,a2,a3,a4,a5] T)):(w.cell? ⟨p,0,none⟩=some a0∧w.cell? ⟨p,1,none⟩=some a1∧w.cell? ⟨p,2,none⟩=some a2∧w.cell? ⟨p,3,none⟩=some a3∧w.cell? ⟨p,4,none⟩=some a4∧w.cell? ⟨p,5,none⟩=some a5) ∧
  (w.frozen? ⟨p,0,none⟩=false∧w.frozen? ⟨p,1,none⟩=false∧w.frozen? ⟨p,2,none⟩=false∧w.frozen? ⟨p,3,none⟩=false∧w.frozen? ⟨p,4,none⟩=false∧w.frozen? ⟨p,5,none⟩=false):=by
 refine ⟨⟨?_,?_,?_,?_,?_,?_⟩,frozen_of_row _ _ _ _ _ h,frozen_of_row _ _ _ _ _ h,frozen_of_row _ _ _ _ _ h,frozen_of_row _ _ _ _ _ h,frozen_of_row _ _ _ _ _ h,frozen_of_row _ _ _ _ _ h⟩ <;> (rw[cell_of_row _ _ _ _ _ _ h];rfl)
theorem set6_below {B:Nat} {w w':World} (h:Below B w w') {q:Nat} (hq:B≤q) (v0 v1 v2 v3 v4 v5:Value):Below B w (set6 w' q v0 v1 v2 v3 v4 v5) :=
 (((((h.setCell (p:=⟨q,0,none⟩) hq _).setCell (p:=⟨q,1,none⟩) hq _).setCell (p:=⟨q,2,none⟩) hq _).setCell (p:=⟨q,3,none⟩) hq _).setCell (p:=⟨q,4,none⟩) hq _).setCell (p:=⟨q,5,none⟩) hq _
abbrev zRd:Obj := .cells #[.int .i64 0,.string ⟨#[]⟩,.int .i64 0,.string ⟨#[]⟩,.int .i64 0,.int .i64 0] 109
theorem rd_write {w W:World} {r:Option (TokD×Nat)} {t:TokD} {n:Int} {a0 a1 a2 a3 a4 a5:Value} (hX:W.heap[w.heap.size]? = some (.cells #[a0,a1,a2,a3,a4,a5] 109)) (hb:Below w.heap.size w W) (h:∀w',Below w.heap.size w w'→NxtP r w (.returned (rdV t n)) w') :
  (set6 W w.heap.size (.int .i64 t.kind) (.string t.text) (.int .i64 t.int) (.string t.str) (.int .i64 t.line) (.int .i64 n)).heap[w.heap.size]? = some (.cells #[.int .i64 t.kind,.string t.text,.int .i64 t.int,.string t.str,.int .i64 t.line,.int .i64 n] 109) ∧
  NxtP r w (.returned (rdV t n)) (set6 W w.heap.size (.int .i64 t.kind) (.string t.text) (.int .i64 t.int) (.string t.str) (.int .i64 t.line) (.int .i64 n)) :=
 ⟨box6 hX _ _ _ _ _ _,h _ (set6_below hb (Nat.le_refl _) _ _ _ _ _ _)⟩
def IntAt (T:List UInt8) (k:Nat) (n sg:Int):Prop:=(-9223372036854775808≤n∧n≤9223372036854775807) ∧
 (k=0→n=0∧sg=1)∧(1≤k→(sg = -1∧(T.headD 0).toNat=45∧∃z,n=accL (-1) 0 ((T.take k).drop 1)+18446744073709551616 * z)∨(sg=1∧(T.headD 0).toNat≠45∧∃z,n=accL 1 0 (T.take k)+18446744073709551616 * z))
theorem IntAt.start (T:List UInt8):IntAt T 0 0 1:=⟨by omega,fun _=>⟨rfl,rfl⟩,fun h=>absurd h (by omega)⟩
theorem IntAt.neg {T:List UInt8} (hT:0<T.length) (h:(T.headD 0).toNat=45):IntAt T 1 0 (-1) :=
 ⟨by omega,fun h=>absurd h (by omega),fun _=>Or.inl ⟨rfl,h,0,by
  cases T with
  | nil=>cases hT
  | cons c r=>rfl⟩⟩
theorem IntAt.step {T:List UInt8} {k:Nat} {n sg m:Int} (h:IntAt T k n sg) (hk:k<T.length) (hs:k=0→(T.headD 0).toNat≠45) (hm:-9223372036854775808≤m∧m≤9223372036854775807) {z:Int} (hz:m=10 * n+sg * ((T[k].toNat:Int) - 48)+18446744073709551616 * z):IntAt T (k+1) m sg:=by
 refine ⟨hm,fun h=>absurd h (by omega),fun _=>?_⟩
 have ht:T.take (k+1)=T.take k++[T[k]]:=by rw[List.take_succ_eq_append_getElem hk]
 by_cases h0:k=0
 ·obtain ⟨rfl,rfl⟩:=h.2.1 h0
  right
  refine ⟨rfl,hs h0,z,?_⟩;subst h0;rw[ht,accL_snoc]
  show m=10 * accL 1 0 []+_+_
  rw[accL];exact hz
 ·rcases h.2.2 (by omega) with ⟨rfl,h1,y,hy⟩|⟨rfl,h1,y,hy⟩
  ·left
   refine ⟨rfl,h1,10 * y+z,?_⟩;rw[ht,List.drop_append_of_le_length (by rw[List.length_take];omega),accL_snoc]
   omega
  ·right
   refine ⟨rfl,h1,10 * y+z,?_⟩;rw[ht,accL_snoc]
   omega
theorem IntAt.out {T:List UInt8} {n sg:Int} (h:IntAt T T.length n sg) (h0:0<T.length):intL T=if Lib.itoa n=T then some n else none:=by
 rcases h.2.2 h0 with ⟨rfl,h1,y,hy⟩|⟨rfl,h1,y,hy⟩
 ·refine intL_raw h.1.1 h.1.2 (k:=y) ?_
  rw[hy,List.take_length]
  cases T with
  | nil=>cases h0
  | cons c r=>rw[rawI,if_pos (show c.toNat=45 from h1)];rfl
 ·refine intL_raw h.1.1 h.1.2 (k:=y) ?_
  rw[hy,List.take_length]
  cases T with
  | nil=>cases h0
  | cons c r=>rw[rawI,if_neg (show ¬ c.toNat=45 from h1)]
def intR (s:ByteArray):Option (TokD×Nat):=(intL s.data.toList).map fun v=>(⟨2,⟨#[]⟩,v,⟨#[]⟩,0⟩,s.size)
theorem wrap_ex (x:Int):∃z,wrap64 x=x+18446744073709551616 * z ∧ -9223372036854775808≤wrap64 x∧wrap64 x≤9223372036854775807:=by
 refine ⟨(wrap64 x - x) / 18446744073709551616,?_,?_,?_⟩ <;> (unfold wrap64;omega)
theorem rInteger_any (s:ByteArray) (hs:s.size≤140737488355328) (h1:0<s.size) (w:World) (hE:EnvL w):Calls Tryz.prog 85 #[.string s] w (NxtP (intR s) w):=by
 have HE:=zh hE;have HSZ:=zh hs;have hsl:s.data.toList.length=s.size:=rfl;have h10:(0:Int)<(s.size:Int):=by omega
 have HHD:Hid ((s.data.toList.headD 0).toNat=s[0].toNat):=by show _=_;rw[list0 h1];rfl
 have HX0:=zh (heap_alloc_new w zRd);have HB0:=zh (zD w zRd);obtain ⟨R,hR⟩:∃R,intR s=R:=⟨_,rfl⟩;rw[hR];have HR:=zh hR;clear hE hR
 go_enter Tryz.func85,Tryz.ntmps85
 go_upto_region 1 with fail
 generalize w.alloc zRd=W0 at *;go_wp2
 go_loopw [3,4,5] (fun a b i wr=>∃ (k:Nat) (n sg:Int),k≤s.size∧i = .int .i64 k∧a = .int .i64 n∧b = .int .i64 sg∧Hid (IntAt s.data.toList k n sg)∧Hid (Below W0.heap.size W0 wr)) (fun _ _ i _=>s.size - (intOf i).toNat)
 case atStart=>exact ⟨0,0,1,by omega,rfl,rfl,rfl,IntAt.start _,Below.refl _ _⟩
 case round =>
  obtain ⟨k,n,sg,hk,rfl,rfl,rfl,hia,hbw⟩:=hrel;obtain ⟨wo,rfl⟩:∃wo:World,wo=wr:=⟨_,rfl⟩
  by_cases hlt:k<s.size
  ·have g1:(0:Int)≤(k:Int):=by omega
   have g2:(k:Int)<(s.size:Int):=by omega
   by_cases hn:k=0∧s[0].toNat=45
   ·obtain ⟨rfl,h45⟩:=hn
    have q2:((s[0].toNat:Int)==45)=true:=by rw[h45];rfl
    have HN:=zh (IntAt.neg (T:=s.data.toList) (by omega) (HHD.out.trans h45))
    clear h45;obtain ⟨rfl,rfl⟩:=hia.out.2.1 rfl;go_wp2;go_roundw
    case rel=>exact ⟨1,0,-1,by omega,by go_num,rfl,rfl,HN.out,hbw.out⟩
    case measure=>simp[intOf];omega
   ·obtain ⟨ch,hch⟩:∃ch,ch=s[k]:=⟨_,rfl⟩
    have hch2:s.data.toList[k]'(by omega)=ch:=by rw[hch];rfl
    have h256:=ch.toNat_lt;obtain ⟨r1,hr1⟩:∃r1,wrap64 (10 * n)=r1:=⟨_,rfl⟩;obtain ⟨r2,hr2⟩:∃r2,wrap64 (r1+sg * ((ch.toNat:Int) - 48))=r2:=⟨_,rfl⟩;have HSTEP:Hid (IntAt s.data.toList (k+1) r2 sg):=by
     obtain ⟨z1,e1,_,_⟩:=wrap_ex (10 * n);obtain ⟨z2,e2,e3,e4⟩:=wrap_ex (r1+sg * ((ch.toNat:Int) - 48));rw[hr1] at e1;rw[hr2] at e2 e3 e4;refine hia.out.step (by omega) (fun h0 h45=>hn ⟨h0,?_⟩) ⟨e3,e4⟩ (z:=z1+z2) ?_
     ·rw[←HHD.out];exact h45
     ·rw[hch2,e2,e1];omega
    have HSG:Hid (sg=1∨sg = -1):=by
     show _∨_
     by_cases h0:k=0
     ·exact Or.inl (hia.out.2.1 h0).2
     ·rcases hia.out.2.2 (by omega) with ⟨e,_⟩|⟨e,_⟩
      ·exact Or.inr e
      ·exact Or.inl e
    have hqq:((k:Int)==0)=false∨(((k:Int)==0)=true∧((s[k].toNat:Int)==45)=false):=by
     by_cases h0:k=0
     ·right
      subst h0;refine ⟨rfl,?_⟩;have:s[0].toNat≠45:=fun e=>hn ⟨rfl,e⟩
      simp;omega
     ·left;simp;omega
    subst hch;clear hch2 hn hia
    rcases HSG.out with rfl|rfl
    ·rcases hqq with q1|⟨q1,q2⟩
     ·go_wp2
      go_roundw
      case rel=>exact ⟨k+1,r2,1,by omega,by go_num,congrArg (Value.int .i64) (by rw[←hr2];congr 1;omega),rfl,HSTEP.out,hbw.out⟩
      case measure=>simp[intOf];omega
     ·go_wp2
      go_roundw
      case rel=>exact ⟨k+1,r2,1,by omega,by go_num,congrArg (Value.int .i64) (by rw[←hr2];congr 1;omega),rfl,HSTEP.out,hbw.out⟩
      case measure=>simp[intOf];omega
    ·rcases hqq with q1|⟨q1,q2⟩
     ·go_wp2
      go_roundw
      case rel=>exact ⟨k+1,r2,-1,by omega,by go_num,congrArg (Value.int .i64) (by rw[←hr2];congr 1;omega),rfl,HSTEP.out,hbw.out⟩
      case measure=>simp[intOf];omega
     ·go_wp2
      go_roundw
      case rel=>exact ⟨k+1,r2,-1,by omega,by go_num,congrArg (Value.int .i64) (by rw[←hr2];congr 1;omega),rfl,HSTEP.out,hbw.out⟩
      case measure=>simp[intOf];omega
  ·have e0:k=s.size:=by omega
   subst e0;have g3:¬ (s.size:Int)<(s.size:Int):=by omega
   have HO:=zh (IntAt.out (show IntAt s.data.toList s.data.toList.length n sg from hia.out) h1);have HN6:=zh hia.out.1;have HBW:=zh (zB HB0.out hbw.out);have HXo:=zh (zE HX0.out hbw.out);have HF:=zh (fmtL_any n HN6.out wo (HE.out.below (zB HB0.out hbw.out)));clear hia hbw hlt hk
   by_cases he:Lib.itoa n=s.data.toList
   ·have q1:((bA (Lib.itoa n)).toList != s.toList)=false:=by
     rw[Lib.toList_data,Lib.toList_data,show (bA (Lib.itoa n)).data.toList=Lib.itoa n from rfl,he];simp
    have q2:((bA (Lib.itoa n)).toList==s.toList)=true:=by
     rw[Lib.toList_data,Lib.toList_data,show (bA (Lib.itoa n)).data.toList=Lib.itoa n from rfl,he];simp
    have q3:(bA (Lib.itoa n)).toList=s.toList:=by simpa using q2
    have HRS:Hid (R=some (⟨2,⟨#[]⟩,n,⟨#[]⟩,0⟩,s.size)):=by
     show _=_
     rw[←HR.out,intR,HO.out,if_pos he];rfl
    obtain ⟨⟨z0,z1,z2,z3,z4,z5⟩,y0,y1,y2,y3,y4,y5⟩:=six_cells HXo.out;clear he z0 z1 z2 z3 z4 z5 y0 y1 y2 y3 y4 y5;go_wp2_with fail;refine HF.out.mono ?_;rintro e w5 ⟨rfl,hb5⟩;have HBW5:=zh (zB HBW.out hb5);have HX5:=zh (zE HXo.out hb5);clear hb5;obtain ⟨⟨z0,z1,z2,z3,z4,z5⟩,y0,y1,y2,y3,y4,y5⟩:=six_cells HX5.out;go_wp2
    have HK:=zh (rd_write (t:=⟨2,⟨#[]⟩,n,⟨#[]⟩,0⟩) HX5.out HBW5.out fun w' hb=>nx_some HRS.out hb)
    clear z0 z1 z2 z3 z4 z5 y0 y1 y2 y3 y4 y5;unfold Go.Proofs.YthkkllmmbefedaaGreatDoor.set6 at HK;generalize World.setCell (World.setCell (World.setCell (World.setCell (World.setCell (World.setCell w5 _ _) _ _) _ _) _ _) _ _) _ _=W9 at *;obtain ⟨⟨z0,z1,z2,z3,z4,z5⟩,_⟩:=six_cells HK.out.1
    exact bodyPost_ret (v:=rdV ⟨2,⟨#[]⟩,n,⟨#[]⟩,0⟩ s.size) (by simp[results,Tryz.results85,go_sem,z0,z1,z2,z3,z4,z5]) rfl HK.out.2
   ·have q1:((bA (Lib.itoa n)).toList != s.toList)=true:=by
     rw[Lib.toList_data,Lib.toList_data,show (bA (Lib.itoa n)).data.toList=Lib.itoa n from rfl];simp[he]
    have q2:((bA (Lib.itoa n)).toList==s.toList)=false:=by
     rw[Lib.toList_data,Lib.toList_data,show (bA (Lib.itoa n)).data.toList=Lib.itoa n from rfl];simp[he]
    have q3:¬ (bA (Lib.itoa n)).toList=s.toList:=by simpa using q2
    have HRS:Hid (R=none):=by
     show _=_
     rw[←HR.out,intR,HO.out,if_neg he];rfl
    clear he;go_wp2_with fail;refine HF.out.mono ?_;rintro e w5 ⟨rfl,hb5⟩;have HBW5:=zh (zB HBW.out hb5);have HX5:=zh (zE HXo.out hb5);clear hb5;obtain ⟨⟨z0,z1,z2,z3,z4,z5⟩,y0,y1,y2,y3,y4,y5⟩:=six_cells HX5.out;go_wp2;have HK:=zh (rd_write (t:=zTkn) (n:=0) HX5.out HBW5.out fun w' hb=>nx_none HRS.out hb)
    clear z0 z1 z2 z3 z4 z5 y0 y1 y2 y3 y4 y5;unfold Go.Proofs.YthkkllmmbefedaaGreatDoor.set6 at HK;generalize World.setCell (World.setCell (World.setCell (World.setCell (World.setCell (World.setCell w5 _ _) _ _) _ _) _ _) _ _) _ _=W9 at *;obtain ⟨⟨z0,z1,z2,z3,z4,z5⟩,_⟩:=six_cells HK.out.1;exact bodyPost_ret (v:=rdV zTkn 0) (by simp[results,Tryz.results85,go_sem,z0,z1,z2,z3,z4,z5]) rfl HK.out.2
def symGo:List ByteArray:=[⟨#[123]⟩,⟨#[125]⟩,⟨#[40]⟩,⟨#[41]⟩,⟨#[91]⟩,⟨#[93]⟩,⟨#[44]⟩,⟨#[59]⟩,⟨#[58]⟩,⟨#[61]⟩,⟨#[46]⟩,⟨#[46,46]⟩,⟨#[45,62]⟩,⟨#[33]⟩,⟨#[63]⟩,⟨#[64]⟩,⟨#[42]⟩,⟨#[124]⟩]
theorem strs_new (w:World) (L:List ByteArray) (hL:L.length≤1000) (hz:∀x∈L,SOk x):StrsR (w.alloc (.cells (L.map Value.string).toArray 9)) (some ⟨w.heap.size,0,none⟩) L:=by
 refine ⟨by unfold Lim;omega,fun _=>⟨_,_,rfl,fun i x hx=>⟨[.string x],⟨hz x (List.mem_of_getElem? hx),rfl⟩,fun j u hj=>?_⟩⟩⟩
 have hr:=zR w (L.map Value.string) 9
 match j,hj with
 | 0,hj =>
  obtain rfl:Value.string x=u:=by simpa using hj
  have:=hr i (.string x) (by rw[List.getElem?_map,hx];rfl)
  simpa using this
 | k+1,hj=>simp at hj
theorem strs_at1 {w:World} {A:zo} {l:List ByteArray} (h:StrsR w A l) {i:Nat} (hi:i<l.length):∃b o,A=some ⟨b,o,none⟩∧w.cell? ⟨b,o+i,none⟩=some (.string l[i]):=by
 obtain ⟨b,o,cs,e,⟨_,rfl⟩,h2⟩:=RowsR.at_ h hi;have:=h2 0 _ rfl;exact ⟨b,o,e,by simpa using this⟩
theorem symGo_ok:∀x∈symGo,SOk x:=by
 intro x hx
 have:∀y∈symGo,y.size≤100:=by decide
 have:=this x hx;unfold SOk;omega
theorem rSymbols_any (w:World):Calls Tryz.prog 139 #[] w fun e w'=>∃A c,e = .returned (.slice A symGo.length c)∧StrsR w' A symGo∧Below w.heap.size w w':=by
 have HN:=zh (strs_new w symGo (by decide) symGo_ok)
 have HB:=zh (zD w (.cells (symGo.map Value.string).toArray 9))
 go_enter Tryz.func139,Tryz.ntmps139
 go_wp2
 go_ret
 exact ⟨some ⟨w.heap.size,0,none⟩,18,rfl,HN.out,HB.out⟩
theorem rIsSymbol_any (s:ByteArray) (w:World):Calls Tryz.prog 87 #[.string s] w fun e w'=>e = .returned (.bool (symGo.any fun x=>decide (x=s)))∧Below w.heap.size w w':=by
 have HSY:=zh rSymbols_any;have hlen:symGo.length≤18:=by decide
 generalize symGo=L at *
 go_enter Tryz.func87,Tryz.ntmps87
 go_wp2_with fail
 refine (HSY.out w).mono ?_;rintro e w1 ⟨A,c,rfl,hr,hb⟩;have HR:=zh hr;have HB:=zh hb;clear hr hb;go_wp2
 go_loopw [4] (fun i wr=>∃k:Nat,k≤L.length∧i = .int .i64 k∧Hid (∀j (h:j<L.length),j<k→L[j]≠s)∧Hid (Below w1.heap.size w1 wr)) (fun i _=>L.length - (intOf i).toNat)
 case atStart=>exact ⟨0,by omega,rfl,fun j _ h=>absurd h (by omega),Below.refl _ _⟩
 case round =>
  obtain ⟨k,hk,rfl,hn,hbw⟩:=hrel;have HN:=zh hn.out;have HBW:=zh hbw.out;clear hn hbw
  by_cases hlt:k<L.length
  ·obtain ⟨b,o,rfl,r0⟩:=strs_at1 (HR.out.below HBW.out) hlt
   have g1:(0:Int)≤(k:Int):=by omega
   have g2:(k:Int)<(L.length:Int):=by omega
   by_cases he:L[k]=s
   ·have q1:((L[k]).toList==s.toList)=true:=by rw[bytes_beq];exact decide_eq_true he
    have HD:Hid ((L.any fun x=>decide (x=s))=true):=List.any_eq_true.2 ⟨L[k],List.getElem_mem hlt,decide_eq_true he⟩
    clear he;go_wp2;go_ret;exact ⟨by rw[HD.out];rfl,zB HB.out HBW.out⟩
   ·have q1:((L[k]).toList==s.toList)=false:=by rw[bytes_beq];exact decide_eq_false he
    have HN2:Hid (∀j (h:j<L.length),j<k+1→L[j]≠s):=fun j h hj=>by
     by_cases e:j=k
     ·subst e;exact he
     ·exact HN.out j h (by omega)
    clear he;go_wp2;go_roundw
    case rel=>exact ⟨k+1,by omega,by go_num,HN2.out,HBW.out⟩
    case measure=>simp[intOf];omega
  ·have HD:Hid ((L.any fun x=>decide (x=s))=false):=List.any_eq_false.2 fun x hm he=>by
    obtain ⟨j,hj,rfl⟩:=List.getElem_of_mem hm;exact HN.out j hj (by omega) (of_decide_eq_true he)
   have g2:¬ (k:Int)<(L.length:Int):=by omega
   go_wp2
   go_ret
   exact ⟨by rw[HD.out];rfl,zB HB.out HBW.out⟩
theorem symGo_mem (l:List UInt8):(symGo.any fun x=>decide (x=bA l))=true↔l∈symsT:=by
 have h1:∀x∈symGo,x.data.toList∈symsT:=by decide
 have h2:∀x∈symsT,(symGo.any fun y=>decide (y=bA x))=true:=by decide
 constructor
 ·intro h
  obtain ⟨x,hx,he⟩:=List.any_eq_true.1 h;have:=h1 x hx;rw[of_decide_eq_true he] at this;exact this
 ·exact h2 l
end Go.Proofs.YthkkllmmbefedaaGreatDoor


