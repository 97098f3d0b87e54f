/-
  Walks: the law LiteralSpace.
-/
import Derived.Test.YthkkllmmbefedaaGreatDoorQSXLS
import Derived.Test.YthkkllmmbefedaaGreatDoorQAK2
import Derived.Test.YthkkllmmbefedaaGreatDoorQGD0
import Derived.Test.YthkkllmmbefedaaGreatDoorQNMO
import Derived.Test.YthkkllmmbefedaaGreatDoorQGN1
import Derived.Test.YthkkllmmbefedaaGreatDoorQGU0
import Derived.Test.YthkkllmmbefedaaGreatDoorQDR4
namespace Go.Proofs.YthkkllmmbefedaaGreatDoor
open Go.RowKit
set_option maxHeartbeats 16000000
set_option maxRecDepth 100000
structure SqS (W0 W5:World) (H b:Nat) (ys:ByteArray) (wr:World):Prop where
 bld:BldL wr W0.heap.size H b ys
 sz:W5.heap.size≤wr.heap.size
 kp:∀q,H≤q→q<W5.heap.size→wr.heap[q]? = W5.heap[q]?
 bel:Below W0.heap.size W0 wr
theorem SqS.below {W0 W5 wr w':World} {H b:Nat} {ys:ByteArray} (h:SqS W0 W5 H b ys wr) (hH:H≤W5.heap.size) (hb:Below wr.heap.size wr w'):SqS W0 W5 H b ys w' :=
 ⟨h.bld.below (hb.mono (Nat.le_trans hH h.sz)),Nat.le_trans h.sz hb.size,fun q h1 h2=>(hb.block q (Nat.lt_of_lt_of_le h2 h.sz)).trans (h.kp q h1 h2),zB h.bel hb⟩
theorem SqS.str {W0 W5 wr w':World} {H b:Nat} {ys:ByteArray} (h:SqS W0 W5 H b ys wr) (h1:wr.heap.size≤w'.heap.size) (h2:∀q,H≤q→q<wr.heap.size→w'.heap[q]? = wr.heap[q]?) (h3:BldL w' W0.heap.size H b ys) (h4:Below W0.heap.size wr w'):SqS W0 W5 H b ys w' :=
 ⟨h3,Nat.le_trans h.sz h1,fun q g1 g2=>(h2 q g1 (Nat.lt_of_lt_of_le g2 h.sz)).trans (h.kp q g1 g2),h.bel.trans h4⟩
theorem SqS.set {W0 W5 wr:World} {H b:Nat} {ys:ByteArray} (h:SqS W0 W5 H b ys wr) (hH:H≤W5.heap.size) {q:Nat} (hq:W5.heap.size≤q) (cs:List Value):SqS W0 W5 H b ys (wr.setCells q 0 cs) :=
 ⟨h.bld.below (yC _ (Nat.le_trans hH hq) _ _ _ (Below.refl _ _)),by rw[size_setCells];exact h.sz,fun p g1 g2=>(zN (by omega) _ _ _).trans (h.kp p g1 g2),yC _ (Nat.le_trans (Nat.le_trans (Nat.le_trans h.bld.1 (Nat.le_of_lt h.bld.2.1)) hH) hq) _ _ _ h.bel⟩
theorem sq_end {W0 W5 w6:World} {H b q:Nat} {ys:ByteArray} {u:VaA} (hz:w6.heap[q]? = some zboxV) (hH:H≤W5.heap.size) (hq:W5.heap.size≤q) (h:SqS W0 W5 H b ys w6) (hr:Off (fun p=>p=q) w6 fun x=>ValR x u.v u.A1 u.A2 u.A3) :
  (w6.setCells q 0 u.cells).rangeAt q 0 u.cells∧ValR (w6.setCells q 0 u.cells) u.v u.A1 u.A2 u.A3∧SqS W0 W5 H b ys (w6.setCells q 0 u.cells) :=
 ⟨World.rangeAt_setCells_same w6 q 0 u.cells (there_box hz),(hr.step (by rw[size_setCells];exact Nat.le_refl _) fun p hp _=>zN hp _ _ _).out,h.set hH hq _⟩
theorem lawSpace_any (d:List NodeD) (x:ByteArray) (sp:List Int) (A:zo) (c:Nat) (AS:zo) (cS:Nat) (w:World) (hd:NodesR w A d) (_hx:x.size≤140737488355328) (hu:U8R w AS sp) (hE:EnvL w) {SA:zo} {sc:Nat} (hS:SymE w SA sc) :
  Calls Tryz.prog 7 #[draftV A d.length c,.string x,.slice AS sp.length cS] w (SamePost true w):=by
 have HD:=zh hd;have HE:=zh hE;have HSY:=zh hS;have HX0:=zh (heap_alloc_new w (.cells #[.slice A d.length c] 24));have HB0:=zh (zD w (.cells #[.slice A d.length c] 24));have HU:=zh hu;obtain ⟨n,hn⟩:∃n,sp.length=n:=⟨_,rfl⟩;have HSN:=zh hn;rw[hn];clear hd hE hS hu hn
 go_enter Tryz.func7,Tryz.ntmps7
 go_upto_region 1 with fail
 generalize w.alloc (.cells #[.slice A d.length c] 24)=W0 at *;have x0:=zb HX0.out;go_wp2_with fail;refine (of_any d A c _ (HD.out.below HB0.out)).mono ?_;rintro e w1 ⟨B,b,s,ok,rfl,hs,hok,hno,hb1⟩;have HBX:=zh (zD w1 (.cells #[.slice B s.length b] 31));have HS1:=zh (hs.below HBX.out);have HOK:=zh hok;have HB1:=zh (zB (zB HB0.out hb1) HBX.out)
 have HX1:=zh (heap_alloc_new w1 (.cells #[.slice B s.length b] 31));clear hs hok hno hb1 x0 HX0 HB0;go_upto_region 2 with fail
 generalize w1.alloc (.cells #[.slice B s.length b] 31)=W1 at *;generalize w1.heap.size=q1 at *;have HPB:Hid (∀W2,Below W1.heap.size W1 W2→Calls Tryz.prog 12 #[] W2 (SamePost true W2)):=fun W2 hb=>awake_any _ (HE.out.below (zB HB1.out hb)) (HSY.out.below (zB HB1.out hb))
 by_cases hgo:ok=true∧x.size≤600∧n≤50
 case neg =>
  have HGO:=zh hgo;clear hgo HOK
  go_cut [41] (fun z wx=>z = .bool true∧Hid (Below W1.heap.size W1 wx))
  case first =>
   go_wp2_with fail
   refine (HPB.out W1 (Below.refl _ _)).mono ?_;rintro e w2 ⟨rfl,hb2⟩;have HB2:=zh hb2;clear hb2
   cases ok with
   | false =>
    go_wp2
    go_meet
    exact ⟨rfl,HB2.out⟩
   | true =>
    by_cases hx6:x.size≤600
    ·have g1:¬ (x.size:Int) > 600:=by omega
     have g2:(n:Int) > 50:=by
      have:¬ n≤50:=fun h=>HGO.out ⟨rfl,hx6,h⟩
      omega
     go_wp2
     go_meet
     exact ⟨rfl,HB2.out⟩
    ·have g1:(x.size:Int) > 600:=by omega
     go_wp2
     go_meet
     exact ⟨rfl,HB2.out⟩
  case rest =>
  obtain ⟨rfl,hcut2⟩:=hcut;obtain ⟨W2,rfl⟩:∃W2:World,W2=wc:=⟨_,rfl⟩;have HB2:=zh hcut2.out;clear hcut2;go_wp2_with fail;refine (HPB.out W2 HB2.out).mono ?_;rintro e w3 ⟨rfl,hb3⟩;have HB3:=zh (zB (zB HB1.out HB2.out) hb3);clear hb3;go_wp2;go_ret;exact ⟨rfl,HB3.out⟩
 obtain ⟨rfl,hx6,hn5⟩:=hgo;have HV:=zh (HOK.out rfl).1;have HN:Hid (Num64 s):=(HOK.out rfl).2.2.2.2.2.1;have HXZ:Hid (x.size≤140737488355328):=by show _≤_;omega
 have g1:¬ (x.size:Int) > 600:=by omega
 have g2:¬ (n:Int) > 50:=by omega
 clear HOK;go_wp2_with fail;refine (HPB.out W1 (Below.refl _ _)).mono ?_;rintro e w2 ⟨rfl,hb2⟩;have HB2:=zh (zB HB1.out hb2);have HS2:=zh (HS1.out.below hb2);have HX2:=zh (zE HX1.out hb2);clear hb2 HBX HS1 HX1 HB1 HPB;go_wp2_with fail;refine (rToks_any x HXZ.out _ (HE.out.below HB2.out)).mono ?_;rintro e w3 ⟨A3,c3,n3,er3,o,rfl,ht3,hl3,hb3,hm3⟩;rw[if_neg (by omega)] at hm3
 have HB3:=zh (zB HB2.out hb3);have HX3:=zh (zE HX2.out hb3);have HS3:=zh (HS2.out.below hb3);have HT3:=zh ht3;clear hb3 ht3 HX2 HS2 HB2
 cases htl:toksL 1 x.data.toList with
 | error l =>
  rw[htl] at hm3;obtain rfl:er3=2:=hm3;clear htl;go_wp2;go_ret;exact ⟨rfl,HB3.out⟩
 | ok l =>
  rw[htl] at hm3;obtain ⟨rfl,rfl,rfl⟩:=hm3;have HTL:=zh htl;have HX6:=zh hx6;clear htl hx6 hn5;go_upto_region 8 with fail
  have HSP:Hid (SpS w3 w3.heap.size o sp 0 ⟨#[]⟩ (w3.alloc (.cells #[.pointer none,.slice none 0 0] 57))):=⟨BldF.new w3 (Nat.le_refl _),rfl,zD _ _⟩;generalize w3.alloc (.cells #[.pointer none,.slice none 0 0] 57)=W4 at *;have HBZ:=zh (Nat.lt_of_lt_of_le (Nat.lt_succ_self w3.heap.size) HSP.out.bld.lt);go_wp2
  go_loopw [53] (fun i wr=>∃ (k:Nat) (ys:ByteArray),k≤o.length∧i = .int .i64 k∧Hid (SpS w3 w3.heap.size o sp k ys wr)) (fun i _=>o.length - (intOf i).toNat)
  case atStart=>exact ⟨0,_,by omega,rfl,HSP.out⟩
  case round =>
   obtain ⟨k,ys,hk,rfl,hh⟩:=hrel;obtain ⟨wo,rfl⟩:∃wo:World,wo=wr:=⟨_,rfl⟩;have HH:=zh hh.out;clear hh HSP
   by_cases hlt:k<o.length
   ·have HW0:=zh HH.out.bel
    obtain ⟨tb,toff,rfl,_,c0,c1,c2,c3,c4⟩:=(HT3.out.below HW0.out).cells hlt;have HWK:=zh (word_ok HX6.out HTL.out (List.getElem_mem hlt));have HSZ:=zh (HH.out.sizeW hlt (spread_le (ksI sp) HX6.out HTL.out));have HST:=zh (fun w' h1 h2=>HH.out.step (w':=w') hlt h1 h2)
    have h1:(0:Int)≤(k:Int):=by omega
    have h2:(k:Int)<(o.length:Int):=by omega
    generalize o[k]=t at *;have HX0:=zh (heap_alloc_new wo (tokO t.kind t.text t.int t.str t.line));have HBN:=zh (zD wo (tokO t.kind t.text t.int t.str t.line));have HBW:=zh (zB HW0.out HBN.out);have HBL:=zh (HH.out.bld.below HBN.out);clear HH;go_upto_region 11 with fail
    clear c0 c1 c2 c3 c4;generalize wo.alloc (tokO t.kind t.text t.int t.str t.line)=W5 at *;generalize wo.heap.size=q5 at *;obtain ⟨c0,c1,c2,c3,c4,_⟩:=tokO_cells HX0.out;go_wp2_with fail;refine (word_any t HWK.out.1 HWK.out.2 W5 (HE.out.below (zB HB3.out HBW.out))).mono ?_;rintro e w6 ⟨rfl,hb6⟩;have HBW6:=zh (zB HBW.out hb6);have HBL6:=zh (HBL.out.below hb6)
    have HB6:Hid (w3.heap.size≤w6.heap.size):=HBW6.out.size;generalize wordT t=wt at *;clear c0 c1 c2 c3 c4 hb6;go_wp2_with fail;refine (HBL6.out.write wt (by have:=HSZ.out;omega) HB6.out).mono ?_
    rintro e w7 ⟨rfl,hbl7,hbe7,_⟩;have HBL7:=zh hbl7;have HBW7:=zh (HBW6.out.trans hbe7);clear hbl7 hbe7 HBL6 HBW6 HBL HBW HB6;have HU7:=zh (HU.out.below (zB HB3.out HBW7.out))
    rcases Nat.eq_zero_or_pos n with hn0|hn0
    ·have HK:Hid (0=ksI sp k):=by
      show _=_
      have:sp=[]:=List.eq_nil_of_length_eq_zero (by have:=HSN.out;omega)
      rw[ksI,if_pos this]
     have hn1:¬ (n:Int) > 0:=by omega
     clear hn0;go_wp2_with fail;refine (BldF.write (HBL7.out.below (zD w7 _)) ⟨#[32]⟩ (by have:=HSZ.out;have h6:=spcB_size (ksI sp k);rw[ByteArray.size_append];show ys.size+wt.size+1≤_;omega) (Nat.le_trans HBW7.out.size (zD w7 _).size)).mono ?_
     rintro e w8 ⟨rfl,hbl8,hbe8,_⟩;have HN8:Hid (SpS w3 w3.heap.size o sp (k+1) (ys++wt++spcB (ksI sp k)) w8):=HST.out w8 (by rw[←HK.out];exact hbl8) ((HBW7.out.trans ((zD w7 _).mono HBW7.out.size)).trans hbe8)
     clear hbl8 hbe8;go_wp2;go_roundw
     case rel=>exact ⟨k+1,_,by omega,by go_num,HN8.out⟩
     case measure=>simp[intOf];omega
    ·obtain ⟨r,hr⟩:∃r:Nat,r=k % n:=⟨_,rfl⟩
     have hrl:r<n:=by rw[hr];exact Nat.mod_lt _ hn0
     have hrs:r<sp.length:=by have:=HSN.out;omega
     obtain ⟨ub,uo,rfl,⟨z0,z255⟩,u0⟩:=HU7.out.at1 hrs;obtain ⟨m,hm⟩:∃m:Nat,(m:Int)=sp[r]:=⟨(sp[r]).toNat,by omega⟩
     have HK':Hid (m % 4=ksI sp k):=by
      show _=_
      have hne:¬ sp=[]:=fun e=>by rw[e] at hrs;simp at hrs
      have e1:k % sp.length=r:=by rw[HSN.out,hr]
      rw[ksI,if_neg hne,e1,List.getD_eq_getElem?_getD,zl hrs]
      show m % 4=(sp[r]).toNat % 4
      rw[←hm];rfl
     rw[←hm] at u0;have er1:(k:Int).tmod (n:Int)=(r:Int):=by rw[hr];rfl
     have er2:(k:Int) % (n:Int)=(r:Int):=by rw[hr];simp
     have hm1:(0:Int)≤(m:Int):=by omega
     have hm2:(m:Int)≤255:=by omega
     have hnz:¬ ((n:Int)=0):=by omega
     have hn1:(n:Int) > 0:=by omega
     have g3:(0:Int)≤(r:Int):=by omega
     have g4:(r:Int)<(n:Int):=by omega
     have hk4:m % 4=0∨m % 4=1∨m % 4=2∨m % 4=3:=by omega
     clear hr hm hrs z0 z255
     rcases hk4 with hk4|hk4|hk4|hk4
     ·have HK:Hid (0=ksI sp k):=hk4.symm.trans HK'.out
      have er3:(m:Int).tmod 4=0:=(show (m:Int).tmod 4=((m % 4:Nat):Int) from rfl).trans (by rw[hk4];rfl)
      have er4:(m:Int) % 4=0:=by omega
      clear hk4;go_wp2_with fail;refine (BldF.write (HBL7.out.below (zD w7 _)) ⟨#[32]⟩ (by have:=HSZ.out;have h6:=spcB_size (ksI sp k);rw[ByteArray.size_append];show ys.size+wt.size+1≤_;omega) (Nat.le_trans HBW7.out.size (zD w7 _).size)).mono ?_
      rintro e w8 ⟨rfl,hbl8,hbe8,_⟩;have HN8:Hid (SpS w3 w3.heap.size o sp (k+1) (ys++wt++spcB (ksI sp k)) w8):=HST.out w8 (by rw[←HK.out];exact hbl8) ((HBW7.out.trans ((zD w7 _).mono HBW7.out.size)).trans hbe8)
      clear hbl8 hbe8;go_wp2;go_roundw
      case rel=>exact ⟨k+1,_,by omega,by go_num,HN8.out⟩
      case measure=>simp[intOf];omega
     ·have HK:Hid (1=ksI sp k):=hk4.symm.trans HK'.out
      have er3:(m:Int).tmod 4=1:=(show (m:Int).tmod 4=((m % 4:Nat):Int) from rfl).trans (by rw[hk4];rfl)
      have er4:(m:Int) % 4=1:=by omega
      clear hk4;go_wp2_with fail;refine (BldF.write (HBL7.out.below (zD w7 _)) ⟨#[10]⟩ (by have:=HSZ.out;have h6:=spcB_size (ksI sp k);rw[ByteArray.size_append];show ys.size+wt.size+1≤_;omega) (Nat.le_trans HBW7.out.size (zD w7 _).size)).mono ?_
      rintro e w8 ⟨rfl,hbl8,hbe8,_⟩;have HN8:Hid (SpS w3 w3.heap.size o sp (k+1) (ys++wt++spcB (ksI sp k)) w8):=HST.out w8 (by rw[←HK.out];exact hbl8) ((HBW7.out.trans ((zD w7 _).mono HBW7.out.size)).trans hbe8)
      clear hbl8 hbe8;go_wp2;go_roundw
      case rel=>exact ⟨k+1,_,by omega,by go_num,HN8.out⟩
      case measure=>simp[intOf];omega
     ·have HK:Hid (2=ksI sp k):=hk4.symm.trans HK'.out
      have er3:(m:Int).tmod 4=2:=(show (m:Int).tmod 4=((m % 4:Nat):Int) from rfl).trans (by rw[hk4];rfl)
      have er4:(m:Int) % 4=2:=by omega
      clear hk4;go_wp2_with fail;refine (BldF.write (HBL7.out.below (zD w7 _)) ⟨#[32,47,47,32,125,10]⟩ (by have:=HSZ.out;have h6:=spcB_size (ksI sp k);rw[ByteArray.size_append];show ys.size+wt.size+6≤_;omega) (Nat.le_trans HBW7.out.size (zD w7 _).size)).mono ?_
      rintro e w8 ⟨rfl,hbl8,hbe8,_⟩;have HN8:Hid (SpS w3 w3.heap.size o sp (k+1) (ys++wt++spcB (ksI sp k)) w8):=HST.out w8 (by rw[←HK.out];exact hbl8) ((HBW7.out.trans ((zD w7 _).mono HBW7.out.size)).trans hbe8)
      clear hbl8 hbe8;go_wp2;go_roundw
      case rel=>exact ⟨k+1,_,by omega,by go_num,HN8.out⟩
      case measure=>simp[intOf];omega
     ·have HK:Hid (3=ksI sp k):=hk4.symm.trans HK'.out
      have er3:(m:Int).tmod 4=3:=(show (m:Int).tmod 4=((m % 4:Nat):Int) from rfl).trans (by rw[hk4];rfl)
      have er4:(m:Int) % 4=3:=by omega
      clear hk4;go_wp2_with fail;refine (BldF.write (HBL7.out.below (zD w7 _)) ⟨#[9,32]⟩ (by have:=HSZ.out;have h6:=spcB_size (ksI sp k);rw[ByteArray.size_append];show ys.size+wt.size+2≤_;omega) (Nat.le_trans HBW7.out.size (zD w7 _).size)).mono ?_
      rintro e w8 ⟨rfl,hbl8,hbe8,_⟩;have HN8:Hid (SpS w3 w3.heap.size o sp (k+1) (ys++wt++spcB (ksI sp k)) w8):=HST.out w8 (by rw[←HK.out];exact hbl8) ((HBW7.out.trans ((zD w7 _).mono HBW7.out.size)).trans hbe8)
      clear hbl8 hbe8;go_wp2;go_roundw
      case rel=>exact ⟨k+1,_,by omega,by go_num,HN8.out⟩
      case measure=>simp[intOf];omega
   ·obtain rfl:k=o.length:=by omega
    have HLAW:=zh (fun t=>HH.out.law (s:=s) HX6.out HTL.out t)
    have HW3:=zh HH.out.bel;have HBL:=zh HH.out.bld.low;have x0:=zb (zE HX3.out HW3.out);have HLS:Hid (s.length≤9223372036854775807):=by have:=valid_len HV.out;show _≤_;omega
    have hls:s.length≤9223372036854775807:=HLS.out;clear HH hlt hk HT3;generalize o.length=ol at *;obtain ⟨H,hH⟩:∃H,wo.heap.size=H:=⟨_,rfl⟩;have HHW:Hid (H≤wo.heap.size):=Nat.le_of_eq hH.symm;rw[hH] at HBL;clear hH;go_wp2;clear x0
    go_loopw [82] (fun i wr=>∃k:Nat,k≤s.length∧i = .int .i64 k∧Hid (BldL wr w3.heap.size H w3.heap.size ys∧H≤wr.heap.size∧Below w3.heap.size w3 wr)) (fun i _=>s.length - (intOf i).toNat)
    case atStart=>exact ⟨0,by omega,rfl,HBL.out,HHW.out,HW3.out⟩
    case round =>
     obtain ⟨k,hk,rfl,hh⟩:=hrel;obtain ⟨wi,rfl⟩:∃wi:World,wi=wr:=⟨_,rfl⟩;have HSB:=zh hh.out.1;have HHI:=zh hh.out.2.1;have HWI:=zh hh.out.2.2;clear hh
     by_cases hlt:k<s.length
     ·have x0:=zb (zE HX3.out HWI.out)
      have h2:(k:Int)<(s.length:Int):=by omega
      have HBA:=zh (zB HB3.out HWI.out);go_wp2_with fail;refine (literalParseO_any HV.out HN.out B b (k:Int) x HXZ.out wi (HS3.out.below HWI.out) (HE.out.below HBA.out) (HSY.out.below HBA.out)).mono ?_;rintro e w5 ⟨v,rfl,hv5,ho5,hb5⟩;have HBN:=zh (zD w5 (v.v.box v.A1 v.c1 v.A2 v.c2 v.A3 v.c3));have HXV:=zh (heap_alloc_new w5 (v.v.box v.A1 v.c1 v.A2 v.c2 v.A3 v.c3));have HB6:=zh (zB hb5 HBN.out)
      have HOV:=zh (ho5.alloc (v.v.box v.A1 v.c1 v.A2 v.c2 v.A3 v.c3));have HV5:=zh hv5;have HQ5:Hid (H≤w5.heap.size):=Nat.le_trans HHI.out hb5.size;clear x0 hb5 ho5 hv5;have HL2:=zh (HLAW.out (k:Int));go_upto_region 21 with fail
      generalize w5.alloc (v.v.box v.A1 v.c1 v.A2 v.c2 v.A3 v.c3)=W6 at *;have HH6:Hid (H≤W6.heap.size):=Nat.le_trans HHI.out HB6.out.size;generalize w5.heap.size=q5 at *;have HQ6:Hid (SqS w3 W6 H w3.heap.size ys W6):=⟨HSB.out.below (HB6.out.mono HHI.out),Nat.le_refl _,fun _ _ _=>rfl,zB HWI.out HB6.out⟩
      have HK:Hid (∀w',SqS w3 W6 H w3.heap.size ys w'→w'.cell? ⟨q1,0,none⟩=some (.slice B s.length b)):=fun w' h=>by rw[cell_of_row _ _ _ _ _ _ (zE HX3.out h.bel)];rfl
      clear HSB
      go_cut [19,20] (fun p z wx=>∃ (u:VaA) (q:Nat),p = .pointer (some ⟨q,0,none⟩)∧z = .int .i64 (parseS false s (k:Int) ys).2∧Hid (u.v=(parseS false s (k:Int) ys).1∧wx.rangeAt q 0 u.cells∧ValR wx u.v u.A1 u.A2 u.A3∧SqS w3 W6 H w3.heap.size ys wx))
      case first =>
       refine wp_region_held_drew (S:=(fun w'=>w'.cell? ⟨q1,0,none⟩=some (.slice B s.length b)∧Hid (SqS w3 W6 H w3.heap.size ys w'))) (by kernel_rfl) ?_ (fun zH_=>?_)
       ·(try dsimp only);exact (fun h=>⟨HK.out _ h,h⟩) (HQ6.out.below HH6.out (zC (Below.refl _ _) 1))
       refine tL 0 ?_;refine tL 1 ?_;refine wpAnyH_ready (rs:=[2,7]) (by kernel_rfl) (by simp) ?_
       refine (AllReadyH.cons rfl (fun K hK=>?_) (AllReadyH.cons rfl (fun K hK=>?_) AllReadyH.nil))
       ·
        go_simp
        (refine (zH_.2.out.bld.str (by have:=zH_.2.out.bel.size;exact this) (Nat.le_trans HH6.out zH_.2.out.sz)).mono ?_;rintro e w7 ⟨rfl,g1,g2,g3,g4⟩;have HQ7:=zh (zH_.2.out.str g1 g2 g3 g4);clear g1 g2 g3 g4)
        refine hK.out _ _ ?_ (fun zH_=>?_)
        ·(try dsimp only);exact ⟨HK.out _ HQ7.out,HQ7.out⟩
        clear hK K;refine wpAnyH_ready (rs:=[3,7]) (by kernel_rfl) (by simp) ?_
        refine (AllReadyH.cons rfl (fun K hK=>?_) (AllReadyH.cons rfl (fun K hK=>?_) AllReadyH.nil))
        ·
         go_simp
         (have HBA7:=zh (zB HB3.out zH_.2.out.bel);refine (literalParseO_any HV.out HN.out B b (k:Int) ys (by have:=HL2.out.2;omega) _ (HS3.out.below zH_.2.out.bel) (HE.out.below HBA7.out) (HSY.out.below HBA7.out)).mono ?_;rintro e w8 ⟨u,rfl,hu8,ho8,hb8⟩;have HU8:=zh hu8;have HO8:=zh ho8;have HQ8:=zh (zH_.2.out.below HH6.out hb8);clear hu8 ho8 hb8)
         refine hK.out _ _ ?_ (fun zH_=>?_)
         ·(try dsimp only);exact ⟨HK.out _ HQ8.out,HQ8.out⟩
         clear hK K;refine tL 4 ?_;refine tL 5 ?_;try simp only[ps]
         refine tL 6 ?_;refine tR 7 (fun K hK=>?_)
         go_simp
         refine hK.out _ _ ?_ (fun zH_=>?_)
         ·(try dsimp only);exact (fun h=>⟨HK.out _ h,h⟩) (zH_.2.out.below HH6.out (zD _ _))
         clear hK K;refine tR 8 (fun K hK=>?_)
         (have HZE:=zh (sq_end (q:=w8.heap.size) (heap_alloc_new w8 zboxV) HH6.out HQ8.out.sz (HQ8.out.below HH6.out (zD w8 zboxV)) ((HO8.out.mono (S':=fun p=>p=w8.heap.size) fun p hp e=>absurd e (Nat.ne_of_lt hp)).alloc zboxV));simp only[List.getElem_toArray,List.getElem_cons_zero,List.getElem_cons_succ];rw[if_pos (by rfl)];refine wp_store_mid 28 (.tmp 19) (.tmp 97) rfl (w8.heap.size) (0) (u.cells.toArray) (by rfl) (by rfl) ?_ ?_ ?_ ?_;(exact there_box (heap_alloc_new w8 zboxV));(exact zW);(exact vaA_all u))
         refine hK.out _ _ ?_ (fun zH_=>?_)
         ·(try dsimp only);exact ⟨HK.out _ HZE.out.2.2,HZE.out.2.2⟩
         clear hK K;refine tL 9 ?_;refine wpAnyH_done (by kernel_rfl) ?_ _
         (go_wp2;go_meet;exact ⟨u,_,rfl,rfl,HU8.out,HZE.out⟩)
        ·
         go_simp
         refine hK.out _ _ ?_ (fun zH_=>?_)
         ·(try dsimp only);exact (fun h=>⟨HK.out _ h,h⟩) (zH_.2.out.below HH6.out (zD _ _))
         clear hK K;refine tR 3 (fun K hK=>?_)
         go_simp
         (have HBA7:=zh (zB HB3.out zH_.2.out.bel);have HQW:=zh HQ7.out.sz;refine (literalParseO_any HV.out HN.out B b (k:Int) ys (by have:=HL2.out.2;omega) _ (HS3.out.below zH_.2.out.bel) (HE.out.below HBA7.out) (HSY.out.below HBA7.out)).mono ?_;rintro e w8 ⟨u,rfl,hu8,ho8,hb8⟩;have HU8:=zh hu8;have HO8:=zh ho8;have HQ8:=zh (zH_.2.out.below HH6.out hb8);have HZ8:=zh (zE (heap_alloc_new w7 zboxV) hb8);clear hu8 ho8 hb8)
         refine hK.out _ _ ?_ (fun zH_=>?_)
         ·(try dsimp only);exact ⟨HK.out _ HQ8.out,HQ8.out⟩
         clear hK K;try simp only[ps]
         refine tL 4 ?_;refine tL 5 ?_;refine tL 6 ?_;refine tR 8 (fun K hK=>?_)
         (have HZE:=zh (sq_end (q:=w7.heap.size) HZ8.out HH6.out HQW.out HQ8.out (HO8.out.mono (S':=fun p=>p=w7.heap.size) fun p _ e=>by rw[e,World.size_alloc];exact Nat.lt_succ_self _));simp only[List.getElem_toArray,List.getElem_cons_zero,List.getElem_cons_succ];rw[if_pos (by rfl)];refine wp_store_mid 28 (.tmp 19) (.tmp 97) rfl (w7.heap.size) (0) (u.cells.toArray) (by rfl) (by rfl) ?_ ?_ ?_ ?_;(exact there_box HZ8.out);(exact zW);(exact vaA_all u))
         refine hK.out _ _ ?_ (fun zH_=>?_)
         ·(try dsimp only);exact ⟨HK.out _ HZE.out.2.2,HZE.out.2.2⟩
         clear hK K;refine tL 9 ?_;refine wpAnyH_done (by kernel_rfl) ?_ _
         (go_wp2;go_meet;exact ⟨u,_,rfl,rfl,HU8.out,HZE.out⟩)
       ·
        go_simp
        refine hK.out _ _ ?_ (fun zH_=>?_)
        ·(try dsimp only);exact (fun h=>⟨HK.out _ h,h⟩) (zH_.2.out.below HH6.out (zD _ _))
        clear hK K;try simp only[ps]
        refine tR 2 (fun K hK=>?_)
        go_simp
        (have HQZ:=zh zH_.2.out;have HZ0:=zh (heap_alloc_new W6 zboxV);refine (zH_.2.out.bld.str (by have:=zH_.2.out.bel.size;exact this) (Nat.le_trans HH6.out zH_.2.out.sz)).mono ?_;rintro e w7 ⟨rfl,g1,g2,g3,g4⟩;have HQ7:=zh (HQZ.out.str g1 g2 g3 g4);have HZ7:Hid (w7.heap[W6.heap.size]? = some zboxV):=(g2 W6.heap.size HH6.out (by show _<(W6.alloc zboxV).heap.size;rw[World.size_alloc];exact Nat.lt_succ_self _)).trans HZ0.out;clear g1 g2 g3 g4)
        refine hK.out _ _ ?_ (fun zH_=>?_)
        ·(try dsimp only);exact ⟨HK.out _ HQ7.out,HQ7.out⟩
        clear hK K;refine tR 3 (fun K hK=>?_)
        go_simp
        (have HBA7:=zh (zB HB3.out zH_.2.out.bel);refine (literalParseO_any HV.out HN.out B b (k:Int) ys (by have:=HL2.out.2;omega) _ (HS3.out.below zH_.2.out.bel) (HE.out.below HBA7.out) (HSY.out.below HBA7.out)).mono ?_;rintro e w8 ⟨u,rfl,hu8,ho8,hb8⟩;have HU8:=zh hu8;have HO8:=zh ho8;have HQ8:=zh (zH_.2.out.below HH6.out hb8);have HZ8:=zh (zE HZ7.out hb8);have HL8:=zh ((zg.1 HZ7.out).1);clear hu8 ho8 hb8)
        refine hK.out _ _ ?_ (fun zH_=>?_)
        ·(try dsimp only);exact ⟨HK.out _ HQ8.out,HQ8.out⟩
        clear hK K;refine tL 4 ?_;refine tL 5 ?_;refine tL 6 ?_;refine tR 8 (fun K hK=>?_)
        (have HZE:=zh (sq_end (q:=W6.heap.size) HZ8.out HH6.out (Nat.le_refl _) HQ8.out (HO8.out.mono (S':=fun p=>p=W6.heap.size) fun p _ e=>by rw[e];exact HL8.out));simp only[List.getElem_toArray,List.getElem_cons_zero,List.getElem_cons_succ];rw[if_pos (by rfl)];refine wp_store_mid 28 (.tmp 19) (.tmp 97) rfl (W6.heap.size) (0) (u.cells.toArray) (by rfl) (by rfl) ?_ ?_ ?_ ?_;(exact there_box HZ8.out);(exact zW);(exact vaA_all u))
        refine hK.out _ _ ?_ (fun zH_=>?_)
        ·(try dsimp only);exact ⟨HK.out _ HZE.out.2.2,HZE.out.2.2⟩
        clear hK K;try simp only[ps]
        refine tL 9 ?_;refine wpAnyH_done (by kernel_rfl) ?_ _
        (go_wp2;go_meet;exact ⟨u,_,rfl,rfl,HU8.out,HZE.out⟩)
      case rest =>
      obtain ⟨u,q2,rfl,rfl,hcc⟩:=hcut;obtain ⟨W7,rfl⟩:∃W7:World,W7=wc:=⟨_,rfl⟩;have HU7:=zh hcc.out.1;have HRX:=zh hcc.out.2.1;have HRU:=zh hcc.out.2.2.1;have HQ7:=zh hcc.out.2.2.2;clear hcc;have HRV:Hid (ValR W7 v.v v.A1 v.A2 v.A3):=(HOV.out.step HQ7.out.sz fun q hq hl=>HQ7.out.kp q (by have:=HHI.out;omega) hl).out
      have HXV7:Hid (W7.heap[q5]? = some (v.v.box v.A1 v.c1 v.A2 v.c2 v.A3 v.c3)):=(HQ7.out.kp q5 HQ5.out (zg.1 HXV.out).1).trans HXV.out;have HUV:Hid (decide (v.v=u.v)=true):=decide_eq_true (HV5.out.trans ((congrArg Prod.fst HL2.out.1).symm.trans HU7.out.symm));rw[congrArg Prod.snd HL2.out.1];generalize (parseS false s (k:Int) x).2=er at *;have q5e:(er != er)=false:=by simp
      obtain ⟨v0,v1,v2,v3,v4,v5,v6,v7⟩:=vbox8 HXV7.out;obtain ⟨u0,u1,u2,u3,u4,u5,u6,u7⟩:=range8 HRX.out;go_wp2_with fail;refine (r08Equal_any v.v u.v v.A1 v.c1 v.A2 v.c2 v.A3 v.c3 u.A1 u.c1 u.A2 u.c2 u.A3 u.c3 W7 HRV.out HRU.out).mono ?_;rintro e w9 ⟨rfl,hb9⟩;rw[HUV.out];have HQ9:=zh (HQ7.out.below HH6.out hb9);clear hb9 v0 v1 v2 v3 v4 v5 v6 v7 u0 u1 u2 u3 u4 u5 u6 u7;go_wp2;go_roundw
      case rel=>exact ⟨k+1,by omega,by go_num,HQ9.out.bld,Nat.le_trans HH6.out HQ9.out.sz,HQ9.out.bel⟩
      case measure=>simp[intOf];omega
     ·go_wp2
      go_ret
      exact ⟨rfl,zB HB3.out HWI.out⟩
end Go.Proofs.YthkkllmmbefedaaGreatDoor


