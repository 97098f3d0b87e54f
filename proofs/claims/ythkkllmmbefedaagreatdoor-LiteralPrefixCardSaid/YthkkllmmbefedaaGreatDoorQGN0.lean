/-
  The frame of the maker's value.
-/
import Derived.Test.YthkkllmmbefedaaGreatDoorQGU0
import Derived.Test.YthkkllmmbefedaaGreatDoorQGX0
namespace Go.Proofs.YthkkllmmbefedaaGreatDoor
open Go.RowKit Go.Proofs.Tryz
set_option maxHeartbeats 16000000
set_option maxRecDepth 100000
structure WI where
 w0:World
 s:List Aa
 A:zo
 c:Nat
 b:Nat
 od:Bool
structure Ik (C:WI) (w:World) (l:List Int):Prop where
 ty:DC C.w0 C.A C.s
 len:l.length<=60
 ge:C.w0.heap.size<=C.b
 up:Below C.w0.heap.size C.w0 w
 ex:∃B d,(V5 C.w0 B l/\l.length<=d)/\w.heap[C.b]? = some (.cells #[.slice C.A C.s.length C.c,.slice B l.length d,.bool C.od] 132)
section
variable {C:WI} {w w':World} {l l':List Int}
theorem Ik.lt (h:Ik C w l):C.b<w.heap.size:=by
 obtain ⟨B,d,_,hb⟩:=h.ex;exact (zg.1 hb).1
theorem Ik.below (h:Ik C w l) (hb:Below w.heap.size w w'):Ik C w' l:=by
 obtain ⟨B,d,hu,hx⟩:=h.ex;exact ⟨h.ty,h.len,h.ge,h.up.trans (hb.mono h.up.size),B,d,hu,Au hx hb⟩
theorem Ik.BK (h:Ik C w l) (hb:Below w.heap.size w w'):Ah C.b w w':=Ah.of hb (AAM h.lt)
theorem Ik.FN (h:Ik C w l) {q:Nat} (hq:q≠C.b) (hz:C.w0.heap.size<=q) (j:Nat) (u:Value):Ik C (w.setCell ⟨q,j,none⟩ u) l:=by
 obtain ⟨B,d,hu,hx⟩:=h.ex;exact ⟨h.ty,h.len,h.ge,h.up.setCell (p:=⟨q,j,none⟩) hz u,B,d,hu,(AAE _ _ _ _ (by simpa using hq.symm)).trans hx⟩
theorem Ik.keep (h:Ik C w l) (hb:Below C.w0.heap.size w w') (hk:w'.heap[C.b]? = w.heap[C.b]?):Ik C w' l:=by
 obtain ⟨B,d,hu,hx⟩:=h.ex;exact ⟨h.ty,h.len,h.ge,h.up.trans hb,B,d,hu,hk.trans hx⟩
end
variable {w:World}
theorem oH {b o:Nat} {x:Int} {q:List Int} (h:V5 w (some ⟨b,o,none⟩) (x::q)):V5 w (some ⟨b,o+1,none⟩) q:=by
 refine ⟨by have:=h.1;unfold EF at this ⊢;rw[AAI] at this;omega,fun _=>⟨b,o+1,rfl,fun i y hy=>?_⟩⟩
 obtain ⟨b',o',e,hin⟩:=h.2 (by simp)
 injection e with e
 injection e with e1 e2
 subst e1 e2;obtain ⟨cs,h1,h2⟩:=hin (i+1) y (by simpa using hy)
 exact ⟨cs,h1,by rw[show o+1+i * 1=o+(i+1) * 1 by omega];exact h2⟩
theorem uZ (A:zo):V5 w A []:=AY.nil _ _ _ _ _
def NxK (C:WI) (w:World) (l:List Int) (n:Int) (e:Ending) (w':World):Prop:=∃c l',e = .returned (.int .i64 c)/\(0<=c/\c<n)/\Ik C w' l'/\Ah C.b w w'/\l'.length<=l.length/\(c≠0->l'.length<l.length)
variable {l:List Int} {C:WI}
theorem BQ (n:Int) (hn:0<n/\n<=1000000) (h:Ik C w l):
  Calls prog 108 #[.pointer (some ⟨C.b,0,none⟩),.int .i64 n] w (NxK C w l n):=by
 obtain ⟨B,d,⟨hu,hd⟩,hx⟩:=h.ex;have HS:=zh h;have c1:w.cell? ⟨C.b,1,none⟩=some (.slice B l.length d):=by rw[AAC _ _ _ _ _ _ hx];rfl
 have f1:=AAG _ _ 1 _ _ hx;have HX:=zh hx;have HN:=zh hn;clear h hx
 cases l with
 | nil =>
  have q1:((([]:List Int).length:Nat):Int)=0:=rfl;clear hu
  go_enter func108,ntmps108
  go_wp2
  go_ret
  exact ⟨0,[],rfl,⟨by omega,HN.O.1⟩,HS.O,Ah.refl _ _,AAF _,fun e=>absurd rfl e⟩
 | cons x q =>
  obtain ⟨b,o,rfl,⟨g0,g1⟩,cx⟩:=(hu.below HS.O.up).fF (i:=0) (by simp)
  have HU:=zh hu;simp only[List.getElem_cons_zero,Nat.add_zero] at g0 g1 cx;have HD:=zh hd;have h8:((x::q).length:Int)=(q.length:Int)+1:=by simp
  have hv:∀ (B':zo) (d':Nat),V5 C.w0 B' q->q.length<=d'->Ik C (w.setCell ⟨C.b,1,none⟩ (.slice B' q.length d')) q:=fun B' d' g1 g2 =>
   ⟨HS.O.ty,by have:=HS.O.len;rw[AAI] at this;omega,HS.O.ge,HS.O.up.setCell (p:=⟨C.b,1,none⟩) HS.O.ge _,B',d',⟨g1,g2⟩,by rw[AAK _ _ 1 _ _ _ HX.O];rfl⟩
  have HV:=zh hv;have hm:0<=x % n/\x % n<n:=⟨Int.emod_nonneg _ (by omega),Int.emod_lt_of_pos _ hn.1⟩
  have HM:=zh hm;clear hv hm hu hd h8
  go_enter func108,ntmps108
  go_wp2
  ·obtain rfl:q=[]:=AAn (by have:=HD.O;rw[AAI] at this;omega)
   go_ret
   exact ⟨x % n,[],rfl,HM.O,HV.O (some ⟨b,o,none⟩) 0 (uZ _) (AAF _),(Ah.refl _ _).set _ _,by simp,fun _=>by simp⟩
  ·go_ret
   exact ⟨x % n,q,rfl,HM.O,HV.O _ _ (oH HU) (by have:=HD.O;rw[AAI] at this;omega),(Ah.refl _ _).set _ _,by simp,fun _=>by simp⟩
theorem Nc (h:Ik C w l):
  Calls prog 110 #[.pointer (some ⟨C.b,0,none⟩)] w fun e w'=>∃ (o:Bool) (l':List Int),e = .returned (.bool o)/\Ik C w' l'/\Ah C.b w w'/\l'.length<=l.length:=by
 obtain ⟨B,d,_,hx⟩:=h.ex;have HS:=zh h;have c2:w.cell? ⟨C.b,2,none⟩=some (.bool C.od):=by rw[AAC _ _ _ _ _ _ hx];rfl
 clear h hx
 cases hod:C.od with
 | false =>
  rw[hod] at c2
  go_enter func110,ntmps110
  go_wp2
  go_ret
  exact ⟨false,l,rfl,HS.O,Ah.refl _ _,AAF _⟩
 | true =>
  rw[hod] at c2
  go_enter func110,ntmps110
  go_wp2_with fail
  refine (BQ 4 (by omega) HS).mono ?_
  rintro e w2 ⟨c,l2,rfl,hc,h2,hb2,hl2,_⟩;have H2:=zh h2;have HB2:=zh hb2;clear h2 hb2;go_wp2;go_ret;exact ⟨_,l2,rfl,H2.O,HB2.O,hl2⟩
def K3 (x:Aa) (n:Int):Bool:=(x.AA.any fun y=>decide (y.id=n))||(x.AX.any fun y=>decide (y.id=n))
theorem Xp (n:Int) (t:Aa) (As:zo) (cs:Nat) (Am:zo) (cm:Nat) (w:World) (ht:J4 w t As Am) :
  Calls prog 156 #[t.v As cs Am cm,.int .i64 n] w fun e w'=>e = .returned (.bool (K3 t n))/\Below w.heap.size w w':=by
 have HB:=zh (zD w (t.box As cs Am cm));have HX:Hid (Ca (w.alloc (t.box As cs Am cm)) w.heap.size t As cs Am cm):=AAA w _;have HT:=zh (ht.below HB);unfold K3;obtain ⟨am,ham⟩:∃an,(t.AA.any fun y=>decide (y.id=n))=an:=⟨_,rfl⟩
 obtain ⟨ay,has⟩:∃an,(t.AX.any fun y=>decide (y.id=n))=an:=⟨_,rfl⟩
 have HM:=zh (fun W=>jP n t As cs Am cm W)
 have HY:=zh (fun W=>jN n t As cs Am cm W)
 rw[ham] at HM;rw[has] at HY;rw[ham,has];clear ht ham has
 go_enter func156,ntmps156
 go_upto_region 1 with fail
 generalize w.alloc (t.box As cs Am cm)=W1 at *;obtain ⟨b0,b1,b2,b3,b4,b5,b6,b7,b8,b9⟩:=zG HX;go_wp2_with fail;refine (HM.O _ HT).mono ?_;rintro e w2 ⟨r2,rfl,_,hb2⟩;have HT2:=zh (HT.O.below hb2);have HB2:=zh (zB HB hb2);have N9:Hid (Ca w2 w.heap.size t As cs Am cm):=zE HX hb2;clear hb2 b0 b1 b2 b3 b4 b5 b6 b7 b8 b9;obtain ⟨b0,b1,b2,b3,b4,b5,b6,b7,b8,b9⟩:=zG N9
 go_wp2_with fail
 refine (HY.O _ HT2).mono ?_;rintro e w3 ⟨r3,rfl,_,hb3⟩;have HB3:=zh (zB HB2 hb3);clear hb3 b0 b1 b2 b3 b4 b5 b6 b7 b8 b9
 cases am with
 | true =>
  go_wp2
  go_ret
  exact ⟨rfl,HB3.O⟩
 | false =>
  go_wp2
  go_ret
  exact ⟨rfl,HB3.O⟩
def xH (x:Aa):Prop:=(∀m∈x.AA,m.id<=12)/\∀m∈x.AX,m.id<=12
theorem oC {x:Aa} (h:xH x) {n:Int} (hu:K3 x n=true):n<=12:=by
 unfold K3 at hu;rw[ACE,ABx,ABx] at hu
 rcases hu with ⟨m,hm,e⟩|⟨m,hm,e⟩
 ·have:=h.1 m hm;have:=AAr e;omega
 ·have:=h.2 m hm;have:=AAr e;omega
theorem Ht (h:Ik C w l) (t:Aa) (As:zo) (cs:Nat) (Am:zo) (cm:Nat) (ht:J4 C.w0 t As Am) (hi:xH t):
  Calls prog 111 #[.pointer (some ⟨C.b,0,none⟩),t.v As cs Am cm] w fun e w'=>∃ (n:Int) (l':List Int),e = .returned (.int .i64 n)/\(1<=n/\n<=14)/\K3 t n=false/\Ik C w' l'/\Ah C.b w w'/\l'.length<=l.length:=by
 have HB:=zh (zD w (t.box As cs Am cm));have HX:Hid (Ca (w.alloc (t.box As cs Am cm)) w.heap.size t As cs Am cm):=AAA w _;have HT:=zh ht;have HS:=zh (h.below HB);have HD:=zh (h.BK HB);have GJ:=zh h.lt;have HI:=zh hi;clear ht h hi
 go_enter func111,ntmps111
 go_upto_region 1 with fail
 generalize w.alloc (t.box As cs Am cm)=W1 at *;go_wp2_with fail;refine (BQ 14 (by omega) HS).mono ?_
 rintro e w2 ⟨c,l2,rfl,hc,h2,hb2,hl2,_⟩;have H2:=zh h2;have HD2:=zh (HD.O.trans hb2);have N9:Hid (Ca w2 w.heap.size t As cs Am cm):=(hb2.FN _ (by have:=GJ.O;omega) (zg.1 HX).1).trans HX
 have HL2:=zh hl2;clear h2 hb2 hl2;go_wp2_with fail
 go_loopw [5] (fun i wr=>∃n:Int,(1<=n/\n<=14)/\i = .int .i64 n/\Hid (Ik C wr l2/\Ah C.b w wr/\Ca wr w.heap.size t As cs Am cm)) (fun i _=>15 - (intOf i).toNat)
 case atStart=>exact ⟨1+c,by omega,by first|rfl|go_num,H2.O,HD2.O,N9.O⟩
 case round =>
  obtain ⟨n,hn,rfl,hh⟩:=hrel;have HK:=zh hh.O.1;have HDr:=zh hh.O.2.1;have HXr:=zh hh.O.2.2;have HTr:=zh (HT.O.below hh.O.1.up);clear hh;obtain ⟨b0,b1,b2,b3,b4,b5,b6,b7,b8,b9⟩:=zG HXr;go_wp2_with fail;refine (Xp n t As cs Am cm _ HTr).mono ?_;rintro e w3 ⟨rfl,hb3⟩;have HK3:=zh (HK.O.below hb3);have HD3:=zh (HDr.O.trans (HK.O.BK hb3))
  have JR:Hid (Ca w3 w.heap.size t As cs Am cm):=zE HXr hb3;clear hb3 b0 b1 b2 b3 b4 b5 b6 b7 b8 b9
  cases hu:K3 t n with
  | true =>
   have hle:=oC HI hu;clear hu;go_wp2;go_roundw
   case rel=>exact ⟨n+1,by omega,by go_num,HK3.O,HD3.O,JR.O⟩
   case measure=>simp[intOf];omega
  | false =>
   have HUS:=zh hu;clear hu;go_wp2;go_ret;exact ⟨n,l2,rfl,hn,HUS.O,HK3.O,HD3.O,HL2.O⟩
theorem O3 {w2:World} {l2:List Int} (h:Ik C w2 l2) (hb:Ah C.b w w2) (hx:w2.heap[w.heap.size]? = some (.cells #[.int .i64 0,.string ⟨#[]⟩] 97)) (hlb:C.b<w.heap.size) (n:Int) (s:ByteArray) {W9:World} (hw:W9=(w2.setCell ⟨w.heap.size,0,none⟩ (.int .i64 n)).setCell ⟨w.heap.size,1,none⟩ (.string s)):
  (W9.cell? ⟨w.heap.size,0,none⟩=some (.int .i64 n)/\W9.cell? ⟨w.heap.size,1,none⟩=some (.string s))/\Hid (Ik C W9 l2/\Ah C.b w W9):=by
 have hx1:=AAK _ _ 0 _ _ (.int .i64 n) hx;have hx2:=AAK _ _ 1 _ _ (.string s) hx1;have hge:=h.ge;have k1:=(h.FN (q:=w.heap.size) (by omega) (by have:=hlb;omega) 0 (.int .i64 n)).FN (q:=w.heap.size) (by omega) (by omega) 1 (.string s)
 have k2:Ah C.b w ((w2.setCell ⟨w.heap.size,0,none⟩ (.int .i64 n)).setCell ⟨w.heap.size,1,none⟩ (.string s)) :=
  (hb.two 0 _ (AAF _) hlb).two 1 _ (AAF _) hlb
 rw[<-hw] at k1 k2 hx2;exact ⟨⟨by rw[AAC _ _ _ _ _ _ hx2];rfl,by rw[AAC _ _ _ _ _ _ hx2];rfl⟩,k1,k2⟩
theorem Rc (h:Ik C w l) (n:Int):
  Calls prog 112 #[.pointer (some ⟨C.b,0,none⟩),.int .i64 n] w fun e w'=>∃ (s:ByteArray) (l':List Int),e = .returned (.agg #[.int .i64 n,.string s])/\s.size<=3/\Ik C w' l'/\Ah C.b w w'/\l'.length<=l.length:=by
 have GJ:=zh h.lt;have HB1:=zh (zD w (.cells #[.int .i64 0,.string ⟨#[]⟩] 97));have Ei:Hid ((w.alloc (.cells #[.int .i64 0,.string ⟨#[]⟩] 97)).heap[w.heap.size]? = some (.cells #[.int .i64 0,.string ⟨#[]⟩] 97)):=AAA w _;have Il:=zh (h.below HB1);have HD1:=zh (h.BK HB1);have hz1:(w.alloc (.cells #[.int .i64 0,.string ⟨#[]⟩] 97)).heap.size=w.heap.size+1:=by simp
 clear h
 go_enter func112,ntmps112
 go_upto_region 1 with fail
 generalize w.alloc (.cells #[.int .i64 0,.string ⟨#[]⟩] 97)=W1 at *;have HB2:=zh (zD W1 (.cells #[.string ⟨#[]⟩,.string ⟨#[1]⟩,.string ⟨#[97]⟩,.string ⟨#[3,1,2]⟩] 9));have N9:Hid ((W1.alloc (.cells #[.string ⟨#[]⟩,.string ⟨#[1]⟩,.string ⟨#[97]⟩,.string ⟨#[3,1,2]⟩] 9)).heap[W1.heap.size]? = some (.cells #[.string ⟨#[]⟩,.string ⟨#[1]⟩,.string ⟨#[97]⟩,.string ⟨#[3,1,2]⟩] 9)):=AAA W1 _
 rw[hz1] at N9;go_wp2_with fail;refine (BQ 4 (by omega) (Il.O.below HB2)).mono ?_
 rintro e w2 ⟨c,l2,rfl,hc,h2,hb2,hl2,_⟩;have H2:=zh h2;have HD2:=zh ((HD1.O.trans (Il.O.BK HB2)).trans hb2);have hz2:=HB2.O.size;have hzb:=GJ.O;have JR:=zh ((hb2.FN w.heap.size (by omega) (by have:=HB2.O.size;omega)).trans (Au Ei HB2))
 have HY3:=zh ((hb2.FN (w.heap.size+1) (by omega) (zg.1 N9).1).trans N9)
 have y0:w2.cell? ⟨w.heap.size+1,0,none⟩=some (.string ⟨#[]⟩):=by rw[AAC _ _ _ _ _ _ HY3.O];rfl
 have y1:w2.cell? ⟨w.heap.size+1,1,none⟩=some (.string ⟨#[1]⟩):=by rw[AAC _ _ _ _ _ _ HY3.O];rfl
 have y2:w2.cell? ⟨w.heap.size+1,2,none⟩=some (.string ⟨#[97]⟩):=by rw[AAC _ _ _ _ _ _ HY3.O];rfl
 have y3:w2.cell? ⟨w.heap.size+1,3,none⟩=some (.string ⟨#[3,1,2]⟩):=by rw[AAC _ _ _ _ _ _ HY3.O];rfl
 have x0:w2.cell? ⟨w.heap.size,0,none⟩=some (.int .i64 0):=by rw[AAC _ _ _ _ _ _ JR.O];rfl
 have x1:w2.cell? ⟨w.heap.size,1,none⟩=some (.string ⟨#[]⟩):=by rw[AAC _ _ _ _ _ _ JR.O];rfl
 have f0:=AAG _ _ 0 _ _ JR;have f1:=AAG _ _ 1 _ _ JR;have HL2:=zh hl2;clear h2 hb2 hl2 hz1 hz2 hzb;have hcc:c=0\/c=1\/c=2\/c=3:=by omega
 clear hc
 rcases hcc with rfl|rfl|rfl|rfl
 all_goals go_wp2
 all_goals clear y0 y1 y2 y3 x0 x1 f0 f1
 ·have HE:=zh (fun W9=>O3 (W9:=W9) H2 HD2 JR GJ n ⟨#[]⟩)
  generalize World.setCell _ _ _=W9 at *;obtain ⟨⟨c0,c1⟩,hk⟩:=HE.O _ rfl;exact bodyPost_ret (v := .agg #[.int .i64 n,.string ⟨#[]⟩]) (by simp[results,results112,go_sem,c0,c1]) rfl ⟨_,l2,rfl,by decide,hk.O.1,hk.O.2,HL2.O⟩
 ·have HE:=zh (fun W9=>O3 (W9:=W9) H2 HD2 JR GJ n ⟨#[1]⟩)
  generalize World.setCell _ _ _=W9 at *;obtain ⟨⟨c0,c1⟩,hk⟩:=HE.O _ rfl;exact bodyPost_ret (v := .agg #[.int .i64 n,.string ⟨#[1]⟩]) (by simp[results,results112,go_sem,c0,c1]) rfl ⟨_,l2,rfl,by decide,hk.O.1,hk.O.2,HL2.O⟩
 ·have HE:=zh (fun W9=>O3 (W9:=W9) H2 HD2 JR GJ n ⟨#[97]⟩)
  generalize World.setCell _ _ _=W9 at *;obtain ⟨⟨c0,c1⟩,hk⟩:=HE.O _ rfl;exact bodyPost_ret (v := .agg #[.int .i64 n,.string ⟨#[97]⟩]) (by simp[results,results112,go_sem,c0,c1]) rfl ⟨_,l2,rfl,by decide,hk.O.1,hk.O.2,HL2.O⟩
 ·have HE:=zh (fun W9=>O3 (W9:=W9) H2 HD2 JR GJ n ⟨#[3,1,2]⟩)
  generalize World.setCell _ _ _=W9 at *;obtain ⟨⟨c0,c1⟩,hk⟩:=HE.O _ rfl;exact bodyPost_ret (v := .agg #[.int .i64 n,.string ⟨#[3,1,2]⟩]) (by simp[results,results112,go_sem,c0,c1]) rfl ⟨_,l2,rfl,by decide,hk.O.1,hk.O.2,HL2.O⟩
theorem Xq (h:Ik C w l) {n:Int} (hn:0<=n/\n<=1000000):
  Calls prog 109 #[.pointer (some ⟨C.b,0,none⟩),.int .i64 n] w fun e w'=>∃ (s:ByteArray) (l':List Int),e = .returned (.string s)/\((s.size:Int)<=n/\s.size<=3)/\Ik C w' l'/\Ah C.b w w'/\l'.length<=l.length:=by
 have HS:=zh h;clear h
 go_enter func109,ntmps109
 go_wp2_with fail
 refine (BQ (min n 3+1) (by omega) HS).mono ?_
 rintro e w2 ⟨c,l2,rfl,hc,h2,hb2,hl2,_⟩;have H2:=zh h2;have HD2:=zh hb2;have HL2:=zh hl2;have HM:Hid (c<=n/\c<=3):=by show _/\_;omega
 clear h2 hb2 hl2;go_wp2_with fail
 go_loopw [5,6] (fun s i wr=>∃ (S:ByteArray) (k:Nat) (l3:List Int),s = .string S/\(S.size+k<=c.toNat)/\i = .int .i64 (k:Int)/\Hid (Ik C wr l3/\Ah C.b w wr/\l3.length<=l.length)) (fun _ i _=>(intOf i).toNat)
 case atStart=>exact ⟨⟨#[]⟩,c.toNat,l2,rfl,(by show 0+_<=_;omega),by rw[Int.toNat_of_nonneg hc.1],H2.O,HD2.O,HL2.O⟩
 case round =>
  obtain ⟨S,k,l3,rfl,hS,rfl,hh⟩:=hrel;have HK:=zh hh.O.1;have HDr:=zh hh.O.2.1;have HLr:=zh hh.O.2.2;have Zv:=zh hS;clear hh H2 HD2 HL2
  cases k with
  | zero =>
   clear hS;go_wp2;go_ret;exact ⟨S,l3,rfl,by have:=Zv.O;have:=HM.O;omega,HK.O,HDr.O,HLr.O⟩
  | succ k =>
   have h1:((k+1:Nat):Int) > 0:=by omega
   have h2:((k+1:Nat):Int) - 1=(k:Int):=by omega
   go_wp2_with fail
   refine (BQ 3 (by omega) HK).mono ?_
   rintro e w3 ⟨z,l4,rfl,hz,h3,hb3,hl3,_⟩;have H3:=zh h3;have HD3:=zh (HDr.O.trans hb3);have nY:Hid (l4.length<=l.length):=Nat.le_trans hl3 HLr;clear h3 hb3 hl3;obtain ⟨zn,rfl⟩:=AAh hz.1;have UK:Hid (Utf8.encode (97+(zn:Int))=⟨#[UInt8.ofNat (97+zn)]⟩):=(O9 (by omega)).1
   obtain ⟨E,hE⟩:∃E,Utf8.encode (97+(zn:Int))=E:=⟨_,rfl⟩;have hE2:Utf8.encode (IntKind.i32.wrap (IntKind.i64.wrap (97+(zn:Int))))=E:=by rw[IntWalk.i64_in _ (by omega),IntWalk.i32_in _ (by omega)];exact hE
   have HES:Hid (E.size=1):=by show _=_;rw[<-hE,UK.O];rfl
   have hov:¬ 9223372036854775807<S.size+E.size:=by have:=HES.O;omega
   have hkb:k<=10:=by have:=Zv.O;have:=HM.O;omega
   clear hS UK;go_wp2;go_roundw
   case rel=>exact ⟨S++E,k,l4,rfl,(by have:=Zv.O;rw[AAH,HES.O];omega),by go_num,H3.O,HD3.O,nY.O⟩
   case measure=>simp[intOf]
noncomputable def BN (s:List Aa) (t:Int) (v:Val):Bool:=BX s false t v&&@decide (Ku v) (Classical.propDecidable _)
theorem Ma {s:List Aa} {t:Int} {v:Val}:BN s t v=true↔BX s false t v=true/\Ku v:=by
 unfold BN;rw[AAD];exact and_congr_right fun _=>⟨fun h=>@of_decide_eq_true _ (Classical.propDecidable _) h,fun h=>@decide_eq_true _ (Classical.propDecidable _) h⟩
theorem OQ {b:Nat} {w':World} {q:Nat} {o:Obj} (h:w.heap[q]? = some o) (hb:Ah b w w') (hq:q≠b):w'.heap[q]? = some o:=(hb.FN q hq (zg.1 h).1).trans h
structure DX (C:WI) (W0:World) (q px p:Nat) (x:Aa) (As:zo) (cs:Nat) (Am:zo) (cm:Nat) (W:World) (l:List Int) (bo:Bool) (it:Int) (st:ByteArray) (di:Int) (vk vi vr:Value) (K I:List Aj) (R:List Af):Prop where
 ms:Ik C W l
 vb:Hw p W x.kind bo it st di vk vi vr K I R
 fr:Ah C.b W0 W
 lo:W0.heap.size<=q/\q<px/\px<p
 lb:C.b<W0.heap.size
 ty:J4 C.w0 x As Am
 bx:W.heap[px]? = some (x.box As cs Am cm)
 bq:W.heap[q]? = some zO
section
variable {C:WI} {W0 W W':World} {q px p:Nat} {x:Aa} {As:zo} {cs:Nat} {Am:zo} {cm:Nat} {l l':List Int} {bo:Bool} {it:Int} {st:ByteArray} {di:Int} {vk vi vr:Value} {K I:List Aj} {R:List Af}
theorem DX.bp (h:DX C W0 q px p x As cs Am cm W l bo it st di vk vi vr K I R):C.b<q/\C.b<px/\C.b<p:=by have:=h.lo;have:=h.lb;omega
theorem DX.BK (h:DX C W0 q px p x As cs Am cm W l bo it st di vk vi vr K I R) (hb:Ah C.b W W') (hm:Ik C W' l'):DX C W0 q px p x As cs Am cm W' l' bo it st di vk vi vr K I R:=by
 obtain ⟨b1,b2,b3⟩:=h.bp;exact ⟨hm,h.vb.BK hb b3,h.fr.trans hb,h.lo,h.lb,h.ty,OQ h.bx hb (by omega),OQ h.bq hb (by omega)⟩
theorem DX.below (h:DX C W0 q px p x As cs Am cm W l bo it st di vk vi vr K I R) (hb:Below W.heap.size W W'):DX C W0 q px p x As cs Am cm W' l bo it st di vk vi vr K I R:=h.BK (h.ms.BK hb) (h.ms.below hb)
theorem DX.rest (h:DX C W0 q px p x As cs Am cm W l bo it st di vk vi vr K I R) {l8:Bool} {it':Int} {st':ByteArray} {dL:Int} {LF G5 nM:Value} {K' I':List Aj} {R':List Af} (hv:Hw p W' x.kind l8 it' st' dL LF G5 nM K' I' R') (hb:Below p W W') :
  DX C W0 q px p x As cs Am cm W' l l8 it' st' dL LF G5 nM K' I' R':=by
 obtain ⟨b1,b2,b3⟩:=h.bp;have hlo:=h.lo;have hge:=h.ms.ge;exact ⟨h.ms.keep (hb.mono (by omega)) (hb.block _ b3),hv,h.fr.up hb (by omega) (by omega),h.lo,h.lb,h.ty,(hb.block _ (by omega)).trans h.bx,(hb.block _ (by omega)).trans h.bq⟩
theorem DX.NI (h:DX C W0 q px p x As cs Am cm W l bo it st di vk vi vr K I R) {j:Nat} {u:Value} {l8:Bool} {it':Int} {st':ByteArray} {dL:Int} (hu:(#[Value.int .i64 x.kind,.bool bo,.int .i64 it,.string st,.int .i64 di,vk,vi,vr]:Array Value).setIfInBounds j u = #[.int .i64 x.kind,.bool l8,.int .i64 it',.string st',.int .i64 dL,vk,vi,vr]) (hs:Cw st') :
  DX C W0 q px p x As cs Am cm (W.setCell ⟨p,j,none⟩ u) l l8 it' st' dL vk vi vr K I R :=
 h.rest (h.vb.NI hu hs) ((Pe p W).setCell (p:=⟨p,j,none⟩) (AAF _) u)
theorem DX.hot (h:DX C W0 q px p x As cs Am cm W l bo it st di vk vi vr K I R) {P:World->Prop} (hx:Off (fun s=>s<W.heap.size) W' P):Off (R8 p vk vi vr) W' P:=by
 obtain ⟨l1,l2,l3⟩:=Gi h.vb;refine hx.mono fun s _ hs=>?_
 rcases hs with e|e|e|e
 ·have:=h.vb.lt;omega
 ·exact (l1 s e).2
 ·exact (l2 s e).2
 ·exact (l3 s e).2
variable {y:Aj} {w4 w8:World}
theorem DX.item (h:DX C W0 q px p x As cs Am cm W l bo it st di vk vi vr K I R) (hx:Off (R8 p vk vi vr) W fun u=>Ar u y.v y.A1 y.A2 y.A3) (hb4:Below W.heap.size W w4) {v8:Value} (ho:w8.ownsRow (p+1) 28 8 v8 (I.length+1) (I.flatMap Aj.cells++y.cells)) (hg:w4.grownBy w8 vi.ownBlock) (hv:v8.ownBlock=vi.ownBlock\/v8.ownBlock=some w4.heap.size):DX C W0 q px p x As cs Am cm (w8.setCell ⟨p,6,none⟩ v8) l bo it st di vk v8 vr K (I++[y]) R:=by
 obtain ⟨h1,h2,_⟩:=h.vb.item hx hb4 ho hg hv;exact h.rest h1 h2
theorem DX.QG (h:DX C W0 q px p x As cs Am cm W l bo it st di vk vi vr K I R) (hx:Off (R8 p vk vi vr) W fun u=>Ar u y.v y.A1 y.A2 y.A3) (hb4:Below W.heap.size W w4) {g c:Nat} (ho:w8.ownsRow (p+1) 28 8 (.slice (some ⟨g,0,none⟩) (I.length+1) c) (I.length+1) (I.flatMap Aj.cells++yB)) (hg:w4.grownBy w8 vi.ownBlock) (hv:some g=vi.ownBlock\/some g=some w4.heap.size):
  DX C W0 q px p x As cs Am cm ((w8.setCells g (I.length * 8) y.cells).setCell ⟨p,6,none⟩ (.slice (some ⟨g,0,none⟩) (I.length+1) c)) l bo it st di vk (.slice (some ⟨g,0,none⟩) (I.length+1) c) vr K (I++[y]) R :=
 h.item hx hb4 (P8 rfl ho) (Gl hg (hv.imp (fun e=>e.symm) fun e=>by injection e with e;omega) _ _) hv
theorem DX.XW (h:DX C W0 q px p x As cs Am cm W l bo it st di vk vi vr K I R) {y:Af} (hx:Cw y.data) (hb4:Below W.heap.size W w4) {v8:Value} (ho:w8.ownsRow (p+1) 97 2 v8 (R.length+1) (R.flatMap encR++encR y)) (hg:w4.grownBy w8 vr.ownBlock) (hv:v8.ownBlock=vr.ownBlock\/v8.ownBlock=some w4.heap.size):DX C W0 q px p x As cs Am cm (w8.setCell ⟨p,7,none⟩ v8) l bo it st di vk vi v8 K I (R++[y]):=by
 obtain ⟨h1,h2,_⟩:=h.vb.XW hx hb4 ho hg hv;exact h.rest h1 h2
theorem DX.one (h:DX C W0 q px p x As cs Am cm W l bo it st di AP AP AP [] [] []) (hx:Off (R8 p AP AP AP) W fun u=>Ar u y.v y.A1 y.A2 y.A3):
  DX C W0 q px p x As cs Am cm ((W.alloc (.cells y.cells.toArray 28)).setCell ⟨p,6,none⟩ (.slice (some ⟨W.heap.size,0,none⟩) 1 1)) l bo it st di AP (.slice (some ⟨W.heap.size,0,none⟩) 1 1) AP [] [y] [] :=
 h.item (w8:=W.alloc (.cells y.cells.toArray 28)) hx (Pe _ _) (World.ownsRow_lit (base:=p+1) (e:=28) (size:=8) W y.cells.toArray 1 h.vb.lt (by unfold maxLen;omega) rfl) (World.grownBy_alloc W _ none) (.inr rfl)
theorem DX.qC (h:DX C W0 q px p x As cs Am cm W l bo it st di vk vi AP K I []) {y:Af} (hx:Cw y.data) :
  DX C W0 q px p x As cs Am cm ((W.alloc (.cells (encR y).toArray 97)).setCell ⟨p,7,none⟩ (.slice (some ⟨W.heap.size,0,none⟩) 1 1)) l bo it st di vk vi (.slice (some ⟨W.heap.size,0,none⟩) 1 1) K I [y] :=
 h.XW (w8:=W.alloc (.cells (encR y).toArray 97)) hx (Pe _ _) (World.ownsRow_lit (base:=p+1) (e:=97) (size:=2) W (encR y).toArray 1 h.vb.lt (by unfold maxLen;omega) rfl) (World.grownBy_alloc W _ none) (.inr rfl)
def zi (C:WI) (t:Int) (W:World) (l:List Int) (y:Ending) (W':World):Prop:=∃ (v:Aj) (l':List Int),y = .returned (v.v.v v.A1 v.c1 v.A2 v.c2 v.A3 v.c3)/\Off (fun q=>q<W.heap.size) W' (fun u=>Ar u v.v v.A1 v.A2 v.A3)/\Ah C.b W W'/\Ik C W' l'/\l'.length<=l.length/\BN C.s t v.v=true
theorem DX.fin (h:DX C W0 q px p x As cs Am cm W l' bo it st di vk vi vr K I R) (hl:l'.length<=l.length) (hz:K.length<=2000000/\I.length<=2000000/\R.length<=2000000) {t:Int} (hf:BN C.s t (.mk x.kind bo it st di (K.map (·.v)) (I.map (·.v)) R)=true) :
  zi C t W0 l (.returned (.agg #[.int .i64 x.kind,.bool bo,.int .i64 it,.string st,.int .i64 di,vk,vi,vr])) (q8 W q (.int .i64 x.kind) (.bool bo) (.int .i64 it) (.string st) (.int .i64 di) vk vi vr):=by
 obtain ⟨A1,c1,A2,c2,A3,c3,rfl,rfl,rfl,ho⟩:=h.vb.fin (by unfold EF;omega) (by unfold EF;omega) (by unfold EF;omega)
 obtain ⟨b1,b2,b3⟩:=h.bp;have hlo:=h.lo;have hge:=h.ms.ge;have hm:Ik C (q8 W q (.int .i64 x.kind) (.bool bo) (.int .i64 it) (.string st) (.int .i64 di) (.slice A1 K.length c1) (.slice A2 I.length c2) (.slice A3 R.length c3)) l' :=
  (((((((h.ms.FN (q:=q) (by omega) (by omega) 0 _).FN (q:=q) (by omega) (by omega) 1 _).FN (q:=q) (by omega) (by omega) 2 _).FN (q:=q) (by omega) (by omega) 3 _).FN (q:=q) (by omega) (by omega) 4 _).FN (q:=q) (by omega) (by omega) 5 _).FN (q:=q) (by omega) (by omega) 6 _).FN (q:=q) (by omega) (by omega) 7 _
 refine ⟨⟨.mk x.kind bo it st di (K.map (·.v)) (I.map (·.v)) R,A1,c1,A2,c2,A3,c3⟩,l',?_,?_,h.fr.eight _ _ _ _ _ _ _ _ hlo.1 h.lb,hm,hl,hf⟩
 ·show Ending.returned (.agg #[.int .i64 x.kind,.bool bo,.int .i64 it,.string st,.int .i64 di,.slice A1 K.length c1,.slice A2 I.length c2,.slice A3 R.length c3]) = .returned (.agg #[.int .i64 x.kind,.bool bo,.int .i64 it,.string st,.int .i64 di,.slice A1 (K.map (·.v)).length c1,.slice A2 (I.map (·.v)).length c2,.slice A3 R.length c3])
  rw[AAt,AAt]
 ·exact (EI ho (B:=q) (by omega) _ _ _ _ _ _ _ _).mono fun s _ hs=>by omega
end
