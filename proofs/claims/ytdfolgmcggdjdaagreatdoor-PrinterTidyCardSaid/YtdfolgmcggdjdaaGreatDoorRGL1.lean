/-
  Walks: IDs and default values of drafts.
-/
import Derived.Test.YtdfolgmcggdjdaaGreatDoorRGH1
import Derived.Test.YtdfolgmcggdjdaaGreatDoorRGA3
import Derived.Test.YtdfolgmcggdjdaaGreatDoorRGA4
namespace Go.Proofs.YtdfolgmcggdjdaaGreatDoor
open Go.RowKit
set_option maxHeartbeats 16000000
set_option maxRecDepth 100000
def PartD.At (p:PartD) (cs:List Value):Prop:=(p.id<256∧p.type<256∧p.flag<256)∧cs=[.int .u8 p.id,.int .u8 p.type,.int .u8 p.flag]
def PartsR (w:World) (A:zo) (l:List PartD):Prop:=RowsR 3 3 PartD.At w A l
theorem PartsR.below {w w':World} {A:zo} {l:List PartD} (h:PartsR w A l) (hb:Below w.heap.size w w'):PartsR w' A l:=RowsR.imp h (fun _ _ _ h=>h) hb
abbrev NodeD.v (x:NodeD) (A:zo) (c:Nat):Value := .agg #[.int .u8 x.kind,.int .u8 x.a,.int .u8 x.b,.int .u8 x.c,.slice A x.parts.length c]
abbrev NodeD.cs (x:NodeD) (A:zo) (c:Nat):List Value:=[.int .u8 x.kind,.int .u8 x.a,.int .u8 x.b,.int .u8 x.c,.slice A x.parts.length c]
structure NodeR (w:World) (x:NodeD) (A:zo):Prop where
 kind:x.kind<256
 a:x.a<256
 b:x.b<256
 c:x.c<256
 parts:PartsR w A x.parts
theorem NodeR.below {w w':World} {x:NodeD} {A:zo} (h:NodeR w x A) (hb:Below w.heap.size w w'):NodeR w' x A:=⟨h.kind,h.a,h.b,h.c,h.parts.below hb⟩
def NodeD.At (w:World) (x:NodeD) (cs:List Value):Prop:=∃A c,cs=x.cs A c∧NodeR w x A
theorem NodeD.at_below {w w':World} (hb:Below w.heap.size w w') {x:NodeD} {cs:List Value}:x.At w cs→x.At w' cs:=fun ⟨A,c,e,h⟩=>⟨A,c,e,h.below hb⟩
def NodesR (w:World) (A:zo) (d:List NodeD):Prop:=RowsR 5 32 (NodeD.At w) w A d
theorem NodesR.below {w w':World} {A:zo} {l:List NodeD} (h:NodesR w A l) (hb:Below w.heap.size w w'):NodesR w' A l:=RowsR.imp h (fun _ _ _=>NodeD.at_below hb) hb
abbrev draftV (A:zo) (n c:Nat):Value := .agg #[.slice A n c]
theorem NodesR.at5 {w:World} {A:zo} {d:List NodeD} (h:NodesR w A d) {i:Nat} (hi:i<d.length):∃b o A' c',A=some ⟨b,o,none⟩∧NodeR w (d.getD i node0) A' ∧
  w.cell? ⟨b,o+i * 5,none⟩=some (.int .u8 (d.getD i node0).kind)∧w.cell? ⟨b,o+i * 5+1,none⟩=some (.int .u8 (d.getD i node0).a)∧w.cell? ⟨b,o+i * 5+2,none⟩=some (.int .u8 (d.getD i node0).b)∧w.cell? ⟨b,o+i * 5+3,none⟩=some (.int .u8 (d.getD i node0).c)∧w.cell? ⟨b,o+i * 5+4,none⟩=some (.slice A' (d.getD i node0).parts.length c'):=by
 obtain ⟨b,o,cs,e,⟨A',c',rfl,hr⟩,h2⟩:=RowsR.at_ h hi;have eg:d.getD i node0=d[i]:=by rw[List.getD_eq_getElem?_getD,zl hi];rfl
 rw[eg];exact ⟨b,o,A',c',e,hr,h2 0 _ rfl,h2 1 _ rfl,h2 2 _ rfl,h2 3 _ rfl,h2 4 _ rfl⟩
theorem PartsR.at3 {w:World} {A:zo} {d:List PartD} (h:PartsR w A d) {i:Nat} (hi:i<d.length):∃b o,A=some ⟨b,o,none⟩∧(d[i].id<256∧d[i].type<256∧d[i].flag<256) ∧
  w.cell? ⟨b,o+i * 3,none⟩=some (.int .u8 d[i].id)∧w.cell? ⟨b,o+i * 3+1,none⟩=some (.int .u8 d[i].type)∧w.cell? ⟨b,o+i * 3+2,none⟩=some (.int .u8 d[i].flag):=by
 obtain ⟨b,o,cs,e,⟨h1,rfl⟩,h2⟩:=RowsR.at_ h hi;exact ⟨b,o,e,h1,h2 0 _ rfl,h2 1 _ rfl,h2 2 _ rfl⟩
theorem kindN_at {d:List NodeD} {i:Nat} (hi:i<d.length):kindN d i=1+(d[i].kind:Int) % 9:=by
 unfold kindN;rw[List.getD_eq_getElem?_getD,zl hi];simp
theorem kind_any (d:List NodeD) (i:Nat) (A:zo) (c:Nat) (w:World) (hd:NodesR w A d) (hi:i<d.length) :
  Calls Tryz.prog 21 #[draftV A d.length c,.int .i64 i] w fun e w'=>e = .returned (.int .i64 (kindN d i))∧Below w.heap.size w w':=by
 have hn:=hd.1.lt (by omega)
 obtain ⟨b,o,A',c',rfl,hr,c0,_,_,_,_⟩:=(hd.below (zD w (.cells #[.slice A d.length c] 24))).at5 hi;have h1:(0:Int)≤(i:Int):=by omega
 have h2:(i:Int)<(d.length:Int):=by omega
 have hk:=hr.kind
 go_enter Tryz.func21,Tryz.ntmps21
 go_wp2
 go_ret
 exact ⟨by rw[kindN_at hi];rfl,zD _ _⟩
theorem hollow_any (n:Int) (w:World):Calls Tryz.prog 87 #[.int .i64 n] w fun e w'=>e = .returned (.bool (hollowD n))∧w=w':=by
 go_enter Tryz.func87,Tryz.ntmps87
 go_wp2
 go_ret
 exact ⟨rfl,rfl⟩
structure DBox (w0 w:World) (A:zo) (d:List NodeD) (c:Nat):Prop where
 lt:w0.heap.size<w.heap.size
 cell:w.cell? ⟨w0.heap.size,0,none⟩=some (.slice A d.length c)
 nodes:NodesR w A d
 below:Below w0.heap.size w0 w
theorem DBox.step {w0 w w':World} {A:zo} {d:List NodeD} {c:Nat} (h:DBox w0 w A d c) (hb:Below w.heap.size w w'):DBox w0 w' A d c :=
 ⟨Nat.lt_of_lt_of_le h.lt hb.size,zA hb h.cell,h.nodes.below hb,zB h.below hb⟩
theorem DBox.new {w:World} {A:zo} {d:List NodeD} {c:Nat} (h:NodesR w A d):DBox w (w.alloc (.cells #[.slice A d.length c] 24)) A d c :=
 ⟨by simp,by rw[cell_of_row _ _ _ _ _ _ (heap_alloc_new w _)];rfl,h.below (zD _ _),zD _ _⟩
theorem fstN_at {n k:Nat} {p:Nat→Bool} (hk:k<n) (hp:p k=true) (hno:∀j,j<k→p j=false):fstN n p=(k:Int):=by
 unfold fstN;have:(List.range n).find? p=some k:=by
  rw[List.find?_range_eq_some];exact ⟨hp,by simpa using hk,fun j hj=>by simp[hno j hj]⟩
 rw[this]
theorem fstN_no {n:Nat} {p:Nat→Bool} (hno:∀j,j<n→p j=false):fstN n p = -1:=by
 unfold fstN;have:(List.range n).find? p=none:=by
  rw[List.find?_eq_none]
  intro x hx
  simp[hno x (by simpa using hx)]
 rw[this]
theorem target_any (d:List NodeD) (i code:Nat) (A:zo) (c:Nat) (w:World) (hd:NodesR w A d) (hi:i<d.length) (hco:code<256) :
  Calls Tryz.prog 55 #[draftV A d.length c,.int .i64 i,.int .u8 code] w fun e w'=>e = .returned (.int .i64 (targetD d i code))∧Below w.heap.size w w':=by
 have hn:=hd.1.lt (by omega)
 have HB:=zh (DBox.new (c:=c) hd);clear hd;obtain ⟨t,ht⟩:∃t:Nat,t=code % d.length:=⟨_,rfl⟩;have htl:t<d.length:=by rw[ht];exact Nat.mod_lt _ (by omega)
 have HT:=zh ht;have et:(code:Int) % (d.length:Int)=(t:Int):=by rw[ht];simp
 clear ht;have hpos:(0:Int)<(d.length:Int):=by omega
 go_enter Tryz.func55,Tryz.ntmps55
 go_wp2_with fail
 refine (kind_any d t A c _ HB.out.nodes htl).mono ?_;rintro e w2 ⟨rfl,hb2⟩;replace HB:=zh (HB.out.step hb2);clear hb2;go_wp2_with fail;refine (hollow_any _ _).mono ?_;rintro e w3 ⟨rfl,rfl⟩
 cases hh:hollowD (kindN d t) with
 | true =>
  have HD:=zh (show targetD d i code=(t:Int) by unfold targetD;rw[←HT.out,hh];rfl)
  go_wp2
  go_ret
  exact ⟨by rw[HD.out];rfl,HB.out.below⟩
 | false =>
  by_cases hti:t<i
  ·have HD:=zh (show targetD d i code=(t:Int) by unfold targetD;rw[←HT.out,hh];simp[hti])
   go_wp2
   go_ret
   exact ⟨by rw[HD.out];rfl,HB.out.below⟩
  by_cases hi0:0<i
  ·have HD:=zh (show targetD d i code=((t % i:Nat):Int) by unfold targetD;rw[←HT.out,hh];simp[hti,hi0])
   have hi1:(0:Int)<(i:Int):=by omega
   go_wp2
   go_ret
   exact ⟨by rw[HD.out];simp,HB.out.below⟩
  have HD:=zh (show targetD d i code=fstN d.length fun k=>hollowD (kindN d k) by unfold targetD;rw[←HT.out,hh];simp[hti,hi0])
  have hi2:i=0:=by omega
  subst hi2;clear hti hi0 hh et;go_wp2
  go_loopw [9] (fun i wr=>∃k:Nat,k≤d.length∧i = .int .i64 k∧Hid ((∀j,j<k→hollowD (kindN d j)=false)∧DBox w wr A d c)) (fun i _=>d.length - (intOf i).toNat)
  case atStart=>exact ⟨0,by omega,rfl,(fun j h=>absurd h (by omega)),HB.out⟩
  case round =>
   obtain ⟨k,hk,rfl,hq⟩:=hrel
   by_cases hlt:k<d.length
   ·have sc0:=hq.out.2.cell
    have hz:=hq.out.2.lt;go_wp2_with fail;refine (kind_any d k A c _ hq.out.2.nodes hlt).mono ?_;rintro e w3 ⟨rfl,hb3⟩;have HB3:=zh (hq.out.2.step hb3);clear hb3;go_wp2_with fail;refine (hollow_any _ _).mono ?_;rintro e w4 ⟨rfl,rfl⟩
    cases hh:hollowD (kindN d k) with
    | true =>
     replace HD:=zh (HD.out.trans (fstN_at hlt hh hq.out.1));clear hh;go_wp2;go_ret;exact ⟨by rw[HD.out];rfl,HB3.out.below⟩
    | false =>
     have HN:=zh hh;clear hh;go_wp2;go_roundw
     case rel =>
      refine ⟨k+1,by omega,by go_num,(fun j hj=>?_),HB3.out⟩
      by_cases e:j=k
      ·subst e;exact HN.out
      ·exact hq.out.1 j (by omega)
     case measure=>simp[intOf];omega
   ·replace HD:=zh (HD.out.trans (fstN_no fun j hj=>hq.out.1 j (by omega)))
    go_wp2
    go_ret
    exact ⟨by rw[HD.out];rfl,hq.out.2.below⟩
theorem find_at {n k:Nat} {p:Nat→Bool} (hk:k<n) (hp:p k=true) (hno:∀j,j<k→p j=false):(List.range n).find? p=some k:=by
 rw[List.find?_range_eq_some];exact ⟨hp,by simpa using hk,fun j hj=>by simp[hno j hj]⟩
theorem dfind_no {n:Nat} {p:Nat→Bool} (hno:∀j,j<n→p j=false):(List.range n).find? p=none:=by
 rw[List.find?_eq_none]
 intro x hx
 simp[hno x (by simpa using hx)]
theorem key_any (d:List NodeD) (code:Nat) (A:zo) (c:Nat) (w:World) (hd:NodesR w A d) (hco:code<256) :
  Calls Tryz.prog 27 #[draftV A d.length c,.int .u8 code] w fun e w'=>e = .returned (.int .i64 (keyD d code))∧Below w.heap.size w w':=by
 have hn:=hd.1.lt (by omega)
 have HB:=zh (DBox.new (c:=c) hd);clear hd
 go_enter Tryz.func27,Tryz.ntmps27
 go_wp2
 go_loopw [6] (fun i wr=>∃k:Nat,k≤d.length∧i = .int .i64 k∧Hid ((∀j,j<k→keyKind (kindN d ((code+j) % d.length))=false)∧DBox w wr A d c)) (fun i _=>d.length - (intOf i).toNat)
 case atStart=>exact ⟨0,by omega,rfl,(fun j h=>absurd h (by omega)),HB.out⟩
 case round =>
  obtain ⟨k,hk,rfl,hq⟩:=hrel
  by_cases hlt:k<d.length
  ·have sc0:=hq.out.2.cell
   have hz:=hq.out.2.lt;have hpos:(0:Int)<(d.length:Int):=by omega
   obtain ⟨t,ht⟩:∃t:Nat,t=(code+k) % d.length:=⟨_,rfl⟩;have htl:t<d.length:=by rw[ht];exact Nat.mod_lt _ (by omega)
   have HT:=zh ht;have et:((code:Int)+(k:Int)) % (d.length:Int)=(t:Int):=by rw[ht];simp
   clear ht;go_wp2_with fail;refine (kind_any d t A c _ hq.out.2.nodes htl).mono ?_;rintro e w3 ⟨rfl,hb3⟩;have HB3:=zh (hq.out.2.step hb3);clear hb3;go_wp2_with fail;refine (rKeyKind_any _ _).mono ?_;rintro e w4 ⟨rfl,rfl⟩
   cases hh:keyKind (kindN d t) with
   | true =>
    have HD:=zh (show keyD d code=(t:Int) by unfold keyD;rw[find_at hlt (by rw[←HT.out];exact hh) hq.out.1,HT.out])
    clear hh;go_wp2;go_ret;exact ⟨by rw[HD.out];rfl,HB3.out.below⟩
   | false =>
    have HN:=zh hh;clear hh;go_wp2;go_roundw
    case rel =>
     refine ⟨k+1,by omega,by go_num,(fun j hj=>?_),HB3.out⟩
     by_cases e:j=k
     ·subst e;rw[←HT.out];exact HN.out
     ·exact hq.out.1 j (by omega)
    case measure=>simp[intOf];omega
  ·have HD:=zh (show keyD d code = -1 by unfold keyD;rw[dfind_no fun j hj=>hq.out.1 j (by omega)])
   go_wp2
   go_ret
   exact ⟨by rw[HD.out];rfl,hq.out.2.below⟩
theorem low_any (x:NodeD) (A:zo) (c:Nat) (w:World) (ha:x.a<256) :
  Calls Tryz.prog 23 #[x.v A c] w fun e w'=>e = .returned (.int .i64 (lowN x))∧Below w.heap.size w w':=by
 have HD:=zh (show lowN x=(x.a:Int) % 7 - 3 by unfold lowN;simp)
 go_enter Tryz.func23,Tryz.ntmps23
 go_wp2
 go_ret
 exact ⟨by rw[HD.out];rfl,zD _ _⟩
abbrev NodeD.box (x:NodeD) (A:zo) (c:Nat):Obj := .cells #[.int .u8 x.kind,.int .u8 x.a,.int .u8 x.b,.int .u8 x.c,.slice A x.parts.length c] 45
def NBox (W:World) (b:Nat) (x:NodeD) (A:zo) (c:Nat):Prop:=W.heap[b]? = some (.cells #[.int .u8 x.kind,.int .u8 x.a,.int .u8 x.b,.int .u8 x.c,.slice A x.parts.length c] 45 (0,0))
theorem NBox.cell {W:World} {b:Nat} {x:NodeD} {A:zo} {c:Nat} (h:NBox W b x A c) (j:Nat):W.cell? ⟨b,j,none⟩=(#[.int .u8 x.kind,.int .u8 x.a,.int .u8 x.b,.int .u8 x.c,.slice A x.parts.length c]:Array Value)[j]? := cell_of_row _ _ _ _ _ _ h
theorem NBox.blt {W:World} {b:Nat} {x:NodeD} {A:zo} {c:Nat} (h:NBox W b x A c):b<W.heap.size:=(zg.1 h).1
theorem NBox.below {W w':World} {b:Nat} {x:NodeD} {A:zo} {c:Nat} (h:NBox W b x A c) (hb:Below W.heap.size W w'):NBox w' b x A c:=(hb.block b h.blt).trans h
theorem NBox.new (w:World) (x:NodeD) (A:zo) (c:Nat):NBox (w.alloc (x.box A c)) w.heap.size x A c:=heap_alloc_new w (x.box A c)
theorem nb_cells {w':World} {b:Nat} {x:NodeD} {A:zo} {c:Nat} {P:Prop} (h:NBox w' b x A c) (hp:P):(w'.cell? ⟨b,0,none⟩=some (.int .u8 x.kind)∧w'.cell? ⟨b,1,none⟩=some (.int .u8 x.a)∧w'.cell? ⟨b,2,none⟩=some (.int .u8 x.b)∧w'.cell? ⟨b,3,none⟩=some (.int .u8 x.c)∧w'.cell? ⟨b,4,none⟩=some (.slice A x.parts.length c))∧Hid (NBox w' b x A c∧P) :=
 ⟨⟨h.cell 0,h.cell 1,h.cell 2,h.cell 3,h.cell 4⟩,h,hp⟩
theorem low_le (x:NodeD):-3≤lowN x∧lowN x≤3:=by unfold lowN;omega
theorem high_wrap (x:NodeD):highN x=IntKind.i64.wrap (lowN x+IntKind.i64.wrap ((x.b:Int).tmod 6)):=by
 have h1:(x.b:Int).tmod 6=((x.b % 6:Nat):Int):=rfl;have h2:=low_le x;rw[h1,IntWalk.i64_in (((x.b % 6:Nat):Int)) (by omega),IntWalk.i64_in _ (by omega)]
 rfl
theorem high_any (x:NodeD) (A:zo) (c:Nat) (w:World) (ha:x.a<256) :
  Calls Tryz.prog 24 #[x.v A c] w fun e w'=>e = .returned (.int .i64 (highN x))∧Below w.heap.size w w':=by
 have HD:=zh (high_wrap x);have HB0:=zh (zD w (x.box A c));have HN0:=zh (NBox.new w x A c)
 go_enter Tryz.func24,Tryz.ntmps24
 go_wp2
 generalize w.alloc (x.box A c)=wc at *
 refine wp_region_held_drew (S:=(fun w'=>(w'.cell? ⟨w.heap.size,0,none⟩=some (.int .u8 x.kind)∧w'.cell? ⟨w.heap.size,1,none⟩=some (.int .u8 x.a)∧w'.cell? ⟨w.heap.size,2,none⟩=some (.int .u8 x.b)∧w'.cell? ⟨w.heap.size,3,none⟩=some (.int .u8 x.c)∧w'.cell? ⟨w.heap.size,4,none⟩=some (.slice A x.parts.length c))∧Hid (NBox w' w.heap.size x A c∧Below w.heap.size w w'))) (by kernel_rfl) ?_ (fun zH_=>?_)
 ·(try dsimp only);exact nb_cells (HN0.out.below (zC (Below.refl _ _) 1)) (zC HB0.out 1)
 refine tL 0 ?_;refine tL 2 ?_;refine tL 3 ?_;refine tL 4 ?_;refine tL 5 ?_;refine tR 1 (fun K hK=>?_)
 go_simp
 (refine (low_any x A c _ ha).mono ?_;rintro e w3 ⟨rfl,hbx⟩)
 refine hK.out _ _ ?_ (fun zH_=>?_)
 ·(try dsimp only);exact nb_cells (zH_.2.out.1.below hbx) (zB zH_.2.out.2 hbx)
 clear hK K;try simp only[ps]
 refine tL 6 ?_;refine tL 7 ?_;refine wpAnyH_done (by kernel_rfl) ?_ _
 go_wp2
 go_ret
 exact ⟨by rw[HD.out];rfl,zH_.2.out.2⟩
def bitN (x:NodeD) (i:Nat):Bool:=(x.a >>> i) % 2==1
def idsTo (x:NodeD) (k:Nat):List Int:=((List.range k).filter (bitN x)).map fun i=>((i+1:Nat):Int)
theorem idsTo_next (x:NodeD) (k:Nat):idsTo x (k+1)=if bitN x k then idsTo x k++[((k+1:Nat):Int)] else idsTo x k:=by
 unfold idsTo;rw[List.range_succ,List.filter_append,List.map_append]
 cases h:bitN x k <;> simp[h]
theorem idsTo_len (x:NodeD) (k:Nat):(idsTo x k).length≤k:=by
 unfold idsTo;rw[List.length_map];exact Nat.le_trans (List.length_filter_le _ _) (by simp)
theorem idsN_to (x:NodeD):idsN x=if idsTo x 6=[] then [1] else idsTo x 6:=rfl
theorem bit_eq (x:NodeD) (k:Nat):(((x.a:Int) / 2 ^ k).tmod 2==1)=bitN x k:=by
 have h:(x.a:Int) / 2 ^ k=((x.a / 2 ^ k:Nat):Int):=by simp
 rw[h];unfold bitN;rw[Nat.shiftRight_eq_div_pow];have:(((x.a / 2 ^ k:Nat):Int).tmod 2)=((x.a / 2 ^ k % 2:Nat):Int):=rfl;rw[this]
 rcases Nat.mod_two_eq_zero_or_one (x.a / 2 ^ k) with e|e <;> rw[e] <;> rfl
theorem rIds_any (x:NodeD) (A:zo) (c:Nat) (w:World) (_:x.a<256) :
  Calls Tryz.prog 25 #[x.v A c] w fun e w'=>∃v,e = .returned v∧OwnI w' w.heap.size v (idsN x)∧Below w.heap.size w w':=by
 have HB0:=zh (zD w (x.box A c));have HN0:=zh (NBox.new w x A c)
 go_enter Tryz.func25,Tryz.ntmps25
 go_wp2
 generalize w.alloc (x.box A c)=wc at *
 go_loopw [3,4] (fun v i wr=>∃k:Nat,k≤6∧i = .int .i64 k∧Hid (OwnI wr wc.heap.size v (idsTo x k)∧Below wc.heap.size wc wr)) (fun _ i _=>6 - (intOf i).toNat)
 case atStart=>exact ⟨0,by omega,rfl,OwnL.nil _ _,Below.refl _ _⟩
 case round =>
  obtain ⟨k,hk,rfl,hh⟩:=hrel;obtain ⟨wo,rfl⟩:∃wo:World,wo=wr:=⟨_,rfl⟩;have hn0:=zA hh.out.2 (HN0.out.cell 1)
  by_cases hlt:k<6
  ·have h1:(0:Int)≤(k:Int):=by omega
   have HB7:=zh hh.out.2;have HO7:=zh hh.out.1;have HLN:=zh (idsTo_len x k);have HNX:=zh (idsTo_next x k);have hbt:(((x.a:Int) / 2 ^ k).tmod 2==1)=bitN x k:=bit_eq x k;clear hh
   cases hb:bitN x k with
   | true =>
    rw[hb] at hbt HNX;clear hb;have HO1:=zh (OwnL.alloc HO7.out (.cells #[.int .i64 ((k:Int)+1)] 3));have HRN:Hid ((wo.alloc (.cells #[.int .i64 ((k:Int)+1)] 3)).rangeAt wo.heap.size 0 [.int .i64 ((k:Int)+1)]):=zT wo [.int .i64 ((k:Int)+1)] 3;have HZ7:Hid (wc.heap.size≤(wo.alloc (.cells #[.int .i64 ((k:Int)+1)] 3)).heap.size):=by have:=HB7.out.size;show _≤_;simp;omega
    go_wp2_with (at_builtin;refine zR yF _ rfl (.tmp 15) (.tmp 18) rfl wc.heap.size _ _ _ rfl HO1.out wo.heap.size 0 1 1 [.int .i64 ((k:Int)+1)] rfl rfl HRN.out (by simp[Value.oneCell']) (by have:=HLN.out;omega) (by have:=HLN.out;omega) HZ7.out ?_;intro v8 w8 ho8 hg8)
    go_roundw
    case rel=>exact ⟨k+1,by omega,by go_num,(by rw[HNX.out];exact OwnL.snoc (x:=(((k+1:Nat):Int))) ho8),(HB7.out.alloc HB7.out.size _).grown hg8 HZ7.out HO1.out.lt⟩
    case measure=>simp[intOf];omega
   | false =>
    rw[hb] at hbt HNX;clear hb;go_wp2;go_roundw
    case rel=>exact ⟨k+1,by omega,by go_num,(by rw[HNX.out];exact HO7.out),HB7.out⟩
    case measure=>simp[intOf];omega
  ·have hk6:k=6:=by omega
   subst hk6;have HB7:=zh hh.out.2;have HLN:=zh (idsTo_len x 6);have HW:Hid (w.heap.size≤wc.heap.size):=HB0.out.size;obtain ⟨A7,c7,rfl,_⟩:=OwnI.ints hh.out.1 (by have:=HLN.out;unfold Lim;omega)
   have HO7:=zh hh.out.1;clear hh hlt
   by_cases he:idsTo x 6=[]
   ·have HI:=zh (show idsN x=[1] by rw[idsN_to,if_pos he])
    have hel:(((idsTo x 6).length:Int)==0)=true:=by rw[he];rfl
    have HE:=zh he;clear he;have HO1:=zh (OwnL.alloc HO7.out (.cells #[.int .i64 1] 3));have HRN:Hid ((wo.alloc (.cells #[.int .i64 1] 3)).rangeAt wo.heap.size 0 [.int .i64 1]):=zT wo [.int .i64 1] 3;have HZ7:Hid (wc.heap.size≤(wo.alloc (.cells #[.int .i64 1] 3)).heap.size):=by have:=HB7.out.size;show _≤_;simp;omega
    go_wp2_with (at_builtin;refine zR yF _ rfl (.tmp 23) (.tmp 24) rfl wc.heap.size _ _ _ rfl HO1.out wo.heap.size 0 1 1 [.int .i64 1] rfl rfl HRN.out (by simp[Value.oneCell']) (by have:=HLN.out;omega) (by have:=HLN.out;omega) HZ7.out ?_;intro v8 w8 ho8 hg8)
    go_ret
    refine ⟨_,rfl,?_,zB HB0.out ((HB7.out.alloc HB7.out.size _).grown hg8 HZ7.out HO1.out.lt)⟩;have:=OwnL.base (OwnL.snoc (x:=(1:Int)) ho8) HW.out;rw[HE.out] at this;rw[HI.out];exact this
   ·have HI:=zh (show idsN x=idsTo x 6 by rw[idsN_to,if_neg he])
    have hel:(((idsTo x 6).length:Int)==0)=false:=by
     have:(idsTo x 6).length≠0:=fun e=>he (List.eq_nil_of_length_eq_zero e)
     simp;omega
    clear he;go_wp2;go_ret;refine ⟨_,rfl,?_,zB HB0.out HB7.out⟩;rw[HI.out];exact OwnL.base HO7.out HW.out
end Go.Proofs.YtdfolgmcggdjdaaGreatDoor


