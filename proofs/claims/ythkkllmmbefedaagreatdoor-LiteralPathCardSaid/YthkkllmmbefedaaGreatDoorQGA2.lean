/-
  Which values fit a type: plain Lean.
-/
import Derived.Test.YthkkllmmbefedaaGreatDoorProg
import Derived.Test.YthkkllmmbefedaaGreatDoorQGA0
import Derived.Test.YthkkllmmbefedaaGreatDoorQGA1
import Derived.WalkKit
import Derived.ProofKit
import Derived.RowKit
import Derived.Lib.Hide
import Derived.Deep.RegionHeld3
import Derived.Deep.DrawnRows
import Derived.BigQuiet
import Derived.Deep.QuietTactic
import Derived.Maps.AppendAt
import Derived.MapKept
import Derived.OwnWalk
import Derived.Lib.SliceRun
import Derived.Lib.ItoaLen
namespace Go.Proofs.YthkkllmmbefedaaGreatDoor
open Go.RowKit
set_option maxHeartbeats 16000000
set_option maxRecDepth 100000
theorem ps:(∀ (a:Act) (d:Tmp) (v:Value),a.put (some d) v={ a with tmps:=a.tmps.setIfInBounds d v })/\(∀ (a:Act) (v:Value),a.put none v=a)/\(∀ (l:List Value) (i:Nat) (v:Value),l.toArray.setIfInBounds i v=(l.set i v).toArray)/\(∀ (x:Value) (l:List Value) (v:Value),(x::l).set 0 v=v::l)/\(∀ (x:Value) (l:List Value) (n:Nat) (v:Value),(x::l).set (n+1) v=x::l.set n v)/\(∀ (l:List Value) (i:Nat) (h:i<l.toArray.size),l.toArray[i]=l[i]'(by simpa using h))/\(∀ (l:List Oper) (i:Nat) (h:i<l.toArray.size),l.toArray[i]=l[i]'(by simpa using h))/\(∀ (x:Oper) (l:List Oper) (h:0<(x::l).length),(x::l)[0]=x)/\(∀ (x:Oper) (l:List Oper) (i:Nat) (h:i+1<(x::l).length),(x::l)[i+1]=l[i]'(by simpa using h)):=by
 refine ⟨fun _ _ _=>rfl,fun _ _=>rfl,?_,fun _ _ _=>rfl,fun _ _ _ _=>rfl,fun _ _ _=>rfl,fun _ _ _=>rfl,fun _ _ _=>rfl,fun _ _ _ _=>rfl⟩
 intro l i v;simp
section
variable {P:Program} {ops:Array Oper} {Q:Exit->Act->World->Prop} {md:Region.Mode} {S:World->Prop} {oi:Oper} {fuel:Nat} {listed:Array Bool} {a:Act} {w:World}
theorem tkH (i:Nat) (v:Value) (hi:ops[i]? = some oi) (hc:(Region.noSelect ops&&Region.free md ops listed i&&(Region.ready md ops listed).contains i)=true) (hy:YieldsIf P ops S oi v a) (hS:S w)
  (h:wpAnyH P md ops Q S fuel (listed.setIfInBounds i true) (a.put oi.dst v) w) (hQ:∀c a w,Q (.panic c) (a.put oi.dst v) w->Q (.panic c) a w:=by exact fun _ _ _ h=>h):wpAnyH P md ops Q S (fuel+1) listed a w:=by
 simp only[AAJ] at hc;exact wpAnyH_take hi hc.1.1 hc.1.2 hc.2 hQ hy hS h
theorem sS (i:Nat) (v:Value) (hi:ops[i]? = some oi) (hc:(Region.noSelect ops&&Region.free md ops listed i&&(Region.ready md ops listed).contains i)=true) (hy:Yields P ops oi v a)
  (h:wpAny P md ops Q fuel (listed.setIfInBounds i true) (a.put oi.dst v) w) (hQ:∀c a w,Q (.panic c) (a.put oi.dst v) w->Q (.panic c) a w:=by exact fun _ _ _ h=>h):wpAny P md ops Q (fuel+1) listed a w:=by
 simp only[AAJ] at hc;exact wpAny_take hi hc.1.1 hc.1.2 hc.2 hQ hy h
end
def In64 (n:Int):Prop:=-9223372036854775808<=n/\n<=9223372036854775807
def DU (bytes n:Nat):Prop:=n * bytes<=140737488355328
def Db (s:ByteArray):Prop:=s.size<=9223372036854775807
variable {w:World}
theorem zL {a:Addr} {v:Value} (h:w.cell? a=some v):a.block<w.heap.size:=World.block_lt_of_cell? w a h
variable {b o:Nat} {w':World}
theorem zA (hb:Below w.heap.size w w') {v:Value} (h:w.cell? ⟨b,o,none⟩=some v):w'.cell? ⟨b,o,none⟩=some v :=
 (hb.cell (p:=⟨b,o,none⟩) (zL h)).trans h
theorem zC {B:Nat} {a:World} (h:Below B a w) (n:Nat):Below B a (w.drewN n):=⟨h.os,h.tape,h.output,h.size,h.block⟩
variable {w1:World}
theorem zB {w2:World} (h1:Below w.heap.size w w1) (h2:Below w1.heap.size w1 w2):Below w.heap.size w w2 :=
 h1.trans (h2.mono h1.size)
theorem zD (w:World) (o:Obj):Below w.heap.size w (w.alloc o):=(Pe _ _).alloc (AAH _) _
theorem zI (w:World) (o o2:Obj):Below w.heap.size w ((w.alloc o).alloc o2):=zB (zD w o) (zD _ o2)
theorem BU (hb:Below w.heap.size w w') {cs:List Value} (h:w.rangeAt b o cs):w'.rangeAt b o cs :=
 fun j u hj=>zA hb (h j u hj)
def RowsIn {α:Type} (k:Nat) (at_:α->List Value->Prop) (w:World) (b o:Nat) (l:List α):Prop :=
 ∀i x,l[i]? = some x->∃cs,at_ x cs/\w.rangeAt b (o+i * k) cs
def Aa {α:Type} (k bytes:Nat) (at_:α->List Value->Prop) (w:World) (A:zo) (l:List α):Prop :=
 DU bytes l.length/\(l≠[]->∃b o,A=some ⟨b,o,none⟩/\RowsIn k at_ w b o l)
theorem Aa.nil {α:Type} (k bytes:Nat) (at_:α->List Value->Prop) (w:World) (A:zo):Aa k bytes at_ w A [] :=
 ⟨by simp[DU],fun h=>absurd rfl h⟩
variable {bytes k:Nat} {A:zo}
theorem Aa.imp {α:Type} {at_ at':α->List Value->Prop} {l:List α} (h:Aa k bytes at_ w A l) (ha:∀x∈l,∀cs,at_ x cs->at' x cs) (hb:Below w.heap.size w w'):Aa k bytes at' w' A l:=by
 refine ⟨h.1,fun hn=>?_⟩
 obtain ⟨b,o,e,hi⟩:=h.2 hn;refine ⟨b,o,e,fun i x hx=>?_⟩
 obtain ⟨cs,h1,h2⟩:=hi i x hx;exact ⟨cs,ha x (ABF hx) cs h1,BU hb h2⟩
theorem Aa.at_ {α:Type} {k bytes:Nat} {at_:α->List Value->Prop} {w:World} {A:zo} {l:List α} (h:Aa k bytes at_ w A l) {i:Nat} (hi:i<l.length):∃b o cs,A=some ⟨b,o,none⟩/\at_ l[i] cs/\w.rangeAt b (o+i * k) cs:=by
 obtain ⟨b,o,e,hin⟩:=h.2 (fun e=>by subst e;simp at hi)
 obtain ⟨cs,h1,h2⟩:=hin i _ (zl hi);exact ⟨b,o,cs,e,h1,h2⟩
def Ak.At (r:Ak) (cs:List Value):Prop:=Db r.data/\cs=[.int .i64 r.id,.string r.data]
def Bu.At (r:Bu) (cs:List Value):Prop:=Db r.name/\cs=[.int .i64 r.id,.string r.name]
def EH (w:World) (A:zo) (l:List Ak):Prop:=Aa 2 24 Ak.At w A l
def JF (w:World) (A:zo) (l:List Bu):Prop:=Aa 2 24 Bu.At w A l
variable {l:List Ak}
theorem EH.below (h:EH w A l) (hb:Below w.heap.size w w'):EH w' A l:=Aa.imp h (fun _ _ _ h=>h) hb
theorem JF.below {l:List Bu} (h:JF w A l) (hb:Below w.heap.size w w'):JF w' A l:=Aa.imp h (fun _ _ _ h=>h) hb
def Val.kind:Val->Int | .mk k _ _ _ _ _ _ _=>k
def Val.bool:Val->Bool | .mk _ b _ _ _ _ _ _=>b
def Val.int:Val->Int | .mk _ _ i _ _ _ _ _=>i
def Val.str:Val->ByteArray | .mk _ _ _ s _ _ _ _=>s
def Val.id:Val->Int | .mk _ _ _ _ d _ _ _=>d
def Val.keys:Val->List Val | .mk _ _ _ _ _ ks _ _=>ks
def Val.items:Val->List Val | .mk _ _ _ _ _ _ is _=>is
def Val.rest:Val->List Ak | .mk _ _ _ _ _ _ _ r=>r
abbrev Val.cs (x:Val) (A1:zo) (c1:Nat) (A2:zo) (c2:Nat) (A3:zo) (c3:Nat):List Value :=
 [.int .i64 x.kind,.bool x.bool,.int .i64 x.int,.string x.str,.int .i64 x.id,.slice A1 x.keys.length c1,.slice A2 x.items.length c2,.slice A3 x.rest.length c3]
mutual
def Val.At (w:World):Val->List Value->Prop
 | .mk k b i s d ks is r,cs=>Db s/\∃ (A1:zo) (c1:Nat) (A2:zo) (c2:Nat) (A3:zo) (c3:Nat),
   cs=[.int .i64 k,.bool b,.int .i64 i,.string s,.int .i64 d,.slice A1 ks.length c1,.slice A2 is.length c2,.slice A3 r.length c3] /\
   (DU 120 ks.length/\(ks≠[]->∃b o,A1=some ⟨b,o,none⟩/\Val.In w ks b o))/\(DU 120 is.length/\(is≠[]->∃b o,A2=some ⟨b,o,none⟩/\Val.In w is b o))/\EH w A3 r
def Val.In (w:World):List Val->Nat->Nat->Prop
 | [],_,_=>True
 | v::l,b,o=>(∃cs,Val.At w v cs/\w.rangeAt b o cs)/\Val.In w l b (o+8)
end
def Co (w:World) (A:zo) (l:List Val):Prop:=Aa 8 120 (Val.At w) w A l
theorem Val.bW (w:World):∀ (l:List Val) (b o:Nat),Val.In w l b o↔RowsIn 8 (Val.At w) w b o l
 | [],b,o=>by simp[Val.In,RowsIn]
 | v::l,b,o=>by
  rw[Val.In,Val.bW w l b (o+8)]
  constructor
  ·rintro ⟨h1,h2⟩ i x hx
   cases i with
   | zero =>
    obtain ⟨cs,h3,h4⟩:=h1;have:v=x:=by simpa using hx
    subst this;exact ⟨cs,h3,by simpa using h4⟩
   | succ i =>
    obtain ⟨cs,h3,h4⟩:=h2 i x (by simpa using hx)
    refine ⟨cs,h3,?_⟩
    rwa [show o+(i+1) * 8=o+8+i * 8 by omega]
  ·intro h
   refine ⟨?_,fun i x hx=>?_⟩
   ·obtain ⟨cs,h3,h4⟩:=h 0 v rfl
    exact ⟨cs,h3,by simpa using h4⟩
   ·obtain ⟨cs,h3,h4⟩:=h (i+1) x (by simpa using hx)
    refine ⟨cs,h3,?_⟩
    rwa [show o+(i+1) * 8=o+8+i * 8 by omega] at h4
structure Az (w:World) (x:Val) (A1 A2 A3:zo):Prop where
 str:Db x.str
 keys:Co w A1 x.keys
 items:Co w A2 x.items
 rest:EH w A3 x.rest
variable {x:Val}
theorem Val.EF {cs:List Value}:x.At w cs↔∃A1 c1 A2 c2 A3 c3,cs=x.cs A1 c1 A2 c2 A3 c3/\Az w x A1 A2 A3:=by
 obtain ⟨k,b,i,s,d,ks,is,r⟩:=x;rw[Val.At];simp only[Val.bW]
 constructor
 ·rintro ⟨h0,A1,c1,A2,c2,A3,c3,rfl,h1,h2,h3⟩
  exact ⟨A1,c1,A2,c2,A3,c3,rfl,h0,h1,h2,h3⟩
 ·rintro ⟨A1,c1,A2,c2,A3,c3,rfl,h0,h1,h2,h3⟩
  exact ⟨h0,A1,c1,A2,c2,A3,c3,rfl,h1,h2,h3⟩
mutual
theorem Val.Ev {w w':World} (hb:Below w.heap.size w w'):∀ (x:Val) (cs:List Value),x.At w cs->x.At w' cs
 | .mk k b i s d ks is r,cs,h=>by
  rw[Val.At] at h ⊢;obtain ⟨h0,A1,c1,A2,c2,A3,c3,e,⟨l1,h1⟩,⟨l2,h2⟩,h3⟩:=h;refine ⟨h0,A1,c1,A2,c2,A3,c3,e,⟨l1,fun hn=>?_⟩,⟨l2,fun hn=>?_⟩,h3.below hb⟩
  ·obtain ⟨b,o,e,hi⟩:=h1 hn
   exact ⟨b,o,e,Val.Cm hb ks b o hi⟩
  ·obtain ⟨b,o,e,hi⟩:=h2 hn
   exact ⟨b,o,e,Val.Cm hb is b o hi⟩
theorem Val.Cm {w w':World} (hb:Below w.heap.size w w'):∀ (l:List Val) (b o:Nat),Val.In w l b o->Val.In w' l b o
 | [],_,_,_=>by rw[Val.In];trivial
 | v::l,b,o,h=>by
  rw[Val.In] at h ⊢;obtain ⟨⟨cs,h1,h2⟩,h3⟩:=h;exact ⟨⟨cs,Val.Ev hb v cs h1,BU hb h2⟩,Val.Cm hb l b (o+8) h3⟩
end
theorem Co.below {l:List Val} (h:Co w A l) (hb:Below w.heap.size w w'):Co w' A l :=
 Aa.imp h (fun x _ cs=>Val.Ev hb x cs) hb
variable {A1 A2 A3:zo}
theorem Az.below (h:Az w x A1 A2 A3) (hb:Below w.heap.size w w'):Az w' x A1 A2 A3 :=
 ⟨h.str,h.keys.below hb,h.items.below hb,h.rest.below hb⟩
abbrev Val.v (x:Val) (A1:zo) (c1:Nat) (A2:zo) (c2:Nat) (A3:zo) (c3:Nat):Value :=
 .agg #[.int .i64 x.kind,.bool x.bool,.int .i64 x.int,.string x.str,.int .i64 x.id,.slice A1 x.keys.length c1,.slice A2 x.items.length c2,.slice A3 x.rest.length c3]
abbrev AZ.v (m:AZ) (A1:zo) (c1:Nat) (A2:zo) (c2:Nat) (A3:zo) (c3:Nat):Value :=
 .agg #[.int .i64 m.id,.string m.name,.int .i64 m.type,.bool m.critical,.bool m.ED,.int .i64 m.dflt.kind,.bool m.dflt.bool,.int .i64 m.dflt.int,.string m.dflt.str,.int .i64 m.dflt.id,.slice A1 m.dflt.keys.length c1,.slice A2 m.dflt.items.length c2,.slice A3 m.dflt.rest.length c3]
abbrev AZ.cs (m:AZ) (A1:zo) (c1:Nat) (A2:zo) (c2:Nat) (A3:zo) (c3:Nat):List Value :=
 [.int .i64 m.id,.string m.name,.int .i64 m.type,.bool m.critical,.bool m.ED,.int .i64 m.dflt.kind,.bool m.dflt.bool,.int .i64 m.dflt.int,.string m.dflt.str,.int .i64 m.dflt.id,.slice A1 m.dflt.keys.length c1,.slice A2 m.dflt.items.length c2,.slice A3 m.dflt.rest.length c3]
structure UJ (w:World) (m:AZ) (A1 A2 A3:zo):Prop where
 name:Db m.name
 dflt:Az w m.dflt A1 A2 A3
theorem UJ.below {x:AZ} (h:UJ w x A1 A2 A3) (hb:Below w.heap.size w w'):UJ w' x A1 A2 A3:=⟨h.name,h.dflt.below hb⟩
def AZ.At (w:World) (m:AZ) (cs:List Value):Prop:=∃A1 c1 A2 c2 A3 c3,cs=m.cs A1 c1 A2 c2 A3 c3/\UJ w m A1 A2 A3
def FL (w:World) (A:zo) (l:List AZ):Prop:=Aa 13 160 (AZ.At w) w A l
theorem AZ.Ev (hb:Below w.heap.size w w') {m:AZ} {cs:List Value}:m.At w cs->m.At w' cs :=
 fun ⟨A1,c1,A2,c2,A3,c3,e,h⟩=>⟨A1,c1,A2,c2,A3,c3,e,h.below hb⟩
theorem FL.below {l:List AZ} (h:FL w A l) (hb:Below w.heap.size w w'):FL w' A l :=
 Aa.imp h (fun _ _ _=>AZ.Ev hb) hb
abbrev Ae.v (t:Ae) (As:zo) (cs:Nat) (Am:zo) (cm:Nat):Value :=
 .agg #[.int .i64 t.kind,.string t.name,.int .i64 t.low,.int .i64 t.high,.int .i64 t.max,.slice As t.Aj.length cs,.slice Am t.AA.length cm,.int .i64 t.key,.int .i64 t.elem,.bool t.open_]
abbrev Ae.cs (t:Ae) (As:zo) (cs:Nat) (Am:zo) (cm:Nat):List Value :=
 [.int .i64 t.kind,.string t.name,.int .i64 t.low,.int .i64 t.high,.int .i64 t.max,.slice As t.Aj.length cs,.slice Am t.AA.length cm,.int .i64 t.key,.int .i64 t.elem,.bool t.open_]
structure KM (w:World) (t:Ae) (As Am:zo):Prop where
 name:Db t.name
 Aj:JF w As t.Aj
 AA:FL w Am t.AA
theorem KM.below {x:Ae} (h:KM w x A1 A2) (hb:Below w.heap.size w w'):KM w' x A1 A2:=⟨h.name,h.Aj.below hb,h.AA.below hb⟩
def Ae.At (w:World) (t:Ae) (l:List Value):Prop:=∃As cs Am cm,l=t.cs As cs Am cm/\KM w t As Am
def CQ (w:World) (A:zo) (l:List Ae):Prop:=Aa 10 120 (Ae.At w) w A l
theorem Ae.Ev (hb:Below w.heap.size w w') {m:Ae} {cs:List Value}:m.At w cs->m.At w' cs :=
 fun ⟨A1,c1,A2,c2,e,h⟩=>⟨A1,c1,A2,c2,e,h.below hb⟩
theorem CQ.below {l:List Ae} (h:CQ w A l) (hb:Below w.heap.size w w'):CQ w' A l :=
 Aa.imp h (fun _ _ _=>Ae.Ev hb) hb
variable {i:Nat}
theorem Co.at8 {l:List Val} (h:Co w A l) (hi:i<l.length):∃b o A1 c1 A2 c2 A3 c3,A=some ⟨b,o,none⟩/\Az w l[i] A1 A2 A3 /\
  w.cell? ⟨b,o+i * 8,none⟩=some (.int .i64 (l[i]).kind)/\w.cell? ⟨b,o+i * 8+1,none⟩=some (.bool (l[i]).bool)/\w.cell? ⟨b,o+i * 8+2,none⟩=some (.int .i64 (l[i]).int)/\w.cell? ⟨b,o+i * 8+3,none⟩=some (.string (l[i]).str)/\w.cell? ⟨b,o+i * 8+4,none⟩=some (.int .i64 (l[i]).id) /\
  w.cell? ⟨b,o+i * 8+5,none⟩=some (.slice A1 (l[i]).keys.length c1)/\w.cell? ⟨b,o+i * 8+6,none⟩=some (.slice A2 (l[i]).items.length c2)/\w.cell? ⟨b,o+i * 8+7,none⟩=some (.slice A3 (l[i]).rest.length c3):=by
 obtain ⟨b,o,cs,e,h1,h2⟩:=Aa.at_ h hi;obtain ⟨A1,c1,A2,c2,A3,c3,rfl,hr⟩:=Val.EF.1 h1;exact ⟨b,o,A1,c1,A2,c2,A3,c3,e,hr,h2 0 _ rfl,h2 1 _ rfl,h2 2 _ rfl,h2 3 _ rfl,h2 4 _ rfl,h2 5 _ rfl,h2 6 _ rfl,h2 7 _ rfl⟩
theorem FL.Gw {l:List AZ} (h:FL w A l) (hi:i<l.length):∃b o A1 c1 A2 c2 A3 c3,A=some ⟨b,o,none⟩/\UJ w l[i] A1 A2 A3 /\
  w.cell? ⟨b,o+i * 13,none⟩=some (.int .i64 (l[i]).id)/\w.cell? ⟨b,o+i * 13+1,none⟩=some (.string (l[i]).name)/\w.cell? ⟨b,o+i * 13+2,none⟩=some (.int .i64 (l[i]).type)/\w.cell? ⟨b,o+i * 13+3,none⟩=some (.bool (l[i]).critical)/\w.cell? ⟨b,o+i * 13+4,none⟩=some (.bool (l[i]).ED) /\
  w.cell? ⟨b,o+i * 13+5,none⟩=some (.int .i64 (l[i]).dflt.kind)/\w.cell? ⟨b,o+i * 13+6,none⟩=some (.bool (l[i]).dflt.bool)/\w.cell? ⟨b,o+i * 13+7,none⟩=some (.int .i64 (l[i]).dflt.int)/\w.cell? ⟨b,o+i * 13+8,none⟩=some (.string (l[i]).dflt.str)/\w.cell? ⟨b,o+i * 13+9,none⟩=some (.int .i64 (l[i]).dflt.id) /\
  w.cell? ⟨b,o+i * 13+10,none⟩=some (.slice A1 (l[i]).dflt.keys.length c1)/\w.cell? ⟨b,o+i * 13+11,none⟩=some (.slice A2 (l[i]).dflt.items.length c2)/\w.cell? ⟨b,o+i * 13+12,none⟩=some (.slice A3 (l[i]).dflt.rest.length c3):=by
 obtain ⟨b,o,cs,e,h1,h2⟩:=Aa.at_ h hi;obtain ⟨A1,c1,A2,c2,A3,c3,rfl,hr⟩:=h1;exact ⟨b,o,A1,c1,A2,c2,A3,c3,e,hr,h2 0 _ rfl,h2 1 _ rfl,h2 2 _ rfl,h2 3 _ rfl,h2 4 _ rfl,h2 5 _ rfl,h2 6 _ rfl,h2 7 _ rfl,h2 8 _ rfl,h2 9 _ rfl,h2 10 _ rfl,h2 11 _ rfl,h2 12 _ rfl⟩
theorem CQ.FQ {l:List Ae} (h:CQ w A l) (hi:i<l.length):∃b o As cs Am cm,A=some ⟨b,o,none⟩/\KM w l[i] As Am /\
  w.cell? ⟨b,o+i * 10,none⟩=some (.int .i64 (l[i]).kind)/\w.cell? ⟨b,o+i * 10+1,none⟩=some (.string (l[i]).name)/\w.cell? ⟨b,o+i * 10+2,none⟩=some (.int .i64 (l[i]).low)/\w.cell? ⟨b,o+i * 10+3,none⟩=some (.int .i64 (l[i]).high)/\w.cell? ⟨b,o+i * 10+4,none⟩=some (.int .i64 (l[i]).max) /\
  w.cell? ⟨b,o+i * 10+5,none⟩=some (.slice As (l[i]).Aj.length cs)/\w.cell? ⟨b,o+i * 10+6,none⟩=some (.slice Am (l[i]).AA.length cm)/\w.cell? ⟨b,o+i * 10+7,none⟩=some (.int .i64 (l[i]).key)/\w.cell? ⟨b,o+i * 10+8,none⟩=some (.int .i64 (l[i]).elem)/\w.cell? ⟨b,o+i * 10+9,none⟩=some (.bool (l[i]).open_):=by
 obtain ⟨b,o,cs,e,h1,h2⟩:=Aa.at_ h hi;obtain ⟨As,cs,Am,cm,rfl,hr⟩:=h1;exact ⟨b,o,As,cs,Am,cm,e,hr,h2 0 _ rfl,h2 1 _ rfl,h2 2 _ rfl,h2 3 _ rfl,h2 4 _ rfl,h2 5 _ rfl,h2 6 _ rfl,h2 7 _ rfl,h2 8 _ rfl,h2 9 _ rfl⟩
theorem EH.at2 (h:EH w A l) (hi:i<l.length):∃b o,A=some ⟨b,o,none⟩/\Db (l[i]).data/\w.cell? ⟨b,o+i * 2,none⟩=some (.int .i64 (l[i]).id)/\w.cell? ⟨b,o+i * 2+1,none⟩=some (.string (l[i]).data):=by
 obtain ⟨b,o,cs,e,⟨h0,rfl⟩,h2⟩:=Aa.at_ h hi;exact ⟨b,o,e,h0,h2 0 _ rfl,h2 1 _ rfl⟩
theorem JF.at2 {l:List Bu} (h:JF w A l) (hi:i<l.length):∃b o,A=some ⟨b,o,none⟩/\Db (l[i]).name/\w.cell? ⟨b,o+i * 2,none⟩=some (.int .i64 (l[i]).id)/\w.cell? ⟨b,o+i * 2+1,none⟩=some (.string (l[i]).name):=by
 obtain ⟨b,o,cs,e,⟨h0,rfl⟩,h2⟩:=Aa.at_ h hi;exact ⟨b,o,e,h0,h2 0 _ rfl,h2 1 _ rfl⟩
abbrev Val.box (x:Val) (A1:zo) (c1:Nat) (A2:zo) (c2:Nat) (A3:zo) (c3:Nat):Obj :=
 .cells #[.int .i64 x.kind,.bool x.bool,.int .i64 x.int,.string x.str,.int .i64 x.id,.slice A1 x.keys.length c1,.slice A2 x.items.length c2,.slice A3 x.rest.length c3] 28
abbrev AZ.box (m:AZ) (A1:zo) (c1:Nat) (A2:zo) (c2:Nat) (A3:zo) (c3:Nat):Obj :=
 .cells #[.int .i64 m.id,.string m.name,.int .i64 m.type,.bool m.critical,.bool m.ED,.int .i64 m.dflt.kind,.bool m.dflt.bool,.int .i64 m.dflt.int,.string m.dflt.str,.int .i64 m.dflt.id,.slice A1 m.dflt.keys.length c1,.slice A2 m.dflt.items.length c2,.slice A3 m.dflt.rest.length c3] 118
abbrev Ae.box (t:Ae) (As:zo) (cs:Nat) (Am:zo) (cm:Nat):Obj :=
 .cells #[.int .i64 t.kind,.string t.name,.int .i64 t.low,.int .i64 t.high,.int .i64 t.max,.slice As t.Aj.length cs,.slice Am t.AA.length cm,.int .i64 t.key,.int .i64 t.elem,.bool t.open_] 87
abbrev Bu.box (s:Bu):Obj := .cells #[.int .i64 s.id,.string s.name] 92
abbrev Ak.box (s:Ak):Obj := .cells #[.int .i64 s.id,.string s.data] 97
theorem OC (w:World) (row:Option Nat):w.grownBy w row:=⟨rfl,rfl,rfl,AAH _,fun _ _ _=>rfl⟩
theorem yA {row:Option Nat} (hg:w.grownBy w' row) (hb:b<w.heap.size) (hne:∀k,row=some k->b≠k):w'.heap[b]? = w.heap[b]? :=
 hg.block b hb (fun e=>hne b e.symm rfl)
section
set_option linter.unusedSectionVars false
variable {P:Program} {κ:Type} [DecidableEq κ]
variable {b:Nat} {w:World}
theorem uU {es:Array MapEntry} {c:Nat} (hm:w.heap[b]? = some (.map es c)):(getObj b).run P w = .ok (.map es c) w:=Go.MapKept.run_getObj_map hm
theorem sZ {es:Array MapEntry} {c:Nat} (o:Obj) (hm:w.heap[b]? = some (.map es c)):(setObj b o).run P w = .ok () { w with heap:=w.heap.setIfInBounds b o }:=Go.MapKept.run_setObj_map o hm
def JB (k:κ):List (κ×Value)->Nat->Option (Nat×Value)
 | [],_=>none
 | x::r,i=>if k=x.1 then some (i,x.2) else JB k r (i+1)
def Et (ek:κ->Value):Nat->List (κ×Value)->List MapEntry
 | _,[]=>[]
 | i,x::r=>⟨ek x.1,x.2,i⟩::Et ek (i+1) r
theorem Tv (ek:κ->Value):∀ (l:List (κ×Value)) (i j:Nat),(Et ek i l)[j]? = (l[j]?).map fun x=>⟨ek x.1,x.2,i+j⟩
 | [],_,_=>by simp[Et]
 | x::r,i,0=>by simp[Et]
 | x::r,i,j+1=>by
  simp only[Et,List.getElem?_cons_succ,Tv ek r (i+1) j];rw[show i+1+j=i+(j+1) by omega]
theorem Mf (ek:κ->Value):∀ (l m:List (κ×Value)) (i:Nat),Et ek i (l++m)=Et ek i l++Et ek (i+l.length) m
 | [],m,i=>by simp[Et]
 | x::r,m,i=>by
  simp only[ABJ,Et,Mf ek r m (i+1),AAS];rw[show i+1+r.length=i+(r.length+1) by omega]
structure UL (P:Program) (KT:TypeId) (ek:κ->Value):Prop where
 check:∀ (w:World) (em:Bool) (k:κ),(Instr.checkKey em 10000 KT (ek k)).run P w = .ok () w
 find:∀ (w:World) (k:κ) (l:List (κ×Value)),(Instr.findKey KT (ek k) (Et ek 0 l)).run P w = .ok (JB k l 0) w
 stays:∀ (w:World) (k:κ),(Instr.keyThatStays (ek k) (ek k)).run P w = .ok (ek k) w
def MapAt (ek:κ->Value) (w:World) (b:Nat) (l:List (κ×Value)):Prop:=w.heap[b]? = some (.map (Et ek 0 l).toArray l.length)
def RH (l:List (κ×Value)) (k:κ) (z:Value):Value:=match JB k l 0 with|some (_,v)=>v|none=>z
def uR (l:List (κ×Value)) (k:κ):Bool:=(JB k l 0).isSome
def Mr (l:List (κ×Value)) (i:Nat) (v:Value):List (κ×Value):=l.modify i fun x=>(x.1,v)
variable {KT MT ET:TypeId} {ek:κ->Value} {z:Value}
theorem VF (hK:UL P KT ek) (hu:P.underlying MT=some (.map KT ET)) (hz:∀w,(zeroValue ET).run P w = .ok z w) {l:List (κ×Value)} (hm:MapAt ek w b l) (k:κ) (c:Bool):
  (Instr.lookup MT (.map (some b)) (ek k) c).run P w = .ok (if c then .tuple #[RH l k z,.bool (uR l k)] else RH l k z) w:=by
 unfold Instr.lookup RH uR;simp only[Sem.run_bind,run_underlying hu,Result.andThen_ok,uU hm,Sem.run_pure,hK.check,hK.find]
 cases h:JB k l 0 with
 | none=>cases c <;> simp[hz]
 | some x=>cases c <;> simp
theorem VY:∀ (l:List (κ×Value)) (k:κ) (i j:Nat) (v:Value),JB k l i=some (j,v)->∃m,j=i+m/\l[m]? = some (k,v)
 | [],_,_,_,_,h=>by cases h
 | x::r,k,i,j,v,h=>by
  rw[JB] at h
  split at h
  ·rename_i e
   injection h with h
   injection h with h1 h2
   subst h1;subst h2;exact ⟨0,rfl,by rw[e];rfl⟩
  ·obtain ⟨m,h1,h2⟩:=VY r k (i+1) j v h
   exact ⟨m+1,by omega,by simpa using h2⟩
theorem size_set (w:World) (b:Nat) (o:Obj):({ w with heap:=w.heap.setIfInBounds b o }:World).heap.size=w.heap.size:=by simp
theorem QG (w:World) (b:Nat) (o:Obj):w.grownBy { w with heap:=w.heap.setIfInBounds b o } (some b) :=
 ⟨rfl,rfl,rfl,by simp,fun k _ hk=>by
  have:b≠k:=fun e=>hk (by rw[e])
  simp[this]⟩
theorem heap_set {o o':Obj} (h:w.heap[b]? = some o'):({ w with heap:=w.heap.setIfInBounds b o }:World).heap[b]? = some o:=by
 have hb:b<w.heap.size:=(zg.1 h).1;simp[hb]
theorem Me (ek:κ->Value) (v:Value):∀ (l:List (κ×Value)) (i j:Nat),((Et ek i l).modify j fun e=>{ e with val:=v })=Et ek i (Mr l j v)
 | [],_,_=>by simp[Et,Mr]
 | x::r,i,0=>by simp[Et,Mr]
 | x::r,i,j+1=>by
  have ih:=Me ek v r (i+1) j;unfold Mr at ih ⊢;simp[Et,ih]
def gq (l:List (κ×Value)) (k:κ) (v:Value):List (κ×Value):=match JB k l 0 with|some (i,_)=>Mr l i v|none=>l++[(k,v)]
theorem Oq (hK:UL P KT ek) (hu:P.underlying MT=some (.map KT ET)) {l:List (κ×Value)} (hm:MapAt ek w b l) (k:κ) (v:Value):
  ∃w',(Instr.mapUpdate MT (.map (some b)) (ek k) v).run P w = .ok () w'/\MapAt ek w' b (gq l k v)/\w.grownBy w' (some b)/\w'.heap.size=w.heap.size:=by
 unfold Instr.mapUpdate gq;simp only[Sem.run_bind,run_underlying hu,Result.andThen_ok,uU hm,hK.check,hK.find]
 cases h:JB k l 0 with
 | none =>
  refine ⟨{ w with heap:=w.heap.setIfInBounds b (.map (Et ek 0 (l++[(k,v)])).toArray (l++[(k,v)]).length) },?_,heap_set hm,QG _ _ _,size_set _ _ _⟩
  simp only[sZ _ hm];rw[Mf,AAt];simp[Et]
 | some x =>
  obtain ⟨j,v0⟩:=x;obtain ⟨m,hj,hl⟩:=VY l k 0 j v0 h;obtain rfl:j=m:=by omega
  have hent:(Et ek 0 l)[j]? = some ⟨ek k,v0,j⟩:=by rw[Tv,hl];simp
  have hmod:((Et ek 0 l).modify j fun e=>{ e with key:=ek k,val:=v })=Et ek 0 (Mr l j v):=by
   rw[<-Me]
   apply List.ext_getElem?
   intro i
   rw[List.getElem?_modify,List.getElem?_modify]
   by_cases e:j=i
   ·subst e;simp[hent]
   ·simp[e]
  refine ⟨{ w with heap:=w.heap.setIfInBounds b (.map (Et ek 0 (Mr l j v)).toArray (Mr l j v).length) },?_,heap_set hm,QG _ _ _,size_set _ _ _⟩
  simp only[Sem.run_bind,List.getElem?_toArray,hent,Option.map_some,Option.getD_some,hK.stays,Result.andThen_ok,sZ _ hm];rw[<-hmod];simp[Mr]
theorem IE {k:κ}:∀ {l:List (κ×Value)} {m:List (κ×Value)} {i:Nat} {x:Nat×Value},JB k l i=some x->JB k (l++m) i=some x
 | [],_,_,_,h=>by cases h
 | y::r,m,i,x,h=>by
  rw[JB] at h;rw[ABJ,JB]
  by_cases e:k=y.1
  ·rw[AAG e] at h ⊢;exact h
  ·rw[Pd e] at h ⊢;exact IE h
theorem IG {k:κ}:∀ {l:List (κ×Value)} {m:List (κ×Value)} {i:Nat},JB k l i=none->JB k (l++m) i=JB k m (i+l.length)
 | [],_,_,_=>by simp
 | y::r,m,i,h=>by
  rw[JB] at h
  by_cases e:k=y.1
  ·rw[AAG e] at h;cases h
  ·rw[Pd e] at h
   rw[ABJ,JB,Pd e,IG h,AAS]
   congr 1;omega
theorem Ti (v:Value):∀ (l:List (κ×Value)) (n i m:Nat) (k k':κ) (u:Value),JB k l i=some (i+n,u)->(JB k' (Mr l n v) m).map (·.2)=if k'=k then some v else (JB k' l m).map (·.2)
 | [],_,_,_,_,_,_,h=>by cases h
 | y::r,0,i,m,k,k',u,h=>by
  rw[JB] at h
  split at h
  ·rename_i e
   simp only[Mr,List.modify_zero_cons,JB]
   by_cases e2:k'=y.1
   ·simp[e2,e]
   ·have:¬ k'=k:=fun e3=>e2 (e3.trans e)
    simp[e2,this]
  ·obtain ⟨q,hq,_⟩:=VY r k (i+1) (i+0) u h
   omega
 | y::r,n+1,i,m,k,k',u,h=>by
  rw[JB] at h
  split at h
  ·rename_i e
   injection h with h;injection h with h1 _;omega
  ·rename_i e
   have ih:=Ti v r n (i+1) (m+1) k k' u (by rw[h];congr 2;omega)
   unfold Mr at ih ⊢;simp only[List.modify_succ_cons,JB]
   by_cases e2:k'=y.1
   ·have:¬ k'=k:=fun e3=>e (e3.symm.trans e2)
    rw[AAG e2,AAG e2,Pd this]
   ·simp only[e2,if_false];exact ih
theorem Yo (l:List (κ×Value)) (k k':κ) (v z:Value):RH (gq l k v) k' z=if k'=k then v else RH l k' z:=by
 have hg:∀m:List (κ×Value),RH m k' z=((JB k' m 0).map (·.2)).getD z:=fun m=>by unfold RH;cases JB k' m 0 <;> rfl
 rw[hg,hg];unfold gq
 cases h:JB k l 0 with
 | some x =>
  obtain ⟨i,u⟩:=x;rw[Ti v l i 0 0 k k' u (by rw[h];simp)]
  by_cases e:k'=k <;> simp[e]
 | none =>
  cases h2:JB k' l 0 with
  | some x =>
   rw[IE h2];have:¬ k'=k:=fun e=>by rw[e,h] at h2;cases h2
   simp[this]
  | none =>
   rw[IG h2,JB,JB]
   by_cases e:k'=k <;> simp[e]
def Dy (ek:κ->Value) (w:World) (b:Nat) (K:List κ):Prop:=∃l,MapAt ek w b l/\∀k,RH l k (.bool false) = .bool (IQ k K)
variable {K:List κ}
theorem Dy.blt (h:Dy ek w b K):b<w.heap.size:=by
 obtain ⟨l,h,_⟩:=h;exact (zg.1 h).1
theorem Dy.keep {w':World} (h:Dy ek w b K) (hk:w'.heap[b]? = w.heap[b]?):Dy ek w' b K:=by
 obtain ⟨l,h,h2⟩:=h;exact ⟨l,hk.trans h,h2⟩
theorem Dy.below {w':World} (h:Dy ek w b K) (hb:Below w.heap.size w w'):Dy ek w' b K:=h.keep (hb.block b h.blt)
theorem Dy.new (w:World):Dy ek (w.alloc (.map #[] 0)) w.heap.size ([]:List κ):=⟨[],AAC w _,fun k=>by simp[RH,JB,IQ]⟩
theorem Dy.look (hK:UL P KT ek) (hu:P.underlying MT=some (.map KT ET)) (hz:∀w,(zeroValue ET).run P w = .ok (.bool false) w) (h:Dy ek w b K) (k:κ):
  (Instr.lookup MT (.map (some b)) (ek k) false).run P w = .ok (.bool (IQ k K)) w:=by
 obtain ⟨l,h1,h2⟩:=h;rw[VF hK hu hz h1 k false,h2];rfl
theorem Dy.put (hK:UL P KT ek) (hu:P.underlying MT=some (.map KT ET)) (h:Dy ek w b K) (k:κ):
  ∃w',(Instr.mapUpdate MT (.map (some b)) (ek k) (.bool true)).run P w = .ok () w'/\Dy ek w' b (K++[k])/\w.grownBy w' (some b)/\w'.heap.size=w.heap.size:=by
 obtain ⟨l,h1,h2⟩:=h;obtain ⟨w',e1,e2,e3⟩:=Oq hK hu h1 k (.bool true);refine ⟨w',e1,⟨_,e2,fun k'=>?_⟩,e3⟩
 rw[Yo,h2,P9]
 by_cases e:k'=k
 ·simp[e]
 ·simp[e]
end
theorem Vg (a b:ByteArray):(a==b)=decide (a=b):=by
 obtain ⟨x⟩:=a;obtain ⟨y⟩:=b;have:((⟨x⟩:ByteArray)==⟨y⟩)=(x==y):=rfl;rw[this]
 by_cases h:x=y
 ·subst h;simp
 ·simp[h]
theorem QD:UL Tryz.prog 9 (Value.string):=by
 refine ⟨fun w em k=>?_,fun w k l=>?_,fun w k=>?_⟩
 ·kernel_rfl
 ·have key:∀ (l:List (ByteArray×Value)) (i j:Nat),Instr.findNow .string (.string k) (Et Value.string j l) i=some (JB k l i):=by
   intro l
   induction l with
   | nil=>intro i j;simp[Et,Instr.findNow,JB]
   | cons x r ih =>
    intro i j
    rw[Et,Instr.findNow,JB]
    by_cases h:k=x.1
    ·simp[Instr.sameNow,h,Vg]
    ·have hb:(k==x.1)=false:=by rw[Vg];exact AAU h
     simp[Instr.sameNow,h,hb,ih]
  unfold Instr.findKey;simp only[Sem.run_bind,run_underlying Tryz.underlying9,Result.andThen_ok,key,Sem.run_pure]
 ·simp[Instr.keyThatStays,Instr.sameBits,Vg]
theorem Zd (w:World):(zeroValue 4).run Tryz.prog w = .ok (.bool false) w:=by kernel_rfl
structure Elem (T E:TypeId) (size bytes:Nat):Prop where
 under:Tryz.prog.underlying T=some (.slice E)
 info:∃z,(Tryz.prog.info? E).map (fun i=>(i.zero,i.size,i.bytes))=some (some z,size,bytes)/\z.cells.size=size
 pos:0<size
variable {size:Nat}
theorem Qp {T E:TypeId} (hE:Elem T E size bytes) (w:World) (base:Nat) (ty:TypeId) (v:Value) (n:Nat) (xs:List Value) (h:w.ownsRow base E size v n xs) (b o m c:Nat) (news:List Value) (hl:news.length=m * size) (hnews:w.rangeAt b o news) (h1:∀u∈news,u.oneCell'=true) (hlen:n+m<=9223372036854775807) (hby:(n+m) * bytes<=140737488355328) (hb:base<=w.heap.size):
  ∃v' w',(Builtin.append_ #[T,T] ty #[v,.slice (some ⟨b,o,none⟩) m c]).run Tryz.prog w = .ok v' w'/\w'.ownsRow base E size v' (n+m) (xs++news)/\w.grownBy w' v.ownBlock:=by
 obtain ⟨z,J5,hzs⟩:=hE.info;obtain ⟨i0,hi,hz0,hz1,hz2⟩:=info_parts J5;obtain ⟨v',w',hr,h2,h3,_,_⟩:=run_append_own_at (P:=Tryz.prog) w base T ty E i0 z size bytes hE.under hi hz0 hz1 hz2 hzs hE.pos v n xs h ⟨b,o,none⟩ m c news hl (fun j u hj=>by rw[Addr.add_mid];exact hnews j u hj) h1 (by unfold maxLen;omega) hby hb
 exact ⟨v',w',hr,h2,h3⟩
theorem yG {T E:TypeId} (hE:Elem T E size bytes) (w:World) {ops:Array Oper} {rest:List Oper} {op:Oper} {a:Act} {Q:Exit->Act->World->Prop} (hgd:op.guard=none) (s x:Operand) (ho:op.op = .call { callee := .builtin .append,args:=#[s,x],argTypes:=#[T,T] }) (base:Nat) (v:Value) (n:Nat) (xs:List Value) (hs:a.eval s=v) (h:w.ownsRow base E size v n xs) (b o m c:Nat) (news:List Value) (hx:a.eval x = .slice (some ⟨b,o,none⟩) m c) (hl:news.length=m * size) (hnews:w.rangeAt b o news) (h1:∀u∈news,u.oneCell'=true) (hlen:n+m<=9223372036854775807) (hby:(n+m) * bytes<=140737488355328) (hb:base<=w.heap.size) (hk:∀v' w',w'.ownsRow base E size v' (n+m) (xs++news)->w.grownBy w' v.ownBlock->wpList Tryz.prog ops Q rest (a.put op.dst v') w'):wpList Tryz.prog ops Q (op::rest) a w:=by
 refine wpList_plain hgd fun K hK=>?_
 obtain ⟨v',w',hr,h2,h3⟩:=Qp hE w base op.type v n xs h b o m c news hl hnews h1 hlen hby hb;unfold Oper.wp execOp;simp only[ho,resolve,invoke,builtin,Sem.run_bind,Sem.run_pure,Result.andThen_ok,List.map_toArray,AA4,List.map_nil,hs,hx,hr];exact hK _ _ (hk v' w' h2 h3)
theorem zR (w:World) (cs:List Value) (t:TypeId):(w.alloc (.cells cs.toArray t)).rangeAt w.heap.size 0 cs:=fun j u hj=>by
 rw[Nat.zero_add,AAE _ _ _ _ _ _ (AAC w _)]
 simpa using hj
def Ad {α:Type} (E size:Nat) (enc:α->List Value) (w:World) (base:Nat) (v:Value) (l:List α):Prop:=w.ownsRow base E size v l.length (l.flatMap enc)
section
variable {α:Type} {E size:Nat} {enc:α->List Value}
theorem Ad.nil (w:World) (base:Nat):Ad E size enc w base (.slice none 0 0) []:=World.ownsRow_nil w base E size
variable {base:Nat} {w:World}
theorem Ad.lt {v:Value} {l:List α} (h:Ad E size enc w base v l):∀k,v.ownBlock=some k->base<=k:=fun k hk=>(World.ownsRow.lt h k hk).1
theorem Ad.alloc {v:Value} {l:List α} (h:Ad E size enc w base v l) (o:Obj):Ad E size enc (w.alloc o) base v l:=World.ownsRow.alloc h o
theorem Ad.snoc {v:Value} {l:List α} {x:α} (h:w.ownsRow base E size v (l.length+1) (l.flatMap enc++enc x)):Ad E size enc w base v (l++[x]):=by
 unfold Ad;rw[AAt,List.flatMap_append];simpa using h
theorem Ad.app {v:Value} {l m:List α} {n:Nat} (hn:n=m.length) (h:w.ownsRow base E size v (l.length+n) (l.flatMap enc++m.flatMap enc)):Ad E size enc w base v (l++m):=by
 subst hn;unfold Ad;rw[AAt,List.flatMap_append];exact h
variable {w':World}
theorem Ad.keep {v:Value} {l:List α} (h:Ad E size enc w base v l) (hk:∀g,base<=g->g<w.heap.size->v.ownBlock=some g->w'.heap[g]? = w.heap[g]?):Ad E size enc w' base v l:=by
 refine ⟨h.1,?_⟩
 rcases h.2 with h0|⟨g,cap,cur,hv,hg0,hh,h1⟩
 ·exact .inl h0
 ·exact .inr ⟨g,cap,cur,hv,hg0,(hk g hg0 (zg.1 hh).1 (by rw[hv];rfl)).trans hh,h1⟩
theorem Ad.below {v:Value} {l:List α} (h:Ad E size enc w base v l) (hb:Below w.heap.size w w'):Ad E size enc w' base v l :=
 h.keep fun g _ hg _=>hb.block g hg
theorem Ad.block {v:Value} {l:List α} (h:Ad E size enc w base v l) {g:Nat} (hg:v.ownBlock=some g):∃cur fr,w.heap[g]? = some (.cells cur E fr):=by
 rcases h.2 with ⟨hv,_⟩|⟨g',cap,cur,hv,hg0,hh,h1⟩
 ·subst hv;cases hg
 ·subst hv
  have:g'=g:=by simpa[Value.ownBlock] using hg
  subst this;exact ⟨_,_,hh⟩
theorem Ad.grown {v:Value} {l:List α} (h:Ad E size enc w base v l) {row:Option Nat} (hg:w.grownBy w' row) (hne:∀k,row=some k->v.ownBlock≠some k):Ad E size enc w' base v l :=
 h.keep fun g _ hlt hv=>yA hg hlt fun k hk e=>hne k hk (by rw[hv,e])
theorem Ad.other {β:Type} {E2 sj:Nat} {enc2:β->List Value} {dS:Nat} {v v2:Value} {l:List α} {l2:List β} (h:Ad E size enc w base v l) (h2:Ad E2 sj enc2 w dS v2 l2) (hE:E≠E2) (hg:w.grownBy w' v2.ownBlock):Ad E size enc w' base v l :=
 h.grown hg fun k hk e=>by
  obtain ⟨c1,f1,e1⟩:=h.block e;obtain ⟨c2,f2,e2⟩:=h2.block hk;rw[e1] at e2
  injection e2 with e2
  injection e2 with _ e3
  exact hE e3
theorem flat_get {k:Nat} (hk:∀x,(enc x).length=k):∀ (l:List α) (i:Nat) (x:α) (j:Nat) (u:Value),l[i]? = some x->(enc x)[j]? = some u->(l.flatMap enc)[i * k+j]? = some u
 | [],_,_,_,_,h,_=>by simp at h
 | y::r,0,x,j,u,h,hj=>by
  have:y=x:=by simpa using h
  subst this;rw[ABN,Nat.zero_mul,Nat.zero_add,ABD (AAi.1 hj).1];exact hj
 | y::r,i+1,x,j,u,h,hj=>by
  rw[ABN,ABB (by rw[hk];rw[Nat.succ_mul];omega),hk]
  have:=flat_get hk r i x j u (by simpa using h) hj
  rw[show (i+1) * k+j - k=i * k+j by rw[Nat.succ_mul];omega]
  exact this
theorem Nn {k:Nat} (hk:∀x,(enc x).length=k) {g o:Nat} {l:List α} (h:w.rangeAt g o (l.flatMap enc)) {i:Nat} {x:α} (hx:l[i]? = some x):w.rangeAt g (o+i * k) (enc x):=fun j u hj=>by
 have:=h (i * k+j) u (flat_get hk l i x j u hx hj)
 rwa [<-Nat.add_assoc] at this
theorem Ad.reads {v:Value} {l:List α} (h:Ad E size enc w base v l):∃A c,v = .slice A l.length c/\l.length<=c/\c<=9223372036854775807/\(l≠[]->∃g,A=some ⟨g,0,none⟩/\base<=g/\w.rangeAt g 0 (l.flatMap enc)):=by
 rcases h.2 with ⟨hv,h0⟩|⟨g,cap,cur,hv,hg0,hg,hnc,hcm,_,ht⟩
 ·have:l=[]:=AAf h0
  subst this;exact ⟨none,0,hv,AAH _,by omega,fun h=>absurd rfl h⟩
 ·unfold maxLen at hcm
  refine ⟨some ⟨g,0,none⟩,cap,hv,hnc,by omega,fun _=>⟨g,rfl,hg0,fun j u hj=>?_⟩⟩
  have:=World.ownsRow.cells h (g:=g) (by rw[hv];rfl) j u hj
  rwa [Addr.add_mid] at this
theorem Ad.rows {v:Value} {l:List α} (h:Ad E size enc w base v l) {bytes:Nat} {at_:α->List Value->Prop} (hk:∀x,(enc x).length=size) (hl:DU bytes l.length) (ha:∀x∈l,at_ x (enc x)):∃A c,v = .slice A l.length c/\Aa size bytes at_ w A l:=by
 obtain ⟨A,c,hv,_,_,hr⟩:=h.reads;refine ⟨A,c,hv,hl,fun hn=>?_⟩
 obtain ⟨g,hA,_,hrange⟩:=hr hn;exact ⟨g,0,hA,fun i x hx=>⟨enc x,ha x (ABF hx),Nn hk hrange hx⟩⟩
end
def encI (x:Int):List Value:=[.int .i64 x]
def encS (s:ByteArray):List Value:=[.string s]
def AAR (p:Int×Int):List Value:=[.int .i64 p.1,.int .i64 p.2]
def Bl (w:World) (A:zo) (l:List Int):Prop:=Aa 1 8 (fun x cs=>cs=encI x) w A l
def LF (w:World) (A:zo) (l:List ByteArray):Prop:=Aa 1 16 (fun x cs=>Db x/\cs=encS x) w A l
def OM (w:World) (A:zo) (l:List (Int×Int)):Prop:=Aa 2 16 (fun x cs=>cs=AAR x) w A l
theorem Bl.below {l:List Int} (h:Bl w A l) (hb:Below w.heap.size w w'):Bl w' A l:=Aa.imp h (fun _ _ _ h=>h) hb
theorem LF.below {l:List ByteArray} (h:LF w A l) (hb:Below w.heap.size w w'):LF w' A l:=Aa.imp h (fun _ _ _ h=>h) hb
theorem OM.below {l:List (Int×Int)} (h:OM w A l) (hb:Below w.heap.size w w'):OM w' A l:=Aa.imp h (fun _ _ _ h=>h) hb
theorem Bl.UD {l:List Int} (h:Bl w A l) (hi:i<l.length):∃b o,A=some ⟨b,o,none⟩/\w.cell? ⟨b,o+i,none⟩=some (.int .i64 l[i]):=by
 obtain ⟨b,o,cs,e,rfl,h2⟩:=Aa.at_ h hi;have:=h2 0 _ rfl;rw[Nat.mul_one] at this;exact ⟨b,o,e,this⟩
theorem LF.UD {l:List ByteArray} (h:LF w A l) (hi:i<l.length):∃b o,A=some ⟨b,o,none⟩/\Db l[i]/\w.cell? ⟨b,o+i,none⟩=some (.string l[i]):=by
 obtain ⟨b,o,cs,e,⟨h0,rfl⟩,h2⟩:=Aa.at_ h hi;have:=h2 0 _ rfl;rw[Nat.mul_one] at this;exact ⟨b,o,e,h0,this⟩
theorem OM.at2 {l:List (Int×Int)} (h:OM w A l) (hi:i<l.length):∃b o,A=some ⟨b,o,none⟩/\w.cell? ⟨b,o+i * 2,none⟩=some (.int .i64 (l[i]).1)/\w.cell? ⟨b,o+i * 2+1,none⟩=some (.int .i64 (l[i]).2):=by
 obtain ⟨b,o,cs,e,rfl,h2⟩:=Aa.at_ h hi;exact ⟨b,o,e,h2 0 _ rfl,h2 1 _ rfl⟩
abbrev Jh:=Ad 3 1 encI
abbrev vC:=Ad 9 1 encS
theorem K9:Elem 68 3 1 8:=⟨Tryz.underlying68,⟨.int .i64 0,by kernel_rfl,rfl⟩,by omega⟩
theorem Jh.ints {base:Nat} {v:Value} {l:List Int} (h:Jh w base v l) (hl:DU 8 l.length):∃A c,v = .slice A l.length c/\Bl w A l:=Ad.rows h (fun _=>rfl) hl fun _ _=>rfl
theorem vC.strs {base:Nat} {v:Value} {l:List ByteArray} (h:vC w base v l) (hl:DU 16 l.length) (hs:∀s∈l,Db s):∃A c,v = .slice A l.length c/\LF w A l:=Ad.rows h (fun _=>rfl) hl fun s hm=>⟨hs s hm,rfl⟩
theorem Aa.cells {α:Type} {at_:α->List Value->Prop} {l:List α} (hk:∀x cs,at_ x cs->cs.length=k) (h:Aa k bytes at_ w A l):
  ∃css:List (List Value),css.length=l.length/\(∀ (i:Nat) x cs,l[i]? = some x->css[i]? = some cs->at_ x cs)/\(∀cs∈css,cs.length=k)/\(l≠[]->∃b o,A=some ⟨b,o,none⟩/\w.rangeAt b o css.flatten):=by
 by_cases hn:l=[]
 ·subst hn
  exact ⟨[],rfl,(fun i x cs h=>by simp at h),(fun _ h=>by cases h),fun h=>absurd rfl h⟩
 obtain ⟨b,o,e,hi⟩:=h.2 hn;have key:∀ (l:List α) (o:Nat),(∀i x,l[i]? = some x->∃cs,at_ x cs/\w.rangeAt b (o+i * k) cs)->∃css:List (List Value),css.length=l.length/\(∀ (i:Nat) x cs,l[i]? = some x->css[i]? = some cs->at_ x cs)/\(∀cs∈css,cs.length=k)/\w.rangeAt b o css.flatten:=by
  intro l
  induction l with
  | nil=>intro o _;exact ⟨[],rfl,(fun i x cs h=>by simp at h),(fun _ h=>by cases h),fun j u hj=>by simp at hj⟩
  | cons x r ih =>
   intro o hi
   obtain ⟨cs,h1,h2⟩:=hi 0 x rfl;obtain ⟨css,g1,g2,g3,g4⟩:=ih (o+k) (fun i y hy=>by
    obtain ⟨cs,h1,h2⟩:=hi (i+1) y (by simpa using hy)
    exact ⟨cs,h1,by rwa [show o+k+i * k=o+(i+1) * k by rw[Nat.succ_mul];omega]⟩)
   refine ⟨cs::css,by simp[g1],fun i y ds hy hd=>?_,fun ds hd=>?_,fun j u hj=>?_⟩
   ·cases i with
    | zero =>
     obtain rfl:x=y:=by simpa using hy
     obtain rfl:cs=ds:=by simpa using hd
     exact h1
    | succ i=>exact g2 i y ds (by simpa using hy) (by simpa using hd)
   ·rcases AAr.1 hd with e|e
    ·rw[e];exact hk x cs h1
    ·exact g3 ds e
   ·rw[List.flatten_cons] at hj
    by_cases hlt:j<cs.length
    ·rw[ABD hlt] at hj
     have:=h2 j u hj
     simpa using this
    ·rw[ABB (by omega)] at hj
     have:=g4 (j - cs.length) u hj;rw[hk x cs h1] at this hlt
     rwa [show o+k+(j - k)=o+j by omega] at this
 obtain ⟨css,g1,g2,g3,g4⟩:=key l o hi;exact ⟨css,g1,g2,g3,fun _=>⟨b,o,e,g4⟩⟩
abbrev Ra (E size:Nat):=Ad (α:=List Value) E size (fun cs=>cs)
theorem Qq {T E:TypeId} (hE:Elem T E size bytes) (w:World) (base:Nat) (ty:TypeId) (v:Value) (n:Nat) (xs:List Value) (h:w.ownsRow base E size v n xs) (a:Addr) (m c:Nat) (news:List Value) (hl:news.length=m * size) (hnews:∀j u,news[j]? = some u->w.cell? (a.add j)=some u) (h1:∀u∈news,u.oneCell'=true) (hlen:n+m<=9223372036854775807) (hby:(n+m) * bytes<=140737488355328) (hb:base<=w.heap.size):
  ∃v' w',(Builtin.append_ #[T,T] ty #[v,.slice (some a) m c]).run Tryz.prog w = .ok v' w'/\w'.ownsRow base E size v' (n+m) (xs++news)/\w.grownBy w' v.ownBlock:=by
 obtain ⟨z,J5,hzs⟩:=hE.info;obtain ⟨i0,hi,hz0,hz1,hz2⟩:=info_parts J5;obtain ⟨v',w',hr,h2,h3,_,_⟩:=run_append_own_at (P:=Tryz.prog) w base T ty E i0 z size bytes hE.under hi hz0 hz1 hz2 hzs hE.pos v n xs h a m c news hl hnews h1 (by unfold maxLen;omega) hby hb
 exact ⟨v',w',hr,h2,h3⟩
theorem E8 {T E:TypeId} (hE:Elem T E size bytes) (w:World) {ops:Array Oper} {rest:List Oper} {op:Oper} {a:Act} {Q:Exit->Act->World->Prop} (hgd:op.guard=none) (s x:Operand) (ho:op.op = .call { callee := .builtin .append,args:=#[s,x],argTypes:=#[T,T] }) (base:Nat) (v:Value) (n:Nat) (xs:List Value) (hs:a.eval s=v) (h:w.ownsRow base E size v n xs) (d:Addr) (m c:Nat) (news:List Value) (hx:a.eval x = .slice (some d) m c) (hl:news.length=m * size) (hnews:∀j u,news[j]? = some u->w.cell? (d.add j)=some u) (h1:∀u∈news,u.oneCell'=true) (hlen:n+m<=9223372036854775807) (hby:(n+m) * bytes<=140737488355328) (hb:base<=w.heap.size) (hk:∀v' w',w'.ownsRow base E size v' (n+m) (xs++news)->w.grownBy w' v.ownBlock->wpList Tryz.prog ops Q rest (a.put op.dst v') w'):wpList Tryz.prog ops Q (op::rest) a w:=by
 refine wpList_plain hgd fun K hK=>?_
 obtain ⟨v',w',hr,h2,h3⟩:=Qq hE w base op.type v n xs h d m c news hl hnews h1 hlen hby hb;unfold Oper.wp execOp;simp only[ho,resolve,invoke,builtin,Sem.run_bind,Sem.run_pure,Result.andThen_ok,List.map_toArray,AA4,List.map_nil,hs,hx,hr];exact hK _ _ (hk v' w' h2 h3)
theorem Cc {k:Nat}:∀ (css:List (List Value)),(∀cs∈css,cs.length=k)->css.flatten.length=css.length * k
 | [],_=>by simp
 | c::r,h=>by
  rw[List.flatten_cons,AAt,Cc r (fun cs hc=>h cs (ABE _ hc)),h c ABH,AAS,Nat.succ_mul];omega
def MR (E k:Nat) (css:List (List Value)) (w:World) (e:Ending) (w':World):Prop:=∃v,e = .returned v/\Ra E k w' w.heap.size v css/\Below w.heap.size w w'
theorem Li (w:World) (base E k:Nat) (hb:base<=w.heap.size):Ra E k (w.alloc (.cells #[] E)) base (.slice (some ⟨w.heap.size,0,none⟩) 0 0) [] :=
 ⟨by simp,.inr ⟨w.heap.size,0,#[],rfl,hb,AAC w _,AAH _,Nat.zero_le _,by simp,by simp⟩⟩
theorem Cg (css:List (List Value)):css.flatMap (fun cs=>cs)=css.flatten:=by simp[List.flatMap]
theorem dI:Elem 84 92 2 24:=⟨Tryz.underlying84,⟨.agg #[.int .i64 0,.string ⟨#[]⟩],by kernel_rfl,rfl⟩,by omega⟩
theorem Tx:Elem 26 97 2 24:=⟨Tryz.underlying26,⟨.agg #[.int .i64 0,.string ⟨#[]⟩],by kernel_rfl,rfl⟩,by omega⟩
theorem Af:Elem 25 28 8 120:=⟨Tryz.underlying25,⟨zeroV.v none 0 none 0 none 0,by kernel_rfl,rfl⟩,by omega⟩
theorem K8:Elem 85 118 13 160:=⟨Tryz.underlying85,⟨(AZ.mk 0 ⟨#[]⟩ 0 false false zeroV).v none 0 none 0 none 0,by kernel_rfl,rfl⟩,by omega⟩
theorem OI (css:List (List Value)) (hk:∀cs∈css,cs.length=8) (h1:∀cs∈css,∀u∈cs,u.oneCell'=true) (hn:DU 120 css.length) (A:zo) (c:Nat) (w:World) (hA:css≠[]->∃b o,A=some ⟨b,o,none⟩/\w.rangeAt b o css.flatten) :
  Calls Tryz.prog 145 #[.slice A css.length c] w (MR 28 8 css w):=by
 have HA:=zh hA
 cases A with
 | none =>
  have hln:css=[]:=by
   by_cases e:css=[]
   ·exact e
   ·obtain ⟨b,o,e2,_⟩:=hA e;cases e2
  subst hln;clear hA hk h1 hn;have hnil:=fun (w:World)=>Lib.run_eql_slice_nil (P:=Tryz.prog) w 25 28 none 0 c 0 0 Tryz.underlying25
  go_enter Tryz.func145,Tryz.ntmps145
  go_wp2
  go_ret
  exact ⟨_,rfl,Ad.nil _ _,Pe _ _⟩
 | some a =>
  have HK:=zh (show css.flatten.length=css.length * 8 from Cc css hk);have HR:Hid (∀j u,css.flatten[j]? = some u->(w.alloc (.cells #[] 28)).cell? (a.add j)=some u):=fun j u hj=>by
   have hne:css≠[]:=fun e=>by subst e;simp at hj
   obtain ⟨b,o,e,hr⟩:=hA hne
   cases e
   rw[Addr.add_mid];exact BU (zD w _) hr j u hj
  have H1:Hid (∀u∈css.flatten,u.oneCell'=true):=fun u hu=>by
   obtain ⟨cs,h2,h3⟩:=List.mem_flatten.1 hu;exact h1 cs h2 u h3
  have HN:Hid (0+css.length<=9223372036854775807):=by have:=hn;unfold DU at this;show 0+css.length<=9223372036854775807;omega
  have qg:Hid ((0+css.length) * 120<=140737488355328):=by have:=hn;unfold DU at this;show (0+css.length) * 120<=140737488355328;omega
  clear hA hk h1 hn;have hnil:=fun (w:World)=>Lib.run_eql_slice_nil (P:=Tryz.prog) w 25 28 (some a) css.length c 0 0 Tryz.underlying25
  have HO:Hid (Ra 28 8 (w.alloc (.cells #[] 28)) w.heap.size (.slice (some ⟨w.heap.size,0,none⟩) 0 0) []):=Li w _ _ _ (AAH _)
  go_enter Tryz.func145,Tryz.ntmps145
  go_wp2_with (at_builtin;refine E8 Af _ rfl (.tmp 5) (.tmp 6) rfl w.heap.size _ 0 [] rfl ?_ a css.length c css.flatten rfl ?_ ?_ ?_ ?_ ?_ ?_ ?_;(exact HO.out);(exact HK.out);(exact HR.out);(exact H1.out);(exact HN.out);(exact qg.out);(simp);intro v2 w2 ho2 hg2)
  go_ret
  refine ⟨_,rfl,?_,((zD w _)).grown hg2 (by simp) HO.out.lt⟩
  show World.ownsRow _ _ _ _ _ _ _
  rw[Cg];rw[Nat.zero_add,List.nil_append] at ho2;exact ho2
theorem RS (css:List (List Value)) (hk:∀cs∈css,cs.length=2) (h1:∀cs∈css,∀u∈cs,u.oneCell'=true) (hn:DU 24 css.length) (A:zo) (c:Nat) (w:World) (hA:css≠[]->∃b o,A=some ⟨b,o,none⟩/\w.rangeAt b o css.flatten) :
  Calls Tryz.prog 144 #[.slice A css.length c] w (MR 97 2 css w):=by
 have HA:=zh hA
 cases A with
 | none =>
  have hln:css=[]:=by
   by_cases e:css=[]
   ·exact e
   ·obtain ⟨b,o,e2,_⟩:=hA e;cases e2
  subst hln;clear hA hk h1 hn;have hnil:=fun (w:World)=>Lib.run_eql_slice_nil (P:=Tryz.prog) w 26 97 none 0 c 0 0 Tryz.underlying26
  go_enter Tryz.func144,Tryz.ntmps144
  go_wp2
  go_ret
  exact ⟨_,rfl,Ad.nil _ _,Pe _ _⟩
 | some a =>
  have HK:=zh (show css.flatten.length=css.length * 2 from Cc css hk);have HR:Hid (∀j u,css.flatten[j]? = some u->(w.alloc (.cells #[] 97)).cell? (a.add j)=some u):=fun j u hj=>by
   have hne:css≠[]:=fun e=>by subst e;simp at hj
   obtain ⟨b,o,e,hr⟩:=hA hne
   cases e
   rw[Addr.add_mid];exact BU (zD w _) hr j u hj
  have H1:Hid (∀u∈css.flatten,u.oneCell'=true):=fun u hu=>by
   obtain ⟨cs,h2,h3⟩:=List.mem_flatten.1 hu;exact h1 cs h2 u h3
  have HN:Hid (0+css.length<=9223372036854775807):=by have:=hn;unfold DU at this;show 0+css.length<=9223372036854775807;omega
  have qg:Hid ((0+css.length) * 24<=140737488355328):=by have:=hn;unfold DU at this;show (0+css.length) * 24<=140737488355328;omega
  clear hA hk h1 hn;have hnil:=fun (w:World)=>Lib.run_eql_slice_nil (P:=Tryz.prog) w 26 97 (some a) css.length c 0 0 Tryz.underlying26
  have HO:Hid (Ra 97 2 (w.alloc (.cells #[] 97)) w.heap.size (.slice (some ⟨w.heap.size,0,none⟩) 0 0) []):=Li w _ _ _ (AAH _)
  go_enter Tryz.func144,Tryz.ntmps144
  go_wp2_with (at_builtin;refine E8 Tx _ rfl (.tmp 5) (.tmp 6) rfl w.heap.size _ 0 [] rfl ?_ a css.length c css.flatten rfl ?_ ?_ ?_ ?_ ?_ ?_ ?_;(exact HO.out);(exact HK.out);(exact HR.out);(exact H1.out);(exact HN.out);(exact qg.out);(simp);intro v2 w2 ho2 hg2)
  go_ret
  refine ⟨_,rfl,?_,((zD w _)).grown hg2 (by simp) HO.out.lt⟩
  show World.ownsRow _ _ _ _ _ _ _
  rw[Cg];rw[Nat.zero_add,List.nil_append] at ho2;exact ho2
theorem RQ (css:List (List Value)) (hk:∀cs∈css,cs.length=1) (h1:∀cs∈css,∀u∈cs,u.oneCell'=true) (hn:DU 8 css.length) (A:zo) (c:Nat) (w:World) (hA:css≠[]->∃b o,A=some ⟨b,o,none⟩/\w.rangeAt b o css.flatten) :
  Calls Tryz.prog 28 #[.slice A css.length c] w (MR 3 1 css w):=by
 have HA:=zh hA
 cases A with
 | none =>
  have hln:css=[]:=by
   by_cases e:css=[]
   ·exact e
   ·obtain ⟨b,o,e2,_⟩:=hA e;cases e2
  subst hln;clear hA hk h1 hn;have hnil:=fun (w:World)=>Lib.run_eql_slice_nil (P:=Tryz.prog) w 68 3 none 0 c 0 0 Tryz.underlying68
  go_enter Tryz.func28,Tryz.ntmps28
  go_wp2
  go_ret
  exact ⟨_,rfl,Ad.nil _ _,Pe _ _⟩
 | some a =>
  have HK:=zh (show css.flatten.length=css.length * 1 from Cc css hk);have HR:Hid (∀j u,css.flatten[j]? = some u->(w.alloc (.cells #[] 3)).cell? (a.add j)=some u):=fun j u hj=>by
   have hne:css≠[]:=fun e=>by subst e;simp at hj
   obtain ⟨b,o,e,hr⟩:=hA hne
   cases e
   rw[Addr.add_mid];exact BU (zD w _) hr j u hj
  have H1:Hid (∀u∈css.flatten,u.oneCell'=true):=fun u hu=>by
   obtain ⟨cs,h2,h3⟩:=List.mem_flatten.1 hu;exact h1 cs h2 u h3
  have HN:Hid (0+css.length<=9223372036854775807):=by have:=hn;unfold DU at this;show 0+css.length<=9223372036854775807;omega
  have qg:Hid ((0+css.length) * 8<=140737488355328):=by have:=hn;unfold DU at this;show (0+css.length) * 8<=140737488355328;omega
  clear hA hk h1 hn;have hnil:=fun (w:World)=>Lib.run_eql_slice_nil (P:=Tryz.prog) w 68 3 (some a) css.length c 0 0 Tryz.underlying68
  have HO:Hid (Ra 3 1 (w.alloc (.cells #[] 3)) w.heap.size (.slice (some ⟨w.heap.size,0,none⟩) 0 0) []):=Li w _ _ _ (AAH _)
  go_enter Tryz.func28,Tryz.ntmps28
  go_wp2_with (at_builtin;refine E8 K9 _ rfl (.tmp 5) (.tmp 6) rfl w.heap.size _ 0 [] rfl ?_ a css.length c css.flatten rfl ?_ ?_ ?_ ?_ ?_ ?_ ?_;(exact HO.out);(exact HK.out);(exact HR.out);(exact H1.out);(exact HN.out);(exact qg.out);(simp);intro v2 w2 ho2 hg2)
  go_ret
  refine ⟨_,rfl,?_,((zD w _)).grown hg2 (by simp) HO.out.lt⟩
  show World.ownsRow _ _ _ _ _ _ _
  rw[Cg];rw[Nat.zero_add,List.nil_append] at ho2;exact ho2
def Low (w w':World):Prop:=∀q,q<w.heap.size->w'.heap[q]? = w.heap[q]?
theorem Pk (hb:Low w w') {q:Nat} {cs:List Value} (h:w.rangeAt q o cs):w'.rangeAt q o cs:=fun j u hj=>by
 have:=h j u hj;rw[World.cell?_of_block (w:=w) (w':=w') (a:=⟨q,o+j,none⟩) (hb q (zL this))];exact this
theorem Aa.low {α:Type} {at_ at':α->List Value->Prop} {l:List α} (h:Aa k bytes at_ w A l) (ha:∀x∈l,∀cs,at_ x cs->at' x cs) (hb:Low w w'):Aa k bytes at' w' A l:=by
 refine ⟨h.1,fun hn=>?_⟩
 obtain ⟨q,o,e,hi⟩:=h.2 hn;refine ⟨q,o,e,fun i x hx=>?_⟩
 obtain ⟨cs,h1,h2⟩:=hi i x hx;exact ⟨cs,ha x (ABF hx) cs h1,Pk hb h2⟩
theorem EH.low (h:EH w A l) (hb:Low w w'):EH w' A l:=Aa.low h (fun _ _ _ h=>h) hb
theorem JF.low {l:List Bu} (h:JF w A l) (hb:Low w w'):JF w' A l:=Aa.low h (fun _ _ _ h=>h) hb
mutual
theorem Val.J7 {w w':World} (hb:Low w w'):∀ (x:Val) (cs:List Value),x.At w cs->x.At w' cs
 | .mk k b' i s d ks is r,cs,h=>by
  rw[Val.At] at h ⊢;obtain ⟨h0,A1,c1,A2,c2,A3,c3,e,⟨l1,h1⟩,⟨l2,h2⟩,h3⟩:=h;refine ⟨h0,A1,c1,A2,c2,A3,c3,e,⟨l1,fun hn=>?_⟩,⟨l2,fun hn=>?_⟩,h3.low hb⟩
  ·obtain ⟨q,o,e,hi⟩:=h1 hn
   exact ⟨q,o,e,Val.VO hb ks q o hi⟩
  ·obtain ⟨q,o,e,hi⟩:=h2 hn
   exact ⟨q,o,e,Val.VO hb is q o hi⟩
theorem Val.VO {w w':World} (hb:Low w w'):∀ (l:List Val) (q o:Nat),Val.In w l q o->Val.In w' l q o
 | [],_,_,_=>by rw[Val.In];trivial
 | v::l,q,o,h=>by
  rw[Val.In] at h ⊢;obtain ⟨⟨cs,h1,h2⟩,h3⟩:=h;exact ⟨⟨cs,Val.J7 hb v cs h1,Pk hb h2⟩,Val.VO hb l q (o+8) h3⟩
end
theorem Co.low {l:List Val} (h:Co w A l) (hb:Low w w'):Co w' A l:=Aa.low h (fun x _ cs h=>Val.J7 hb x cs h) hb
theorem Az.low (h:Az w x A1 A2 A3) (hb:Low w w'):Az w' x A1 A2 A3:=⟨h.str,h.keys.low hb,h.items.low hb,h.rest.low hb⟩
theorem UJ.low {x:AZ} (h:UJ w x A1 A2 A3) (hb:Low w w'):UJ w' x A1 A2 A3:=⟨h.name,h.dflt.low hb⟩
theorem AZ.J7 (hb:Low w w') {m:AZ} {cs:List Value}:m.At w cs->m.At w' cs:=fun ⟨A1,c1,A2,c2,A3,c3,e,h⟩=>⟨A1,c1,A2,c2,A3,c3,e,h.low hb⟩
theorem FL.low {l:List AZ} (h:FL w A l) (hb:Low w w'):FL w' A l:=Aa.low h (fun _ _ _=>AZ.J7 hb) hb
theorem KM.low {x:Ae} (h:KM w x A1 A2) (hb:Low w w'):KM w' x A1 A2:=⟨h.name,h.Aj.low hb,h.AA.low hb⟩
theorem Ae.J7 (hb:Low w w') {m:Ae} {cs:List Value}:m.At w cs->m.At w' cs:=fun ⟨A1,c1,A2,c2,e,h⟩=>⟨A1,c1,A2,c2,e,h.low hb⟩
theorem CQ.low {l:List Ae} (h:CQ w A l) (hb:Low w w'):CQ w' A l:=Aa.low h (fun _ _ _=>Ae.J7 hb) hb
def Off (S:Nat->Prop) (w:World) (P:World->Prop):Prop:=∀w',(∀q,¬ S q->q<w.heap.size->w'.heap[q]? = w.heap[q]?)->P w'
variable {S:Nat->Prop} {P:World->Prop}
theorem Off.out (h:Off S w P):P w:=h w fun _ _ _=>rfl
theorem Off.mono {S':Nat->Prop} (h:Off S w P) (hs:∀q,q<w.heap.size->S' q->S q):Off S' w P:=fun w' hw=>h w' fun q hq hl=>hw q (fun h'=>hq (hs q hl h')) hl
theorem Off.imp {Q:World->Prop} (h:Off S w P) (hi:∀w',P w'->Q w'):Off S w Q:=fun w' hw=>hi w' (h w' hw)
theorem Off.step (h:Off S w P) (hs:w.heap.size<=w1.heap.size) (hk:∀q,¬ S q->q<w.heap.size->w1.heap[q]? = w.heap[q]?):Off S w1 P :=
 fun w' hw=>h w' fun q hq hl=>(hw q hq (by omega)).trans (hk q hq hl)
theorem Off.low (h:Off S w P) (hb:Below w.heap.size w w1):Off S w1 P:=h.step hb.size fun q _ hl=>hb.block q hl
theorem Off.alloc (h:Off S w P) (o:Obj):Off S (w.alloc o) P:=h.low (zD w o)
theorem Off.old (hp:∀u,Low w u->P u) (hb:Below w.heap.size w w1):Off (fun q=>w.heap.size<=q) w1 P :=
 fun w' hw=>hp w' fun q hq=>(hw q (by omega) (by have:=hb.size;omega)).trans (hb.block q hq)
theorem Off.set (h:Off S w P) {a:Addr} (v:Value) (hS:S a.block):Off S (w.setCell a v) P :=
 h.step (by simp) fun q hq _=>AAF w a q v (fun e=>hq (e▸hS))
theorem Off.grown (h:Off S w P) {row:Option Nat} (hg:w.grownBy w1 row) (hS:∀k,row=some k->S k):Off S w1 P :=
 h.step hg.size fun _ hq hl=>yA hg hl fun k hk e=>hq (e▸hS k hk)
section
variable {P:Program} {ops:Array Oper} {Q:Exit->Act->World->Prop} {md:Region.Mode} {S:World->Prop} {s:Nat}
def FH (P:Program) (md:Region.Mode) (ops:Array Oper) (Q:Exit->Act->World->Prop) (S:World->Prop) (s:Nat):Nat->Array Bool->Act->World->Prop
 | 0,listed,a,w=>Region.ready md ops listed=[]/\Q .normal a w
 | fuel+1,listed,a,w=>(Region.ready md ops listed=[]->Q .normal a w) /\
  ∀i∈Region.ready md ops listed,wpOp P ops Q i (fun a' w'=>((listed.setIfInBounds i true).getD s true=false->S w')/\FH P md ops Q S s fuel (listed.setIfInBounds i true) a' w') a w
theorem UE:∀ (fuel:Nat) (listed:Array Bool) (a:Act) (w:World),FH P md ops Q S s fuel listed a w->wpAny P md ops Q fuel listed a w
 | 0,_,_,_,h=>h
 | fuel+1,_,_,_,h=>⟨h.1,fun i hi=>wpOp_mono (fun a' w' h'=>UE fuel _ a' w' h'.2) (h.2 i hi)⟩
variable {listed:Array Bool} {i:Nat}
theorem getD_set_true {s:Nat} (h:listed.getD s true=true):(listed.setIfInBounds i true).getD s true=true:=by
 by_cases e:i=s
 ·subst e
  simp only[Array.getD_eq_getD_getElem?,Array.getElem?_setIfInBounds_self]
  split <;> simp
 ·rw[getD_set_ne true e];exact h
theorem QN:∀ (fuel:Nat) (listed:Array Bool) (a:Act) (w:World),listed.getD s true=true->wpAny P md ops Q fuel listed a w->FH P md ops Q S s fuel listed a w
 | 0,_,_,_,_,h=>h
 | fuel+1,listed,_,_,hs,h=>⟨h.1,fun i hi=>wpOp_mono (fun a' w' h'=>⟨fun e=>(by rw[getD_set_true hs] at e;cases e),QN fuel _ a' w' (getD_set_true hs) h'⟩) (h.2 i hi)⟩
variable {oi:Oper}
theorem Vj {os:Oper} {v:Value} (hi:ops[i]? = some oi) (hos:ops[s]? = some os) (hws:∃e∈os.after,Region.binds md e=true/\e.on=i) (hsel:∀ (j:Nat) (o:Oper) cs b,ops[j]? = some o->o.op ≠ .select cs b) (hQ:∀c a w,Q (.panic c) (a.put oi.dst v) w->Q (.panic c) a w):
  ∀ (fuel:Nat) (listed:Array Bool) (a:Act) (w:World),
   (∀j oj,ops[j]? = some oj->j≠i->listed.getD j true=false->(∀e∈oj.after,Region.binds md e=true->e.on≠i)->oi.apart ops oj=true) ->
   i∈Region.ready md ops listed->listed.getD s true=false->i≠s->YieldsIf P ops S oi v a->S w ->
   FH P md ops Q S s fuel (listed.setIfInBounds i true) (a.put oi.dst v) w->FH P md ops Q S s (fuel+1) listed a w:=by
 intro fuel
 induction fuel with
 | zero =>
  intro listed a w _ hr _ _ hy hS H
  refine ⟨fun h=>(by rw[h] at hr;cases hr),fun j hj=>?_⟩
  by_cases hji:j=i
  ·subst hji;exact hy.wpOp hi hS ⟨fun _=>hS,H⟩
  ·have:=ready_mono hj hji
   rw[H.1] at this
   cases this
 | succ fuel ih =>
  intro listed a w hfree hr hls his hy hS H
  refine ⟨fun h=>(by rw[h] at hr;cases hr),fun j hj=>?_⟩
  by_cases hji:j=i
  ·subst hji;exact hy.wpOp hi hS ⟨fun _=>hS,H⟩
  ·have h1:=H.2 j (ready_mono hj hji)
   obtain ⟨hjun,oj,hoj,hall⟩:=mem_ready.1 hj;have hnot:∀e∈oj.after,Region.binds md e=true->e.on≠i:=fun e he hb heq=>by
    have h1:=hall e he hb;have h0:=(mem_ready.1 hr).1;rw[heq] at h1
    rcases Nat.lt_or_ge i listed.size with h'|h'
    ·simp[h'] at h0 h1;rw[h0] at h1;cases h1
    ·simp[Array.getElem?_eq_none h'] at h1
   have hjs:j≠s:=fun e=>by
    subst e;rw[hos] at hoj
    cases hoj
    obtain ⟨e,h1,h2,h3⟩:=hws;exact hnot e h1 h2 h3
   have h2:=wpOp_putIf hoj (hfree j oj hoj hji hjun hnot) (fun cs b=>hsel i oi cs b hi) (fun cs b=>hsel j oj cs b hoj) hQ hy h1
   have hfree':∀k ok,ops[k]? = some ok->k≠i->(listed.setIfInBounds j true).getD k true=false ->
     (∀e∈ok.after,Region.binds md e=true->e.on≠i)->oi.apart ops ok=true:=fun k ok hk hki hun hno=>by
    refine hfree k ok hk hki ?_ hno
    by_cases hjk:j=k
    ·subst hjk;exact hjun
    ·rw[getD_set_ne true hjk] at hun;exact hun
   have zk:(listed.setIfInBounds j true).getD s true=false:=by rw[getD_set_ne true hjs];exact hls
   refine wpOp_mono (fun a' w' h3=>?_) h2
   have hS':S w':=h3.2.1 (by rw[getD_set_ne true hjs,getD_set_ne true his];exact hls)
   refine ⟨fun _=>hS',ih (listed.setIfInBounds j true) a' w' hfree' (ready_mono hr (Ne.symm hji)) zk his h3.1 hS' ?_⟩
   rw[Array.setIfInBounds_comm _ _ hji];exact h3.2.2
theorem UF {v:Value} (hi:ops[i]? = some oi) (hsel:∀ (j:Nat) (o:Oper) cs b,ops[j]? = some o->o.op ≠ .select cs b) (hQ:∀c a w,Q (.panic c) (a.put oi.dst v) w->Q (.panic c) a w):
  ∀ (fuel:Nat) (listed:Array Bool) (a:Act) (w:World),
   (∀j oj,ops[j]? = some oj->j≠i->listed.getD j true=false->(∀e∈oj.after,Region.binds md e=true->e.on≠i)->oi.apart ops oj=true) ->
   i∈Region.ready md ops listed->i≠s->YieldsIf P ops (fun _=>True) oi v a->(listed.getD s true=false->S w) ->
   FH P md ops Q S s fuel (listed.setIfInBounds i true) (a.put oi.dst v) w->FH P md ops Q S s (fuel+1) listed a w:=by
 intro fuel
 induction fuel with
 | zero =>
  intro listed a w _ hr his hy hS H
  refine ⟨fun h=>(by rw[h] at hr;cases hr),fun j hj=>?_⟩
  by_cases hji:j=i
  ·subst hji;exact hy.wpOp hi trivial ⟨fun h=>hS (by rw[getD_set_ne true his] at h;exact h),H⟩
  ·have:=ready_mono hj hji
   rw[H.1] at this
   cases this
 | succ fuel ih =>
  intro listed a w hfree hr his hy hS H
  refine ⟨fun h=>(by rw[h] at hr;cases hr),fun j hj=>?_⟩
  by_cases hji:j=i
  ·subst hji;exact hy.wpOp hi trivial ⟨fun h=>hS (by rw[getD_set_ne true his] at h;exact h),H⟩
  ·have h1:=H.2 j (ready_mono hj hji)
   obtain ⟨hjun,oj,hoj,hall⟩:=mem_ready.1 hj;have hnot:∀e∈oj.after,Region.binds md e=true->e.on≠i:=fun e he hb heq=>by
    have h1:=hall e he hb;have h0:=(mem_ready.1 hr).1;rw[heq] at h1
    rcases Nat.lt_or_ge i listed.size with h'|h'
    ·simp[h'] at h0 h1;rw[h0] at h1;cases h1
    ·simp[Array.getElem?_eq_none h'] at h1
   have h2:=wpOp_putIf hoj (hfree j oj hoj hji hjun hnot) (fun cs b=>hsel i oi cs b hi) (fun cs b=>hsel j oj cs b hoj) hQ hy h1
   have hfree':∀k ok,ops[k]? = some ok->k≠i->(listed.setIfInBounds j true).getD k true=false ->
     (∀e∈ok.after,Region.binds md e=true->e.on≠i)->oi.apart ops ok=true:=fun k ok hk hki hun hno=>by
    refine hfree k ok hk hki ?_ hno
    by_cases hjk:j=k
    ·subst hjk;exact hjun
    ·rw[getD_set_ne true hjk] at hun;exact hun
   refine wpOp_mono (fun a' w' h3=>?_) h2
   have hS':(listed.setIfInBounds j true).getD s true=false->S w':=fun hl=>h3.2.1 (by
    rw[<-Array.setIfInBounds_comm _ _ hji,getD_set_ne true his];exact hl)
   refine ⟨hS',ih (listed.setIfInBounds j true) a' w' hfree' (ready_mono hr (Ne.symm hji)) his h3.1 hS' ?_⟩;rw[Array.setIfInBounds_comm _ _ hji];exact h3.2.2
variable {a:Act} {fuel:Nat} {w:World}
theorem Vi {v:Value} (hi:ops[i]? = some oi) (hs:Region.noSelect ops=true) (hf:Region.free md ops listed i=true) (hr:(Region.ready md ops listed).contains i=true) (hw:(i != s)=true) (hQ:∀c a w,Q (.panic c) (a.put oi.dst v) w->Q (.panic c) a w) (hy:YieldsIf P ops (fun _=>True) oi v a) (hS:S w) (h:FH P md ops Q S s fuel (listed.setIfInBounds i true) (a.put oi.dst v) w):FH P md ops Q S s (fuel+1) listed a w :=
 UF hi (Region.noSelect_spec hs) hQ fuel listed a w (Region.free_spec hi hf) (by simpa using hr) (by simpa using hw) hy (fun _=>hS) h
def waits (md:Region.Mode) (ops:Array Oper) (s i:Nat):Bool:=match ops[s]? with
 | some o=>o.after.any fun e=>Region.binds md e&&e.on==i
 | none=>false
theorem Y7 {v:Value} (hi:ops[i]? = some oi) (hs:Region.noSelect ops=true) (hf:Region.free md ops listed i=true) (hr:(Region.ready md ops listed).contains i=true) (hw:(waits md ops s i && !listed.getD s true&&i != s)=true) (hQ:∀c a w,Q (.panic c) (a.put oi.dst v) w->Q (.panic c) a w) (hy:YieldsIf P ops S oi v a) (hS:S w) (h:FH P md ops Q S s fuel (listed.setIfInBounds i true) (a.put oi.dst v) w):FH P md ops Q S s (fuel+1) listed a w:=by
 simp only[AAJ,Bool.not_eq_true',bne_iff_ne,ne_eq] at hw;obtain ⟨⟨h1,h2⟩,h3⟩:=hw;unfold waits at h1
 split at h1
 ·rename_i os hos
  obtain ⟨e,he,hb⟩:=Array.any_eq_true'.1 h1;simp only[AAJ,ABP] at hb;exact Vj hi hos ⟨e,he,hb⟩ (Region.noSelect_spec hs) hQ fuel listed a w (Region.free_spec hi hf) (by simpa using hr) h2 h3 hy hS h
 ·cases h1
theorem yQ (i:Nat) (v:Value) (hi:ops[i]? = some oi) (hc:(Region.noSelect ops&&Region.free md ops listed i&&(Region.ready md ops listed).contains i&&i != s)=true) (hy:YieldsIf P ops (fun _=>True) oi v a) (hS:S w) (h:FH P md ops Q S s fuel (listed.setIfInBounds i true) (a.put oi.dst v) w) (hQ:∀c a w,Q (.panic c) (a.put oi.dst v) w->Q (.panic c) a w:=by exact fun _ _ _ h=>h):FH P md ops Q S s (fuel+1) listed a w:=by
 rw[AAJ,AAJ,AAJ] at hc;exact Vi hi hc.1.1.1 hc.1.1.2 hc.1.2 hc.2 hQ hy hS h
theorem tkB (i:Nat) (v:Value) (hi:ops[i]? = some oi) (hc:(Region.noSelect ops&&Region.free md ops listed i&&(Region.ready md ops listed).contains i&&(waits md ops s i && !listed.getD s true&&i != s))=true) (hy:YieldsIf P ops S oi v a) (hS:S w) (h:FH P md ops Q S s fuel (listed.setIfInBounds i true) (a.put oi.dst v) w) (hQ:∀c a w,Q (.panic c) (a.put oi.dst v) w->Q (.panic c) a w:=by exact fun _ _ _ h=>h):FH P md ops Q S s (fuel+1) listed a w:=by
 rw[AAJ,AAJ,AAJ] at hc;exact Y7 hi hc.1.1.1 hc.1.1.2 hc.1.2 hc.2 hQ hy hS h
def AJ (P:Program) (md:Region.Mode) (ops:Array Oper) (Q:Exit->Act->World->Prop) (S:World->Prop) (s fuel:Nat) (listed:Array Bool) (a:Act) (w:World) (rs:List Nat):Prop :=
 ∀i∈rs,wpOp P ops Q i (fun a' w'=>((listed.setIfInBounds i true).getD s true=false->S w')/\FH P md ops Q S s fuel (listed.setIfInBounds i true) a' w') a w
theorem AJ.nil:AJ P md ops Q S s fuel listed a w []:=fun _ h=>by cases h
theorem AJ.cons {fuel:Nat} {listed:Array Bool} {a:Act} {w:World} {i:Nat} {o:Oper} {rs:List Nat} (ho:ops[i]? = some o)
  (h:∀K':Act->World->Prop,Shut (∀a w,S w->(S w->FH P md ops Q S s fuel (listed.setIfInBounds i true) a w)->K' a w)->if Region.wanted o (yielded ops a.tmps)=true then Oper.wp P o a w K' Q else K' (a.put o.dst undef) w)
  (hs:AJ P md ops Q S s fuel listed a w rs):AJ P md ops Q S s fuel listed a w (i::rs):=fun j hj=>by
 rcases AAr.1 hj with rfl|hj
 ·exact wpOp_step ho (fun K' hK=>h K' (fun a w hS hW=>hK a w ⟨fun _=>hS,hW hS⟩))
 ·exact hs j hj
theorem AJ.last {o:Oper} {rs:List Nat} (ho:ops[s]? = some o) (hl:(listed.setIfInBounds s true).getD s true=true) (h:∀K':Act->World->Prop,Shut (∀a w,wpAny P md ops Q fuel (listed.setIfInBounds s true) a w->K' a w)->if Region.wanted o (yielded ops a.tmps)=true then Oper.wp P o a w K' Q else K' (a.put o.dst undef) w) (hs:AJ P md ops Q S s fuel listed a w rs):AJ P md ops Q S s fuel listed a w (s::rs):=fun j hj=>by
 rcases AAr.1 hj with rfl|hj
 ·exact wpOp_step ho (fun K' hK=>h K' (fun a w hW=>hK a w ⟨fun e=>(by rw[hl] at e;cases e),QN _ _ _ _ hl hW⟩))
 ·exact hs j hj
theorem zV {rs:List Nat} (hr:Region.ready md ops listed=rs) (hne:rs≠[]) (h:AJ P md ops Q S s fuel listed a w rs):FH P md ops Q S s (fuel+1) listed a w:=⟨fun h0=>absurd (hr▸h0) hne,hr▸h⟩
theorem yE {id:Nat} (s:Nat) (hm:P.follows .mixedOrders=true) (hS:S w.drew) (h:S w.drew->FH P .any ops Q S s ops.size (Array.replicate ops.size false) a w.drew):(Code.region id ops true).wp P Q a w :=
 wp_region_any hm (UE _ _ _ _ (h hS))
end
section
variable {P:Program} {ops:Array Oper} {Q:Exit->Act->World->Prop} {md:Region.Mode} {S:World->Prop} {s:Nat} {oi:Oper} {fuel:Nat} {listed:Array Bool} {a:Act} {w:World}
theorem tL (i:Nat) {v:Value} (h:wpAnyH P md ops Q S fuel (listed.setIfInBounds i true) (a.put oi.dst v) w) (hS:S w:=by assumption) (hi:ops[i]? = some oi:=by rfl) (hc:(Region.noSelect ops&&Region.free md ops listed i&&(Region.ready md ops listed).contains i)=true:=by kernel_rfl)
  (hw:Region.wanted oi (yielded ops a.tmps)=true:=by rfl) (hy:∀w,S w->(execOp a.eval oi).run P w = .ok (.value v) w:=by intro w hSw;(try dsimp only at hSw);go_simp;try with_reducible rfl)
  (hQ:∀c a w,Q (.panic c) (a.put oi.dst v) w->Q (.panic c) a w:=by exact fun _ _ _ h=>h):wpAnyH P md ops Q S (fuel+1) listed a w:=tkH i v hi hc (.inl ⟨hw,hy⟩) hS h hQ
theorem tU (i:Nat) (h:wpAnyH P md ops Q S fuel (listed.setIfInBounds i true) (a.put oi.dst undef) w) (hS:S w:=by assumption) (hi:ops[i]? = some oi:=by rfl) (hc:(Region.noSelect ops&&Region.free md ops listed i&&(Region.ready md ops listed).contains i)=true:=by kernel_rfl)
  (hw:Region.wanted oi (yielded ops a.tmps)=false:=by rfl) (hQ:∀c a w,Q (.panic c) (a.put oi.dst undef) w->Q (.panic c) a w:=by exact fun _ _ _ h=>h):wpAnyH P md ops Q S (fuel+1) listed a w:=tkH i undef hi hc (.inr ⟨hw,rfl⟩) hS h hQ
theorem tB (i:Nat) {v:Value} (h:FH P md ops Q S s fuel (listed.setIfInBounds i true) (a.put oi.dst v) w) (hS:S w:=by assumption) (hi:ops[i]? = some oi:=by rfl) (hc:(Region.noSelect ops&&Region.free md ops listed i&&(Region.ready md ops listed).contains i&&(waits md ops s i && !listed.getD s true&&i != s))=true:=by kernel_rfl)
  (hw:Region.wanted oi (yielded ops a.tmps)=true:=by rfl) (hy:∀w,S w->(execOp a.eval oi).run P w = .ok (.value v) w:=by intro w hSw;(try dsimp only at hSw);go_simp;try with_reducible rfl)
  (hQ:∀c a w,Q (.panic c) (a.put oi.dst v) w->Q (.panic c) a w:=by exact fun _ _ _ h=>h):FH P md ops Q S s (fuel+1) listed a w:=tkB i v hi hc (.inl ⟨hw,hy⟩) hS h hQ
theorem tC (i:Nat) {v:Value} (h:FH P md ops Q S s fuel (listed.setIfInBounds i true) (a.put oi.dst v) w) (hS:S w:=by assumption) (hi:ops[i]? = some oi:=by rfl) (hc:(Region.noSelect ops&&Region.free md ops listed i&&(Region.ready md ops listed).contains i&&i != s)=true:=by kernel_rfl)
  (hw:Region.wanted oi (yielded ops a.tmps)=true:=by rfl) (hy:∀w,True->(execOp a.eval oi).run P w = .ok (.value v) w:=by intro w hSw;(try dsimp only at hSw);go_simp;try with_reducible rfl)
  (hQ:∀c a w,Q (.panic c) (a.put oi.dst v) w->Q (.panic c) a w:=by exact fun _ _ _ h=>h):FH P md ops Q S s (fuel+1) listed a w:=yQ i v hi hc (.inl ⟨hw,hy⟩) hS h hQ
theorem tR {o:Oper} (i:Nat) (h:∀K':Act->World->Prop,Shut (∀a w,S w->(S w->wpAnyH P md ops Q S fuel (listed.setIfInBounds i true) a w)->K' a w)->if Region.wanted o (yielded ops a.tmps)=true then Oper.wp P o a w K' Q else K' (a.put o.dst undef) w)
  (hr:Region.ready md ops listed=[i]:=by kernel_rfl) (ho:ops[i]? = some o:=by rfl):wpAnyH P md ops Q S (fuel+1) listed a w:=wpAnyH_ready hr (by simp) (AllReadyH.cons ho h AllReadyH.nil)
theorem tS {o:Oper} (i:Nat) (h:∀K':Act->World->Prop,Shut (∀a w,S w->(S w->FH P md ops Q S s fuel (listed.setIfInBounds i true) a w)->K' a w)->if Region.wanted o (yielded ops a.tmps)=true then Oper.wp P o a w K' Q else K' (a.put o.dst undef) w)
  (hr:Region.ready md ops listed=[i]:=by kernel_rfl) (ho:ops[i]? = some o:=by rfl):FH P md ops Q S s (fuel+1) listed a w:=zV hr (by simp) (AJ.cons ho h AJ.nil)
theorem zr {X Y B:World->Prop} {id:Nat} (_:∀w',B w'->X w') (hm:P.follows .mixedOrders=true) (hS:X w.drew/\Y w.drew)
  (h:X w.drew/\Y w.drew->wpAnyH P .any ops Q (fun w'=>X w'/\Y w') ops.size (Array.replicate ops.size false) a w.drew):(Code.region id ops true).wp P Q a w:=wp_region_held_drew (S:=fun w'=>X w'/\Y w') hm hS h
theorem zs {X B:World->Prop} {id:Nat} (_:∀w',B w'->X w') (hm:P.follows .mixedOrders=true) (hS:X w.drew)
  (h:X w.drew->wpAnyH P .any ops Q X ops.size (Array.replicate ops.size false) a w.drew):(Code.region id ops true).wp P Q a w:=wp_region_held_drew hm hS h
end
theorem zy (w:World) (x y:Obj):Hid (Below w.heap.size w ((w.alloc x).alloc y))/\Hid (((w.alloc x).alloc y).heap[w.heap.size]? = some x)/\Hid (((w.alloc x).alloc y).heap[w.heap.size+1]? = some y) :=
 ⟨zB ((Pe _ _).alloc (AAH _) _) ((Pe _ _).alloc (AAH _) _),zw w x y,zx w x y⟩
def Bq (s:List Ae):Prop:=∀t∈s,In64 t.low/\In64 t.high
theorem ku {n:Int} (h:In64 n):(D5 n).size<=21:=Lib.itoa_length_le n h.1 h.2
theorem zH (a b:ByteArray):(a++b).size=a.size+b.size:=by simp
section
variable {s:List Ae} {t:Int}
theorem jm (hv:zQ s=0) (hr:0<=t/\t<(s.length:Int)):0<=(AB s t).max/\(AB s t).max<=200:=by
 have h:=(DV hv (FX hr)).1;unfold Fx at h;simp only[AAJ,AAd] at h;obtain ⟨⟨⟨⟨h1,h2⟩,h3⟩,h4⟩,h5⟩:=h
 by_cases k3:(AB s t).kind=3
 ·unfold Js at h5
  rw[Pd (by omega),AAG k3] at h5
  simpa using h5
 by_cases k7:(AB s t).kind=7\/(AB s t).kind=8
 ·unfold Js at h5
  rw[Pd (by omega),Pd (by omega),Pd (by omega),Pd (by omega),Pd (by omega),AAG k7] at h5
  simp only[AAJ,AAd] at h5
  omega
 ·have:(AB s t).max=0:=by
   have hm:=congrArg Ae.max h3;rw[hm];unfold FB
   repeat' split
   all_goals first|rfl|(exfalso;omega)
  omega
theorem om (hv:zQ s=0) (hr:0<=t/\t<(s.length:Int)):In64 (AB s t).max:=by
 have:=jm hv hr;unfold In64;omega
end
def BJ (v:Val):Val :=
 .mk v.kind (if v.kind=1 then v.bool else false) (if v.kind=2 then v.int else 0) (if v.kind=3 then v.str else ⟨#[]⟩) (if v.kind=4\/v.kind=6 then v.id else 0)
  (if v.kind=8 then v.keys else []) (if 5<=v.kind/\v.kind<=9 then v.items else []) (if v.kind=5\/v.kind=6 then v.rest else [])
def zJ (v:Val):Bool :=
 decide (v.bool=(BJ v).bool)&&decide (v.int=(BJ v).int)&&decide (v.str=(BJ v).str)&&decide (v.id=(BJ v).id)&&decide (v.keys.length=(BJ v).keys.length)&&decide (v.items.length=(BJ v).items.length)&&decide (v.rest.length=(BJ v).rest.length)
def Aw (n:Int):Bool:=decide (1<=n)&&decide (n<=1000)
def DZ (a b:Int):Int:=if a<b then -1 else if a=b then 0 else 1
def O6 (n:Int):Int:=if 0<=n then 2 * n else -2 * n - 1
def gB (a b:ByteArray):Bool:=Go.Op.bytesLess a.toList b.toList
def M4 (a b:ByteArray):Int:=if gB a b then -1 else if a=b then 0 else 1
def BS (a b:Val):Int :=
 if a.kind≠b.kind then 0
 else if a.kind=1 then (if a.bool=b.bool then 0 else if b.bool then -1 else 1)
 else if a.kind=2 then DZ (O6 a.int) (O6 b.int)
 else if a.kind=3 then (if DZ a.str.size b.str.size≠0 then DZ a.str.size b.str.size else M4 a.str b.str)
 else if a.kind=4 then DZ a.id b.id
 else 0
def F8:List Val->Bool
 | a::b::r=>decide (BS a b<0)&&F8 (b::r)
 | _=>true
def Ca (x:Ae):List Ak->Bool
 | []=>true
 | a::r=>(x.AA.all fun m=>decide (m.id≠a.id))&&Aw a.id&&(match r with|b::_=>decide (a.id<b.id) | []=>true)&&Ca x r
def AY (f:Int->Val->Bool) (plain:Bool) (x:Ae) (v:Val):Bool :=
 if x.kind=2 then decide (x.low<=v.int)&&decide (v.int<=x.high)
 else if x.kind=3 then decide ((v.str.size:Int)<=x.max)
 else if x.kind=4 then (x.Aj.any fun y=>decide (y.id=v.id))||(x.open_ && !plain&&Aw v.id)
 else if x.kind=5 then decide (v.items.length=x.AA.length) && !(plain&&decide (0<v.rest.length))&&Ca x v.rest&&((x.AA.zip v.items).all fun p=>f p.1.type p.2)
 else if x.kind=6 then (match x.AA.find? fun m=>decide (m.id=v.id) with
  | some m=>decide (v.items.length=1)&&decide (v.rest.length=0)&&(v.items.all fun y=>f m.type y)
  | none=>x.open_ && !plain&&Aw v.id&&decide (v.items.length=0)&&decide (v.rest.length=1)&&(v.rest.all fun r=>decide (r.id=v.id)))
 else if x.kind=7 then decide ((v.items.length:Int)<=x.max)&&(v.items.all fun y=>f x.elem y)
 else if x.kind=8 then decide ((v.keys.length:Int)<=x.max)&&decide (v.items.length=v.keys.length)&&(v.keys.all fun y=>f x.key y)&&F8 v.keys&&(v.items.all fun y=>f x.elem y)
 else if x.kind=9 then decide (v.items.length<=1)&&(v.items.all fun y=>f x.elem y)
 else true
def AU (s:List Ae) (plain:Bool):Nat->Int->Val->Bool
 | 0,_,_=>false
 | n+1,t,v=>if t<0\/(s.length:Int)<=t then false else if v.kind≠(AB s t).kind\/zJ v=false then false else AY (AU s plain n) plain (AB s t) v
noncomputable def BH (s:List Ae) (plain:Bool) (t:Int) (v:Val):Bool:=AU s plain (SizeOf.sizeOf v) t v
end Go.Proofs.YthkkllmmbefedaaGreatDoor



