/-
  Which values fit a type: plain Lean.
-/
import Derived.Test.YthkkllmmbefedaaGreatDoorQGA1
import Derived.WalkKit
import Derived.ProofKit
import Derived.Deep.RegionHeld3
import Derived.Deep.DrawnRows
import Derived.BigQuiet
import Derived.Maps.AppendAt
import Derived.Lib.SliceRun
namespace Go.Proofs.YthkkllmmbefedaaGreatDoor
open Go.RowKit Tryz
set_option maxHeartbeats 16000000
set_option maxRecDepth 100000
theorem ps:(∀ (a:Act) (d:Tmp) (v:Value),a.put (some d) v={ a with tmps:=a.tmps.setIfInBounds d v })/\(∀ (a:Act) (v:Value),a.put none v=a)/\(∀ (l:List Value) (i:Nat) (v:Value),l.toArray.setIfInBounds i v=(l.set i v).toArray)/\(∀ (x:Value) (l:List Value) (v:Value),(x::l).set 0 v=v::l)/\(∀ (x:Value) (l:List Value) (n:Nat) (v:Value),(x::l).set (n+1) v=x::l.set n v)/\(∀ (l:List Value) (i:Nat) (h:i<l.toArray.size),l.toArray[i]=l[i]'(by simpa using h))/\(∀ (l:List Oper) (i:Nat) (h:i<l.toArray.size),l.toArray[i]=l[i]'(by simpa using h))/\(∀ (x:Oper) (l:List Oper) (h:0<(x::l).length),(x::l)[0]=x)/\(∀ (x:Oper) (l:List Oper) (i:Nat) (h:i+1<(x::l).length),(x::l)[i+1]=l[i]'(by simpa using h)):=by
 refine ⟨fun _ _ _=>rfl,fun _ _=>rfl,?_,fun _ _ _=>rfl,fun _ _ _ _=>rfl,fun _ _ _=>rfl,fun _ _ _=>rfl,fun _ _ _=>rfl,fun _ _ _ _=>rfl⟩
 intro l i v;simp
section
variable {P:Program} {ops:Array Oper} {Q:Exit->Act->World->Prop} {md:Region.Mode} {S:World->Prop} {oi:Oper} {fuel:Nat} {listed:Array Bool} {a:Act} {w:World}
theorem tkH (i:Nat) (v:Value) (hi:ops[i]? = some oi) (hc:(Region.noSelect ops&&Region.free md ops listed i&&(Region.ready md ops listed).contains i)=true) (hy:YieldsIf P ops S oi v a) (hS:S w)
  (h:wpAnyH P md ops Q S fuel (listed.setIfInBounds i true) (a.put oi.dst v) w) (hQ:∀c a w,Q (.panic c) (a.put oi.dst v) w->Q (.panic c) a w:=by exact fun _ _ _ h=>h):wpAnyH P md ops Q S (fuel+1) listed a w:=by
 simp only[AAD] at hc;exact wpAnyH_take hi hc.1.1 hc.1.2 hc.2 hQ hy hS h
theorem Ue (i:Nat) (v:Value) (hi:ops[i]? = some oi) (hc:(Region.noSelect ops&&Region.free md ops listed i&&(Region.ready md ops listed).contains i)=true) (hy:Yields P ops oi v a)
  (h:wpAny P md ops Q fuel (listed.setIfInBounds i true) (a.put oi.dst v) w) (hQ:∀c a w,Q (.panic c) (a.put oi.dst v) w->Q (.panic c) a w:=by exact fun _ _ _ h=>h):wpAny P md ops Q (fuel+1) listed a w:=by
 simp only[AAD] at hc;exact wpAny_take hi hc.1.1 hc.1.2 hc.2 hQ hy h
end
def In64 (n:Int):Prop:=-9223372036854775808<=n/\n<=9223372036854775807
def EF (bytes n:Nat):Prop:=n * bytes<=140737488355328
def Cw (s:ByteArray):Prop:=s.size<=9223372036854775807
variable {w:World}
theorem zL {a:Addr} {v:Value} (h:w.cell? a=some v):a.block<w.heap.size:=World.block_lt_of_cell? w a h
variable {w':World}
theorem OX {o:Obj} (hb:Below (w.alloc o).heap.size (w.alloc o) w'):Below w.heap.size w w' :=
 ((Pe _ _).alloc (AAF _) o).trans (hb.mono (by simp))
theorem below_alloc2 {o o2:Obj} (hb:Below ((w.alloc o).alloc o2).heap.size ((w.alloc o).alloc o2) w'):Below w.heap.size w w' :=
 OX (OX hb)
variable {b o:Nat}
theorem zA (hb:Below w.heap.size w w') {v:Value} (h:w.cell? ⟨b,o,none⟩=some v):w'.cell? ⟨b,o,none⟩=some v :=
 (hb.cell (p:=⟨b,o,none⟩) (zL h)).trans h
variable {w1:World}
theorem tY {W:World} (hb:Below W.heap.size W w1):∀b o,b<W.heap.size->w1.cell? ⟨b,o,none⟩=W.cell? ⟨b,o,none⟩:=fun b o h=>hb.cell (p:=⟨b,o,none⟩) h
theorem gW {W:World} (h:Below W.drew.heap.size W.drew w1):Below W.heap.size W w1:=⟨h.os,h.tape,h.output,h.size,h.block⟩
theorem zC {B:Nat} {a:World} (h:Below B a w) (n:Nat):Below B a (w.drewN n):=⟨h.os,h.tape,h.output,h.size,h.block⟩
theorem zB {w2:World} (h1:Below w.heap.size w w1) (h2:Below w1.heap.size w1 w2):Below w.heap.size w w2 :=
 h1.trans (h2.mono h1.size)
theorem zD (w:World) (o:Obj):Below w.heap.size w (w.alloc o):=(Pe _ _).alloc (AAF _) _
theorem zI (w:World) (o o2:Obj):Below w.heap.size w ((w.alloc o).alloc o2):=zB (zD w o) (zD _ o2)
theorem BJ (hb:Below w.heap.size w w') {cs:List Value} (h:w.rangeAt b o cs):w'.rangeAt b o cs :=
 fun j u hj=>zA hb (h j u hj)
def RowsIn {α:Type} (k:Nat) (at_:α->List Value->Prop) (w:World) (b o:Nat) (l:List α):Prop :=
 ∀i x,l[i]? = some x->∃cs,at_ x cs/\w.rangeAt b (o+i * k) cs
def AY {α:Type} (k bytes:Nat) (at_:α->List Value->Prop) (w:World) (A:zo) (l:List α):Prop :=
 EF bytes l.length/\(l≠[]->∃b o,A=some ⟨b,o,none⟩/\RowsIn k at_ w b o l)
theorem AY.nil {α:Type} (k bytes:Nat) (at_:α->List Value->Prop) (w:World) (A:zo):AY k bytes at_ w A [] :=
 ⟨by simp[EF],fun h=>absurd rfl h⟩
variable {bytes k:Nat} {A:zo}
theorem AY.imp {α:Type} {at_ at':α->List Value->Prop} {l:List α} (h:AY k bytes at_ w A l) (ha:∀x∈l,∀cs,at_ x cs->at' x cs) (hb:Below w.heap.size w w'):AY k bytes at' w' A l:=by
 refine ⟨h.1,fun hn=>?_⟩
 obtain ⟨b,o,e,hi⟩:=h.2 hn;refine ⟨b,o,e,fun i x hx=>?_⟩
 obtain ⟨cs,h1,h2⟩:=hi i x hx;exact ⟨cs,ha x (ABp hx) cs h1,BJ hb h2⟩
theorem AY.at_ {α:Type} {k bytes:Nat} {at_:α->List Value->Prop} {w:World} {A:zo} {l:List α} (h:AY k bytes at_ w A l) {i:Nat} (hi:i<l.length):∃b o cs,A=some ⟨b,o,none⟩/\at_ l[i] cs/\w.rangeAt b (o+i * k) cs:=by
 obtain ⟨b,o,e,hin⟩:=h.2 (fun e=>by subst e;simp at hi)
 obtain ⟨cs,h1,h2⟩:=hin i _ (zl hi);exact ⟨b,o,cs,e,h1,h2⟩
def Af.At (r:Af) (cs:List Value):Prop:=Cw r.data/\cs=[.int .i64 r.id,.string r.data]
def Bu.At (r:Bu) (cs:List Value):Prop:=Cw r.name/\cs=[.int .i64 r.id,.string r.name]
def FB (w:World) (A:zo) (l:List Af):Prop:=AY 2 24 Af.At w A l
def J5 (w:World) (A:zo) (l:List Bu):Prop:=AY 2 24 Bu.At w A l
variable {l:List Af}
theorem FB.below (h:FB w A l) (hb:Below w.heap.size w w'):FB w' A l:=AY.imp h (fun _ _ _ h=>h) hb
theorem J5.below {l:List Bu} (h:J5 w A l) (hb:Below w.heap.size w w'):J5 w' A l:=AY.imp h (fun _ _ _ h=>h) hb
def Val.kind:Val->Int | .mk k _ _ _ _ _ _ _=>k
def Val.bool:Val->Bool | .mk _ b _ _ _ _ _ _=>b
def Val.int:Val->Int | .mk _ _ i _ _ _ _ _=>i
def Val.str:Val->ByteArray | .mk _ _ _ s _ _ _ _=>s
def Val.id:Val->Int | .mk _ _ _ _ d _ _ _=>d
def Val.keys:Val->List Val | .mk _ _ _ _ _ ks _ _=>ks
def Val.items:Val->List Val | .mk _ _ _ _ _ _ is _=>is
def Val.rest:Val->List Af | .mk _ _ _ _ _ _ _ r=>r
abbrev Val.cs (x:Val) (A1:zo) (c1:Nat) (A2:zo) (c2:Nat) (A3:zo) (c3:Nat):List Value :=
 [.int .i64 x.kind,.bool x.bool,.int .i64 x.int,.string x.str,.int .i64 x.id,.slice A1 x.keys.length c1,.slice A2 x.items.length c2,.slice A3 x.rest.length c3]
mutual
def Val.At (w:World):Val->List Value->Prop
 | .mk k b i s d ks is r,cs=>Cw s/\∃ (A1:zo) (c1:Nat) (A2:zo) (c2:Nat) (A3:zo) (c3:Nat),
   cs=[.int .i64 k,.bool b,.int .i64 i,.string s,.int .i64 d,.slice A1 ks.length c1,.slice A2 is.length c2,.slice A3 r.length c3] /\
   (EF 120 ks.length/\(ks≠[]->∃b o,A1=some ⟨b,o,none⟩/\Val.In w ks b o))/\(EF 120 is.length/\(is≠[]->∃b o,A2=some ⟨b,o,none⟩/\Val.In w is b o))/\FB w A3 r
def Val.In (w:World):List Val->Nat->Nat->Prop
 | [],_,_=>True
 | v::l,b,o=>(∃cs,Val.At w v cs/\w.rangeAt b o cs)/\Val.In w l b (o+8)
end
def Cz (w:World) (A:zo) (l:List Val):Prop:=AY 8 120 (Val.At w) w A l
theorem Val.lC (w:World):∀ (l:List Val) (b o:Nat),Val.In w l b o↔RowsIn 8 (Val.At w) w b o l
 | [],b,o=>by simp[Val.In,RowsIn]
 | v::l,b,o=>by
  rw[Val.In,Val.lC w l b (o+8)]
  constructor
  ·rintro ⟨h1,h2⟩ i x hx
   cases i with
   | zero =>
    obtain ⟨cs,h3,h4⟩:=h1;have:v=x:=by simpa using hx
    subst this;exact ⟨cs,h3,by simpa using h4⟩
   | succ i =>
    obtain ⟨cs,h3,h4⟩:=h2 i x (by simpa using hx)
    refine ⟨cs,h3,?_⟩
    rwa [show o+(i+1) * 8=o+8+i * 8 by omega]
  ·intro h
   refine ⟨?_,fun i x hx=>?_⟩
   ·obtain ⟨cs,h3,h4⟩:=h 0 v rfl
    exact ⟨cs,h3,by simpa using h4⟩
   ·obtain ⟨cs,h3,h4⟩:=h (i+1) x (by simpa using hx)
    refine ⟨cs,h3,?_⟩
    rwa [show o+(i+1) * 8=o+8+i * 8 by omega] at h4
structure Ar (w:World) (x:Val) (A1 A2 A3:zo):Prop where
 str:Cw x.str
 keys:Cz w A1 x.keys
 items:Cz w A2 x.items
 rest:FB w A3 x.rest
variable {x:Val}
theorem Val.Hu {cs:List Value}:x.At w cs↔∃A1 c1 A2 c2 A3 c3,cs=x.cs A1 c1 A2 c2 A3 c3/\Ar w x A1 A2 A3:=by
 obtain ⟨k,b,i,s,d,ks,is,r⟩:=x;rw[Val.At];simp only[Val.lC]
 constructor
 ·rintro ⟨h0,A1,c1,A2,c2,A3,c3,rfl,h1,h2,h3⟩
  exact ⟨A1,c1,A2,c2,A3,c3,rfl,h0,h1,h2,h3⟩
 ·rintro ⟨A1,c1,A2,c2,A3,c3,rfl,h0,h1,h2,h3⟩
  exact ⟨h0,A1,c1,A2,c2,A3,c3,rfl,h1,h2,h3⟩
mutual
theorem Val.Fw {w w':World} (hb:Below w.heap.size w w'):∀ (x:Val) (cs:List Value),x.At w cs->x.At w' cs
 | .mk k b i s d ks is r,cs,h=>by
  rw[Val.At] at h ⊢;obtain ⟨h0,A1,c1,A2,c2,A3,c3,e,⟨l1,h1⟩,⟨l2,h2⟩,h3⟩:=h;refine ⟨h0,A1,c1,A2,c2,A3,c3,e,⟨l1,fun hn=>?_⟩,⟨l2,fun hn=>?_⟩,h3.below hb⟩
  ·obtain ⟨b,o,e,hi⟩:=h1 hn
   exact ⟨b,o,e,Val.DU hb ks b o hi⟩
  ·obtain ⟨b,o,e,hi⟩:=h2 hn
   exact ⟨b,o,e,Val.DU hb is b o hi⟩
theorem Val.DU {w w':World} (hb:Below w.heap.size w w'):∀ (l:List Val) (b o:Nat),Val.In w l b o->Val.In w' l b o
 | [],_,_,_=>by rw[Val.In];trivial
 | v::l,b,o,h=>by
  rw[Val.In] at h ⊢;obtain ⟨⟨cs,h1,h2⟩,h3⟩:=h;exact ⟨⟨cs,Val.Fw hb v cs h1,BJ hb h2⟩,Val.DU hb l b (o+8) h3⟩
end
theorem Cz.below {l:List Val} (h:Cz w A l) (hb:Below w.heap.size w w'):Cz w' A l :=
 AY.imp h (fun x _ cs=>Val.Fw hb x cs) hb
variable {A1 A2 A3:zo}
theorem Ar.below (h:Ar w x A1 A2 A3) (hb:Below w.heap.size w w'):Ar w' x A1 A2 A3 :=
 ⟨h.str,h.keys.below hb,h.items.below hb,h.rest.below hb⟩
abbrev Val.v (x:Val) (A1:zo) (c1:Nat) (A2:zo) (c2:Nat) (A3:zo) (c3:Nat):Value :=
 .agg #[.int .i64 x.kind,.bool x.bool,.int .i64 x.int,.string x.str,.int .i64 x.id,.slice A1 x.keys.length c1,.slice A2 x.items.length c2,.slice A3 x.rest.length c3]
abbrev Ac.v (m:Ac) (A1:zo) (c1:Nat) (A2:zo) (c2:Nat) (A3:zo) (c3:Nat):Value :=
 .agg #[.int .i64 m.id,.string m.name,.int .i64 m.type,.bool m.critical,.bool m.Et,.int .i64 m.dflt.kind,.bool m.dflt.bool,.int .i64 m.dflt.int,.string m.dflt.str,.int .i64 m.dflt.id,.slice A1 m.dflt.keys.length c1,.slice A2 m.dflt.items.length c2,.slice A3 m.dflt.rest.length c3]
abbrev Ac.cs (m:Ac) (A1:zo) (c1:Nat) (A2:zo) (c2:Nat) (A3:zo) (c3:Nat):List Value :=
 [.int .i64 m.id,.string m.name,.int .i64 m.type,.bool m.critical,.bool m.Et,.int .i64 m.dflt.kind,.bool m.dflt.bool,.int .i64 m.dflt.int,.string m.dflt.str,.int .i64 m.dflt.id,.slice A1 m.dflt.keys.length c1,.slice A2 m.dflt.items.length c2,.slice A3 m.dflt.rest.length c3]
structure WH (w:World) (m:Ac) (A1 A2 A3:zo):Prop where
 name:Cw m.name
 dflt:Ar w m.dflt A1 A2 A3
theorem WH.below {x:Ac} (h:WH w x A1 A2 A3) (hb:Below w.heap.size w w'):WH w' x A1 A2 A3:=⟨h.name,h.dflt.below hb⟩
def Ac.At (w:World) (m:Ac) (cs:List Value):Prop:=∃A1 c1 A2 c2 A3 c3,cs=m.cs A1 c1 A2 c2 A3 c3/\WH w m A1 A2 A3
def GI (w:World) (A:zo) (l:List Ac):Prop:=AY 13 160 (Ac.At w) w A l
theorem Ac.Fw (hb:Below w.heap.size w w') {m:Ac} {cs:List Value}:m.At w cs->m.At w' cs :=
 fun ⟨A1,c1,A2,c2,A3,c3,e,h⟩=>⟨A1,c1,A2,c2,A3,c3,e,h.below hb⟩
theorem GI.below {l:List Ac} (h:GI w A l) (hb:Below w.heap.size w w'):GI w' A l :=
 AY.imp h (fun _ _ _=>Ac.Fw hb) hb
abbrev Aa.v (t:Aa) (As:zo) (cs:Nat) (Am:zo) (cm:Nat):Value :=
 .agg #[.int .i64 t.kind,.string t.name,.int .i64 t.low,.int .i64 t.high,.int .i64 t.max,.slice As t.AX.length cs,.slice Am t.AA.length cm,.int .i64 t.key,.int .i64 t.elem,.bool t.open_]
abbrev Aa.cs (t:Aa) (As:zo) (cs:Nat) (Am:zo) (cm:Nat):List Value :=
 [.int .i64 t.kind,.string t.name,.int .i64 t.low,.int .i64 t.high,.int .i64 t.max,.slice As t.AX.length cs,.slice Am t.AA.length cm,.int .i64 t.key,.int .i64 t.elem,.bool t.open_]
structure J4 (w:World) (t:Aa) (As Am:zo):Prop where
 name:Cw t.name
 AX:J5 w As t.AX
 AA:GI w Am t.AA
theorem J4.below {x:Aa} (h:J4 w x A1 A2) (hb:Below w.heap.size w w'):J4 w' x A1 A2:=⟨h.name,h.AX.below hb,h.AA.below hb⟩
def Aa.At (w:World) (t:Aa) (l:List Value):Prop:=∃As cs Am cm,l=t.cs As cs Am cm/\J4 w t As Am
def DC (w:World) (A:zo) (l:List Aa):Prop:=AY 10 120 (Aa.At w) w A l
theorem Aa.Fw (hb:Below w.heap.size w w') {m:Aa} {cs:List Value}:m.At w cs->m.At w' cs :=
 fun ⟨A1,c1,A2,c2,e,h⟩=>⟨A1,c1,A2,c2,e,h.below hb⟩
theorem DC.below {l:List Aa} (h:DC w A l) (hb:Below w.heap.size w w'):DC w' A l :=
 AY.imp h (fun _ _ _=>Aa.Fw hb) hb
variable {i:Nat}
theorem Cz.at8 {l:List Val} (h:Cz w A l) (hi:i<l.length):∃b o A1 c1 A2 c2 A3 c3,A=some ⟨b,o,none⟩/\Ar w l[i] A1 A2 A3 /\
  w.cell? ⟨b,o+i * 8,none⟩=some (.int .i64 (l[i]).kind)/\w.cell? ⟨b,o+i * 8+1,none⟩=some (.bool (l[i]).bool)/\w.cell? ⟨b,o+i * 8+2,none⟩=some (.int .i64 (l[i]).int)/\w.cell? ⟨b,o+i * 8+3,none⟩=some (.string (l[i]).str)/\w.cell? ⟨b,o+i * 8+4,none⟩=some (.int .i64 (l[i]).id) /\
  w.cell? ⟨b,o+i * 8+5,none⟩=some (.slice A1 (l[i]).keys.length c1)/\w.cell? ⟨b,o+i * 8+6,none⟩=some (.slice A2 (l[i]).items.length c2)/\w.cell? ⟨b,o+i * 8+7,none⟩=some (.slice A3 (l[i]).rest.length c3):=by
 obtain ⟨b,o,cs,e,h1,h2⟩:=AY.at_ h hi;obtain ⟨A1,c1,A2,c2,A3,c3,rfl,hr⟩:=Val.Hu.1 h1;exact ⟨b,o,A1,c1,A2,c2,A3,c3,e,hr,h2 0 _ rfl,h2 1 _ rfl,h2 2 _ rfl,h2 3 _ rfl,h2 4 _ rfl,h2 5 _ rfl,h2 6 _ rfl,h2 7 _ rfl⟩
theorem GI.Mk {l:List Ac} (h:GI w A l) (hi:i<l.length):∃b o A1 c1 A2 c2 A3 c3,A=some ⟨b,o,none⟩/\WH w l[i] A1 A2 A3 /\
  w.cell? ⟨b,o+i * 13,none⟩=some (.int .i64 (l[i]).id)/\w.cell? ⟨b,o+i * 13+1,none⟩=some (.string (l[i]).name)/\w.cell? ⟨b,o+i * 13+2,none⟩=some (.int .i64 (l[i]).type)/\w.cell? ⟨b,o+i * 13+3,none⟩=some (.bool (l[i]).critical)/\w.cell? ⟨b,o+i * 13+4,none⟩=some (.bool (l[i]).Et) /\
  w.cell? ⟨b,o+i * 13+5,none⟩=some (.int .i64 (l[i]).dflt.kind)/\w.cell? ⟨b,o+i * 13+6,none⟩=some (.bool (l[i]).dflt.bool)/\w.cell? ⟨b,o+i * 13+7,none⟩=some (.int .i64 (l[i]).dflt.int)/\w.cell? ⟨b,o+i * 13+8,none⟩=some (.string (l[i]).dflt.str)/\w.cell? ⟨b,o+i * 13+9,none⟩=some (.int .i64 (l[i]).dflt.id) /\
  w.cell? ⟨b,o+i * 13+10,none⟩=some (.slice A1 (l[i]).dflt.keys.length c1)/\w.cell? ⟨b,o+i * 13+11,none⟩=some (.slice A2 (l[i]).dflt.items.length c2)/\w.cell? ⟨b,o+i * 13+12,none⟩=some (.slice A3 (l[i]).dflt.rest.length c3):=by
 obtain ⟨b,o,cs,e,h1,h2⟩:=AY.at_ h hi;obtain ⟨A1,c1,A2,c2,A3,c3,rfl,hr⟩:=h1;exact ⟨b,o,A1,c1,A2,c2,A3,c3,e,hr,h2 0 _ rfl,h2 1 _ rfl,h2 2 _ rfl,h2 3 _ rfl,h2 4 _ rfl,h2 5 _ rfl,h2 6 _ rfl,h2 7 _ rfl,h2 8 _ rfl,h2 9 _ rfl,h2 10 _ rfl,h2 11 _ rfl,h2 12 _ rfl⟩
theorem DC.J3 {l:List Aa} (h:DC w A l) (hi:i<l.length):∃b o As cs Am cm,A=some ⟨b,o,none⟩/\J4 w l[i] As Am /\
  w.cell? ⟨b,o+i * 10,none⟩=some (.int .i64 (l[i]).kind)/\w.cell? ⟨b,o+i * 10+1,none⟩=some (.string (l[i]).name)/\w.cell? ⟨b,o+i * 10+2,none⟩=some (.int .i64 (l[i]).low)/\w.cell? ⟨b,o+i * 10+3,none⟩=some (.int .i64 (l[i]).high)/\w.cell? ⟨b,o+i * 10+4,none⟩=some (.int .i64 (l[i]).max) /\
  w.cell? ⟨b,o+i * 10+5,none⟩=some (.slice As (l[i]).AX.length cs)/\w.cell? ⟨b,o+i * 10+6,none⟩=some (.slice Am (l[i]).AA.length cm)/\w.cell? ⟨b,o+i * 10+7,none⟩=some (.int .i64 (l[i]).key)/\w.cell? ⟨b,o+i * 10+8,none⟩=some (.int .i64 (l[i]).elem)/\w.cell? ⟨b,o+i * 10+9,none⟩=some (.bool (l[i]).open_):=by
 obtain ⟨b,o,cs,e,h1,h2⟩:=AY.at_ h hi;obtain ⟨As,cs,Am,cm,rfl,hr⟩:=h1;exact ⟨b,o,As,cs,Am,cm,e,hr,h2 0 _ rfl,h2 1 _ rfl,h2 2 _ rfl,h2 3 _ rfl,h2 4 _ rfl,h2 5 _ rfl,h2 6 _ rfl,h2 7 _ rfl,h2 8 _ rfl,h2 9 _ rfl⟩
theorem FB.at2 (h:FB w A l) (hi:i<l.length):∃b o,A=some ⟨b,o,none⟩/\Cw (l[i]).data/\w.cell? ⟨b,o+i * 2,none⟩=some (.int .i64 (l[i]).id)/\w.cell? ⟨b,o+i * 2+1,none⟩=some (.string (l[i]).data):=by
 obtain ⟨b,o,cs,e,⟨h0,rfl⟩,h2⟩:=AY.at_ h hi;exact ⟨b,o,e,h0,h2 0 _ rfl,h2 1 _ rfl⟩
theorem J5.at2 {l:List Bu} (h:J5 w A l) (hi:i<l.length):∃b o,A=some ⟨b,o,none⟩/\Cw (l[i]).name/\w.cell? ⟨b,o+i * 2,none⟩=some (.int .i64 (l[i]).id)/\w.cell? ⟨b,o+i * 2+1,none⟩=some (.string (l[i]).name):=by
 obtain ⟨b,o,cs,e,⟨h0,rfl⟩,h2⟩:=AY.at_ h hi;exact ⟨b,o,e,h0,h2 0 _ rfl,h2 1 _ rfl⟩
abbrev Val.box (x:Val) (A1:zo) (c1:Nat) (A2:zo) (c2:Nat) (A3:zo) (c3:Nat):Obj :=
 .cells #[.int .i64 x.kind,.bool x.bool,.int .i64 x.int,.string x.str,.int .i64 x.id,.slice A1 x.keys.length c1,.slice A2 x.items.length c2,.slice A3 x.rest.length c3] 28
abbrev Ac.box (m:Ac) (A1:zo) (c1:Nat) (A2:zo) (c2:Nat) (A3:zo) (c3:Nat):Obj :=
 .cells #[.int .i64 m.id,.string m.name,.int .i64 m.type,.bool m.critical,.bool m.Et,.int .i64 m.dflt.kind,.bool m.dflt.bool,.int .i64 m.dflt.int,.string m.dflt.str,.int .i64 m.dflt.id,.slice A1 m.dflt.keys.length c1,.slice A2 m.dflt.items.length c2,.slice A3 m.dflt.rest.length c3] 118
abbrev Aa.box (t:Aa) (As:zo) (cs:Nat) (Am:zo) (cm:Nat):Obj :=
 .cells #[.int .i64 t.kind,.string t.name,.int .i64 t.low,.int .i64 t.high,.int .i64 t.max,.slice As t.AX.length cs,.slice Am t.AA.length cm,.int .i64 t.key,.int .i64 t.elem,.bool t.open_] 87
abbrev Bu.box (s:Bu):Obj := .cells #[.int .i64 s.id,.string s.name] 92
abbrev Af.box (s:Af):Obj := .cells #[.int .i64 s.id,.string s.data] 97
theorem X8 (w:World) (row:Option Nat):w.grownBy w row:=⟨rfl,rfl,rfl,AAF _,fun _ _ _=>rfl⟩
theorem yA {row:Option Nat} (hg:w.grownBy w' row) (hb:b<w.heap.size) (hne:∀k,row=some k->b≠k):w'.heap[b]? = w.heap[b]? :=
 hg.block b hb (fun e=>hne b e.symm rfl)
section
set_option linter.unusedSectionVars false
variable {P:Program} {κ:Type} [DecidableEq κ]
variable {b:Nat} {w:World}
theorem ADY {es:Array MapEntry} {c:Nat} (hm:w.heap[b]? = some (.map es c)):(getObj b).run P w = .ok (.map es c) w:=Go.MapKept.run_getObj_map hm
theorem AAS {es:Array MapEntry} {c:Nat} (o:Obj) (hm:w.heap[b]? = some (.map es c)):(setObj b o).run P w = .ok () { w with heap:=w.heap.setIfInBounds b o }:=Go.MapKept.run_setObj_map o hm
def Ls (k:κ):List (κ×Value)->Nat->Option (Nat×Value)
 | [],_=>none
 | x::r,i=>if k=x.1 then some (i,x.2) else Ls k r (i+1)
def Gp (ek:κ->Value):Nat->List (κ×Value)->List MapEntry
 | _,[]=>[]
 | i,x::r=>⟨ek x.1,x.2,i⟩::Gp ek (i+1) r
theorem Vo (ek:κ->Value):∀ (l:List (κ×Value)) (i j:Nat),(Gp ek i l)[j]? = (l[j]?).map fun x=>⟨ek x.1,x.2,i+j⟩
 | [],_,_=>by simp[Gp]
 | x::r,i,0=>by simp[Gp]
 | x::r,i,j+1=>by
  simp only[Gp,List.getElem?_cons_succ,Vo ek r (i+1) j];rw[show i+1+j=i+(j+1) by omega]
theorem OW (ek:κ->Value):∀ (l m:List (κ×Value)) (i:Nat),Gp ek i (l++m)=Gp ek i l++Gp ek (i+l.length) m
 | [],m,i=>by simp[Gp]
 | x::r,m,i=>by
  simp only[AAs,Gp,OW ek r m (i+1),AAI];rw[show i+1+r.length=i+(r.length+1) by omega]
structure uD (P:Program) (KT:TypeId) (ek:κ->Value):Prop where
 check:∀ (w:World) (em:Bool) (k:κ),(Instr.checkKey em 10000 KT (ek k)).run P w = .ok () w
 find:∀ (w:World) (k:κ) (l:List (κ×Value)),(Instr.findKey KT (ek k) (Gp ek 0 l)).run P w = .ok (Ls k l 0) w
 stays:∀ (w:World) (k:κ),(Instr.keyThatStays (ek k) (ek k)).run P w = .ok (ek k) w
def MapAt (ek:κ->Value) (w:World) (b:Nat) (l:List (κ×Value)):Prop:=w.heap[b]? = some (.map (Gp ek 0 l).toArray l.length)
def dB (l:List (κ×Value)) (k:κ) (z:Value):Value:=match Ls k l 0 with|some (_,v)=>v|none=>z
def Oj (l:List (κ×Value)) (i:Nat) (v:Value):List (κ×Value):=l.modify i fun x=>(x.1,v)
variable {KT MT ET:TypeId} {ek:κ->Value} {z:Value}
theorem YA:∀ (l:List (κ×Value)) (k:κ) (i j:Nat) (v:Value),Ls k l i=some (j,v)->∃m,j=i+m/\l[m]? = some (k,v)
 | [],_,_,_,_,h=>by cases h
 | x::r,k,i,j,v,h=>by
  rw[Ls] at h
  split at h
  ·rename_i e
   injection h with h
   injection h with h1 h2
   subst h1;subst h2;exact ⟨0,rfl,by rw[e];rfl⟩
  ·obtain ⟨m,h1,h2⟩:=YA r k (i+1) j v h
   exact ⟨m+1,by omega,by simpa using h2⟩
theorem size_set (w:World) (b:Nat) (o:Obj):({ w with heap:=w.heap.setIfInBounds b o }:World).heap.size=w.heap.size:=by simp
theorem Rv (w:World) (b:Nat) (o:Obj):w.grownBy { w with heap:=w.heap.setIfInBounds b o } (some b) :=
 ⟨rfl,rfl,rfl,by simp,fun k _ hk=>by
  have:b≠k:=fun e=>hk (by rw[e])
  simp[this]⟩
theorem heap_set {o o':Obj} (h:w.heap[b]? = some o'):({ w with heap:=w.heap.setIfInBounds b o }:World).heap[b]? = some o:=by
 have hb:b<w.heap.size:=(zg.1 h).1;simp[hb]
theorem OV (ek:κ->Value) (v:Value):∀ (l:List (κ×Value)) (i j:Nat),((Gp ek i l).modify j fun e=>{ e with val:=v })=Gp ek i (Oj l j v)
 | [],_,_=>by simp[Gp,Oj]
 | x::r,i,0=>by simp[Gp,Oj]
 | x::r,i,j+1=>by
  have ih:=OV ek v r (i+1) j;unfold Oj at ih ⊢;simp[Gp,ih]
def oD (l:List (κ×Value)) (k:κ) (v:Value):List (κ×Value):=match Ls k l 0 with|some (i,_)=>Oj l i v|none=>l++[(k,v)]
theorem Qp (hK:uD P KT ek) (hu:P.underlying MT=some (.map KT ET)) {l:List (κ×Value)} (hm:MapAt ek w b l) (k:κ) (v:Value):
  ∃w',(Instr.mapUpdate MT (.map (some b)) (ek k) v).run P w = .ok () w'/\MapAt ek w' b (oD l k v)/\w.grownBy w' (some b)/\w'.heap.size=w.heap.size:=by
 unfold Instr.mapUpdate oD;simp only[Sem.run_bind,run_underlying hu,Result.andThen_ok,ADY hm,hK.check,hK.find]
 cases h:Ls k l 0 with
 | none =>
  refine ⟨{ w with heap:=w.heap.setIfInBounds b (.map (Gp ek 0 (l++[(k,v)])).toArray (l++[(k,v)]).length) },?_,heap_set hm,Rv _ _ _,size_set _ _ _⟩
  simp only[AAS _ hm];rw[OW,ABF];simp[Gp]
 | some x =>
  obtain ⟨j,v0⟩:=x;obtain ⟨m,hj,hl⟩:=YA l k 0 j v0 h;obtain rfl:j=m:=by omega
  have hent:(Gp ek 0 l)[j]? = some ⟨ek k,v0,j⟩:=by rw[Vo,hl];simp
  have hmod:((Gp ek 0 l).modify j fun e=>{ e with key:=ek k,val:=v })=Gp ek 0 (Oj l j v):=by
   rw[<-OV]
   apply List.ext_getElem?
   intro i
   rw[List.getElem?_modify,List.getElem?_modify]
   by_cases e:j=i
   ·subst e;simp[hent]
   ·simp[e]
  refine ⟨{ w with heap:=w.heap.setIfInBounds b (.map (Gp ek 0 (Oj l j v)).toArray (Oj l j v).length) },?_,heap_set hm,Rv _ _ _,size_set _ _ _⟩
  simp only[Sem.run_bind,List.getElem?_toArray,hent,Option.map_some,Option.getD_some,hK.stays,Result.andThen_ok,AAS _ hm];rw[<-hmod];simp[Oj]
theorem JI {k:κ}:∀ {l:List (κ×Value)} {m:List (κ×Value)} {i:Nat} {x:Nat×Value},Ls k l i=some x->Ls k (l++m) i=some x
 | [],_,_,_,h=>by cases h
 | y::r,m,i,x,h=>by
  rw[Ls] at h;rw[AAs,Ls]
  by_cases e:k=y.1
  ·rw[AAB e] at h ⊢;exact h
  ·rw[Pd e] at h ⊢;exact JI h
theorem JJ {k:κ}:∀ {l:List (κ×Value)} {m:List (κ×Value)} {i:Nat},Ls k l i=none->Ls k (l++m) i=Ls k m (i+l.length)
 | [],_,_,_=>by simp
 | y::r,m,i,h=>by
  rw[Ls] at h
  by_cases e:k=y.1
  ·rw[AAB e] at h;cases h
  ·rw[Pd e] at h
   rw[AAs,Ls,Pd e,JJ h,AAI]
   congr 1;omega
theorem Vg (v:Value):∀ (l:List (κ×Value)) (n i m:Nat) (k k':κ) (u:Value),Ls k l i=some (i+n,u)->(Ls k' (Oj l n v) m).map (·.2)=if k'=k then some v else (Ls k' l m).map (·.2)
 | [],_,_,_,_,_,_,h=>by cases h
 | y::r,0,i,m,k,k',u,h=>by
  rw[Ls] at h
  split at h
  ·rename_i e
   simp only[Oj,List.modify_zero_cons,Ls]
   by_cases e2:k'=y.1
   ·simp[e2,e]
   ·have:¬ k'=k:=fun e3=>e2 (e3.trans e)
    simp[e2,this]
  ·obtain ⟨q,hq,_⟩:=YA r k (i+1) (i+0) u h
   omega
 | y::r,n+1,i,m,k,k',u,h=>by
  rw[Ls] at h
  split at h
  ·rename_i e
   injection h with h;injection h with h1 _;omega
  ·rename_i e
   have ih:=Vg v r n (i+1) (m+1) k k' u (by rw[h];congr 2;omega)
   unfold Oj at ih ⊢;simp only[List.modify_succ_cons,Ls]
   by_cases e2:k'=y.1
   ·have:¬ k'=k:=fun e3=>e (e3.symm.trans e2)
    rw[AAB e2,AAB e2,Pd this]
   ·simp only[e2,if_false];exact ih
theorem dA (l:List (κ×Value)) (k k':κ) (v z:Value):dB (oD l k v) k' z=if k'=k then v else dB l k' z:=by
 have hg:∀m:List (κ×Value),dB m k' z=((Ls k' m 0).map (·.2)).getD z:=fun m=>by unfold dB;cases Ls k' m 0 <;> rfl
 rw[hg,hg];unfold oD
 cases h:Ls k l 0 with
 | some x =>
  obtain ⟨i,u⟩:=x;rw[Vg v l i 0 0 k k' u (by rw[h];simp)]
  by_cases e:k'=k <;> simp[e]
 | none =>
  cases h2:Ls k' l 0 with
  | some x =>
   rw[JI h2];have:¬ k'=k:=fun e=>by rw[e,h] at h2;cases h2
   simp[this]
  | none =>
   rw[JJ h2,Ls,Ls]
   by_cases e:k'=k <;> simp[e]
def Ho (ek:κ->Value) (w:World) (b:Nat) (K:List κ):Prop:=∃l,MapAt ek w b l/\∀k,dB l k (.bool false) = .bool (LV k K)
variable {K:List κ}
theorem Ho.blt (h:Ho ek w b K):b<w.heap.size:=by
 obtain ⟨l,h,_⟩:=h;exact (zg.1 h).1
theorem Ho.keep {w':World} (h:Ho ek w b K) (hk:w'.heap[b]? = w.heap[b]?):Ho ek w' b K:=by
 obtain ⟨l,h,h2⟩:=h;exact ⟨l,hk.trans h,h2⟩
theorem Ho.below {w':World} (h:Ho ek w b K) (hb:Below w.heap.size w w'):Ho ek w' b K:=h.keep (hb.block b h.blt)
theorem Ho.new (w:World):Ho ek (w.alloc (.map #[] 0)) w.heap.size ([]:List κ):=⟨[],AAA w _,fun k=>by simp[dB,Ls,LV]⟩
theorem Ho.put (hK:uD P KT ek) (hu:P.underlying MT=some (.map KT ET)) (h:Ho ek w b K) (k:κ):
  ∃w',(Instr.mapUpdate MT (.map (some b)) (ek k) (.bool true)).run P w = .ok () w'/\Ho ek w' b (K++[k])/\w.grownBy w' (some b)/\w'.heap.size=w.heap.size:=by
 obtain ⟨l,h1,h2⟩:=h;obtain ⟨w',e1,e2,e3⟩:=Qp hK hu h1 k (.bool true);refine ⟨w',e1,⟨_,e2,fun k'=>?_⟩,e3⟩
 rw[dA,h2,Rj]
 by_cases e:k'=k
 ·simp[e]
 ·simp[e]
end
structure Elem (T E:TypeId) (size bytes:Nat):Prop where
 under:prog.underlying T=some (.slice E)
 info:∃z,(prog.info? E).map (fun i=>(i.zero,i.size,i.bytes))=some (some z,size,bytes)/\z.cells.size=size
 pos:0<size
variable {size:Nat}
theorem Si {T E:TypeId} (hE:Elem T E size bytes) (w:World) (base:Nat) (ty:TypeId) (v:Value) (n:Nat) (xs:List Value) (h:w.ownsRow base E size v n xs) (b o m c:Nat) (news:List Value) (hl:news.length=m * size) (hnews:w.rangeAt b o news) (h1:∀u∈news,u.oneCell'=true) (hlen:n+m<=9223372036854775807) (hby:(n+m) * bytes<=140737488355328) (hb:base<=w.heap.size):
  ∃v' w',(Builtin.append_ #[T,T] ty #[v,.slice (some ⟨b,o,none⟩) m c]).run prog w = .ok v' w'/\w'.ownsRow base E size v' (n+m) (xs++news)/\w.grownBy w' v.ownBlock:=by
 obtain ⟨z,QJ,hzs⟩:=hE.info;obtain ⟨i0,hi,hz0,hz1,hz2⟩:=info_parts QJ;obtain ⟨v',w',hr,h2,h3,_,_⟩:=run_append_own_at (P:=prog) w base T ty E i0 z size bytes hE.under hi hz0 hz1 hz2 hzs hE.pos v n xs h ⟨b,o,none⟩ m c news hl (fun j u hj=>by rw[Addr.add_mid];exact hnews j u hj) h1 (by unfold maxLen;omega) hby hb
 exact ⟨v',w',hr,h2,h3⟩
theorem yG {T E:TypeId} (hE:Elem T E size bytes) (w:World) {ops:Array Oper} {rest:List Oper} {op:Oper} {a:Act} {Q:Exit->Act->World->Prop} (hgd:op.guard=none) (s x:Operand) (ho:op.op = .call { callee := .builtin .append,args:=#[s,x],argTypes:=#[T,T] }) (base:Nat) (v:Value) (n:Nat) (xs:List Value) (hs:a.eval s=v) (h:w.ownsRow base E size v n xs) (b o m c:Nat) (news:List Value) (hx:a.eval x = .slice (some ⟨b,o,none⟩) m c) (hl:news.length=m * size) (hnews:w.rangeAt b o news) (h1:∀u∈news,u.oneCell'=true) (hlen:n+m<=9223372036854775807) (hby:(n+m) * bytes<=140737488355328) (hb:base<=w.heap.size) (hk:∀v' w',w'.ownsRow base E size v' (n+m) (xs++news)->w.grownBy w' v.ownBlock->wpList prog ops Q rest (a.put op.dst v') w'):wpList prog ops Q (op::rest) a w:=by
 refine wpList_plain hgd fun K hK=>?_
 obtain ⟨v',w',hr,h2,h3⟩:=Si hE w base op.type v n xs h b o m c news hl hnews h1 hlen hby hb;unfold Oper.wp execOp;simp only[ho,resolve,invoke,builtin,Sem.run_bind,Sem.run_pure,Result.andThen_ok,List.map_toArray,ABh,List.map_nil,hs,hx,hr];exact hK _ _ (hk v' w' h2 h3)
theorem zR (w:World) (cs:List Value) (t:TypeId):(w.alloc (.cells cs.toArray t)).rangeAt w.heap.size 0 cs:=fun j u hj=>by
 rw[Nat.zero_add,AAC _ _ _ _ _ _ (AAA w _)]
 simpa using hj
def AZ {α:Type} (E size:Nat) (enc:α->List Value) (w:World) (base:Nat) (v:Value) (l:List α):Prop:=w.ownsRow base E size v l.length (l.flatMap enc)
section
variable {α:Type} {E size:Nat} {enc:α->List Value}
theorem AZ.nil (w:World) (base:Nat):AZ E size enc w base (.slice none 0 0) []:=World.ownsRow_nil w base E size
variable {base:Nat} {w:World}
theorem AZ.lt {v:Value} {l:List α} (h:AZ E size enc w base v l):∀k,v.ownBlock=some k->base<=k:=fun k hk=>(World.ownsRow.lt h k hk).1
theorem AZ.alloc {v:Value} {l:List α} (h:AZ E size enc w base v l) (o:Obj):AZ E size enc (w.alloc o) base v l:=World.ownsRow.alloc h o
theorem AZ.snoc {v:Value} {l:List α} {x:α} (h:w.ownsRow base E size v (l.length+1) (l.flatMap enc++enc x)):AZ E size enc w base v (l++[x]):=by
 unfold AZ;rw[ABF,List.flatMap_append];simpa using h
theorem AZ.app {v:Value} {l m:List α} {n:Nat} (hn:n=m.length) (h:w.ownsRow base E size v (l.length+n) (l.flatMap enc++m.flatMap enc)):AZ E size enc w base v (l++m):=by
 subst hn;unfold AZ;rw[ABF,List.flatMap_append];exact h
variable {w':World}
theorem AZ.keep {v:Value} {l:List α} (h:AZ E size enc w base v l) (hk:∀g,base<=g->g<w.heap.size->v.ownBlock=some g->w'.heap[g]? = w.heap[g]?):AZ E size enc w' base v l:=by
 refine ⟨h.1,?_⟩
 rcases h.2 with h0|⟨g,cap,cur,hv,hg0,hh,h1⟩
 ·exact .inl h0
 ·exact .inr ⟨g,cap,cur,hv,hg0,(hk g hg0 (zg.1 hh).1 (by rw[hv];rfl)).trans hh,h1⟩
theorem AZ.below {v:Value} {l:List α} (h:AZ E size enc w base v l) (hb:Below w.heap.size w w'):AZ E size enc w' base v l :=
 h.keep fun g _ hg _=>hb.block g hg
theorem AZ.block {v:Value} {l:List α} (h:AZ E size enc w base v l) {g:Nat} (hg:v.ownBlock=some g):∃cur fr,w.heap[g]? = some (.cells cur E fr):=by
 rcases h.2 with ⟨hv,_⟩|⟨g',cap,cur,hv,hg0,hh,h1⟩
 ·subst hv;cases hg
 ·subst hv
  have:g'=g:=by simpa[Value.ownBlock] using hg
  subst this;exact ⟨_,_,hh⟩
theorem AZ.grown {v:Value} {l:List α} (h:AZ E size enc w base v l) {row:Option Nat} (hg:w.grownBy w' row) (hne:∀k,row=some k->v.ownBlock≠some k):AZ E size enc w' base v l :=
 h.keep fun g _ hlt hv=>yA hg hlt fun k hk e=>hne k hk (by rw[hv,e])
theorem AZ.other {β:Type} {E2 AAT:Nat} {enc2:β->List Value} {mD:Nat} {v v2:Value} {l:List α} {l2:List β} (h:AZ E size enc w base v l) (h2:AZ E2 AAT enc2 w mD v2 l2) (hE:E≠E2) (hg:w.grownBy w' v2.ownBlock):AZ E size enc w' base v l :=
 h.grown hg fun k hk e=>by
  obtain ⟨c1,f1,e1⟩:=h.block e;obtain ⟨c2,f2,e2⟩:=h2.block hk;rw[e1] at e2
  injection e2 with e2
  injection e2 with _ e3
  exact hE e3
theorem flat_get {k:Nat} (hk:∀x,(enc x).length=k):∀ (l:List α) (i:Nat) (x:α) (j:Nat) (u:Value),l[i]? = some x->(enc x)[j]? = some u->(l.flatMap enc)[i * k+j]? = some u
 | [],_,_,_,_,h,_=>by simp at h
 | y::r,0,x,j,u,h,hj=>by
  have:y=x:=by simpa using h
  subst this;rw[ABy,Nat.zero_mul,Nat.zero_add,ABo (AAv.1 hj).1];exact hj
 | y::r,i+1,x,j,u,h,hj=>by
  rw[ABy,ABm (by rw[hk];rw[Nat.succ_mul];omega),hk]
  have:=flat_get hk r i x j u (by simpa using h) hj
  rw[show (i+1) * k+j - k=i * k+j by rw[Nat.succ_mul];omega]
  exact this
theorem Py {k:Nat} (hk:∀x,(enc x).length=k) {g o:Nat} {l:List α} (h:w.rangeAt g o (l.flatMap enc)) {i:Nat} {x:α} (hx:l[i]? = some x):w.rangeAt g (o+i * k) (enc x):=fun j u hj=>by
 have:=h (i * k+j) u (flat_get hk l i x j u hx hj)
 rwa [<-Nat.add_assoc] at this
theorem AZ.reads {v:Value} {l:List α} (h:AZ E size enc w base v l):∃A c,v = .slice A l.length c/\l.length<=c/\c<=9223372036854775807/\(l≠[]->∃g,A=some ⟨g,0,none⟩/\base<=g/\w.rangeAt g 0 (l.flatMap enc)):=by
 rcases h.2 with ⟨hv,h0⟩|⟨g,cap,cur,hv,hg0,hg,hnc,hcm,_,ht⟩
 ·have:l=[]:=AAn h0
  subst this;exact ⟨none,0,hv,AAF _,by omega,fun h=>absurd rfl h⟩
 ·unfold maxLen at hcm
  refine ⟨some ⟨g,0,none⟩,cap,hv,hnc,by omega,fun _=>⟨g,rfl,hg0,fun j u hj=>?_⟩⟩
  have:=World.ownsRow.cells h (g:=g) (by rw[hv];rfl) j u hj
  rwa [Addr.add_mid] at this
theorem AZ.rows {v:Value} {l:List α} (h:AZ E size enc w base v l) {bytes:Nat} {at_:α->List Value->Prop} (hk:∀x,(enc x).length=size) (hl:EF bytes l.length) (ha:∀x∈l,at_ x (enc x)):∃A c,v = .slice A l.length c/\AY size bytes at_ w A l:=by
 obtain ⟨A,c,hv,_,_,hr⟩:=h.reads;refine ⟨A,c,hv,hl,fun hn=>?_⟩
 obtain ⟨g,hA,_,hrange⟩:=hr hn;exact ⟨g,0,hA,fun i x hx=>⟨enc x,ha x (ABp hx),Py hk hrange hx⟩⟩
end
def encI (x:Int):List Value:=[.int .i64 x]
def encS (s:ByteArray):List Value:=[.string s]
def ADb (p:Int×Int):List Value:=[.int .i64 p.1,.int .i64 p.2]
def JL (w:World) (A:zo) (l:List Int):Prop:=AY 1 8 (fun x cs=>cs=encI x) w A l
def JK (w:World) (A:zo) (l:List ByteArray):Prop:=AY 1 16 (fun x cs=>Cw x/\cs=encS x) w A l
def QY (w:World) (A:zo) (l:List (Int×Int)):Prop:=AY 2 16 (fun x cs=>cs=ADb x) w A l
theorem JL.below {l:List Int} (h:JL w A l) (hb:Below w.heap.size w w'):JL w' A l:=AY.imp h (fun _ _ _ h=>h) hb
theorem JK.below {l:List ByteArray} (h:JK w A l) (hb:Below w.heap.size w w'):JK w' A l:=AY.imp h (fun _ _ _ h=>h) hb
theorem QY.below {l:List (Int×Int)} (h:QY w A l) (hb:Below w.heap.size w w'):QY w' A l:=AY.imp h (fun _ _ _ h=>h) hb
theorem JL.fF {l:List Int} (h:JL w A l) (hi:i<l.length):∃b o,A=some ⟨b,o,none⟩/\w.cell? ⟨b,o+i,none⟩=some (.int .i64 l[i]):=by
 obtain ⟨b,o,cs,e,rfl,h2⟩:=AY.at_ h hi;have:=h2 0 _ rfl;rw[Nat.mul_one] at this;exact ⟨b,o,e,this⟩
theorem JK.fF {l:List ByteArray} (h:JK w A l) (hi:i<l.length):∃b o,A=some ⟨b,o,none⟩/\Cw l[i]/\w.cell? ⟨b,o+i,none⟩=some (.string l[i]):=by
 obtain ⟨b,o,cs,e,⟨h0,rfl⟩,h2⟩:=AY.at_ h hi;have:=h2 0 _ rfl;rw[Nat.mul_one] at this;exact ⟨b,o,e,h0,this⟩
theorem QY.at2 {l:List (Int×Int)} (h:QY w A l) (hi:i<l.length):∃b o,A=some ⟨b,o,none⟩/\w.cell? ⟨b,o+i * 2,none⟩=some (.int .i64 (l[i]).1)/\w.cell? ⟨b,o+i * 2+1,none⟩=some (.int .i64 (l[i]).2):=by
 obtain ⟨b,o,cs,e,rfl,h2⟩:=AY.at_ h hi;exact ⟨b,o,e,h2 0 _ rfl,h2 1 _ rfl⟩
abbrev WB:=AZ 3 1 encI
abbrev ABJ:=AZ 9 1 encS
theorem Vs:Elem 68 3 1 8:=⟨underlying68,⟨.int .i64 0,by kernel_rfl,rfl⟩,by omega⟩
theorem WB.ints {base:Nat} {v:Value} {l:List Int} (h:WB w base v l) (hl:EF 8 l.length):∃A c,v = .slice A l.length c/\JL w A l:=AZ.rows h (fun _=>rfl) hl fun _ _=>rfl
theorem ABJ.strs {base:Nat} {v:Value} {l:List ByteArray} (h:ABJ w base v l) (hl:EF 16 l.length) (hs:∀s∈l,Cw s):∃A c,v = .slice A l.length c/\JK w A l:=AZ.rows h (fun _=>rfl) hl fun s hm=>⟨hs s hm,rfl⟩
theorem AY.cells {α:Type} {at_:α->List Value->Prop} {l:List α} (hk:∀x cs,at_ x cs->cs.length=k) (h:AY k bytes at_ w A l):
  ∃css:List (List Value),css.length=l.length/\(∀ (i:Nat) x cs,l[i]? = some x->css[i]? = some cs->at_ x cs)/\(∀cs∈css,cs.length=k)/\(l≠[]->∃b o,A=some ⟨b,o,none⟩/\w.rangeAt b o css.flatten):=by
 by_cases hn:l=[]
 ·subst hn
  exact ⟨[],rfl,(fun i x cs h=>by simp at h),(fun _ h=>by cases h),fun h=>absurd rfl h⟩
 obtain ⟨b,o,e,hi⟩:=h.2 hn;have key:∀ (l:List α) (o:Nat),(∀i x,l[i]? = some x->∃cs,at_ x cs/\w.rangeAt b (o+i * k) cs)->∃css:List (List Value),css.length=l.length/\(∀ (i:Nat) x cs,l[i]? = some x->css[i]? = some cs->at_ x cs)/\(∀cs∈css,cs.length=k)/\w.rangeAt b o css.flatten:=by
  intro l
  induction l with
  | nil=>intro o _;exact ⟨[],rfl,(fun i x cs h=>by simp at h),(fun _ h=>by cases h),fun j u hj=>by simp at hj⟩
  | cons x r ih =>
   intro o hi
   obtain ⟨cs,h1,h2⟩:=hi 0 x rfl;obtain ⟨css,g1,g2,g3,g4⟩:=ih (o+k) (fun i y hy=>by
    obtain ⟨cs,h1,h2⟩:=hi (i+1) y (by simpa using hy)
    exact ⟨cs,h1,by rwa [show o+k+i * k=o+(i+1) * k by rw[Nat.succ_mul];omega]⟩)
   refine ⟨cs::css,by simp[g1],fun i y ds hy hd=>?_,fun ds hd=>?_,fun j u hj=>?_⟩
   ·cases i with
    | zero =>
     obtain rfl:x=y:=by simpa using hy
     obtain rfl:cs=ds:=by simpa using hd
     exact h1
    | succ i=>exact g2 i y ds (by simpa using hy) (by simpa using hd)
   ·rcases ABP.1 hd with e|e
    ·rw[e];exact hk x cs h1
    ·exact g3 ds e
   ·rw[List.flatten_cons] at hj
    by_cases hlt:j<cs.length
    ·rw[ABo hlt] at hj
     have:=h2 j u hj
     simpa using this
    ·rw[ABm (by omega)] at hj
     have:=g4 (j - cs.length) u hj;rw[hk x cs h1] at this hlt
     rwa [show o+k+(j - k)=o+j by omega] at this
 obtain ⟨css,g1,g2,g3,g4⟩:=key l o hi;exact ⟨css,g1,g2,g3,fun _=>⟨b,o,e,g4⟩⟩
abbrev WC (E size:Nat):=AZ (α:=List Value) E size (fun cs=>cs)
theorem Sj {T E:TypeId} (hE:Elem T E size bytes) (w:World) (base:Nat) (ty:TypeId) (v:Value) (n:Nat) (xs:List Value) (h:w.ownsRow base E size v n xs) (a:Addr) (m c:Nat) (news:List Value) (hl:news.length=m * size) (hnews:∀j u,news[j]? = some u->w.cell? (a.add j)=some u) (h1:∀u∈news,u.oneCell'=true) (hlen:n+m<=9223372036854775807) (hby:(n+m) * bytes<=140737488355328) (hb:base<=w.heap.size):
  ∃v' w',(Builtin.append_ #[T,T] ty #[v,.slice (some a) m c]).run prog w = .ok v' w'/\w'.ownsRow base E size v' (n+m) (xs++news)/\w.grownBy w' v.ownBlock:=by
 obtain ⟨z,QJ,hzs⟩:=hE.info;obtain ⟨i0,hi,hz0,hz1,hz2⟩:=info_parts QJ;obtain ⟨v',w',hr,h2,h3,_,_⟩:=run_append_own_at (P:=prog) w base T ty E i0 z size bytes hE.under hi hz0 hz1 hz2 hzs hE.pos v n xs h a m c news hl hnews h1 (by unfold maxLen;omega) hby hb
 exact ⟨v',w',hr,h2,h3⟩
theorem Fz {T E:TypeId} (hE:Elem T E size bytes) (w:World) {ops:Array Oper} {rest:List Oper} {op:Oper} {a:Act} {Q:Exit->Act->World->Prop} (hgd:op.guard=none) (s x:Operand) (ho:op.op = .call { callee := .builtin .append,args:=#[s,x],argTypes:=#[T,T] }) (base:Nat) (v:Value) (n:Nat) (xs:List Value) (hs:a.eval s=v) (h:w.ownsRow base E size v n xs) (d:Addr) (m c:Nat) (news:List Value) (hx:a.eval x = .slice (some d) m c) (hl:news.length=m * size) (hnews:∀j u,news[j]? = some u->w.cell? (d.add j)=some u) (h1:∀u∈news,u.oneCell'=true) (hlen:n+m<=9223372036854775807) (hby:(n+m) * bytes<=140737488355328) (hb:base<=w.heap.size) (hk:∀v' w',w'.ownsRow base E size v' (n+m) (xs++news)->w.grownBy w' v.ownBlock->wpList prog ops Q rest (a.put op.dst v') w'):wpList prog ops Q (op::rest) a w:=by
 refine wpList_plain hgd fun K hK=>?_
 obtain ⟨v',w',hr,h2,h3⟩:=Sj hE w base op.type v n xs h d m c news hl hnews h1 hlen hby hb;unfold Oper.wp execOp;simp only[ho,resolve,invoke,builtin,Sem.run_bind,Sem.run_pure,Result.andThen_ok,List.map_toArray,ABh,List.map_nil,hs,hx,hr];exact hK _ _ (hk v' w' h2 h3)
theorem Cy {k:Nat}:∀ (css:List (List Value)),(∀cs∈css,cs.length=k)->css.flatten.length=css.length * k
 | [],_=>by simp
 | c::r,h=>by
  rw[List.flatten_cons,ABF,Cy r (fun cs hc=>h cs (ABZ _ hc)),h c ABT,AAI,Nat.succ_mul];omega
def OE (E k:Nat) (css:List (List Value)) (w:World) (e:Ending) (w':World):Prop:=∃v,e = .returned v/\WC E k w' w.heap.size v css/\Below w.heap.size w w'
theorem NW (w:World) (base E k:Nat) (hb:base<=w.heap.size):WC E k (w.alloc (.cells #[] E)) base (.slice (some ⟨w.heap.size,0,none⟩) 0 0) [] :=
 ⟨by simp,.inr ⟨w.heap.size,0,#[],rfl,hb,AAA w _,AAF _,Nat.zero_le _,by simp,by simp⟩⟩
theorem C9 (css:List (List Value)):css.flatMap (fun cs=>cs)=css.flatten:=by simp[List.flatMap]
theorem lX:Elem 84 92 2 24:=⟨underlying84,⟨.agg #[.int .i64 0,.string ⟨#[]⟩],by kernel_rfl,rfl⟩,by omega⟩
theorem Vr:Elem 26 97 2 24:=⟨underlying26,⟨.agg #[.int .i64 0,.string ⟨#[]⟩],by kernel_rfl,rfl⟩,by omega⟩
theorem AV:Elem 25 28 8 120:=⟨underlying25,⟨zeroV.v none 0 none 0 none 0,by kernel_rfl,rfl⟩,by omega⟩
theorem Me:Elem 85 118 13 160:=⟨underlying85,⟨(Ac.mk 0 ⟨#[]⟩ 0 false false zeroV).v none 0 none 0 none 0,by kernel_rfl,rfl⟩,by omega⟩
theorem QT (css:List (List Value)) (hk:∀cs∈css,cs.length=8) (h1:∀cs∈css,∀u∈cs,u.oneCell'=true) (hn:EF 120 css.length) (A:zo) (c:Nat) (w:World) (hA:css≠[]->∃b o,A=some ⟨b,o,none⟩/\w.rangeAt b o css.flatten) :
  Calls prog 145 #[.slice A css.length c] w (OE 28 8 css w):=by
 have HA:=zh hA
 cases A with
 | none =>
  have hln:css=[]:=by
   by_cases e:css=[]
   ·exact e
   ·obtain ⟨b,o,e2,_⟩:=hA e;cases e2
  subst hln;clear hA hk h1 hn;have hnil:=fun (w:World)=>Lib.run_eql_slice_nil (P:=prog) w 25 28 none 0 c 0 0 underlying25
  go_enter func145,ntmps145
  go_wp2
  go_ret
  exact ⟨_,rfl,AZ.nil _ _,Pe _ _⟩
 | some a =>
  have HK:=zh (show css.flatten.length=css.length * 8 from Cy css hk);have HR:Hid (∀j u,css.flatten[j]? = some u->(w.alloc (.cells #[] 28)).cell? (a.add j)=some u):=fun j u hj=>by
   have hne:css≠[]:=fun e=>by subst e;simp at hj
   obtain ⟨b,o,e,hr⟩:=hA hne
   cases e
   rw[Addr.add_mid];exact BJ (zD w _) hr j u hj
  have H1:Hid (∀u∈css.flatten,u.oneCell'=true):=fun u hu=>by
   obtain ⟨cs,h2,h3⟩:=List.mem_flatten.1 hu;exact h1 cs h2 u h3
  have HN:Hid (0+css.length<=9223372036854775807):=by have:=hn;unfold EF at this;show 0+css.length<=9223372036854775807;omega
  have nE:Hid ((0+css.length) * 120<=140737488355328):=by have:=hn;unfold EF at this;show (0+css.length) * 120<=140737488355328;omega
  clear hA hk h1 hn;have hnil:=fun (w:World)=>Lib.run_eql_slice_nil (P:=prog) w 25 28 (some a) css.length c 0 0 underlying25
  have HO:Hid (WC 28 8 (w.alloc (.cells #[] 28)) w.heap.size (.slice (some ⟨w.heap.size,0,none⟩) 0 0) []):=NW w _ _ _ (AAF _)
  go_enter func145,ntmps145
  go_wp2_with (at_builtin;refine Fz AV _ rfl (.tmp 5) (.tmp 6) rfl w.heap.size _ 0 [] rfl ?_ a css.length c css.flatten rfl ?_ ?_ ?_ ?_ ?_ ?_ ?_;(exact HO.O);(exact HK.O);(exact HR.O);(exact H1.O);(exact HN.O);(exact nE.O);(simp);intro v2 w2 ho2 hg2)
  go_ret
  refine ⟨_,rfl,?_,((zD w _)).grown hg2 (by simp) HO.O.lt⟩
  show World.ownsRow _ _ _ _ _ _ _
  rw[C9];rw[Nat.zero_add,List.nil_append] at ho2;exact ho2
theorem Ti (css:List (List Value)) (hk:∀cs∈css,cs.length=2) (h1:∀cs∈css,∀u∈cs,u.oneCell'=true) (hn:EF 24 css.length) (A:zo) (c:Nat) (w:World) (hA:css≠[]->∃b o,A=some ⟨b,o,none⟩/\w.rangeAt b o css.flatten) :
  Calls prog 144 #[.slice A css.length c] w (OE 97 2 css w):=by
 have HA:=zh hA
 cases A with
 | none =>
  have hln:css=[]:=by
   by_cases e:css=[]
   ·exact e
   ·obtain ⟨b,o,e2,_⟩:=hA e;cases e2
  subst hln;clear hA hk h1 hn;have hnil:=fun (w:World)=>Lib.run_eql_slice_nil (P:=prog) w 26 97 none 0 c 0 0 underlying26
  go_enter func144,ntmps144
  go_wp2
  go_ret
  exact ⟨_,rfl,AZ.nil _ _,Pe _ _⟩
 | some a =>
  have HK:=zh (show css.flatten.length=css.length * 2 from Cy css hk);have HR:Hid (∀j u,css.flatten[j]? = some u->(w.alloc (.cells #[] 97)).cell? (a.add j)=some u):=fun j u hj=>by
   have hne:css≠[]:=fun e=>by subst e;simp at hj
   obtain ⟨b,o,e,hr⟩:=hA hne
   cases e
   rw[Addr.add_mid];exact BJ (zD w _) hr j u hj
  have H1:Hid (∀u∈css.flatten,u.oneCell'=true):=fun u hu=>by
   obtain ⟨cs,h2,h3⟩:=List.mem_flatten.1 hu;exact h1 cs h2 u h3
  have HN:Hid (0+css.length<=9223372036854775807):=by have:=hn;unfold EF at this;show 0+css.length<=9223372036854775807;omega
  have nE:Hid ((0+css.length) * 24<=140737488355328):=by have:=hn;unfold EF at this;show (0+css.length) * 24<=140737488355328;omega
  clear hA hk h1 hn;have hnil:=fun (w:World)=>Lib.run_eql_slice_nil (P:=prog) w 26 97 (some a) css.length c 0 0 underlying26
  have HO:Hid (WC 97 2 (w.alloc (.cells #[] 97)) w.heap.size (.slice (some ⟨w.heap.size,0,none⟩) 0 0) []):=NW w _ _ _ (AAF _)
  go_enter func144,ntmps144
  go_wp2_with (at_builtin;refine Fz Vr _ rfl (.tmp 5) (.tmp 6) rfl w.heap.size _ 0 [] rfl ?_ a css.length c css.flatten rfl ?_ ?_ ?_ ?_ ?_ ?_ ?_;(exact HO.O);(exact HK.O);(exact HR.O);(exact H1.O);(exact HN.O);(exact nE.O);(simp);intro v2 w2 ho2 hg2)
  go_ret
  refine ⟨_,rfl,?_,((zD w _)).grown hg2 (by simp) HO.O.lt⟩
  show World.ownsRow _ _ _ _ _ _ _
  rw[C9];rw[Nat.zero_add,List.nil_append] at ho2;exact ho2
def Low (w w':World):Prop:=∀q,q<w.heap.size->w'.heap[q]? = w.heap[q]?
theorem RQ (hb:Low w w') {q:Nat} {cs:List Value} (h:w.rangeAt q o cs):w'.rangeAt q o cs:=fun j u hj=>by
 have:=h j u hj;rw[World.cell?_of_block (w:=w) (w':=w') (a:=⟨q,o+j,none⟩) (hb q (zL this))];exact this
theorem AY.low {α:Type} {at_ at':α->List Value->Prop} {l:List α} (h:AY k bytes at_ w A l) (ha:∀x∈l,∀cs,at_ x cs->at' x cs) (hb:Low w w'):AY k bytes at' w' A l:=by
 refine ⟨h.1,fun hn=>?_⟩
 obtain ⟨q,o,e,hi⟩:=h.2 hn;refine ⟨q,o,e,fun i x hx=>?_⟩
 obtain ⟨cs,h1,h2⟩:=hi i x hx;exact ⟨cs,ha x (ABp hx) cs h1,RQ hb h2⟩
theorem FB.low (h:FB w A l) (hb:Low w w'):FB w' A l:=AY.low h (fun _ _ _ h=>h) hb
theorem J5.low {l:List Bu} (h:J5 w A l) (hb:Low w w'):J5 w' A l:=AY.low h (fun _ _ _ h=>h) hb
mutual
theorem Val.Lb {w w':World} (hb:Low w w'):∀ (x:Val) (cs:List Value),x.At w cs->x.At w' cs
 | .mk k b' i s d ks is r,cs,h=>by
  rw[Val.At] at h ⊢;obtain ⟨h0,A1,c1,A2,c2,A3,c3,e,⟨l1,h1⟩,⟨l2,h2⟩,h3⟩:=h;refine ⟨h0,A1,c1,A2,c2,A3,c3,e,⟨l1,fun hn=>?_⟩,⟨l2,fun hn=>?_⟩,h3.low hb⟩
  ·obtain ⟨q,o,e,hi⟩:=h1 hn
   exact ⟨q,o,e,Val.X0 hb ks q o hi⟩
  ·obtain ⟨q,o,e,hi⟩:=h2 hn
   exact ⟨q,o,e,Val.X0 hb is q o hi⟩
theorem Val.X0 {w w':World} (hb:Low w w'):∀ (l:List Val) (q o:Nat),Val.In w l q o->Val.In w' l q o
 | [],_,_,_=>by rw[Val.In];trivial
 | v::l,q,o,h=>by
  rw[Val.In] at h ⊢;obtain ⟨⟨cs,h1,h2⟩,h3⟩:=h;exact ⟨⟨cs,Val.Lb hb v cs h1,RQ hb h2⟩,Val.X0 hb l q (o+8) h3⟩
end
theorem Cz.low {l:List Val} (h:Cz w A l) (hb:Low w w'):Cz w' A l:=AY.low h (fun x _ cs h=>Val.Lb hb x cs h) hb
theorem Ar.low (h:Ar w x A1 A2 A3) (hb:Low w w'):Ar w' x A1 A2 A3:=⟨h.str,h.keys.low hb,h.items.low hb,h.rest.low hb⟩
theorem WH.low {x:Ac} (h:WH w x A1 A2 A3) (hb:Low w w'):WH w' x A1 A2 A3:=⟨h.name,h.dflt.low hb⟩
theorem Ac.Lb (hb:Low w w') {m:Ac} {cs:List Value}:m.At w cs->m.At w' cs:=fun ⟨A1,c1,A2,c2,A3,c3,e,h⟩=>⟨A1,c1,A2,c2,A3,c3,e,h.low hb⟩
theorem GI.low {l:List Ac} (h:GI w A l) (hb:Low w w'):GI w' A l:=AY.low h (fun _ _ _=>Ac.Lb hb) hb
theorem J4.low {x:Aa} (h:J4 w x A1 A2) (hb:Low w w'):J4 w' x A1 A2:=⟨h.name,h.AX.low hb,h.AA.low hb⟩
theorem Aa.Lb (hb:Low w w') {m:Aa} {cs:List Value}:m.At w cs->m.At w' cs:=fun ⟨A1,c1,A2,c2,e,h⟩=>⟨A1,c1,A2,c2,e,h.low hb⟩
theorem DC.low {l:List Aa} (h:DC w A l) (hb:Low w w'):DC w' A l:=AY.low h (fun _ _ _=>Aa.Lb hb) hb
def Off (S:Nat->Prop) (w:World) (P:World->Prop):Prop:=∀w',(∀q,¬ S q->q<w.heap.size->w'.heap[q]? = w.heap[q]?)->P w'
variable {S:Nat->Prop} {P:World->Prop}
theorem Off.O (h:Off S w P):P w:=h w fun _ _ _=>rfl
theorem Off.mono {S':Nat->Prop} (h:Off S w P) (hs:∀q,q<w.heap.size->S' q->S q):Off S' w P:=fun w' hw=>h w' fun q hq hl=>hw q (fun h'=>hq (hs q hl h')) hl
theorem Off.imp {Q:World->Prop} (h:Off S w P) (hi:∀w',P w'->Q w'):Off S w Q:=fun w' hw=>hi w' (h w' hw)
theorem Off.step (h:Off S w P) (hs:w.heap.size<=w1.heap.size) (hk:∀q,¬ S q->q<w.heap.size->w1.heap[q]? = w.heap[q]?):Off S w1 P :=
 fun w' hw=>h w' fun q hq hl=>(hw q hq (by omega)).trans (hk q hq hl)
theorem Off.low (h:Off S w P) (hb:Below w.heap.size w w1):Off S w1 P:=h.step hb.size fun q _ hl=>hb.block q hl
theorem Off.alloc (h:Off S w P) (o:Obj):Off S (w.alloc o) P:=h.low (zD w o)
theorem Off.old (hp:∀u,Low w u->P u) (hb:Below w.heap.size w w1):Off (fun q=>w.heap.size<=q) w1 P :=
 fun w' hw=>hp w' fun q hq=>(hw q (by omega) (by have:=hb.size;omega)).trans (hb.block q hq)
theorem Off.set (h:Off S w P) {a:Addr} (v:Value) (hS:S a.block):Off S (w.setCell a v) P :=
 h.step (by simp) fun q hq _=>AAE w a q v (fun e=>hq (e▸hS))
theorem Off.grown (h:Off S w P) {row:Option Nat} (hg:w.grownBy w1 row) (hS:∀k,row=some k->S k):Off S w1 P :=
 h.step hg.size fun _ hq hl=>yA hg hl fun k hk e=>hq (e▸hS k hk)
section
variable {P:Program} {ops:Array Oper} {Q:Exit->Act->World->Prop} {md:Region.Mode} {S:World->Prop} {s:Nat}
def GA (P:Program) (md:Region.Mode) (ops:Array Oper) (Q:Exit->Act->World->Prop) (S:World->Prop) (s:Nat):Nat->Array Bool->Act->World->Prop
 | 0,listed,a,w=>Region.ready md ops listed=[]/\Q .normal a w
 | fuel+1,listed,a,w=>(Region.ready md ops listed=[]->Q .normal a w) /\
  ∀i∈Region.ready md ops listed,wpOp P ops Q i (fun a' w'=>((listed.setIfInBounds i true).getD s true=false->S w')/\GA P md ops Q S s fuel (listed.setIfInBounds i true) a' w') a w
theorem Vz:∀ (fuel:Nat) (listed:Array Bool) (a:Act) (w:World),GA P md ops Q S s fuel listed a w->wpAny P md ops Q fuel listed a w
 | 0,_,_,_,h=>h
 | fuel+1,_,_,_,h=>⟨h.1,fun i hi=>wpOp_mono (fun a' w' h'=>Vz fuel _ a' w' h'.2) (h.2 i hi)⟩
variable {listed:Array Bool} {i:Nat}
theorem getD_set_true {s:Nat} (h:listed.getD s true=true):(listed.setIfInBounds i true).getD s true=true:=by
 by_cases e:i=s
 ·subst e
  simp only[Array.getD_eq_getD_getElem?,Array.getElem?_setIfInBounds_self]
  split <;> simp
 ·rw[getD_set_ne true e];exact h
theorem Rz:∀ (fuel:Nat) (listed:Array Bool) (a:Act) (w:World),listed.getD s true=true->wpAny P md ops Q fuel listed a w->GA P md ops Q S s fuel listed a w
 | 0,_,_,_,_,h=>h
 | fuel+1,listed,_,_,hs,h=>⟨h.1,fun i hi=>wpOp_mono (fun a' w' h'=>⟨fun e=>(by rw[getD_set_true hs] at e;cases e),Rz fuel _ a' w' (getD_set_true hs) h'⟩) (h.2 i hi)⟩
variable {oi:Oper}
theorem YM {os:Oper} {v:Value} (hi:ops[i]? = some oi) (hos:ops[s]? = some os) (hws:∃e∈os.after,Region.binds md e=true/\e.on=i) (hsel:∀ (j:Nat) (o:Oper) cs b,ops[j]? = some o->o.op ≠ .select cs b) (hQ:∀c a w,Q (.panic c) (a.put oi.dst v) w->Q (.panic c) a w):
  ∀ (fuel:Nat) (listed:Array Bool) (a:Act) (w:World),
   (∀j oj,ops[j]? = some oj->j≠i->listed.getD j true=false->(∀e∈oj.after,Region.binds md e=true->e.on≠i)->oi.apart ops oj=true) ->
   i∈Region.ready md ops listed->listed.getD s true=false->i≠s->YieldsIf P ops S oi v a->S w ->
   GA P md ops Q S s fuel (listed.setIfInBounds i true) (a.put oi.dst v) w->GA P md ops Q S s (fuel+1) listed a w:=by
 intro fuel
 induction fuel with
 | zero =>
  intro listed a w _ hr _ _ hy hS H
  refine ⟨fun h=>(by rw[h] at hr;cases hr),fun j hj=>?_⟩
  by_cases hji:j=i
  ·subst hji;exact hy.wpOp hi hS ⟨fun _=>hS,H⟩
  ·have:=ready_mono hj hji
   rw[H.1] at this
   cases this
 | succ fuel ih =>
  intro listed a w hfree hr hls his hy hS H
  refine ⟨fun h=>(by rw[h] at hr;cases hr),fun j hj=>?_⟩
  by_cases hji:j=i
  ·subst hji;exact hy.wpOp hi hS ⟨fun _=>hS,H⟩
  ·have h1:=H.2 j (ready_mono hj hji)
   obtain ⟨hjun,oj,hoj,hall⟩:=mem_ready.1 hj;have hnot:∀e∈oj.after,Region.binds md e=true->e.on≠i:=fun e he hb heq=>by
    have h1:=hall e he hb;have h0:=(mem_ready.1 hr).1;rw[heq] at h1
    rcases Nat.lt_or_ge i listed.size with h'|h'
    ·simp[h'] at h0 h1;rw[h0] at h1;cases h1
    ·simp[Array.getElem?_eq_none h'] at h1
   have hjs:j≠s:=fun e=>by
    subst e;rw[hos] at hoj
    cases hoj
    obtain ⟨e,h1,h2,h3⟩:=hws;exact hnot e h1 h2 h3
   have h2:=wpOp_putIf hoj (hfree j oj hoj hji hjun hnot) (fun cs b=>hsel i oi cs b hi) (fun cs b=>hsel j oj cs b hoj) hQ hy h1
   have hfree':∀k ok,ops[k]? = some ok->k≠i->(listed.setIfInBounds j true).getD k true=false ->
     (∀e∈ok.after,Region.binds md e=true->e.on≠i)->oi.apart ops ok=true:=fun k ok hk hki hun hno=>by
    refine hfree k ok hk hki ?_ hno
    by_cases hjk:j=k
    ·subst hjk;exact hjun
    ·rw[getD_set_ne true hjk] at hun;exact hun
   have ADI:(listed.setIfInBounds j true).getD s true=false:=by rw[getD_set_ne true hjs];exact hls
   refine wpOp_mono (fun a' w' h3=>?_) h2
   have hS':S w':=h3.2.1 (by rw[getD_set_ne true hjs,getD_set_ne true his];exact hls)
   refine ⟨fun _=>hS',ih (listed.setIfInBounds j true) a' w' hfree' (ready_mono hr (Ne.symm hji)) ADI his h3.1 hS' ?_⟩
   rw[Array.setIfInBounds_comm _ _ hji];exact h3.2.2
theorem V3 {v:Value} (hi:ops[i]? = some oi) (hsel:∀ (j:Nat) (o:Oper) cs b,ops[j]? = some o->o.op ≠ .select cs b) (hQ:∀c a w,Q (.panic c) (a.put oi.dst v) w->Q (.panic c) a w):
  ∀ (fuel:Nat) (listed:Array Bool) (a:Act) (w:World),
   (∀j oj,ops[j]? = some oj->j≠i->listed.getD j true=false->(∀e∈oj.after,Region.binds md e=true->e.on≠i)->oi.apart ops oj=true) ->
   i∈Region.ready md ops listed->i≠s->YieldsIf P ops (fun _=>True) oi v a->(listed.getD s true=false->S w) ->
   GA P md ops Q S s fuel (listed.setIfInBounds i true) (a.put oi.dst v) w->GA P md ops Q S s (fuel+1) listed a w:=by
 intro fuel
 induction fuel with
 | zero =>
  intro listed a w _ hr his hy hS H
  refine ⟨fun h=>(by rw[h] at hr;cases hr),fun j hj=>?_⟩
  by_cases hji:j=i
  ·subst hji;exact hy.wpOp hi trivial ⟨fun h=>hS (by rw[getD_set_ne true his] at h;exact h),H⟩
  ·have:=ready_mono hj hji
   rw[H.1] at this
   cases this
 | succ fuel ih =>
  intro listed a w hfree hr his hy hS H
  refine ⟨fun h=>(by rw[h] at hr;cases hr),fun j hj=>?_⟩
  by_cases hji:j=i
  ·subst hji;exact hy.wpOp hi trivial ⟨fun h=>hS (by rw[getD_set_ne true his] at h;exact h),H⟩
  ·have h1:=H.2 j (ready_mono hj hji)
   obtain ⟨hjun,oj,hoj,hall⟩:=mem_ready.1 hj;have hnot:∀e∈oj.after,Region.binds md e=true->e.on≠i:=fun e he hb heq=>by
    have h1:=hall e he hb;have h0:=(mem_ready.1 hr).1;rw[heq] at h1
    rcases Nat.lt_or_ge i listed.size with h'|h'
    ·simp[h'] at h0 h1;rw[h0] at h1;cases h1
    ·simp[Array.getElem?_eq_none h'] at h1
   have h2:=wpOp_putIf hoj (hfree j oj hoj hji hjun hnot) (fun cs b=>hsel i oi cs b hi) (fun cs b=>hsel j oj cs b hoj) hQ hy h1
   have hfree':∀k ok,ops[k]? = some ok->k≠i->(listed.setIfInBounds j true).getD k true=false ->
     (∀e∈ok.after,Region.binds md e=true->e.on≠i)->oi.apart ops ok=true:=fun k ok hk hki hun hno=>by
    refine hfree k ok hk hki ?_ hno
    by_cases hjk:j=k
    ·subst hjk;exact hjun
    ·rw[getD_set_ne true hjk] at hun;exact hun
   refine wpOp_mono (fun a' w' h3=>?_) h2
   have hS':(listed.setIfInBounds j true).getD s true=false->S w':=fun hl=>h3.2.1 (by
    rw[<-Array.setIfInBounds_comm _ _ hji,getD_set_ne true his];exact hl)
   refine ⟨hS',ih (listed.setIfInBounds j true) a' w' hfree' (ready_mono hr (Ne.symm hji)) his h3.1 hS' ?_⟩;rw[Array.setIfInBounds_comm _ _ hji];exact h3.2.2
variable {a:Act} {fuel:Nat} {w:World}
theorem YL {v:Value} (hi:ops[i]? = some oi) (hs:Region.noSelect ops=true) (hf:Region.free md ops listed i=true) (hr:(Region.ready md ops listed).contains i=true) (hw:(i != s)=true) (hQ:∀c a w,Q (.panic c) (a.put oi.dst v) w->Q (.panic c) a w) (hy:YieldsIf P ops (fun _=>True) oi v a) (hS:S w) (h:GA P md ops Q S s fuel (listed.setIfInBounds i true) (a.put oi.dst v) w):GA P md ops Q S s (fuel+1) listed a w :=
 V3 hi (Region.noSelect_spec hs) hQ fuel listed a w (Region.free_spec hi hf) (by simpa using hr) (by simpa using hw) hy (fun _=>hS) h
def waits (md:Region.Mode) (ops:Array Oper) (s i:Nat):Bool:=match ops[s]? with
 | some o=>o.after.any fun e=>Region.binds md e&&e.on==i
 | none=>false
theorem dV {v:Value} (hi:ops[i]? = some oi) (hs:Region.noSelect ops=true) (hf:Region.free md ops listed i=true) (hr:(Region.ready md ops listed).contains i=true) (hw:(waits md ops s i && !listed.getD s true&&i != s)=true) (hQ:∀c a w,Q (.panic c) (a.put oi.dst v) w->Q (.panic c) a w) (hy:YieldsIf P ops S oi v a) (hS:S w) (h:GA P md ops Q S s fuel (listed.setIfInBounds i true) (a.put oi.dst v) w):GA P md ops Q S s (fuel+1) listed a w:=by
 simp only[AAD,Bool.not_eq_true',bne_iff_ne,ne_eq] at hw;obtain ⟨⟨h1,h2⟩,h3⟩:=hw;unfold waits at h1
 split at h1
 ·rename_i os hos
  obtain ⟨e,he,hb⟩:=Array.any_eq_true'.1 h1;simp only[AAD,ABz] at hb;exact YM hi hos ⟨e,he,hb⟩ (Region.noSelect_spec hs) hQ fuel listed a w (Region.free_spec hi hf) (by simpa using hr) h2 h3 hy hS h
 ·cases h1
theorem ACr (i:Nat) (v:Value) (hi:ops[i]? = some oi) (hc:(Region.noSelect ops&&Region.free md ops listed i&&(Region.ready md ops listed).contains i&&i != s)=true) (hy:YieldsIf P ops (fun _=>True) oi v a) (hS:S w) (h:GA P md ops Q S s fuel (listed.setIfInBounds i true) (a.put oi.dst v) w) (hQ:∀c a w,Q (.panic c) (a.put oi.dst v) w->Q (.panic c) a w:=by exact fun _ _ _ h=>h):GA P md ops Q S s (fuel+1) listed a w:=by
 rw[AAD,AAD,AAD] at hc;exact YL hi hc.1.1.1 hc.1.1.2 hc.1.2 hc.2 hQ hy hS h
theorem tkB (i:Nat) (v:Value) (hi:ops[i]? = some oi) (hc:(Region.noSelect ops&&Region.free md ops listed i&&(Region.ready md ops listed).contains i&&(waits md ops s i && !listed.getD s true&&i != s))=true) (hy:YieldsIf P ops S oi v a) (hS:S w) (h:GA P md ops Q S s fuel (listed.setIfInBounds i true) (a.put oi.dst v) w) (hQ:∀c a w,Q (.panic c) (a.put oi.dst v) w->Q (.panic c) a w:=by exact fun _ _ _ h=>h):GA P md ops Q S s (fuel+1) listed a w:=by
 rw[AAD,AAD,AAD] at hc;exact dV hi hc.1.1.1 hc.1.1.2 hc.1.2 hc.2 hQ hy hS h
def AB (P:Program) (md:Region.Mode) (ops:Array Oper) (Q:Exit->Act->World->Prop) (S:World->Prop) (s fuel:Nat) (listed:Array Bool) (a:Act) (w:World) (rs:List Nat):Prop :=
 ∀i∈rs,wpOp P ops Q i (fun a' w'=>((listed.setIfInBounds i true).getD s true=false->S w')/\GA P md ops Q S s fuel (listed.setIfInBounds i true) a' w') a w
theorem AB.nil:AB P md ops Q S s fuel listed a w []:=fun _ h=>by cases h
theorem AB.cons {fuel:Nat} {listed:Array Bool} {a:Act} {w:World} {i:Nat} {o:Oper} {rs:List Nat} (ho:ops[i]? = some o)
  (h:∀K':Act->World->Prop,Shut (∀a w,S w->(S w->GA P md ops Q S s fuel (listed.setIfInBounds i true) a w)->K' a w)->if Region.wanted o (yielded ops a.tmps)=true then Oper.wp P o a w K' Q else K' (a.put o.dst undef) w)
  (hs:AB P md ops Q S s fuel listed a w rs):AB P md ops Q S s fuel listed a w (i::rs):=fun j hj=>by
 rcases ABP.1 hj with rfl|hj
 ·exact wpOp_step ho (fun K' hK=>h K' (fun a w hS hW=>hK a w ⟨fun _=>hS,hW hS⟩))
 ·exact hs j hj
theorem AB.last {o:Oper} {rs:List Nat} (ho:ops[s]? = some o) (hl:(listed.setIfInBounds s true).getD s true=true) (h:∀K':Act->World->Prop,Shut (∀a w,wpAny P md ops Q fuel (listed.setIfInBounds s true) a w->K' a w)->if Region.wanted o (yielded ops a.tmps)=true then Oper.wp P o a w K' Q else K' (a.put o.dst undef) w) (hs:AB P md ops Q S s fuel listed a w rs):AB P md ops Q S s fuel listed a w (s::rs):=fun j hj=>by
 rcases ABP.1 hj with rfl|hj
 ·exact wpOp_step ho (fun K' hK=>h K' (fun a w hW=>hK a w ⟨fun e=>(by rw[hl] at e;cases e),Rz _ _ _ _ hl hW⟩))
 ·exact hs j hj
theorem zV {rs:List Nat} (hr:Region.ready md ops listed=rs) (hne:rs≠[]) (h:AB P md ops Q S s fuel listed a w rs):GA P md ops Q S s (fuel+1) listed a w:=⟨fun h0=>absurd (hr▸h0) hne,hr▸h⟩
theorem yE {id:Nat} (s:Nat) (hm:P.follows .mixedOrders=true) (hS:S w.drew) (h:S w.drew->GA P .any ops Q S s ops.size (Array.replicate ops.size false) a w.drew):(Code.region id ops true).wp P Q a w :=
 wp_region_any hm (Vz _ _ _ _ (h hS))
end
section
variable {P:Program} {ops:Array Oper} {Q:Exit->Act->World->Prop} {md:Region.Mode} {S:World->Prop} {s:Nat} {oi:Oper} {fuel:Nat} {listed:Array Bool} {a:Act} {w:World}
theorem tL (i:Nat) {v:Value} (h:wpAnyH P md ops Q S fuel (listed.setIfInBounds i true) (a.put oi.dst v) w) (hS:S w:=by assumption) (hi:ops[i]? = some oi:=by rfl) (hc:(Region.noSelect ops&&Region.free md ops listed i&&(Region.ready md ops listed).contains i)=true:=by kernel_rfl)
  (hw:Region.wanted oi (yielded ops a.tmps)=true:=by rfl) (hy:∀w,S w->(execOp a.eval oi).run P w = .ok (.value v) w:=by intro w hSw;(try dsimp only at hSw);go_simp;try with_reducible rfl)
  (hQ:∀c a w,Q (.panic c) (a.put oi.dst v) w->Q (.panic c) a w:=by exact fun _ _ _ h=>h):wpAnyH P md ops Q S (fuel+1) listed a w:=tkH i v hi hc (.inl ⟨hw,hy⟩) hS h hQ
theorem tU (i:Nat) (h:wpAnyH P md ops Q S fuel (listed.setIfInBounds i true) (a.put oi.dst undef) w) (hS:S w:=by assumption) (hi:ops[i]? = some oi:=by rfl) (hc:(Region.noSelect ops&&Region.free md ops listed i&&(Region.ready md ops listed).contains i)=true:=by kernel_rfl)
  (hw:Region.wanted oi (yielded ops a.tmps)=false:=by rfl) (hQ:∀c a w,Q (.panic c) (a.put oi.dst undef) w->Q (.panic c) a w:=by exact fun _ _ _ h=>h):wpAnyH P md ops Q S (fuel+1) listed a w:=tkH i undef hi hc (.inr ⟨hw,rfl⟩) hS h hQ
theorem tB (i:Nat) {v:Value} (h:GA P md ops Q S s fuel (listed.setIfInBounds i true) (a.put oi.dst v) w) (hS:S w:=by assumption) (hi:ops[i]? = some oi:=by rfl) (hc:(Region.noSelect ops&&Region.free md ops listed i&&(Region.ready md ops listed).contains i&&(waits md ops s i && !listed.getD s true&&i != s))=true:=by kernel_rfl)
  (hw:Region.wanted oi (yielded ops a.tmps)=true:=by rfl) (hy:∀w,S w->(execOp a.eval oi).run P w = .ok (.value v) w:=by intro w hSw;(try dsimp only at hSw);go_simp;try with_reducible rfl)
  (hQ:∀c a w,Q (.panic c) (a.put oi.dst v) w->Q (.panic c) a w:=by exact fun _ _ _ h=>h):GA P md ops Q S s (fuel+1) listed a w:=tkB i v hi hc (.inl ⟨hw,hy⟩) hS h hQ
theorem tC (i:Nat) {v:Value} (h:GA P md ops Q S s fuel (listed.setIfInBounds i true) (a.put oi.dst v) w) (hS:S w:=by assumption) (hi:ops[i]? = some oi:=by rfl) (hc:(Region.noSelect ops&&Region.free md ops listed i&&(Region.ready md ops listed).contains i&&i != s)=true:=by kernel_rfl)
  (hw:Region.wanted oi (yielded ops a.tmps)=true:=by rfl) (hy:∀w,True->(execOp a.eval oi).run P w = .ok (.value v) w:=by intro w hSw;(try dsimp only at hSw);go_simp;try with_reducible rfl)
  (hQ:∀c a w,Q (.panic c) (a.put oi.dst v) w->Q (.panic c) a w:=by exact fun _ _ _ h=>h):GA P md ops Q S s (fuel+1) listed a w:=ACr i v hi hc (.inl ⟨hw,hy⟩) hS h hQ
theorem tR {o:Oper} (i:Nat) (h:∀K':Act->World->Prop,Shut (∀a w,S w->(S w->wpAnyH P md ops Q S fuel (listed.setIfInBounds i true) a w)->K' a w)->if Region.wanted o (yielded ops a.tmps)=true then Oper.wp P o a w K' Q else K' (a.put o.dst undef) w)
  (hr:Region.ready md ops listed=[i]:=by kernel_rfl) (ho:ops[i]? = some o:=by rfl):wpAnyH P md ops Q S (fuel+1) listed a w:=wpAnyH_ready hr (by simp) (AllReadyH.cons ho h AllReadyH.nil)
theorem tS {o:Oper} (i:Nat) (h:∀K':Act->World->Prop,Shut (∀a w,S w->(S w->GA P md ops Q S s fuel (listed.setIfInBounds i true) a w)->K' a w)->if Region.wanted o (yielded ops a.tmps)=true then Oper.wp P o a w K' Q else K' (a.put o.dst undef) w)
  (hr:Region.ready md ops listed=[i]:=by kernel_rfl) (ho:ops[i]? = some o:=by rfl):GA P md ops Q S s (fuel+1) listed a w:=zV hr (by simp) (AB.cons ho h AB.nil)
theorem zr {X Y B:World->Prop} {id:Nat} (_:∀w',B w'->X w') (hm:P.follows .mixedOrders=true) (hS:X w.drew/\Y w.drew)
  (h:X w.drew/\Y w.drew->wpAnyH P .any ops Q (fun w'=>X w'/\Y w') ops.size (Array.replicate ops.size false) a w.drew):(Code.region id ops true).wp P Q a w:=wp_region_held_drew (S:=fun w'=>X w'/\Y w') hm hS h
theorem zs {X B:World->Prop} {id:Nat} (_:∀w',B w'->X w') (hm:P.follows .mixedOrders=true) (hS:X w.drew)
  (h:X w.drew->wpAnyH P .any ops Q X ops.size (Array.replicate ops.size false) a w.drew):(Code.region id ops true).wp P Q a w:=wp_region_held_drew hm hS h
end
theorem zy (w:World) (x y:Obj):Hid (Below w.heap.size w ((w.alloc x).alloc y))/\Hid (((w.alloc x).alloc y).heap[w.heap.size]? = some x)/\Hid (((w.alloc x).alloc y).heap[w.heap.size+1]? = some y) :=
 ⟨zB ((Pe _ _).alloc (AAF _) _) ((Pe _ _).alloc (AAF _) _),zw w x y,zx w x y⟩
def DW (s:List Aa):Prop:=∀t∈s,In64 t.low/\In64 t.high
theorem Td {n:Int} (h:In64 n):(Ch n).size<=21:=Lib.itoa_length_le n h.1 h.2
theorem zH (a b:ByteArray):(a++b).size=a.size+b.size:=by simp
section
variable {s:List Aa} {t:Int}
theorem qP (hv:zQ s=0) (hr:0<=t/\t<(s.length:Int)):0<=(AO s t).max/\(AO s t).max<=200:=by
 have h:=(Dx hv (GX hr)).1;unfold Gm at h;simp only[AAD,AAV] at h;obtain ⟨⟨⟨⟨h1,h2⟩,h3⟩,h4⟩,h5⟩:=h
 by_cases k3:(AO s t).kind=3
 ·unfold LB at h5
  rw[Pd (by omega),AAB k3] at h5
  simpa using h5
 by_cases k7:(AO s t).kind=7\/(AO s t).kind=8
 ·unfold LB at h5
  rw[Pd (by omega),Pd (by omega),Pd (by omega),Pd (by omega),Pd (by omega),AAB k7] at h5
  simp only[AAD,AAV] at h5
  omega
 ·have:(AO s t).max=0:=by
   have hm:=congrArg Aa.max h3;rw[hm];unfold F6
   repeat' split
   all_goals first|rfl|(exfalso;omega)
  omega
theorem vo (hv:zQ s=0) (hr:0<=t/\t<(s.length:Int)):In64 (AO s t).max:=by
 have:=qP hv hr;unfold In64;omega
end
def Az (v:Val):Val :=
 .mk v.kind (if v.kind=1 then v.bool else false) (if v.kind=2 then v.int else 0) (if v.kind=3 then v.str else ⟨#[]⟩) (if v.kind=4\/v.kind=6 then v.id else 0)
  (if v.kind=8 then v.keys else []) (if 5<=v.kind/\v.kind<=9 then v.items else []) (if v.kind=5\/v.kind=6 then v.rest else [])
def zJ (v:Val):Bool :=
 decide (v.bool=(Az v).bool)&&decide (v.int=(Az v).int)&&decide (v.str=(Az v).str)&&decide (v.id=(Az v).id)&&decide (v.keys.length=(Az v).keys.length)&&decide (v.items.length=(Az v).items.length)&&decide (v.rest.length=(Az v).rest.length)
def BD (n:Int):Bool:=decide (1<=n)&&decide (n<=1000)
def Dz (a b:Int):Int:=if a<b then -1 else if a=b then 0 else 1
def Qy (n:Int):Int:=if 0<=n then 2 * n else -2 * n - 1
def nP (a b:ByteArray):Bool:=Go.Op.bytesLess a.toList b.toList
def Ot (a b:ByteArray):Int:=if nP a b then -1 else if a=b then 0 else 1
def BZ (a b:Val):Int :=
 if a.kind≠b.kind then 0
 else if a.kind=1 then (if a.bool=b.bool then 0 else if b.bool then -1 else 1)
 else if a.kind=2 then Dz (Qy a.int) (Qy b.int)
 else if a.kind=3 then (if Dz a.str.size b.str.size≠0 then Dz a.str.size b.str.size else Ot a.str b.str)
 else if a.kind=4 then Dz a.id b.id
 else 0
def I9:List Val->Bool
 | a::b::r=>decide (BZ a b<0)&&I9 (b::r)
 | _=>true
def Dk (x:Aa):List Af->Bool
 | []=>true
 | a::r=>(x.AA.all fun m=>decide (m.id≠a.id))&&BD a.id&&(match r with|b::_=>decide (a.id<b.id) | []=>true)&&Dk x r
def Ak (f:Int->Val->Bool) (plain:Bool) (x:Aa) (v:Val):Bool :=
 if x.kind=2 then decide (x.low<=v.int)&&decide (v.int<=x.high)
 else if x.kind=3 then decide ((v.str.size:Int)<=x.max)
 else if x.kind=4 then (x.AX.any fun y=>decide (y.id=v.id))||(x.open_ && !plain&&BD v.id)
 else if x.kind=5 then decide (v.items.length=x.AA.length) && !(plain&&decide (0<v.rest.length))&&Dk x v.rest&&((x.AA.zip v.items).all fun p=>f p.1.type p.2)
 else if x.kind=6 then (match x.AA.find? fun m=>decide (m.id=v.id) with
  | some m=>decide (v.items.length=1)&&decide (v.rest.length=0)&&(v.items.all fun y=>f m.type y)
  | none=>x.open_ && !plain&&BD v.id&&decide (v.items.length=0)&&decide (v.rest.length=1)&&(v.rest.all fun r=>decide (r.id=v.id)))
 else if x.kind=7 then decide ((v.items.length:Int)<=x.max)&&(v.items.all fun y=>f x.elem y)
 else if x.kind=8 then decide ((v.keys.length:Int)<=x.max)&&decide (v.items.length=v.keys.length)&&(v.keys.all fun y=>f x.key y)&&I9 v.keys&&(v.items.all fun y=>f x.elem y)
 else if x.kind=9 then decide (v.items.length<=1)&&(v.items.all fun y=>f x.elem y)
 else true
def Ad (s:List Aa) (plain:Bool):Nat->Int->Val->Bool
 | 0,_,_=>false
 | n+1,t,v=>if t<0\/(s.length:Int)<=t then false else if v.kind≠(AO s t).kind\/zJ v=false then false else Ak (Ad s plain n) plain (AO s t) v
noncomputable def BX (s:List Aa) (plain:Bool) (t:Int) (v:Val):Bool:=Ad s plain (SizeOf.sizeOf v) t v
