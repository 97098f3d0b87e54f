/-
  A whole slice appended to an empty row of the call's own.
-/
import Derived.Test.YthkkllmmbefedaaGreatDoorQGM0
namespace Go.Proofs.YthkkllmmbefedaaGreatDoor
open Go.RowKit Tryz
set_option maxHeartbeats 16000000
set_option maxRecDepth 100000
structure Lu where
 t:Aa
 As:zo
 cs:Nat
 Am:zo
 cm:Nat
def Lu.cells (x:Lu):List Value:=x.t.cs x.As x.cs x.Am x.cm
theorem oN (x:Lu):∀u∈x.cells,u.oneCell'=true:=fun u hu=>by
 unfold Lu.cells at hu;simp only[ABP,List.mem_nil_iff,or_false] at hu
 rcases hu with rfl|rfl|rfl|rfl|rfl|rfl|rfl|rfl|rfl|rfl <;> rfl
theorem MJ {T E:TypeId} {size bytes:Nat} (hE:Elem T E size bytes) (w:World) (base:Nat) (ty:TypeId) (v:Value) (n:Nat) (xs:List Value) (h:w.ownsRow base E size v n xs) (b o m c:Nat) (news:List Value) (hl:news.length=m * size)
  (hnews:w.rangeAt b o news) (h1:∀u∈news,u.oneCell'=true) (hlen:n+m<=9223372036854775807) (hby:(n+m) * bytes<=140737488355328) (hb:base<=w.heap.size) :
  ∃v' w',(Builtin.append_ #[T,T] ty #[v,.slice (some ⟨b,o,none⟩) m c]).run prog w = .ok v' w'/\w'.ownsRow base E size v' (n+m) (xs++news)/\w.grownBy w' v.ownBlock/\(v'.ownBlock=v.ownBlock\/v'.ownBlock=some w.heap.size):=by
 obtain ⟨z,QJ,hzs⟩:=hE.info;obtain ⟨i0,hi,hz0,hz1,hz2⟩:=info_parts QJ;obtain ⟨v',w',hr,h2,h3,_,h5⟩:=run_append_own_at (P:=prog) w base T ty E i0 z size bytes hE.under hi hz0 hz1 hz2 hzs hE.pos v n xs h ⟨b,o,none⟩ m c news hl (fun j u hj=>by rw[Addr.add_mid];exact hnews j u hj) h1 (by unfold maxLen;omega) hby hb
 exact ⟨v',w',hr,h2,h3,h5⟩
variable {w:World}
theorem Qj {T E:TypeId} {size bytes:Nat} (hE:Elem T E size bytes) {ops:Array Oper} {op:Oper} {a:Act} {K:Act->World->Prop} {Q:Exit->Act->World->Prop} {El:Prop} (hgd:op.guard=none) (s x:Operand) (ho:op.op = .call { callee := .builtin .append,args:=#[s,x],argTypes:=#[T,T] }) (base:Nat) (v:Value) (n:Nat) (xs:List Value) (hs:a.eval s=v) (h:w.ownsRow base E size v n xs) (b o m c:Nat) (news:List Value) (hx:a.eval x = .slice (some ⟨b,o,none⟩) m c) (hl:news.length=m * size) (hnews:w.rangeAt b o news) (h1:∀u∈news,u.oneCell'=true) (hlen:n+m<=9223372036854775807) (hby:(n+m) * bytes<=140737488355328) (hb:base<=w.heap.size) (hk:∀v' w',w'.ownsRow base E size v' (n+m) (xs++news)->w.grownBy w' v.ownBlock->(v'.ownBlock=v.ownBlock\/v'.ownBlock=some w.heap.size)->K (a.put op.dst v') w'):if Region.wanted op (yielded ops a.tmps)=true then Oper.wp prog op a w K Q else El:=by
 have hw:Region.wanted op (yielded ops a.tmps)=true:=by simp[Region.wanted,hgd]
 rw[AAB hw];obtain ⟨v',w',hr,h2,h3,h5⟩:=MJ hE w base op.type v n xs h b o m c news hl hnews h1 hlen hby hb;unfold Oper.wp execOp;simp only[ho,resolve,invoke,builtin,Sem.run_bind,Sem.run_pure,Result.andThen_ok,List.map_toArray,ABh,List.map_nil,hs,hx,hr];exact hk v' w' h2 h3 h5
theorem rF:Elem 29 87 10 120:=⟨underlying29,⟨.agg #[.int .i64 0,.string ⟨#[]⟩,.int .i64 0,.int .i64 0,.int .i64 0,.slice none 0 0,.slice none 0 0,.int .i64 0,.int .i64 0,.bool false],by kernel_rfl,rfl⟩,by omega⟩
theorem Yn:(prog.info? 87).map (·.size)=some 10:=by kernel_rfl
theorem gY (t:Aa) (As:zo) (cs:Nat) (Am:zo) (cm:Nat):((t.cs As cs Am cm).toArray).all (·.oneCell')=true :=
 all_oneCell_toArray fun u hu=>by
  simp only[ABP,List.mem_nil_iff,or_false] at hu
  rcases hu with rfl|rfl|rfl|rfl|rfl|rfl|rfl|rfl|rfl|rfl <;> rfl
theorem Off.more {S S':Nat->Prop} {w1:World} {P:World->Prop} (h:Off S w P) (hs:∀q,q<w.heap.size->S' q->S q) (hk:∀q,q<w.heap.size->¬ S q->w1.heap[q]? = w.heap[q]?) (hz:w.heap.size<=w1.heap.size):Off S' w1 P :=
 fun w' hw=>h w' fun q hq hl=>(hw q (fun h'=>hq (hs q hl h')) (by omega)).trans (hk q hl hq)
theorem KJ {s:ByteArray} (h:s.size<=100):Cw s:=by unfold Cw;omega
theorem oI (w:World) (L:List Lu) (h:∀x∈L,J4 w x.t x.As x.Am) (hl:L.length<=1000):DC (w.alloc (.cells (L.flatMap Lu.cells).toArray 87)) (some ⟨w.heap.size,0,none⟩) (L.map (·.t)):=by
 refine ⟨by unfold EF;rw[AAt];omega,fun _=>⟨_,_,rfl,fun i x hx=>?_⟩⟩
 rw[List.getElem?_map] at hx
 cases hL:L[i]? with
 | none=>rw[hL] at hx;cases hx
 | some y =>
  rw[hL] at hx;obtain rfl:y.t=x:=by simpa using hx
  refine ⟨y.cells,⟨y.As,y.cs,y.Am,y.cm,rfl,(h y (ABp hL)).below (zD _ _)⟩,?_⟩;exact Py (enc:=Lu.cells) (k:=10) (fun _=>rfl) (zR w _ _) hL
def rR (l:List Aa) (w:World) (e:Ending) (w':World):Prop:=∃A c,e = .returned (.agg #[.slice A l.length c])/\DC w' A l/\Below w.heap.size w w'
theorem PY {t:Aa} {Am:zo} (hn:Cw t.name) (hs:t.AX=[]) (hm:GI w Am t.AA):J4 w t none Am:=⟨hn,by rw[hs];exact AY.nil _ _ _ _ _,hm⟩
theorem EG {t:Aa} (hn:Cw t.name) (hs:t.AX=[]) (hm:t.AA=[]):J4 w t none none:=⟨hn,by rw[hs];exact AY.nil _ _ _ _ _,by rw[hm];exact AY.nil _ _ _ _ _⟩
theorem XZ (n:Int) (w:World):Calls prog 35 #[.int .i64 n] w fun e w'=>e = .returned (.bool (Db n))/\w=w':=by
 by_cases h1:n=4
 ·subst h1
  go_enter func35,ntmps35
  go_wp2
  go_ret
  exact ⟨rfl,rfl⟩
 by_cases h2:n=5
 ·subst h2
  go_enter func35,ntmps35
  go_wp2
  go_ret
  exact ⟨rfl,rfl⟩
 by_cases h3:n=6
 ·subst h3
  go_enter func35,ntmps35
  go_wp2
  go_ret
  exact ⟨rfl,rfl⟩
 have HL:=zh (show Db n=false by simp[Db,h1,h2,h3])
 have e1:(n==4)=false:=by simp[h1]
 have e2:(n==5)=false:=by simp[h2]
 have e3:(n==6)=false:=by simp[h3]
 clear h1 h2 h3
 go_enter func35,ntmps35
 go_wp2
 go_ret
 exact ⟨by rw[HL.O];rfl,rfl⟩
theorem Sq (n : Int) (w : World) : Calls prog 64 #[.int .i64 n] w fun e w' => e = .returned (.bool (BV n)) /\ w = w' := by
  by_cases h2 : 1 <= n <;> by_cases h3 : n <= 4
  all_goals
    (have HL := zh (show BV n = _ by unfold BV; simp only [h2, h3]; rfl)
     go_enter func64, ntmps64
     go_wp2
     go_ret
     exact ⟨by rw [HL.O]; rfl, rfl⟩)
def J7.At (p:J7) (cs:List Value):Prop:=(p.id<256/\p.type<256/\p.flag<256)/\cs=[.int .u8 p.id,.int .u8 p.type,.int .u8 p.flag]
def N7 (w:World) (A:zo) (l:List J7):Prop:=AY 3 3 J7.At w A l
variable {w':World} {A:zo}
theorem N7.below {l:List J7} (h:N7 w A l) (hb:Below w.heap.size w w'):N7 w' A l:=AY.imp h (fun _ _ _ h=>h) hb
abbrev AR.v (x:AR) (A:zo) (c:Nat):Value := .agg #[.int .u8 x.kind,.int .u8 x.a,.int .u8 x.b,.int .u8 x.c,.slice A x.parts.length c]
abbrev AR.cs (x:AR) (A:zo) (c:Nat):List Value:=[.int .u8 x.kind,.int .u8 x.a,.int .u8 x.b,.int .u8 x.c,.slice A x.parts.length c]
structure OZ (w:World) (x:AR) (A:zo):Prop where
 kind:x.kind<256
 a:x.a<256
 b:x.b<256
 c:x.c<256
 parts:N7 w A x.parts
variable {x:AR}
theorem OZ.below (h:OZ w x A) (hb:Below w.heap.size w w'):OZ w' x A:=⟨h.kind,h.a,h.b,h.c,h.parts.below hb⟩
def AR.At (w:World) (x:AR) (cs:List Value):Prop:=∃A c,cs=x.cs A c/\OZ w x A
theorem AR.Fw (hb:Below w.heap.size w w') {cs:List Value}:x.At w cs->x.At w' cs:=fun ⟨A,c,e,h⟩=>⟨A,c,e,h.below hb⟩
def BG (w:World) (A:zo) (d:List AR):Prop:=AY 5 32 (AR.At w) w A d
theorem BG.below {l:List AR} (h:BG w A l) (hb:Below w.heap.size w w'):BG w' A l:=AY.imp h (fun _ _ _=>AR.Fw hb) hb
abbrev EA (A:zo) (n c:Nat):Value := .agg #[.slice A n c]
variable {d:List AR}
theorem BG.YK (h:BG w A d) {i:Nat} (hi:i<d.length):∃b o A' c',A=some ⟨b,o,none⟩/\OZ w (d.getD i Bo) A' /\
  w.cell? ⟨b,o+i * 5,none⟩=some (.int .u8 (d.getD i Bo).kind)/\w.cell? ⟨b,o+i * 5+1,none⟩=some (.int .u8 (d.getD i Bo).a)/\w.cell? ⟨b,o+i * 5+2,none⟩=some (.int .u8 (d.getD i Bo).b)/\w.cell? ⟨b,o+i * 5+3,none⟩=some (.int .u8 (d.getD i Bo).c)/\w.cell? ⟨b,o+i * 5+4,none⟩=some (.slice A' (d.getD i Bo).parts.length c'):=by
 obtain ⟨b,o,cs,e,⟨A',c',rfl,hr⟩,h2⟩:=AY.at_ h hi;have eg:d.getD i Bo=d[i]:=by rw[AA1,zl hi];rfl
 rw[eg];exact ⟨b,o,A',c',e,hr,h2 0 _ rfl,h2 1 _ rfl,h2 2 _ rfl,h2 3 _ rfl,h2 4 _ rfl⟩
theorem N7.at3 {d:List J7} (h:N7 w A d) {i:Nat} (hi:i<d.length):∃b o,A=some ⟨b,o,none⟩/\(d[i].id<256/\d[i].type<256/\d[i].flag<256) /\
  w.cell? ⟨b,o+i * 3,none⟩=some (.int .u8 d[i].id)/\w.cell? ⟨b,o+i * 3+1,none⟩=some (.int .u8 d[i].type)/\w.cell? ⟨b,o+i * 3+2,none⟩=some (.int .u8 d[i].flag):=by
 obtain ⟨b,o,cs,e,⟨h1,rfl⟩,h2⟩:=AY.at_ h hi;exact ⟨b,o,e,h1,h2 0 _ rfl,h2 1 _ rfl,h2 2 _ rfl⟩
theorem kY {i:Nat} (hi:i<d.length):Ab d i=1+(d[i].kind:Int) % 9:=by
 unfold Ab;rw[AA1,zl hi];simp
theorem Cg (d:List AR) (i:Nat) (A:zo) (c:Nat) (w:World) (hd:BG w A d) (hi:i<d.length) :
  Calls prog 34 #[EA A d.length c,.int .i64 i] w fun e w'=>e = .returned (.int .i64 (Ab d i))/\Below w.heap.size w w':=by
 have hn:=hd.1.lt (by omega)
 obtain ⟨b,o,A',c',rfl,hr,c0,_,_,_,_⟩:=(hd.below (zD w (.cells #[.slice A d.length c] 24))).YK hi;have h1:(0:Int)<=(i:Int):=by omega
 have h2:(i:Int)<(d.length:Int):=by omega
 have hk:=hr.kind
 go_enter func34,ntmps34
 go_wp2
 go_ret
 exact ⟨by rw[kY hi];rfl,zD _ _⟩
theorem QH (n:Int) (w:World):Calls prog 95 #[.int .i64 n] w fun e w'=>e = .returned (.bool (Hl n))/\w=w':=by
 go_enter func95,ntmps95
 go_wp2
 go_ret
 exact ⟨rfl,rfl⟩
structure Lm (w0 w:World) (A:zo) (d:List AR) (c:Nat):Prop where
 lt:w0.heap.size<w.heap.size
 cell:w.cell? ⟨w0.heap.size,0,none⟩=some (.slice A d.length c)
 nodes:BG w A d
 below:Below w0.heap.size w0 w
theorem Lm.step {w0:World} {c:Nat} (h:Lm w0 w A d c) (hb:Below w.heap.size w w'):Lm w0 w' A d c :=
 ⟨ABa h.lt hb.size,zA hb h.cell,h.nodes.below hb,zB h.below hb⟩
theorem Lm.new {c:Nat} (h:BG w A d):Lm w (w.alloc (.cells #[.slice A d.length c] 24)) A d c :=
 ⟨by simp,by rw[AAC _ _ _ _ _ _ (AAA w _)];rfl,h.below (zD _ _),zD _ _⟩
variable {k:Nat} {p:Nat->Bool}
theorem qp {n:Nat} (hk:k<n) (hp:p k=true) (hno:∀j,j<k->p j=false):Ve n p=(k:Int):=by
 unfold Ve;have:(List.range n).find? p=some k:=by
  rw[List.find?_range_eq_some];exact ⟨hp,by simpa using hk,fun j hj=>by simp[hno j hj]⟩
 rw[this]
theorem qo {n:Nat} (hno:∀j,j<n->p j=false):Ve n p = -1:=by
 unfold Ve;have:(List.range n).find? p=none:=by
  rw[List.find?_eq_none]
  intro x hx
  simp[hno x (by simpa using hx)]
 rw[this]
theorem XA (d:List AR) (i code:Nat) (A:zo) (c:Nat) (w:World) (hd:BG w A d) (hi:i<d.length) (hco:code<256) :
  Calls prog 62 #[EA A d.length c,.int .i64 i,.int .u8 code] w fun e w'=>e = .returned (.int .i64 (CY d i code))/\Below w.heap.size w w':=by
 have hn:=hd.1.lt (by omega)
 have HB:=zh (Lm.new (c:=c) hd);clear hd;obtain ⟨t,ht⟩:∃t:Nat,t=code % d.length:=⟨_,rfl⟩;have htl:t<d.length:=by rw[ht];exact Nat.mod_lt _ (by omega)
 have HT:=zh ht;have et:(code:Int) % (d.length:Int)=(t:Int):=by rw[ht];simp
 clear ht;have hpos:(0:Int)<(d.length:Int):=by omega
 go_enter func62,ntmps62
 go_wp2_with fail
 refine (Cg d t A c _ HB.O.nodes htl).mono ?_;rintro e w2 ⟨rfl,hb2⟩;replace HB:=zh (HB.O.step hb2);clear hb2;go_wp2_with fail;refine (QH _ _).mono ?_;rintro e w3 ⟨rfl,rfl⟩
 cases hh:Hl (Ab d t) with
 | true =>
  have HD:=zh (show CY d i code=(t:Int) by unfold CY;rw[<-HT.O,hh];rfl)
  go_wp2
  go_ret
  exact ⟨by rw[HD.O];rfl,HB.O.below⟩
 | false =>
  by_cases hti:t<i
  ·have HD:=zh (show CY d i code=(t:Int) by unfold CY;rw[<-HT.O,hh];simp[hti])
   go_wp2
   go_ret
   exact ⟨by rw[HD.O];rfl,HB.O.below⟩
  by_cases hi0:0<i
  ·have HD:=zh (show CY d i code=((t % i:Nat):Int) by unfold CY;rw[<-HT.O,hh];simp[hti,hi0])
   have hi1:(0:Int)<(i:Int):=by omega
   go_wp2
   go_ret
   exact ⟨by rw[HD.O];simp,HB.O.below⟩
  have HD:=zh (show CY d i code=Ve d.length fun k=>Hl (Ab d k) by unfold CY;rw[<-HT.O,hh];simp[hti,hi0])
  have hi2:i=0:=by omega
  subst hi2;clear hti hi0 hh et;go_wp2
  go_loopw [9] (fun i wr=>∃k:Nat,k<=d.length/\i = .int .i64 k/\Hid ((∀j,j<k->Hl (Ab d j)=false)/\Lm w wr A d c)) (fun i _=>d.length - (intOf i).toNat)
  case atStart=>exact ⟨0,by omega,rfl,(fun j h=>absurd h (by omega)),HB.O⟩
  case round =>
   obtain ⟨k,hk,rfl,hq⟩:=hrel
   by_cases hlt:k<d.length
   ·have sc0:=hq.O.2.cell
    have hz:=hq.O.2.lt;go_wp2_with fail;refine (Cg d k A c _ hq.O.2.nodes hlt).mono ?_;rintro e w3 ⟨rfl,hb3⟩;have HB3:=zh (hq.O.2.step hb3);clear hb3;go_wp2_with fail;refine (QH _ _).mono ?_;rintro e w4 ⟨rfl,rfl⟩
    cases hh:Hl (Ab d k) with
    | true =>
     replace HD:=zh (HD.O.trans (qp hlt hh hq.O.1));clear hh;go_wp2;go_ret;exact ⟨by rw[HD.O];rfl,HB3.O.below⟩
    | false =>
     have HN:=zh hh;clear hh;go_wp2;go_roundw
     case rel =>
      refine ⟨k+1,by omega,by go_num,(fun j hj=>?_),HB3.O⟩
      by_cases e:j=k
      ·subst e;exact HN.O
      ·exact hq.O.1 j (by omega)
     case measure=>simp[intOf];omega
   ·replace HD:=zh (HD.O.trans (qo fun j hj=>hq.O.1 j (by omega)))
    go_wp2
    go_ret
    exact ⟨by rw[HD.O];rfl,hq.O.2.below⟩
theorem qx {n:Nat} (hk:k<n) (hp:p k=true) (hno:∀j,j<k->p j=false):(List.range n).find? p=some k:=by
 rw[List.find?_range_eq_some];exact ⟨hp,by simpa using hk,fun j hj=>by simp[hno j hj]⟩
theorem lY {n:Nat} (hno:∀j,j<n->p j=false):(List.range n).find? p=none:=by
 rw[List.find?_eq_none]
 intro x hx
 simp[hno x (by simpa using hx)]
theorem TR (d:List AR) (code:Nat) (A:zo) (c:Nat) (w:World) (hd:BG w A d) (hco:code<256) :
  Calls prog 40 #[EA A d.length c,.int .u8 code] w fun e w'=>e = .returned (.int .i64 (Ee d code))/\Below w.heap.size w w':=by
 have hn:=hd.1.lt (by omega)
 have HB:=zh (Lm.new (c:=c) hd);clear hd
 go_enter func40,ntmps40
 go_wp2
 go_loopw [6] (fun i wr=>∃k:Nat,k<=d.length/\i = .int .i64 k/\Hid ((∀j,j<k->BV (Ab d ((code+j) % d.length))=false)/\Lm w wr A d c)) (fun i _=>d.length - (intOf i).toNat)
 case atStart=>exact ⟨0,by omega,rfl,(fun j h=>absurd h (by omega)),HB.O⟩
 case round =>
  obtain ⟨k,hk,rfl,hq⟩:=hrel
  by_cases hlt:k<d.length
  ·have sc0:=hq.O.2.cell
   have hz:=hq.O.2.lt;have hpos:(0:Int)<(d.length:Int):=by omega
   obtain ⟨t,ht⟩:∃t:Nat,t=(code+k) % d.length:=⟨_,rfl⟩;have htl:t<d.length:=by rw[ht];exact Nat.mod_lt _ (by omega)
   have HT:=zh ht;have et:((code:Int)+(k:Int)) % (d.length:Int)=(t:Int):=by rw[ht];simp
   clear ht;go_wp2_with fail;refine (Cg d t A c _ hq.O.2.nodes htl).mono ?_;rintro e w3 ⟨rfl,hb3⟩;have HB3:=zh (hq.O.2.step hb3);clear hb3;go_wp2_with fail;refine (Sq _ _).mono ?_;rintro e w4 ⟨rfl,rfl⟩
   cases hh:BV (Ab d t) with
   | true =>
    have HD:=zh (show Ee d code=(t:Int) by unfold Ee;rw[qx hlt (by rw[<-HT.O];exact hh) hq.O.1,HT.O])
    clear hh;go_wp2;go_ret;exact ⟨by rw[HD.O];rfl,HB3.O.below⟩
   | false =>
    have HN:=zh hh;clear hh;go_wp2;go_roundw
    case rel =>
     refine ⟨k+1,by omega,by go_num,(fun j hj=>?_),HB3.O⟩
     by_cases e:j=k
     ·subst e;rw[<-HT.O];exact HN.O
     ·exact hq.O.1 j (by omega)
    case measure=>simp[intOf];omega
  ·have HD:=zh (show Ee d code = -1 by unfold Ee;rw[lY fun j hj=>hq.O.1 j (by omega)])
   go_wp2
   go_ret
   exact ⟨by rw[HD.O];rfl,hq.O.2.below⟩
theorem O6 (x:AR) (A:zo) (c:Nat) (w:World) (ha:x.a<256) :
  Calls prog 36 #[x.v A c] w fun e w'=>e = .returned (.int .i64 (F7 x))/\Below w.heap.size w w':=by
 have HD:=zh (show F7 x=(x.a:Int) % 7 - 3 by unfold F7;simp)
 go_enter func36,ntmps36
 go_wp2
 go_ret
 exact ⟨by rw[HD.O];rfl,zD _ _⟩
abbrev AR.box (x:AR) (A:zo) (c:Nat):Obj := .cells #[.int .u8 x.kind,.int .u8 x.a,.int .u8 x.b,.int .u8 x.c,.slice A x.parts.length c] 82
def Hz (W:World) (b:Nat) (x:AR) (A:zo) (c:Nat):Prop:=W.heap[b]? = some (.cells #[.int .u8 x.kind,.int .u8 x.a,.int .u8 x.b,.int .u8 x.c,.slice A x.parts.length c] 82 (0,0))
variable {W:World}
theorem Hz.cell {b:Nat} {c:Nat} (h:Hz W b x A c) (j:Nat):W.cell? ⟨b,j,none⟩=(#[.int .u8 x.kind,.int .u8 x.a,.int .u8 x.b,.int .u8 x.c,.slice A x.parts.length c]:Array Value)[j]? := AAC _ _ _ _ _ _ h
theorem Hz.blt {b:Nat} {c:Nat} (h:Hz W b x A c):b<W.heap.size:=(zg.1 h).1
theorem Hz.below {b:Nat} {c:Nat} (h:Hz W b x A c) (hb:Below W.heap.size W w'):Hz w' b x A c:=(hb.block b h.blt).trans h
theorem Hz.new (w:World) (x:AR) (A:zo) (c:Nat):Hz (w.alloc (x.box A c)) w.heap.size x A c:=AAA w (x.box A c)
theorem VD {b:Nat} {c:Nat} {P:Prop} (h:Hz w' b x A c) (hp:P):(w'.cell? ⟨b,0,none⟩=some (.int .u8 x.kind)/\w'.cell? ⟨b,1,none⟩=some (.int .u8 x.a)/\w'.cell? ⟨b,2,none⟩=some (.int .u8 x.b)/\w'.cell? ⟨b,3,none⟩=some (.int .u8 x.c)/\w'.cell? ⟨b,4,none⟩=some (.slice A x.parts.length c))/\Hid (Hz w' b x A c/\P) :=
 ⟨⟨h.cell 0,h.cell 1,h.cell 2,h.cell 3,h.cell 4⟩,h,hp⟩
theorem vz (x:AR):-3<=F7 x/\F7 x<=3:=by unfold F7;omega
theorem cu (x:AR):Fp x=IntKind.i64.wrap (F7 x+IntKind.i64.wrap ((x.b:Int).tmod 6)):=by
 have h1:(x.b:Int).tmod 6=((x.b % 6:Nat):Int):=rfl;have h2:=vz x;rw[h1,IntWalk.i64_in (((x.b % 6:Nat):Int)) (by omega),IntWalk.i64_in _ (by omega)]
 rfl
theorem VZ (x:AR) (A:zo) (c:Nat) (w:World) (ha:x.a<256) :
  Calls prog 37 #[x.v A c] w fun e w'=>e = .returned (.int .i64 (Fp x))/\Below w.heap.size w w':=by
 have HD:=zh (cu x);have HB0:=zh (zD w (x.box A c));have nG:=zh (Hz.new w x A c)
 go_enter func37,ntmps37
 go_wp2
 generalize w.alloc (x.box A c)=wc at *
 refine wp_region_held_drew (S:=(fun w'=>(w'.cell? ⟨w.heap.size,0,none⟩=some (.int .u8 x.kind)/\w'.cell? ⟨w.heap.size,1,none⟩=some (.int .u8 x.a)/\w'.cell? ⟨w.heap.size,2,none⟩=some (.int .u8 x.b)/\w'.cell? ⟨w.heap.size,3,none⟩=some (.int .u8 x.c)/\w'.cell? ⟨w.heap.size,4,none⟩=some (.slice A x.parts.length c))/\Hid (Hz w' w.heap.size x A c/\Below w.heap.size w w'))) (by kernel_rfl) ?_ (fun AQ=>?_)
 ·(try dsimp only);exact VD (nG.O.below (zC (Pe _ _) 1)) (zC HB0 1)
 refine tL 0 ?_;refine tL 2 ?_;refine tL 3 ?_;refine tL 4 ?_;refine tL 5 ?_;refine tR 1 (fun K hK=>?_)
 go_simp
 (refine (O6 x A c _ ha).mono ?_;rintro e w3 ⟨rfl,hbx⟩)
 refine hK.out _ _ ?_ (fun AQ=>?_)
 ·(try dsimp only);exact VD (AQ.2.O.1.below hbx) (zB AQ.2.O.2 hbx)
 clear hK K;try simp only[ps]
 refine tL 6 ?_;refine tL 7 ?_;refine wpAnyH_done (by kernel_rfl) ?_ _
 go_wp2
 go_ret
 exact ⟨by rw[HD.O];rfl,AQ.2.O.2⟩
def YH (x:AR) (i:Nat):Bool:=(x.a >>> i) % 2==1
def Hg (x:AR) (k:Nat):List Int:=((List.range k).filter (YH x)).map fun i=>((i+1:Nat):Int)
theorem X5 (x:AR) (k:Nat):Hg x (k+1)=if YH x k then Hg x k++[((k+1:Nat):Int)] else Hg x k:=by
 unfold Hg;rw[List.range_succ,List.filter_append,List.map_append]
 cases h:YH x k <;> simp[h]
theorem Rp (x:AR) (k:Nat):(Hg x k).length<=k:=by
 unfold Hg;rw[AAt];exact Nat.le_trans (List.length_filter_le _ _) (by simp)
theorem ZX (x:AR):Di x=if Hg x 6=[] then [1] else Hg x 6:=rfl
theorem wh (x:AR) (k:Nat):(((x.a:Int) / 2 ^ k).tmod 2==1)=YH x k:=by
 have h:(x.a:Int) / 2 ^ k=((x.a / 2 ^ k:Nat):Int):=by simp
 rw[h];unfold YH;rw[Nat.shiftRight_eq_div_pow];have:(((x.a / 2 ^ k:Nat):Int).tmod 2)=((x.a / 2 ^ k % 2:Nat):Int):=rfl;rw[this]
 rcases Nat.mod_two_eq_zero_or_one (x.a / 2 ^ k) with e|e <;> rw[e] <;> rfl
theorem Pz (x:AR) (A:zo) (c:Nat) (w:World) (_:x.a<256) :
  Calls prog 38 #[x.v A c] w fun e w'=>∃v,e = .returned v/\WB w' w.heap.size v (Di x)/\Below w.heap.size w w':=by
 have HB0:=zh (zD w (x.box A c));have nG:=zh (Hz.new w x A c)
 go_enter func38,ntmps38
 go_wp2
 generalize w.alloc (x.box A c)=wc at *
 go_loopw [3,4] (fun v i wr=>∃k:Nat,k<=6/\i = .int .i64 k/\Hid (WB wr wc.heap.size v (Hg x k)/\Below wc.heap.size wc wr)) (fun _ i _=>6 - (intOf i).toNat)
 case atStart=>exact ⟨0,by omega,rfl,AZ.nil _ _,Pe _ _⟩
 case round =>
  obtain ⟨k,hk,rfl,hh⟩:=hrel;obtain ⟨wo,rfl⟩:∃wo:World,wo=wr:=⟨_,rfl⟩;have hn0:=zA hh.O.2 (nG.O.cell 1)
  by_cases hlt:k<6
  ·have h1:(0:Int)<=(k:Int):=by omega
   have Bv:=zh hh.O.2;have WR:=zh hh.O.1;have OB:=zh (Rp x k);have Tt:=zh (X5 x k);have hbt:(((x.a:Int) / 2 ^ k).tmod 2==1)=YH x k:=wh x k;clear hh
   cases hb:YH x k with
   | true =>
    rw[hb] at hbt Tt;clear hb;have Lv:=zh (AZ.alloc WR (.cells #[.int .i64 ((k:Int)+1)] 3));have Ov:Hid ((wo.alloc (.cells #[.int .i64 ((k:Int)+1)] 3)).rangeAt wo.heap.size 0 [.int .i64 ((k:Int)+1)]):=zR wo [.int .i64 ((k:Int)+1)] 3;have M8:Hid (wc.heap.size<=(wo.alloc (.cells #[.int .i64 ((k:Int)+1)] 3)).heap.size):=by have:=Bv.O.size;show _<=_;simp;omega
    go_wp2_with (at_builtin;refine yG Vs _ rfl (.tmp 15) (.tmp 18) rfl wc.heap.size _ _ _ rfl Lv wo.heap.size 0 1 1 [.int .i64 ((k:Int)+1)] rfl rfl Ov (by simp[Value.oneCell']) (by have:=OB.O;omega) (by have:=OB.O;omega) M8 ?_;intro v8 w8 BB Aw)
    go_roundw
    case rel=>exact ⟨k+1,by omega,by go_num,(by rw[Tt.O];exact AZ.snoc (x:=(((k+1:Nat):Int))) BB),(Bv.O.alloc Bv.O.size _).grown Aw M8 Lv.O.lt⟩
    case measure=>simp[intOf];omega
   | false =>
    rw[hb] at hbt Tt;clear hb;go_wp2;go_roundw
    case rel=>exact ⟨k+1,by omega,by go_num,(by rw[Tt.O];exact WR.O),Bv.O⟩
    case measure=>simp[intOf];omega
  ·have fE:k=6:=by omega
   subst fE;have Bv:=zh hh.O.2;have OB:=zh (Rp x 6);have HW:Hid (w.heap.size<=wc.heap.size):=HB0.O.size;obtain ⟨A7,c7,rfl,_⟩:=WB.ints hh.O.1 (by have:=OB.O;unfold EF;omega)
   have WR:=zh hh.O.1;clear hh hlt
   by_cases he:Hg x 6=[]
   ·have HI:=zh (show Di x=[1] by rw[ZX,AAB he])
    have hel:(((Hg x 6).length:Int)==0)=true:=by rw[he];rfl
    have HE:=zh he;clear he;have Lv:=zh (AZ.alloc WR (.cells #[.int .i64 1] 3));have Ov:Hid ((wo.alloc (.cells #[.int .i64 1] 3)).rangeAt wo.heap.size 0 [.int .i64 1]):=zR wo [.int .i64 1] 3;have M8:Hid (wc.heap.size<=(wo.alloc (.cells #[.int .i64 1] 3)).heap.size):=by have:=Bv.O.size;show _<=_;simp;omega
    go_wp2_with (at_builtin;refine yG Vs _ rfl (.tmp 23) (.tmp 24) rfl wc.heap.size _ _ _ rfl Lv wo.heap.size 0 1 1 [.int .i64 1] rfl rfl Ov (by simp[Value.oneCell']) (by have:=OB.O;omega) (by have:=OB.O;omega) M8 ?_;intro v8 w8 BB Aw)
    go_ret
    refine ⟨_,rfl,?_,zB HB0 ((Bv.O.alloc Bv.O.size _).grown Aw M8 Lv.O.lt)⟩;have:=AZ.base (AZ.snoc (x:=(1:Int)) BB) HW;rw[HE.O] at this;rw[HI.O];exact this
   ·have HI:=zh (show Di x=Hg x 6 by rw[ZX,Pd he])
    have hel:(((Hg x 6).length:Int)==0)=false:=by
     have:(Hg x 6).length≠0:=fun e=>he (AAn e)
     simp;omega
    clear he;go_wp2;go_ret;refine ⟨_,rfl,?_,zB HB0 Bv⟩;rw[HI.O];exact AZ.base WR HW
def M7 (i:Nat):ByteArray:=⟨#[UInt8.ofNat (65+i)]⟩
def Tz (c:UInt8) (n:Nat):ByteArray:=⟨#[c,UInt8.ofNat (97+n)]⟩
theorem gX {a b:Nat} (ha:a<256) (hb:b<256) (h:UInt8.ofNat a=UInt8.ofNat b):a=b:=by
 have:=congrArg UInt8.toNat h;simp only[UInt8.toNat_ofNat'] at this
 omega
theorem qK {c:UInt8} {n m:Nat} (hn:n<=20) (hm:m<=20) (h:Tz c n=Tz c m):n=m:=by
 unfold Tz at h
 injection h with h
 have h2:=congrArg Array.toList h;simp only[List.cons.injEq,true_and,and_true] at h2;have:=gX (by omega) (by omega) h2
 omega
theorem qJ {n m:Nat} (hn:n<=20) (hm:m<=20) (h:M7 n=M7 m):n=m:=by
 unfold M7 at h
 injection h with h
 have h2:=congrArg Array.toList h;simp only[List.cons.injEq,and_true] at h2;have:=gX (by omega) (by omega) h2
 omega
theorem vU {n:Nat} (hn:n<=20):Bz (M7 n)=true:=by
 have:∀m:Fin 21,Bz (M7 m.1)=true:=by decide +kernel
 exact this ⟨n,by omega⟩
theorem vV {c:UInt8} (hc:c=109\/c=115) {n:Nat} (hn:n<=20):Bz (Tz c n)=true:=by
 have h1:∀m:Fin 21,Bz (Tz 109 m.1)=true:=by decide +kernel
 have h2:∀m:Fin 21,Bz (Tz 115 m.1)=true:=by decide +kernel
 rcases hc with rfl|rfl
 ·exact h1 ⟨n,by omega⟩
 ·exact h2 ⟨n,by omega⟩
theorem VW {c:UInt8} (hc:c=109\/c=115):∀ (L:List (Int×ByteArray)) (b:Int) (seen:List ByteArray),0<=b->(L.map (·.1)).Pairwise (· < ·)->(∀x∈L,b<x.1/\x.1<=12/\x.2=Tz c x.1.toNat)->(∀x∈seen,∃i:Nat,(i:Int)<=b/\x=Tz c i)->b<=12->OU b seen L=true
 | [],_,_,_,_,_,_,_=>rfl
 | x::L,b,seen,h0,hp,hx,hs,hb=>by
  obtain ⟨h1,h2,h3⟩:=hx x (ABT ..);rw[ABh,List.pairwise_cons] at hp;rw[OU];simp only[AAD,AAV];refine ⟨⟨⟨⟨⟨by omega,by omega⟩,h1⟩,?_⟩,?_⟩,?_⟩
  ·have:LV x.2 seen=false:=by
    cases hm:LV x.2 seen with
    | false=>rfl
    | true =>
     obtain ⟨j,hj,e⟩:=hs _ (kC.1 hm);rw[h3] at e;have:=qK (by omega) (by omega) e
     omega
   rw[this];rfl
  ·rw[h3];exact vV hc (by omega)
  ·refine VW hc L x.1 _ (by omega) hp.2 (fun y hy=>?_) (fun y hy=>?_) h2
   ·have a:=hx y (ABZ _ hy)
    have b:=hp.1 y.1 (List.mem_map_of_mem hy);exact ⟨b,a.2⟩
   ·rcases ABY.1 hy with k|k
    ·obtain ⟨j,hj,e⟩:=hs y k
     exact ⟨j,by omega,e⟩
    ·obtain rfl:y=x.2:=by simpa using k
     exact ⟨x.1.toNat,by omega,h3⟩
theorem Kl:∀ (L:List Int) (b k:Int),L.Pairwise (· < ·)->(∀x∈L,b<x/\x<=k)->b<=k->(L.length:Int)<=k - b
 | [],b,k,_,_,h=>by simp;omega
 | x::L,b,k,hp,hx,h=>by
  rw[List.pairwise_cons] at hp;have a:=hx x (ABT ..);have:=Kl L x k hp.2 (fun y hy=>⟨hp.1 y hy,(hx y (ABZ _ hy)).2⟩) (by omega)
  rw[AAI]
  omega
theorem ZY {c:UInt8} (hc:c=109\/c=115) {L:List (Int×ByteArray)} (hp:(L.map (·.1)).Pairwise (· < ·)) (hx:∀x∈L,0<x.1/\x.1<=12/\x.2=Tz c x.1.toNat):TT L=true:=by
 unfold TT;rw[AAD];refine ⟨VW hc L 0 [] (by omega) hp hx (fun x hx=>by cases hx) (by omega),?_⟩
 have:=Kl (L.map (·.1)) 0 12 hp (fun y hy=>by obtain ⟨x,h1,rfl⟩:=List.mem_map.1 hy;exact ⟨(hx x h1).1,(hx x h1).2.1⟩) (by omega)
 rw[AAt] at this;exact AAJ (by omega)
def EM (rec:Bool) (n:Nat) (k:Int) (ms:List Ac):Prop :=
 (ms.map (·.id)).Pairwise (· < ·)/\∀m∈ms,(0<m.id/\m.id<=k)/\m.name=Tz 109 m.id.toNat/\(0<=m.type/\m.type<(n:Int))/\Ri rec m=true
theorem EM.nil (rec:Bool) (n:Nat) (k:Int):EM rec n k []:=⟨List.Pairwise.nil,fun _ h=>by cases h⟩
variable {rec:Bool} {ms:List Ac}
theorem EM.mono {n:Nat} {k k':Int} (h:EM rec n k ms) (hk:k<=k'):EM rec n k' ms :=
 ⟨h.1,fun m hm=>⟨⟨(h.2 m hm).1.1,Int.le_trans (h.2 m hm).1.2 hk⟩,(h.2 m hm).2⟩⟩
theorem EM.snoc {n:Nat} (h:EM rec n k ms) {m:Ac} (hi:m.id=((k+1:Nat):Int)) (hn:m.name=Tz 109 (k+1)) (ht:0<=m.type/\m.type<(n:Int)) (hm:Ri rec m=true):EM rec n ((k+1:Nat):Int) (ms++[m]):=by
 refine ⟨?_,fun x hx=>?_⟩
 ·rw[List.map_append,List.pairwise_append]
  refine ⟨h.1,by simp,fun a ha b hb=>?_⟩
  obtain ⟨x,h1,rfl⟩:=List.mem_map.1 ha;obtain rfl:b=m.id:=by simpa using hb
  have:=(h.2 x h1).1
  omega
 ·rcases ABY.1 hx with a|a
  ·exact (h.mono (by omega)).2 x a
  ·obtain rfl:x=m:=by simpa using a
   exact ⟨by omega,by rw[hn,hi];rfl,ht,hm⟩
theorem EM.len {n:Nat} (h:EM rec n 12 ms):ms.length<=12:=by
 have:=Kl (ms.map (·.id)) 0 12 h.1 (fun y hy=>by obtain ⟨x,h1,rfl⟩:=List.mem_map.1 hy;exact (h.2 x h1).1) (by omega)
 rw[AAt] at this
 omega
theorem EM.AA {n:Nat} (h:EM rec n 12 ms) (hne:rec=true\/ms≠[]):OJ rec ms=true:=by
 unfold OJ;rw[AAD,AAD];refine ⟨⟨ABQ.2 fun m hm=>(h.2 m hm).2.2.2,ZY (.inl rfl) ?_ fun x hx=>?_⟩,?_⟩
 ·rw[List.map_map];exact h.1
 ·obtain ⟨m,h1,rfl⟩:=List.mem_map.1 hx
  exact ⟨(h.2 m h1).1.1,(h.2 m h1).1.2,(h.2 m h1).2.1⟩
 ·rcases hne with e|e
  ·rw[e];rfl
  ·simp[e]
def Em (x:AR):List Bu:=(Di x).map fun n=>⟨n,Tz 115 n.toNat⟩
theorem Kb (x : AR) : (Di x).Pairwise (· < ·) /\ (∀ n ∈ Di x, 0 < n /\ n <= 6) /\ Di x ≠ [] := by
  have h : ∀ p : Nat -> Bool, ((((List.range 6).filter p).map fun i => ((i + 1 : Nat) : Int)).Pairwise (· < ·)) /\ ∀ n ∈ ((List.range 6).filter p).map (fun i => ((i + 1 : Nat) : Int)), 0 < n /\ n <= 6 := fun p => by
    refine ⟨?_, fun n hn => ?_⟩
    · rw [List.pairwise_map]
      refine List.Pairwise.filter p (List.Pairwise.imp (fun h => ?_) List.pairwise_lt_range)
      omega
    · obtain ⟨i, h1, rfl⟩ := List.mem_map.1 hn
      have := List.mem_range.1 (List.mem_filter.1 h1).1
      omega
  unfold Di;simp only
  split
  · exact ⟨List.pairwise_singleton .., fun n hn => by obtain rfl : n = 1 := by simpa using hn
                                                      omega, by simp⟩
  · rename_i hne
    exact ⟨(h _).1, (h _).2, hne⟩
theorem iQ (x:AR):Yt (Em x)=true:=by
 obtain ⟨h1,h2,h3⟩:=Kb x;unfold Yt Em;rw[AAD];refine ⟨ZY (.inr rfl) ?_ fun y hy=>?_,by simpa using h3⟩
 ·rw[List.map_map,List.map_map]
  have:(Di x).map (((fun y:Int×ByteArray=>y.1)∘(fun s:Bu=>(s.id,s.name)))∘fun n=>⟨n,Tz 115 n.toNat⟩)=Di x:=by
   simp[Function.comp_def]
  rw[this];exact h1
 ·rw[List.map_map] at hy
  obtain ⟨n,hn,rfl⟩:=List.mem_map.1 hy;have:=h2 n hn;exact ⟨this.1,by simp only[Function.comp];omega,rfl⟩
theorem aM (x:AR):(Em x).length<=6:=by
 obtain ⟨h1,h2,h3⟩:=Kb x;have:=Kl (Di x) 0 6 h1 h2 (by omega)
 unfold Em;rw[AAt]
 omega
def KF (x:Val):Prop:=(x.str.size<=1/\x.kind≠5/\x.kind≠6)/\x.keys=[]/\x.items=[]/\x.rest=[]
structure Mq (d:List AR) (i:Nat) (t:Aa):Prop where
 form:Gm t=true
 name:t.name=if Db t.kind then M7 i else ⟨#[]⟩
 uses:∀u∈iH t,0<=u/\u<(d.length:Int)
 kind:BV (Ab d i)=true->t.kind=Ab d i
 key:t.kind=8->BV (Ab d t.key.toNat)=true/\0<=t.key/\t.key<(d.length:Int)
 AA:∀m∈t.AA,m.name.size=2
 AX:∀m∈t.AX,m.name.size=2
 flat:∀m∈t.AA,KF m.dflt
 num:In64 t.low/\In64 t.high
def Kq (d:List AR) (s:List Aa):Prop:=s.length=d.length/\∀i (h:i<s.length),Mq d i s[i]
def Short (s:List Aa):Prop:=∀t∈s,t.name.size<=1/\(∀m∈t.AA,m.name.size<=2)/\∀m∈t.AX,m.name.size<=2
theorem Vu {s:List Aa} (h:Kq d s) (hl:d.length<=5):zQ s=0:=by
 obtain ⟨h1,h2⟩:=h;refine gQ (by omega) fun i hi=>?_
 have ho:=h2 i hi;refine iB ho.form (fun hn hm=>?_) (by rw[h1];exact ho.uses) (fun hk=>?_)
 ·obtain ⟨t,ht,e⟩:=List.mem_map.1 hm
  obtain ⟨j,hj,e2⟩:=ABi ht;have hji:j<i:=by rw[List.length_take] at hj;omega
  rw[List.getElem_take] at e2;have hoj:=h2 j (by omega)
  rw[e2] at hoj;rw[ho.name] at hn e;rw[hoj.name] at e
  by_cases a:Db (s[i]).kind=true
  ·rw[AAB a] at e hn
   by_cases b:Db t.kind=true
   ·rw[AAB b] at e
    have:=qJ (by omega) (by omega) e
    omega
   ·rw[Pd b] at e;exact hn e.symm
  ·rw[Pd a] at hn;exact hn rfl
 ·obtain ⟨a,b,c⟩:=ho.key hk
  have hkl:(s[i]).key.toNat<s.length:=by omega
  have:=(h2 _ hkl).kind a;rw[AA1,zl hkl,Option.getD_some,this];exact a
theorem Vv {s:List Aa} (h:Kq d s):Short s:=fun t ht=>by
 obtain ⟨i,hi,rfl⟩:=ABi ht;have ho:=h.2 i hi;refine ⟨?_,fun m hm=>Nat.le_of_eq (ho.AA m hm),fun m hm=>Nat.le_of_eq (ho.AX m hm)⟩
 rw[ho.name]
 split
 ·exact Nat.le_of_eq rfl
 ·exact Nat.zero_le _
theorem YC {s:List Aa} (h:Kq d s):∀t∈s,∀m∈t.AA,KF m.dflt:=fun t ht=>by
 obtain ⟨i,hi,rfl⟩:=ABi ht;exact (h.2 i hi).flat
theorem dK {s:List Aa} (h:Kq d s):∀t∈s,In64 t.low/\In64 t.high:=fun t ht=>by
 obtain ⟨i,hi,rfl⟩:=ABi ht;exact (h.2 i hi).num
theorem Jr:In64 0/\In64 0:=by unfold In64;omega
theorem qU (x:AR):In64 (F7 x)/\In64 (Fp x):=by unfold In64 Fp F7;omega
theorem GQ {i:Nat} {t:Aa} (hi:i<=20) (h1:1<=t.kind/\t.kind<=9) (h2:t=F6 t) (h3:t.name=if Db t.kind then M7 i else ⟨#[]⟩) (h4:LB t=true):Gm t=true:=by
 unfold Gm;simp only[AAD,AAV];refine ⟨⟨⟨h1,h2⟩,?_⟩,h4⟩
 cases hn:Db t.kind with
 | false=>rfl
 | true=>rw[h3,AAB hn,vU hi];rfl
theorem IG {t:Aa} (hk:¬ (t.kind=8\/t.kind=7\/t.kind=9)):iH t=t.AA.map (·.type):=by
 unfold iH Jc;rw[Pd (fun e=>hk (.inl e)),Pd (fun e=>hk (.inr e)),List.append_nil,List.map_map];rfl
section
variable {d:List AR} {i:Nat}
theorem aI (hi:i<=20) (hk:Ab d i=1):Mq d i { Ai with kind:=1 } :=
 ⟨GQ hi ⟨by show (1:Int)<=(1:Int);decide,by show (1:Int)<=(9:Int);decide⟩ rfl rfl rfl,rfl,(by rw[IG (by show ¬ ((1:Int)=8\/(1:Int)=7\/(1:Int)=9);decide)];intro u hu;cases hu),fun _=>hk.symm,(fun h=>by cases h),(fun _ h=>by cases h),(fun _ h=>by cases h),(fun _ h=>by cases h),Jr⟩
theorem gu (hi:i<=20) (hk:Ab d i=2) {a b:Int} (hab:a<=b) (hn:In64 a/\In64 b):Mq d i { Ai with kind:=2,low:=a,high:=b } :=
 ⟨GQ hi ⟨by show (1:Int)<=(2:Int);decide,by show (2:Int)<=(9:Int);decide⟩ rfl rfl (AAJ hab),rfl,(by rw[IG (by show ¬ ((2:Int)=8\/(2:Int)=7\/(2:Int)=9);decide)];intro u hu;cases hu),fun _=>hk.symm,(fun h=>by cases h),(fun _ h=>by cases h),(fun _ h=>by cases h),(fun _ h=>by cases h),hn⟩
theorem gZ (hi:i<=20) (hk:Ab d i=3) {a:Int} (ha:0<=a/\a<=3):Mq d i { Ai with kind:=3,max:=a } :=
 ⟨GQ hi ⟨by show (1:Int)<=(3:Int);decide,by show (3:Int)<=(9:Int);decide⟩ rfl rfl (by unfold LB;simp;omega),rfl,(by rw[IG (by show ¬ ((3:Int)=8\/(3:Int)=7\/(3:Int)=9);decide)];intro u hu;cases hu),fun _=>hk.symm,(fun h=>by cases h),(fun _ h=>by cases h),(fun _ h=>by cases h),(fun _ h=>by cases h),Jr⟩
theorem aH (hi:i<=20) (hk:Ab d i=4) (x:AR) (o:Bool):Mq d i { Ai with kind:=4,name:=M7 i,AX:=Em x,open_:=o } :=
 ⟨GQ hi ⟨by show (1:Int)<=(4:Int);decide,by show (4:Int)<=(9:Int);decide⟩ rfl rfl (iQ x),rfl,(by rw[IG (by show ¬ ((4:Int)=8\/(4:Int)=7\/(4:Int)=9);decide)];intro u hu;cases hu),fun _=>hk.symm,(fun h=>by cases h),(fun _ h=>by cases h),(fun m hm=>by
  obtain ⟨n,_,rfl⟩:=List.mem_map.1 (show m∈Em x from hm)
  rfl),(fun _ h=>by cases h),Jr⟩
variable {ms:List Ac}
theorem EM.size {rec:Bool} {n:Nat} (h:EM rec n 12 ms):∀m∈ms,m.name.size=2:=fun m hm=>by rw[(h.2 m hm).2.1];rfl
theorem EM.types {rec:Bool} {n:Nat} (h:EM rec n 12 ms):∀u∈ms.map (·.type),0<=u/\u<(n:Int):=fun u hu=>by
 obtain ⟨m,hm,rfl⟩:=List.mem_map.1 hu;exact (h.2 m hm).2.2.1
theorem UY (hi:i<=20) (hk:BV (Ab d i)=false) (h:EM true d.length 12 ms) (hf:∀m∈ms,KF m.dflt):Mq d i { Ai with kind:=5,name:=M7 i,AA:=ms } :=
 ⟨GQ hi ⟨by show (1:Int)<=(5:Int);decide,by show (5:Int)<=(9:Int);decide⟩ rfl rfl (h.AA (.inl rfl)),rfl,(by rw[IG (by show ¬ ((5:Int)=8\/(5:Int)=7\/(5:Int)=9);decide)];exact h.types),(fun e=>by rw[hk] at e;cases e),(fun h=>by cases h),h.size,(fun _ h=>by cases h),hf,Jr⟩
theorem Ww (hi:i<=20) (hk:BV (Ab d i)=false) (h:EM false d.length 12 ms) (hf:∀m∈ms,KF m.dflt) (hne:ms≠[]) (o:Bool):Mq d i { Ai with kind:=6,name:=M7 i,AA:=ms,open_:=o } :=
 ⟨GQ hi ⟨by show (1:Int)<=(6:Int);decide,by show (6:Int)<=(9:Int);decide⟩ rfl rfl (h.AA (.inr hne)),rfl,(by rw[IG (by show ¬ ((6:Int)=8\/(6:Int)=7\/(6:Int)=9);decide)];exact h.types),(fun e=>by rw[hk] at e;cases e),(fun h=>by cases h),h.size,(fun _ h=>by cases h),hf,Jr⟩
theorem RA (hi:i<=20) (hk:BV (Ab d i)=false) {a b:Int} (ha:0<=a/\a<=3) (hb:0<=b/\b<(d.length:Int)):Mq d i { Ai with kind:=7,max:=a,elem:=b } :=
 ⟨GQ hi ⟨by show (1:Int)<=(7:Int);decide,by show (7:Int)<=(9:Int);decide⟩ rfl rfl (by unfold LB;simp;omega),rfl,(fun u hu=>by rw[show u=b by simpa[iH,Jc,show Ai.AA=[] from rfl] using hu];exact hb),(fun e=>by rw[hk] at e;cases e),(fun h=>by cases h),(fun _ h=>by cases h),(fun _ h=>by cases h),(fun _ h=>by cases h),Jr⟩
theorem gq (hi:i<=20) (hk:BV (Ab d i)=false) {a b c:Int} (ha:0<=a/\a<=3) (hb:0<=b/\b<(d.length:Int)) (hc:0<=c/\c<(d.length:Int)) (hkc:BV (Ab d c.toNat)=true):Mq d i { Ai with kind:=8,max:=a,key:=c,elem:=b } :=
 ⟨GQ hi ⟨by show (1:Int)<=(8:Int);decide,by show (8:Int)<=(9:Int);decide⟩ rfl rfl (by unfold LB;simp;omega),rfl,(fun u hu=>by
  have:u=c\/u=b:=by simpa[iH,Jc,show Ai.AA=[] from rfl] using hu
  rcases this with rfl|rfl
  ·exact hc
  ·exact hb),(fun e=>by rw[hk] at e;cases e),(fun _=>⟨hkc,hc⟩),(fun _ h=>by cases h),(fun _ h=>by cases h),(fun _ h=>by cases h),Jr⟩
theorem gm (hi:i<=20) (hk:BV (Ab d i)=false) {b:Int} (hb:0<=b/\b<(d.length:Int)):Mq d i { Ai with kind:=9,elem:=b } :=
 ⟨GQ hi ⟨by show (1:Int)<=(9:Int);decide,by show (9:Int)<=(9:Int);decide⟩ rfl rfl rfl,rfl,(fun u hu=>by rw[show u=b by simpa[iH,Jc,show Ai.AA=[] from rfl] using hu];exact hb),(fun e=>by rw[hk] at e;cases e),(fun h=>by cases h),(fun _ h=>by cases h),(fun _ h=>by cases h),(fun _ h=>by cases h),Jr⟩
end
theorem He (d:List AR) (i:Nat):1<=Ab d i/\Ab d i<=9:=by unfold Ab;omega
theorem ZR {d:List AR} {code:Nat} (h:¬ Ee d code<0):(0<=Ee d code/\Ee d code<(d.length:Int))/\BV (Ab d (Ee d code).toNat)=true:=by
 unfold Ee at h ⊢
 split
 ·rename_i k hk
  have h1:=List.find?_some hk;have h2:=List.mem_range.1 (List.mem_of_find?_eq_some hk);have h3:(code+k) % d.length<d.length:=Nat.mod_lt _ (by omega)
  exact ⟨⟨by omega,by omega⟩,h1⟩
 ·rename_i hk
  rw[hk] at h;exact absurd (show (-1:Int)<0 by decide) h
theorem XB {d:List AR} {i code:Nat} (hi:i<d.length) (h:¬ CY d i code<0):0<=CY d i code/\CY d i code<(d.length:Int):=by
 refine ⟨by omega,?_⟩
 have h3:code % d.length<d.length:=Nat.mod_lt _ (by omega)
 unfold CY at h ⊢
 split
 ·omega
 ·split
  ·have:code % d.length % i<i:=Nat.mod_lt _ (by assumption)
   omega
  ·unfold Ve
   split
   ·rename_i k hk
    have h2:=List.mem_range.1 (List.mem_of_find?_eq_some hk)
    omega
   ·omega
theorem kJ (x:AR):F7 x<=Fp x:=by unfold Fp;omega
def ME (d:List AR) (t:Nat):Int:=if Ab d t=8/\Ee d 0<0 then 7 else Ab d t
structure Oa (d:List AR) (t:Nat) (x:Val):Prop where
 kind:x.kind=ME d t
 nou:Ab d t≠5/\Ab d t≠6
 b:Ab d t≠1->x.bool=false
 i:if Ab d t=2 then F7 (d.getD t Bo)<=x.int/\x.int<=Fp (d.getD t Bo) else x.int=0
 s:if Ab d t=3 then (x.str.size:Int)<=(((d.getD t Bo).a % 4:Nat):Int) else x.str=⟨#[]⟩
 n:if Ab d t=4 then x.id∈Di (d.getD t Bo) else x.id=0
section
variable {d:List AR} {t:Nat}
theorem AAm (h:Ab d t=1) (b:Bool):Oa d t (.mk 1 b 0 ⟨#[]⟩ 0 [] [] []):=by
 refine ⟨?_,by omega,fun e=>absurd h e,?_,?_,?_⟩
 ·unfold ME;rw[Pd (by omega)];exact h.symm
 ·rw[Pd (by omega)];rfl
 ·rw[Pd (by omega)];rfl
 ·rw[Pd (by omega)];rfl
theorem AAl (h:Ab d t=2) {i:Int} (hi:F7 (d.getD t Bo)<=i/\i<=Fp (d.getD t Bo)):Oa d t (.mk 2 false i ⟨#[]⟩ 0 [] [] []):=by
 refine ⟨?_,by omega,fun _=>rfl,?_,?_,?_⟩
 ·unfold ME;rw[Pd (by omega)];exact h.symm
 ·rw[AAB h];exact hi
 ·rw[Pd (by omega)];rfl
 ·rw[Pd (by omega)];rfl
theorem kz (h:Ab d t=3) {s:ByteArray} (hs:(s.size:Int)<=(((d.getD t Bo).a % 4:Nat):Int)):Oa d t (.mk 3 false 0 s 0 [] [] []):=by
 refine ⟨?_,by omega,fun _=>rfl,?_,?_,?_⟩
 ·unfold ME;rw[Pd (by omega)];exact h.symm
 ·rw[Pd (by omega)];rfl
 ·rw[AAB h];exact hs
 ·rw[Pd (by omega)];rfl
theorem AAk (h:Ab d t=4) {n:Int} (hn:n∈Di (d.getD t Bo)):Oa d t (.mk 4 false 0 ⟨#[]⟩ n [] [] []):=by
 refine ⟨?_,by omega,fun _=>rfl,?_,?_,?_⟩
 ·unfold ME;rw[Pd (by omega)];exact h.symm
 ·rw[Pd (by omega)];rfl
 ·rw[Pd (by omega)];rfl
 ·rw[AAB h];exact hn
theorem ZU {k:Int} (hk:k=ME d t) (h:Ab d t=7\/Ab d t=8\/Ab d t=9):Oa d t (.mk k false 0 ⟨#[]⟩ 0 [] [] []):=by
 refine ⟨hk,by omega,fun _=>rfl,?_,?_,?_⟩
 ·rw[Pd (by omega)];rfl
 ·rw[Pd (by omega)];rfl
 ·rw[Pd (by omega)];rfl
theorem ACo (h:Ab d t=7):(7:Int)=ME d t:=by unfold ME;rw[Pd (by omega)];exact h.symm
theorem ACn (h:Ab d t=9):(9:Int)=ME d t:=by unfold ME;rw[Pd (by omega)];exact h.symm
theorem sS (h:Ab d t=8) (hk:Ee d 0<0):(7:Int)=ME d t:=by unfold ME;rw[AAB ⟨h,hk⟩]
theorem sQ (h:Ab d t=8) (hk:¬ Ee d 0<0):(8:Int)=ME d t:=by unfold ME;rw[Pd (fun e=>hk e.2)];exact h.symm
end
theorem qd (x:AR) {code:Nat} (hc:code<256):F7 x<=IntKind.i64.wrap (F7 x+(IntKind.i64.wrap (code:Int)).tmod ((x.b:Int) % 6+1))/\IntKind.i64.wrap (F7 x+(IntKind.i64.wrap (code:Int)).tmod ((x.b:Int) % 6+1))<=Fp x:=by
 have h1:=Int.emod_nonneg (code:Int) (show (x.b:Int) % 6+1≠0 by omega)
 have h2:=Int.emod_lt_of_pos (code:Int) (show 0<(x.b:Int) % 6+1 by omega)
 have hl:F7 x=((x.a % 7:Nat):Int) - 3:=rfl;have hh:Fp x=F7 x+((x.b % 6:Nat):Int):=rfl;rw[IntWalk.i64_in (code:Int) (by omega),Int.tmod_eq_emod_of_nonneg (by omega),IntWalk.i64_in _ (by omega)]
 omega
theorem Uf {d:List AR} {i code:Nat} (h:¬ CY d i code<0):7<=Ab d (CY d i code).toNat\/CY d i code<(i:Int):=by
 unfold CY at h ⊢
 split
 ·rename_i hc
  rw[ACE] at hc
  rcases hc with hc|hc
  ·exact .inl (AAr hc)
  ·have:=AAr hc
   exact .inr (by omega)
 ·split
  ·have:code % d.length % i<i:=Nat.mod_lt _ (by assumption)
   exact .inr (by omega)
  ·rename_i h1 h2
   rw[Pd h1,Pd h2] at h;unfold Ve at h ⊢
   split
   ·rename_i k hk
    have hh:=List.find?_some (p:=fun k=>Hl (Ab d k)) hk
    exact .inl (AAr (show decide (7<=Ab d k)=true from hh))
   ·rename_i hk
    rw[hk] at h;exact absurd (show (-1:Int)<0 by decide) h
def mW (d:List AR) (i:Nat) (m:Ac):Prop:=(m.Et=true->Oa d m.type.toNat m.dflt)/\(7<=Ab d m.type.toNat\/m.type<(i:Int))
def rQ (x:Bool) (s:ByteArray):ByteArray:=if x then s++⟨#[120]⟩ else s
theorem mP (s u:ByteArray):(s++u).data.toList=s.data.toList++u.data.toList:=by
 rw[ByteArray.data_append];simp
theorem dP {s u:ByteArray} (h:s.data.toList=u.data.toList):s=u:=by
 cases s;cases u;congr;exact Array.toList_inj.1 h
def Sh (n:Nat) (a b:Int):Prop:=b=a\/b=a+(n:Int)
def cpM (x:Bool) (m:Ac) (u:Int):Ac:={ m with name:=rQ x m.name,type:=u }
def cpS (x:Bool) (s:Bu):Bu:={ s with name:=rQ x s.name }
def cpN (x:Bool) (s:ByteArray):ByteArray:=if s=⟨#[]⟩ then s else rQ x s
def cpT (x:Bool) (t:Aa) (ms:List Ac) (k e:Int):Aa:={ t with name:=cpN x t.name,AX:=t.AX.map (cpS x),AA:=ms,key:=k,elem:=e }
def Ms (n:Nat) (x:Bool):List Ac->List Ac->Prop
 | [],[]=>True
 | m::r,c::q=>(∃u,Sh n m.type u/\c=cpM x m u)/\Ms n x r q
 | _,_=>False
structure ACD (n:Nat) (x:Bool) (t:Aa) (ms:List Ac) (k e:Int):Prop where
 AA:Ms n x t.AA ms
 key:if t.kind=8 then Sh n t.key k else k=t.key
 elem:if t.kind=8\/t.kind=7\/t.kind=9 then Sh n t.elem e else e=t.elem
theorem Ms.len {n:Nat} {x:Bool}:∀ {l m:List Ac},Ms n x l m->m.length=l.length
 | [],[],_=>rfl
 | a::l,b::m,h=>by rw[AAI,AAI,Ms.len h.2]
 | [],_::_,h=>h.elim
 | _::_,[],h=>h.elim
theorem Ms.ids {n:Nat} {x:Bool}:∀ {l m:List Ac},Ms n x l m->(m.map fun y=>(y.id,y.name))=(l.map fun y=>(y.id,y.name)).map fun y=>(y.1,rQ x y.2)
 | [],[],_=>rfl
 | a::l,b::m,h=>by
  obtain ⟨⟨u,_,e⟩,h2⟩:=h;rw[ABh,ABh,ABh,Ms.ids h2,e];rfl
 | [],_::_,h=>h.elim
 | _::_,[],h=>h.elim
theorem Ms.all {n:Nat} {x r:Bool}:∀ {l m:List Ac},Ms n x l m->m.all (Ri r)=l.all (Ri r)
 | [],[],_=>rfl
 | a::l,b::m,h=>by
  obtain ⟨⟨u,_,e⟩,h2⟩:=h;rw[List.all_cons,List.all_cons,Ms.all h2,e];rfl
 | [],_::_,h=>h.elim
 | _::_,[],h=>h.elim
def Ny (n:Nat):List (Int×Int)->List (Int×Int)->Prop
 | [],[]=>True
 | u::r,v::q=>(v.1=u.1/\Sh n u.2 v.2)/\Ny n r q
 | _,_=>False
theorem Ny.app {n:Nat}:∀ {a b c d:List (Int×Int)},Ny n a b->Ny n c d->Ny n (a++c) (b++d)
 | [],[],_,_,_,h=>h
 | _::_,_::_,_,_,h1,h2=>⟨h1.1,Ny.app h1.2 h2⟩
 | [],_::_,_,_,h,_=>h.elim
 | _::_,[],_,_,h,_=>h.elim
theorem Ms.uses {n:Nat} {x:Bool}:∀ {l m:List Ac},Ms n x l m->Ny n (l.map fun y=>(y.id,y.type)) (m.map fun y=>(y.id,y.type))
 | [],[],_=>trivial
 | a::l,b::m,h=>by
  obtain ⟨⟨u,hs,e⟩,h2⟩:=h;rw[ABh,ABh,e];exact ⟨⟨rfl,hs⟩,Ms.uses h2⟩
 | [],_::_,h=>h.elim
 | _::_,[],h=>h.elim
theorem Ny.mem {n:Nat}:∀ {l m:List (Int×Int)},Ny n l m->∀v∈m,∃u∈l,v.1=u.1/\Sh n u.2 v.2
 | [],[],_,v,hv=>by cases hv
 | a::l,b::m,h,v,hv=>by
  rcases ABP.1 hv with e|e
  ·rw[e];exact ⟨a,ABT,h.1⟩
  ·obtain ⟨u,h1,h2⟩:=Ny.mem h.2 v e
   exact ⟨u,ABZ _ h1,h2⟩
 | [],_::_,h,_,_=>h.elim
 | _::_,[],h,_,_=>h.elim
section
variable {n:Nat} {x:Bool} {t:Aa} {ms:List Ac} {k e:Int}
theorem ACD.uses (h:ACD n x t ms k e):Ny n (Jc t) (Jc (cpT x t ms k e)):=by
 unfold Jc;refine Ny.app h.AA.uses ?_
 show Ny n _ (if t.kind=8 then [(0,k),(-1,e)] else if t.kind=7\/t.kind=9 then [(-1,e)] else [])
 have hk:=h.key;have he:=h.elem
 by_cases h8:t.kind=8
 ·rw[AAB h8] at hk
  rw[AAB (.inl h8)] at he;rw[AAB h8,AAB h8];exact ⟨⟨rfl,hk⟩,⟨rfl,he⟩,trivial⟩
 ·rw[Pd h8,Pd h8]
  by_cases h7:t.kind=7\/t.kind=9
  ·rw[AAB (.inr h7)] at he
   rw[AAB h7,AAB h7];exact ⟨⟨rfl,he⟩,trivial⟩
  ·rw[Pd h7,Pd h7]
   exact trivial
end
section
variable {s c:List Aa}
end
theorem l9:∀x y:List UInt8,Go.Op.bytesLess x y=false->x≠y->Go.Op.bytesLess y x=true
 | [],[],_,h=>absurd rfl h
 | [],_::_,h,_=>by simp[Go.Op.bytesLess] at h
 | _::_,[],_,_=>rfl
 | a::x,b::y,h,hne=>by
  unfold Go.Op.bytesLess at h ⊢
  by_cases h1:a<b
  ·simp[h1] at h
  ·by_cases h2:b<a
   ·simp[h2]
   ·have e:a=b:=by
     apply UInt8.toNat_inj.1
     have g1:¬ a.toNat<b.toNat:=fun h=>h1 (UInt8.lt_iff_toNat_lt.2 h)
     have g2:¬ b.toNat<a.toNat:=fun h=>h2 (UInt8.lt_iff_toNat_lt.2 h)
     omega
    subst e;simp[h1] at h ⊢;exact l9 x y h fun e=>hne (by rw[e])
theorem lZ {a b:Val} (hk:a.kind=b.kind) (wN:1<=a.kind/\a.kind<=4) (h1:¬ BZ a b<0) (h2:BZ a b≠0):BZ b a<0:=by
 have hI:∀x y:Int,¬ Dz x y<0->Dz x y≠0->Dz y x<0:=fun x y g1 g2=>by
  unfold Dz at *
  by_cases e:x<y
  ·rw[AAB e] at g1;exact absurd (by decide) g1
  ·rw[Pd e] at g2
   by_cases e2:x=y
   ·rw[AAB e2] at g2;exact absurd rfl g2
   ·rw[AAB (by omega)];decide
 have hk4:a.kind=1\/a.kind=2\/a.kind=3\/a.kind=4:=by omega
 unfold BZ at *;rw[Pd (by omega)] at h1 h2 ⊢
 rcases hk4 with e|e|e|e
 ·rw[AAB e] at h1 h2
  rw[AAB (by omega)]
  cases ha:a.bool <;> cases hb:b.bool <;> simp[ha,hb] at h1 h2 ⊢
 ·rw[Pd (by omega),AAB e] at h1 h2
  rw[Pd (by omega),AAB (by omega)]
  exact hI _ _ h1 h2
 ·rw[Pd (by omega),Pd (by omega),AAB e] at h1 h2
  rw[Pd (by omega),Pd (by omega),AAB (by omega)]
  by_cases g:Dz a.str.size b.str.size=0
  ·rw[Pd (by rw[g];simp)] at h1 h2
   have hs:(a.str.size:Int)=b.str.size:=by
    unfold Dz at g
    by_cases e:(a.str.size:Int)<b.str.size
    ·rw[AAB e] at g;cases g
    ·rw[Pd e] at g
     by_cases e2:(a.str.size:Int)=b.str.size
     ·exact e2
     ·rw[Pd e2] at g;cases g
   rw[Pd (by unfold Dz;rw[Pd (by omega),AAB hs.symm];simp)]
   unfold Ot at *
   by_cases l:nP a.str b.str=true
   ·rw[AAB l] at h1;exact absurd (by decide) h1
   ·rw[Pd l] at h2
    by_cases e2:a.str=b.str
    ·rw[AAB e2] at h2;exact absurd rfl h2
    ·have hl:nP b.str a.str=true:=l9 _ _ (by simpa[nP] using l) fun e=>e2 (ByteArray.ext (Array.toList_inj.1 (by rw[<-ByteArray.toList_eq,<-ByteArray.toList_eq];exact e)))
     rw[AAB hl]
     decide
  ·rw[AAB g] at h1 h2
   have:=hI _ _ h1 h2;rw[AAB (by omega)];exact this
 ·rw[Pd (by omega),Pd (by omega),Pd (by omega),AAB e] at h1 h2
  rw[Pd (by omega),Pd (by omega),Pd (by omega),AAB (by omega)]
  exact hI _ _ h1 h2
theorem Zk:∀ (l:List Val),I9 l=true->∀j (h:j+1<l.length),BZ l[j] l[j+1]<0
 | [],_,_,h=>by simp at h
 | [_],_,_,h=>by simp at h
 | a::b::r,h,0,_=>by unfold I9 at h;rw[AAD] at h;exact AAr h.1
 | a::b::r,h,j+1,hj=>by
  unfold I9 at h;rw[AAD] at h;exact Zk (b::r) h.2 j (by simpa using hj)
theorem rP {l:List Val} (h:I9 l=true) {y:Val} {i:Nat} (hi:i<=l.length) (hk:∀v∈l,v.kind=y.kind/\1<=v.kind/\v.kind<=4) (hl:∀j (hj:j<l.length),j<i->BZ l[j] y<0) (hn:∀ (hj:i<l.length),¬ BZ l[i] y<0/\BZ l[i] y≠0):I9 (l.take i++[y]++l.drop i)=true:=by
 have ha:=Zk l h;have hlt:(l.take i).length=i:=by rw[List.length_take];omega
 refine Tk _ fun j hj=>?_
 have hg:∀k (hk:k<(l.take i++[y]++l.drop i).length),(l.take i++[y]++l.drop i)[k]=if h1:k<i then l[k]'(by omega) else if h2:k=i then y else l[k - 1]'(by simp at hk;omega):=fun k hk=>by
  by_cases h1:k<i
  ·rw[dif_pos h1,List.getElem_append_left (by simp;omega),List.getElem_append_left (by omega),List.getElem_take]
  ·rw[dif_neg h1]
   by_cases h2:k=i
   ·subst h2
    rw[dif_pos rfl,List.getElem_append_left (by simp;omega),List.getElem_append_right (by omega)]
    simp
   ·rw[dif_neg h2,List.getElem_append_right (by simp;omega),List.getElem_drop]
    congr 1
    simp
    omega
 rw[hg,hg];have hjl:j+1<l.length+1:=by simp at hj;omega
 by_cases h1:j+1<i
 ·rw[dif_pos (by omega),dif_pos h1];exact ha j (by omega)
 ·by_cases h2:j+1=i
  ·rw[dif_pos (by omega),dif_neg h1,dif_pos h2];exact hl j (by omega) (by omega)
  ·by_cases h3:j=i
   ·subst h3
    rw[dif_neg (by omega),dif_pos rfl,dif_neg h1,dif_neg h2]
    have hj2:j<l.length:=by omega
    obtain ⟨g1,g2⟩:=hn hj2;have hkk:=hk _ (AAL hj2);exact lZ hkk.1 hkk.2 g1 g2
   ·rw[dif_neg (by omega),dif_neg h3,dif_neg h1,dif_neg h2]
    have:=ha (j - 1) (by omega)
    simpa[show j - 1+1=j by omega] using this
theorem Om {P:Program} (base:Nat) (t ty e:TypeId) (i:TypeInfo) (size:Nat) (ht:P.underlying t=some (.slice e)) (hi:P.info? e=some i) (v:Value) (n:Nat) (xs:List Value) (hown:w.ownsRow base e size v n xs) (c:Nat):
  (Builtin.append_ #[t,t] ty #[v,.slice none 0 c]).run P w = .ok v w:=by
 rcases hown.2 with ⟨rfl,rfl⟩|⟨g,cap,cur,rfl,_,_,hnc,_⟩
 ·simp[Builtin.append_,run_underlying ht,sizeOf,typeInfo,hi,Builtin.lenOf,Builtin.firstCells]
 ·simp[Builtin.append_,run_underlying ht,sizeOf,typeInfo,hi,Builtin.lenOf,Builtin.firstCells,hnc,storeCells]
