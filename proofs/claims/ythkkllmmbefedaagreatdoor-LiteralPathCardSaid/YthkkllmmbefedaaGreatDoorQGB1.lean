/-
  A whole slice appended to an empty row of the call's own.
-/
import Derived.Test.YthkkllmmbefedaaGreatDoorQGA6
import Derived.Test.YthkkllmmbefedaaGreatDoorQGA5
import Derived.Test.YthkkllmmbefedaaGreatDoorQGA2
import Derived.Test.YthkkllmmbefedaaGreatDoorQGA1
import Derived.Test.YthkkllmmbefedaaGreatDoorQGA9
import Derived.Test.YthkkllmmbefedaaGreatDoorQGM0
namespace Go.Proofs.YthkkllmmbefedaaGreatDoor
open Go.RowKit
set_option maxHeartbeats 16000000
set_option maxRecDepth 100000
structure KN where
 t:Ae
 As:zo
 cs:Nat
 Am:zo
 cm:Nat
def KN.cells (x:KN):List Value:=x.t.cs x.As x.cs x.Am x.cm
theorem iF (x:KN):∀u∈x.cells,u.oneCell'=true:=fun u hu=>by
 unfold KN.cells at hu;simp only[AAr,List.mem_nil_iff,or_false] at hu
 rcases hu with rfl|rfl|rfl|rfl|rfl|rfl|rfl|rfl|rfl|rfl <;> rfl
theorem Ki {T E:TypeId} {size bytes:Nat} (hE:Elem T E size bytes) (w:World) (base:Nat) (ty:TypeId) (v:Value) (n:Nat) (xs:List Value) (h:w.ownsRow base E size v n xs) (b o m c:Nat) (news:List Value) (hl:news.length=m * size)
  (hnews:w.rangeAt b o news) (h1:∀u∈news,u.oneCell'=true) (hlen:n+m<=9223372036854775807) (hby:(n+m) * bytes<=140737488355328) (hb:base<=w.heap.size) :
  ∃v' w',(Builtin.append_ #[T,T] ty #[v,.slice (some ⟨b,o,none⟩) m c]).run Tryz.prog w = .ok v' w'/\w'.ownsRow base E size v' (n+m) (xs++news)/\w.grownBy w' v.ownBlock/\(v'.ownBlock=v.ownBlock\/v'.ownBlock=some w.heap.size):=by
 obtain ⟨z,J5,hzs⟩:=hE.info;obtain ⟨i0,hi,hz0,hz1,hz2⟩:=info_parts J5;obtain ⟨v',w',hr,h2,h3,_,h5⟩:=run_append_own_at (P:=Tryz.prog) w base T ty E i0 z size bytes hE.under hi hz0 hz1 hz2 hzs hE.pos v n xs h ⟨b,o,none⟩ m c news hl (fun j u hj=>by rw[Addr.add_mid];exact hnews j u hj) h1 (by unfold maxLen;omega) hby hb
 exact ⟨v',w',hr,h2,h3,h5⟩
variable {w:World}
theorem Oj {T E:TypeId} {size bytes:Nat} (hE:Elem T E size bytes) {ops:Array Oper} {op:Oper} {a:Act} {K:Act->World->Prop} {Q:Exit->Act->World->Prop} {El:Prop} (hgd:op.guard=none) (s x:Operand) (ho:op.op = .call { callee := .builtin .append,args:=#[s,x],argTypes:=#[T,T] }) (base:Nat) (v:Value) (n:Nat) (xs:List Value) (hs:a.eval s=v) (h:w.ownsRow base E size v n xs) (b o m c:Nat) (news:List Value) (hx:a.eval x = .slice (some ⟨b,o,none⟩) m c) (hl:news.length=m * size) (hnews:w.rangeAt b o news) (h1:∀u∈news,u.oneCell'=true) (hlen:n+m<=9223372036854775807) (hby:(n+m) * bytes<=140737488355328) (hb:base<=w.heap.size) (hk:∀v' w',w'.ownsRow base E size v' (n+m) (xs++news)->w.grownBy w' v.ownBlock->(v'.ownBlock=v.ownBlock\/v'.ownBlock=some w.heap.size)->K (a.put op.dst v') w'):if Region.wanted op (yielded ops a.tmps)=true then Oper.wp Tryz.prog op a w K Q else El:=by
 have hw:Region.wanted op (yielded ops a.tmps)=true:=by simp[Region.wanted,hgd]
 rw[AAG hw];obtain ⟨v',w',hr,h2,h3,h5⟩:=Ki hE w base op.type v n xs h b o m c news hl hnews h1 hlen hby hb;unfold Oper.wp execOp;simp only[ho,resolve,invoke,builtin,Sem.run_bind,Sem.run_pure,Result.andThen_ok,List.map_toArray,AA4,List.map_nil,hs,hx,hr];exact hk v' w' h2 h3 h5
theorem kZ:Elem 29 87 10 120:=⟨Tryz.underlying29,⟨.agg #[.int .i64 0,.string ⟨#[]⟩,.int .i64 0,.int .i64 0,.int .i64 0,.slice none 0 0,.slice none 0 0,.int .i64 0,.int .i64 0,.bool false],by kernel_rfl,rfl⟩,by omega⟩
theorem WC:(Tryz.prog.info? 87).map (·.size)=some 10:=by kernel_rfl
theorem Zn (t:Ae) (As:zo) (cs:Nat) (Am:zo) (cm:Nat):((t.cs As cs Am cm).toArray).all (·.oneCell')=true :=
 all_oneCell_toArray fun u hu=>by
  simp only[AAr,List.mem_nil_iff,or_false] at hu
  rcases hu with rfl|rfl|rfl|rfl|rfl|rfl|rfl|rfl|rfl|rfl <;> rfl
theorem Off.more {S S':Nat->Prop} {w1:World} {P:World->Prop} (h:Off S w P) (hs:∀q,q<w.heap.size->S' q->S q) (hk:∀q,q<w.heap.size->¬ S q->w1.heap[q]? = w.heap[q]?) (hz:w.heap.size<=w1.heap.size):Off S' w1 P :=
 fun w' hw=>h w' fun q hq hl=>(hw q (fun h'=>hq (hs q hl h')) (by omega)).trans (hk q hl hq)
theorem JO {s:ByteArray} (h:s.size<=100):Db s:=by unfold Db;omega
theorem iA (w:World) (L:List KN) (h:∀x∈L,KM w x.t x.As x.Am) (hl:L.length<=1000):CQ (w.alloc (.cells (L.flatMap KN.cells).toArray 87)) (some ⟨w.heap.size,0,none⟩) (L.map (·.t)):=by
 refine ⟨by unfold DU;rw[AAZ];omega,fun _=>⟨_,_,rfl,fun i x hx=>?_⟩⟩
 rw[List.getElem?_map] at hx
 cases hL:L[i]? with
 | none=>rw[hL] at hx;cases hx
 | some y =>
  rw[hL] at hx;obtain rfl:y.t=x:=by simpa using hx
  refine ⟨y.cells,⟨y.As,y.cs,y.Am,y.cm,rfl,(h y (ABF hL)).below (zD _ _)⟩,?_⟩;exact Nn (enc:=KN.cells) (k:=10) (fun _=>rfl) (zR w _ _) hL
def lI (l:List Ae) (w:World) (e:Ending) (w':World):Prop:=∃A c,e = .returned (.agg #[.slice A l.length c])/\CQ w' A l/\Below w.heap.size w w'
theorem Na {t:Ae} {Am:zo} (hn:Db t.name) (hs:t.Aj=[]) (hm:FL w Am t.AA):KM w t none Am:=⟨hn,by rw[hs];exact Aa.nil _ _ _ _ _,hm⟩
theorem Dg {t:Ae} (hn:Db t.name) (hs:t.Aj=[]) (hm:t.AA=[]):KM w t none none:=⟨hn,by rw[hs];exact Aa.nil _ _ _ _ _,by rw[hm];exact Aa.nil _ _ _ _ _⟩
theorem Uy (n:Int) (w:World):Calls Tryz.prog 35 #[.int .i64 n] w fun e w'=>e = .returned (.bool (Cv n))/\w=w':=by
 by_cases h1:n=4
 ·subst h1
  go_enter Tryz.func35,Tryz.ntmps35
  go_wp2
  go_ret
  exact ⟨rfl,rfl⟩
 by_cases h2:n=5
 ·subst h2
  go_enter Tryz.func35,Tryz.ntmps35
  go_wp2
  go_ret
  exact ⟨rfl,rfl⟩
 by_cases h3:n=6
 ·subst h3
  go_enter Tryz.func35,Tryz.ntmps35
  go_wp2
  go_ret
  exact ⟨rfl,rfl⟩
 have HL:=zh (show Cv n=false by simp[Cv,h1,h2,h3])
 have e1:(n==4)=false:=by simp[h1]
 have e2:(n==5)=false:=by simp[h2]
 have e3:(n==6)=false:=by simp[h3]
 clear h1 h2 h3
 go_enter Tryz.func35,Tryz.ntmps35
 go_wp2
 go_ret
 exact ⟨by rw[HL.out];rfl,rfl⟩
theorem Qv (n : Int) (w : World) : Calls Tryz.prog 64 #[.int .i64 n] w fun e w' => e = .returned (.bool (Bc n)) /\ w = w' := by
  by_cases h2 : 1 <= n <;> by_cases h3 : n <= 4
  all_goals
    (have HL := zh (show Bc n = _ by unfold Bc; simp only [h2, h3]; rfl)
     go_enter Tryz.func64, Tryz.ntmps64
     go_wp2
     go_ret
     exact ⟨by rw [HL.out]; rfl, rfl⟩)
def JI.At (p:JI) (cs:List Value):Prop:=(p.id<256/\p.type<256/\p.flag<256)/\cs=[.int .u8 p.id,.int .u8 p.type,.int .u8 p.flag]
def MH (w:World) (A:zo) (l:List JI):Prop:=Aa 3 3 JI.At w A l
variable {w':World} {A:zo}
theorem MH.below {l:List JI} (h:MH w A l) (hb:Below w.heap.size w w'):MH w' A l:=Aa.imp h (fun _ _ _ h=>h) hb
abbrev AX.v (x:AX) (A:zo) (c:Nat):Value := .agg #[.int .u8 x.kind,.int .u8 x.a,.int .u8 x.b,.int .u8 x.c,.slice A x.parts.length c]
abbrev AX.cs (x:AX) (A:zo) (c:Nat):List Value:=[.int .u8 x.kind,.int .u8 x.a,.int .u8 x.b,.int .u8 x.c,.slice A x.parts.length c]
structure Mg (w:World) (x:AX) (A:zo):Prop where
 kind:x.kind<256
 a:x.a<256
 b:x.b<256
 c:x.c<256
 parts:MH w A x.parts
variable {x:AX}
theorem Mg.below (h:Mg w x A) (hb:Below w.heap.size w w'):Mg w' x A:=⟨h.kind,h.a,h.b,h.c,h.parts.below hb⟩
def AX.At (w:World) (x:AX) (cs:List Value):Prop:=∃A c,cs=x.cs A c/\Mg w x A
theorem AX.Ev (hb:Below w.heap.size w w') {cs:List Value}:x.At w cs->x.At w' cs:=fun ⟨A,c,e,h⟩=>⟨A,c,e,h.below hb⟩
def BM (w:World) (A:zo) (d:List AX):Prop:=Aa 5 32 (AX.At w) w A d
theorem BM.below {l:List AX} (h:BM w A l) (hb:Below w.heap.size w w'):BM w' A l:=Aa.imp h (fun _ _ _=>AX.Ev hb) hb
abbrev Dc (A:zo) (n c:Nat):Value := .agg #[.slice A n c]
variable {d:List AX}
theorem BM.Vh (h:BM w A d) {i:Nat} (hi:i<d.length):∃b o A' c',A=some ⟨b,o,none⟩/\Mg w (d.getD i Bh) A' /\
  w.cell? ⟨b,o+i * 5,none⟩=some (.int .u8 (d.getD i Bh).kind)/\w.cell? ⟨b,o+i * 5+1,none⟩=some (.int .u8 (d.getD i Bh).a)/\w.cell? ⟨b,o+i * 5+2,none⟩=some (.int .u8 (d.getD i Bh).b)/\w.cell? ⟨b,o+i * 5+3,none⟩=some (.int .u8 (d.getD i Bh).c)/\w.cell? ⟨b,o+i * 5+4,none⟩=some (.slice A' (d.getD i Bh).parts.length c'):=by
 obtain ⟨b,o,cs,e,⟨A',c',rfl,hr⟩,h2⟩:=Aa.at_ h hi;have eg:d.getD i Bh=d[i]:=by rw[AAl,zl hi];rfl
 rw[eg];exact ⟨b,o,A',c',e,hr,h2 0 _ rfl,h2 1 _ rfl,h2 2 _ rfl,h2 3 _ rfl,h2 4 _ rfl⟩
theorem MH.at3 {d:List JI} (h:MH w A d) {i:Nat} (hi:i<d.length):∃b o,A=some ⟨b,o,none⟩/\(d[i].id<256/\d[i].type<256/\d[i].flag<256) /\
  w.cell? ⟨b,o+i * 3,none⟩=some (.int .u8 d[i].id)/\w.cell? ⟨b,o+i * 3+1,none⟩=some (.int .u8 d[i].type)/\w.cell? ⟨b,o+i * 3+2,none⟩=some (.int .u8 d[i].flag):=by
 obtain ⟨b,o,cs,e,⟨h1,rfl⟩,h2⟩:=Aa.at_ h hi;exact ⟨b,o,e,h1,h2 0 _ rfl,h2 1 _ rfl,h2 2 _ rfl⟩
theorem bP {i:Nat} (hi:i<d.length):Ac d i=1+(d[i].kind:Int) % 9:=by
 unfold Ac;rw[AAl,zl hi];simp
theorem CV (d:List AX) (i:Nat) (A:zo) (c:Nat) (w:World) (hd:BM w A d) (hi:i<d.length) :
  Calls Tryz.prog 34 #[Dc A d.length c,.int .i64 i] w fun e w'=>e = .returned (.int .i64 (Ac d i))/\Below w.heap.size w w':=by
 have hn:=hd.1.lt (by omega)
 obtain ⟨b,o,A',c',rfl,hr,c0,_,_,_,_⟩:=(hd.below (zD w (.cells #[.slice A d.length c] 24))).Vh hi;have h1:(0:Int)<=(i:Int):=by omega
 have h2:(i:Int)<(d.length:Int):=by omega
 have hk:=hr.kind
 go_enter Tryz.func34,Tryz.ntmps34
 go_wp2
 go_ret
 exact ⟨by rw[bP hi];rfl,zD _ _⟩
theorem OA (n:Int) (w:World):Calls Tryz.prog 95 #[.int .i64 n] w fun e w'=>e = .returned (.bool (GN n))/\w=w':=by
 go_enter Tryz.func95,Tryz.ntmps95
 go_wp2
 go_ret
 exact ⟨rfl,rfl⟩
structure KH (w0 w:World) (A:zo) (d:List AX) (c:Nat):Prop where
 lt:w0.heap.size<w.heap.size
 cell:w.cell? ⟨w0.heap.size,0,none⟩=some (.slice A d.length c)
 nodes:BM w A d
 below:Below w0.heap.size w0 w
theorem KH.step {w0:World} {c:Nat} (h:KH w0 w A d c) (hb:Below w.heap.size w w'):KH w0 w' A d c :=
 ⟨AAq h.lt hb.size,zA hb h.cell,h.nodes.below hb,zB h.below hb⟩
theorem KH.new {c:Nat} (h:BM w A d):KH w (w.alloc (.cells #[.slice A d.length c] 24)) A d c :=
 ⟨by simp,by rw[AAE _ _ _ _ _ _ (AAC w _)];rfl,h.below (zD _ _),zD _ _⟩
variable {k:Nat} {p:Nat->Bool}
theorem kQ {n:Nat} (hk:k<n) (hp:p k=true) (hno:∀j,j<k->p j=false):Tf n p=(k:Int):=by
 unfold Tf;have:(List.range n).find? p=some k:=by
  rw[List.find?_range_eq_some];exact ⟨hp,by simpa using hk,fun j hj=>by simp[hno j hj]⟩
 rw[this]
theorem kP {n:Nat} (hno:∀j,j<n->p j=false):Tf n p = -1:=by
 unfold Tf;have:(List.range n).find? p=none:=by
  rw[List.find?_eq_none]
  intro x hx
  simp[hno x (by simpa using hx)]
 rw[this]
theorem Ui (d:List AX) (i code:Nat) (A:zo) (c:Nat) (w:World) (hd:BM w A d) (hi:i<d.length) (hco:code<256) :
  Calls Tryz.prog 62 #[Dc A d.length c,.int .i64 i,.int .u8 code] w fun e w'=>e = .returned (.int .i64 (CJ d i code))/\Below w.heap.size w w':=by
 have hn:=hd.1.lt (by omega)
 have HB:=zh (KH.new (c:=c) hd);clear hd;obtain ⟨t,ht⟩:∃t:Nat,t=code % d.length:=⟨_,rfl⟩;have htl:t<d.length:=by rw[ht];exact Nat.mod_lt _ (by omega)
 have HT:=zh ht;have et:(code:Int) % (d.length:Int)=(t:Int):=by rw[ht];simp
 clear ht;have hpos:(0:Int)<(d.length:Int):=by omega
 go_enter Tryz.func62,Tryz.ntmps62
 go_wp2_with fail
 refine (CV d t A c _ HB.out.nodes htl).mono ?_;rintro e w2 ⟨rfl,hb2⟩;replace HB:=zh (HB.out.step hb2);clear hb2;go_wp2_with fail;refine (OA _ _).mono ?_;rintro e w3 ⟨rfl,rfl⟩
 cases hh:GN (Ac d t) with
 | true =>
  have HD:=zh (show CJ d i code=(t:Int) by unfold CJ;rw[<-HT.out,hh];rfl)
  go_wp2
  go_ret
  exact ⟨by rw[HD.out];rfl,HB.out.below⟩
 | false =>
  by_cases hti:t<i
  ·have HD:=zh (show CJ d i code=(t:Int) by unfold CJ;rw[<-HT.out,hh];simp[hti])
   go_wp2
   go_ret
   exact ⟨by rw[HD.out];rfl,HB.out.below⟩
  by_cases hi0:0<i
  ·have HD:=zh (show CJ d i code=((t % i:Nat):Int) by unfold CJ;rw[<-HT.out,hh];simp[hti,hi0])
   have hi1:(0:Int)<(i:Int):=by omega
   go_wp2
   go_ret
   exact ⟨by rw[HD.out];simp,HB.out.below⟩
  have HD:=zh (show CJ d i code=Tf d.length fun k=>GN (Ac d k) by unfold CJ;rw[<-HT.out,hh];simp[hti,hi0])
  have hi2:i=0:=by omega
  subst hi2;clear hti hi0 hh et;go_wp2
  go_loopw [9] (fun i wr=>∃k:Nat,k<=d.length/\i = .int .i64 k/\Hid ((∀j,j<k->GN (Ac d j)=false)/\KH w wr A d c)) (fun i _=>d.length - (intOf i).toNat)
  case atStart=>exact ⟨0,by omega,rfl,(fun j h=>absurd h (by omega)),HB.out⟩
  case round =>
   obtain ⟨k,hk,rfl,hq⟩:=hrel
   by_cases hlt:k<d.length
   ·have sc0:=hq.out.2.cell
    have hz:=hq.out.2.lt;go_wp2_with fail;refine (CV d k A c _ hq.out.2.nodes hlt).mono ?_;rintro e w3 ⟨rfl,hb3⟩;have HB3:=zh (hq.out.2.step hb3);clear hb3;go_wp2_with fail;refine (OA _ _).mono ?_;rintro e w4 ⟨rfl,rfl⟩
    cases hh:GN (Ac d k) with
    | true =>
     replace HD:=zh (HD.out.trans (kQ hlt hh hq.out.1));clear hh;go_wp2;go_ret;exact ⟨by rw[HD.out];rfl,HB3.out.below⟩
    | false =>
     have HN:=zh hh;clear hh;go_wp2;go_roundw
     case rel =>
      refine ⟨k+1,by omega,by go_num,(fun j hj=>?_),HB3.out⟩
      by_cases e:j=k
      ·subst e;exact HN.out
      ·exact hq.out.1 j (by omega)
     case measure=>simp[intOf];omega
   ·replace HD:=zh (HD.out.trans (kP fun j hj=>hq.out.1 j (by omega)))
    go_wp2
    go_ret
    exact ⟨by rw[HD.out];rfl,hq.out.2.below⟩
theorem kW {n:Nat} (hk:k<n) (hp:p k=true) (hno:∀j,j<k->p j=false):(List.range n).find? p=some k:=by
 rw[List.find?_range_eq_some];exact ⟨hp,by simpa using hk,fun j hj=>by simp[hno j hj]⟩
theorem dL {n:Nat} (hno:∀j,j<n->p j=false):(List.range n).find? p=none:=by
 rw[List.find?_eq_none]
 intro x hx
 simp[hno x (by simpa using hx)]
theorem RB (d:List AX) (code:Nat) (A:zo) (c:Nat) (w:World) (hd:BM w A d) (hco:code<256) :
  Calls Tryz.prog 40 #[Dc A d.length c,.int .u8 code] w fun e w'=>e = .returned (.int .i64 (Dz d code))/\Below w.heap.size w w':=by
 have hn:=hd.1.lt (by omega)
 have HB:=zh (KH.new (c:=c) hd);clear hd
 go_enter Tryz.func40,Tryz.ntmps40
 go_wp2
 go_loopw [6] (fun i wr=>∃k:Nat,k<=d.length/\i = .int .i64 k/\Hid ((∀j,j<k->Bc (Ac d ((code+j) % d.length))=false)/\KH w wr A d c)) (fun i _=>d.length - (intOf i).toNat)
 case atStart=>exact ⟨0,by omega,rfl,(fun j h=>absurd h (by omega)),HB.out⟩
 case round =>
  obtain ⟨k,hk,rfl,hq⟩:=hrel
  by_cases hlt:k<d.length
  ·have sc0:=hq.out.2.cell
   have hz:=hq.out.2.lt;have hpos:(0:Int)<(d.length:Int):=by omega
   obtain ⟨t,ht⟩:∃t:Nat,t=(code+k) % d.length:=⟨_,rfl⟩;have htl:t<d.length:=by rw[ht];exact Nat.mod_lt _ (by omega)
   have HT:=zh ht;have et:((code:Int)+(k:Int)) % (d.length:Int)=(t:Int):=by rw[ht];simp
   clear ht;go_wp2_with fail;refine (CV d t A c _ hq.out.2.nodes htl).mono ?_;rintro e w3 ⟨rfl,hb3⟩;have HB3:=zh (hq.out.2.step hb3);clear hb3;go_wp2_with fail;refine (Qv _ _).mono ?_;rintro e w4 ⟨rfl,rfl⟩
   cases hh:Bc (Ac d t) with
   | true =>
    have HD:=zh (show Dz d code=(t:Int) by unfold Dz;rw[kW hlt (by rw[<-HT.out];exact hh) hq.out.1,HT.out])
    clear hh;go_wp2;go_ret;exact ⟨by rw[HD.out];rfl,HB3.out.below⟩
   | false =>
    have HN:=zh hh;clear hh;go_wp2;go_roundw
    case rel =>
     refine ⟨k+1,by omega,by go_num,(fun j hj=>?_),HB3.out⟩
     by_cases e:j=k
     ·subst e;rw[<-HT.out];exact HN.out
     ·exact hq.out.1 j (by omega)
    case measure=>simp[intOf];omega
  ·have HD:=zh (show Dz d code = -1 by unfold Dz;rw[dL fun j hj=>hq.out.1 j (by omega)])
   go_wp2
   go_ret
   exact ⟨by rw[HD.out];rfl,hq.out.2.below⟩
theorem NJ (x:AX) (A:zo) (c:Nat) (w:World) (ha:x.a<256) :
  Calls Tryz.prog 36 #[x.v A c] w fun e w'=>e = .returned (.int .i64 (FD x))/\Below w.heap.size w w':=by
 have HD:=zh (show FD x=(x.a:Int) % 7 - 3 by unfold FD;simp)
 go_enter Tryz.func36,Tryz.ntmps36
 go_wp2
 go_ret
 exact ⟨by rw[HD.out];rfl,zD _ _⟩
abbrev AX.box (x:AX) (A:zo) (c:Nat):Obj := .cells #[.int .u8 x.kind,.int .u8 x.a,.int .u8 x.b,.int .u8 x.c,.slice A x.parts.length c] 82
def Gb (W:World) (b:Nat) (x:AX) (A:zo) (c:Nat):Prop:=W.heap[b]? = some (.cells #[.int .u8 x.kind,.int .u8 x.a,.int .u8 x.b,.int .u8 x.c,.slice A x.parts.length c] 82 (0,0))
variable {W:World}
theorem Gb.cell {b:Nat} {c:Nat} (h:Gb W b x A c) (j:Nat):W.cell? ⟨b,j,none⟩=(#[.int .u8 x.kind,.int .u8 x.a,.int .u8 x.b,.int .u8 x.c,.slice A x.parts.length c]:Array Value)[j]? := AAE _ _ _ _ _ _ h
theorem Gb.blt {b:Nat} {c:Nat} (h:Gb W b x A c):b<W.heap.size:=(zg.1 h).1
theorem Gb.below {b:Nat} {c:Nat} (h:Gb W b x A c) (hb:Below W.heap.size W w'):Gb w' b x A c:=(hb.block b h.blt).trans h
theorem Gb.new (w:World) (x:AX) (A:zo) (c:Nat):Gb (w.alloc (x.box A c)) w.heap.size x A c:=AAC w (x.box A c)
theorem TK {b:Nat} {c:Nat} {P:Prop} (h:Gb w' b x A c) (hp:P):(w'.cell? ⟨b,0,none⟩=some (.int .u8 x.kind)/\w'.cell? ⟨b,1,none⟩=some (.int .u8 x.a)/\w'.cell? ⟨b,2,none⟩=some (.int .u8 x.b)/\w'.cell? ⟨b,3,none⟩=some (.int .u8 x.c)/\w'.cell? ⟨b,4,none⟩=some (.slice A x.parts.length c))/\Hid (Gb w' b x A c/\P) :=
 ⟨⟨h.cell 0,h.cell 1,h.cell 2,h.cell 3,h.cell 4⟩,h,hp⟩
theorem oo (x:AX):-3<=FD x/\FD x<=3:=by unfold FD;omega
theorem Yk (x:AX):Ep x=IntKind.i64.wrap (FD x+IntKind.i64.wrap ((x.b:Int).tmod 6)):=by
 have h1:(x.b:Int).tmod 6=((x.b % 6:Nat):Int):=rfl;have h2:=oo x;rw[h1,IntWalk.i64_in (((x.b % 6:Nat):Int)) (by omega),IntWalk.i64_in _ (by omega)]
 rfl
theorem Td (x:AX) (A:zo) (c:Nat) (w:World) (ha:x.a<256) :
  Calls Tryz.prog 37 #[x.v A c] w fun e w'=>e = .returned (.int .i64 (Ep x))/\Below w.heap.size w w':=by
 have HD:=zh (Yk x);have HB0:=zh (zD w (x.box A c));have ZK:=zh (Gb.new w x A c)
 go_enter Tryz.func37,Tryz.ntmps37
 go_wp2
 generalize w.alloc (x.box A c)=wc at *
 refine wp_region_held_drew (S:=(fun w'=>(w'.cell? ⟨w.heap.size,0,none⟩=some (.int .u8 x.kind)/\w'.cell? ⟨w.heap.size,1,none⟩=some (.int .u8 x.a)/\w'.cell? ⟨w.heap.size,2,none⟩=some (.int .u8 x.b)/\w'.cell? ⟨w.heap.size,3,none⟩=some (.int .u8 x.c)/\w'.cell? ⟨w.heap.size,4,none⟩=some (.slice A x.parts.length c))/\Hid (Gb w' w.heap.size x A c/\Below w.heap.size w w'))) (by kernel_rfl) ?_ (fun AO=>?_)
 ·(try dsimp only);exact TK (ZK.out.below (zC (Pe _ _) 1)) (zC HB0 1)
 refine tL 0 ?_;refine tL 2 ?_;refine tL 3 ?_;refine tL 4 ?_;refine tL 5 ?_;refine tR 1 (fun K hK=>?_)
 go_simp
 (refine (NJ x A c _ ha).mono ?_;rintro e w3 ⟨rfl,hbx⟩)
 refine hK.out _ _ ?_ (fun AO=>?_)
 ·(try dsimp only);exact TK (AO.2.out.1.below hbx) (zB AO.2.out.2 hbx)
 clear hK K;try simp only[ps]
 refine tL 6 ?_;refine tL 7 ?_;refine wpAnyH_done (by kernel_rfl) ?_ _
 go_wp2
 go_ret
 exact ⟨by rw[HD.out];rfl,AO.2.out.2⟩
def Vf (x:AX) (i:Nat):Bool:=(x.a >>> i) % 2==1
def GL (x:AX) (k:Nat):List Int:=((List.range k).filter (Vf x)).map fun i=>((i+1:Nat):Int)
theorem VR (x:AX) (k:Nat):GL x (k+1)=if Vf x k then GL x k++[((k+1:Nat):Int)] else GL x k:=by
 unfold GL;rw[List.range_succ,List.filter_append,List.map_append]
 cases h:Vf x k <;> simp[h]
theorem QE (x:AX) (k:Nat):(GL x k).length<=k:=by
 unfold GL;rw[AAZ];exact Nat.le_trans (List.length_filter_le _ _) (by simp)
theorem Wx (x:AX):C9 x=if GL x 6=[] then [1] else GL x 6:=rfl
theorem pW (x:AX) (k:Nat):(((x.a:Int) / 2 ^ k).tmod 2==1)=Vf x k:=by
 have h:(x.a:Int) / 2 ^ k=((x.a / 2 ^ k:Nat):Int):=by simp
 rw[h];unfold Vf;rw[Nat.shiftRight_eq_div_pow];have:(((x.a / 2 ^ k:Nat):Int).tmod 2)=((x.a / 2 ^ k % 2:Nat):Int):=rfl;rw[this]
 rcases Nat.mod_two_eq_zero_or_one (x.a / 2 ^ k) with e|e <;> rw[e] <;> rfl
theorem Np (x:AX) (A:zo) (c:Nat) (w:World) (_:x.a<256) :
  Calls Tryz.prog 38 #[x.v A c] w fun e w'=>∃v,e = .returned v/\Jh w' w.heap.size v (C9 x)/\Below w.heap.size w w':=by
 have HB0:=zh (zD w (x.box A c));have ZK:=zh (Gb.new w x A c)
 go_enter Tryz.func38,Tryz.ntmps38
 go_wp2
 generalize w.alloc (x.box A c)=wc at *
 go_loopw [3,4] (fun v i wr=>∃k:Nat,k<=6/\i = .int .i64 k/\Hid (Jh wr wc.heap.size v (GL x k)/\Below wc.heap.size wc wr)) (fun _ i _=>6 - (intOf i).toNat)
 case atStart=>exact ⟨0,by omega,rfl,Ad.nil _ _,Pe _ _⟩
 case round =>
  obtain ⟨k,hk,rfl,hh⟩:=hrel;obtain ⟨wo,rfl⟩:∃wo:World,wo=wr:=⟨_,rfl⟩;have hn0:=zA hh.out.2 (ZK.out.cell 1)
  by_cases hlt:k<6
  ·have h1:(0:Int)<=(k:Int):=by omega
   have CS:=zh hh.out.2;have qf:=zh hh.out.1;have NV:=zh (QE x k);have Ic:=zh (VR x k);have hbt:(((x.a:Int) / 2 ^ k).tmod 2==1)=Vf x k:=pW x k;clear hh
   cases hb:Vf x k with
   | true =>
    rw[hb] at hbt Ic;clear hb;have MN:=zh (Ad.alloc qf (.cells #[.int .i64 ((k:Int)+1)] 3));have Rj:Hid ((wo.alloc (.cells #[.int .i64 ((k:Int)+1)] 3)).rangeAt wo.heap.size 0 [.int .i64 ((k:Int)+1)]):=zR wo [.int .i64 ((k:Int)+1)] 3;have NR:Hid (wc.heap.size<=(wo.alloc (.cells #[.int .i64 ((k:Int)+1)] 3)).heap.size):=by have:=CS.out.size;show _<=_;simp;omega
    go_wp2_with (at_builtin;refine yG K9 _ rfl (.tmp 15) (.tmp 18) rfl wc.heap.size _ _ _ rfl MN wo.heap.size 0 1 1 [.int .i64 ((k:Int)+1)] rfl rfl Rj (by simp[Value.oneCell']) (by have:=NV.out;omega) (by have:=NV.out;omega) NR ?_;intro v8 w8 CW Bt)
    go_roundw
    case rel=>exact ⟨k+1,by omega,by go_num,(by rw[Ic.out];exact Ad.snoc (x:=(((k+1:Nat):Int))) CW),(CS.out.alloc CS.out.size _).grown Bt NR MN.out.lt⟩
    case measure=>simp[intOf];omega
   | false =>
    rw[hb] at hbt Ic;clear hb;go_wp2;go_roundw
    case rel=>exact ⟨k+1,by omega,by go_num,(by rw[Ic.out];exact qf.out),CS.out⟩
    case measure=>simp[intOf];omega
  ·have M0:k=6:=by omega
   subst M0;have CS:=zh hh.out.2;have NV:=zh (QE x 6);have HW:Hid (w.heap.size<=wc.heap.size):=HB0.out.size;obtain ⟨A7,c7,rfl,_⟩:=Jh.ints hh.out.1 (by have:=NV.out;unfold DU;omega)
   have qf:=zh hh.out.1;clear hh hlt
   by_cases he:GL x 6=[]
   ·have HI:=zh (show C9 x=[1] by rw[Wx,AAG he])
    have hel:(((GL x 6).length:Int)==0)=true:=by rw[he];rfl
    have HE:=zh he;clear he;have MN:=zh (Ad.alloc qf (.cells #[.int .i64 1] 3));have Rj:Hid ((wo.alloc (.cells #[.int .i64 1] 3)).rangeAt wo.heap.size 0 [.int .i64 1]):=zR wo [.int .i64 1] 3;have NR:Hid (wc.heap.size<=(wo.alloc (.cells #[.int .i64 1] 3)).heap.size):=by have:=CS.out.size;show _<=_;simp;omega
    go_wp2_with (at_builtin;refine yG K9 _ rfl (.tmp 23) (.tmp 24) rfl wc.heap.size _ _ _ rfl MN wo.heap.size 0 1 1 [.int .i64 1] rfl rfl Rj (by simp[Value.oneCell']) (by have:=NV.out;omega) (by have:=NV.out;omega) NR ?_;intro v8 w8 CW Bt)
    go_ret
    refine ⟨_,rfl,?_,zB HB0 ((CS.out.alloc CS.out.size _).grown Bt NR MN.out.lt)⟩;have:=Ad.base (Ad.snoc (x:=(1:Int)) CW) HW;rw[HE.out] at this;rw[HI.out];exact this
   ·have HI:=zh (show C9 x=GL x 6 by rw[Wx,Pd he])
    have hel:(((GL x 6).length:Int)==0)=false:=by
     have:(GL x 6).length≠0:=fun e=>he (AAf e)
     simp;omega
    clear he;go_wp2;go_ret;refine ⟨_,rfl,?_,zB HB0 CS⟩;rw[HI.out];exact Ad.base qf HW
def LU (i:Nat):ByteArray:=⟨#[UInt8.ofNat (65+i)]⟩
def Ru (c:UInt8) (n:Nat):ByteArray:=⟨#[c,UInt8.ofNat (97+n)]⟩
theorem Zm {a b:Nat} (ha:a<256) (hb:b<256) (h:UInt8.ofNat a=UInt8.ofNat b):a=b:=by
 have:=congrArg UInt8.toNat h;simp only[UInt8.toNat_ofNat'] at this
 omega
theorem jh {c:UInt8} {n m:Nat} (hn:n<=20) (hm:m<=20) (h:Ru c n=Ru c m):n=m:=by
 unfold Ru at h
 injection h with h
 have h2:=congrArg Array.toList h;simp only[List.cons.injEq,true_and,and_true] at h2;have:=Zm (by omega) (by omega) h2
 omega
theorem jg {n m:Nat} (hn:n<=20) (hm:m<=20) (h:LU n=LU m):n=m:=by
 unfold LU at h
 injection h with h
 have h2:=congrArg Array.toList h;simp only[List.cons.injEq,and_true] at h2;have:=Zm (by omega) (by omega) h2
 omega
theorem oP {n:Nat} (hn:n<=20):Dw (LU n)=true:=by
 have:∀m:Fin 21,Dw (LU m.1)=true:=by decide +kernel
 exact this ⟨n,by omega⟩
theorem oQ {c:UInt8} (hc:c=109\/c=115) {n:Nat} (hn:n<=20):Dw (Ru c n)=true:=by
 have h1:∀m:Fin 21,Dw (Ru 109 m.1)=true:=by decide +kernel
 have h2:∀m:Fin 21,Dw (Ru 115 m.1)=true:=by decide +kernel
 rcases hc with rfl|rfl
 ·exact h1 ⟨n,by omega⟩
 ·exact h2 ⟨n,by omega⟩
theorem TY {c:UInt8} (hc:c=109\/c=115):∀ (L:List (Int×ByteArray)) (b:Int) (seen:List ByteArray),0<=b->(L.map (·.1)).Pairwise (· < ·)->(∀x∈L,b<x.1/\x.1<=12/\x.2=Ru c x.1.toNat)->(∀x∈seen,∃i:Nat,(i:Int)<=b/\x=Ru c i)->b<=12->Md b seen L=true
 | [],_,_,_,_,_,_,_=>rfl
 | x::L,b,seen,h0,hp,hx,hs,hb=>by
  obtain ⟨h1,h2,h3⟩:=hx x (ABH ..);rw[AA4,List.pairwise_cons] at hp;rw[Md];simp only[AAJ,AAd];refine ⟨⟨⟨⟨⟨by omega,by omega⟩,h1⟩,?_⟩,?_⟩,?_⟩
  ·have:IQ x.2 seen=false:=by
    cases hm:IQ x.2 seen with
    | false=>rfl
    | true =>
     obtain ⟨j,hj,e⟩:=hs _ (TM.1 hm);rw[h3] at e;have:=jh (by omega) (by omega) e
     omega
   rw[this];rfl
  ·rw[h3];exact oQ hc (by omega)
  ·refine TY hc L x.1 _ (by omega) hp.2 (fun y hy=>?_) (fun y hy=>?_) h2
   ·have a:=hx y (ABE _ hy)
    have b:=hp.1 y.1 (List.mem_map_of_mem hy);exact ⟨b,a.2⟩
   ·rcases AAo.1 hy with k|k
    ·obtain ⟨j,hj,e⟩:=hs y k
     exact ⟨j,by omega,e⟩
    ·obtain rfl:y=x.2:=by simpa using k
     exact ⟨x.1.toNat,by omega,h3⟩
theorem Je:∀ (L:List Int) (b k:Int),L.Pairwise (· < ·)->(∀x∈L,b<x/\x<=k)->b<=k->(L.length:Int)<=k - b
 | [],b,k,_,_,h=>by simp;omega
 | x::L,b,k,hp,hx,h=>by
  rw[List.pairwise_cons] at hp;have a:=hx x (ABH ..);have:=Je L x k hp.2 (fun y hy=>⟨hp.1 y hy,(hx y (ABE _ hy)).2⟩) (by omega)
  rw[AAS]
  omega
theorem Wy {c:UInt8} (hc:c=109\/c=115) {L:List (Int×ByteArray)} (hp:(L.map (·.1)).Pairwise (· < ·)) (hx:∀x∈L,0<x.1/\x.1<=12/\x.2=Ru c x.1.toNat):RG L=true:=by
 unfold RG;rw[AAJ];refine ⟨TY hc L 0 [] (by omega) hp hx (fun x hx=>by cases hx) (by omega),?_⟩
 have:=Je (L.map (·.1)) 0 12 hp (fun y hy=>by obtain ⟨x,h1,rfl⟩:=List.mem_map.1 hy;exact ⟨(hx x h1).1,(hx x h1).2.1⟩) (by omega)
 rw[AAZ] at this;exact AAX (by omega)
def Dm (rec:Bool) (n:Nat) (k:Int) (ms:List AZ):Prop :=
 (ms.map (·.id)).Pairwise (· < ·)/\∀m∈ms,(0<m.id/\m.id<=k)/\m.name=Ru 109 m.id.toNat/\(0<=m.type/\m.type<(n:Int))/\P8 rec m=true
theorem Dm.nil (rec:Bool) (n:Nat) (k:Int):Dm rec n k []:=⟨List.Pairwise.nil,fun _ h=>by cases h⟩
variable {rec:Bool} {ms:List AZ}
theorem Dm.mono {n:Nat} {k k':Int} (h:Dm rec n k ms) (hk:k<=k'):Dm rec n k' ms :=
 ⟨h.1,fun m hm=>⟨⟨(h.2 m hm).1.1,Int.le_trans (h.2 m hm).1.2 hk⟩,(h.2 m hm).2⟩⟩
theorem Dm.snoc {n:Nat} (h:Dm rec n k ms) {m:AZ} (hi:m.id=((k+1:Nat):Int)) (hn:m.name=Ru 109 (k+1)) (ht:0<=m.type/\m.type<(n:Int)) (hm:P8 rec m=true):Dm rec n ((k+1:Nat):Int) (ms++[m]):=by
 refine ⟨?_,fun x hx=>?_⟩
 ·rw[List.map_append,List.pairwise_append]
  refine ⟨h.1,by simp,fun a ha b hb=>?_⟩
  obtain ⟨x,h1,rfl⟩:=List.mem_map.1 ha;obtain rfl:b=m.id:=by simpa using hb
  have:=(h.2 x h1).1
  omega
 ·rcases AAo.1 hx with a|a
  ·exact (h.mono (by omega)).2 x a
  ·obtain rfl:x=m:=by simpa using a
   exact ⟨by omega,by rw[hn,hi];rfl,ht,hm⟩
theorem Dm.len {n:Nat} (h:Dm rec n 12 ms):ms.length<=12:=by
 have:=Je (ms.map (·.id)) 0 12 h.1 (fun y hy=>by obtain ⟨x,h1,rfl⟩:=List.mem_map.1 hy;exact (h.2 x h1).1) (by omega)
 rw[AAZ] at this
 omega
theorem Dm.AA {n:Nat} (h:Dm rec n 12 ms) (hne:rec=true\/ms≠[]):MW rec ms=true:=by
 unfold MW;rw[AAJ,AAJ];refine ⟨⟨AA3.2 fun m hm=>(h.2 m hm).2.2.2,Wy (.inl rfl) ?_ fun x hx=>?_⟩,?_⟩
 ·rw[List.map_map];exact h.1
 ·obtain ⟨m,h1,rfl⟩:=List.mem_map.1 hx
  exact ⟨(h.2 m h1).1.1,(h.2 m h1).1.2,(h.2 m h1).2.1⟩
 ·rcases hne with e|e
  ·rw[e];rfl
  ·simp[e]
def D8 (x:AX):List Bu:=(C9 x).map fun n=>⟨n,Ru 115 n.toNat⟩
theorem Jb (x : AX) : (C9 x).Pairwise (· < ·) /\ (∀ n ∈ C9 x, 0 < n /\ n <= 6) /\ C9 x ≠ [] := by
  have h : ∀ p : Nat -> Bool, ((((List.range 6).filter p).map fun i => ((i + 1 : Nat) : Int)).Pairwise (· < ·)) /\ ∀ n ∈ ((List.range 6).filter p).map (fun i => ((i + 1 : Nat) : Int)), 0 < n /\ n <= 6 := fun p => by
    refine ⟨?_, fun n hn => ?_⟩
    · rw [List.pairwise_map]
      refine List.Pairwise.filter p (List.Pairwise.imp (fun h => ?_) List.pairwise_lt_range)
      omega
    · obtain ⟨i, h1, rfl⟩ := List.mem_map.1 hn
      have := List.mem_range.1 (List.mem_filter.1 h1).1
      omega
  unfold C9;simp only
  split
  · exact ⟨List.pairwise_singleton .., fun n hn => by obtain rfl : n = 1 := by simpa using hn
                                                      omega, by simp⟩
  · rename_i hne
    exact ⟨(h _).1, (h _).2, hne⟩
theorem Z9 (x:AX):WJ (D8 x)=true:=by
 obtain ⟨h1,h2,h3⟩:=Jb x;unfold WJ D8;rw[AAJ];refine ⟨Wy (.inr rfl) ?_ fun y hy=>?_,by simpa using h3⟩
 ·rw[List.map_map,List.map_map]
  have:(C9 x).map (((fun y:Int×ByteArray=>y.1)∘(fun s:Bu=>(s.id,s.name)))∘fun n=>⟨n,Ru 115 n.toNat⟩)=C9 x:=by
   simp[Function.comp_def]
  rw[this];exact h1
 ·rw[List.map_map] at hy
  obtain ⟨n,hn,rfl⟩:=List.mem_map.1 hy;have:=h2 n hn;exact ⟨this.1,by simp only[Function.comp];omega,rfl⟩
theorem Xl (x:AX):(D8 x).length<=6:=by
 obtain ⟨h1,h2,h3⟩:=Jb x;have:=Je (C9 x) 0 6 h1 h2 (by omega)
 unfold D8;rw[AAZ]
 omega
def JK (x:Val):Prop:=(x.str.size<=1/\x.kind≠5/\x.kind≠6)/\x.keys=[]/\x.items=[]/\x.rest=[]
structure LD (d:List AX) (i:Nat) (t:Ae):Prop where
 form:Fx t=true
 name:t.name=if Cv t.kind then LU i else ⟨#[]⟩
 uses:∀u∈Zy t,0<=u/\u<(d.length:Int)
 kind:Bc (Ac d i)=true->t.kind=Ac d i
 key:t.kind=8->Bc (Ac d t.key.toNat)=true/\0<=t.key/\t.key<(d.length:Int)
 AA:∀m∈t.AA,m.name.size=2
 Aj:∀m∈t.Aj,m.name.size=2
 flat:∀m∈t.AA,JK m.dflt
 num:In64 t.low/\In64 t.high
def Jf (d:List AX) (s:List Ae):Prop:=s.length=d.length/\∀i (h:i<s.length),LD d i s[i]
def Short (s:List Ae):Prop:=∀t∈s,t.name.size<=1/\(∀m∈t.AA,m.name.size<=2)/\∀m∈t.Aj,m.name.size<=2
theorem Tz {s:List Ae} (h:Jf d s) (hl:d.length<=5):zQ s=0:=by
 obtain ⟨h1,h2⟩:=h;refine Zl (by omega) fun i hi=>?_
 have ho:=h2 i hi;refine Zv ho.form (fun hn hm=>?_) (by rw[h1];exact ho.uses) (fun hk=>?_)
 ·obtain ⟨t,ht,e⟩:=List.mem_map.1 hm
  obtain ⟨j,hj,e2⟩:=AAw ht;have hji:j<i:=by rw[List.length_take] at hj;omega
  rw[List.getElem_take] at e2;have hoj:=h2 j (by omega)
  rw[e2] at hoj;rw[ho.name] at hn e;rw[hoj.name] at e
  by_cases a:Cv (s[i]).kind=true
  ·rw[AAG a] at e hn
   by_cases b:Cv t.kind=true
   ·rw[AAG b] at e
    have:=jg (by omega) (by omega) e
    omega
   ·rw[Pd b] at e;exact hn e.symm
  ·rw[Pd a] at hn;exact hn rfl
 ·obtain ⟨a,b,c⟩:=ho.key hk
  have hkl:(s[i]).key.toNat<s.length:=by omega
  have:=(h2 _ hkl).kind a;rw[AAl,zl hkl,Option.getD_some,this];exact a
theorem T9 {s:List Ae} (h:Jf d s):Short s:=fun t ht=>by
 obtain ⟨i,hi,rfl⟩:=AAw ht;have ho:=h.2 i hi;refine ⟨?_,fun m hm=>Nat.le_of_eq (ho.AA m hm),fun m hm=>Nat.le_of_eq (ho.Aj m hm)⟩
 rw[ho.name]
 split
 ·exact Nat.le_of_eq rfl
 ·exact Nat.zero_le _
theorem Va {s:List Ae} (h:Jf d s):∀t∈s,∀m∈t.AA,JK m.dflt:=fun t ht=>by
 obtain ⟨i,hi,rfl⟩:=AAw ht;exact (h.2 i hi).flat
theorem Yw {s:List Ae} (h:Jf d s):∀t∈s,In64 t.low/\In64 t.high:=fun t ht=>by
 obtain ⟨i,hi,rfl⟩:=AAw ht;exact (h.2 i hi).num
theorem I7:In64 0/\In64 0:=by unfold In64;omega
theorem jr (x:AX):In64 (FD x)/\In64 (Ep x):=by unfold In64 Ep FD;omega
theorem FP {i:Nat} {t:Ae} (hi:i<=20) (h1:1<=t.kind/\t.kind<=9) (h2:t=FB t) (h3:t.name=if Cv t.kind then LU i else ⟨#[]⟩) (h4:Js t=true):Fx t=true:=by
 unfold Fx;simp only[AAJ,AAd];refine ⟨⟨⟨h1,h2⟩,?_⟩,h4⟩
 cases hn:Cv t.kind with
 | false=>rfl
 | true=>rw[h3,AAG hn,oP hi];rfl
theorem Gm {t:Ae} (hk:¬ (t.kind=8\/t.kind=7\/t.kind=9)):Zy t=t.AA.map (·.type):=by
 unfold Zy Ih;rw[Pd (fun e=>hk (.inl e)),Pd (fun e=>hk (.inr e)),List.append_nil,List.map_map];rfl
section
variable {d:List AX} {i:Nat}
theorem Xh (hi:i<=20) (hk:Ac d i=1):LD d i { Al with kind:=1 } :=
 ⟨FP hi ⟨by show (1:Int)<=(1:Int);decide,by show (1:Int)<=(9:Int);decide⟩ rfl rfl rfl,rfl,(by rw[Gm (by show ¬ ((1:Int)=8\/(1:Int)=7\/(1:Int)=9);decide)];intro u hu;cases hu),fun _=>hk.symm,(fun h=>by cases h),(fun _ h=>by cases h),(fun _ h=>by cases h),(fun _ h=>by cases h),I7⟩
theorem Zr (hi:i<=20) (hk:Ac d i=2) {a b:Int} (hab:a<=b) (hn:In64 a/\In64 b):LD d i { Al with kind:=2,low:=a,high:=b } :=
 ⟨FP hi ⟨by show (1:Int)<=(2:Int);decide,by show (2:Int)<=(9:Int);decide⟩ rfl rfl (AAX hab),rfl,(by rw[Gm (by show ¬ ((2:Int)=8\/(2:Int)=7\/(2:Int)=9);decide)];intro u hu;cases hu),fun _=>hk.symm,(fun h=>by cases h),(fun _ h=>by cases h),(fun _ h=>by cases h),(fun _ h=>by cases h),hn⟩
theorem Zo (hi:i<=20) (hk:Ac d i=3) {a:Int} (ha:0<=a/\a<=3):LD d i { Al with kind:=3,max:=a } :=
 ⟨FP hi ⟨by show (1:Int)<=(3:Int);decide,by show (3:Int)<=(9:Int);decide⟩ rfl rfl (by unfold Js;simp;omega),rfl,(by rw[Gm (by show ¬ ((3:Int)=8\/(3:Int)=7\/(3:Int)=9);decide)];intro u hu;cases hu),fun _=>hk.symm,(fun h=>by cases h),(fun _ h=>by cases h),(fun _ h=>by cases h),(fun _ h=>by cases h),I7⟩
theorem Xg (hi:i<=20) (hk:Ac d i=4) (x:AX) (o:Bool):LD d i { Al with kind:=4,name:=LU i,Aj:=D8 x,open_:=o } :=
 ⟨FP hi ⟨by show (1:Int)<=(4:Int);decide,by show (4:Int)<=(9:Int);decide⟩ rfl rfl (Z9 x),rfl,(by rw[Gm (by show ¬ ((4:Int)=8\/(4:Int)=7\/(4:Int)=9);decide)];intro u hu;cases hu),fun _=>hk.symm,(fun h=>by cases h),(fun _ h=>by cases h),(fun m hm=>by
  obtain ⟨n,_,rfl⟩:=List.mem_map.1 (show m∈D8 x from hm)
  rfl),(fun _ h=>by cases h),I7⟩
variable {ms:List AZ}
theorem Dm.size {rec:Bool} {n:Nat} (h:Dm rec n 12 ms):∀m∈ms,m.name.size=2:=fun m hm=>by rw[(h.2 m hm).2.1];rfl
theorem Dm.types {rec:Bool} {n:Nat} (h:Dm rec n 12 ms):∀u∈ms.map (·.type),0<=u/\u<(n:Int):=fun u hu=>by
 obtain ⟨m,hm,rfl⟩:=List.mem_map.1 hu;exact (h.2 m hm).2.2.1
theorem SE (hi:i<=20) (hk:Bc (Ac d i)=false) (h:Dm true d.length 12 ms) (hf:∀m∈ms,JK m.dflt):LD d i { Al with kind:=5,name:=LU i,AA:=ms } :=
 ⟨FP hi ⟨by show (1:Int)<=(5:Int);decide,by show (5:Int)<=(9:Int);decide⟩ rfl rfl (h.AA (.inl rfl)),rfl,(by rw[Gm (by show ¬ ((5:Int)=8\/(5:Int)=7\/(5:Int)=9);decide)];exact h.types),(fun e=>by rw[hk] at e;cases e),(fun h=>by cases h),h.size,(fun _ h=>by cases h),hf,I7⟩
theorem Uf (hi:i<=20) (hk:Bc (Ac d i)=false) (h:Dm false d.length 12 ms) (hf:∀m∈ms,JK m.dflt) (hne:ms≠[]) (o:Bool):LD d i { Al with kind:=6,name:=LU i,AA:=ms,open_:=o } :=
 ⟨FP hi ⟨by show (1:Int)<=(6:Int);decide,by show (6:Int)<=(9:Int);decide⟩ rfl rfl (h.AA (.inr hne)),rfl,(by rw[Gm (by show ¬ ((6:Int)=8\/(6:Int)=7\/(6:Int)=9);decide)];exact h.types),(fun e=>by rw[hk] at e;cases e),(fun h=>by cases h),h.size,(fun _ h=>by cases h),hf,I7⟩
theorem PL (hi:i<=20) (hk:Bc (Ac d i)=false) {a b:Int} (ha:0<=a/\a<=3) (hb:0<=b/\b<(d.length:Int)):LD d i { Al with kind:=7,max:=a,elem:=b } :=
 ⟨FP hi ⟨by show (1:Int)<=(7:Int);decide,by show (7:Int)<=(9:Int);decide⟩ rfl rfl (by unfold Js;simp;omega),rfl,(fun u hu=>by rw[show u=b by simpa[Zy,Ih,show Al.AA=[] from rfl] using hu];exact hb),(fun e=>by rw[hk] at e;cases e),(fun h=>by cases h),(fun _ h=>by cases h),(fun _ h=>by cases h),(fun _ h=>by cases h),I7⟩
theorem Zq (hi:i<=20) (hk:Bc (Ac d i)=false) {a b c:Int} (ha:0<=a/\a<=3) (hb:0<=b/\b<(d.length:Int)) (hc:0<=c/\c<(d.length:Int)) (hkc:Bc (Ac d c.toNat)=true):LD d i { Al with kind:=8,max:=a,key:=c,elem:=b } :=
 ⟨FP hi ⟨by show (1:Int)<=(8:Int);decide,by show (8:Int)<=(9:Int);decide⟩ rfl rfl (by unfold Js;simp;omega),rfl,(fun u hu=>by
  have:u=c\/u=b:=by simpa[Zy,Ih,show Al.AA=[] from rfl] using hu
  rcases this with rfl|rfl
  ·exact hc
  ·exact hb),(fun e=>by rw[hk] at e;cases e),(fun _=>⟨hkc,hc⟩),(fun _ h=>by cases h),(fun _ h=>by cases h),(fun _ h=>by cases h),I7⟩
theorem Zp (hi:i<=20) (hk:Bc (Ac d i)=false) {b:Int} (hb:0<=b/\b<(d.length:Int)):LD d i { Al with kind:=9,elem:=b } :=
 ⟨FP hi ⟨by show (1:Int)<=(9:Int);decide,by show (9:Int)<=(9:Int);decide⟩ rfl rfl rfl,rfl,(fun u hu=>by rw[show u=b by simpa[Zy,Ih,show Al.AA=[] from rfl] using hu];exact hb),(fun e=>by rw[hk] at e;cases e),(fun h=>by cases h),(fun _ h=>by cases h),(fun _ h=>by cases h),(fun _ h=>by cases h),I7⟩
end
theorem GK (d:List AX) (i:Nat):1<=Ac d i/\Ac d i<=9:=by unfold Ac;omega
theorem Wt {d:List AX} {code:Nat} (h:¬ Dz d code<0):(0<=Dz d code/\Dz d code<(d.length:Int))/\Bc (Ac d (Dz d code).toNat)=true:=by
 unfold Dz at h ⊢
 split
 ·rename_i k hk
  have h1:=List.find?_some hk;have h2:=List.mem_range.1 (List.mem_of_find?_eq_some hk);have h3:(code+k) % d.length<d.length:=Nat.mod_lt _ (by omega)
  exact ⟨⟨by omega,by omega⟩,h1⟩
 ·rename_i hk
  rw[hk] at h;exact absurd (show (-1:Int)<0 by decide) h
theorem Uj {d:List AX} {i code:Nat} (hi:i<d.length) (h:¬ CJ d i code<0):0<=CJ d i code/\CJ d i code<(d.length:Int):=by
 refine ⟨by omega,?_⟩
 have h3:code % d.length<d.length:=Nat.mod_lt _ (by omega)
 unfold CJ at h ⊢
 split
 ·omega
 ·split
  ·have:code % d.length % i<i:=Nat.mod_lt _ (by assumption)
   omega
  ·unfold Tf
   split
   ·rename_i k hk
    have h2:=List.mem_range.1 (List.mem_of_find?_eq_some hk)
    omega
   ·omega
theorem bJ (x:AX):FD x<=Ep x:=by unfold Ep;omega
def Kc (d:List AX) (t:Nat):Int:=if Ac d t=8/\Dz d 0<0 then 7 else Ac d t
structure Mh (d:List AX) (t:Nat) (x:Val):Prop where
 kind:x.kind=Kc d t
 nou:Ac d t≠5/\Ac d t≠6
 b:Ac d t≠1->x.bool=false
 i:if Ac d t=2 then FD (d.getD t Bh)<=x.int/\x.int<=Ep (d.getD t Bh) else x.int=0
 s:if Ac d t=3 then (x.str.size:Int)<=(((d.getD t Bh).a % 4:Nat):Int) else x.str=⟨#[]⟩
 n:if Ac d t=4 then x.id∈C9 (d.getD t Bh) else x.id=0
section
variable {d:List AX} {t:Nat}
theorem uF (h:Ac d t=1) (b:Bool):Mh d t (.mk 1 b 0 ⟨#[]⟩ 0 [] [] []):=by
 refine ⟨?_,by omega,fun e=>absurd h e,?_,?_,?_⟩
 ·unfold Kc;rw[Pd (by omega)];exact h.symm
 ·rw[Pd (by omega)];rfl
 ·rw[Pd (by omega)];rfl
 ·rw[Pd (by omega)];rfl
theorem uE (h:Ac d t=2) {i:Int} (hi:FD (d.getD t Bh)<=i/\i<=Ep (d.getD t Bh)):Mh d t (.mk 2 false i ⟨#[]⟩ 0 [] [] []):=by
 refine ⟨?_,by omega,fun _=>rfl,?_,?_,?_⟩
 ·unfold Kc;rw[Pd (by omega)];exact h.symm
 ·rw[AAG h];exact hi
 ·rw[Pd (by omega)];rfl
 ·rw[Pd (by omega)];rfl
theorem bV (h:Ac d t=3) {s:ByteArray} (hs:(s.size:Int)<=(((d.getD t Bh).a % 4:Nat):Int)):Mh d t (.mk 3 false 0 s 0 [] [] []):=by
 refine ⟨?_,by omega,fun _=>rfl,?_,?_,?_⟩
 ·unfold Kc;rw[Pd (by omega)];exact h.symm
 ·rw[Pd (by omega)];rfl
 ·rw[AAG h];exact hs
 ·rw[Pd (by omega)];rfl
theorem uD (h:Ac d t=4) {n:Int} (hn:n∈C9 (d.getD t Bh)):Mh d t (.mk 4 false 0 ⟨#[]⟩ n [] [] []):=by
 refine ⟨?_,by omega,fun _=>rfl,?_,?_,?_⟩
 ·unfold Kc;rw[Pd (by omega)];exact h.symm
 ·rw[Pd (by omega)];rfl
 ·rw[Pd (by omega)];rfl
 ·rw[AAG h];exact hn
theorem Wu {k:Int} (hk:k=Kc d t) (h:Ac d t=7\/Ac d t=8\/Ac d t=9):Mh d t (.mk k false 0 ⟨#[]⟩ 0 [] [] []):=by
 refine ⟨hk,by omega,fun _=>rfl,?_,?_,?_⟩
 ·rw[Pd (by omega)];rfl
 ·rw[Pd (by omega)];rfl
 ·rw[Pd (by omega)];rfl
theorem yP (h:Ac d t=7):(7:Int)=Kc d t:=by unfold Kc;rw[Pd (by omega)];exact h.symm
theorem yO (h:Ac d t=9):(9:Int)=Kc d t:=by unfold Kc;rw[Pd (by omega)];exact h.symm
theorem mI (h:Ac d t=8) (hk:Dz d 0<0):(7:Int)=Kc d t:=by unfold Kc;rw[AAG ⟨h,hk⟩]
theorem mH (h:Ac d t=8) (hk:¬ Dz d 0<0):(8:Int)=Kc d t:=by unfold Kc;rw[Pd (fun e=>hk e.2)];exact h.symm
end
theorem kD (x:AX) {code:Nat} (hc:code<256):FD x<=IntKind.i64.wrap (FD x+(IntKind.i64.wrap (code:Int)).tmod ((x.b:Int) % 6+1))/\IntKind.i64.wrap (FD x+(IntKind.i64.wrap (code:Int)).tmod ((x.b:Int) % 6+1))<=Ep x:=by
 have h1:=Int.emod_nonneg (code:Int) (show (x.b:Int) % 6+1≠0 by omega)
 have h2:=Int.emod_lt_of_pos (code:Int) (show 0<(x.b:Int) % 6+1 by omega)
 have hl:FD x=((x.a % 7:Nat):Int) - 3:=rfl;have hh:Ep x=FD x+((x.b % 6:Nat):Int):=rfl;rw[IntWalk.i64_in (code:Int) (by omega),Int.tmod_eq_emod_of_nonneg (by omega),IntWalk.i64_in _ (by omega)]
 omega
theorem SL {d:List AX} {i code:Nat} (h:¬ CJ d i code<0):7<=Ac d (CJ d i code).toNat\/CJ d i code<(i:Int):=by
 unfold CJ at h ⊢
 split
 ·rename_i hc
  rw[ABS] at hc
  rcases hc with hc|hc
  ·exact .inl (AAu hc)
  ·have:=AAu hc
   exact .inr (by omega)
 ·split
  ·have:code % d.length % i<i:=Nat.mod_lt _ (by assumption)
   exact .inr (by omega)
  ·rename_i h1 h2
   rw[Pd h1,Pd h2] at h;unfold Tf at h ⊢
   split
   ·rename_i k hk
    have hh:=List.find?_some (p:=fun k=>GN (Ac d k)) hk
    exact .inl (AAu (show decide (7<=Ac d k)=true from hh))
   ·rename_i hk
    rw[hk] at h;exact absurd (show (-1:Int)<0 by decide) h
def eY (d:List AX) (i:Nat) (m:AZ):Prop:=(m.ED=true->Mh d m.type.toNat m.dflt)/\(7<=Ac d m.type.toNat\/m.type<(i:Int))
def lH (x:Bool) (s:ByteArray):ByteArray:=if x then s++⟨#[120]⟩ else s
theorem dw (s u:ByteArray):(s++u).data.toList=s.data.toList++u.data.toList:=by
 rw[ByteArray.data_append];simp
theorem Y1 {s u:ByteArray} (h:s.data.toList=u.data.toList):s=u:=by
 cases s;cases u;congr;exact Array.toList_inj.1 h
def Sh (n:Nat) (a b:Int):Prop:=b=a\/b=a+(n:Int)
def cpM (x:Bool) (m:AZ) (u:Int):AZ:={ m with name:=lH x m.name,type:=u }
def cpS (x:Bool) (s:Bu):Bu:={ s with name:=lH x s.name }
def cpN (x:Bool) (s:ByteArray):ByteArray:=if s=⟨#[]⟩ then s else lH x s
def cpT (x:Bool) (t:Ae) (ms:List AZ) (k e:Int):Ae:={ t with name:=cpN x t.name,Aj:=t.Aj.map (cpS x),AA:=ms,key:=k,elem:=e }
def LJ (n:Nat) (x:Bool):List AZ->List AZ->Prop
 | [],[]=>True
 | m::r,c::q=>(∃u,Sh n m.type u/\c=cpM x m u)/\LJ n x r q
 | _,_=>False
structure wV (n:Nat) (x:Bool) (t:Ae) (ms:List AZ) (k e:Int):Prop where
 AA:LJ n x t.AA ms
 key:if t.kind=8 then Sh n t.key k else k=t.key
 elem:if t.kind=8\/t.kind=7\/t.kind=9 then Sh n t.elem e else e=t.elem
theorem LJ.len {n:Nat} {x:Bool}:∀ {l m:List AZ},LJ n x l m->m.length=l.length
 | [],[],_=>rfl
 | a::l,b::m,h=>by rw[AAS,AAS,LJ.len h.2]
 | [],_::_,h=>h.elim
 | _::_,[],h=>h.elim
theorem LJ.ids {n:Nat} {x:Bool}:∀ {l m:List AZ},LJ n x l m->(m.map fun y=>(y.id,y.name))=(l.map fun y=>(y.id,y.name)).map fun y=>(y.1,lH x y.2)
 | [],[],_=>rfl
 | a::l,b::m,h=>by
  obtain ⟨⟨u,_,e⟩,h2⟩:=h;rw[AA4,AA4,AA4,LJ.ids h2,e];rfl
 | [],_::_,h=>h.elim
 | _::_,[],h=>h.elim
theorem LJ.all {n:Nat} {x r:Bool}:∀ {l m:List AZ},LJ n x l m->m.all (P8 r)=l.all (P8 r)
 | [],[],_=>rfl
 | a::l,b::m,h=>by
  obtain ⟨⟨u,_,e⟩,h2⟩:=h;rw[List.all_cons,List.all_cons,LJ.all h2,e];rfl
 | [],_::_,h=>h.elim
 | _::_,[],h=>h.elim
def ME (n:Nat):List (Int×Int)->List (Int×Int)->Prop
 | [],[]=>True
 | u::r,v::q=>(v.1=u.1/\Sh n u.2 v.2)/\ME n r q
 | _,_=>False
theorem ME.app {n:Nat}:∀ {a b c d:List (Int×Int)},ME n a b->ME n c d->ME n (a++c) (b++d)
 | [],[],_,_,_,h=>h
 | _::_,_::_,_,_,h1,h2=>⟨h1.1,ME.app h1.2 h2⟩
 | [],_::_,_,_,h,_=>h.elim
 | _::_,[],_,_,h,_=>h.elim
theorem LJ.uses {n:Nat} {x:Bool}:∀ {l m:List AZ},LJ n x l m->ME n (l.map fun y=>(y.id,y.type)) (m.map fun y=>(y.id,y.type))
 | [],[],_=>trivial
 | a::l,b::m,h=>by
  obtain ⟨⟨u,hs,e⟩,h2⟩:=h;rw[AA4,AA4,e];exact ⟨⟨rfl,hs⟩,LJ.uses h2⟩
 | [],_::_,h=>h.elim
 | _::_,[],h=>h.elim
theorem ME.mem {n:Nat}:∀ {l m:List (Int×Int)},ME n l m->∀v∈m,∃u∈l,v.1=u.1/\Sh n u.2 v.2
 | [],[],_,v,hv=>by cases hv
 | a::l,b::m,h,v,hv=>by
  rcases AAr.1 hv with e|e
  ·rw[e];exact ⟨a,ABH,h.1⟩
  ·obtain ⟨u,h1,h2⟩:=ME.mem h.2 v e
   exact ⟨u,ABE _ h1,h2⟩
 | [],_::_,h,_,_=>h.elim
 | _::_,[],h,_,_=>h.elim
section
variable {n:Nat} {x:Bool} {t:Ae} {ms:List AZ} {k e:Int}
theorem wV.uses (h:wV n x t ms k e):ME n (Ih t) (Ih (cpT x t ms k e)):=by
 unfold Ih;refine ME.app h.AA.uses ?_
 show ME n _ (if t.kind=8 then [(0,k),(-1,e)] else if t.kind=7\/t.kind=9 then [(-1,e)] else [])
 have hk:=h.key;have he:=h.elem
 by_cases h8:t.kind=8
 ·rw[AAG h8] at hk
  rw[AAG (.inl h8)] at he;rw[AAG h8,AAG h8];exact ⟨⟨rfl,hk⟩,⟨rfl,he⟩,trivial⟩
 ·rw[Pd h8,Pd h8]
  by_cases h7:t.kind=7\/t.kind=9
  ·rw[AAG (.inr h7)] at he
   rw[AAG h7,AAG h7];exact ⟨⟨rfl,he⟩,trivial⟩
  ·rw[Pd h7,Pd h7]
   exact trivial
end
section
variable {s c:List Ae}
end
theorem dQ:∀x y:List UInt8,Go.Op.bytesLess x y=false->x≠y->Go.Op.bytesLess y x=true
 | [],[],_,h=>absurd rfl h
 | [],_::_,h,_=>by simp[Go.Op.bytesLess] at h
 | _::_,[],_,_=>rfl
 | a::x,b::y,h,hne=>by
  unfold Go.Op.bytesLess at h ⊢
  by_cases h1:a<b
  ·simp[h1] at h
  ·by_cases h2:b<a
   ·simp[h2]
   ·have e:a=b:=by
     apply UInt8.toNat_inj.1
     have g1:¬ a.toNat<b.toNat:=fun h=>h1 (UInt8.lt_iff_toNat_lt.2 h)
     have g2:¬ b.toNat<a.toNat:=fun h=>h2 (UInt8.lt_iff_toNat_lt.2 h)
     omega
    subst e;simp[h1] at h ⊢;exact dQ x y h fun e=>hne (by rw[e])
theorem dM {a b:Val} (hk:a.kind=b.kind) (pG:1<=a.kind/\a.kind<=4) (h1:¬ BS a b<0) (h2:BS a b≠0):BS b a<0:=by
 have hI:∀x y:Int,¬ DZ x y<0->DZ x y≠0->DZ y x<0:=fun x y g1 g2=>by
  unfold DZ at *
  by_cases e:x<y
  ·rw[AAG e] at g1;exact absurd (by decide) g1
  ·rw[Pd e] at g2
   by_cases e2:x=y
   ·rw[AAG e2] at g2;exact absurd rfl g2
   ·rw[AAG (by omega)];decide
 have hk4:a.kind=1\/a.kind=2\/a.kind=3\/a.kind=4:=by omega
 unfold BS at *;rw[Pd (by omega)] at h1 h2 ⊢
 rcases hk4 with e|e|e|e
 ·rw[AAG e] at h1 h2
  rw[AAG (by omega)]
  cases ha:a.bool <;> cases hb:b.bool <;> simp[ha,hb] at h1 h2 ⊢
 ·rw[Pd (by omega),AAG e] at h1 h2
  rw[Pd (by omega),AAG (by omega)]
  exact hI _ _ h1 h2
 ·rw[Pd (by omega),Pd (by omega),AAG e] at h1 h2
  rw[Pd (by omega),Pd (by omega),AAG (by omega)]
  by_cases g:DZ a.str.size b.str.size=0
  ·rw[Pd (by rw[g];simp)] at h1 h2
   have hs:(a.str.size:Int)=b.str.size:=by
    unfold DZ at g
    by_cases e:(a.str.size:Int)<b.str.size
    ·rw[AAG e] at g;cases g
    ·rw[Pd e] at g
     by_cases e2:(a.str.size:Int)=b.str.size
     ·exact e2
     ·rw[Pd e2] at g;cases g
   rw[Pd (by unfold DZ;rw[Pd (by omega),AAG hs.symm];simp)]
   unfold M4 at *
   by_cases l:gB a.str b.str=true
   ·rw[AAG l] at h1;exact absurd (by decide) h1
   ·rw[Pd l] at h2
    by_cases e2:a.str=b.str
    ·rw[AAG e2] at h2;exact absurd rfl h2
    ·have hl:gB b.str a.str=true:=dQ _ _ (by simpa[gB] using l) fun e=>e2 (ByteArray.ext (Array.toList_inj.1 (by rw[<-ByteArray.toList_eq,<-ByteArray.toList_eq];exact e)))
     rw[AAG hl]
     decide
  ·rw[AAG g] at h1 h2
   have:=hI _ _ h1 h2;rw[AAG (by omega)];exact this
 ·rw[Pd (by omega),Pd (by omega),Pd (by omega),AAG e] at h1 h2
  rw[Pd (by omega),Pd (by omega),Pd (by omega),AAG (by omega)]
  exact hI _ _ h1 h2
theorem XJ:∀ (l:List Val),F8 l=true->∀j (h:j+1<l.length),BS l[j] l[j+1]<0
 | [],_,_,h=>by simp at h
 | [_],_,_,h=>by simp at h
 | a::b::r,h,0,_=>by unfold F8 at h;rw[AAJ] at h;exact AAu h.1
 | a::b::r,h,j+1,hj=>by
  unfold F8 at h;rw[AAJ] at h;exact XJ (b::r) h.2 j (by simpa using hj)
theorem lD {l:List Val} (h:F8 l=true) {y:Val} {i:Nat} (hi:i<=l.length) (hk:∀v∈l,v.kind=y.kind/\1<=v.kind/\v.kind<=4) (hl:∀j (hj:j<l.length),j<i->BS l[j] y<0) (hn:∀ (hj:i<l.length),¬ BS l[i] y<0/\BS l[i] y≠0):F8 (l.take i++[y]++l.drop i)=true:=by
 have ha:=XJ l h;have hlt:(l.take i).length=i:=by rw[List.length_take];omega
 refine NP _ fun j hj=>?_
 have hg:∀k (hk:k<(l.take i++[y]++l.drop i).length),(l.take i++[y]++l.drop i)[k]=if h1:k<i then l[k]'(by omega) else if h2:k=i then y else l[k - 1]'(by simp at hk;omega):=fun k hk=>by
  by_cases h1:k<i
  ·rw[dif_pos h1,List.getElem_append_left (by simp;omega),List.getElem_append_left (by omega),List.getElem_take]
  ·rw[dif_neg h1]
   by_cases h2:k=i
   ·subst h2
    rw[dif_pos rfl,List.getElem_append_left (by simp;omega),List.getElem_append_right (by omega)]
    simp
   ·rw[dif_neg h2,List.getElem_append_right (by simp;omega),List.getElem_drop]
    congr 1
    simp
    omega
 rw[hg,hg];have hjl:j+1<l.length+1:=by simp at hj;omega
 by_cases h1:j+1<i
 ·rw[dif_pos (by omega),dif_pos h1];exact ha j (by omega)
 ·by_cases h2:j+1=i
  ·rw[dif_pos (by omega),dif_neg h1,dif_pos h2];exact hl j (by omega) (by omega)
  ·by_cases h3:j=i
   ·subst h3
    rw[dif_neg (by omega),dif_pos rfl,dif_neg h1,dif_neg h2]
    have hj2:j<l.length:=by omega
    obtain ⟨g1,g2⟩:=hn hj2;have hkk:=hk _ (AAK hj2);exact dM hkk.1 hkk.2 g1 g2
   ·rw[dif_neg (by omega),dif_neg h3,dif_neg h1,dif_neg h2]
    have:=ha (j - 1) (by omega)
    simpa[show j - 1+1=j by omega] using this
theorem H8 {P:Program} (base:Nat) (t ty e:TypeId) (i:TypeInfo) (size:Nat) (ht:P.underlying t=some (.slice e)) (hi:P.info? e=some i) (v:Value) (n:Nat) (xs:List Value) (hown:w.ownsRow base e size v n xs) (c:Nat):
  (Builtin.append_ #[t,t] ty #[v,.slice none 0 c]).run P w = .ok v w:=by
 rcases hown.2 with ⟨rfl,rfl⟩|⟨g,cap,cur,rfl,_,_,hnc,_⟩
 ·simp[Builtin.append_,run_underlying ht,sizeOf,typeInfo,hi,Builtin.lenOf,Builtin.firstCells]
 ·simp[Builtin.append_,run_underlying ht,sizeOf,typeInfo,hi,Builtin.lenOf,Builtin.firstCells,hnc,storeCells]
end Go.Proofs.YthkkllmmbefedaaGreatDoor



