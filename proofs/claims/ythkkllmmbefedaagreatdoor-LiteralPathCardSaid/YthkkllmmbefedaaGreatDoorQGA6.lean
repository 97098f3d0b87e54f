/-
  Walks: canon.copied.
-/
import Derived.Test.YthkkllmmbefedaaGreatDoorQGA5
import Derived.Test.YthkkllmmbefedaaGreatDoorQGA2
import Derived.Test.YthkkllmmbefedaaGreatDoorQGA1
import Derived.Test.YthkkllmmbefedaaGreatDoorQGA0
import Derived.StillTailTactics
import Derived.Deep.DeepCutAuto
namespace Go.Proofs.YthkkllmmbefedaaGreatDoor
open Go.RowKit
set_option maxHeartbeats 16000000
set_option maxRecDepth 100000
theorem Xc (w:World):Az w zeroV none none none:=⟨by simp[Db,zeroV,Val.str];exact Nat.zero_le _,Aa.nil _ _ _ _ _,Aa.nil _ _ _ _ _,Aa.nil _ _ _ _ _⟩
def rU (p:Nat) (names:Bool) (w:World):Prop:=w.cell? ⟨p,0,none⟩=some (.bool names)
variable {w w':World}
theorem rU.below {p:Nat} {names:Bool} (h:rU p names w) (hb:Below w.heap.size w w'):rU p names w':=zA hb h
def rT (_:Nat) (_:Bool) (_:World):Prop:=True
theorem rT.below {p:Nat} {names:Bool} (_:rT p names w) (_:Below w.heap.size w w'):rT p names w':=trivial
theorem Gp:Db ⟨#[]⟩:=by unfold Db;exact Nat.zero_le _
theorem Ad.base {α:Type} {E size:Nat} {enc:α->List Value} {base base':Nat} {v:Value} {l:List α} (h:Ad E size enc w base v l) (hb:base'<=base):Ad E size enc w base' v l:=by
 refine ⟨h.1,?_⟩
 rcases h.2 with h0|⟨g,cap,cur,hv,hg0,h1⟩
 ·exact .inl h0
 ·exact .inr ⟨g,cap,cur,hv,Nat.le_trans hb hg0,h1⟩
def BX (W:World) (b:Nat) (t:Ae) (As:zo) (cs:Nat) (Am:zo) (cm:Nat):Prop:=W.heap[b]? = some (.cells #[.int .i64 t.kind,.string t.name,.int .i64 t.low,.int .i64 t.high,.int .i64 t.max,.slice As t.Aj.length cs,.slice Am t.AA.length cm,.int .i64 t.key,.int .i64 t.elem,.bool t.open_] 87 (0,0))
variable {b cm cs:Nat} {t:Ae} {W:World} {Am As:zo}
theorem BX.cell (h:BX W b t As cs Am cm) (j:Nat):W.cell? ⟨b,j,none⟩=(#[.int .i64 t.kind,.string t.name,.int .i64 t.low,.int .i64 t.high,.int .i64 t.max,.slice As t.Aj.length cs,.slice Am t.AA.length cm,.int .i64 t.key,.int .i64 t.elem,.bool t.open_]:Array Value)[j]? := AAE _ _ _ _ _ _ h
theorem BX.blt (h:BX W b t As cs Am cm):b<W.heap.size:=(zg.1 h).1
theorem BX.below (h:BX W b t As cs Am cm) (hb:Below W.heap.size W w'):BX w' b t As cs Am cm:=(hb.block b h.blt).trans h
theorem BX.map {m:Nat} {K:List ByteArray} (h:BX W b t As cs Am cm) (hs:Dy kS W m K) (hg:W.grownBy w' (some m)):BX w' b t As cs Am cm :=
 (yA hg h.blt fun k hk e=>by
  injection hk with hk
  subst hk;subst e;obtain ⟨l,h1,_⟩:=hs;unfold MapAt at h1;rw[show W.heap[b]? = _ from h] at h1
  cases h1).trans h
def Xr (xs:List Value) (o:Nat):List Value->List Value
 | []=>xs
 | v::vs=>Xr (xs.set o v) (o+1) vs
theorem Sb:∀ (vs xs:List Value) (o j:Nat),o+vs.length<=xs.length->(Xr xs o vs)[j]? = if o<=j/\j<o+vs.length then vs[j - o]? else xs[j]?
 | [],xs,o,j,_=>by
  rw[Xr,Pd (by simp)]
 | v::vs,xs,o,j,h=>by
  rw[AAS] at h ⊢;rw[Xr,Sb vs _ _ _ (by simp;omega)]
  by_cases h1:o=j
  ·subst h1
   rw[Pd (by omega),AAG (by omega),List.getElem?_set_self (by omega)]
   simp
  ·by_cases h2:o+1<=j/\j<o+1+vs.length
   ·rw[AAG h2,AAG (by omega),show j - o=(j - (o+1))+1 by omega,List.getElem?_cons_succ]
   ·rw[Pd h2,Pd (by omega),List.getElem?_set_ne h1]
theorem Es {k:Nat} (hk:0<k):∀ (css:List (List Value)) (j:Nat),(∀cs∈css,cs.length=k)->css.flatten[j]? = (css[j / k]?).bind (·[j % k]?)
 | [],j,_=>by simp
 | c::r,j,h=>by
  have hc:=h c ABH;rw[List.flatten_cons]
  by_cases hlt:j<k
  ·rw[ABD (by omega),Nat.div_eq_of_lt hlt,Nat.mod_eq_of_lt hlt];simp
  ·rw[ABB (by omega),hc,Es hk r _ (fun cs hm=>h cs (ABE _ hm))]
   have e1:j / k=(j - k) / k+1:=by rw[<-Nat.sub_add_cancel (Nat.le_of_not_lt hlt),Nat.add_div_right _ hk,Nat.sub_add_cancel (Nat.le_of_not_lt hlt)]
   have e2:j % k=(j - k) % k:=by rw[Nat.mod_eq_sub_mod (Nat.le_of_not_lt hlt)]
   rw[e1,e2,List.getElem?_cons_succ]
theorem Kh {k:Nat} (hk:0<k) (css:List (List Value)) (i:Nat) (cs:List Value) (h:∀cs∈css,cs.length=k) (hc:cs.length=k) (hi:i<css.length):Xr css.flatten (i * k) cs=(css.set i cs).flatten:=by
 have h':∀ds∈css.set i cs,ds.length=k:=fun ds hd=>by
  rcases List.mem_or_eq_of_mem_set hd with e|e
  ·exact h ds e
  ·rw[e];exact hc
 have hfit:i * k+cs.length<=css.flatten.length:=by
  rw[Cc css h,hc,<-Nat.succ_mul];exact Nat.mul_le_mul_right k hi
 apply List.ext_getElem?
 intro j
 rw[Sb _ _ _ _ hfit,Es hk _ _ h',Es hk _ _ h,hc]
 by_cases e:j / k=i
 ·have h1:i * k<=j:=by rw[<-e];exact Nat.div_mul_le_self j k
  have h2:j<i * k+k:=by
   have:=Nat.lt_div_mul_add (a:=j) hk;rw[e] at this;exact this
  have h3:j - i * k=j % k:=by
   have:=Nat.div_add_mod j k;rw[e,Nat.mul_comm] at this;omega
  rw[AAG ⟨h1,h2⟩,e,List.getElem?_set_self hi,h3];rfl
 ·rw[Pd,List.getElem?_set_ne (fun h=>e h.symm)]
  rintro ⟨h1,h2⟩;exact e (Nat.div_eq_of_lt_le h1 (by rw[Nat.succ_mul];exact h2))
theorem EW {base E size n g cap:Nat}:∀ (vs xs:List Value) (o:Nat) (w:World),w.ownsRow base E size (.slice (some ⟨g,0,none⟩) n cap) n xs->(w.setCells g o vs).ownsRow base E size (.slice (some ⟨g,0,none⟩) n cap) n (Xr xs o vs)
 | [],_,_,_,h=>h
 | v::vs,xs,o,w,h=>EW vs (xs.set o v) (o+1) (w.setCell ⟨g,o,none⟩ v) (World.ownsRow.stored h o v).1
theorem yC {B:Nat} {w:World} (g:Nat) (hg:B<=g):∀ (vs:List Value) (o:Nat) (w':World),Below B w w'->Below B w (w'.setCells g o vs)
 | [],_,_,h=>h
 | v::vs,o,_,h=>yC g hg vs (o+1) _ (h.setCell hg v)
theorem size_setCells (g:Nat):∀ (vs:List Value) (o:Nat) (w:World),(w.setCells g o vs).heap.size=w.heap.size
 | [],_,_=>rfl
 | v::vs,o,w=>by rw[World.setCells,size_setCells g vs];simp
theorem zN {g q:Nat} (hq:q≠g):∀ (vs:List Value) (o:Nat) (w:World),(w.setCells g o vs).heap[q]? = w.heap[q]?
 | [],_,_=>rfl
 | v::vs,o,w=>by rw[World.setCells,zN hq vs,AAF w ⟨g,o,none⟩ q v hq]
variable {g:Nat}
theorem Off.setCells {S:Nat->Prop} {P:World->Prop} (h:Off S w P) (hS:S g) (o:Nat) (vs:List Value):Off S (w.setCells g o vs) P :=
 h.step (by rw[size_setCells];exact AAH _) fun q hq _=>zN (fun (e:q=g)=>hq (e▸hS)) vs o w
def BP {α:Type} (E k:Nat) (at_:World->α->List Value->Prop) (wr:World) (base H3 H:Nat) (A:zo) (c:Nat) (l:List α) (i:Nat):Prop :=
 ∃css,Ra E k wr base (.slice A l.length c) css/\css.length=l.length/\(∀cs∈css,cs.length=k)/\(∀g,(Value.slice A l.length c).ownBlock=some g->g<H3) /\
  ∀m x cs,l[m]? = some x->css[m]? = some cs->(m<i->Off (· < H3) wr fun u=>at_ u x cs)/\(i<=m->Off (H <= ·) wr fun u=>at_ u x cs)
section
variable {α:Type} {E k:Nat} {at_:World->α->List Value->Prop} {wr:World} {base H3 H:Nat} {A:zo} {c:Nat} {l:List α} {i:Nat}
variable {g:Nat}
theorem BP.lt (h:BP E k at_ wr base H3 H A c l i) (hg:(Value.slice A l.length c).ownBlock=some g):base<=g/\g<wr.heap.size/\g<H3:=by
 obtain ⟨css,ho,_,_,hb,_⟩:=h;exact ⟨(World.ownsRow.lt ho g hg).1,(World.ownsRow.lt ho g hg).2,hb g hg⟩
theorem BP.below (h:BP E k at_ wr base H3 H A c l i) {w':World} (hb:Below wr.heap.size wr w'):BP E k at_ w' base H3 H A c l i:=by
 obtain ⟨css,h1,h2,h3,h4,h5⟩:=h;exact ⟨css,h1.below hb,h2,h3,h4,fun m x cs hx hc=>⟨fun hm=>((h5 m x cs hx hc).1 hm).low hb,fun hm=>((h5 m x cs hx hc).2 hm).low hb⟩⟩
theorem BP.other (h:BP E k at_ wr base H3 H A c l i) {w':World} (hs:wr.heap.size<=w'.heap.size) (hk:∀q,q≠g->q<wr.heap.size->w'.heap[q]? = wr.heap[q]?) (h1:g<H3) (h2:H<=g) (hne:(Value.slice A l.length c).ownBlock≠some g):BP E k at_ w' base H3 H A c l i:=by
 obtain ⟨css,g1,g2,g3,g4,g5⟩:=h;refine ⟨css,g1.keep (fun q _ hq hv=>hk q (fun e=>hne (e▸hv)) hq),g2,g3,g4,fun m x cs hx hc=>⟨fun hm=>?_,fun hm=>?_⟩⟩
 ·exact ((g5 m x cs hx hc).1 hm).step hs fun q hq hl=>hk q (fun e=>hq (e▸h1)) hl
 ·exact ((g5 m x cs hx hc).2 hm).step hs fun q hq hl=>hk q (fun e=>hq (e▸h2)) hl
theorem BP.Fh (h:BP E k at_ wr base H3 H A c l i) (o:Nat) (vs:List Value) (h1:g<H3) (h2:H<=g) (hne:(Value.slice A l.length c).ownBlock≠some g):BP E k at_ (wr.setCells g o vs) base H3 H A c l i :=
 h.other (by rw[size_setCells];exact AAH _) (fun q hq _=>zN hq vs o wr) h1 h2 hne
theorem BP.YC (h:BP E k at_ wr base H3 H A c l i) (o:Nat) (v:Value) (h1:g<H3) (h2:H<=g) (hne:(Value.slice A l.length c).ownBlock≠some g):BP E k at_ (wr.setCell ⟨g,o,none⟩ v) base H3 H A c l i :=
 h.Fh o [v] h1 h2 hne
theorem BP.next (h:BP E k at_ wr base H3 H A c l i) (hi:i<l.length):∃g cs,A=some ⟨g,0,none⟩/\base<=g/\g<H3/\cs.length=k/\(Off (H <= ·) wr fun u=>at_ u l[i] cs)/\wr.rangeAt g (i * k) cs/\wr.there g (i * k) k:=by
 obtain ⟨css,h1,h2,h3,h4,h5⟩:=h;have hn:css≠[]:=fun e=>by rw[e] at h2;simp at h2;omega
 have hic:i<css.length:=by omega
 obtain ⟨A',c',e,_,_,hr⟩:=Ad.reads h1;obtain ⟨g,hA,hg,hrange⟩:=hr hn;have Ym:A=A':=by injection e
 subst Ym;subst hA;have hcl:=h3 _ (AAK hic);have hrg:wr.rangeAt g (i * k) css[i]:=fun j u hj=>by
  have hj':j<k:=by rw[<-hcl];exact (AAi.1 hj).1
  rw[Cg] at hrange;have:=hrange (i * k+j) u (by
   rw[Es (by omega) css _ h3,Nat.mul_comm i k,Nat.mul_add_div (by omega),Nat.mul_add_mod,Nat.div_eq_of_lt hj',Nat.mod_eq_of_lt hj',Nat.add_zero,zl hic]
   exact hj)
  rwa [Nat.zero_add] at this
 refine ⟨g,css[i],rfl,hg,h4 g rfl,hcl,(h5 i _ _ (zl hi) (zl hic)).2 (AAH _),hrg,fun j hj=>⟨?_,?_⟩⟩
 ·have:=hrg j _ (zl (by rw[hcl];exact hj))
  rw[this];rfl
 ·have hln:css.length=l.length:=h2
  have h1':wr.ownsRow base E k (.slice (some ⟨g,0,none⟩) l.length c) l.length (css.flatMap fun cs=>cs):=by rw[<-hln] at h1 ⊢;exact h1
  exact World.ownsRow.frozenAt h1' (i * k+j)
theorem BP.there (h:BP E k at_ wr base H3 H A c l i) (hi:i<l.length) (hA:A=some ⟨g,0,none⟩):wr.there g (i * k) k:=by
 obtain ⟨g',cs,e,_,_,_,_,_,ht⟩:=h.next hi;rw[hA] at e
 injection e with e
 injection e with e
 subst e;exact ht
theorem BP.write (h:BP E k at_ wr base H3 H A c l i) (hi:i<l.length) (hA:A=some ⟨g,0,none⟩) (hH:H<=base) (hk:0<k) {x:α} {cs:List Value} (hc:cs.length=k) (hx:Off (· < H3) wr fun u=>at_ u x cs):BP E k at_ (wr.setCells g (i * k) cs) base H3 H A c (l.set i x) (i+1):=by
 subst hA;have hlt:=h.lt (g:=g) rfl;obtain ⟨css,h1,h2,h3,h4,h5⟩:=h;have hic:i<css.length:=by omega
 refine ⟨css.set i cs,?_,by simp[h2],fun ds hd=>?_,by rw[List.length_set];exact h4,fun m y ds hy hd=>?_⟩
 ·unfold Ra Ad at h1 ⊢
  rw[Cg] at h1 ⊢;rw[List.length_set,List.length_set,<-Kh hk css i cs h3 hc hic];rw[h2] at h1 ⊢;exact EW cs css.flatten (i * k) wr h1
 ·rcases List.mem_or_eq_of_mem_set hd with e|e
  ·exact h3 ds e
  ·rw[e];exact hc
 ·by_cases e:m=i
  ·subst e
   rw[List.getElem?_set_self hi] at hy;rw[List.getElem?_set_self hic] at hd;obtain rfl:=AAm hy;obtain rfl:=AAm hd;exact ⟨fun _=>hx.setCells hlt.2.2 _ _,fun hm=>absurd hm (by omega)⟩
  ·rw[List.getElem?_set_ne (fun e2=>e e2.symm)] at hy hd
   have:=h5 m y ds hy hd;exact ⟨fun hm=>(this.1 (by omega)).setCells hlt.2.2 _ _,fun hm=>(this.2 (by omega)).setCells (Nat.le_trans hH hlt.1) _ _⟩
theorem BP.out (h:BP E k at_ wr base H3 H A c l i) (hi:l.length<=i) (hH:H<=H3) (hb:H<=base) {bytes:Nat} (hl:DU bytes l.length):Off (· < H) wr fun u=>Aa k bytes (at_ u) u A l:=by
 obtain ⟨css,h1,h2,h3,h4,h5⟩:=h
 intro u hu
 refine ⟨hl,fun hn=>?_⟩
 have hnc:css≠[]:=fun e=>by rw[e] at h2;simp at h2;exact hn (AAf h2.symm)
 obtain ⟨A',c',e,_,_,hr⟩:=Ad.reads h1;obtain ⟨g,hA,hg,hrange⟩:=hr hnc;have Ym:A=A':=by injection e
 subst Ym;refine ⟨g,0,hA,fun m x hx=>?_⟩
 have hml:m<l.length:=(AAi.1 hx).1;have hmc:m<css.length:=by omega
 have hcl:=h3 _ (AAK hmc);have AAA:g<wr.heap.size:=(World.ownsRow.lt h1 g (by rw[hA];rfl)).2
 refine ⟨css[m],((h5 m x _ hx (zl hmc)).1 (by omega)).mono (fun q _ hq=>by omega) u hu,fun j v hj=>?_⟩
 have hj':j<k:=by rw[<-hcl];exact (AAi.1 hj).1
 rw[Cg] at hrange;have:=hrange (m * k+j) v (by
  rw[Es (by omega) css _ h3,Nat.mul_comm m k,Nat.mul_add_div (by omega),Nat.mul_add_mod,Nat.div_eq_of_lt hj',Nat.mod_eq_of_lt hj',Nat.add_zero,zl hmc]
  exact hj)
 rw[<-Nat.add_assoc] at this;rw[World.cell?_of_block (w:=wr) (w':=u) (a:=⟨g,0+m * k+j,none⟩) (hu g (by omega) AAA)]
 exact this
theorem BP.TH {w w1:World} {css:List (List Value)} (ho:Ra E k w1 base (.slice A l.length c) css) (hl:css.length=l.length) (hk:∀cs∈css,cs.length=k) (h3:∀g,(Value.slice A l.length c).ownBlock=some g->g<H3) (hat:∀ (m:Nat) x cs,l[m]? = some x->css[m]? = some cs->∀u,Low w u->at_ u x cs) (hb:Below w.heap.size w w1):BP E k at_ w1 base H3 w.heap.size A c l 0 :=
 ⟨css,ho,hl,hk,h3,fun m x cs hx hc=>⟨fun h=>absurd h (by omega),fun _=>Off.old (hat m x cs hx hc) hb⟩⟩
theorem BP.all (h:BP E k at_ wr base H3 H A c l i) (ha:∀u u' x cs,at_ u x cs->at_ u' x cs) (j:Nat):BP E k at_ wr base H3 H A c l j:=by
 obtain ⟨css,h1,h2,h3,h4,h5⟩:=h;refine ⟨css,h1,h2,h3,h4,fun m x cs hx hc=>?_⟩
 have:∀u,at_ u x cs:=fun u=>by
  by_cases hm:m<i
  ·exact ha _ _ _ _ ((h5 m x cs hx hc).1 hm).out
  ·exact ha _ _ _ _ ((h5 m x cs hx hc).2 (by omega)).out
 exact ⟨fun _ u _=>this u,fun _ u _=>this u⟩
end
abbrev Em:Obj := .cells #[.int .i64 0,.bool false,.int .i64 0,.string ⟨#[]⟩,.int .i64 0,.slice none 0 0,.slice none 0 0,.slice none 0 0] 28
theorem EP {o:Obj} (h:W.heap[b]? = some o) (o2:Obj):(W.alloc o2).heap[b]? = some o :=
 ((zD W o2).block b (zg.1 h).1).trans h
variable {x y:Val}
theorem Val.Xq (h:y∈x.keys):SizeOf.sizeOf y<SizeOf.sizeOf x:=by
 obtain ⟨k,b,i,s,d,ks,is,r⟩:=x;have:=List.sizeOf_lt_of_mem h;simp only[Val.keys] at this;simp only[Val.mk.sizeOf_spec]
 omega
theorem Val.Um (h:y∈x.items):SizeOf.sizeOf y<SizeOf.sizeOf x:=by
 obtain ⟨k,b,i,s,d,ks,is,r⟩:=x;have:=List.sizeOf_lt_of_mem h;simp only[Val.items] at this;simp only[Val.mk.sizeOf_spec]
 omega
theorem Val.at_one {cs:List Value} (h:x.At w cs):cs.length=8/\∀u∈cs,u.oneCell'=true:=by
 obtain ⟨A1,c1,A2,c2,A3,c3,rfl,_⟩:=Val.EF.1 h;refine ⟨rfl,?_⟩
 intro u hu
 simp only[AAr,List.mem_nil_iff,or_false] at hu
 rcases hu with rfl|rfl|rfl|rfl|rfl|rfl|rfl|rfl <;> rfl
theorem Ak.at_one {x:Ak} {cs:List Value} (h:x.At cs):cs.length=2/\∀u∈cs,u.oneCell'=true:=by
 obtain ⟨_,rfl⟩:=h;refine ⟨rfl,?_⟩
 intro u hu
 simp only[AAr,List.mem_nil_iff,or_false] at hu
 rcases hu with rfl|rfl <;> rfl
theorem dN {l:List Val} {A:zo} {c:Nat} {w0:World} (hl:Co w0 A l) (hb0:Below w0.heap.size w0 w):
  Calls Tryz.prog 145 #[.slice A l.length c] w fun e w'=>∃B d,e = .returned (.slice B l.length d)/\Below w.heap.size w w'/\(∀g,(Value.slice B l.length d).ownBlock=some g->w.heap.size<=g/\g<w'.heap.size) /\
   ∀H3,w'.heap.size<=H3->BP 28 8 (fun u x cs=>Val.At u x cs) w' w.heap.size H3 w0.heap.size B d l 0:=by
 obtain ⟨css,h1,h2,h3,h4⟩:=Aa.cells (fun x cs h=>(Val.at_one h).1) hl
 have hone:∀cs∈css,∀u∈cs,u.oneCell'=true:=fun cs hc=>by
  obtain ⟨i,hi,rfl⟩:=AAw hc;exact (Val.at_one (h2 i l[i] _ (zl (by omega)) (zl hi))).2
 have:=OI css h3 hone (by rw[h1];exact hl.1) A c w (fun hn=>by
  obtain ⟨b,o,e,hr⟩:=h4 (fun e=>hn (AAf (by rw[h1,e];rfl)))
  exact ⟨b,o,e,BU hb0 hr⟩)
 rw[h1] at this;refine this.mono ?_;rintro e w' ⟨v,rfl,ho,hb⟩;obtain ⟨B,d,rfl,_⟩:=Ad.reads ho;rw[h1] at ho ⊢;refine ⟨B,d,rfl,hb,fun g hg=>World.ownsRow.lt ho g hg,fun H3 hH3=>?_⟩
 exact BP.TH (w:=w0) ho h1 h3 (fun g hg=>AAq (World.ownsRow.lt ho g hg).2 hH3) (fun m x cs hx hc u hu=>Val.J7 hu _ _ (h2 m x cs hx hc)) (zB hb0 hb)
theorem pR {l:List Ak} {A:zo} {c:Nat} {w0:World} (hl:EH w0 A l) (hb0:Below w0.heap.size w0 w):
  Calls Tryz.prog 144 #[.slice A l.length c] w fun e w'=>∃B d,e = .returned (.slice B l.length d)/\Below w.heap.size w w'/\(∀g,(Value.slice B l.length d).ownBlock=some g->w.heap.size<=g/\g<w'.heap.size) /\
   ∀H3,w'.heap.size<=H3->BP 97 2 (fun _ x cs=>Ak.At x cs) w' w.heap.size H3 w0.heap.size B d l l.length:=by
 obtain ⟨css,h1,h2,h3,h4⟩:=Aa.cells (fun x cs h=>(Ak.at_one h).1) hl
 have hone:∀cs∈css,∀u∈cs,u.oneCell'=true:=fun cs hc=>by
  obtain ⟨i,hi,rfl⟩:=AAw hc;exact (Ak.at_one (h2 i l[i] _ (zl (by omega)) (zl hi))).2
 have:=RS css h3 hone (by rw[h1];exact hl.1) A c w (fun hn=>by
  obtain ⟨b,o,e,hr⟩:=h4 (fun e=>hn (AAf (by rw[h1,e];rfl)))
  exact ⟨b,o,e,BU hb0 hr⟩)
 rw[h1] at this;refine this.mono ?_;rintro e w' ⟨v,rfl,ho,hb⟩;obtain ⟨B,d,rfl,_⟩:=Ad.reads ho;rw[h1] at ho ⊢;refine ⟨B,d,rfl,hb,fun g hg=>World.ownsRow.lt ho g hg,fun H3 hH3=>?_⟩
 exact BP.all (BP.TH (w:=w0) ho h1 h3 (fun g hg=>AAq (World.ownsRow.lt ho g hg).2 hH3) (fun m x cs hx hc u hu=>h2 m x cs hx hc) (zB hb0 hb)) (fun _ _ _ _ h=>h) _
structure Rq (x:Val) (w:World) (H3:Nat) (A1:zo) (c1:Nat) (A2:zo) (c2:Nat) (A3:zo) (c3:Nat) (i j:Nat) (wr:World):Prop where
 box:wr.heap[w.heap.size]? = some (x.box A1 c1 A2 c2 A3 c3)
 res:wr.heap[w.heap.size+1]? = some Em
 Bb:Below w.heap.size w wr
 hi:H3<=wr.heap.size
 lo:w.heap.size+2<=H3
 keys:BP 28 8 (fun u x cs=>Val.At u x cs) wr (w.heap.size+2) H3 w.heap.size A1 c1 x.keys i
 items:BP 28 8 (fun u x cs=>Val.At u x cs) wr (w.heap.size+2) H3 w.heap.size A2 c2 x.items j
 rest:BP 97 2 (fun _ x cs=>Ak.At x cs) wr (w.heap.size+2) H3 w.heap.size A3 c3 x.rest x.rest.length
 apart:∀g,(Value.slice A1 x.keys.length c1).ownBlock=some g->(Value.slice A2 x.items.length c2).ownBlock≠some g/\(Value.slice A3 x.rest.length c3).ownBlock≠some g
 RY:∀g,(Value.slice A2 x.items.length c2).ownBlock=some g->(Value.slice A3 x.rest.length c3).ownBlock≠some g
variable {H3 c1 c2 c3 i j:Nat} {wr:World} {A1 A2 A3:zo}
theorem Rq.below (h:Rq x w H3 A1 c1 A2 c2 A3 c3 i j wr) (hb:Below wr.heap.size wr w'):Rq x w H3 A1 c1 A2 c2 A3 c3 i j w' :=
 ⟨(hb.block _ (zg.1 h.box).1).trans h.box,(hb.block _ (zg.1 h.res).1).trans h.res,zB h.Bb hb,Nat.le_trans h.hi hb.size,h.lo,h.keys.below hb,h.items.below hb,h.rest.below hb,h.apart,h.RY⟩
def UW (x:Val) (w:World) (e:Ending) (w':World):Prop :=
 ∃A1 c1 A2 c2 A3 c3,e = .returned (x.v A1 c1 A2 c2 A3 c3)/\(Off (· < w.heap.size) w' fun u=>Az u x A1 A2 A3)/\Below w.heap.size w w'
theorem LC (h:W.heap[b]? = some (x.box A1 c1 A2 c2 A3 c3)):
  ((W.cell? ⟨b,5,none⟩=some (.slice A1 x.keys.length c1)/\W.cell? ⟨b,6,none⟩=some (.slice A2 x.items.length c2)/\W.cell? ⟨b,7,none⟩=some (.slice A3 x.rest.length c3))/\(W.frozen? ⟨b,5,none⟩=false/\W.frozen? ⟨b,6,none⟩=false/\W.frozen? ⟨b,7,none⟩=false))/\Hid (W.heap[b]? = some (x.box A1 c1 A2 c2 A3 c3)) :=
 ⟨⟨⟨by rw[AAE _ _ _ _ _ _ h];rfl,by rw[AAE _ _ _ _ _ _ h];rfl,by rw[AAE _ _ _ _ _ _ h];rfl⟩,AAL _ _ _ _ _ h,AAL _ _ _ _ _ h,AAL _ _ _ _ _ h⟩,h⟩
theorem Rq.key (h:Rq x w H3 A1 c1 A2 c2 A3 c3 i j wr) (hi:i<x.keys.length) (hA:A1=some ⟨g,0,none⟩) {F1:zo} {f1:Nat} {F2:zo} {f2:Nat} {F3:zo} {f3:Nat} {B:Nat} (hB:H3<=B) (ho:Off (· < B) wr fun u=>Az u x.keys[i] F1 F2 F3):
  Rq x w H3 A1 c1 A2 c2 A3 c3 (i+1) j (wr.setCells g (i * 8) ((x.keys[i]).cs F1 f1 F2 f2 F3 f3)):=by
 have hlt:=h.keys.lt (g:=g) (by rw[hA];rfl)
 have hown:(Value.slice A1 x.keys.length c1).ownBlock=some g:=by rw[hA];rfl
 have hlo:=h.lo;refine ⟨?_,?_,yC g (by omega) _ _ _ h.Bb,by rw[size_setCells];exact h.hi,h.lo,?_,?_,?_,h.apart,h.RY⟩
 ·rw[zN (by omega)];exact h.box
 ·rw[zN (by omega)];exact h.res
 ·have:=h.keys.write hi hA (Nat.le_add_right _ _) (by omega) (x:=x.keys[i]) (cs:=(x.keys[i]).cs F1 f1 F2 f2 F3 f3) rfl ((ho.mono fun q _ hq=>by omega).imp fun u hu=>Val.EF.2 ⟨F1,f1,F2,f2,F3,f3,rfl,hu⟩)
  rwa [List.set_getElem_self] at this
 ·exact h.items.Fh _ _ hlt.2.2 (by omega) (h.apart g hown).1
 ·exact h.rest.Fh _ _ hlt.2.2 (by omega) (h.apart g hown).2
theorem Rq.item (h:Rq x w H3 A1 c1 A2 c2 A3 c3 i j wr) (hi:j<x.items.length) (hA:A2=some ⟨g,0,none⟩) {F1:zo} {f1:Nat} {F2:zo} {f2:Nat} {F3:zo} {f3:Nat} {B:Nat} (hB:H3<=B) (ho:Off (· < B) wr fun u=>Az u x.items[j] F1 F2 F3):
  Rq x w H3 A1 c1 A2 c2 A3 c3 i (j+1) (wr.setCells g (j * 8) ((x.items[j]).cs F1 f1 F2 f2 F3 f3)):=by
 have hlt:=h.items.lt (g:=g) (by rw[hA];rfl)
 have hown:(Value.slice A2 x.items.length c2).ownBlock=some g:=by rw[hA];rfl
 have hlo:=h.lo;refine ⟨?_,?_,yC g (by omega) _ _ _ h.Bb,by rw[size_setCells];exact h.hi,h.lo,?_,?_,?_,h.apart,h.RY⟩
 ·rw[zN (by omega)];exact h.box
 ·rw[zN (by omega)];exact h.res
 ·exact h.keys.Fh _ _ hlt.2.2 (by omega) (fun e=>(h.apart g e).1 hown)
 ·have:=h.items.write hi hA (Nat.le_add_right _ _) (by omega) (x:=x.items[j]) (cs:=(x.items[j]).cs F1 f1 F2 f2 F3 f3) rfl ((ho.mono fun q _ hq=>by omega).imp fun u hu=>Val.EF.2 ⟨F1,f1,F2,f2,F3,f3,rfl,hu⟩)
  rwa [List.set_getElem_self] at this
 ·exact h.rest.Fh _ _ hlt.2.2 (by omega) (h.RY g hown)
theorem Jy {o:Nat} {E1:zo} {e1:Nat} {E2:zo} {e2:Nat} {E3:zo} {e3:Nat} (h:w.rangeAt b o (y.cs E1 e1 E2 e2 E3 e3)):
  w.cell? ⟨b,o,none⟩=some (.int .i64 y.kind)/\w.cell? ⟨b,o+1,none⟩=some (.bool y.bool)/\w.cell? ⟨b,o+2,none⟩=some (.int .i64 y.int)/\w.cell? ⟨b,o+3,none⟩=some (.string y.str)/\w.cell? ⟨b,o+4,none⟩=some (.int .i64 y.id)/\w.cell? ⟨b,o+5,none⟩=some (.slice E1 y.keys.length e1)/\w.cell? ⟨b,o+6,none⟩=some (.slice E2 y.items.length e2)/\w.cell? ⟨b,o+7,none⟩=some (.slice E3 y.rest.length e3) :=
 ⟨h 0 _ rfl,h 1 _ rfl,h 2 _ rfl,h 3 _ rfl,h 4 _ rfl,h 5 _ rfl,h 6 _ rfl,h 7 _ rfl⟩
theorem val_one (y:Val) (E1:zo) (e1:Nat) (E2:zo) (e2:Nat) (E3:zo) (e3:Nat):((y.cs E1 e1 E2 e2 E3 e3).toArray).all (·.oneCell')=true :=
 all_oneCell_toArray fun u hu=>by
  simp only[AAr,List.mem_nil_iff,or_false] at hu
  rcases hu with rfl|rfl|rfl|rfl|rfl|rfl|rfl|rfl <;> rfl
theorem DW (h:w.heap[b]? = some Em):w.there b 0 8:=fun j hj=>by
 rw[Nat.zero_add];refine ⟨?_,AAL _ _ _ _ _ h⟩;rw[AAE _ _ _ _ _ _ h]
 match j,hj with
 | 0,_=>rfl
 | 1,_=>rfl
 | 2,_=>rfl
 | 3,_=>rfl
 | 4,_=>rfl
 | 5,_=>rfl
 | 6,_=>rfl
 | 7,_=>rfl
theorem zW:(Tryz.prog.info? 28).map (·.size)=some 8:=by kernel_rfl
end Go.Proofs.YthkkllmmbefedaaGreatDoor



