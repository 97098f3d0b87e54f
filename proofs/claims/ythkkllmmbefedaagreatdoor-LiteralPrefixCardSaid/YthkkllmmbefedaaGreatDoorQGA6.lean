/-
  Walks: canon.copied.
-/
import Derived.Test.YthkkllmmbefedaaGreatDoorQGA5
import Derived.StillTailTactics
namespace Go.Proofs.YthkkllmmbefedaaGreatDoor
open Go.RowKit Tryz
set_option maxHeartbeats 16000000
set_option maxRecDepth 100000
theorem aB (w:World):Ar w zeroV none none none:=⟨by simp[Cw,zeroV,Val.str];exact Nat.zero_le _,AY.nil _ _ _ _ _,AY.nil _ _ _ _ _,AY.nil _ _ _ _ _⟩
def KO (x:Val):Prop:=∀ (y:Val) (A1:zo) (c1:Nat) (A2:zo) (c2:Nat) (A3:zo) (c3:Nat) (B1:zo) (d1:Nat) (B2:zo) (d2:Nat) (B3:zo) (d3:Nat) (w:World),
 Ar w x A1 A2 A3->Ar w y B1 B2 B3->Calls prog 51 #[x.v A1 c1 A2 c2 A3 c3,y.v B1 d1 B2 d2 B3 d3] w (Ic (decide (x=y)) w)
theorem LK (l m:List Val) (ih:∀x∈l,KO x) (A B:zo) (c d:Nat) (w:World) (hl:Cz w A l) (hm:Cz w B m) :
  Calls prog 80 #[.slice A l.length c,.slice B m.length d] w (Ic (decide (l=m)) w):=by
 have hn:=hl.1.lt (by omega)
 by_cases hlen:l.length=m.length
 ·rw[<-hlen]
  have hb0:((l.length:Int) != (l.length:Int))=false:=by simp
  have HL:=zh hl;have HM:=zh hm;have HE:=zh hlen;have HI:=zh ih;clear hl hm hlen ih
  go_enter func80,ntmps80
  go_wp2
  go_loopw [5] (fun i wr=>∃k:Nat,k<=l.length/\i = .int .i64 k/\Hid (l.take k=m.take k)/\Hid (Below w.heap.size w wr)) (fun i _=>l.length - (intOf i).toNat)
  case atStart=>exact ⟨0,by omega,rfl,rfl,Pe _ _⟩
  case round =>
   obtain ⟨k,hk,rfl,htk,hbw⟩:=hrel
   by_cases hlt:k<l.length
   ·have hlt':k<m.length:=by have:=HE.O;omega
    obtain ⟨b,o,A1,c1,A2,c2,A3,c3,rfl,hr1,a0,a1,a2,a3,a4,a5,a6,a7⟩:=(HL.O.below hbw.O).at8 hlt;obtain ⟨b',o',B1,d1,B2,d2,B3,d3,rfl,hr2,b0,b1,b2,b3,b4,b5,b6,b7⟩:=(HM.O.below hbw.O).at8 hlt';have h1:(0:Int)<=(k:Int):=by omega
    have h2:(k:Int)<(l.length:Int):=by omega
    have HR1:=zh hr1;have HR2:=zh hr2;have HX:=zh (HI.O l[k] (AAL hlt));clear hr1 hr2
    by_cases he:l[k]=m[k]
    ·have HQ:=zh (Ph hlt hlt' htk.O he)
     have HD:=zh (AAJ he);clear he;go_wp2
     go_still_tail 8,(by kernel_rfl)
     change wpList _ _ _ _ _ wr.drew
     go_wp2_with (go_at_call 51;refine (HX.O m[k] A1 c1 A2 c2 A3 c3 B1 d1 B2 d2 B3 d3 _ (HR1.O.below (zC (Pe _ _) 1)) (HR2.O.below (zC (Pe _ _) 1))).mono ?_;rintro e w2 ⟨rfl,hb2⟩;rw[HD.O])
     go_roundw
     case rel=>exact ⟨k+1,by omega,by go_num,HQ.O,zB hbw.O (gW hb2)⟩
     case measure=>simp[intOf];omega
    ·have HQ:=zh (Pg hlt hlt' he)
     have HD:=zh (AAP he);clear he;go_wp2
     go_still_tail 8,(by kernel_rfl)
     change wpList _ _ _ _ _ wr.drew
     go_wp2_with (go_at_call 51;refine (HX.O m[k] A1 c1 A2 c2 A3 c3 B1 d1 B2 d2 B3 d3 _ (HR1.O.below (zC (Pe _ _) 1)) (HR2.O.below (zC (Pe _ _) 1))).mono ?_;rintro e w2 ⟨rfl,hb2⟩;rw[HD.O])
     go_ret
     exact ⟨by rw[HQ.O];rfl,zB hbw.O (gW hb2)⟩
   ·have HQ:=zh (Ug hlt HE htk.O)
    go_wp2
    go_ret
    exact ⟨by rw[HQ.O];rfl,hbw.O⟩
 ·have hb0:((l.length:Int) != (m.length:Int))=true:=bne_iff_ne.2 (by omega)
  have HQ:=zh (show decide (l=m)=false from AAP fun e=>hlen (by rw[e]))
  clear hlen
  go_enter func80,ntmps80
  go_wp2
  go_ret
  exact ⟨by rw[HQ.O];rfl,Pe _ _⟩
theorem XY (x:Val) (ihk:∀z∈x.keys,KO z) (ihi:∀z∈x.items,KO z):KO x:=by
 intro y A1 c1 A2 c2 A3 c3 B1 d1 B2 d2 B3 d3 w hx hy
 have HK:=zh ihk;have HI:=zh ihi;have HX:=zh hx;have HY:=zh hy;have hn:=hx.rest.1.lt (by omega)
 clear ihk ihi hx hy
 by_cases q1:x.kind=y.kind
 case neg =>
  have HD:=zh (Jb (x:=x) (y:=y) (fun h=>q1 h.1))
  have e1:(x.kind != y.kind)=true:=by simpa using q1
  clear q1
  go_enter func51,ntmps51
  go_wp2
  go_ret
  exact ⟨by rw[HD.O];rfl,zI _ _ _⟩
 have e1:(x.kind != y.kind)=false:=by simpa using q1
 by_cases q2:x.bool=y.bool
 case neg =>
  have HD:=zh (Jb (x:=x) (y:=y) (fun h=>q2 h.2.1))
  have e2:(x.bool==y.bool)=false:=by simpa using q2
  have p2:¬ x.bool=y.bool:=q2;clear q1 q2
  go_enter func51,ntmps51
  go_wp2
  go_ret
  exact ⟨by rw[HD.O];rfl,zI _ _ _⟩
 have e2:(x.bool==y.bool)=true:=by simpa using q2
 by_cases q3:x.int=y.int
 case neg =>
  have HD:=zh (Jb (x:=x) (y:=y) (fun h=>q3 h.2.2.1))
  have e3:(x.int != y.int)=true:=by simpa using q3
  clear q1 q2 q3
  go_enter func51,ntmps51
  go_wp2
  go_ret
  exact ⟨by rw[HD.O];rfl,zI _ _ _⟩
 have e3:(x.int != y.int)=false:=by simpa using q3
 by_cases q4:x.str=y.str
 case neg =>
  have HD:=zh (Jb (x:=x) (y:=y) (fun h=>q4 h.2.2.2.1))
  have e4:(x.str.toList==y.str.toList)=false:=by rw[bytes_beq,AAP q4]
  have p4:¬ x.str.toList=y.str.toList:=by simpa using e4
  clear q1 q2 q3 q4
  go_enter func51,ntmps51
  go_wp2
  go_ret
  exact ⟨by rw[HD.O];rfl,zI _ _ _⟩
 have e4:(x.str.toList==y.str.toList)=true:=by rw[bytes_beq,AAJ q4]
 by_cases q5:x.id=y.id
 case neg =>
  have HD:=zh (Jb (x:=x) (y:=y) (fun h=>q5 h.2.2.2.2.1))
  have e5:(x.id != y.id)=true:=by simpa using q5
  clear q1 q2 q3 q4 q5
  go_enter func51,ntmps51
  go_wp2
  go_ret
  exact ⟨by rw[HD.O];rfl,zI _ _ _⟩
 have e5:(x.id != y.id)=false:=by simpa using q5
 by_cases q6:x.rest.length=y.rest.length
 case neg =>
  have HD:=zh (Jb (x:=x) (y:=y) (fun h=>q6 (by rw[h.2.2.2.2.2.1])))
  have e6:((x.rest.length:Int) != (y.rest.length:Int))=true:=bne_iff_ne.2 (by omega)
  clear q1 q2 q3 q4 q5 q6
  go_enter func51,ntmps51
  go_wp2
  go_ret
  exact ⟨by rw[HD.O];rfl,zI _ _ _⟩
 have HE:=zh q6;have HQ:=zh (And.intro q1 (And.intro q2 (And.intro q3 (And.intro q4 q5))));obtain ⟨n6,hn6⟩:∃n,n=y.rest.length:=⟨_,rfl⟩;rw[<-hn6] at q6;have e6:((x.rest.length:Int) != (x.rest.length:Int))=false:=by simp
 have HV:Hid (y.v B1 d1 B2 d2 B3 d3 = .agg #[.int .i64 y.kind,.bool y.bool,.int .i64 y.int,.string y.str,.int .i64 y.id,.slice B1 y.keys.length d1,.slice B2 y.items.length d2,.slice B3 x.rest.length d3]):=by show _=_;rw[HE.O]
 rw[HV.O];clear q1 q2 q3 q4 q5 q6 hn6
 go_enter func51,ntmps51
 go_wp2
 go_loopw [5] (fun i wr=>∃k:Nat,k<=x.rest.length/\i = .int .i64 k/\Hid (x.rest.take k=y.rest.take k)/\Hid (Below (World.heap ((w.alloc (x.box A1 c1 A2 c2 A3 c3)).alloc (.cells #[.int .i64 y.kind,.bool y.bool,.int .i64 y.int,.string y.str,.int .i64 y.id,.slice B1 y.keys.length d1,.slice B2 y.items.length d2,.slice B3 x.rest.length d3] 28))).size ((w.alloc (x.box A1 c1 A2 c2 A3 c3)).alloc (.cells #[.int .i64 y.kind,.bool y.bool,.int .i64 y.int,.string y.str,.int .i64 y.id,.slice B1 y.keys.length d1,.slice B2 y.items.length d2,.slice B3 x.rest.length d3] 28)) wr)) (fun i _=>x.rest.length - (intOf i).toNat)
 case atStart=>exact ⟨0,by omega,rfl,rfl,Pe _ _⟩
 case round =>
  obtain ⟨k,hk,rfl,htk,hbw⟩:=hrel;have hc:=tY hbw.O;have HB:=zh (below_alloc2 hbw.O);have hz0:=hbw.O.size;simp at hz0;have hz1:w.heap.size<wr.heap.size:=by omega
  have hz2:w.heap.size+1<wr.heap.size:=by omega
  clear hz0
  by_cases hlt:k<x.rest.length
  ·have hlt':k<y.rest.length:=by have:=HE.O;omega
   obtain ⟨b,o,rfl,_,a0,a1⟩:=(HX.O.rest.below HB).at2 hlt;obtain ⟨b',o',rfl,_,b0,b1⟩:=(HY.O.rest.below HB).at2 hlt';have h1:(0:Int)<=(k:Int):=by omega
   have h2:(k:Int)<(x.rest.length:Int):=by omega
   have hcx:=hc w.heap.size 7 (by simp;omega)
   have hcy:=hc (w.heap.size+1) 7 (by simp)
   have AGr:wr.cell? ⟨w.heap.size,7,none⟩=some (.slice (some ⟨b,o,none⟩) x.rest.length c3):=by rw[hcx];go_simp
   have AGq:wr.cell? ⟨w.heap.size+1,7,none⟩=some (.slice (some ⟨b',o',none⟩) x.rest.length d3):=by rw[hcy];go_simp
   clear hcx hcy hc
   by_cases he:x.rest[k]=y.rest[k]
   ·have heq:∀w,(binOp .neq 97 (.agg #[.int .i64 (x.rest[k]).id,.string (x.rest[k]).data]) (.agg #[.int .i64 (y.rest[k]).id,.string (y.rest[k]).data])).run prog w = .ok (.bool false) w:=fun w=>by rw[OH,AAJ ((Af.ext_iff' _ _).2 he)];rfl
    have HT:=zh (Ph hlt hlt' htk.O he);clear he;go_wp2
    go_quiet (fail)
    go_wp2
    go_roundw
    case rel=>exact ⟨k+1,by omega,by go_num,HT.O,zC hbw.O _⟩
    case measure=>simp[intOf];omega
   ·have heq:∀w,(binOp .neq 97 (.agg #[.int .i64 (x.rest[k]).id,.string (x.rest[k]).data]) (.agg #[.int .i64 (y.rest[k]).id,.string (y.rest[k]).data])).run prog w = .ok (.bool true) w:=fun w=>by rw[OH,AAP (fun e=>he ((Af.ext_iff' _ _).1 e))];rfl
    have HD:=zh (Jb (x:=x) (y:=y) fun h=>by have:=Pg hlt hlt' he;rw[AAJ h.2.2.2.2.2.1] at this;cases this)
    clear he;go_wp2
    go_quiet (fail)
    go_wp2
    go_ret
    exact ⟨by rw[HD.O];rfl,zC HB _⟩
  ·have HT:=zh (AAr (Ug hlt HE htk.O))
   by_cases q7:x.keys=y.keys
   ·have H7:=zh (AAJ q7)
    have HD:=zh (show decide (x=y)=decide (x.items=y.items) by
     rw[decide_eq_decide,Val.ext_iff'];obtain ⟨q1,q2,q3,q4,q5⟩:=HQ.O;exact ⟨fun h=>h.2.2.2.2.2.2.2,fun h=>⟨q1,q2,q3,q4,q5,HT.O,q7,h⟩⟩)
    clear q7;go_wp2_with fail;refine (LK x.keys y.keys HK A1 B1 c1 d1 _ (HX.O.keys.below HB) (HY.O.keys.below HB)).mono ?_;rintro e w3 ⟨rfl,hb3⟩;rw[H7.O];have hc3:=tY hb3;have HB3:=zh (zB HB hb3);clear hb3;go_wp2_with fail;refine (LK x.items y.items HI A2 B2 c2 d2 _ (HX.O.items.below HB3) (HY.O.items.below HB3)).mono ?_;rintro e w4 ⟨rfl,hb4⟩
    go_wp2
    go_ret
    exact ⟨by rw[HD.O];rfl,zB HB3 hb4⟩
   ·have H7:=zh (AAP q7)
    have HD:=zh (Jb (x:=x) (y:=y) fun h=>q7 h.2.2.2.2.2.2.1)
    clear q7;go_wp2_with fail;refine (LK x.keys y.keys HK A1 B1 c1 d1 _ (HX.O.keys.below HB) (HY.O.keys.below HB)).mono ?_;rintro e w3 ⟨rfl,hb3⟩;rw[H7.O];go_wp2;go_ret;exact ⟨by rw[HD.O];rfl,zB HB hb3⟩
mutual
theorem RU:∀x:Val,KO x
 | .mk _ _ _ _ _ ks is _=>XY _ (LM ks) (LM is)
theorem LM:∀ (l:List Val),∀z∈l,KO z
 | [],_,h=>by cases h
 | x::l,z,h=>by
  rcases ABP.1 h with e|e
  ·rw[e];exact RU x
  ·exact LM l z e
end
def yw (p:Nat) (names:Bool) (w:World):Prop:=w.cell? ⟨p,0,none⟩=some (.bool names)
variable {w w':World}
theorem yw.below {p:Nat} {names:Bool} (h:yw p names w) (hb:Below w.heap.size w w'):yw p names w':=zA hb h
def yu (_:Nat) (_:Bool) (_:World):Prop:=True
theorem yu.below {p:Nat} {names:Bool} (_:yu p names w) (_:Below w.heap.size w w'):yu p names w':=trivial
theorem IQ:Cw ⟨#[]⟩:=by unfold Cw;exact Nat.zero_le _
theorem AZ.base {α:Type} {E size:Nat} {enc:α->List Value} {base base':Nat} {v:Value} {l:List α} (h:AZ E size enc w base v l) (hb:base'<=base):AZ E size enc w base' v l:=by
 refine ⟨h.1,?_⟩
 rcases h.2 with h0|⟨g,cap,cur,hv,hg0,h1⟩
 ·exact .inl h0
 ·exact .inr ⟨g,cap,cur,hv,Nat.le_trans hb hg0,h1⟩
def Ca (W:World) (b:Nat) (t:Aa) (As:zo) (cs:Nat) (Am:zo) (cm:Nat):Prop:=W.heap[b]? = some (.cells #[.int .i64 t.kind,.string t.name,.int .i64 t.low,.int .i64 t.high,.int .i64 t.max,.slice As t.AX.length cs,.slice Am t.AA.length cm,.int .i64 t.key,.int .i64 t.elem,.bool t.open_] 87 (0,0))
variable {b cm cs:Nat} {t:Aa} {W:World} {Am As:zo}
theorem Ca.cell (h:Ca W b t As cs Am cm) (j:Nat):W.cell? ⟨b,j,none⟩=(#[.int .i64 t.kind,.string t.name,.int .i64 t.low,.int .i64 t.high,.int .i64 t.max,.slice As t.AX.length cs,.slice Am t.AA.length cm,.int .i64 t.key,.int .i64 t.elem,.bool t.open_]:Array Value)[j]? := AAC _ _ _ _ _ _ h
theorem Ca.blt (h:Ca W b t As cs Am cm):b<W.heap.size:=(zg.1 h).1
theorem Ca.below (h:Ca W b t As cs Am cm) (hb:Below W.heap.size W w'):Ca w' b t As cs Am cm:=(hb.block b h.blt).trans h
theorem Ca.map {m:Nat} {K:List ByteArray} (h:Ca W b t As cs Am cm) (hs:Ho kS W m K) (hg:W.grownBy w' (some m)):Ca w' b t As cs Am cm :=
 (yA hg h.blt fun k hk e=>by
  injection hk with hk
  subst hk;subst e;obtain ⟨l,h1,_⟩:=hs;unfold MapAt at h1;rw[show W.heap[b]? = _ from h] at h1
  cases h1).trans h
def aV (xs:List Value) (o:Nat):List Value->List Value
 | []=>xs
 | v::vs=>aV (xs.set o v) (o+1) vs
theorem Um:∀ (vs xs:List Value) (o j:Nat),o+vs.length<=xs.length->(aV xs o vs)[j]? = if o<=j/\j<o+vs.length then vs[j - o]? else xs[j]?
 | [],xs,o,j,_=>by
  rw[aV,Pd (by simp)]
 | v::vs,xs,o,j,h=>by
  rw[AAI] at h ⊢;rw[aV,Um vs _ _ _ (by simp;omega)]
  by_cases h1:o=j
  ·subst h1
   rw[Pd (by omega),AAB (by omega),List.getElem?_set_self (by omega)]
   simp
  ·by_cases h2:o+1<=j/\j<o+1+vs.length
   ·rw[AAB h2,AAB (by omega),show j - o=(j - (o+1))+1 by omega,List.getElem?_cons_succ]
   ·rw[Pd h2,Pd (by omega),List.getElem?_set_ne h1]
theorem Fq {k:Nat} (hk:0<k):∀ (css:List (List Value)) (j:Nat),(∀cs∈css,cs.length=k)->css.flatten[j]? = (css[j / k]?).bind (·[j % k]?)
 | [],j,_=>by simp
 | c::r,j,h=>by
  have hc:=h c ABT;rw[List.flatten_cons]
  by_cases hlt:j<k
  ·rw[ABo (by omega),Nat.div_eq_of_lt hlt,Nat.mod_eq_of_lt hlt];simp
  ·rw[ABm (by omega),hc,Fq hk r _ (fun cs hm=>h cs (ABZ _ hm))]
   have e1:j / k=(j - k) / k+1:=by rw[<-Nat.sub_add_cancel (Nat.le_of_not_lt hlt),Nat.add_div_right _ hk,Nat.sub_add_cancel (Nat.le_of_not_lt hlt)]
   have e2:j % k=(j - k) % k:=by rw[Nat.mod_eq_sub_mod (Nat.le_of_not_lt hlt)]
   rw[e1,e2,List.getElem?_cons_succ]
theorem MH {k:Nat} (hk:0<k) (css:List (List Value)) (i:Nat) (cs:List Value) (h:∀cs∈css,cs.length=k) (hc:cs.length=k) (hi:i<css.length):aV css.flatten (i * k) cs=(css.set i cs).flatten:=by
 have h':∀ds∈css.set i cs,ds.length=k:=fun ds hd=>by
  rcases List.mem_or_eq_of_mem_set hd with e|e
  ·exact h ds e
  ·rw[e];exact hc
 have hfit:i * k+cs.length<=css.flatten.length:=by
  rw[Cy css h,hc,<-Nat.succ_mul];exact Nat.mul_le_mul_right k hi
 apply List.ext_getElem?
 intro j
 rw[Um _ _ _ _ hfit,Fq hk _ _ h',Fq hk _ _ h,hc]
 by_cases e:j / k=i
 ·have h1:i * k<=j:=by rw[<-e];exact Nat.div_mul_le_self j k
  have h2:j<i * k+k:=by
   have:=Nat.lt_div_mul_add (a:=j) hk;rw[e] at this;exact this
  have h3:j - i * k=j % k:=by
   have:=Nat.div_add_mod j k;rw[e,Nat.mul_comm] at this;omega
  rw[AAB ⟨h1,h2⟩,e,List.getElem?_set_self hi,h3];rfl
 ·rw[Pd,List.getElem?_set_ne (fun h=>e h.symm)]
  rintro ⟨h1,h2⟩;exact e (Nat.div_eq_of_lt_le h1 (by rw[Nat.succ_mul];exact h2))
theorem FM {base E size n g cap:Nat}:∀ (vs xs:List Value) (o:Nat) (w:World),w.ownsRow base E size (.slice (some ⟨g,0,none⟩) n cap) n xs->(w.setCells g o vs).ownsRow base E size (.slice (some ⟨g,0,none⟩) n cap) n (aV xs o vs)
 | [],_,_,_,h=>h
 | v::vs,xs,o,w,h=>FM vs (xs.set o v) (o+1) (w.setCell ⟨g,o,none⟩ v) (World.ownsRow.stored h o v).1
theorem yC {B:Nat} {w:World} (g:Nat) (hg:B<=g):∀ (vs:List Value) (o:Nat) (w':World),Below B w w'->Below B w (w'.setCells g o vs)
 | [],_,_,h=>h
 | v::vs,o,_,h=>yC g hg vs (o+1) _ (h.setCell hg v)
theorem size_setCells (g:Nat):∀ (vs:List Value) (o:Nat) (w:World),(w.setCells g o vs).heap.size=w.heap.size
 | [],_,_=>rfl
 | v::vs,o,w=>by rw[World.setCells,size_setCells g vs];simp
theorem zN {g q:Nat} (hq:q≠g):∀ (vs:List Value) (o:Nat) (w:World),(w.setCells g o vs).heap[q]? = w.heap[q]?
 | [],_,_=>rfl
 | v::vs,o,w=>by rw[World.setCells,zN hq vs,AAE w ⟨g,o,none⟩ q v hq]
variable {g:Nat}
theorem Off.setCells {S:Nat->Prop} {P:World->Prop} (h:Off S w P) (hS:S g) (o:Nat) (vs:List Value):Off S (w.setCells g o vs) P :=
 h.step (by rw[size_setCells];exact AAF _) fun q hq _=>zN (fun (e:q=g)=>hq (e▸hS)) vs o w
def BI {α:Type} (E k:Nat) (at_:World->α->List Value->Prop) (wr:World) (base H3 H:Nat) (A:zo) (c:Nat) (l:List α) (i:Nat):Prop :=
 ∃css,WC E k wr base (.slice A l.length c) css/\css.length=l.length/\(∀cs∈css,cs.length=k)/\(∀g,(Value.slice A l.length c).ownBlock=some g->g<H3) /\
  ∀m x cs,l[m]? = some x->css[m]? = some cs->(m<i->Off (· < H3) wr fun u=>at_ u x cs)/\(i<=m->Off (H <= ·) wr fun u=>at_ u x cs)
section
variable {α:Type} {E k:Nat} {at_:World->α->List Value->Prop} {wr:World} {base H3 H:Nat} {A:zo} {c:Nat} {l:List α} {i:Nat}
variable {g:Nat}
theorem BI.lt (h:BI E k at_ wr base H3 H A c l i) (hg:(Value.slice A l.length c).ownBlock=some g):base<=g/\g<wr.heap.size/\g<H3:=by
 obtain ⟨css,ho,_,_,hb,_⟩:=h;exact ⟨(World.ownsRow.lt ho g hg).1,(World.ownsRow.lt ho g hg).2,hb g hg⟩
theorem BI.below (h:BI E k at_ wr base H3 H A c l i) {w':World} (hb:Below wr.heap.size wr w'):BI E k at_ w' base H3 H A c l i:=by
 obtain ⟨css,h1,h2,h3,h4,h5⟩:=h;exact ⟨css,h1.below hb,h2,h3,h4,fun m x cs hx hc=>⟨fun hm=>((h5 m x cs hx hc).1 hm).low hb,fun hm=>((h5 m x cs hx hc).2 hm).low hb⟩⟩
theorem BI.other (h:BI E k at_ wr base H3 H A c l i) {w':World} (hs:wr.heap.size<=w'.heap.size) (hk:∀q,q≠g->q<wr.heap.size->w'.heap[q]? = wr.heap[q]?) (h1:g<H3) (h2:H<=g) (hne:(Value.slice A l.length c).ownBlock≠some g):BI E k at_ w' base H3 H A c l i:=by
 obtain ⟨css,g1,g2,g3,g4,g5⟩:=h;refine ⟨css,g1.keep (fun q _ hq hv=>hk q (fun e=>hne (e▸hv)) hq),g2,g3,g4,fun m x cs hx hc=>⟨fun hm=>?_,fun hm=>?_⟩⟩
 ·exact ((g5 m x cs hx hc).1 hm).step hs fun q hq hl=>hk q (fun e=>hq (e▸h1)) hl
 ·exact ((g5 m x cs hx hc).2 hm).step hs fun q hq hl=>hk q (fun e=>hq (e▸h2)) hl
theorem BI.Gd (h:BI E k at_ wr base H3 H A c l i) (o:Nat) (vs:List Value) (h1:g<H3) (h2:H<=g) (hne:(Value.slice A l.length c).ownBlock≠some g):BI E k at_ (wr.setCells g o vs) base H3 H A c l i :=
 h.other (by rw[size_setCells];exact AAF _) (fun q hq _=>zN hq vs o wr) h1 h2 hne
theorem BI.bD (h:BI E k at_ wr base H3 H A c l i) (o:Nat) (v:Value) (h1:g<H3) (h2:H<=g) (hne:(Value.slice A l.length c).ownBlock≠some g):BI E k at_ (wr.setCell ⟨g,o,none⟩ v) base H3 H A c l i :=
 h.Gd o [v] h1 h2 hne
theorem BI.next (h:BI E k at_ wr base H3 H A c l i) (hi:i<l.length):∃g cs,A=some ⟨g,0,none⟩/\base<=g/\g<H3/\cs.length=k/\(Off (H <= ·) wr fun u=>at_ u l[i] cs)/\wr.rangeAt g (i * k) cs/\wr.there g (i * k) k:=by
 obtain ⟨css,h1,h2,h3,h4,h5⟩:=h;have hn:css≠[]:=fun e=>by rw[e] at h2;simp at h2;omega
 have hic:i<css.length:=by omega
 obtain ⟨A',c',e,_,_,hr⟩:=AZ.reads h1;obtain ⟨g,hA,hg,hrange⟩:=hr hn;have wM:A=A':=by injection e
 subst wM;subst hA;have hcl:=h3 _ (AAL hic);have hrg:wr.rangeAt g (i * k) css[i]:=fun j u hj=>by
  have hj':j<k:=by rw[<-hcl];exact (AAv.1 hj).1
  rw[C9] at hrange;have:=hrange (i * k+j) u (by
   rw[Fq (by omega) css _ h3,Nat.mul_comm i k,Nat.mul_add_div (by omega),Nat.mul_add_mod,Nat.div_eq_of_lt hj',Nat.mod_eq_of_lt hj',Nat.add_zero,zl hic]
   exact hj)
  rwa [Nat.zero_add] at this
 refine ⟨g,css[i],rfl,hg,h4 g rfl,hcl,(h5 i _ _ (zl hi) (zl hic)).2 (AAF _),hrg,fun j hj=>⟨?_,?_⟩⟩
 ·have:=hrg j _ (zl (by rw[hcl];exact hj))
  rw[this];rfl
 ·have hln:css.length=l.length:=h2
  have h1':wr.ownsRow base E k (.slice (some ⟨g,0,none⟩) l.length c) l.length (css.flatMap fun cs=>cs):=by rw[<-hln] at h1 ⊢;exact h1
  exact World.ownsRow.frozenAt h1' (i * k+j)
theorem BI.there (h:BI E k at_ wr base H3 H A c l i) (hi:i<l.length) (hA:A=some ⟨g,0,none⟩):wr.there g (i * k) k:=by
 obtain ⟨g',cs,e,_,_,_,_,_,ht⟩:=h.next hi;rw[hA] at e
 injection e with e
 injection e with e
 subst e;exact ht
theorem BI.write (h:BI E k at_ wr base H3 H A c l i) (hi:i<l.length) (hA:A=some ⟨g,0,none⟩) (hH:H<=base) (hk:0<k) {x:α} {cs:List Value} (hc:cs.length=k) (hx:Off (· < H3) wr fun u=>at_ u x cs):BI E k at_ (wr.setCells g (i * k) cs) base H3 H A c (l.set i x) (i+1):=by
 subst hA;have hlt:=h.lt (g:=g) rfl;obtain ⟨css,h1,h2,h3,h4,h5⟩:=h;have hic:i<css.length:=by omega
 refine ⟨css.set i cs,?_,by simp[h2],fun ds hd=>?_,by rw[List.length_set];exact h4,fun m y ds hy hd=>?_⟩
 ·unfold WC AZ at h1 ⊢
  rw[C9] at h1 ⊢;rw[List.length_set,List.length_set,<-MH hk css i cs h3 hc hic];rw[h2] at h1 ⊢;exact FM cs css.flatten (i * k) wr h1
 ·rcases List.mem_or_eq_of_mem_set hd with e|e
  ·exact h3 ds e
  ·rw[e];exact hc
 ·by_cases e:m=i
  ·subst e
   rw[List.getElem?_set_self hi] at hy;rw[List.getElem?_set_self hic] at hd;obtain rfl:=ABW hy;obtain rfl:=ABW hd;exact ⟨fun _=>hx.setCells hlt.2.2 _ _,fun hm=>absurd hm (by omega)⟩
  ·rw[List.getElem?_set_ne (fun e2=>e e2.symm)] at hy hd
   have:=h5 m y ds hy hd;exact ⟨fun hm=>(this.1 (by omega)).setCells hlt.2.2 _ _,fun hm=>(this.2 (by omega)).setCells (Nat.le_trans hH hlt.1) _ _⟩
theorem BI.O (h:BI E k at_ wr base H3 H A c l i) (hi:l.length<=i) (hH:H<=H3) (hb:H<=base) {bytes:Nat} (hl:EF bytes l.length):Off (· < H) wr fun u=>AY k bytes (at_ u) u A l:=by
 obtain ⟨css,h1,h2,h3,h4,h5⟩:=h
 intro u hu
 refine ⟨hl,fun hn=>?_⟩
 have hnc:css≠[]:=fun e=>by rw[e] at h2;simp at h2;exact hn (AAn h2.symm)
 obtain ⟨A',c',e,_,_,hr⟩:=AZ.reads h1;obtain ⟨g,hA,hg,hrange⟩:=hr hnc;have wM:A=A':=by injection e
 subst wM;refine ⟨g,0,hA,fun m x hx=>?_⟩
 have hml:m<l.length:=(AAv.1 hx).1;have hmc:m<css.length:=by omega
 have hcl:=h3 _ (AAL hmc);have ADM:g<wr.heap.size:=(World.ownsRow.lt h1 g (by rw[hA];rfl)).2
 refine ⟨css[m],((h5 m x _ hx (zl hmc)).1 (by omega)).mono (fun q _ hq=>by omega) u hu,fun j v hj=>?_⟩
 have hj':j<k:=by rw[<-hcl];exact (AAv.1 hj).1
 rw[C9] at hrange;have:=hrange (m * k+j) v (by
  rw[Fq (by omega) css _ h3,Nat.mul_comm m k,Nat.mul_add_div (by omega),Nat.mul_add_mod,Nat.div_eq_of_lt hj',Nat.mod_eq_of_lt hj',Nat.add_zero,zl hmc]
  exact hj)
 rw[<-Nat.add_assoc] at this;rw[World.cell?_of_block (w:=wr) (w':=u) (a:=⟨g,0+m * k+j,none⟩) (hu g (by omega) ADM)]
 exact this
theorem BI.U9 {w w1:World} {css:List (List Value)} (ho:WC E k w1 base (.slice A l.length c) css) (hl:css.length=l.length) (hk:∀cs∈css,cs.length=k) (h3:∀g,(Value.slice A l.length c).ownBlock=some g->g<H3) (hat:∀ (m:Nat) x cs,l[m]? = some x->css[m]? = some cs->∀u,Low w u->at_ u x cs) (hb:Below w.heap.size w w1):BI E k at_ w1 base H3 w.heap.size A c l 0 :=
 ⟨css,ho,hl,hk,h3,fun m x cs hx hc=>⟨fun h=>absurd h (by omega),fun _=>Off.old (hat m x cs hx hc) hb⟩⟩
theorem BI.all (h:BI E k at_ wr base H3 H A c l i) (ha:∀u u' x cs,at_ u x cs->at_ u' x cs) (j:Nat):BI E k at_ wr base H3 H A c l j:=by
 obtain ⟨css,h1,h2,h3,h4,h5⟩:=h;refine ⟨css,h1,h2,h3,h4,fun m x cs hx hc=>?_⟩
 have:∀u,at_ u x cs:=fun u=>by
  by_cases hm:m<i
  ·exact ha _ _ _ _ ((h5 m x cs hx hc).1 hm).O
  ·exact ha _ _ _ _ ((h5 m x cs hx hc).2 (by omega)).O
 exact ⟨fun _ u _=>this u,fun _ u _=>this u⟩
end
abbrev DJ:Obj := .cells #[.int .i64 0,.bool false,.int .i64 0,.string ⟨#[]⟩,.int .i64 0,.slice none 0 0,.slice none 0 0,.slice none 0 0] 28
theorem FH {o:Obj} (h:W.heap[b]? = some o) (o2:Obj):(W.alloc o2).heap[b]? = some o :=
 ((zD W o2).block b (zg.1 h).1).trans h
variable {x y:Val}
theorem Val.aT (h:y∈x.keys):SizeOf.sizeOf y<SizeOf.sizeOf x:=by
 obtain ⟨k,b,i,s,d,ks,is,r⟩:=x;have:=List.sizeOf_lt_of_mem h;simp only[Val.keys] at this;simp only[Val.mk.sizeOf_spec]
 omega
theorem Val.XF (h:y∈x.items):SizeOf.sizeOf y<SizeOf.sizeOf x:=by
 obtain ⟨k,b,i,s,d,ks,is,r⟩:=x;have:=List.sizeOf_lt_of_mem h;simp only[Val.items] at this;simp only[Val.mk.sizeOf_spec]
 omega
theorem Val.at_one {cs:List Value} (h:x.At w cs):cs.length=8/\∀u∈cs,u.oneCell'=true:=by
 obtain ⟨A1,c1,A2,c2,A3,c3,rfl,_⟩:=Val.Hu.1 h;refine ⟨rfl,?_⟩
 intro u hu
 simp only[ABP,List.mem_nil_iff,or_false] at hu
 rcases hu with rfl|rfl|rfl|rfl|rfl|rfl|rfl|rfl <;> rfl
theorem Af.at_one {x:Af} {cs:List Value} (h:x.At cs):cs.length=2/\∀u∈cs,u.oneCell'=true:=by
 obtain ⟨_,rfl⟩:=h;refine ⟨rfl,?_⟩
 intro u hu
 simp only[ABP,List.mem_nil_iff,or_false] at hu
 rcases hu with rfl|rfl <;> rfl
theorem lg {l:List Val} {A:zo} {c:Nat} {w0:World} (hl:Cz w0 A l) (hb0:Below w0.heap.size w0 w):
  Calls prog 145 #[.slice A l.length c] w fun e w'=>∃B d,e = .returned (.slice B l.length d)/\Below w.heap.size w w'/\(∀g,(Value.slice B l.length d).ownBlock=some g->w.heap.size<=g/\g<w'.heap.size) /\
   ∀H3,w'.heap.size<=H3->BI 28 8 (fun u x cs=>Val.At u x cs) w' w.heap.size H3 w0.heap.size B d l 0:=by
 obtain ⟨css,h1,h2,h3,h4⟩:=AY.cells (fun x cs h=>(Val.at_one h).1) hl
 have hone:∀cs∈css,∀u∈cs,u.oneCell'=true:=fun cs hc=>by
  obtain ⟨i,hi,rfl⟩:=ABi hc;exact (Val.at_one (h2 i l[i] _ (zl (by omega)) (zl hi))).2
 have:=QT css h3 hone (by rw[h1];exact hl.1) A c w (fun hn=>by
  obtain ⟨b,o,e,hr⟩:=h4 (fun e=>hn (AAn (by rw[h1,e];rfl)))
  exact ⟨b,o,e,BJ hb0 hr⟩)
 rw[h1] at this;refine this.mono ?_;rintro e w' ⟨v,rfl,ho,hb⟩;obtain ⟨B,d,rfl,_⟩:=AZ.reads ho;rw[h1] at ho ⊢;refine ⟨B,d,rfl,hb,fun g hg=>World.ownsRow.lt ho g hg,fun H3 hH3=>?_⟩
 exact BI.U9 (w:=w0) ho h1 h3 (fun g hg=>ABa (World.ownsRow.lt ho g hg).2 hH3) (fun m x cs hx hc u hu=>Val.Lb hu _ _ (h2 m x cs hx hc)) (zB hb0 hb)
theorem wW {l:List Af} {A:zo} {c:Nat} {w0:World} (hl:FB w0 A l) (hb0:Below w0.heap.size w0 w):
  Calls prog 144 #[.slice A l.length c] w fun e w'=>∃B d,e = .returned (.slice B l.length d)/\Below w.heap.size w w'/\(∀g,(Value.slice B l.length d).ownBlock=some g->w.heap.size<=g/\g<w'.heap.size) /\
   ∀H3,w'.heap.size<=H3->BI 97 2 (fun _ x cs=>Af.At x cs) w' w.heap.size H3 w0.heap.size B d l l.length:=by
 obtain ⟨css,h1,h2,h3,h4⟩:=AY.cells (fun x cs h=>(Af.at_one h).1) hl
 have hone:∀cs∈css,∀u∈cs,u.oneCell'=true:=fun cs hc=>by
  obtain ⟨i,hi,rfl⟩:=ABi hc;exact (Af.at_one (h2 i l[i] _ (zl (by omega)) (zl hi))).2
 have:=Ti css h3 hone (by rw[h1];exact hl.1) A c w (fun hn=>by
  obtain ⟨b,o,e,hr⟩:=h4 (fun e=>hn (AAn (by rw[h1,e];rfl)))
  exact ⟨b,o,e,BJ hb0 hr⟩)
 rw[h1] at this;refine this.mono ?_;rintro e w' ⟨v,rfl,ho,hb⟩;obtain ⟨B,d,rfl,_⟩:=AZ.reads ho;rw[h1] at ho ⊢;refine ⟨B,d,rfl,hb,fun g hg=>World.ownsRow.lt ho g hg,fun H3 hH3=>?_⟩
 exact BI.all (BI.U9 (w:=w0) ho h1 h3 (fun g hg=>ABa (World.ownsRow.lt ho g hg).2 hH3) (fun m x cs hx hc u hu=>h2 m x cs hx hc) (zB hb0 hb)) (fun _ _ _ _ h=>h) _
structure Tx (x:Val) (w:World) (H3:Nat) (A1:zo) (c1:Nat) (A2:zo) (c2:Nat) (A3:zo) (c3:Nat) (i j:Nat) (wr:World):Prop where
 box:wr.heap[w.heap.size]? = some (x.box A1 c1 A2 c2 A3 c3)
 res:wr.heap[w.heap.size+1]? = some DJ
 Cm:Below w.heap.size w wr
 hi:H3<=wr.heap.size
 lo:w.heap.size+2<=H3
 keys:BI 28 8 (fun u x cs=>Val.At u x cs) wr (w.heap.size+2) H3 w.heap.size A1 c1 x.keys i
 items:BI 28 8 (fun u x cs=>Val.At u x cs) wr (w.heap.size+2) H3 w.heap.size A2 c2 x.items j
 rest:BI 97 2 (fun _ x cs=>Af.At x cs) wr (w.heap.size+2) H3 w.heap.size A3 c3 x.rest x.rest.length
 apart:∀g,(Value.slice A1 x.keys.length c1).ownBlock=some g->(Value.slice A2 x.items.length c2).ownBlock≠some g/\(Value.slice A3 x.rest.length c3).ownBlock≠some g
 Tm:∀g,(Value.slice A2 x.items.length c2).ownBlock=some g->(Value.slice A3 x.rest.length c3).ownBlock≠some g
variable {H3 c1 c2 c3 i j:Nat} {wr:World} {A1 A2 A3:zo}
theorem Tx.below (h:Tx x w H3 A1 c1 A2 c2 A3 c3 i j wr) (hb:Below wr.heap.size wr w'):Tx x w H3 A1 c1 A2 c2 A3 c3 i j w' :=
 ⟨(hb.block _ (zg.1 h.box).1).trans h.box,(hb.block _ (zg.1 h.res).1).trans h.res,zB h.Cm hb,Nat.le_trans h.hi hb.size,h.lo,h.keys.below hb,h.items.below hb,h.rest.below hb,h.apart,h.Tm⟩
def Wh (x:Val) (w:World) (e:Ending) (w':World):Prop :=
 ∃A1 c1 A2 c2 A3 c3,e = .returned (x.v A1 c1 A2 c2 A3 c3)/\(Off (· < w.heap.size) w' fun u=>Ar u x A1 A2 A3)/\Below w.heap.size w w'
theorem Mh (h:W.heap[b]? = some (x.box A1 c1 A2 c2 A3 c3)):
  ((W.cell? ⟨b,5,none⟩=some (.slice A1 x.keys.length c1)/\W.cell? ⟨b,6,none⟩=some (.slice A2 x.items.length c2)/\W.cell? ⟨b,7,none⟩=some (.slice A3 x.rest.length c3))/\(W.frozen? ⟨b,5,none⟩=false/\W.frozen? ⟨b,6,none⟩=false/\W.frozen? ⟨b,7,none⟩=false))/\Hid (W.heap[b]? = some (x.box A1 c1 A2 c2 A3 c3)) :=
 ⟨⟨⟨by rw[AAC _ _ _ _ _ _ h];rfl,by rw[AAC _ _ _ _ _ _ h];rfl,by rw[AAC _ _ _ _ _ _ h];rfl⟩,AAG _ _ _ _ _ h,AAG _ _ _ _ _ h,AAG _ _ _ _ _ h⟩,h⟩
theorem Tx.key (h:Tx x w H3 A1 c1 A2 c2 A3 c3 i j wr) (hi:i<x.keys.length) (hA:A1=some ⟨g,0,none⟩) {F1:zo} {f1:Nat} {F2:zo} {f2:Nat} {F3:zo} {f3:Nat} {B:Nat} (hB:H3<=B) (ho:Off (· < B) wr fun u=>Ar u x.keys[i] F1 F2 F3):
  Tx x w H3 A1 c1 A2 c2 A3 c3 (i+1) j (wr.setCells g (i * 8) ((x.keys[i]).cs F1 f1 F2 f2 F3 f3)):=by
 have hlt:=h.keys.lt (g:=g) (by rw[hA];rfl)
 have hown:(Value.slice A1 x.keys.length c1).ownBlock=some g:=by rw[hA];rfl
 have hlo:=h.lo;refine ⟨?_,?_,yC g (by omega) _ _ _ h.Cm,by rw[size_setCells];exact h.hi,h.lo,?_,?_,?_,h.apart,h.Tm⟩
 ·rw[zN (by omega)];exact h.box
 ·rw[zN (by omega)];exact h.res
 ·have:=h.keys.write hi hA (Nat.le_add_right _ _) (by omega) (x:=x.keys[i]) (cs:=(x.keys[i]).cs F1 f1 F2 f2 F3 f3) rfl ((ho.mono fun q _ hq=>by omega).imp fun u hu=>Val.Hu.2 ⟨F1,f1,F2,f2,F3,f3,rfl,hu⟩)
  rwa [List.set_getElem_self] at this
 ·exact h.items.Gd _ _ hlt.2.2 (by omega) (h.apart g hown).1
 ·exact h.rest.Gd _ _ hlt.2.2 (by omega) (h.apart g hown).2
theorem Tx.item (h:Tx x w H3 A1 c1 A2 c2 A3 c3 i j wr) (hi:j<x.items.length) (hA:A2=some ⟨g,0,none⟩) {F1:zo} {f1:Nat} {F2:zo} {f2:Nat} {F3:zo} {f3:Nat} {B:Nat} (hB:H3<=B) (ho:Off (· < B) wr fun u=>Ar u x.items[j] F1 F2 F3):
  Tx x w H3 A1 c1 A2 c2 A3 c3 i (j+1) (wr.setCells g (j * 8) ((x.items[j]).cs F1 f1 F2 f2 F3 f3)):=by
 have hlt:=h.items.lt (g:=g) (by rw[hA];rfl)
 have hown:(Value.slice A2 x.items.length c2).ownBlock=some g:=by rw[hA];rfl
 have hlo:=h.lo;refine ⟨?_,?_,yC g (by omega) _ _ _ h.Cm,by rw[size_setCells];exact h.hi,h.lo,?_,?_,?_,h.apart,h.Tm⟩
 ·rw[zN (by omega)];exact h.box
 ·rw[zN (by omega)];exact h.res
 ·exact h.keys.Gd _ _ hlt.2.2 (by omega) (fun e=>(h.apart g e).1 hown)
 ·have:=h.items.write hi hA (Nat.le_add_right _ _) (by omega) (x:=x.items[j]) (cs:=(x.items[j]).cs F1 f1 F2 f2 F3 f3) rfl ((ho.mono fun q _ hq=>by omega).imp fun u hu=>Val.Hu.2 ⟨F1,f1,F2,f2,F3,f3,rfl,hu⟩)
  rwa [List.set_getElem_self] at this
 ·exact h.rest.Gd _ _ hlt.2.2 (by omega) (h.Tm g hown)
theorem Ji {o:Nat} {E1:zo} {e1:Nat} {E2:zo} {e2:Nat} {E3:zo} {e3:Nat} (h:w.rangeAt b o (y.cs E1 e1 E2 e2 E3 e3)):
  w.cell? ⟨b,o,none⟩=some (.int .i64 y.kind)/\w.cell? ⟨b,o+1,none⟩=some (.bool y.bool)/\w.cell? ⟨b,o+2,none⟩=some (.int .i64 y.int)/\w.cell? ⟨b,o+3,none⟩=some (.string y.str)/\w.cell? ⟨b,o+4,none⟩=some (.int .i64 y.id)/\w.cell? ⟨b,o+5,none⟩=some (.slice E1 y.keys.length e1)/\w.cell? ⟨b,o+6,none⟩=some (.slice E2 y.items.length e2)/\w.cell? ⟨b,o+7,none⟩=some (.slice E3 y.rest.length e3) :=
 ⟨h 0 _ rfl,h 1 _ rfl,h 2 _ rfl,h 3 _ rfl,h 4 _ rfl,h 5 _ rfl,h 6 _ rfl,h 7 _ rfl⟩
theorem val_one (y:Val) (E1:zo) (e1:Nat) (E2:zo) (e2:Nat) (E3:zo) (e3:Nat):((y.cs E1 e1 E2 e2 E3 e3).toArray).all (·.oneCell')=true :=
 all_oneCell_toArray fun u hu=>by
  simp only[ABP,List.mem_nil_iff,or_false] at hu
  rcases hu with rfl|rfl|rfl|rfl|rfl|rfl|rfl|rfl <;> rfl
theorem Cb (h:w.heap[b]? = some DJ):w.there b 0 8:=fun j hj=>by
 rw[Nat.zero_add];refine ⟨?_,AAG _ _ _ _ _ h⟩;rw[AAC _ _ _ _ _ _ h]
 match j,hj with
 | 0,_=>rfl
 | 1,_=>rfl
 | 2,_=>rfl
 | 3,_=>rfl
 | 4,_=>rfl
 | 5,_=>rfl
 | 6,_=>rfl
 | 7,_=>rfl
theorem zW:(prog.info? 28).map (·.size)=some 8:=by kernel_rfl
