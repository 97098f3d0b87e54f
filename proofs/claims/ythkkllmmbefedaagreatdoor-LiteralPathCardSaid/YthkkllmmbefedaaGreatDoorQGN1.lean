/-
  Walks: the maker of values: value.
-/
import Derived.Test.YthkkllmmbefedaaGreatDoorQMK6
import Derived.Deep.CutBlock
namespace Go.Proofs.YthkkllmmbefedaaGreatDoor
set_option maxHeartbeats 16000000
set_option maxRecDepth 100000
variable {t:Int} {s:List Ae}
theorem pI {v:Val} (h0:0<=t) (h1:t<(s.length:Int)) (hk:v.kind=(AB s t).kind) (hp:zJ v=true) (hb:AY (fun t y=>BH s false t y) false (AB s t) v=true):BH s false t v=true:=by
 refine Q5 ⟨SizeOf.sizeOf v+1,?_⟩;rw[AU,Pd (by omega),Pd (by rw[hp];simp[hk])]
 refine L9 (fun t y hy hf=>?_) hb
 have:=Pv v hy;exact XD (n:=SizeOf.sizeOf y) hf _ (by omega)
theorem Eg {v:Val} (h0:0<=t) (h1:t<(s.length:Int)) (hk:v.kind=(AB s t).kind) (hp:zJ v=true) (hb:AY (fun t y=>BH s false t y) false (AB s t) v=true) (hs:v.str.size<=1000) (hr:∀r∈v.rest,r.data.size<=3) (hks:∀y∈v.keys,GD y) (his:∀y∈v.items,GD y):BV s t v=true:=by
 refine K3.2 ⟨pI h0 h1 hk hp hb,?_⟩;obtain ⟨a,b,c,d,e,ks,is,rs⟩:=v;rw[GD];exact ⟨Nat.le_trans hs (by decide),fun r h=>Nat.le_trans (hr r h) (by decide),(EQ ks).2 hks,(EQ is).2 his⟩
theorem Iy:∀r∈([]:List Ak),r.data.size<=3:=fun _ h=>by cases h
theorem EB:∀y∈([]:List Val),GD y:=fun _ h=>by cases h
theorem fM {v:Val} (h:BV s t v=true):BH s false t v=true:=(K3.1 h).1
theorem fS {v:Val} (h:BV s t v=true):GD v:=(K3.1 h).2
structure MI (s:List Ae):Prop where
 v:zQ s=0
 n64:Bq s
 len:s.length<=5
 int:∀t,(AB s t).kind=2 -> -1000<=(AB s t).low/\(AB s t).low<=(AB s t).high/\(AB s t).high<=1000
 max:∀t,0<=(AB s t).max/\(AB s t).max<=1000
 ids:∀t,qE (AB s t)
 sym:∀t,(AB s t).kind=4->(AB s t).Aj≠[]
 syl:∀t,(AB s t).Aj.length<=100
 mem:∀t,(AB s t).kind=6->(AB s t).AA≠[]
 yc:∀t,(AB s t).AA.length<=100
 xE:∀t,((AB s t).AA.map (·.id)).Pairwise (· < ·)
 oZ:∀t,0<=t->t<(s.length:Int)->(AB s t).kind=5\/(AB s t).kind=6->∀m∈(AB s t).AA,(0<=m.type/\m.type<(s.length:Int))/\(7<=(AB s m.type).kind\/m.type<t)
 dfl:∀t,∀m∈(AB s t).AA,m.ED=true->BV s m.type m.dflt=true/\m.dflt.keys=[]/\m.dflt.items=[]/\m.dflt.rest=[]/\Db m.dflt.str
def KI (s:List Ae) (t:Int):Nat:=if 7<=(AB s t).kind then 0 else t.toNat+1
theorem aP (h:s.length<=5) (h1:t<(s.length:Int)):KI s t<=5:=by
 unfold KI;split <;> omega
variable {x:Ae}
theorem aS {r:Ak} (hu:Jk x r.id=false) (h:1<=r.id/\r.id<=14):Ca x [r]=true:=by
 unfold Jk at hu;rw[Bool.or_eq_false_iff] at hu;unfold Ca Ca Aw;simp only[Bool.and_true,AAJ,AAd,AA3];refine ⟨fun m hm e=>?_,by omega,by omega⟩
 have:=List.any_eq_false.1 hu.1 m hm;simp[e] at this
section
variable {s:List Ae} {t:Int}
theorem Wq {b:Bool} (h0:0<=t) (h1:t<(s.length:Int)) (hk:(AB s t).kind=1):BV s t (.mk 1 b 0 ⟨#[]⟩ 0 [] [] [])=true :=
 Eg h0 h1 hk.symm (by cases b <;> rfl) (by unfold AY;rw[hk];rfl) (show (0:Nat)<=1000 by omega) Iy EB EB
theorem bD {i:Int} (h0:0<=t) (h1:t<(s.length:Int)) (hk:(AB s t).kind=2) (hi:(AB s t).low<=i/\i<=(AB s t).high):BV s t (.mk 2 false i ⟨#[]⟩ 0 [] [] [])=true :=
 Eg h0 h1 hk.symm (by simp[zJ,BJ,Val.kind,Val.bool,Val.int,Val.str,Val.id,Val.keys,Val.items,Val.rest]) (by unfold AY;rw[AAG hk];simp[Val.int,hi]) (show (0:Nat)<=1000 by omega) Iy EB EB
theorem bB {b:ByteArray} (h0:0<=t) (h1:t<(s.length:Int)) (hk:(AB s t).kind=3) (hb:(b.size:Int)<=(AB s t).max) (hb3:b.size<=3):BV s t (.mk 3 false 0 b 0 [] [] [])=true :=
 Eg h0 h1 hk.symm (by simp[zJ,BJ,Val.kind,Val.bool,Val.int,Val.str,Val.id,Val.keys,Val.items,Val.rest]) (by unfold AY;rw[Pd (by omega),AAG hk];simp[Val.str,hb]) (Nat.le_trans hb3 (by decide)) Iy EB EB
theorem Wp {i:Int} (h0:0<=t) (h1:t<(s.length:Int)) (hk:(AB s t).kind=4) (hi:(∃y∈(AB s t).Aj,y.id=i)\/((AB s t).open_=true/\1<=i/\i<=14)):BV s t (.mk 4 false 0 ⟨#[]⟩ i [] [] [])=true :=
 Eg h0 h1 hk.symm (by simp[zJ,BJ,Val.kind,Val.bool,Val.int,Val.str,Val.id,Val.keys,Val.items,Val.rest]) (by
  unfold AY Aw;rw[Pd (by omega),Pd (by omega),AAG hk]
  rw[ABS]
  rcases hi with ⟨y,hy,e⟩|⟨e,g1,g2⟩
  ·exact .inl (ABO.2 ⟨y,hy,AAX e⟩)
  ·right
   rw[e]
   show (true && !false&&(decide (1<=i)&&decide (i<=1000)))=true
   rw[AAX g1,AAX (by omega)];rfl) (show (0:Nat)<=1000 by omega) Iy EB EB
variable {xs:List Val}
theorem VA (h0:0<=t) (h1:t<(s.length:Int)) (hk:(AB s t).kind=9) (hl:xs.length<=1) (hx:∀y∈xs,BV s (AB s t).elem y=true):BV s t (.mk 9 false 0 ⟨#[]⟩ 0 [] xs [])=true :=
 Eg h0 h1 hk.symm (by simp[zJ,BJ,Val.kind,Val.bool,Val.int,Val.str,Val.id,Val.keys,Val.items,Val.rest]) (by
  unfold AY;rw[Pd (by omega),Pd (by omega),Pd (by omega),Pd (by omega),Pd (by omega),Pd (by omega),Pd (by omega),AAG hk]
  rw[AAJ];exact ⟨AAX hl,AA3.2 fun y hy=>fM (hx y hy)⟩) (show (0:Nat)<=1000 by omega) Iy EB (fun y hy=>fS (hx y hy))
theorem Q7 (h0:0<=t) (h1:t<(s.length:Int)) (hk:(AB s t).kind=7) (hl:(xs.length:Int)<=(AB s t).max) (hx:∀y∈xs,BV s (AB s t).elem y=true):BV s t (.mk 7 false 0 ⟨#[]⟩ 0 [] xs [])=true :=
 Eg h0 h1 hk.symm (by simp[zJ,BJ,Val.kind,Val.bool,Val.int,Val.str,Val.id,Val.keys,Val.items,Val.rest]) (by
  unfold AY;rw[Pd (by omega),Pd (by omega),Pd (by omega),Pd (by omega),Pd (by omega),AAG hk]
  rw[AAJ];exact ⟨AAX hl,AA3.2 fun y hy=>fM (hx y hy)⟩) (show (0:Nat)<=1000 by omega) Iy EB (fun y hy=>fS (hx y hy))
theorem bC {ks:List Val} (h0:0<=t) (h1:t<(s.length:Int)) (hk:(AB s t).kind=8) (hl:(ks.length:Int)<=(AB s t).max) (he:xs.length=ks.length) (hks:∀y∈ks,BV s (AB s t).key y=true) (ha:F8 ks=true) (hx:∀y∈xs,BV s (AB s t).elem y=true):BV s t (.mk 8 false 0 ⟨#[]⟩ 0 ks xs [])=true :=
 Eg h0 h1 hk.symm (by simp[zJ,BJ,Val.kind,Val.bool,Val.int,Val.str,Val.id,Val.keys,Val.items,Val.rest]) (by
  unfold AY;rw[Pd (by omega),Pd (by omega),Pd (by omega),Pd (by omega),Pd (by omega),Pd (by omega),AAG hk]
  simp only[AAJ];exact ⟨⟨⟨⟨AAX hl,AAX he⟩,AA3.2 fun y hy=>fM (hks y hy)⟩,ha⟩,AA3.2 fun y hy=>fM (hx y hy)⟩) (show (0:Nat)<=1000 by omega) Iy (fun y hy=>fS (hks y hy)) (fun y hy=>fS (hx y hy))
theorem oW {rs:List Ak} (h0:0<=t) (h1:t<(s.length:Int)) (hk:(AB s t).kind=5) (hl:xs.length=(AB s t).AA.length) (hr:Ca (AB s t) rs=true) (hr3:∀r∈rs,r.data.size<=3) (hx:∀i (h:i<(AB s t).AA.length) (h':i<xs.length),BV s ((AB s t).AA[i]).type xs[i]=true):BV s t (.mk 5 false 0 ⟨#[]⟩ 0 [] xs rs)=true :=
 Eg h0 h1 hk.symm (by simp[zJ,BJ,Val.kind,Val.bool,Val.int,Val.str,Val.id,Val.keys,Val.items,Val.rest]) (by
  unfold AY;rw[Pd (by omega),Pd (by omega),Pd (by omega),AAG hk]
  simp only[AAJ];refine ⟨⟨⟨AAX hl,rfl⟩,hr⟩,AA3.2 fun p hp=>?_⟩
  obtain ⟨i,hi,e⟩:=AAw hp;rw[List.length_zip] at hi;rw[List.getElem_zip] at e;subst e;exact fM (hx i (by omega) (show i<(Val.items (.mk 5 false 0 ⟨#[]⟩ 0 [] xs rs)).length by omega))) (show (0:Nat)<=1000 by omega) hr3 EB (fun y hy=>by
  obtain ⟨i,hi,e⟩:=AAw hy;subst e;have h2:i<xs.length:=hi;exact fS (hx i (by omega) h2))
theorem bE {l:List AZ} (h:(l.map (·.id)).Pairwise (· < ·)) {i:Nat} (hi:i<l.length):l.find? (fun m=>decide (m.id=(l[i]).id))=some l[i]:=by
 induction l generalizing i with
 | nil=>simp at hi
 | cons a r ih =>
  rw[AA4,List.pairwise_cons] at h
  cases i with
  | zero=>rw[List.find?_cons_of_pos (by simp)];rfl
  | succ i =>
   have hi':i<r.length:=by simpa using hi
   have hlt:=h.1 (r[i]).id (List.mem_map.2 ⟨_,AAK hi',rfl⟩);rw[List.find?_cons_of_neg (by simp;omega)]
   exact ih h.2 hi'
theorem ax {i:Nat} {y:Val} (ha:((AB s t).AA.map (·.id)).Pairwise (· < ·)) (h0:0<=t) (h1:t<(s.length:Int)) (hk:(AB s t).kind=6) (hi:i<(AB s t).AA.length) (hy:BV s ((AB s t).AA[i]).type y=true):BV s t (.mk 6 false 0 ⟨#[]⟩ ((AB s t).AA[i]).id [] [y] [])=true :=
 Eg h0 h1 hk.symm (by simp[zJ,BJ,Val.kind,Val.bool,Val.int,Val.str,Val.id,Val.keys,Val.items,Val.rest]) (by
  unfold AY;rw[Pd (by omega),Pd (by omega),Pd (by omega),Pd (by omega),AAG hk]
  show (match List.find? (fun m=>decide (m.id=((AB s t).AA[i]).id)) (AB s t).AA with
   | some m=>decide ([y].length=1)&&decide (([]:List Ak).length=0)&&([y].all fun y=>BH s false m.type y)
   | none=>_)=true
  rw[bE ha hi];simp[fM hy]) (show (0:Nat)<=1000 by omega) Iy EB (fun z hz=>by rw[List.mem_singleton.1 hz];exact fS hy)
theorem YK {n:Int} {d:ByteArray} (h0:0<=t) (h1:t<(s.length:Int)) (hk:(AB s t).kind=6) (ho:(AB s t).open_=true) (hn:1<=n/\n<=14) (hu:Jk (AB s t) n=false) (hd:d.size<=3):BV s t (.mk 6 false 0 ⟨#[]⟩ n [] [] [⟨n,d⟩])=true :=
 Eg h0 h1 hk.symm (by simp[zJ,BJ,Val.kind,Val.bool,Val.int,Val.str,Val.id,Val.keys,Val.items,Val.rest]) (by
  unfold AY Aw;rw[Pd (by omega),Pd (by omega),Pd (by omega),Pd (by omega),AAG hk]
  have hf:(AB s t).AA.find? (fun m=>decide (m.id=n))=none:=by
   unfold Jk at hu;rw[Bool.or_eq_false_iff] at hu;rw[List.find?_eq_none]
   intro m hm e
   exact List.any_eq_false.1 hu.1 m hm e
  show (match List.find? (fun m=>decide (m.id=n)) (AB s t).AA with
   | some m=>_
   | none=>(AB s t).open_ && !false&&(decide (1<=n)&&decide (n<=1000))&&decide (([]:List Val).length=0)&&decide ([(⟨n,d⟩:Ak)].length=1)&&([(⟨n,d⟩:Ak)].all fun r=>decide (r.id=n)))=true
  rw[hf,ho,AAX hn.1,AAX (show n<=1000 by omega)]
  simp) (show (0:Nat)<=1000 by omega) (fun r hr=>by rw[List.mem_singleton.1 hr];exact hd) EB EB
end
open Go.RowKit
variable {l:List Int} {C:UK} {p px q:Nat} {W:World} {Am As:zo}
theorem Cr.new (cs cm:Nat) (h:G5 C W l) (ht:KM C.w0 x As Am) (hq:W.heap.size=q) (hp:q+1=px) (hp2:px+1=p):
  Cr C W q px p x As cs Am cm (((W.alloc zO).alloc (x.box As cs Am cm)).alloc (Ht x.kind false 0 ⟨#[]⟩ 0 AR AR AR)) l false 0 ⟨#[]⟩ 0 AR AR AR [] [] []:=by
 have s1:(W.alloc zO).heap.size=px:=by simp;omega
 have s2:((W.alloc zO).alloc (x.box As cs Am cm)).heap.size=p:=by simp;omega
 have b1:=zD W zO;have b2:=zD (W.alloc zO) (x.box As cs Am cm);have b3:=zD ((W.alloc zO).alloc (x.box As cs Am cm)) (Ht x.kind false 0 ⟨#[]⟩ 0 AR AR AR);have r1:=h.below b1;have r2:=r1.below b2;have r3:=r2.below b3;have hv:=Gx.new ((W.alloc zO).alloc (x.box As cs Am cm)) x.kind;rw[s2] at hv;have hx:=AAC (W.alloc zO) (x.box As cs Am cm);rw[s1] at hx;have hz:=AAC W zO
 rw[hq] at hz;exact ⟨r3,hv,((h.Cn b1).trans (r1.Cn b2)).trans (r2.Cn b3),⟨by omega,by omega,by omega⟩,h.lt,ht,BR hx b3,BR (BR hz b2) b3⟩
section
variable {C:UK} {W0 W:World} {q px p:Nat} {x:Ae} {As:zo} {cs:Nat} {Am:zo} {cm:Nat} {l:List Int} {bo:Bool} {it:Int} {st:ByteArray} {di:Int} {vk vi vr:Value} {K I:List Au} {R:List Ak}
variable {w4 w8:World}
theorem Cr.c6 (h:Cr C W0 q px p x As cs Am cm W l bo it st di vk vi vr K I R) (hb:Below W.heap.size W w4) (hg:w4.grownBy w8 vi.ownBlock):w8.cell? ⟨p,6,none⟩=some vi/\w8.frozen? ⟨p,6,none⟩=false:=by
 have h4:=h.below hb;obtain ⟨_,l2,_⟩:=Fw h4.vb;have hp:w8.heap[p]? = w4.heap[p]? := yA hg h4.vb.lt fun k hk e=>by have:=l2 k hk;omega
 have hc:=h4.vb.cells;exact ⟨by rw[World.cell?_of_block (w:=w4) (a:=⟨p,6,none⟩) hp];exact hc.1.2.2.2.2.2.2.1,by rw[World.frozen?_of_block (w:=w4) (a:=⟨p,6,none⟩) hp];exact hc.2 6⟩
theorem Cr.wY (h:Cr C W0 q px p x As cs Am cm W l bo it st di vk vi vr K I R) {w':World} (hb:Ay C.b W w'):(w'.cell? ⟨p,6,none⟩=some vi/\w'.cell? ⟨px,6,none⟩=some (.slice Am x.AA.length cm)/\w'.cell? ⟨px,8,none⟩=some (.int .i64 x.elem))/\Hid (Ay C.b W w'):=by
 obtain ⟨b1,b2,b3⟩:=h.bp;obtain ⟨_,_,_,_,_,_,t6,_,t8,_⟩:=zG (Ma h.bx hb (by omega))
 exact ⟨⟨(h.vb.Cn hb b3).cells.1.2.2.2.2.2.2.1,t6,t8⟩,hb⟩
theorem Cr.oH (h:Cr C W0 q px p x As cs Am cm W l bo it st di vk vi vr K I R) (hb:Below W.heap.size W w4) (hg:w4.grownBy w8 vi.ownBlock):w8.cell? ⟨p,6,none⟩=some vi/\w8.cell? ⟨px,6,none⟩=some (.slice Am x.AA.length cm)/\w8.cell? ⟨px,8,none⟩=some (.int .i64 x.elem):=by
 have h4:=h.below hb;have hlo:=h.lo;obtain ⟨_,l2,_⟩:=Fw h4.vb;have hp:w8.heap[px]? = w4.heap[px]? := yA hg (zg.1 h4.bx).1 fun k hk e=>by have:=l2 k hk;omega
 obtain ⟨_,_,_,_,_,_,t6,_,t8,_⟩:=zG (show BX w8 px x As cs Am cm from hp.trans h4.bx);exact ⟨(h.c6 hb hg).1,t6,t8⟩
theorem Cr.up8 (h:Cr C W0 q px p x As cs Am cm W l bo it st di vk vi vr K I R) (hb:Below W.heap.size W w4) (hg:w4.grownBy w8 vi.ownBlock):Below C.w0.heap.size C.w0 w8:=by
 have h4:=h.below hb;have hlo:=h.lo;have hbp:=h.bp;have hge:=h.ms.ge;obtain ⟨_,l2,_⟩:=Fw h4.vb;exact h4.ms.up.grown hg h4.ms.up.size fun k hk=>by have:=l2 k hk;omega
theorem Cr.c7 (h:Cr C W0 q px p x As cs Am cm W l bo it st di vk vi vr K I R):W.cell? ⟨p,7,none⟩=some vr/\W.frozen? ⟨p,7,none⟩=false:=⟨h.vb.cells.1.2.2.2.2.2.2.2,h.vb.cells.2 7⟩
end
abbrev jl:Obj := .cells #[.int .i64 0,.string ⟨#[]⟩,.int .i64 0,.bool false,.bool false,.int .i64 0,.bool false,.int .i64 0,.string ⟨#[]⟩,.int .i64 0,.slice none 0 0,.slice none 0 0,.slice none 0 0] 118
theorem Lr {g:Nat} (h:W.heap[g]? = some jl):W.there g 0 13:=fun j hj=>by
 refine ⟨?_,AAL _ _ _ _ _ h⟩;rw[AAE _ _ _ _ _ _ h]
 match j,hj with
 | 0,_=>rfl
 | 1,_=>rfl
 | 2,_=>rfl
 | 3,_=>rfl
 | 4,_=>rfl
 | 5,_=>rfl
 | 6,_=>rfl
 | 7,_=>rfl
 | 8,_=>rfl
 | 9,_=>rfl
 | 10,_=>rfl
 | 11,_=>rfl
 | 12,_=>rfl
theorem Ny:(Tryz.prog.info? 118).map (·.size)=some 13:=by kernel_rfl
theorem Q9 (m:AZ) (M1:zo) (m1:Nat) (M2:zo) (m2:Nat) (M3:zo) (m3:Nat):((m.cs M1 m1 M2 m2 M3 m3).toArray).all (·.oneCell')=true:=by
 refine all_oneCell_toArray fun u hu=>?_
 simp only[AAr,List.mem_nil_iff,or_false] at hu
 rcases hu with rfl|rfl|rfl|rfl|rfl|rfl|rfl|rfl|rfl|rfl|rfl|rfl|rfl <;> rfl
theorem JW {g:Nat} (h:W.heap[g]? = some jl) (m:AZ) (M1:zo) (m1:Nat) (M2:zo) (m2:Nat) (M3:zo) (m3:Nat):(W.setCells g 0 (m.cs M1 m1 M2 m2 M3 m3)).heap[g]? = some (.cells (m.cs M1 m1 M2 m2 M3 m3).toArray 118):=by
 rw[Bj _ _ _ _ h];simp[Un]
variable {bo:Bool} {st:ByteArray} {di it:Int} {cm cs:Nat} {W0:World}
theorem Cr.oU {W':World} (h:Cr C W0 q px p x As cs Am cm W l bo it st di AR AR AR [] [] []) (hb:Below (p+1) W W'):Cr C W0 q px p x As cs Am cm W' l bo it st di AR AR AR [] [] [] :=
 h.rest ⟨(hb.block _ (by omega)).trans h.vb.blk,Ad.nil _ _,Ad.nil _ _,Ad.nil _ _,(fun _ e=>by cases e),(fun _ e=>by cases e),h.vb.str,h.vb.raw⟩ (hb.mono (by omega))
variable {I K:List Au} {vi vk:Value} {w8:World}
theorem Cr.put {NA Jv:Value} {K' I':List Au} (h:Cr C W0 q px p x As cs Am cm W l false 0 ⟨#[]⟩ 0 vk vi AR K I []) (hb:Below W.heap.size W w8) {b:Nat} (hpb:p<b) (_hbW:b<=W.heap.size) (ho:Cw w8 b NA K') (hi:Cw w8 b Jv I') (hne:∀s,NA.ownBlock=some s->Jv.ownBlock≠some s) (hoff:∀y∈K'++I',Off (Rb p NA Jv AR) w8 fun u=>Az u y.v y.A1 y.A2 y.A3):
  Cr C W0 q px p x As cs Am cm (w8.setCells p 0 [.int .i64 x.kind,.bool false,.int .i64 0,.string ⟨#[]⟩,.int .i64 0,NA,Jv,AR]) l false 0 ⟨#[]⟩ 0 NA Jv AR K' I' []:=by
 have h8:=h.below hb;have hbx:=h8.vb.blk;unfold Ht at hbx;have hs:=yC (B:=p) (w:=W) p (AAH _) [.int .i64 x.kind,.bool false,.int .i64 0,.string ⟨#[]⟩,.int .i64 0,NA,Jv,AR] 0 w8 (hb.mono (AAe h.vb.lt));refine h.rest ⟨?_,?_,?_,Ad.nil _ _,hne,fun y hy=>(hoff y hy).setCells (.inl (AAH _)) _ _,h.vb.str,h.vb.raw⟩ hs
 ·rw[Bj _ _ _ _ hbx];unfold Ht;simp[Un]
 ·exact Kq (ho.keep fun g hg _ _=>zN (by omega) _ _ _) hpb
 ·exact Kq (hi.keep fun g hg _ _=>zN (by omega) _ _ _) hpb
theorem Cr.same (h:Cr C W0 q px p x As cs Am cm W l false 0 ⟨#[]⟩ 0 vk vi AR K I []) (hb:Below W.heap.size W w8):
  Cr C W0 q px p x As cs Am cm (w8.setCells p 0 [.int .i64 x.kind,.bool false,.int .i64 0,.string ⟨#[]⟩,.int .i64 0,vk,vi,AR]) l false 0 ⟨#[]⟩ 0 vk vi AR K I []:=by
 have h8:=h.below hb;have hbx:=h8.vb.blk;unfold Ht at hbx;have hs:=yC (B:=p) (w:=W) p (AAH _) [.int .i64 x.kind,.bool false,.int .i64 0,.string ⟨#[]⟩,.int .i64 0,vk,vi,AR] 0 w8 (hb.mono (AAe h.vb.lt));refine h.rest ⟨?_,?_,?_,Ad.nil _ _,h.vb.ne,fun y hy=>(h8.vb.off y hy).setCells (.inl (AAH _)) _ _,h.vb.str,h.vb.raw⟩ hs
 ·rw[Bj _ _ _ _ hbx];unfold Ht;simp[Un]
 ·exact h8.vb.ok.keep fun g hg _ _=>zN (by omega) _ _ _
 ·exact h8.vb.oi.keep fun g hg _ _=>zN (by omega) _ _ _
theorem Cr.yV (h:Cr C W0 q px p x As cs Am cm W l false 0 ⟨#[]⟩ 0 vk vi AR K I []) (hkd:x.kind=8) {y z:Au} (hy:Off (Rb p vk vi AR) W fun u=>Az u y.v y.A1 y.A2 y.A3) (hz:Off (Rb p vk vi AR) W fun u=>Az u z.v z.A1 z.A2 z.A3) (hle:I.length=K.length) (hkk:∀v∈K,v.v.kind=y.v.kind/\(1<=v.v.kind/\v.v.kind<=4)) (hasc:F8 (K.map (·.v))=true) {e:Ending} (hp:uz W vk vi K I y z e w8):
  ∃NA Jv K' I',e = .returned (.agg #[.int .i64 x.kind,.bool false,.int .i64 0,.string ⟨#[]⟩,.int .i64 0,NA,Jv,AR])/\Below W.heap.size W w8/\Cr C W0 q px p x As cs Am cm (w8.setCells p 0 [.int .i64 x.kind,.bool false,.int .i64 0,.string ⟨#[]⟩,.int .i64 0,NA,Jv,AR]) l false 0 ⟨#[]⟩ 0 NA Jv AR K' I' [] /\
   I'.length=K'.length/\K'.length<=K.length+1/\F8 (K'.map (·.v))=true/\(∀v∈K',v∈K\/v=y)/\(∀v∈I',v∈I\/v=z)/\(K'=[]->NA=vk/\Jv=vi/\K=[]):=by
 obtain ⟨NA,Jv,K',I',rfl,hb,hp⟩:=hp;rw[hkd]
 rcases hp with ⟨rfl,rfl,rfl,rfl⟩|⟨ho,hi,hne,i,hik,rfl,rfl,hlt,hnl⟩
 ·have h9:=h.same hb
  rw[hkd] at h9;exact ⟨_,_,_,_,rfl,hb,h9,hle,by omega,hasc,fun v hv => .inl hv,fun v hv => .inl hv,fun e=>⟨rfl,rfl,e⟩⟩
 ·have hmem:∀ {α:Type} (l:List α) (a v:α),v∈l.take i++[a]++l.drop i->v∈l\/v=a:=fun l a v hv=>by
   rcases AAo.1 hv with hv|hv
   ·rcases AAo.1 hv with hv|hv
    ·exact .inl (List.mem_of_mem_take hv)
    ·exact .inr (by simpa using hv)
   ·exact .inl (List.mem_of_mem_drop hv)
  have h9:=h.put hb (b:=W.heap.size) h.vb.lt (AAH _) ho hi hne fun v hv=>by
   have hv':Off (Rb p vk vi AR) W fun u=>Az u v.v v.A1 v.A2 v.A3:=by
    rcases AAo.1 hv with hv|hv
    ·rcases hmem _ _ _ hv with hv|rfl
     ·exact h.vb.off v (AAz _ hv)
     ·exact hy
    ·rcases hmem _ _ _ hv with hv|rfl
     ·exact h.vb.off v (ABM _ hv)
     ·exact hz
   refine hv'.grow (fun s hs hn=>?_) (fun s hs _=>hb.block s hs) hb.size
   rcases hn with e|e|e|e
   ·exact .inl e
   ·have:=(World.ownsRow.lt ho s e).1;omega
   ·have:=(World.ownsRow.lt hi s e).1;omega
   ·cases e
  rw[hkd] at h9;have hml:((K.take i++[y]++K.drop i).map (·.v))=(K.map (·.v)).take i++[y.v]++(K.map (·.v)).drop i:=by simp[List.map_take,List.map_drop]
  refine ⟨_,_,_,_,rfl,hb,h9,by simp;omega,by simp;omega,?_,hmem _ _,hmem _ _,fun e=>?_⟩
  ·rw[hml]
   refine lD hasc (by rw[AAZ];exact hik) (fun v hv=>?_) (fun j hj hji=>?_) (fun hj=>?_)
   ·obtain ⟨v',hv',rfl⟩:=List.mem_map.1 hv
    exact hkk v' hv'
   ·rw[List.getElem_map];exact hlt j (by rw[AAZ] at hj;exact hj) hji
   ·rw[List.getElem_map];exact hnl (by rw[AAZ] at hj;exact hj)
  ·exact absurd e (by simp)
theorem Zk {w:World} {kd:Int} {vr:Value} {R:List Ak} (h:Gx p w kd bo it st di vk vi vr K I R):w.there p 0 8:=fun j hj=>by
 obtain ⟨⟨h0,h1,h2,h3,h4,h5,h6,h7⟩,hf⟩:=h.cells;refine ⟨?_,hf _⟩
 match j,hj with
 | 0,_=>rw[h0];rfl
 | 1,_=>rw[h1];rfl
 | 2,_=>rw[h2];rfl
 | 3,_=>rw[h3];rfl
 | 4,_=>rw[h4];rfl
 | 5,_=>rw[h5];rfl
 | 6,_=>rw[h6];rfl
 | 7,_=>rw[h7];rfl
theorem bG (hfk:∀y:Val,BV C.s x.key y=true->(1<=y.kind/\y.kind<=4)/\y.kind=(AB C.s x.key).kind/\(y.kind=2->In64 y.int)) (hK:∀v∈K,BV C.s x.key v.v=true) {y:Au} (hy:BV C.s x.key y.v=true) (h:Cr C W0 q px p x As cs Am cm W l false 0 ⟨#[]⟩ 0 vk vi AR K I []) (hyo:Off (Rb p vk vi AR) W fun u=>Az u y.v y.A1 y.A2 y.A3):
  ∀v∈K,v.v.kind=y.v.kind/\(1<=v.v.kind/\v.v.kind<=4)/\(v.v.kind=2->In64 v.v.int/\In64 y.v.int)/\(v.v.str.size<=9223372036854775807/\y.v.str.size<=9223372036854775807):=fun v hv=>by
 obtain ⟨a1,a2,a3⟩:=hfk _ (hK v hv);obtain ⟨b1,b2,b3⟩:=hfk _ hy;have s1:Db v.v.str:=(h.vb.off v (AAz _ hv)).out.1;have s2:Db y.v.str:=hyo.out.1;unfold Db at s1 s2;exact ⟨by rw[a2,b2],a1,fun e=>⟨a3 e,b3 (by rw[b2,<-a2];exact e)⟩,by omega,by omega⟩
theorem jo (kd:Int) (A3:zo) (n3 c3:Nat) (A4:zo) (n4 c4:Nat):(#[.int .i64 kd,.bool false,.int .i64 0,.string ⟨#[]⟩,.int .i64 0,.slice A3 n3 c3,.slice A4 n4 c4,AR]:Array Value).all (·.oneCell')=true:=by
 refine all_oneCell_toArray (cs:=[.int .i64 kd,.bool false,.int .i64 0,.string ⟨#[]⟩,.int .i64 0,.slice A3 n3 c3,.slice A4 n4 c4,AR]) fun u hu=>?_
 simp only[AAr,List.mem_nil_iff,or_false] at hu
 rcases hu with rfl|rfl|rfl|rfl|rfl|rfl|rfl|rfl <;> rfl
theorem oV {lo hi c D0:Int} (h:-1000<=lo/\lo<=hi/\hi<=1000) (hc:0<=c/\c<256) (hd:hi - lo=D0):lo<=IntKind.i64.wrap (lo+c.tmod (D0+1))/\IntKind.i64.wrap (lo+c.tmod (D0+1))<=hi:=by
 have h1:=Int.emod_nonneg c (show D0+1≠0 by omega)
 have h2:=Int.emod_lt_of_pos c (show 0<D0+1 by omega)
 rw[Int.tmod_eq_emod_of_nonneg hc.1,IntWalk.i64_in _ (by omega)]
 omega
def KD (C:UK) (n:Nat):Prop:=∀ (t:Int) (W:World) (l:List Int),l.length * 7+KI C.s t<n->(0<=t/\t<(C.s.length:Int))->G5 C W l ->
 Calls Tryz.prog 74 #[.pointer (some ⟨C.b,0,none⟩),.int .i64 t] W (rX C t W l)
def xH (C:UK) (W:World) (q px p:Nat) (x:Ae) (As:zo) (cs:Nat) (Am:zo) (cm:Nat) (t:Int) (l:List Int) (wx:World):Prop:=∃bo it st di vk vi vr K I R l',Cr C W q px p x As cs Am cm wx l' bo it st di vk vi vr K I R/\l'.length<=l.length/\(K.length<=2000000/\I.length<=2000000/\R.length<=2000000)/\BV C.s t (.mk x.kind bo it st di (K.map (·.v)) (I.map (·.v)) R)=true
theorem Cr.cells {vr:Value} {R:List Ak} (h:Cr C W0 q px p x As cs Am cm W l bo it st di vk vi vr K I R):BX W px x As cs Am cm:=h.bx
end Go.Proofs.YthkkllmmbefedaaGreatDoor



