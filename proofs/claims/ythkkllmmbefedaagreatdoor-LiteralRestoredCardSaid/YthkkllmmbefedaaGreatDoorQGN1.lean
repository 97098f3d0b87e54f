/-
  Walks: the maker of values: value.
-/
import Derived.Test.YthkkllmmbefedaaGreatDoorQMK6
import Derived.Deep.CutBlock
namespace Go.Proofs.YthkkllmmbefedaaGreatDoor
set_option maxHeartbeats 16000000
set_option maxRecDepth 100000
variable {t:Int} {s:List Aa}
theorem sK {v:Val} (h0:0<=t) (h1:t<(s.length:Int)) (hk:v.kind=(AO s t).kind) (hp:zJ v=true) (hb:Ak (fun t y=>Bc s false t y) false (AO s t) v=true):Bc s false t v=true:=by
 refine Rw ⟨SizeOf.sizeOf v+1,?_⟩;rw[Ad,Pd (by omega),Pd (by rw[hp];simp[hk])]
 refine NE (fun t y hy hf=>?_) hb
 have:=Ql v hy;exact YG (n:=SizeOf.sizeOf y) hf _ (by omega)
theorem FB {v:Val} (h0:0<=t) (h1:t<(s.length:Int)) (hk:v.kind=(AO s t).kind) (hp:zJ v=true) (hb:Ak (fun t y=>Bc s false t y) false (AO s t) v=true) (hs:v.str.size<=1000) (hr:∀r∈v.rest,r.data.size<=3) (hks:∀y∈v.keys,KR y) (his:∀y∈v.items,KR y):BM s t v=true:=by
 refine L6.2 ⟨sK h0 h1 hk hp hb,?_⟩;obtain ⟨a,b,c,d,e,ks,is,rs⟩:=v;rw[KR];exact ⟨Nat.le_trans hs (by decide),fun r h=>Nat.le_trans (hr r h) (by decide),(G8 ks).2 hks,(G8 is).2 his⟩
theorem JJ:∀r∈([]:List Af),r.data.size<=3:=fun _ h=>by cases h
theorem EW:∀y∈([]:List Val),KR y:=fun _ h=>by cases h
theorem fM {v:Val} (h:BM s t v=true):Bc s false t v=true:=(L6.1 h).1
theorem fS {v:Val} (h:BM s t v=true):KR v:=(L6.1 h).2
structure MO (s:List Aa):Prop where
 v:zQ s=0
 n64:DI s
 len:s.length<=5
 int:∀t,(AO s t).kind=2 -> -1000<=(AO s t).low/\(AO s t).low<=(AO s t).high/\(AO s t).high<=1000
 max:∀t,0<=(AO s t).max/\(AO s t).max<=1000
 ids:∀t,tO (AO s t)
 sym:∀t,(AO s t).kind=4->(AO s t).AV≠[]
 syl:∀t,(AO s t).AV.length<=100
 mem:∀t,(AO s t).kind=6->(AO s t).AA≠[]
 mel:∀t,(AO s t).AA.length<=100
 asc:∀t,((AO s t).AA.map (·.id)).Pairwise (· < ·)
 rJ:∀t,0<=t->t<(s.length:Int)->(AO s t).kind=5\/(AO s t).kind=6->∀m∈(AO s t).AA,(0<=m.type/\m.type<(s.length:Int))/\(7<=(AO s m.type).kind\/m.type<t)
 dfl:∀t,∀m∈(AO s t).AA,m.EY=true->BM s m.type m.dflt=true/\m.dflt.keys=[]/\m.dflt.items=[]/\m.dflt.rest=[]/\Dk m.dflt.str
def LF (s:List Aa) (t:Int):Nat:=if 7<=(AO s t).kind then 0 else t.toNat+1
theorem dx (h:s.length<=5) (h1:t<(s.length:Int)):LF s t<=5:=by
 unfold LF;split <;> omega
variable {x:Aa}
theorem eH {r:Af} (hu:Ka x r.id=false) (h:1<=r.id/\r.id<=14):DT x [r]=true:=by
 unfold Ka at hu;rw[Bool.or_eq_false_iff] at hu;unfold DT DT BA;simp only[Bool.and_true,AAM,AAX,AAj];refine ⟨fun m hm e=>?_,by omega,by omega⟩
 have:=List.any_eq_false.1 hu.1 m hm;simp[e] at this
section
variable {s:List Aa} {t:Int}
theorem Xy {b:Bool} (h0:0<=t) (h1:t<(s.length:Int)) (hk:(AO s t).kind=1):BM s t (.mk 1 b 0 ⟨#[]⟩ 0 [] [] [])=true :=
 FB h0 h1 hk.symm (by cases b <;> rfl) (by unfold Ak;rw[hk];rfl) (show (0:Nat)<=1000 by omega) JJ EW EW
theorem fV {i:Int} (h0:0<=t) (h1:t<(s.length:Int)) (hk:(AO s t).kind=2) (hi:(AO s t).low<=i/\i<=(AO s t).high):BM s t (.mk 2 false i ⟨#[]⟩ 0 [] [] [])=true :=
 FB h0 h1 hk.symm (by simp[zJ,Ar,Val.kind,Val.bool,Val.int,Val.str,Val.id,Val.keys,Val.items,Val.rest]) (by unfold Ak;rw[AAH hk];simp[Val.int,hi]) (show (0:Nat)<=1000 by omega) JJ EW EW
theorem fT {b:ByteArray} (h0:0<=t) (h1:t<(s.length:Int)) (hk:(AO s t).kind=3) (hb:(b.size:Int)<=(AO s t).max) (hb3:b.size<=3):BM s t (.mk 3 false 0 b 0 [] [] [])=true :=
 FB h0 h1 hk.symm (by simp[zJ,Ar,Val.kind,Val.bool,Val.int,Val.str,Val.id,Val.keys,Val.items,Val.rest]) (by unfold Ak;rw[Pd (by omega),AAH hk];simp[Val.str,hb]) (Nat.le_trans hb3 (by decide)) JJ EW EW
theorem Xx {i:Int} (h0:0<=t) (h1:t<(s.length:Int)) (hk:(AO s t).kind=4) (hi:(∃y∈(AO s t).AV,y.id=i)\/((AO s t).open_=true/\1<=i/\i<=14)):BM s t (.mk 4 false 0 ⟨#[]⟩ i [] [] [])=true :=
 FB h0 h1 hk.symm (by simp[zJ,Ar,Val.kind,Val.bool,Val.int,Val.str,Val.id,Val.keys,Val.items,Val.rest]) (by
  unfold Ak BA;rw[Pd (by omega),Pd (by omega),AAH hk]
  rw[ABp]
  rcases hi with ⟨y,hy,e⟩|⟨e,g1,g2⟩
  ·exact .inl (ABh.2 ⟨y,hy,AAT e⟩)
  ·right
   rw[e]
   show (true && !false&&(decide (1<=i)&&decide (i<=1000)))=true
   rw[AAT g1,AAT (by omega)];rfl) (show (0:Nat)<=1000 by omega) JJ EW EW
variable {xs:List Val}
theorem WH (h0:0<=t) (h1:t<(s.length:Int)) (hk:(AO s t).kind=9) (hl:xs.length<=1) (hx:∀y∈xs,BM s (AO s t).elem y=true):BM s t (.mk 9 false 0 ⟨#[]⟩ 0 [] xs [])=true :=
 FB h0 h1 hk.symm (by simp[zJ,Ar,Val.kind,Val.bool,Val.int,Val.str,Val.id,Val.keys,Val.items,Val.rest]) (by
  unfold Ak;rw[Pd (by omega),Pd (by omega),Pd (by omega),Pd (by omega),Pd (by omega),Pd (by omega),Pd (by omega),AAH hk]
  rw[AAM];exact ⟨AAT hl,AAj.2 fun y hy=>fM (hx y hy)⟩) (show (0:Nat)<=1000 by omega) JJ EW (fun y hy=>fS (hx y hy))
theorem Ry (h0:0<=t) (h1:t<(s.length:Int)) (hk:(AO s t).kind=7) (hl:(xs.length:Int)<=(AO s t).max) (hx:∀y∈xs,BM s (AO s t).elem y=true):BM s t (.mk 7 false 0 ⟨#[]⟩ 0 [] xs [])=true :=
 FB h0 h1 hk.symm (by simp[zJ,Ar,Val.kind,Val.bool,Val.int,Val.str,Val.id,Val.keys,Val.items,Val.rest]) (by
  unfold Ak;rw[Pd (by omega),Pd (by omega),Pd (by omega),Pd (by omega),Pd (by omega),AAH hk]
  rw[AAM];exact ⟨AAT hl,AAj.2 fun y hy=>fM (hx y hy)⟩) (show (0:Nat)<=1000 by omega) JJ EW (fun y hy=>fS (hx y hy))
theorem fU {ks:List Val} (h0:0<=t) (h1:t<(s.length:Int)) (hk:(AO s t).kind=8) (hl:(ks.length:Int)<=(AO s t).max) (he:xs.length=ks.length) (hks:∀y∈ks,BM s (AO s t).key y=true) (ha:IV ks=true) (hx:∀y∈xs,BM s (AO s t).elem y=true):BM s t (.mk 8 false 0 ⟨#[]⟩ 0 ks xs [])=true :=
 FB h0 h1 hk.symm (by simp[zJ,Ar,Val.kind,Val.bool,Val.int,Val.str,Val.id,Val.keys,Val.items,Val.rest]) (by
  unfold Ak;rw[Pd (by omega),Pd (by omega),Pd (by omega),Pd (by omega),Pd (by omega),Pd (by omega),AAH hk]
  simp only[AAM];exact ⟨⟨⟨⟨AAT hl,AAT he⟩,AAj.2 fun y hy=>fM (hks y hy)⟩,ha⟩,AAj.2 fun y hy=>fM (hx y hy)⟩) (show (0:Nat)<=1000 by omega) JJ (fun y hy=>fS (hks y hy)) (fun y hy=>fS (hx y hy))
theorem rH {rs : List Af} (h0 : 0 <= t) (h1 : t < (s.length : Int)) (hk : (AO s t).kind = 5) (hl : xs.length = (AO s t).AA.length) (hr : DT (AO s t) rs = true) (hr3 : ∀ r ∈ rs, r.data.size <= 3) (hx : ∀ i (h : i < (AO s t).AA.length) (h' : i < xs.length), BM s ((AO s t).AA[i]).type xs[i] = true): BM s t (.mk 5 false 0 ⟨#[]⟩ 0 [] xs rs) = true :=
  FB h0 h1 hk.symm (by simp [zJ, Ar, Val.kind, Val.bool, Val.int, Val.str, Val.id, Val.keys, Val.items, Val.rest]) (by
    unfold Ak; rw [Pd (by omega), Pd (by omega), Pd (by omega), AAH hk]
    simp only [AAM];refine ⟨⟨⟨AAT hl, rfl⟩, hr⟩, AAj.2 fun p hp => ?_⟩
    obtain ⟨i, hi, e⟩ := ABT hp;rw [List.length_zip] at hi;rw [List.getElem_zip] at e;subst e;exact fM (hx i (by omega) (show i < (Val.items (.mk 5 false 0 ⟨#[]⟩ 0 [] xs rs)).length by omega))) (show (0 : Nat) <= 1000 by omega) hr3 EW (fun y hy => by
    obtain ⟨i, hi, e⟩ := ABT hy;subst e;have h2 : i < xs.length := hi;exact fS (hx i (by omega) h2))
theorem fZ {l:List AY} (h:(l.map (·.id)).Pairwise (· < ·)) {i:Nat} (hi:i<l.length):l.find? (fun m=>decide (m.id=(l[i]).id))=some l[i]:=by
 induction l generalizing i with
 | nil=>simp at hi
 | cons a r ih =>
  rw[AA5,List.pairwise_cons] at h
  cases i with
  | zero=>rw[List.find?_cons_of_pos (by simp)];rfl
  | succ i =>
   have hi':i<r.length:=by simpa using hi
   have hlt:=h.1 (r[i]).id (List.mem_map.2 ⟨_,AAU hi',rfl⟩);rw[List.find?_cons_of_neg (by simp;omega)]
   exact ih h.2 hi'
theorem fQ {i:Nat} {y:Val} (ha:((AO s t).AA.map (·.id)).Pairwise (· < ·)) (h0:0<=t) (h1:t<(s.length:Int)) (hk:(AO s t).kind=6) (hi:i<(AO s t).AA.length) (hy:BM s ((AO s t).AA[i]).type y=true):BM s t (.mk 6 false 0 ⟨#[]⟩ ((AO s t).AA[i]).id [] [y] [])=true :=
 FB h0 h1 hk.symm (by simp[zJ,Ar,Val.kind,Val.bool,Val.int,Val.str,Val.id,Val.keys,Val.items,Val.rest]) (by
  unfold Ak;rw[Pd (by omega),Pd (by omega),Pd (by omega),Pd (by omega),AAH hk]
  show (match List.find? (fun m=>decide (m.id=((AO s t).AA[i]).id)) (AO s t).AA with
   | some m=>decide ([y].length=1)&&decide (([]:List Af).length=0)&&([y].all fun y=>Bc s false m.type y)
   | none=>_)=true
  rw[fZ ha hi];simp[fM hy]) (show (0:Nat)<=1000 by omega) JJ EW (fun z hz=>by rw[List.mem_singleton.1 hz];exact fS hy)
theorem ZM {n:Int} {d:ByteArray} (h0:0<=t) (h1:t<(s.length:Int)) (hk:(AO s t).kind=6) (ho:(AO s t).open_=true) (hn:1<=n/\n<=14) (hu:Ka (AO s t) n=false) (hd:d.size<=3):BM s t (.mk 6 false 0 ⟨#[]⟩ n [] [] [⟨n,d⟩])=true :=
 FB h0 h1 hk.symm (by simp[zJ,Ar,Val.kind,Val.bool,Val.int,Val.str,Val.id,Val.keys,Val.items,Val.rest]) (by
  unfold Ak BA;rw[Pd (by omega),Pd (by omega),Pd (by omega),Pd (by omega),AAH hk]
  have hf:(AO s t).AA.find? (fun m=>decide (m.id=n))=none:=by
   unfold Ka at hu;rw[Bool.or_eq_false_iff] at hu;rw[List.find?_eq_none]
   intro m hm e
   exact List.any_eq_false.1 hu.1 m hm e
  show (match List.find? (fun m=>decide (m.id=n)) (AO s t).AA with
   | some m=>_
   | none=>(AO s t).open_ && !false&&(decide (1<=n)&&decide (n<=1000))&&decide (([]:List Val).length=0)&&decide ([(⟨n,d⟩:Af)].length=1)&&([(⟨n,d⟩:Af)].all fun r=>decide (r.id=n)))=true
  rw[hf,ho,AAT hn.1,AAT (show n<=1000 by omega)]
  simp) (show (0:Nat)<=1000 by omega) (fun r hr=>by rw[List.mem_singleton.1 hr];exact hd) EW EW
end
open Go.RowKit
variable {l:List Int} {C:U1} {p px q:Nat} {W:World} {Am As:zo}
theorem Cw.new (cs cm:Nat) (h:H9 C W l) (ht:JY C.w0 x As Am) (hq:W.heap.size=q) (hp:q+1=px) (hp2:px+1=p):
  Cw C W q px p x As cs Am cm (((W.alloc zO).alloc (x.box As cs Am cm)).alloc (IU x.kind false 0 ⟨#[]⟩ 0 AP AP AP)) l false 0 ⟨#[]⟩ 0 AP AP AP [] [] []:=by
 have s1:(W.alloc zO).heap.size=px:=by simp;omega
 have s2:((W.alloc zO).alloc (x.box As cs Am cm)).heap.size=p:=by simp;omega
 have b1:=zD W zO;have b2:=zD (W.alloc zO) (x.box As cs Am cm);have b3:=zD ((W.alloc zO).alloc (x.box As cs Am cm)) (IU x.kind false 0 ⟨#[]⟩ 0 AP AP AP);have r1:=h.below b1;have r2:=r1.below b2;have r3:=r2.below b3;have hv:=Gt.new ((W.alloc zO).alloc (x.box As cs Am cm)) x.kind;rw[s2] at hv;have hx:=AAL (W.alloc zO) (x.box As cs Am cm);rw[s1] at hx;have hz:=AAL W zO
 rw[hq] at hz;exact ⟨r3,hv,((h.BJ b1).trans (r1.BJ b2)).trans (r2.BJ b3),⟨by omega,by omega,by omega⟩,h.lt,ht,Aw hx b3,Aw (Aw hz b2) b3⟩
section
variable {C:U1} {W0 W:World} {q px p:Nat} {x:Aa} {As:zo} {cs:Nat} {Am:zo} {cm:Nat} {l:List Int} {bo:Bool} {it:Int} {st:ByteArray} {di:Int} {vk vi vr:Value} {K I:List Aj} {R:List Af}
variable {w4 w8:World}
theorem Cw.c6 (h:Cw C W0 q px p x As cs Am cm W l bo it st di vk vi vr K I R) (hb:Below W.heap.size W w4) (hg:w4.grownBy w8 vi.ownBlock):w8.cell? ⟨p,6,none⟩=some vi/\w8.frozen? ⟨p,6,none⟩=false:=by
 have h4:=h.below hb;obtain ⟨_,l2,_⟩:=GL h4.vb;have hp:w8.heap[p]? = w4.heap[p]? := yA hg h4.vb.lt fun k hk e=>by have:=l2 k hk;omega
 have hc:=h4.vb.cells;exact ⟨by rw[World.cell?_of_block (w:=w4) (a:=⟨p,6,none⟩) hp];exact hc.1.2.2.2.2.2.2.1,by rw[World.frozen?_of_block (w:=w4) (a:=⟨p,6,none⟩) hp];exact hc.2 6⟩
theorem Cw.rd6 (h:Cw C W0 q px p x As cs Am cm W l bo it st di vk vi vr K I R) {w':World} (hb:Ah C.b W w'):(w'.cell? ⟨p,6,none⟩=some vi/\w'.cell? ⟨px,6,none⟩=some (.slice Am x.AA.length cm)/\w'.cell? ⟨px,8,none⟩=some (.int .i64 x.elem))/\Hid (Ah C.b W w'):=by
 obtain ⟨b1,b2,b3⟩:=h.bp;obtain ⟨_,_,_,_,_,_,t6,_,t8,_⟩:=zG (Ni h.bx hb (by omega))
 exact ⟨⟨(h.vb.BJ hb b3).cells.1.2.2.2.2.2.2.1,t6,t8⟩,hb⟩
theorem Cw.qm (h:Cw C W0 q px p x As cs Am cm W l bo it st di vk vi vr K I R) (hb:Below W.heap.size W w4) (hg:w4.grownBy w8 vi.ownBlock):w8.cell? ⟨p,6,none⟩=some vi/\w8.cell? ⟨px,6,none⟩=some (.slice Am x.AA.length cm)/\w8.cell? ⟨px,8,none⟩=some (.int .i64 x.elem):=by
 have h4:=h.below hb;have hlo:=h.lo;obtain ⟨_,l2,_⟩:=GL h4.vb;have hp:w8.heap[px]? = w4.heap[px]? := yA hg (zg.1 h4.bx).1 fun k hk e=>by have:=l2 k hk;omega
 obtain ⟨_,_,_,_,_,_,t6,_,t8,_⟩:=zG (show CS w8 px x As cs Am cm from hp.trans h4.bx);exact ⟨(h.c6 hb hg).1,t6,t8⟩
theorem Cw.up8 (h:Cw C W0 q px p x As cs Am cm W l bo it st di vk vi vr K I R) (hb:Below W.heap.size W w4) (hg:w4.grownBy w8 vi.ownBlock):Below C.w0.heap.size C.w0 w8:=by
 have h4:=h.below hb;have hlo:=h.lo;have hbp:=h.bp;have hge:=h.ms.ge;obtain ⟨_,l2,_⟩:=GL h4.vb;exact h4.ms.up.grown hg h4.ms.up.size fun k hk=>by have:=l2 k hk;omega
theorem Cw.c7 (h:Cw C W0 q px p x As cs Am cm W l bo it st di vk vi vr K I R):W.cell? ⟨p,7,none⟩=some vr/\W.frozen? ⟨p,7,none⟩=false:=⟨h.vb.cells.1.2.2.2.2.2.2.2,h.vb.cells.2 7⟩
end
abbrev mZ:Obj := .cells #[.int .i64 0,.string ⟨#[]⟩,.int .i64 0,.bool false,.bool false,.int .i64 0,.bool false,.int .i64 0,.string ⟨#[]⟩,.int .i64 0,.slice none 0 0,.slice none 0 0,.slice none 0 0] 118
theorem M0 {g:Nat} (h:W.heap[g]? = some mZ):W.there g 0 13:=fun j hj=>by
 refine ⟨?_,AAR _ _ _ _ _ h⟩;rw[AAN _ _ _ _ _ _ h]
 match j,hj with
 | 0,_=>rfl
 | 1,_=>rfl
 | 2,_=>rfl
 | 3,_=>rfl
 | 4,_=>rfl
 | 5,_=>rfl
 | 6,_=>rfl
 | 7,_=>rfl
 | 8,_=>rfl
 | 9,_=>rfl
 | 10,_=>rfl
 | 11,_=>rfl
 | 12,_=>rfl
theorem PD:(Tryz.prog.info? 118).map (·.size)=some 13:=by kernel_rfl
theorem R3 (m:AY) (M1:zo) (m1:Nat) (M2:zo) (m2:Nat) (M3:zo) (m3:Nat):((m.cs M1 m1 M2 m2 M3 m3).toArray).all (·.oneCell')=true:=by
 refine all_oneCell_toArray fun u hu=>?_
 simp only[AAi,List.mem_nil_iff,or_false] at hu
 rcases hu with rfl|rfl|rfl|rfl|rfl|rfl|rfl|rfl|rfl|rfl|rfl|rfl|rfl <;> rfl
theorem J3 {g:Nat} (h:W.heap[g]? = some mZ) (m:AY) (M1:zo) (m1:Nat) (M2:zo) (m2:Nat) (M3:zo) (m3:Nat):(W.setCells g 0 (m.cs M1 m1 M2 m2 M3 m3)).heap[g]? = some (.cells (m.cs M1 m1 M2 m2 M3 m3).toArray 118):=by
 rw[Bl _ _ _ _ h];simp[Vi]
variable {bo:Bool} {st:ByteArray} {di it:Int} {cm cs:Nat} {W0:World}
theorem Cw.rF {W':World} (h:Cw C W0 q px p x As cs Am cm W l bo it st di AP AP AP [] [] []) (hb:Below (p+1) W W'):Cw C W0 q px p x As cs Am cm W' l bo it st di AP AP AP [] [] [] :=
 h.rest ⟨(hb.block _ (by omega)).trans h.vb.blk,Ab.nil _ _,Ab.nil _ _,Ab.nil _ _,(fun _ e=>by cases e),(fun _ e=>by cases e),h.vb.str,h.vb.raw⟩ (hb.mono (by omega))
variable {I K:List Aj} {vi vk:Value} {w8:World}
theorem Cw.put {Kn Gd:Value} {K' I':List Aj} (h:Cw C W0 q px p x As cs Am cm W l false 0 ⟨#[]⟩ 0 vk vi AP K I []) (hb:Below W.heap.size W w8) {b:Nat} (hpb:p<b) (_hbW:b<=W.heap.size) (ho:C9 w8 b Kn K') (hi:C9 w8 b Gd I') (hne:∀s,Kn.ownBlock=some s->Gd.ownBlock≠some s) (hoff:∀y∈K'++I',Off (RH p Kn Gd AP) w8 fun u=>Ao u y.v y.A1 y.A2 y.A3):
  Cw C W0 q px p x As cs Am cm (w8.setCells p 0 [.int .i64 x.kind,.bool false,.int .i64 0,.string ⟨#[]⟩,.int .i64 0,Kn,Gd,AP]) l false 0 ⟨#[]⟩ 0 Kn Gd AP K' I' []:=by
 have h8:=h.below hb;have hbx:=h8.vb.blk;unfold IU at hbx;have hs:=yC (B:=p) (w:=W) p (AAP _) [.int .i64 x.kind,.bool false,.int .i64 0,.string ⟨#[]⟩,.int .i64 0,Kn,Gd,AP] 0 w8 (hb.mono (AAV h.vb.lt));refine h.rest ⟨?_,?_,?_,Ab.nil _ _,hne,fun y hy=>(hoff y hy).setCells (.inl (AAP _)) _ _,h.vb.str,h.vb.raw⟩ hs
 ·rw[Bl _ _ _ _ hbx];unfold IU;simp[Vi]
 ·exact Li (ho.keep fun g hg _ _=>zN (by omega) _ _ _) hpb
 ·exact Li (hi.keep fun g hg _ _=>zN (by omega) _ _ _) hpb
theorem Cw.same (h:Cw C W0 q px p x As cs Am cm W l false 0 ⟨#[]⟩ 0 vk vi AP K I []) (hb:Below W.heap.size W w8):
  Cw C W0 q px p x As cs Am cm (w8.setCells p 0 [.int .i64 x.kind,.bool false,.int .i64 0,.string ⟨#[]⟩,.int .i64 0,vk,vi,AP]) l false 0 ⟨#[]⟩ 0 vk vi AP K I []:=by
 have h8:=h.below hb;have hbx:=h8.vb.blk;unfold IU at hbx;have hs:=yC (B:=p) (w:=W) p (AAP _) [.int .i64 x.kind,.bool false,.int .i64 0,.string ⟨#[]⟩,.int .i64 0,vk,vi,AP] 0 w8 (hb.mono (AAV h.vb.lt));refine h.rest ⟨?_,?_,?_,Ab.nil _ _,h.vb.ne,fun y hy=>(h8.vb.off y hy).setCells (.inl (AAP _)) _ _,h.vb.str,h.vb.raw⟩ hs
 ·rw[Bl _ _ _ _ hbx];unfold IU;simp[Vi]
 ·exact h8.vb.ok.keep fun g hg _ _=>zN (by omega) _ _ _
 ·exact h8.vb.oi.keep fun g hg _ _=>zN (by omega) _ _ _
theorem Cw.AAz (h:Cw C W0 q px p x As cs Am cm W l false 0 ⟨#[]⟩ 0 vk vi AP K I []) (hkd:x.kind=8) {y z:Aj} (hy:Off (RH p vk vi AP) W fun u=>Ao u y.v y.A1 y.A2 y.A3) (hz:Off (RH p vk vi AP) W fun u=>Ao u z.v z.A1 z.A2 z.A3) (hle:I.length=K.length) (hkk:∀v∈K,v.v.kind=y.v.kind/\(1<=v.v.kind/\v.v.kind<=4)) (hasc:IV (K.map (·.v))=true) {e:Ending} (hp:xU W vk vi K I y z e w8):
  ∃Kn Gd K' I',e = .returned (.agg #[.int .i64 x.kind,.bool false,.int .i64 0,.string ⟨#[]⟩,.int .i64 0,Kn,Gd,AP])/\Below W.heap.size W w8/\Cw C W0 q px p x As cs Am cm (w8.setCells p 0 [.int .i64 x.kind,.bool false,.int .i64 0,.string ⟨#[]⟩,.int .i64 0,Kn,Gd,AP]) l false 0 ⟨#[]⟩ 0 Kn Gd AP K' I' [] /\
   I'.length=K'.length/\K'.length<=K.length+1/\IV (K'.map (·.v))=true/\(∀v∈K',v∈K\/v=y)/\(∀v∈I',v∈I\/v=z)/\(K'=[]->Kn=vk/\Gd=vi/\K=[]):=by
 obtain ⟨Kn,Gd,K',I',rfl,hb,hp⟩:=hp;rw[hkd]
 rcases hp with ⟨rfl,rfl,rfl,rfl⟩|⟨ho,hi,hne,i,hik,rfl,rfl,hlt,hnl⟩
 ·have h9:=h.same hb
  rw[hkd] at h9;exact ⟨_,_,_,_,rfl,hb,h9,hle,by omega,hasc,fun v hv => .inl hv,fun v hv => .inl hv,fun e=>⟨rfl,rfl,e⟩⟩
 ·have hmem:∀ {α:Type} (l:List α) (a v:α),v∈l.take i++[a]++l.drop i->v∈l\/v=a:=fun l a v hv=>by
   rcases AAm.1 hv with hv|hv
   ·rcases AAm.1 hv with hv|hv
    ·exact .inl (List.mem_of_mem_take hv)
    ·exact .inr (by simpa using hv)
   ·exact .inl (List.mem_of_mem_drop hv)
  have h9:=h.put hb (b:=W.heap.size) h.vb.lt (AAP _) ho hi hne fun v hv=>by
   have hv':Off (RH p vk vi AP) W fun u=>Ao u v.v v.A1 v.A2 v.A3:=by
    rcases AAm.1 hv with hv|hv
    ·rcases hmem _ _ _ hv with hv|rfl
     ·exact h.vb.off v (ABH _ hv)
     ·exact hy
    ·rcases hmem _ _ _ hv with hv|rfl
     ·exact h.vb.off v (ABe _ hv)
     ·exact hz
   refine hv'.grow (fun s hs hn=>?_) (fun s hs _=>hb.block s hs) hb.size
   rcases hn with e|e|e|e
   ·exact .inl e
   ·have:=(World.ownsRow.lt ho s e).1;omega
   ·have:=(World.ownsRow.lt hi s e).1;omega
   ·cases e
  rw[hkd] at h9;have hml:((K.take i++[y]++K.drop i).map (·.v))=(K.map (·.v)).take i++[y.v]++(K.map (·.v)).drop i:=by simp[List.map_take,List.map_drop]
  refine ⟨_,_,_,_,rfl,hb,h9,by simp;omega,by simp;omega,?_,hmem _ _,hmem _ _,fun e=>?_⟩
  ·rw[hml]
   refine oD hasc (by rw[AAd];exact hik) (fun v hv=>?_) (fun j hj hji=>?_) (fun hj=>?_)
   ·obtain ⟨v',hv',rfl⟩:=List.mem_map.1 hv
    exact hkk v' hv'
   ·rw[List.getElem_map];exact hlt j (by rw[AAd] at hj;exact hj) hji
   ·rw[List.getElem_map];exact hnl (by rw[AAd] at hj;exact hj)
  ·exact absurd e (by simp)
theorem bT {w:World} {kd:Int} {vr:Value} {R:List Af} (h:Gt p w kd bo it st di vk vi vr K I R):w.there p 0 8:=fun j hj=>by
 obtain ⟨⟨h0,h1,h2,h3,h4,h5,h6,h7⟩,hf⟩:=h.cells;refine ⟨?_,hf _⟩
 match j,hj with
 | 0,_=>rw[h0];rfl
 | 1,_=>rw[h1];rfl
 | 2,_=>rw[h2];rfl
 | 3,_=>rw[h3];rfl
 | 4,_=>rw[h4];rfl
 | 5,_=>rw[h5];rfl
 | 6,_=>rw[h6];rfl
 | 7,_=>rw[h7];rfl
theorem fu (hfk:∀y:Val,BM C.s x.key y=true->(1<=y.kind/\y.kind<=4)/\y.kind=(AO C.s x.key).kind/\(y.kind=2->In64 y.int)) (hK:∀v∈K,BM C.s x.key v.v=true) {y:Aj} (hy:BM C.s x.key y.v=true) (h:Cw C W0 q px p x As cs Am cm W l false 0 ⟨#[]⟩ 0 vk vi AP K I []) (hyo:Off (RH p vk vi AP) W fun u=>Ao u y.v y.A1 y.A2 y.A3):
  ∀v∈K,v.v.kind=y.v.kind/\(1<=v.v.kind/\v.v.kind<=4)/\(v.v.kind=2->In64 v.v.int/\In64 y.v.int)/\(v.v.str.size<=9223372036854775807/\y.v.str.size<=9223372036854775807):=fun v hv=>by
 obtain ⟨a1,a2,a3⟩:=hfk _ (hK v hv);obtain ⟨b1,b2,b3⟩:=hfk _ hy;have s1:Dk v.v.str:=(h.vb.off v (ABH _ hv)).out.1;have s2:Dk y.v.str:=hyo.out.1;unfold Dk at s1 s2;exact ⟨by rw[a2,b2],a1,fun e=>⟨a3 e,b3 (by rw[b2,<-a2];exact e)⟩,by omega,by omega⟩
theorem mh (kd:Int) (A3:zo) (n3 c3:Nat) (A4:zo) (n4 c4:Nat):(#[.int .i64 kd,.bool false,.int .i64 0,.string ⟨#[]⟩,.int .i64 0,.slice A3 n3 c3,.slice A4 n4 c4,AP]:Array Value).all (·.oneCell')=true:=by
 refine all_oneCell_toArray (cs:=[.int .i64 kd,.bool false,.int .i64 0,.string ⟨#[]⟩,.int .i64 0,.slice A3 n3 c3,.slice A4 n4 c4,AP]) fun u hu=>?_
 simp only[AAi,List.mem_nil_iff,or_false] at hu
 rcases hu with rfl|rfl|rfl|rfl|rfl|rfl|rfl|rfl <;> rfl
theorem rG {lo hi c D0:Int} (h:-1000<=lo/\lo<=hi/\hi<=1000) (hc:0<=c/\c<256) (hd:hi - lo=D0):lo<=IntKind.i64.wrap (lo+c.tmod (D0+1))/\IntKind.i64.wrap (lo+c.tmod (D0+1))<=hi:=by
 have h1:=Int.emod_nonneg c (show D0+1≠0 by omega)
 have h2:=Int.emod_lt_of_pos c (show 0<D0+1 by omega)
 rw[Int.tmod_eq_emod_of_nonneg hc.1,IntWalk.i64_in _ (by omega)]
 omega
def K9 (C:U1) (n:Nat):Prop:=∀ (t:Int) (W:World) (l:List Int),l.length * 7+LF C.s t<n->(0<=t/\t<(C.s.length:Int))->H9 C W l ->
 Calls Tryz.prog 74 #[.pointer (some ⟨C.b,0,none⟩),.int .i64 t] W (vH C t W l)
def MvE (C:U1) (W:World) (q px p:Nat) (x:Aa) (As:zo) (cs:Nat) (Am:zo) (cm:Nat) (t:Int) (l:List Int) (wx:World):Prop:=∃bo it st di vk vi vr K I R l',Cw C W q px p x As cs Am cm wx l' bo it st di vk vi vr K I R/\l'.length<=l.length/\(K.length<=2000000/\I.length<=2000000/\R.length<=2000000)/\BM C.s t (.mk x.kind bo it st di (K.map (·.v)) (I.map (·.v)) R)=true
theorem Cw.cells {vr:Value} {R:List Af} (h:Cw C W0 q px p x As cs Am cm W l bo it st di vk vi vr K I R):CS W px x As cs Am cm:=h.bx
end Go.Proofs.YthkkllmmbefedaaGreatDoor



