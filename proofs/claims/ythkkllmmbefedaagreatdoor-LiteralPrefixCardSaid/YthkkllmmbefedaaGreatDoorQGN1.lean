/-
  Walks: the maker of values: value.
-/
import Derived.Test.YthkkllmmbefedaaGreatDoorQMK6
namespace Go.Proofs.YthkkllmmbefedaaGreatDoor
open Go.Proofs.Tryz
set_option maxHeartbeats 16000000
set_option maxRecDepth 100000
variable {t:Int} {s:List Aa}
theorem wP {v:Val} (h0:0<=t) (h1:t<(s.length:Int)) (hk:v.kind=(AO s t).kind) (hp:zJ v=true) (hb:Ak (fun t y=>BX s false t y) false (AO s t) v=true):BX s false t v=true:=by
 refine TD ⟨SizeOf.sizeOf v+1,?_⟩;rw[Ad,Pd (by omega),Pd (by rw[hp];simp[hk])]
 refine Nt (fun t y hy hf=>?_) hb
 have:=RZ v hy;exact Zd (n:=SizeOf.sizeOf y) hf _ (by omega)
theorem FY {v:Val} (h0:0<=t) (h1:t<(s.length:Int)) (hk:v.kind=(AO s t).kind) (hp:zJ v=true) (hb:Ak (fun t y=>BX s false t y) false (AO s t) v=true) (hs:v.str.size<=1000) (hr:∀r∈v.rest,r.data.size<=3) (hks:∀y∈v.keys,Ku y) (his:∀y∈v.items,Ku y):BN s t v=true:=by
 refine Ma.2 ⟨wP h0 h1 hk hp hb,?_⟩;obtain ⟨a,b,c,d,e,ks,is,rs⟩:=v;rw[Ku];exact ⟨Nat.le_trans hs (by decide),fun r h=>Nat.le_trans (hr r h) (by decide),(IK ks).2 hks,(IK is).2 his⟩
theorem Jm:∀r∈([]:List Af),r.data.size<=3:=fun _ h=>by cases h
theorem Ep:∀y∈([]:List Val),Ku y:=fun _ h=>by cases h
theorem fM {v:Val} (h:BN s t v=true):BX s false t v=true:=(Ma.1 h).1
theorem fS {v:Val} (h:BN s t v=true):Ku v:=(Ma.1 h).2
structure Mt (s:List Aa):Prop where
 v:zQ s=0
 n64:DW s
 len:s.length<=5
 int:∀t,(AO s t).kind=2 -> -1000<=(AO s t).low/\(AO s t).low<=(AO s t).high/\(AO s t).high<=1000
 max:∀t,0<=(AO s t).max/\(AO s t).max<=1000
 ids:∀t,xH (AO s t)
 sym:∀t,(AO s t).kind=4->(AO s t).AX≠[]
 syl:∀t,(AO s t).AX.length<=100
 mem:∀t,(AO s t).kind=6->(AO s t).AA≠[]
 mel:∀t,(AO s t).AA.length<=100
 asc:∀t,((AO s t).AA.map (·.id)).Pairwise (· < ·)
 vZ:∀t,0<=t->t<(s.length:Int)->(AO s t).kind=5\/(AO s t).kind=6->∀m∈(AO s t).AA,(0<=m.type/\m.type<(s.length:Int))/\(7<=(AO s m.type).kind\/m.type<t)
 dfl:∀t,∀m∈(AO s t).AA,m.Et=true->BN s m.type m.dflt=true/\m.dflt.keys=[]/\m.dflt.items=[]/\m.dflt.rest=[]/\Cw m.dflt.str
def Lp (s:List Aa) (t:Int):Nat:=if 7<=(AO s t).kind then 0 else t.toNat+1
theorem jE (h:s.length<=5) (h1:t<(s.length:Int)):Lp s t<=5:=by
 unfold Lp;split <;> omega
variable {x:Aa}
theorem jJ {r:Af} (hu:K3 x r.id=false) (h:1<=r.id/\r.id<=14):Dk x [r]=true:=by
 unfold K3 at hu;rw[Bool.or_eq_false_iff] at hu;unfold Dk Dk BD;simp only[Bool.and_true,AAD,AAV,ABQ];refine ⟨fun m hm e=>?_,by omega,by omega⟩
 have:=List.any_eq_false.1 hu.1 m hm;simp[e] at this
section
variable {s:List Aa} {t:Int}
theorem ZK {b:Bool} (h0:0<=t) (h1:t<(s.length:Int)) (hk:(AO s t).kind=1):BN s t (.mk 1 b 0 ⟨#[]⟩ 0 [] [] [])=true :=
 FY h0 h1 hk.symm (by cases b <;> rfl) (by unfold Ak;rw[hk];rfl) (show (0:Nat)<=1000 by omega) Jm Ep Ep
theorem jv {i:Int} (h0:0<=t) (h1:t<(s.length:Int)) (hk:(AO s t).kind=2) (hi:(AO s t).low<=i/\i<=(AO s t).high):BN s t (.mk 2 false i ⟨#[]⟩ 0 [] [] [])=true :=
 FY h0 h1 hk.symm (by simp[zJ,Az,Val.kind,Val.bool,Val.int,Val.str,Val.id,Val.keys,Val.items,Val.rest]) (by unfold Ak;rw[AAB hk];simp[Val.int,hi]) (show (0:Nat)<=1000 by omega) Jm Ep Ep
theorem jq {b:ByteArray} (h0:0<=t) (h1:t<(s.length:Int)) (hk:(AO s t).kind=3) (hb:(b.size:Int)<=(AO s t).max) (hb3:b.size<=3):BN s t (.mk 3 false 0 b 0 [] [] [])=true :=
 FY h0 h1 hk.symm (by simp[zJ,Az,Val.kind,Val.bool,Val.int,Val.str,Val.id,Val.keys,Val.items,Val.rest]) (by unfold Ak;rw[Pd (by omega),AAB hk];simp[Val.str,hb]) (Nat.le_trans hb3 (by decide)) Jm Ep Ep
theorem ZJ {i:Int} (h0:0<=t) (h1:t<(s.length:Int)) (hk:(AO s t).kind=4) (hi:(∃y∈(AO s t).AX,y.id=i)\/((AO s t).open_=true/\1<=i/\i<=14)):BN s t (.mk 4 false 0 ⟨#[]⟩ i [] [] [])=true :=
 FY h0 h1 hk.symm (by simp[zJ,Az,Val.kind,Val.bool,Val.int,Val.str,Val.id,Val.keys,Val.items,Val.rest]) (by
  unfold Ak BD;rw[Pd (by omega),Pd (by omega),AAB hk]
  rw[ACE]
  rcases hi with ⟨y,hy,e⟩|⟨e,g1,g2⟩
  ·exact .inl (ABx.2 ⟨y,hy,AAJ e⟩)
  ·right
   rw[e]
   show (true && !false&&(decide (1<=i)&&decide (i<=1000)))=true
   rw[AAJ g1,AAJ (by omega)];rfl) (show (0:Nat)<=1000 by omega) Jm Ep Ep
variable {xs:List Val}
theorem Xo (h0:0<=t) (h1:t<(s.length:Int)) (hk:(AO s t).kind=9) (hl:xs.length<=1) (hx:∀y∈xs,BN s (AO s t).elem y=true):BN s t (.mk 9 false 0 ⟨#[]⟩ 0 [] xs [])=true :=
 FY h0 h1 hk.symm (by simp[zJ,Az,Val.kind,Val.bool,Val.int,Val.str,Val.id,Val.keys,Val.items,Val.rest]) (by
  unfold Ak;rw[Pd (by omega),Pd (by omega),Pd (by omega),Pd (by omega),Pd (by omega),Pd (by omega),Pd (by omega),AAB hk]
  rw[AAD];exact ⟨AAJ hl,ABQ.2 fun y hy=>fM (hx y hy)⟩) (show (0:Nat)<=1000 by omega) Jm Ep (fun y hy=>fS (hx y hy))
theorem TJ (h0:0<=t) (h1:t<(s.length:Int)) (hk:(AO s t).kind=7) (hl:(xs.length:Int)<=(AO s t).max) (hx:∀y∈xs,BN s (AO s t).elem y=true):BN s t (.mk 7 false 0 ⟨#[]⟩ 0 [] xs [])=true :=
 FY h0 h1 hk.symm (by simp[zJ,Az,Val.kind,Val.bool,Val.int,Val.str,Val.id,Val.keys,Val.items,Val.rest]) (by
  unfold Ak;rw[Pd (by omega),Pd (by omega),Pd (by omega),Pd (by omega),Pd (by omega),AAB hk]
  rw[AAD];exact ⟨AAJ hl,ABQ.2 fun y hy=>fM (hx y hy)⟩) (show (0:Nat)<=1000 by omega) Jm Ep (fun y hy=>fS (hx y hy))
theorem jr {ks:List Val} (h0:0<=t) (h1:t<(s.length:Int)) (hk:(AO s t).kind=8) (hl:(ks.length:Int)<=(AO s t).max) (he:xs.length=ks.length) (hks:∀y∈ks,BN s (AO s t).key y=true) (ha:I9 ks=true) (hx:∀y∈xs,BN s (AO s t).elem y=true):BN s t (.mk 8 false 0 ⟨#[]⟩ 0 ks xs [])=true :=
 FY h0 h1 hk.symm (by simp[zJ,Az,Val.kind,Val.bool,Val.int,Val.str,Val.id,Val.keys,Val.items,Val.rest]) (by
  unfold Ak;rw[Pd (by omega),Pd (by omega),Pd (by omega),Pd (by omega),Pd (by omega),Pd (by omega),AAB hk]
  simp only[AAD];exact ⟨⟨⟨⟨AAJ hl,AAJ he⟩,ABQ.2 fun y hy=>fM (hks y hy)⟩,ha⟩,ABQ.2 fun y hy=>fM (hx y hy)⟩) (show (0:Nat)<=1000 by omega) Jm (fun y hy=>fS (hks y hy)) (fun y hy=>fS (hx y hy))
theorem vY {rs:List Af} (h0:0<=t) (h1:t<(s.length:Int)) (hk:(AO s t).kind=5) (hl:xs.length=(AO s t).AA.length) (hr:Dk (AO s t) rs=true) (hr3:∀r∈rs,r.data.size<=3) (hx:∀i (h:i<(AO s t).AA.length) (h':i<xs.length),BN s ((AO s t).AA[i]).type xs[i]=true):BN s t (.mk 5 false 0 ⟨#[]⟩ 0 [] xs rs)=true :=
 FY h0 h1 hk.symm (by simp[zJ,Az,Val.kind,Val.bool,Val.int,Val.str,Val.id,Val.keys,Val.items,Val.rest]) (by
  unfold Ak;rw[Pd (by omega),Pd (by omega),Pd (by omega),AAB hk]
  simp only[AAD];refine ⟨⟨⟨AAJ hl,rfl⟩,hr⟩,ABQ.2 fun p hp=>?_⟩
  obtain ⟨i,hi,e⟩:=ABi hp;rw[List.length_zip] at hi;rw[List.getElem_zip] at e;subst e;exact fM (hx i (by omega) (show i<(Val.items (.mk 5 false 0 ⟨#[]⟩ 0 [] xs rs)).length by omega))) (show (0:Nat)<=1000 by omega) hr3 Ep (fun y hy=>by
  obtain ⟨i,hi,e⟩:=ABi hy;subst e;have h2:i<xs.length:=hi;exact fS (hx i (by omega) h2))
theorem jy {l:List Ac} (h:(l.map (·.id)).Pairwise (· < ·)) {i:Nat} (hi:i<l.length):l.find? (fun m=>decide (m.id=(l[i]).id))=some l[i]:=by
 induction l generalizing i with
 | nil=>simp at hi
 | cons a r ih =>
  rw[ABh,List.pairwise_cons] at h
  cases i with
  | zero=>rw[List.find?_cons_of_pos (by simp)];rfl
  | succ i =>
   have hi':i<r.length:=by simpa using hi
   have hlt:=h.1 (r[i]).id (List.mem_map.2 ⟨_,AAL hi',rfl⟩);rw[List.find?_cons_of_neg (by simp;omega)]
   exact ih h.2 hi'
theorem jo {i:Nat} {y:Val} (ha:((AO s t).AA.map (·.id)).Pairwise (· < ·)) (h0:0<=t) (h1:t<(s.length:Int)) (hk:(AO s t).kind=6) (hi:i<(AO s t).AA.length) (hy:BN s ((AO s t).AA[i]).type y=true):BN s t (.mk 6 false 0 ⟨#[]⟩ ((AO s t).AA[i]).id [] [y] [])=true :=
 FY h0 h1 hk.symm (by simp[zJ,Az,Val.kind,Val.bool,Val.int,Val.str,Val.id,Val.keys,Val.items,Val.rest]) (by
  unfold Ak;rw[Pd (by omega),Pd (by omega),Pd (by omega),Pd (by omega),AAB hk]
  show (match List.find? (fun m=>decide (m.id=((AO s t).AA[i]).id)) (AO s t).AA with
   | some m=>decide ([y].length=1)&&decide (([]:List Af).length=0)&&([y].all fun y=>BX s false m.type y)
   | none=>_)=true
  rw[jy ha hi];simp[fM hy]) (show (0:Nat)<=1000 by omega) Jm Ep (fun z hz=>by rw[List.mem_singleton.1 hz];exact fS hy)
theorem bJ {n:Int} {d:ByteArray} (h0:0<=t) (h1:t<(s.length:Int)) (hk:(AO s t).kind=6) (ho:(AO s t).open_=true) (hn:1<=n/\n<=14) (hu:K3 (AO s t) n=false) (hd:d.size<=3):BN s t (.mk 6 false 0 ⟨#[]⟩ n [] [] [⟨n,d⟩])=true :=
 FY h0 h1 hk.symm (by simp[zJ,Az,Val.kind,Val.bool,Val.int,Val.str,Val.id,Val.keys,Val.items,Val.rest]) (by
  unfold Ak BD;rw[Pd (by omega),Pd (by omega),Pd (by omega),Pd (by omega),AAB hk]
  have hf:(AO s t).AA.find? (fun m=>decide (m.id=n))=none:=by
   unfold K3 at hu;rw[Bool.or_eq_false_iff] at hu;rw[List.find?_eq_none]
   intro m hm e
   exact List.any_eq_false.1 hu.1 m hm e
  show (match List.find? (fun m=>decide (m.id=n)) (AO s t).AA with
   | some m=>_
   | none=>(AO s t).open_ && !false&&(decide (1<=n)&&decide (n<=1000))&&decide (([]:List Val).length=0)&&decide ([(⟨n,d⟩:Af)].length=1)&&([(⟨n,d⟩:Af)].all fun r=>decide (r.id=n)))=true
  rw[hf,ho,AAJ hn.1,AAJ (show n<=1000 by omega)]
  simp) (show (0:Nat)<=1000 by omega) (fun r hr=>by rw[List.mem_singleton.1 hr];exact hd) Ep Ep
end
open Go.RowKit
variable {l:List Int} {C:WI} {p px q:Nat} {W:World} {Am As:zo}
theorem DX.new (cs cm:Nat) (h:Ik C W l) (ht:J4 C.w0 x As Am) (hq:W.heap.size=q) (hp:q+1=px) (hp2:px+1=p):
  DX C W q px p x As cs Am cm (((W.alloc zO).alloc (x.box As cs Am cm)).alloc (I8 x.kind false 0 ⟨#[]⟩ 0 AP AP AP)) l false 0 ⟨#[]⟩ 0 AP AP AP [] [] []:=by
 have s1:(W.alloc zO).heap.size=px:=by simp;omega
 have s2:((W.alloc zO).alloc (x.box As cs Am cm)).heap.size=p:=by simp;omega
 have b1:=zD W zO;have b2:=zD (W.alloc zO) (x.box As cs Am cm);have b3:=zD ((W.alloc zO).alloc (x.box As cs Am cm)) (I8 x.kind false 0 ⟨#[]⟩ 0 AP AP AP);have r1:=h.below b1;have r2:=r1.below b2;have r3:=r2.below b3;have hv:=Hw.new ((W.alloc zO).alloc (x.box As cs Am cm)) x.kind;rw[s2] at hv;have hx:=AAA (W.alloc zO) (x.box As cs Am cm);rw[s1] at hx;have hz:=AAA W zO
 rw[hq] at hz;exact ⟨r3,hv,((h.BK b1).trans (r1.BK b2)).trans (r2.BK b3),⟨by omega,by omega,by omega⟩,h.lt,ht,Au hx b3,Au (Au hz b2) b3⟩
section
variable {C:WI} {W0 W:World} {q px p:Nat} {x:Aa} {As:zo} {cs:Nat} {Am:zo} {cm:Nat} {l:List Int} {bo:Bool} {it:Int} {st:ByteArray} {di:Int} {vk vi vr:Value} {K I:List Aj} {R:List Af}
variable {w4 w8:World}
theorem DX.c6 (h:DX C W0 q px p x As cs Am cm W l bo it st di vk vi vr K I R) (hb:Below W.heap.size W w4) (hg:w4.grownBy w8 vi.ownBlock):w8.cell? ⟨p,6,none⟩=some vi/\w8.frozen? ⟨p,6,none⟩=false:=by
 have h4:=h.below hb;obtain ⟨_,l2,_⟩:=Gi h4.vb;have hp:w8.heap[p]? = w4.heap[p]? := yA hg h4.vb.lt fun k hk e=>by have:=l2 k hk;omega
 have hc:=h4.vb.cells;exact ⟨by rw[World.cell?_of_block (w:=w4) (a:=⟨p,6,none⟩) hp];exact hc.1.2.2.2.2.2.2.1,by rw[World.frozen?_of_block (w:=w4) (a:=⟨p,6,none⟩) hp];exact hc.2 6⟩
theorem DX.rd6 (h:DX C W0 q px p x As cs Am cm W l bo it st di vk vi vr K I R) {w':World} (hb:Ah C.b W w'):(w'.cell? ⟨p,6,none⟩=some vi/\w'.cell? ⟨px,6,none⟩=some (.slice Am x.AA.length cm)/\w'.cell? ⟨px,8,none⟩=some (.int .i64 x.elem))/\Hid (Ah C.b W w'):=by
 obtain ⟨b1,b2,b3⟩:=h.bp;obtain ⟨_,_,_,_,_,_,t6,_,t8,_⟩:=zG (OQ h.bx hb (by omega))
 exact ⟨⟨(h.vb.BK hb b3).cells.1.2.2.2.2.2.2.1,t6,t8⟩,hb⟩
theorem DX.vK (h:DX C W0 q px p x As cs Am cm W l bo it st di vk vi vr K I R) (hb:Below W.heap.size W w4) (hg:w4.grownBy w8 vi.ownBlock):w8.cell? ⟨p,6,none⟩=some vi/\w8.cell? ⟨px,6,none⟩=some (.slice Am x.AA.length cm)/\w8.cell? ⟨px,8,none⟩=some (.int .i64 x.elem):=by
 have h4:=h.below hb;have hlo:=h.lo;obtain ⟨_,l2,_⟩:=Gi h4.vb;have hp:w8.heap[px]? = w4.heap[px]? := yA hg (zg.1 h4.bx).1 fun k hk e=>by have:=l2 k hk;omega
 obtain ⟨_,_,_,_,_,_,t6,_,t8,_⟩:=zG (show Ca w8 px x As cs Am cm from hp.trans h4.bx);exact ⟨(h.c6 hb hg).1,t6,t8⟩
theorem DX.up8 (h:DX C W0 q px p x As cs Am cm W l bo it st di vk vi vr K I R) (hb:Below W.heap.size W w4) (hg:w4.grownBy w8 vi.ownBlock):Below C.w0.heap.size C.w0 w8:=by
 have h4:=h.below hb;have hlo:=h.lo;have hbp:=h.bp;have hge:=h.ms.ge;obtain ⟨_,l2,_⟩:=Gi h4.vb;exact h4.ms.up.grown hg h4.ms.up.size fun k hk=>by have:=l2 k hk;omega
theorem DX.c7 (h:DX C W0 q px p x As cs Am cm W l bo it st di vk vi vr K I R):W.cell? ⟨p,7,none⟩=some vr/\W.frozen? ⟨p,7,none⟩=false:=⟨h.vb.cells.1.2.2.2.2.2.2.2,h.vb.cells.2 7⟩
end
abbrev qO:Obj := .cells #[.int .i64 0,.string ⟨#[]⟩,.int .i64 0,.bool false,.bool false,.int .i64 0,.bool false,.int .i64 0,.string ⟨#[]⟩,.int .i64 0,.slice none 0 0,.slice none 0 0,.slice none 0 0] 118
theorem Nf {g:Nat} (h:W.heap[g]? = some qO):W.there g 0 13:=fun j hj=>by
 refine ⟨?_,AAG _ _ _ _ _ h⟩;rw[AAC _ _ _ _ _ _ h]
 match j,hj with
 | 0,_=>rfl
 | 1,_=>rfl
 | 2,_=>rfl
 | 3,_=>rfl
 | 4,_=>rfl
 | 5,_=>rfl
 | 6,_=>rfl
 | 7,_=>rfl
 | 8,_=>rfl
 | 9,_=>rfl
 | 10,_=>rfl
 | 11,_=>rfl
 | 12,_=>rfl
theorem QD:(prog.info? 118).map (·.size)=some 13:=by kernel_rfl
theorem TL (m:Ac) (M1:zo) (m1:Nat) (M2:zo) (m2:Nat) (M3:zo) (m3:Nat):((m.cs M1 m1 M2 m2 M3 m3).toArray).all (·.oneCell')=true:=by
 refine all_oneCell_toArray fun u hu=>?_
 simp only[ABP,List.mem_nil_iff,or_false] at hu
 rcases hu with rfl|rfl|rfl|rfl|rfl|rfl|rfl|rfl|rfl|rfl|rfl|rfl|rfl <;> rfl
theorem KV {g:Nat} (h:W.heap[g]? = some qO) (m:Ac) (M1:zo) (m1:Nat) (M2:zo) (m2:Nat) (M3:zo) (m3:Nat):(W.setCells g 0 (m.cs M1 m1 M2 m2 M3 m3)).heap[g]? = some (.cells (m.cs M1 m1 M2 m2 M3 m3).toArray 118):=by
 rw[Bp _ _ _ _ h];simp[XG]
variable {bo:Bool} {st:ByteArray} {di it:Int} {cm cs:Nat} {W0:World}
theorem DX.vW {W':World} (h:DX C W0 q px p x As cs Am cm W l bo it st di AP AP AP [] [] []) (hb:Below (p+1) W W'):DX C W0 q px p x As cs Am cm W' l bo it st di AP AP AP [] [] [] :=
 h.rest ⟨(hb.block _ (by omega)).trans h.vb.blk,AZ.nil _ _,AZ.nil _ _,AZ.nil _ _,(fun _ e=>by cases e),(fun _ e=>by cases e),h.vb.str,h.vb.raw⟩ (hb.mono (by omega))
variable {I K:List Aj} {vi vk:Value} {w8:World}
theorem DX.put {LF G5:Value} {K' I':List Aj} (h:DX C W0 q px p x As cs Am cm W l false 0 ⟨#[]⟩ 0 vk vi AP K I []) (hb:Below W.heap.size W w8) {b:Nat} (hpb:p<b) (_hbW:b<=W.heap.size) (ho:Dc w8 b LF K') (hi:Dc w8 b G5 I') (hne:∀s,LF.ownBlock=some s->G5.ownBlock≠some s) (hoff:∀y∈K'++I',Off (R8 p LF G5 AP) w8 fun u=>Ar u y.v y.A1 y.A2 y.A3):
  DX C W0 q px p x As cs Am cm (w8.setCells p 0 [.int .i64 x.kind,.bool false,.int .i64 0,.string ⟨#[]⟩,.int .i64 0,LF,G5,AP]) l false 0 ⟨#[]⟩ 0 LF G5 AP K' I' []:=by
 have h8:=h.below hb;have hbx:=h8.vb.blk;unfold I8 at hbx;have hs:=yC (B:=p) (w:=W) p (AAF _) [.int .i64 x.kind,.bool false,.int .i64 0,.string ⟨#[]⟩,.int .i64 0,LF,G5,AP] 0 w8 (hb.mono (AAM h.vb.lt));refine h.rest ⟨?_,?_,?_,AZ.nil _ _,hne,fun y hy=>(hoff y hy).setCells (.inl (AAF _)) _ _,h.vb.str,h.vb.raw⟩ hs
 ·rw[Bp _ _ _ _ hbx];unfold I8;simp[XG]
 ·exact MN (ho.keep fun g hg _ _=>zN (by omega) _ _ _) hpb
 ·exact MN (hi.keep fun g hg _ _=>zN (by omega) _ _ _) hpb
theorem DX.same (h:DX C W0 q px p x As cs Am cm W l false 0 ⟨#[]⟩ 0 vk vi AP K I []) (hb:Below W.heap.size W w8):
  DX C W0 q px p x As cs Am cm (w8.setCells p 0 [.int .i64 x.kind,.bool false,.int .i64 0,.string ⟨#[]⟩,.int .i64 0,vk,vi,AP]) l false 0 ⟨#[]⟩ 0 vk vi AP K I []:=by
 have h8:=h.below hb;have hbx:=h8.vb.blk;unfold I8 at hbx;have hs:=yC (B:=p) (w:=W) p (AAF _) [.int .i64 x.kind,.bool false,.int .i64 0,.string ⟨#[]⟩,.int .i64 0,vk,vi,AP] 0 w8 (hb.mono (AAM h.vb.lt));refine h.rest ⟨?_,?_,?_,AZ.nil _ _,h.vb.ne,fun y hy=>(h8.vb.off y hy).setCells (.inl (AAF _)) _ _,h.vb.str,h.vb.raw⟩ hs
 ·rw[Bp _ _ _ _ hbx];unfold I8;simp[XG]
 ·exact h8.vb.ok.keep fun g hg _ _=>zN (by omega) _ _ _
 ·exact h8.vb.oi.keep fun g hg _ _=>zN (by omega) _ _ _
theorem DX.ACw (h:DX C W0 q px p x As cs Am cm W l false 0 ⟨#[]⟩ 0 vk vi AP K I []) (hkd:x.kind=8) {y z:Aj} (hy:Off (R8 p vk vi AP) W fun u=>Ar u y.v y.A1 y.A2 y.A3) (hz:Off (R8 p vk vi AP) W fun u=>Ar u z.v z.A1 z.A2 z.A3) (hle:I.length=K.length) (hkk:∀v∈K,v.v.kind=y.v.kind/\(1<=v.v.kind/\v.v.kind<=4)) (hasc:I9 (K.map (·.v))=true) {e:Ending} (hp:ABH W vk vi K I y z e w8):
  ∃LF G5 K' I',e = .returned (.agg #[.int .i64 x.kind,.bool false,.int .i64 0,.string ⟨#[]⟩,.int .i64 0,LF,G5,AP])/\Below W.heap.size W w8/\DX C W0 q px p x As cs Am cm (w8.setCells p 0 [.int .i64 x.kind,.bool false,.int .i64 0,.string ⟨#[]⟩,.int .i64 0,LF,G5,AP]) l false 0 ⟨#[]⟩ 0 LF G5 AP K' I' [] /\
   I'.length=K'.length/\K'.length<=K.length+1/\I9 (K'.map (·.v))=true/\(∀v∈K',v∈K\/v=y)/\(∀v∈I',v∈I\/v=z)/\(K'=[]->LF=vk/\G5=vi/\K=[]):=by
 obtain ⟨LF,G5,K',I',rfl,hb,hp⟩:=hp;rw[hkd]
 rcases hp with ⟨rfl,rfl,rfl,rfl⟩|⟨ho,hi,hne,i,hik,rfl,rfl,hlt,hnl⟩
 ·have h9:=h.same hb
  rw[hkd] at h9;exact ⟨_,_,_,_,rfl,hb,h9,hle,by omega,hasc,fun v hv => .inl hv,fun v hv => .inl hv,fun e=>⟨rfl,rfl,e⟩⟩
 ·have hmem:∀ {α:Type} (l:List α) (a v:α),v∈l.take i++[a]++l.drop i->v∈l\/v=a:=fun l a v hv=>by
   rcases ABY.1 hv with hv|hv
   ·rcases ABY.1 hv with hv|hv
    ·exact .inl (List.mem_of_mem_take hv)
    ·exact .inr (by simpa using hv)
   ·exact .inl (List.mem_of_mem_drop hv)
  have h9:=h.put hb (b:=W.heap.size) h.vb.lt (AAF _) ho hi hne fun v hv=>by
   have hv':Off (R8 p vk vi AP) W fun u=>Ar u v.v v.A1 v.A2 v.A3:=by
    rcases ABY.1 hv with hv|hv
    ·rcases hmem _ _ _ hv with hv|rfl
     ·exact h.vb.off v (ABj _ hv)
     ·exact hy
    ·rcases hmem _ _ _ hv with hv|rfl
     ·exact h.vb.off v (ABw _ hv)
     ·exact hz
   refine hv'.grow (fun s hs hn=>?_) (fun s hs _=>hb.block s hs) hb.size
   rcases hn with e|e|e|e
   ·exact .inl e
   ·have:=(World.ownsRow.lt ho s e).1;omega
   ·have:=(World.ownsRow.lt hi s e).1;omega
   ·cases e
  rw[hkd] at h9;have hml:((K.take i++[y]++K.drop i).map (·.v))=(K.map (·.v)).take i++[y.v]++(K.map (·.v)).drop i:=by simp[List.map_take,List.map_drop]
  refine ⟨_,_,_,_,rfl,hb,h9,by simp;omega,by simp;omega,?_,hmem _ _,hmem _ _,fun e=>?_⟩
  ·rw[hml]
   refine rP hasc (by rw[AAt];exact hik) (fun v hv=>?_) (fun j hj hji=>?_) (fun hj=>?_)
   ·obtain ⟨v',hv',rfl⟩:=List.mem_map.1 hv
    exact hkk v' hv'
   ·rw[List.getElem_map];exact hlt j (by rw[AAt] at hj;exact hj) hji
   ·rw[List.getElem_map];exact hnl (by rw[AAt] at hj;exact hj)
  ·exact absurd e (by simp)
theorem gP {w:World} {kd:Int} {vr:Value} {R:List Af} (h:Hw p w kd bo it st di vk vi vr K I R):w.there p 0 8:=fun j hj=>by
 obtain ⟨⟨h0,h1,h2,h3,h4,h5,h6,h7⟩,hf⟩:=h.cells;refine ⟨?_,hf _⟩
 match j,hj with
 | 0,_=>rw[h0];rfl
 | 1,_=>rw[h1];rfl
 | 2,_=>rw[h2];rfl
 | 3,_=>rw[h3];rfl
 | 4,_=>rw[h4];rfl
 | 5,_=>rw[h5];rfl
 | 6,_=>rw[h6];rfl
 | 7,_=>rw[h7];rfl
theorem kE (hfk:∀y:Val,BN C.s x.key y=true->(1<=y.kind/\y.kind<=4)/\y.kind=(AO C.s x.key).kind/\(y.kind=2->In64 y.int)) (hK:∀v∈K,BN C.s x.key v.v=true) {y:Aj} (hy:BN C.s x.key y.v=true) (h:DX C W0 q px p x As cs Am cm W l false 0 ⟨#[]⟩ 0 vk vi AP K I []) (hyo:Off (R8 p vk vi AP) W fun u=>Ar u y.v y.A1 y.A2 y.A3):
  ∀v∈K,v.v.kind=y.v.kind/\(1<=v.v.kind/\v.v.kind<=4)/\(v.v.kind=2->In64 v.v.int/\In64 y.v.int)/\(v.v.str.size<=9223372036854775807/\y.v.str.size<=9223372036854775807):=fun v hv=>by
 obtain ⟨a1,a2,a3⟩:=hfk _ (hK v hv);obtain ⟨b1,b2,b3⟩:=hfk _ hy;have s1:Cw v.v.str:=(h.vb.off v (ABj _ hv)).O.1;have s2:Cw y.v.str:=hyo.O.1;unfold Cw at s1 s2;exact ⟨by rw[a2,b2],a1,fun e=>⟨a3 e,b3 (by rw[b2,<-a2];exact e)⟩,by omega,by omega⟩
theorem qQ (kd:Int) (A3:zo) (n3 c3:Nat) (A4:zo) (n4 c4:Nat):(#[.int .i64 kd,.bool false,.int .i64 0,.string ⟨#[]⟩,.int .i64 0,.slice A3 n3 c3,.slice A4 n4 c4,AP]:Array Value).all (·.oneCell')=true:=by
 refine all_oneCell_toArray (cs:=[.int .i64 kd,.bool false,.int .i64 0,.string ⟨#[]⟩,.int .i64 0,.slice A3 n3 c3,.slice A4 n4 c4,AP]) fun u hu=>?_
 simp only[ABP,List.mem_nil_iff,or_false] at hu
 rcases hu with rfl|rfl|rfl|rfl|rfl|rfl|rfl|rfl <;> rfl
theorem vX {lo hi c D0:Int} (h:-1000<=lo/\lo<=hi/\hi<=1000) (hc:0<=c/\c<256) (hd:hi - lo=D0):lo<=IntKind.i64.wrap (lo+c.tmod (D0+1))/\IntKind.i64.wrap (lo+c.tmod (D0+1))<=hi:=by
 have h1:=Int.emod_nonneg c (show D0+1≠0 by omega)
 have h2:=Int.emod_lt_of_pos c (show 0<D0+1 by omega)
 rw[Int.tmod_eq_emod_of_nonneg hc.1,IntWalk.i64_in _ (by omega)]
 omega
def Lf (C:WI) (n:Nat):Prop:=∀ (t:Int) (W:World) (l:List Int),l.length * 7+Lp C.s t<n->(0<=t/\t<(C.s.length:Int))->Ik C W l ->
 Calls prog 74 #[.pointer (some ⟨C.b,0,none⟩),.int .i64 t] W (zi C t W l)
def MvE (C:WI) (W:World) (q px p:Nat) (x:Aa) (As:zo) (cs:Nat) (Am:zo) (cm:Nat) (t:Int) (l:List Int) (wx:World):Prop:=∃bo it st di vk vi vr K I R l',DX C W q px p x As cs Am cm wx l' bo it st di vk vi vr K I R/\l'.length<=l.length/\(K.length<=2000000/\I.length<=2000000/\R.length<=2000000)/\BN C.s t (.mk x.kind bo it st di (K.map (·.v)) (I.map (·.v)) R)=true
theorem DX.cells {vr:Value} {R:List Af} (h:DX C W0 q px p x As cs Am cm W l bo it st di vk vi vr K I R):Ca W px x As cs Am cm:=h.bx
