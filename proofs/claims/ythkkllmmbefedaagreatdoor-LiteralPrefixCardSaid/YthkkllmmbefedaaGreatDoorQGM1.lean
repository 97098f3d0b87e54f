/-
  append of a slice, also of an empty one, onto an own row.
-/
import Derived.Test.YthkkllmmbefedaaGreatDoorQGN0
namespace Go.Proofs.YthkkllmmbefedaaGreatDoor
open Go.RowKit Go.Proofs.Tryz
set_option maxHeartbeats 16000000
set_option maxRecDepth 100000
theorem MK (a b:Val) (hk:a.kind=b.kind) (wN:1<=a.kind/\a.kind<=4) (hi:a.kind=2->In64 a.int/\In64 b.int) (_hz:a.str.size<=9223372036854775807/\b.str.size<=9223372036854775807) (A1:zo) (c1:Nat) (A2:zo) (c2:Nat) (A3:zo) (c3:Nat) (B1:zo) (d1:Nat) (B2:zo) (d2:Nat) (B3:zo) (d3:Nat) (w:World) :
  Calls prog 107 #[a.v A1 c1 A2 c2 A3 c3,b.v B1 d1 B2 d2 B3 d3] w fun e w'=>e = .returned (.int .i64 (BZ a b))/\Below w.heap.size w w':=by
 have HB:=zh (zI w (a.box A1 c1 A2 c2 A3 c3) (b.box B1 d1 B2 d2 B3 d3));have HX:=zh (FH (AAA w (a.box A1 c1 A2 c2 A3 c3)) (b.box B1 d1 B2 d2 B3 d3));have HY:Hid (((w.alloc (a.box A1 c1 A2 c2 A3 c3)).alloc (b.box B1 d1 B2 d2 B3 d3)).heap[w.heap.size+1]? = some (b.box B1 d1 B2 d2 B3 d3)):=by
  have:=AAA (w.alloc (a.box A1 c1 A2 c2 A3 c3)) (b.box B1 d1 B2 d2 B3 d3);rw[show (w.alloc (a.box A1 c1 A2 c2 A3 c3)).heap.size=w.heap.size+1 by simp] at this
  exact this
 have q0:(a.kind != b.kind)=false:=by simp[hk]
 have hk4:a.kind=1\/a.kind=2\/a.kind=3\/a.kind=4:=by omega
 have HK:=zh hk;have HI:=zh hi;clear hk wN hi
 go_enter func107,ntmps107
 go_upto_region 1 with fail
 generalize (w.alloc (a.box A1 c1 A2 c2 A3 c3)).alloc (b.box B1 d1 B2 d2 B3 d3)=W1 at *;obtain ⟨u0,u1,u2,u3,u4,u5,u6,u7⟩:=zF HX;obtain ⟨v0,v1,v2,v3,v4,v5,v6,v7⟩:=zF HY
 rcases hk4 with e|e|e|e
 ·have q1:(a.kind==1)=true:=by simp[e]
  have HD:=zh (ABC HK e);obtain ⟨X,hX⟩:∃X,(a.bool==b.bool)=X:=⟨_,rfl⟩;rw[hX] at HD;clear e;go_wp2_with fail;refine (FK b.bool X _).mono ?_;rintro e w2 ⟨rfl,rfl⟩;go_wp2;go_ret;exact ⟨by rw[HD.O];rfl,HB.O⟩
 ·have q1:(a.kind==1)=false:=by simp[e]
  have q2:(a.kind==2)=true:=by simp[e]
  have HD:=zh (ABB HK e);have HI2:=zh (HI.O e);have Kn:Hid (∀w',Below W1.heap.size W1 w'->(w'.cell? ⟨w.heap.size,2,none⟩=some (.int .i64 a.int)/\w'.cell? ⟨w.heap.size+1,2,none⟩=some (.int .i64 b.int))):=fun w' hb=>⟨zA hb u2,zA hb v2⟩
  clear e;go_upto_region 7 with fail
  clear u0 u1 u2 u3 u4 u5 u6 u7 v0 v1 v2 v3 v4 v5 v6 v7;refine zr (Y:=fun w'=>Hid (Below W1.heap.size W1 w')) Kn (by kernel_rfl) ?_ (fun AQ=>?_)
  ·(try dsimp only);exact ⟨Kn.O _ (zC (Pe _ _) 1),zC (Pe _ _) 1⟩
  refine tL 0 ?_;refine tL 1 ?_;refine tL 3 ?_;refine tL 4 ?_;refine tL 7 ?_;refine tL 8 ?_;try simp only[ps]
  refine tL 9 ?_;refine tL 10 ?_;refine tL 11 ?_;refine tR 2 (fun K hK=>?_)
  go_simp
  (refine (Uy a.int HI2.O.1 _).mono ?_;rintro e w2 ⟨rfl,rfl⟩)
  refine hK.out _ _ ?_ (fun AQ=>?_)
  ·(try dsimp only);exact AQ
  clear hK K;refine tR 5 (fun K hK=>?_)
  go_simp
  (refine (Uy b.int HI2.O.2 _).mono ?_;rintro e w2 ⟨rfl,rfl⟩)
  refine hK.out _ _ ?_ (fun AQ=>?_)
  ·(try dsimp only);exact AQ
  clear hK K;refine tL 6 ?_;try simp only[ps]
  refine tR 12 (fun K hK=>?_)
  go_simp
  (refine (FK (decide (Qy a.int<Qy b.int)) (a.int==b.int) _).mono ?_;rintro e w2 ⟨rfl,rfl⟩)
  refine hK.out _ _ ?_ (fun AQ=>?_)
  ·(try dsimp only);exact AQ
  clear hK K;refine tL 13 ?_;refine wpAnyH_done (by kernel_rfl) ?_ _
  (have JX:=zh (zB HB AQ.2.O);clear AQ;go_wp2;go_ret;exact ⟨by rw[HD.O];rfl,JX.O⟩)
 ·have q1:(a.kind==1)=false:=by simp[e]
  have q2:(a.kind==2)=false:=by simp[e]
  have q3:(a.kind==3)=true:=by simp[e]
  by_cases hs:(a.str.size:Int)=b.str.size
  ·have HD:=zh (wU HK e hs)
   have z1:((a.str.size:Int) != (b.str.size:Int))=false:=by simp only[bne_eq_false_iff_eq];exact hs
   obtain ⟨Y,hY⟩:∃Y,Op.bytesLess a.str.toList b.str.toList=Y:=⟨_,rfl⟩;obtain ⟨X,hX⟩:∃X,(a.str.toList==b.str.toList)=X:=⟨_,rfl⟩;have HD2:Hid (BZ a b=NZ Y X):=by show _=_;rw[HD.O,<-hY,<-hX,bytes_beq];rfl
   clear e hs HD;go_wp2_with fail;refine (FK Y X _).mono ?_;rintro e w2 ⟨rfl,rfl⟩;go_wp2;go_ret;exact ⟨by rw[HD2.O];rfl,HB.O⟩
  ·have HD:=zh (wV HK e hs)
   have z1:((a.str.size:Int) != (b.str.size:Int))=true:=by simp only[bne_iff_ne];exact hs
   obtain ⟨Y,hY⟩:∃Y,decide ((a.str.size:Int)<(b.str.size:Int))=Y:=⟨_,rfl⟩;rw[hY] at HD;clear e hs
   cases Y with
   | true =>
    have z2:(a.str.size:Int)<(b.str.size:Int):=AAr hY;clear hY;go_wp2_with fail;refine (FK true false _).mono ?_;rintro e w2 ⟨rfl,rfl⟩;go_wp2;go_ret;exact ⟨by rw[HD.O];rfl,HB.O⟩
   | false =>
    have z2:¬ (a.str.size:Int)<(b.str.size:Int):=of_decide_eq_false hY;clear hY;go_wp2_with fail;refine (FK false false _).mono ?_;rintro e w2 ⟨rfl,rfl⟩;go_wp2;go_ret;exact ⟨by rw[HD.O];rfl,HB.O⟩
 ·have q1:(a.kind==1)=false:=by simp[e]
  have q2:(a.kind==2)=false:=by simp[e]
  have q3:(a.kind==3)=false:=by simp[e]
  have q4:(a.kind==4)=true:=by simp[e]
  have HD:=zh (ABA HK e);clear e;go_wp2_with fail;refine (FK (decide (a.id<b.id)) (a.id==b.id) _).mono ?_;rintro e w2 ⟨rfl,rfl⟩;go_wp2;go_ret;exact ⟨by rw[HD.O];rfl,HB.O⟩
variable {w:World}
theorem AU {T E:TypeId} {size bytes:Nat} (hE:Elem T E size bytes) {ops:Array Oper} {op:Oper} {a:Act} {K:Act->World->Prop} {Q:Exit->Act->World->Prop} {El:Prop} (hgd:op.guard=none) (s x:Operand) (ho:op.op = .call { callee := .builtin .append,args:=#[s,x],argTypes:=#[T,T] }) (base:Nat) (v:Value) (n:Nat) (xs:List Value) (hs:a.eval s=v) (h:w.ownsRow base E size v n xs) (A:zo) (m c:Nat) (news:List Value) (hx:a.eval x = .slice A m c) (hl:news.length=m * size) (hnews:m≠0->∃b o,A=some ⟨b,o,none⟩/\w.rangeAt b o news) (h1:∀u∈news,u.oneCell'=true) (hlen:n+m<=9223372036854775807) (hby:(n+m) * bytes<=140737488355328) (hb:base<=w.heap.size) (hk:∀v' w',w'.ownsRow base E size v' (n+m) (xs++news)->w.grownBy w' v.ownBlock->(v'.ownBlock=v.ownBlock\/v'.ownBlock=some w.heap.size)->K (a.put op.dst v') w'):if Region.wanted op (yielded ops a.tmps)=true then Oper.wp prog op a w K Q else El:=by
 cases A with
 | some a0 =>
  obtain ⟨z,QJ,hzs⟩:=hE.info;obtain ⟨i0,hi,hz0,hz1,hz2⟩:=info_parts QJ;have hw:Region.wanted op (yielded ops a.tmps)=true:=by simp[Region.wanted,hgd]
  rw[AAB hw];obtain ⟨v',w',hr,h2,h3,_,h5⟩:=run_append_own_at (P:=prog) w base T op.type E i0 z size bytes hE.under hi hz0 hz1 hz2 hzs hE.pos v n xs h a0 m c news hl (fun j u hj=>by
   have hm:m≠0:=fun e=>by subst e;rw[Nat.zero_mul] at hl;rw[AAn hl] at hj;simp at hj
   obtain ⟨b,o,e,hr⟩:=hnews hm
   cases e
   rw[Addr.add_mid];exact hr j u hj) h1 (by unfold maxLen;omega) hby hb
  unfold Oper.wp execOp;simp only[ho,resolve,invoke,builtin,Sem.run_bind,Sem.run_pure,Result.andThen_ok,List.map_toArray,ABh,List.map_nil,hs,hx,hr];exact hk v' w' h2 h3 h5
 | none =>
  have hm:m=0:=by
   by_cases e:m=0
   ·exact e
   ·obtain ⟨b,o,e2,_⟩:=hnews e;cases e2
  subst hm;obtain rfl:news=[]:=AAn (by rw[hl,Nat.zero_mul])
  obtain ⟨z,QJ,hzs⟩:=hE.info;obtain ⟨i0,hi,_⟩:=info_parts QJ;have hw:Region.wanted op (yielded ops a.tmps)=true:=by simp[Region.wanted,hgd]
  rw[AAB hw];have hr:=Om (P:=prog) base T op.type E i0 size hE.under hi v n xs h c;unfold Oper.wp execOp;simp only[ho,resolve,invoke,builtin,Sem.run_bind,Sem.run_pure,Result.andThen_ok,List.map_toArray,ABh,List.map_nil,hs,hx,hr];exact hk v w (by rw[List.append_nil];exact h) (X8 _ _) (.inl rfl)
variable {L:List Aj} {v:Value}
theorem NY {base:Nat} (h:Dc w base v L):∃A c,v = .slice A L.length c/\L.length<=c/\((∀i (hi:i<L.length),∃g,A=some ⟨g,0,none⟩/\w.rangeAt g (0+i * 8) (L[i]).cells)/\∀i m,i+m<=L.length->m≠0->∃g,A=some ⟨g,0,none⟩/\w.rangeAt g (0+i * 8) (((L.drop i).take m).flatMap Aj.cells)):=by
 obtain ⟨A,c,e,h1,h2,h3⟩:=h.reads;have hseg:∀i m,i+m<=L.length->m≠0->∃g,A=some ⟨g,0,none⟩/\w.rangeAt g (0+i * 8) (((L.drop i).take m).flatMap Aj.cells):=fun i m hm hm0=>by
  obtain ⟨g,hg,_,hr⟩:=h3 (fun e=>by subst e;simp at hm;omega)
  refine ⟨g,hg,fun j u hj=>?_⟩
  have hsp:L.flatMap Aj.cells=(L.take i).flatMap Aj.cells++((L.drop i).take m).flatMap Aj.cells++((L.drop i).drop m).flatMap Aj.cells:=by
   rw[<-List.flatMap_append,<-List.flatMap_append,AAo,List.take_append_drop,List.take_append_drop]
  have hl1:((L.take i).flatMap Aj.cells).length=i * 8:=by
   rw[List.flatMap_def,Cy (k:=8) _ (fun cs hc=>by obtain ⟨y,_,rfl⟩:=List.mem_map.1 hc;rfl),AAt,List.length_take]
   rw[Nat.min_eq_left (by omega)]
  have:=hr (i * 8+j) u (by
   rw[hsp,AAo,ABm (by omega),hl1,Nat.add_sub_cancel_left,ABo (AAv.1 hj).1]
   exact hj)
  rw[Nat.zero_add] at this ⊢;exact this
 refine ⟨A,c,e,h1,fun i hi=>?_,hseg⟩
 obtain ⟨g,hg,hr⟩:=hseg i 1 (by omega) (by omega)
 refine ⟨g,hg,?_⟩;rw[ABf hi,List.take_succ_cons,List.take_zero,ABy,List.flatMap_nil,List.append_nil] at hr;exact hr
variable {b:Nat}
theorem p9 (u:World) (h:b<=u.heap.size):Dc (u.alloc (.cells #[] 28)) b (.slice (some ⟨u.heap.size,0,none⟩) 0 0) [] :=
 World.ownsRow_lit (base:=b) (e:=28) (size:=8) u #[] 0 h (by unfold maxLen;omega) rfl
theorem DK (u:World) {p:Nat} (hp:u.heap.size=p) (h:b<=p):Dc (u.alloc (.cells #[] 28)) b (.slice (some ⟨p,0,none⟩) 0 0) []:=by
 subst hp;exact p9 u h
theorem Dl (u:World) {p:Nat} (hp:u.heap.size=p) (cs:List Value) (T:TypeId):(u.alloc (.cells cs.toArray T)).rangeAt p 0 cs:=by
 subst hp;exact zR u cs T
theorem KP {k:Nat} (hk:k<=L.length) {y:Aj} (h:w.ownsRow b 28 8 v (0+k+1+(L.length - k)) ([]++(L.take k).flatMap Aj.cells++y.cells++(L.drop k).flatMap Aj.cells)):Dc w b v (L.take k++[y]++L.drop k):=by
 have e1:(L.take k++[y]++L.drop k).length=0+k+1+(L.length - k):=by simp;omega
 have e2:(L.take k++[y]++L.drop k).flatMap Aj.cells=[]++(L.take k).flatMap Aj.cells++y.cells++(L.drop k).flatMap Aj.cells:=by simp[List.flatMap_append]
 show w.ownsRow _ _ _ _ _ _
 rw[e1,e2];exact h
theorem IU {y:Aj} (h:w.ownsRow b 28 8 v (0+0+1+0) ([]++[]++y.cells++[])):Dc w b v ([]++[y]++[]):=by
 have e2:([]++[y]++[]:List Aj).flatMap Aj.cells=[]++[]++y.cells++[]:=by simp
 show w.ownsRow _ _ _ _ _ _
 rw[e2];exact h
theorem KR (h:Dc w b v L):∃A n c,v = .slice A n c:=by
 obtain ⟨A,c,e,_⟩:=h.reads;exact ⟨A,_,c,e⟩
theorem ES (h:Dc w b v L) {q:Nat} (hq:q<b) (j:Nat) (u:Value):Dc (w.setCell ⟨q,j,none⟩ u) b v L:=h.keep fun g hg _ _=>AAE _ _ _ _ (by show g≠q;omega)
theorem MN {b':Nat} (h:Dc w b v L) (hb:b'<=b):Dc w b' v L:=by
 refine ⟨h.1,?_⟩
 rcases h.2 with h|⟨g,cap,cur,h1,h2,h3⟩
 ·exact .inl h
 ·exact .inr ⟨g,cap,cur,h1,Nat.le_trans hb h2,h3⟩
theorem Cx {w':World} {row:Option Nat} {q o:Nat} {cs:List Value} (hg:w.grownBy w' row) (hne:row≠some q) (h:w.rangeAt q o cs):w'.rangeAt q o cs:=fun j u hj=>by
 have h1:=h j u hj;have hq:=zL h1;rw[World.cell?_of_block (w:=w) (w':=w') (a:=⟨q,o+j,none⟩) (yA hg hq fun k hk e=>hne (by rw[hk];exact congrArg some e.symm))]
 exact h1
theorem Io (L:List Aj):(L.flatMap Aj.cells).length=L.length * 8:=by
 rw[List.flatMap_def,Cy (k:=8) _ (fun cs hc=>by obtain ⟨y,_,rfl⟩:=List.mem_map.1 hc;rfl),AAt]
theorem Im (L:List Aj):∀u∈L.flatMap Aj.cells,u.oneCell'=true:=fun u hu=>by
 obtain ⟨y,_,h⟩:=List.mem_flatMap.1 hu;exact Bn y u h
