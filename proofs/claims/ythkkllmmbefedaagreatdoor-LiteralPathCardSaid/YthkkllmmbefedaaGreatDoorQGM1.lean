/-
  append of a slice, also of an empty one, onto an own row.
-/
import Derived.Test.YthkkllmmbefedaaGreatDoorQGM0
import Derived.Test.YthkkllmmbefedaaGreatDoorQGN0
import Derived.Test.YthkkllmmbefedaaGreatDoorQGB1
namespace Go.Proofs.YthkkllmmbefedaaGreatDoor
open Go.RowKit
set_option maxHeartbeats 16000000
set_option maxRecDepth 100000
theorem Hf (a b:Val) (hk:a.kind=b.kind) (pG:1<=a.kind/\a.kind<=4) (hi:a.kind=2->In64 a.int/\In64 b.int) (_hz:a.str.size<=9223372036854775807/\b.str.size<=9223372036854775807) (A1:zo) (c1:Nat) (A2:zo) (c2:Nat) (A3:zo) (c3:Nat) (B1:zo) (d1:Nat) (B2:zo) (d2:Nat) (B3:zo) (d3:Nat) (w:World) :
  Calls Tryz.prog 107 #[a.v A1 c1 A2 c2 A3 c3,b.v B1 d1 B2 d2 B3 d3] w fun e w'=>e = .returned (.int .i64 (BS a b))/\Below w.heap.size w w':=by
 have HB:=zh (zI w (a.box A1 c1 A2 c2 A3 c3) (b.box B1 d1 B2 d2 B3 d3));have HX:=zh (EP (AAC w (a.box A1 c1 A2 c2 A3 c3)) (b.box B1 d1 B2 d2 B3 d3));have HY:Hid (((w.alloc (a.box A1 c1 A2 c2 A3 c3)).alloc (b.box B1 d1 B2 d2 B3 d3)).heap[w.heap.size+1]? = some (b.box B1 d1 B2 d2 B3 d3)):=by
  have:=AAC (w.alloc (a.box A1 c1 A2 c2 A3 c3)) (b.box B1 d1 B2 d2 B3 d3);rw[show (w.alloc (a.box A1 c1 A2 c2 A3 c3)).heap.size=w.heap.size+1 by simp] at this
  exact this
 have q0:(a.kind != b.kind)=false:=by simp[hk]
 have hk4:a.kind=1\/a.kind=2\/a.kind=3\/a.kind=4:=by omega
 have HK:=zh hk;have HI:=zh hi;clear hk pG hi
 go_enter Tryz.func107,Tryz.ntmps107
 go_upto_region 1 with fail
 generalize (w.alloc (a.box A1 c1 A2 c2 A3 c3)).alloc (b.box B1 d1 B2 d2 B3 d3)=W1 at *;obtain ⟨u0,u1,u2,u3,u4,u5,u6,u7⟩:=zF HX;obtain ⟨v0,v1,v2,v3,v4,v5,v6,v7⟩:=zF HY
 rcases hk4 with e|e|e|e
 ·have q1:(a.kind==1)=true:=by simp[e]
  have HD:=zh (ug HK e);obtain ⟨X,hX⟩:∃X,(a.bool==b.bool)=X:=⟨_,rfl⟩;rw[hX] at HD;clear e;go_wp2_with fail;refine (ES b.bool X _).mono ?_;rintro e w2 ⟨rfl,rfl⟩;go_wp2;go_ret;exact ⟨by rw[HD.out];rfl,HB.out⟩
 ·have q1:(a.kind==1)=false:=by simp[e]
  have q2:(a.kind==2)=true:=by simp[e]
  have HD:=zh (uf HK e);have HI2:=zh (HI.out e);have D7:Hid (∀w',Below W1.heap.size W1 w'->(w'.cell? ⟨w.heap.size,2,none⟩=some (.int .i64 a.int)/\w'.cell? ⟨w.heap.size+1,2,none⟩=some (.int .i64 b.int))):=fun w' hb=>⟨zA hb u2,zA hb v2⟩
  clear e;go_upto_region 7 with fail
  clear u0 u1 u2 u3 u4 u5 u6 u7 v0 v1 v2 v3 v4 v5 v6 v7;refine zr (Y:=fun w'=>Hid (Below W1.heap.size W1 w')) D7 (by kernel_rfl) ?_ (fun AO=>?_)
  ·(try dsimp only);exact ⟨D7.out _ (zC (Pe _ _) 1),zC (Pe _ _) 1⟩
  refine tL 0 ?_;refine tL 1 ?_;refine tL 3 ?_;refine tL 4 ?_;refine tL 7 ?_;refine tL 8 ?_;try simp only[ps]
  refine tL 9 ?_;refine tL 10 ?_;refine tL 11 ?_;refine tR 2 (fun K hK=>?_)
  go_simp
  (refine (Sn a.int HI2.out.1 _).mono ?_;rintro e w2 ⟨rfl,rfl⟩)
  refine hK.out _ _ ?_ (fun AO=>?_)
  ·(try dsimp only);exact AO
  clear hK K;refine tR 5 (fun K hK=>?_)
  go_simp
  (refine (Sn b.int HI2.out.2 _).mono ?_;rintro e w2 ⟨rfl,rfl⟩)
  refine hK.out _ _ ?_ (fun AO=>?_)
  ·(try dsimp only);exact AO
  clear hK K;refine tL 6 ?_;try simp only[ps]
  refine tR 12 (fun K hK=>?_)
  go_simp
  (refine (ES (decide (O6 a.int<O6 b.int)) (a.int==b.int) _).mono ?_;rintro e w2 ⟨rfl,rfl⟩)
  refine hK.out _ _ ?_ (fun AO=>?_)
  ·(try dsimp only);exact AO
  clear hK K;refine tL 13 ?_;refine wpAnyH_done (by kernel_rfl) ?_ _
  (have GA:=zh (zB HB AO.2.out);clear AO;go_wp2;go_ret;exact ⟨by rw[HD.out];rfl,GA.out⟩)
 ·have q1:(a.kind==1)=false:=by simp[e]
  have q2:(a.kind==2)=false:=by simp[e]
  have q3:(a.kind==3)=true:=by simp[e]
  by_cases hs:(a.str.size:Int)=b.str.size
  ·have HD:=zh (pO HK e hs)
   have z1:((a.str.size:Int) != (b.str.size:Int))=false:=by simp only[bne_eq_false_iff_eq];exact hs
   obtain ⟨Y,hY⟩:∃Y,Op.bytesLess a.str.toList b.str.toList=Y:=⟨_,rfl⟩;obtain ⟨X,hX⟩:∃X,(a.str.toList==b.str.toList)=X:=⟨_,rfl⟩;have HD2:Hid (BS a b=Ll Y X):=by show _=_;rw[HD.out,<-hY,<-hX,bytes_beq];rfl
   clear e hs HD;go_wp2_with fail;refine (ES Y X _).mono ?_;rintro e w2 ⟨rfl,rfl⟩;go_wp2;go_ret;exact ⟨by rw[HD2.out];rfl,HB.out⟩
  ·have HD:=zh (pQ HK e hs)
   have z1:((a.str.size:Int) != (b.str.size:Int))=true:=by simp only[bne_iff_ne];exact hs
   obtain ⟨Y,hY⟩:∃Y,decide ((a.str.size:Int)<(b.str.size:Int))=Y:=⟨_,rfl⟩;rw[hY] at HD;clear e hs
   cases Y with
   | true =>
    have z2:(a.str.size:Int)<(b.str.size:Int):=AAu hY;clear hY;go_wp2_with fail;refine (ES true false _).mono ?_;rintro e w2 ⟨rfl,rfl⟩;go_wp2;go_ret;exact ⟨by rw[HD.out];rfl,HB.out⟩
   | false =>
    have z2:¬ (a.str.size:Int)<(b.str.size:Int):=of_decide_eq_false hY;clear hY;go_wp2_with fail;refine (ES false false _).mono ?_;rintro e w2 ⟨rfl,rfl⟩;go_wp2;go_ret;exact ⟨by rw[HD.out];rfl,HB.out⟩
 ·have q1:(a.kind==1)=false:=by simp[e]
  have q2:(a.kind==2)=false:=by simp[e]
  have q3:(a.kind==3)=false:=by simp[e]
  have q4:(a.kind==4)=true:=by simp[e]
  have HD:=zh (uZ HK e);clear e;go_wp2_with fail;refine (ES (decide (a.id<b.id)) (a.id==b.id) _).mono ?_;rintro e w2 ⟨rfl,rfl⟩;go_wp2;go_ret;exact ⟨by rw[HD.out];rfl,HB.out⟩
variable {w:World}
theorem Ab {T E:TypeId} {size bytes:Nat} (hE:Elem T E size bytes) {ops:Array Oper} {op:Oper} {a:Act} {K:Act->World->Prop} {Q:Exit->Act->World->Prop} {El:Prop} (hgd:op.guard=none) (s x:Operand) (ho:op.op = .call { callee := .builtin .append,args:=#[s,x],argTypes:=#[T,T] }) (base:Nat) (v:Value) (n:Nat) (xs:List Value) (hs:a.eval s=v) (h:w.ownsRow base E size v n xs) (A:zo) (m c:Nat) (news:List Value) (hx:a.eval x = .slice A m c) (hl:news.length=m * size) (hnews:m≠0->∃b o,A=some ⟨b,o,none⟩/\w.rangeAt b o news) (h1:∀u∈news,u.oneCell'=true) (hlen:n+m<=9223372036854775807) (hby:(n+m) * bytes<=140737488355328) (hb:base<=w.heap.size) (hk:∀v' w',w'.ownsRow base E size v' (n+m) (xs++news)->w.grownBy w' v.ownBlock->(v'.ownBlock=v.ownBlock\/v'.ownBlock=some w.heap.size)->K (a.put op.dst v') w'):if Region.wanted op (yielded ops a.tmps)=true then Oper.wp Tryz.prog op a w K Q else El:=by
 cases A with
 | some a0 =>
  obtain ⟨z,J5,hzs⟩:=hE.info;obtain ⟨i0,hi,hz0,hz1,hz2⟩:=info_parts J5;have hw:Region.wanted op (yielded ops a.tmps)=true:=by simp[Region.wanted,hgd]
  rw[AAG hw];obtain ⟨v',w',hr,h2,h3,_,h5⟩:=run_append_own_at (P:=Tryz.prog) w base T op.type E i0 z size bytes hE.under hi hz0 hz1 hz2 hzs hE.pos v n xs h a0 m c news hl (fun j u hj=>by
   have hm:m≠0:=fun e=>by subst e;rw[Nat.zero_mul] at hl;rw[AAf hl] at hj;simp at hj
   obtain ⟨b,o,e,hr⟩:=hnews hm
   cases e
   rw[Addr.add_mid];exact hr j u hj) h1 (by unfold maxLen;omega) hby hb
  unfold Oper.wp execOp;simp only[ho,resolve,invoke,builtin,Sem.run_bind,Sem.run_pure,Result.andThen_ok,List.map_toArray,AA4,List.map_nil,hs,hx,hr];exact hk v' w' h2 h3 h5
 | none =>
  have hm:m=0:=by
   by_cases e:m=0
   ·exact e
   ·obtain ⟨b,o,e2,_⟩:=hnews e;cases e2
  subst hm;obtain rfl:news=[]:=AAf (by rw[hl,Nat.zero_mul])
  obtain ⟨z,J5,hzs⟩:=hE.info;obtain ⟨i0,hi,_⟩:=info_parts J5;have hw:Region.wanted op (yielded ops a.tmps)=true:=by simp[Region.wanted,hgd]
  rw[AAG hw];have hr:=H8 (P:=Tryz.prog) base T op.type E i0 size hE.under hi v n xs h c;unfold Oper.wp execOp;simp only[ho,resolve,invoke,builtin,Sem.run_bind,Sem.run_pure,Result.andThen_ok,List.map_toArray,AA4,List.map_nil,hs,hx,hr];exact hk v w (by rw[List.append_nil];exact h) (OC _ _) (.inl rfl)
variable {L:List Au} {v:Value}
theorem Lj {base:Nat} (h:Cw w base v L):∃A c,v = .slice A L.length c/\L.length<=c/\((∀i (hi:i<L.length),∃g,A=some ⟨g,0,none⟩/\w.rangeAt g (0+i * 8) (L[i]).cells)/\∀i m,i+m<=L.length->m≠0->∃g,A=some ⟨g,0,none⟩/\w.rangeAt g (0+i * 8) (((L.drop i).take m).flatMap Au.cells)):=by
 obtain ⟨A,c,e,h1,h2,h3⟩:=h.reads;have hseg:∀i m,i+m<=L.length->m≠0->∃g,A=some ⟨g,0,none⟩/\w.rangeAt g (0+i * 8) (((L.drop i).take m).flatMap Au.cells):=fun i m hm hm0=>by
  obtain ⟨g,hg,_,hr⟩:=h3 (fun e=>by subst e;simp at hm;omega)
  refine ⟨g,hg,fun j u hj=>?_⟩
  have hsp:L.flatMap Au.cells=(L.take i).flatMap Au.cells++((L.drop i).take m).flatMap Au.cells++((L.drop i).drop m).flatMap Au.cells:=by
   rw[<-List.flatMap_append,<-List.flatMap_append,AA0,List.take_append_drop,List.take_append_drop]
  have hl1:((L.take i).flatMap Au.cells).length=i * 8:=by
   rw[List.flatMap_def,Cc (k:=8) _ (fun cs hc=>by obtain ⟨y,_,rfl⟩:=List.mem_map.1 hc;rfl),AAZ,List.length_take]
   rw[Nat.min_eq_left (by omega)]
  have:=hr (i * 8+j) u (by
   rw[hsp,AA0,ABB (by omega),hl1,Nat.add_sub_cancel_left,ABD (AAi.1 hj).1]
   exact hj)
  rw[Nat.zero_add] at this ⊢;exact this
 refine ⟨A,c,e,h1,fun i hi=>?_,hseg⟩
 obtain ⟨g,hg,hr⟩:=hseg i 1 (by omega) (by omega)
 refine ⟨g,hg,?_⟩;rw[AAv hi,List.take_succ_cons,List.take_zero,ABN,List.flatMap_nil,List.append_nil] at hr;exact hr
variable {b:Nat}
theorem jY (u:World) (h:b<=u.heap.size):Cw (u.alloc (.cells #[] 28)) b (.slice (some ⟨u.heap.size,0,none⟩) 0 0) [] :=
 World.ownsRow_lit (base:=b) (e:=28) (size:=8) u #[] 0 h (by unfold maxLen;omega) rfl
theorem Cj (u:World) {p:Nat} (hp:u.heap.size=p) (h:b<=p):Cw (u.alloc (.cells #[] 28)) b (.slice (some ⟨p,0,none⟩) 0 0) []:=by
 subst hp;exact jY u h
theorem DF (u:World) {p:Nat} (hp:u.heap.size=p) (cs:List Value) (T:TypeId):(u.alloc (.cells cs.toArray T)).rangeAt p 0 cs:=by
 subst hp;exact zR u cs T
theorem JS {k:Nat} (hk:k<=L.length) {y:Au} (h:w.ownsRow b 28 8 v (0+k+1+(L.length - k)) ([]++(L.take k).flatMap Au.cells++y.cells++(L.drop k).flatMap Au.cells)):Cw w b v (L.take k++[y]++L.drop k):=by
 have e1:(L.take k++[y]++L.drop k).length=0+k+1+(L.length - k):=by simp;omega
 have e2:(L.take k++[y]++L.drop k).flatMap Au.cells=[]++(L.take k).flatMap Au.cells++y.cells++(L.drop k).flatMap Au.cells:=by simp[List.flatMap_append]
 show w.ownsRow _ _ _ _ _ _
 rw[e1,e2];exact h
theorem Gq {y:Au} (h:w.ownsRow b 28 8 v (0+0+1+0) ([]++[]++y.cells++[])):Cw w b v ([]++[y]++[]):=by
 have e2:([]++[y]++[]:List Au).flatMap Au.cells=[]++[]++y.cells++[]:=by simp
 show w.ownsRow _ _ _ _ _ _
 rw[e2];exact h
theorem JV (h:Cw w b v L):∃A n c,v = .slice A n c:=by
 obtain ⟨A,c,e,_⟩:=h.reads;exact ⟨A,_,c,e⟩
theorem Dr (h:Cw w b v L) {q:Nat} (hq:q<b) (j:Nat) (u:Value):Cw (w.setCell ⟨q,j,none⟩ u) b v L:=h.keep fun g hg _ _=>AAF _ _ _ _ (by show g≠q;omega)
theorem Kq {b':Nat} (h:Cw w b v L) (hb:b'<=b):Cw w b' v L:=by
 refine ⟨h.1,?_⟩
 rcases h.2 with h|⟨g,cap,cur,h1,h2,h3⟩
 ·exact .inl h
 ·exact .inr ⟨g,cap,cur,h1,Nat.le_trans hb h2,h3⟩
theorem Cb {w':World} {row:Option Nat} {q o:Nat} {cs:List Value} (hg:w.grownBy w' row) (hne:row≠some q) (h:w.rangeAt q o cs):w'.rangeAt q o cs:=fun j u hj=>by
 have h1:=h j u hj;have hq:=zL h1;rw[World.cell?_of_block (w:=w) (w':=w') (a:=⟨q,o+j,none⟩) (yA hg hq fun k hk e=>hne (by rw[hk];exact congrArg some e.symm))]
 exact h1
theorem G8 (L:List Au):(L.flatMap Au.cells).length=L.length * 8:=by
 rw[List.flatMap_def,Cc (k:=8) _ (fun cs hc=>by obtain ⟨y,_,rfl⟩:=List.mem_map.1 hc;rfl),AAZ]
theorem G7 (L:List Au):∀u∈L.flatMap Au.cells,u.oneCell'=true:=fun u hu=>by
 obtain ⟨y,_,h⟩:=List.mem_flatMap.1 hu;exact CG y u h
end Go.Proofs.YthkkllmmbefedaaGreatDoor



