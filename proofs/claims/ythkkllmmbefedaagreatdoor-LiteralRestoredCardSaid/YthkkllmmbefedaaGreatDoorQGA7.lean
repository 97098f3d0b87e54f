/-
  append onto an own row, and where it is then; what is held off more blocks.
-/
import Derived.Test.YthkkllmmbefedaaGreatDoorQGA6
import Derived.Test.YthkkllmmbefedaaGreatDoorQGA2
import Derived.Test.YthkkllmmbefedaaGreatDoorQGA5
import Derived.Test.YthkkllmmbefedaaGreatDoorQGA3
import Derived.Lib.MinMax
namespace Go.Proofs.YthkkllmmbefedaaGreatDoor
open Go.RowKit
set_option maxHeartbeats 16000000
set_option maxRecDepth 100000
variable {g:Nat} {w w':World}
theorem zE {o:Obj} (h:w.heap[g]? = some o) (hb:Below w.heap.size w w'):w'.heap[g]? = some o:=(hb.block _ (zg.1 h).1).trans h
theorem zG {W:World} {b:Nat} {t:Aa} {As:zo} {cs:Nat} {Am:zo} {cm:Nat} (h:CS W b t As cs Am cm) :
  W.cell? ⟨b,0,none⟩=some (.int .i64 t.kind)/\W.cell? ⟨b,1,none⟩=some (.string t.name)/\W.cell? ⟨b,2,none⟩=some (.int .i64 t.low)/\W.cell? ⟨b,3,none⟩=some (.int .i64 t.high)/\W.cell? ⟨b,4,none⟩=some (.int .i64 t.max)/\W.cell? ⟨b,5,none⟩=some (.slice As t.AV.length cs)/\W.cell? ⟨b,6,none⟩=some (.slice Am t.AA.length cm)/\W.cell? ⟨b,7,none⟩=some (.int .i64 t.key)/\W.cell? ⟨b,8,none⟩=some (.int .i64 t.elem)/\W.cell? ⟨b,9,none⟩=some (.bool t.open_) :=
 ⟨h.cell 0,h.cell 1,h.cell 2,h.cell 3,h.cell 4,h.cell 5,h.cell 6,h.cell 7,h.cell 8,h.cell 9⟩
theorem JQ (n:Int) (w:World):Calls Tryz.prog 97 #[.int .i64 n] w fun e w'=>e = .returned (.bool (BA n))/\w'=w:=by
 by_cases h1:1<=n
 ·have q1:(1:Int)<=n:=h1
  have HD:Hid (BA n=decide (n<=1000)):=by show _=_;unfold BA;simp[h1]
  clear h1
  go_enter Tryz.func97,Tryz.ntmps97
  go_wp2
  go_ret
  exact ⟨by rw[HD.out];rfl,rfl⟩
 ·have q1:¬ (1:Int)<=n:=h1
  have HD:Hid (BA n=false):=by show _=_;unfold BA;simp[h1]
  clear h1
  go_enter Tryz.func97,Tryz.ntmps97
  go_wp2
  go_ret
  exact ⟨by rw[HD.out];rfl,rfl⟩
theorem V4 (v:Val) (h:1<=v.kind/\v.kind<=9) (A1:zo) (c1:Nat) (A2:zo) (c2:Nat) (A3:zo) (c3:Nat) (w:World) :
  Calls Tryz.prog 96 #[v.v A1 c1 A2 c2 A3 c3] w fun e w'=>e = .returned (.bool (zJ v))/\Below w.heap.size w w':=by
 have aZ:=zh (fun w=>jA v h A1 c1 A2 c2 A3 c3 w)
 have HB0:=zh (zD w (v.box A1 c1 A2 c2 A3 c3));have HX0:=zh (AAL w (v.box A1 c1 A2 c2 A3 c3));have qB:Hid (zJ v=(decide (v.bool=(Ar v).bool)&&decide (v.int=(Ar v).int)&&decide (v.str=(Ar v).str)&&decide (v.id=(Ar v).id)&&decide (v.keys.length=(Ar v).keys.length)&&decide (v.items.length=(Ar v).items.length)&&decide (v.rest.length=(Ar v).rest.length))):=rfl;clear h
 go_enter Tryz.func96,Tryz.ntmps96
 go_wp2_with fail
 refine (aZ.out _).mono ?_;rintro e w1 ⟨B1,d1,B2,d2,B3,d3,rfl,hb1⟩;clear aZ;generalize Ar v=B at *;have EH:=zE HX0 hb1;have HB1:=zh (zB HB0 hb1);have hlt:w.heap.size<w1.heap.size:=(zg.1 EH).1;have x1:w1.cell? ⟨w.heap.size,1,none⟩=some (.bool v.bool):=by rw[AAN _ _ _ _ _ _ EH];rfl
 have x2:w1.cell? ⟨w.heap.size,2,none⟩=some (.int .i64 v.int):=by rw[AAN _ _ _ _ _ _ EH];rfl
 have x3:w1.cell? ⟨w.heap.size,3,none⟩=some (.string v.str):=by rw[AAN _ _ _ _ _ _ EH];rfl
 have x4:w1.cell? ⟨w.heap.size,4,none⟩=some (.int .i64 v.id):=by rw[AAN _ _ _ _ _ _ EH];rfl
 have x5:w1.cell? ⟨w.heap.size,5,none⟩=some (.slice A1 v.keys.length c1):=by rw[AAN _ _ _ _ _ _ EH];rfl
 have x6:w1.cell? ⟨w.heap.size,6,none⟩=some (.slice A2 v.items.length c2):=by rw[AAN _ _ _ _ _ _ EH];rfl
 have x7:w1.cell? ⟨w.heap.size,7,none⟩=some (.slice A3 v.rest.length c3):=by rw[AAN _ _ _ _ _ _ EH];rfl
 have RN:=zh (fun o=>zB HB1 (zD w1 o))
 clear hb1 EH
 by_cases q1:v.bool=B.bool
 case neg =>
  have HD:Hid (zJ v=false):=by show _=_;rw[qB.out];simp[q1]
  have e1:(v.bool==B.bool)=false:=by simpa using q1
  clear q1;go_wp2;go_ret;exact ⟨by rw[HD.out];rfl,RN.out _⟩
 have e1:(v.bool==B.bool)=true:=by simpa using q1
 by_cases q2:v.int=B.int
 case neg =>
  have HD:Hid (zJ v=false):=by show _=_;rw[qB.out];simp[q2]
  have e2:(v.int==B.int)=false:=by simpa using q2
  clear q1 q2;go_wp2;go_ret;exact ⟨by rw[HD.out];rfl,RN.out _⟩
 have e2:(v.int==B.int)=true:=by simpa using q2
 by_cases q3:v.str=B.str
 case neg =>
  have HD:Hid (zJ v=false):=by show _=_;rw[qB.out];simp[q3]
  have e3:(v.str.toList==B.str.toList)=false:=by rw[bytes_beq];exact AAZ q3
  clear q1 q2 q3;go_wp2;go_ret;exact ⟨by rw[HD.out];rfl,RN.out _⟩
 have e3:(v.str.toList==B.str.toList)=true:=by rw[bytes_beq];exact AAT q3
 by_cases q4:v.id=B.id
 case neg =>
  have HD:Hid (zJ v=false):=by show _=_;rw[qB.out];simp[q4]
  have e4:(v.id==B.id)=false:=by simpa using q4
  clear q1 q2 q3 q4;go_wp2;go_ret;exact ⟨by rw[HD.out];rfl,RN.out _⟩
 have e4:(v.id==B.id)=true:=by simpa using q4
 by_cases q5:v.keys.length=B.keys.length
 case neg =>
  have HD:Hid (zJ v=false):=by show _=_;rw[qB.out];simp[q5]
  have e5:((v.keys.length:Int)==(B.keys.length:Int))=false:=ABY.2 (by omega)
  clear q1 q2 q3 q4 q5;go_wp2;go_ret;exact ⟨by rw[HD.out];rfl,RN.out _⟩
 have e5:((v.keys.length:Int)==(B.keys.length:Int))=true:=ABj.2 (by omega)
 by_cases q6:v.items.length=B.items.length
 case neg =>
  have HD:Hid (zJ v=false):=by show _=_;rw[qB.out];simp[q6]
  have e6:((v.items.length:Int)==(B.items.length:Int))=false:=ABY.2 (by omega)
  clear q1 q2 q3 q4 q5 q6;go_wp2;go_ret;exact ⟨by rw[HD.out];rfl,RN.out _⟩
 have e6:((v.items.length:Int)==(B.items.length:Int))=true:=ABj.2 (by omega)
 by_cases q7:v.rest.length=B.rest.length
 case neg =>
  have HD:Hid (zJ v=false):=by show _=_;rw[qB.out];simp[q7]
  have e7:((v.rest.length:Int)==(B.rest.length:Int))=false:=ABY.2 (by omega)
  clear q1 q2 q3 q4 q5 q6 q7;go_wp2;go_ret;exact ⟨by rw[HD.out];rfl,RN.out _⟩
 have e7:((v.rest.length:Int)==(B.rest.length:Int))=true:=ABj.2 (by omega)
 have HD:Hid (zJ v=true):=by show _=_;rw[qB.out];simp[q1,q2,q3,q4,q5,q6,q7]
 clear q1 q2 q3 q4 q5 q6 q7;go_wp2;go_ret;exact ⟨by rw[HD.out];rfl,RN.out _⟩
def Bg {α:Type} (p:α->Bool):List α->Int
 | [] => -1
 | x::r=>if p x then 0 else if Bg p r<0 then -1 else Bg p r+1
theorem Fu {α:Type} (p:α->Bool):∀l:List α,Bg p l = -1\/(0<=Bg p l/\Bg p l<l.length)
 | [] => .inl rfl
 | x::r=>by
  have h:=Fu p r;unfold Bg
  split
  ·right;simp only[AAS];omega
  ·split
   ·exact .inl rfl
   ·right;simp only[AAS];omega
theorem J8 {α:Type} {p:α->Bool}:∀ (l:List α) (k:Nat) (hk:k<l.length),(∀j (h:j<l.length),j<k->p l[j]=false)->p l[k]=true->Bg p l=(k:Int)
 | [],_,hk,_,_=>by cases hk
 | x::r,0,_,_,h=>by
  have h':p x=true:=h;unfold Bg;rw[AAH h'];rfl
 | x::r,k+1,hk,hn,h=>by
  have hx:p x=false:=hn 0 (by simp) (by omega)
  have ih:=J8 r k (by simpa using hk) (fun j h1 h2=>hn (j+1) (by simpa using h1) (by omega)) h
  unfold Bg;rw[hx,Pd (by simp),ih,Pd (by omega)]
  omega
theorem J7 {α:Type} {p:α->Bool}:∀ (l:List α),(∀j (h:j<l.length),p l[j]=false)->Bg p l = -1
 | [],_=>rfl
 | x::r,hn=>by
  have hx:p x=false:=hn 0 (by simp)
  have ih:=J7 r (fun j h1=>hn (j+1) (by simpa using h1))
  unfold Bg;rw[hx,Pd (by simp),ih]
  rfl
theorem TW (n:Int) (q:Nat) (y:Bq) (w:World) (hq:w.cell? ⟨q,0,none⟩=some (.int .i64 n)) :
  Calls Tryz.prog 102 #[.agg #[.int .i64 y.id,.string y.name],.pointer (some ⟨q,0,none⟩)] w fun e w'=>e = .returned (.bool (decide (y.id=n)))/\Below w.heap.size w w':=by
 have hlt:=zL hq;simp only at hlt;have HB:=zh (fun o=>zD w o)
 have HQ:Hid ((y.id==n)=decide (y.id=n)):=rfl
 go_enter Tryz.func102,Tryz.ntmps102
 go_wp2
 go_ret
 exact ⟨by first|rfl|(rw[<-HQ.out];rfl),HB.out _⟩
theorem UI (n:Int) (q:Nat) (y:AY) (A1:zo) (c1:Nat) (A2:zo) (c2:Nat) (A3:zo) (c3:Nat) (w:World) (hq:w.cell? ⟨q,0,none⟩=some (.int .i64 n)) :
  Calls Tryz.prog 93 #[y.v A1 c1 A2 c2 A3 c3,.pointer (some ⟨q,0,none⟩)] w fun e w'=>e = .returned (.bool (decide (y.id=n)))/\Below w.heap.size w w':=by
 have hlt:=zL hq;simp only at hlt;have HB:=zh (fun o=>zD w o)
 go_enter Tryz.func93,Tryz.ntmps93
 go_wp2
 go_ret
 exact ⟨rfl,HB.out _⟩
theorem WU (n:Int) (q:Nat) (l:List Bq) (A:zo) (c:Nat) (w:World) (hl:Ja w A l) (hq:w.cell? ⟨q,0,none⟩=some (.int .i64 n)) :
  Calls Tryz.prog 101 #[.slice A l.length c,.func (.func 102) #[] #[.pointer (some ⟨q,0,none⟩)]] w fun e w'=>e = .returned (.int .i64 (Bg (fun y:Bq=>decide (y.id=n)) l))/\Below w.heap.size w w':=by
 have hln:=hl.1.lt (by omega)
 have HL:=zh hl;have HQ:=zh hq;clear hl hq
 go_enter Tryz.func101,Tryz.ntmps101
 go_wp2
 go_loopw [8] (fun i wr=>∃k:Nat,k<=l.length/\i = .int .i64 (k:Int)/\Hid ((∀j (h:j<l.length),j<k->decide ((l[j]).id=n)=false)/\Below w.heap.size w wr)) (fun i _=>l.length - (intOf i).toNat)
 case atStart=>exact ⟨0,by omega,rfl,(fun j _ h=>absurd h (by omega)),Pe _ _⟩
 case round =>
  obtain ⟨k,hk,rfl,hh⟩:=hrel
  by_cases hlt:k<l.length
  ·obtain ⟨b,o,rfl,hr1,a0,a1⟩:=(HL.out.below hh.out.2).at2 hlt
   clear hr1;have h1:(0:Int)<=(k:Int):=by omega
   have h2:(k:Int)<(l.length:Int):=by omega
   cases he:decide ((l[k]).id=n) with
   | true =>
    have HD:=zh he;have HI:=zh (J8 (p:=fun y:Bq=>decide (y.id=n)) l k hlt hh.out.1 he)
    clear he;go_wp2_with (go_at_call 102;refine (TW n q l[k] _ (zA hh.out.2 HQ)).mono ?_;rintro e w2 ⟨rfl,hb2⟩;rw[HD.out]);go_ret;exact ⟨by rw[HI.out];rfl,zB hh.out.2 hb2⟩
   | false =>
    have HD:=zh he;have HN:Hid (∀j (h:j<l.length),j<k+1->decide ((l[j]).id=n)=false):=fun j h hj=>by
     by_cases e:j=k
     ·subst e;exact he
     ·exact hh.out.1 j h (by omega)
    clear he;go_wp2_with (go_at_call 102;refine (TW n q l[k] _ (zA hh.out.2 HQ)).mono ?_;rintro e w2 ⟨rfl,hb2⟩;rw[HD.out]);go_roundw
    case rel=>exact ⟨k+1,by omega,by go_num,HN.out,zB hh.out.2 hb2⟩
    case measure=>simp[intOf];omega
  ·have HI:=zh (J7 (p:=fun y:Bq=>decide (y.id=n)) l fun j h=>hh.out.1 j h (by omega))
   go_wp2
   go_ret
   exact ⟨by rw[HI.out];rfl,hh.out.2⟩
theorem WV (n:Int) (q:Nat) (l:List AY) (A:zo) (c:Nat) (w:World) (hl:Fg w A l) (hq:w.cell? ⟨q,0,none⟩=some (.int .i64 n)) :
  Calls Tryz.prog 92 #[.slice A l.length c,.func (.func 93) #[] #[.pointer (some ⟨q,0,none⟩)]] w fun e w'=>e = .returned (.int .i64 (Bg (fun y:AY=>decide (y.id=n)) l))/\Below w.heap.size w w':=by
 have hln:=hl.1.lt (by omega)
 have HL:=zh hl;have HQ:=zh hq;clear hl hq
 go_enter Tryz.func92,Tryz.ntmps92
 go_wp2
 go_loopw [8] (fun i wr=>∃k:Nat,k<=l.length/\i = .int .i64 (k:Int)/\Hid ((∀j (h:j<l.length),j<k->decide ((l[j]).id=n)=false)/\Below w.heap.size w wr)) (fun i _=>l.length - (intOf i).toNat)
 case atStart=>exact ⟨0,by omega,rfl,(fun j _ h=>absurd h (by omega)),Pe _ _⟩
 case round =>
  obtain ⟨k,hk,rfl,hh⟩:=hrel
  by_cases hlt:k<l.length
  ·obtain ⟨b,o,A1,c1,A2,c2,A3,c3,rfl,hr1,a0,a1,a2,a3,a4,a5,a6,a7,a8,a9,aC,aB,a12⟩:=(HL.out.below hh.out.2).K5 hlt
   clear hr1;have h1:(0:Int)<=(k:Int):=by omega
   have h2:(k:Int)<(l.length:Int):=by omega
   cases he:decide ((l[k]).id=n) with
   | true =>
    have HD:=zh he;have HI:=zh (J8 (p:=fun y:AY=>decide (y.id=n)) l k hlt hh.out.1 he)
    clear he;go_wp2_with (go_at_call 93;refine (UI n q l[k] A1 c1 A2 c2 A3 c3 _ (zA hh.out.2 HQ)).mono ?_;rintro e w2 ⟨rfl,hb2⟩;rw[HD.out]);go_ret;exact ⟨by rw[HI.out];rfl,zB hh.out.2 hb2⟩
   | false =>
    have HD:=zh he;have HN:Hid (∀j (h:j<l.length),j<k+1->decide ((l[j]).id=n)=false):=fun j h hj=>by
     by_cases e:j=k
     ·subst e;exact he
     ·exact hh.out.1 j h (by omega)
    clear he;go_wp2_with (go_at_call 93;refine (UI n q l[k] A1 c1 A2 c2 A3 c3 _ (zA hh.out.2 HQ)).mono ?_;rintro e w2 ⟨rfl,hb2⟩;rw[HD.out]);go_roundw
    case rel=>exact ⟨k+1,by omega,by go_num,HN.out,zB hh.out.2 hb2⟩
    case measure=>simp[intOf];omega
  ·have HI:=zh (J7 (p:=fun y:AY=>decide (y.id=n)) l fun j h=>hh.out.1 j h (by omega))
   go_wp2
   go_ret
   exact ⟨by rw[HI.out];rfl,hh.out.2⟩
theorem Mh (n:Int) (t:Aa) (As:zo) (cs:Nat) (Am:zo) (cm:Nat) (w:World) (ht:JY w t As Am) :
  Calls Tryz.prog 68 #[t.v As cs Am cm,.int .i64 n] w fun e w'=>e = .returned (.tuple #[.int .i64 (if Bg (fun y:Bq=>decide (y.id=n)) t.AV<0 then 0 else Bg (fun y:Bq=>decide (y.id=n)) t.AV),.bool (decide (0<=Bg (fun y:Bq=>decide (y.id=n)) t.AV))])/\Below w.heap.size w w':=by
 have HT:=zh (ht.below (zI w (t.box As cs Am cm) (.cells #[.int .i64 n] 3)));have HB:=zh (zI w (t.box As cs Am cm) (.cells #[.int .i64 n] 3));have HQ:Hid (((w.alloc (t.box As cs Am cm)).alloc (.cells #[.int .i64 n] 3)).cell? ⟨w.heap.size+1,0,none⟩=some (.int .i64 n)):=by
  show _=_
  have:=zR (w.alloc (t.box As cs Am cm)) [.int .i64 n] 3 0 _ rfl;simp
 clear ht;have HI:=Fu (fun y:Bq=>decide (y.id=n)) t.AV
 obtain ⟨r,hre⟩:∃r,Bg (fun y:Bq=>decide (y.id=n)) t.AV=r:=⟨_,rfl⟩
 have yc:=zh hre;rw[hre] at HI ⊢;clear hre;have hHI:=zh HI;clear HI
 go_enter Tryz.func68,Tryz.ntmps68
 go_wp2_with fail
 refine (WU n (w.heap.size+1) t.AV _ _ _ (HT.out.AV) HQ).mono ?_;rintro e w2 ⟨rfl,hb2⟩;rw[yc.out];have om:=zh (zB HB hb2);clear hb2 yc;have HI:=hHI.out;clear hHI
 by_cases hr:r<0
 ·have HR:Hid ((if r<0 then 0 else r)=0):=AAH hr
  have HR2:Hid (decide (0<=r)=false):=AAZ (by omega)
  obtain rfl:r = -1:=by omega
  clear hr HI;have q2:max (-1:Int) 0=0:=by decide
  go_wp2
  go_ret2
  exact ⟨by first|rfl|(rw[HR2.out];rfl)|(rw[HR.out];rfl)|(rw[HR.out,HR2.out];rfl),om.out⟩
 ·have HR:Hid ((if r<0 then 0 else r)=r):=Pd hr
  have HR2:Hid (decide (0<=r)=true):=AAT (by omega)
  have q1:(0:Int)<=r:=by omega
  have q2:max r 0=r:=by omega
  clear hr HI;go_wp2;go_ret2;exact ⟨by first|rfl|(rw[HR2.out];rfl)|(rw[HR.out];rfl)|(rw[HR.out,HR2.out];rfl),om.out⟩
theorem Jt (n:Int) (t:Aa) (As:zo) (cs:Nat) (Am:zo) (cm:Nat) (w:World) (ht:JY w t As Am) :
  Calls Tryz.prog 58 #[t.v As cs Am cm,.int .i64 n] w fun e w'=>e = .returned (.tuple #[.int .i64 (if Bg (fun y:AY=>decide (y.id=n)) t.AA<0 then 0 else Bg (fun y:AY=>decide (y.id=n)) t.AA),.bool (decide (0<=Bg (fun y:AY=>decide (y.id=n)) t.AA))])/\Below w.heap.size w w':=by
 have HT:=zh (ht.below (zI w (t.box As cs Am cm) (.cells #[.int .i64 n] 3)));have HB:=zh (zI w (t.box As cs Am cm) (.cells #[.int .i64 n] 3));have HQ:Hid (((w.alloc (t.box As cs Am cm)).alloc (.cells #[.int .i64 n] 3)).cell? ⟨w.heap.size+1,0,none⟩=some (.int .i64 n)):=by
  show _=_
  have:=zR (w.alloc (t.box As cs Am cm)) [.int .i64 n] 3 0 _ rfl;simp
 clear ht;have HI:=Fu (fun y:AY=>decide (y.id=n)) t.AA
 obtain ⟨r,hre⟩:∃r,Bg (fun y:AY=>decide (y.id=n)) t.AA=r:=⟨_,rfl⟩
 have yc:=zh hre;rw[hre] at HI ⊢;clear hre;have hHI:=zh HI;clear HI
 go_enter Tryz.func58,Tryz.ntmps58
 go_wp2_with fail
 refine (WV n (w.heap.size+1) t.AA _ _ _ (HT.out.AA) HQ).mono ?_;rintro e w2 ⟨rfl,hb2⟩;rw[yc.out];have om:=zh (zB HB hb2);clear hb2 yc;have HI:=hHI.out;clear hHI
 by_cases hr:r<0
 ·have HR:Hid ((if r<0 then 0 else r)=0):=AAH hr
  have HR2:Hid (decide (0<=r)=false):=AAZ (by omega)
  obtain rfl:r = -1:=by omega
  clear hr HI;have q2:max (-1:Int) 0=0:=by decide
  go_wp2
  go_ret2
  exact ⟨by first|rfl|(rw[HR2.out];rfl)|(rw[HR.out];rfl)|(rw[HR.out,HR2.out];rfl),om.out⟩
 ·have HR:Hid ((if r<0 then 0 else r)=r):=Pd hr
  have HR2:Hid (decide (0<=r)=true):=AAT (by omega)
  have q1:(0:Int)<=r:=by omega
  have q2:max r 0=r:=by omega
  clear hr HI;go_wp2;go_ret2;exact ⟨by first|rfl|(rw[HR2.out];rfl)|(rw[HR.out];rfl)|(rw[HR.out,HR2.out];rfl),om.out⟩
def Pv (s:List Aa) (A:zo) (c:Nat) (plain:Bool) (n:Nat):Prop:=∀ (t:Int) (v:Val) (A1:zo) (c1:Nat) (A2:zo) (c2:Nat) (A3:zo) (c3:Nat) (w:World),SizeOf.sizeOf v<=n->C8 w A s->Ao w v A1 A2 A3 ->
 Calls Tryz.prog 65 #[.agg #[.slice A s.length c],.int .i64 t,v.v A1 c1 A2 c2 A3 c3,.bool plain] w fun e w'=>e = .returned (.bool (Ad s plain n t v))/\Below w.heap.size w w'
def XH (s:List Aa) (A:zo) (c:Nat) (t:Int) (plain:Bool) (p1 p2 p3:Nat) (w:World):Prop :=
 w.cell? ⟨p1,0,none⟩=some (.slice A s.length c)/\w.cell? ⟨p2,0,none⟩=some (.int .i64 t)/\w.cell? ⟨p3,0,none⟩=some (.bool plain)
variable {t:Int} {s:List Aa} {c:Nat} {A:zo}
theorem XH.below {plain:Bool} {p1 p2 p3:Nat} (h:XH s A c t plain p1 p2 p3 w) (hb:Below w.heap.size w w'):XH s A c t plain p1 p2 p3 w':=⟨zA hb h.1,zA hb h.2.1,zA hb h.2.2⟩
section
variable {s:List Aa} {A:zo} {c:Nat} {plain:Bool} {n:Nat}
theorem Q7 (hf:Pv s A c plain n) (t:Int) (p1 p2 p3:Nat) (v:Val) (A1:zo) (c1:Nat) (A2:zo) (c2:Nat) (A3:zo) (c3:Nat) (w:World) (hv:SizeOf.sizeOf v<=n) (hs:C8 w A s) (hr:Ao w v A1 A2 A3) (hc:XH s A c t plain p1 p2 p3 w) :
  Calls Tryz.prog 148 #[v.v A1 c1 A2 c2 A3 c3,.pointer (some ⟨p1,0,none⟩),.pointer (some ⟨p2,0,none⟩),.pointer (some ⟨p3,0,none⟩)] w fun e w'=>e = .returned (.bool (!Ad s plain n t v))/\Below w.heap.size w w':=by
 have HF:=zh hf;have HS:=zh (hs.below (zD w (v.box A1 c1 A2 c2 A3 c3)));have HR:=zh (hr.below (zD w (v.box A1 c1 A2 c2 A3 c3)));have HB:=zh (zD w (v.box A1 c1 A2 c2 A3 c3));obtain ⟨x1,x2,x3⟩:=hc;have l1:=zL x1;have l2:=zL x2;have l3:=zL x3;simp only at l1 l2 l3;clear hf hs hr
 go_enter Tryz.func148,Tryz.ntmps148
 go_wp2_with fail
 refine (HF.out t v A1 c1 A2 c2 A3 c3 _ hv HS HR).mono ?_;rintro e w2 ⟨rfl,hb2⟩;have HB2:=zh (zB HB hb2);clear hb2 x1 x2 x3;go_wp2;go_ret;exact ⟨rfl,HB2.out⟩
theorem gm (hf:Pv s A c plain n) (t:Int) (p1 p2 p3:Nat) (l:List Val) (B:zo) (d:Nat) (w:World) (hv:∀y∈l,SizeOf.sizeOf y<=n) (hs:C8 w A s) (hl:Ch w B l) (hc:XH s A c t plain p1 p2 p3 w) :
  Calls Tryz.prog 171 #[.slice B l.length d,.func (.func 148) #[] #[.pointer (some ⟨p1,0,none⟩),.pointer (some ⟨p2,0,none⟩),.pointer (some ⟨p3,0,none⟩)]] w fun e w'=>e = .returned (.int .i64 (Bg (fun y => !Ad s plain n t y) l))/\Below w.heap.size w w':=by
 have hln:=hl.1.lt (by omega)
 have HL:=zh hl;have HS:=zh hs;have HC:=zh hc;have HF:=zh hf;have HV:=zh hv;clear hl hs hc hf hv
 go_enter Tryz.func171,Tryz.ntmps171
 go_wp2
 go_loopw [8] (fun i wr=>∃k:Nat,k<=l.length/\i = .int .i64 (k:Int)/\Hid ((∀j (h:j<l.length),j<k->(!Ad s plain n t l[j])=false)/\Below w.heap.size w wr)) (fun i _=>l.length - (intOf i).toNat)
 case atStart=>exact ⟨0,by omega,rfl,(fun j _ h=>absurd h (by omega)),Pe _ _⟩
 case round =>
  obtain ⟨k,hk,rfl,hh⟩:=hrel
  by_cases hlt:k<l.length
  ·obtain ⟨b,o,A1,c1,A2,c2,A3,c3,rfl,hr1,a0,a1,a2,a3,a4,a5,a6,a7⟩:=(HL.out.below hh.out.2).at8 hlt
   have HR:=zh hr1;have jM:=zh (HV.out _ (AAU hlt));clear hr1;have h1:(0:Int)<=(k:Int):=by omega
   have h2:(k:Int)<(l.length:Int):=by omega
   cases he:(!Ad s plain n t l[k]) with
   | true =>
    have HD:=zh he;have HI:=zh (J8 (p:=fun y => !Ad s plain n t y) l k hlt hh.out.1 he)
    clear he;go_wp2_with (go_at_call 148;refine (Q7 HF t p1 p2 p3 l[k] A1 c1 A2 c2 A3 c3 wr jM (HS.out.below hh.out.2) HR (HC.out.below hh.out.2)).mono ?_;rintro e w2 ⟨rfl,hb2⟩;rw[HD.out]);go_ret;exact ⟨by rw[HI.out];rfl,zB hh.out.2 hb2⟩
   | false =>
    have HD:=zh he;have HN:Hid (∀j (h:j<l.length),j<k+1->(!Ad s plain n t l[j])=false):=fun j h hj=>by
     by_cases e:j=k
     ·subst e;exact he
     ·exact hh.out.1 j h (by omega)
    clear he;go_wp2_with (go_at_call 148;refine (Q7 HF t p1 p2 p3 l[k] A1 c1 A2 c2 A3 c3 wr jM (HS.out.below hh.out.2) HR (HC.out.below hh.out.2)).mono ?_;rintro e w2 ⟨rfl,hb2⟩;rw[HD.out]);go_roundw
    case rel=>exact ⟨k+1,by omega,by go_num,HN.out,zB hh.out.2 hb2⟩
    case measure=>simp[intOf];omega
  ·have HI:=zh (J7 (p:=fun y => !Ad s plain n t y) l fun j h=>hh.out.1 j h (by omega))
   go_wp2
   go_ret
   exact ⟨by rw[HI.out];rfl,hh.out.2⟩
theorem FJ {α:Type} {p:α->Bool}:∀l:List α,decide (0<=Bg p l)=l.any p
 | []=>rfl
 | x::r=>by
  have ih:=FJ (p:=p) r;have h:=Fu p r;unfold Bg;rw[List.any_cons,<-ih]
  cases hx:p x with
  | true=>simp
  | false =>
   rw[Pd (by simp),Bool.false_or]
   split
   ·rename_i h1
    rw[decide_eq_decide];omega
   ·rw[decide_eq_decide];omega
theorem Zx (hf:Pv s A c plain n) (t:Int) (p1 p2 p3:Nat) (l:List Val) (B:zo) (d:Nat) (w:World) (hv:∀y∈l,SizeOf.sizeOf y<=n) (hs:C8 w A s) (hl:Ch w B l) (hc:XH s A c t plain p1 p2 p3 w) :
  Calls Tryz.prog 147 #[.slice B l.length d,.func (.func 148) #[] #[.pointer (some ⟨p1,0,none⟩),.pointer (some ⟨p2,0,none⟩),.pointer (some ⟨p3,0,none⟩)]] w fun e w'=>e = .returned (.bool (l.any fun y => !Ad s plain n t y))/\Below w.heap.size w w':=by
 have HI:=zh (gm hf t p1 p2 p3 l B d w hv hs hl hc);have HD:=zh (FJ (p:=fun y => !Ad s plain n t y) l)
 clear hf hv hs hl hc
 go_enter Tryz.func147,Tryz.ntmps147
 go_wp2_with fail
 refine HI.out.mono ?_;rintro e w2 ⟨rfl,hb2⟩;have HB:=zh hb2;clear hb2 HI;go_wp2;go_ret;exact ⟨by rw[<-HD.out];rfl,HB.out⟩
theorem KE (hf:Pv s A c plain n) (t:Int) (l:List Val) (B:zo) (d:Nat) (w:World) (hv:∀y∈l,SizeOf.sizeOf y<=n) (hs:C8 w A s) (hl:Ch w B l) :
  Calls Tryz.prog 98 #[.agg #[.slice A s.length c],.int .i64 t,.slice B l.length d,.bool plain] w fun e w'=>e = .returned (.bool (l.all fun y=>Ad s plain n t y))/\Below w.heap.size w w':=by
 have HB:=zh (zB (zB (zD w (.cells #[.slice A s.length c] 31)) (zD _ (.cells #[.int .i64 t] 3))) (zD _ (.cells #[.bool plain] 4)));have HC:Hid (XH s A c t plain w.heap.size (w.heap.size+1) (w.heap.size+1+1) (((w.alloc (.cells #[.slice A s.length c] 31)).alloc (.cells #[.int .i64 t] 3)).alloc (.cells #[.bool plain] 4))):=by
  refine ⟨?_,?_,?_⟩ <;> go_simp
 have HI:=zh (Zx hf t w.heap.size (w.heap.size+1) (w.heap.size+1+1) l B d _ hv (hs.below HB) (hl.below HB) HC);have HD:Hid ((!(l.any fun y => !Ad s plain n t y))=l.all fun y=>Ad s plain n t y):=by show _=_;simp[List.any_eq_not_all_not]
 clear hf hv hs hl HC
 go_enter Tryz.func98,Tryz.ntmps98
 go_wp2_with fail
 refine HI.out.mono ?_;rintro e w2 ⟨rfl,hb2⟩;have HB2:=zh (zB HB hb2);clear hb2 HI;go_wp2;go_ret;exact ⟨by rw[<-HD.out];rfl,HB2.out⟩
end
def Ke (x:Aa) (a:Af):Bool:=!(x.AA.any fun y=>decide (y.id=a.id))&&BA a.id
theorem Mk (x:Aa) (a:Af):Ke x a=((x.AA.all fun m=>decide (m.id≠a.id))&&BA a.id):=by
 unfold Ke
 congr 1
 simp[List.all_eq_not_any_not]
theorem Oz (x:Aa):∀ (l:List Af),(∀k (h:k<l.length),Ke x l[k]=true)->(∀k (h:k+1<l.length),(l[k]).id<(l[k+1]).id)->DT x l=true
 | [],_,_=>rfl
 | [a],h,_=>by
  have h0:=h 0 (by simp)
  rw[Mk] at h0;have h0':((x.AA.all fun m=>decide (m.id≠a.id))&&BA a.id)=true:=h0
  unfold DT;rw[h0'];rfl
 | a::b::r,h,h2=>by
  have h0:=h 0 (by simp)
  rw[Mk] at h0;have h0':((x.AA.all fun m=>decide (m.id≠a.id))&&BA a.id)=true:=h0
  have h1:a.id<b.id:=h2 0 (by simp)
  unfold DT;rw[h0',Oz x (b::r) (fun k hk=>h (k+1) (by simpa using hk)) (fun k hk=>h2 (k+1) (by simpa using hk))]
  simp[h1]
theorem Oy (x:Aa):∀ (l:List Af) (k:Nat) (h:k<l.length),Ke x l[k]=false->DT x l=false
 | a::r,0,_,hn=>by
  rw[Mk] at hn;have hn':((x.AA.all fun m=>decide (m.id≠a.id))&&BA a.id)=false:=hn
  unfold DT;rw[hn',Bool.false_and,Bool.false_and]
 | a::r,k+1,h,hn=>by
  unfold DT;rw[Oy x r k (by simpa using h) hn,Bool.and_false]
theorem Qd (x:Aa):∀ (l:List Af) (k:Nat) (h:k+1<l.length),¬ (l[k]).id<(l[k+1]).id->DT x l=false
 | [_],k,h,_=>by simp at h
 | a::b::r,0,_,hn=>by
  have hn':¬ a.id<b.id:=hn;unfold DT;simp[hn']
 | a::b::r,k+1,h,hn=>by
  unfold DT;rw[Qd x (b::r) k (by simpa using h) hn,Bool.and_false]
theorem Oe (f:Int->Val->Bool):∀ (ms:List AY) (vs:List Val),(∀k (h:k<ms.length) (h':k<vs.length),f (ms[k]).type vs[k]=true)->((ms.zip vs).all fun p=>f p.1.type p.2)=true
 | [],_,_=>rfl
 | _::_,[],_=>rfl
 | m::ms,v::vs,h=>by
  have h0:f m.type v=true:=h 0 (by simp) (by simp)
  simp only[List.zip_cons_cons,List.all_cons,h0,Bool.true_and];exact Oe f ms vs fun k h1 h2=>h (k+1) (by simpa using h1) (by simpa using h2)
theorem Od (f:Int->Val->Bool):∀ (ms:List AY) (vs:List Val) (k:Nat) (h:k<ms.length) (h':k<vs.length),f (ms[k]).type vs[k]=false->((ms.zip vs).all fun p=>f p.1.type p.2)=false
 | m::ms,v::vs,0,_,_,h=>by
  have h0:f m.type v=false:=h;simp only[List.zip_cons_cons,List.all_cons,h0,Bool.false_and]
 | m::ms,v::vs,k+1,h1,h2,h=>by
  simp only[List.zip_cons_cons,List.all_cons,Od f ms vs k (by simpa using h1) (by simpa using h2) h,Bool.and_false]
theorem JS {α:Type} {p:α->Bool}:∀ (l:List α),l.any p=true->∃k,∃h:k<l.length,Bg p l=(k:Int)/\l.find? p=some l[k]
 | [],h=>by cases h
 | x::r,h=>by
  cases hx:p x with
  | true=>exact ⟨0,by simp,by unfold Bg;rw[AAH hx];rfl,by rw[ABl,hx];rfl⟩
  | false =>
   rw[List.any_cons,hx,Bool.false_or] at h;obtain ⟨k,hk,e1,e2⟩:=JS r h;refine ⟨k+1,by simpa using hk,?_,?_⟩
   ·unfold Bg
    rw[hx,Pd (by simp),e1,Pd (by omega)]
    omega
   ·rw[ABl,hx];exact e2
theorem OV {α:Type} {p:α->Bool} (l:List α) (h:l.any p=false):l.find? p=none:=by
 rw[List.find?_eq_none]
 intro x hx hp
 rw[List.any_eq_false] at h;exact h x hx hp
variable {v:Val}
theorem Bt {plain:Bool} {n:Nat} (h:Ad s plain (n+1) t v=true):0<=t/\t<(s.length:Int)/\v.kind=(AO s t).kind/\Ak (Ad s plain n) plain (AO s t) v=true:=by
 unfold Ad at h
 by_cases h1:t<0\/(s.length:Int)<=t
 ·rw[AAH h1] at h;cases h
 ·rw[Pd h1] at h
  by_cases h2:v.kind≠(AO s t).kind\/zJ v=false
  ·rw[AAH h2] at h;cases h
  ·rw[Pd h2] at h
   exact ⟨by omega,by omega,Classical.byContradiction fun e=>h2 (.inl e),h⟩
theorem iF {n:Int} (h:BA n=true):1<=n/\n<=1000:=by
 unfold BA at h
 simpa using h
theorem OU {n:Int} (h:BA n=true):In64 n:=by
 have:=iF h;unfold In64
 omega
section
variable {f:Int->Val->Bool} {plain:Bool} {x:Aa} {v:Val}
theorem xH (e:x.kind=2) (h:Ak f plain x v=true):x.low<=v.int/\v.int<=x.high:=by
 unfold Ak at h;rw[AAH e] at h
 simpa using h
theorem ABa (e:x.kind=4) (h:Ak f plain x v=true):(x.AV.any fun y=>decide (y.id=v.id))=true\/((x.AV.any fun y=>decide (y.id=v.id))=false/\BA v.id=true):=by
 unfold Ak at h;rw[Pd (by omega),Pd (by omega),AAH e] at h
 cases ha:(x.AV.any fun y=>decide (y.id=v.id)) with
 | true=>exact .inl rfl
 | false =>
  rw[ha] at h;simp only[Bool.false_or,AAM] at h;exact .inr ⟨rfl,h.2⟩
theorem Qc:∀ {l:List Af},DT x l=true->∀r∈l,BA r.id=true
 | a::l,h,r,hr=>by
  unfold DT at h;simp only[AAM] at h
  rcases AAi.1 hr with rfl|hr
  ·exact h.1.1.2
  ·exact Qc h.2 r hr
theorem S9:∀ (ms:List AY) (vs:List Val),((ms.zip vs).all fun p=>f p.1.type p.2)=true->∀k (h:k<ms.length) (h':k<vs.length),f (ms[k]).type vs[k]=true
 | m::ms,w::vs,h,0,_,_=>by
  simp only[List.zip_cons_cons,List.all_cons,AAM] at h;exact h.1
 | m::ms,w::vs,h,k+1,h1,h2=>by
  simp only[List.zip_cons_cons,List.all_cons,AAM] at h;exact S9 ms vs h.2 k (by simpa using h1) (by simpa using h2)
theorem sM (e:x.kind=5) (h:Ak f plain x v=true):v.items.length=x.AA.length/\(∀r∈v.rest,BA r.id=true)/\∀k (h:k<x.AA.length) (h':k<v.items.length),f (x.AA[k]).type v.items[k]=true:=by
 unfold Ak at h;rw[Pd (by omega),Pd (by omega),Pd (by omega),AAH e] at h
 simp only[AAM,AAX] at h;exact ⟨h.1.1.1,Qc h.1.2,S9 _ _ h.2⟩
theorem xG (e:x.kind=6) (h:Ak f plain x v=true):((x.AA.any fun y=>decide (y.id=v.id))=true/\∃m y,x.AA.find? (fun y=>decide (y.id=v.id))=some m/\v.items=[y]/\f m.type y=true)\/((x.AA.any fun y=>decide (y.id=v.id))=false/\BA v.id=true/\∃r,v.rest=[r]):=by
 unfold Ak at h;rw[Pd (by omega),Pd (by omega),Pd (by omega),Pd (by omega),AAH e] at h
 cases ha:(x.AA.any fun y=>decide (y.id=v.id)) with
 | true =>
  obtain ⟨k,hk,_,hf⟩:=JS x.AA ha;rw[hf] at h;simp only[AAM,AAX] at h;obtain ⟨y,hy⟩:=List.length_eq_one_iff.1 h.1.1;refine .inl ⟨rfl,_,y,hf,hy,?_⟩;rw[hy] at h
  simpa using h.2
 | false =>
  rw[OV x.AA ha] at h;simp only[AAM,AAX] at h;exact .inr ⟨rfl,h.1.1.1.2,List.length_eq_one_iff.1 h.1.2⟩
theorem xE (e:x.kind=7) (h:Ak f plain x v=true):∀y∈v.items,f x.elem y=true:=by
 unfold Ak at h;rw[Pd (by omega),Pd (by omega),Pd (by omega),Pd (by omega),Pd (by omega),AAH e] at h
 simp only[AAM,AAj] at h;exact h.2
theorem xD (e:x.kind=8) (h:Ak f plain x v=true):v.items.length=v.keys.length/\(∀y∈v.keys,f x.key y=true)/\∀y∈v.items,f x.elem y=true:=by
 unfold Ak at h;rw[Pd (by omega),Pd (by omega),Pd (by omega),Pd (by omega),Pd (by omega),Pd (by omega),AAH e] at h
 simp only[AAM,AAj,AAX] at h;exact ⟨h.1.1.1.2,h.1.1.2,h.2⟩
theorem xC (e:x.kind=9) (h:Ak f plain x v=true):v.items.length<=1/\∀y∈v.items,f x.elem y=true:=by
 unfold Ak at h;rw[Pd (by omega),Pd (by omega),Pd (by omega),Pd (by omega),Pd (by omega),Pd (by omega),Pd (by omega),AAH e] at h
 simp only[AAM,AAj,AAX] at h;exact h
end
section
variable {f:Int->Val->ByteArray} {x:Aa} {v:Val}
theorem ABC (e:x.kind=1):Bd f x v=if v.bool then ⟨#[116,114,117,101]⟩ else ⟨#[102,97,108,115,101]⟩:=by unfold Bd;rw[AAH e]
theorem ABB (e:x.kind=2):Bd f x v=CX v.int:=by unfold Bd;rw[Pd (by omega),AAH e]
theorem ABA (e:x.kind=3):Bd f x v=LG v.str:=by unfold Bd;rw[Pd (by omega),Pd (by omega),AAH e]
theorem AA9 (e:x.kind=4):Bd f x v=match x.AV.find? fun y=>decide (y.id=v.id) with
  | some y=>y.name
  | none=>⟨#[64]⟩++CX v.id:=by unfold Bd;rw[Pd (by omega),Pd (by omega),Pd (by omega),AAH e];rfl
theorem AA8 (e:x.kind=5):Bd f x v=⟨#[123]⟩++FN ((x.AA.zip v.items).map (Kw f)++v.rest.map Mj)++⟨#[125]⟩:=by
 unfold Bd;rw[Pd (by omega),Pd (by omega),Pd (by omega),Pd (by omega),AAH e]
theorem wM (e:x.kind=6):Bd f x v=(match x.AA.find? fun m=>decide (m.id=v.id) with
  | some m=>m.name++⟨#[40]⟩++(match v.items with|y::_=>f m.type y | []=>⟨#[]⟩)
  | none=>⟨#[64]⟩++CX v.id++⟨#[40]⟩++(match v.rest with|r::_=>LG r.data | []=>⟨#[]⟩))++⟨#[41]⟩:=by
 unfold Bd;rw[Pd (by omega),Pd (by omega),Pd (by omega),Pd (by omega),Pd (by omega),AAH e];rfl
theorem AA7 (e:x.kind=7):Bd f x v=⟨#[91]⟩++FN (v.items.map (f x.elem))++⟨#[93]⟩:=by
 unfold Bd;rw[Pd (by omega),Pd (by omega),Pd (by omega),Pd (by omega),Pd (by omega),Pd (by omega),AAH e]
theorem AA6 (e:x.kind=8):Bd f x v=⟨#[91]⟩++(if v.keys.length=0 then ⟨#[45,62]⟩ else ⟨#[]⟩)++FN ((v.keys.zip v.items).map (QA (f x.key) (f x.elem)))++⟨#[93]⟩:=by
 unfold Bd;rw[Pd (by omega),Pd (by omega),Pd (by omega),Pd (by omega),Pd (by omega),Pd (by omega),Pd (by omega),AAH e]
theorem wL (e:x.kind=9):Bd f x v=match v.items with
  | []=>⟨#[110,111,110,101]⟩
  | y::_=>⟨#[115,111,109,101,40]⟩++f x.elem y++⟨#[41]⟩:=by
 unfold Bd;rw[Pd (by omega),Pd (by omega),Pd (by omega),Pd (by omega),Pd (by omega),Pd (by omega),Pd (by omega),Pd (by omega)];rfl
end
variable {k:Nat}
theorem KG {l:List ByteArray} (h:k<l.length):Dw (fun i=>l.getD i ⟨#[]⟩) (k+1)=Dw (fun i=>l.getD i ⟨#[]⟩) k++(if k=0 then ⟨#[]⟩ else ⟨#[44,32]⟩)++l[k]:=by
 rw[Dw]
 congr 1
 show l.getD k ⟨#[]⟩=_
 rw[AAg,zl h];rfl
theorem KH {l:List ByteArray} (h:k<l.length):(Dw (fun i=>l.getD i ⟨#[]⟩) k).size+(if k=0 then (⟨#[]⟩:ByteArray) else ⟨#[44,32]⟩).size+(l[k]).size<=(FN l).size:=by
 have:=Zy (fun i=>l.getD i ⟨#[]⟩) h
 rw[show (l.getD k ⟨#[]⟩:ByteArray)=l[k] by rw[AAg,zl h];rfl] at this
 exact this
def CJ (f:Int->Val->ByteArray) (x:Aa) (v:Val):List ByteArray:=(x.AA.zip v.items).map (Kw f)++v.rest.map Mj
section
variable {f:Int->Val->ByteArray} {x:Aa} {v:Val}
theorem ZH (h:v.items.length=x.AA.length):(CJ f x v).length=x.AA.length+v.rest.length:=by
 unfold CJ;rw[AAp,AAd,AAd,List.length_zip]
 omega
theorem ZG (h:v.items.length=x.AA.length) {k:Nat} (hk:k<x.AA.length) (hi:k<v.items.length) (hp:k<(CJ f x v).length):(CJ f x v)[k]=(x.AA[k]).name++⟨#[58,32]⟩++f (x.AA[k]).type v.items[k]:=by
 have h1:k<((x.AA.zip v.items).map (Kw f)).length:=by rw[AAd,List.length_zip];omega
 refine (List.getElem_append_left (bs:=v.rest.map Mj) h1).trans ?_;rw[List.getElem_map,List.getElem_zip]
 rfl
theorem ZF (h:v.items.length=x.AA.length) {k:Nat} (hk:k<v.rest.length) (hp:x.AA.length+k<(CJ f x v).length):(CJ f x v)[x.AA.length+k]=CX (v.rest[k]).id++⟨#[58,32]⟩++LG (v.rest[k]).data:=by
 have h1:((x.AA.zip v.items).map (Kw f)).length=x.AA.length:=by rw[AAd,List.length_zip];omega
 have h2:((x.AA.zip v.items).map (Kw f)).length<=x.AA.length+k:=by omega
 refine (List.getElem_append_right (bs:=v.rest.map Mj) h2).trans ?_;rw[List.getElem_map];have e:x.AA.length+k - ((x.AA.zip v.items).map (Kw f)).length=k:=by omega
 simp only[e]
 rfl
end
def FM (f g:Val->ByteArray) (v:Val):List ByteArray:=(v.keys.zip v.items).map (QA f g)
theorem Zq {f g:Val->ByteArray} (h:v.items.length=v.keys.length):(FM f g v).length=v.keys.length:=by
 unfold FM;rw[AAd,List.length_zip]
 omega
theorem Zr {f g:Val->ByteArray} (hk:k<v.keys.length) (hi:k<v.items.length) (hp:k<(FM f g v).length):(FM f g v)[k]=f v.keys[k]++⟨#[32,45,62,32]⟩++g v.items[k]:=by
 refine (List.getElem_map (QA f g) (l:=v.keys.zip v.items) (i:=k) (h:=hp)).trans ?_;rw[List.getElem_zip]
 rfl
theorem NC {α:Type} (p:α->Bool):∀l:List α,Bg p l=match l.findIdx? p with
  | none => -1
  | some k=>(k:Int)
 | []=>rfl
 | x::r=>by
  rw[Bg,List.findIdx?_cons,NC p r]
  cases hp:p x with
  | true=>rfl
  | false =>
   cases r.findIdx? p with
   | none=>rfl
   | some k =>
    simp only[Bool.false_eq_true,if_false,Option.map_some];rw[Pd (by omega)]
    show (k:Int)+1=((k+1:Nat):Int)
    omega
theorem Ht {α:Type} (p:α->Bool):∀l:List α,l.find? p=if Bg p l<0 then none else l[(Bg p l).toNat]?
 | []=>rfl
 | x::r=>by
  rw[ABl,Bg,Ht p r]
  cases hp:p x with
  | true=>rfl
  | false =>
   have:=Fu p r;simp only[Bool.false_eq_true,if_false]
   by_cases h:Bg p r<0
   ·rw[AAH h,AAH h];rfl
   ·rw[Pd h,Pd h,Pd (by omega),show (Bg p r+1).toNat=(Bg p r).toNat+1 by omega]
    rfl
theorem KC (h:Bc s false t v=true):∃n,Ad s false (n+1) t v=true:=by
 refine ⟨SizeOf.sizeOf v - 1,?_⟩;have:=Tz v;rw[show SizeOf.sizeOf v - 1+1=SizeOf.sizeOf v by omega]
 exact h
theorem SG (h:Bc s false t v=true):0<=t/\t<(s.length:Int)/\v.kind=(AO s t).kind:=by
 obtain ⟨n,h⟩:=KC h;have:=Bt h;exact ⟨this.1,this.2.1,this.2.2.1⟩
theorem Ws (h:Bc s false t v=true) (hk:(AO s t).kind=5) (p:Int) (q:List Int):
  v.items.length=(AO s t).AA.length/\(Bg (fun m:AY=>decide (m.id=p)) (AO s t).AA<0->Gz s t v (p::q)=none) /\
  ∀k:Nat,Bg (fun m:AY=>decide (m.id=p)) (AO s t).AA=(k:Int)->∀ (h1:k<(AO s t).AA.length) (h2:k<v.items.length),Gz s t v (p::q)=Gz s ((AO s t).AA[k]).type v.items[k] q/\Bc s false ((AO s t).AA[k]).type v.items[k]=true:=by
 obtain ⟨n,h⟩:=KC h;obtain ⟨_,_,_,hf⟩:=Bt h;obtain ⟨g1,_,g3⟩:=sM hk hf;refine ⟨g1,fun hn=>?_,fun k hi h1 h2=>⟨?_,E5 _ _ _ (g3 k h1 h2)⟩⟩
 ·rw[NC] at hn
  rw[Gz,Oq,AAH hk]
  cases hm:(AO s t).AA.findIdx? fun m=>decide (m.id=p) with
  | none=>rfl
  | some k=>rw[hm] at hn;simp only at hn;omega
 ·rw[NC] at hi
  rw[Gz,Oq,AAH hk]
  cases hm:(AO s t).AA.findIdx? fun m=>decide (m.id=p) with
  | none=>rw[hm] at hi;simp only at hi;omega
  | some k' =>
   rw[hm] at hi;obtain rfl:k'=k:=by simp only at hi;omega
   simp only[Option.map_some];rw[zl h2,AAg,zl h1]
   rfl
theorem Wq (h:Bc s false t v=true) (hk:(AO s t).kind=6) (p:Int) (q:List Int):
  (Bg (fun m:AY=>decide (m.id=p)) (AO s t).AA<0->Gz s t v (p::q)=none)/\(p≠v.id->Gz s t v (p::q)=none) /\
  ∀k:Nat,Bg (fun m:AY=>decide (m.id=p)) (AO s t).AA=(k:Int)->p=v.id->∃ (h1:k<(AO s t).AA.length) (h2:0<v.items.length),Gz s t v (p::q)=Gz s ((AO s t).AA[k]).type v.items[0] q/\Bc s false ((AO s t).AA[k]).type v.items[0]=true:=by
 obtain ⟨n,h⟩:=KC h;obtain ⟨_,_,_,hf⟩:=Bt h;have h6:=xG hk hf;have hst:Oq (AO s t) v p=if p=v.id then ((AO s t).AA.find? fun m=>decide (m.id=p)).map fun m=>(0,m.type) else none:=by
  rw[Oq,Pd (by omega),AAH hk]
 refine ⟨fun hn=>?_,fun hp=>?_,fun k hi hp=>?_⟩
 ·rw[Gz,hst,Ht,AAH hn]
  by_cases hp:p=v.id
  ·rw[AAH hp];rfl
  ·rw[Pd hp]
 ·rw[Gz,hst,Pd hp]
 ·have hl:=Fu (fun m:AY=>decide (m.id=p)) (AO s t).AA
  have h1:k<(AO s t).AA.length:=by omega
  have pR:(AO s t).AA.find? (fun m=>decide (m.id=p))=some (AO s t).AA[k]:=by
   rw[Ht,Pd (by omega),hi]
   rw[show ((k:Nat):Int).toNat=k by omega,zl h1]
  rcases h6 with ⟨_,m,y,g1,g2,g3⟩|⟨g1,_⟩
  ·rw[<-hp,pR] at g1
   obtain rfl:=AAh g1;refine ⟨h1,by rw[g2];simp,?_,?_⟩
   ·rw[Gz,hst,AAH hp,pR]
    simp only[Option.map_some];rw[zl (by rw[g2];simp)]
   ·have:v.items[0]'(by rw[g2];simp)=y:=by simp only[g2,List.getElem_cons_zero]
    rw[this];exact E5 _ _ _ g3
  ·rw[<-hp] at g1
   have:=List.any_eq_false.1 g1 _ (List.mem_of_find?_eq_some pR);exact absurd (List.find?_some pR) this
theorem jB (h:Bc s false t v=true) (h5:(AO s t).kind≠5) (h6:(AO s t).kind≠6) (p:Int) (q:List Int):
  (p<0->Gz s t v (p::q)=none)/\((v.items.length:Int)<=p->Gz s t v (p::q)=none) /\
  ∀k:Nat,p=(k:Int)->∀h2:k<v.items.length,((AO s t).kind=7\/(AO s t).kind=8\/(AO s t).kind=9)/\Gz s t v (p::q)=Gz s (AO s t).elem v.items[k] q/\Bc s false (AO s t).elem v.items[k]=true:=by
 obtain ⟨n,h⟩:=KC h;obtain ⟨_,_,hkk,hpr,hf⟩:=KA h;have hst:Oq (AO s t) v p=if 0<=p then some (p.toNat,(AO s t).elem) else none:=by
  rw[Oq,Pd h5,Pd h6]
 refine ⟨fun hp=>?_,fun hp=>?_,fun k hk h2=>?_⟩
 ·rw[Gz,hst,Pd (by omega)]
 ·rw[Gz,hst,AAH (by omega)]
  simp only;rw[List.getElem?_eq_none (by omega)]
 ·have hc:(AO s t).kind=7\/(AO s t).kind=8\/(AO s t).kind=9:=by
   refine Classical.byContradiction fun hc=>?_
   unfold zJ Ar at hpr;simp only[AAM,AAX] at hpr;have:=hpr.1.2;simp only[Val.items] at this;rw[Pd (by omega)] at this
   have e:v.items.length=0:=this
   omega
  have hm:=AAU h2;refine ⟨hc,?_,?_⟩
  ·rw[Gz,hst,AAH (by omega)]
   simp only;rw[show p.toNat=k by omega,zl h2]
  ·rcases hc with hc|hc|hc
   ·exact E5 _ _ _ (xE hc hf _ hm)
   ·exact E5 _ _ _ ((xD hc hf).2.2 _ hm)
   ·exact E5 _ _ _ ((xC hc hf).2 _ hm)
noncomputable def Lf (s:List Aa) (t:Int) (v:Val) (p:List Int):ByteArray×Int :=
 if Bc s false t v=false then (⟨#[]⟩,1) else match Gz s t v p with
  | none=>(⟨#[]⟩,4)
  | some _=>(GA s t p,0)
noncomputable def Wt (s:List Aa) (t:Int) (v:Val) (p:List Int):Int :=
 if Bc s false t v=false then 1 else match Gz s t v p with
  | none=>4
  | some _=>0
abbrev jZ:AY:=⟨1,⟨#[120]⟩,1,false,false,zeroV⟩
abbrev jY:AY:=⟨3,⟨#[121]⟩,2,false,false,zeroV⟩
abbrev ZC:Aa:={ Ai with kind:=5,name:=⟨#[80,111,105,110,116]⟩,AA:=[jZ,jY] }
abbrev fG:Aa:={ Ai with kind:=2,high:=9 }
abbrev fF:Aa:={ Ai with kind:=9,elem:=1 }
def Ir:List Aa:=[ZC,fG,fF]
abbrev qZ:ByteArray:=⟨#[123,32,120,32,58,32,53,32,44,32,121,32,58,32,115,111,109,101,32,40,32,55,32,41,32,125]⟩
abbrev qY:ByteArray:=⟨#[123,120,58,32,53,125]⟩
abbrev qX:ByteArray:=⟨#[123,121,58,32,110,111,110,101,44,32,120,58,32,53,125]⟩
abbrev qW:ByteArray:=⟨#[123,120,58,32,49,48,44,32,121,58,32,110,111,110,101,125]⟩
abbrev txF:ByteArray:=⟨#[123,120,58,32,53,44,32,121,58,32,110,111,110,101,44,32,50,58,32,34,92,120,48,49,34,125]⟩
abbrev OA (n:Int):Val := .mk 2 false n ⟨#[]⟩ 0 [] [] []
abbrev pOpt (l:List Val):Val := .mk 9 false 0 ⟨#[]⟩ 0 [] l []
def LH:Val := .mk 5 false 0 ⟨#[]⟩ 0 [] [OA 5,pOpt [OA 7]] []
def pv4:Val := .mk 5 false 0 ⟨#[]⟩ 0 [] [OA 10,pOpt []] []
def o9:Val := .mk 5 false 0 ⟨#[]⟩ 0 [] [OA 5,pOpt []] [⟨2,⟨#[1]⟩⟩]
theorem F9:zQ Ir=0:=by decide +kernel
theorem Kv:DI Ir:=by
 intro t ht
 simp only[Ir,AAi,List.mem_nil_iff,or_false] at ht
 rcases ht with rfl|rfl|rfl <;> (unfold In64;decide)
def FQ (x:ByteArray):List AJ:=match Ay 1 x.data.toList with | .ok l=>l | .error _=>[]
theorem mD:Ay 1 qZ.data.toList = .ok (FQ qZ):=by
 have h:(match Ay 1 qZ.data.toList with | .ok _=>true | .error _=>false)=true:=by decide +kernel
 unfold FQ
 cases h2:Ay 1 qZ.data.toList with
 | ok l=>rfl
 | error e=>rw[h2] at h;cases h
theorem l9:Ay 1 qY.data.toList = .ok (FQ qY):=by
 have h:(match Ay 1 qY.data.toList with | .ok _=>true | .error _=>false)=true:=by decide +kernel
 unfold FQ
 cases h2:Ay 1 qY.data.toList with
 | ok l=>rfl
 | error e=>rw[h2] at h;cases h
theorem l8:Ay 1 qX.data.toList = .ok (FQ qX):=by
 have h:(match Ay 1 qX.data.toList with | .ok _=>true | .error _=>false)=true:=by decide +kernel
 unfold FQ
 cases h2:Ay 1 qX.data.toList with
 | ok l=>rfl
 | error e=>rw[h2] at h;cases h
theorem lu:Ay 1 qW.data.toList = .ok (FQ qW):=by
 have h:(match Ay 1 qW.data.toList with | .ok _=>true | .error _=>false)=true:=by decide +kernel
 unfold FQ
 cases h2:Ay 1 qW.data.toList with
 | ok l=>rfl
 | error e=>rw[h2] at h;cases h
def wC (l:List AJ) (v:Val):Bool:=match CZ false Ir 0 l with | .ok (u,r,k)=>decide (u=v)&&decide (r=[]) && !k | .error _=>false
def o8 (l:List AJ) (e:Int):Bool:=match CZ false Ir 0 l with | .ok _=>false | .error e'=>decide (e'=e)
variable {l:List AJ}
theorem Tn (h:wC l v=true):CZ false Ir 0 l = .ok (v,[],false):=by
 unfold wC at h
 cases hr:CZ false Ir 0 l with
 | error e=>rw[hr] at h;cases h
 | ok p =>
  obtain ⟨u,r,k⟩:=p;rw[hr] at h;simp only[AAM,AAX,Bool.not_eq_true'] at h;rw[h.1.1,h.1.2,h.2]
theorem Qb {e:Int} (h:o8 l e=true):CZ false Ir 0 l = .error e:=by
 unfold o8 at h
 cases hr:CZ false Ir 0 l with
 | error e'=>rw[hr] at h;rw[AAe h]
 | ok p=>rw[hr] at h;cases h
theorem wG:CZ false Ir 0 (FQ qZ) = .ok (LH,[],false):=Tn (by decide +kernel)
theorem wF:CZ false Ir 0 (FQ qY) = .error 2:=Qb (by decide +kernel)
theorem wE:CZ false Ir 0 (FQ qX) = .error 4:=Qb (by decide +kernel)
theorem wD:CZ false Ir 0 (FQ qW) = .ok (pv4,[],false):=Tn (by decide +kernel)
theorem Xn:Bc Ir false 0 LH=true:=Rw ⟨8,by decide +kernel⟩
theorem mE:Bc Ir false 0 o9=true:=Rw ⟨8,by decide +kernel⟩
theorem mF:Bc Ir false 0 pv4=false:=by
 cases h:Bc Ir false 0 pv4 with
 | false=>rfl
 | true =>
  obtain ⟨n,h⟩:=KC h;obtain ⟨_,_,_,hf⟩:=Bt h;obtain ⟨_,_,g⟩:=sM (show (AO Ir 0).kind=5 from rfl) hf;have g0:Ad Ir false n 1 (OA 10)=true:=g 0 (by decide) (by decide)
  cases n with
  | zero=>cases g0
  | succ n =>
   obtain ⟨_,_,_,hf⟩:=Bt g0;have:=(xH (show (AO Ir 1).kind=2 from rfl) hf).2;exact absurd this (by decide)
theorem wK:BL false Ir 0 qZ=(LH,0):=by
 unfold BL;rw[Pd (by decide),Pd (by decide),mD]
 simp only;rw[wG];simp only;rw[Pd (by simp),Pd (by rw[Xn];simp)]
theorem wJ:BL false Ir 0 qY=(zeroV,2):=by
 unfold BL;rw[Pd (by decide),Pd (by decide),l9]
 simp only;rw[wF]
theorem wI:BL false Ir 0 qX=(zeroV,4):=by
 unfold BL;rw[Pd (by decide),Pd (by decide),l8]
 simp only;rw[wE]
theorem wH:BL false Ir 0 qW=(zeroV,1):=by
 unfold BL;rw[Pd (by decide),Pd (by decide),lu]
 simp only;rw[wD];simp only;rw[Pd (by simp),AAH (Or.inr mF)]
theorem qp:Lp Ir 0 o9=txF:=by
 unfold Lp
 decide +kernel
theorem fE:Bc Ir false 0 o9=true/\Lp Ir 0 o9=txF:=⟨mE,qp⟩
theorem Xm:Lf Ir 0 LH [3,0]=(⟨#[46,121,91,48,93]⟩,0):=by
 unfold Lf;rw[Pd (by rw[Xn];simp)]
 have h:(Gz Ir 0 LH [3,0]).isSome=true:=by decide +kernel
 have h2:GA Ir 0 [3,0]=⟨#[46,121,91,48,93]⟩:=by decide +kernel
 cases hc:Gz Ir 0 LH [3,0] with
 | none=>rw[hc] at h;cases h
 | some p=>simp only;rw[h2]
abbrev Qi (b:Nat):Obj := .cells #[.pointer (some ⟨b,5,none⟩),.pointer (some ⟨b,6,none⟩)] 185
abbrev Val.MG (x:Val) (A1:zo) (c1:Nat) (A2:zo) (c2:Nat) (A3:zo) (c3:Nat):Obj:=x.box A1 c1 A2 c2 A3 c3
def Dy (B:Nat) (wk wr:World):Prop:=wk.heap.size<=wr.heap.size/\∀q,B<=q->q<wk.heap.size->wr.heap[q]? = wk.heap[q]?
theorem Dy.refl (B:Nat) (w:World):Dy B w w:=⟨AAP _,fun _ _ _=>rfl⟩
variable {B:Nat} {wk wr:World}
theorem Dy.below (h:Dy B wk wr) (hb:Below wr.heap.size wr w'):Dy B wk w' :=
 ⟨Nat.le_trans h.1 hb.size,fun q h1 h2=>(hb.block q (AA2 h2 h.1)).trans (h.2 q h1 h2)⟩
theorem Dy.cell (h:Dy B wk wr) (hg:g<B\/wk.heap.size<=g) (o:Nat) (v:Value):Dy B wk (wr.setCell ⟨g,o,none⟩ v) :=
 ⟨by simpa using h.1,fun q h1 h2=>by rw[AAO wr ⟨g,o,none⟩ q v (by simp only[ne_eq];omega)];exact h.2 q h1 h2⟩
theorem Dy.cells (h:Dy B wk wr) (hg:g<B\/wk.heap.size<=g) (o:Nat) (vs:List Value):Dy B wk (wr.setCells g o vs) :=
 ⟨by rw[size_setCells];exact h.1,fun q h1 h2=>by rw[zN (by omega)];exact h.2 q h1 h2⟩
theorem Dy.off (h:Dy B wk wr) {P:World->Prop} (ho:Off (· < B) wk P):Off (· < B) wr P :=
 ho.step h.1 fun q hq hl=>h.2 q (by omega) hl
theorem Dy.mono {w0:World} (h:Dy B wk wr) (h0:Dy B w0 wk):Dy B w0 wr :=
 ⟨Nat.le_trans h0.1 h.1,fun q h1 h2=>(h.2 q h1 (AA2 h2 h0.1)).trans (h0.2 q h1 h2)⟩
variable {i:Nat}
theorem BG.reH {α:Type} {E:Nat} {at_:World->α->List Value->Prop} {base H3 H H':Nat} {l:List α} (h:BG E k at_ wr base H3 H A c l i) (hi:l.length<=i):BG E k at_ wr base H3 H' A c l i:=by
 obtain ⟨css,h1,h2,h3,h4,h5⟩:=h;refine ⟨css,h1,h2,h3,h4,fun m x cs hx hc=>⟨(h5 m x cs hx hc).1,fun hm=>?_⟩⟩
 have:=(AAf.1 hx).1
 omega
structure QB (x:Val) (w:World) (P:Nat) (K1:zo) (k1:Nat) (I1:zo) (i1:Nat) (R1:zo) (r1:Nat) (wr:World):Prop where
 box:wr.heap[w.heap.size]? = some (x.box K1 k1 I1 i1 R1 r1)
 res:wr.heap[w.heap.size+1]? = some Ib
 Bz:Below w.heap.size w wr
 ptr:wr.heap[P]? = some (Qi w.heap.size)
 hi:w.heap.size+2<=P
section
variable {x:Val} {w wr w':World} {P:Nat} {K1:zo} {k1:Nat} {I1:zo} {i1:Nat} {R1:zo} {r1:Nat}
theorem QB.below (h:QB x w P K1 k1 I1 i1 R1 r1 wr) (hb:Below wr.heap.size wr w'):QB x w P K1 k1 I1 i1 R1 r1 w' :=
 ⟨zE h.box hb,zE h.res hb,zB h.Bz hb,zE h.ptr hb,h.hi⟩
theorem QB.other (h:QB x w P K1 k1 I1 i1 R1 r1 wr) {g:Nat} (hg:w.heap.size+2<=g) (hp:g≠P) (o:Nat) (vs:List Value):QB x w P K1 k1 I1 i1 R1 r1 (wr.setCells g o vs) :=
 ⟨by rw[zN (by omega)];exact h.box,by rw[zN (by omega)];exact h.res,yC g (by omega) _ _ _ h.Bz,by rw[zN (Ne.symm hp)];exact h.ptr,h.hi⟩
theorem QB.lt (h:QB x w P K1 k1 I1 i1 R1 r1 wr):P<wr.heap.size:=(zg.1 h.ptr).1
theorem QB.cells (h:QB x w P K1 k1 I1 i1 R1 r1 wr):wr.cell? ⟨P,0,none⟩=some (.pointer (some ⟨w.heap.size,5,none⟩))/\wr.cell? ⟨P,1,none⟩=some (.pointer (some ⟨w.heap.size,6,none⟩)) :=
 ⟨by rw[AAN _ _ _ _ _ _ h.ptr];rfl,by rw[AAN _ _ _ _ _ _ h.ptr];rfl⟩
theorem QB.key (h:QB x w P K1 k1 I1 i1 R1 r1 wr) (B1:zo) (d1:Nat):QB x w P B1 d1 I1 i1 R1 r1 (wr.setCell ⟨w.heap.size,5,none⟩ (.slice B1 x.keys.length d1)):=by
 have hp:=h.hi;refine ⟨?_,?_,h.Bz.setCell (p:=⟨w.heap.size,5,none⟩) (AAP _) _,?_,h.hi⟩
 ·rw[AAW _ _ 5 _ _ _ h.box];rfl
 ·rw[AAO _ _ _ _ (by simp)];exact h.res
 ·rw[AAO _ _ _ _ (by simp only[ne_eq];omega)];exact h.ptr
theorem QB.item (h:QB x w P K1 k1 I1 i1 R1 r1 wr) (B1:zo) (d1:Nat):QB x w P K1 k1 B1 d1 R1 r1 (wr.setCell ⟨w.heap.size,6,none⟩ (.slice B1 x.items.length d1)):=by
 have hp:=h.hi;refine ⟨?_,?_,h.Bz.setCell (p:=⟨w.heap.size,6,none⟩) (AAP _) _,?_,h.hi⟩
 ·rw[AAW _ _ 6 _ _ _ h.box];rfl
 ·rw[AAO _ _ _ _ (by simp)];exact h.res
 ·rw[AAO _ _ _ _ (by simp only[ne_eq];omega)];exact h.ptr
end
structure Sn (x:Val) (w:World) (P:Nat) (K1:zo) (k1:Nat) (I1:zo) (i1:Nat) (R1:zo) (r1:Nat) (wk:World) (H3:Nat) (A:zo) (c:Nat) (l:List Val) (i:Nat) (wr:World):Prop where
 bx:QB x w P K1 k1 I1 i1 R1 r1 wr
 kp:Dy (w.heap.size+2) wk wr
 pk:P<wk.heap.size
 h3:wk.heap.size<=H3
 hi:H3<=wr.heap.size
 row:BG 28 8 (fun u x cs=>Val.At u x cs) wr wk.heap.size H3 w.heap.size A c l i
section
variable {x:Val} {w wk wr w':World} {P:Nat} {K1:zo} {k1:Nat} {I1:zo} {i1:Nat} {R1:zo} {r1:Nat} {H3:Nat} {A:zo} {c:Nat} {l:List Val} {i:Nat}
theorem Sn.below (h:Sn x w P K1 k1 I1 i1 R1 r1 wk H3 A c l i wr) (hb:Below wr.heap.size wr w'):Sn x w P K1 k1 I1 i1 R1 r1 wk H3 A c l i w' :=
 ⟨h.bx.below hb,h.kp.below hb,h.pk,h.h3,Nat.le_trans h.hi hb.size,h.row.below hb⟩
theorem Sn.write (h:Sn x w P K1 k1 I1 i1 R1 r1 wk H3 A c l i wr) (hi:i<l.length) {g:Nat} (hA:A=some ⟨g,0,none⟩) {F1:zo} {f1:Nat} {F2:zo} {f2:Nat} {F3:zo} {f3:Nat} {B:Nat} (hB:H3<=B) (ho:Off (· < B) wr fun u=>Ao u l[i] F1 F2 F3) :
  Sn x w P K1 k1 I1 i1 R1 r1 wk H3 A c l (i+1) (wr.setCells g (i * 8) ((l[i]).cs F1 f1 F2 f2 F3 f3)):=by
 have hlt:=h.row.lt (g:=g) (by rw[hA];rfl)
 have hp:=h.pk;have hlo:=h.bx.hi;have hsz:=h.bx.Bz.size;refine ⟨h.bx.other (by omega) (by omega) _ _,h.kp.cells (Or.inr hlt.1) _ _,h.pk,h.h3,by rw[size_setCells];exact h.hi,?_⟩
 have:=h.row.write hi hA (by omega) (by omega) (x:=l[i]) (cs:=(l[i]).cs F1 f1 F2 f2 F3 f3) rfl ((ho.mono fun q _ hq=>by omega).imp fun u hu=>Val.FZ.2 ⟨F1,f1,F2,f2,F3,f3,rfl,hu⟩)
 rwa [List.set_getElem_self] at this
theorem Sn.out (h:Sn x w P K1 k1 I1 i1 R1 r1 wk H3 A c l i wr) (hi:l.length<=i) (hl:EK 120 l.length):Off (· < w.heap.size+2) wr fun u=>Ch u A l:=by
 have hp:=h.pk;have hlo:=h.bx.hi;have hh:=h.h3;exact (h.row.reH hi).out hi (by omega) (by omega) hl
end
variable {P i1 k1 r1:Nat} {x:Val} {I1 K1 R1:zo}
theorem Sn.start {w5:World} {B1:zo} {d1:Nat} {l:List Val} {o:Nat} (hb:QB x w P K1 k1 I1 i1 R1 r1 (w5.setCell ⟨w.heap.size,o,none⟩ (.slice B1 l.length d1))) (hpk:P<wk.heap.size) (hw:Below wk.heap.size wk w5) (hk:∀H3,w5.heap.size<=H3->BG 28 8 (fun u x cs=>Val.At u x cs) w5 wk.heap.size H3 w.heap.size B1 d1 l 0):
  Sn x w P K1 k1 I1 i1 R1 r1 wk w5.heap.size B1 d1 l 0 (w5.setCell ⟨w.heap.size,o,none⟩ (.slice B1 l.length d1)):=by
 have hs:=hw.size;have hlo:=hb.hi;refine ⟨hb,((Dy.refl _ wk).below hw).cell (Or.inl (by omega)) _ _,hpk,hs,by simp,(hk _ (AAP _)).ZI o _ (by omega) (AAP _) fun e=>?_⟩
 have:=(hk _ (AAP _)).lt e
 omega
theorem QB.zero (h:QB x w P K1 k1 I1 i1 R1 r1 wr) (hs:Dk x.str) (hk:Off (· < w.heap.size+2) wr fun u=>Ch u K1 x.keys) (hi:Off (· < w.heap.size+2) wr fun u=>Ch u I1 x.items) (hr:Off (· < w.heap.size+2) wr fun u=>Eh u R1 x.rest):
  let W:=wr.setCells (w.heap.size+1) 0 (x.cs K1 k1 I1 i1 R1 r1)
  (W.cell? ⟨w.heap.size+1,0,none⟩=some (.int .i64 x.kind)/\W.cell? ⟨w.heap.size+1,1,none⟩=some (.bool x.bool)/\W.cell? ⟨w.heap.size+1,2,none⟩=some (.int .i64 x.int)/\W.cell? ⟨w.heap.size+1,3,none⟩=some (.string x.str)/\W.cell? ⟨w.heap.size+1,4,none⟩=some (.int .i64 x.id)/\W.cell? ⟨w.heap.size+1,5,none⟩=some (.slice K1 x.keys.length k1)/\W.cell? ⟨w.heap.size+1,6,none⟩=some (.slice I1 x.items.length i1)/\W.cell? ⟨w.heap.size+1,7,none⟩=some (.slice R1 x.rest.length r1)) /\
  (Off (· < w.heap.size) W fun u=>Ao u x K1 I1 R1)/\Below w.heap.size w W:=by
 intro W
 have h8:=Kr (World.rangeAt_setCells_same wr (w.heap.size+1) 0 (x.cs K1 k1 I1 i1 R1 r1) (En h.res));simp only[Nat.zero_add] at h8;refine ⟨h8,?_,yC _ (by omega) _ _ _ h.Bz⟩
 have st:∀ {Q:World->Prop},(Off (· < w.heap.size+2) wr Q)->Off (· < w.heap.size) W Q:=fun hq =>
  (hq.step (w1:=W) (by rw[size_setCells];exact AAP _) fun q hq hl=>zN (by omega) _ _ _).mono fun q _ hq=>by omega
 exact fun u hu=>⟨hs,st hk u hu,st hi u hu,st hr u hu⟩
theorem OH {H3:Nat} {l:List Val} (h:Sn x w P K1 k1 I1 i1 R1 r1 wk H3 A c l i wr) {b:Nat} {y:Val} {E1:zo} {e1:Nat} {E2:zo} {e2:Nat} {E3:zo} {e3:Nat} (hb:wr.heap[b]? = some (y.box E1 e1 E2 e2 E3 e3)):
  ((wr.cell? ⟨w.heap.size,5,none⟩=some (.slice K1 x.keys.length k1)/\wr.cell? ⟨w.heap.size,6,none⟩=some (.slice I1 x.items.length i1))/\(wr.cell? ⟨b,0,none⟩=some (.int .i64 y.kind)/\wr.cell? ⟨b,1,none⟩=some (.bool y.bool)/\wr.cell? ⟨b,2,none⟩=some (.int .i64 y.int)/\wr.cell? ⟨b,3,none⟩=some (.string y.str)/\wr.cell? ⟨b,4,none⟩=some (.int .i64 y.id)/\wr.cell? ⟨b,5,none⟩=some (.slice E1 y.keys.length e1)/\wr.cell? ⟨b,6,none⟩=some (.slice E2 y.items.length e2)/\wr.cell? ⟨b,7,none⟩=some (.slice E3 y.rest.length e3)))/\Hid (Sn x w P K1 k1 I1 i1 R1 r1 wk H3 A c l i wr/\wr.heap[b]? = some (y.box E1 e1 E2 e2 E3 e3)):=by
 refine ⟨⟨⟨(MG h.bx.box).1.1.1,(MG h.bx.box).1.1.2.1⟩,?_⟩,h,hb⟩;refine ⟨?_,?_,?_,?_,?_,?_,?_,?_⟩ <;> (rw[AAN _ _ _ _ _ _ hb];rfl)
def Wi (t:AJ):List Value:=[.int .i64 t.kind,.string t.text,.int .i64 t.int,.string t.str,.int .i64 t.line]
def AJ.At (t:AJ) (cs:List Value):Prop:=(Dk t.text/\Dk t.str)/\cs=Wi t
def JZ (w:World) (A:zo) (l:List AJ):Prop:=Ac 5 56 AJ.At w A l
theorem JZ.below (h:JZ w A l) (hb:Below w.heap.size w w'):JZ w' A l:=Ac.imp h (fun _ _ _ h=>h) hb
theorem JZ.Wu (h:JZ w A l) (hi:i<l.length):∃b o,A=some ⟨b,o,none⟩/\(Dk l[i].text/\Dk l[i].str)/\w.rangeAt b (o+i * 5) (Wi l[i]):=by
 obtain ⟨b,o,cs,e,⟨h0,rfl⟩,h2⟩:=Ac.at_ h hi;exact ⟨b,o,e,h0,h2⟩
theorem JZ.cells (h:JZ w A l) (hi:i<l.length):∃b o,A=some ⟨b,o,none⟩/\(Dk l[i].text/\Dk l[i].str) /\
  w.cell? ⟨b,o+i * 5,none⟩=some (.int .i64 l[i].kind)/\w.cell? ⟨b,o+i * 5+1,none⟩=some (.string l[i].text)/\w.cell? ⟨b,o+i * 5+2,none⟩=some (.int .i64 l[i].int)/\w.cell? ⟨b,o+i * 5+3,none⟩=some (.string l[i].str)/\w.cell? ⟨b,o+i * 5+4,none⟩=some (.int .i64 l[i].line):=by
 obtain ⟨b,o,e,h0,h2⟩:=h.Wu hi;exact ⟨b,o,e,h0,h2 0 _ rfl,h2 1 _ rfl,h2 2 _ rfl,h2 3 _ rfl,h2 4 _ rfl⟩
abbrev aG:=Ab 59 5 Wi
theorem iM:Elem 50 59 5 56:=⟨Tryz.underlying50,⟨.agg #[.int .i64 0,.string ⟨#[]⟩,.int .i64 0,.string ⟨#[]⟩,.int .i64 0],by kernel_rfl,rfl⟩,by omega⟩
theorem aG.toks {base:Nat} {v:Value} (h:aG w base v l) (hl:EK 56 l.length) (hs:∀t∈l,Dk t.text/\Dk t.str):∃A c,v = .slice A l.length c/\JZ w A l:=Ab.rows h (fun _=>rfl) hl fun t ht=>⟨hs t ht,rfl⟩
theorem UE {T E:TypeId} {size bytes:Nat} (hE:Elem T E size bytes) (w:World) (base:Nat) (ty:TypeId) (v:Value) (n:Nat) (xs:List Value) (h:w.ownsRow base E size v n xs) (b o m c:Nat) (news:List Value) (hl:news.length=m * size)
  (hnews:w.rangeAt b o news) (h1:∀u∈news,u.oneCell'=true) (hlen:n+m<=9223372036854775807) (hby:(n+m) * bytes<=140737488355328) (hb:base<=w.heap.size) :
  ∃v' w',(Builtin.append_ #[T,T] ty #[v,.slice (some ⟨b,o,none⟩) m c]).run Tryz.prog w = .ok v' w'/\w'.ownsRow base E size v' (n+m) (xs++news)/\w.grownBy w' v.ownBlock/\(v'.ownBlock=v.ownBlock\/v'.ownBlock=some w.heap.size):=by
 obtain ⟨z,PO,hzs⟩:=hE.info;obtain ⟨i0,hi,hz0,hz1,hz2⟩:=info_parts PO;obtain ⟨v',w',hr,h2,h3,_,h5⟩:=run_append_own_at (P:=Tryz.prog) w base T ty E i0 z size bytes hE.under hi hz0 hz1 hz2 hzs hE.pos v n xs h ⟨b,o,none⟩ m c news hl (fun j u hj=>by rw[Addr.add_mid];exact hnews j u hj) h1 (by unfold maxLen;omega) hby hb
 exact ⟨v',w',hr,h2,h3,h5⟩
theorem yH {T E:TypeId} {size bytes:Nat} (hE:Elem T E size bytes) {ops:Array Oper} {op:Oper} {a:Act} {K:Act->World->Prop} {Q:Exit->Act->World->Prop} {El:Prop} (hgd:op.guard=none) (s x:Operand) (ho:op.op = .call { callee := .builtin .append,args:=#[s,x],argTypes:=#[T,T] }) (base:Nat) (v:Value) (n:Nat) (xs:List Value) (hs:a.eval s=v) (h:w.ownsRow base E size v n xs) (b o m c:Nat) (news:List Value) (hx:a.eval x = .slice (some ⟨b,o,none⟩) m c) (hl:news.length=m * size) (hnews:w.rangeAt b o news) (h1:∀u∈news,u.oneCell'=true) (hlen:n+m<=9223372036854775807) (hby:(n+m) * bytes<=140737488355328) (hb:base<=w.heap.size) (hk:∀v' w',w'.ownsRow base E size v' (n+m) (xs++news)->w.grownBy w' v.ownBlock->(v'.ownBlock=v.ownBlock\/v'.ownBlock=some w.heap.size)->K (a.put op.dst v') w'):if Region.wanted op (yielded ops a.tmps)=true then Oper.wp Tryz.prog op a w K Q else El:=by
 have hw:Region.wanted op (yielded ops a.tmps)=true:=by simp[Region.wanted,hgd]
 rw[AAH hw];obtain ⟨v',w',hr,h2,h3,h5⟩:=UE hE w base op.type v n xs h b o m c news hl hnews h1 hlen hby hb;unfold Oper.wp execOp;simp only[ho,resolve,invoke,builtin,Sem.run_bind,Sem.run_pure,Result.andThen_ok,List.map_toArray,AA5,List.map_nil,hs,hx,hr];exact hk v' w' h2 h3 h5
theorem Off.grow {S S':Nat->Prop} {w1:World} {P:World->Prop} (h:Off S w P) (hs:∀q,q<w.heap.size->S' q->S q) (hk:∀q,q<w.heap.size->¬ S q->w1.heap[q]? = w.heap[q]?) (hz:w.heap.size<=w1.heap.size):Off S' w1 P :=
 fun w' hw=>h w' fun q hq hl=>(hw q (fun h'=>hq (hs q hl h')) (by omega)).trans (hk q hl hq)
theorem Aw {o:Obj} (h:w.heap[g]? = some o) (hb:Below w.heap.size w w'):w'.heap[g]? = some o:=(hb.block _ (zg.1 h).1).trans h
end Go.Proofs.YthkkllmmbefedaaGreatDoor



