/-
  append onto an own row, and where it is then; what is held off more blocks.
-/
import Derived.Test.YthkkllmmbefedaaGreatDoorQGA6
import Derived.Test.YthkkllmmbefedaaGreatDoorQGA2
import Derived.Test.YthkkllmmbefedaaGreatDoorQGA5
import Derived.Test.YthkkllmmbefedaaGreatDoorQGA3
import Derived.Lib.MinMax
namespace Go.Proofs.YthkkllmmbefedaaGreatDoor
open Go.RowKit
set_option maxHeartbeats 16000000
set_option maxRecDepth 100000
variable {g:Nat} {w w':World}
theorem zE {o:Obj} (h:w.heap[g]? = some o) (hb:Below w.heap.size w w'):w'.heap[g]? = some o:=(hb.block _ (zg.1 h).1).trans h
theorem zG {W:World} {b:Nat} {t:AZ} {As:zo} {cs:Nat} {Am:zo} {cm:Nat} (h:Bf W b t As cs Am cm) :
  W.cell? ⟨b,0,none⟩=some (.int .i64 t.kind)/\W.cell? ⟨b,1,none⟩=some (.string t.name)/\W.cell? ⟨b,2,none⟩=some (.int .i64 t.low)/\W.cell? ⟨b,3,none⟩=some (.int .i64 t.high)/\W.cell? ⟨b,4,none⟩=some (.int .i64 t.max)/\W.cell? ⟨b,5,none⟩=some (.slice As t.Ab.length cs)/\W.cell? ⟨b,6,none⟩=some (.slice Am t.AA.length cm)/\W.cell? ⟨b,7,none⟩=some (.int .i64 t.key)/\W.cell? ⟨b,8,none⟩=some (.int .i64 t.elem)/\W.cell? ⟨b,9,none⟩=some (.bool t.open_) :=
 ⟨h.cell 0,h.cell 1,h.cell 2,h.cell 3,h.cell 4,h.cell 5,h.cell 6,h.cell 7,h.cell 8,h.cell 9⟩
theorem Jr (n:Int) (w:World):Calls Tryz.prog 97 #[.int .i64 n] w fun e w'=>e = .returned (.bool (Aq n))/\w'=w:=by
 by_cases h1:1<=n
 ·have q1:(1:Int)<=n:=h1
  have HD:Hid (Aq n=decide (n<=1000)):=by show _=_;unfold Aq;simp[h1]
  clear h1
  go_enter Tryz.func97,Tryz.ntmps97
  go_wp2
  go_ret
  exact ⟨by rw[HD.out];rfl,rfl⟩
 ·have q1:¬ (1:Int)<=n:=h1
  have HD:Hid (Aq n=false):=by show _=_;unfold Aq;simp[h1]
  clear h1
  go_enter Tryz.func97,Tryz.ntmps97
  go_wp2
  go_ret
  exact ⟨by rw[HD.out];rfl,rfl⟩
theorem WH (v:Val) (h:1<=v.kind/\v.kind<=9) (A1:zo) (c1:Nat) (A2:zo) (c2:Nat) (A3:zo) (c3:Nat) (w:World) :
  Calls Tryz.prog 96 #[v.v A1 c1 A2 c2 A3 c3] w fun e w'=>e = .returned (.bool (zJ v))/\Below w.heap.size w w':=by
 have iQ:=zh (fun w=>fw v h A1 c1 A2 c2 A3 c3 w)
 have HB0:=zh (zD w (v.box A1 c1 A2 c2 A3 c3));have HX0:=zh (AAA w (v.box A1 c1 A2 c2 A3 c3));have nS:Hid (zJ v=(decide (v.bool=(Bh v).bool)&&decide (v.int=(Bh v).int)&&decide (v.str=(Bh v).str)&&decide (v.id=(Bh v).id)&&decide (v.keys.length=(Bh v).keys.length)&&decide (v.items.length=(Bh v).items.length)&&decide (v.rest.length=(Bh v).rest.length))):=rfl;clear h
 go_enter Tryz.func96,Tryz.ntmps96
 go_wp2_with fail
 refine (iQ.out _).mono ?_;rintro e w1 ⟨B1,d1,B2,d2,B3,d3,rfl,hb1⟩;clear iQ;generalize Bh v=B at *;have EM:=zE HX0 hb1;have HB1:=zh (zB HB0 hb1);have hlt:w.heap.size<w1.heap.size:=(zg.1 EM).1;have x1:w1.cell? ⟨w.heap.size,1,none⟩=some (.bool v.bool):=by rw[AAB _ _ _ _ _ _ EM];rfl
 have x2:w1.cell? ⟨w.heap.size,2,none⟩=some (.int .i64 v.int):=by rw[AAB _ _ _ _ _ _ EM];rfl
 have x3:w1.cell? ⟨w.heap.size,3,none⟩=some (.string v.str):=by rw[AAB _ _ _ _ _ _ EM];rfl
 have x4:w1.cell? ⟨w.heap.size,4,none⟩=some (.int .i64 v.id):=by rw[AAB _ _ _ _ _ _ EM];rfl
 have x5:w1.cell? ⟨w.heap.size,5,none⟩=some (.slice A1 v.keys.length c1):=by rw[AAB _ _ _ _ _ _ EM];rfl
 have x6:w1.cell? ⟨w.heap.size,6,none⟩=some (.slice A2 v.items.length c2):=by rw[AAB _ _ _ _ _ _ EM];rfl
 have x7:w1.cell? ⟨w.heap.size,7,none⟩=some (.slice A3 v.rest.length c3):=by rw[AAB _ _ _ _ _ _ EM];rfl
 have RH:=zh (fun o=>zB HB1 (zD w1 o))
 clear hb1 EM
 by_cases q1:v.bool=B.bool
 case neg =>
  have HD:Hid (zJ v=false):=by show _=_;rw[nS.out];simp[q1]
  have e1:(v.bool==B.bool)=false:=by simpa using q1
  clear q1;go_wp2;go_ret;exact ⟨by rw[HD.out];rfl,RH.out _⟩
 have e1:(v.bool==B.bool)=true:=by simpa using q1
 by_cases q2:v.int=B.int
 case neg =>
  have HD:Hid (zJ v=false):=by show _=_;rw[nS.out];simp[q2]
  have e2:(v.int==B.int)=false:=by simpa using q2
  clear q1 q2;go_wp2;go_ret;exact ⟨by rw[HD.out];rfl,RH.out _⟩
 have e2:(v.int==B.int)=true:=by simpa using q2
 by_cases q3:v.str=B.str
 case neg =>
  have HD:Hid (zJ v=false):=by show _=_;rw[nS.out];simp[q3]
  have e3:(v.str.toList==B.str.toList)=false:=by rw[bytes_beq];exact AAE q3
  clear q1 q2 q3;go_wp2;go_ret;exact ⟨by rw[HD.out];rfl,RH.out _⟩
 have e3:(v.str.toList==B.str.toList)=true:=by rw[bytes_beq];exact AAM q3
 by_cases q4:v.id=B.id
 case neg =>
  have HD:Hid (zJ v=false):=by show _=_;rw[nS.out];simp[q4]
  have e4:(v.id==B.id)=false:=by simpa using q4
  clear q1 q2 q3 q4;go_wp2;go_ret;exact ⟨by rw[HD.out];rfl,RH.out _⟩
 have e4:(v.id==B.id)=true:=by simpa using q4
 by_cases q5:v.keys.length=B.keys.length
 case neg =>
  have HD:Hid (zJ v=false):=by show _=_;rw[nS.out];simp[q5]
  have e5:((v.keys.length:Int)==(B.keys.length:Int))=false:=AAX.2 (by omega)
  clear q1 q2 q3 q4 q5;go_wp2;go_ret;exact ⟨by rw[HD.out];rfl,RH.out _⟩
 have e5:((v.keys.length:Int)==(B.keys.length:Int))=true:=ABH.2 (by omega)
 by_cases q6:v.items.length=B.items.length
 case neg =>
  have HD:Hid (zJ v=false):=by show _=_;rw[nS.out];simp[q6]
  have e6:((v.items.length:Int)==(B.items.length:Int))=false:=AAX.2 (by omega)
  clear q1 q2 q3 q4 q5 q6;go_wp2;go_ret;exact ⟨by rw[HD.out];rfl,RH.out _⟩
 have e6:((v.items.length:Int)==(B.items.length:Int))=true:=ABH.2 (by omega)
 by_cases q7:v.rest.length=B.rest.length
 case neg =>
  have HD:Hid (zJ v=false):=by show _=_;rw[nS.out];simp[q7]
  have e7:((v.rest.length:Int)==(B.rest.length:Int))=false:=AAX.2 (by omega)
  clear q1 q2 q3 q4 q5 q6 q7;go_wp2;go_ret;exact ⟨by rw[HD.out];rfl,RH.out _⟩
 have e7:((v.rest.length:Int)==(B.rest.length:Int))=true:=ABH.2 (by omega)
 have HD:Hid (zJ v=true):=by show _=_;rw[nS.out];simp[q1,q2,q3,q4,q5,q6,q7]
 clear q1 q2 q3 q4 q5 q6 q7;go_wp2;go_ret;exact ⟨by rw[HD.out];rfl,RH.out _⟩
def Bv {α:Type} (p:α->Bool):List α->Int
 | [] => -1
 | x::r=>if p x then 0 else if Bv p r<0 then -1 else Bv p r+1
theorem Gw {α:Type} (p:α->Bool):∀l:List α,Bv p l = -1\/(0<=Bv p l/\Bv p l<l.length)
 | [] => .inl rfl
 | x::r=>by
  have h:=Gw p r;unfold Bv
  split
  ·right;simp only[AAS];omega
  ·split
   ·exact .inl rfl
   ·right;simp only[AAS];omega
theorem KO {α:Type} {p:α->Bool}:∀ (l:List α) (k:Nat) (hk:k<l.length),(∀j (h:j<l.length),j<k->p l[j]=false)->p l[k]=true->Bv p l=(k:Int)
 | [],_,hk,_,_=>by cases hk
 | x::r,0,_,_,h=>by
  have h':p x=true:=h;unfold Bv;rw[AAC h'];rfl
 | x::r,k+1,hk,hn,h=>by
  have hx:p x=false:=hn 0 (by simp) (by omega)
  have ih:=KO r k (by simpa using hk) (fun j h1 h2=>hn (j+1) (by simpa using h1) (by omega)) h
  unfold Bv;rw[hx,Pe (by simp),ih,Pe (by omega)]
  omega
theorem KN {α:Type} {p:α->Bool}:∀ (l:List α),(∀j (h:j<l.length),p l[j]=false)->Bv p l = -1
 | [],_=>rfl
 | x::r,hn=>by
  have hx:p x=false:=hn 0 (by simp)
  have ih:=KN r (fun j h1=>hn (j+1) (by simpa using h1))
  unfold Bv;rw[hx,Pe (by simp),ih]
  rfl
theorem Ti (n:Int) (q:Nat) (y:CB) (w:World) (hq:w.cell? ⟨q,0,none⟩=some (.int .i64 n)) :
  Calls Tryz.prog 102 #[.agg #[.int .i64 y.id,.string y.name],.pointer (some ⟨q,0,none⟩)] w fun e w'=>e = .returned (.bool (decide (y.id=n)))/\Below w.heap.size w w':=by
 have hlt:=zL hq;simp only at hlt;have HB:=zh (fun o=>zD w o)
 have HQ:Hid ((y.id==n)=decide (y.id=n)):=rfl
 go_enter Tryz.func102,Tryz.ntmps102
 go_wp2
 go_ret
 exact ⟨by first|rfl|(rw[<-HQ.out];rfl),HB.out _⟩
theorem Uc (n:Int) (q:Nat) (y:AY) (A1:zo) (c1:Nat) (A2:zo) (c2:Nat) (A3:zo) (c3:Nat) (w:World) (hq:w.cell? ⟨q,0,none⟩=some (.int .i64 n)) :
  Calls Tryz.prog 93 #[y.v A1 c1 A2 c2 A3 c3,.pointer (some ⟨q,0,none⟩)] w fun e w'=>e = .returned (.bool (decide (y.id=n)))/\Below w.heap.size w w':=by
 have hlt:=zL hq;simp only at hlt;have HB:=zh (fun o=>zD w o)
 go_enter Tryz.func93,Tryz.ntmps93
 go_wp2
 go_ret
 exact ⟨rfl,HB.out _⟩
theorem WY (n:Int) (q:Nat) (l:List CB) (A:zo) (c:Nat) (w:World) (hl:Jw w A l) (hq:w.cell? ⟨q,0,none⟩=some (.int .i64 n)) :
  Calls Tryz.prog 101 #[.slice A l.length c,.func (.func 102) #[] #[.pointer (some ⟨q,0,none⟩)]] w fun e w'=>e = .returned (.int .i64 (Bv (fun y:CB=>decide (y.id=n)) l))/\Below w.heap.size w w':=by
 have hln:=hl.1.lt (by omega)
 have HL:=zh hl;have HQ:=zh hq;clear hl hq
 go_enter Tryz.func101,Tryz.ntmps101
 go_wp2
 go_loopw [8] (fun i wr=>∃k:Nat,k<=l.length/\i = .int .i64 (k:Int)/\Hid ((∀j (h:j<l.length),j<k->decide ((l[j]).id=n)=false)/\Below w.heap.size w wr)) (fun i _=>l.length - (intOf i).toNat)
 case atStart=>exact ⟨0,by omega,rfl,(fun j _ h=>absurd h (by omega)),Pd _ _⟩
 case round =>
  obtain ⟨k,hk,rfl,hh⟩:=hrel
  by_cases hlt:k<l.length
  ·obtain ⟨b,o,rfl,hr1,a0,a1⟩:=(HL.out.below hh.out.2).at2 hlt
   clear hr1;have h1:(0:Int)<=(k:Int):=by omega
   have h2:(k:Int)<(l.length:Int):=by omega
   cases he:decide ((l[k]).id=n) with
   | true =>
    have HD:=zh he;have HI:=zh (KO (p:=fun y:CB=>decide (y.id=n)) l k hlt hh.out.1 he)
    clear he;go_wp2_with (go_at_call 102;refine (Ti n q l[k] _ (zA hh.out.2 HQ)).mono ?_;rintro e w2 ⟨rfl,hb2⟩;rw[HD.out]);go_ret;exact ⟨by rw[HI.out];rfl,zB hh.out.2 hb2⟩
   | false =>
    have HD:=zh he;have HN:Hid (∀j (h:j<l.length),j<k+1->decide ((l[j]).id=n)=false):=fun j h hj=>by
     by_cases e:j=k
     ·subst e;exact he
     ·exact hh.out.1 j h (by omega)
    clear he;go_wp2_with (go_at_call 102;refine (Ti n q l[k] _ (zA hh.out.2 HQ)).mono ?_;rintro e w2 ⟨rfl,hb2⟩;rw[HD.out]);go_roundw
    case rel=>exact ⟨k+1,by omega,by go_num,HN.out,zB hh.out.2 hb2⟩
    case measure=>simp[intOf];omega
  ·have HI:=zh (KN (p:=fun y:CB=>decide (y.id=n)) l fun j h=>hh.out.1 j h (by omega))
   go_wp2
   go_ret
   exact ⟨by rw[HI.out];rfl,hh.out.2⟩
theorem WZ (n:Int) (q:Nat) (l:List AY) (A:zo) (c:Nat) (w:World) (hl:Fv w A l) (hq:w.cell? ⟨q,0,none⟩=some (.int .i64 n)) :
  Calls Tryz.prog 92 #[.slice A l.length c,.func (.func 93) #[] #[.pointer (some ⟨q,0,none⟩)]] w fun e w'=>e = .returned (.int .i64 (Bv (fun y:AY=>decide (y.id=n)) l))/\Below w.heap.size w w':=by
 have hln:=hl.1.lt (by omega)
 have HL:=zh hl;have HQ:=zh hq;clear hl hq
 go_enter Tryz.func92,Tryz.ntmps92
 go_wp2
 go_loopw [8] (fun i wr=>∃k:Nat,k<=l.length/\i = .int .i64 (k:Int)/\Hid ((∀j (h:j<l.length),j<k->decide ((l[j]).id=n)=false)/\Below w.heap.size w wr)) (fun i _=>l.length - (intOf i).toNat)
 case atStart=>exact ⟨0,by omega,rfl,(fun j _ h=>absurd h (by omega)),Pd _ _⟩
 case round =>
  obtain ⟨k,hk,rfl,hh⟩:=hrel
  by_cases hlt:k<l.length
  ·obtain ⟨b,o,A1,c1,A2,c2,A3,c3,rfl,hr1,a0,a1,a2,a3,a4,a5,a6,a7,a8,a9,XC,XB,a12⟩:=(HL.out.below hh.out.2).MH hlt
   clear hr1;have h1:(0:Int)<=(k:Int):=by omega
   have h2:(k:Int)<(l.length:Int):=by omega
   cases he:decide ((l[k]).id=n) with
   | true =>
    have HD:=zh he;have HI:=zh (KO (p:=fun y:AY=>decide (y.id=n)) l k hlt hh.out.1 he)
    clear he;go_wp2_with (go_at_call 93;refine (Uc n q l[k] A1 c1 A2 c2 A3 c3 _ (zA hh.out.2 HQ)).mono ?_;rintro e w2 ⟨rfl,hb2⟩;rw[HD.out]);go_ret;exact ⟨by rw[HI.out];rfl,zB hh.out.2 hb2⟩
   | false =>
    have HD:=zh he;have HN:Hid (∀j (h:j<l.length),j<k+1->decide ((l[j]).id=n)=false):=fun j h hj=>by
     by_cases e:j=k
     ·subst e;exact he
     ·exact hh.out.1 j h (by omega)
    clear he;go_wp2_with (go_at_call 93;refine (Uc n q l[k] A1 c1 A2 c2 A3 c3 _ (zA hh.out.2 HQ)).mono ?_;rintro e w2 ⟨rfl,hb2⟩;rw[HD.out]);go_roundw
    case rel=>exact ⟨k+1,by omega,by go_num,HN.out,zB hh.out.2 hb2⟩
    case measure=>simp[intOf];omega
  ·have HI:=zh (KN (p:=fun y:AY=>decide (y.id=n)) l fun j h=>hh.out.1 j h (by omega))
   go_wp2
   go_ret
   exact ⟨by rw[HI.out];rfl,hh.out.2⟩
theorem QU (n:Int) (t:AZ) (As:zo) (cs:Nat) (Am:zo) (cm:Nat) (w:World) (ht:Ic w t As Am) :
  Calls Tryz.prog 68 #[t.v As cs Am cm,.int .i64 n] w fun e w'=>e = .returned (.tuple #[.int .i64 (if Bv (fun y:CB=>decide (y.id=n)) t.Ab<0 then 0 else Bv (fun y:CB=>decide (y.id=n)) t.Ab),.bool (decide (0<=Bv (fun y:CB=>decide (y.id=n)) t.Ab))])/\Below w.heap.size w w':=by
 have HT:=zh (ht.below (zI w (t.box As cs Am cm) (.cells #[.int .i64 n] 3)));have HB:=zh (zI w (t.box As cs Am cm) (.cells #[.int .i64 n] 3));have HQ:Hid (((w.alloc (t.box As cs Am cm)).alloc (.cells #[.int .i64 n] 3)).cell? ⟨w.heap.size+1,0,none⟩=some (.int .i64 n)):=by
  show _=_
  have:=zR (w.alloc (t.box As cs Am cm)) [.int .i64 n] 3 0 _ rfl;simp
 clear ht;have HI:=Gw (fun y:CB=>decide (y.id=n)) t.Ab
 obtain ⟨r,hre⟩:∃r,Bv (fun y:CB=>decide (y.id=n)) t.Ab=r:=⟨_,rfl⟩
 have Pg:=zh hre;rw[hre] at HI ⊢;clear hre;have hHI:=zh HI;clear HI
 go_enter Tryz.func68,Tryz.ntmps68
 go_wp2_with fail
 refine (WY n (w.heap.size+1) t.Ab _ _ _ (HT.out.Ab) HQ).mono ?_;rintro e w2 ⟨rfl,hb2⟩;rw[Pg.out];have mP:=zh (zB HB hb2);clear hb2 Pg;have HI:=hHI.out;clear hHI
 by_cases hr:r<0
 ·have HR:Hid ((if r<0 then 0 else r)=0):=AAC hr
  have HR2:Hid (decide (0<=r)=false):=AAE (by omega)
  obtain rfl:r = -1:=by omega
  clear hr HI;have q2:max (-1:Int) 0=0:=by decide
  go_wp2
  go_ret2
  exact ⟨by first|rfl|(rw[HR2.out];rfl)|(rw[HR.out];rfl)|(rw[HR.out,HR2.out];rfl),mP.out⟩
 ·have HR:Hid ((if r<0 then 0 else r)=r):=Pe hr
  have HR2:Hid (decide (0<=r)=true):=AAM (by omega)
  have q1:(0:Int)<=r:=by omega
  have q2:max r 0=r:=by omega
  clear hr HI;go_wp2;go_ret2;exact ⟨by first|rfl|(rw[HR2.out];rfl)|(rw[HR.out];rfl)|(rw[HR.out,HR2.out];rfl),mP.out⟩
theorem Mq (n:Int) (t:AZ) (As:zo) (cs:Nat) (Am:zo) (cm:Nat) (w:World) (ht:Ic w t As Am) :
  Calls Tryz.prog 58 #[t.v As cs Am cm,.int .i64 n] w fun e w'=>e = .returned (.tuple #[.int .i64 (if Bv (fun y:AY=>decide (y.id=n)) t.AA<0 then 0 else Bv (fun y:AY=>decide (y.id=n)) t.AA),.bool (decide (0<=Bv (fun y:AY=>decide (y.id=n)) t.AA))])/\Below w.heap.size w w':=by
 have HT:=zh (ht.below (zI w (t.box As cs Am cm) (.cells #[.int .i64 n] 3)));have HB:=zh (zI w (t.box As cs Am cm) (.cells #[.int .i64 n] 3));have HQ:Hid (((w.alloc (t.box As cs Am cm)).alloc (.cells #[.int .i64 n] 3)).cell? ⟨w.heap.size+1,0,none⟩=some (.int .i64 n)):=by
  show _=_
  have:=zR (w.alloc (t.box As cs Am cm)) [.int .i64 n] 3 0 _ rfl;simp
 clear ht;have HI:=Gw (fun y:AY=>decide (y.id=n)) t.AA
 obtain ⟨r,hre⟩:∃r,Bv (fun y:AY=>decide (y.id=n)) t.AA=r:=⟨_,rfl⟩
 have Pg:=zh hre;rw[hre] at HI ⊢;clear hre;have hHI:=zh HI;clear HI
 go_enter Tryz.func58,Tryz.ntmps58
 go_wp2_with fail
 refine (WZ n (w.heap.size+1) t.AA _ _ _ (HT.out.AA) HQ).mono ?_;rintro e w2 ⟨rfl,hb2⟩;rw[Pg.out];have mP:=zh (zB HB hb2);clear hb2 Pg;have HI:=hHI.out;clear hHI
 by_cases hr:r<0
 ·have HR:Hid ((if r<0 then 0 else r)=0):=AAC hr
  have HR2:Hid (decide (0<=r)=false):=AAE (by omega)
  obtain rfl:r = -1:=by omega
  clear hr HI;have q2:max (-1:Int) 0=0:=by decide
  go_wp2
  go_ret2
  exact ⟨by first|rfl|(rw[HR2.out];rfl)|(rw[HR.out];rfl)|(rw[HR.out,HR2.out];rfl),mP.out⟩
 ·have HR:Hid ((if r<0 then 0 else r)=r):=Pe hr
  have HR2:Hid (decide (0<=r)=true):=AAM (by omega)
  have q1:(0:Int)<=r:=by omega
  have q2:max r 0=r:=by omega
  clear hr HI;go_wp2;go_ret2;exact ⟨by first|rfl|(rw[HR2.out];rfl)|(rw[HR.out];rfl)|(rw[HR.out,HR2.out];rfl),mP.out⟩
def PZ (s:List AZ) (A:zo) (c:Nat) (plain:Bool) (n:Nat):Prop:=∀ (t:Int) (v:Val) (A1:zo) (c1:Nat) (A2:zo) (c2:Nat) (A3:zo) (c3:Nat) (w:World),SizeOf.sizeOf v<=n->DV w A s->BO w v A1 A2 A3 ->
 Calls Tryz.prog 65 #[.agg #[.slice A s.length c],.int .i64 t,v.v A1 c1 A2 c2 A3 c3,.bool plain] w fun e w'=>e = .returned (.bool (AQ s plain n t v))/\Below w.heap.size w w'
def XZ (s:List AZ) (A:zo) (c:Nat) (t:Int) (plain:Bool) (p1 p2 p3:Nat) (w:World):Prop :=
 w.cell? ⟨p1,0,none⟩=some (.slice A s.length c)/\w.cell? ⟨p2,0,none⟩=some (.int .i64 t)/\w.cell? ⟨p3,0,none⟩=some (.bool plain)
variable {t:Int} {s:List AZ} {c:Nat} {A:zo}
theorem XZ.below {plain:Bool} {p1 p2 p3:Nat} (h:XZ s A c t plain p1 p2 p3 w) (hb:Below w.heap.size w w'):XZ s A c t plain p1 p2 p3 w':=⟨zA hb h.1,zA hb h.2.1,zA hb h.2.2⟩
section
variable {s:List AZ} {A:zo} {c:Nat} {plain:Bool} {n:Nat}
theorem Qw (hf:PZ s A c plain n) (t:Int) (p1 p2 p3:Nat) (v:Val) (A1:zo) (c1:Nat) (A2:zo) (c2:Nat) (A3:zo) (c3:Nat) (w:World) (hv:SizeOf.sizeOf v<=n) (hs:DV w A s) (hr:BO w v A1 A2 A3) (hc:XZ s A c t plain p1 p2 p3 w) :
  Calls Tryz.prog 148 #[v.v A1 c1 A2 c2 A3 c3,.pointer (some ⟨p1,0,none⟩),.pointer (some ⟨p2,0,none⟩),.pointer (some ⟨p3,0,none⟩)] w fun e w'=>e = .returned (.bool (!AQ s plain n t v))/\Below w.heap.size w w':=by
 have HF:=zh hf;have HS:=zh (hs.below (zD w (v.box A1 c1 A2 c2 A3 c3)));have HR:=zh (hr.below (zD w (v.box A1 c1 A2 c2 A3 c3)));have HB:=zh (zD w (v.box A1 c1 A2 c2 A3 c3));obtain ⟨x1,x2,x3⟩:=hc;have l1:=zL x1;have l2:=zL x2;have l3:=zL x3;simp only at l1 l2 l3;clear hf hs hr
 go_enter Tryz.func148,Tryz.ntmps148
 go_wp2_with fail
 refine (HF.out t v A1 c1 A2 c2 A3 c3 _ hv HS HR).mono ?_;rintro e w2 ⟨rfl,hb2⟩;have HB2:=zh (zB HB hb2);clear hb2 x1 x2 x3;go_wp2;go_ret;exact ⟨rfl,HB2.out⟩
theorem eF (hf:PZ s A c plain n) (t:Int) (p1 p2 p3:Nat) (l:List Val) (B:zo) (d:Nat) (w:World) (hv:∀y∈l,SizeOf.sizeOf y<=n) (hs:DV w A s) (hl:DJ w B l) (hc:XZ s A c t plain p1 p2 p3 w) :
  Calls Tryz.prog 171 #[.slice B l.length d,.func (.func 148) #[] #[.pointer (some ⟨p1,0,none⟩),.pointer (some ⟨p2,0,none⟩),.pointer (some ⟨p3,0,none⟩)]] w fun e w'=>e = .returned (.int .i64 (Bv (fun y => !AQ s plain n t y) l))/\Below w.heap.size w w':=by
 have hln:=hl.1.lt (by omega)
 have HL:=zh hl;have HS:=zh hs;have HC:=zh hc;have HF:=zh hf;have HV:=zh hv;clear hl hs hc hf hv
 go_enter Tryz.func171,Tryz.ntmps171
 go_wp2
 go_loopw [8] (fun i wr=>∃k:Nat,k<=l.length/\i = .int .i64 (k:Int)/\Hid ((∀j (h:j<l.length),j<k->(!AQ s plain n t l[j])=false)/\Below w.heap.size w wr)) (fun i _=>l.length - (intOf i).toNat)
 case atStart=>exact ⟨0,by omega,rfl,(fun j _ h=>absurd h (by omega)),Pd _ _⟩
 case round =>
  obtain ⟨k,hk,rfl,hh⟩:=hrel
  by_cases hlt:k<l.length
  ·obtain ⟨b,o,A1,c1,A2,c2,A3,c3,rfl,hr1,a0,a1,a2,a3,a4,a5,a6,a7⟩:=(HL.out.below hh.out.2).at8 hlt
   have HR:=zh hr1;have LM:=zh (HV.out _ (AAW hlt));clear hr1;have h1:(0:Int)<=(k:Int):=by omega
   have h2:(k:Int)<(l.length:Int):=by omega
   cases he:(!AQ s plain n t l[k]) with
   | true =>
    have HD:=zh he;have HI:=zh (KO (p:=fun y => !AQ s plain n t y) l k hlt hh.out.1 he)
    clear he;go_wp2_with (go_at_call 148;refine (Qw HF t p1 p2 p3 l[k] A1 c1 A2 c2 A3 c3 wr LM (HS.out.below hh.out.2) HR (HC.out.below hh.out.2)).mono ?_;rintro e w2 ⟨rfl,hb2⟩;rw[HD.out]);go_ret;exact ⟨by rw[HI.out];rfl,zB hh.out.2 hb2⟩
   | false =>
    have HD:=zh he;have HN:Hid (∀j (h:j<l.length),j<k+1->(!AQ s plain n t l[j])=false):=fun j h hj=>by
     by_cases e:j=k
     ·subst e;exact he
     ·exact hh.out.1 j h (by omega)
    clear he;go_wp2_with (go_at_call 148;refine (Qw HF t p1 p2 p3 l[k] A1 c1 A2 c2 A3 c3 wr LM (HS.out.below hh.out.2) HR (HC.out.below hh.out.2)).mono ?_;rintro e w2 ⟨rfl,hb2⟩;rw[HD.out]);go_roundw
    case rel=>exact ⟨k+1,by omega,by go_num,HN.out,zB hh.out.2 hb2⟩
    case measure=>simp[intOf];omega
  ·have HI:=zh (KN (p:=fun y => !AQ s plain n t y) l fun j h=>hh.out.1 j h (by omega))
   go_wp2
   go_ret
   exact ⟨by rw[HI.out];rfl,hh.out.2⟩
theorem IE {α:Type} {p:α->Bool}:∀l:List α,decide (0<=Bv p l)=l.any p
 | []=>rfl
 | x::r=>by
  have ih:=IE (p:=p) r;have h:=Gw p r;unfold Bv;rw[List.any_cons,<-ih]
  cases hx:p x with
  | true=>simp
  | false =>
   rw[Pe (by simp),Bool.false_or]
   split
   ·rename_i h1
    rw[decide_eq_decide];omega
   ·rw[decide_eq_decide];omega
theorem Zv (hf:PZ s A c plain n) (t:Int) (p1 p2 p3:Nat) (l:List Val) (B:zo) (d:Nat) (w:World) (hv:∀y∈l,SizeOf.sizeOf y<=n) (hs:DV w A s) (hl:DJ w B l) (hc:XZ s A c t plain p1 p2 p3 w) :
  Calls Tryz.prog 147 #[.slice B l.length d,.func (.func 148) #[] #[.pointer (some ⟨p1,0,none⟩),.pointer (some ⟨p2,0,none⟩),.pointer (some ⟨p3,0,none⟩)]] w fun e w'=>e = .returned (.bool (l.any fun y => !AQ s plain n t y))/\Below w.heap.size w w':=by
 have HI:=zh (eF hf t p1 p2 p3 l B d w hv hs hl hc);have HD:=zh (IE (p:=fun y => !AQ s plain n t y) l)
 clear hf hv hs hl hc
 go_enter Tryz.func147,Tryz.ntmps147
 go_wp2_with fail
 refine HI.out.mono ?_;rintro e w2 ⟨rfl,hb2⟩;have HB:=zh hb2;clear hb2 HI;go_wp2;go_ret;exact ⟨by rw[<-HD.out];rfl,HB.out⟩
theorem KR (hf:PZ s A c plain n) (t:Int) (l:List Val) (B:zo) (d:Nat) (w:World) (hv:∀y∈l,SizeOf.sizeOf y<=n) (hs:DV w A s) (hl:DJ w B l) :
  Calls Tryz.prog 98 #[.agg #[.slice A s.length c],.int .i64 t,.slice B l.length d,.bool plain] w fun e w'=>e = .returned (.bool (l.all fun y=>AQ s plain n t y))/\Below w.heap.size w w':=by
 have HB:=zh (zB (zB (zD w (.cells #[.slice A s.length c] 31)) (zD _ (.cells #[.int .i64 t] 3))) (zD _ (.cells #[.bool plain] 4)));have HC:Hid (XZ s A c t plain w.heap.size (w.heap.size+1) (w.heap.size+1+1) (((w.alloc (.cells #[.slice A s.length c] 31)).alloc (.cells #[.int .i64 t] 3)).alloc (.cells #[.bool plain] 4))):=by
  refine ⟨?_,?_,?_⟩ <;> go_simp
 have HI:=zh (Zv hf t w.heap.size (w.heap.size+1) (w.heap.size+1+1) l B d _ hv (hs.below HB) (hl.below HB) HC);have HD:Hid ((!(l.any fun y => !AQ s plain n t y))=l.all fun y=>AQ s plain n t y):=by show _=_;simp[List.any_eq_not_all_not]
 clear hf hv hs hl HC
 go_enter Tryz.func98,Tryz.ntmps98
 go_wp2_with fail
 refine HI.out.mono ?_;rintro e w2 ⟨rfl,hb2⟩;have HB2:=zh (zB HB hb2);clear hb2 HI;go_wp2;go_ret;exact ⟨by rw[<-HD.out];rfl,HB2.out⟩
end
def GL (x:AZ) (a:Ac):Bool:=!(x.AA.any fun y=>decide (y.id=a.id))&&Aq a.id
theorem Mv (x:AZ) (a:Ac):GL x a=((x.AA.all fun m=>decide (m.id≠a.id))&&Aq a.id):=by
 unfold GL
 congr 1
 simp[List.all_eq_not_any_not]
theorem Lg (x:AZ):∀ (l:List Ac),(∀k (h:k<l.length),GL x l[k]=true)->(∀k (h:k+1<l.length),(l[k]).id<(l[k+1]).id)->Dh x l=true
 | [],_,_=>rfl
 | [a],h,_=>by
  have h0:=h 0 (by simp)
  rw[Mv] at h0;have h0':((x.AA.all fun m=>decide (m.id≠a.id))&&Aq a.id)=true:=h0
  unfold Dh;rw[h0'];rfl
 | a::b::r,h,h2=>by
  have h0:=h 0 (by simp)
  rw[Mv] at h0;have h0':((x.AA.all fun m=>decide (m.id≠a.id))&&Aq a.id)=true:=h0
  have h1:a.id<b.id:=h2 0 (by simp)
  unfold Dh;rw[h0',Lg x (b::r) (fun k hk=>h (k+1) (by simpa using hk)) (fun k hk=>h2 (k+1) (by simpa using hk))]
  simp[h1]
theorem Lf (x:AZ):∀ (l:List Ac) (k:Nat) (h:k<l.length),GL x l[k]=false->Dh x l=false
 | a::r,0,_,hn=>by
  rw[Mv] at hn;have hn':((x.AA.all fun m=>decide (m.id≠a.id))&&Aq a.id)=false:=hn
  unfold Dh;rw[hn',Bool.false_and,Bool.false_and]
 | a::r,k+1,h,hn=>by
  unfold Dh;rw[Lf x r k (by simpa using h) hn,Bool.and_false]
theorem Mt (x:AZ):∀ (l:List Ac) (k:Nat) (h:k+1<l.length),¬ (l[k]).id<(l[k+1]).id->Dh x l=false
 | [_],k,h,_=>by simp at h
 | a::b::r,0,_,hn=>by
  have hn':¬ a.id<b.id:=hn;unfold Dh;simp[hn']
 | a::b::r,k+1,h,hn=>by
  unfold Dh;rw[Mt x (b::r) k (by simpa using h) hn,Bool.and_false]
theorem LW (f:Int->Val->Bool):∀ (ms:List AY) (vs:List Val),(∀k (h:k<ms.length) (h':k<vs.length),f (ms[k]).type vs[k]=true)->((ms.zip vs).all fun p=>f p.1.type p.2)=true
 | [],_,_=>rfl
 | _::_,[],_=>rfl
 | m::ms,v::vs,h=>by
  have h0:f m.type v=true:=h 0 (by simp) (by simp)
  simp only[List.zip_cons_cons,List.all_cons,h0,Bool.true_and];exact LW f ms vs fun k h1 h2=>h (k+1) (by simpa using h1) (by simpa using h2)
theorem LV (f:Int->Val->Bool):∀ (ms:List AY) (vs:List Val) (k:Nat) (h:k<ms.length) (h':k<vs.length),f (ms[k]).type vs[k]=false->((ms.zip vs).all fun p=>f p.1.type p.2)=false
 | m::ms,v::vs,0,_,_,h=>by
  have h0:f m.type v=false:=h;simp only[List.zip_cons_cons,List.all_cons,h0,Bool.false_and]
 | m::ms,v::vs,k+1,h1,h2,h=>by
  simp only[List.zip_cons_cons,List.all_cons,LV f ms vs k (by simpa using h1) (by simpa using h2) h,Bool.and_false]
theorem L6 {α:Type} {p:α->Bool}:∀ (l:List α),l.any p=true->∃k,∃h:k<l.length,Bv p l=(k:Int)/\l.find? p=some l[k]
 | [],h=>by cases h
 | x::r,h=>by
  cases hx:p x with
  | true=>exact ⟨0,by simp,by unfold Bv;rw[AAC hx];rfl,by rw[ABJ,hx];rfl⟩
  | false =>
   rw[List.any_cons,hx,Bool.false_or] at h;obtain ⟨k,hk,e1,e2⟩:=L6 r h;refine ⟨k+1,by simpa using hk,?_,?_⟩
   ·unfold Bv
    rw[hx,Pe (by simp),e1,Pe (by omega)]
    omega
   ·rw[ABJ,hx];exact e2
theorem SV {α:Type} {p:α->Bool} (l:List α) (h:l.any p=false):l.find? p=none:=by
 rw[List.find?_eq_none]
 intro x hx hp
 rw[List.any_eq_false] at h;exact h x hx hp
variable {v:Val}
theorem D5 {plain:Bool} {n:Nat} (h:AQ s plain (n+1) t v=true):0<=t/\t<(s.length:Int)/\v.kind=(AR s t).kind/\AX (AQ s plain n) plain (AR s t) v=true:=by
 unfold AQ at h
 by_cases h1:t<0\/(s.length:Int)<=t
 ·rw[AAC h1] at h;cases h
 ·rw[Pe h1] at h
  by_cases h2:v.kind≠(AR s t).kind\/zJ v=false
  ·rw[AAC h2] at h;cases h
  ·rw[Pe h2] at h
   exact ⟨by omega,by omega,Classical.byContradiction fun e=>h2 (.inl e),h⟩
theorem fC {n:Int} (h:Aq n=true):1<=n/\n<=1000:=by
 unfold Aq at h
 simpa using h
theorem ku {n:Int} (h:Aq n=true):In64 n:=by
 have:=fC h;unfold In64
 omega
section
variable {f:Int->Val->Bool} {plain:Bool} {x:AZ} {v:Val}
theorem uZ (e:x.kind=2) (h:AX f plain x v=true):x.low<=v.int/\v.int<=x.high:=by
 unfold AX at h;rw[AAC e] at h
 simpa using h
theorem QZ:∀ {l:List Ac},Dh x l=true->∀r∈l,Aq r.id=true
 | a::l,h,r,hr=>by
  unfold Dh at h;simp only[AAG] at h
  rcases AAf.1 hr with rfl|hr
  ·exact h.1.1.2
  ·exact QZ h.2 r hr
theorem TM:∀ (ms:List AY) (vs:List Val),((ms.zip vs).all fun p=>f p.1.type p.2)=true->∀k (h:k<ms.length) (h':k<vs.length),f (ms[k]).type vs[k]=true
 | m::ms,w::vs,h,0,_,_=>by
  simp only[List.zip_cons_cons,List.all_cons,AAG] at h;exact h.1
 | m::ms,w::vs,h,k+1,h1,h2=>by
  simp only[List.zip_cons_cons,List.all_cons,AAG] at h;exact TM ms vs h.2 k (by simpa using h1) (by simpa using h2)
theorem qE (e:x.kind=5) (h:AX f plain x v=true):v.items.length=x.AA.length/\(∀r∈v.rest,Aq r.id=true)/\∀k (h:k<x.AA.length) (h':k<v.items.length),f (x.AA[k]).type v.items[k]=true:=by
 unfold AX at h;rw[Pe (by omega),Pe (by omega),Pe (by omega),AAC e] at h
 simp only[AAG,AAY] at h;exact ⟨h.1.1.1,QZ h.1.2,TM _ _ h.2⟩
theorem yY (e:x.kind=6) (h:AX f plain x v=true):((x.AA.any fun y=>decide (y.id=v.id))=true/\∃m y,x.AA.find? (fun y=>decide (y.id=v.id))=some m/\v.items=[y]/\f m.type y=true)\/((x.AA.any fun y=>decide (y.id=v.id))=false/\Aq v.id=true/\∃r,v.rest=[r]):=by
 unfold AX at h;rw[Pe (by omega),Pe (by omega),Pe (by omega),Pe (by omega),AAC e] at h
 cases ha:(x.AA.any fun y=>decide (y.id=v.id)) with
 | true =>
  obtain ⟨k,hk,_,hf⟩:=L6 x.AA ha;rw[hf] at h;simp only[AAG,AAY] at h;obtain ⟨y,hy⟩:=List.length_eq_one_iff.1 h.1.1;refine .inl ⟨rfl,_,y,hf,hy,?_⟩;rw[hy] at h
  simpa using h.2
 | false =>
  rw[SV x.AA ha] at h;simp only[AAG,AAY] at h;exact .inr ⟨rfl,h.1.1.1.2,List.length_eq_one_iff.1 h.1.2⟩
theorem yX (e:x.kind=7) (h:AX f plain x v=true):∀y∈v.items,f x.elem y=true:=by
 unfold AX at h;rw[Pe (by omega),Pe (by omega),Pe (by omega),Pe (by omega),Pe (by omega),AAC e] at h
 simp only[AAG,AAq] at h;exact h.2
theorem yV (e:x.kind=8) (h:AX f plain x v=true):v.items.length=v.keys.length/\(∀y∈v.keys,f x.key y=true)/\∀y∈v.items,f x.elem y=true:=by
 unfold AX at h;rw[Pe (by omega),Pe (by omega),Pe (by omega),Pe (by omega),Pe (by omega),Pe (by omega),AAC e] at h
 simp only[AAG,AAq,AAY] at h;exact ⟨h.1.1.1.2,h.1.1.2,h.2⟩
theorem uY (e:x.kind=9) (h:AX f plain x v=true):v.items.length<=1/\∀y∈v.items,f x.elem y=true:=by
 unfold AX at h;rw[Pe (by omega),Pe (by omega),Pe (by omega),Pe (by omega),Pe (by omega),Pe (by omega),Pe (by omega),AAC e] at h
 simp only[AAG,AAq,AAY] at h;exact h
end
section
variable {f:Int->Val->ByteArray} {x:AZ} {v:Val}
theorem xW (e:x.kind=2):O1 f x v=FP v.int:=by unfold O1;rw[Pe (by omega),AAC e]
theorem xV (e:x.kind=5):O1 f x v=⟨#[123]⟩++Sj ((x.AA.zip v.items).map (WO f)++v.rest.map cK)++⟨#[125]⟩:=by
 unfold O1;rw[Pe (by omega),Pe (by omega),Pe (by omega),Pe (by omega),AAC e]
theorem uJ (e:x.kind=9):O1 f x v=match v.items with
  | []=>⟨#[110,111,110,101]⟩
  | y::_=>⟨#[115,111,109,101,40]⟩++f x.elem y++⟨#[41]⟩:=by
 unfold O1;rw[Pe (by omega),Pe (by omega),Pe (by omega),Pe (by omega),Pe (by omega),Pe (by omega),Pe (by omega),Pe (by omega)];rfl
end
variable {k:Nat}
theorem Qy {l:List ByteArray} (h:k<l.length):IK (fun i=>l.getD i ⟨#[]⟩) (k+1)=IK (fun i=>l.getD i ⟨#[]⟩) k++(if k=0 then ⟨#[]⟩ else ⟨#[44,32]⟩)++l[k]:=by
 rw[IK]
 congr 1
 show l.getD k ⟨#[]⟩=_
 rw[AAi,zl h];rfl
theorem Qz {l:List ByteArray} (h:k<l.length):(IK (fun i=>l.getD i ⟨#[]⟩) k).size+(if k=0 then (⟨#[]⟩:ByteArray) else ⟨#[44,32]⟩).size+(l[k]).size<=(Sj l).size:=by
 have:=Zw (fun i=>l.getD i ⟨#[]⟩) h
 rw[show (l.getD k ⟨#[]⟩:ByteArray)=l[k] by rw[AAi,zl h];rfl] at this
 exact this
def CS (f:Int->Val->ByteArray) (x:AZ) (v:Val):List ByteArray:=(x.AA.zip v.items).map (WO f)++v.rest.map cK
section
variable {f:Int->Val->ByteArray} {x:AZ} {v:Val}
theorem ZI (h:v.items.length=x.AA.length):(CS f x v).length=x.AA.length+v.rest.length:=by
 unfold CS;rw[AA6,AAk,AAk,List.length_zip]
 omega
theorem ZH (h:v.items.length=x.AA.length) {k:Nat} (hk:k<x.AA.length) (hi:k<v.items.length) (hp:k<(CS f x v).length):(CS f x v)[k]=(x.AA[k]).name++⟨#[58,32]⟩++f (x.AA[k]).type v.items[k]:=by
 have h1:k<((x.AA.zip v.items).map (WO f)).length:=by rw[AAk,List.length_zip];omega
 refine (List.getElem_append_left (bs:=v.rest.map cK) h1).trans ?_;rw[List.getElem_map,List.getElem_zip]
 rfl
theorem ZG (h:v.items.length=x.AA.length) {k:Nat} (hk:k<v.rest.length) (hp:x.AA.length+k<(CS f x v).length):(CS f x v)[x.AA.length+k]=FP (v.rest[k]).id++⟨#[58,32]⟩++TG (v.rest[k]).data:=by
 have h1:((x.AA.zip v.items).map (WO f)).length=x.AA.length:=by rw[AAk,List.length_zip];omega
 have h2:((x.AA.zip v.items).map (WO f)).length<=x.AA.length+k:=by omega
 refine (List.getElem_append_right (bs:=v.rest.map cK) h2).trans ?_;rw[List.getElem_map];have e:x.AA.length+k - ((x.AA.zip v.items).map (WO f)).length=k:=by omega
 simp only[e]
 rfl
end
theorem NA {α:Type} (p:α->Bool):∀l:List α,Bv p l=match l.findIdx? p with
  | none => -1
  | some k=>(k:Int)
 | []=>rfl
 | x::r=>by
  rw[Bv,List.findIdx?_cons,NA p r]
  cases hp:p x with
  | true=>rfl
  | false =>
   cases r.findIdx? p with
   | none=>rfl
   | some k =>
    simp only[Bool.false_eq_true,if_false,Option.map_some];rw[Pe (by omega)]
    show (k:Int)+1=((k+1:Nat):Int)
    omega
theorem II {α:Type} (p:α->Bool):∀l:List α,l.find? p=if Bv p l<0 then none else l[(Bv p l).toNat]?
 | []=>rfl
 | x::r=>by
  rw[ABJ,Bv,II p r]
  cases hp:p x with
  | true=>rfl
  | false =>
   have:=Gw p r;simp only[Bool.false_eq_true,if_false]
   by_cases h:Bv p r<0
   ·rw[AAC h,AAC h];rfl
   ·rw[Pe h,Pe h,Pe (by omega),show (Bv p r+1).toNat=(Bv p r).toNat+1 by omega]
    rfl
theorem KP (h:CQ s false t v=true):∃n,AQ s false (n+1) t v=true:=by
 refine ⟨SizeOf.sizeOf v - 1,?_⟩;have:=UN v;rw[show SizeOf.sizeOf v - 1+1=SizeOf.sizeOf v by omega]
 exact h
theorem SS (h:CQ s false t v=true):0<=t/\t<(s.length:Int)/\v.kind=(AR s t).kind:=by
 obtain ⟨n,h⟩:=KP h;have:=D5 h;exact ⟨this.1,this.2.1,this.2.2.1⟩
theorem Ww (h:CQ s false t v=true) (hk:(AR s t).kind=5) (p:Int) (q:List Int):
  v.items.length=(AR s t).AA.length/\(Bv (fun m:AY=>decide (m.id=p)) (AR s t).AA<0->IQ s t v (p::q)=none) /\
  ∀k:Nat,Bv (fun m:AY=>decide (m.id=p)) (AR s t).AA=(k:Int)->∀ (h1:k<(AR s t).AA.length) (h2:k<v.items.length),IQ s t v (p::q)=IQ s ((AR s t).AA[k]).type v.items[k] q/\CQ s false ((AR s t).AA[k]).type v.items[k]=true:=by
 obtain ⟨n,h⟩:=KP h;obtain ⟨_,_,_,hf⟩:=D5 h;obtain ⟨g1,_,g3⟩:=qE hk hf;refine ⟨g1,fun hn=>?_,fun k hi h1 h2=>⟨?_,Es _ _ _ (g3 k h1 h2)⟩⟩
 ·rw[NA] at hn
  rw[IQ,Oa,AAC hk]
  cases hm:(AR s t).AA.findIdx? fun m=>decide (m.id=p) with
  | none=>rfl
  | some k=>rw[hm] at hn;simp only at hn;omega
 ·rw[NA] at hi
  rw[IQ,Oa,AAC hk]
  cases hm:(AR s t).AA.findIdx? fun m=>decide (m.id=p) with
  | none=>rw[hm] at hi;simp only at hi;omega
  | some k' =>
   rw[hm] at hi;obtain rfl:k'=k:=by simp only at hi;omega
   simp only[Option.map_some];rw[zl h2,AAi,zl h1]
   rfl
theorem gG (h:CQ s false t v=true) (hk:(AR s t).kind=6) (p:Int) (q:List Int):
  (Bv (fun m:AY=>decide (m.id=p)) (AR s t).AA<0->IQ s t v (p::q)=none)/\(p≠v.id->IQ s t v (p::q)=none) /\
  ∀k:Nat,Bv (fun m:AY=>decide (m.id=p)) (AR s t).AA=(k:Int)->p=v.id->∃ (h1:k<(AR s t).AA.length) (h2:0<v.items.length),IQ s t v (p::q)=IQ s ((AR s t).AA[k]).type v.items[0] q/\CQ s false ((AR s t).AA[k]).type v.items[0]=true:=by
 obtain ⟨n,h⟩:=KP h;obtain ⟨_,_,_,hf⟩:=D5 h;have h6:=yY hk hf;have hst:Oa (AR s t) v p=if p=v.id then ((AR s t).AA.find? fun m=>decide (m.id=p)).map fun m=>(0,m.type) else none:=by
  rw[Oa,Pe (by omega),AAC hk]
 refine ⟨fun hn=>?_,fun hp=>?_,fun k hi hp=>?_⟩
 ·rw[IQ,hst,II,AAC hn]
  by_cases hp:p=v.id
  ·rw[AAC hp];rfl
  ·rw[Pe hp]
 ·rw[IQ,hst,Pe hp]
 ·have hl:=Gw (fun m:AY=>decide (m.id=p)) (AR s t).AA
  have h1:k<(AR s t).AA.length:=by omega
  have nD:(AR s t).AA.find? (fun m=>decide (m.id=p))=some (AR s t).AA[k]:=by
   rw[II,Pe (by omega),hi]
   rw[show ((k:Nat):Int).toNat=k by omega,zl h1]
  rcases h6 with ⟨_,m,y,g1,g2,g3⟩|⟨g1,_⟩
  ·rw[<-hp,nD] at g1
   obtain rfl:=AAb g1;refine ⟨h1,by rw[g2];simp,?_,?_⟩
   ·rw[IQ,hst,AAC hp,nD]
    simp only[Option.map_some];rw[zl (by rw[g2];simp)]
   ·have:v.items[0]'(by rw[g2];simp)=y:=by simp only[g2,List.getElem_cons_zero]
    rw[this];exact Es _ _ _ g3
  ·rw[<-hp] at g1
   have:=List.any_eq_false.1 g1 _ (List.mem_of_find?_eq_some nD);exact absurd (List.find?_some nD) this
theorem gH (h:CQ s false t v=true) (h5:(AR s t).kind≠5) (h6:(AR s t).kind≠6) (p:Int) (q:List Int):
  (p<0->IQ s t v (p::q)=none)/\((v.items.length:Int)<=p->IQ s t v (p::q)=none) /\
  ∀k:Nat,p=(k:Int)->∀h2:k<v.items.length,((AR s t).kind=7\/(AR s t).kind=8\/(AR s t).kind=9)/\IQ s t v (p::q)=IQ s (AR s t).elem v.items[k] q/\CQ s false (AR s t).elem v.items[k]=true:=by
 obtain ⟨n,h⟩:=KP h;obtain ⟨_,_,hkk,hpr,hf⟩:=Zq h;have hst:Oa (AR s t) v p=if 0<=p then some (p.toNat,(AR s t).elem) else none:=by
  rw[Oa,Pe h5,Pe h6]
 refine ⟨fun hp=>?_,fun hp=>?_,fun k hk h2=>?_⟩
 ·rw[IQ,hst,Pe (by omega)]
 ·rw[IQ,hst,AAC (by omega)]
  simp only;rw[List.getElem?_eq_none (by omega)]
 ·have hc:(AR s t).kind=7\/(AR s t).kind=8\/(AR s t).kind=9:=by
   refine Classical.byContradiction fun hc=>?_
   unfold zJ Bh at hpr;simp only[AAG,AAY] at hpr;have:=hpr.1.2;simp only[Val.items] at this;rw[Pe (by omega)] at this
   have e:v.items.length=0:=this
   omega
  have hm:=AAW h2;refine ⟨hc,?_,?_⟩
  ·rw[IQ,hst,AAC (by omega)]
   simp only;rw[show p.toNat=k by omega,zl h2]
  ·rcases hc with hc|hc|hc
   ·exact Es _ _ _ (yX hc hf _ hm)
   ·exact Es _ _ _ ((yV hc hf).2.2 _ hm)
   ·exact Es _ _ _ ((uY hc hf).2 _ hm)
noncomputable def Ol (s:List AZ) (t:Int) (v:Val) (p:List Int):ByteArray×Int :=
 if CQ s false t v=false then (⟨#[]⟩,1) else match IQ s t v p with
  | none=>(⟨#[]⟩,4)
  | some _=>(GQ s t p,0)
noncomputable def YN (s:List AZ) (t:Int) (v:Val) (p:List Int):Int :=
 if CQ s false t v=false then 1 else match IQ s t v p with
  | none=>4
  | some _=>0
abbrev iH:AY:=⟨1,⟨#[120]⟩,1,false,false,zeroV⟩
abbrev iG:AY:=⟨3,⟨#[121]⟩,2,false,false,zeroV⟩
abbrev ZF:AZ:={ Ar with kind:=5,name:=⟨#[80,111,105,110,116]⟩,AA:=[iH,iG] }
abbrev dH:AZ:={ Ar with kind:=2,high:=9 }
abbrev dG:AZ:={ Ar with kind:=9,elem:=1 }
def G5:List AZ:=[ZF,dH,dG]
abbrev oF:ByteArray:=⟨#[123,32,120,32,58,32,53,32,44,32,121,32,58,32,115,111,109,101,32,40,32,55,32,41,32,125]⟩
abbrev oD:ByteArray:=⟨#[123,120,58,32,53,125]⟩
abbrev oC:ByteArray:=⟨#[123,121,58,32,110,111,110,101,44,32,120,58,32,53,125]⟩
abbrev ny:ByteArray:=⟨#[123,120,58,32,49,48,44,32,121,58,32,110,111,110,101,125]⟩
abbrev xJ:ByteArray:=⟨#[123,120,58,32,53,44,32,121,58,32,110,111,110,101,44,32,50,58,32,34,92,120,48,49,34,125]⟩
abbrev Nt (n:Int):Val := .mk 2 false n ⟨#[]⟩ 0 [] [] []
abbrev pOpt (l:List Val):Val := .mk 9 false 0 ⟨#[]⟩ 0 [] l []
def K4:Val := .mk 5 false 0 ⟨#[]⟩ 0 [] [Nt 5,pOpt [Nt 7]] []
def xP:Val := .mk 5 false 0 ⟨#[]⟩ 0 [] [Nt 10,pOpt []] []
def mg:Val := .mk 5 false 0 ⟨#[]⟩ 0 [] [Nt 5,pOpt []] [⟨2,⟨#[1]⟩⟩]
theorem GN:zQ G5=0:=by decide +kernel
theorem K5:Ca G5:=by
 intro t ht
 simp only[G5,AAf,List.mem_nil_iff,or_false] at ht
 rcases ht with rfl|rfl|rfl <;> (unfold In64;decide)
def FZ (x:ByteArray):List AB:=match BJ 1 x.data.toList with | .ok l=>l | .error _=>[]
theorem jq:BJ 1 oF.data.toList = .ok (FZ oF):=by
 have h:(match BJ 1 oF.data.toList with | .ok _=>true | .error _=>false)=true:=by decide +kernel
 unfold FZ
 cases h2:BJ 1 oF.data.toList with
 | ok l=>rfl
 | error e=>rw[h2] at h;cases h
theorem jo:BJ 1 oD.data.toList = .ok (FZ oD):=by
 have h:(match BJ 1 oD.data.toList with | .ok _=>true | .error _=>false)=true:=by decide +kernel
 unfold FZ
 cases h2:BJ 1 oD.data.toList with
 | ok l=>rfl
 | error e=>rw[h2] at h;cases h
theorem jm:BJ 1 oC.data.toList = .ok (FZ oC):=by
 have h:(match BJ 1 oC.data.toList with | .ok _=>true | .error _=>false)=true:=by decide +kernel
 unfold FZ
 cases h2:BJ 1 oC.data.toList with
 | ok l=>rfl
 | error e=>rw[h2] at h;cases h
theorem jl:BJ 1 ny.data.toList = .ok (FZ ny):=by
 have h:(match BJ 1 ny.data.toList with | .ok _=>true | .error _=>false)=true:=by decide +kernel
 unfold FZ
 cases h2:BJ 1 ny.data.toList with
 | ok l=>rfl
 | error e=>rw[h2] at h;cases h
def tX (l:List AB) (v:Val):Bool:=match C9 false G5 0 l with | .ok (u,r,k)=>decide (u=v)&&decide (r=[]) && !k | .error _=>false
def mZ (l:List AB) (e:Int):Bool:=match C9 false G5 0 l with | .ok _=>false | .error e'=>decide (e'=e)
variable {l:List AB}
theorem Tz (h:tX l v=true):C9 false G5 0 l = .ok (v,[],false):=by
 unfold tX at h
 cases hr:C9 false G5 0 l with
 | error e=>rw[hr] at h;cases h
 | ok p =>
  obtain ⟨u,r,k⟩:=p;rw[hr] at h;simp only[AAG,AAY,Bool.not_eq_true'] at h;rw[h.1.1,h.1.2,h.2]
theorem QY {e:Int} (h:mZ l e=true):C9 false G5 0 l = .error e:=by
 unfold mZ at h
 cases hr:C9 false G5 0 l with
 | error e'=>rw[hr] at h;rw[AAm h]
 | ok p=>rw[hr] at h;cases h
theorem tu:C9 false G5 0 (FZ oF) = .ok (K4,[],false):=Tz (by decide +kernel)
theorem tq:C9 false G5 0 (FZ oD) = .error 2:=QY (by decide +kernel)
theorem tZ:C9 false G5 0 (FZ oC) = .error 4:=QY (by decide +kernel)
theorem tY:C9 false G5 0 (FZ ny) = .ok (xP,[],false):=Tz (by decide +kernel)
theorem Xv:CQ G5 false 0 K4=true:=X0 ⟨8,by decide +kernel⟩
theorem jr:CQ G5 false 0 mg=true:=X0 ⟨8,by decide +kernel⟩
theorem jv:CQ G5 false 0 xP=false:=by
 cases h:CQ G5 false 0 xP with
 | false=>rfl
 | true =>
  obtain ⟨n,h⟩:=KP h;obtain ⟨_,_,_,hf⟩:=D5 h;obtain ⟨_,_,g⟩:=qE (show (AR G5 0).kind=5 from rfl) hf;have g0:AQ G5 false n 1 (Nt 10)=true:=g 0 (by decide) (by decide)
  cases n with
  | zero=>cases g0
  | succ n =>
   obtain ⟨_,_,_,hf⟩:=D5 g0;have:=(uZ (show (AR G5 1).kind=2 from rfl) hf).2;exact absurd this (by decide)
theorem uG:Al false G5 0 oF=(K4,0):=by
 unfold Al;rw[Pe (by decide),Pe (by decide),jq]
 simp only;rw[tu];simp only;rw[Pe (by simp),Pe (by rw[Xv];simp)]
theorem uF:Al false G5 0 oD=(zeroV,2):=by
 unfold Al;rw[Pe (by decide),Pe (by decide),jo]
 simp only;rw[tq]
theorem uE:Al false G5 0 oC=(zeroV,4):=by
 unfold Al;rw[Pe (by decide),Pe (by decide),jm]
 simp only;rw[tZ]
theorem uD:Al false G5 0 ny=(zeroV,1):=by
 unfold Al;rw[Pe (by decide),Pe (by decide),jl]
 simp only;rw[tY];simp only;rw[Pe (by simp),AAC (Or.inr jv)]
theorem o8:WR G5 0 mg=xJ:=by
 unfold WR
 decide +kernel
theorem dF:CQ G5 false 0 mg=true/\WR G5 0 mg=xJ:=⟨jr,o8⟩
theorem Xu:Ol G5 0 K4 [3,0]=(⟨#[46,121,91,48,93]⟩,0):=by
 unfold Ol;rw[Pe (by rw[Xv];simp)]
 have h:(IQ G5 0 K4 [3,0]).isSome=true:=by decide +kernel
 have h2:GQ G5 0 [3,0]=⟨#[46,121,91,48,93]⟩:=by decide +kernel
 cases hc:IQ G5 0 K4 [3,0] with
 | none=>rw[hc] at h;cases h
 | some p=>simp only;rw[h2]
abbrev Qc (b:Nat):Obj := .cells #[.pointer (some ⟨b,5,none⟩),.pointer (some ⟨b,6,none⟩)] 185
abbrev Val.MF (x:Val) (A1:zo) (c1:Nat) (A2:zo) (c2:Nat) (A3:zo) (c3:Nat):Obj:=x.box A1 c1 A2 c2 A3 c3
def D7 (B:Nat) (wk wr:World):Prop:=wk.heap.size<=wr.heap.size/\∀q,B<=q->q<wk.heap.size->wr.heap[q]? = wk.heap[q]?
theorem D7.refl (B:Nat) (w:World):D7 B w w:=⟨AAQ _,fun _ _ _=>rfl⟩
variable {B:Nat} {wk wr:World}
theorem D7.below (h:D7 B wk wr) (hb:Below wr.heap.size wr w'):D7 B wk w' :=
 ⟨Nat.le_trans h.1 hb.size,fun q h1 h2=>(hb.block q (AAt h2 h.1)).trans (h.2 q h1 h2)⟩
theorem D7.cell (h:D7 B wk wr) (hg:g<B\/wk.heap.size<=g) (o:Nat) (v:Value):D7 B wk (wr.setCell ⟨g,o,none⟩ v) :=
 ⟨by simpa using h.1,fun q h1 h2=>by rw[AAO wr ⟨g,o,none⟩ q v (by simp only[ne_eq];omega)];exact h.2 q h1 h2⟩
theorem D7.cells (h:D7 B wk wr) (hg:g<B\/wk.heap.size<=g) (o:Nat) (vs:List Value):D7 B wk (wr.setCells g o vs) :=
 ⟨by rw[size_setCells];exact h.1,fun q h1 h2=>by rw[zN (by omega)];exact h.2 q h1 h2⟩
theorem D7.off (h:D7 B wk wr) {P:World->Prop} (ho:Off (· < B) wk P):Off (· < B) wr P :=
 ho.step h.1 fun q hq hl=>h.2 q (by omega) hl
theorem D7.mono {w0:World} (h:D7 B wk wr) (h0:D7 B w0 wk):D7 B w0 wr :=
 ⟨Nat.le_trans h0.1 h.1,fun q h1 h2=>(h.2 q h1 (AAt h2 h0.1)).trans (h0.2 q h1 h2)⟩
variable {i:Nat}
theorem BP.reH {α:Type} {E:Nat} {at_:World->α->List Value->Prop} {base H3 H H':Nat} {l:List α} (h:BP E k at_ wr base H3 H A c l i) (hi:l.length<=i):BP E k at_ wr base H3 H' A c l i:=by
 obtain ⟨css,h1,h2,h3,h4,h5⟩:=h;refine ⟨css,h1,h2,h3,h4,fun m x cs hx hc=>⟨(h5 m x cs hx hc).1,fun hm=>?_⟩⟩
 have:=(AAZ.1 hx).1
 omega
structure Pv (x:Val) (w:World) (P:Nat) (K1:zo) (k1:Nat) (I1:zo) (i1:Nat) (R1:zo) (r1:Nat) (wr:World):Prop where
 box:wr.heap[w.heap.size]? = some (x.box K1 k1 I1 i1 R1 r1)
 res:wr.heap[w.heap.size+1]? = some I6
 Ch:Below w.heap.size w wr
 ptr:wr.heap[P]? = some (Qc w.heap.size)
 hi:w.heap.size+2<=P
section
variable {x:Val} {w wr w':World} {P:Nat} {K1:zo} {k1:Nat} {I1:zo} {i1:Nat} {R1:zo} {r1:Nat}
theorem Pv.below (h:Pv x w P K1 k1 I1 i1 R1 r1 wr) (hb:Below wr.heap.size wr w'):Pv x w P K1 k1 I1 i1 R1 r1 w' :=
 ⟨zE h.box hb,zE h.res hb,zB h.Ch hb,zE h.ptr hb,h.hi⟩
theorem Pv.other (h:Pv x w P K1 k1 I1 i1 R1 r1 wr) {g:Nat} (hg:w.heap.size+2<=g) (hp:g≠P) (o:Nat) (vs:List Value):Pv x w P K1 k1 I1 i1 R1 r1 (wr.setCells g o vs) :=
 ⟨by rw[zN (by omega)];exact h.box,by rw[zN (by omega)];exact h.res,yC g (by omega) _ _ _ h.Ch,by rw[zN (Ne.symm hp)];exact h.ptr,h.hi⟩
theorem Pv.lt (h:Pv x w P K1 k1 I1 i1 R1 r1 wr):P<wr.heap.size:=(zg.1 h.ptr).1
theorem Pv.cells (h:Pv x w P K1 k1 I1 i1 R1 r1 wr):wr.cell? ⟨P,0,none⟩=some (.pointer (some ⟨w.heap.size,5,none⟩))/\wr.cell? ⟨P,1,none⟩=some (.pointer (some ⟨w.heap.size,6,none⟩)) :=
 ⟨by rw[AAB _ _ _ _ _ _ h.ptr];rfl,by rw[AAB _ _ _ _ _ _ h.ptr];rfl⟩
theorem Pv.key (h:Pv x w P K1 k1 I1 i1 R1 r1 wr) (B1:zo) (d1:Nat):Pv x w P B1 d1 I1 i1 R1 r1 (wr.setCell ⟨w.heap.size,5,none⟩ (.slice B1 x.keys.length d1)):=by
 have hp:=h.hi;refine ⟨?_,?_,h.Ch.setCell (p:=⟨w.heap.size,5,none⟩) (AAQ _) _,?_,h.hi⟩
 ·rw[AAV _ _ 5 _ _ _ h.box];rfl
 ·rw[AAO _ _ _ _ (by simp)];exact h.res
 ·rw[AAO _ _ _ _ (by simp only[ne_eq];omega)];exact h.ptr
theorem Pv.item (h:Pv x w P K1 k1 I1 i1 R1 r1 wr) (B1:zo) (d1:Nat):Pv x w P K1 k1 B1 d1 R1 r1 (wr.setCell ⟨w.heap.size,6,none⟩ (.slice B1 x.items.length d1)):=by
 have hp:=h.hi;refine ⟨?_,?_,h.Ch.setCell (p:=⟨w.heap.size,6,none⟩) (AAQ _) _,?_,h.hi⟩
 ·rw[AAV _ _ 6 _ _ _ h.box];rfl
 ·rw[AAO _ _ _ _ (by simp)];exact h.res
 ·rw[AAO _ _ _ _ (by simp only[ne_eq];omega)];exact h.ptr
end
structure TI (x:Val) (w:World) (P:Nat) (K1:zo) (k1:Nat) (I1:zo) (i1:Nat) (R1:zo) (r1:Nat) (wk:World) (H3:Nat) (A:zo) (c:Nat) (l:List Val) (i:Nat) (wr:World):Prop where
 bx:Pv x w P K1 k1 I1 i1 R1 r1 wr
 kp:D7 (w.heap.size+2) wk wr
 pk:P<wk.heap.size
 h3:wk.heap.size<=H3
 hi:H3<=wr.heap.size
 row:BP 28 8 (fun u x cs=>Val.At u x cs) wr wk.heap.size H3 w.heap.size A c l i
section
variable {x:Val} {w wk wr w':World} {P:Nat} {K1:zo} {k1:Nat} {I1:zo} {i1:Nat} {R1:zo} {r1:Nat} {H3:Nat} {A:zo} {c:Nat} {l:List Val} {i:Nat}
theorem TI.below (h:TI x w P K1 k1 I1 i1 R1 r1 wk H3 A c l i wr) (hb:Below wr.heap.size wr w'):TI x w P K1 k1 I1 i1 R1 r1 wk H3 A c l i w' :=
 ⟨h.bx.below hb,h.kp.below hb,h.pk,h.h3,Nat.le_trans h.hi hb.size,h.row.below hb⟩
theorem TI.write (h:TI x w P K1 k1 I1 i1 R1 r1 wk H3 A c l i wr) (hi:i<l.length) {g:Nat} (hA:A=some ⟨g,0,none⟩) {F1:zo} {f1:Nat} {F2:zo} {f2:Nat} {F3:zo} {f3:Nat} {B:Nat} (hB:H3<=B) (ho:Off (· < B) wr fun u=>BO u l[i] F1 F2 F3) :
  TI x w P K1 k1 I1 i1 R1 r1 wk H3 A c l (i+1) (wr.setCells g (i * 8) ((l[i]).cs F1 f1 F2 f2 F3 f3)):=by
 have hlt:=h.row.lt (g:=g) (by rw[hA];rfl)
 have hp:=h.pk;have hlo:=h.bx.hi;have hsz:=h.bx.Ch.size;refine ⟨h.bx.other (by omega) (by omega) _ _,h.kp.cells (Or.inr hlt.1) _ _,h.pk,h.h3,by rw[size_setCells];exact h.hi,?_⟩
 have:=h.row.write hi hA (by omega) (by omega) (x:=l[i]) (cs:=(l[i]).cs F1 f1 F2 f2 F3 f3) rfl ((ho.mono fun q _ hq=>by omega).imp fun u hu=>Val.Fh.2 ⟨F1,f1,F2,f2,F3,f3,rfl,hu⟩)
 rwa [List.set_getElem_self] at this
theorem TI.out (h:TI x w P K1 k1 I1 i1 R1 r1 wk H3 A c l i wr) (hi:l.length<=i) (hl:D9 120 l.length):Off (· < w.heap.size+2) wr fun u=>DJ u A l:=by
 have hp:=h.pk;have hlo:=h.bx.hi;have hh:=h.h3;exact (h.row.reH hi).out hi (by omega) (by omega) hl
end
variable {P i1 k1 r1:Nat} {x:Val} {I1 K1 R1:zo}
theorem TI.start {w5:World} {B1:zo} {d1:Nat} {l:List Val} {o:Nat} (hb:Pv x w P K1 k1 I1 i1 R1 r1 (w5.setCell ⟨w.heap.size,o,none⟩ (.slice B1 l.length d1))) (hpk:P<wk.heap.size) (hw:Below wk.heap.size wk w5) (hk:∀H3,w5.heap.size<=H3->BP 28 8 (fun u x cs=>Val.At u x cs) w5 wk.heap.size H3 w.heap.size B1 d1 l 0):
  TI x w P K1 k1 I1 i1 R1 r1 wk w5.heap.size B1 d1 l 0 (w5.setCell ⟨w.heap.size,o,none⟩ (.slice B1 l.length d1)):=by
 have hs:=hw.size;have hlo:=hb.hi;refine ⟨hb,((D7.refl _ wk).below hw).cell (Or.inl (by omega)) _ _,hpk,hs,by simp,(hk _ (AAQ _)).ZK o _ (by omega) (AAQ _) fun e=>?_⟩
 have:=(hk _ (AAQ _)).lt e
 omega
theorem Pv.zero (h:Pv x w P K1 k1 I1 i1 R1 r1 wr) (hs:Dc x.str) (hk:Off (· < w.heap.size+2) wr fun u=>DJ u K1 x.keys) (hi:Off (· < w.heap.size+2) wr fun u=>DJ u I1 x.items) (hr:Off (· < w.heap.size+2) wr fun u=>FR u R1 x.rest):
  let W:=wr.setCells (w.heap.size+1) 0 (x.cs K1 k1 I1 i1 R1 r1)
  (W.cell? ⟨w.heap.size+1,0,none⟩=some (.int .i64 x.kind)/\W.cell? ⟨w.heap.size+1,1,none⟩=some (.bool x.bool)/\W.cell? ⟨w.heap.size+1,2,none⟩=some (.int .i64 x.int)/\W.cell? ⟨w.heap.size+1,3,none⟩=some (.string x.str)/\W.cell? ⟨w.heap.size+1,4,none⟩=some (.int .i64 x.id)/\W.cell? ⟨w.heap.size+1,5,none⟩=some (.slice K1 x.keys.length k1)/\W.cell? ⟨w.heap.size+1,6,none⟩=some (.slice I1 x.items.length i1)/\W.cell? ⟨w.heap.size+1,7,none⟩=some (.slice R1 x.rest.length r1)) /\
  (Off (· < w.heap.size) W fun u=>BO u x K1 I1 R1)/\Below w.heap.size w W:=by
 intro W
 have h8:=Ro (World.rangeAt_setCells_same wr (w.heap.size+1) 0 (x.cs K1 k1 I1 i1 R1 r1) (GD h.res));simp only[Nat.zero_add] at h8;refine ⟨h8,?_,yC _ (by omega) _ _ _ h.Ch⟩
 have st:∀ {Q:World->Prop},(Off (· < w.heap.size+2) wr Q)->Off (· < w.heap.size) W Q:=fun hq =>
  (hq.step (w1:=W) (by rw[size_setCells];exact AAQ _) fun q hq hl=>zN (by omega) _ _ _).mono fun q _ hq=>by omega
 exact fun u hu=>⟨hs,st hk u hu,st hi u hu,st hr u hu⟩
theorem N8 {H3:Nat} {l:List Val} (h:TI x w P K1 k1 I1 i1 R1 r1 wk H3 A c l i wr) {b:Nat} {y:Val} {E1:zo} {e1:Nat} {E2:zo} {e2:Nat} {E3:zo} {e3:Nat} (hb:wr.heap[b]? = some (y.box E1 e1 E2 e2 E3 e3)):
  ((wr.cell? ⟨w.heap.size,5,none⟩=some (.slice K1 x.keys.length k1)/\wr.cell? ⟨w.heap.size,6,none⟩=some (.slice I1 x.items.length i1))/\(wr.cell? ⟨b,0,none⟩=some (.int .i64 y.kind)/\wr.cell? ⟨b,1,none⟩=some (.bool y.bool)/\wr.cell? ⟨b,2,none⟩=some (.int .i64 y.int)/\wr.cell? ⟨b,3,none⟩=some (.string y.str)/\wr.cell? ⟨b,4,none⟩=some (.int .i64 y.id)/\wr.cell? ⟨b,5,none⟩=some (.slice E1 y.keys.length e1)/\wr.cell? ⟨b,6,none⟩=some (.slice E2 y.items.length e2)/\wr.cell? ⟨b,7,none⟩=some (.slice E3 y.rest.length e3)))/\Hid (TI x w P K1 k1 I1 i1 R1 r1 wk H3 A c l i wr/\wr.heap[b]? = some (y.box E1 e1 E2 e2 E3 e3)):=by
 refine ⟨⟨⟨(MF h.bx.box).1.1.1,(MF h.bx.box).1.1.2.1⟩,?_⟩,h,hb⟩;refine ⟨?_,?_,?_,?_,?_,?_,?_,?_⟩ <;> (rw[AAB _ _ _ _ _ _ hb];rfl)
def Wp (t:AB):List Value:=[.int .i64 t.kind,.string t.text,.int .i64 t.int,.string t.str,.int .i64 t.line]
def AB.At (t:AB) (cs:List Value):Prop:=(Dc t.text/\Dc t.str)/\cs=Wp t
def JF (w:World) (A:zo) (l:List AB):Prop:=Ae 5 56 AB.At w A l
theorem JF.below (h:JF w A l) (hb:Below w.heap.size w w'):JF w' A l:=Ae.imp h (fun _ _ _ h=>h) hb
theorem JF.Wy (h:JF w A l) (hi:i<l.length):∃b o,A=some ⟨b,o,none⟩/\(Dc l[i].text/\Dc l[i].str)/\w.rangeAt b (o+i * 5) (Wp l[i]):=by
 obtain ⟨b,o,cs,e,⟨h0,rfl⟩,h2⟩:=Ae.at_ h hi;exact ⟨b,o,e,h0,h2⟩
theorem JF.cells (h:JF w A l) (hi:i<l.length):∃b o,A=some ⟨b,o,none⟩/\(Dc l[i].text/\Dc l[i].str) /\
  w.cell? ⟨b,o+i * 5,none⟩=some (.int .i64 l[i].kind)/\w.cell? ⟨b,o+i * 5+1,none⟩=some (.string l[i].text)/\w.cell? ⟨b,o+i * 5+2,none⟩=some (.int .i64 l[i].int)/\w.cell? ⟨b,o+i * 5+3,none⟩=some (.string l[i].str)/\w.cell? ⟨b,o+i * 5+4,none⟩=some (.int .i64 l[i].line):=by
 obtain ⟨b,o,e,h0,h2⟩:=h.Wy hi;exact ⟨b,o,e,h0,h2 0 _ rfl,h2 1 _ rfl,h2 2 _ rfl,h2 3 _ rfl,h2 4 _ rfl⟩
abbrev Sr:=Ak 59 5 Wp
theorem U1:Elem 50 59 5 56:=⟨Tryz.underlying50,⟨.agg #[.int .i64 0,.string ⟨#[]⟩,.int .i64 0,.string ⟨#[]⟩,.int .i64 0],by kernel_rfl,rfl⟩,by omega⟩
theorem Sr.toks {base:Nat} {v:Value} (h:Sr w base v l) (hl:D9 56 l.length) (hs:∀t∈l,Dc t.text/\Dc t.str):∃A c,v = .slice A l.length c/\JF w A l:=Ak.rows h (fun _=>rfl) hl fun t ht=>⟨hs t ht,rfl⟩
theorem UY {T E:TypeId} {size bytes:Nat} (hE:Elem T E size bytes) (w:World) (base:Nat) (ty:TypeId) (v:Value) (n:Nat) (xs:List Value) (h:w.ownsRow base E size v n xs) (b o m c:Nat) (news:List Value) (hl:news.length=m * size)
  (hnews:w.rangeAt b o news) (h1:∀u∈news,u.oneCell'=true) (hlen:n+m<=9223372036854775807) (hby:(n+m) * bytes<=140737488355328) (hb:base<=w.heap.size) :
  ∃v' w',(Builtin.append_ #[T,T] ty #[v,.slice (some ⟨b,o,none⟩) m c]).run Tryz.prog w = .ok v' w'/\w'.ownsRow base E size v' (n+m) (xs++news)/\w.grownBy w' v.ownBlock/\(v'.ownBlock=v.ownBlock\/v'.ownBlock=some w.heap.size):=by
 obtain ⟨z,Wi,hzs⟩:=hE.info;obtain ⟨i0,hi,hz0,hz1,hz2⟩:=info_parts Wi;obtain ⟨v',w',hr,h2,h3,_,h5⟩:=run_append_own_at (P:=Tryz.prog) w base T ty E i0 z size bytes hE.under hi hz0 hz1 hz2 hzs hE.pos v n xs h ⟨b,o,none⟩ m c news hl (fun j u hj=>by rw[Addr.add_mid];exact hnews j u hj) h1 (by unfold maxLen;omega) hby hb
 exact ⟨v',w',hr,h2,h3,h5⟩
theorem yH {T E:TypeId} {size bytes:Nat} (hE:Elem T E size bytes) {ops:Array Oper} {op:Oper} {a:Act} {K:Act->World->Prop} {Q:Exit->Act->World->Prop} {El:Prop} (hgd:op.guard=none) (s x:Operand) (ho:op.op = .call { callee := .builtin .append,args:=#[s,x],argTypes:=#[T,T] }) (base:Nat) (v:Value) (n:Nat) (xs:List Value) (hs:a.eval s=v) (h:w.ownsRow base E size v n xs) (b o m c:Nat) (news:List Value) (hx:a.eval x = .slice (some ⟨b,o,none⟩) m c) (hl:news.length=m * size) (hnews:w.rangeAt b o news) (h1:∀u∈news,u.oneCell'=true) (hlen:n+m<=9223372036854775807) (hby:(n+m) * bytes<=140737488355328) (hb:base<=w.heap.size) (hk:∀v' w',w'.ownsRow base E size v' (n+m) (xs++news)->w.grownBy w' v.ownBlock->(v'.ownBlock=v.ownBlock\/v'.ownBlock=some w.heap.size)->K (a.put op.dst v') w'):if Region.wanted op (yielded ops a.tmps)=true then Oper.wp Tryz.prog op a w K Q else El:=by
 have hw:Region.wanted op (yielded ops a.tmps)=true:=by simp[Region.wanted,hgd]
 rw[AAC hw];obtain ⟨v',w',hr,h2,h3,h5⟩:=UY hE w base op.type v n xs h b o m c news hl hnews h1 hlen hby hb;unfold Oper.wp execOp;simp only[ho,resolve,invoke,builtin,Sem.run_bind,Sem.run_pure,Result.andThen_ok,List.map_toArray,ABB,List.map_nil,hs,hx,hr];exact hk v' w' h2 h3 h5
theorem Off.grow {S S':Nat->Prop} {w1:World} {P:World->Prop} (h:Off S w P) (hs:∀q,q<w.heap.size->S' q->S q) (hk:∀q,q<w.heap.size->¬ S q->w1.heap[q]? = w.heap[q]?) (hz:w.heap.size<=w1.heap.size):Off S' w1 P :=
 fun w' hw=>h w' fun q hq hl=>(hw q (fun h'=>hq (hs q hl h')) (by omega)).trans (hk q hl hq)
theorem CW {o:Obj} (h:w.heap[g]? = some o) (hb:Below w.heap.size w w'):w'.heap[g]? = some o:=(hb.block _ (zg.1 h).1).trans h
end Go.Proofs.YthkkllmmbefedaaGreatDoor



