/-
  append onto an own row, and where it is then; what is held off more blocks.
-/
import Derived.Test.YthkkllmmbefedaaGreatDoorQGA6
import Derived.Test.YthkkllmmbefedaaGreatDoorQGA2
import Derived.Test.YthkkllmmbefedaaGreatDoorQGA5
import Derived.Test.YthkkllmmbefedaaGreatDoorQGA3
import Derived.Lib.MinMax
namespace Go.Proofs.YthkkllmmbefedaaGreatDoor
open Go.RowKit
set_option maxHeartbeats 16000000
set_option maxRecDepth 100000
variable {g:Nat} {w w':World}
theorem zE {o:Obj} (h:w.heap[g]? = some o) (hb:Below w.heap.size w w'):w'.heap[g]? = some o:=(hb.block _ (zg.1 h).1).trans h
variable {b:Nat}
theorem zG {W:World} {t:Ae} {As:zo} {cs:Nat} {Am:zo} {cm:Nat} (h:BX W b t As cs Am cm):
  W.cell? ⟨b,0,none⟩=some (.int .i64 t.kind)/\W.cell? ⟨b,1,none⟩=some (.string t.name)/\W.cell? ⟨b,2,none⟩=some (.int .i64 t.low)/\W.cell? ⟨b,3,none⟩=some (.int .i64 t.high)/\W.cell? ⟨b,4,none⟩=some (.int .i64 t.max)/\W.cell? ⟨b,5,none⟩=some (.slice As t.Aj.length cs)/\W.cell? ⟨b,6,none⟩=some (.slice Am t.AA.length cm)/\W.cell? ⟨b,7,none⟩=some (.int .i64 t.key)/\W.cell? ⟨b,8,none⟩=some (.int .i64 t.elem)/\W.cell? ⟨b,9,none⟩=some (.bool t.open_) :=
 ⟨h.cell 0,h.cell 1,h.cell 2,h.cell 3,h.cell 4,h.cell 5,h.cell 6,h.cell 7,h.cell 8,h.cell 9⟩
theorem JA (n:Int) (w:World):Calls Tryz.prog 97 #[.int .i64 n] w fun e w'=>e = .returned (.bool (Aw n))/\w'=w:=by
 by_cases h1:1<=n
 ·have q1:(1:Int)<=n:=h1
  have HD:Hid (Aw n=decide (n<=1000)):=by show _=_;unfold Aw;simp[h1]
  clear h1
  go_enter Tryz.func97,Tryz.ntmps97
  go_wp2
  go_ret
  exact ⟨by rw[HD.out];rfl,rfl⟩
 ·have q1:¬ (1:Int)<=n:=h1
  have HD:Hid (Aw n=false):=by show _=_;unfold Aw;simp[h1]
  clear h1
  go_enter Tryz.func97,Tryz.ntmps97
  go_wp2
  go_ret
  exact ⟨by rw[HD.out];rfl,rfl⟩
theorem U0 (v:Val) (h:1<=v.kind/\v.kind<=9) (A1:zo) (c1:Nat) (A2:zo) (c2:Nat) (A3:zo) (c3:Nat) (w:World) :
  Calls Tryz.prog 96 #[v.v A1 c1 A2 c2 A3 c3] w fun e w'=>e = .returned (.bool (zJ v))/\Below w.heap.size w w':=by
 have sN:=zh (fun w=>dh v h A1 c1 A2 c2 A3 c3 w)
 have HB0:=zh (zD w (v.box A1 c1 A2 c2 A3 c3));have HX0:=zh (AAC w (v.box A1 c1 A2 c2 A3 c3));have nC:Hid (zJ v=(decide (v.bool=(BJ v).bool)&&decide (v.int=(BJ v).int)&&decide (v.str=(BJ v).str)&&decide (v.id=(BJ v).id)&&decide (v.keys.length=(BJ v).keys.length)&&decide (v.items.length=(BJ v).items.length)&&decide (v.rest.length=(BJ v).rest.length))):=rfl;clear h
 go_enter Tryz.func96,Tryz.ntmps96
 go_wp2_with fail
 refine (sN.out _).mono ?_;rintro e w1 ⟨B1,d1,B2,d2,B3,d3,rfl,hb1⟩;clear sN;generalize BJ v=B at *;have Ei:=zE HX0 hb1;have HB1:=zh (zB HB0 hb1);have hlt:w.heap.size<w1.heap.size:=(zg.1 Ei).1;have x1:w1.cell? ⟨w.heap.size,1,none⟩=some (.bool v.bool):=by rw[AAE _ _ _ _ _ _ Ei];rfl
 have x2:w1.cell? ⟨w.heap.size,2,none⟩=some (.int .i64 v.int):=by rw[AAE _ _ _ _ _ _ Ei];rfl
 have x3:w1.cell? ⟨w.heap.size,3,none⟩=some (.string v.str):=by rw[AAE _ _ _ _ _ _ Ei];rfl
 have x4:w1.cell? ⟨w.heap.size,4,none⟩=some (.int .i64 v.id):=by rw[AAE _ _ _ _ _ _ Ei];rfl
 have x5:w1.cell? ⟨w.heap.size,5,none⟩=some (.slice A1 v.keys.length c1):=by rw[AAE _ _ _ _ _ _ Ei];rfl
 have x6:w1.cell? ⟨w.heap.size,6,none⟩=some (.slice A2 v.items.length c2):=by rw[AAE _ _ _ _ _ _ Ei];rfl
 have x7:w1.cell? ⟨w.heap.size,7,none⟩=some (.slice A3 v.rest.length c3):=by rw[AAE _ _ _ _ _ _ Ei];rfl
 have QZ:=zh (fun o=>zB HB1 (zD w1 o))
 clear hb1 Ei
 by_cases q1:v.bool=B.bool
 case neg =>
  have HD:Hid (zJ v=false):=by show _=_;rw[nC.out];simp[q1]
  have e1:(v.bool==B.bool)=false:=by simpa using q1
  clear q1;go_wp2;go_ret;exact ⟨by rw[HD.out];rfl,QZ.out _⟩
 have e1:(v.bool==B.bool)=true:=by simpa using q1
 by_cases q2:v.int=B.int
 case neg =>
  have HD:Hid (zJ v=false):=by show _=_;rw[nC.out];simp[q2]
  have e2:(v.int==B.int)=false:=by simpa using q2
  clear q1 q2;go_wp2;go_ret;exact ⟨by rw[HD.out];rfl,QZ.out _⟩
 have e2:(v.int==B.int)=true:=by simpa using q2
 by_cases q3:v.str=B.str
 case neg =>
  have HD:Hid (zJ v=false):=by show _=_;rw[nC.out];simp[q3]
  have e3:(v.str.toList==B.str.toList)=false:=by rw[bytes_beq];exact AAU q3
  clear q1 q2 q3;go_wp2;go_ret;exact ⟨by rw[HD.out];rfl,QZ.out _⟩
 have e3:(v.str.toList==B.str.toList)=true:=by rw[bytes_beq];exact AAX q3
 by_cases q4:v.id=B.id
 case neg =>
  have HD:Hid (zJ v=false):=by show _=_;rw[nC.out];simp[q4]
  have e4:(v.id==B.id)=false:=by simpa using q4
  clear q1 q2 q3 q4;go_wp2;go_ret;exact ⟨by rw[HD.out];rfl,QZ.out _⟩
 have e4:(v.id==B.id)=true:=by simpa using q4
 by_cases q5:v.keys.length=B.keys.length
 case neg =>
  have HD:Hid (zJ v=false):=by show _=_;rw[nC.out];simp[q5]
  have e5:((v.keys.length:Int)==(B.keys.length:Int))=false:=AAc.2 (by omega)
  clear q1 q2 q3 q4 q5;go_wp2;go_ret;exact ⟨by rw[HD.out];rfl,QZ.out _⟩
 have e5:((v.keys.length:Int)==(B.keys.length:Int))=true:=ABP.2 (by omega)
 by_cases q6:v.items.length=B.items.length
 case neg =>
  have HD:Hid (zJ v=false):=by show _=_;rw[nC.out];simp[q6]
  have e6:((v.items.length:Int)==(B.items.length:Int))=false:=AAc.2 (by omega)
  clear q1 q2 q3 q4 q5 q6;go_wp2;go_ret;exact ⟨by rw[HD.out];rfl,QZ.out _⟩
 have e6:((v.items.length:Int)==(B.items.length:Int))=true:=ABP.2 (by omega)
 by_cases q7:v.rest.length=B.rest.length
 case neg =>
  have HD:Hid (zJ v=false):=by show _=_;rw[nC.out];simp[q7]
  have e7:((v.rest.length:Int)==(B.rest.length:Int))=false:=AAc.2 (by omega)
  clear q1 q2 q3 q4 q5 q6 q7;go_wp2;go_ret;exact ⟨by rw[HD.out];rfl,QZ.out _⟩
 have e7:((v.rest.length:Int)==(B.rest.length:Int))=true:=ABP.2 (by omega)
 have HD:Hid (zJ v=true):=by show _=_;rw[nC.out];simp[q1,q2,q3,q4,q5,q6,q7]
 clear q1 q2 q3 q4 q5 q6 q7;go_wp2;go_ret;exact ⟨by rw[HD.out];rfl,QZ.out _⟩
def BD {α:Type} (p:α->Bool):List α->Int
 | [] => -1
 | x::r=>if p x then 0 else if BD p r<0 then -1 else BD p r+1
theorem C8 {α:Type} (p:α->Bool):∀l:List α,BD p l = -1\/(0<=BD p l/\BD p l<l.length)
 | [] => .inl rfl
 | x::r=>by
  have h:=C8 p r;unfold BD
  split
  ·right;simp only[AAS];omega
  ·split
   ·exact .inl rfl
   ·right;simp only[AAS];omega
theorem Ja {α:Type} {p:α->Bool}:∀ (l:List α) (k:Nat) (hk:k<l.length),(∀j (h:j<l.length),j<k->p l[j]=false)->p l[k]=true->BD p l=(k:Int)
 | [],_,hk,_,_=>by cases hk
 | x::r,0,_,_,h=>by
  have h':p x=true:=h;unfold BD;rw[AAG h'];rfl
 | x::r,k+1,hk,hn,h=>by
  have hx:p x=false:=hn 0 (by simp) (by omega)
  have ih:=Ja r k (by simpa using hk) (fun j h1 h2=>hn (j+1) (by simpa using h1) (by omega)) h
  unfold BD;rw[hx,Pd (by simp),ih,Pd (by omega)]
  omega
theorem JZ {α:Type} {p:α->Bool}:∀ (l:List α),(∀j (h:j<l.length),p l[j]=false)->BD p l = -1
 | [],_=>rfl
 | x::r,hn=>by
  have hx:p x=false:=hn 0 (by simp)
  have ih:=JZ r (fun j h1=>hn (j+1) (by simpa using h1))
  unfold BD;rw[hx,Pd (by simp),ih]
  rfl
theorem SS (n:Int) (q:Nat) (y:Bu) (w:World) (hq:w.cell? ⟨q,0,none⟩=some (.int .i64 n)) :
  Calls Tryz.prog 102 #[.agg #[.int .i64 y.id,.string y.name],.pointer (some ⟨q,0,none⟩)] w fun e w'=>e = .returned (.bool (decide (y.id=n)))/\Below w.heap.size w w':=by
 have hlt:=zL hq;simp only at hlt;have HB:=zh (fun o=>zD w o)
 have HQ:Hid ((y.id==n)=decide (y.id=n)):=rfl
 go_enter Tryz.func102,Tryz.ntmps102
 go_wp2
 go_ret
 exact ⟨by first|rfl|(rw[<-HQ.out];rfl),HB.out _⟩
theorem TN (n:Int) (q:Nat) (y:AZ) (A1:zo) (c1:Nat) (A2:zo) (c2:Nat) (A3:zo) (c3:Nat) (w:World) (hq:w.cell? ⟨q,0,none⟩=some (.int .i64 n)) :
  Calls Tryz.prog 93 #[y.v A1 c1 A2 c2 A3 c3,.pointer (some ⟨q,0,none⟩)] w fun e w'=>e = .returned (.bool (decide (y.id=n)))/\Below w.heap.size w w':=by
 have hlt:=zL hq;simp only at hlt;have HB:=zh (fun o=>zD w o)
 go_enter Tryz.func93,Tryz.ntmps93
 go_wp2
 go_ret
 exact ⟨rfl,HB.out _⟩
theorem VP (n:Int) (q:Nat) (l:List Bu) (A:zo) (c:Nat) (w:World) (hl:JF w A l) (hq:w.cell? ⟨q,0,none⟩=some (.int .i64 n)) :
  Calls Tryz.prog 101 #[.slice A l.length c,.func (.func 102) #[] #[.pointer (some ⟨q,0,none⟩)]] w fun e w'=>e = .returned (.int .i64 (BD (fun y:Bu=>decide (y.id=n)) l))/\Below w.heap.size w w':=by
 have hln:=hl.1.lt (by omega)
 have HL:=zh hl;have HQ:=zh hq;clear hl hq
 go_enter Tryz.func101,Tryz.ntmps101
 go_wp2
 go_loopw [8] (fun i wr=>∃k:Nat,k<=l.length/\i = .int .i64 (k:Int)/\Hid ((∀j (h:j<l.length),j<k->decide ((l[j]).id=n)=false)/\Below w.heap.size w wr)) (fun i _=>l.length - (intOf i).toNat)
 case atStart=>exact ⟨0,by omega,rfl,(fun j _ h=>absurd h (by omega)),Pe _ _⟩
 case round =>
  obtain ⟨k,hk,rfl,hh⟩:=hrel
  by_cases hlt:k<l.length
  ·obtain ⟨b,o,rfl,hr1,a0,a1⟩:=(HL.out.below hh.out.2).at2 hlt
   clear hr1;have h1:(0:Int)<=(k:Int):=by omega
   have h2:(k:Int)<(l.length:Int):=by omega
   cases he:decide ((l[k]).id=n) with
   | true =>
    have HD:=zh he;have HI:=zh (Ja (p:=fun y:Bu=>decide (y.id=n)) l k hlt hh.out.1 he)
    clear he;go_wp2_with (go_at_call 102;refine (SS n q l[k] _ (zA hh.out.2 HQ)).mono ?_;rintro e w2 ⟨rfl,hb2⟩;rw[HD.out]);go_ret;exact ⟨by rw[HI.out];rfl,zB hh.out.2 hb2⟩
   | false =>
    have HD:=zh he;have HN:Hid (∀j (h:j<l.length),j<k+1->decide ((l[j]).id=n)=false):=fun j h hj=>by
     by_cases e:j=k
     ·subst e;exact he
     ·exact hh.out.1 j h (by omega)
    clear he;go_wp2_with (go_at_call 102;refine (SS n q l[k] _ (zA hh.out.2 HQ)).mono ?_;rintro e w2 ⟨rfl,hb2⟩;rw[HD.out]);go_roundw
    case rel=>exact ⟨k+1,by omega,by go_num,HN.out,zB hh.out.2 hb2⟩
    case measure=>simp[intOf];omega
  ·have HI:=zh (JZ (p:=fun y:Bu=>decide (y.id=n)) l fun j h=>hh.out.1 j h (by omega))
   go_wp2
   go_ret
   exact ⟨by rw[HI.out];rfl,hh.out.2⟩
theorem VQ (n:Int) (q:Nat) (l:List AZ) (A:zo) (c:Nat) (w:World) (hl:FL w A l) (hq:w.cell? ⟨q,0,none⟩=some (.int .i64 n)) :
  Calls Tryz.prog 92 #[.slice A l.length c,.func (.func 93) #[] #[.pointer (some ⟨q,0,none⟩)]] w fun e w'=>e = .returned (.int .i64 (BD (fun y:AZ=>decide (y.id=n)) l))/\Below w.heap.size w w':=by
 have hln:=hl.1.lt (by omega)
 have HL:=zh hl;have HQ:=zh hq;clear hl hq
 go_enter Tryz.func92,Tryz.ntmps92
 go_wp2
 go_loopw [8] (fun i wr=>∃k:Nat,k<=l.length/\i = .int .i64 (k:Int)/\Hid ((∀j (h:j<l.length),j<k->decide ((l[j]).id=n)=false)/\Below w.heap.size w wr)) (fun i _=>l.length - (intOf i).toNat)
 case atStart=>exact ⟨0,by omega,rfl,(fun j _ h=>absurd h (by omega)),Pe _ _⟩
 case round =>
  obtain ⟨k,hk,rfl,hh⟩:=hrel
  by_cases hlt:k<l.length
  ·obtain ⟨b,o,A1,c1,A2,c2,A3,c3,rfl,hr1,a0,a1,a2,a3,a4,a5,a6,a7,a8,a9,eD,eB,a12⟩:=(HL.out.below hh.out.2).Gw hlt
   clear hr1;have h1:(0:Int)<=(k:Int):=by omega
   have h2:(k:Int)<(l.length:Int):=by omega
   cases he:decide ((l[k]).id=n) with
   | true =>
    have HD:=zh he;have HI:=zh (Ja (p:=fun y:AZ=>decide (y.id=n)) l k hlt hh.out.1 he)
    clear he;go_wp2_with (go_at_call 93;refine (TN n q l[k] A1 c1 A2 c2 A3 c3 _ (zA hh.out.2 HQ)).mono ?_;rintro e w2 ⟨rfl,hb2⟩;rw[HD.out]);go_ret;exact ⟨by rw[HI.out];rfl,zB hh.out.2 hb2⟩
   | false =>
    have HD:=zh he;have HN:Hid (∀j (h:j<l.length),j<k+1->decide ((l[j]).id=n)=false):=fun j h hj=>by
     by_cases e:j=k
     ·subst e;exact he
     ·exact hh.out.1 j h (by omega)
    clear he;go_wp2_with (go_at_call 93;refine (TN n q l[k] A1 c1 A2 c2 A3 c3 _ (zA hh.out.2 HQ)).mono ?_;rintro e w2 ⟨rfl,hb2⟩;rw[HD.out]);go_roundw
    case rel=>exact ⟨k+1,by omega,by go_num,HN.out,zB hh.out.2 hb2⟩
    case measure=>simp[intOf];omega
  ·have HI:=zh (JZ (p:=fun y:AZ=>decide (y.id=n)) l fun j h=>hh.out.1 j h (by omega))
   go_wp2
   go_ret
   exact ⟨by rw[HI.out];rfl,hh.out.2⟩
theorem Xu (n:Int) (t:Ae) (As:zo) (cs:Nat) (Am:zo) (cm:Nat) (w:World) (ht:KM w t As Am) :
  Calls Tryz.prog 68 #[t.v As cs Am cm,.int .i64 n] w fun e w'=>e = .returned (.tuple #[.int .i64 (if BD (fun y:Bu=>decide (y.id=n)) t.Aj<0 then 0 else BD (fun y:Bu=>decide (y.id=n)) t.Aj),.bool (decide (0<=BD (fun y:Bu=>decide (y.id=n)) t.Aj))])/\Below w.heap.size w w':=by
 have HT:=zh (ht.below (zI w (t.box As cs Am cm) (.cells #[.int .i64 n] 3)));have HB:=zh (zI w (t.box As cs Am cm) (.cells #[.int .i64 n] 3));have HQ:Hid (((w.alloc (t.box As cs Am cm)).alloc (.cells #[.int .i64 n] 3)).cell? ⟨w.heap.size+1,0,none⟩=some (.int .i64 n)):=by
  show _=_
  have:=zR (w.alloc (t.box As cs Am cm)) [.int .i64 n] 3 0 _ rfl;simp
 clear ht;have HI:=C8 (fun y:Bu=>decide (y.id=n)) t.Aj
 obtain ⟨r,hre⟩:∃r,BD (fun y:Bu=>decide (y.id=n)) t.Aj=r:=⟨_,rfl⟩
 have Od:=zh hre;rw[hre] at HI ⊢;clear hre;have hHI:=zh HI;clear HI
 go_enter Tryz.func68,Tryz.ntmps68
 go_wp2_with fail
 refine (VP n (w.heap.size+1) t.Aj _ _ _ (HT.out.Aj) HQ).mono ?_;rintro e w2 ⟨rfl,hb2⟩;rw[Od.out];have mD:=zh (zB HB hb2);clear hb2 Od;have HI:=hHI.out;clear hHI
 by_cases hr:r<0
 ·have HR:Hid ((if r<0 then 0 else r)=0):=AAG hr
  have HR2:Hid (decide (0<=r)=false):=AAU (by omega)
  obtain rfl:r = -1:=by omega
  clear hr HI;have q2:max (-1:Int) 0=0:=by decide
  go_wp2
  go_ret2
  exact ⟨by first|rfl|(rw[HR2.out];rfl)|(rw[HR.out];rfl)|(rw[HR.out,HR2.out];rfl),mD.out⟩
 ·have HR:Hid ((if r<0 then 0 else r)=r):=Pd hr
  have HR2:Hid (decide (0<=r)=true):=AAX (by omega)
  have q1:(0:Int)<=r:=by omega
  have q2:max r 0=r:=by omega
  clear hr HI;go_wp2;go_ret2;exact ⟨by first|rfl|(rw[HR2.out];rfl)|(rw[HR.out];rfl)|(rw[HR.out,HR2.out];rfl),mD.out⟩
theorem JR (n:Int) (t:Ae) (As:zo) (cs:Nat) (Am:zo) (cm:Nat) (w:World) (ht:KM w t As Am) :
  Calls Tryz.prog 58 #[t.v As cs Am cm,.int .i64 n] w fun e w'=>e = .returned (.tuple #[.int .i64 (if BD (fun y:AZ=>decide (y.id=n)) t.AA<0 then 0 else BD (fun y:AZ=>decide (y.id=n)) t.AA),.bool (decide (0<=BD (fun y:AZ=>decide (y.id=n)) t.AA))])/\Below w.heap.size w w':=by
 have HT:=zh (ht.below (zI w (t.box As cs Am cm) (.cells #[.int .i64 n] 3)));have HB:=zh (zI w (t.box As cs Am cm) (.cells #[.int .i64 n] 3));have HQ:Hid (((w.alloc (t.box As cs Am cm)).alloc (.cells #[.int .i64 n] 3)).cell? ⟨w.heap.size+1,0,none⟩=some (.int .i64 n)):=by
  show _=_
  have:=zR (w.alloc (t.box As cs Am cm)) [.int .i64 n] 3 0 _ rfl;simp
 clear ht;have HI:=C8 (fun y:AZ=>decide (y.id=n)) t.AA
 obtain ⟨r,hre⟩:∃r,BD (fun y:AZ=>decide (y.id=n)) t.AA=r:=⟨_,rfl⟩
 have Od:=zh hre;rw[hre] at HI ⊢;clear hre;have hHI:=zh HI;clear HI
 go_enter Tryz.func58,Tryz.ntmps58
 go_wp2_with fail
 refine (VQ n (w.heap.size+1) t.AA _ _ _ (HT.out.AA) HQ).mono ?_;rintro e w2 ⟨rfl,hb2⟩;rw[Od.out];have mD:=zh (zB HB hb2);clear hb2 Od;have HI:=hHI.out;clear hHI
 by_cases hr:r<0
 ·have HR:Hid ((if r<0 then 0 else r)=0):=AAG hr
  have HR2:Hid (decide (0<=r)=false):=AAU (by omega)
  obtain rfl:r = -1:=by omega
  clear hr HI;have q2:max (-1:Int) 0=0:=by decide
  go_wp2
  go_ret2
  exact ⟨by first|rfl|(rw[HR2.out];rfl)|(rw[HR.out];rfl)|(rw[HR.out,HR2.out];rfl),mD.out⟩
 ·have HR:Hid ((if r<0 then 0 else r)=r):=Pd hr
  have HR2:Hid (decide (0<=r)=true):=AAX (by omega)
  have q1:(0:Int)<=r:=by omega
  have q2:max r 0=r:=by omega
  clear hr HI;go_wp2;go_ret2;exact ⟨by first|rfl|(rw[HR2.out];rfl)|(rw[HR.out];rfl)|(rw[HR.out,HR2.out];rfl),mD.out⟩
def OZ (s:List Ae) (A:zo) (c:Nat) (plain:Bool) (n:Nat):Prop:=∀ (t:Int) (v:Val) (A1:zo) (c1:Nat) (A2:zo) (c2:Nat) (A3:zo) (c3:Nat) (w:World),SizeOf.sizeOf v<=n->CQ w A s->Az w v A1 A2 A3 ->
 Calls Tryz.prog 65 #[.agg #[.slice A s.length c],.int .i64 t,v.v A1 c1 A2 c2 A3 c3,.bool plain] w fun e w'=>e = .returned (.bool (AU s plain n t v))/\Below w.heap.size w w'
def Vz (s:List Ae) (A:zo) (c:Nat) (t:Int) (plain:Bool) (p1 p2 p3:Nat) (w:World):Prop :=
 w.cell? ⟨p1,0,none⟩=some (.slice A s.length c)/\w.cell? ⟨p2,0,none⟩=some (.int .i64 t)/\w.cell? ⟨p3,0,none⟩=some (.bool plain)
variable {t:Int} {s:List Ae} {c:Nat} {A:zo}
theorem Vz.below {plain:Bool} {p1 p2 p3:Nat} (h:Vz s A c t plain p1 p2 p3 w) (hb:Below w.heap.size w w'):Vz s A c t plain p1 p2 p3 w':=⟨zA hb h.1,zA hb h.2.1,zA hb h.2.2⟩
section
variable {s:List Ae} {A:zo} {c:Nat} {plain:Bool} {n:Nat}
theorem QI (hf:OZ s A c plain n) (t:Int) (p1 p2 p3:Nat) (v:Val) (A1:zo) (c1:Nat) (A2:zo) (c2:Nat) (A3:zo) (c3:Nat) (w:World) (hv:SizeOf.sizeOf v<=n) (hs:CQ w A s) (hr:Az w v A1 A2 A3) (hc:Vz s A c t plain p1 p2 p3 w) :
  Calls Tryz.prog 148 #[v.v A1 c1 A2 c2 A3 c3,.pointer (some ⟨p1,0,none⟩),.pointer (some ⟨p2,0,none⟩),.pointer (some ⟨p3,0,none⟩)] w fun e w'=>e = .returned (.bool (!AU s plain n t v))/\Below w.heap.size w w':=by
 have HF:=zh hf;have HS:=zh (hs.below (zD w (v.box A1 c1 A2 c2 A3 c3)));have HR:=zh (hr.below (zD w (v.box A1 c1 A2 c2 A3 c3)));have HB:=zh (zD w (v.box A1 c1 A2 c2 A3 c3));obtain ⟨x1,x2,x3⟩:=hc;have l1:=zL x1;have l2:=zL x2;have l3:=zL x3;simp only at l1 l2 l3;clear hf hs hr
 go_enter Tryz.func148,Tryz.ntmps148
 go_wp2_with fail
 refine (HF.out t v A1 c1 A2 c2 A3 c3 _ hv HS HR).mono ?_;rintro e w2 ⟨rfl,hb2⟩;have HB2:=zh (zB HB hb2);clear hb2 x1 x2 x3;go_wp2;go_ret;exact ⟨rfl,HB2.out⟩
theorem bX (hf:OZ s A c plain n) (t:Int) (p1 p2 p3:Nat) (l:List Val) (B:zo) (d:Nat) (w:World) (hv:∀y∈l,SizeOf.sizeOf y<=n) (hs:CQ w A s) (hl:Co w B l) (hc:Vz s A c t plain p1 p2 p3 w) :
  Calls Tryz.prog 171 #[.slice B l.length d,.func (.func 148) #[] #[.pointer (some ⟨p1,0,none⟩),.pointer (some ⟨p2,0,none⟩),.pointer (some ⟨p3,0,none⟩)]] w fun e w'=>e = .returned (.int .i64 (BD (fun y => !AU s plain n t y) l))/\Below w.heap.size w w':=by
 have hln:=hl.1.lt (by omega)
 have HL:=zh hl;have HS:=zh hs;have HC:=zh hc;have HF:=zh hf;have HV:=zh hv;clear hl hs hc hf hv
 go_enter Tryz.func171,Tryz.ntmps171
 go_wp2
 go_loopw [8] (fun i wr=>∃k:Nat,k<=l.length/\i = .int .i64 (k:Int)/\Hid ((∀j (h:j<l.length),j<k->(!AU s plain n t l[j])=false)/\Below w.heap.size w wr)) (fun i _=>l.length - (intOf i).toNat)
 case atStart=>exact ⟨0,by omega,rfl,(fun j _ h=>absurd h (by omega)),Pe _ _⟩
 case round =>
  obtain ⟨k,hk,rfl,hh⟩:=hrel
  by_cases hlt:k<l.length
  ·obtain ⟨b,o,A1,c1,A2,c2,A3,c3,rfl,hr1,a0,a1,a2,a3,a4,a5,a6,a7⟩:=(HL.out.below hh.out.2).at8 hlt
   have HR:=zh hr1;have KO:=zh (HV.out _ (AAK hlt));clear hr1;have h1:(0:Int)<=(k:Int):=by omega
   have h2:(k:Int)<(l.length:Int):=by omega
   cases he:(!AU s plain n t l[k]) with
   | true =>
    have HD:=zh he;have HI:=zh (Ja (p:=fun y => !AU s plain n t y) l k hlt hh.out.1 he)
    clear he;go_wp2_with (go_at_call 148;refine (QI HF t p1 p2 p3 l[k] A1 c1 A2 c2 A3 c3 wr KO (HS.out.below hh.out.2) HR (HC.out.below hh.out.2)).mono ?_;rintro e w2 ⟨rfl,hb2⟩;rw[HD.out]);go_ret;exact ⟨by rw[HI.out];rfl,zB hh.out.2 hb2⟩
   | false =>
    have HD:=zh he;have HN:Hid (∀j (h:j<l.length),j<k+1->(!AU s plain n t l[j])=false):=fun j h hj=>by
     by_cases e:j=k
     ·subst e;exact he
     ·exact hh.out.1 j h (by omega)
    clear he;go_wp2_with (go_at_call 148;refine (QI HF t p1 p2 p3 l[k] A1 c1 A2 c2 A3 c3 wr KO (HS.out.below hh.out.2) HR (HC.out.below hh.out.2)).mono ?_;rintro e w2 ⟨rfl,hb2⟩;rw[HD.out]);go_roundw
    case rel=>exact ⟨k+1,by omega,by go_num,HN.out,zB hh.out.2 hb2⟩
    case measure=>simp[intOf];omega
  ·have HI:=zh (JZ (p:=fun y => !AU s plain n t y) l fun j h=>hh.out.1 j h (by omega))
   go_wp2
   go_ret
   exact ⟨by rw[HI.out];rfl,hh.out.2⟩
theorem Dk {α:Type} {p:α->Bool}:∀l:List α,decide (0<=BD p l)=l.any p
 | []=>rfl
 | x::r=>by
  have ih:=Dk (p:=p) r;have h:=C8 p r;unfold BD;rw[List.any_cons,<-ih]
  cases hx:p x with
  | true=>simp
  | false =>
   rw[Pd (by simp),Bool.false_or]
   split
   ·rename_i h1
    rw[decide_eq_decide];omega
   ·rw[decide_eq_decide];omega
theorem Yy (hf:OZ s A c plain n) (t:Int) (p1 p2 p3:Nat) (l:List Val) (B:zo) (d:Nat) (w:World) (hv:∀y∈l,SizeOf.sizeOf y<=n) (hs:CQ w A s) (hl:Co w B l) (hc:Vz s A c t plain p1 p2 p3 w) :
  Calls Tryz.prog 147 #[.slice B l.length d,.func (.func 148) #[] #[.pointer (some ⟨p1,0,none⟩),.pointer (some ⟨p2,0,none⟩),.pointer (some ⟨p3,0,none⟩)]] w fun e w'=>e = .returned (.bool (l.any fun y => !AU s plain n t y))/\Below w.heap.size w w':=by
 have HI:=zh (bX hf t p1 p2 p3 l B d w hv hs hl hc);have HD:=zh (Dk (p:=fun y => !AU s plain n t y) l)
 clear hf hv hs hl hc
 go_enter Tryz.func147,Tryz.ntmps147
 go_wp2_with fail
 refine HI.out.mono ?_;rintro e w2 ⟨rfl,hb2⟩;have HB:=zh hb2;clear hb2 HI;go_wp2;go_ret;exact ⟨by rw[<-HD.out];rfl,HB.out⟩
theorem Jd (hf:OZ s A c plain n) (t:Int) (l:List Val) (B:zo) (d:Nat) (w:World) (hv:∀y∈l,SizeOf.sizeOf y<=n) (hs:CQ w A s) (hl:Co w B l) :
  Calls Tryz.prog 98 #[.agg #[.slice A s.length c],.int .i64 t,.slice B l.length d,.bool plain] w fun e w'=>e = .returned (.bool (l.all fun y=>AU s plain n t y))/\Below w.heap.size w w':=by
 have HB:=zh (zB (zB (zD w (.cells #[.slice A s.length c] 31)) (zD _ (.cells #[.int .i64 t] 3))) (zD _ (.cells #[.bool plain] 4)));have HC:Hid (Vz s A c t plain w.heap.size (w.heap.size+1) (w.heap.size+1+1) (((w.alloc (.cells #[.slice A s.length c] 31)).alloc (.cells #[.int .i64 t] 3)).alloc (.cells #[.bool plain] 4))):=by
  refine ⟨?_,?_,?_⟩ <;> go_simp
 have HI:=zh (Yy hf t w.heap.size (w.heap.size+1) (w.heap.size+1+1) l B d _ hv (hs.below HB) (hl.below HB) HC);have HD:Hid ((!(l.any fun y => !AU s plain n t y))=l.all fun y=>AU s plain n t y):=by show _=_;simp[List.any_eq_not_all_not]
 clear hf hv hs hl HC
 go_enter Tryz.func98,Tryz.ntmps98
 go_wp2_with fail
 refine HI.out.mono ?_;rintro e w2 ⟨rfl,hb2⟩;have HB2:=zh (zB HB hb2);clear hb2 HI;go_wp2;go_ret;exact ⟨by rw[<-HD.out];rfl,HB2.out⟩
end
def Fb (x:Ae) (a:Ak):Bool:=!(x.AA.any fun y=>decide (y.id=a.id))&&Aw a.id
theorem Le (x:Ae) (a:Ak):Fb x a=((x.AA.all fun m=>decide (m.id≠a.id))&&Aw a.id):=by
 unfold Fb
 congr 1
 simp[List.all_eq_not_any_not]
theorem Kl (x:Ae):∀ (l:List Ak),(∀k (h:k<l.length),Fb x l[k]=true)->(∀k (h:k+1<l.length),(l[k]).id<(l[k+1]).id)->Ca x l=true
 | [],_,_=>rfl
 | [a],h,_=>by
  have h0:=h 0 (by simp)
  rw[Le] at h0;have h0':((x.AA.all fun m=>decide (m.id≠a.id))&&Aw a.id)=true:=h0
  unfold Ca;rw[h0'];rfl
 | a::b::r,h,h2=>by
  have h0:=h 0 (by simp)
  rw[Le] at h0;have h0':((x.AA.all fun m=>decide (m.id≠a.id))&&Aw a.id)=true:=h0
  have h1:a.id<b.id:=h2 0 (by simp)
  unfold Ca;rw[h0',Kl x (b::r) (fun k hk=>h (k+1) (by simpa using hk)) (fun k hk=>h2 (k+1) (by simpa using hk))]
  simp[h1]
theorem Kk (x:Ae):∀ (l:List Ak) (k:Nat) (h:k<l.length),Fb x l[k]=false->Ca x l=false
 | a::r,0,_,hn=>by
  rw[Le] at hn;have hn':((x.AA.all fun m=>decide (m.id≠a.id))&&Aw a.id)=false:=hn
  unfold Ca;rw[hn',Bool.false_and,Bool.false_and]
 | a::r,k+1,h,hn=>by
  unfold Ca;rw[Kk x r k (by simpa using h) hn,Bool.and_false]
theorem Ld (x:Ae):∀ (l:List Ak) (k:Nat) (h:k+1<l.length),¬ (l[k]).id<(l[k+1]).id->Ca x l=false
 | [_],k,h,_=>by simp at h
 | a::b::r,0,_,hn=>by
  have hn':¬ a.id<b.id:=hn;unfold Ca;simp[hn']
 | a::b::r,k+1,h,hn=>by
  unfold Ca;rw[Ld x (b::r) k (by simpa using h) hn,Bool.and_false]
theorem KX (f:Int->Val->Bool):∀ (ms:List AZ) (vs:List Val),(∀k (h:k<ms.length) (h':k<vs.length),f (ms[k]).type vs[k]=true)->((ms.zip vs).all fun p=>f p.1.type p.2)=true
 | [],_,_=>rfl
 | _::_,[],_=>rfl
 | m::ms,v::vs,h=>by
  have h0:f m.type v=true:=h 0 (by simp) (by simp)
  simp only[List.zip_cons_cons,List.all_cons,h0,Bool.true_and];exact KX f ms vs fun k h1 h2=>h (k+1) (by simpa using h1) (by simpa using h2)
theorem KW (f:Int->Val->Bool):∀ (ms:List AZ) (vs:List Val) (k:Nat) (h:k<ms.length) (h':k<vs.length),f (ms[k]).type vs[k]=false->((ms.zip vs).all fun p=>f p.1.type p.2)=false
 | m::ms,v::vs,0,_,_,h=>by
  have h0:f m.type v=false:=h;simp only[List.zip_cons_cons,List.all_cons,h0,Bool.false_and]
 | m::ms,v::vs,k+1,h1,h2,h=>by
  simp only[List.zip_cons_cons,List.all_cons,KW f ms vs k (by simpa using h1) (by simpa using h2) h,Bool.and_false]
theorem K4 {α:Type} {p:α->Bool}:∀ (l:List α),l.any p=true->∃k,∃h:k<l.length,BD p l=(k:Int)/\l.find? p=some l[k]
 | [],h=>by cases h
 | x::r,h=>by
  cases hx:p x with
  | true=>exact ⟨0,by simp,by unfold BD;rw[AAG hx];rfl,by rw[ABR,hx];rfl⟩
  | false =>
   rw[List.any_cons,hx,Bool.false_or] at h;obtain ⟨k,hk,e1,e2⟩:=K4 r h;refine ⟨k+1,by simpa using hk,?_,?_⟩
   ·unfold BD
    rw[hx,Pd (by simp),e1,Pd (by omega)]
    omega
   ·rw[ABR,hx];exact e2
theorem RJ {α:Type} {p:α->Bool} (l:List α) (h:l.any p=false):l.find? p=none:=by
 rw[List.find?_eq_none]
 intro x hx hp
 rw[List.any_eq_false] at h;exact h x hx hp
variable {v:Val}
theorem DL {plain:Bool} {n:Nat} (h:AU s plain (n+1) t v=true):0<=t/\t<(s.length:Int)/\v.kind=(AB s t).kind/\AY (AU s plain n) plain (AB s t) v=true:=by
 unfold AU at h
 by_cases h1:t<0\/(s.length:Int)<=t
 ·rw[AAG h1] at h;cases h
 ·rw[Pd h1] at h
  by_cases h2:v.kind≠(AB s t).kind\/zJ v=false
  ·rw[AAG h2] at h;cases h
  ·rw[Pd h2] at h
   exact ⟨by omega,by omega,Classical.byContradiction fun e=>h2 (.inl e),h⟩
theorem cZ {n:Int} (h:Aw n=true):1<=n/\n<=1000:=by
 unfold Aw at h
 simpa using h
theorem kT {n:Int} (h:Aw n=true):In64 n:=by
 have:=cZ h;unfold In64
 omega
section
variable {f:Int->Val->Bool} {plain:Bool} {x:Ae} {v:Val}
theorem uY (e:x.kind=2) (h:AY f plain x v=true):x.low<=v.int/\v.int<=x.high:=by
 unfold AY at h;rw[AAG e] at h
 simpa using h
theorem Ph:∀ {l:List Ak},Ca x l=true->∀r∈l,Aw r.id=true
 | a::l,h,r,hr=>by
  unfold Ca at h;simp only[AAJ] at h
  rcases AAr.1 hr with rfl|hr
  ·exact h.1.1.2
  ·exact Ph h.2 r hr
theorem R6:∀ (ms:List AZ) (vs:List Val),((ms.zip vs).all fun p=>f p.1.type p.2)=true->∀k (h:k<ms.length) (h':k<vs.length),f (ms[k]).type vs[k]=true
 | m::ms,w::vs,h,0,_,_=>by
  simp only[List.zip_cons_cons,List.all_cons,AAJ] at h;exact h.1
 | m::ms,w::vs,h,k+1,h1,h2=>by
  simp only[List.zip_cons_cons,List.all_cons,AAJ] at h;exact R6 ms vs h.2 k (by simpa using h1) (by simpa using h2)
theorem pJ (e:x.kind=5) (h:AY f plain x v=true):v.items.length=x.AA.length/\(∀r∈v.rest,Aw r.id=true)/\∀k (h:k<x.AA.length) (h':k<v.items.length),f (x.AA[k]).type v.items[k]=true:=by
 unfold AY at h;rw[Pd (by omega),Pd (by omega),Pd (by omega),AAG e] at h
 simp only[AAJ,AAd] at h;exact ⟨h.1.1.1,Ph h.1.2,R6 _ _ h.2⟩
theorem uX (e:x.kind=6) (h:AY f plain x v=true):((x.AA.any fun y=>decide (y.id=v.id))=true/\∃m y,x.AA.find? (fun y=>decide (y.id=v.id))=some m/\v.items=[y]/\f m.type y=true)\/((x.AA.any fun y=>decide (y.id=v.id))=false/\Aw v.id=true/\∃r,v.rest=[r]):=by
 unfold AY at h;rw[Pd (by omega),Pd (by omega),Pd (by omega),Pd (by omega),AAG e] at h
 cases ha:(x.AA.any fun y=>decide (y.id=v.id)) with
 | true =>
  obtain ⟨k,hk,_,hf⟩:=K4 x.AA ha;rw[hf] at h;simp only[AAJ,AAd] at h;obtain ⟨y,hy⟩:=List.length_eq_one_iff.1 h.1.1;refine .inl ⟨rfl,_,y,hf,hy,?_⟩;rw[hy] at h
  simpa using h.2
 | false =>
  rw[RJ x.AA ha] at h;simp only[AAJ,AAd] at h;exact .inr ⟨rfl,h.1.1.1.2,List.length_eq_one_iff.1 h.1.2⟩
theorem AAN (e:x.kind=7) (h:AY f plain x v=true):∀y∈v.items,f x.elem y=true:=by
 unfold AY at h;rw[Pd (by omega),Pd (by omega),Pd (by omega),Pd (by omega),Pd (by omega),AAG e] at h
 simp only[AAJ,AA3] at h;exact h.2
theorem AAM (e:x.kind=8) (h:AY f plain x v=true):v.items.length=v.keys.length/\(∀y∈v.keys,f x.key y=true)/\∀y∈v.items,f x.elem y=true:=by
 unfold AY at h;rw[Pd (by omega),Pd (by omega),Pd (by omega),Pd (by omega),Pd (by omega),Pd (by omega),AAG e] at h
 simp only[AAJ,AA3,AAd] at h;exact ⟨h.1.1.1.2,h.1.1.2,h.2⟩
theorem uW (e:x.kind=9) (h:AY f plain x v=true):v.items.length<=1/\∀y∈v.items,f x.elem y=true:=by
 unfold AY at h;rw[Pd (by omega),Pd (by omega),Pd (by omega),Pd (by omega),Pd (by omega),Pd (by omega),Pd (by omega),AAG e] at h
 simp only[AAJ,AA3,AAd] at h;exact h
end
section
variable {f:Int->Val->ByteArray} {x:Ae} {v:Val}
theorem yo (e:x.kind=2):Nz f x v=D5 v.int:=by unfold Nz;rw[Pd (by omega),AAG e]
theorem yj (e:x.kind=5):Nz f x v=⟨#[123]⟩++RU ((x.AA.zip v.items).map (VE f)++v.rest.map aV)++⟨#[125]⟩:=by
 unfold Nz;rw[Pd (by omega),Pd (by omega),Pd (by omega),Pd (by omega),AAG e]
theorem tX (e:x.kind=9):Nz f x v=match v.items with
  | []=>⟨#[110,111,110,101]⟩
  | y::_=>⟨#[115,111,109,101,40]⟩++f x.elem y++⟨#[41]⟩:=by
 unfold Nz;rw[Pd (by omega),Pd (by omega),Pd (by omega),Pd (by omega),Pd (by omega),Pd (by omega),Pd (by omega),Pd (by omega)];rfl
end
variable {k:Nat}
theorem QL {l:List ByteArray} (h:k<l.length):Gv (fun i=>l.getD i ⟨#[]⟩) (k+1)=Gv (fun i=>l.getD i ⟨#[]⟩) k++(if k=0 then ⟨#[]⟩ else ⟨#[44,32]⟩)++l[k]:=by
 rw[Gv]
 congr 1
 show l.getD k ⟨#[]⟩=_
 rw[AAl,zl h];rfl
theorem QM {l:List ByteArray} (h:k<l.length):(Gv (fun i=>l.getD i ⟨#[]⟩) k).size+(if k=0 then (⟨#[]⟩:ByteArray) else ⟨#[44,32]⟩).size+(l[k]).size<=(RU l).size:=by
 have:=Yz (fun i=>l.getD i ⟨#[]⟩) h
 rw[show (l.getD k ⟨#[]⟩:ByteArray)=l[k] by rw[AAl,zl h];rfl] at this
 exact this
def Bw (f:Int->Val->ByteArray) (x:Ae) (v:Val):List ByteArray:=(x.AA.zip v.items).map (VE f)++v.rest.map aV
section
variable {f:Int->Val->ByteArray} {x:Ae} {v:Val}
theorem YB (h:v.items.length=x.AA.length):(Bw f x v).length=x.AA.length+v.rest.length:=by
 unfold Bw;rw[AAt,AAZ,AAZ,List.length_zip]
 omega
theorem YA (h:v.items.length=x.AA.length) {k:Nat} (hk:k<x.AA.length) (hi:k<v.items.length) (hp:k<(Bw f x v).length):(Bw f x v)[k]=(x.AA[k]).name++⟨#[58,32]⟩++f (x.AA[k]).type v.items[k]:=by
 have h1:k<((x.AA.zip v.items).map (VE f)).length:=by rw[AAZ,List.length_zip];omega
 refine (List.getElem_append_left (bs:=v.rest.map aV) h1).trans ?_;rw[List.getElem_map,List.getElem_zip]
 rfl
theorem X9 (h:v.items.length=x.AA.length) {k:Nat} (hk:k<v.rest.length) (hp:x.AA.length+k<(Bw f x v).length):(Bw f x v)[x.AA.length+k]=D5 (v.rest[k]).id++⟨#[58,32]⟩++Rs (v.rest[k]).data:=by
 have h1:((x.AA.zip v.items).map (VE f)).length=x.AA.length:=by rw[AAZ,List.length_zip];omega
 have h2:((x.AA.zip v.items).map (VE f)).length<=x.AA.length+k:=by omega
 refine (List.getElem_append_right (bs:=v.rest.map aV) h2).trans ?_;rw[List.getElem_map];have e:x.AA.length+k - ((x.AA.zip v.items).map (VE f)).length=k:=by omega
 simp only[e]
 rfl
end
theorem L8 {α:Type} (p:α->Bool):∀l:List α,BD p l=match l.findIdx? p with
  | none => -1
  | some k=>(k:Int)
 | []=>rfl
 | x::r=>by
  rw[BD,List.findIdx?_cons,L8 p r]
  cases hp:p x with
  | true=>rfl
  | false =>
   cases r.findIdx? p with
   | none=>rfl
   | some k =>
    simp only[Bool.false_eq_true,if_false,Option.map_some];rw[Pd (by omega)]
    show (k:Int)+1=((k+1:Nat):Int)
    omega
theorem Gu {α:Type} (p:α->Bool):∀l:List α,l.find? p=if BD p l<0 then none else l[(BD p l).toNat]?
 | []=>rfl
 | x::r=>by
  rw[ABR,BD,Gu p r]
  cases hp:p x with
  | true=>rfl
  | false =>
   have:=C8 p r;simp only[Bool.false_eq_true,if_false]
   by_cases h:BD p r<0
   ·rw[AAG h,AAG h];rfl
   ·rw[Pd h,Pd h,Pd (by omega),show (BD p r+1).toNat=(BD p r).toNat+1 by omega]
    rfl
theorem Ho (h:BH s false t v=true):∃n,AU s false (n+1) t v=true:=by
 refine ⟨SizeOf.sizeOf v - 1,?_⟩;have:=Ir v;rw[show SizeOf.sizeOf v - 1+1=SizeOf.sizeOf v by omega]
 exact h
theorem Kz (h:BH s false t v=true):0<=t/\t<(s.length:Int)/\v.kind=(AB s t).kind:=by
 obtain ⟨n,h⟩:=Ho h;have:=DL h;exact ⟨this.1,this.2.1,this.2.2.1⟩
theorem F7 (h:BH s false t v=true) (hk:(AB s t).kind=5) (p:Int) (q:List Int):
  v.items.length=(AB s t).AA.length/\(BD (fun m:AZ=>decide (m.id=p)) (AB s t).AA<0->CO s t v (p::q)=none) /\
  ∀k:Nat,BD (fun m:AZ=>decide (m.id=p)) (AB s t).AA=(k:Int)->∀ (h1:k<(AB s t).AA.length) (h2:k<v.items.length),CO s t v (p::q)=CO s ((AB s t).AA[k]).type v.items[k] q/\BH s false ((AB s t).AA[k]).type v.items[k]=true:=by
 obtain ⟨n,h⟩:=Ho h;obtain ⟨_,_,_,hf⟩:=DL h;obtain ⟨g1,_,g3⟩:=pJ hk hf;refine ⟨g1,fun hn=>?_,fun k hi h1 h2=>⟨?_,Eb _ _ _ (g3 k h1 h2)⟩⟩
 ·rw[L8] at hn
  rw[CO,Gn,AAG hk]
  cases hm:(AB s t).AA.findIdx? fun m=>decide (m.id=p) with
  | none=>rfl
  | some k=>rw[hm] at hn;simp only at hn;omega
 ·rw[L8] at hi
  rw[CO,Gn,AAG hk]
  cases hm:(AB s t).AA.findIdx? fun m=>decide (m.id=p) with
  | none=>rw[hm] at hi;simp only at hi;omega
  | some k' =>
   rw[hm] at hi;obtain rfl:k'=k:=by simp only at hi;omega
   simp only[Option.map_some];rw[zl h2,AAl,zl h1]
   rfl
theorem JD (h:BH s false t v=true) (hk:(AB s t).kind=6) (p:Int) (q:List Int):
  (BD (fun m:AZ=>decide (m.id=p)) (AB s t).AA<0->CO s t v (p::q)=none)/\(p≠v.id->CO s t v (p::q)=none) /\
  ∀k:Nat,BD (fun m:AZ=>decide (m.id=p)) (AB s t).AA=(k:Int)->p=v.id->∃ (h1:k<(AB s t).AA.length) (h2:0<v.items.length),CO s t v (p::q)=CO s ((AB s t).AA[k]).type v.items[0] q/\BH s false ((AB s t).AA[k]).type v.items[0]=true:=by
 obtain ⟨n,h⟩:=Ho h;obtain ⟨_,_,_,hf⟩:=DL h;have h6:=uX hk hf;have hst:Gn (AB s t) v p=if p=v.id then ((AB s t).AA.find? fun m=>decide (m.id=p)).map fun m=>(0,m.type) else none:=by
  rw[Gn,Pd (by omega),AAG hk]
 refine ⟨fun hn=>?_,fun hp=>?_,fun k hi hp=>?_⟩
 ·rw[CO,hst,Gu,AAG hn]
  by_cases hp:p=v.id
  ·rw[AAG hp];rfl
  ·rw[Pd hp]
 ·rw[CO,hst,Pd hp]
 ·have hl:=C8 (fun m:AZ=>decide (m.id=p)) (AB s t).AA
  have h1:k<(AB s t).AA.length:=by omega
  have mQ:(AB s t).AA.find? (fun m=>decide (m.id=p))=some (AB s t).AA[k]:=by
   rw[Gu,Pd (by omega),hi]
   rw[show ((k:Nat):Int).toNat=k by omega,zl h1]
  rcases h6 with ⟨_,m,y,g1,g2,g3⟩|⟨g1,_⟩
  ·rw[<-hp,mQ] at g1
   obtain rfl:=AAm g1;refine ⟨h1,by rw[g2];simp,?_,?_⟩
   ·rw[CO,hst,AAG hp,mQ]
    simp only[Option.map_some];rw[zl (by rw[g2];simp)]
   ·have:v.items[0]'(by rw[g2];simp)=y:=by simp only[g2,List.getElem_cons_zero]
    rw[this];exact Eb _ _ _ g3
  ·rw[<-hp] at g1
   have:=List.any_eq_false.1 g1 _ (List.mem_of_find?_eq_some mQ);exact absurd (List.find?_some mQ) this
theorem J6 (h:BH s false t v=true) (h5:(AB s t).kind≠5) (h6:(AB s t).kind≠6) (p:Int) (q:List Int):
  (p<0->CO s t v (p::q)=none)/\((v.items.length:Int)<=p->CO s t v (p::q)=none) /\
  ∀k:Nat,p=(k:Int)->∀h2:k<v.items.length,((AB s t).kind=7\/(AB s t).kind=8\/(AB s t).kind=9)/\CO s t v (p::q)=CO s (AB s t).elem v.items[k] q/\BH s false (AB s t).elem v.items[k]=true:=by
 obtain ⟨n,h⟩:=Ho h;obtain ⟨_,_,hkk,hpr,hf⟩:=Yr h;have hst:Gn (AB s t) v p=if 0<=p then some (p.toNat,(AB s t).elem) else none:=by
  rw[Gn,Pd h5,Pd h6]
 refine ⟨fun hp=>?_,fun hp=>?_,fun k hk h2=>?_⟩
 ·rw[CO,hst,Pd (by omega)]
 ·rw[CO,hst,AAG (by omega)]
  simp only;rw[List.getElem?_eq_none (by omega)]
 ·have hc:(AB s t).kind=7\/(AB s t).kind=8\/(AB s t).kind=9:=by
   refine Classical.byContradiction fun hc=>?_
   unfold zJ BJ at hpr;simp only[AAJ,AAd] at hpr;have:=hpr.1.2;simp only[Val.items] at this;rw[Pd (by omega)] at this
   have e:v.items.length=0:=this
   omega
  have hm:=AAK h2;refine ⟨hc,?_,?_⟩
  ·rw[CO,hst,AAG (by omega)]
   simp only;rw[show p.toNat=k by omega,zl h2]
  ·rcases hc with hc|hc|hc
   ·exact Eb _ _ _ (AAN hc hf _ hm)
   ·exact Eb _ _ _ ((AAM hc hf).2.2 _ hm)
   ·exact Eb _ _ _ ((uW hc hf).2 _ hm)
noncomputable def GJ (s:List Ae) (t:Int) (v:Val) (p:List Int):ByteArray×Int :=
 if BH s false t v=false then (⟨#[]⟩,1) else match CO s t v p with
  | none=>(⟨#[]⟩,4)
  | some _=>(BL s t p,0)
noncomputable def Rv (s:List Ae) (t:Int) (v:Val) (p:List Int):Int :=
 if BH s false t v=false then 1 else match CO s t v p with
  | none=>4
  | some _=>0
abbrev fw:AZ:=⟨1,⟨#[120]⟩,1,false,false,zeroV⟩
abbrev fu:AZ:=⟨3,⟨#[121]⟩,2,false,false,zeroV⟩
abbrev X7:Ae:={ Al with kind:=5,name:=⟨#[80,111,105,110,116]⟩,AA:=[fw,fu] }
abbrev aj:Ae:={ Al with kind:=2,high:=9 }
abbrev ai:Ae:={ Al with kind:=9,elem:=1 }
def Gr:List Ae:=[X7,aj,ai]
abbrev nU:ByteArray:=⟨#[123,32,120,32,58,32,53,32,44,32,121,32,58,32,115,111,109,101,32,40,32,55,32,41,32,125]⟩
abbrev nT:ByteArray:=⟨#[123,120,58,32,53,125]⟩
abbrev nS:ByteArray:=⟨#[123,121,58,32,110,111,110,101,44,32,120,58,32,53,125]⟩
abbrev nR:ByteArray:=⟨#[123,120,58,32,49,48,44,32,121,58,32,110,111,110,101,125]⟩
abbrev yN:ByteArray:=⟨#[123,120,58,32,53,44,32,121,58,32,110,111,110,101,44,32,50,58,32,34,92,120,48,49,34,125]⟩
abbrev Mw (n:Int):Val := .mk 2 false n ⟨#[]⟩ 0 [] [] []
abbrev pOpt (l:List Val):Val := .mk 9 false 0 ⟨#[]⟩ 0 [] l []
def KJ:Val := .mk 5 false 0 ⟨#[]⟩ 0 [] [Mw 5,pOpt [Mw 7]] []
def yU:Val := .mk 5 false 0 ⟨#[]⟩ 0 [] [Mw 10,pOpt []] []
def mM:Val := .mk 5 false 0 ⟨#[]⟩ 0 [] [Mw 5,pOpt []] [⟨2,⟨#[1]⟩⟩]
theorem Fg:zQ Gr=0:=by decide +kernel
theorem Jz:Bq Gr:=by
 intro t ht
 simp only[Gr,AAr,List.mem_nil_iff,or_false] at ht
 rcases ht with rfl|rfl|rfl <;> (unfold In64;decide)
def E9 (x:ByteArray):List AQ:=match BB 1 x.data.toList with | .ok l=>l | .error _=>[]
theorem jR:BB 1 nU.data.toList = .ok (E9 nU):=by
 have h:(match BB 1 nU.data.toList with | .ok _=>true | .error _=>false)=true:=by decide +kernel
 unfold E9
 cases h2:BB 1 nU.data.toList with
 | ok l=>rfl
 | error e=>rw[h2] at h;cases h
theorem jQ:BB 1 nT.data.toList = .ok (E9 nT):=by
 have h:(match BB 1 nT.data.toList with | .ok _=>true | .error _=>false)=true:=by decide +kernel
 unfold E9
 cases h2:BB 1 nT.data.toList with
 | ok l=>rfl
 | error e=>rw[h2] at h;cases h
theorem jP:BB 1 nS.data.toList = .ok (E9 nS):=by
 have h:(match BB 1 nS.data.toList with | .ok _=>true | .error _=>false)=true:=by decide +kernel
 unfold E9
 cases h2:BB 1 nS.data.toList with
 | ok l=>rfl
 | error e=>rw[h2] at h;cases h
theorem jO:BB 1 nR.data.toList = .ok (E9 nR):=by
 have h:(match BB 1 nR.data.toList with | .ok _=>true | .error _=>false)=true:=by decide +kernel
 unfold E9
 cases h2:BB 1 nR.data.toList with
 | ok l=>rfl
 | error e=>rw[h2] at h;cases h
def su (l:List AQ) (v:Val):Bool:=match Fa false Gr 0 l with | .ok (u,r,k)=>decide (u=v)&&decide (r=[]) && !k | .error _=>false
def mK (l:List AQ) (e:Int):Bool:=match Fa false Gr 0 l with | .ok _=>false | .error e'=>decide (e'=e)
variable {l:List AQ}
theorem Sl (h:su l v=true):Fa false Gr 0 l = .ok (v,[],false):=by
 unfold su at h
 cases hr:Fa false Gr 0 l with
 | error e=>rw[hr] at h;cases h
 | ok p =>
  obtain ⟨u,r,k⟩:=p;rw[hr] at h;simp only[AAJ,AAd,Bool.not_eq_true'] at h;rw[h.1.1,h.1.2,h.2]
theorem Pg {e:Int} (h:mK l e=true):Fa false Gr 0 l = .error e:=by
 unfold mK at h
 cases hr:Fa false Gr 0 l with
 | error e'=>rw[hr] at h;rw[AAu h]
 | ok p=>rw[hr] at h;cases h
theorem tJ:Fa false Gr 0 (E9 nU) = .ok (KJ,[],false):=Sl (by decide +kernel)
theorem tH:Fa false Gr 0 (E9 nT) = .error 2:=Pg (by decide +kernel)
theorem tF:Fa false Gr 0 (E9 nS) = .error 4:=Pg (by decide +kernel)
theorem sw:Fa false Gr 0 (E9 nR) = .ok (yU,[],false):=Sl (by decide +kernel)
theorem WY:BH Gr false 0 KJ=true:=Q5 ⟨8,by decide +kernel⟩
theorem jT:BH Gr false 0 mM=true:=Q5 ⟨8,by decide +kernel⟩
theorem jU:BH Gr false 0 yU=false:=by
 cases h:BH Gr false 0 yU with
 | false=>rfl
 | true =>
  obtain ⟨n,h⟩:=Ho h;obtain ⟨_,_,_,hf⟩:=DL h;obtain ⟨_,_,g⟩:=pJ (show (AB Gr 0).kind=5 from rfl) hf;have g0:AU Gr false n 1 (Mw 10)=true:=g 0 (by decide) (by decide)
  cases n with
  | zero=>cases g0
  | succ n =>
   obtain ⟨_,_,_,hf⟩:=DL g0;have:=(uY (show (AB Gr 1).kind=2 from rfl) hf).2;exact absurd this (by decide)
theorem tQ:Bd false Gr 0 nU=(KJ,0):=by
 unfold Bd;rw[Pd (by decide),Pd (by decide),jR]
 simp only;rw[tJ];simp only;rw[Pd (by simp),Pd (by rw[WY];simp)]
theorem tO:Bd false Gr 0 nT=(zeroV,2):=by
 unfold Bd;rw[Pd (by decide),Pd (by decide),jQ]
 simp only;rw[tH]
theorem tN:Bd false Gr 0 nS=(zeroV,4):=by
 unfold Bd;rw[Pd (by decide),Pd (by decide),jP]
 simp only;rw[tF]
theorem tK:Bd false Gr 0 nR=(zeroV,1):=by
 unfold Bd;rw[Pd (by decide),Pd (by decide),jO]
 simp only;rw[sw];simp only;rw[Pd (by simp),AAG (Or.inr jU)]
theorem oI:VG Gr 0 mM=yN:=by
 unfold VG
 decide +kernel
theorem ah:BH Gr false 0 mM=true/\VG Gr 0 mM=yN:=⟨jT,oI⟩
theorem WX:GJ Gr 0 KJ [3,0]=(⟨#[46,121,91,48,93]⟩,0):=by
 unfold GJ;rw[Pd (by rw[WY];simp)]
 have h:(CO Gr 0 KJ [3,0]).isSome=true:=by decide +kernel
 have h2:BL Gr 0 [3,0]=⟨#[46,121,91,48,93]⟩:=by decide +kernel
 cases hc:CO Gr 0 KJ [3,0] with
 | none=>rw[hc] at h;cases h
 | some p=>simp only;rw[h2]
abbrev Pn (b:Nat):Obj := .cells #[.pointer (some ⟨b,5,none⟩),.pointer (some ⟨b,6,none⟩)] 185
abbrev Val.LC (x:Val) (A1:zo) (c1:Nat) (A2:zo) (c2:Nat) (A3:zo) (c3:Nat):Obj:=x.box A1 c1 A2 c2 A3 c3
def Dn (B:Nat) (wk wr:World):Prop:=wk.heap.size<=wr.heap.size/\∀q,B<=q->q<wk.heap.size->wr.heap[q]? = wk.heap[q]?
theorem Dn.refl (B:Nat) (w:World):Dn B w w:=⟨AAH _,fun _ _ _=>rfl⟩
variable {B:Nat} {wk wr:World}
theorem Dn.below (h:Dn B wk wr) (hb:Below wr.heap.size wr w'):Dn B wk w' :=
 ⟨Nat.le_trans h.1 hb.size,fun q h1 h2=>(hb.block q (AAq h2 h.1)).trans (h.2 q h1 h2)⟩
theorem Dn.cell (h:Dn B wk wr) (hg:g<B\/wk.heap.size<=g) (o:Nat) (v:Value):Dn B wk (wr.setCell ⟨g,o,none⟩ v) :=
 ⟨by simpa using h.1,fun q h1 h2=>by rw[AAF wr ⟨g,o,none⟩ q v (by simp only[ne_eq];omega)];exact h.2 q h1 h2⟩
theorem Dn.cells (h:Dn B wk wr) (hg:g<B\/wk.heap.size<=g) (o:Nat) (vs:List Value):Dn B wk (wr.setCells g o vs) :=
 ⟨by rw[size_setCells];exact h.1,fun q h1 h2=>by rw[zN (by omega)];exact h.2 q h1 h2⟩
theorem Dn.off (h:Dn B wk wr) {P:World->Prop} (ho:Off (· < B) wk P):Off (· < B) wr P :=
 ho.step h.1 fun q hq hl=>h.2 q (by omega) hl
theorem Dn.mono {w0:World} (h:Dn B wk wr) (h0:Dn B w0 wk):Dn B w0 wr :=
 ⟨Nat.le_trans h0.1 h.1,fun q h1 h2=>(h.2 q h1 (AAq h2 h0.1)).trans (h0.2 q h1 h2)⟩
variable {i:Nat}
theorem BP.reH {α:Type} {E:Nat} {at_:World->α->List Value->Prop} {base H3 H H':Nat} {l:List α} (h:BP E k at_ wr base H3 H A c l i) (hi:l.length<=i):BP E k at_ wr base H3 H' A c l i:=by
 obtain ⟨css,h1,h2,h3,h4,h5⟩:=h;refine ⟨css,h1,h2,h3,h4,fun m x cs hx hc=>⟨(h5 m x cs hx hc).1,fun hm=>?_⟩⟩
 have:=(AAi.1 hx).1
 omega
structure Ov (x:Val) (w:World) (P:Nat) (K1:zo) (k1:Nat) (I1:zo) (i1:Nat) (R1:zo) (r1:Nat) (wr:World):Prop where
 box:wr.heap[w.heap.size]? = some (x.box K1 k1 I1 i1 R1 r1)
 res:wr.heap[w.heap.size+1]? = some Em
 Bb:Below w.heap.size w wr
 ptr:wr.heap[P]? = some (Pn w.heap.size)
 hi:w.heap.size+2<=P
section
variable {x:Val} {w wr w':World} {P:Nat} {K1:zo} {k1:Nat} {I1:zo} {i1:Nat} {R1:zo} {r1:Nat}
theorem Ov.below (h:Ov x w P K1 k1 I1 i1 R1 r1 wr) (hb:Below wr.heap.size wr w'):Ov x w P K1 k1 I1 i1 R1 r1 w' :=
 ⟨zE h.box hb,zE h.res hb,zB h.Bb hb,zE h.ptr hb,h.hi⟩
theorem Ov.other (h:Ov x w P K1 k1 I1 i1 R1 r1 wr) {g:Nat} (hg:w.heap.size+2<=g) (hp:g≠P) (o:Nat) (vs:List Value):Ov x w P K1 k1 I1 i1 R1 r1 (wr.setCells g o vs) :=
 ⟨by rw[zN (by omega)];exact h.box,by rw[zN (by omega)];exact h.res,yC g (by omega) _ _ _ h.Bb,by rw[zN (Ne.symm hp)];exact h.ptr,h.hi⟩
theorem Ov.lt (h:Ov x w P K1 k1 I1 i1 R1 r1 wr):P<wr.heap.size:=(zg.1 h.ptr).1
theorem Ov.cells (h:Ov x w P K1 k1 I1 i1 R1 r1 wr):wr.cell? ⟨P,0,none⟩=some (.pointer (some ⟨w.heap.size,5,none⟩))/\wr.cell? ⟨P,1,none⟩=some (.pointer (some ⟨w.heap.size,6,none⟩)) :=
 ⟨by rw[AAE _ _ _ _ _ _ h.ptr];rfl,by rw[AAE _ _ _ _ _ _ h.ptr];rfl⟩
theorem Ov.key (h:Ov x w P K1 k1 I1 i1 R1 r1 wr) (B1:zo) (d1:Nat):Ov x w P B1 d1 I1 i1 R1 r1 (wr.setCell ⟨w.heap.size,5,none⟩ (.slice B1 x.keys.length d1)):=by
 have hp:=h.hi;refine ⟨?_,?_,h.Bb.setCell (p:=⟨w.heap.size,5,none⟩) (AAH _) _,?_,h.hi⟩
 ·rw[AAW _ _ 5 _ _ _ h.box];rfl
 ·rw[AAF _ _ _ _ (by simp)];exact h.res
 ·rw[AAF _ _ _ _ (by simp only[ne_eq];omega)];exact h.ptr
theorem Ov.item (h:Ov x w P K1 k1 I1 i1 R1 r1 wr) (B1:zo) (d1:Nat):Ov x w P K1 k1 B1 d1 R1 r1 (wr.setCell ⟨w.heap.size,6,none⟩ (.slice B1 x.items.length d1)):=by
 have hp:=h.hi;refine ⟨?_,?_,h.Bb.setCell (p:=⟨w.heap.size,6,none⟩) (AAH _) _,?_,h.hi⟩
 ·rw[AAW _ _ 6 _ _ _ h.box];rfl
 ·rw[AAF _ _ _ _ (by simp)];exact h.res
 ·rw[AAF _ _ _ _ (by simp only[ne_eq];omega)];exact h.ptr
end
structure Rw (x:Val) (w:World) (P:Nat) (K1:zo) (k1:Nat) (I1:zo) (i1:Nat) (R1:zo) (r1:Nat) (wk:World) (H3:Nat) (A:zo) (c:Nat) (l:List Val) (i:Nat) (wr:World):Prop where
 bx:Ov x w P K1 k1 I1 i1 R1 r1 wr
 kp:Dn (w.heap.size+2) wk wr
 pk:P<wk.heap.size
 h3:wk.heap.size<=H3
 hi:H3<=wr.heap.size
 row:BP 28 8 (fun u x cs=>Val.At u x cs) wr wk.heap.size H3 w.heap.size A c l i
section
variable {x:Val} {w wk wr w':World} {P:Nat} {K1:zo} {k1:Nat} {I1:zo} {i1:Nat} {R1:zo} {r1:Nat} {H3:Nat} {A:zo} {c:Nat} {l:List Val} {i:Nat}
theorem Rw.below (h:Rw x w P K1 k1 I1 i1 R1 r1 wk H3 A c l i wr) (hb:Below wr.heap.size wr w'):Rw x w P K1 k1 I1 i1 R1 r1 wk H3 A c l i w' :=
 ⟨h.bx.below hb,h.kp.below hb,h.pk,h.h3,Nat.le_trans h.hi hb.size,h.row.below hb⟩
theorem Rw.write (h:Rw x w P K1 k1 I1 i1 R1 r1 wk H3 A c l i wr) (hi:i<l.length) {g:Nat} (hA:A=some ⟨g,0,none⟩) {F1:zo} {f1:Nat} {F2:zo} {f2:Nat} {F3:zo} {f3:Nat} {B:Nat} (hB:H3<=B) (ho:Off (· < B) wr fun u=>Az u l[i] F1 F2 F3) :
  Rw x w P K1 k1 I1 i1 R1 r1 wk H3 A c l (i+1) (wr.setCells g (i * 8) ((l[i]).cs F1 f1 F2 f2 F3 f3)):=by
 have hlt:=h.row.lt (g:=g) (by rw[hA];rfl)
 have hp:=h.pk;have hlo:=h.bx.hi;have hsz:=h.bx.Bb.size;refine ⟨h.bx.other (by omega) (by omega) _ _,h.kp.cells (Or.inr hlt.1) _ _,h.pk,h.h3,by rw[size_setCells];exact h.hi,?_⟩
 have:=h.row.write hi hA (by omega) (by omega) (x:=l[i]) (cs:=(l[i]).cs F1 f1 F2 f2 F3 f3) rfl ((ho.mono fun q _ hq=>by omega).imp fun u hu=>Val.EF.2 ⟨F1,f1,F2,f2,F3,f3,rfl,hu⟩)
 rwa [List.set_getElem_self] at this
theorem Rw.out (h:Rw x w P K1 k1 I1 i1 R1 r1 wk H3 A c l i wr) (hi:l.length<=i) (hl:DU 120 l.length):Off (· < w.heap.size+2) wr fun u=>Co u A l:=by
 have hp:=h.pk;have hlo:=h.bx.hi;have hh:=h.h3;exact (h.row.reH hi).out hi (by omega) (by omega) hl
end
variable {P i1 k1 r1:Nat} {x:Val} {I1 K1 R1:zo}
theorem Rw.start {w5:World} {B1:zo} {d1:Nat} {l:List Val} {o:Nat} (hb:Ov x w P K1 k1 I1 i1 R1 r1 (w5.setCell ⟨w.heap.size,o,none⟩ (.slice B1 l.length d1))) (hpk:P<wk.heap.size) (hw:Below wk.heap.size wk w5) (hk:∀H3,w5.heap.size<=H3->BP 28 8 (fun u x cs=>Val.At u x cs) w5 wk.heap.size H3 w.heap.size B1 d1 l 0):
  Rw x w P K1 k1 I1 i1 R1 r1 wk w5.heap.size B1 d1 l 0 (w5.setCell ⟨w.heap.size,o,none⟩ (.slice B1 l.length d1)):=by
 have hs:=hw.size;have hlo:=hb.hi;refine ⟨hb,((Dn.refl _ wk).below hw).cell (Or.inl (by omega)) _ _,hpk,hs,by simp,(hk _ (AAH _)).YC o _ (by omega) (AAH _) fun e=>?_⟩
 have:=(hk _ (AAH _)).lt e
 omega
theorem Ov.zero (h:Ov x w P K1 k1 I1 i1 R1 r1 wr) (hs:Db x.str) (hk:Off (· < w.heap.size+2) wr fun u=>Co u K1 x.keys) (hi:Off (· < w.heap.size+2) wr fun u=>Co u I1 x.items) (hr:Off (· < w.heap.size+2) wr fun u=>EH u R1 x.rest):
  let W:=wr.setCells (w.heap.size+1) 0 (x.cs K1 k1 I1 i1 R1 r1)
  (W.cell? ⟨w.heap.size+1,0,none⟩=some (.int .i64 x.kind)/\W.cell? ⟨w.heap.size+1,1,none⟩=some (.bool x.bool)/\W.cell? ⟨w.heap.size+1,2,none⟩=some (.int .i64 x.int)/\W.cell? ⟨w.heap.size+1,3,none⟩=some (.string x.str)/\W.cell? ⟨w.heap.size+1,4,none⟩=some (.int .i64 x.id)/\W.cell? ⟨w.heap.size+1,5,none⟩=some (.slice K1 x.keys.length k1)/\W.cell? ⟨w.heap.size+1,6,none⟩=some (.slice I1 x.items.length i1)/\W.cell? ⟨w.heap.size+1,7,none⟩=some (.slice R1 x.rest.length r1)) /\
  (Off (· < w.heap.size) W fun u=>Az u x K1 I1 R1)/\Below w.heap.size w W:=by
 intro W
 have h8:=Jy (World.rangeAt_setCells_same wr (w.heap.size+1) 0 (x.cs K1 k1 I1 i1 R1 r1) (DW h.res));simp only[Nat.zero_add] at h8;refine ⟨h8,?_,yC _ (by omega) _ _ _ h.Bb⟩
 have st:∀ {Q:World->Prop},(Off (· < w.heap.size+2) wr Q)->Off (· < w.heap.size) W Q:=fun hq =>
  (hq.step (w1:=W) (by rw[size_setCells];exact AAH _) fun q hq hl=>zN (by omega) _ _ _).mono fun q _ hq=>by omega
 exact fun u hu=>⟨hs,st hk u hu,st hi u hu,st hr u hu⟩
theorem NC {H3:Nat} {l:List Val} (h:Rw x w P K1 k1 I1 i1 R1 r1 wk H3 A c l i wr) {y:Val} {E1:zo} {e1:Nat} {E2:zo} {e2:Nat} {E3:zo} {e3:Nat} (hb:wr.heap[b]? = some (y.box E1 e1 E2 e2 E3 e3)):
  ((wr.cell? ⟨w.heap.size,5,none⟩=some (.slice K1 x.keys.length k1)/\wr.cell? ⟨w.heap.size,6,none⟩=some (.slice I1 x.items.length i1))/\(wr.cell? ⟨b,0,none⟩=some (.int .i64 y.kind)/\wr.cell? ⟨b,1,none⟩=some (.bool y.bool)/\wr.cell? ⟨b,2,none⟩=some (.int .i64 y.int)/\wr.cell? ⟨b,3,none⟩=some (.string y.str)/\wr.cell? ⟨b,4,none⟩=some (.int .i64 y.id)/\wr.cell? ⟨b,5,none⟩=some (.slice E1 y.keys.length e1)/\wr.cell? ⟨b,6,none⟩=some (.slice E2 y.items.length e2)/\wr.cell? ⟨b,7,none⟩=some (.slice E3 y.rest.length e3)))/\Hid (Rw x w P K1 k1 I1 i1 R1 r1 wk H3 A c l i wr/\wr.heap[b]? = some (y.box E1 e1 E2 e2 E3 e3)):=by
 refine ⟨⟨⟨(LC h.bx.box).1.1.1,(LC h.bx.box).1.1.2.1⟩,?_⟩,h,hb⟩;refine ⟨?_,?_,?_,?_,?_,?_,?_,?_⟩ <;> (rw[AAE _ _ _ _ _ _ hb];rfl)
structure VcS (x:Val) (w:World) (P:Nat) (A1:zo) (c1:Nat) (A2:zo) (c2:Nat) (R1:zo) (r1:Nat) (j:Nat) (K1:zo) (k1:Nat) (I1:zo) (i1:Nat) (wr:World):Prop where
 bx:Ov x w P K1 k1 I1 i1 R1 r1 wr
 rest:Off (· < w.heap.size+2) wr fun u=>EH u R1 x.rest
 k0:j=0->K1=A1/\k1=c1
 kd:1<=j->Off (· < w.heap.size+2) wr fun u=>Co u K1 x.keys
 i0:j<=1->I1=A2/\i1=c2
 id:2<=j->Off (· < w.heap.size+2) wr fun u=>Co u I1 x.items
theorem EO (w:World) (o o2:Obj):((w.alloc o).alloc o2).heap[w.heap.size]? = some o/\((w.alloc o).alloc o2).heap[w.heap.size+1]? = some o2/\((w.alloc o).alloc o2).heap.size=w.heap.size+2:=by
 refine ⟨EP (AAC w o) o2,?_,by simp⟩
 have h:=AAC (w.alloc o) o2
 rwa [show (w.alloc o).heap.size=w.heap.size+1 by simp] at h
theorem sO {W:World} {A1:zo} {c1:Nat} {A2:zo} {c2:Nat} {A3:zo} {c3:Nat} (h:W.heap[b]? = some (v.box A1 c1 A2 c2 A3 c3)):
  W.cell? ⟨b,0,none⟩=some (.int .i64 v.kind)/\W.cell? ⟨b,1,none⟩=some (.bool v.bool)/\W.cell? ⟨b,2,none⟩=some (.int .i64 v.int)/\W.cell? ⟨b,3,none⟩=some (.string v.str)/\W.cell? ⟨b,4,none⟩=some (.int .i64 v.id)/\W.cell? ⟨b,5,none⟩=some (.slice A1 v.keys.length c1)/\W.cell? ⟨b,6,none⟩=some (.slice A2 v.items.length c2)/\W.cell? ⟨b,7,none⟩=some (.slice A3 v.rest.length c3):=by
 refine ⟨?_,?_,?_,?_,?_,?_,?_,?_⟩ <;> (rw[AAE _ _ _ _ _ _ h];rfl)
theorem Zj {W0 w3:World} {A1:zo} {c1:Nat} {A2:zo} {c2:Nat} {A3:zo} {c3:Nat} (h0:W0.heap[w.heap.size]? = some (x.box A1 c1 A2 c2 A3 c3)) (h1:W0.heap[w.heap.size+1]? = some Em) (hz:W0.heap.size=w.heap.size+2) (hb0:Below w.heap.size w W0) (hb:Below W0.heap.size W0 w3) (hr:EH w A3 x.rest) (hk:∀H3,w3.heap.size<=H3->BP 97 2 (fun _ x cs=>Ak.At x cs) w3 W0.heap.size H3 w.heap.size R1 r1 x.rest x.rest.length):
  VcS x w w3.heap.size A1 c1 A2 c2 R1 r1 0 A1 c1 A2 c2 ((w3.setCell ⟨w.heap.size,7,none⟩ (.slice R1 x.rest.length r1)).alloc (Pn w.heap.size)):=by
 have hs:=hb.size;have hbx:=zE h0 hb;have hn:((w3.setCell ⟨w.heap.size,7,none⟩ (.slice R1 x.rest.length r1)).alloc (Pn w.heap.size)).heap[w3.heap.size]? = some (Pn w.heap.size):=by
  have h:=AAC (w3.setCell ⟨w.heap.size,7,none⟩ (.slice R1 x.rest.length r1)) (Pn w.heap.size)
  rwa [show (w3.setCell ⟨w.heap.size,7,none⟩ (.slice R1 x.rest.length r1)).heap.size=w3.heap.size by simp] at h
 refine ⟨⟨?_,?_,?_,hn,by omega⟩,?_,fun _=>⟨rfl,rfl⟩,fun h=>absurd h (by omega),fun _=>⟨rfl,rfl⟩,fun h=>absurd h (by omega)⟩
 ·refine EP ?_ _
  rw[AAW _ _ 7 _ _ _ hbx];rfl
 ·refine EP ?_ _
  rw[AAF _ _ _ _ (by simp)];exact zE h1 hb
 ·exact zB ((zB hb0 hb).setCell (p:=⟨w.heap.size,7,none⟩) (AAH _) _) (zD _ _)
 ·have h:=((hk _ (AAH _)).reH (H':=w.heap.size+2) (AAH _)).out (bytes:=24) (AAH _) (by omega) (by omega) hr.1
  exact (h.step (w1:=w3.setCell ⟨w.heap.size,7,none⟩ (.slice R1 x.rest.length r1)) (by simp) fun q hq _=>AAF _ _ _ _ (by simp only[ne_eq];omega)).alloc _
theorem XZ:∀ (n:Nat) (x:Val),SizeOf.sizeOf x<=n->∀ (A1:zo) (c1:Nat) (A2:zo) (c2:Nat) (A3:zo) (c3:Nat) (w:World),Az w x A1 A2 A3 ->
  Calls Tryz.prog 91 #[x.v A1 c1 A2 c2 A3 c3] w (UW x w):=by
 intro n
 induction n with
 | zero=>intro x hx;exact absurd hx (by obtain ⟨k,b,i,s,d,ks,is,r⟩:=x;simp[Val.mk.sizeOf_spec])
 | succ n ih =>
 intro x hx A1 c1 A2 c2 A3 c3 w hr
 have IH:=zh ih;have HX:=zh hx;have HR:=zh hr;have HB0:=zh (zI w (x.box A1 c1 A2 c2 A3 c3) Em);have BI:=zh (EO w (x.box A1 c1 A2 c2 A3 c3) Em);have hn1:x.keys.length<=1172812402961:=by have:=hr.keys.1;unfold DU at this;omega
 have hn2:x.items.length<=1172812402961:=by have:=hr.items.1;unfold DU at this;omega
 clear ih hx hr
 go_enter Tryz.func91,Tryz.ntmps91
 go_upto_region 1 with fail
 generalize (w.alloc (x.box A1 c1 A2 c2 A3 c3)).alloc Em=W0 at *;have e7:=(LC BI.out.1).1.1.2.2;go_wp2_with fail;refine (pR HR.out.rest HB0).mono ?_;rintro e w3 ⟨R1,r1,rfl,hb1,_,hk1⟩;have QW:=zh (Zj BI.out.1 BI.out.2.1 BI.out.2.2 HB0 hb1 HR.out.rest hk1);obtain ⟨⟨_,_,e7b⟩,_,_,f7⟩:=(LC (zE BI.out.1 hb1)).1
 have HPZ:Hid ((w3.setCell ⟨w.heap.size,7,none⟩ (.slice R1 x.rest.length r1)).heap.size=w3.heap.size):=by show _=_;simp
 clear hb1 hk1 e7 HB0 BI;go_upto_region 3 with fail
 clear e7b f7;generalize (w3.setCell ⟨w.heap.size,7,none⟩ (.slice R1 x.rest.length r1)).alloc (Pn w.heap.size)=W2 at *;try rw[HPZ.out]
 generalize w3.heap.size=P at *
 go_loopw [15] (fun s wr=>∃ (j:Nat) (K1:zo) (k1:Nat) (I1:zo) (i1:Nat),j<=2/\s = .int .i64 j/\Hid (VcS x w P A1 c1 A2 c2 R1 r1 j K1 k1 I1 i1 wr)) (fun s _=>2 - (intOf s).toNat)
 case atStart=>exact ⟨0,A1,c1,A2,c2,by omega,rfl,QW.out⟩
 case round =>
  obtain ⟨j,K1,k1,I1,i1,hj,rfl,hh⟩:=hrel;obtain ⟨wk,rfl⟩:∃wk:World,wk=wr:=⟨_,rfl⟩;have HJ:j=0\/j=1\/j=2:=by omega
  have HST:=zh hh.out;have UZ:=zh hh.out.rest;have HB:=zh hh.out.bx;obtain ⟨p0,p1⟩:=hh.out.bx.cells;have hpl:=hh.out.bx.lt;obtain ⟨e5,e6,e7⟩:=(LC hh.out.bx.box).1.1;clear hh hj
  rcases HJ with rfl|rfl|rfl
  ·obtain ⟨rfl,rfl⟩:=HST.out.k0 (by omega)
   obtain ⟨rfl,rfl⟩:=HST.out.i0 (by omega)
   have HPK:=zh hpl;have h1:(0:Int)<=((0:Nat):Int):=by omega
   have h2:((0:Nat):Int)<2:=by omega
   go_wp2_with fail
   refine (dN HR.out.keys HB.out.Bb).mono ?_;rintro e w5 ⟨B1,d1,rfl,hb1,_,hk1⟩;obtain ⟨_,f5,f6,_⟩:=(LC (zE HB.out.box hb1)).1;have vR:=zh ((HB.out.below hb1).key B1 d1);have fD:=zh (Rw.start vR HPK hb1 hk1);have HKP:Hid (∀wr,Dn (w.heap.size+2) wk wr->(Off (· < w.heap.size+2) wr fun u=>EH u R1 x.rest)):=fun wr hkp=>hkp.off UZ
   have e5b:=(LC (zE HB.out.box hb1)).1.1.1;have e6b:=(LC (zE HB.out.box hb1)).1.1.2.1;clear p0 p1 hpl e5 e6 e7 UZ hb1 hk1 HST HB;go_upto_region 6 with fail
   clear e5b e6b f5 f6;generalize w5.heap.size=H3 at *;generalize w5.setCell ⟨w.heap.size,5,none⟩ (.slice B1 x.keys.length d1)=W5 at *;have e5:W5.cell? ⟨w.heap.size,5,none⟩=some (.slice B1 x.keys.length d1):=(LC vR.out.box).1.1.1;go_wp2;clear e5
   go_loopw [29] (fun s wr=>∃i:Nat,i<=x.keys.length/\s = .int .i64 i/\Hid (Rw x w P B1 d1 I1 i1 R1 r1 wk H3 B1 d1 x.keys i wr)) (fun s _=>x.keys.length - (intOf s).toNat)
   case atStart=>exact ⟨0,by omega,rfl,fD.out⟩
   case round =>
    obtain ⟨i,hi,rfl,hh⟩:=hrel;obtain ⟨wo,rfl⟩:∃wo:World,wo=wr:=⟨_,rfl⟩
    by_cases hlt:i<x.keys.length
    ·obtain ⟨g,cs,rfl,hg0,hg1,_,hoff,hrg,_⟩:=hh.out.row.next hlt
     obtain ⟨E1,e1,E2,e2,E3,e3,rfl,Yi⟩:=Val.EF.1 hoff.out;have FR:=zh (Nat.le_of_lt_succ (AAq (Val.Xq (AAK hlt)) HX));obtain ⟨a0,a1,a2,a3,a4,a5,a6,a7⟩:=Jy hrg;have hz1:=zL a0;simp only at hz1;have h1:(0:Int)<=(i:Int):=by omega
     have h2:(i:Int)<(x.keys.length:Int):=by omega
     have fE:=zh (hh.out.below (zD wo ((x.keys[i]).box E1 e1 E2 e2 E3 e3)));have HXB:=zh (AAC wo ((x.keys[i]).box E1 e1 E2 e2 E3 e3));have HVV:=zh (Yi.below (zD wo ((x.keys[i]).box E1 e1 E2 e2 E3 e3)));clear hg0 hg1 hoff Yi hrg;go_upto_region 9 with fail
     generalize wo.alloc ((x.keys[i]).box E1 e1 E2 e2 E3 e3)=wc at *;clear a0 a1 a2 a3 a4 a5 a6 a7
     refine yE (S:=(fun w'=>((w'.cell? ⟨w.heap.size,5,none⟩=some (.slice (some ⟨g,0,none⟩) x.keys.length d1)/\w'.cell? ⟨w.heap.size,6,none⟩=some (.slice I1 x.items.length i1))/\(w'.cell? ⟨wo.heap.size,0,none⟩=some (.int .i64 (x.keys[i]).kind)/\w'.cell? ⟨wo.heap.size,1,none⟩=some (.bool (x.keys[i]).bool)/\w'.cell? ⟨wo.heap.size,2,none⟩=some (.int .i64 (x.keys[i]).int)/\w'.cell? ⟨wo.heap.size,3,none⟩=some (.string (x.keys[i]).str)/\w'.cell? ⟨wo.heap.size,4,none⟩=some (.int .i64 (x.keys[i]).id)/\w'.cell? ⟨wo.heap.size,5,none⟩=some (.slice E1 (x.keys[i]).keys.length e1)/\w'.cell? ⟨wo.heap.size,6,none⟩=some (.slice E2 (x.keys[i]).items.length e2)/\w'.cell? ⟨wo.heap.size,7,none⟩=some (.slice E3 (x.keys[i]).rest.length e3)))/\Hid (Rw x w P (some ⟨g,0,none⟩) d1 I1 i1 R1 r1 wk H3 (some ⟨g,0,none⟩) d1 x.keys i w'/\w'.heap[wo.heap.size]? = some ((x.keys[i]).box E1 e1 E2 e2 E3 e3)))) 7 (by kernel_rfl) ?_ (fun AO=>?_)
     ·(try dsimp only);exact NC (fE.out.below (zC (Pe _ _) 1)) HXB
     refine tC 0 ?_;refine tC 1 ?_;refine tB 2 ?_;refine tC 3 ?_;refine tB 4 ?_;refine tS 5 (fun K hK=>?_)
     go_simp
     (refine (IH.out x.keys[i] FR.out E1 e1 E2 e2 E3 e3 _ (HVV.out.below (zC (Pe _ _) 1))).mono ?_;rintro e w6 ⟨F1,f1,F2,f2,F3,f3,rfl,hoff,hb6⟩;have qc:=zh hoff;have R4:=zh (AO.2.out.1.hi);clear hoff)
     refine hK.out _ _ ?_ (fun AO=>?_)
     ·(try dsimp only);exact NC (AO.2.out.1.below hb6) ((hb6.block _ (zg.1 AO.2.out.2).1).trans AO.2.out.2)
     clear hK K;try simp only[ps]
     refine tC 6 ?_;refine zV (rs:=[7]) (by kernel_rfl) (by simp) ?_
     refine AJ.last rfl (by kernel_rfl) (fun K hK=>?_) AJ.nil
     (have HH6:=zh AO.2.out.1;simp only[List.getElem_toArray,List.getElem_cons_zero,List.getElem_cons_succ];rw[AAG (by rfl)];refine wp_store_mid 28 (.tmp 40) (.tmp 39) rfl (g) (i * 8) (#[.int .i64 (x.keys[i]).kind,.bool (x.keys[i]).bool,.int .i64 (x.keys[i]).int,.string (x.keys[i]).str,.int .i64 (x.keys[i]).id,.slice F1 (x.keys[i]).keys.length f1,.slice F2 (x.keys[i]).items.length f2,.slice F3 (x.keys[i]).rest.length f3]) (by rfl) (by rfl) ?_ ?_ ?_ ?_;(exact AO.2.out.1.row.there hlt rfl);(exact zW);(exact val_one _ _ _ _ _ _ _))
     refine hK.out _ _ ?_;clear hK K
     (try clear AO)
     refine wpAny_done (by kernel_rfl) ?_ _
     have HN:=zh (HH6.out.write hlt rfl R4 qc (f1:=f1) (f2:=f2) (f3:=f3));clear AO;go_wp2;go_roundw
     case rel=>exact ⟨i+1,by omega,by go_num,HN.out⟩
     case measure=>simp[intOf];omega
    ·obtain rfl:i=x.keys.length:=by omega
     have qb:=zh (hh.out.out (AAH _) HR.out.keys.1);have lg:=zh (HKP.out _ hh.out.kp);have GX:=zh hh.out.bx;clear hh;go_wp2;go_roundw
     case rel=>exact ⟨0+1,B1,d1,I1,i1,by omega,by go_num,GX.out,lg.out,fun h=>absurd h (by omega),fun _=>qb.out,fun _=>⟨rfl,rfl⟩,fun h=>absurd h (by omega)⟩
     case measure=>simp[intOf]
  ·obtain ⟨rfl,rfl⟩:=HST.out.i0 (by omega)
   have sK:=zh (HST.out.kd (by omega))
   have HPK:=zh hpl;have h1:(0:Int)<=((1:Nat):Int):=by omega
   have h2:((1:Nat):Int)<2:=by omega
   go_wp2_with fail
   refine (dN HR.out.items HB.out.Bb).mono ?_;rintro e w5 ⟨B1,d1,rfl,hb1,_,hk1⟩;obtain ⟨_,f5,f6,_⟩:=(LC (zE HB.out.box hb1)).1;have vR:=zh ((HB.out.below hb1).item B1 d1);have fD:=zh (Rw.start vR HPK hb1 hk1)
   have HKP:Hid (∀wr,Dn (w.heap.size+2) wk wr->(Off (· < w.heap.size+2) wr fun u=>EH u R1 x.rest)/\Off (· < w.heap.size+2) wr fun u=>Co u K1 x.keys):=fun wr hkp=>⟨hkp.off UZ,hkp.off sK⟩
   have e5b:=(LC (zE HB.out.box hb1)).1.1.1;have e6b:=(LC (zE HB.out.box hb1)).1.1.2.1;clear p0 p1 hpl e5 e6 e7 UZ hb1 hk1 HST HB;go_upto_region 6 with fail
   clear e5b e6b f5 f6;generalize w5.heap.size=H3 at *;generalize w5.setCell ⟨w.heap.size,6,none⟩ (.slice B1 x.items.length d1)=W5 at *;have e5:W5.cell? ⟨w.heap.size,6,none⟩=some (.slice B1 x.items.length d1):=(LC vR.out.box).1.1.2.1;go_wp2;clear e5
   go_loopw [29] (fun s wr=>∃i:Nat,i<=x.items.length/\s = .int .i64 i/\Hid (Rw x w P K1 k1 B1 d1 R1 r1 wk H3 B1 d1 x.items i wr)) (fun s _=>x.items.length - (intOf s).toNat)
   case atStart=>exact ⟨0,by omega,rfl,fD.out⟩
   case round =>
    obtain ⟨i,hi,rfl,hh⟩:=hrel;obtain ⟨wo,rfl⟩:∃wo:World,wo=wr:=⟨_,rfl⟩
    by_cases hlt:i<x.items.length
    ·obtain ⟨g,cs,rfl,hg0,hg1,_,hoff,hrg,_⟩:=hh.out.row.next hlt
     obtain ⟨E1,e1,E2,e2,E3,e3,rfl,Yi⟩:=Val.EF.1 hoff.out;have FR:=zh (Nat.le_of_lt_succ (AAq (Val.Um (AAK hlt)) HX));obtain ⟨a0,a1,a2,a3,a4,a5,a6,a7⟩:=Jy hrg;have hz1:=zL a0;simp only at hz1;have h1:(0:Int)<=(i:Int):=by omega
     have h2:(i:Int)<(x.items.length:Int):=by omega
     have fE:=zh (hh.out.below (zD wo ((x.items[i]).box E1 e1 E2 e2 E3 e3)));have HXB:=zh (AAC wo ((x.items[i]).box E1 e1 E2 e2 E3 e3));have HVV:=zh (Yi.below (zD wo ((x.items[i]).box E1 e1 E2 e2 E3 e3)));clear hg0 hg1 hoff Yi hrg;go_upto_region 9 with fail
     generalize wo.alloc ((x.items[i]).box E1 e1 E2 e2 E3 e3)=wc at *;clear a0 a1 a2 a3 a4 a5 a6 a7
     refine yE (S:=(fun w'=>((w'.cell? ⟨w.heap.size,5,none⟩=some (.slice K1 x.keys.length k1)/\w'.cell? ⟨w.heap.size,6,none⟩=some (.slice (some ⟨g,0,none⟩) x.items.length d1))/\(w'.cell? ⟨wo.heap.size,0,none⟩=some (.int .i64 (x.items[i]).kind)/\w'.cell? ⟨wo.heap.size,1,none⟩=some (.bool (x.items[i]).bool)/\w'.cell? ⟨wo.heap.size,2,none⟩=some (.int .i64 (x.items[i]).int)/\w'.cell? ⟨wo.heap.size,3,none⟩=some (.string (x.items[i]).str)/\w'.cell? ⟨wo.heap.size,4,none⟩=some (.int .i64 (x.items[i]).id)/\w'.cell? ⟨wo.heap.size,5,none⟩=some (.slice E1 (x.items[i]).keys.length e1)/\w'.cell? ⟨wo.heap.size,6,none⟩=some (.slice E2 (x.items[i]).items.length e2)/\w'.cell? ⟨wo.heap.size,7,none⟩=some (.slice E3 (x.items[i]).rest.length e3)))/\Hid (Rw x w P K1 k1 (some ⟨g,0,none⟩) d1 R1 r1 wk H3 (some ⟨g,0,none⟩) d1 x.items i w'/\w'.heap[wo.heap.size]? = some ((x.items[i]).box E1 e1 E2 e2 E3 e3)))) 7 (by kernel_rfl) ?_ (fun AO=>?_)
     ·(try dsimp only);exact NC (fE.out.below (zC (Pe _ _) 1)) HXB
     refine tC 0 ?_;refine tC 1 ?_;refine tB 2 ?_;refine tC 3 ?_;try simp only[ps]
     refine tB 4 ?_;refine tS 5 (fun K hK=>?_)
     go_simp
     (refine (IH.out x.items[i] FR.out E1 e1 E2 e2 E3 e3 _ (HVV.out.below (zC (Pe _ _) 1))).mono ?_;rintro e w6 ⟨F1,f1,F2,f2,F3,f3,rfl,hoff,hb6⟩;have qc:=zh hoff;have R4:=zh (AO.2.out.1.hi);clear hoff)
     refine hK.out _ _ ?_ (fun AO=>?_)
     ·(try dsimp only);exact NC (AO.2.out.1.below hb6) ((hb6.block _ (zg.1 AO.2.out.2).1).trans AO.2.out.2)
     clear hK K;refine tC 6 ?_;refine zV (rs:=[7]) (by kernel_rfl) (by simp) ?_
     refine AJ.last rfl (by kernel_rfl) (fun K hK=>?_) AJ.nil
     (have HH6:=zh AO.2.out.1;simp only[List.getElem_toArray,List.getElem_cons_zero,List.getElem_cons_succ];rw[AAG (by rfl)];refine wp_store_mid 28 (.tmp 40) (.tmp 39) rfl (g) (i * 8) (#[.int .i64 (x.items[i]).kind,.bool (x.items[i]).bool,.int .i64 (x.items[i]).int,.string (x.items[i]).str,.int .i64 (x.items[i]).id,.slice F1 (x.items[i]).keys.length f1,.slice F2 (x.items[i]).items.length f2,.slice F3 (x.items[i]).rest.length f3]) (by rfl) (by rfl) ?_ ?_ ?_ ?_;(exact AO.2.out.1.row.there hlt rfl);(exact zW);(exact val_one _ _ _ _ _ _ _))
     refine hK.out _ _ ?_;clear hK K
     (try clear AO)
     refine wpAny_done (by kernel_rfl) ?_ _
     have HN:=zh (HH6.out.write hlt rfl R4 qc (f1:=f1) (f2:=f2) (f3:=f3));clear AO;go_wp2;go_roundw
     case rel=>exact ⟨i+1,by omega,by go_num,HN.out⟩
     case measure=>simp[intOf];omega
    ·obtain rfl:i=x.items.length:=by omega
     have qb:=zh (hh.out.out (AAH _) HR.out.items.1);have lg:=zh (HKP.out _ hh.out.kp);have GX:=zh hh.out.bx;clear hh;go_wp2;go_roundw
     case rel=>exact ⟨1+1,K1,k1,B1,d1,by omega,by go_num,GX.out,lg.out.1,fun h=>absurd h (by omega),fun _=>lg.out.2,fun h=>absurd h (by omega),fun _=>qb.out⟩
     case measure=>simp[intOf]
  ·have HF:=zh (HB.out.zero HR.out.str (HST.out.kd (by omega)) (HST.out.id (by omega)) HST.out.rest)
   have Oy:Hid (wk.there (w.heap.size+1) 0 8):=zh (DW HB.out.res);have q2:¬ (((2:Nat):Int))<2:=by omega
   obtain ⟨v0,v1,v2,v3,v4,v5,v6,v7⟩:=sO HB.out.box;clear p0 p1 hpl e5 e6 e7 UZ
   go_wp2_with (refine wpList_store_mid rfl 28 (.tmp 2) (.tmp 43) rfl (w.heap.size+1) 0 #[.int .i64 x.kind,.bool x.bool,.int .i64 x.int,.string x.str,.int .i64 x.id,.slice K1 x.keys.length k1,.slice I1 x.items.length i1,.slice R1 x.rest.length r1] (by rfl) (by rfl) ?_ ?_ ?_ ?_;(exact Oy.out);(exact zW);(exact val_one x _ _ _ _ _ _))
   obtain ⟨⟨k0,k1',k2,k3,k4,k5,k6,k7⟩,hfin⟩:=HF.out;have xu:=zh hfin;clear hfin;exact bodyPost_ret (v:=x.v K1 k1 I1 i1 R1 r1) (by simp[results,Tryz.results91,go_sem,k0,k1',k2,k3,k4,k5,k6,k7]) rfl ⟨K1,k1,I1,i1,R1,r1,rfl,xu.out.1,xu.out.2⟩
theorem R8 (x:Val) (A1:zo) (c1:Nat) (A2:zo) (c2:Nat) (A3:zo) (c3:Nat) (w:World) (h:Az w x A1 A2 A3):Calls Tryz.prog 91 #[x.v A1 c1 A2 c2 A3 c3] w (UW x w) :=
 XZ _ x (AAH _) A1 c1 A2 c2 A3 c3 w h
def VZ (t:AQ):List Value:=[.int .i64 t.kind,.string t.text,.int .i64 t.int,.string t.str,.int .i64 t.line]
def AQ.At (t:AQ) (cs:List Value):Prop:=(Db t.text/\Db t.str)/\cs=VZ t
def JE (w:World) (A:zo) (l:List AQ):Prop:=Aa 5 56 AQ.At w A l
theorem JE.below (h:JE w A l) (hb:Below w.heap.size w w'):JE w' A l:=Aa.imp h (fun _ _ _ h=>h) hb
theorem JE.Vh (h:JE w A l) (hi:i<l.length):∃b o,A=some ⟨b,o,none⟩/\(Db l[i].text/\Db l[i].str)/\w.rangeAt b (o+i * 5) (VZ l[i]):=by
 obtain ⟨b,o,cs,e,⟨h0,rfl⟩,h2⟩:=Aa.at_ h hi;exact ⟨b,o,e,h0,h2⟩
theorem JE.cells (h:JE w A l) (hi:i<l.length):∃b o,A=some ⟨b,o,none⟩/\(Db l[i].text/\Db l[i].str) /\
  w.cell? ⟨b,o+i * 5,none⟩=some (.int .i64 l[i].kind)/\w.cell? ⟨b,o+i * 5+1,none⟩=some (.string l[i].text)/\w.cell? ⟨b,o+i * 5+2,none⟩=some (.int .i64 l[i].int)/\w.cell? ⟨b,o+i * 5+3,none⟩=some (.string l[i].str)/\w.cell? ⟨b,o+i * 5+4,none⟩=some (.int .i64 l[i].line):=by
 obtain ⟨b,o,e,h0,h2⟩:=h.Vh hi;exact ⟨b,o,e,h0,h2 0 _ rfl,h2 1 _ rfl,h2 2 _ rfl,h2 3 _ rfl,h2 4 _ rfl⟩
abbrev Y9:=Ad 59 5 VZ
theorem dH:Elem 50 59 5 56:=⟨Tryz.underlying50,⟨.agg #[.int .i64 0,.string ⟨#[]⟩,.int .i64 0,.string ⟨#[]⟩,.int .i64 0],by kernel_rfl,rfl⟩,by omega⟩
theorem Y9.toks {base:Nat} {v:Value} (h:Y9 w base v l) (hl:DU 56 l.length) (hs:∀t∈l,Db t.text/\Db t.str):∃A c,v = .slice A l.length c/\JE w A l:=Ad.rows h (fun _=>rfl) hl fun t ht=>⟨hs t ht,rfl⟩
theorem TJ {T E:TypeId} {size bytes:Nat} (hE:Elem T E size bytes) (w:World) (base:Nat) (ty:TypeId) (v:Value) (n:Nat) (xs:List Value) (h:w.ownsRow base E size v n xs) (b o m c:Nat) (news:List Value) (hl:news.length=m * size)
  (hnews:w.rangeAt b o news) (h1:∀u∈news,u.oneCell'=true) (hlen:n+m<=9223372036854775807) (hby:(n+m) * bytes<=140737488355328) (hb:base<=w.heap.size) :
  ∃v' w',(Builtin.append_ #[T,T] ty #[v,.slice (some ⟨b,o,none⟩) m c]).run Tryz.prog w = .ok v' w'/\w'.ownsRow base E size v' (n+m) (xs++news)/\w.grownBy w' v.ownBlock/\(v'.ownBlock=v.ownBlock\/v'.ownBlock=some w.heap.size):=by
 obtain ⟨z,J5,hzs⟩:=hE.info;obtain ⟨i0,hi,hz0,hz1,hz2⟩:=info_parts J5;obtain ⟨v',w',hr,h2,h3,_,h5⟩:=run_append_own_at (P:=Tryz.prog) w base T ty E i0 z size bytes hE.under hi hz0 hz1 hz2 hzs hE.pos v n xs h ⟨b,o,none⟩ m c news hl (fun j u hj=>by rw[Addr.add_mid];exact hnews j u hj) h1 (by unfold maxLen;omega) hby hb
 exact ⟨v',w',hr,h2,h3,h5⟩
theorem yH {T E:TypeId} {size bytes:Nat} (hE:Elem T E size bytes) {ops:Array Oper} {op:Oper} {a:Act} {K:Act->World->Prop} {Q:Exit->Act->World->Prop} {El:Prop} (hgd:op.guard=none) (s x:Operand) (ho:op.op = .call { callee := .builtin .append,args:=#[s,x],argTypes:=#[T,T] }) (base:Nat) (v:Value) (n:Nat) (xs:List Value) (hs:a.eval s=v) (h:w.ownsRow base E size v n xs) (b o m c:Nat) (news:List Value) (hx:a.eval x = .slice (some ⟨b,o,none⟩) m c) (hl:news.length=m * size) (hnews:w.rangeAt b o news) (h1:∀u∈news,u.oneCell'=true) (hlen:n+m<=9223372036854775807) (hby:(n+m) * bytes<=140737488355328) (hb:base<=w.heap.size) (hk:∀v' w',w'.ownsRow base E size v' (n+m) (xs++news)->w.grownBy w' v.ownBlock->(v'.ownBlock=v.ownBlock\/v'.ownBlock=some w.heap.size)->K (a.put op.dst v') w'):if Region.wanted op (yielded ops a.tmps)=true then Oper.wp Tryz.prog op a w K Q else El:=by
 have hw:Region.wanted op (yielded ops a.tmps)=true:=by simp[Region.wanted,hgd]
 rw[AAG hw];obtain ⟨v',w',hr,h2,h3,h5⟩:=TJ hE w base op.type v n xs h b o m c news hl hnews h1 hlen hby hb;unfold Oper.wp execOp;simp only[ho,resolve,invoke,builtin,Sem.run_bind,Sem.run_pure,Result.andThen_ok,List.map_toArray,AA4,List.map_nil,hs,hx,hr];exact hk v' w' h2 h3 h5
theorem Off.grow {S S':Nat->Prop} {w1:World} {P:World->Prop} (h:Off S w P) (hs:∀q,q<w.heap.size->S' q->S q) (hk:∀q,q<w.heap.size->¬ S q->w1.heap[q]? = w.heap[q]?) (hz:w.heap.size<=w1.heap.size):Off S' w1 P :=
 fun w' hw=>h w' fun q hq hl=>(hw q (fun h'=>hq (hs q hl h')) (by omega)).trans (hk q hl hq)
theorem BR {o:Obj} (h:w.heap[g]? = some o) (hb:Below w.heap.size w w'):w'.heap[g]? = some o:=(hb.block _ (zg.1 h).1).trans h
end Go.Proofs.YthkkllmmbefedaaGreatDoor



