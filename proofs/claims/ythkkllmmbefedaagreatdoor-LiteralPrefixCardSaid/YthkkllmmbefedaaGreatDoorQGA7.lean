/-
  append onto an own row, and where it is then; what is held off more blocks.
-/
import Derived.Test.YthkkllmmbefedaaGreatDoorQGA6
import Derived.Lib.MinMax
namespace Go.Proofs.YthkkllmmbefedaaGreatDoor
open Go.RowKit Tryz
set_option maxHeartbeats 16000000
set_option maxRecDepth 100000
variable {g:Nat} {w w':World}
theorem zE {o:Obj} (h:w.heap[g]? = some o) (hb:Below w.heap.size w w'):w'.heap[g]? = some o:=(hb.block _ (zg.1 h).1).trans h
variable {b:Nat}
theorem zG {W:World} {t:Aa} {As:zo} {cs:Nat} {Am:zo} {cm:Nat} (h:Ca W b t As cs Am cm):
  W.cell? ⟨b,0,none⟩=some (.int .i64 t.kind)/\W.cell? ⟨b,1,none⟩=some (.string t.name)/\W.cell? ⟨b,2,none⟩=some (.int .i64 t.low)/\W.cell? ⟨b,3,none⟩=some (.int .i64 t.high)/\W.cell? ⟨b,4,none⟩=some (.int .i64 t.max)/\W.cell? ⟨b,5,none⟩=some (.slice As t.AX.length cs)/\W.cell? ⟨b,6,none⟩=some (.slice Am t.AA.length cm)/\W.cell? ⟨b,7,none⟩=some (.int .i64 t.key)/\W.cell? ⟨b,8,none⟩=some (.int .i64 t.elem)/\W.cell? ⟨b,9,none⟩=some (.bool t.open_) :=
 ⟨h.cell 0,h.cell 1,h.cell 2,h.cell 3,h.cell 4,h.cell 5,h.cell 6,h.cell 7,h.cell 8,h.cell 9⟩
theorem Ju (n:Int) (w:World):Calls prog 97 #[.int .i64 n] w fun e w'=>e = .returned (.bool (BD n))/\w'=w:=by
 by_cases h1:1<=n
 ·have q1:(1:Int)<=n:=h1
  have HD:Hid (BD n=decide (n<=1000)):=by show _=_;unfold BD;simp[h1]
  clear h1
  go_enter func97,ntmps97
  go_wp2
  go_ret
  exact ⟨by rw[HD.O];rfl,rfl⟩
 ·have q1:¬ (1:Int)<=n:=h1
  have HD:Hid (BD n=false):=by show _=_;unfold BD;simp[h1]
  clear h1
  go_enter func97,ntmps97
  go_wp2
  go_ret
  exact ⟨by rw[HD.O];rfl,rfl⟩
theorem Xd (v:Val) (h:1<=v.kind/\v.kind<=9) (A1:zo) (c1:Nat) (A2:zo) (c2:Nat) (A3:zo) (c3:Nat) (w:World) :
  Calls prog 96 #[v.v A1 c1 A2 c2 A3 c3] w fun e w'=>e = .returned (.bool (zJ v))/\Below w.heap.size w w':=by
 have HBA:=zh (fun w=>mK v h A1 c1 A2 c2 A3 c3 w)
 have HB0:=zh (zD w (v.box A1 c1 A2 c2 A3 c3));have HX0:=zh (AAA w (v.box A1 c1 A2 c2 A3 c3));have uH:Hid (zJ v=(decide (v.bool=(Az v).bool)&&decide (v.int=(Az v).int)&&decide (v.str=(Az v).str)&&decide (v.id=(Az v).id)&&decide (v.keys.length=(Az v).keys.length)&&decide (v.items.length=(Az v).items.length)&&decide (v.rest.length=(Az v).rest.length))):=rfl;clear h
 go_enter func96,ntmps96
 go_wp2_with fail
 refine (HBA.O _).mono ?_;rintro e w1 ⟨B1,d1,B2,d2,B3,d3,rfl,hb1⟩;clear HBA;generalize Az v=B at *;have Ei:=zE HX0 hb1;have HB1:=zh (zB HB0 hb1);have hlt:w.heap.size<w1.heap.size:=(zg.1 Ei).1;have x1:w1.cell? ⟨w.heap.size,1,none⟩=some (.bool v.bool):=by rw[AAC _ _ _ _ _ _ Ei];rfl
 have x2:w1.cell? ⟨w.heap.size,2,none⟩=some (.int .i64 v.int):=by rw[AAC _ _ _ _ _ _ Ei];rfl
 have x3:w1.cell? ⟨w.heap.size,3,none⟩=some (.string v.str):=by rw[AAC _ _ _ _ _ _ Ei];rfl
 have x4:w1.cell? ⟨w.heap.size,4,none⟩=some (.int .i64 v.id):=by rw[AAC _ _ _ _ _ _ Ei];rfl
 have x5:w1.cell? ⟨w.heap.size,5,none⟩=some (.slice A1 v.keys.length c1):=by rw[AAC _ _ _ _ _ _ Ei];rfl
 have x6:w1.cell? ⟨w.heap.size,6,none⟩=some (.slice A2 v.items.length c2):=by rw[AAC _ _ _ _ _ _ Ei];rfl
 have x7:w1.cell? ⟨w.heap.size,7,none⟩=some (.slice A3 v.rest.length c3):=by rw[AAC _ _ _ _ _ _ Ei];rfl
 have SC:=zh (fun o=>zB HB1 (zD w1 o))
 clear hb1 Ei
 by_cases q1:v.bool=B.bool
 case neg =>
  have HD:Hid (zJ v=false):=by show _=_;rw[uH.O];simp[q1]
  have e1:(v.bool==B.bool)=false:=by simpa using q1
  clear q1;go_wp2;go_ret;exact ⟨by rw[HD.O];rfl,SC.O _⟩
 have e1:(v.bool==B.bool)=true:=by simpa using q1
 by_cases q2:v.int=B.int
 case neg =>
  have HD:Hid (zJ v=false):=by show _=_;rw[uH.O];simp[q2]
  have e2:(v.int==B.int)=false:=by simpa using q2
  clear q1 q2;go_wp2;go_ret;exact ⟨by rw[HD.O];rfl,SC.O _⟩
 have e2:(v.int==B.int)=true:=by simpa using q2
 by_cases q3:v.str=B.str
 case neg =>
  have HD:Hid (zJ v=false):=by show _=_;rw[uH.O];simp[q3]
  have e3:(v.str.toList==B.str.toList)=false:=by rw[bytes_beq];exact AAP q3
  clear q1 q2 q3;go_wp2;go_ret;exact ⟨by rw[HD.O];rfl,SC.O _⟩
 have e3:(v.str.toList==B.str.toList)=true:=by rw[bytes_beq];exact AAJ q3
 by_cases q4:v.id=B.id
 case neg =>
  have HD:Hid (zJ v=false):=by show _=_;rw[uH.O];simp[q4]
  have e4:(v.id==B.id)=false:=by simpa using q4
  clear q1 q2 q3 q4;go_wp2;go_ret;exact ⟨by rw[HD.O];rfl,SC.O _⟩
 have e4:(v.id==B.id)=true:=by simpa using q4
 by_cases q5:v.keys.length=B.keys.length
 case neg =>
  have HD:Hid (zJ v=false):=by show _=_;rw[uH.O];simp[q5]
  have e5:((v.keys.length:Int)==(B.keys.length:Int))=false:=ABs.2 (by omega)
  clear q1 q2 q3 q4 q5;go_wp2;go_ret;exact ⟨by rw[HD.O];rfl,SC.O _⟩
 have e5:((v.keys.length:Int)==(B.keys.length:Int))=true:=ABz.2 (by omega)
 by_cases q6:v.items.length=B.items.length
 case neg =>
  have HD:Hid (zJ v=false):=by show _=_;rw[uH.O];simp[q6]
  have e6:((v.items.length:Int)==(B.items.length:Int))=false:=ABs.2 (by omega)
  clear q1 q2 q3 q4 q5 q6;go_wp2;go_ret;exact ⟨by rw[HD.O];rfl,SC.O _⟩
 have e6:((v.items.length:Int)==(B.items.length:Int))=true:=ABz.2 (by omega)
 by_cases q7:v.rest.length=B.rest.length
 case neg =>
  have HD:Hid (zJ v=false):=by show _=_;rw[uH.O];simp[q7]
  have e7:((v.rest.length:Int)==(B.rest.length:Int))=false:=ABs.2 (by omega)
  clear q1 q2 q3 q4 q5 q6 q7;go_wp2;go_ret;exact ⟨by rw[HD.O];rfl,SC.O _⟩
 have e7:((v.rest.length:Int)==(B.rest.length:Int))=true:=ABz.2 (by omega)
 have HD:Hid (zJ v=true):=by show _=_;rw[uH.O];simp[q1,q2,q3,q4,q5,q6,q7]
 clear q1 q2 q3 q4 q5 q6 q7;go_wp2;go_ret;exact ⟨by rw[HD.O];rfl,SC.O _⟩
def Bt {α:Type} (p:α->Bool):List α->Int
 | [] => -1
 | x::r=>if p x then 0 else if Bt p r<0 then -1 else Bt p r+1
theorem Hf {α:Type} (p:α->Bool):∀l:List α,Bt p l = -1\/(0<=Bt p l/\Bt p l<l.length)
 | [] => .inl rfl
 | x::r=>by
  have h:=Hf p r;unfold Bt
  split
  ·right;simp only[AAI];omega
  ·split
   ·exact .inl rfl
   ·right;simp only[AAI];omega
theorem Ka {α:Type} {p:α->Bool}:∀ (l:List α) (k:Nat) (hk:k<l.length),(∀j (h:j<l.length),j<k->p l[j]=false)->p l[k]=true->Bt p l=(k:Int)
 | [],_,hk,_,_=>by cases hk
 | x::r,0,_,_,h=>by
  have h':p x=true:=h;unfold Bt;rw[AAB h'];rfl
 | x::r,k+1,hk,hn,h=>by
  have hx:p x=false:=hn 0 (by simp) (by omega)
  have ih:=Ka r k (by simpa using hk) (fun j h1 h2=>hn (j+1) (by simpa using h1) (by omega)) h
  unfold Bt;rw[hx,Pd (by simp),ih,Pd (by omega)]
  omega
theorem KZ {α:Type} {p:α->Bool}:∀ (l:List α),(∀j (h:j<l.length),p l[j]=false)->Bt p l = -1
 | [],_=>rfl
 | x::r,hn=>by
  have hx:p x=false:=hn 0 (by simp)
  have ih:=KZ r (fun j h1=>hn (j+1) (by simpa using h1))
  unfold Bt;rw[hx,Pd (by simp),ih]
  rfl
theorem Ui (n:Int) (q:Nat) (y:Bu) (w:World) (hq:w.cell? ⟨q,0,none⟩=some (.int .i64 n)) :
  Calls prog 102 #[.agg #[.int .i64 y.id,.string y.name],.pointer (some ⟨q,0,none⟩)] w fun e w'=>e = .returned (.bool (decide (y.id=n)))/\Below w.heap.size w w':=by
 have hlt:=zL hq;simp only at hlt;have HB:=zh (fun o=>zD w o)
 have HQ:Hid ((y.id==n)=decide (y.id=n)):=rfl
 go_enter func102,ntmps102
 go_wp2
 go_ret
 exact ⟨by first|rfl|(rw[<-HQ.O];rfl),HB.O _⟩
theorem VG (n:Int) (q:Nat) (y:Ac) (A1:zo) (c1:Nat) (A2:zo) (c2:Nat) (A3:zo) (c3:Nat) (w:World) (hq:w.cell? ⟨q,0,none⟩=some (.int .i64 n)) :
  Calls prog 93 #[y.v A1 c1 A2 c2 A3 c3,.pointer (some ⟨q,0,none⟩)] w fun e w'=>e = .returned (.bool (decide (y.id=n)))/\Below w.heap.size w w':=by
 have hlt:=zL hq;simp only at hlt;have HB:=zh (fun o=>zD w o)
 go_enter func93,ntmps93
 go_wp2
 go_ret
 exact ⟨rfl,HB.O _⟩
theorem X3 (n:Int) (q:Nat) (l:List Bu) (A:zo) (c:Nat) (w:World) (hl:J5 w A l) (hq:w.cell? ⟨q,0,none⟩=some (.int .i64 n)) :
  Calls prog 101 #[.slice A l.length c,.func (.func 102) #[] #[.pointer (some ⟨q,0,none⟩)]] w fun e w'=>e = .returned (.int .i64 (Bt (fun y:Bu=>decide (y.id=n)) l))/\Below w.heap.size w w':=by
 have hln:=hl.1.lt (by omega)
 have HL:=zh hl;have HQ:=zh hq;clear hl hq
 go_enter func101,ntmps101
 go_wp2
 go_loopw [8] (fun i wr=>∃k:Nat,k<=l.length/\i = .int .i64 (k:Int)/\Hid ((∀j (h:j<l.length),j<k->decide ((l[j]).id=n)=false)/\Below w.heap.size w wr)) (fun i _=>l.length - (intOf i).toNat)
 case atStart=>exact ⟨0,by omega,rfl,(fun j _ h=>absurd h (by omega)),Pe _ _⟩
 case round =>
  obtain ⟨k,hk,rfl,hh⟩:=hrel
  by_cases hlt:k<l.length
  ·obtain ⟨b,o,rfl,hr1,a0,a1⟩:=(HL.O.below hh.O.2).at2 hlt
   clear hr1;have h1:(0:Int)<=(k:Int):=by omega
   have h2:(k:Int)<(l.length:Int):=by omega
   cases he:decide ((l[k]).id=n) with
   | true =>
    have HD:=zh he;have HI:=zh (Ka (p:=fun y:Bu=>decide (y.id=n)) l k hlt hh.O.1 he)
    clear he;go_wp2_with (go_at_call 102;refine (Ui n q l[k] _ (zA hh.O.2 HQ)).mono ?_;rintro e w2 ⟨rfl,hb2⟩;rw[HD.O]);go_ret;exact ⟨by rw[HI.O];rfl,zB hh.O.2 hb2⟩
   | false =>
    have HD:=zh he;have HN:Hid (∀j (h:j<l.length),j<k+1->decide ((l[j]).id=n)=false):=fun j h hj=>by
     by_cases e:j=k
     ·subst e;exact he
     ·exact hh.O.1 j h (by omega)
    clear he;go_wp2_with (go_at_call 102;refine (Ui n q l[k] _ (zA hh.O.2 HQ)).mono ?_;rintro e w2 ⟨rfl,hb2⟩;rw[HD.O]);go_roundw
    case rel=>exact ⟨k+1,by omega,by go_num,HN.O,zB hh.O.2 hb2⟩
    case measure=>simp[intOf];omega
  ·have HI:=zh (KZ (p:=fun y:Bu=>decide (y.id=n)) l fun j h=>hh.O.1 j h (by omega))
   go_wp2
   go_ret
   exact ⟨by rw[HI.O];rfl,hh.O.2⟩
theorem X4 (n:Int) (q:Nat) (l:List Ac) (A:zo) (c:Nat) (w:World) (hl:GI w A l) (hq:w.cell? ⟨q,0,none⟩=some (.int .i64 n)) :
  Calls prog 92 #[.slice A l.length c,.func (.func 93) #[] #[.pointer (some ⟨q,0,none⟩)]] w fun e w'=>e = .returned (.int .i64 (Bt (fun y:Ac=>decide (y.id=n)) l))/\Below w.heap.size w w':=by
 have hln:=hl.1.lt (by omega)
 have HL:=zh hl;have HQ:=zh hq;clear hl hq
 go_enter func92,ntmps92
 go_wp2
 go_loopw [8] (fun i wr=>∃k:Nat,k<=l.length/\i = .int .i64 (k:Int)/\Hid ((∀j (h:j<l.length),j<k->decide ((l[j]).id=n)=false)/\Below w.heap.size w wr)) (fun i _=>l.length - (intOf i).toNat)
 case atStart=>exact ⟨0,by omega,rfl,(fun j _ h=>absurd h (by omega)),Pe _ _⟩
 case round =>
  obtain ⟨k,hk,rfl,hh⟩:=hrel
  by_cases hlt:k<l.length
  ·obtain ⟨b,o,A1,c1,A2,c2,A3,c3,rfl,hr1,a0,a1,a2,a3,a4,a5,a6,a7,a8,a9,dY,dX,a12⟩:=(HL.O.below hh.O.2).Mk hlt
   clear hr1;have h1:(0:Int)<=(k:Int):=by omega
   have h2:(k:Int)<(l.length:Int):=by omega
   cases he:decide ((l[k]).id=n) with
   | true =>
    have HD:=zh he;have HI:=zh (Ka (p:=fun y:Ac=>decide (y.id=n)) l k hlt hh.O.1 he)
    clear he;go_wp2_with (go_at_call 93;refine (VG n q l[k] A1 c1 A2 c2 A3 c3 _ (zA hh.O.2 HQ)).mono ?_;rintro e w2 ⟨rfl,hb2⟩;rw[HD.O]);go_ret;exact ⟨by rw[HI.O];rfl,zB hh.O.2 hb2⟩
   | false =>
    have HD:=zh he;have HN:Hid (∀j (h:j<l.length),j<k+1->decide ((l[j]).id=n)=false):=fun j h hj=>by
     by_cases e:j=k
     ·subst e;exact he
     ·exact hh.O.1 j h (by omega)
    clear he;go_wp2_with (go_at_call 93;refine (VG n q l[k] A1 c1 A2 c2 A3 c3 _ (zA hh.O.2 HQ)).mono ?_;rintro e w2 ⟨rfl,hb2⟩;rw[HD.O]);go_roundw
    case rel=>exact ⟨k+1,by omega,by go_num,HN.O,zB hh.O.2 hb2⟩
    case measure=>simp[intOf];omega
  ·have HI:=zh (KZ (p:=fun y:Ac=>decide (y.id=n)) l fun j h=>hh.O.1 j h (by omega))
   go_wp2
   go_ret
   exact ⟨by rw[HI.O];rfl,hh.O.2⟩
theorem NK (n:Int) (t:Aa) (As:zo) (cs:Nat) (Am:zo) (cm:Nat) (w:World) (ht:J4 w t As Am) :
  Calls prog 68 #[t.v As cs Am cm,.int .i64 n] w fun e w'=>e = .returned (.tuple #[.int .i64 (if Bt (fun y:Bu=>decide (y.id=n)) t.AX<0 then 0 else Bt (fun y:Bu=>decide (y.id=n)) t.AX),.bool (decide (0<=Bt (fun y:Bu=>decide (y.id=n)) t.AX))])/\Below w.heap.size w w':=by
 have HT:=zh (ht.below (zI w (t.box As cs Am cm) (.cells #[.int .i64 n] 3)));have HB:=zh (zI w (t.box As cs Am cm) (.cells #[.int .i64 n] 3));have HQ:Hid (((w.alloc (t.box As cs Am cm)).alloc (.cells #[.int .i64 n] 3)).cell? ⟨w.heap.size+1,0,none⟩=some (.int .i64 n)):=by
  show _=_
  have:=zR (w.alloc (t.box As cs Am cm)) [.int .i64 n] 3 0 _ rfl;simp
 clear ht;have HI:=Hf (fun y:Bu=>decide (y.id=n)) t.AX
 obtain ⟨r,hre⟩:∃r,Bt (fun y:Bu=>decide (y.id=n)) t.AX=r:=⟨_,rfl⟩
 have HRE:=zh hre;rw[hre] at HI ⊢;clear hre;have hHI:=zh HI;clear HI
 go_enter func68,ntmps68
 go_wp2_with fail
 refine (X3 n (w.heap.size+1) t.AX _ _ _ (HT.O.AX) HQ).mono ?_;rintro e w2 ⟨rfl,hb2⟩;rw[HRE.O];have sN:=zh (zB HB hb2);clear hb2 HRE;have HI:=hHI.O;clear hHI
 by_cases hr:r<0
 ·have HR:Hid ((if r<0 then 0 else r)=0):=AAB hr
  have HR2:Hid (decide (0<=r)=false):=AAP (by omega)
  obtain rfl:r = -1:=by omega
  clear hr HI;have q2:max (-1:Int) 0=0:=by decide
  go_wp2
  go_ret2
  exact ⟨by first|rfl|(rw[HR2.O];rfl)|(rw[HR.O];rfl)|(rw[HR.O,HR2.O];rfl),sN.O⟩
 ·have HR:Hid ((if r<0 then 0 else r)=r):=Pd hr
  have HR2:Hid (decide (0<=r)=true):=AAJ (by omega)
  have q1:(0:Int)<=r:=by omega
  have q2:max r 0=r:=by omega
  clear hr HI;go_wp2;go_ret2;exact ⟨by first|rfl|(rw[HR2.O];rfl)|(rw[HR.O];rfl)|(rw[HR.O,HR2.O];rfl),sN.O⟩
theorem NM (n:Int) (t:Aa) (As:zo) (cs:Nat) (Am:zo) (cm:Nat) (w:World) (ht:J4 w t As Am) :
  Calls prog 58 #[t.v As cs Am cm,.int .i64 n] w fun e w'=>e = .returned (.tuple #[.int .i64 (if Bt (fun y:Ac=>decide (y.id=n)) t.AA<0 then 0 else Bt (fun y:Ac=>decide (y.id=n)) t.AA),.bool (decide (0<=Bt (fun y:Ac=>decide (y.id=n)) t.AA))])/\Below w.heap.size w w':=by
 have HT:=zh (ht.below (zI w (t.box As cs Am cm) (.cells #[.int .i64 n] 3)));have HB:=zh (zI w (t.box As cs Am cm) (.cells #[.int .i64 n] 3));have HQ:Hid (((w.alloc (t.box As cs Am cm)).alloc (.cells #[.int .i64 n] 3)).cell? ⟨w.heap.size+1,0,none⟩=some (.int .i64 n)):=by
  show _=_
  have:=zR (w.alloc (t.box As cs Am cm)) [.int .i64 n] 3 0 _ rfl;simp
 clear ht;have HI:=Hf (fun y:Ac=>decide (y.id=n)) t.AA
 obtain ⟨r,hre⟩:∃r,Bt (fun y:Ac=>decide (y.id=n)) t.AA=r:=⟨_,rfl⟩
 have HRE:=zh hre;rw[hre] at HI ⊢;clear hre;have hHI:=zh HI;clear HI
 go_enter func58,ntmps58
 go_wp2_with fail
 refine (X4 n (w.heap.size+1) t.AA _ _ _ (HT.O.AA) HQ).mono ?_;rintro e w2 ⟨rfl,hb2⟩;rw[HRE.O];have sN:=zh (zB HB hb2);clear hb2 HRE;have HI:=hHI.O;clear hHI
 by_cases hr:r<0
 ·have HR:Hid ((if r<0 then 0 else r)=0):=AAB hr
  have HR2:Hid (decide (0<=r)=false):=AAP (by omega)
  obtain rfl:r = -1:=by omega
  clear hr HI;have q2:max (-1:Int) 0=0:=by decide
  go_wp2
  go_ret2
  exact ⟨by first|rfl|(rw[HR2.O];rfl)|(rw[HR.O];rfl)|(rw[HR.O,HR2.O];rfl),sN.O⟩
 ·have HR:Hid ((if r<0 then 0 else r)=r):=Pd hr
  have HR2:Hid (decide (0<=r)=true):=AAJ (by omega)
  have q1:(0:Int)<=r:=by omega
  have q2:max r 0=r:=by omega
  clear hr HI;go_wp2;go_ret2;exact ⟨by first|rfl|(rw[HR2.O];rfl)|(rw[HR.O];rfl)|(rw[HR.O,HR2.O];rfl),sN.O⟩
def Qf (s:List Aa) (A:zo) (c:Nat) (plain:Bool) (n:Nat):Prop:=∀ (t:Int) (v:Val) (A1:zo) (c1:Nat) (A2:zo) (c2:Nat) (A3:zo) (c3:Nat) (w:World),SizeOf.sizeOf v<=n->DC w A s->Ar w v A1 A2 A3 ->
 Calls prog 65 #[.agg #[.slice A s.length c],.int .i64 t,v.v A1 c1 A2 c2 A3 c3,.bool plain] w fun e w'=>e = .returned (.bool (Ad s plain n t v))/\Below w.heap.size w w'
def Ya (s:List Aa) (A:zo) (c:Nat) (t:Int) (plain:Bool) (p1 p2 p3:Nat) (w:World):Prop :=
 w.cell? ⟨p1,0,none⟩=some (.slice A s.length c)/\w.cell? ⟨p2,0,none⟩=some (.int .i64 t)/\w.cell? ⟨p3,0,none⟩=some (.bool plain)
variable {t:Int} {s:List Aa} {c:Nat} {A:zo}
theorem Ya.below {plain:Bool} {p1 p2 p3:Nat} (h:Ya s A c t plain p1 p2 p3 w) (hb:Below w.heap.size w w'):Ya s A c t plain p1 p2 p3 w':=⟨zA hb h.1,zA hb h.2.1,zA hb h.2.2⟩
section
variable {s:List Aa} {A:zo} {c:Nat} {plain:Bool} {n:Nat}
theorem Ry (hf:Qf s A c plain n) (t:Int) (p1 p2 p3:Nat) (v:Val) (A1:zo) (c1:Nat) (A2:zo) (c2:Nat) (A3:zo) (c3:Nat) (w:World) (hv:SizeOf.sizeOf v<=n) (hs:DC w A s) (hr:Ar w v A1 A2 A3) (hc:Ya s A c t plain p1 p2 p3 w) :
  Calls prog 148 #[v.v A1 c1 A2 c2 A3 c3,.pointer (some ⟨p1,0,none⟩),.pointer (some ⟨p2,0,none⟩),.pointer (some ⟨p3,0,none⟩)] w fun e w'=>e = .returned (.bool (!Ad s plain n t v))/\Below w.heap.size w w':=by
 have HF:=zh hf;have HS:=zh (hs.below (zD w (v.box A1 c1 A2 c2 A3 c3)));have HR:=zh (hr.below (zD w (v.box A1 c1 A2 c2 A3 c3)));have HB:=zh (zD w (v.box A1 c1 A2 c2 A3 c3));obtain ⟨x1,x2,x3⟩:=hc;have l1:=zL x1;have l2:=zL x2;have l3:=zL x3;simp only at l1 l2 l3;clear hf hs hr
 go_enter func148,ntmps148
 go_wp2_with fail
 refine (HF.O t v A1 c1 A2 c2 A3 c3 _ hv HS HR).mono ?_;rintro e w2 ⟨rfl,hb2⟩;have HB2:=zh (zB HB hb2);clear hb2 x1 x2 x3;go_wp2;go_ret;exact ⟨rfl,HB2.O⟩
theorem lD (hf:Qf s A c plain n) (t:Int) (p1 p2 p3:Nat) (l:List Val) (B:zo) (d:Nat) (w:World) (hv:∀y∈l,SizeOf.sizeOf y<=n) (hs:DC w A s) (hl:Cz w B l) (hc:Ya s A c t plain p1 p2 p3 w) :
  Calls prog 171 #[.slice B l.length d,.func (.func 148) #[] #[.pointer (some ⟨p1,0,none⟩),.pointer (some ⟨p2,0,none⟩),.pointer (some ⟨p3,0,none⟩)]] w fun e w'=>e = .returned (.int .i64 (Bt (fun y => !Ad s plain n t y) l))/\Below w.heap.size w w':=by
 have hln:=hl.1.lt (by omega)
 have HL:=zh hl;have HS:=zh hs;have HC:=zh hc;have HF:=zh hf;have HV:=zh hv;clear hl hs hc hf hv
 go_enter func171,ntmps171
 go_wp2
 go_loopw [8] (fun i wr=>∃k:Nat,k<=l.length/\i = .int .i64 (k:Int)/\Hid ((∀j (h:j<l.length),j<k->(!Ad s plain n t l[j])=false)/\Below w.heap.size w wr)) (fun i _=>l.length - (intOf i).toNat)
 case atStart=>exact ⟨0,by omega,rfl,(fun j _ h=>absurd h (by omega)),Pe _ _⟩
 case round =>
  obtain ⟨k,hk,rfl,hh⟩:=hrel
  by_cases hlt:k<l.length
  ·obtain ⟨b,o,A1,c1,A2,c2,A3,c3,rfl,hr1,a0,a1,a2,a3,a4,a5,a6,a7⟩:=(HL.O.below hh.O.2).at8 hlt
   have HR:=zh hr1;have mZ:=zh (HV.O _ (AAL hlt));clear hr1;have h1:(0:Int)<=(k:Int):=by omega
   have h2:(k:Int)<(l.length:Int):=by omega
   cases he:(!Ad s plain n t l[k]) with
   | true =>
    have HD:=zh he;have HI:=zh (Ka (p:=fun y => !Ad s plain n t y) l k hlt hh.O.1 he)
    clear he;go_wp2_with (go_at_call 148;refine (Ry HF t p1 p2 p3 l[k] A1 c1 A2 c2 A3 c3 wr mZ (HS.O.below hh.O.2) HR (HC.O.below hh.O.2)).mono ?_;rintro e w2 ⟨rfl,hb2⟩;rw[HD.O]);go_ret;exact ⟨by rw[HI.O];rfl,zB hh.O.2 hb2⟩
   | false =>
    have HD:=zh he;have HN:Hid (∀j (h:j<l.length),j<k+1->(!Ad s plain n t l[j])=false):=fun j h hj=>by
     by_cases e:j=k
     ·subst e;exact he
     ·exact hh.O.1 j h (by omega)
    clear he;go_wp2_with (go_at_call 148;refine (Ry HF t p1 p2 p3 l[k] A1 c1 A2 c2 A3 c3 wr mZ (HS.O.below hh.O.2) HR (HC.O.below hh.O.2)).mono ?_;rintro e w2 ⟨rfl,hb2⟩;rw[HD.O]);go_roundw
    case rel=>exact ⟨k+1,by omega,by go_num,HN.O,zB hh.O.2 hb2⟩
    case measure=>simp[intOf];omega
  ·have HI:=zh (KZ (p:=fun y => !Ad s plain n t y) l fun j h=>hh.O.1 j h (by omega))
   go_wp2
   go_ret
   exact ⟨by rw[HI.O];rfl,hh.O.2⟩
theorem Fj {α:Type} {p:α->Bool}:∀l:List α,decide (0<=Bt p l)=l.any p
 | []=>rfl
 | x::r=>by
  have ih:=Fj (p:=p) r;have h:=Hf p r;unfold Bt;rw[List.any_cons,<-ih]
  cases hx:p x with
  | true=>simp
  | false =>
   rw[Pd (by simp),Bool.false_or]
   split
   ·rename_i h1
    rw[decide_eq_decide];omega
   ·rw[decide_eq_decide];omega
theorem dM (hf:Qf s A c plain n) (t:Int) (p1 p2 p3:Nat) (l:List Val) (B:zo) (d:Nat) (w:World) (hv:∀y∈l,SizeOf.sizeOf y<=n) (hs:DC w A s) (hl:Cz w B l) (hc:Ya s A c t plain p1 p2 p3 w) :
  Calls prog 147 #[.slice B l.length d,.func (.func 148) #[] #[.pointer (some ⟨p1,0,none⟩),.pointer (some ⟨p2,0,none⟩),.pointer (some ⟨p3,0,none⟩)]] w fun e w'=>e = .returned (.bool (l.any fun y => !Ad s plain n t y))/\Below w.heap.size w w':=by
 have HI:=zh (lD hf t p1 p2 p3 l B d w hv hs hl hc);have HD:=zh (Fj (p:=fun y => !Ad s plain n t y) l)
 clear hf hv hs hl hc
 go_enter func147,ntmps147
 go_wp2_with fail
 refine HI.O.mono ?_;rintro e w2 ⟨rfl,hb2⟩;have HB:=zh hb2;clear hb2 HI;go_wp2;go_ret;exact ⟨by rw[<-HD.O];rfl,HB.O⟩
theorem Kh (hf:Qf s A c plain n) (t:Int) (l:List Val) (B:zo) (d:Nat) (w:World) (hv:∀y∈l,SizeOf.sizeOf y<=n) (hs:DC w A s) (hl:Cz w B l) :
  Calls prog 98 #[.agg #[.slice A s.length c],.int .i64 t,.slice B l.length d,.bool plain] w fun e w'=>e = .returned (.bool (l.all fun y=>Ad s plain n t y))/\Below w.heap.size w w':=by
 have HB:=zh (zB (zB (zD w (.cells #[.slice A s.length c] 31)) (zD _ (.cells #[.int .i64 t] 3))) (zD _ (.cells #[.bool plain] 4)));have HC:Hid (Ya s A c t plain w.heap.size (w.heap.size+1) (w.heap.size+1+1) (((w.alloc (.cells #[.slice A s.length c] 31)).alloc (.cells #[.int .i64 t] 3)).alloc (.cells #[.bool plain] 4))):=by
  refine ⟨?_,?_,?_⟩ <;> go_simp
 have HI:=zh (dM hf t w.heap.size (w.heap.size+1) (w.heap.size+1+1) l B d _ hv (hs.below HB) (hl.below HB) HC);have HD:Hid ((!(l.any fun y => !Ad s plain n t y))=l.all fun y=>Ad s plain n t y):=by show _=_;simp[List.any_eq_not_all_not]
 clear hf hv hs hl HC
 go_enter func98,ntmps98
 go_wp2_with fail
 refine HI.O.mono ?_;rintro e w2 ⟨rfl,hb2⟩;have HB2:=zh (zB HB hb2);clear hb2 HI;go_wp2;go_ret;exact ⟨by rw[<-HD.O];rfl,HB2.O⟩
end
def K7 (x:Aa) (a:Af):Bool:=!(x.AA.any fun y=>decide (y.id=a.id))&&BD a.id
theorem NS (x:Aa) (a:Af):K7 x a=((x.AA.all fun m=>decide (m.id≠a.id))&&BD a.id):=by
 unfold K7
 congr 1
 simp[List.all_eq_not_any_not]
theorem Pw (x:Aa):∀ (l:List Af),(∀k (h:k<l.length),K7 x l[k]=true)->(∀k (h:k+1<l.length),(l[k]).id<(l[k+1]).id)->Dk x l=true
 | [],_,_=>rfl
 | [a],h,_=>by
  have h0:=h 0 (by simp)
  rw[NS] at h0;have h0':((x.AA.all fun m=>decide (m.id≠a.id))&&BD a.id)=true:=h0
  unfold Dk;rw[h0'];rfl
 | a::b::r,h,h2=>by
  have h0:=h 0 (by simp)
  rw[NS] at h0;have h0':((x.AA.all fun m=>decide (m.id≠a.id))&&BD a.id)=true:=h0
  have h1:a.id<b.id:=h2 0 (by simp)
  unfold Dk;rw[h0',Pw x (b::r) (fun k hk=>h (k+1) (by simpa using hk)) (fun k hk=>h2 (k+1) (by simpa using hk))]
  simp[h1]
theorem Pv (x:Aa):∀ (l:List Af) (k:Nat) (h:k<l.length),K7 x l[k]=false->Dk x l=false
 | a::r,0,_,hn=>by
  rw[NS] at hn;have hn':((x.AA.all fun m=>decide (m.id≠a.id))&&BD a.id)=false:=hn
  unfold Dk;rw[hn',Bool.false_and,Bool.false_and]
 | a::r,k+1,h,hn=>by
  unfold Dk;rw[Pv x r k (by simpa using h) hn,Bool.and_false]
theorem RO (x:Aa):∀ (l:List Af) (k:Nat) (h:k+1<l.length),¬ (l[k]).id<(l[k+1]).id->Dk x l=false
 | [_],k,h,_=>by simp at h
 | a::b::r,0,_,hn=>by
  have hn':¬ a.id<b.id:=hn;unfold Dk;simp[hn']
 | a::b::r,k+1,h,hn=>by
  unfold Dk;rw[RO x (b::r) k (by simpa using h) hn,Bool.and_false]
theorem PW (f:Int->Val->Bool):∀ (ms:List Ac) (vs:List Val),(∀k (h:k<ms.length) (h':k<vs.length),f (ms[k]).type vs[k]=true)->((ms.zip vs).all fun p=>f p.1.type p.2)=true
 | [],_,_=>rfl
 | _::_,[],_=>rfl
 | m::ms,v::vs,h=>by
  have h0:f m.type v=true:=h 0 (by simp) (by simp)
  simp only[List.zip_cons_cons,List.all_cons,h0,Bool.true_and];exact PW f ms vs fun k h1 h2=>h (k+1) (by simpa using h1) (by simpa using h2)
theorem PV (f:Int->Val->Bool):∀ (ms:List Ac) (vs:List Val) (k:Nat) (h:k<ms.length) (h':k<vs.length),f (ms[k]).type vs[k]=false->((ms.zip vs).all fun p=>f p.1.type p.2)=false
 | m::ms,v::vs,0,_,_,h=>by
  have h0:f m.type v=false:=h;simp only[List.zip_cons_cons,List.all_cons,h0,Bool.false_and]
 | m::ms,v::vs,k+1,h1,h2,h=>by
  simp only[List.zip_cons_cons,List.all_cons,PV f ms vs k (by simpa using h1) (by simpa using h2) h,Bool.and_false]
theorem Jw {α:Type} {p:α->Bool}:∀ (l:List α),l.any p=true->∃k,∃h:k<l.length,Bt p l=(k:Int)/\l.find? p=some l[k]
 | [],h=>by cases h
 | x::r,h=>by
  cases hx:p x with
  | true=>exact ⟨0,by simp,by unfold Bt;rw[AAB hx];rfl,by rw[ACA,hx];rfl⟩
  | false =>
   rw[List.any_cons,hx,Bool.false_or] at h;obtain ⟨k,hk,e1,e2⟩:=Jw r h;refine ⟨k+1,by simpa using hk,?_,?_⟩
   ·unfold Bt
    rw[hx,Pd (by simp),e1,Pd (by omega)]
    omega
   ·rw[ACA,hx];exact e2
theorem O8 {α:Type} {p:α->Bool} (l:List α) (h:l.any p=false):l.find? p=none:=by
 rw[List.find?_eq_none]
 intro x hx hp
 rw[List.any_eq_false] at h;exact h x hx hp
variable {v:Val}
theorem CF {plain:Bool} {n:Nat} (h:Ad s plain (n+1) t v=true):0<=t/\t<(s.length:Int)/\v.kind=(AO s t).kind/\Ak (Ad s plain n) plain (AO s t) v=true:=by
 unfold Ad at h
 by_cases h1:t<0\/(s.length:Int)<=t
 ·rw[AAB h1] at h;cases h
 ·rw[Pd h1] at h
  by_cases h2:v.kind≠(AO s t).kind\/zJ v=false
  ·rw[AAB h2] at h;cases h
  ·rw[Pd h2] at h
   exact ⟨by omega,by omega,Classical.byContradiction fun e=>h2 (.inl e),h⟩
theorem lN {n:Int} (h:BD n=true):1<=n/\n<=1000:=by
 unfold BD at h
 simpa using h
theorem O7 {n:Int} (h:BD n=true):In64 n:=by
 have:=lN h;unfold In64
 omega
section
variable {f:Int->Val->Bool} {plain:Bool} {x:Aa} {v:Val}
theorem AA7 (e:x.kind=2) (h:Ak f plain x v=true):x.low<=v.int/\v.int<=x.high:=by
 unfold Ak at h;rw[AAB e] at h
 simpa using h
theorem ADZ (e:x.kind=4) (h:Ak f plain x v=true):(x.AX.any fun y=>decide (y.id=v.id))=true\/((x.AX.any fun y=>decide (y.id=v.id))=false/\BD v.id=true):=by
 unfold Ak at h;rw[Pd (by omega),Pd (by omega),AAB e] at h
 cases ha:(x.AX.any fun y=>decide (y.id=v.id)) with
 | true=>exact .inl rfl
 | false =>
  rw[ha] at h;simp only[Bool.false_or,AAD] at h;exact .inr ⟨rfl,h.2⟩
theorem RN:∀ {l:List Af},Dk x l=true->∀r∈l,BD r.id=true
 | a::l,h,r,hr=>by
  unfold Dk at h;simp only[AAD] at h
  rcases ABP.1 hr with rfl|hr
  ·exact h.1.1.2
  ·exact RN h.2 r hr
theorem UL:∀ (ms:List Ac) (vs:List Val),((ms.zip vs).all fun p=>f p.1.type p.2)=true->∀k (h:k<ms.length) (h':k<vs.length),f (ms[k]).type vs[k]=true
 | m::ms,w::vs,h,0,_,_=>by
  simp only[List.zip_cons_cons,List.all_cons,AAD] at h;exact h.1
 | m::ms,w::vs,h,k+1,h1,h2=>by
  simp only[List.zip_cons_cons,List.all_cons,AAD] at h;exact UL ms vs h.2 k (by simpa using h1) (by simpa using h2)
theorem wQ (e:x.kind=5) (h:Ak f plain x v=true):v.items.length=x.AA.length/\(∀r∈v.rest,BD r.id=true)/\∀k (h:k<x.AA.length) (h':k<v.items.length),f (x.AA[k]).type v.items[k]=true:=by
 unfold Ak at h;rw[Pd (by omega),Pd (by omega),Pd (by omega),AAB e] at h
 simp only[AAD,AAV] at h;exact ⟨h.1.1.1,RN h.1.2,UL _ _ h.2⟩
theorem AA6 (e:x.kind=6) (h:Ak f plain x v=true):((x.AA.any fun y=>decide (y.id=v.id))=true/\∃m y,x.AA.find? (fun y=>decide (y.id=v.id))=some m/\v.items=[y]/\f m.type y=true)\/((x.AA.any fun y=>decide (y.id=v.id))=false/\BD v.id=true/\∃r,v.rest=[r]):=by
 unfold Ak at h;rw[Pd (by omega),Pd (by omega),Pd (by omega),Pd (by omega),AAB e] at h
 cases ha:(x.AA.any fun y=>decide (y.id=v.id)) with
 | true =>
  obtain ⟨k,hk,_,hf⟩:=Jw x.AA ha;rw[hf] at h;simp only[AAD,AAV] at h;obtain ⟨y,hy⟩:=List.length_eq_one_iff.1 h.1.1;refine .inl ⟨rfl,_,y,hf,hy,?_⟩;rw[hy] at h
  simpa using h.2
 | false =>
  rw[O8 x.AA ha] at h;simp only[AAD,AAV] at h;exact .inr ⟨rfl,h.1.1.1.2,List.length_eq_one_iff.1 h.1.2⟩
theorem AA5 (e:x.kind=7) (h:Ak f plain x v=true):∀y∈v.items,f x.elem y=true:=by
 unfold Ak at h;rw[Pd (by omega),Pd (by omega),Pd (by omega),Pd (by omega),Pd (by omega),AAB e] at h
 simp only[AAD,ABQ] at h;exact h.2
theorem AA4 (e:x.kind=8) (h:Ak f plain x v=true):v.items.length=v.keys.length/\(∀y∈v.keys,f x.key y=true)/\∀y∈v.items,f x.elem y=true:=by
 unfold Ak at h;rw[Pd (by omega),Pd (by omega),Pd (by omega),Pd (by omega),Pd (by omega),Pd (by omega),AAB e] at h
 simp only[AAD,ABQ,AAV] at h;exact ⟨h.1.1.1.2,h.1.1.2,h.2⟩
theorem AA3 (e:x.kind=9) (h:Ak f plain x v=true):v.items.length<=1/\∀y∈v.items,f x.elem y=true:=by
 unfold Ak at h;rw[Pd (by omega),Pd (by omega),Pd (by omega),Pd (by omega),Pd (by omega),Pd (by omega),Pd (by omega),AAB e] at h
 simp only[AAD,ABQ,AAV] at h;exact h
end
section
variable {f:Int->Val->ByteArray} {x:Aa} {v:Val}
theorem AC9 (e:x.kind=1):Bg f x v=if v.bool then ⟨#[116,114,117,101]⟩ else ⟨#[102,97,108,115,101]⟩:=by unfold Bg;rw[AAB e]
theorem AC8 (e:x.kind=2):Bg f x v=Ch v.int:=by unfold Bg;rw[Pd (by omega),AAB e]
theorem AC7 (e:x.kind=3):Bg f x v=Lr v.str:=by unfold Bg;rw[Pd (by omega),Pd (by omega),AAB e]
theorem AC6 (e:x.kind=4):Bg f x v=match x.AX.find? fun y=>decide (y.id=v.id) with
  | some y=>y.name
  | none=>⟨#[64]⟩++Ch v.id:=by unfold Bg;rw[Pd (by omega),Pd (by omega),Pd (by omega),AAB e];rfl
theorem AC5 (e:x.kind=5):Bg f x v=⟨#[123]⟩++Fv ((x.AA.zip v.items).map (LU f)++v.rest.map NR)++⟨#[125]⟩:=by
 unfold Bg;rw[Pd (by omega),Pd (by omega),Pd (by omega),Pd (by omega),AAB e]
theorem AAg (e:x.kind=6):Bg f x v=(match x.AA.find? fun m=>decide (m.id=v.id) with
  | some m=>m.name++⟨#[40]⟩++(match v.items with|y::_=>f m.type y | []=>⟨#[]⟩)
  | none=>⟨#[64]⟩++Ch v.id++⟨#[40]⟩++(match v.rest with|r::_=>Lr r.data | []=>⟨#[]⟩))++⟨#[41]⟩:=by
 unfold Bg;rw[Pd (by omega),Pd (by omega),Pd (by omega),Pd (by omega),Pd (by omega),AAB e];rfl
theorem AC4 (e:x.kind=7):Bg f x v=⟨#[91]⟩++Fv (v.items.map (f x.elem))++⟨#[93]⟩:=by
 unfold Bg;rw[Pd (by omega),Pd (by omega),Pd (by omega),Pd (by omega),Pd (by omega),Pd (by omega),AAB e]
theorem AC3 (e:x.kind=8):Bg f x v=⟨#[91]⟩++(if v.keys.length=0 then ⟨#[45,62]⟩ else ⟨#[]⟩)++Fv ((v.keys.zip v.items).map (Qs (f x.key) (f x.elem)))++⟨#[93]⟩:=by
 unfold Bg;rw[Pd (by omega),Pd (by omega),Pd (by omega),Pd (by omega),Pd (by omega),Pd (by omega),Pd (by omega),AAB e]
theorem AAf (e:x.kind=9):Bg f x v=match v.items with
  | []=>⟨#[110,111,110,101]⟩
  | y::_=>⟨#[115,111,109,101,40]⟩++f x.elem y++⟨#[41]⟩:=by
 unfold Bg;rw[Pd (by omega),Pd (by omega),Pd (by omega),Pd (by omega),Pd (by omega),Pd (by omega),Pd (by omega),Pd (by omega)];rfl
end
variable {k:Nat}
theorem Kj {l:List ByteArray} (h:k<l.length):EL (fun i=>l.getD i ⟨#[]⟩) (k+1)=EL (fun i=>l.getD i ⟨#[]⟩) k++(if k=0 then ⟨#[]⟩ else ⟨#[44,32]⟩)++l[k]:=by
 rw[EL]
 congr 1
 show l.getD k ⟨#[]⟩=_
 rw[AA1,zl h];rfl
theorem Kk {l:List ByteArray} (h:k<l.length):(EL (fun i=>l.getD i ⟨#[]⟩) k).size+(if k=0 then (⟨#[]⟩:ByteArray) else ⟨#[44,32]⟩).size+(l[k]).size<=(Fv l).size:=by
 have:=dN (fun i=>l.getD i ⟨#[]⟩) h
 rw[show (l.getD k ⟨#[]⟩:ByteArray)=l[k] by rw[AA1,zl h];rfl] at this
 exact this
def CV (f:Int->Val->ByteArray) (x:Aa) (v:Val):List ByteArray:=(x.AA.zip v.items).map (LU f)++v.rest.map NR
section
variable {f:Int->Val->ByteArray} {x:Aa} {v:Val}
theorem bC (h:v.items.length=x.AA.length):(CV f x v).length=x.AA.length+v.rest.length:=by
 unfold CV;rw[ABF,AAt,AAt,List.length_zip]
 omega
theorem bB (h:v.items.length=x.AA.length) {k:Nat} (hk:k<x.AA.length) (hi:k<v.items.length) (hp:k<(CV f x v).length):(CV f x v)[k]=(x.AA[k]).name++⟨#[58,32]⟩++f (x.AA[k]).type v.items[k]:=by
 have h1:k<((x.AA.zip v.items).map (LU f)).length:=by rw[AAt,List.length_zip];omega
 refine (List.getElem_append_left (bs:=v.rest.map NR) h1).trans ?_;rw[List.getElem_map,List.getElem_zip]
 rfl
theorem ax (h:v.items.length=x.AA.length) {k:Nat} (hk:k<v.rest.length) (hp:x.AA.length+k<(CV f x v).length):(CV f x v)[x.AA.length+k]=Ch (v.rest[k]).id++⟨#[58,32]⟩++Lr (v.rest[k]).data:=by
 have h1:((x.AA.zip v.items).map (LU f)).length=x.AA.length:=by rw[AAt,List.length_zip];omega
 have h2:((x.AA.zip v.items).map (LU f)).length<=x.AA.length+k:=by omega
 refine (List.getElem_append_right (bs:=v.rest.map NR) h2).trans ?_;rw[List.getElem_map];have e:x.AA.length+k - ((x.AA.zip v.items).map (LU f)).length=k:=by omega
 simp only[e]
 rfl
end
def Fu (f g:Val->ByteArray) (v:Val):List ByteArray:=(v.keys.zip v.items).map (Qs f g)
theorem dG {f g:Val->ByteArray} (h:v.items.length=v.keys.length):(Fu f g v).length=v.keys.length:=by
 unfold Fu;rw[AAt,List.length_zip]
 omega
theorem dH {f g:Val->ByteArray} (hk:k<v.keys.length) (hi:k<v.items.length) (hp:k<(Fu f g v).length):(Fu f g v)[k]=f v.keys[k]++⟨#[32,45,62,32]⟩++g v.items[k]:=by
 refine (List.getElem_map (Qs f g) (l:=v.keys.zip v.items) (i:=k) (h:=hp)).trans ?_;rw[List.getElem_zip]
 rfl
theorem Nr {α:Type} (p:α->Bool):∀l:List α,Bt p l=match l.findIdx? p with
  | none => -1
  | some k=>(k:Int)
 | []=>rfl
 | x::r=>by
  rw[Bt,List.findIdx?_cons,Nr p r]
  cases hp:p x with
  | true=>rfl
  | false =>
   cases r.findIdx? p with
   | none=>rfl
   | some k =>
    simp only[Bool.false_eq_true,if_false,Option.map_some];rw[Pd (by omega)]
    show (k:Int)+1=((k+1:Nat):Int)
    omega
theorem IY {α:Type} (p:α->Bool):∀l:List α,l.find? p=if Bt p l<0 then none else l[(Bt p l).toNat]?
 | []=>rfl
 | x::r=>by
  rw[ACA,Bt,IY p r]
  cases hp:p x with
  | true=>rfl
  | false =>
   have:=Hf p r;simp only[Bool.false_eq_true,if_false]
   by_cases h:Bt p r<0
   ·rw[AAB h,AAB h];rfl
   ·rw[Pd h,Pd h,Pd (by omega),show (Bt p r+1).toNat=(Bt p r).toNat+1 by omega]
    rfl
theorem Ke (h:BX s false t v=true):∃n,Ad s false (n+1) t v=true:=by
 refine ⟨SizeOf.sizeOf v - 1,?_⟩;have:=U4 v;rw[show SizeOf.sizeOf v - 1+1=SizeOf.sizeOf v by omega]
 exact h
theorem Ta (h:BX s false t v=true):0<=t/\t<(s.length:Int)/\v.kind=(AO s t).kind:=by
 obtain ⟨n,h⟩:=Ke h;have:=CF h;exact ⟨this.1,this.2.1,this.2.2.1⟩
theorem YI (h:BX s false t v=true) (hk:(AO s t).kind=5) (p:Int) (q:List Int):
  v.items.length=(AO s t).AA.length/\(Bt (fun m:Ac=>decide (m.id=p)) (AO s t).AA<0->Ia s t v (p::q)=none) /\
  ∀k:Nat,Bt (fun m:Ac=>decide (m.id=p)) (AO s t).AA=(k:Int)->∀ (h1:k<(AO s t).AA.length) (h2:k<v.items.length),Ia s t v (p::q)=Ia s ((AO s t).AA[k]).type v.items[k] q/\BX s false ((AO s t).AA[k]).type v.items[k]=true:=by
 obtain ⟨n,h⟩:=Ke h;obtain ⟨_,_,_,hf⟩:=CF h;obtain ⟨g1,_,g3⟩:=wQ hk hf;refine ⟨g1,fun hn=>?_,fun k hi h1 h2=>⟨?_,FV _ _ _ (g3 k h1 h2)⟩⟩
 ·rw[Nr] at hn
  rw[Ia,Pm,AAB hk]
  cases hm:(AO s t).AA.findIdx? fun m=>decide (m.id=p) with
  | none=>rfl
  | some k=>rw[hm] at hn;simp only at hn;omega
 ·rw[Nr] at hi
  rw[Ia,Pm,AAB hk]
  cases hm:(AO s t).AA.findIdx? fun m=>decide (m.id=p) with
  | none=>rw[hm] at hi;simp only at hi;omega
  | some k' =>
   rw[hm] at hi;obtain rfl:k'=k:=by simp only at hi;omega
   simp only[Option.map_some];rw[zl h2,AA1,zl h1]
   rfl
theorem mM (h:BX s false t v=true) (hk:(AO s t).kind=6) (p:Int) (q:List Int):
  (Bt (fun m:Ac=>decide (m.id=p)) (AO s t).AA<0->Ia s t v (p::q)=none)/\(p≠v.id->Ia s t v (p::q)=none) /\
  ∀k:Nat,Bt (fun m:Ac=>decide (m.id=p)) (AO s t).AA=(k:Int)->p=v.id->∃ (h1:k<(AO s t).AA.length) (h2:0<v.items.length),Ia s t v (p::q)=Ia s ((AO s t).AA[k]).type v.items[0] q/\BX s false ((AO s t).AA[k]).type v.items[0]=true:=by
 obtain ⟨n,h⟩:=Ke h;obtain ⟨_,_,_,hf⟩:=CF h;have h6:=AA6 hk hf;have hst:Pm (AO s t) v p=if p=v.id then ((AO s t).AA.find? fun m=>decide (m.id=p)).map fun m=>(0,m.type) else none:=by
  rw[Pm,Pd (by omega),AAB hk]
 refine ⟨fun hn=>?_,fun hp=>?_,fun k hi hp=>?_⟩
 ·rw[Ia,hst,IY,AAB hn]
  by_cases hp:p=v.id
  ·rw[AAB hp];rfl
  ·rw[Pd hp]
 ·rw[Ia,hst,Pd hp]
 ·have hl:=Hf (fun m:Ac=>decide (m.id=p)) (AO s t).AA
  have h1:k<(AO s t).AA.length:=by omega
  have tT:(AO s t).AA.find? (fun m=>decide (m.id=p))=some (AO s t).AA[k]:=by
   rw[IY,Pd (by omega),hi]
   rw[show ((k:Nat):Int).toNat=k by omega,zl h1]
  rcases h6 with ⟨_,m,y,g1,g2,g3⟩|⟨g1,_⟩
  ·rw[<-hp,tT] at g1
   obtain rfl:=ABW g1;refine ⟨h1,by rw[g2];simp,?_,?_⟩
   ·rw[Ia,hst,AAB hp,tT]
    simp only[Option.map_some];rw[zl (by rw[g2];simp)]
   ·have:v.items[0]'(by rw[g2];simp)=y:=by simp only[g2,List.getElem_cons_zero]
    rw[this];exact FV _ _ _ g3
  ·rw[<-hp] at g1
   have:=List.any_eq_false.1 g1 _ (List.mem_of_find?_eq_some tT);exact absurd (List.find?_some tT) this
theorem mO (h:BX s false t v=true) (h5:(AO s t).kind≠5) (h6:(AO s t).kind≠6) (p:Int) (q:List Int):
  (p<0->Ia s t v (p::q)=none)/\((v.items.length:Int)<=p->Ia s t v (p::q)=none) /\
  ∀k:Nat,p=(k:Int)->∀h2:k<v.items.length,((AO s t).kind=7\/(AO s t).kind=8\/(AO s t).kind=9)/\Ia s t v (p::q)=Ia s (AO s t).elem v.items[k] q/\BX s false (AO s t).elem v.items[k]=true:=by
 obtain ⟨n,h⟩:=Ke h;obtain ⟨_,_,hkk,hpr,hf⟩:=Kc h;have hst:Pm (AO s t) v p=if 0<=p then some (p.toNat,(AO s t).elem) else none:=by
  rw[Pm,Pd h5,Pd h6]
 refine ⟨fun hp=>?_,fun hp=>?_,fun k hk h2=>?_⟩
 ·rw[Ia,hst,Pd (by omega)]
 ·rw[Ia,hst,AAB (by omega)]
  simp only;rw[List.getElem?_eq_none (by omega)]
 ·have hc:(AO s t).kind=7\/(AO s t).kind=8\/(AO s t).kind=9:=by
   refine Classical.byContradiction fun hc=>?_
   unfold zJ Az at hpr;simp only[AAD,AAV] at hpr;have:=hpr.1.2;simp only[Val.items] at this;rw[Pd (by omega)] at this
   have e:v.items.length=0:=this
   omega
  have hm:=AAL h2;refine ⟨hc,?_,?_⟩
  ·rw[Ia,hst,AAB (by omega)]
   simp only;rw[show p.toNat=k by omega,zl h2]
  ·rcases hc with hc|hc|hc
   ·exact FV _ _ _ (AA5 hc hf _ hm)
   ·exact FV _ _ _ ((AA4 hc hf).2.2 _ hm)
   ·exact FV _ _ _ ((AA3 hc hf).2 _ hm)
noncomputable def P6 (s:List Aa) (t:Int) (v:Val) (p:List Int):ByteArray×Int :=
 if BX s false t v=false then (⟨#[]⟩,1) else match Ia s t v p with
  | none=>(⟨#[]⟩,4)
  | some _=>(Gb s t p,0)
noncomputable def Zi (s:List Aa) (t:Int) (v:Val) (p:List Int):Int :=
 if BX s false t v=false then 1 else match Ia s t v p with
  | none=>4
  | some _=>0
abbrev nO:Ac:=⟨1,⟨#[120]⟩,1,false,false,zeroV⟩
abbrev nN:Ac:=⟨3,⟨#[121]⟩,2,false,false,zeroV⟩
abbrev av:Aa:={ Ai with kind:=5,name:=⟨#[80,111,105,110,116]⟩,AA:=[nO,nN] }
abbrev jY:Aa:={ Ai with kind:=2,high:=9 }
abbrev jX:Aa:={ Ai with kind:=9,elem:=1 }
def Hq:List Aa:=[av,jY,jX]
abbrev uj:ByteArray:=⟨#[123,32,120,32,58,32,53,32,44,32,121,32,58,32,115,111,109,101,32,40,32,55,32,41,32,125]⟩
abbrev uh:ByteArray:=⟨#[123,120,58,32,53,125]⟩
abbrev ug:ByteArray:=⟨#[123,121,58,32,110,111,110,101,44,32,120,58,32,53,125]⟩
abbrev uf:ByteArray:=⟨#[123,120,58,32,49,48,44,32,121,58,32,110,111,110,101,125]⟩
abbrev txF:ByteArray:=⟨#[123,120,58,32,53,44,32,121,58,32,110,111,110,101,44,32,50,58,32,34,92,120,48,49,34,125]⟩
abbrev Oo (n:Int):Val := .mk 2 false n ⟨#[]⟩ 0 [] [] []
abbrev pOpt (l:List Val):Val := .mk 9 false 0 ⟨#[]⟩ 0 [] l []
def LP:Val := .mk 5 false 0 ⟨#[]⟩ 0 [] [Oo 5,pOpt [Oo 7]] []
def pv4:Val := .mk 5 false 0 ⟨#[]⟩ 0 [] [Oo 10,pOpt []] []
def sW:Val := .mk 5 false 0 ⟨#[]⟩ 0 [] [Oo 5,pOpt []] [⟨2,⟨#[1]⟩⟩]
theorem Ga:zQ Hq=0:=by decide +kernel
theorem LQ:DW Hq:=by
 intro t ht
 simp only[Hq,ABP,List.mem_nil_iff,or_false] at ht
 rcases ht with rfl|rfl|rfl <;> (unfold In64;decide)
def F4 (x:ByteArray):List AJ:=match Ap 1 x.data.toList with | .ok l=>l | .error _=>[]
theorem pX:Ap 1 uj.data.toList = .ok (F4 uj):=by
 have h:(match Ap 1 uj.data.toList with | .ok _=>true | .error _=>false)=true:=by decide +kernel
 unfold F4
 cases h2:Ap 1 uj.data.toList with
 | ok l=>rfl
 | error e=>rw[h2] at h;cases h
theorem pW:Ap 1 uh.data.toList = .ok (F4 uh):=by
 have h:(match Ap 1 uh.data.toList with | .ok _=>true | .error _=>false)=true:=by decide +kernel
 unfold F4
 cases h2:Ap 1 uh.data.toList with
 | ok l=>rfl
 | error e=>rw[h2] at h;cases h
theorem pV:Ap 1 ug.data.toList = .ok (F4 ug):=by
 have h:(match Ap 1 ug.data.toList with | .ok _=>true | .error _=>false)=true:=by decide +kernel
 unfold F4
 cases h2:Ap 1 ug.data.toList with
 | ok l=>rfl
 | error e=>rw[h2] at h;cases h
theorem pU:Ap 1 uf.data.toList = .ok (F4 uf):=by
 have h:(match Ap 1 uf.data.toList with | .ok _=>true | .error _=>false)=true:=by decide +kernel
 unfold F4
 cases h2:Ap 1 uf.data.toList with
 | ok l=>rfl
 | error e=>rw[h2] at h;cases h
def AAW (l:List AJ) (v:Val):Bool:=match CU false Hq 0 l with | .ok (u,r,k)=>decide (u=v)&&decide (r=[]) && !k | .error _=>false
def sV (l:List AJ) (e:Int):Bool:=match CU false Hq 0 l with | .ok _=>false | .error e'=>decide (e'=e)
variable {l:List AJ}
theorem Uw (h:AAW l v=true):CU false Hq 0 l = .ok (v,[],false):=by
 unfold AAW at h
 cases hr:CU false Hq 0 l with
 | error e=>rw[hr] at h;cases h
 | ok p =>
  obtain ⟨u,r,k⟩:=p;rw[hr] at h;simp only[AAD,AAV,Bool.not_eq_true'] at h;rw[h.1.1,h.1.2,h.2]
theorem RL {e:Int} (h:sV l e=true):CU false Hq 0 l = .error e:=by
 unfold sV at h
 cases hr:CU false Hq 0 l with
 | error e'=>rw[hr] at h;rw[AAr h]
 | ok p=>rw[hr] at h;cases h
theorem AAa:CU false Hq 0 (F4 uj) = .ok (LP,[],false):=Uw (by decide +kernel)
theorem AAZ:CU false Hq 0 (F4 uh) = .error 2:=RL (by decide +kernel)
theorem AAY:CU false Hq 0 (F4 ug) = .error 4:=RL (by decide +kernel)
theorem AAX:CU false Hq 0 (F4 uf) = .ok (pv4,[],false):=Uw (by decide +kernel)
theorem Y8:BX Hq false 0 LP=true:=TD ⟨8,by decide +kernel⟩
theorem pY:BX Hq false 0 sW=true:=TD ⟨8,by decide +kernel⟩
theorem pq:BX Hq false 0 pv4=false:=by
 cases h:BX Hq false 0 pv4 with
 | false=>rfl
 | true =>
  obtain ⟨n,h⟩:=Ke h;obtain ⟨_,_,_,hf⟩:=CF h;obtain ⟨_,_,g⟩:=wQ (show (AO Hq 0).kind=5 from rfl) hf;have g0:Ad Hq false n 1 (Oo 10)=true:=g 0 (by decide) (by decide)
  cases n with
  | zero=>cases g0
  | succ n =>
   obtain ⟨_,_,_,hf⟩:=CF g0;have:=(AA7 (show (AO Hq 1).kind=2 from rfl) hf).2;exact absurd this (by decide)
theorem AAe:BP false Hq 0 uj=(LP,0):=by
 unfold BP;rw[Pd (by decide),Pd (by decide),pX]
 simp only;rw[AAa];simp only;rw[Pd (by simp),Pd (by rw[Y8];simp)]
theorem AAd:BP false Hq 0 uh=(zeroV,2):=by
 unfold BP;rw[Pd (by decide),Pd (by decide),pW]
 simp only;rw[AAZ]
theorem AAc:BP false Hq 0 ug=(zeroV,4):=by
 unfold BP;rw[Pd (by decide),Pd (by decide),pV]
 simp only;rw[AAY]
theorem AAb:BP false Hq 0 uf=(zeroV,1):=by
 unfold BP;rw[Pd (by decide),Pd (by decide),pU]
 simp only;rw[AAX];simp only;rw[Pd (by simp),AAB (Or.inr pq)]
theorem vM:LX Hq 0 sW=txF:=by
 unfold LX
 decide +kernel
theorem jW:BX Hq false 0 sW=true/\LX Hq 0 sW=txF:=⟨pY,vM⟩
theorem Y7:P6 Hq 0 LP [3,0]=(⟨#[46,121,91,48,93]⟩,0):=by
 unfold P6;rw[Pd (by rw[Y8];simp)]
 have h:(Ia Hq 0 LP [3,0]).isSome=true:=by decide +kernel
 have h2:Gb Hq 0 [3,0]=⟨#[46,121,91,48,93]⟩:=by decide +kernel
 cases hc:Ia Hq 0 LP [3,0] with
 | none=>rw[hc] at h;cases h
 | some p=>simp only;rw[h2]
abbrev RV (b:Nat):Obj := .cells #[.pointer (some ⟨b,5,none⟩),.pointer (some ⟨b,6,none⟩)] 185
abbrev Val.Mh (x:Val) (A1:zo) (c1:Nat) (A2:zo) (c2:Nat) (A3:zo) (c3:Nat):Obj:=x.box A1 c1 A2 c2 A3 c3
def EO (B:Nat) (wk wr:World):Prop:=wk.heap.size<=wr.heap.size/\∀q,B<=q->q<wk.heap.size->wr.heap[q]? = wk.heap[q]?
theorem EO.refl (B:Nat) (w:World):EO B w w:=⟨AAF _,fun _ _ _=>rfl⟩
variable {B:Nat} {wk wr:World}
theorem EO.below (h:EO B wk wr) (hb:Below wr.heap.size wr w'):EO B wk w' :=
 ⟨Nat.le_trans h.1 hb.size,fun q h1 h2=>(hb.block q (ABa h2 h.1)).trans (h.2 q h1 h2)⟩
theorem EO.cell (h:EO B wk wr) (hg:g<B\/wk.heap.size<=g) (o:Nat) (v:Value):EO B wk (wr.setCell ⟨g,o,none⟩ v) :=
 ⟨by simpa using h.1,fun q h1 h2=>by rw[AAE wr ⟨g,o,none⟩ q v (by simp only[ne_eq];omega)];exact h.2 q h1 h2⟩
theorem EO.cells (h:EO B wk wr) (hg:g<B\/wk.heap.size<=g) (o:Nat) (vs:List Value):EO B wk (wr.setCells g o vs) :=
 ⟨by rw[size_setCells];exact h.1,fun q h1 h2=>by rw[zN (by omega)];exact h.2 q h1 h2⟩
theorem EO.off (h:EO B wk wr) {P:World->Prop} (ho:Off (· < B) wk P):Off (· < B) wr P :=
 ho.step h.1 fun q hq hl=>h.2 q (by omega) hl
theorem EO.mono {w0:World} (h:EO B wk wr) (h0:EO B w0 wk):EO B w0 wr :=
 ⟨Nat.le_trans h0.1 h.1,fun q h1 h2=>(h.2 q h1 (ABa h2 h0.1)).trans (h0.2 q h1 h2)⟩
variable {i:Nat}
theorem BI.reH {α:Type} {E:Nat} {at_:World->α->List Value->Prop} {base H3 H H':Nat} {l:List α} (h:BI E k at_ wr base H3 H A c l i) (hi:l.length<=i):BI E k at_ wr base H3 H' A c l i:=by
 obtain ⟨css,h1,h2,h3,h4,h5⟩:=h;refine ⟨css,h1,h2,h3,h4,fun m x cs hx hc=>⟨(h5 m x cs hx hc).1,fun hm=>?_⟩⟩
 have:=(AAv.1 hx).1
 omega
structure Qt (x:Val) (w:World) (P:Nat) (K1:zo) (k1:Nat) (I1:zo) (i1:Nat) (R1:zo) (r1:Nat) (wr:World):Prop where
 box:wr.heap[w.heap.size]? = some (x.box K1 k1 I1 i1 R1 r1)
 res:wr.heap[w.heap.size+1]? = some DJ
 Cm:Below w.heap.size w wr
 ptr:wr.heap[P]? = some (RV w.heap.size)
 hi:w.heap.size+2<=P
section
variable {x:Val} {w wr w':World} {P:Nat} {K1:zo} {k1:Nat} {I1:zo} {i1:Nat} {R1:zo} {r1:Nat}
theorem Qt.below (h:Qt x w P K1 k1 I1 i1 R1 r1 wr) (hb:Below wr.heap.size wr w'):Qt x w P K1 k1 I1 i1 R1 r1 w' :=
 ⟨zE h.box hb,zE h.res hb,zB h.Cm hb,zE h.ptr hb,h.hi⟩
theorem Qt.other (h:Qt x w P K1 k1 I1 i1 R1 r1 wr) {g:Nat} (hg:w.heap.size+2<=g) (hp:g≠P) (o:Nat) (vs:List Value):Qt x w P K1 k1 I1 i1 R1 r1 (wr.setCells g o vs) :=
 ⟨by rw[zN (by omega)];exact h.box,by rw[zN (by omega)];exact h.res,yC g (by omega) _ _ _ h.Cm,by rw[zN (Ne.symm hp)];exact h.ptr,h.hi⟩
theorem Qt.lt (h:Qt x w P K1 k1 I1 i1 R1 r1 wr):P<wr.heap.size:=(zg.1 h.ptr).1
theorem Qt.cells (h:Qt x w P K1 k1 I1 i1 R1 r1 wr):wr.cell? ⟨P,0,none⟩=some (.pointer (some ⟨w.heap.size,5,none⟩))/\wr.cell? ⟨P,1,none⟩=some (.pointer (some ⟨w.heap.size,6,none⟩)) :=
 ⟨by rw[AAC _ _ _ _ _ _ h.ptr];rfl,by rw[AAC _ _ _ _ _ _ h.ptr];rfl⟩
theorem Qt.key (h:Qt x w P K1 k1 I1 i1 R1 r1 wr) (B1:zo) (d1:Nat):Qt x w P B1 d1 I1 i1 R1 r1 (wr.setCell ⟨w.heap.size,5,none⟩ (.slice B1 x.keys.length d1)):=by
 have hp:=h.hi;refine ⟨?_,?_,h.Cm.setCell (p:=⟨w.heap.size,5,none⟩) (AAF _) _,?_,h.hi⟩
 ·rw[AAK _ _ 5 _ _ _ h.box];rfl
 ·rw[AAE _ _ _ _ (by simp)];exact h.res
 ·rw[AAE _ _ _ _ (by simp only[ne_eq];omega)];exact h.ptr
theorem Qt.item (h:Qt x w P K1 k1 I1 i1 R1 r1 wr) (B1:zo) (d1:Nat):Qt x w P K1 k1 B1 d1 R1 r1 (wr.setCell ⟨w.heap.size,6,none⟩ (.slice B1 x.items.length d1)):=by
 have hp:=h.hi;refine ⟨?_,?_,h.Cm.setCell (p:=⟨w.heap.size,6,none⟩) (AAF _) _,?_,h.hi⟩
 ·rw[AAK _ _ 6 _ _ _ h.box];rfl
 ·rw[AAE _ _ _ _ (by simp)];exact h.res
 ·rw[AAE _ _ _ _ (by simp only[ne_eq];omega)];exact h.ptr
end
structure UC (x:Val) (w:World) (P:Nat) (K1:zo) (k1:Nat) (I1:zo) (i1:Nat) (R1:zo) (r1:Nat) (wk:World) (H3:Nat) (A:zo) (c:Nat) (l:List Val) (i:Nat) (wr:World):Prop where
 bx:Qt x w P K1 k1 I1 i1 R1 r1 wr
 kp:EO (w.heap.size+2) wk wr
 pk:P<wk.heap.size
 h3:wk.heap.size<=H3
 hi:H3<=wr.heap.size
 row:BI 28 8 (fun u x cs=>Val.At u x cs) wr wk.heap.size H3 w.heap.size A c l i
section
variable {x:Val} {w wk wr w':World} {P:Nat} {K1:zo} {k1:Nat} {I1:zo} {i1:Nat} {R1:zo} {r1:Nat} {H3:Nat} {A:zo} {c:Nat} {l:List Val} {i:Nat}
theorem UC.below (h:UC x w P K1 k1 I1 i1 R1 r1 wk H3 A c l i wr) (hb:Below wr.heap.size wr w'):UC x w P K1 k1 I1 i1 R1 r1 wk H3 A c l i w' :=
 ⟨h.bx.below hb,h.kp.below hb,h.pk,h.h3,Nat.le_trans h.hi hb.size,h.row.below hb⟩
theorem UC.write (h:UC x w P K1 k1 I1 i1 R1 r1 wk H3 A c l i wr) (hi:i<l.length) {g:Nat} (hA:A=some ⟨g,0,none⟩) {F1:zo} {f1:Nat} {F2:zo} {f2:Nat} {F3:zo} {f3:Nat} {B:Nat} (hB:H3<=B) (ho:Off (· < B) wr fun u=>Ar u l[i] F1 F2 F3) :
  UC x w P K1 k1 I1 i1 R1 r1 wk H3 A c l (i+1) (wr.setCells g (i * 8) ((l[i]).cs F1 f1 F2 f2 F3 f3)):=by
 have hlt:=h.row.lt (g:=g) (by rw[hA];rfl)
 have hp:=h.pk;have hlo:=h.bx.hi;have hsz:=h.bx.Cm.size;refine ⟨h.bx.other (by omega) (by omega) _ _,h.kp.cells (Or.inr hlt.1) _ _,h.pk,h.h3,by rw[size_setCells];exact h.hi,?_⟩
 have:=h.row.write hi hA (by omega) (by omega) (x:=l[i]) (cs:=(l[i]).cs F1 f1 F2 f2 F3 f3) rfl ((ho.mono fun q _ hq=>by omega).imp fun u hu=>Val.Hu.2 ⟨F1,f1,F2,f2,F3,f3,rfl,hu⟩)
 rwa [List.set_getElem_self] at this
theorem UC.O (h:UC x w P K1 k1 I1 i1 R1 r1 wk H3 A c l i wr) (hi:l.length<=i) (hl:EF 120 l.length):Off (· < w.heap.size+2) wr fun u=>Cz u A l:=by
 have hp:=h.pk;have hlo:=h.bx.hi;have hh:=h.h3;exact (h.row.reH hi).O hi (by omega) (by omega) hl
end
variable {P i1 k1 r1:Nat} {x:Val} {I1 K1 R1:zo}
theorem UC.start {w5:World} {B1:zo} {d1:Nat} {l:List Val} {o:Nat} (hb:Qt x w P K1 k1 I1 i1 R1 r1 (w5.setCell ⟨w.heap.size,o,none⟩ (.slice B1 l.length d1))) (hpk:P<wk.heap.size) (hw:Below wk.heap.size wk w5) (hk:∀H3,w5.heap.size<=H3->BI 28 8 (fun u x cs=>Val.At u x cs) w5 wk.heap.size H3 w.heap.size B1 d1 l 0):
  UC x w P K1 k1 I1 i1 R1 r1 wk w5.heap.size B1 d1 l 0 (w5.setCell ⟨w.heap.size,o,none⟩ (.slice B1 l.length d1)):=by
 have hs:=hw.size;have hlo:=hb.hi;refine ⟨hb,((EO.refl _ wk).below hw).cell (Or.inl (by omega)) _ _,hpk,hs,by simp,(hk _ (AAF _)).bD o _ (by omega) (AAF _) fun e=>?_⟩
 have:=(hk _ (AAF _)).lt e
 omega
theorem Qt.zero (h:Qt x w P K1 k1 I1 i1 R1 r1 wr) (hs:Cw x.str) (hk:Off (· < w.heap.size+2) wr fun u=>Cz u K1 x.keys) (hi:Off (· < w.heap.size+2) wr fun u=>Cz u I1 x.items) (hr:Off (· < w.heap.size+2) wr fun u=>FB u R1 x.rest):
  let W:=wr.setCells (w.heap.size+1) 0 (x.cs K1 k1 I1 i1 R1 r1)
  (W.cell? ⟨w.heap.size+1,0,none⟩=some (.int .i64 x.kind)/\W.cell? ⟨w.heap.size+1,1,none⟩=some (.bool x.bool)/\W.cell? ⟨w.heap.size+1,2,none⟩=some (.int .i64 x.int)/\W.cell? ⟨w.heap.size+1,3,none⟩=some (.string x.str)/\W.cell? ⟨w.heap.size+1,4,none⟩=some (.int .i64 x.id)/\W.cell? ⟨w.heap.size+1,5,none⟩=some (.slice K1 x.keys.length k1)/\W.cell? ⟨w.heap.size+1,6,none⟩=some (.slice I1 x.items.length i1)/\W.cell? ⟨w.heap.size+1,7,none⟩=some (.slice R1 x.rest.length r1)) /\
  (Off (· < w.heap.size) W fun u=>Ar u x K1 I1 R1)/\Below w.heap.size w W:=by
 intro W
 have h8:=Ji (World.rangeAt_setCells_same wr (w.heap.size+1) 0 (x.cs K1 k1 I1 i1 R1 r1) (Cb h.res));simp only[Nat.zero_add] at h8;refine ⟨h8,?_,yC _ (by omega) _ _ _ h.Cm⟩
 have st:∀ {Q:World->Prop},(Off (· < w.heap.size+2) wr Q)->Off (· < w.heap.size) W Q:=fun hq =>
  (hq.step (w1:=W) (by rw[size_setCells];exact AAF _) fun q hq hl=>zN (by omega) _ _ _).mono fun q _ hq=>by omega
 exact fun u hu=>⟨hs,st hk u hu,st hi u hu,st hr u hu⟩
theorem Ox {H3:Nat} {l:List Val} (h:UC x w P K1 k1 I1 i1 R1 r1 wk H3 A c l i wr) {y:Val} {E1:zo} {e1:Nat} {E2:zo} {e2:Nat} {E3:zo} {e3:Nat} (hb:wr.heap[b]? = some (y.box E1 e1 E2 e2 E3 e3)):
  ((wr.cell? ⟨w.heap.size,5,none⟩=some (.slice K1 x.keys.length k1)/\wr.cell? ⟨w.heap.size,6,none⟩=some (.slice I1 x.items.length i1))/\(wr.cell? ⟨b,0,none⟩=some (.int .i64 y.kind)/\wr.cell? ⟨b,1,none⟩=some (.bool y.bool)/\wr.cell? ⟨b,2,none⟩=some (.int .i64 y.int)/\wr.cell? ⟨b,3,none⟩=some (.string y.str)/\wr.cell? ⟨b,4,none⟩=some (.int .i64 y.id)/\wr.cell? ⟨b,5,none⟩=some (.slice E1 y.keys.length e1)/\wr.cell? ⟨b,6,none⟩=some (.slice E2 y.items.length e2)/\wr.cell? ⟨b,7,none⟩=some (.slice E3 y.rest.length e3)))/\Hid (UC x w P K1 k1 I1 i1 R1 r1 wk H3 A c l i wr/\wr.heap[b]? = some (y.box E1 e1 E2 e2 E3 e3)):=by
 refine ⟨⟨⟨(Mh h.bx.box).1.1.1,(Mh h.bx.box).1.1.2.1⟩,?_⟩,h,hb⟩;refine ⟨?_,?_,?_,?_,?_,?_,?_,?_⟩ <;> (rw[AAC _ _ _ _ _ _ hb];rfl)
structure VcS (x:Val) (w:World) (P:Nat) (A1:zo) (c1:Nat) (A2:zo) (c2:Nat) (R1:zo) (r1:Nat) (j:Nat) (K1:zo) (k1:Nat) (I1:zo) (i1:Nat) (wr:World):Prop where
 bx:Qt x w P K1 k1 I1 i1 R1 r1 wr
 rest:Off (· < w.heap.size+2) wr fun u=>FB u R1 x.rest
 k0:j=0->K1=A1/\k1=c1
 kd:1<=j->Off (· < w.heap.size+2) wr fun u=>Cz u K1 x.keys
 i0:j<=1->I1=A2/\i1=c2
 id:2<=j->Off (· < w.heap.size+2) wr fun u=>Cz u I1 x.items
theorem Ip (w:World) (o o2:Obj):((w.alloc o).alloc o2).heap[w.heap.size]? = some o/\((w.alloc o).alloc o2).heap[w.heap.size+1]? = some o2/\((w.alloc o).alloc o2).heap.size=w.heap.size+2:=by
 refine ⟨FH (AAA w o) o2,?_,by simp⟩
 have h:=AAA (w.alloc o) o2
 rwa [show (w.alloc o).heap.size=w.heap.size+1 by simp] at h
theorem Yg {W:World} {A1:zo} {c1:Nat} {A2:zo} {c2:Nat} {A3:zo} {c3:Nat} (h:W.heap[b]? = some (v.box A1 c1 A2 c2 A3 c3)):
  W.cell? ⟨b,0,none⟩=some (.int .i64 v.kind)/\W.cell? ⟨b,1,none⟩=some (.bool v.bool)/\W.cell? ⟨b,2,none⟩=some (.int .i64 v.int)/\W.cell? ⟨b,3,none⟩=some (.string v.str)/\W.cell? ⟨b,4,none⟩=some (.int .i64 v.id)/\W.cell? ⟨b,5,none⟩=some (.slice A1 v.keys.length c1)/\W.cell? ⟨b,6,none⟩=some (.slice A2 v.items.length c2)/\W.cell? ⟨b,7,none⟩=some (.slice A3 v.rest.length c3):=by
 refine ⟨?_,?_,?_,?_,?_,?_,?_,?_⟩ <;> (rw[AAC _ _ _ _ _ _ h];rfl)
theorem gN {W0 w3:World} {A1:zo} {c1:Nat} {A2:zo} {c2:Nat} {A3:zo} {c3:Nat} (h0:W0.heap[w.heap.size]? = some (x.box A1 c1 A2 c2 A3 c3)) (h1:W0.heap[w.heap.size+1]? = some DJ) (hz:W0.heap.size=w.heap.size+2) (hb0:Below w.heap.size w W0) (hb:Below W0.heap.size W0 w3) (hr:FB w A3 x.rest) (hk:∀H3,w3.heap.size<=H3->BI 97 2 (fun _ x cs=>Af.At x cs) w3 W0.heap.size H3 w.heap.size R1 r1 x.rest x.rest.length):
  VcS x w w3.heap.size A1 c1 A2 c2 R1 r1 0 A1 c1 A2 c2 ((w3.setCell ⟨w.heap.size,7,none⟩ (.slice R1 x.rest.length r1)).alloc (RV w.heap.size)):=by
 have hs:=hb.size;have hbx:=zE h0 hb;have hn:((w3.setCell ⟨w.heap.size,7,none⟩ (.slice R1 x.rest.length r1)).alloc (RV w.heap.size)).heap[w3.heap.size]? = some (RV w.heap.size):=by
  have h:=AAA (w3.setCell ⟨w.heap.size,7,none⟩ (.slice R1 x.rest.length r1)) (RV w.heap.size)
  rwa [show (w3.setCell ⟨w.heap.size,7,none⟩ (.slice R1 x.rest.length r1)).heap.size=w3.heap.size by simp] at h
 refine ⟨⟨?_,?_,?_,hn,by omega⟩,?_,fun _=>⟨rfl,rfl⟩,fun h=>absurd h (by omega),fun _=>⟨rfl,rfl⟩,fun h=>absurd h (by omega)⟩
 ·refine FH ?_ _
  rw[AAK _ _ 7 _ _ _ hbx];rfl
 ·refine FH ?_ _
  rw[AAE _ _ _ _ (by simp)];exact zE h1 hb
 ·exact zB ((zB hb0 hb).setCell (p:=⟨w.heap.size,7,none⟩) (AAF _) _) (zD _ _)
 ·have h:=((hk _ (AAF _)).reH (H':=w.heap.size+2) (AAF _)).O (bytes:=24) (AAF _) (by omega) (by omega) hr.1
  exact (h.step (w1:=w3.setCell ⟨w.heap.size,7,none⟩ (.slice R1 x.rest.length r1)) (by simp) fun q hq _=>AAE _ _ _ _ (by simp only[ne_eq];omega)).alloc _
theorem Z8:∀ (n:Nat) (x:Val),SizeOf.sizeOf x<=n->∀ (A1:zo) (c1:Nat) (A2:zo) (c2:Nat) (A3:zo) (c3:Nat) (w:World),Ar w x A1 A2 A3 ->
  Calls prog 91 #[x.v A1 c1 A2 c2 A3 c3] w (Wh x w):=by
 intro n
 induction n with
 | zero=>intro x hx;exact absurd hx (by obtain ⟨k,b,i,s,d,ks,is,r⟩:=x;simp[Val.mk.sizeOf_spec])
 | succ n ih =>
 intro x hx A1 c1 A2 c2 A3 c3 w hr
 have IH:=zh ih;have HX:=zh hx;have HR:=zh hr;have HB0:=zh (zI w (x.box A1 c1 A2 c2 A3 c3) DJ);have BL:=zh (Ip w (x.box A1 c1 A2 c2 A3 c3) DJ);have hn1:x.keys.length<=1172812402961:=by have:=hr.keys.1;unfold EF at this;omega
 have hn2:x.items.length<=1172812402961:=by have:=hr.items.1;unfold EF at this;omega
 clear ih hx hr
 go_enter func91,ntmps91
 go_upto_region 1 with fail
 generalize (w.alloc (x.box A1 c1 A2 c2 A3 c3)).alloc DJ=W0 at *;have e7:=(Mh BL.O.1).1.1.2.2;go_wp2_with fail;refine (wW HR.O.rest HB0).mono ?_;rintro e w3 ⟨R1,r1,rfl,hb1,_,hk1⟩;have M9:=zh (gN BL.O.1 BL.O.2.1 BL.O.2.2 HB0 hb1 HR.O.rest hk1);obtain ⟨⟨_,_,e7b⟩,_,_,f7⟩:=(Mh (zE BL.O.1 hb1)).1
 have HPZ:Hid ((w3.setCell ⟨w.heap.size,7,none⟩ (.slice R1 x.rest.length r1)).heap.size=w3.heap.size):=by show _=_;simp
 clear hb1 hk1 e7 HB0 BL;go_upto_region 3 with fail
 clear e7b f7;generalize (w3.setCell ⟨w.heap.size,7,none⟩ (.slice R1 x.rest.length r1)).alloc (RV w.heap.size)=W2 at *;try rw[HPZ.O]
 generalize w3.heap.size=P at *
 go_loopw [15] (fun s wr=>∃ (j:Nat) (K1:zo) (k1:Nat) (I1:zo) (i1:Nat),j<=2/\s = .int .i64 j/\Hid (VcS x w P A1 c1 A2 c2 R1 r1 j K1 k1 I1 i1 wr)) (fun s _=>2 - (intOf s).toNat)
 case atStart=>exact ⟨0,A1,c1,A2,c2,by omega,rfl,M9.O⟩
 case round =>
  obtain ⟨j,K1,k1,I1,i1,hj,rfl,hh⟩:=hrel;obtain ⟨wk,rfl⟩:∃wk:World,wk=wr:=⟨_,rfl⟩;have HJ:j=0\/j=1\/j=2:=by omega
  have HST:=zh hh.O;have PL:=zh hh.O.rest;have HB:=zh hh.O.bx;obtain ⟨p0,p1⟩:=hh.O.bx.cells;have hpl:=hh.O.bx.lt;obtain ⟨e5,e6,e7⟩:=(Mh hh.O.bx.box).1.1;clear hh hj
  rcases HJ with rfl|rfl|rfl
  ·obtain ⟨rfl,rfl⟩:=HST.O.k0 (by omega)
   obtain ⟨rfl,rfl⟩:=HST.O.i0 (by omega)
   have HPK:=zh hpl;have h1:(0:Int)<=((0:Nat):Int):=by omega
   have h2:((0:Nat):Int)<2:=by omega
   go_wp2_with fail
   refine (lg HR.O.keys HB.O.Cm).mono ?_;rintro e w5 ⟨B1,d1,rfl,hb1,_,hk1⟩;obtain ⟨_,f5,f6,_⟩:=(Mh (zE HB.O.box hb1)).1;have rZ:=zh ((HB.O.below hb1).key B1 d1);have xR:=zh (UC.start rZ HPK hb1 hk1);have HKP:Hid (∀wr,EO (w.heap.size+2) wk wr->(Off (· < w.heap.size+2) wr fun u=>FB u R1 x.rest)):=fun wr hkp=>hkp.off PL
   have e5b:=(Mh (zE HB.O.box hb1)).1.1.1;have e6b:=(Mh (zE HB.O.box hb1)).1.1.2.1;clear p0 p1 hpl e5 e6 e7 PL hb1 hk1 HST HB;go_upto_region 6 with fail
   clear e5b e6b f5 f6;generalize w5.heap.size=H3 at *;generalize w5.setCell ⟨w.heap.size,5,none⟩ (.slice B1 x.keys.length d1)=W5 at *;have e5:W5.cell? ⟨w.heap.size,5,none⟩=some (.slice B1 x.keys.length d1):=(Mh rZ.O.box).1.1.1;go_wp2;clear e5
   go_loopw [29] (fun s wr=>∃i:Nat,i<=x.keys.length/\s = .int .i64 i/\Hid (UC x w P B1 d1 I1 i1 R1 r1 wk H3 B1 d1 x.keys i wr)) (fun s _=>x.keys.length - (intOf s).toNat)
   case atStart=>exact ⟨0,by omega,rfl,xR.O⟩
   case round =>
    obtain ⟨i,hi,rfl,hh⟩:=hrel;obtain ⟨wo,rfl⟩:∃wo:World,wo=wr:=⟨_,rfl⟩
    by_cases hlt:i<x.keys.length
    ·obtain ⟨g,cs,rfl,hg0,hg1,_,hoff,hrg,_⟩:=hh.O.row.next hlt
     obtain ⟨E1,e1,E2,e2,E3,e3,rfl,cZ⟩:=Val.Hu.1 hoff.O;have E5:=zh (Nat.le_of_lt_succ (ABa (Val.aT (AAL hlt)) HX));obtain ⟨a0,a1,a2,a3,a4,a5,a6,a7⟩:=Ji hrg;have hz1:=zL a0;simp only at hz1;have h1:(0:Int)<=(i:Int):=by omega
     have h2:(i:Int)<(x.keys.length:Int):=by omega
     have UF:=zh (hh.O.below (zD wo ((x.keys[i]).box E1 e1 E2 e2 E3 e3)));have HXB:=zh (AAA wo ((x.keys[i]).box E1 e1 E2 e2 E3 e3));have HVV:=zh (cZ.below (zD wo ((x.keys[i]).box E1 e1 E2 e2 E3 e3)));clear hg0 hg1 hoff cZ hrg;go_upto_region 9 with fail
     generalize wo.alloc ((x.keys[i]).box E1 e1 E2 e2 E3 e3)=wc at *;clear a0 a1 a2 a3 a4 a5 a6 a7
     refine yE (S:=(fun w'=>((w'.cell? ⟨w.heap.size,5,none⟩=some (.slice (some ⟨g,0,none⟩) x.keys.length d1)/\w'.cell? ⟨w.heap.size,6,none⟩=some (.slice I1 x.items.length i1))/\(w'.cell? ⟨wo.heap.size,0,none⟩=some (.int .i64 (x.keys[i]).kind)/\w'.cell? ⟨wo.heap.size,1,none⟩=some (.bool (x.keys[i]).bool)/\w'.cell? ⟨wo.heap.size,2,none⟩=some (.int .i64 (x.keys[i]).int)/\w'.cell? ⟨wo.heap.size,3,none⟩=some (.string (x.keys[i]).str)/\w'.cell? ⟨wo.heap.size,4,none⟩=some (.int .i64 (x.keys[i]).id)/\w'.cell? ⟨wo.heap.size,5,none⟩=some (.slice E1 (x.keys[i]).keys.length e1)/\w'.cell? ⟨wo.heap.size,6,none⟩=some (.slice E2 (x.keys[i]).items.length e2)/\w'.cell? ⟨wo.heap.size,7,none⟩=some (.slice E3 (x.keys[i]).rest.length e3)))/\Hid (UC x w P (some ⟨g,0,none⟩) d1 I1 i1 R1 r1 wk H3 (some ⟨g,0,none⟩) d1 x.keys i w'/\w'.heap[wo.heap.size]? = some ((x.keys[i]).box E1 e1 E2 e2 E3 e3)))) 7 (by kernel_rfl) ?_ (fun AQ=>?_)
     ·(try dsimp only);exact Ox (UF.O.below (zC (Pe _ _) 1)) HXB
     refine tC 0 ?_;refine tC 1 ?_;refine tB 2 ?_;refine tC 3 ?_;refine tB 4 ?_;refine tS 5 (fun K hK=>?_)
     go_simp
     (refine (IH.O x.keys[i] E5.O E1 e1 E2 e2 E3 e3 _ (HVV.O.below (zC (Pe _ _) 1))).mono ?_;rintro e w6 ⟨F1,f1,F2,f2,F3,f3,rfl,hoff,hb6⟩;have xg:=zh hoff;have Wn:=zh (AQ.2.O.1.hi);clear hoff)
     refine hK.out _ _ ?_ (fun AQ=>?_)
     ·(try dsimp only);exact Ox (AQ.2.O.1.below hb6) ((hb6.block _ (zg.1 AQ.2.O.2).1).trans AQ.2.O.2)
     clear hK K;try simp only[ps]
     refine tC 6 ?_;refine zV (rs:=[7]) (by kernel_rfl) (by simp) ?_
     refine AB.last rfl (by kernel_rfl) (fun K hK=>?_) AB.nil
     (have HH6:=zh AQ.2.O.1;simp only[List.getElem_toArray,List.getElem_cons_zero,List.getElem_cons_succ];rw[AAB (by rfl)];refine wp_store_mid 28 (.tmp 40) (.tmp 39) rfl (g) (i * 8) (#[.int .i64 (x.keys[i]).kind,.bool (x.keys[i]).bool,.int .i64 (x.keys[i]).int,.string (x.keys[i]).str,.int .i64 (x.keys[i]).id,.slice F1 (x.keys[i]).keys.length f1,.slice F2 (x.keys[i]).items.length f2,.slice F3 (x.keys[i]).rest.length f3]) (by rfl) (by rfl) ?_ ?_ ?_ ?_;(exact AQ.2.O.1.row.there hlt rfl);(exact zW);(exact val_one _ _ _ _ _ _ _))
     refine hK.out _ _ ?_;clear hK K
     (try clear AQ)
     refine wpAny_done (by kernel_rfl) ?_ _
     have HN:=zh (HH6.O.write hlt rfl Wn xg (f1:=f1) (f2:=f2) (f3:=f3));clear AQ;go_wp2;go_roundw
     case rel=>exact ⟨i+1,by omega,by go_num,HN.O⟩
     case measure=>simp[intOf];omega
    ·obtain rfl:i=x.keys.length:=by omega
     have xZ:=zh (hh.O.O (AAF _) HR.O.keys.1);have sI:=zh (HKP.O _ hh.O.kp);have Ll:=zh hh.O.bx;clear hh;go_wp2;go_roundw
     case rel=>exact ⟨0+1,B1,d1,I1,i1,by omega,by go_num,Ll.O,sI.O,fun h=>absurd h (by omega),fun _=>xZ.O,fun _=>⟨rfl,rfl⟩,fun h=>absurd h (by omega)⟩
     case measure=>simp[intOf]
  ·obtain ⟨rfl,rfl⟩:=HST.O.i0 (by omega)
   have HFK:=zh (HST.O.kd (by omega))
   have HPK:=zh hpl;have h1:(0:Int)<=((1:Nat):Int):=by omega
   have h2:((1:Nat):Int)<2:=by omega
   go_wp2_with fail
   refine (lg HR.O.items HB.O.Cm).mono ?_;rintro e w5 ⟨B1,d1,rfl,hb1,_,hk1⟩;obtain ⟨_,f5,f6,_⟩:=(Mh (zE HB.O.box hb1)).1;have rZ:=zh ((HB.O.below hb1).item B1 d1);have xR:=zh (UC.start rZ HPK hb1 hk1)
   have HKP:Hid (∀wr,EO (w.heap.size+2) wk wr->(Off (· < w.heap.size+2) wr fun u=>FB u R1 x.rest)/\Off (· < w.heap.size+2) wr fun u=>Cz u K1 x.keys):=fun wr hkp=>⟨hkp.off PL,hkp.off HFK⟩
   have e5b:=(Mh (zE HB.O.box hb1)).1.1.1;have e6b:=(Mh (zE HB.O.box hb1)).1.1.2.1;clear p0 p1 hpl e5 e6 e7 PL hb1 hk1 HST HB;go_upto_region 6 with fail
   clear e5b e6b f5 f6;generalize w5.heap.size=H3 at *;generalize w5.setCell ⟨w.heap.size,6,none⟩ (.slice B1 x.items.length d1)=W5 at *;have e5:W5.cell? ⟨w.heap.size,6,none⟩=some (.slice B1 x.items.length d1):=(Mh rZ.O.box).1.1.2.1;go_wp2;clear e5
   go_loopw [29] (fun s wr=>∃i:Nat,i<=x.items.length/\s = .int .i64 i/\Hid (UC x w P K1 k1 B1 d1 R1 r1 wk H3 B1 d1 x.items i wr)) (fun s _=>x.items.length - (intOf s).toNat)
   case atStart=>exact ⟨0,by omega,rfl,xR.O⟩
   case round =>
    obtain ⟨i,hi,rfl,hh⟩:=hrel;obtain ⟨wo,rfl⟩:∃wo:World,wo=wr:=⟨_,rfl⟩
    by_cases hlt:i<x.items.length
    ·obtain ⟨g,cs,rfl,hg0,hg1,_,hoff,hrg,_⟩:=hh.O.row.next hlt
     obtain ⟨E1,e1,E2,e2,E3,e3,rfl,cZ⟩:=Val.Hu.1 hoff.O;have E5:=zh (Nat.le_of_lt_succ (ABa (Val.XF (AAL hlt)) HX));obtain ⟨a0,a1,a2,a3,a4,a5,a6,a7⟩:=Ji hrg;have hz1:=zL a0;simp only at hz1;have h1:(0:Int)<=(i:Int):=by omega
     have h2:(i:Int)<(x.items.length:Int):=by omega
     have UF:=zh (hh.O.below (zD wo ((x.items[i]).box E1 e1 E2 e2 E3 e3)));have HXB:=zh (AAA wo ((x.items[i]).box E1 e1 E2 e2 E3 e3));have HVV:=zh (cZ.below (zD wo ((x.items[i]).box E1 e1 E2 e2 E3 e3)));clear hg0 hg1 hoff cZ hrg;go_upto_region 9 with fail
     generalize wo.alloc ((x.items[i]).box E1 e1 E2 e2 E3 e3)=wc at *;clear a0 a1 a2 a3 a4 a5 a6 a7
     refine yE (S:=(fun w'=>((w'.cell? ⟨w.heap.size,5,none⟩=some (.slice K1 x.keys.length k1)/\w'.cell? ⟨w.heap.size,6,none⟩=some (.slice (some ⟨g,0,none⟩) x.items.length d1))/\(w'.cell? ⟨wo.heap.size,0,none⟩=some (.int .i64 (x.items[i]).kind)/\w'.cell? ⟨wo.heap.size,1,none⟩=some (.bool (x.items[i]).bool)/\w'.cell? ⟨wo.heap.size,2,none⟩=some (.int .i64 (x.items[i]).int)/\w'.cell? ⟨wo.heap.size,3,none⟩=some (.string (x.items[i]).str)/\w'.cell? ⟨wo.heap.size,4,none⟩=some (.int .i64 (x.items[i]).id)/\w'.cell? ⟨wo.heap.size,5,none⟩=some (.slice E1 (x.items[i]).keys.length e1)/\w'.cell? ⟨wo.heap.size,6,none⟩=some (.slice E2 (x.items[i]).items.length e2)/\w'.cell? ⟨wo.heap.size,7,none⟩=some (.slice E3 (x.items[i]).rest.length e3)))/\Hid (UC x w P K1 k1 (some ⟨g,0,none⟩) d1 R1 r1 wk H3 (some ⟨g,0,none⟩) d1 x.items i w'/\w'.heap[wo.heap.size]? = some ((x.items[i]).box E1 e1 E2 e2 E3 e3)))) 7 (by kernel_rfl) ?_ (fun AQ=>?_)
     ·(try dsimp only);exact Ox (UF.O.below (zC (Pe _ _) 1)) HXB
     refine tC 0 ?_;refine tC 1 ?_;refine tB 2 ?_;refine tC 3 ?_;try simp only[ps]
     refine tB 4 ?_;refine tS 5 (fun K hK=>?_)
     go_simp
     (refine (IH.O x.items[i] E5.O E1 e1 E2 e2 E3 e3 _ (HVV.O.below (zC (Pe _ _) 1))).mono ?_;rintro e w6 ⟨F1,f1,F2,f2,F3,f3,rfl,hoff,hb6⟩;have xg:=zh hoff;have Wn:=zh (AQ.2.O.1.hi);clear hoff)
     refine hK.out _ _ ?_ (fun AQ=>?_)
     ·(try dsimp only);exact Ox (AQ.2.O.1.below hb6) ((hb6.block _ (zg.1 AQ.2.O.2).1).trans AQ.2.O.2)
     clear hK K;refine tC 6 ?_;refine zV (rs:=[7]) (by kernel_rfl) (by simp) ?_
     refine AB.last rfl (by kernel_rfl) (fun K hK=>?_) AB.nil
     (have HH6:=zh AQ.2.O.1;simp only[List.getElem_toArray,List.getElem_cons_zero,List.getElem_cons_succ];rw[AAB (by rfl)];refine wp_store_mid 28 (.tmp 40) (.tmp 39) rfl (g) (i * 8) (#[.int .i64 (x.items[i]).kind,.bool (x.items[i]).bool,.int .i64 (x.items[i]).int,.string (x.items[i]).str,.int .i64 (x.items[i]).id,.slice F1 (x.items[i]).keys.length f1,.slice F2 (x.items[i]).items.length f2,.slice F3 (x.items[i]).rest.length f3]) (by rfl) (by rfl) ?_ ?_ ?_ ?_;(exact AQ.2.O.1.row.there hlt rfl);(exact zW);(exact val_one _ _ _ _ _ _ _))
     refine hK.out _ _ ?_;clear hK K
     (try clear AQ)
     refine wpAny_done (by kernel_rfl) ?_ _
     have HN:=zh (HH6.O.write hlt rfl Wn xg (f1:=f1) (f2:=f2) (f3:=f3));clear AQ;go_wp2;go_roundw
     case rel=>exact ⟨i+1,by omega,by go_num,HN.O⟩
     case measure=>simp[intOf];omega
    ·obtain rfl:i=x.items.length:=by omega
     have xZ:=zh (hh.O.O (AAF _) HR.O.items.1);have sI:=zh (HKP.O _ hh.O.kp);have Ll:=zh hh.O.bx;clear hh;go_wp2;go_roundw
     case rel=>exact ⟨1+1,K1,k1,B1,d1,by omega,by go_num,Ll.O,sI.O.1,fun h=>absurd h (by omega),fun _=>sI.O.2,fun h=>absurd h (by omega),fun _=>xZ.O⟩
     case measure=>simp[intOf]
  ·have HF:=zh (HB.O.zero HR.O.str (HST.O.kd (by omega)) (HST.O.id (by omega)) HST.O.rest)
   have KC:Hid (wk.there (w.heap.size+1) 0 8):=zh (Cb HB.O.res);have q2:¬ (((2:Nat):Int))<2:=by omega
   obtain ⟨v0,v1,v2,v3,v4,v5,v6,v7⟩:=Yg HB.O.box;clear p0 p1 hpl e5 e6 e7 PL
   go_wp2_with (refine wpList_store_mid rfl 28 (.tmp 2) (.tmp 43) rfl (w.heap.size+1) 0 #[.int .i64 x.kind,.bool x.bool,.int .i64 x.int,.string x.str,.int .i64 x.id,.slice K1 x.keys.length k1,.slice I1 x.items.length i1,.slice R1 x.rest.length r1] (by rfl) (by rfl) ?_ ?_ ?_ ?_;(exact KC.O);(exact zW);(exact val_one x _ _ _ _ _ _))
   obtain ⟨⟨k0,k1',k2,k3,k4,k5,k6,k7⟩,hfin⟩:=HF.O;have HFF:=zh hfin;clear hfin;exact bodyPost_ret (v:=x.v K1 k1 I1 i1 R1 r1) (by simp[results,results91,go_sem,k0,k1',k2,k3,k4,k5,k6,k7]) rfl ⟨K1,k1,I1,i1,R1,r1,rfl,HFF.O.1,HFF.O.2⟩
theorem UO (x:Val) (A1:zo) (c1:Nat) (A2:zo) (c2:Nat) (A3:zo) (c3:Nat) (w:World) (h:Ar w x A1 A2 A3):Calls prog 91 #[x.v A1 c1 A2 c2 A3 c3] w (Wh x w) :=
 Z8 _ x (AAF _) A1 c1 A2 c2 A3 c3 w h
def FW (t:AJ):List Value:=[.int .i64 t.kind,.string t.text,.int .i64 t.int,.string t.str,.int .i64 t.line]
def AJ.At (t:AJ) (cs:List Value):Prop:=(Cw t.text/\Cw t.str)/\cs=FW t
def Ew (w:World) (A:zo) (l:List AJ):Prop:=AY 5 56 AJ.At w A l
theorem Ew.below (h:Ew w A l) (hb:Below w.heap.size w w'):Ew w' A l:=AY.imp h (fun _ _ _ h=>h) hb
theorem Ew.YK (h:Ew w A l) (hi:i<l.length):∃b o,A=some ⟨b,o,none⟩/\(Cw l[i].text/\Cw l[i].str)/\w.rangeAt b (o+i * 5) (FW l[i]):=by
 obtain ⟨b,o,cs,e,⟨h0,rfl⟩,h2⟩:=AY.at_ h hi;exact ⟨b,o,e,h0,h2⟩
theorem Ew.cells (h:Ew w A l) (hi:i<l.length):∃b o,A=some ⟨b,o,none⟩/\(Cw l[i].text/\Cw l[i].str) /\
  w.cell? ⟨b,o+i * 5,none⟩=some (.int .i64 l[i].kind)/\w.cell? ⟨b,o+i * 5+1,none⟩=some (.string l[i].text)/\w.cell? ⟨b,o+i * 5+2,none⟩=some (.int .i64 l[i].int)/\w.cell? ⟨b,o+i * 5+3,none⟩=some (.string l[i].str)/\w.cell? ⟨b,o+i * 5+4,none⟩=some (.int .i64 l[i].line):=by
 obtain ⟨b,o,e,h0,h2⟩:=h.YK hi;exact ⟨b,o,e,h0,h2 0 _ rfl,h2 1 _ rfl,h2 2 _ rfl,h2 3 _ rfl,h2 4 _ rfl⟩
abbrev N8:=AZ 59 5 FW
theorem IZ:Elem 50 59 5 56:=⟨underlying50,⟨.agg #[.int .i64 0,.string ⟨#[]⟩,.int .i64 0,.string ⟨#[]⟩,.int .i64 0],by kernel_rfl,rfl⟩,by omega⟩
theorem N8.toks {base:Nat} {v:Value} (h:N8 w base v l) (hl:EF 56 l.length) (hs:∀t∈l,Cw t.text/\Cw t.str):∃A c,v = .slice A l.length c/\Ew w A l:=AZ.rows h (fun _=>rfl) hl fun t ht=>⟨hs t ht,rfl⟩
theorem VB {T E:TypeId} {size bytes:Nat} (hE:Elem T E size bytes) (w:World) (base:Nat) (ty:TypeId) (v:Value) (n:Nat) (xs:List Value) (h:w.ownsRow base E size v n xs) (b o m c:Nat) (news:List Value) (hl:news.length=m * size)
  (hnews:w.rangeAt b o news) (h1:∀u∈news,u.oneCell'=true) (hlen:n+m<=9223372036854775807) (hby:(n+m) * bytes<=140737488355328) (hb:base<=w.heap.size) :
  ∃v' w',(Builtin.append_ #[T,T] ty #[v,.slice (some ⟨b,o,none⟩) m c]).run prog w = .ok v' w'/\w'.ownsRow base E size v' (n+m) (xs++news)/\w.grownBy w' v.ownBlock/\(v'.ownBlock=v.ownBlock\/v'.ownBlock=some w.heap.size):=by
 obtain ⟨z,QJ,hzs⟩:=hE.info;obtain ⟨i0,hi,hz0,hz1,hz2⟩:=info_parts QJ;obtain ⟨v',w',hr,h2,h3,_,h5⟩:=run_append_own_at (P:=prog) w base T ty E i0 z size bytes hE.under hi hz0 hz1 hz2 hzs hE.pos v n xs h ⟨b,o,none⟩ m c news hl (fun j u hj=>by rw[Addr.add_mid];exact hnews j u hj) h1 (by unfold maxLen;omega) hby hb
 exact ⟨v',w',hr,h2,h3,h5⟩
theorem yH {T E:TypeId} {size bytes:Nat} (hE:Elem T E size bytes) {ops:Array Oper} {op:Oper} {a:Act} {K:Act->World->Prop} {Q:Exit->Act->World->Prop} {El:Prop} (hgd:op.guard=none) (s x:Operand) (ho:op.op = .call { callee := .builtin .append,args:=#[s,x],argTypes:=#[T,T] }) (base:Nat) (v:Value) (n:Nat) (xs:List Value) (hs:a.eval s=v) (h:w.ownsRow base E size v n xs) (b o m c:Nat) (news:List Value) (hx:a.eval x = .slice (some ⟨b,o,none⟩) m c) (hl:news.length=m * size) (hnews:w.rangeAt b o news) (h1:∀u∈news,u.oneCell'=true) (hlen:n+m<=9223372036854775807) (hby:(n+m) * bytes<=140737488355328) (hb:base<=w.heap.size) (hk:∀v' w',w'.ownsRow base E size v' (n+m) (xs++news)->w.grownBy w' v.ownBlock->(v'.ownBlock=v.ownBlock\/v'.ownBlock=some w.heap.size)->K (a.put op.dst v') w'):if Region.wanted op (yielded ops a.tmps)=true then Oper.wp prog op a w K Q else El:=by
 have hw:Region.wanted op (yielded ops a.tmps)=true:=by simp[Region.wanted,hgd]
 rw[AAB hw];obtain ⟨v',w',hr,h2,h3,h5⟩:=VB hE w base op.type v n xs h b o m c news hl hnews h1 hlen hby hb;unfold Oper.wp execOp;simp only[ho,resolve,invoke,builtin,Sem.run_bind,Sem.run_pure,Result.andThen_ok,List.map_toArray,ABh,List.map_nil,hs,hx,hr];exact hk v' w' h2 h3 h5
theorem Off.grow {S S':Nat->Prop} {w1:World} {P:World->Prop} (h:Off S w P) (hs:∀q,q<w.heap.size->S' q->S q) (hk:∀q,q<w.heap.size->¬ S q->w1.heap[q]? = w.heap[q]?) (hz:w.heap.size<=w1.heap.size):Off S' w1 P :=
 fun w' hw=>h w' fun q hq hl=>(hw q (fun h'=>hq (hs q hl h')) (by omega)).trans (hk q hl hq)
theorem Au {o:Obj} (h:w.heap[g]? = some o) (hb:Below w.heap.size w w'):w'.heap[g]? = some o:=(hb.block _ (zg.1 h).1).trans h
