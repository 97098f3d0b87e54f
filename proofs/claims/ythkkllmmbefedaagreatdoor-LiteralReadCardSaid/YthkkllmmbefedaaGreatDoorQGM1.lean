/-
  Walks: the reference's rest.
-/
import Derived.Test.YthkkllmmbefedaaGreatDoorQGM0
namespace Go.Proofs.YthkkllmmbefedaaGreatDoor
open Go.RowKit
set_option maxHeartbeats 16000000
set_option maxRecDepth 100000
theorem Rv (a b:Val) (hk:a.kind=b.kind) (sN:1<=a.kind/\a.kind<=4) (hi:a.kind=2->In64 a.int/\In64 b.int) (_hz:a.str.size<=9223372036854775807/\b.str.size<=9223372036854775807) (A1:zo) (c1:Nat) (A2:zo) (c2:Nat) (A3:zo) (c3:Nat) (B1:zo) (d1:Nat) (B2:zo) (d2:Nat) (B3:zo) (d3:Nat) (w:World) :
  Calls Tryz.prog 107 #[a.v A1 c1 A2 c2 A3 c3,b.v B1 d1 B2 d2 B3 d3] w fun e w'=>e = .returned (.int .i64 (Cg a b))/\Below w.heap.size w w':=by
 have HB:=zh (zI w (a.box A1 c1 A2 c2 A3 c3) (b.box B1 d1 B2 d2 B3 d3));have HX:=zh (EP (AAA w (a.box A1 c1 A2 c2 A3 c3)) (b.box B1 d1 B2 d2 B3 d3));have HY:Hid (((w.alloc (a.box A1 c1 A2 c2 A3 c3)).alloc (b.box B1 d1 B2 d2 B3 d3)).heap[w.heap.size+1]? = some (b.box B1 d1 B2 d2 B3 d3)):=by
  have:=AAA (w.alloc (a.box A1 c1 A2 c2 A3 c3)) (b.box B1 d1 B2 d2 B3 d3);rw[show (w.alloc (a.box A1 c1 A2 c2 A3 c3)).heap.size=w.heap.size+1 by simp] at this
  exact this
 have q0:(a.kind != b.kind)=false:=by simp[hk]
 have hk4:a.kind=1\/a.kind=2\/a.kind=3\/a.kind=4:=by omega
 have HK:=zh hk;have HI:=zh hi;clear hk sN hi
 go_enter Tryz.func107,Tryz.ntmps107
 go_upto_region 1 with fail
 generalize (w.alloc (a.box A1 c1 A2 c2 A3 c3)).alloc (b.box B1 d1 B2 d2 B3 d3)=W1 at *;obtain ⟨u0,u1,u2,u3,u4,u5,u6,u7⟩:=zF HX;obtain ⟨v0,v1,v2,v3,v4,v5,v6,v7⟩:=zF HY
 rcases hk4 with e|e|e|e
 ·have q1:(a.kind==1)=true:=by simp[e]
  have HD:=zh (uj HK e);obtain ⟨X,hX⟩:∃X,(a.bool==b.bool)=X:=⟨_,rfl⟩;rw[hX] at HD;clear e;go_wp2_with fail;refine (Ei b.bool X _).mono ?_;rintro e w2 ⟨rfl,rfl⟩;go_wp2;go_ret;exact ⟨by rw[HD.out];rfl,HB.out⟩
 ·have q1:(a.kind==1)=false:=by simp[e]
  have q2:(a.kind==2)=true:=by simp[e]
  have HD:=zh (uh HK e);have HI2:=zh (HI.out e);have FD:Hid (∀w',Below W1.heap.size W1 w'->(w'.cell? ⟨w.heap.size,2,none⟩=some (.int .i64 a.int)/\w'.cell? ⟨w.heap.size+1,2,none⟩=some (.int .i64 b.int))):=fun w' hb=>⟨zA hb u2,zA hb v2⟩
  clear e;go_upto_region 7 with fail
  clear u0 u1 u2 u3 u4 u5 u6 u7 v0 v1 v2 v3 v4 v5 v6 v7;refine zr (Y:=fun w'=>Hid (Below W1.heap.size W1 w')) FD (by kernel_rfl) ?_ (fun AU=>?_)
  ·(try dsimp only);exact ⟨FD.out _ (zC (Pd _ _) 1),zC (Pd _ _) 1⟩
  refine tL 0 ?_;refine tL 1 ?_;refine tL 3 ?_;refine tL 4 ?_;refine tL 7 ?_;refine tL 8 ?_;try simp only[ps]
  refine tL 9 ?_;refine tL 10 ?_;refine tL 11 ?_;refine tR 2 (fun K hK=>?_)
  go_simp
  (refine (UB a.int HI2.out.1 _).mono ?_;rintro e w2 ⟨rfl,rfl⟩)
  refine hK.out _ _ ?_ (fun AU=>?_)
  ·(try dsimp only);exact AU
  clear hK K;refine tR 5 (fun K hK=>?_)
  go_simp
  (refine (UB b.int HI2.out.2 _).mono ?_;rintro e w2 ⟨rfl,rfl⟩)
  refine hK.out _ _ ?_ (fun AU=>?_)
  ·(try dsimp only);exact AU
  clear hK K;refine tL 6 ?_;try simp only[ps]
  refine tR 12 (fun K hK=>?_)
  go_simp
  (refine (Ei (decide (QC a.int<QC b.int)) (a.int==b.int) _).mono ?_;rintro e w2 ⟨rfl,rfl⟩)
  refine hK.out _ _ ?_ (fun AU=>?_)
  ·(try dsimp only);exact AU
  clear hK K;refine tL 13 ?_;refine wpAnyH_done (by kernel_rfl) ?_ _
  (have JV:=zh (zB HB AU.2.out);clear AU;go_wp2;go_ret;exact ⟨by rw[HD.out];rfl,JV.out⟩)
 ·have q1:(a.kind==1)=false:=by simp[e]
  have q2:(a.kind==2)=false:=by simp[e]
  have q3:(a.kind==3)=true:=by simp[e]
  by_cases hs:(a.str.size:Int)=b.str.size
  ·have HD:=zh (qI HK e hs)
   have z1:((a.str.size:Int) != (b.str.size:Int))=false:=by simp only[bne_eq_false_iff_eq];exact hs
   obtain ⟨Y,hY⟩:∃Y,Op.bytesLess a.str.toList b.str.toList=Y:=⟨_,rfl⟩;obtain ⟨X,hX⟩:∃X,(a.str.toList==b.str.toList)=X:=⟨_,rfl⟩;have HD2:Hid (Cg a b=Mx Y X):=by show _=_;rw[HD.out,<-hY,<-hX,bytes_beq];rfl
   clear e hs HD;go_wp2_with fail;refine (Ei Y X _).mono ?_;rintro e w2 ⟨rfl,rfl⟩;go_wp2;go_ret;exact ⟨by rw[HD2.out];rfl,HB.out⟩
  ·have HD:=zh (qJ HK e hs)
   have z1:((a.str.size:Int) != (b.str.size:Int))=true:=by simp only[bne_iff_ne];exact hs
   obtain ⟨Y,hY⟩:∃Y,decide ((a.str.size:Int)<(b.str.size:Int))=Y:=⟨_,rfl⟩;rw[hY] at HD;clear e hs
   cases Y with
   | true =>
    have z2:(a.str.size:Int)<(b.str.size:Int):=AAm hY;clear hY;go_wp2_with fail;refine (Ei true false _).mono ?_;rintro e w2 ⟨rfl,rfl⟩;go_wp2;go_ret;exact ⟨by rw[HD.out];rfl,HB.out⟩
   | false =>
    have z2:¬ (a.str.size:Int)<(b.str.size:Int):=of_decide_eq_false hY;clear hY;go_wp2_with fail;refine (Ei false false _).mono ?_;rintro e w2 ⟨rfl,rfl⟩;go_wp2;go_ret;exact ⟨by rw[HD.out];rfl,HB.out⟩
 ·have q1:(a.kind==1)=false:=by simp[e]
  have q2:(a.kind==2)=false:=by simp[e]
  have q3:(a.kind==3)=false:=by simp[e]
  have q4:(a.kind==4)=true:=by simp[e]
  have HD:=zh (ug HK e);clear e;go_wp2_with fail;refine (Ei (decide (a.id<b.id)) (a.id==b.id) _).mono ?_;rintro e w2 ⟨rfl,rfl⟩;go_wp2;go_ret;exact ⟨by rw[HD.out];rfl,HB.out⟩
theorem Y8 (x:AZ) (As:zo) (cs:Nat) (Am:zo) (cm:Nat) (l:List Ac) (B:zo) (d:Nat) (w:World) (ht:Ic w x As Am) (hl:FR w B l) :
  Calls Tryz.prog 105 #[x.v As cs Am cm,.slice B l.length d] w fun e w'=>e = .returned (.bool (Dh x l))/\Below w.heap.size w w':=by
 have hlr:=hl.1.lt (by omega)
 have HB:=zh (zD w (x.box As cs Am cm));have HX:Hid (Bf (w.alloc (x.box As cs Am cm)) w.heap.size x As cs Am cm):=AAA w _;have HT:=zh (ht.below HB);have HL:=zh (hl.below HB);obtain ⟨X,hX⟩:∃X,Dh x l=X:=⟨_,rfl⟩;rw[hX];have HE:=zh hX;clear ht hl hX
 go_enter Tryz.func105,Tryz.ntmps105
 go_upto_region 1 with fail
 generalize w.alloc (x.box As cs Am cm)=W1 at *;go_wp2_with fail
 go_loopw [5] (fun i wr=>∃k:Nat,k<=l.length/\i = .int .i64 (k:Int)/\Hid ((∀j (h:j<l.length),j<k->GL x l[j]=true)/\(∀j (h:j+1<l.length),j+1<k->(l[j]).id<(l[j+1]).id)/\Below W1.heap.size W1 wr)) (fun i _=>l.length - (intOf i).toNat)
 case atStart=>exact ⟨0,by omega,rfl,(fun j _ h=>absurd h (by omega)),(fun j _ h=>absurd h (by omega)),Pd _ _⟩
 case round =>
  obtain ⟨k,hk,rfl,hh⟩:=hrel;have TK:=zh hh.out.1;have HAS:=zh hh.out.2.1;have EO:=zh hh.out.2.2;have F8:=zh (zB HB EO);clear hh;obtain ⟨wk,rfl⟩:∃wk:World,wk=wr:=⟨_,rfl⟩
  by_cases hlt:k<l.length
  ·obtain ⟨rb,ro,hA,_,a0,a1⟩:=(HL.out.below EO).at2 hlt
   subst hA;have HLk:=zh (HL.out.below EO);have HXk:=zh (HX.out.below EO);obtain ⟨b0,b1,b2,b3,b4,b5,b6,b7,b8,b9⟩:=zG HXk;have h1:(0:Int)<=(k:Int):=by omega
   have h2:(k:Int)<(l.length:Int):=by omega
   obtain ⟨an,han⟩:∃an,(x.AA.any fun y=>decide (y.id=(l[k]).id))=an:=⟨_,rfl⟩
   have hcall:=fun w' hb=>UD (l[k]).id x As cs Am cm w' ((HT.out.below EO).below hb)
   simp only[han] at hcall;have NP:=zh hcall;have HRO:Hid (GL x l[k]=(!an&&Aq (l[k]).id)):=by show _=_;unfold GL;rw[han]
   clear hcall han
   have ru:Hid (∀w',Below wk.heap.size wk w'->(w'.cell? ⟨w.heap.size,0,none⟩=some (.int .i64 x.kind)/\w'.cell? ⟨w.heap.size,1,none⟩=some (.string x.name)/\w'.cell? ⟨w.heap.size,2,none⟩=some (.int .i64 x.low)/\w'.cell? ⟨w.heap.size,3,none⟩=some (.int .i64 x.high)/\w'.cell? ⟨w.heap.size,4,none⟩=some (.int .i64 x.max)/\w'.cell? ⟨w.heap.size,5,none⟩=some (.slice As x.Ab.length cs)/\w'.cell? ⟨w.heap.size,6,none⟩=some (.slice Am x.AA.length cm)/\w'.cell? ⟨w.heap.size,7,none⟩=some (.int .i64 x.key)/\w'.cell? ⟨w.heap.size,8,none⟩=some (.int .i64 x.elem)/\w'.cell? ⟨w.heap.size,9,none⟩=some (.bool x.open_)/\w'.cell? ⟨rb,ro+k * 2,none⟩=some (.int .i64 (l[k]).id))):=fun w' hb=>⟨zA hb b0,zA hb b1,zA hb b2,zA hb b3,zA hb b4,zA hb b5,zA hb b6,zA hb b7,zA hb b8,zA hb b9,zA hb a0⟩
   clear b0 b1 b2 b3 b4 b5 b6 b7 b8 b9 a0 a1;go_upto_region 4 with fail
   refine zr (Y:=fun w'=>Hid (Below wk.heap.size wk w')) ru (by kernel_rfl) ?_ (fun AU=>?_)
   ·(try dsimp only);exact ⟨ru.out _ (zC (Pd _ _) 1),zC (Pd _ _) 1⟩
   refine tL 0 ?_;refine tL 1 ?_;refine tL 2 ?_;refine tL 3 ?_;refine tL 4 ?_;refine tL 5 ?_;try simp only[ps]
   refine tR 6 (fun K hK=>?_)
   go_simp
   (refine (NP.out _ AU.2.out).mono ?_;rintro e' w6 ⟨r,rfl,_,hb6⟩;have BA:=zh (zB AU.2.out hb6);clear hb6)
   refine hK.out _ _ ?_ (fun AU=>?_)
   ·(try dsimp only);exact ⟨ru.out _ BA,BA.out⟩
   clear hK K;refine tL 7 ?_;refine tL 8 ?_;refine tL 9 ?_;refine tL 10 ?_;refine tL 11 ?_;try simp only[ps]
   refine wpAnyH_done (by kernel_rfl) ?_ _
   clear AU NP;have HC4:Hid (∀w',Below w6.heap.size w6 w'->w'.cell? ⟨rb,ro+k * 2,none⟩=some (.int .i64 (l[k]).id)):=fun w' hb=>(ru.out _ (zB BA hb)).2.2.2.2.2.2.2.2.2.2
   cases hro:GL x l[k] with
   | false =>
    have Ph:Hid ((!an&&Aq (l[k]).id)=false):=by show _=_;rw[<-HRO.out];exact hro
    have Ho:Hid (X=false):=by show _=_;rw[<-HE.out];exact Lf x _ k hlt hro
    clear hro;go_upto_region 5 with fail
    refine wp_region_held_drew (S:=(fun w'=>(w'.cell? ⟨rb,ro+k * 2,none⟩=some (.int .i64 (l[k]).id))/\Hid (Below w6.heap.size w6 w'))) (by kernel_rfl) ?_ (fun AU=>?_)
    ·(try dsimp only);exact ⟨HC4.out _ (zC (Pd _ _) 1),zC (Pd _ _) 1⟩
    refine tL 0 ?_;refine tL 1 ?_;refine tL 2 ?_;refine tL 3 ?_;refine tL 4 ?_;refine tL 5 ?_;try simp only[ps]
    refine tR 6 (fun K hK=>?_)
    go_simp
    (refine (FH _ an _).mono ?_;rintro e' w7 ⟨rfl,rfl⟩;rw[Ph.out])
    refine hK.out _ _ ?_ (fun AU=>?_)
    ·(try dsimp only);exact AU
    clear hK K;refine tL 7 ?_;refine tL 8 ?_;refine tU 9 ?_;refine tU 10 ?_;refine tU 11 ?_;try simp only[ps]
    refine tU 12 ?_;refine tU 13 ?_;refine tU 14 ?_;refine tU 15 ?_;refine tU 16 ?_;refine tU 17 ?_;try simp only[ps]
    refine tU 18 ?_;refine tU 19 ?_;refine tU 20 ?_;refine tU 21 ?_;refine tU 22 ?_;refine tU 23 ?_;try simp only[ps]
    refine tU 24 ?_;refine tL 25 ?_;refine wpAnyH_done (by kernel_rfl) ?_ _
    have FY:=zh (zB F8 (zB BA AU.2.out));clear AU;go_wp2;go_ret;exact ⟨by rw[Ho.out];rfl,FY.out⟩
   | true =>
    have Ph:Hid ((!an&&Aq (l[k]).id)=true):=by show _=_;rw[<-HRO.out];exact hro
    have gZ:Hid (∀j (h:j<l.length),j<k+1->GL x l[j]=true):=fun j h hj=>by
     by_cases ej:j=k
     ·subst ej;exact hro
     ·exact TK.out j h (by omega)
    clear hro
    by_cases hk0:k=0
    ·subst hk0
     go_upto_region 5 with fail
     refine wp_region_held_drew (S:=(fun w'=>(w'.cell? ⟨rb,ro,none⟩=some (.int .i64 (l[0]).id))/\Hid (Below w6.heap.size w6 w'))) (by kernel_rfl) ?_ (fun AU=>?_)
     ·(try dsimp only);exact ⟨by have h:=HC4.out _ (zC (Pd _ _) 1);simpa using h,zC (Pd _ _) 1⟩
     refine tL 0 ?_;refine tL 1 ?_;refine tL 2 ?_;refine tL 3 ?_;try simp only[ps]
     refine tL 4 ?_;refine tL 5 ?_;refine tR 6 (fun K hK=>?_)
     go_simp
     (refine (FH _ an _).mono ?_;rintro e' w7 ⟨rfl,rfl⟩;rw[Ph.out])
     refine hK.out _ _ ?_ (fun AU=>?_)
     ·(try dsimp only);exact AU
     clear hK K;refine tL 7 ?_;refine tL 8 ?_;refine tL 9 ?_;try simp only[ps]
     refine tL 10 ?_;refine tL 11 ?_;refine tU 12 ?_;refine tU 13 ?_;refine tU 14 ?_;refine tU 15 ?_;try simp only[ps]
     refine tU 16 ?_;refine tU 17 ?_;refine tU 18 ?_;refine tU 19 ?_;refine tU 20 ?_;refine tU 21 ?_;try simp only[ps]
     refine tU 22 ?_;refine tU 23 ?_;refine tL 24 ?_;refine tL 25 ?_;refine wpAnyH_done (by kernel_rfl) ?_ _
     have FY:=zh (zB EO (zB BA AU.2.out));clear AU;go_wp2;go_roundw
     case rel=>exact ⟨1,by omega,by go_num,gZ.out,(fun j _ h=>absurd h (by omega)),FY.out⟩
     case measure=>simp[intOf];omega
    ·obtain ⟨m,rfl⟩:∃m,k=m+1:=⟨k - 1,by omega⟩
     have hm:m<l.length:=by omega
     obtain ⟨rb',ro',hE,_,e0,e1⟩:=HLk.out.at2 hm
     injection hE with hE
     injection hE with hE1 hE2
     subst hE1;subst hE2;have HC5:Hid (∀w',Below w6.heap.size w6 w'->(w'.cell? ⟨rb,ro+(m+1) * 2,none⟩=some (.int .i64 (l[m+1]).id)/\w'.cell? ⟨rb,ro+m * 2,none⟩=some (.int .i64 (l[m]).id))):=fun w' hb=>⟨HC4.out w' hb,zA (zB BA hb) e0⟩
     have jp:(0:Int)<(m:Int)+1:=by omega
     have j0:(0:Int)<=(m:Int):=by omega
     have j1:(m:Int)<(l.length:Int):=by omega
     have j2:(m:Int)+1<(l.length:Int):=by omega
     have j4:(0:Int)<=(m:Int)+1:=by omega
     have jw:IntKind.i64.wrap (m:Int)=(m:Int):=by rw[IntKind.wrap_i64];omega
     clear e0 e1 hk0;go_upto_region 5 with fail
     refine zr (Y:=fun w'=>Hid (Below w6.heap.size w6 w')) HC5 (by kernel_rfl) ?_ (fun AU=>?_)
     ·(try dsimp only);exact ⟨HC5.out _ (zC (Pd _ _) 1),zC (Pd _ _) 1⟩
     refine tL 0 ?_;refine tL 1 ?_;try simp only[ps]
     refine tL 2 ?_;refine tL 3 ?_;refine tL 4 ?_;refine tL 5 ?_;refine tR 6 (fun K hK=>?_)
     go_simp
     (refine (FH _ an _).mono ?_;rintro e' w7 ⟨rfl,rfl⟩;rw[Ph.out])
     refine hK.out _ _ ?_ (fun AU=>?_)
     ·(try dsimp only);exact AU
     clear hK K;refine tL 7 ?_;try simp only[ps]
     refine tL 8 ?_;refine tL 9 ?_;refine tL 10 ?_;refine tL 11 ?_;refine tL 12 ?_;refine tL 13 ?_;try simp only[ps]
     refine tL 14 ?_;refine tL 15 ?_;refine tL 16 ?_;refine tL 17 ?_;refine tL 18 ?_;refine tL 19 ?_;try simp only[ps]
     refine tL 20 ?_;refine tL 21 ?_;refine tL 22 ?_;refine tL 23 ?_;refine tL 24 ?_;refine tL 25 ?_;try simp only[ps]
     refine wpAnyH_done (by kernel_rfl) ?_ _
     have FY:=zh (zB EO (zB BA AU.2.out));clear AU
     by_cases hle:(l[m+1]).id<=(l[m]).id
     ·have Ho:Hid (X=false):=by show _=_;rw[<-HE.out];exact Mt x _ m hlt (by omega)
      have RI:=zh (zB HB FY);go_wp2;go_ret;exact ⟨by rw[Ho.out];rfl,RI.out⟩
     ·have sF:Hid (∀j (h:j+1<l.length),j+1<m+1+1->(l[j]).id<(l[j+1]).id):=fun j h hj=>by
       by_cases ej:j=m
       ·subst ej;omega
       ·exact HAS.out j h (by omega)
      go_wp2
      go_roundw
      case rel=>exact ⟨m+1+1,by omega,by go_num,gZ.out,sF.out,FY.out⟩
      case measure=>simp[intOf];omega
  ·have HYE:Hid (X=true):=by show _=_;rw[<-HE.out];exact Lg x _ (fun j h=>TK.out j h (by omega)) (fun j h=>HAS.out j h (by omega))
   go_wp2
   go_ret
   exact ⟨by rw[HYE.out];rfl,F8.out⟩
end Go.Proofs.YthkkllmmbefedaaGreatDoor



