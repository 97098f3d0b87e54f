/-
  fitB, kind by kind: plain Lean.
-/
import Derived.Test.YthkkllmmbefedaaGreatDoorQGM1
namespace Go.Proofs.YthkkllmmbefedaaGreatDoor
open Go.RowKit
set_option maxHeartbeats 16000000
set_option maxRecDepth 100000
theorem X5 (x:Ae) (As:zo) (cs:Nat) (Am:zo) (cm:Nat) (l:List Ak) (B:zo) (d:Nat) (w:World) (ht:KM w x As Am) (hl:EH w B l) :
  Calls Tryz.prog 105 #[x.v As cs Am cm,.slice B l.length d] w fun e w'=>e = .returned (.bool (Ca x l))/\Below w.heap.size w w':=by
 have hlr:=hl.1.lt (by omega)
 have HB:=zh (zD w (x.box As cs Am cm));have HX:Hid (BX (w.alloc (x.box As cs Am cm)) w.heap.size x As cs Am cm):=AAC w _;have HT:=zh (ht.below HB);have HL:=zh (hl.below HB);obtain ⟨X,hX⟩:∃X,Ca x l=X:=⟨_,rfl⟩;rw[hX];have HE:=zh hX;clear ht hl hX
 go_enter Tryz.func105,Tryz.ntmps105
 go_upto_region 1 with fail
 generalize w.alloc (x.box As cs Am cm)=W1 at *;go_wp2_with fail
 go_loopw [5] (fun i wr=>∃k:Nat,k<=l.length/\i = .int .i64 (k:Int)/\Hid ((∀j (h:j<l.length),j<k->Fb x l[j]=true)/\(∀j (h:j+1<l.length),j+1<k->(l[j]).id<(l[j+1]).id)/\Below W1.heap.size W1 wr)) (fun i _=>l.length - (intOf i).toNat)
 case atStart=>exact ⟨0,by omega,rfl,(fun j _ h=>absurd h (by omega)),(fun j _ h=>absurd h (by omega)),Pe _ _⟩
 case round =>
  obtain ⟨k,hk,rfl,hh⟩:=hrel;have KR:=zh hh.out.1;have HAS:=zh hh.out.2.1;have Ej:=zh hh.out.2.2;have Cy:=zh (zB HB Ej);clear hh;obtain ⟨wk,rfl⟩:∃wk:World,wk=wr:=⟨_,rfl⟩
  by_cases hlt:k<l.length
  ·obtain ⟨rb,ro,hA,_,a0,a1⟩:=(HL.out.below Ej).at2 hlt
   subst hA;have HLk:=zh (HL.out.below Ej);have HXk:=zh (HX.out.below Ej);obtain ⟨b0,b1,b2,b3,b4,b5,b6,b7,b8,b9⟩:=zG HXk;have h1:(0:Int)<=(k:Int):=by omega
   have h2:(k:Int)<(l.length:Int):=by omega
   obtain ⟨an,han⟩:∃an,(x.AA.any fun y=>decide (y.id=(l[k]).id))=an:=⟨_,rfl⟩
   have hcall:=fun w' hb=>Fe (l[k]).id x As cs Am cm w' ((HT.out.below Ej).below hb)
   simp only[han] at hcall;have Gh:=zh hcall;have HRO:Hid (Fb x l[k]=(!an&&Aw (l[k]).id)):=by show _=_;unfold Fb;rw[han]
   clear hcall han
   have yL:Hid (∀w',Below wk.heap.size wk w'->(w'.cell? ⟨w.heap.size,0,none⟩=some (.int .i64 x.kind)/\w'.cell? ⟨w.heap.size,1,none⟩=some (.string x.name)/\w'.cell? ⟨w.heap.size,2,none⟩=some (.int .i64 x.low)/\w'.cell? ⟨w.heap.size,3,none⟩=some (.int .i64 x.high)/\w'.cell? ⟨w.heap.size,4,none⟩=some (.int .i64 x.max)/\w'.cell? ⟨w.heap.size,5,none⟩=some (.slice As x.Aj.length cs)/\w'.cell? ⟨w.heap.size,6,none⟩=some (.slice Am x.AA.length cm)/\w'.cell? ⟨w.heap.size,7,none⟩=some (.int .i64 x.key)/\w'.cell? ⟨w.heap.size,8,none⟩=some (.int .i64 x.elem)/\w'.cell? ⟨w.heap.size,9,none⟩=some (.bool x.open_)/\w'.cell? ⟨rb,ro+k * 2,none⟩=some (.int .i64 (l[k]).id))):=fun w' hb=>⟨zA hb b0,zA hb b1,zA hb b2,zA hb b3,zA hb b4,zA hb b5,zA hb b6,zA hb b7,zA hb b8,zA hb b9,zA hb a0⟩
   clear b0 b1 b2 b3 b4 b5 b6 b7 b8 b9 a0 a1;go_upto_region 4 with fail
   refine zr (Y:=fun w'=>Hid (Below wk.heap.size wk w')) yL (by kernel_rfl) ?_ (fun AO=>?_)
   ·(try dsimp only);exact ⟨yL.out _ (zC (Pe _ _) 1),zC (Pe _ _) 1⟩
   refine tL 0 ?_;refine tL 1 ?_;refine tL 2 ?_;refine tL 3 ?_;refine tL 4 ?_;refine tL 5 ?_;try simp only[ps]
   refine tR 6 (fun K hK=>?_)
   go_simp
   (refine (Gh.out _ AO.2.out).mono ?_;rintro e' w6 ⟨r,rfl,_,hb6⟩;have BN:=zh (zB AO.2.out hb6);clear hb6)
   refine hK.out _ _ ?_ (fun AO=>?_)
   ·(try dsimp only);exact ⟨yL.out _ BN,BN.out⟩
   clear hK K;refine tL 7 ?_;refine tL 8 ?_;refine tL 9 ?_;refine tL 10 ?_;refine tL 11 ?_;try simp only[ps]
   refine wpAnyH_done (by kernel_rfl) ?_ _
   clear AO Gh;have HC4:Hid (∀w',Below w6.heap.size w6 w'->w'.cell? ⟨rb,ro+k * 2,none⟩=some (.int .i64 (l[k]).id)):=fun w' hb=>(yL.out _ (zB BN hb)).2.2.2.2.2.2.2.2.2.2
   cases hro:Fb x l[k] with
   | false =>
    have KG:Hid ((!an&&Aw (l[k]).id)=false):=by show _=_;rw[<-HRO.out];exact hro
    have Mi:Hid (X=false):=by show _=_;rw[<-HE.out];exact Kk x _ k hlt hro
    clear hro;go_upto_region 5 with fail
    refine wp_region_held_drew (S:=(fun w'=>(w'.cell? ⟨rb,ro+k * 2,none⟩=some (.int .i64 (l[k]).id))/\Hid (Below w6.heap.size w6 w'))) (by kernel_rfl) ?_ (fun AO=>?_)
    ·(try dsimp only);exact ⟨HC4.out _ (zC (Pe _ _) 1),zC (Pe _ _) 1⟩
    refine tL 0 ?_;refine tL 1 ?_;refine tL 2 ?_;refine tL 3 ?_;refine tL 4 ?_;refine tL 5 ?_;try simp only[ps]
    refine tR 6 (fun K hK=>?_)
    go_simp
    (refine (En _ an _).mono ?_;rintro e' w7 ⟨rfl,rfl⟩;rw[KG.out])
    refine hK.out _ _ ?_ (fun AO=>?_)
    ·(try dsimp only);exact AO
    clear hK K;refine tL 7 ?_;refine tL 8 ?_;refine tU 9 ?_;refine tU 10 ?_;refine tU 11 ?_;try simp only[ps]
    refine tU 12 ?_;refine tU 13 ?_;refine tU 14 ?_;refine tU 15 ?_;refine tU 16 ?_;refine tU 17 ?_;try simp only[ps]
    refine tU 18 ?_;refine tU 19 ?_;refine tU 20 ?_;refine tU 21 ?_;refine tU 22 ?_;refine tU 23 ?_;try simp only[ps]
    refine tU 24 ?_;refine tL 25 ?_;refine wpAnyH_done (by kernel_rfl) ?_ _
    have BK:=zh (zB Cy (zB BN AO.2.out));clear AO;go_wp2;go_ret;exact ⟨by rw[Mi.out];rfl,BK.out⟩
   | true =>
    have KG:Hid ((!an&&Aw (l[k]).id)=true):=by show _=_;rw[<-HRO.out];exact hro
    have fK:Hid (∀j (h:j<l.length),j<k+1->Fb x l[j]=true):=fun j h hj=>by
     by_cases ej:j=k
     ·subst ej;exact hro
     ·exact KR.out j h (by omega)
    clear hro
    by_cases hk0:k=0
    ·subst hk0
     go_upto_region 5 with fail
     refine wp_region_held_drew (S:=(fun w'=>(w'.cell? ⟨rb,ro,none⟩=some (.int .i64 (l[0]).id))/\Hid (Below w6.heap.size w6 w'))) (by kernel_rfl) ?_ (fun AO=>?_)
     ·(try dsimp only);exact ⟨by have h:=HC4.out _ (zC (Pe _ _) 1);simpa using h,zC (Pe _ _) 1⟩
     refine tL 0 ?_;refine tL 1 ?_;refine tL 2 ?_;refine tL 3 ?_;try simp only[ps]
     refine tL 4 ?_;refine tL 5 ?_;refine tR 6 (fun K hK=>?_)
     go_simp
     (refine (En _ an _).mono ?_;rintro e' w7 ⟨rfl,rfl⟩;rw[KG.out])
     refine hK.out _ _ ?_ (fun AO=>?_)
     ·(try dsimp only);exact AO
     clear hK K;refine tL 7 ?_;refine tL 8 ?_;refine tL 9 ?_;try simp only[ps]
     refine tL 10 ?_;refine tL 11 ?_;refine tU 12 ?_;refine tU 13 ?_;refine tU 14 ?_;refine tU 15 ?_;try simp only[ps]
     refine tU 16 ?_;refine tU 17 ?_;refine tU 18 ?_;refine tU 19 ?_;refine tU 20 ?_;refine tU 21 ?_;try simp only[ps]
     refine tU 22 ?_;refine tU 23 ?_;refine tL 24 ?_;refine tL 25 ?_;refine wpAnyH_done (by kernel_rfl) ?_ _
     have BK:=zh (zB Ej (zB BN AO.2.out));clear AO;go_wp2;go_roundw
     case rel=>exact ⟨1,by omega,by go_num,fK.out,(fun j _ h=>absurd h (by omega)),BK.out⟩
     case measure=>simp[intOf];omega
    ·obtain ⟨m,rfl⟩:∃m,k=m+1:=⟨k - 1,by omega⟩
     have hm:m<l.length:=by omega
     obtain ⟨rb',ro',hE,_,e0,e1⟩:=HLk.out.at2 hm
     injection hE with hE
     injection hE with hE1 hE2
     subst hE1;subst hE2;have HC5:Hid (∀w',Below w6.heap.size w6 w'->(w'.cell? ⟨rb,ro+(m+1) * 2,none⟩=some (.int .i64 (l[m+1]).id)/\w'.cell? ⟨rb,ro+m * 2,none⟩=some (.int .i64 (l[m]).id))):=fun w' hb=>⟨HC4.out w' hb,zA (zB BN hb) e0⟩
     have jp:(0:Int)<(m:Int)+1:=by omega
     have j0:(0:Int)<=(m:Int):=by omega
     have j1:(m:Int)<(l.length:Int):=by omega
     have j2:(m:Int)+1<(l.length:Int):=by omega
     have j4:(0:Int)<=(m:Int)+1:=by omega
     have jw:IntKind.i64.wrap (m:Int)=(m:Int):=by rw[IntKind.wrap_i64];omega
     clear e0 e1 hk0;go_upto_region 5 with fail
     refine zr (Y:=fun w'=>Hid (Below w6.heap.size w6 w')) HC5 (by kernel_rfl) ?_ (fun AO=>?_)
     ·(try dsimp only);exact ⟨HC5.out _ (zC (Pe _ _) 1),zC (Pe _ _) 1⟩
     refine tL 0 ?_;refine tL 1 ?_;try simp only[ps]
     refine tL 2 ?_;refine tL 3 ?_;refine tL 4 ?_;refine tL 5 ?_;refine tR 6 (fun K hK=>?_)
     go_simp
     (refine (En _ an _).mono ?_;rintro e' w7 ⟨rfl,rfl⟩;rw[KG.out])
     refine hK.out _ _ ?_ (fun AO=>?_)
     ·(try dsimp only);exact AO
     clear hK K;refine tL 7 ?_;try simp only[ps]
     refine tL 8 ?_;refine tL 9 ?_;refine tL 10 ?_;refine tL 11 ?_;refine tL 12 ?_;refine tL 13 ?_;try simp only[ps]
     refine tL 14 ?_;refine tL 15 ?_;refine tL 16 ?_;refine tL 17 ?_;refine tL 18 ?_;refine tL 19 ?_;try simp only[ps]
     refine tL 20 ?_;refine tL 21 ?_;refine tL 22 ?_;refine tL 23 ?_;refine tL 24 ?_;refine tL 25 ?_;try simp only[ps]
     refine wpAnyH_done (by kernel_rfl) ?_ _
     have BK:=zh (zB Ej (zB BN AO.2.out));clear AO
     by_cases hle:(l[m+1]).id<=(l[m]).id
     ·have Mi:Hid (X=false):=by show _=_;rw[<-HE.out];exact Ld x _ m hlt (by omega)
      have KU:=zh (zB HB BK);go_wp2;go_ret;exact ⟨by rw[Mi.out];rfl,KU.out⟩
     ·have rR:Hid (∀j (h:j+1<l.length),j+1<m+1+1->(l[j]).id<(l[j+1]).id):=fun j h hj=>by
       by_cases ej:j=m
       ·subst ej;omega
       ·exact HAS.out j h (by omega)
      go_wp2
      go_roundw
      case rel=>exact ⟨m+1+1,by omega,by go_num,fK.out,rR.out,BK.out⟩
      case measure=>simp[intOf];omega
  ·have HYE:Hid (X=true):=by show _=_;rw[<-HE.out];exact Kl x _ (fun j h=>KR.out j h (by omega)) (fun j h=>HAS.out j h (by omega))
   go_wp2
   go_ret
   exact ⟨by rw[HYE.out];rfl,Cy.out⟩
def Ed (s:List Ae) (A:zo) (c:Nat) (plain:Bool) (n:Nat):Prop:=∀ (t:Int) (v:Val) (A1:zo) (c1:Nat) (A2:zo) (c2:Nat) (A3:zo) (c3:Nat) (w:World),SizeOf.sizeOf v<=n->CQ w A s->Az w v A1 A2 A3 ->
 Calls Tryz.prog 71 #[.agg #[.slice A s.length c],.int .i64 t,v.v A1 c1 A2 c2 A3 c3,.bool plain] w fun e w'=>e = .returned (.bool (AU s plain n t v))/\Below w.heap.size w w'
theorem pX {α:Type} {l:List α} {p:α->Bool} {j:Nat} (hj:j<l.length) (h:p l[j]=false):l.all p=false:=by
 rw[List.all_eq_false];exact ⟨_,AAK hj,by simp[h]⟩
theorem lG {α:Type} {l:List α} {p:α->Bool} (h:∀j (h:j<l.length),p l[j]=true):l.all p=true:=by
 rw[AA3]
 intro x hx
 obtain ⟨j,hj,rfl⟩:=AAw hx;exact h j hj
theorem Km {s:List Ae} {A:zo} {c:Nat} {plain:Bool} {n:Nat} (hf:Ed s A c plain n) (t:Int) (l:List Val) (B:zo) (d:Nat) (w:World) (hv:∀y∈l,SizeOf.sizeOf y<=n) (hs:CQ w A s) (hl:Co w B l) :
  Calls Tryz.prog 106 #[.agg #[.slice A s.length c],.int .i64 t,.slice B l.length d,.bool plain] w fun e w'=>e = .returned (.bool (l.all fun y=>AU s plain n t y))/\Below w.heap.size w w':=by
 have hln:=hl.1.lt (by omega)
 have HF:=zh hf;have HV:=zh hv;have HB:=zh (zD w (.cells #[.slice A s.length c] 31));have HX:=zh (AAC w (.cells #[.slice A s.length c] 31));have HS:=zh (hs.below HB);have HL:=zh (hl.below HB);obtain ⟨X,hX⟩:∃X,(l.all fun y=>AU s plain n t y)=X:=⟨_,rfl⟩
 rw[hX];have HE:=zh hX;clear hf hv hs hl hX
 go_enter Tryz.func106,Tryz.ntmps106
 go_upto_region 1 with fail
 generalize w.alloc (.cells #[.slice A s.length c] 31)=W1 at *;go_wp2_with fail
 go_loopw [9] (fun i wr=>∃k:Nat,k<=l.length/\i = .int .i64 (k:Int)/\Hid ((∀j (h:j<l.length),j<k->AU s plain n t l[j]=true)/\Below W1.heap.size W1 wr)) (fun i _=>l.length - (intOf i).toNat)
 case atStart=>exact ⟨0,by omega,rfl,(fun j _ h=>absurd h (by omega)),Pe _ _⟩
 case round =>
  obtain ⟨k,hk,rfl,hh⟩:=hrel;have KR:=zh hh.out.1;have Ej:=zh hh.out.2;have Cy:=zh (zB HB Ej);clear hh;obtain ⟨wk,rfl⟩:∃wk:World,wk=wr:=⟨_,rfl⟩
  by_cases hlt:k<l.length
  ·obtain ⟨ib,io,E1,e1,E2,e2,E3,e3,hI,hir,a0,a1,a2,a3,a4,a5,a6,a7⟩:=(HL.out.below Ej).at8 hlt
   subst hI;have R5:=zh hir;have HXk:=zh (zE HX Ej);have h1:(0:Int)<=(k:Int):=by omega
   have h2:(k:Int)<(l.length:Int):=by omega
   have hz:=HV.out _ (AAK hlt);have Mi:Hid (AU s plain n t l[k]=false->X=false):=fun h=>by rw[<-HE.out];exact pX hlt h
   have HST:Hid (AU s plain n t l[k]=true->∀j (h:j<l.length),j<k+1->AU s plain n t l[j]=true):=fun hx j h hj=>by
    by_cases ej:j=k
    ·subst ej;exact hx
    ·exact KR.out j h (by omega)
   generalize l[k]=y at *;have HZ:=zh hz
   have D7:Hid (∀w',Below wk.heap.size wk w'->(w'.cell? ⟨w.heap.size,0,none⟩=some (.slice A s.length c)/\w'.cell? ⟨ib,io+k * 8,none⟩=some (.int .i64 y.kind)/\w'.cell? ⟨ib,io+k * 8+1,none⟩=some (.bool y.bool)/\w'.cell? ⟨ib,io+k * 8+2,none⟩=some (.int .i64 y.int)/\w'.cell? ⟨ib,io+k * 8+3,none⟩=some (.string y.str)/\w'.cell? ⟨ib,io+k * 8+4,none⟩=some (.int .i64 y.id)/\w'.cell? ⟨ib,io+k * 8+5,none⟩=some (.slice E1 y.keys.length e1)/\w'.cell? ⟨ib,io+k * 8+6,none⟩=some (.slice E2 y.items.length e2)/\w'.cell? ⟨ib,io+k * 8+7,none⟩=some (.slice E3 y.rest.length e3))):=fun w' hb=>⟨zA hb (by rw[AAE _ _ _ _ _ _ HXk.out];rfl),zA hb a0,zA hb a1,zA hb a2,zA hb a3,zA hb a4,zA hb a5,zA hb a6,zA hb a7⟩
   clear hz hir a0 a1 a2 a3 a4 a5 a6 a7;go_upto_region 4 with fail
   refine zr (Y:=fun w'=>Hid (Below wk.heap.size wk w')) D7 (by kernel_rfl) ?_ (fun AO=>?_)
   ·(try dsimp only);exact ⟨D7.out _ (zC (Pe _ _) 1),zC (Pe _ _) 1⟩
   refine tL 0 ?_;refine tL 1 ?_;refine tL 2 ?_;refine tL 3 ?_;refine tL 4 ?_;refine tL 5 ?_;try simp only[ps]
   refine tL 6 ?_;refine tR 7 (fun K hK=>?_)
   go_simp
   (refine (HF.out t y E1 e1 E2 e2 E3 e3 _ HZ (HS.out.below (zB Ej AO.2.out)) (R5.out.below AO.2.out)).mono ?_;rintro e' w6 ⟨rfl,hb6⟩;have BN:=zh (zB AO.2.out hb6);clear hb6)
   refine hK.out _ _ ?_ (fun AO=>?_)
   ·(try dsimp only);exact ⟨D7.out _ BN,BN.out⟩
   clear hK K;refine tL 8 ?_;refine wpAnyH_done (by kernel_rfl) ?_ _
   clear AO
   cases ZQ:AU s plain n t y with
   | false =>
    have Gg:=zh (Mi.out ZQ);clear ZQ;go_wp2;go_ret;exact ⟨by rw[Gg.out];rfl,zB Cy BN⟩
   | true =>
    have Gg:=zh (HST.out ZQ);clear ZQ;go_wp2;go_roundw
    case rel=>exact ⟨k+1,by omega,by go_num,Gg.out,zB Ej BN⟩
    case measure=>simp[intOf];omega
  ·have Gg:Hid (X=true):=by show _=_;rw[<-HE.out];exact lG fun j h=>KR.out j h (by omega)
   go_wp2
   go_ret
   exact ⟨by rw[Gg.out];rfl,Cy.out⟩
theorem dA {f:Int->Val->Bool} {x:Ae} {v:Val} (hp:zJ v=true) (hk:v.kind=x.kind) (hr:0<v.rest.length):AY f true x v=false:=by
 rw[Ef] at hp;simp only[AAJ,AAd] at hp;have h7:=hp.2
 by_cases h5:x.kind=5
 ·unfold AY
  rw[Pd (by omega),Pd (by omega),Pd (by omega),AAG h5]
  simp[hr]
 ·by_cases h6:x.kind=6
  ·unfold AY
   rw[Pd (by omega),Pd (by omega),Pd (by omega),Pd (by omega),AAG h6]
   cases x.AA.find? fun m=>decide (m.id=v.id) with
   | none=>simp
   | some m=>simp only[AAU (show ¬ v.rest.length=0 by omega),Bool.and_false,Bool.false_and]
  ·rw[Pd (by omega)] at h7
   rw[h7] at hr;exact absurd hr (by simp)
section
variable {f:Int->Val->Bool} {plain:Bool} {x:Ae} {v:Val}
theorem fb1 (e:x.kind=1):AY f plain x v=true:=by unfold AY;rw[Pd (by omega),Pd (by omega),Pd (by omega),Pd (by omega),Pd (by omega),Pd (by omega),Pd (by omega),Pd (by omega)]
theorem fb2 (e:x.kind=2):AY f plain x v=(decide (x.low<=v.int)&&decide (v.int<=x.high)):=by unfold AY;rw[AAG e]
theorem fb3 (e:x.kind=3):AY f plain x v=decide ((v.str.size:Int)<=x.max):=by unfold AY;rw[Pd (by omega),AAG e]
theorem fb4 (e:x.kind=4):AY f plain x v=((x.Aj.any fun y=>decide (y.id=v.id))||(x.open_ && !plain&&Aw v.id)):=by unfold AY;rw[Pd (by omega),Pd (by omega),AAG e]
theorem fb5 (e:x.kind=5) (h:plain=true->v.rest.length=0):AY f plain x v=(decide (v.items.length=x.AA.length)&&Ca x v.rest&&((x.AA.zip v.items).all fun p=>f p.1.type p.2)):=by
 unfold AY;rw[Pd (by omega),Pd (by omega),Pd (by omega),AAG e]
 have h1:(plain&&decide (0<v.rest.length))=false:=by
  cases plain with
  | false=>rfl
  | true=>rw[h rfl];rfl
 rw[h1];simp only[Bool.not_false,Bool.and_true]
theorem AAO (e:x.kind=6) {m:AZ} (hf:x.AA.find? (fun y=>decide (y.id=v.id))=some m):AY f plain x v=(decide (v.items.length=1)&&decide (v.rest.length=0)&&(v.items.all fun y=>f m.type y)):=by
 unfold AY;rw[Pd (by omega),Pd (by omega),Pd (by omega),Pd (by omega),AAG e,hf]
theorem AAP (e:x.kind=6) (hf:x.AA.find? (fun y=>decide (y.id=v.id))=none):AY f plain x v=(x.open_ && !plain&&Aw v.id&&decide (v.items.length=0)&&decide (v.rest.length=1)&&(v.rest.all fun r=>decide (r.id=v.id))):=by
 unfold AY;rw[Pd (by omega),Pd (by omega),Pd (by omega),Pd (by omega),AAG e,hf]
theorem fb7 (e:x.kind=7):AY f plain x v=(decide ((v.items.length:Int)<=x.max)&&(v.items.all fun y=>f x.elem y)):=by unfold AY;rw[Pd (by omega),Pd (by omega),Pd (by omega),Pd (by omega),Pd (by omega),AAG e]
theorem fb8 (e:x.kind=8):AY f plain x v=(decide ((v.keys.length:Int)<=x.max)&&decide (v.items.length=v.keys.length)&&(v.keys.all fun y=>f x.key y)&&F8 v.keys&&(v.items.all fun y=>f x.elem y)):=by unfold AY;rw[Pd (by omega),Pd (by omega),Pd (by omega),Pd (by omega),Pd (by omega),Pd (by omega),AAG e]
theorem fb9 (e:x.kind=9):AY f plain x v=(decide (v.items.length<=1)&&(v.items.all fun y=>f x.elem y)):=by unfold AY;rw[Pd (by omega),Pd (by omega),Pd (by omega),Pd (by omega),Pd (by omega),Pd (by omega),Pd (by omega),AAG e]
end
open Go.RowKit
def LH (s:List Ae) (A:zo) (c:Nat) (plain:Bool) (n:Nat) (k:Int):Prop:=∀ (tn:Nat) (htn:tn<s.length) (v:Val) (A1:zo) (c1:Nat) (A2:zo) (c2:Nat) (A3:zo) (c3:Nat) (w:World),(∀y,y∈v.keys\/y∈v.items->SizeOf.sizeOf y<=n)->CQ w A s->Az w v A1 A2 A3 ->
 (s[tn]).kind=k->v.kind=(s[tn]).kind->zJ v=true->(plain=true->v.rest.length=0) ->
 Calls Tryz.prog 71 #[.agg #[.slice A s.length c],.int .i64 (tn:Int),v.v A1 c1 A2 c2 A3 c3,.bool plain] w fun e w'=>e = .returned (.bool (AY (AU s plain n) plain s[tn] v))/\Below w.heap.size w w'
end Go.Proofs.YthkkllmmbefedaaGreatDoor



