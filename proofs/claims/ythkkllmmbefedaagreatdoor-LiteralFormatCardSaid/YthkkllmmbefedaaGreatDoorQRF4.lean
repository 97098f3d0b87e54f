/-
  Walks: the reference's rest.
-/
import Derived.Test.YthkkllmmbefedaaGreatDoorQRF3
namespace Go.Proofs.YthkkllmmbefedaaGreatDoor
open Go.RowKit
set_option maxHeartbeats 16000000
set_option maxRecDepth 100000
theorem rRest_any (x:TyD) (As:zo) (cs:Nat) (Am:zo) (cm:Nat) (l:List RawD) (B:zo) (d:Nat) (w:World) (ht:TyR w x As Am) (hl:RawsR w B l) :
  Calls Tryz.prog 105 #[x.v As cs Am cm,.slice B l.length d] w fun e w'=>e = .returned (.bool (rawsD x l))∧Below w.heap.size w w':=by
 have hlr:=hl.1.lt (by omega)
 have HB:=zh (zD w (x.box As cs Am cm));have HX:Hid (TBox (w.alloc (x.box As cs Am cm)) w.heap.size x As cs Am cm):=heap_alloc_new w _;have HT:=zh (ht.below HB.out);have HL:=zh (hl.below HB.out);obtain ⟨X,hX⟩:∃X,rawsD x l=X:=⟨_,rfl⟩;rw[hX];have HE:=zh hX;clear ht hl hX
 go_enter Tryz.func105,Tryz.ntmps105
 go_upto_region 1 with fail
 generalize w.alloc (x.box As cs Am cm)=W1 at *;go_wp2_with fail
 go_loopw [5] (fun i wr=>∃k:Nat,k≤l.length∧i = .int .i64 (k:Int)∧Hid ((∀j (h:j<l.length),j<k→rawOk x l[j]=true)∧(∀j (h:j+1<l.length),j+1<k→(l[j]).id<(l[j+1]).id)∧Below W1.heap.size W1 wr)) (fun i _=>l.length - (intOf i).toNat)
 case atStart=>exact ⟨0,by omega,rfl,(fun j _ h=>absurd h (by omega)),(fun j _ h=>absurd h (by omega)),Below.refl _ _⟩
 case round =>
  obtain ⟨k,hk,rfl,hh⟩:=hrel;have HOK:=zh hh.out.1;have HAS:=zh hh.out.2.1;have HBR:=zh hh.out.2.2;have HBW:=zh (zB HB.out HBR.out);clear hh;obtain ⟨wk,rfl⟩:∃wk:World,wk=wr:=⟨_,rfl⟩
  by_cases hlt:k<l.length
  ·obtain ⟨rb,ro,hA,_,a0,a1⟩:=(HL.out.below HBR.out).at2 hlt
   subst hA;have HLk:=zh (HL.out.below HBR.out);have HXk:=zh (HX.out.below HBR.out);obtain ⟨b0,b1,b2,b3,b4,b5,b6,b7,b8,b9⟩:=zG HXk.out;have h1:(0:Int)≤(k:Int):=by omega
   have h2:(k:Int)<(l.length:Int):=by omega
   obtain ⟨an,han⟩:∃an,(x.mems.any fun y=>decide (y.id=(l[k]).id))=an:=⟨_,rfl⟩
   have hcall:=fun w' hb=>rMem_any (l[k]).id x As cs Am cm w' ((HT.out.below HBR.out).below hb)
   simp only[han] at hcall;have HCL:=zh hcall;have HRO:Hid (rawOk x l[k]=(!an&&freeD (l[k]).id)):=by show _=_;unfold rawOk;rw[han]
   clear hcall han
   have HC3:Hid (∀w',Below wk.heap.size wk w'→(w'.cell? ⟨w.heap.size,0,none⟩=some (.int .i64 x.kind)∧w'.cell? ⟨w.heap.size,1,none⟩=some (.string x.name)∧w'.cell? ⟨w.heap.size,2,none⟩=some (.int .i64 x.low)∧w'.cell? ⟨w.heap.size,3,none⟩=some (.int .i64 x.high)∧w'.cell? ⟨w.heap.size,4,none⟩=some (.int .i64 x.max)∧w'.cell? ⟨w.heap.size,5,none⟩=some (.slice As x.syms.length cs)∧w'.cell? ⟨w.heap.size,6,none⟩=some (.slice Am x.mems.length cm)∧w'.cell? ⟨w.heap.size,7,none⟩=some (.int .i64 x.key)∧w'.cell? ⟨w.heap.size,8,none⟩=some (.int .i64 x.elem)∧w'.cell? ⟨w.heap.size,9,none⟩=some (.bool x.open_)∧w'.cell? ⟨rb,ro+k * 2,none⟩=some (.int .i64 (l[k]).id))):=fun w' hb=>⟨zA hb b0,zA hb b1,zA hb b2,zA hb b3,zA hb b4,zA hb b5,zA hb b6,zA hb b7,zA hb b8,zA hb b9,zA hb a0⟩
   clear b0 b1 b2 b3 b4 b5 b6 b7 b8 b9 a0 a1;go_upto_region 4 with fail
   refine zr (Y:=fun w'=>Hid (Below wk.heap.size wk w')) HC3.out (by kernel_rfl) ?_ (fun zH_=>?_)
   ·(try dsimp only);exact ⟨HC3.out _ (zC (Below.refl _ _) 1),zC (Below.refl _ _) 1⟩
   refine tL 0 ?_;refine tL 1 ?_;refine tL 2 ?_;refine tL 3 ?_;refine tL 4 ?_;refine tL 5 ?_;try simp only[ps]
   refine tR 6 (fun K hK=>?_)
   go_simp
   (refine (HCL.out _ zH_.2.out).mono ?_;rintro e' w6 ⟨r,rfl,_,hb6⟩;have HB6:=zh (zB zH_.2.out hb6);clear hb6)
   refine hK.out _ _ ?_ (fun zH_=>?_)
   ·(try dsimp only);exact ⟨HC3.out _ HB6.out,HB6.out⟩
   clear hK K;refine tL 7 ?_;refine tL 8 ?_;refine tL 9 ?_;refine tL 10 ?_;refine tL 11 ?_;try simp only[ps]
   refine wpAnyH_done (by kernel_rfl) ?_ _
   clear zH_ HCL;have HC4:Hid (∀w',Below w6.heap.size w6 w'→w'.cell? ⟨rb,ro+k * 2,none⟩=some (.int .i64 (l[k]).id)):=fun w' hb=>(HC3.out _ (zB HB6.out hb)).2.2.2.2.2.2.2.2.2.2
   cases hro:rawOk x l[k] with
   | false =>
    have HID:Hid ((!an&&freeD (l[k]).id)=false):=by show _=_;rw[←HRO.out];exact hro
    have HNO:Hid (X=false):=by show _=_;rw[←HE.out];exact raws_not x _ k hlt hro
    clear hro;go_upto_region 5 with fail
    refine wp_region_held_drew (S:=(fun w'=>(w'.cell? ⟨rb,ro+k * 2,none⟩=some (.int .i64 (l[k]).id))∧Hid (Below w6.heap.size w6 w'))) (by kernel_rfl) ?_ (fun zH_=>?_)
    ·(try dsimp only);exact ⟨HC4.out _ (zC (Below.refl _ _) 1),zC (Below.refl _ _) 1⟩
    refine tL 0 ?_;refine tL 1 ?_;refine tL 2 ?_;refine tL 3 ?_;refine tL 4 ?_;refine tL 5 ?_;try simp only[ps]
    refine tR 6 (fun K hK=>?_)
    go_simp
    (refine (rIdF_any _ an _).mono ?_;rintro e' w7 ⟨rfl,rfl⟩;rw[HID.out])
    refine hK.out _ _ ?_ (fun zH_=>?_)
    ·(try dsimp only);exact zH_
    clear hK K;refine tL 7 ?_;refine tL 8 ?_;refine tU 9 ?_;refine tU 10 ?_;refine tU 11 ?_;try simp only[ps]
    refine tU 12 ?_;refine tU 13 ?_;refine tU 14 ?_;refine tU 15 ?_;refine tU 16 ?_;refine tU 17 ?_;try simp only[ps]
    refine tU 18 ?_;refine tU 19 ?_;refine tU 20 ?_;refine tU 21 ?_;refine tU 22 ?_;refine tU 23 ?_;try simp only[ps]
    refine tU 24 ?_;refine tL 25 ?_;refine wpAnyH_done (by kernel_rfl) ?_ _
    have HB8:=zh (zB HBW.out (zB HB6.out zH_.2.out));clear zH_;go_wp2;go_ret;exact ⟨by rw[HNO.out];rfl,HB8.out⟩
   | true =>
    have HID:Hid ((!an&&freeD (l[k]).id)=true):=by show _=_;rw[←HRO.out];exact hro
    have HOK1:Hid (∀j (h:j<l.length),j<k+1→rawOk x l[j]=true):=fun j h hj=>by
     by_cases ej:j=k
     ·subst ej;exact hro
     ·exact HOK.out j h (by omega)
    clear hro
    by_cases hk0:k=0
    ·subst hk0
     go_upto_region 5 with fail
     refine wp_region_held_drew (S:=(fun w'=>(w'.cell? ⟨rb,ro,none⟩=some (.int .i64 (l[0]).id))∧Hid (Below w6.heap.size w6 w'))) (by kernel_rfl) ?_ (fun zH_=>?_)
     ·(try dsimp only);exact ⟨by have h:=HC4.out _ (zC (Below.refl _ _) 1);simpa using h,zC (Below.refl _ _) 1⟩
     refine tL 0 ?_;refine tL 1 ?_;refine tL 2 ?_;refine tL 3 ?_;try simp only[ps]
     refine tL 4 ?_;refine tL 5 ?_;refine tR 6 (fun K hK=>?_)
     go_simp
     (refine (rIdF_any _ an _).mono ?_;rintro e' w7 ⟨rfl,rfl⟩;rw[HID.out])
     refine hK.out _ _ ?_ (fun zH_=>?_)
     ·(try dsimp only);exact zH_
     clear hK K;refine tL 7 ?_;refine tL 8 ?_;refine tL 9 ?_;try simp only[ps]
     refine tL 10 ?_;refine tL 11 ?_;refine tU 12 ?_;refine tU 13 ?_;refine tU 14 ?_;refine tU 15 ?_;try simp only[ps]
     refine tU 16 ?_;refine tU 17 ?_;refine tU 18 ?_;refine tU 19 ?_;refine tU 20 ?_;refine tU 21 ?_;try simp only[ps]
     refine tU 22 ?_;refine tU 23 ?_;refine tL 24 ?_;refine tL 25 ?_;refine wpAnyH_done (by kernel_rfl) ?_ _
     have HB8:=zh (zB HBR.out (zB HB6.out zH_.2.out));clear zH_;go_wp2;go_roundw
     case rel=>exact ⟨1,by omega,by go_num,HOK1.out,(fun j _ h=>absurd h (by omega)),HB8.out⟩
     case measure=>simp[intOf];omega
    ·obtain ⟨m,rfl⟩:∃m,k=m+1:=⟨k - 1,by omega⟩
     have hm:m<l.length:=by omega
     obtain ⟨rb',ro',hE,_,e0,e1⟩:=HLk.out.at2 hm
     injection hE with hE
     injection hE with hE1 hE2
     subst hE1;subst hE2;have HC5:Hid (∀w',Below w6.heap.size w6 w'→(w'.cell? ⟨rb,ro+(m+1) * 2,none⟩=some (.int .i64 (l[m+1]).id)∧w'.cell? ⟨rb,ro+m * 2,none⟩=some (.int .i64 (l[m]).id))):=fun w' hb=>⟨HC4.out w' hb,zA (zB HB6.out hb) e0⟩
     have jp:(0:Int)<(m:Int)+1:=by omega
     have j0:(0:Int)≤(m:Int):=by omega
     have j1:(m:Int)<(l.length:Int):=by omega
     have j2:(m:Int)+1<(l.length:Int):=by omega
     have j4:(0:Int)≤(m:Int)+1:=by omega
     have jw:IntKind.i64.wrap (m:Int)=(m:Int):=by rw[IntKind.wrap_i64];omega
     clear e0 e1 hk0;go_upto_region 5 with fail
     refine zr (Y:=fun w'=>Hid (Below w6.heap.size w6 w')) HC5.out (by kernel_rfl) ?_ (fun zH_=>?_)
     ·(try dsimp only);exact ⟨HC5.out _ (zC (Below.refl _ _) 1),zC (Below.refl _ _) 1⟩
     refine tL 0 ?_;refine tL 1 ?_;try simp only[ps]
     refine tL 2 ?_;refine tL 3 ?_;refine tL 4 ?_;refine tL 5 ?_;refine tR 6 (fun K hK=>?_)
     go_simp
     (refine (rIdF_any _ an _).mono ?_;rintro e' w7 ⟨rfl,rfl⟩;rw[HID.out])
     refine hK.out _ _ ?_ (fun zH_=>?_)
     ·(try dsimp only);exact zH_
     clear hK K;refine tL 7 ?_;try simp only[ps]
     refine tL 8 ?_;refine tL 9 ?_;refine tL 10 ?_;refine tL 11 ?_;refine tL 12 ?_;refine tL 13 ?_;try simp only[ps]
     refine tL 14 ?_;refine tL 15 ?_;refine tL 16 ?_;refine tL 17 ?_;refine tL 18 ?_;refine tL 19 ?_;try simp only[ps]
     refine tL 20 ?_;refine tL 21 ?_;refine tL 22 ?_;refine tL 23 ?_;refine tL 24 ?_;refine tL 25 ?_;try simp only[ps]
     refine wpAnyH_done (by kernel_rfl) ?_ _
     have HB8:=zh (zB HBR.out (zB HB6.out zH_.2.out));clear zH_
     by_cases hle:(l[m+1]).id≤(l[m]).id
     ·have HNO:Hid (X=false):=by show _=_;rw[←HE.out];exact raws_desc x _ m hlt (by omega)
      have HB9:=zh (zB HB.out HB8.out);go_wp2;go_ret;exact ⟨by rw[HNO.out];rfl,HB9.out⟩
     ·have HAS1:Hid (∀j (h:j+1<l.length),j+1<m+1+1→(l[j]).id<(l[j+1]).id):=fun j h hj=>by
       by_cases ej:j=m
       ·subst ej;omega
       ·exact HAS.out j h (by omega)
      go_wp2
      go_roundw
      case rel=>exact ⟨m+1+1,by omega,by go_num,HOK1.out,HAS1.out,HB8.out⟩
      case measure=>simp[intOf];omega
  ·have HYE:Hid (X=true):=by show _=_;rw[←HE.out];exact raws_all x _ (fun j h=>HOK.out j h (by omega)) (fun j h=>HAS.out j h (by omega))
   go_wp2
   go_ret
   exact ⟨by rw[HYE.out];rfl,HBW.out⟩
end Go.Proofs.YthkkllmmbefedaaGreatDoor


