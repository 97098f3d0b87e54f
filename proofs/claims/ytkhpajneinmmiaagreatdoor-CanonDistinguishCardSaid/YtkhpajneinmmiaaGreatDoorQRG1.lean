/-
  Walks: sheaveref18.related (written by gen_rg.py).
-/
import Derived.Test.YtkhpajneinmmiaaGreatDoorQCL
namespace Go.Proofs.YtkhpajneinmmiaaGreatDoor
open Go.RowKit
set_option maxHeartbeats 16000000
set_option maxRecDepth 100000
structure TwoT (w W:World) (x y:TyD) (As:Option Addr) (cs:Nat) (Am:Option Addr) (cm:Nat) (Bs:Option Addr) (ds:Nat) (Bm:Option Addr) (dm:Nat):Prop where
 tx:TBox W w.heap.size x As cs Am cm
 ty:TBox W (w.heap.size+1) y Bs ds Bm dm
 bel:Below w.heap.size w W
section
variable {w W W':World} {x y:TyD} {As:Option Addr} {cs:Nat} {Am:Option Addr} {cm:Nat} {Bs:Option Addr} {ds:Nat} {Bm:Option Addr} {dm:Nat}
theorem TwoT.below (h:TwoT w W x y As cs Am cm Bs ds Bm dm) (hb:Below W.heap.size W W'):TwoT w W' x y As cs Am cm Bs ds Bm dm:=⟨h.tx.below hb,h.ty.below hb,zA h.bel hb⟩
theorem twoT_new:TwoT w ((w.alloc (x.box As cs Am cm)).alloc (y.box Bs ds Bm dm)) x y As cs Am cm Bs ds Bm dm:=by
 refine ⟨yG (heap_alloc_new w _) _,?_,zC _ _ _⟩
 have h:=heap_alloc_new (w.alloc (x.box As cs Am cm)) (y.box Bs ds Bm dm)
 rw[show (w.alloc (x.box As cs Am cm)).heap.size=w.heap.size+1 by simp] at h
 exact h
theorem twoT_cells (h:TwoT w W x y As cs Am cm Bs ds Bm dm):((W.cell? ⟨w.heap.size,0,none⟩=some (.int .i64 x.kind)∧W.cell? ⟨w.heap.size,1,none⟩=some (.string x.name)∧W.cell? ⟨w.heap.size,2,none⟩=some (.int .i64 x.low)∧W.cell? ⟨w.heap.size,3,none⟩=some (.int .i64 x.high)∧W.cell? ⟨w.heap.size,4,none⟩=some (.int .i64 x.max)∧W.cell? ⟨w.heap.size,5,none⟩=some (.slice As x.syms.length cs)∧W.cell? ⟨w.heap.size,6,none⟩=some (.slice Am x.mems.length cm)∧W.cell? ⟨w.heap.size,7,none⟩=some (.int .i64 x.key)∧W.cell? ⟨w.heap.size,8,none⟩=some (.int .i64 x.elem)∧W.cell? ⟨w.heap.size,9,none⟩=some (.bool x.open_))∧(W.cell? ⟨w.heap.size+1,0,none⟩=some (.int .i64 y.kind)∧W.cell? ⟨w.heap.size+1,1,none⟩=some (.string y.name)∧W.cell? ⟨w.heap.size+1,2,none⟩=some (.int .i64 y.low)∧W.cell? ⟨w.heap.size+1,3,none⟩=some (.int .i64 y.high)∧W.cell? ⟨w.heap.size+1,4,none⟩=some (.int .i64 y.max)∧W.cell? ⟨w.heap.size+1,5,none⟩=some (.slice Bs y.syms.length ds)∧W.cell? ⟨w.heap.size+1,6,none⟩=some (.slice Bm y.mems.length dm)∧W.cell? ⟨w.heap.size+1,7,none⟩=some (.int .i64 y.key)∧W.cell? ⟨w.heap.size+1,8,none⟩=some (.int .i64 y.elem)∧W.cell? ⟨w.heap.size+1,9,none⟩=some (.bool y.open_)))∧Hid (TwoT w W x y As cs Am cm Bs ds Bm dm) :=
 ⟨⟨⟨h.tx.cell 0,h.tx.cell 1,h.tx.cell 2,h.tx.cell 3,h.tx.cell 4,h.tx.cell 5,h.tx.cell 6,h.tx.cell 7,h.tx.cell 8,h.tx.cell 9⟩,⟨h.ty.cell 0,h.ty.cell 1,h.ty.cell 2,h.ty.cell 3,h.ty.cell 4,h.ty.cell 5,h.ty.cell 6,h.ty.cell 7,h.ty.cell 8,h.ty.cell 9⟩⟩,h⟩
end
theorem usesOk_iff {S:Nat→Nat→Bool} {l m:List (Int×Int)} (hl:l.length=m.length):(∀j (h1:j<l.length) (h2:j<m.length),S (l[j]).2.toNat (m[j]).2.toNat=true)→zR S l m=true:=fun h=>by
 have:zR S l m=allEq (fun u v=>S u.2.toNat v.2.toNat) l m:=by
  clear h hl
  induction l generalizing m with
  | nil=>cases m <;> rfl
  | cons a l ih=>cases m with
   | nil=>rfl
   | cons b m=>rw[zR,allEq,ih]
 rw[this]
 exact allEq_yes _ _ _ hl h
theorem usesOk_no {S:Nat→Nat→Bool} {l m:List (Int×Int)} {k:Nat} (h1:k<l.length) (h2:k<m.length) (h:S (l[k]).2.toNat (m[k]).2.toNat=false):zR S l m=false:=by
 have:zR S l m=allEq (fun u v=>S u.2.toNat v.2.toNat) l m:=by
  clear h h1 h2
  induction l generalizing m with
  | nil=>cases m <;> rfl
  | cons a l ih=>cases m with
   | nil=>rfl
   | cons b m=>rw[zR,allEq,ih]
 rw[this]
 exact allEq_no _ _ _ k h1 h2 h
theorem rRelated_any (x y:TyD) (As:Option Addr) (cs:Nat) (Am:Option Addr) (cm:Nat) (Bs:Option Addr) (ds:Nat) (Bm:Option Addr) (dm:Nat) (base g:Nat) (rows:List Value) (M:List (List Bool)) (n m:Nat) (hnm:n≤1000∧m≤1000) (hml:M.length=n) (hcl:∀r∈M,r.length=m)
  (hlen:(usesD x).length=(usesD y).length) (hx0:∀u∈usesD x,0≤u.2∧u.2<(n:Int)) (hy0:∀u∈usesD y,0≤u.2∧u.2<(m:Int)) (w:World) (hx:TyR w x As Am) (hy:TyR w y Bs Bm) (ht:TabAt w base g rows M) :
  Calls Tryz.prog 66 #[x.v As cs Am cm,y.v Bs ds Bm dm,.slice (some ⟨g,0,none⟩) n n] w (SamePost (zR (getB M) (usesD x) (usesD y)) w):=by
 have HX:=zh hx
 have HY:=zh hy
 have HT:=zh ht
 have HX0:=zh hx0
 have HY0:=zh hy0
 have HML:=zh hml
 have HCL:=zh hcl
 have HLN:=zh hlen
 obtain ⟨hn1,hm1⟩:=hnm
 have HT0:Hid (TwoT w ((w.alloc (x.box As cs Am cm)).alloc (y.box Bs ds Bm dm)) x y As cs Am cm Bs ds Bm dm):=twoT_new
 have hul:=uses_len x hx.mems.1
 unfold Lim at hul
 clear hx hy ht hx0 hy0 hml hcl hlen
 go_enter Tryz.func66,Tryz.ntmps66
 go_wp2
 generalize (w.alloc (x.box As cs Am cm)).alloc (y.box Bs ds Bm dm)=wc at *
 refine wp_region_held_drew (S:=(fun w'=>((w'.cell? ⟨w.heap.size,0,none⟩=some (.int .i64 x.kind)∧w'.cell? ⟨w.heap.size,1,none⟩=some (.string x.name)∧w'.cell? ⟨w.heap.size,2,none⟩=some (.int .i64 x.low)∧w'.cell? ⟨w.heap.size,3,none⟩=some (.int .i64 x.high)∧w'.cell? ⟨w.heap.size,4,none⟩=some (.int .i64 x.max)∧w'.cell? ⟨w.heap.size,5,none⟩=some (.slice As x.syms.length cs)∧w'.cell? ⟨w.heap.size,6,none⟩=some (.slice Am x.mems.length cm)∧w'.cell? ⟨w.heap.size,7,none⟩=some (.int .i64 x.key)∧w'.cell? ⟨w.heap.size,8,none⟩=some (.int .i64 x.elem)∧w'.cell? ⟨w.heap.size,9,none⟩=some (.bool x.open_))∧(w'.cell? ⟨w.heap.size+1,0,none⟩=some (.int .i64 y.kind)∧w'.cell? ⟨w.heap.size+1,1,none⟩=some (.string y.name)∧w'.cell? ⟨w.heap.size+1,2,none⟩=some (.int .i64 y.low)∧w'.cell? ⟨w.heap.size+1,3,none⟩=some (.int .i64 y.high)∧w'.cell? ⟨w.heap.size+1,4,none⟩=some (.int .i64 y.max)∧w'.cell? ⟨w.heap.size+1,5,none⟩=some (.slice Bs y.syms.length ds)∧w'.cell? ⟨w.heap.size+1,6,none⟩=some (.slice Bm y.mems.length dm)∧w'.cell? ⟨w.heap.size+1,7,none⟩=some (.int .i64 y.key)∧w'.cell? ⟨w.heap.size+1,8,none⟩=some (.int .i64 y.elem)∧w'.cell? ⟨w.heap.size+1,9,none⟩=some (.bool y.open_)))∧Hid (TwoT w w' x y As cs Am cm Bs ds Bm dm))) (by kernel_rfl) ?_ (fun zH_=>?_)
 ·(try dsimp only);exact twoT_cells (HT0.out.below (zE (Below.refl _ _) 1))
 refine tL 0 _ zH_ ?_
 try simp only[ps]
 refine tL 2 _ zH_ ?_
 try simp only[ps]
 refine tR 1 (fun K hK=>?_)
 go_simp
 (refine (rUses_any x As cs Am cm _ (HX.out.below zH_.2.out.bel)).mono ?_;rintro e w3 ⟨v3,rfl,ho3,hbz⟩;obtain ⟨A3,c3,rfl,hp3⟩:=own_pairs ho3 (uses_len x HX.out.mems.1);have HP3:=zh hp3)
 refine hK.out _ _ ?_ (fun zH_=>?_)
 ·(try dsimp only);exact twoT_cells (zH_.2.out.below hbz)
 clear hK K
 try simp only[ps]
 refine tR 3 (fun K hK=>?_)
 go_simp
 (refine (rUses_any y Bs ds Bm dm _ (HY.out.below zH_.2.out.bel)).mono ?_;rintro e w4 ⟨v4,rfl,ho4,hbz⟩;obtain ⟨A4,c4,rfl,hp4⟩:=own_pairs ho4 (uses_len y HY.out.mems.1);have HP4:=zh hp4;have HP3b:=zh (HP3.out.below hbz))
 refine hK.out _ _ ?_ (fun zH_=>?_)
 ·(try dsimp only);exact twoT_cells (zH_.2.out.below hbz)
 clear hK K
 try simp only[ps]
 refine tL 4 _ zH_ ?_
 try simp only[ps]
 refine tL 5 _ zH_ ?_
 try simp only[ps]
 refine wpAnyH_done (by kernel_rfl) ?_ _
 have HE:=zh zH_.2.out.bel
 have HT4:=zh (HT.out.below HE.out)
 clear zH_
 rw[←HLN.out]
 go_wp2
 go_loopw [9] (fun i wr=>∃k:Nat,k≤(usesD x).length∧i = .int .i64 k∧Hid ((∀j (h1:j<(usesD x).length) (h2:j<(usesD y).length),j<k→getB M ((usesD x)[j]).2.toNat ((usesD y)[j]).2.toNat=true)∧Below w4.heap.size w4 wr)) (fun i _=>(usesD x).length - (intOf i).toNat)
 case atStart=>exact ⟨0,by omega,rfl,(fun j _ _ h=>absurd h (by omega)),Below.refl _ _⟩
 case round =>
  obtain ⟨k,hk,rfl,hh⟩:=hrel
  by_cases hlt:k<(usesD x).length
  ·have hlt':k<(usesD y).length:=by have:=HLN.out;omega
   obtain ⟨b1,o1,rfl,a0,a1⟩:=(HP3b.out.below hh.out.2).at2 hlt
   obtain ⟨b2,o2,rfl,d0,d1⟩:=(HP4.out.below hh.out.2).at2 hlt'
   have hu:=HX0.out _ (List.getElem_mem hlt)
   have hv:=HY0.out _ (List.getElem_mem hlt')
   have HNO:=zh (fun h=>usesOk_no (S:=getB M) hlt hlt' h)
   have HYS:Hid (getB M ((usesD x)[k]).2.toNat ((usesD y)[k]).2.toNat=true→∀j (h1:j<(usesD x).length) (h2:j<(usesD y).length),j<k+1→getB M ((usesD x)[j]).2.toNat ((usesD y)[j]).2.toNat=true):=fun h j h1 h2 hj=>by
    by_cases e:j=k
    ·subst e;exact h
    ·exact hh.out.1 j h1 h2 (by omega)
   generalize (usesD x)[k]=u at *
   generalize (usesD y)[k]=v at *
   obtain ⟨u1,u2⟩:=u
   obtain ⟨v1,v2⟩:=v
   obtain ⟨p,rfl⟩:=Int.eq_ofNat_of_zero_le hu.1
   obtain ⟨q,rfl⟩:=Int.eq_ofNat_of_zero_le hv.1
   have hp:p<n:=by have:=hu.2;simp only at this;omega
   have hq:q<m:=by have:=hv.2;simp only at this;omega
   simp only[Int.toNat_natCast] at a1 d1 HNO HYS
   obtain ⟨gi,cg,c1,c2⟩:=tab_bit (HT4.out.below hh.out.2) HML.out HCL.out hp hq
   have h1:(0:Int)≤(k:Int):=by omega
   have h2:(k:Int)<((usesD x).length:Int):=by omega
   have h3:(0:Int)≤(p:Int):=by omega
   have h4:(p:Int)<(n:Int):=by omega
   have h5:(0:Int)≤(q:Int):=by omega
   have h6:(q:Int)<(m:Int):=by omega
   clear hu hv
   cases hb:getB M p q with
   | true =>
    have HB:=zh (HYS.out hb)
    rw[hb] at c2
    clear hb HNO HYS
    go_wp2
    go_quiet (fail)
    go_wp2
    go_roundw
    case rel=>exact ⟨k+1,by omega,by go_num,HB.out,zE hh.out.2 _⟩
    case measure=>simp[intOf];omega
   | false =>
    have HD:=zh (HNO.out hb)
    rw[hb] at c2
    clear hb HNO HYS
    go_wp2
    go_quiet (fail)
    go_wp2
    go_ret
    exact ⟨by rw[HD.out];rfl,zA HE.out (zE hh.out.2 _)⟩
  ·have HD:=zh (usesOk_iff (S:=getB M) HLN.out fun j h1 h2=>hh.out.1 j h1 h2 (by omega))
   go_wp2
   go_ret
   exact ⟨by rw[HD.out];rfl,zA HE.out hh.out.2⟩
end Go.Proofs.YtkhpajneinmmiaaGreatDoor


