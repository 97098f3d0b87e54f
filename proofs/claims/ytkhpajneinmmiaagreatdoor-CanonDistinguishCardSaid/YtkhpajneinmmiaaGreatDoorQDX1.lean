/-
  Walks: sheaveref18.Distinguish.
-/
import Derived.Test.YtkhpajneinmmiaaGreatDoorQWYG
import Derived.Test.YtkhpajneinmmiaaGreatDoorQCO2
import Derived.Deep.LoopGhost
import Derived.Deep.CutBlock
namespace Go.Proofs.YtkhpajneinmmiaaGreatDoor
open Go.RowKit
set_option maxHeartbeats 16000000
set_option maxRecDepth 100000
def BesV (v:Value) (w w':World):Prop:=w.heap.size≤w'.heap.size∧∀q,q<w.heap.size→v.ownBlock≠some q→w'.heap[q]? = w.heap[q]?
theorem BesV.of (v:Value) {w w':World} (h:Below w.heap.size w w'):BesV v w w':=⟨h.size,fun q hq _=>h.block q hq⟩
theorem BesV.cell {v:Value} {w w':World} (h:BesV v w w') {q o:Nat} {x:Value} (hx:w.cell? ⟨q,o,none⟩=some x) (hq:v.ownBlock≠some q):w'.cell? ⟨q,o,none⟩=some x :=
 (World.cell?_of_block (w:=w) (w':=w') (a:=⟨q,o,none⟩) (h.2 q (zF hx) hq)).trans hx
theorem dv21 {w0 w':World} {p14 p15:Nat} {tx ty:TyD} {As:Option Addr} {cs:Nat} {Am:Option Addr} {cm:Nat} {Bs:Option Addr} {ds:Nat} {Bm:Option Addr} {dm:Nat} (h1:TBox w0 p14 tx As cs Am cm) (h2:TBox w0 p15 ty Bs ds Bm dm) (hb:Below w0.heap.size w0 w'):((w'.cell? ⟨p14,0,none⟩=some (.int .i64 tx.kind)∧w'.cell? ⟨p14,1,none⟩=some (.string tx.name)∧w'.cell? ⟨p14,2,none⟩=some (.int .i64 tx.low)∧w'.cell? ⟨p14,3,none⟩=some (.int .i64 tx.high)∧w'.cell? ⟨p14,4,none⟩=some (.int .i64 tx.max)∧w'.cell? ⟨p14,5,none⟩=some (.slice As tx.syms.length cs)∧w'.cell? ⟨p14,6,none⟩=some (.slice Am tx.mems.length cm)∧w'.cell? ⟨p14,7,none⟩=some (.int .i64 tx.key)∧w'.cell? ⟨p14,8,none⟩=some (.int .i64 tx.elem)∧w'.cell? ⟨p14,9,none⟩=some (.bool tx.open_))∧(w'.cell? ⟨p15,0,none⟩=some (.int .i64 ty.kind)∧w'.cell? ⟨p15,1,none⟩=some (.string ty.name)∧w'.cell? ⟨p15,2,none⟩=some (.int .i64 ty.low)∧w'.cell? ⟨p15,3,none⟩=some (.int .i64 ty.high)∧w'.cell? ⟨p15,4,none⟩=some (.int .i64 ty.max)∧w'.cell? ⟨p15,5,none⟩=some (.slice Bs ty.syms.length ds)∧w'.cell? ⟨p15,6,none⟩=some (.slice Bm ty.mems.length dm)∧w'.cell? ⟨p15,7,none⟩=some (.int .i64 ty.key)∧w'.cell? ⟨p15,8,none⟩=some (.int .i64 ty.elem)∧w'.cell? ⟨p15,9,none⟩=some (.bool ty.open_)))∧Hid (Below w0.heap.size w0 w'):=by
 have k1:=h1.below hb
 have k2:=h2.below hb
 exact ⟨⟨⟨k1.cell 0,k1.cell 1,k1.cell 2,k1.cell 3,k1.cell 4,k1.cell 5,k1.cell 6,k1.cell 7,k1.cell 8,k1.cell 9⟩,k2.cell 0,k2.cell 1,k2.cell 2,k2.cell 3,k2.cell 4,k2.cell 5,k2.cell 6,k2.cell 7,k2.cell 8,k2.cell 9⟩,hb⟩
theorem dv25 {wi w0 w':World} {v:Value} {Ax:Option Addr} {st:List Int} {cx gu gv k:Nat} {lu l1 m1:Int} (h:((w0.cell? ⟨wi.heap.size,0,none⟩=some (.slice Ax st.length cx)∧w0.cell? ⟨gu,k * 2,none⟩=some (.int .i64 lu))∧(w0.cell? ⟨gu,k * 2+1,none⟩=some (.int .i64 l1)∧w0.cell? ⟨gv,k * 2+1,none⟩=some (.int .i64 m1)))) (hn:v.ownBlock≠some wi.heap.size∧v.ownBlock≠some gu∧v.ownBlock≠some gv) (hb:BesV v w0 w'):(((w'.cell? ⟨wi.heap.size,0,none⟩=some (.slice Ax st.length cx)∧w'.cell? ⟨gu,k * 2,none⟩=some (.int .i64 lu))∧(w'.cell? ⟨gu,k * 2+1,none⟩=some (.int .i64 l1)∧w'.cell? ⟨gv,k * 2+1,none⟩=some (.int .i64 m1))))∧Hid (BesV v w0 w') :=
 ⟨⟨⟨hb.cell h.1.1 hn.1,hb.cell h.1.2 hn.2.1⟩,hb.cell h.2.1 hn.2.1,hb.cell h.2.2 hn.2.2⟩,hb⟩
theorem alloc2_at (w:World) (o o2:Obj):((w.alloc o).alloc o2).heap[w.heap.size+1]? = some o2:=by
 have h:=heap_alloc_new (w.alloc o) o2
 rwa [show (w.alloc o).heap.size=w.heap.size+1 by simp] at h
theorem two_boxesX (w:World) (x y:TyD) (As:Option Addr) (cs:Nat) (Am:Option Addr) (cm:Nat) (Bs:Option Addr) (ds:Nat) (Bm:Option Addr) (dm:Nat):TBox ((w.alloc (x.box As cs Am cm)).alloc (y.box Bs ds Bm dm)) w.heap.size x As cs Am cm∧TBox ((w.alloc (x.box As cs Am cm)).alloc (y.box Bs ds Bm dm)) (w.heap.size+1) y Bs ds Bm dm :=
 ⟨yS (heap_alloc_new w _) _,alloc2_at w _ _⟩
theorem range_keep {w w':World} {q:Nat} (h:w'.heap[q]? = w.heap[q]?) {o:Nat} {cs:List Value} (hr:w.rangeAt q o cs):w'.rangeAt q o cs:=fun j u hj=>by
 rw[World.cell?_of_block (w:=w) (w':=w') (a:=⟨q,o+j,none⟩) h]
 exact hr j u hj
theorem WysSt.base {b0 b1:Nat} {wr:World} {v:Value} {L:List WyA} (h:WysSt b1 wr v L) (hb:b0≤b1):WysSt b0 wr v L:=⟨OwnL.base h.own hb,h.off⟩
theorem own_enc {w:World} {B:Nat} {v:Value} {st:List Int} (h:w.ownsRow B 3 1 v (st.map encI).length (st.map encI).flatten):OwnI w B v st:=by
 rw[List.length_map,←List.flatMap_def] at h
 exact h
section
variable {a b:List TyD} {ta tb:Int} {wl wk:World} {n i:Nat} {L:List WyA} {dn:List (Int×(Int×Int))} {bo:Option (List Int)} {v9 v:Value} {N:List WyA}
theorem DvS.put (h:DvS a b ta tb wl n L i dn bo v9 v N wk) (hI:LvI (NxE a b) (BadP a b) (ta,tb) n (L.map (·.w))) {x:Way} (hv:(L.map (·.w))[i]? = some x) {s0:Int} {t0:Int×Int} (he:NxE a b x.2 s0 t0) {w12:World} {v12:Value} {N12:List WyA} (hm:N12.map (·.w)=putD (N.map (·.w)) (x.1++[s0],t0))
  (hs:WysSt wl.heap.size w12 v12 N12) (hb:Below wl.heap.size wl w12):DvS a b ta tb wl n L i (dn++[(s0,t0)]) bo v9 v12 N12 w12 :=
 ⟨hb,by rw[hm];exact h.lp.put hI hv he,h.best,hs,by rw[hm];exact putD_nodup h.nd⟩
theorem DvS.start (a b:List TyD) (ta tb:Int) (wl:World) (n:Nat) (L:List WyA):DvS a b ta tb wl n L 0 [] none (.slice none 0 0) (.slice none 0 0) [] wl :=
 ⟨Below.refl _ _,LvP.init _ _,⟨none,0,rfl,RowsR.nil _ _ _ _ _⟩,WysSt.nil _ _,by simp⟩
theorem DvL.start {w W7:World} {A:Option Addr} {c:Nat} {B:Option Addr} {d:Nat} (h:TwoB w W7 A a.length c ta B b.length d tb) (hb:w.heap.size≤W7.heap.size):DvL a b ta tb w A c B d 0 [⟨([],(ta,tb)),none,0⟩] (.slice (some ⟨W7.heap.size,0,none⟩) 1 1) (W7.alloc (.cells #[.slice none 0 0,.int .i64 ta,.int .i64 tb] 111)):=by
 refine ⟨h.below (zD _ _),LvI.init,⟨⟨rfl,.inr ⟨W7.heap.size,1,#[.slice none 0 0,.int .i64 ta,.int .i64 tb],rfl,hb,heap_alloc_new _ _,Nat.le_refl _,by simp[maxLen],rfl,rfl⟩⟩,fun x hx=>?_⟩,by simp⟩
 obtain rfl:x=⟨([],(ta,tb)),none,0⟩:=by simpa using hx
 exact fun u _=>RowsR.nil _ _ _ _ _
theorem DvS.bad (h:DvS a b ta tb wl n L i [] bo v9 v N wk) (hI:LvI (NxE a b) (BadP a b) (ta,tb) n (L.map (·.w))) {x:Way} (hv:(L.map (·.w))[i]? = some x) (hb:BadP a b x.2) {z:List Int} (hz:betterD bo x.1=z) {A:Option Addr} {c:Nat} (hs:IntsR wl A z):DvS a b ta tb wl n L (i+1) [] (some z) (.slice A z.length c) v N wk:=by
 subst hz
 exact ⟨h.bel,h.lp.bad hI hv hb,⟨A,c,rfl,hs⟩,h.nx,h.nd⟩
theorem DvS.next (h:DvS a b ta tb wl n L i dn bo v9 v N wk) {x:Way} (hv:(L.map (·.w))[i]? = some x) (hb:¬ BadP a b x.2) (hd:∀s0 t0,NxE a b x.2 s0 t0→(s0,t0)∈dn):DvS a b ta tb wl n L (i+1) [] bo v9 v N wk :=
 ⟨h.bel,h.lp.next hv hb hd,h.best,h.nx,h.nd⟩
theorem DvS.use (h:DvS a b ta tb wl n L i dn bo v9 v N wk) (hI:LvI (NxE a b) (BadP a b) (ta,tb) n (L.map (·.w))) {x:Way} (hv:(L.map (·.w))[i]? = some x) {s0:Int} {t0:Int×Int} (he:NxE a b x.2 s0 t0) {w11 w12 w7:World} {v12 v0:Value} {N12:List WyA} (hb11:Below wk.heap.size wk w11) (hm:N12.map (·.w)=putD (N.map (·.w)) (x.1++[s0],t0))
  (hs:WysSt wl.heap.size w12 v12 N12) (hb:Below wl.heap.size w11 w12) (hk:∀q,q<w11.heap.size→v.ownBlock≠some q→w12.heap[q]? = w11.heap[q]?) (ho:v12.ownBlock=v.ownBlock∨∃g,v12.ownBlock=some g∧w11.heap.size≤g)
  (h0:BesV v0 w7 wk) (h1:v.ownBlock=v0.ownBlock∨∃g,v.ownBlock=some g∧w7.heap.size≤g):DvS a b ta tb wl n L i (dn++[(s0,t0)]) bo v9 v12 N12 w12∧BesV v0 w7 w12∧(v12.ownBlock=v0.ownBlock∨∃g,v12.ownBlock=some g∧w7.heap.size≤g):=by
 have z1:=h0.1
 have z2:=hb11.size
 refine ⟨h.put hI hv he hm hs ((zA h.bel hb11).trans hb),⟨Nat.le_trans z1 (Nat.le_trans z2 hb.size),fun q hq hne=>?_⟩,?_⟩
 ·rw[hk q (by omega) (fun e=>?_),hb11.block q (by omega)]
  ·exact h0.2 q hq hne
  ·rcases h1 with h1|⟨g,h1,h2⟩
   ·exact hne (h1▸e)
   ·rw[h1] at e;injection e with e;omega
 ·rcases ho with ho|⟨g,h2,h3⟩
  ·rw[ho];exact h1
  ·exact .inr ⟨g,h2,by omega⟩
end
theorem enc_len {st:List Int}:∀cs∈st.map encI,cs.length=1:=fun cs h=>by obtain ⟨x,_,rfl⟩:=List.mem_map.1 h;rfl
theorem enc_one {st:List Int}:∀cs∈st.map encI,∀u∈cs,u.oneCell'=true:=fun cs h u hu=>by
 obtain ⟨x,_,rfl⟩:=List.mem_map.1 h
 obtain rfl:u = .int .i64 x:=by simpa[encI] using hu
 rfl
theorem own_pair_at {E:Nat} {w:World} {base:Nat} {v:Value} {l:List (Int×Int)} (h:OwnL E 2 encP w base v l) {k:Nat} (hk:k<l.length):∃g c,v = .slice (some ⟨g,0,none⟩) l.length c∧(base≤g∧g<w.heap.size)∧w.cell? ⟨g,k * 2,none⟩=some (.int .i64 (l[k]).1)∧w.cell? ⟨g,k * 2+1,none⟩=some (.int .i64 (l[k]).2):=by
 have ho:=h
 obtain ⟨A,c,rfl,_,_,hr⟩:=h.reads
 obtain ⟨g,rfl,hg,hrg⟩:=hr (fun e=>by rw[e] at hk;simp at hk)
 have hx:=range_flat (k:=2) (fun _=>rfl) hrg (zl hk)
 rw[Nat.zero_add] at hx
 exact ⟨g,c,rfl,⟨hg,(World.ownsRow.lt ho g rfl).2⟩,hx 0 _ rfl,hx 1 _ rfl⟩
theorem put_anyN (base:Nat) (L:List WyA) (st:List Int) (lu l1 m1:Int) (A:Option Addr) (c n:Nat) (hc:n=st.length+1) (v:Value) (w:World) (hs:WysSt base w v L) (hx:Off (fun q=>v.ownBlock=some q) w fun u=>IntsR u A (st++[lu])) (hn:L.length≤5000) (hb:base≤w.heap.size) :
  Calls Tryz.prog 60 #[v,.agg #[.slice A n c,.int .i64 l1,.int .i64 m1]] w (PutPost base v L ⟨(st++[lu],(l1,m1)),A,c⟩ w):=by
 have e:n=(st++[lu]).length:=by simp[hc]
 subst e
 exact put_any base L ⟨(st++[lu],(l1,m1)),A,c⟩ v w hs hx hn hb
theorem own_two {w':World} {B:Nat} {v':Value} {st:List Int} {lu:Int} (ho:w'.ownsRow B 3 1 v' (st.length+1) (st.flatMap encI++[.int .i64 lu])) (hl:st.length≤1024):∃A c,v' = .slice A (st.length+1) c∧(∀u,Below w'.heap.size w' u→IntsR u A (st++[lu]))∧∀v0:Value,(∀q,v0.ownBlock=some q→q<B)→Off (fun q=>v0.ownBlock=some q) w' fun u=>IntsR u A (st++[lu]):=by
 have h1:OwnI w' B v' (st++[lu]):=OwnL.snoc (x:=lu) ho
 have hlim:Lim 8 (st++[lu]).length:=by unfold Lim;simp;omega
 obtain ⟨A,c,rfl,hr⟩:=OwnI.ints h1 hlim
 refine ⟨A,c,by simp,fun u hu=>hr.below hu,fun v0 h0=>own_ints_off h1 hlim h0⟩
theorem dist_yes {a b:List TyD} {ta tb:Int} {l:List Int} (e1:zH a ta=0) (e2:zH b tb=0) (h:Best (NxE a b) (BadP a b) (ta,tb) l):DistIs a ta b tb l 0:=by
 unfold DistIs
 rw[if_neg (by simp[e1]),if_neg (by simp[e2])]
 exact .inl ⟨rfl,h⟩
theorem dist_no {a b:List TyD} {ta tb:Int} (e1:zH a ta=0) (e2:zH b tb=0) (h:∀l t,Wk (NxE a b) (ta,tb) l t→¬ BadP a b t):DistIs a ta b tb [] 15:=by
 unfold DistIs
 rw[if_neg (by simp[e1]),if_neg (by simp[e2])]
 exact .inr ⟨rfl,rfl,h⟩
theorem rDist_any (a:List TyD) (ta:Int) (b:List TyD) (tb:Int) (A:Option Addr) (c:Nat) (B:Option Addr) (d:Nat) (w:World) (ha:TysR w A a) (hb:TysR w B b) :
  Calls Tryz.prog 27 #[rootV A a.length c ta,rootV B b.length d tb] w (RDistPost a ta b tb w):=by
 have HA:=zh ha
 have HB:=zh hb
 clear ha hb
 have HT0:=zh (two_new w A a.length c ta B b.length d tb)
 obtain ⟨⟨k0,k1,k2,k3⟩,_⟩:=yB HT0.out
 by_cases e1:zH a ta=0
 case neg =>
  have q1:(zH a ta != 0)=true:=by simp[e1]
  have HD:Hid (DistIs a ta b tb [] (zH a ta)):=by show DistIs _ _ _ _ _ _;unfold DistIs;rw[if_pos e1];exact ⟨rfl,rfl⟩
  clear e1
  go_enter Tryz.func27,Tryz.ntmps27
  go_wp2_with fail
  generalize (w.alloc (rootB A a.length c ta)).alloc (rootB B b.length d tb)=W0 at *
  refine (rError_any a ta A c _ (HA.out.below HT0.out.bel)).mono ?_
  rintro e w2 ⟨rfl,hb2⟩
  have HB2:=zh (zA HT0.out.bel hb2)
  clear k0 k1 k2 k3 hb2
  go_wp2
  go_ret2
  exact ⟨none,0,[],_,rfl,RowsR.nil _ _ _ _ _,HD.out,HB2.out⟩
 have q1:(zH a ta != 0)=false:=by simp[e1]
 by_cases e2:zH b tb=0
 case neg =>
  have q2:(zH b tb != 0)=true:=by simp[e2]
  have q3:((0:Int) != 0)=false:=rfl
  have HE1:=zh e1
  have HD:Hid (DistIs a ta b tb [] (zH b tb)):=by show DistIs _ _ _ _ _ _;unfold DistIs;rw[if_neg (by simp[e1]),if_pos e2];exact ⟨rfl,rfl⟩
  clear e1 e2
  go_enter Tryz.func27,Tryz.ntmps27
  go_wp2_with fail
  generalize (w.alloc (rootB A a.length c ta)).alloc (rootB B b.length d tb)=W0 at *
  refine (rError_any a ta A c _ (HA.out.below HT0.out.bel)).mono ?_
  rintro e w2 ⟨rfl,hb2⟩
  have HT2:=zh (HT0.out.below hb2)
  clear k0 k1 k2 k3 hb2
  obtain ⟨⟨k0,k1,k2,k3⟩,_⟩:=yB HT2.out
  rw[HE1.out]
  go_wp2_with fail
  refine (rError_any b tb B d _ (HB.out.below HT2.out.bel)).mono ?_
  rintro e w3 ⟨rfl,hb3⟩
  have HB3:=zh (zA HT2.out.bel hb3)
  clear k0 k1 k2 k3 hb3
  go_wp2
  go_ret2
  exact ⟨none,0,[],_,rfl,RowsR.nil _ _ _ _ _,HD.out,HB3.out⟩
 have q3:((0:Int) != 0)=false:=rfl
 obtain ⟨va,ha0,ha1⟩:=root_ok e1
 obtain ⟨vb,hb0,hb1⟩:=root_ok e2
 obtain ⟨p,rfl⟩:=Int.eq_ofNat_of_zero_le ha0
 obtain ⟨q,rfl⟩:=Int.eq_ofNat_of_zero_le hb0
 have HE1:=zh e1
 have HE2:=zh e2
 have HVA:=zh va
 have HVB:=zh vb
 have hla:=valid_len va
 have hlb:=valid_len vb
 have HUA:=zh (yL va)
 have HUB:=zh (yL vb)
 have HP0:Hid (InP a b ((p:Int),(q:Int))):=⟨⟨by omega,ha1⟩,by omega,hb1⟩
 clear e1 e2 va vb ha0 ha1 hb0 hb1 q1
 go_enter Tryz.func27,Tryz.ntmps27
 go_wp2_with fail
 generalize (w.alloc (rootB A a.length c (p:Int))).alloc (rootB B b.length d (q:Int))=W0 at *
 refine (rError_any a (p:Int) A c _ (HA.out.below HT0.out.bel)).mono ?_
 rintro e w2 ⟨rfl,hb2⟩
 have HT2:=zh (HT0.out.below hb2)
 clear k0 k1 k2 k3 hb2
 obtain ⟨⟨k0,k1,k2,k3⟩,_⟩:=yB HT2.out
 rw[HE1.out]
 go_wp2_with fail
 refine (rError_any b (q:Int) B d _ (HB.out.below HT2.out.bel)).mono ?_
 rintro e w3 ⟨rfl,hb3⟩
 have HT3:=zh (HT2.out.below hb3)
 clear k0 k1 k2 k3 hb3
 obtain ⟨⟨k0,k1,k2,k3⟩,_⟩:=yB HT3.out
 rw[HE2.out]
 go_wp2_with fail
 refine (rWire_any a (p:Int) b (q:Int) A c B d _ (HA.out.below HT3.out.bel) (HB.out.below HT3.out.bel)).mono ?_
 rintro e w4 ⟨u4,rfl,hu4,hb4⟩
 obtain ⟨U,hU,e4⟩:=hu4.1 HE1.out HE2.out
 have HWI:=zh (wire_iff HVA.out HVB.out HP0.out hU)
 rw[←e4] at HWI
 have HT4:=zh (HT3.out.below hb4)
 clear k0 k1 k2 k3 hb4 hu4 hU e4
 obtain ⟨⟨k0,k1,k2,k3⟩,_⟩:=yB HT4.out
 cases u4 with
 | true =>
  go_wp2
  go_ret2
  exact ⟨none,0,[],15,rfl,RowsR.nil _ _ _ _ _,dist_no HE1.out HE2.out (HWI.out.1 (by simp)),HT4.out.bel⟩
 | false =>
  have HBAD:Hid (∃l0 t0,Wk (NxE a b) ((p:Int),(q:Int)) l0 t0∧BadP a b t0):=by
   show ∃_ _,_
   refine Classical.byContradiction fun h=>?_
   have:=HWI.out.2 fun l t hw hb=>h ⟨l,t,hw,hb⟩
   cases this
  obtain ⟨l0,hl0,hl4⟩:∃l0,Hid (∃t0,Wk (NxE a b) ((p:Int),(q:Int)) l0 t0∧BadP a b t0)∧l0.length≤1024:=by
   obtain ⟨l,t,hw,hb⟩:=HBAD.out
   obtain ⟨l',hw',hlt⟩:=Wk.short (p:=InP a b) (inP_next HUA.out HUB.out) (pairs_len (a:=a) (b:=b)) hw HP0.out
   have:a.length * b.length≤32 * 32:=Nat.mul_le_mul hla hlb
   exact ⟨l',zh ⟨t,hw',hb⟩,by omega⟩
  have HST:=zh (DvL.start HT4.out HT4.out.bel.size)
  go_wp2
  clear k0 k1 k2 k3 HBAD HWI
  generalize w4.alloc (.cells #[.slice none 0 0,.int .i64 (p:Int),.int .i64 (q:Int)] 111)=W4 at *
  go_loopg [8] (l0.length+1) (fun gk v8 wr=>∃ (n:Nat) (L:List WyA),n+gk=l0.length+1∧Hid (DvL a b (p:Int) (q:Int) w A c B d n L v8 wr))
  case atStart=>exact ⟨0,_,by omega,HST.out⟩
  case round =>
   obtain ⟨n,L,hgk,hh⟩:=hrel
   obtain ⟨wl,rfl⟩:∃wl:World,wl=wr:=⟨_,rfl⟩
   have HLV:=zh hh.out
   clear hh
   obtain ⟨t0,hw0,hbd0⟩:=hl0.out
   have hnN:n≤l0.length:=HLV.out.lv.le hw0 hbd0
   have hLl:L.length≤1024:=ways_len hla hlb HUA.out HUB.out HP0.out HLV.out.lv.wk HLV.out.nd
   clear hw0 hbd0
   obtain ⟨A8,c8,rfl,_⟩:=HLV.out.ways.own.reads
   have HSS:=zh (DvS.start a b (p:Int) (q:Int) wl n L)
   go_wp2
   go_loopw [9,10,11,12] (fun v9 v10 v11 s wr=>∃ (i:Nat) (bo:Option (List Int)) (N:List WyA),i≤L.length∧s = .int .i64 (i:Int)∧v10 = .bool bo.isSome∧Hid (DvS a b (p:Int) (q:Int) wl n L i [] bo v9 v11 N wr)) (fun _ _ _ s _=>L.length - (intOf s).toNat)
   case atStart=>exact ⟨0,none,[],by omega,rfl,rfl,HSS.out⟩
   case round =>
    obtain ⟨i,bo,N,hi,rfl,rfl,hh⟩:=hrel
    obtain ⟨wi,rfl⟩:∃wi:World,wi=wr:=⟨_,rfl⟩
    have HS:=zh hh.out
    clear hh
    obtain ⟨A9,c9,e9,hi9⟩:=HS.out.best
    subst e9
    have HI9:=zh hi9
    obtain ⟨A11,c11,e11,_⟩:=HS.out.nx.own.reads
    subst e11
    clear hi9
    have HTI:=zh (HLV.out.two.below HS.out.bel)
    by_cases hlt:i<L.length
    ·obtain ⟨g,c8',e,hg0,hg1,hir,e0,e1,e2,ef⟩:=(HLV.out.ways.below HS.out.bel).at_ hlt
     injection e with eA _ eC
     subst eA
     subst eC
     have HXE:Hid ((L.map (·.w))[i]? = some L[i].w):=by show _=_;rw[List.getElem?_map,zl hlt];rfl
     have HIN:=zh (ways_in HUA.out HUB.out HP0.out HLV.out.lv.wk _ (List.getElem_mem hlt))
     have HLN:Hid ((L[i]).w.1.length=n):=HLV.out.lv.len _ (List.mem_map.2 ⟨_,List.getElem_mem hlt,rfl⟩)
     have HSTW:=zh ((HLV.out.ways.off _ (List.getElem_mem hlt)).out)
     generalize L[i]=x at *
     obtain ⟨⟨st,xa,xb⟩,Ax,cx⟩:=x
     simp only at e0 e1 e2
     obtain ⟨pa,hpa⟩:=Int.eq_ofNat_of_zero_le HIN.out.1.1
     obtain ⟨pb,hpb⟩:=Int.eq_ofNat_of_zero_le HIN.out.2.1
     simp only at hpa hpb
     subst hpa
     subst hpb
     have hpal:pa<a.length:=by have:=HIN.out.1.2;simp only at this;omega
     have hpbl:pb<b.length:=by have:=HIN.out.2.2;simp only at this;omega
     have HTA:Hid (tyAt a (pa:Int)=a[pa]):=tyAt_nat hpal
     have HTB:Hid (tyAt b (pb:Int)=b[pb]):=tyAt_nat hpbl
     have HFA:=zh (valid_tys HVA.out (List.getElem_mem hpal)).1
     obtain ⟨ob,oo,As,cs,Am,cm,rfl,htx,x0,x1,x2,x3,x4,x5,x6,x7,x8,x9⟩:=(HA.out.below HTI.out.bel).at10 hpal
     obtain ⟨pb_,po,Bs,ds,Bm,dm,rfl,hty,y0,y1,y2,y3,y4,y5,y6,y7,y8,y9⟩:=(HB.out.below HTI.out.bel).at10 hpbl
     have HTX:=zh htx
     have HTY:=zh hty
     generalize a[pa]=tx at *
     generalize b[pb]=ty at *
     obtain ⟨⟨k0,_,k2,_⟩,_⟩:=yB HTI.out
     have HX13:=zh (heap_alloc_new wi (.cells #[.slice Ax st.length cx,.int .i64 (pa:Int),.int .i64 (pb:Int)] 111))
     have HB13:=zh (zD wi (.cells #[.slice Ax st.length cx,.int .i64 (pa:Int),.int .i64 (pb:Int)] 111))
     have z13:wi.heap.size<(wi.alloc (.cells #[.slice Ax st.length cx,.int .i64 (pa:Int),.int .i64 (pb:Int)] 111)).heap.size:=by simp
     have h1:(0:Int)≤(i:Int):=by omega
     have h2:(i:Int)<(L.length:Int):=by omega
     have h3:(0:Int)≤(pa:Int):=by omega
     have h4:(pa:Int)<(a.length:Int):=by omega
     have h5:(0:Int)≤(pb:Int):=by omega
     have h6:(pb:Int)<(b.length:Int):=by omega
     have HC:Hid (((wi.cell? ⟨w.heap.size,0,none⟩=some (.slice (some ⟨ob,oo,none⟩) a.length c)∧wi.cell? ⟨w.heap.size+1,0,none⟩=some (.slice (some ⟨pb_,po,none⟩) b.length d))∧TyCells wi ob oo pa tx As cs Am cm)∧TyCells wi pb_ po pb ty Bs ds Bm dm):=zh ⟨⟨⟨k0,k2⟩,x0,x1,x2,x3,x4,x5,x6,x7,x8,x9⟩,y0,y1,y2,y3,y4,y5,y6,y7,y8,y9⟩
     clear htx hty x0 x1 x2 x3 x4 x5 x6 x7 x8 x9 y0 y1 y2 y3 y4 y5 y6 y7 y8 y9 k0 k2 hir ef
     go_upto_region 17 with fail
     clear e0 e1 e2
     have HC17:Hid (((((wi.alloc (.cells #[.slice Ax st.length cx,.int .i64 (pa:Int),.int .i64 (pb:Int)] 111)).cell? ⟨w.heap.size,0,none⟩=some (.slice (some ⟨ob,oo,none⟩) a.length c)∧(wi.alloc (.cells #[.slice Ax st.length cx,.int .i64 (pa:Int),.int .i64 (pb:Int)] 111)).cell? ⟨w.heap.size+1,0,none⟩=some (.slice (some ⟨pb_,po,none⟩) b.length d))∧((wi.alloc (.cells #[.slice Ax st.length cx,.int .i64 (pa:Int),.int .i64 (pb:Int)] 111)).cell? ⟨wi.heap.size,1,none⟩=some (.int .i64 (pa:Int))∧(wi.alloc (.cells #[.slice Ax st.length cx,.int .i64 (pa:Int),.int .i64 (pb:Int)] 111)).cell? ⟨wi.heap.size,2,none⟩=some (.int .i64 (pb:Int))))∧TyCells (wi.alloc (.cells #[.slice Ax st.length cx,.int .i64 (pa:Int),.int .i64 (pb:Int)] 111)) ob oo pa tx As cs Am cm)∧TyCells (wi.alloc (.cells #[.slice Ax st.length cx,.int .i64 (pa:Int),.int .i64 (pb:Int)] 111)) pb_ po pb ty Bs ds Bm dm):=by
      refine zh ⟨⟨⟨⟨zB HB13.out HC.out.1.1.1,zB HB13.out HC.out.1.1.2⟩,?_,?_⟩,HC.out.1.2.below HB13.out⟩,HC.out.2.below HB13.out⟩
      ·rw[cell_of_row _ _ _ _ _ _ HX13.out];rfl
      ·rw[cell_of_row _ _ _ _ _ _ HX13.out];rfl
     have HS13:=zh (HS.out.below HB13.out)
     have HTI13:=zh (HTI.out.below HB13.out)
     generalize wi.alloc (.cells #[.slice Ax st.length cx,.int .i64 (pa:Int),.int .i64 (pb:Int)] 111)=W13 at *
     have HK17:Hid (((W13.cell? ⟨w.heap.size,0,none⟩=some (.slice (some ⟨ob,oo,none⟩) a.length c)∧W13.cell? ⟨w.heap.size+1,0,none⟩=some (.slice (some ⟨pb_,po,none⟩) b.length d))∧(W13.cell? ⟨wi.heap.size,1,none⟩=some (.int .i64 (pa:Int))∧W13.cell? ⟨wi.heap.size,2,none⟩=some (.int .i64 (pb:Int))))∧(W13.cell? ⟨ob,oo+pa * 10,none⟩=some (.int .i64 tx.kind)∧W13.cell? ⟨ob,oo+pa * 10+1,none⟩=some (.string tx.name)∧W13.cell? ⟨ob,oo+pa * 10+2,none⟩=some (.int .i64 tx.low)∧W13.cell? ⟨ob,oo+pa * 10+3,none⟩=some (.int .i64 tx.high)∧W13.cell? ⟨ob,oo+pa * 10+4,none⟩=some (.int .i64 tx.max)∧W13.cell? ⟨ob,oo+pa * 10+5,none⟩=some (.slice As tx.syms.length cs)∧W13.cell? ⟨ob,oo+pa * 10+6,none⟩=some (.slice Am tx.mems.length cm)∧W13.cell? ⟨ob,oo+pa * 10+7,none⟩=some (.int .i64 tx.key)∧W13.cell? ⟨ob,oo+pa * 10+8,none⟩=some (.int .i64 tx.elem)∧W13.cell? ⟨ob,oo+pa * 10+9,none⟩=some (.bool tx.open_))∧(W13.cell? ⟨pb_,po+pb * 10,none⟩=some (.int .i64 ty.kind)∧W13.cell? ⟨pb_,po+pb * 10+1,none⟩=some (.string ty.name)∧W13.cell? ⟨pb_,po+pb * 10+2,none⟩=some (.int .i64 ty.low)∧W13.cell? ⟨pb_,po+pb * 10+3,none⟩=some (.int .i64 ty.high)∧W13.cell? ⟨pb_,po+pb * 10+4,none⟩=some (.int .i64 ty.max)∧W13.cell? ⟨pb_,po+pb * 10+5,none⟩=some (.slice Bs ty.syms.length ds)∧W13.cell? ⟨pb_,po+pb * 10+6,none⟩=some (.slice Bm ty.mems.length dm)∧W13.cell? ⟨pb_,po+pb * 10+7,none⟩=some (.int .i64 ty.key)∧W13.cell? ⟨pb_,po+pb * 10+8,none⟩=some (.int .i64 ty.elem)∧W13.cell? ⟨pb_,po+pb * 10+9,none⟩=some (.bool ty.open_))):=⟨⟨HC17.out.1.1.1,HC17.out.1.1.2⟩,HC17.out.1.2,HC17.out.2⟩
     go_cut [14,15] (fun s14 s15 wx=>∃p14 p15:Nat,s14 = .pointer (some ⟨p14,0,none⟩)∧s15 = .pointer (some ⟨p15,0,none⟩)∧Hid (TBox wx p14 tx As cs Am cm∧TBox wx p15 ty Bs ds Bm dm∧Below W13.heap.size W13 wx))
     case first =>
      as_aux_lemma =>
      obtain ⟨⟨⟨⟨r0,r2⟩,x1,x2⟩,t0,t1,t2,t3,t4,t5,t6,t7,t8,t9⟩,s0,s1,s2,s3,s4,s5,s6,s7,s8,s9⟩:=HC17.out
      clear HC17 HK17
      have y1:=zF r0
      have y2:=zF r2
      have y3:=zF t0
      have y4:=zF s0
      have y5:=zF x1
      simp only at y1 y2 y3 y4 y5
      go_region
      all_goals (go_wp2_with fail;go_meet;first|exact ⟨W13.heap.size,W13.heap.size+1,rfl,rfl,(two_boxesX W13 _ _ _ _ _ _ _ _ _ _).1,(two_boxesX W13 _ _ _ _ _ _ _ _ _ _).2,zE (zC _ _ _) 1⟩|exact ⟨W13.heap.size+1,W13.heap.size,rfl,rfl,(two_boxesX W13 _ _ _ _ _ _ _ _ _ _).2,(two_boxesX W13 _ _ _ _ _ _ _ _ _ _).1,zE (zC _ _ _) 1⟩)
     case rest =>
     obtain ⟨p14,p15,rfl,rfl,hcc⟩:=hcut
     have HXT:=zh hcc.out.1
     have HYT:=zh hcc.out.2.1
     have HBC:=zh hcc.out.2.2
     have HSC:=zh (HS13.out.below HBC.out)
     have HX13C:=zh ((HBC.out.block _ (zg.1 HX13.out).1).trans HX13.out)
     have HWC:=zh (zA HTI13.out.bel HBC.out)
     have HBWI:=zh (zA HB13.out HBC.out)
     clear hcc HC HC17 HK17
     obtain ⟨⟨⟨u0,u1,u2,u3,u4,u5,u6,u7,u8,u9⟩,v0,v1,v2,v3,v4,v5,v6,v7,v8,v9_⟩,_⟩:=dv21 HXT.out HYT.out (Below.refl _ _)
     have hz14:=HXT.out.blt
     have hz15:=HYT.out.blt
     go_wp2_with fail
     refine (rAlike_any false tx ty As cs Am cm Bs ds Bm dm _ (HTX.out.below HBWI.out) (HTY.out.below HBWI.out)).mono ?_
     rintro e w5 ⟨rfl,hb5⟩
     have HS5:=zh (HSC.out.below hb5)
     have HX5:=zh ((hb5.block _ (zg.1 HX13C.out).1).trans HX13C.out)
     have HXT5:=zh (HXT.out.below hb5)
     have HYT5:=zh (HYT.out.below hb5)
     have HBW5:=zh (zA HBWI.out hb5)
     have HAQ:Hid (zM false (tyAt a (pa:Int)) (tyAt b (pb:Int))=zM false tx ty):=by show _=_;rw[HTA.out,HTB.out]
     obtain ⟨al,hal⟩:∃al,al=zM false tx ty:=⟨_,rfl⟩
     rw[←hal]
     have HAL:=zh hal
     clear hal u0 u1 u2 u3 u4 u5 u6 u7 u8 u9 v0 v1 v2 v3 v4 v5 v6 v7 v8 v9_ hb5 hz14 hz15
     cases al with
     | false =>
      have HBP:Hid (BadP a b ((pa:Int),(pb:Int))):=by show zM false (tyAt a (pa:Int)) (tyAt b (pb:Int))=false;rw[HAQ.out,←HAL.out]
      have b0:w5.cell? ⟨wi.heap.size,0,none⟩=some (.slice Ax st.length cx):=by rw[cell_of_row _ _ _ _ _ _ HX5.out];rfl
      cases bo with
      | none =>
       simp only[Option.isSome_none]
       go_wp2
       go_roundw
       case rel=>exact ⟨i+1,some st,N,by omega,by go_num,rfl,HS5.out.bad HLV.out.lv HXE.out HBP.out rfl HSTW.out⟩
       case measure=>simp[intOf];omega
      | some bst =>
       simp only[Option.isSome_some,Option.getD_some] at HI9 ⊢
       go_wp2_with fail
       refine (rBefore_any st bst Ax A9 cx c9 _ (HSTW.out.below HS5.out.bel) (HI9.out.below HS5.out.bel)).mono ?_
       rintro e w6 ⟨rfl,hb6⟩
       have HS6:=zh (HS5.out.below hb6)
       clear b0
       have b0:w6.cell? ⟨wi.heap.size,0,none⟩=some (.slice Ax st.length cx):=by rw[cell_of_row _ _ _ _ _ _ ((hb6.block _ (zg.1 HX5.out).1).trans HX5.out)];rfl
       clear hb6
       cases hl:ltL st bst with
       | false =>
        have HBT:Hid (betterD (some bst) st=bst):=by show _=_;unfold betterD;simp[hl]
        clear hl
        go_wp2
        go_roundw
        case rel=>exact ⟨i+1,some bst,N,by omega,by go_num,rfl,HS6.out.bad HLV.out.lv HXE.out HBP.out HBT.out HI9.out⟩
        case measure=>simp[intOf];omega
       | true =>
        have HBT:Hid (betterD (some bst) st=st):=by show _=_;unfold betterD;simp[hl]
        clear hl
        go_wp2
        go_roundw
        case rel=>exact ⟨i+1,some st,N,by omega,by go_num,rfl,HS6.out.bad HLV.out.lv HXE.out HBP.out HBT.out HSTW.out⟩
        case measure=>simp[intOf];omega
     | true =>
      have HALT:Hid (zM false (tyAt a ((pa:Int),(pb:Int)).1) (tyAt b ((pa:Int),(pb:Int)).2)=true):=by show zM false (tyAt a (pa:Int)) (tyAt b (pb:Int))=true;rw[HAQ.out,←HAL.out]
      have HK21:Hid ((w5.cell? ⟨p14,0,none⟩=some (.int .i64 tx.kind)∧w5.cell? ⟨p14,1,none⟩=some (.string tx.name)∧w5.cell? ⟨p14,2,none⟩=some (.int .i64 tx.low)∧w5.cell? ⟨p14,3,none⟩=some (.int .i64 tx.high)∧w5.cell? ⟨p14,4,none⟩=some (.int .i64 tx.max)∧w5.cell? ⟨p14,5,none⟩=some (.slice As tx.syms.length cs)∧w5.cell? ⟨p14,6,none⟩=some (.slice Am tx.mems.length cm)∧w5.cell? ⟨p14,7,none⟩=some (.int .i64 tx.key)∧w5.cell? ⟨p14,8,none⟩=some (.int .i64 tx.elem)∧w5.cell? ⟨p14,9,none⟩=some (.bool tx.open_))∧(w5.cell? ⟨p15,0,none⟩=some (.int .i64 ty.kind)∧w5.cell? ⟨p15,1,none⟩=some (.string ty.name)∧w5.cell? ⟨p15,2,none⟩=some (.int .i64 ty.low)∧w5.cell? ⟨p15,3,none⟩=some (.int .i64 ty.high)∧w5.cell? ⟨p15,4,none⟩=some (.int .i64 ty.max)∧w5.cell? ⟨p15,5,none⟩=some (.slice Bs ty.syms.length ds)∧w5.cell? ⟨p15,6,none⟩=some (.slice Bm ty.mems.length dm)∧w5.cell? ⟨p15,7,none⟩=some (.int .i64 ty.key)∧w5.cell? ⟨p15,8,none⟩=some (.int .i64 ty.elem)∧w5.cell? ⟨p15,9,none⟩=some (.bool ty.open_))):=(dv21 HXT5.out HYT5.out (Below.refl _ _)).1
      go_upto_region 21 with fail
      refine wp_region_held_drew (S:=(fun w'=>((w'.cell? ⟨p14,0,none⟩=some (.int .i64 tx.kind)∧w'.cell? ⟨p14,1,none⟩=some (.string tx.name)∧w'.cell? ⟨p14,2,none⟩=some (.int .i64 tx.low)∧w'.cell? ⟨p14,3,none⟩=some (.int .i64 tx.high)∧w'.cell? ⟨p14,4,none⟩=some (.int .i64 tx.max)∧w'.cell? ⟨p14,5,none⟩=some (.slice As tx.syms.length cs)∧w'.cell? ⟨p14,6,none⟩=some (.slice Am tx.mems.length cm)∧w'.cell? ⟨p14,7,none⟩=some (.int .i64 tx.key)∧w'.cell? ⟨p14,8,none⟩=some (.int .i64 tx.elem)∧w'.cell? ⟨p14,9,none⟩=some (.bool tx.open_))∧(w'.cell? ⟨p15,0,none⟩=some (.int .i64 ty.kind)∧w'.cell? ⟨p15,1,none⟩=some (.string ty.name)∧w'.cell? ⟨p15,2,none⟩=some (.int .i64 ty.low)∧w'.cell? ⟨p15,3,none⟩=some (.int .i64 ty.high)∧w'.cell? ⟨p15,4,none⟩=some (.int .i64 ty.max)∧w'.cell? ⟨p15,5,none⟩=some (.slice Bs ty.syms.length ds)∧w'.cell? ⟨p15,6,none⟩=some (.slice Bm ty.mems.length dm)∧w'.cell? ⟨p15,7,none⟩=some (.int .i64 ty.key)∧w'.cell? ⟨p15,8,none⟩=some (.int .i64 ty.elem)∧w'.cell? ⟨p15,9,none⟩=some (.bool ty.open_)))∧Hid (Below w5.heap.size w5 w'))) (by kernel_rfl) ?_ (fun zH_=>?_)
      ·(try dsimp only);exact dv21 HXT5.out HYT5.out (zE (Below.refl _ _) 1)
      refine tL 0 _ zH_ ?_
      try simp only[ps]
      refine tL 2 _ zH_ ?_
      try simp only[ps]
      refine tR 1 (fun K hK=>?_)
      go_simp
      (refine (rUses_any tx As cs Am cm _ (HTX.out.below (zA HBW5.out zH_.2.out))).mono ?_;rintro e w6 ⟨v6,rfl,ho6,hb6⟩;obtain ⟨Au,cu,rfl,_⟩:=own_pairs ho6 (uses_len _ HTX.out.mems.1);have HB6:=zh (zA zH_.2.out hb6);have HO6:=zh (OwnL.base ho6 zH_.2.out.size);clear ho6 hb6)
      refine hK.out _ _ ?_ (fun zH_=>?_)
      ·(try dsimp only);exact dv21 HXT5.out HYT5.out HB6.out
      clear hK K
      try simp only[ps]
      refine tR 3 (fun K hK=>?_)
      go_simp
      (refine (rUses_any ty Bs ds Bm dm _ (HTY.out.below (zA HBW5.out zH_.2.out))).mono ?_;rintro e w7 ⟨v7,rfl,ho7,hb7⟩;obtain ⟨Av,cv,rfl,_⟩:=own_pairs ho7 (uses_len _ HTY.out.mems.1);have HB7:=zh (zA zH_.2.out hb7);have HO7:=zh (OwnL.base ho7 zH_.2.out.size);have HO67:=zh (HO6.out.below hb7);clear ho7 hb7)
      refine hK.out _ _ ?_ (fun zH_=>?_)
      ·(try dsimp only);exact dv21 HXT5.out HYT5.out HB7.out
      clear hK K
      try simp only[ps]
      refine tL 4 _ zH_ ?_
      try simp only[ps]
      refine tL 5 _ zH_ ?_
      try simp only[ps]
      refine wpAnyH_done (by kernel_rfl) ?_ _
      clear zH_ HK21 HO6 HB6
      have HS7:=zh (HS5.out.below HB7.out)
      have HX7:=zh ((HB7.out.block _ (zg.1 HX5.out).1).trans HX5.out)
      have HZL:Hid ((usesD tx).length=(usesD ty).length):=by
       have:=zip_len (t:=((pa:Int),(pb:Int))) HALT.out
       simp only[HTA.out,HTB.out] at this
       exact this
      have HZ5:Hid (wi.heap.size<w5.heap.size):=(zg.1 HX5.out).1
      have HZ7:Hid (w5.heap.size≤w7.heap.size):=HB7.out.size
      have hux:(usesD tx).length≤8796093022208:=by have:=uses_len _ HTX.out.mems.1;unfold Lim at this;omega
      have HOWN:Hid (∀q,(Value.slice A11 N.length c11).ownBlock=some q→wl.heap.size≤q∧q<wi.heap.size):=fun q hq=>World.ownsRow.lt HS.out.nx.own q hq
      go_wp2_with fail
      go_loopw [11,18] (fun v11 s wr=>∃ (k:Nat) (N':List WyA),k≤(usesD tx).length∧s = .int .i64 (k:Int)∧Hid (DvS a b (p:Int) (q:Int) wl n L i ((zipU (usesD tx) (usesD ty)).take k) bo (.slice A9 (bo.getD []).length c9) v11 N' wr∧BesV (.slice A11 N.length c11) w7 wr∧(v11.ownBlock=(Value.slice A11 N.length c11).ownBlock∨∃g,v11.ownBlock=some g∧w7.heap.size≤g))) (fun _ s _=>(usesD tx).length - (intOf s).toNat)
      case atStart=>exact ⟨0,N,by omega,rfl,HS7.out,BesV.of _ (Below.refl _ _),.inl rfl⟩
      case round =>
       obtain ⟨k,N',hk,rfl,hh⟩:=hrel
       obtain ⟨wk,rfl⟩:∃wk:World,wk=wr:=⟨_,rfl⟩
       have HSK:=zh hh.out.1
       have HBV:=zh hh.out.2.1
       have HOB:=zh hh.out.2.2
       clear hh
       obtain ⟨A12,c12,e12,_⟩:=HSK.out.nx.own.reads
       subst e12
       by_cases hlk:k<(usesD tx).length
       ·have hlk2:k<(usesD ty).length:=by have:=HZL.out;omega
        obtain ⟨gu,cu',eu,hgu,u0,u1⟩:=own_pair_at HO67.out hlk
        injection eu with eu1 _ eu3
        subst eu1
        subst eu3
        obtain ⟨gv,cv',ev,hgv,_,m1_⟩:=own_pair_at HO7.out hlk2
        injection ev with ev1 _ ev3
        subst ev1
        subst ev3
        have HNE:Hid (NxE a b ((pa:Int),(pb:Int)) ((usesD tx)[k]).1 (((usesD tx)[k]).2,((usesD ty)[k]).2)):=by
         have key:∀x y (_:tyAt a (pa:Int)=x) (_:tyAt b (pb:Int)=y) (h1:k<(usesD x).length) (h2:k<(usesD y).length),NxE a b ((pa:Int),(pb:Int)) ((usesD x)[k]).1 (((usesD x)[k]).2,((usesD y)[k]).2):=by
          intro x y ex ey h1 h2
          subst ex
          subst ey
          exact zip_nx HALT.out h1 h2
         exact key _ _ HTA.out HTB.out hlk hlk2
        have HTK:Hid ((zipU (usesD tx) (usesD ty)).take (k+1)=(zipU (usesD tx) (usesD ty)).take k++[(((usesD tx)[k]).1,(((usesD tx)[k]).2,((usesD ty)[k]).2))]):=by
         have hz:k<(zipU (usesD tx) (usesD ty)).length:=by rw[zipU_len HZL.out];exact hlk
         show _=_
         rw[List.take_succ_eq_append_getElem hz,zipU_get hlk hlk2 hz]
        have HUL:Hid ((usesD ty).length=(usesD tx).length):=HZL.out.symm
        have hlkj:(k:Int)<((usesD tx).length:Int):=by omega
        have hlkz:(k:Int)<((usesD ty).length:Int):=by omega
        have hk0:(0:Int)≤(k:Int):=by omega
        generalize ((usesD tx)[k]).1=lu at *
        generalize ((usesD tx)[k]).2=l1 at *
        generalize ((usesD ty)[k]).2=m1 at *
        have HNB:Hid ((Value.slice A12 N'.length c12).ownBlock≠some wi.heap.size∧(Value.slice A12 N'.length c12).ownBlock≠some gu∧(Value.slice A12 N'.length c12).ownBlock≠some gv):=by
         have z5:=HZ5.out
         have z7:=HZ7.out
         have key:∀q,(Value.slice A12 N'.length c12).ownBlock=some q→q<wi.heap.size∨w7.heap.size≤q:=fun q hq=>by
          rcases HOB.out with h|⟨g,h,h2⟩
          ·exact .inl (HOWN.out q (h▸hq)).2
          ·rw[h] at hq;injection hq with hq;exact .inr (hq▸h2)
         exact ⟨fun h=>by have:=key _ h;omega,fun h=>by have:=key _ h;omega,fun h=>by have:=key _ h;omega⟩
        have HK25:Hid (((wk.cell? ⟨wi.heap.size,0,none⟩=some (.slice Ax st.length cx)∧wk.cell? ⟨gu,k * 2,none⟩=some (.int .i64 lu))∧(wk.cell? ⟨gu,k * 2+1,none⟩=some (.int .i64 l1)∧wk.cell? ⟨gv,k * 2+1,none⟩=some (.int .i64 m1)))):=by
         have z5:=HZ5.out
         have hn:∀g,w5.heap.size≤g→(Value.slice A11 N.length c11).ownBlock≠some g:=fun g hg h=>by have:=(HOWN.out g h).2;omega
         have hn0:(Value.slice A11 N.length c11).ownBlock≠some wi.heap.size:=fun h=>by have:=(HOWN.out _ h).2;omega
         exact ⟨⟨HBV.out.cell (by rw[cell_of_row _ _ _ _ _ _ HX7.out];rfl) hn0,HBV.out.cell u0 (hn _ hgu.1)⟩,HBV.out.cell u1 (hn _ hgu.1),HBV.out.cell m1_ (hn _ hgv.1)⟩
        have hs10:st.length≤1024:=by have:=HLN.out;(try simp only at this);omega
        have HNL:Hid (N'.length≤5000):=by have:=ways_len hla hlb HUA.out HUB.out HP0.out HSK.out.lp.wk HSK.out.nd;show _≤_;omega
        have HWL:Hid (wl.heap.size≤wk.heap.size):=HSK.out.bel.size
        have HSTK:=zh (HSTW.out.below HSK.out.bel)
        have HV11:Hid (∀q,(Value.slice A12 N'.length c12).ownBlock=some q→q<wk.heap.size):=fun q hq=>(World.ownsRow.lt HSK.out.nx.own q hq).2
        have HFIN:Hid (∀ (w11 w12:World) (v12:Value) (N12:List WyA),Below wk.heap.size wk w11→N12.map (·.w)=putD (N'.map (·.w)) (st++[lu],(l1,m1))→WysSt wl.heap.size w12 v12 N12→Below wl.heap.size w11 w12 →
          (∀q,q<w11.heap.size→(Value.slice A12 N'.length c12).ownBlock≠some q→w12.heap[q]? = w11.heap[q]?)→(v12.ownBlock=(Value.slice A12 N'.length c12).ownBlock∨∃g,v12.ownBlock=some g∧w11.heap.size≤g) →
          DvS a b (p:Int) (q:Int) wl n L i ((zipU (usesD tx) (usesD ty)).take (k+1)) bo (.slice A9 (bo.getD []).length c9) v12 N12 w12∧BesV (.slice A11 N.length c11) w7 w12∧(v12.ownBlock=(Value.slice A11 N.length c11).ownBlock∨∃g,v12.ownBlock=some g∧w7.heap.size≤g)):=by
         intro w11 w12 v12 N12 h1 h2 h3 h4 h5 h6
         rw[HTK.out]
         exact HSK.out.use HLV.out.lv HXE.out HNE.out h1 h2 h3 h4 h5 h6 HBV.out HOB.out
        clear u0 u1 m1_
        go_upto_region 25 with fail
        refine wp_region_held_drew (S:=(fun w'=>(((w'.cell? ⟨wi.heap.size,0,none⟩=some (.slice Ax st.length cx)∧w'.cell? ⟨gu,k * 2,none⟩=some (.int .i64 lu))∧(w'.cell? ⟨gu,k * 2+1,none⟩=some (.int .i64 l1)∧w'.cell? ⟨gv,k * 2+1,none⟩=some (.int .i64 m1))))∧Hid (BesV (.slice A12 N'.length c12) wk w'))) (by kernel_rfl) ?_ (fun zH_=>?_)
        ·(try dsimp only);exact dv25 HK25.out HNB.out (BesV.of _ (zE (Below.refl _ _) 1))
        refine tL 0 _ zH_ ?_
        try simp only[ps]
        refine tL 2 _ zH_ ?_
        try simp only[ps]
        refine tL 3 _ zH_ ?_
        try simp only[ps]
        refine tL 5 _ zH_ ?_
        try simp only[ps]
        refine tL 6 _ zH_ ?_
        try simp only[ps]
        refine tL 7 _ zH_ ?_
        try simp only[ps]
        refine tL 8 _ zH_ ?_
        try simp only[ps]
        refine tL 9 _ zH_ ?_
        try simp only[ps]
        refine tL 12 _ zH_ ?_
        try simp only[ps]
        refine tL 13 _ zH_ ?_
        try simp only[ps]
        refine tL 14 _ zH_ ?_
        try simp only[ps]
        refine tL 15 _ zH_ ?_
        try simp only[ps]
        refine tL 16 _ zH_ ?_
        try simp only[ps]
        refine tL 17 _ zH_ ?_
        try simp only[ps]
        refine tL 18 _ zH_ ?_
        try simp only[ps]
        refine tL 19 _ zH_ ?_
        try simp only[ps]
        refine tL 20 _ zH_ ?_
        try simp only[ps]
        refine tL 21 _ zH_ ?_
        try simp only[ps]
        refine wpAnyH_ready (rs:=[1,10]) (by kernel_rfl) (by simp) ?_
        refine (AllReadyH.cons rfl (fun K hK=>?_) (AllReadyH.cons rfl (fun K hK=>?_) AllReadyH.nil))
        ·
         go_simp
         refine hK.out _ _ ?_ (fun zH_=>?_)
         ·(try dsimp only);exact dv25 HK25.out HNB.out (BesV.of _ (zA (zE (Below.refl _ _) 1) (zD _ _)))
         clear hK K
         try simp only[ps]
         refine wpAnyH_ready (rs:=[4,10]) (by kernel_rfl) (by simp) ?_
         refine (AllReadyH.cons rfl (fun K hK=>?_) (AllReadyH.cons rfl (fun K hK=>?_) AllReadyH.nil))
         ·
          (have HWA:Hid (Below wk.heap.size wk ((wk.drewN 1).alloc (.cells #[] 3))):=zA (zE (Below.refl _ _) 1) (zD _ _);have HOE:Hid (World.ownsRow ((wk.drewN 1).alloc (.cells #[] 3)) wk.heap.size 3 1 (.slice (some ⟨wk.heap.size,0,none⟩) 0 0) 0 []):=own_empty (wk.drewN 1) wk.heap.size 3 1 (Nat.le_refl _);refine step_append_e yC (by rfl) (.tmp 87) (.tmp 89) (by rfl) wk.heap.size _ (by rfl) HOE.out (st.map encI) st.length (by simp) Ax cx (by rfl) enc_len enc_one (ints_range (HSTK.out.below HWA.out)) (by rw[List.length_map];omega) (by rw[List.length_map];omega) HWA.out.size ?_;intro v4 w4 ho4 hg4;have HO4:Hid (OwnI w4 wk.heap.size v4 st):=own_enc ho4;have HB4:Hid (Below wk.heap.size wk w4):=HWA.out.grown hg4 HWA.out.size (fun q hq=>(World.ownsRow.lt HOE.out q hq).1);clear ho4 hg4)
          refine hK.out _ _ ?_ (fun zH_=>?_)
          ·(try dsimp only);exact dv25 HK25.out HNB.out (BesV.of _ HB4.out)
          clear hK K
          try simp only[ps]
          refine tR 10 (fun K hK=>?_)
          go_simp
          refine hK.out _ _ ?_ (fun zH_=>?_)
          ·(try dsimp only);exact dv25 HK25.out HNB.out (BesV.of _ (zA HB4.out (zD _ _)))
          clear hK K
          try simp only[ps]
          refine tR 11 (fun K hK=>?_)
          (have HWA2:Hid (Below wk.heap.size wk (w4.alloc (.cells #[.int .i64 lu] 3))):=zA HB4.out (zD _ _);refine zO yC (by rfl) (.tmp 90) (.tmp 96) (by rfl) wk.heap.size v4 _ _ (by rfl) (HO4.out.alloc _) w4.heap.size 0 1 1 [.int .i64 lu] (by rfl) rfl (zL w4 [.int .i64 lu] 3) (by simp[Value.oneCell']) (by omega) (by omega) HWA2.out.size ?_;intro v8 w11 ho8 hg8;obtain ⟨A7,c7,rfl,_,hf7⟩:=own_two ho8 hs10;have HF7:=zh (hf7 (.slice A12 N'.length c12) HV11.out);have HB11:Hid (Below wk.heap.size wk w11):=HWA2.out.grown hg8 HWA2.out.size HO4.out.lt;clear ho8 hg8 hf7)
          refine hK.out _ _ ?_ (fun zH_=>?_)
          ·(try dsimp only);exact dv25 HK25.out HNB.out (BesV.of _ HB11.out)
          clear hK K
          try simp only[ps]
          refine tL 22 _ zH_ ?_
          try simp only[ps]
          refine tR 23 (fun K hK=>?_)
          go_simp
          (refine (put_anyN wl.heap.size N' st lu l1 m1 A7 c7 _ (by first|rfl|simp) (.slice A12 N'.length c12) _ (HSK.out.nx.below HB11.out) HF7.out HNL.out (Nat.le_trans HWL.out HB11.out.size)).mono ?_;rintro e w12 ⟨v12,N12,rfl,hm12,hs12,hb12,hk12,ho12⟩;obtain ⟨A13,c13,e13,_⟩:=hs12.own.reads;subst e13;have HFF:=zh (HFIN.out _ _ _ _ HB11.out hm12 hs12 hb12 hk12 ho12);have HBE:Hid (BesV (.slice A12 N'.length c12) wk w12):=⟨Nat.le_trans HB11.out.size hb12.size,fun q hq hne=>(hk12 q (Nat.lt_of_lt_of_le hq HB11.out.size) hne).trans (HB11.out.block q hq)⟩;clear hm12 hs12 hb12 hk12 ho12)
          refine hK.out _ _ ?_ (fun zH_=>?_)
          ·(try dsimp only);exact dv25 HK25.out HNB.out HBE.out
          clear hK K
          try simp only[ps]
          refine tL 24 _ zH_ ?_
          try simp only[ps]
          refine wpAnyH_done (by kernel_rfl) ?_ _
          (clear zH_;go_wp2;go_roundw;(case rel=>exact ⟨k+1,N12,by omega,by go_num,HFF.out⟩);(case measure=>simp[intOf];omega))
         ·
          go_simp
          refine hK.out _ _ ?_ (fun zH_=>?_)
          ·(try dsimp only);exact dv25 HK25.out HNB.out (BesV.of _ (zA (zA (zE (Below.refl _ _) 1) (zD _ _)) (zD _ _)))
          clear hK K
          try simp only[ps]
          refine tR 4 (fun K hK=>?_)
          (have HWA:Hid (Below wk.heap.size wk (((wk.drewN 1).alloc (.cells #[] 3)).alloc (.cells #[.int .i64 lu] 3))):=zA (zA (zE (Below.refl _ _) 1) (zD _ _)) (zD _ _);have HOE:Hid (World.ownsRow (((wk.drewN 1).alloc (.cells #[] 3)).alloc (.cells #[.int .i64 lu] 3)) wk.heap.size 3 1 (.slice (some ⟨wk.heap.size,0,none⟩) 0 0) 0 []):=World.ownsRow.alloc (own_empty (wk.drewN 1) wk.heap.size 3 1 (Nat.le_refl _)) _;have HRN:Hid ((((wk.drewN 1).alloc (.cells #[] 3)).alloc (.cells #[.int .i64 lu] 3)).rangeAt (wk.heap.size+1) 0 [.int .i64 lu]):=(by have h:=zL ((wk.drewN 1).alloc (.cells #[] 3)) [.int .i64 lu] 3;rw[show ((wk.drewN 1).alloc (.cells #[] 3)).heap.size=wk.heap.size+1 by simp] at h;exact h);refine step_append_e yC (by rfl) (.tmp 87) (.tmp 89) (by rfl) wk.heap.size _ (by rfl) HOE.out (st.map encI) st.length (by simp) Ax cx (by rfl) enc_len enc_one (ints_range (HSTK.out.below HWA.out)) (by rw[List.length_map];omega) (by rw[List.length_map];omega) HWA.out.size ?_;intro v4 w4 ho4 hg4;have HO4:Hid (OwnI w4 wk.heap.size v4 st):=own_enc ho4;have HB4:Hid (Below wk.heap.size wk w4):=HWA.out.grown hg4 HWA.out.size (fun q hq=>(World.ownsRow.lt HOE.out q hq).1);have HR4:Hid (w4.rangeAt (wk.heap.size+1) 0 [.int .i64 lu]):=range_keep (zN hg4 (by simp) (fun q hq e=>by have hq':some wk.heap.size=some q:=hq;injection hq' with hq';omega)) HRN.out;clear ho4 hg4)
          refine hK.out _ _ ?_ (fun zH_=>?_)
          ·(try dsimp only);exact dv25 HK25.out HNB.out (BesV.of _ HB4.out)
          clear hK K
          try simp only[ps]
          refine tR 11 (fun K hK=>?_)
          (have HWA2:Hid (Below wk.heap.size wk w4):=HB4.out;refine zO yC (by rfl) (.tmp 90) (.tmp 96) (by rfl) wk.heap.size v4 _ _ (by rfl) (HO4.out) (wk.heap.size+1) 0 1 1 [.int .i64 lu] (by rfl) rfl HR4.out (by simp[Value.oneCell']) (by omega) (by omega) HWA2.out.size ?_;intro v8 w11 ho8 hg8;obtain ⟨A7,c7,rfl,_,hf7⟩:=own_two ho8 hs10;have HF7:=zh (hf7 (.slice A12 N'.length c12) HV11.out);have HB11:Hid (Below wk.heap.size wk w11):=HWA2.out.grown hg8 HWA2.out.size HO4.out.lt;clear ho8 hg8 hf7)
          refine hK.out _ _ ?_ (fun zH_=>?_)
          ·(try dsimp only);exact dv25 HK25.out HNB.out (BesV.of _ HB11.out)
          clear hK K
          try simp only[ps]
          refine tL 22 _ zH_ ?_
          try simp only[ps]
          refine tR 23 (fun K hK=>?_)
          go_simp
          (refine (put_anyN wl.heap.size N' st lu l1 m1 A7 c7 _ (by first|rfl|simp) (.slice A12 N'.length c12) _ (HSK.out.nx.below HB11.out) HF7.out HNL.out (Nat.le_trans HWL.out HB11.out.size)).mono ?_;rintro e w12 ⟨v12,N12,rfl,hm12,hs12,hb12,hk12,ho12⟩;obtain ⟨A13,c13,e13,_⟩:=hs12.own.reads;subst e13;have HFF:=zh (HFIN.out _ _ _ _ HB11.out hm12 hs12 hb12 hk12 ho12);have HBE:Hid (BesV (.slice A12 N'.length c12) wk w12):=⟨Nat.le_trans HB11.out.size hb12.size,fun q hq hne=>(hk12 q (Nat.lt_of_lt_of_le hq HB11.out.size) hne).trans (HB11.out.block q hq)⟩;clear hm12 hs12 hb12 hk12 ho12)
          refine hK.out _ _ ?_ (fun zH_=>?_)
          ·(try dsimp only);exact dv25 HK25.out HNB.out HBE.out
          clear hK K
          try simp only[ps]
          refine tL 24 _ zH_ ?_
          try simp only[ps]
          refine wpAnyH_done (by kernel_rfl) ?_ _
          (clear zH_;go_wp2;go_roundw;(case rel=>exact ⟨k+1,N12,by omega,by go_num,HFF.out⟩);(case measure=>simp[intOf];omega))
        ·
         go_simp
         refine hK.out _ _ ?_ (fun zH_=>?_)
         ·(try dsimp only);exact dv25 HK25.out HNB.out (BesV.of _ (zA (zE (Below.refl _ _) 1) (zD _ _)))
         clear hK K
         try simp only[ps]
         refine tR 1 (fun K hK=>?_)
         go_simp
         refine hK.out _ _ ?_ (fun zH_=>?_)
         ·(try dsimp only);exact dv25 HK25.out HNB.out (BesV.of _ (zA (zA (zE (Below.refl _ _) 1) (zD _ _)) (zD _ _)))
         clear hK K
         try simp only[ps]
         refine tR 4 (fun K hK=>?_)
         (have HWA:Hid (Below wk.heap.size wk (((wk.drewN 1).alloc (.cells #[.int .i64 lu] 3)).alloc (.cells #[] 3))):=zA (zA (zE (Below.refl _ _) 1) (zD _ _)) (zD _ _);have HOE:Hid (World.ownsRow (((wk.drewN 1).alloc (.cells #[.int .i64 lu] 3)).alloc (.cells #[] 3)) (wk.heap.size+1) 3 1 (.slice (some ⟨wk.heap.size+1,0,none⟩) 0 0) 0 []):=(by have h:=own_empty ((wk.drewN 1).alloc (.cells #[.int .i64 lu] 3)) (wk.heap.size+1) 3 1 (by simp);rw[show ((wk.drewN 1).alloc (.cells #[.int .i64 lu] 3)).heap.size=wk.heap.size+1 by simp] at h;exact h);have HRN:Hid ((((wk.drewN 1).alloc (.cells #[.int .i64 lu] 3)).alloc (.cells #[] 3)).rangeAt wk.heap.size 0 [.int .i64 lu]):=zY (zD _ _) (zL (wk.drewN 1) [.int .i64 lu] 3);refine step_append_e yC (by rfl) (.tmp 87) (.tmp 89) (by rfl) (wk.heap.size+1) _ (by rfl) HOE.out (st.map encI) st.length (by simp) Ax cx (by rfl) enc_len enc_one (ints_range (HSTK.out.below HWA.out)) (by rw[List.length_map];omega) (by rw[List.length_map];omega) (by simp) ?_;intro v4 w4 ho4 hg4;have HO4:Hid (OwnI w4 wk.heap.size v4 st):=OwnL.base (own_enc ho4) (Nat.le_succ _);have HB4:Hid (Below wk.heap.size wk w4):=HWA.out.grown hg4 HWA.out.size (fun q hq=>Nat.le_of_succ_le (World.ownsRow.lt HOE.out q hq).1);have HR4:Hid (w4.rangeAt wk.heap.size 0 [.int .i64 lu]):=range_keep (zN hg4 (by simp;omega) (fun q hq e=>by have:=(World.ownsRow.lt HOE.out q hq).1;omega)) HRN.out;clear ho4 hg4)
         refine hK.out _ _ ?_ (fun zH_=>?_)
         ·(try dsimp only);exact dv25 HK25.out HNB.out (BesV.of _ HB4.out)
         clear hK K
         try simp only[ps]
         refine tR 11 (fun K hK=>?_)
         (have HWA2:Hid (Below wk.heap.size wk w4):=HB4.out;refine zO yC (by rfl) (.tmp 90) (.tmp 96) (by rfl) wk.heap.size v4 _ _ (by rfl) (HO4.out) wk.heap.size 0 1 1 [.int .i64 lu] (by rfl) rfl HR4.out (by simp[Value.oneCell']) (by omega) (by omega) HWA2.out.size ?_;intro v8 w11 ho8 hg8;obtain ⟨A7,c7,rfl,_,hf7⟩:=own_two ho8 hs10;have HF7:=zh (hf7 (.slice A12 N'.length c12) HV11.out);have HB11:Hid (Below wk.heap.size wk w11):=HWA2.out.grown hg8 HWA2.out.size HO4.out.lt;clear ho8 hg8 hf7)
         refine hK.out _ _ ?_ (fun zH_=>?_)
         ·(try dsimp only);exact dv25 HK25.out HNB.out (BesV.of _ HB11.out)
         clear hK K
         try simp only[ps]
         refine tL 22 _ zH_ ?_
         try simp only[ps]
         refine tR 23 (fun K hK=>?_)
         go_simp
         (refine (put_anyN wl.heap.size N' st lu l1 m1 A7 c7 _ (by first|rfl|simp) (.slice A12 N'.length c12) _ (HSK.out.nx.below HB11.out) HF7.out HNL.out (Nat.le_trans HWL.out HB11.out.size)).mono ?_;rintro e w12 ⟨v12,N12,rfl,hm12,hs12,hb12,hk12,ho12⟩;obtain ⟨A13,c13,e13,_⟩:=hs12.own.reads;subst e13;have HFF:=zh (HFIN.out _ _ _ _ HB11.out hm12 hs12 hb12 hk12 ho12);have HBE:Hid (BesV (.slice A12 N'.length c12) wk w12):=⟨Nat.le_trans HB11.out.size hb12.size,fun q hq hne=>(hk12 q (Nat.lt_of_lt_of_le hq HB11.out.size) hne).trans (HB11.out.block q hq)⟩;clear hm12 hs12 hb12 hk12 ho12)
         refine hK.out _ _ ?_ (fun zH_=>?_)
         ·(try dsimp only);exact dv25 HK25.out HNB.out HBE.out
         clear hK K
         try simp only[ps]
         refine tL 24 _ zH_ ?_
         try simp only[ps]
         refine wpAnyH_done (by kernel_rfl) ?_ _
         (clear zH_;go_wp2;go_roundw;(case rel=>exact ⟨k+1,N12,by omega,by go_num,HFF.out⟩);(case measure=>simp[intOf];omega))
       ·have HBN:Hid (¬ BadP a b ((pa:Int),(pb:Int))):=fun h=>by
         have h':zM false (tyAt a (pa:Int)) (tyAt b (pb:Int))=false:=h
         rw[HALT.out] at h';cases h'
        have hke:k=(usesD tx).length:=by omega
        subst hke
        have HSN:Hid (DvS a b (p:Int) (q:Int) wl n L (i+1) [] bo (.slice A9 (bo.getD []).length c9) (.slice A12 N'.length c12) N' wk):=HSK.out.next HXE.out HBN.out (fun s0 t0 he=>by
         have hm:=zip_all (t:=((pa:Int),(pb:Int))) HALT.out (by show formD (tyAt a (pa:Int))=true;rw[HTA.out];exact HFA.out) s0 t0 he
         simp only[HTA.out,HTB.out] at hm
         rw[List.take_of_length_le (by rw[zipU_len HZL.out];exact Nat.le_refl _)]
         exact hm)
        go_wp2
        go_roundw
        case rel=>exact ⟨i+1,bo,N',by omega,by go_num,rfl,HSN.out⟩
        case measure=>simp[intOf];omega
    ·have hie:L.length≤i:=by omega
     have HIE:Hid ((L.map (·.w)).length≤i):=by show _≤_;rw[List.length_map];exact hie
     cases bo with
     | some bst =>
      simp only[Option.isSome_some,Option.getD_some] at HI9 ⊢
      have HFO:=zh (dist_yes HE1.out HE2.out (HS.out.lp.found HLV.out.lv HIE.out))
      have HRI:=zh (HI9.out.below HS.out.bel)
      go_wp2
      go_ret2
      exact ⟨A9,c9,bst,0,rfl,HRI.out,HFO.out,HTI.out.bel⟩
     | none =>
      simp only[Option.isSome_none]
      have HNL:Hid (DvL a b (p:Int) (q:Int) w A c B d (n+1) N (.slice A11 N.length c11) wi):=⟨HTI.out,HS.out.lp.step HLV.out.lv HIE.out,HS.out.nx.base HLV.out.two.bel.size,HS.out.nd⟩
      have hle2:n+1≤l0.length:=by
       obtain ⟨t0,hw0,hbd0⟩:=hl0.out
       exact HNL.out.lv.le hw0 hbd0
      have HGK:=zh (show (n+1)+(gk - 1)=l0.length+1 by omega)
      have HGL:Hid (gk - 1<gk):=by show _<_;omega
      go_wp2
      go_roundg (gk - 1)
      case measure=>exact HGL.out
      case rel=>exact ⟨n+1,N,HGK.out,HNL.out⟩
end Go.Proofs.YtkhpajneinmmiaaGreatDoor


