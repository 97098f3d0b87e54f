/-
  Walks: literal.write, kinds 1, 2, 3, 4.
-/
import Derived.Test.YtdfolgmcggdjdaaGreatDoorQTQ2
import Derived.Test.YtdfolgmcggdjdaaGreatDoorQEQ6
import Derived.Test.YtdfolgmcggdjdaaGreatDoorQDQ1
import Derived.Test.YtdfolgmcggdjdaaGreatDoorQGG0
import Derived.Test.YtdfolgmcggdjdaaGreatDoorQGA5
import Derived.Test.YtdfolgmcggdjdaaGreatDoorQGF2
import Derived.Test.YtdfolgmcggdjdaaGreatDoorQGF0
namespace Go.Proofs.YtdfolgmcggdjdaaGreatDoor
open Go.RowKit
set_option maxHeartbeats 16000000
set_option maxRecDepth 100000
theorem rIsTidy_any (s:List TyD) (d:Int) (A:zo) (c:Nat) (hd:CkSaid s A c d) (w:World) (hs:TysR w A s) (htb:Tab w) :
  Calls Tryz.prog 14 #[.agg #[.slice A s.length c]] w (SamePost (decide (tidyE s d=0∧tidyT s d=s)) w):=by
 have hln:=hs.1.lt (by omega)
 have HS:=zh hs;have HTB:=zh htb;have HD:=zh hd;have HB0:=zh (zD w (.cells #[.slice A s.length c] 27));have HX0:=zh (heap_alloc_new w (.cells #[.slice A s.length c] 27));clear hs hd htb
 go_enter Tryz.func14,Tryz.ntmps14
 go_wp2_with fail
 generalize w.alloc (.cells #[.slice A s.length c] 27)=W1 at *;refine (rTidy_any s d A c HD.out W1 (HS.out.below HB0.out) (HTB.out.below HB0.out)).mono ?_;rintro e w1 ⟨A',c',B,c2,rfl,ht,_,hb1⟩;have HT:=zh ht;have HB1:=zh (zB HB0.out hb1);have HX1:=zh (zF HX0.out hb1);clear ht hb1;generalize htt:tidyT s d=T at *;generalize tidyI s d=I at *;generalize hte:tidyE s d=E at *
 have HBN:=zh (zD w1 (.cells #[.slice A' T.length c'] 27));have HX2:=zh (zF HX1.out HBN.out);have x0:=zb HX1.out;have hlt:=zN x0;simp only at hlt
 by_cases hE:E=0
 ·subst hE
  have HD1:Hid (decide ((0:Int)=0∧T=s)=decide (s=T)):=by show _=_;simp[eq_comm]
  go_wp2_with fail
  refine (sEqual_any s T A c A' c' _ (HS.out.below (zB HB1.out HBN.out)) (HT.out.below HBN.out)).mono ?_;rintro e w2 ⟨rfl,hb2⟩;have HB2:=zh (zB (zB HB1.out HBN.out) hb2);clear hb2;go_wp2;go_ret;exact ⟨by first|rfl|(rw[HD1.out];rfl),HB2.out⟩
 ·have q1:(E==0)=false:=by simp[hE]
  have HD2:Hid (decide (E=0∧T=s)=false):=decide_eq_false fun h=>hE h.1
  go_wp2
  go_ret
  exact ⟨by rw[HD2.out];rfl,zB HB1.out HBN.out⟩
section
variable {s:List TyD} {df:MemD→ByteArray}
theorem whole_snoc (l:List TyD) (x:TyD):yL s df (l++[x])=if zL x.kind then joinD ⟨#[]⟩ (yL s df l) ⟨#[]⟩ (declR s df x) ⟨#[]⟩ else yL s df l:=by
 unfold yL;rw[List.foldl_append];rfl
theorem declR_le (hv:zJ s=0) (hn:Num64 s) {x:TyD} (hx:x∈s) (hkn:zL x.kind=true) (hd:∀m∈x.mems,(df m).size≤1073741824):(declR s df x).1.size≤20000000000:=by
 have hm16:=mems_le hv hx;have hs16:x.syms.length≤16:=by
  cases h:x.syms with
  | nil=>simp
  | cons y r=>have:=(sym_rng hv hx (y:=y) (by rw[h];simp)).2;rwa [h] at this
 have hnl:x.name.size≤24:=by
  obtain ⟨i,hi,e⟩:=List.getElem_of_mem hx;have:=name_le hv (t:=(i:Int)) ⟨by omega,by omega⟩ (by rw[zP hi,e];exact hkn)
  rwa [zP hi,e] at this
 have h0:=head0_le hnl;have h1:=symsR_le x.syms (head0 x) fun y hy=>(show In64 y.id∧y.name.size≤24 from by have:=sym_rng hv hx hy;exact ⟨by have:=this.1.1;unfold In64;omega,this.1.2⟩)
 have h2:=memsR_le (s:=s) (df:=df) x.mems (symsR (head0 x) x.syms,wordD x.name,false) fun m hm=>mem_fit hv hn hx hm (hd m hm)
 unfold declR
 show ((declM s df x).1++_).size≤_
 rw[zG];unfold declM;simp only at h2
 show _+4≤_
 omega
theorem whole_le {B:Nat} (h:∀x∈s,zL x.kind=true→(declR s df x).1.size≤B):∀k,k≤s.length→(yL s df (s.take k)).1.size≤k * B
 | 0,_=>by rw[List.take_zero];exact Nat.zero_le _
 | k+1,hk=>by
  have ih:=whole_le h k (by omega)
  rw[List.take_succ_eq_append_getElem (by omega),whole_snoc,Nat.succ_mul]
  split
  ·rename_i hkn
   have:=h _ (List.getElem_mem (show k<s.length by omega)) hkn
   unfold joinD;simp only[zG]
   show 0+_+0+_+0≤_
   omega
  ·omega
end
structure WhS (w:World) (A:zo) (n c:Nat) (z:TextD) (W:World):Prop where
 bel:Below w.heap.size w W
 sch:W.heap[w.heap.size]? = some (.cells #[.slice A n c] 27 (0,0))
 res:W.heap[w.heap.size+1]? = some (tbox noT)
 txt:W.heap[w.heap.size+1+1]? = some (tbox z)
section
variable {w:World} {A:zo} {n c:Nat} {z:TextD} {W W':World}
theorem WhS.below (h:WhS w A n c z W) (hb:Below W.heap.size W W'):WhS w A n c z W' :=
 ⟨zB h.bel hb,zF h.sch hb,zF h.res hb,zF h.txt hb⟩
theorem WhS.setA (h:WhS w A n c z W) (y:TextD):WhS w A n c y (W.setCells (w.heap.size+1+1) 0 [.string y.1,.bool y.2.1,.bool y.2.2]):=by
 have hne:∀ {q:Nat} {O:Obj},W.heap[q]? = some O→q≠w.heap.size+1+1→(W.setCells (w.heap.size+1+1) 0 [.string y.1,.bool y.2.1,.bool y.2.2]).heap[q]? = some O:=fun hO hq=>(yS hq _ _ _).trans hO
 exact ⟨below_setsg _ (by omega) _ _ _ h.bel,hne h.sch (by omega),hne h.res (by omega),text_set h.txt y⟩
theorem WhS.sc (h:WhS w A n c z W):W.cell? ⟨w.heap.size,0,none⟩=some (.slice A n c):=by
 rw[cell_of_row _ _ _ _ _ _ h.sch];rfl
end
theorem rWhole_any (s:List TyD) (A:zo) (c:Nat) (hv:zJ s=0) (hn:Num64 s) (df:MemD→ByteArray) (hd:∀t∈s,∀m∈t.mems,RDfOk s A c df m) (w:World) (hs:TysR w A s) (htab:Tab w) :
  Calls Tryz.prog 66 #[.agg #[.slice A s.length c]] w fun e w'=>e = .returned (tv (yL s df s))∧Below w.heap.size w w':=by
 have hls:=zZ hv;have HS:=zh hs;have HTB:=zh htab;have HV:=zh hv;have HN:=zh hn;have HD:=zh hd;have HDL:=zh (fun (x:TyD) (hx:x∈s) (hk:zL x.kind=true)=>declR_le (df:=df) hv hn hx hk fun m hm=>(hd x hx m hm).1)
 have HWL:=zh (whole_le (s:=s) (df:=df) HDL.out);have HB3:=zh (zB (zE w (.cells #[.slice A s.length c] 27) ztext) (zD _ ztext));have HW0:Hid (WhS w A s.length c (yL s df (s.take 0)) (((w.alloc (.cells #[.slice A s.length c] 27)).alloc ztext).alloc ztext)):=by
  refine ⟨HB3.out,zF (zF (heap_alloc_new w _) (zD _ _)) (zD _ _),?_,?_⟩
  ·have h:=heap_alloc_new (w.alloc (.cells #[.slice A s.length c] 27)) ztext
   rw[show (w.alloc (.cells #[.slice A s.length c] 27)).heap.size=w.heap.size+1 by simp] at h
   exact zF h (zD _ _)
  ·have h:=heap_alloc_new ((w.alloc (.cells #[.slice A s.length c] 27)).alloc ztext) ztext
   rw[show ((w.alloc (.cells #[.slice A s.length c] 27)).alloc ztext).heap.size=w.heap.size+1+1 by simp] at h
   exact h
 have HFN:Hid (yL s df (s.take s.length)=yL s df s):=by show _=_;rw[List.take_length]
 clear hs htab hv hn hd
 go_enter Tryz.func66,Tryz.ntmps66
 go_upto_region 2 with fail
 generalize ((w.alloc (.cells #[.slice A s.length c] 27)).alloc ztext).alloc ztext=W3 at *;have z0:=HW0.out.sc;go_wp2_with fail
 go_loopw [4] (fun i wr=>∃k:Nat,k≤s.length∧i = .int .i64 (k:Int)∧Hid (WhS w A s.length c (yL s df (s.take k)) wr)) (fun i _=>s.length - (intOf i).toNat)
 case atStart=>exact ⟨0,by omega,rfl,HW0.out⟩
 case round =>
  obtain ⟨k,hk,rfl,hh⟩:=hrel;obtain ⟨wk,rfl⟩:∃wk:World,wk=wr:=⟨_,rfl⟩;have HWK:=zh hh.out;clear hh z0;have z0:=HWK.out.sc;have hwl:=HWL.out k hk
  by_cases hlt:k<s.length
  ·obtain ⟨b,o,As,cs,Am,cm,rfl,htr,t0,t1,t2,t3,t4,t5,t6,t7,t8,t9⟩:=(HS.out.below HWK.out.bel).at10 hlt
   have h1:(0:Int)≤(k:Int):=by omega
   have h2:(k:Int)<(s.length:Int):=by omega
   have HNX:Hid (yL s df (s.take (k+1))=if zL (s[k]).kind then joinD ⟨#[]⟩ (yL s df (s.take k)) ⟨#[]⟩ (declR s df s[k]) ⟨#[]⟩ else yL s df (s.take k)):=by
    show _=_
    rw[List.take_succ_eq_append_getElem hlt,whole_snoc]
   have HDK:Hid (zL (s[k]).kind=true→∀W,Below w.heap.size w W→Calls Tryz.prog 94 #[.agg #[.slice (some ⟨b,o,none⟩) s.length c],.int .i64 (k:Int)] W fun e w'=>e = .returned (tv (declR s df s[k]))∧Below W.heap.size W w') :=
    fun hkn W hb=>rDecl_any s (some ⟨b,o,none⟩) c HV.out HN.out df k hlt hkn (HD.out _ (List.getElem_mem hlt)) W (HS.out.below hb) (HTB.out.below hb)
   have HDZ:=zh (HDL.out _ (List.getElem_mem hlt));clear htr t1 t2 t3 t4 t5 t6 t7 t8 t9;generalize yL s df (s.take k)=Z at *;generalize declR s df s[k]=D at *;generalize s[k]=x at *;go_wp2_with fail;refine (rNamed_any x.kind wk).mono ?_;rintro e w1 ⟨rfl,rfl⟩
   cases hkn:zL x.kind with
   | false =>
    rw[hkn,if_neg (by simp)] at HNX
    clear hkn t0;go_wp2;go_roundw
    case rel=>exact ⟨k+1,by omega,by go_num,by rw[HNX.out];exact HWK.out⟩
    case measure=>simp[intOf];omega
   | true =>
    rw[hkn,if_pos rfl] at HNX;have HDC:=zh (HDK.out hkn);have HDY:=zh (HDZ.out hkn);have HJ:Hid ((⟨#[]⟩:ByteArray).size+Z.1.size+(⟨#[]⟩:ByteArray).size+D.1.size+(⟨#[]⟩:ByteArray).size≤100000000000000):=by
     have h:=HDY.out;have:=Nat.mul_le_mul_right 20000000000 (show k≤32 by omega)
     show 0+_+0+_+0≤_
     omega
    clear hkn t0 HDK HDZ hwl
    have HCC:Hid (∀w',Below wk.heap.size wk w'→(w'.cell? ⟨w.heap.size,0,none⟩=some (.slice (some ⟨b,o,none⟩) s.length c)∧w'.cell? ⟨w.heap.size+1+1,0,none⟩=some (.string Z.1)∧w'.cell? ⟨w.heap.size+1+1,1,none⟩=some (.bool Z.2.1)∧w'.cell? ⟨w.heap.size+1+1,2,none⟩=some (.bool Z.2.2))∧Hid (WhS w (some ⟨b,o,none⟩) s.length c Z w'∧Below wk.heap.size wk w')):=fun w' hb=>⟨⟨(HWK.out.below hb).sc,text_cells (HWK.out.below hb).txt⟩,HWK.out.below hb,hb⟩
    go_wp2_with fail
    clear z0;refine yK (S:=(fun w'=>(w'.cell? ⟨w.heap.size,0,none⟩=some (.slice (some ⟨b,o,none⟩) s.length c)∧w'.cell? ⟨w.heap.size+1+1,0,none⟩=some (.string Z.1)∧w'.cell? ⟨w.heap.size+1+1,1,none⟩=some (.bool Z.2.1)∧w'.cell? ⟨w.heap.size+1+1,2,none⟩=some (.bool Z.2.2))∧Hid (WhS w (some ⟨b,o,none⟩) s.length c Z w'∧Below wk.heap.size wk w'))) 5 (by kernel_rfl) ?_ (fun zH_=>?_)
    ·(try dsimp only);exact HCC.out _ (zC (Below.refl _ _) 1)
    refine tB 0 ?_;refine tB 1 ?_;refine tC 2 ?_;refine tS 3 (fun K hK=>?_)
    go_simp
    (refine (HDC.out _ zH_.2.out.1.bel).mono ?_;rintro e w5 ⟨rfl,hb5⟩;have HB5:=zh (zB zH_.2.out.2 hb5);clear hb5)
    refine hK.out _ _ ?_ (fun zH_=>?_)
    ·(try dsimp only);exact HCC.out _ HB5.out
    clear hK K;refine tS 4 (fun K hK=>?_)
    go_simp
    (refine (joined_any ⟨#[]⟩ ⟨#[]⟩ ⟨#[]⟩ Z D _ HJ.out).mono ?_;rintro e w6 ⟨rfl,hb6⟩;have HB6:=zh (zB zH_.2.out.2 hb6);clear hb6)
    refine hK.out _ _ ?_ (fun zH_=>?_)
    ·(try dsimp only);exact HCC.out _ HB6.out
    clear hK K;refine yQ (rs:=[5]) (by kernel_rfl) (by simp) ?_
    refine AllReadyB.last rfl (by kernel_rfl) (fun K hK=>?_) AllReadyB.nil
    (simp only[List.getElem_toArray,List.getElem_cons_zero,List.getElem_cons_succ];rw[if_pos (by rfl)];refine wp_store_mid 74 (.tmp 3) (.tmp 23) rfl (w.heap.size+1+1) (0) (#[.string (joinD ⟨#[]⟩ Z ⟨#[]⟩ D ⟨#[]⟩).1,.bool (joinD ⟨#[]⟩ Z ⟨#[]⟩ D ⟨#[]⟩).2.1,.bool (joinD ⟨#[]⟩ Z ⟨#[]⟩ D ⟨#[]⟩).2.2]) (by rfl) (by rfl) ?_ ?_ ?_ ?_;(exact yM (HWK.out.below HB6.out).txt);(exact txt_info);(exact txt_one (joinD ⟨#[]⟩ Z ⟨#[]⟩ D ⟨#[]⟩)))
    refine hK.out _ _ ?_;clear hK K
    (try clear zH_)
    try simp only[ps]
    refine wpAny_done (by kernel_rfl) ?_ _
    have HW6:=zh ((HWK.out.below HB6.out).setA (joinD ⟨#[]⟩ Z ⟨#[]⟩ D ⟨#[]⟩));go_wp2;go_roundw
    case rel=>exact ⟨k+1,by omega,by go_num,by rw[HNX.out];exact HW6.out⟩
    case measure=>simp[intOf];omega
  ·obtain rfl:k=s.length:=by omega
   rw[HFN.out] at HWK;obtain ⟨k0,k1,k2⟩:=text_cells HWK.out.txt;obtain ⟨Z,hZ⟩:∃Z,yL s df s=Z:=⟨_,rfl⟩;have HZE:=zh hZ;rw[hZ] at HWK k0 k1 k2;clear hZ;go_wp2_with (refine wpList_store_mid rfl 74 (.tmp 2) (.tmp 24) rfl (w.heap.size+1) 0 #[.string Z.1,.bool Z.2.1,.bool Z.2.2] (by rfl) (by rfl) ?_ ?_ ?_ ?_;(exact yM HWK.out.res);(exact txt_info);(exact txt_one Z))
   obtain ⟨⟨r0,r1,r2⟩,hbe⟩:=txt_end HWK.out.bel (Nat.le_succ _) HWK.out.res Z;go_wp2;refine bodyPost_ret (v:=tv Z) (by simp[results,Tryz.results66,go_sem,r0,r1,r2]) rfl ⟨by rw[HZE.out],hbe⟩
def FitAt (s:List TyD) (A:zo) (c:Nat) (plain:Bool) (n:Nat):Prop:=∀ (t:Int) (v:Val) (A1:zo) (c1:Nat) (A2:zo) (c2:Nat) (A3:zo) (c3:Nat) (w:World),SizeOf.sizeOf v≤n→TysR w A s→ValR w v A1 A2 A3 →
 Calls Tryz.prog 113 #[.agg #[.slice A s.length c],.int .i64 t,v.v A1 c1 A2 c2 A3 c3,.bool plain] w fun e w'=>e = .returned (.bool (fitF s plain n t v))∧Below w.heap.size w w'
def Cap3 (s:List TyD) (A:zo) (c:Nat) (t:Int) (plain:Bool) (p1 p2 p3:Nat) (w:World):Prop :=
 w.cell? ⟨p1,0,none⟩=some (.slice A s.length c)∧w.cell? ⟨p2,0,none⟩=some (.int .i64 t)∧w.cell? ⟨p3,0,none⟩=some (.bool plain)
theorem Cap3.below {s:List TyD} {A:zo} {c:Nat} {t:Int} {plain:Bool} {p1 p2 p3:Nat} {w w':World} (h:Cap3 s A c t plain p1 p2 p3 w) (hb:Below w.heap.size w w'):Cap3 s A c t plain p1 p2 p3 w':=⟨zA hb h.1,zA hb h.2.1,zA hb h.2.2⟩
section
variable {s:List TyD} {A:zo} {c:Nat} {plain:Bool} {n:Nat}
theorem each1_any (hf:FitAt s A c plain n) (t:Int) (p1 p2 p3:Nat) (v:Val) (A1:zo) (c1:Nat) (A2:zo) (c2:Nat) (A3:zo) (c3:Nat) (w:World) (hv:SizeOf.sizeOf v≤n) (hs:TysR w A s) (hr:ValR w v A1 A2 A3) (hc:Cap3 s A c t plain p1 p2 p3 w) :
  Calls Tryz.prog 165 #[v.v A1 c1 A2 c2 A3 c3,.pointer (some ⟨p1,0,none⟩),.pointer (some ⟨p2,0,none⟩),.pointer (some ⟨p3,0,none⟩)] w fun e w'=>e = .returned (.bool (!fitF s plain n t v))∧Below w.heap.size w w':=by
 have HF:=zh hf;have HS:=zh (hs.below (zD w (v.box A1 c1 A2 c2 A3 c3)));have HR:=zh (hr.below (zD w (v.box A1 c1 A2 c2 A3 c3)));have HB:=zh (zD w (v.box A1 c1 A2 c2 A3 c3));obtain ⟨x1,x2,x3⟩:=hc;have l1:=zN x1;have l2:=zN x2;have l3:=zN x3;simp only at l1 l2 l3;clear hf hs hr
 go_enter Tryz.func165,Tryz.ntmps165
 go_wp2_with fail
 refine (HF.out t v A1 c1 A2 c2 A3 c3 _ hv HS.out HR.out).mono ?_;rintro e w2 ⟨rfl,hb2⟩;have HB2:=zh (zB HB.out hb2);clear hb2 x1 x2 x3;go_wp2;go_ret;exact ⟨rfl,HB2.out⟩
theorem idxV_any (hf:FitAt s A c plain n) (t:Int) (p1 p2 p3:Nat) (l:List Val) (B:zo) (d:Nat) (w:World) (hv:∀y∈l,SizeOf.sizeOf y≤n) (hs:TysR w A s) (hl:ValsR w B l) (hc:Cap3 s A c t plain p1 p2 p3 w) :
  Calls Tryz.prog 178 #[.slice B l.length d,.func (.func 165) #[] #[.pointer (some ⟨p1,0,none⟩),.pointer (some ⟨p2,0,none⟩),.pointer (some ⟨p3,0,none⟩)]] w fun e w'=>e = .returned (.int .i64 (idxD (fun y => !fitF s plain n t y) l))∧Below w.heap.size w w':=by
 have hln:=hl.1.lt (by omega)
 have HL:=zh hl;have HS:=zh hs;have HC:=zh hc;have HF:=zh hf;have HV:=zh hv;clear hl hs hc hf hv
 go_enter Tryz.func178,Tryz.ntmps178
 go_wp2
 go_loopw [8] (fun i wr=>∃k:Nat,k≤l.length∧i = .int .i64 (k:Int)∧Hid ((∀j (h:j<l.length),j<k→(!fitF s plain n t l[j])=false)∧Below w.heap.size w wr)) (fun i _=>l.length - (intOf i).toNat)
 case atStart=>exact ⟨0,by omega,rfl,(fun j _ h=>absurd h (by omega)),Below.refl _ _⟩
 case round =>
  obtain ⟨k,hk,rfl,hh⟩:=hrel
  by_cases hlt:k<l.length
  ·obtain ⟨b,o,A1,c1,A2,c2,A3,c3,rfl,hr1,a0,a1,a2,a3,a4,a5,a6,a7⟩:=(HL.out.below hh.out.2).at8 hlt
   have HR:=zh hr1;have HVK:=zh (HV.out _ (List.getElem_mem hlt));clear hr1;have h1:(0:Int)≤(k:Int):=by omega
   have h2:(k:Int)<(l.length:Int):=by omega
   cases he:(!fitF s plain n t l[k]) with
   | true =>
    have HD:=zh he;have HI:=zh (idxD_at (p:=fun y => !fitF s plain n t y) l k hlt hh.out.1 he)
    clear he;go_wp2_with (go_at_call 165;refine (each1_any HF.out t p1 p2 p3 l[k] A1 c1 A2 c2 A3 c3 wr HVK.out (HS.out.below hh.out.2) HR.out (HC.out.below hh.out.2)).mono ?_;rintro e w2 ⟨rfl,hb2⟩;rw[HD.out]);go_ret;exact ⟨by rw[HI.out];rfl,zB hh.out.2 hb2⟩
   | false =>
    have HD:=zh he;have HN:Hid (∀j (h:j<l.length),j<k+1→(!fitF s plain n t l[j])=false):=fun j h hj=>by
     by_cases e:j=k
     ·subst e;exact he
     ·exact hh.out.1 j h (by omega)
    clear he;go_wp2_with (go_at_call 165;refine (each1_any HF.out t p1 p2 p3 l[k] A1 c1 A2 c2 A3 c3 wr HVK.out (HS.out.below hh.out.2) HR.out (HC.out.below hh.out.2)).mono ?_;rintro e w2 ⟨rfl,hb2⟩;rw[HD.out]);go_roundw
    case rel=>exact ⟨k+1,by omega,by go_num,HN.out,zB hh.out.2 hb2⟩
    case measure=>simp[intOf];omega
  ·have HI:=zh (idxD_none (p:=fun y => !fitF s plain n t y) l fun j h=>hh.out.1 j h (by omega))
   go_wp2
   go_ret
   exact ⟨by rw[HI.out];rfl,hh.out.2⟩
theorem idxD_any {α:Type} {p:α→Bool}:∀l:List α,decide (0≤idxD p l)=l.any p
 | []=>rfl
 | x::r=>by
  have ih:=idxD_any (p:=p) r;have h:=idxD_lt p r;unfold idxD;rw[List.any_cons,←ih]
  cases hx:p x with
  | true=>simp
  | false =>
   rw[if_neg (by simp),Bool.false_or]
   split
   ·rename_i h1
    rw[decide_eq_decide];omega
   ·rw[decide_eq_decide];omega
theorem contV_any (hf:FitAt s A c plain n) (t:Int) (p1 p2 p3:Nat) (l:List Val) (B:zo) (d:Nat) (w:World) (hv:∀y∈l,SizeOf.sizeOf y≤n) (hs:TysR w A s) (hl:ValsR w B l) (hc:Cap3 s A c t plain p1 p2 p3 w) :
  Calls Tryz.prog 164 #[.slice B l.length d,.func (.func 165) #[] #[.pointer (some ⟨p1,0,none⟩),.pointer (some ⟨p2,0,none⟩),.pointer (some ⟨p3,0,none⟩)]] w fun e w'=>e = .returned (.bool (l.any fun y => !fitF s plain n t y))∧Below w.heap.size w w':=by
 have HI:=zh (idxV_any hf t p1 p2 p3 l B d w hv hs hl hc);have HD:=zh (idxD_any (p:=fun y => !fitF s plain n t y) l)
 clear hf hv hs hl hc
 go_enter Tryz.func164,Tryz.ntmps164
 go_wp2_with fail
 refine HI.out.mono ?_;rintro e w2 ⟨rfl,hb2⟩;have HB:=zh hb2;clear hb2 HI;go_wp2;go_ret;exact ⟨by rw[←HD.out];rfl,HB.out⟩
theorem eachV_any (hf:FitAt s A c plain n) (t:Int) (l:List Val) (B:zo) (d:Nat) (w:World) (hv:∀y∈l,SizeOf.sizeOf y≤n) (hs:TysR w A s) (hl:ValsR w B l) :
  Calls Tryz.prog 138 #[.agg #[.slice A s.length c],.int .i64 t,.slice B l.length d,.bool plain] w fun e w'=>e = .returned (.bool (l.all fun y=>fitF s plain n t y))∧Below w.heap.size w w':=by
 have HB:=zh (zB (zB (zD w (.cells #[.slice A s.length c] 27)) (zD _ (.cells #[.int .i64 t] 3))) (zD _ (.cells #[.bool plain] 4)));have HC:Hid (Cap3 s A c t plain w.heap.size (w.heap.size+1) (w.heap.size+1+1) (((w.alloc (.cells #[.slice A s.length c] 27)).alloc (.cells #[.int .i64 t] 3)).alloc (.cells #[.bool plain] 4))):=by
  refine ⟨?_,?_,?_⟩ <;> go_simp
 have HI:=zh (contV_any hf t w.heap.size (w.heap.size+1) (w.heap.size+1+1) l B d _ hv (hs.below HB.out) (hl.below HB.out) HC.out);have HD:Hid ((!(l.any fun y => !fitF s plain n t y))=l.all fun y=>fitF s plain n t y):=by show _=_;simp[List.any_eq_not_all_not]
 clear hf hv hs hl HC
 go_enter Tryz.func138,Tryz.ntmps138
 go_wp2_with fail
 refine HI.out.mono ?_;rintro e w2 ⟨rfl,hb2⟩;have HB2:=zh (zB HB.out hb2);clear hb2 HI;go_wp2;go_ret;exact ⟨by rw[←HD.out];rfl,HB2.out⟩
end
def rawOk (x:TyD) (a:RawD):Bool:=!(x.mems.any fun y=>decide (y.id=a.id))&&freeD a.id
theorem rawOk_iff (x:TyD) (a:RawD):rawOk x a=((x.mems.all fun m=>decide (m.id≠a.id))&&freeD a.id):=by
 unfold rawOk
 congr 1
 simp[List.all_eq_not_any_not]
theorem raws_all (x:TyD):∀ (l:List RawD),(∀k (h:k<l.length),rawOk x l[k]=true)→(∀k (h:k+1<l.length),(l[k]).id<(l[k+1]).id)→rawsD x l=true
 | [],_,_=>rfl
 | [a],h,_=>by
  have h0:=h 0 (by simp)
  rw[rawOk_iff] at h0;have h0':((x.mems.all fun m=>decide (m.id≠a.id))&&freeD a.id)=true:=h0
  unfold rawsD;rw[h0'];rfl
 | a::b::r,h,h2=>by
  have h0:=h 0 (by simp)
  rw[rawOk_iff] at h0;have h0':((x.mems.all fun m=>decide (m.id≠a.id))&&freeD a.id)=true:=h0
  have h1:a.id<b.id:=h2 0 (by simp)
  unfold rawsD;rw[h0',raws_all x (b::r) (fun k hk=>h (k+1) (by simpa using hk)) (fun k hk=>h2 (k+1) (by simpa using hk))]
  simp[h1]
theorem raws_not (x:TyD):∀ (l:List RawD) (k:Nat) (h:k<l.length),rawOk x l[k]=false→rawsD x l=false
 | a::r,0,_,hn=>by
  rw[rawOk_iff] at hn;have hn':((x.mems.all fun m=>decide (m.id≠a.id))&&freeD a.id)=false:=hn
  unfold rawsD;rw[hn',Bool.false_and,Bool.false_and]
 | a::r,k+1,h,hn=>by
  unfold rawsD;rw[raws_not x r k (by simpa using h) hn,Bool.and_false]
theorem raws_desc (x:TyD):∀ (l:List RawD) (k:Nat) (h:k+1<l.length),¬ (l[k]).id<(l[k+1]).id→rawsD x l=false
 | [_],k,h,_=>by simp at h
 | a::b::r,0,_,hn=>by
  have hn':¬ a.id<b.id:=hn;unfold rawsD;simp[hn']
 | a::b::r,k+1,h,hn=>by
  unfold rawsD;rw[raws_desc x (b::r) k (by simpa using h) hn,Bool.and_false]
theorem zips_all (f:Int→Val→Bool):∀ (ms:List MemD) (vs:List Val),(∀k (h:k<ms.length) (h':k<vs.length),f (ms[k]).type vs[k]=true)→((ms.zip vs).all fun p=>f p.1.type p.2)=true
 | [],_,_=>rfl
 | _::_,[],_=>rfl
 | m::ms,v::vs,h=>by
  have h0:f m.type v=true:=h 0 (by simp) (by simp)
  simp only[List.zip_cons_cons,List.all_cons,h0,Bool.true_and];exact zips_all f ms vs fun k h1 h2=>h (k+1) (by simpa using h1) (by simpa using h2)
theorem zips_not (f:Int→Val→Bool):∀ (ms:List MemD) (vs:List Val) (k:Nat) (h:k<ms.length) (h':k<vs.length),f (ms[k]).type vs[k]=false→((ms.zip vs).all fun p=>f p.1.type p.2)=false
 | m::ms,v::vs,0,_,_,h=>by
  have h0:f m.type v=false:=h;simp only[List.zip_cons_cons,List.all_cons,h0,Bool.false_and]
 | m::ms,v::vs,k+1,h1,h2,h=>by
  simp only[List.zip_cons_cons,List.all_cons,zips_not f ms vs k (by simpa using h1) (by simpa using h2) h,Bool.and_false]
theorem find_idx {α:Type} {p:α→Bool}:∀ (l:List α),l.any p=true→∃k,∃h:k<l.length,idxD p l=(k:Int)∧l.find? p=some l[k]
 | [],h=>by cases h
 | x::r,h=>by
  cases hx:p x with
  | true=>exact ⟨0,by simp,by unfold idxD;rw[if_pos hx];rfl,by rw[List.find?_cons,hx];rfl⟩
  | false =>
   rw[List.any_cons,hx,Bool.false_or] at h;obtain ⟨k,hk,e1,e2⟩:=find_idx r h;refine ⟨k+1,by simpa using hk,?_,?_⟩
   ·unfold idxD
    rw[hx,if_neg (by simp),e1,if_neg (by omega)]
    omega
   ·rw[List.find?_cons,hx];exact e2
theorem find_no {α:Type} {p:α→Bool} (l:List α) (h:l.any p=false):l.find? p=none:=by
 rw[List.find?_eq_none]
 intro x hx hp
 rw[List.any_eq_false] at h;exact h x hx hp
theorem val_size (v:Val):∀y,y∈v.keys∨y∈v.items→SizeOf.sizeOf y<SizeOf.sizeOf v:=by
 intro y hy
 obtain ⟨k,b,i,st,id,ks,is,r⟩:=v;simp only[Val.mk.sizeOf_spec]
 rcases hy with h|h
 ·have:=List.sizeOf_lt_of_mem (show y∈ks from h);omega
 ·have:=List.sizeOf_lt_of_mem (show y∈is from h);omega
theorem zH {W:World} {b:Nat} {v:Val} {A1:zo} {c1:Nat} {A2:zo} {c2:Nat} {A3:zo} {c3:Nat} (h:W.heap[b]? = some (v.box A1 c1 A2 c2 A3 c3)) :
  W.cell? ⟨b,0,none⟩=some (.int .i64 v.kind)∧W.cell? ⟨b,1,none⟩=some (.bool v.bool)∧W.cell? ⟨b,2,none⟩=some (.int .i64 v.int)∧W.cell? ⟨b,3,none⟩=some (.string v.str)∧W.cell? ⟨b,4,none⟩=some (.int .i64 v.id)∧W.cell? ⟨b,5,none⟩=some (.slice A1 v.keys.length c1)∧W.cell? ⟨b,6,none⟩=some (.slice A2 v.items.length c2)∧W.cell? ⟨b,7,none⟩=some (.slice A3 v.rest.length c3):=by
 refine ⟨?_,?_,?_,?_,?_,?_,?_,?_⟩ <;> (rw[cell_of_row _ _ _ _ _ _ h];rfl)
theorem scSymA_any (n:Int) (t:TyD) (As:zo) (cs:Nat) (Am:zo) (cm:Nat) (w:World) (ht:TyR w t As Am) :
  Calls Tryz.prog 135 #[t.v As cs Am cm,.int .i64 n] w fun e w'=>∃r:Int,e = .returned (.tuple #[.int .i64 r,.bool (t.syms.any fun y=>decide (y.id=n))])∧Below w.heap.size w w' :=
 (scSym_any n t As cs Am cm w ht).mono fun e w' ⟨h1,h2⟩=>⟨_,h1.trans (by rw[idxD_any]),h2⟩
theorem scMemA_any (n:Int) (t:TyD) (As:zo) (cs:Nat) (Am:zo) (cm:Nat) (w:World) (ht:TyR w t As Am) :
  Calls Tryz.prog 137 #[t.v As cs Am cm,.int .i64 n] w fun e w'=>∃r:Int,e = .returned (.tuple #[.int .i64 r,.bool (t.mems.any fun y=>decide (y.id=n))])∧((t.mems.any fun y=>decide (y.id=n))=true→r=idxD (fun y:MemD=>decide (y.id=n)) t.mems)∧Below w.heap.size w w' :=
 (scMem_any n t As cs Am cm w ht).mono fun e w' ⟨h1,h2⟩=>⟨_,h1.trans (by rw[idxD_any]),fun h=>by
  rw[←idxD_any] at h;exact if_neg (by have:=of_decide_eq_true h;omega),h2⟩
theorem sizeV_pos (v:Val):0<SizeOf.sizeOf v:=by
 obtain ⟨k,b,i,st,id,ks,is,r⟩:=v;simp only[Val.mk.sizeOf_spec]
 omega
noncomputable def badDf (s:List TyD) (m:MemD):Bool:=m.hasDef && !fitV s true m.type m.dflt
theorem any_no {α:Type} {l:List α} {p:α→Bool} (h:∀j (h:j<l.length),p l[j]=false):l.any p=false:=by
 rw[List.any_eq_false]
 intro x hx
 obtain ⟨j,hj,rfl⟩:=List.getElem_of_mem hx;simp[h j hj]
theorem any_yes {α:Type} {l:List α} {p:α→Bool} {j:Nat} (hj:j<l.length) (h:p l[j]=true):l.any p=true:=List.any_eq_true.2 ⟨_,List.getElem_mem hj,h⟩
theorem fitF_out {s:List TyD} {plain:Bool} {n:Nat} {t:Int} {v:Val} (h:fitF s plain (n+1) t v=true):0≤t∧t<(s.length:Int)∧v.kind=(tyAt s t).kind∧fitB (fitF s plain n) plain (tyAt s t) v=true:=by
 unfold fitF at h
 by_cases h1:t<0∨(s.length:Int)≤t
 ·rw[if_pos h1] at h;cases h
 ·rw[if_neg h1] at h
  by_cases h2:v.kind≠(tyAt s t).kind∨zK v=false
  ·rw[if_pos h2] at h;cases h
  ·rw[if_neg h2] at h
   exact ⟨by omega,by omega,Classical.byContradiction fun e=>h2 (.inl e),h⟩
theorem free_out {n:Int} (h:freeD n=true):1≤n∧n≤1000:=by
 unfold freeD at h
 simpa using h
theorem free_in {n:Int} (h:freeD n=true):In64 n:=by
 have:=free_out h;unfold In64
 omega
section
variable {f:Int→Val→Bool} {plain:Bool} {x:TyD} {v:Val}
theorem fit2 (e:x.kind=2) (h:fitB f plain x v=true):x.low≤v.int∧v.int≤x.high:=by
 unfold fitB at h;rw[if_pos e] at h
 simpa using h
theorem fit4 (e:x.kind=4) (h:fitB f plain x v=true):(x.syms.any fun y=>decide (y.id=v.id))=true∨((x.syms.any fun y=>decide (y.id=v.id))=false∧freeD v.id=true):=by
 unfold fitB at h;rw[if_neg (by omega),if_neg (by omega),if_pos e] at h
 cases ha:(x.syms.any fun y=>decide (y.id=v.id)) with
 | true=>exact .inl rfl
 | false =>
  rw[ha] at h;simp only[Bool.false_or,Bool.and_eq_true] at h;exact .inr ⟨rfl,h.2⟩
theorem raws_free:∀ {l:List RawD},rawsD x l=true→∀r∈l,freeD r.id=true
 | a::l,h,r,hr=>by
  unfold rawsD at h;simp only[Bool.and_eq_true] at h
  rcases List.mem_cons.1 hr with rfl|hr
  ·exact h.1.1.2
  ·exact raws_free h.2 r hr
theorem zips_out:∀ (ms:List MemD) (vs:List Val),((ms.zip vs).all fun p=>f p.1.type p.2)=true→∀k (h:k<ms.length) (h':k<vs.length),f (ms[k]).type vs[k]=true
 | m::ms,w::vs,h,0,_,_=>by
  simp only[List.zip_cons_cons,List.all_cons,Bool.and_eq_true] at h;exact h.1
 | m::ms,w::vs,h,k+1,h1,h2=>by
  simp only[List.zip_cons_cons,List.all_cons,Bool.and_eq_true] at h;exact zips_out ms vs h.2 k (by simpa using h1) (by simpa using h2)
theorem fit5 (e:x.kind=5) (h:fitB f plain x v=true):v.items.length=x.mems.length∧(∀r∈v.rest,freeD r.id=true)∧∀k (h:k<x.mems.length) (h':k<v.items.length),f (x.mems[k]).type v.items[k]=true:=by
 unfold fitB at h;rw[if_neg (by omega),if_neg (by omega),if_neg (by omega),if_pos e] at h
 simp only[Bool.and_eq_true,decide_eq_true_eq] at h;exact ⟨h.1.1.1,raws_free h.1.2,zips_out _ _ h.2⟩
theorem fit6 (e:x.kind=6) (h:fitB f plain x v=true):((x.mems.any fun y=>decide (y.id=v.id))=true∧∃m y,x.mems.find? (fun y=>decide (y.id=v.id))=some m∧v.items=[y]∧f m.type y=true)∨((x.mems.any fun y=>decide (y.id=v.id))=false∧freeD v.id=true∧∃r,v.rest=[r]):=by
 unfold fitB at h;rw[if_neg (by omega),if_neg (by omega),if_neg (by omega),if_neg (by omega),if_pos e] at h
 cases ha:(x.mems.any fun y=>decide (y.id=v.id)) with
 | true =>
  obtain ⟨k,hk,_,hf⟩:=find_idx x.mems ha;rw[hf] at h;simp only[Bool.and_eq_true,decide_eq_true_eq] at h;obtain ⟨y,hy⟩:=List.length_eq_one_iff.1 h.1.1;refine .inl ⟨rfl,_,y,hf,hy,?_⟩;rw[hy] at h
  simpa using h.2
 | false =>
  rw[find_no x.mems ha] at h;simp only[Bool.and_eq_true,decide_eq_true_eq] at h;exact .inr ⟨rfl,h.1.1.1.2,List.length_eq_one_iff.1 h.1.2⟩
theorem fit7 (e:x.kind=7) (h:fitB f plain x v=true):∀y∈v.items,f x.elem y=true:=by
 unfold fitB at h;rw[if_neg (by omega),if_neg (by omega),if_neg (by omega),if_neg (by omega),if_neg (by omega),if_pos e] at h
 simp only[Bool.and_eq_true,List.all_eq_true] at h;exact h.2
theorem fit8 (e:x.kind=8) (h:fitB f plain x v=true):v.items.length=v.keys.length∧(∀y∈v.keys,f x.key y=true)∧∀y∈v.items,f x.elem y=true:=by
 unfold fitB at h;rw[if_neg (by omega),if_neg (by omega),if_neg (by omega),if_neg (by omega),if_neg (by omega),if_neg (by omega),if_pos e] at h
 simp only[Bool.and_eq_true,List.all_eq_true,decide_eq_true_eq] at h;exact ⟨h.1.1.1.2,h.1.1.2,h.2⟩
theorem fit9 (e:x.kind=9) (h:fitB f plain x v=true):v.items.length≤1∧∀y∈v.items,f x.elem y=true:=by
 unfold fitB at h;rw[if_neg (by omega),if_neg (by omega),if_neg (by omega),if_neg (by omega),if_neg (by omega),if_neg (by omega),if_neg (by omega),if_pos e] at h
 simp only[Bool.and_eq_true,List.all_eq_true,decide_eq_true_eq] at h;exact h
end
section
variable {f:Int→Val→ByteArray} {x:TyD} {v:Val}
theorem lit1 (e:x.kind=1):litB f x v=if v.bool then ⟨#[116,114,117,101]⟩ else ⟨#[102,97,108,115,101]⟩:=by unfold litB;rw[if_pos e]
theorem lit2 (e:x.kind=2):litB f x v=decB v.int:=by unfold litB;rw[if_neg (by omega),if_pos e]
theorem lit3 (e:x.kind=3):litB f x v=quD v.str:=by unfold litB;rw[if_neg (by omega),if_neg (by omega),if_pos e]
theorem lit4 (e:x.kind=4):litB f x v=match x.syms.find? fun y=>decide (y.id=v.id) with
  | some y=>y.name
  | none=>⟨#[64]⟩++decB v.id:=by unfold litB;rw[if_neg (by omega),if_neg (by omega),if_neg (by omega),if_pos e];rfl
theorem lit5 (e:x.kind=5):litB f x v=⟨#[123]⟩++catL ((x.mems.zip v.items).map (memP f)++v.rest.map rawP)++⟨#[125]⟩:=by
 unfold litB;rw[if_neg (by omega),if_neg (by omega),if_neg (by omega),if_neg (by omega),if_pos e]
theorem lit6 (e:x.kind=6):litB f x v=(match x.mems.find? fun m=>decide (m.id=v.id) with
  | some m=>m.name++⟨#[40]⟩++(match v.items with|y::_=>f m.type y | []=>⟨#[]⟩)
  | none=>⟨#[64]⟩++decB v.id++⟨#[40]⟩++(match v.rest with|r::_=>quD r.data | []=>⟨#[]⟩))++⟨#[41]⟩:=by
 unfold litB;rw[if_neg (by omega),if_neg (by omega),if_neg (by omega),if_neg (by omega),if_neg (by omega),if_pos e];rfl
theorem lit7 (e:x.kind=7):litB f x v=⟨#[91]⟩++catL (v.items.map (f x.elem))++⟨#[93]⟩:=by
 unfold litB;rw[if_neg (by omega),if_neg (by omega),if_neg (by omega),if_neg (by omega),if_neg (by omega),if_neg (by omega),if_pos e]
theorem lit8 (e:x.kind=8):litB f x v=⟨#[91]⟩++(if v.keys.length=0 then ⟨#[45,62]⟩ else ⟨#[]⟩)++catL ((v.keys.zip v.items).map (entP (f x.key) (f x.elem)))++⟨#[93]⟩:=by
 unfold litB;rw[if_neg (by omega),if_neg (by omega),if_neg (by omega),if_neg (by omega),if_neg (by omega),if_neg (by omega),if_neg (by omega),if_pos e]
theorem lit9 (e:x.kind=9):litB f x v=match v.items with
  | []=>⟨#[110,111,110,101]⟩
  | y::_=>⟨#[115,111,109,101,40]⟩++f x.elem y++⟨#[41]⟩:=by
 unfold litB;rw[if_neg (by omega),if_neg (by omega),if_neg (by omega),if_neg (by omega),if_neg (by omega),if_neg (by omega),if_neg (by omega),if_neg (by omega)];rfl
end
theorem catL_step {l:List ByteArray} {k:Nat} (h:k<l.length):catK (fun i=>l.getD i ⟨#[]⟩) (k+1)=catK (fun i=>l.getD i ⟨#[]⟩) k++(if k=0 then ⟨#[]⟩ else ⟨#[44,32]⟩)++l[k]:=by
 rw[catK]
 congr 1
 show l.getD k ⟨#[]⟩=_
 rw[List.getD_eq_getElem?_getD,zl h];rfl
theorem catL_part {l:List ByteArray} {k:Nat} (h:k<l.length):(catK (fun i=>l.getD i ⟨#[]⟩) k).size+(if k=0 then (⟨#[]⟩:ByteArray) else ⟨#[44,32]⟩).size+(l[k]).size≤(catL l).size:=by
 have:=catK_part (fun i=>l.getD i ⟨#[]⟩) h
 rw[show (l.getD k ⟨#[]⟩:ByteArray)=l[k] by rw[List.getD_eq_getElem?_getD,zl h];rfl] at this
 exact this
def partsD (f:Int→Val→ByteArray) (x:TyD) (v:Val):List ByteArray:=(x.mems.zip v.items).map (memP f)++v.rest.map rawP
section
variable {f:Int→Val→ByteArray} {x:TyD} {v:Val}
theorem parts_len (h:v.items.length=x.mems.length):(partsD f x v).length=x.mems.length+v.rest.length:=by
 unfold partsD;rw[List.length_append,List.length_map,List.length_map,List.length_zip]
 omega
theorem parts_mem (h:v.items.length=x.mems.length) {k:Nat} (hk:k<x.mems.length) (hi:k<v.items.length) (hp:k<(partsD f x v).length):(partsD f x v)[k]=(x.mems[k]).name++⟨#[58,32]⟩++f (x.mems[k]).type v.items[k]:=by
 have h1:k<((x.mems.zip v.items).map (memP f)).length:=by rw[List.length_map,List.length_zip];omega
 refine (List.getElem_append_left (bs:=v.rest.map rawP) h1).trans ?_;rw[List.getElem_map,List.getElem_zip]
 rfl
theorem parts_raw (h:v.items.length=x.mems.length) {k:Nat} (hk:k<v.rest.length) (hp:x.mems.length+k<(partsD f x v).length):(partsD f x v)[x.mems.length+k]=decB (v.rest[k]).id++⟨#[58,32]⟩++quD (v.rest[k]).data:=by
 have h1:((x.mems.zip v.items).map (memP f)).length=x.mems.length:=by rw[List.length_map,List.length_zip];omega
 have h2:((x.mems.zip v.items).map (memP f)).length≤x.mems.length+k:=by omega
 refine (List.getElem_append_right (bs:=v.rest.map rawP) h2).trans ?_;rw[List.getElem_map];have e:x.mems.length+k - ((x.mems.zip v.items).map (memP f)).length=k:=by omega
 simp only[e]
 rfl
end
def entsD (f g:Val→ByteArray) (v:Val):List ByteArray:=(v.keys.zip v.items).map (entP f g)
theorem entsD_len {f g:Val→ByteArray} {v:Val} (h:v.items.length=v.keys.length):(entsD f g v).length=v.keys.length:=by
 unfold entsD;rw[List.length_map,List.length_zip]
 omega
theorem entsD_get {f g:Val→ByteArray} {v:Val} {k:Nat} (hk:k<v.keys.length) (hi:k<v.items.length) (hp:k<(entsD f g v).length):(entsD f g v)[k]=f v.keys[k]++⟨#[32,45,62,32]⟩++g v.items[k]:=by
 refine (List.getElem_map (entP f g) (l:=v.keys.zip v.items) (i:=k) (h:=hp)).trans ?_;rw[List.getElem_zip]
 rfl
def StrAt (w:World) (A:zo) (l:List ByteArray):Prop:=∀k (h:k<l.length),∃b o,A=some ⟨b,o,none⟩∧w.cell? ⟨b,o+k,none⟩=some (.string l[k])
theorem StrAt.below {w w':World} {A:zo} {l:List ByteArray} (h:StrAt w A l) (hb:Below w.heap.size w w'):StrAt w' A l:=fun k hk=>by
 obtain ⟨b,o,e,h1⟩:=h k hk;exact ⟨b,o,e,zA hb h1⟩
theorem rJoined_any (l:List ByteArray) (A:zo) (c:Nat) (hn:l.length≤140737488355328) (hl:(catL l).size≤140737488355328) (w:World) (hs:StrAt w A l) :
  Calls Tryz.prog 174 #[.slice A l.length c] w fun e w'=>e = .returned (.string (catL l))∧Below w.heap.size w w':=by
 have HL:=zh hl;have HS:=zh hs;obtain ⟨f,hf⟩:∃f:Nat→ByteArray,(fun i=>l.getD i ⟨#[]⟩)=f:=⟨_,rfl⟩
 have HC:Hid (catL l=catK f l.length):=by show _=_;rw[←hf];rfl
 have HP:Hid (∀k (h:k<l.length),catK f (k+1)=catK f k++(if k=0 then ⟨#[]⟩ else ⟨#[44,32]⟩)++l[k]):=fun k h=>by rw[←hf];exact catL_step h
 have HZ:Hid (∀k (h:k<l.length),(catK f k).size+(if k=0 then (⟨#[]⟩:ByteArray) else ⟨#[44,32]⟩).size+(l[k]).size≤140737488355328):=fun k h=>by have:=catL_part h;rw[←hf];omega
 have HQ0:Hid (catK f 0=⟨#[]⟩):=rfl;clear hl hs hf
 go_enter Tryz.func174,Tryz.ntmps174
 go_wp2_with fail
 go_loopw [3,4] (fun o i wr=>∃k:Nat,k≤l.length∧o = .string (catK f k)∧i = .int .i64 (k:Int)∧Hid (Below w.heap.size w wr)) (fun _ i _=>l.length - (intOf i).toNat)
 case atStart=>exact ⟨0,by omega,by rw[HQ0.out],rfl,Below.refl _ _⟩
 case round =>
  obtain ⟨k,hk,rfl,rfl,hh⟩:=hrel;obtain ⟨wk,rfl⟩:∃wk:World,wk=wr:=⟨_,rfl⟩;have HB:=zh hh.out;clear hh
  by_cases hlt:k<l.length
  ·obtain ⟨b,o,hA,hc⟩:=(HS.out.below HB.out) k hlt
   subst hA;have HP1:=zh (HP.out k hlt);have HZ1:=zh (HZ.out k hlt);have h1:(0:Int)≤(k:Int):=by omega
   have h2:(k:Int)<(l.length:Int):=by omega
   generalize l[k]=y at *
   by_cases hk0:k=0
   ·have n1:¬ 9223372036854775807<(catK f k).size+y.size:=by have:=HZ1.out;rw[if_pos hk0] at this;change _+0+_≤_ at this;omega
    have HP2:Hid (catK f (k+1)=catK f k++y):=by show _=_;rw[HP1.out,if_pos hk0,app_nil]
    have q1:¬ (0:Int)<(k:Int):=by omega
    clear hk0;go_wp2;go_roundw
    case rel=>exact ⟨k+1,by omega,by rw[HP2.out],by go_num,HB.out⟩
    case measure=>simp[intOf];omega
   ·have hz:=HZ1.out
    rw[if_neg hk0] at hz
    change _+2+_≤_ at hz
    have n1:¬ 9223372036854775807<(catK f k).size+(⟨#[44,32]⟩:ByteArray).size:=by show ¬ _<_+2;omega
    have n2:¬ 9223372036854775807<(catK f k).size+2:=n1;have n3:¬ 9223372036854775807<(catK f k++⟨#[44,32]⟩:ByteArray).size+y.size:=by rw[zG];show ¬ _<_+2+_;omega
    have n4:¬ 9223372036854775807<(catK f k).size+2+y.size:=by omega
    have HP2:Hid (catK f (k+1)=catK f k++⟨#[44,32]⟩++y):=by show _=_;rw[HP1.out,if_neg hk0]
    have q1:(0:Int)<(k:Int):=by omega
    clear hk0 hz;go_wp2;go_roundw
    case rel=>exact ⟨k+1,by omega,by rw[HP2.out],by go_num,HB.out⟩
    case measure=>simp[intOf];omega
  ·obtain rfl:k=l.length:=by omega
   go_wp2
   go_ret
   exact ⟨by rw[HC.out];rfl,HB.out⟩
theorem yO {b:Nat} {w w':World} (hb:Below w.heap.size w w'):Oth b w w':=fun _ _ hk _ _=>zF hk hb
theorem oth_trans {b:Nat} {w w1 w2:World} (h:Oth b w w1) (h':Oth b w1 w2):Oth b w w2:=fun k o hk h1 h2=>h' k o (h k o hk h1 h2) h1 h2
structure WrSt (s:List TyD) (A:zo) (c:Nat) (x:TyD) (As:zo) (cs:Nat) (Am:zo) (cm:Nat) (v:Val) (A1:zo) (c1:Nat) (A2:zo) (c2:Nat) (A3:zo) (c3:Nat) (B b p5 p7 p8:Nat) (ws w:World) (T:ByteArray):Prop where
 bld:BldF w B b T
 fr:Below B ws w
 ot:Oth b ws w
 n5:p5≠b
 n7:p7≠b
 n8:p8≠b
 h5:w.heap[p5]? = some (.cells #[.slice A s.length c] 27)
 h7:w.heap[p7]? = some (v.box A1 c1 A2 c2 A3 c3)
 h8:w.heap[p8]? = some (x.box As cs Am cm)
 ge:B≤w.heap.size
section
variable {s:List TyD} {A:zo} {c:Nat} {x:TyD} {As:zo} {cs:Nat} {Am:zo} {cm:Nat} {v:Val} {A1:zo} {c1:Nat} {A2:zo} {c2:Nat} {A3:zo} {c3:Nat} {B b p5 p7 p8:Nat} {ws w w':World} {T T':ByteArray}
theorem WrSt.step (h:WrSt s A c x As cs Am cm v A1 c1 A2 c2 A3 c3 B b p5 p7 p8 ws w T) (h1:BldF w' B b T') (h2:Below B w w') (h3:Oth b w w'):WrSt s A c x As cs Am cm v A1 c1 A2 c2 A3 c3 B b p5 p7 p8 ws w' T' :=
 ⟨h1,h.fr.trans h2,oth_trans h.ot h3,h.n5,h.n7,h.n8,h3.blk h.h5 h.n5 (by decide),h3.blk h.h7 h.n7 (by decide),h3.blk h.h8 h.n8 (by decide),Nat.le_trans h.ge h2.size⟩
theorem WrSt.below (h:WrSt s A c x As cs Am cm v A1 c1 A2 c2 A3 c3 B b p5 p7 p8 ws w T) (hb:Below w.heap.size w w'):WrSt s A c x As cs Am cm v A1 c1 A2 c2 A3 c3 B b p5 p7 p8 ws w' T :=
 ⟨h.bld.below hb,h.fr.trans (hb.mono h.ge),oth_trans h.ot (yO hb),h.n5,h.n7,h.n8,zF h.h5 hb,zF h.h7 hb,zF h.h8 hb,Nat.le_trans h.ge hb.size⟩
theorem WrSt.c5 (h:WrSt s A c x As cs Am cm v A1 c1 A2 c2 A3 c3 B b p5 p7 p8 ws w T):w.cell? ⟨p5,0,none⟩=some (.slice A s.length c):=by rw[cell_of_row _ _ _ _ _ _ h.h5];rfl
theorem WrSt.up {w0:World} (h:WrSt s A c x As cs Am cm v A1 c1 A2 c2 A3 c3 B b p5 p7 p8 ws w T) (hb:Below B w0 ws) (hg:w0.heap.size≤B):Below w0.heap.size w0 w:=(hb.trans h.fr).mono hg
end
def WriteAt (s:List TyD) (A:zo) (c:Nat) (n:Nat):Prop:=∀ (t:Int) (v:Val) (A1:zo) (c1:Nat) (A2:zo) (c2:Nat) (A3:zo) (c3:Nat) (w0 w:World) (B b:Nat) (T:ByteArray),
 fitF s false n t v=true→TysR w0 A s→ValR w0 v A1 A2 A3→Tab w0→w0.heap.size≤B→Below B w0 w→B≤w.heap.size→BldF w B b T→T.size+(litF s n t v).size≤140737488355328 →
 Calls Tryz.prog 119 #[.pointer (some ⟨b,0,none⟩),.agg #[.slice A s.length c],.int .i64 t,v.v A1 c1 A2 c2 A3 c3] w fun e w'=>e = .returned (.tuple #[])∧BldF w' B b (T++litF s n t v)∧Below B w w'∧Oth b w w'
def WriteK (s:List TyD) (A:zo) (c:Nat) (n:Nat) (k:Int):Prop:=∀ (t:Int) (v:Val) (A1:zo) (c1:Nat) (A2:zo) (c2:Nat) (A3:zo) (c3:Nat) (w0 w:World) (B b:Nat) (T:ByteArray),
 (tyAt s t).kind=k→fitF s false (n+1) t v=true→TysR w0 A s→ValR w0 v A1 A2 A3→Tab w0→w0.heap.size≤B→Below B w0 w→B≤w.heap.size→BldF w B b T→T.size+(litF s (n+1) t v).size≤140737488355328 →
 Calls Tryz.prog 119 #[.pointer (some ⟨b,0,none⟩),.agg #[.slice A s.length c],.int .i64 t,v.v A1 c1 A2 c2 A3 c3] w fun e w'=>e = .returned (.tuple #[])∧BldF w' B b (T++litF s (n+1) t v)∧Below B w w'∧Oth b w w'
theorem scSymB_any (n:Int) (t:TyD) (As:zo) (cs:Nat) (Am:zo) (cm:Nat) (w:World) (ht:TyR w t As Am) :
  Calls Tryz.prog 135 #[t.v As cs Am cm,.int .i64 n] w fun e w'=>∃r:Int,e = .returned (.tuple #[.int .i64 r,.bool (t.syms.any fun y=>decide (y.id=n))])∧((t.syms.any fun y=>decide (y.id=n))=true→r=idxD (fun y:SymD=>decide (y.id=n)) t.syms)∧Below w.heap.size w w' :=
 (scSym_any n t As cs Am cm w ht).mono fun e w' ⟨h1,h2⟩=>⟨_,h1.trans (by rw[idxD_any]),fun h=>by
  rw[←idxD_any] at h;exact if_neg (by have:=of_decide_eq_true h;omega),h2⟩
theorem list_head {α:Type} {l:List α} (h:0<l.length):∃y r,l=y::r∧l[0]=y:=by
 cases l with
 | nil=>cases h
 | cons y r=>exact ⟨y,r,rfl,rfl⟩
section
variable {f:Int→Val→ByteArray} {x:TyD} {v:Val}
theorem lit9_some (e:x.kind=9) (h:0<v.items.length):litB f x v=⟨#[115,111,109,101,40]⟩++f x.elem v.items[0]++⟨#[41]⟩:=by
 obtain ⟨y,r,h1,h2⟩:=list_head h;rw[h2,lit9 e,h1]
theorem lit6_yes (e:x.kind=6) {m:MemD} (hf:x.mems.find? (fun y=>decide (y.id=v.id))=some m) (h:0<v.items.length):litB f x v=m.name++⟨#[40]⟩++f m.type v.items[0]++⟨#[41]⟩:=by
 obtain ⟨y,r,h1,h2⟩:=list_head h;rw[h2,lit6 e,hf,h1]
theorem lit6_no (e:x.kind=6) (hf:x.mems.find? (fun y=>decide (y.id=v.id))=none) (h:0<v.rest.length):litB f x v=⟨#[64]⟩++decB v.id++⟨#[40]⟩++quD (v.rest[0]).data++⟨#[41]⟩:=by
 obtain ⟨y,r,h1,h2⟩:=list_head h;rw[h2,lit6 e,hf,h1]
end
theorem write_k1 {s:List TyD} {A:zo} {c n:Nat} (_hv:zJ s=0) (hn:Num64 s) (ih:WriteAt s A c n):WriteK s A c n 1:=by
 intro t v A1 c1 A2 c2 A3 c3 w0 w B b T e hf hs hr htb hg hb0 hB hbl hsz
 obtain ⟨i0,i1,i2,i3⟩:=fitF_out hf;obtain ⟨tn,rfl⟩:=Int.eq_ofNat_of_zero_le i0;have htn:tn<s.length:=by omega
 have hln:=hs.1.lt (by omega)
 rw[zP htn] at i2 i3 e;have HL0:Hid (litF s (n+1) (tn:Int) v=litB (litF s n) s[tn] v):=by show _=_;rw[litF,zP htn]
 have HXN:=zh (hn _ (List.getElem_mem htn));obtain ⟨HBW,H5,H7⟩:=zy w (.cells #[.slice A s.length c] 27) (v.box A1 c1 A2 c2 A3 c3);have HIH:=zh ih;have HS:=zh hs;have HR:=zh hr;have HTB:=zh htb;have HG:=zh hg;have HB0:=zh hb0;have HGE:=zh hB;have HBL:=zh hbl;have hblt:=hbl.lt;obtain ⟨L,hL⟩:∃L,litF s (n+1) (tn:Int) v=L:=⟨_,rfl⟩;rw[hL] at hsz HL0;simp only[hL];have HSZ:=zh hsz
 have HU:Hid (Below w0.heap.size w0 ((w.alloc (.cells #[.slice A s.length c] 27)).alloc (v.box A1 c1 A2 c2 A3 c3))):=(hb0.trans (HBW.out.mono hB)).mono hg;obtain ⟨bq,oq,As,cs,Am,cm,hA,htr,t0,t1,t2,t3,t4,t5,t6,t7,t8,t9⟩:=hs.at10 htn;clear hL hf ih hs hr htb hg hb0 hB hbl hsz _hv hn i0 i1;subst hA;generalize s[tn]=x at *;have HTR:=zh htr;have HFB:=zh i3;have HVK:=zh (i2.trans e);have HK:=zh e
 clear htr i3 i2 e;replace t0:=zA HU.out t0;replace t1:=zA HU.out t1;replace t2:=zA HU.out t2;replace t3:=zA HU.out t3;replace t4:=zA HU.out t4;replace t5:=zA HU.out t5;replace t6:=zA HU.out t6;replace t7:=zA HU.out t7;replace t8:=zA HU.out t8;replace t9:=zA HU.out t9;have h1:(0:Int)≤(tn:Int):=by omega
 have h2:(tn:Int)<(s.length:Int):=by omega
 go_enter Tryz.func119,Tryz.ntmps119
 go_upto_region 1 with fail
 have hsz2:Hid (((w.alloc (.cells #[.slice (some ⟨bq,oq,none⟩) s.length c] 27)).alloc (v.box A1 c1 A2 c2 A3 c3)).heap.size=w.heap.size+2):=by show _=_;simp
 generalize (w.alloc (.cells #[.slice (some ⟨bq,oq,none⟩) s.length c] 27)).alloc (v.box A1 c1 A2 c2 A3 c3)=W2 at *;have x0:=zb H5.out;go_upto_region 2 with fail
 clear t0 t1 t2 t3 t4 t5 t6 t7 t8 t9 x0;have HBX:=zh (zD W2 (x.box As cs Am cm));have ST:Hid (WrSt s (some ⟨bq,oq,none⟩) c x As cs Am cm v A1 c1 A2 c2 A3 c3 B b w.heap.size (w.heap.size+1) W2.heap.size w (W2.alloc (x.box As cs Am cm)) (T)):=by
  have hz:=hsz2.out;have hge:=HGE.out;exact ⟨(HBL.out.below HBW.out).below HBX.out,(HBW.out.mono HGE.out).trans (HBX.out.mono (by omega)),oth_trans (yO HBW.out) (yO HBX.out),by omega,by omega,by omega,zF H5.out HBX.out,zF H7.out HBX.out,heap_alloc_new W2 _,by have:=HGE.out;have:=HBX.out.size;omega⟩
 generalize W2.alloc (x.box As cs Am cm)=W3 at *;generalize W2.heap.size=p8 at *;clear hsz2 hblt HBW H5 H7 HBL HU HBX h1 h2;have q1:=zk1 HK.out;obtain ⟨v0,v1,v2,v3,v4,v5,v6,v7⟩:=zH ST.out.h7;obtain ⟨b0,b1,b2,b3,b4,b5,b6,b7,b8,b9⟩:=zI ST.out.h8;have x0:=ST.out.c5;have HL1:=zh (HL0.out.trans (lit1 HK.out));have hbt:=boolText_any v.bool W3
 obtain ⟨X,hX⟩:∃X,(if v.bool then (⟨#[116,114,117,101]⟩:ByteArray) else ⟨#[102,97,108,115,101]⟩)=X:=⟨_,rfl⟩
 rw[hX] at hbt;have HL:Hid (L=X):=HL1.out.trans hX;have HBT:=zh hbt;have HZ:Hid (T.size+X.size≤140737488355328):=by have:=HSZ.out;rw[HL.out] at this;exact this
 clear hbt hX HL1;go_wp2_with fail;refine HBT.out.mono ?_;rintro e' w4 ⟨rfl,rfl⟩;go_wp2_with fail;refine (ST.out.bld.write _ (HZ.out) ST.out.ge).mono ?_;rintro e' w5 ⟨rfl,g1,g2,g3⟩;have ST5:=zh (ST.out.step g1 g2 g3);clear g1 g2 g3;go_wp2;refine bodyPost_end (results_none Tryz.results119 _ _ _) rfl ⟨rfl,by rw[HL.out];exact ST5.out.bld,ST5.out.fr,ST5.out.ot⟩
theorem write_k2 {s:List TyD} {A:zo} {c n:Nat} (_hv:zJ s=0) (hn:Num64 s) (ih:WriteAt s A c n):WriteK s A c n 2:=by
 intro t v A1 c1 A2 c2 A3 c3 w0 w B b T e hf hs hr htb hg hb0 hB hbl hsz
 obtain ⟨i0,i1,i2,i3⟩:=fitF_out hf;obtain ⟨tn,rfl⟩:=Int.eq_ofNat_of_zero_le i0;have htn:tn<s.length:=by omega
 have hln:=hs.1.lt (by omega)
 rw[zP htn] at i2 i3 e;have HL0:Hid (litF s (n+1) (tn:Int) v=litB (litF s n) s[tn] v):=by show _=_;rw[litF,zP htn]
 have HXN:=zh (hn _ (List.getElem_mem htn));obtain ⟨HBW,H5,H7⟩:=zy w (.cells #[.slice A s.length c] 27) (v.box A1 c1 A2 c2 A3 c3);have HIH:=zh ih;have HS:=zh hs;have HR:=zh hr;have HTB:=zh htb;have HG:=zh hg;have HB0:=zh hb0;have HGE:=zh hB;have HBL:=zh hbl;have hblt:=hbl.lt;obtain ⟨L,hL⟩:∃L,litF s (n+1) (tn:Int) v=L:=⟨_,rfl⟩;rw[hL] at hsz HL0;simp only[hL];have HSZ:=zh hsz
 have HU:Hid (Below w0.heap.size w0 ((w.alloc (.cells #[.slice A s.length c] 27)).alloc (v.box A1 c1 A2 c2 A3 c3))):=(hb0.trans (HBW.out.mono hB)).mono hg;obtain ⟨bq,oq,As,cs,Am,cm,hA,htr,t0,t1,t2,t3,t4,t5,t6,t7,t8,t9⟩:=hs.at10 htn;clear hL hf ih hs hr htb hg hb0 hB hbl hsz _hv hn i0 i1;subst hA;generalize s[tn]=x at *;have HTR:=zh htr;have HFB:=zh i3;have HVK:=zh (i2.trans e);have HK:=zh e
 clear htr i3 i2 e;replace t0:=zA HU.out t0;replace t1:=zA HU.out t1;replace t2:=zA HU.out t2;replace t3:=zA HU.out t3;replace t4:=zA HU.out t4;replace t5:=zA HU.out t5;replace t6:=zA HU.out t6;replace t7:=zA HU.out t7;replace t8:=zA HU.out t8;replace t9:=zA HU.out t9;have h1:(0:Int)≤(tn:Int):=by omega
 have h2:(tn:Int)<(s.length:Int):=by omega
 go_enter Tryz.func119,Tryz.ntmps119
 go_upto_region 1 with fail
 have hsz2:Hid (((w.alloc (.cells #[.slice (some ⟨bq,oq,none⟩) s.length c] 27)).alloc (v.box A1 c1 A2 c2 A3 c3)).heap.size=w.heap.size+2):=by show _=_;simp
 generalize (w.alloc (.cells #[.slice (some ⟨bq,oq,none⟩) s.length c] 27)).alloc (v.box A1 c1 A2 c2 A3 c3)=W2 at *;have x0:=zb H5.out;go_upto_region 2 with fail
 clear t0 t1 t2 t3 t4 t5 t6 t7 t8 t9 x0;have HBX:=zh (zD W2 (x.box As cs Am cm));have ST:Hid (WrSt s (some ⟨bq,oq,none⟩) c x As cs Am cm v A1 c1 A2 c2 A3 c3 B b w.heap.size (w.heap.size+1) W2.heap.size w (W2.alloc (x.box As cs Am cm)) (T)):=by
  have hz:=hsz2.out;have hge:=HGE.out;exact ⟨(HBL.out.below HBW.out).below HBX.out,(HBW.out.mono HGE.out).trans (HBX.out.mono (by omega)),oth_trans (yO HBW.out) (yO HBX.out),by omega,by omega,by omega,zF H5.out HBX.out,zF H7.out HBX.out,heap_alloc_new W2 _,by have:=HGE.out;have:=HBX.out.size;omega⟩
 generalize W2.alloc (x.box As cs Am cm)=W3 at *;generalize W2.heap.size=p8 at *;clear hsz2 hblt HBW H5 H7 HBL HU HBX h1 h2;obtain ⟨q1,q2⟩:=zk2 HK.out;obtain ⟨v0,v1,v2,v3,v4,v5,v6,v7⟩:=zH ST.out.h7;obtain ⟨b0,b1,b2,b3,b4,b5,b6,b7,b8,b9⟩:=zI ST.out.h8;have x0:=ST.out.c5;have HL:=zh (HL0.out.trans (lit2 HK.out))
 have HI:Hid (In64 v.int):=by have:=fit2 HK.out HFB.out;have:=HXN.out;unfold In64 at *;show _∧_;omega
 have HZ:Hid (T.size+(decB v.int).size≤140737488355328):=by have:=HSZ.out;rw[HL.out] at this;exact this
 go_wp2_with fail
 refine (fmt_any v.int HI.out _ (HTB.out.below (ST.out.up HB0.out HG.out))).mono ?_;rintro e' w4 ⟨rfl,hb4⟩;have ST4:=zh (ST.out.below hb4);clear hb4;clear v0 v1 v2 v3 v4 v5 v6 v7 b0 b1 b2 b3 b4 b5 b6 b7 b8 b9 x0;go_wp2_with fail;refine (ST4.out.bld.write _ (HZ.out) ST4.out.ge).mono ?_;rintro e' w5 ⟨rfl,g1,g2,g3⟩;have ST5:=zh (ST4.out.step g1 g2 g3);clear g1 g2 g3;go_wp2
 refine bodyPost_end (results_none Tryz.results119 _ _ _) rfl ⟨rfl,by rw[HL.out];exact ST5.out.bld,ST5.out.fr,ST5.out.ot⟩
theorem write_k3 {s:List TyD} {A:zo} {c n:Nat} (_hv:zJ s=0) (hn:Num64 s) (ih:WriteAt s A c n):WriteK s A c n 3:=by
 intro t v A1 c1 A2 c2 A3 c3 w0 w B b T e hf hs hr htb hg hb0 hB hbl hsz
 obtain ⟨i0,i1,i2,i3⟩:=fitF_out hf;obtain ⟨tn,rfl⟩:=Int.eq_ofNat_of_zero_le i0;have htn:tn<s.length:=by omega
 have hln:=hs.1.lt (by omega)
 rw[zP htn] at i2 i3 e;have HL0:Hid (litF s (n+1) (tn:Int) v=litB (litF s n) s[tn] v):=by show _=_;rw[litF,zP htn]
 have HXN:=zh (hn _ (List.getElem_mem htn));obtain ⟨HBW,H5,H7⟩:=zy w (.cells #[.slice A s.length c] 27) (v.box A1 c1 A2 c2 A3 c3);have HIH:=zh ih;have HS:=zh hs;have HR:=zh hr;have HTB:=zh htb;have HG:=zh hg;have HB0:=zh hb0;have HGE:=zh hB;have HBL:=zh hbl;have hblt:=hbl.lt;obtain ⟨L,hL⟩:∃L,litF s (n+1) (tn:Int) v=L:=⟨_,rfl⟩;rw[hL] at hsz HL0;simp only[hL];have HSZ:=zh hsz
 have HU:Hid (Below w0.heap.size w0 ((w.alloc (.cells #[.slice A s.length c] 27)).alloc (v.box A1 c1 A2 c2 A3 c3))):=(hb0.trans (HBW.out.mono hB)).mono hg;obtain ⟨bq,oq,As,cs,Am,cm,hA,htr,t0,t1,t2,t3,t4,t5,t6,t7,t8,t9⟩:=hs.at10 htn;clear hL hf ih hs hr htb hg hb0 hB hbl hsz _hv hn i0 i1;subst hA;generalize s[tn]=x at *;have HTR:=zh htr;have HFB:=zh i3;have HVK:=zh (i2.trans e);have HK:=zh e
 clear htr i3 i2 e;replace t0:=zA HU.out t0;replace t1:=zA HU.out t1;replace t2:=zA HU.out t2;replace t3:=zA HU.out t3;replace t4:=zA HU.out t4;replace t5:=zA HU.out t5;replace t6:=zA HU.out t6;replace t7:=zA HU.out t7;replace t8:=zA HU.out t8;replace t9:=zA HU.out t9;have h1:(0:Int)≤(tn:Int):=by omega
 have h2:(tn:Int)<(s.length:Int):=by omega
 go_enter Tryz.func119,Tryz.ntmps119
 go_upto_region 1 with fail
 have hsz2:Hid (((w.alloc (.cells #[.slice (some ⟨bq,oq,none⟩) s.length c] 27)).alloc (v.box A1 c1 A2 c2 A3 c3)).heap.size=w.heap.size+2):=by show _=_;simp
 generalize (w.alloc (.cells #[.slice (some ⟨bq,oq,none⟩) s.length c] 27)).alloc (v.box A1 c1 A2 c2 A3 c3)=W2 at *;have x0:=zb H5.out;go_upto_region 2 with fail
 clear t0 t1 t2 t3 t4 t5 t6 t7 t8 t9 x0;have HBX:=zh (zD W2 (x.box As cs Am cm));have ST:Hid (WrSt s (some ⟨bq,oq,none⟩) c x As cs Am cm v A1 c1 A2 c2 A3 c3 B b w.heap.size (w.heap.size+1) W2.heap.size w (W2.alloc (x.box As cs Am cm)) (T)):=by
  have hz:=hsz2.out;have hge:=HGE.out;exact ⟨(HBL.out.below HBW.out).below HBX.out,(HBW.out.mono HGE.out).trans (HBX.out.mono (by omega)),oth_trans (yO HBW.out) (yO HBX.out),by omega,by omega,by omega,zF H5.out HBX.out,zF H7.out HBX.out,heap_alloc_new W2 _,by have:=HGE.out;have:=HBX.out.size;omega⟩
 generalize W2.alloc (x.box As cs Am cm)=W3 at *;generalize W2.heap.size=p8 at *;clear hsz2 hblt HBW H5 H7 HBL HU HBX h1 h2;obtain ⟨q1,q2,q3⟩:=zk3 HK.out;obtain ⟨v0,v1,v2,v3,v4,v5,v6,v7⟩:=zH ST.out.h7;obtain ⟨b0,b1,b2,b3,b4,b5,b6,b7,b8,b9⟩:=zI ST.out.h8;have x0:=ST.out.c5;have HL:=zh (HL0.out.trans (lit3 HK.out))
 have HZ:Hid (T.size+(quD v.str).size≤140737488355328):=by have:=HSZ.out;rw[HL.out] at this;exact this
 go_wp2_with fail
 refine (quote_any v.str (by have:=HZ.out;omega) _).mono ?_
 rintro e' w4 ⟨rfl,hb4⟩;have ST4:=zh (ST.out.below hb4);clear hb4;clear v0 v1 v2 v3 v4 v5 v6 v7 b0 b1 b2 b3 b4 b5 b6 b7 b8 b9 x0;go_wp2_with fail;refine (ST4.out.bld.write _ (HZ.out) ST4.out.ge).mono ?_;rintro e' w5 ⟨rfl,g1,g2,g3⟩;have ST5:=zh (ST4.out.step g1 g2 g3);clear g1 g2 g3;go_wp2
 refine bodyPost_end (results_none Tryz.results119 _ _ _) rfl ⟨rfl,by rw[HL.out];exact ST5.out.bld,ST5.out.fr,ST5.out.ot⟩
theorem write_k4 {s:List TyD} {A:zo} {c n:Nat} (_hv:zJ s=0) (hn:Num64 s) (ih:WriteAt s A c n):WriteK s A c n 4:=by
 intro t v A1 c1 A2 c2 A3 c3 w0 w B b T e hf hs hr htb hg hb0 hB hbl hsz
 obtain ⟨i0,i1,i2,i3⟩:=fitF_out hf;obtain ⟨tn,rfl⟩:=Int.eq_ofNat_of_zero_le i0;have htn:tn<s.length:=by omega
 have hln:=hs.1.lt (by omega)
 rw[zP htn] at i2 i3 e;have HL0:Hid (litF s (n+1) (tn:Int) v=litB (litF s n) s[tn] v):=by show _=_;rw[litF,zP htn]
 have HXN:=zh (hn _ (List.getElem_mem htn));obtain ⟨HBW,H5,H7⟩:=zy w (.cells #[.slice A s.length c] 27) (v.box A1 c1 A2 c2 A3 c3);have HIH:=zh ih;have HS:=zh hs;have HR:=zh hr;have HTB:=zh htb;have HG:=zh hg;have HB0:=zh hb0;have HGE:=zh hB;have HBL:=zh hbl;have hblt:=hbl.lt;obtain ⟨L,hL⟩:∃L,litF s (n+1) (tn:Int) v=L:=⟨_,rfl⟩;rw[hL] at hsz HL0;simp only[hL];have HSZ:=zh hsz
 have HU:Hid (Below w0.heap.size w0 ((w.alloc (.cells #[.slice A s.length c] 27)).alloc (v.box A1 c1 A2 c2 A3 c3))):=(hb0.trans (HBW.out.mono hB)).mono hg;obtain ⟨bq,oq,As,cs,Am,cm,hA,htr,t0,t1,t2,t3,t4,t5,t6,t7,t8,t9⟩:=hs.at10 htn;clear hL hf ih hs hr htb hg hb0 hB hbl hsz _hv hn i0 i1;subst hA;generalize s[tn]=x at *;have HTR:=zh htr;have HFB:=zh i3;have HVK:=zh (i2.trans e);have HK:=zh e
 clear htr i3 i2 e;replace t0:=zA HU.out t0;replace t1:=zA HU.out t1;replace t2:=zA HU.out t2;replace t3:=zA HU.out t3;replace t4:=zA HU.out t4;replace t5:=zA HU.out t5;replace t6:=zA HU.out t6;replace t7:=zA HU.out t7;replace t8:=zA HU.out t8;replace t9:=zA HU.out t9;have h1:(0:Int)≤(tn:Int):=by omega
 have h2:(tn:Int)<(s.length:Int):=by omega
 go_enter Tryz.func119,Tryz.ntmps119
 go_upto_region 1 with fail
 have hsz2:Hid (((w.alloc (.cells #[.slice (some ⟨bq,oq,none⟩) s.length c] 27)).alloc (v.box A1 c1 A2 c2 A3 c3)).heap.size=w.heap.size+2):=by show _=_;simp
 generalize (w.alloc (.cells #[.slice (some ⟨bq,oq,none⟩) s.length c] 27)).alloc (v.box A1 c1 A2 c2 A3 c3)=W2 at *;have x0:=zb H5.out;go_upto_region 2 with fail
 clear t0 t1 t2 t3 t4 t5 t6 t7 t8 t9 x0;have HBX:=zh (zD W2 (x.box As cs Am cm));have ST:Hid (WrSt s (some ⟨bq,oq,none⟩) c x As cs Am cm v A1 c1 A2 c2 A3 c3 B b w.heap.size (w.heap.size+1) W2.heap.size w (W2.alloc (x.box As cs Am cm)) (T)):=by
  have hz:=hsz2.out;have hge:=HGE.out;exact ⟨(HBL.out.below HBW.out).below HBX.out,(HBW.out.mono HGE.out).trans (HBX.out.mono (by omega)),oth_trans (yO HBW.out) (yO HBX.out),by omega,by omega,by omega,zF H5.out HBX.out,zF H7.out HBX.out,heap_alloc_new W2 _,by have:=HGE.out;have:=HBX.out.size;omega⟩
 generalize W2.alloc (x.box As cs Am cm)=W3 at *;generalize W2.heap.size=p8 at *;clear hsz2 hblt HBW H5 H7 HBL HU HBX h1 h2;obtain ⟨q1,q2,q3,q4⟩:=zk4 HK.out;obtain ⟨v0,v1,v2,v3,v4,v5,v6,v7⟩:=zH ST.out.h7;obtain ⟨b0,b1,b2,b3,b4,b5,b6,b7,b8,b9⟩:=zI ST.out.h8;have x0:=ST.out.c5;have HL1:=zh (HL0.out.trans (lit4 HK.out));have HF:=zh (fit4 HK.out HFB.out)
 obtain ⟨an,han⟩:∃an,(x.syms.any fun y=>decide (y.id=v.id))=an:=⟨_,rfl⟩
 have hcall:=scSymB_any v.id x As cs Am cm W3 (HTR.out.below (ST.out.up HB0.out HG.out));rw[han] at hcall;have HCL:=zh hcall;have HAN:=zh han;clear hcall han;go_wp2_with fail;refine HCL.out.mono ?_;rintro e' w4 ⟨r,rfl,hr4,hb4⟩;have HR4:=zh hr4;have ST4:=zh (ST.out.below hb4);clear hb4 hr4 HCL;clear v0 v1 v2 v3 v4 v5 v6 v7 b0 b1 b2 b3 b4 b5 b6 b7 b8 b9 x0
 obtain ⟨v0,v1,v2,v3,v4,v5,v6,v7⟩:=zH ST4.out.h7;obtain ⟨b0,b1,b2,b3,b4,b5,b6,b7,b8,b9⟩:=zI ST4.out.h8;have x0:=ST4.out.c5
 cases an with
 | true =>
  obtain ⟨k,hk,e1,e2⟩:=find_idx x.syms HAN.out;have HL:Hid (L=(x.syms[k]).name):=by show _=_;rw[HL1.out,e2]
  obtain rfl:r=(k:Int):=(HR4.out rfl).trans e1;have HZ:Hid (T.size+(x.syms[k]).name.size≤140737488355328):=by have:=HSZ.out;rw[HL.out] at this;exact this
  obtain ⟨sb,so,hAs,_,a0,a1⟩:=HTR.out.syms.at2 hk;replace a1:=zA (ST4.out.up HB0.out HG.out) a1;subst hAs;have j1:(0:Int)≤(k:Int):=by omega
  have j2:(k:Int)<(x.syms.length:Int):=by omega
  clear e1 e2 a0;go_wp2_with fail;refine (ST4.out.bld.write _ (HZ.out) ST4.out.ge).mono ?_;rintro e' w5 ⟨rfl,g1,g2,g3⟩;have ST5:=zh (ST4.out.step g1 g2 g3);clear g1 g2 g3;go_wp2;refine bodyPost_ret (results_none Tryz.results119 _ _ _) rfl ⟨rfl,by rw[HL.out];exact ST5.out.bld,ST5.out.fr,ST5.out.ot⟩
 | false =>
  have HL:Hid (L=⟨#[64]⟩++decB v.id):=by show _=_;rw[HL1.out,find_no x.syms HAN.out]
  have HFR:Hid (freeD v.id=true):=by
   rcases HF.out with h|h
   ·rw[HAN.out] at h;cases h
   ·exact h.2
  have HZ:Hid (T.size+((⟨#[64]⟩:ByteArray)++decB v.id).size≤140737488355328):=by have:=HSZ.out;rw[HL.out] at this;exact this
  have n1:¬ 9223372036854775807<(⟨#[64]⟩:ByteArray).size+(decB v.id).size:=by have:=yE (free_in HFR.out);show ¬ _<1+_;omega
  have n2:¬ 9223372036854775807<1+(decB v.id).size:=n1;go_wp2_with fail;refine (itoa_any v.id (free_in HFR.out) _ (HTB.out.below (ST4.out.up HB0.out HG.out))).mono ?_;rintro e' w5 ⟨rfl,hb5⟩;have ST5:=zh (ST4.out.below hb5);clear hb5;clear v0 v1 v2 v3 v4 v5 v6 v7 b0 b1 b2 b3 b4 b5 b6 b7 b8 b9 x0;go_wp2_with fail;refine (ST5.out.bld.write _ (HZ.out) ST5.out.ge).mono ?_;rintro e' w6 ⟨rfl,g1,g2,g3⟩
  have ST6:=zh (ST5.out.step g1 g2 g3);clear g1 g2 g3;go_wp2;refine bodyPost_end (results_none Tryz.results119 _ _ _) rfl ⟨rfl,by rw[HL.out];exact ST6.out.bld,ST6.out.fr,ST6.out.ot⟩
end Go.Proofs.YtdfolgmcggdjdaaGreatDoor


