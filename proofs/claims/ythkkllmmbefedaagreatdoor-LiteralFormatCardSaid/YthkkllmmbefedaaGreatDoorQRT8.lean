/-
  Walks: the reference's text, kinds 5.
-/
import Derived.Test.YthkkllmmbefedaaGreatDoorQGT0
import Derived.Test.YthkkllmmbefedaaGreatDoorQGA9
namespace Go.Proofs.YthkkllmmbefedaaGreatDoor
open Go.RowKit
set_option maxHeartbeats 16000000
set_option maxRecDepth 100000
theorem rtext_5 {s:List TyD} {A:zo} {c n:Nat} (hn:Num64 s) (_ih:TextAt s A c n):TextK s A c n 5:=by
 intro tn htn v A1 c1 A2 c2 A3 c3 w e hf hs hr htb hz
 have hln:=hs.1.lt (by omega)
 obtain ⟨HB0,H5,H7⟩:=zy w (.cells #[.slice A s.length c] 31) (v.box A1 c1 A2 c2 A3 c3);have HIH:=zh _ih;have HS:=zh hs;have HR:=zh hr;have HTB:=zh htb;have HXN:=zh (hn _ (List.getElem_mem htn));obtain ⟨L,hL⟩:∃L,litB (litF s n) s[tn] v=L:=⟨_,rfl⟩;rw[hL] at hz ⊢;obtain ⟨b,o,As,cs,Am,cm,hA,htr,t0,t1,t2,t3,t4,t5,t6,t7,t8,t9⟩:=(hs.below HB0.out).at10 htn;clear hs hr htb _ih hn;subst hA
 generalize s[tn]=x at *;have HL0:Hid (L=litB (litF s n) x v):=hL.symm;have HSZ:=zh hz;have HTR:=zh htr;have HFB:=zh hf;have HK:=zh e;clear hL hz htr hf e;have h1:(0:Int)≤(tn:Int):=by omega
 have h2:(tn:Int)<(s.length:Int):=by omega
 go_enter Tryz.func46,Tryz.ntmps46
 go_upto_region 1 with fail
 generalize (w.alloc (.cells #[.slice (some ⟨b,o,none⟩) s.length c] 31)).alloc (v.box A1 c1 A2 c2 A3 c3)=W2 at *;have x0:=zb H5.out;go_upto_region 2 with fail
 clear t0 t1 t2 t3 t4 t5 t6 t7 t8 t9 x0;have HBX:=zh (zD W2 (x.box As cs Am cm));have HT4:Hid (TBox (W2.alloc (x.box As cs Am cm)) W2.heap.size x As cs Am cm):=heap_alloc_new W2 _;have H54:=zh (zE H5.out HBX.out);have H74:=zh (zE H7.out HBX.out);have HB4:=zh (zB HB0.out HBX.out);have HTR4:=zh (HTR.out.below HBX.out);generalize W2.alloc (x.box As cs Am cm)=w4 at *;generalize W2.heap.size=p7 at *
 clear H5 H7 HTR HBX HB0;obtain ⟨q1,q2,q3,q4,q5⟩:=zk5 HK.out;obtain ⟨v0,v1,v2,v3,v4,v5,v6,v7⟩:=zF H74.out;obtain ⟨b0,b1,b2,b3,b4,b5,b6,b7,b8,b9⟩:=zG HT4.out;have x0:=zb H54.out;have HL1:=zh (HL0.out.trans (lit5 HK.out));have HF:=zh (fit5 HK.out HFB.out);obtain ⟨P,hP⟩:∃P,partsD (litF s n) x v=P:=⟨_,rfl⟩;have HPL:Hid (P.length=x.mems.length+v.rest.length):=by show _=_;rw[←hP];exact parts_len HF.out.1
 have HPM:Hid (∀k (h1:k<x.mems.length) (h2:k<v.items.length),P[k]? = some ((x.mems[k]).name++⟨#[58,32]⟩++litF s n (x.mems[k]).type v.items[k])):=fun k h1 h2=>by
  have hp:k<(partsD (litF s n) x v).length:=by rw[parts_len HF.out.1];omega
  rw[←hP,zl hp,parts_mem HF.out.1 h1 h2 hp]
 have HPR:Hid (∀k (h1:k<v.rest.length),P[x.mems.length+k]? = some (decB (v.rest[k]).id++⟨#[58,32]⟩++quD (v.rest[k]).data)):=fun k h1=>by
  have hp:x.mems.length+k<(partsD (litF s n) x v).length:=by rw[parts_len HF.out.1];omega
  rw[←hP,zl hp,parts_raw HF.out.1 h1 hp]
 have HL:Hid (L=⟨#[123]⟩++catL P++⟨#[125]⟩):=by show _=_;rw[←hP];exact HL1.out
 have HZ:Hid (1+(catL P).size+1≤1073741824):=by
  have h:=HSZ.out;rw[HL.out,zH,zH] at h;have e1:(⟨#[123]⟩:ByteArray).size=1:=rfl;have e2:(⟨#[125]⟩:ByteArray).size=1:=rfl
  show _≤_
  omega
 have HPP:Hid (∀k (h:k<P.length),(P[k]).size≤(catL P).size):=fun k h=>by have:=catL_part h;omega
 clear hP HL1;have hli:=HR.out.items.1.lt (by omega)
 have HVI:=zh (HR.out.below HB4.out).items;have HVR:=zh (HR.out.below HB4.out).rest;have HVM:=zh HTR4.out.mems;have hl43:v.items.length≤1500000000000:=by have h:=HR.out.items.1;unfold Lim at h;omega
 have hl44:v.rest.length≤6000000000000:=by have h:=HR.out.rest.1;unfold Lim at h;omega
 have HEQ:=zh HF.out.1;have HC4:Hid (w4.cell? ⟨w.heap.size,0,none⟩=some (.slice (some ⟨b,o,none⟩) s.length c)∧w4.cell? ⟨p7,6,none⟩=some (.slice Am x.mems.length cm)∧w4.cell? ⟨w.heap.size+1,6,none⟩=some (.slice A2 v.items.length c2)∧w4.cell? ⟨w.heap.size+1,7,none⟩=some (.slice A3 v.rest.length c3)):=⟨x0,b6,v6,v7⟩;go_wp2_with fail
 go_loopw [8,11] (fun l i wr=>∃k:Nat,k≤v.items.length∧i = .int .i64 (k:Int)∧Hid (OwnS wr w4.heap.size l (P.take k)∧Below w4.heap.size w4 wr)) (fun _ i _=>v.items.length - (intOf i).toNat)
 case atStart=>exact ⟨0,by omega,rfl,OwnL.nil _ _,Below.refl _ _⟩
 case round =>
  obtain ⟨k,hk,rfl,hh⟩:=hrel;obtain ⟨wk,rfl⟩:∃wk:World,wk=wr:=⟨_,rfl⟩;have HO:=zh hh.out.1;have HBK:=zh hh.out.2;clear hh v0 v1 v2 v3 v4 v5 v6 v7 b0 b1 b2 b3 b4 b5 b6 b7 b8 b9 x0;have v6:=zA HBK.out HC4.out.2.2.1
  by_cases hlt:k<v.items.length
  ·have hkk:k<x.mems.length:=HEQ.out▸hlt
   obtain ⟨ib,io,E1,e1,E2,e2,E3,e3,hI,hir,a0,a1,a2,a3,a4,a5,a6,a7⟩:=HVI.out.at8 hlt;have HIR:=zh hir;have hmem:=HF.out.2.2 k hkk hlt;obtain ⟨mb,mo,M1,m1,M2,m2,M3,m3,hM,_,g0,g1,g2,g3,g4,g5,g6,g7,g8,g9,g10,g11,g12⟩:=HVM.out.at13 hkk;have hpk:=HPM.out k hkk hlt;have hkp:k<P.length:=by rw[HPL.out];omega
   have HNX:Hid (P.take (k+1)=P.take k++[(x.mems[k]).name++⟨#[58,32]⟩++litF s n (x.mems[k]).type v.items[k]]):=by show _=_;rw[List.take_add_one,hpk];rfl
   have HZY:Hid ((x.mems[k]).name.size+2+(litF s n (x.mems[k]).type v.items[k]).size≤1073741824):=by
    have h:=HPP.out k hkp;rw[Option.some.inj ((zl hkp).symm.trans hpk),zH,zH] at h;have:=HZ.out;have e4:(⟨#[58,32]⟩:ByteArray).size=2:=rfl
    show _≤_
    omega
   have hlen:(P.take k).length≤k:=by rw[List.length_take];omega
   clear hpk hkp;generalize v.items[k]=y at *;generalize x.mems[k]=m at *;have HFY:=zh hmem;obtain ⟨Y,hY⟩:∃Y,litF s n m.type y=Y:=⟨_,rfl⟩;have HYE:=zh hY;rw[hY] at HNX HZY;obtain ⟨Z,hZ⟩:∃Z,m.name=Z:=⟨_,rfl⟩;rw[hZ] at g1 HNX HZY;have h1:(0:Int)≤(k:Int):=by omega
   have h2:(k:Int)<(v.items.length:Int):=by omega
   have h3:(k:Int)<(x.mems.length:Int):=by omega
   have m0:¬ 9223372036854775807<(Z:ByteArray).size+(⟨#[58,32]⟩:ByteArray).size:=by have:=HZY.out;show ¬ _<_+2;omega
   have m1:¬ 9223372036854775807<Z.size+2:=by have:=HZY.out;omega
   have m2:¬ 9223372036854775807<(Z++⟨#[58,32]⟩:ByteArray).size+(Y:ByteArray).size:=by have:=HZY.out;simp only[zH];show ¬ _<_+2+_;omega
   have m3:¬ 9223372036854775807<Z.size+2+Y.size:=by have:=HZY.out;omega
   have HCC:Hid (∀w',Below w4.heap.size w4 w'→(w'.cell? ⟨w.heap.size,0,none⟩=some (.slice (some ⟨b,o,none⟩) s.length c)∧w'.cell? ⟨p7,6,none⟩=some (.slice (some ⟨mb,mo,none⟩) x.mems.length cm)∧w'.cell? ⟨mb,mo+k * 13+1,none⟩=some (.string Z)∧w'.cell? ⟨mb,mo+k * 13+2,none⟩=some (.int .i64 m.type)∧w'.cell? ⟨w.heap.size+1,6,none⟩=some (.slice (some ⟨ib,io,none⟩) v.items.length c2)∧w'.cell? ⟨ib,io+k * 8,none⟩=some (.int .i64 y.kind)∧w'.cell? ⟨ib,io+k * 8+1,none⟩=some (.bool y.bool)∧w'.cell? ⟨ib,io+k * 8+2,none⟩=some (.int .i64 y.int)∧w'.cell? ⟨ib,io+k * 8+3,none⟩=some (.string y.str)∧w'.cell? ⟨ib,io+k * 8+4,none⟩=some (.int .i64 y.id)∧w'.cell? ⟨ib,io+k * 8+5,none⟩=some (.slice E1 y.keys.length e1)∧w'.cell? ⟨ib,io+k * 8+6,none⟩=some (.slice E2 y.items.length e2)∧w'.cell? ⟨ib,io+k * 8+7,none⟩=some (.slice E3 y.rest.length e3))):=fun w' hb=>⟨zA hb HC4.out.1,zA hb (by rw[←hM];exact HC4.out.2.1),zA hb g1,zA hb g2,zA hb (by rw[←hI];exact HC4.out.2.2.1),zA hb a0,zA hb a1,zA hb a2,zA hb a3,zA hb a4,zA hb a5,zA hb a6,zA hb a7⟩
   rw[hI] at v6;clear hmem hir a0 a1 a2 a3 a4 a5 a6 a7 g0 g1 g2 g3 g4 g5 g6 g7 g8 g9 g10 g11 g12 hY hZ hI hM;go_upto_region 21 with fail
   clear v6;refine zr (Y:=fun w'=>Hid (Below w4.heap.size w4 w')) HCC.out (by kernel_rfl) ?_ (fun zH_=>?_)
   ·(try dsimp only);exact ⟨HCC.out _ (zC HBK.out _),zC HBK.out _⟩
   refine tL 0 ?_;refine tL 1 ?_;refine tL 2 ?_;refine tL 3 ?_;refine tL 4 ?_;refine tL 5 ?_;try simp only[ps]
   refine tL 6 ?_;refine tL 7 ?_;refine tL 8 ?_;refine tL 9 ?_;refine tL 10 ?_;refine tL 11 ?_;try simp only[ps]
   refine tL 12 ?_;refine tL 13 ?_;refine tL 14 ?_;refine tL 15 ?_;refine tL 16 ?_;refine tL 17 ?_;try simp only[ps]
   refine tL 18 ?_;refine tL 19 ?_;refine tR 20 (fun K hK=>?_)
   go_simp
   (refine (HIH.out m.type y E1 e1 E2 e2 E3 e3 _ HFY.out (HS.out.below (zB HB4.out zH_.2.out)) (HIR.out.below zH_.2.out) (HTB.out.below (zB HB4.out zH_.2.out)) (by rw[HYE.out];have:=HZY.out;omega)).mono ?_;rintro e w7 ⟨rfl,hb6⟩;have HO7:=zh ((HO.out.below (zC (Below.refl _ _) 1)).below hb6);have HB7:=zh (zB zH_.2.out hb6);clear hb6;rw[HYE.out])
   refine hK.out _ _ ?_ (fun zH_=>?_)
   ·(try dsimp only);exact ⟨HCC.out _ HB7.out,HB7.out⟩
   clear hK K;refine tL 21 ?_;refine tR 22 (fun K hK=>?_)
   go_simp
   refine hK.out _ _ ?_ (fun zH_=>?_)
   ·(try dsimp only);exact ⟨HCC.out _ (zB HB7.out (zD _ _)),zB HB7.out (zD _ _)⟩
   clear hK K;refine tR 23 (fun K hK=>?_)
   (have e1:=HO7.out.alloc (.cells #[.string (Z++⟨#[58,32]⟩++Y)] 9);refine step_append_m elem_str (by rfl) (.tmp 67) (.tmp 89) (by rfl) w4.heap.size _ _ _ (by rfl) e1 w7.heap.size 0 1 1 [.string (Z++⟨#[58,32]⟩++Y)] (by rfl) rfl (zR w7 [.string (Z++⟨#[58,32]⟩++Y)] 9) (elem_one _) (by omega) (by omega) zH_.2.out.size ?_;intro v9 w9 ho9 hg9;have HO9:=zh (OwnL.snoc (enc:=encS) (x:=(Z++⟨#[58,32]⟩++Y)) ho9);have HB9:=zh (zH_.2.out.grown hg9 zH_.2.out.size e1.lt);clear ho9 hg9 e1)
   refine hK.out _ _ ?_ (fun zH_=>?_)
   ·(try dsimp only);exact ⟨HCC.out _ HB9.out,HB9.out⟩
   clear hK K;try simp only[ps]
   refine tL 24 ?_;refine wpAnyH_done (by kernel_rfl) ?_ _
   clear zH_;go_wp2;go_roundw
   case rel=>exact ⟨k+1,by omega,by go_num,by rw[HNX.out];exact HO9.out,HB9.out⟩
   case measure=>simp[intOf];omega
  ·obtain rfl:k=v.items.length:=by omega
   have HO3:=HO;have HB3:=HBK;clear HO HBK;go_wp2_with fail;clear v6
   go_loopw [8,12] (fun l i wr=>∃k:Nat,k≤v.rest.length∧i = .int .i64 (k:Int)∧Hid (OwnS wr w4.heap.size l (P.take (x.mems.length+k))∧Below w4.heap.size w4 wr)) (fun _ i _=>v.rest.length - (intOf i).toNat)
   case atStart=>exact ⟨0,by omega,rfl,by rw[Nat.add_zero,←HEQ.out];exact HO3.out,HB3.out⟩
   case round =>
    obtain ⟨k,hk,rfl,hh⟩:=hrel;obtain ⟨wk,rfl⟩:∃wk:World,wk=wr:=⟨_,rfl⟩;have HO:=zh hh.out.1;have HBK:=zh hh.out.2;clear hh;have v7:=zA HBK.out HC4.out.2.2.2
    by_cases hlt:k<v.rest.length
    ·obtain ⟨rb,ro,hR,_,a0,a1⟩:=HVR.out.at2 hlt
     have hfr:=HF.out.2.1 _ (List.getElem_mem hlt);have hpk:=HPR.out k hlt;have hkp:x.mems.length+k<P.length:=by rw[HPL.out];omega
     have HNX:Hid (P.take (x.mems.length+(k+1))=P.take (x.mems.length+k)++[decB (v.rest[k]).id++⟨#[58,32]⟩++quD (v.rest[k]).data]):=by show _=_;rw[←Nat.add_assoc,List.take_add_one,hpk];rfl
     have HZY:Hid ((decB (v.rest[k]).id).size+2+(quD (v.rest[k]).data).size≤1073741824):=by
      have h:=HPP.out _ hkp;rw[Option.some.inj ((zl hkp).symm.trans hpk),zH,zH] at h;have:=HZ.out;have e4:(⟨#[58,32]⟩:ByteArray).size=2:=rfl
      show _≤_
      omega
     have hlen:(P.take (x.mems.length+k)).length≤x.mems.length+k:=by rw[List.length_take];omega
     have hmm:x.mems.length≤1500000000000:=by have:=HEQ.out;omega
     clear hpk hkp;generalize v.rest[k]=r at *;have HFR:=zh hfr;obtain ⟨Y,hY⟩:∃Y,quD r.data=Y:=⟨_,rfl⟩;obtain ⟨Z,hZ⟩:∃Z,decB r.id=Z:=⟨_,rfl⟩;have HYE:=zh hY;have HZE:=zh hZ;rw[hY,hZ] at HNX HZY;have h1:(0:Int)≤(k:Int):=by omega
     have h2:(k:Int)<(v.rest.length:Int):=by omega
     have m0:¬ 9223372036854775807<(Z:ByteArray).size+(⟨#[58,32]⟩:ByteArray).size:=by have:=HZY.out;show ¬ _<_+2;omega
     have m1:¬ 9223372036854775807<Z.size+2:=by have:=HZY.out;omega
     have m2:¬ 9223372036854775807<(Z++⟨#[58,32]⟩:ByteArray).size+(Y:ByteArray).size:=by have:=HZY.out;simp only[zH];show ¬ _<_+2+_;omega
     have m3:¬ 9223372036854775807<Z.size+2+Y.size:=by have:=HZY.out;omega
     have HCC:Hid (∀w',Below w4.heap.size w4 w'→(w'.cell? ⟨w.heap.size+1,7,none⟩=some (.slice (some ⟨rb,ro,none⟩) v.rest.length c3)∧w'.cell? ⟨rb,ro+k * 2,none⟩=some (.int .i64 r.id)∧w'.cell? ⟨rb,ro+k * 2+1,none⟩=some (.string r.data))):=fun w' hb=>⟨zA hb (by rw[←hR];exact HC4.out.2.2.2),zA hb a0,zA hb a1⟩
     rw[hR] at v7;clear hfr a0 a1 hY hZ hR;go_upto_region 25 with fail
     clear v7;refine zr (Y:=fun w'=>Hid (Below w4.heap.size w4 w')) HCC.out (by kernel_rfl) ?_ (fun zH_=>?_)
     ·(try dsimp only);exact ⟨HCC.out _ (zC HBK.out _),zC HBK.out _⟩
     refine tL 0 ?_;refine tL 1 ?_;refine tL 2 ?_;refine tL 3 ?_;refine tL 4 ?_;try simp only[ps]
     refine tL 5 ?_;refine tL 6 ?_;refine tL 9 ?_;refine tL 10 ?_;refine tL 11 ?_;refine tL 12 ?_;try simp only[ps]
     refine tL 13 ?_;refine tL 14 ?_;refine tR 7 (fun K hK=>?_)
     go_simp
     (refine (itoa_any r.id (free_in HFR.out) _ (HTB.out.below (zB HB4.out zH_.2.out))).mono ?_;rintro e w6 ⟨rfl,hb6⟩;have HO6:=zh ((HO.out.below (zC (Below.refl _ _) 1)).below hb6);have HB6:=zh (zB zH_.2.out hb6);clear hb6;rw[HZE.out])
     refine hK.out _ _ ?_ (fun zH_=>?_)
     ·(try dsimp only);exact ⟨HCC.out _ HB6.out,HB6.out⟩
     clear hK K;refine tL 8 ?_;refine tR 15 (fun K hK=>?_)
     go_simp
     (refine (rQuote_any r.data (by rw[HYE.out];have:=HZY.out;omega) _).mono ?_;rintro e w7 ⟨rfl,hb7⟩;have HO7:=zh (HO6.out.below hb7);have HB7:=zh (zB zH_.2.out hb7);clear hb7;rw[HYE.out])
     refine hK.out _ _ ?_ (fun zH_=>?_)
     ·(try dsimp only);exact ⟨HCC.out _ HB7.out,HB7.out⟩
     clear hK K;refine tL 16 ?_;try simp only[ps]
     refine tR 17 (fun K hK=>?_)
     go_simp
     refine hK.out _ _ ?_ (fun zH_=>?_)
     ·(try dsimp only);exact ⟨HCC.out _ (zB HB7.out (zD _ _)),zB HB7.out (zD _ _)⟩
     clear hK K;refine tR 18 (fun K hK=>?_)
     (have e1:=HO7.out.alloc (.cells #[.string (Z++⟨#[58,32]⟩++Y)] 9);refine step_append_m elem_str (by rfl) (.tmp 98) (.tmp 115) (by rfl) w4.heap.size _ _ _ (by rfl) e1 w7.heap.size 0 1 1 [.string (Z++⟨#[58,32]⟩++Y)] (by rfl) rfl (zR w7 [.string (Z++⟨#[58,32]⟩++Y)] 9) (elem_one _) (by omega) (by omega) zH_.2.out.size ?_;intro v9 w9 ho9 hg9;have HO9:=zh (OwnL.snoc (enc:=encS) (x:=(Z++⟨#[58,32]⟩++Y)) ho9);have HB9:=zh (zH_.2.out.grown hg9 zH_.2.out.size e1.lt);clear ho9 hg9 e1)
     refine hK.out _ _ ?_ (fun zH_=>?_)
     ·(try dsimp only);exact ⟨HCC.out _ HB9.out,HB9.out⟩
     clear hK K;refine tL 19 ?_;refine wpAnyH_done (by kernel_rfl) ?_ _
     clear zH_;go_wp2;go_roundw
     case rel=>exact ⟨k+1,by omega,by go_num,by rw[HNX.out];exact HO9.out,HB9.out⟩
     case measure=>simp[intOf];omega
    ·obtain rfl:k=v.rest.length:=by omega
     have HO2:=HO.out;rw[List.take_of_length_le (by rw[HPL.out];omega)] at HO2
     have hmz:∀u∈P,SOk u:=fun u hu=>by
      obtain ⟨j,hj,rfl⟩:=List.getElem_of_mem hu;have:=HPP.out j hj;have:=HZ.out;unfold SOk
      omega
     obtain ⟨B2,d2,hl2,hB⟩:=OwnS.strs HO2 (by rw[HPL.out];have:=HEQ.out;unfold Lim;omega) hmz
     have hpn:=HPL.out;have hmm:x.mems.length≤1500000000000:=by have:=HEQ.out;omega
     have HST:Hid (StrAt wk B2 P):=fun j hj=>by
      obtain ⟨b9,o9,e9,_,g9⟩:=hB.at1 hj;exact ⟨b9,o9,e9,g9⟩
     have hj:=rJoined_any P B2 d2 (by rw[HPL.out];omega) (by have:=HZ.out;omega) wk HST.out
     generalize catL P=C at *;rw[HPL.out] at hj hl2;generalize x.mems.length+v.rest.length=pl at hj hl2;subst hl2;have HJ:=zh hj;clear hj hB HO2 hmz HO;clear hpn;go_wp2_with fail;refine HJ.out.mono ?_;rintro e w6 ⟨rfl,hb6⟩;have HB6:=zh (zB HB4.out (zB HBK.out hb6));clear hb6;have n1:¬ 9223372036854775807<(⟨#[123]⟩:ByteArray).size+C.size:=by have:=HZ.out;show ¬ _<1+_;omega
     have n2:¬ 9223372036854775807<1+C.size:=n1;have n3:¬ 9223372036854775807<(⟨#[123]⟩++C:ByteArray).size+(⟨#[125]⟩:ByteArray).size:=by have:=HZ.out;rw[zH];show ¬ _<1+_+1;omega
     have n4:¬ 9223372036854775807<1+C.size+1:=by have:=HZ.out;omega
     go_wp2
     go_ret
     exact ⟨by rw[HL.out];rfl,HB6.out⟩
end Go.Proofs.YthkkllmmbefedaaGreatDoor


