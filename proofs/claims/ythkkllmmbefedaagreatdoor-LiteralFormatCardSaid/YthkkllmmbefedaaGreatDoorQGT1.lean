/-
  The reference's text of all values; its Format.
-/
import Derived.Test.YthkkllmmbefedaaGreatDoorQGT0
import Derived.Test.YthkkllmmbefedaaGreatDoorQGA9
import Derived.Test.YthkkllmmbefedaaGreatDoorQRT5
import Derived.Test.YthkkllmmbefedaaGreatDoorQRT6
import Derived.Test.YthkkllmmbefedaaGreatDoorQRT8
import Derived.Test.YthkkllmmbefedaaGreatDoorQRG2
import Derived.Test.YthkkllmmbefedaaGreatDoorQGB0
namespace Go.Proofs.YthkkllmmbefedaaGreatDoor
open Go.RowKit
set_option maxHeartbeats 16000000
set_option maxRecDepth 100000
theorem rtext_7 {s:List TyD} {A:zo} {c n:Nat} (hn:Num64 s) (_ih:TextAt s A c n):TextK s A c n 7:=by
 intro tn htn v A1 c1 A2 c2 A3 c3 w e hf hs hr htb hz
 have hln:=hs.1.lt (by omega)
 obtain ⟨HB0,H5,H7⟩:=zy w (.cells #[.slice A s.length c] 31) (v.box A1 c1 A2 c2 A3 c3);have HIH:=zh _ih;have HS:=zh hs;have HR:=zh hr;have HTB:=zh htb;have HXN:=zh (hn _ (List.getElem_mem htn));obtain ⟨L,hL⟩:∃L,litB (litF s n) s[tn] v=L:=⟨_,rfl⟩;rw[hL] at hz ⊢;obtain ⟨b,o,As,cs,Am,cm,hA,htr,t0,t1,t2,t3,t4,t5,t6,t7,t8,t9⟩:=(hs.below HB0.out).at10 htn;clear hs hr htb _ih hn;subst hA
 generalize s[tn]=x at *;have HL0:Hid (L=litB (litF s n) x v):=hL.symm;have HSZ:=zh hz;have HTR:=zh htr;have HFB:=zh hf;have HK:=zh e;clear hL hz htr hf e;have h1:(0:Int)≤(tn:Int):=by omega
 have h2:(tn:Int)<(s.length:Int):=by omega
 go_enter Tryz.func46,Tryz.ntmps46
 go_upto_region 1 with fail
 generalize (w.alloc (.cells #[.slice (some ⟨b,o,none⟩) s.length c] 31)).alloc (v.box A1 c1 A2 c2 A3 c3)=W2 at *;have x0:=zb H5.out;go_upto_region 2 with fail
 clear t0 t1 t2 t3 t4 t5 t6 t7 t8 t9 x0;have HBX:=zh (zD W2 (x.box As cs Am cm));have HT4:Hid (TBox (W2.alloc (x.box As cs Am cm)) W2.heap.size x As cs Am cm):=heap_alloc_new W2 _;have H54:=zh (zE H5.out HBX.out);have H74:=zh (zE H7.out HBX.out);have HB4:=zh (zB HB0.out HBX.out);have HTR4:=zh (HTR.out.below HBX.out);generalize W2.alloc (x.box As cs Am cm)=w4 at *;generalize W2.heap.size=p7 at *
 clear H5 H7 HTR HBX HB0;obtain ⟨q1,q2,q3,q4,q5,q6,q7⟩:=zk7 HK.out;obtain ⟨v0,v1,v2,v3,v4,v5,v6,v7⟩:=zF H74.out;obtain ⟨b0,b1,b2,b3,b4,b5,b6,b7,b8,b9⟩:=zG HT4.out;have x0:=zb H54.out;have HL:=zh (HL0.out.trans (lit7 HK.out));have HF:=zh (fit7 HK.out HFB.out);have HZ:Hid (1+(catL (v.items.map (litF s n x.elem))).size+1≤1073741824):=by have:=HSZ.out;rw[HL.out,zH,zH] at this;exact this
 have hli:=HR.out.items.1.lt (by omega)
 have HVI:=zh (HR.out.below HB4.out).items;have HC4:Hid (w4.cell? ⟨w.heap.size,0,none⟩=some (.slice (some ⟨b,o,none⟩) s.length c)∧w4.cell? ⟨p7,8,none⟩=some (.int .i64 x.elem)∧w4.cell? ⟨w.heap.size+1,6,none⟩=some (.slice A2 v.items.length c2)):=⟨x0,b8,v6⟩;go_wp2_with fail
 go_loopw [8,15] (fun l i wr=>∃k:Nat,k≤v.items.length∧i = .int .i64 (k:Int)∧Hid (OwnS wr w4.heap.size l ((v.items.take k).map (litF s n x.elem))∧Below w4.heap.size w4 wr)) (fun _ i _=>v.items.length - (intOf i).toNat)
 case atStart=>exact ⟨0,by omega,rfl,OwnL.nil _ _,Below.refl _ _⟩
 case round =>
  obtain ⟨k,hk,rfl,hh⟩:=hrel;obtain ⟨wk,rfl⟩:∃wk:World,wk=wr:=⟨_,rfl⟩;have HO:=zh hh.out.1;have HBK:=zh hh.out.2;clear hh v0 v1 v2 v3 v4 v5 v6 v7 b0 b1 b2 b3 b4 b5 b6 b7 b8 b9 x0;have v6:=zA HBK.out HC4.out.2.2
  by_cases hlt:k<v.items.length
  ·obtain ⟨ib,io,E1,e1,E2,e2,E3,e3,hI,hir,a0,a1,a2,a3,a4,a5,a6,a7⟩:=HVI.out.at8 hlt
   have HIR:=zh hir;have hmem:=HF.out _ (List.getElem_mem hlt);have HPT:=zh (catL_part (l:=(v.items.map (litF s n x.elem))) (k:=k) (by simpa using hlt))
   rw[List.getElem_map] at HPT;have HNX:Hid ((v.items.take (k+1)).map (litF s n x.elem)=(v.items.take k).map (litF s n x.elem)++[litF s n x.elem v.items[k]]):=by show _=_;rw[List.take_succ_eq_append_getElem hlt,List.map_append];rfl
   have hl43:v.items.length≤1500000000000:=by have h:=HR.out.items.1;unfold Lim at h;omega
   have hlen:((v.items.take k).map (litF s n x.elem)).length≤k:=by rw[List.length_map,List.length_take];omega
   generalize v.items[k]=y at *;have HFY:=zh hmem;obtain ⟨Y,hY⟩:∃Y,litF s n x.elem y=Y:=⟨_,rfl⟩;have HYE:=zh hY;rw[hY] at HPT HNX;have HZY:Hid (Y.size≤1073741824):=by have:=HZ.out;have:=HPT.out;show _≤_;omega
   have h1:(0:Int)≤(k:Int):=by omega
   have h2:(k:Int)<(v.items.length:Int):=by omega
   have HCC:Hid (∀w',Below w4.heap.size w4 w'→(w'.cell? ⟨w.heap.size,0,none⟩=some (.slice (some ⟨b,o,none⟩) s.length c)∧w'.cell? ⟨p7,8,none⟩=some (.int .i64 x.elem)∧w'.cell? ⟨w.heap.size+1,6,none⟩=some (.slice (some ⟨ib,io,none⟩) v.items.length c2)∧w'.cell? ⟨ib,io+k * 8,none⟩=some (.int .i64 y.kind)∧w'.cell? ⟨ib,io+k * 8+1,none⟩=some (.bool y.bool)∧w'.cell? ⟨ib,io+k * 8+2,none⟩=some (.int .i64 y.int)∧w'.cell? ⟨ib,io+k * 8+3,none⟩=some (.string y.str)∧w'.cell? ⟨ib,io+k * 8+4,none⟩=some (.int .i64 y.id)∧w'.cell? ⟨ib,io+k * 8+5,none⟩=some (.slice E1 y.keys.length e1)∧w'.cell? ⟨ib,io+k * 8+6,none⟩=some (.slice E2 y.items.length e2)∧w'.cell? ⟨ib,io+k * 8+7,none⟩=some (.slice E3 y.rest.length e3))):=fun w' hb=>⟨zA hb HC4.out.1,zA hb HC4.out.2.1,zA hb (by rw[←hI];exact HC4.out.2.2),zA hb a0,zA hb a1,zA hb a2,zA hb a3,zA hb a4,zA hb a5,zA hb a6,zA hb a7⟩
   rw[hI] at v6;clear hmem hir a0 a1 a2 a3 a4 a5 a6 a7 hY hI;go_upto_region 36 with fail
   clear v6;refine zr (Y:=fun w'=>Hid (Below w4.heap.size w4 w')) HCC.out (by kernel_rfl) ?_ (fun zH_=>?_)
   ·(try dsimp only);exact ⟨HCC.out _ (zC HBK.out _),zC HBK.out _⟩
   refine tL 0 ?_;refine tL 1 ?_;refine tL 2 ?_;refine tL 3 ?_;refine tL 4 ?_;refine tL 5 ?_;try simp only[ps]
   refine tL 6 ?_;refine tL 7 ?_;refine tL 8 ?_;refine tR 9 (fun K hK=>?_)
   go_simp
   (refine (HIH.out x.elem y E1 e1 E2 e2 E3 e3 _ HFY.out (HS.out.below (zB HB4.out zH_.2.out)) (HIR.out.below zH_.2.out) (HTB.out.below (zB HB4.out zH_.2.out)) (by rw[HYE.out];exact HZY.out)).mono ?_;rintro e w6 ⟨rfl,hb6⟩;have HO6:=zh ((HO.out.below (zC (Below.refl _ _) 1)).below hb6);have HB6:=zh (zB zH_.2.out hb6);clear hb6;rw[HYE.out])
   refine hK.out _ _ ?_ (fun zH_=>?_)
   ·(try dsimp only);exact ⟨HCC.out _ HB6.out,HB6.out⟩
   clear hK K;refine tR 10 (fun K hK=>?_)
   go_simp
   refine hK.out _ _ ?_ (fun zH_=>?_)
   ·(try dsimp only);exact ⟨HCC.out _ (zB HB6.out (zD _ _)),zB HB6.out (zD _ _)⟩
   clear hK K;refine tR 11 (fun K hK=>?_)
   (have e1:=HO6.out.alloc (.cells #[.string Y] 9);refine step_append_m elem_str (by rfl) (.tmp 174) (.tmp 184) (by rfl) w4.heap.size _ _ _ (by rfl) e1 w6.heap.size 0 1 1 [.string Y] (by rfl) rfl (zR w6 [.string Y] 9) (elem_one _) (by omega) (by omega) zH_.2.out.size ?_;intro v9 w9 ho9 hg9;have HO9:=zh (OwnL.snoc (enc:=encS) (x:=Y) ho9);have HB9:=zh (zH_.2.out.grown hg9 zH_.2.out.size e1.lt);clear ho9 hg9 e1)
   refine hK.out _ _ ?_ (fun zH_=>?_)
   ·(try dsimp only);exact ⟨HCC.out _ HB9.out,HB9.out⟩
   clear hK K;try simp only[ps]
   refine tL 12 ?_;refine wpAnyH_done (by kernel_rfl) ?_ _
   clear zH_;go_wp2;go_roundw
   case rel=>exact ⟨k+1,by omega,by go_num,by rw[HNX.out];exact HO9.out,HB9.out⟩
   case measure=>simp[intOf];omega
  ·obtain rfl:k=v.items.length:=by omega
   have HO2:=HO.out;rw[List.take_length] at HO2;have hmz:∀u∈(v.items.map (litF s n x.elem)),SOk u:=fun u hu=>by
    obtain ⟨j,hj,rfl⟩:=List.getElem_of_mem hu;have:=catL_part hj;have:=HZ.out;unfold SOk
    omega
   obtain ⟨B2,d2,hl2,hB⟩:=OwnS.strs HO2 (by rw[List.length_map];have h:=HR.out.items.1;unfold Lim at *;omega) hmz
   have HST:Hid (StrAt wk B2 (v.items.map (litF s n x.elem))):=fun j hj=>by
    obtain ⟨b9,o9,e9,_,g9⟩:=hB.at1 hj;exact ⟨b9,o9,e9,g9⟩
   have hj:=rJoined_any (v.items.map (litF s n x.elem)) B2 d2 (by rw[List.length_map];omega) (by have:=HZ.out;omega) wk HST.out
   generalize catL (v.items.map (litF s n x.elem))=C at *;rw[List.length_map] at hj hl2;subst hl2;have HJ:=zh hj;clear hj hB HO2 hmz HO;go_wp2_with fail;refine HJ.out.mono ?_;rintro e w6 ⟨rfl,hb6⟩;have HB6:=zh (zB HB4.out (zB HBK.out hb6));clear hb6;have n1:¬ 9223372036854775807<(⟨#[91]⟩:ByteArray).size+C.size:=by have:=HZ.out;show ¬ _<1+_;omega
   have n2:¬ 9223372036854775807<1+C.size:=n1;have n3:¬ 9223372036854775807<(⟨#[91]⟩++C:ByteArray).size+(⟨#[93]⟩:ByteArray).size:=by have:=HZ.out;rw[zH];show ¬ _<1+_+1;omega
   have n4:¬ 9223372036854775807<1+C.size+1:=by have:=HZ.out;omega
   go_wp2
   go_ret
   exact ⟨by rw[HL.out];rfl,HB6.out⟩
theorem rtext_8 {s:List TyD} {A:zo} {c n:Nat} (hn:Num64 s) (_ih:TextAt s A c n):TextK s A c n 8:=by
 intro tn htn v A1 c1 A2 c2 A3 c3 w e hf hs hr htb hz
 have hln:=hs.1.lt (by omega)
 obtain ⟨HB0,H5,H7⟩:=zy w (.cells #[.slice A s.length c] 31) (v.box A1 c1 A2 c2 A3 c3);have HIH:=zh _ih;have HS:=zh hs;have HR:=zh hr;have HTB:=zh htb;have HXN:=zh (hn _ (List.getElem_mem htn));obtain ⟨L,hL⟩:∃L,litB (litF s n) s[tn] v=L:=⟨_,rfl⟩;rw[hL] at hz ⊢;obtain ⟨b,o,As,cs,Am,cm,hA,htr,t0,t1,t2,t3,t4,t5,t6,t7,t8,t9⟩:=(hs.below HB0.out).at10 htn;clear hs hr htb _ih hn;subst hA
 generalize s[tn]=x at *;have HL0:Hid (L=litB (litF s n) x v):=hL.symm;have HSZ:=zh hz;have HTR:=zh htr;have HFB:=zh hf;have HK:=zh e;clear hL hz htr hf e;have h1:(0:Int)≤(tn:Int):=by omega
 have h2:(tn:Int)<(s.length:Int):=by omega
 go_enter Tryz.func46,Tryz.ntmps46
 go_upto_region 1 with fail
 generalize (w.alloc (.cells #[.slice (some ⟨b,o,none⟩) s.length c] 31)).alloc (v.box A1 c1 A2 c2 A3 c3)=W2 at *;have x0:=zb H5.out;go_upto_region 2 with fail
 clear t0 t1 t2 t3 t4 t5 t6 t7 t8 t9 x0;have HBX:=zh (zD W2 (x.box As cs Am cm));have HT4:Hid (TBox (W2.alloc (x.box As cs Am cm)) W2.heap.size x As cs Am cm):=heap_alloc_new W2 _;have H54:=zh (zE H5.out HBX.out);have H74:=zh (zE H7.out HBX.out);have HB4:=zh (zB HB0.out HBX.out);have HTR4:=zh (HTR.out.below HBX.out);generalize W2.alloc (x.box As cs Am cm)=w4 at *;generalize W2.heap.size=p7 at *
 clear H5 H7 HTR HBX HB0;obtain ⟨q1,q2,q3,q4,q5,q6,q7,q8⟩:=zk8 HK.out;obtain ⟨v0,v1,v2,v3,v4,v5,v6,v7⟩:=zF H74.out;obtain ⟨b0,b1,b2,b3,b4,b5,b6,b7,b8,b9⟩:=zG HT4.out;have x0:=zb H54.out;have HL1:=zh (HL0.out.trans (lit8 HK.out));have HF:=zh (fit8 HK.out HFB.out);obtain ⟨P,hP⟩:∃P,entsD (litF s n x.key) (litF s n x.elem) v=P:=⟨_,rfl⟩
 have HPL:Hid (P.length=v.keys.length):=by show _=_;rw[←hP];exact entsD_len HF.out.1
 have HPG:Hid (∀k (h1:k<v.keys.length) (h2:k<v.items.length),P[k]? = some (litF s n x.key v.keys[k]++⟨#[32,45,62,32]⟩++litF s n x.elem v.items[k])):=fun k h1 h2=>by
  have hp:k<(entsD (litF s n x.key) (litF s n x.elem) v).length:=by rw[entsD_len HF.out.1];exact h1
  rw[←hP,zl hp,entsD_get h1 h2 hp]
 have HL2:Hid (L=⟨#[91]⟩++(if v.keys.length=0 then ⟨#[45,62]⟩ else ⟨#[]⟩)++catL P++⟨#[93]⟩):=by show _=_;rw[←hP];exact HL1.out
 have HZ:Hid (1+(catL P).size+1≤1073741824):=by
  have h:=HSZ.out;rw[HL2.out,zH,zH,zH] at h;have e1:(⟨#[91]⟩:ByteArray).size=1:=rfl;have e2:(⟨#[93]⟩:ByteArray).size=1:=rfl
  show _≤_
  omega
 have HPP:Hid (∀k (h:k<P.length),(P[k]).size≤(catL P).size):=fun k h=>by have:=catL_part h;omega
 clear hP HL1;have hli:=HR.out.items.1.lt (by omega)
 have HVI:=zh (HR.out.below HB4.out).items;have HVK:=zh (HR.out.below HB4.out).keys;have hl43:v.keys.length≤1500000000000:=by have h:=HR.out.keys.1;unfold Lim at h;omega
 have heq:=HF.out.1;have HC4:Hid (w4.cell? ⟨w.heap.size,0,none⟩=some (.slice (some ⟨b,o,none⟩) s.length c)∧w4.cell? ⟨p7,7,none⟩=some (.int .i64 x.key)∧w4.cell? ⟨p7,8,none⟩=some (.int .i64 x.elem)∧w4.cell? ⟨w.heap.size+1,5,none⟩=some (.slice A1 v.keys.length c1)∧w4.cell? ⟨w.heap.size+1,6,none⟩=some (.slice A2 v.items.length c2)):=⟨x0,b7,b8,v5,v6⟩;have HEQ:=zh heq;clear heq;go_wp2_with fail
 go_loopw [8,16] (fun l i wr=>∃k:Nat,k≤v.items.length∧i = .int .i64 (k:Int)∧Hid (OwnS wr w4.heap.size l (P.take k)∧Below w4.heap.size w4 wr)) (fun _ i _=>v.items.length - (intOf i).toNat)
 case atStart=>exact ⟨0,by omega,rfl,OwnL.nil _ _,Below.refl _ _⟩
 case round =>
  obtain ⟨k,hk,rfl,hh⟩:=hrel;obtain ⟨wk,rfl⟩:∃wk:World,wk=wr:=⟨_,rfl⟩;have HO:=zh hh.out.1;have HBK:=zh hh.out.2;clear hh v0 v1 v2 v3 v4 v5 v6 v7 b0 b1 b2 b3 b4 b5 b6 b7 b8 b9 x0;have v6:=zA HBK.out HC4.out.2.2.2.2
  by_cases hlt:k<v.items.length
  ·have hkk:k<v.keys.length:=HEQ.out▸hlt
   obtain ⟨ib,io,E1,e1,E2,e2,E3,e3,hI,hir,a0,a1,a2,a3,a4,a5,a6,a7⟩:=HVI.out.at8 hlt;have HIR:=zh hir;have hmem:=HF.out.2.2 _ (List.getElem_mem hlt);obtain ⟨kb,ko,D1,d1,D2,d2,D3,d3,hKI,hkr,g0,g1,g2,g3,g4,g5,g6,g7⟩:=HVK.out.at8 hkk;have HKR:=zh hkr;have hkem:=HF.out.2.1 _ (List.getElem_mem hkk);have hpk:=HPG.out k hkk hlt;have hkp:k<P.length:=by rw[HPL.out];exact hkk
   have HNX:Hid (P.take (k+1)=P.take k++[litF s n x.key v.keys[k]++⟨#[32,45,62,32]⟩++litF s n x.elem v.items[k]]):=by show _=_;rw[List.take_add_one,hpk];rfl
   have HZY:Hid ((litF s n x.key v.keys[k]).size+4+(litF s n x.elem v.items[k]).size≤1073741824):=by
    have h:=HPP.out k hkp;rw[Option.some.inj ((zl hkp).symm.trans hpk),zH,zH] at h;have:=HZ.out;have e4:(⟨#[32,45,62,32]⟩:ByteArray).size=4:=rfl
    show _≤_
    omega
   have hlen:(P.take k).length≤k:=by rw[List.length_take];omega
   clear hpk hkp;generalize v.items[k]=y at *;generalize v.keys[k]=z at *;have HFY:=zh hmem;have HFZ:=zh hkem;obtain ⟨Y,hY⟩:∃Y,litF s n x.elem y=Y:=⟨_,rfl⟩;obtain ⟨Z,hZ⟩:∃Z,litF s n x.key z=Z:=⟨_,rfl⟩;have HYE:=zh hY;have HZE:=zh hZ;rw[hY,hZ] at HNX HZY;have h1:(0:Int)≤(k:Int):=by omega
   have h2:(k:Int)<(v.items.length:Int):=by omega
   have h3:(k:Int)<(v.keys.length:Int):=by omega
   have m0:¬ 9223372036854775807<(Z:ByteArray).size+(⟨#[32,45,62,32]⟩:ByteArray).size:=by have:=HZY.out;show ¬ _<_+4;omega
   have m1:¬ 9223372036854775807<Z.size+4:=by have:=HZY.out;omega
   have m2:¬ 9223372036854775807<(Z++⟨#[32,45,62,32]⟩:ByteArray).size+(Y:ByteArray).size:=by have:=HZY.out;simp only[zH];show ¬ _<_+4+_;omega
   have m3:¬ 9223372036854775807<Z.size+4+Y.size:=by have:=HZY.out;omega
   have HCC:Hid (∀w',Below w4.heap.size w4 w'→(w'.cell? ⟨w.heap.size,0,none⟩=some (.slice (some ⟨b,o,none⟩) s.length c)∧w'.cell? ⟨p7,7,none⟩=some (.int .i64 x.key)∧w'.cell? ⟨p7,8,none⟩=some (.int .i64 x.elem)∧w'.cell? ⟨w.heap.size+1,5,none⟩=some (.slice (some ⟨kb,ko,none⟩) v.keys.length c1)∧w'.cell? ⟨w.heap.size+1,6,none⟩=some (.slice (some ⟨ib,io,none⟩) v.items.length c2)∧w'.cell? ⟨kb,ko+k * 8,none⟩=some (.int .i64 z.kind)∧w'.cell? ⟨kb,ko+k * 8+1,none⟩=some (.bool z.bool)∧w'.cell? ⟨kb,ko+k * 8+2,none⟩=some (.int .i64 z.int)∧w'.cell? ⟨kb,ko+k * 8+3,none⟩=some (.string z.str)∧w'.cell? ⟨kb,ko+k * 8+4,none⟩=some (.int .i64 z.id)∧w'.cell? ⟨kb,ko+k * 8+5,none⟩=some (.slice D1 z.keys.length d1)∧w'.cell? ⟨kb,ko+k * 8+6,none⟩=some (.slice D2 z.items.length d2)∧w'.cell? ⟨kb,ko+k * 8+7,none⟩=some (.slice D3 z.rest.length d3)∧w'.cell? ⟨ib,io+k * 8,none⟩=some (.int .i64 y.kind)∧w'.cell? ⟨ib,io+k * 8+1,none⟩=some (.bool y.bool)∧w'.cell? ⟨ib,io+k * 8+2,none⟩=some (.int .i64 y.int)∧w'.cell? ⟨ib,io+k * 8+3,none⟩=some (.string y.str)∧w'.cell? ⟨ib,io+k * 8+4,none⟩=some (.int .i64 y.id)∧w'.cell? ⟨ib,io+k * 8+5,none⟩=some (.slice E1 y.keys.length e1)∧w'.cell? ⟨ib,io+k * 8+6,none⟩=some (.slice E2 y.items.length e2)∧w'.cell? ⟨ib,io+k * 8+7,none⟩=some (.slice E3 y.rest.length e3))):=fun w' hb=>⟨zA hb HC4.out.1,zA hb HC4.out.2.1,zA hb HC4.out.2.2.1,zA hb (by rw[←hKI];exact HC4.out.2.2.2.1),zA hb (by rw[←hI];exact HC4.out.2.2.2.2),zA hb g0,zA hb g1,zA hb g2,zA hb g3,zA hb g4,zA hb g5,zA hb g6,zA hb g7,zA hb a0,zA hb a1,zA hb a2,zA hb a3,zA hb a4,zA hb a5,zA hb a6,zA hb a7⟩
   rw[hI] at v6;clear hmem hkem hir hkr a0 a1 a2 a3 a4 a5 a6 a7 g0 g1 g2 g3 g4 g5 g6 g7 hY hZ hI hKI;go_upto_region 42 with fail
   clear v6;refine zr (Y:=fun w'=>Hid (Below w4.heap.size w4 w')) HCC.out (by kernel_rfl) ?_ (fun zH_=>?_)
   ·(try dsimp only);exact ⟨HCC.out _ (zC HBK.out _),zC HBK.out _⟩
   refine tL 0 ?_;refine tL 1 ?_;refine tL 2 ?_;refine tL 3 ?_;refine tL 4 ?_;refine tL 5 ?_;try simp only[ps]
   refine tL 6 ?_;refine tL 7 ?_;refine tL 8 ?_;refine tL 11 ?_;refine tL 12 ?_;refine tL 13 ?_;try simp only[ps]
   refine tL 14 ?_;refine tL 15 ?_;refine tL 16 ?_;refine tL 17 ?_;refine tL 18 ?_;refine tR 9 (fun K hK=>?_)
   go_simp
   (refine (HIH.out x.key z D1 d1 D2 d2 D3 d3 _ HFZ.out (HS.out.below (zB HB4.out zH_.2.out)) (HKR.out.below zH_.2.out) (HTB.out.below (zB HB4.out zH_.2.out)) (by rw[HZE.out];have:=HZY.out;omega)).mono ?_;rintro e w6 ⟨rfl,hb6⟩;have HO6:=zh ((HO.out.below (zC (Below.refl _ _) 1)).below hb6);have HB6:=zh (zB zH_.2.out hb6);clear hb6;rw[HZE.out])
   refine hK.out _ _ ?_ (fun zH_=>?_)
   ·(try dsimp only);exact ⟨HCC.out _ HB6.out,HB6.out⟩
   clear hK K;try simp only[ps]
   refine tL 10 ?_;refine tR 19 (fun K hK=>?_)
   go_simp
   (refine (HIH.out x.elem y E1 e1 E2 e2 E3 e3 _ HFY.out (HS.out.below (zB HB4.out zH_.2.out)) (HIR.out.below zH_.2.out) (HTB.out.below (zB HB4.out zH_.2.out)) (by rw[HYE.out];have:=HZY.out;omega)).mono ?_;rintro e w7 ⟨rfl,hb6⟩;have HO7:=zh (HO6.out.below hb6);have HB7:=zh (zB zH_.2.out hb6);clear hb6;rw[HYE.out])
   refine hK.out _ _ ?_ (fun zH_=>?_)
   ·(try dsimp only);exact ⟨HCC.out _ HB7.out,HB7.out⟩
   clear hK K;refine tL 20 ?_;refine tR 21 (fun K hK=>?_)
   go_simp
   refine hK.out _ _ ?_ (fun zH_=>?_)
   ·(try dsimp only);exact ⟨HCC.out _ (zB HB7.out (zD _ _)),zB HB7.out (zD _ _)⟩
   clear hK K;refine tR 22 (fun K hK=>?_)
   (have e1:=HO7.out.alloc (.cells #[.string (Z++⟨#[32,45,62,32]⟩++Y)] 9);refine step_append_m elem_str (by rfl) (.tmp 199) (.tmp 220) (by rfl) w4.heap.size _ _ _ (by rfl) e1 w7.heap.size 0 1 1 [.string (Z++⟨#[32,45,62,32]⟩++Y)] (by rfl) rfl (zR w7 [.string (Z++⟨#[32,45,62,32]⟩++Y)] 9) (elem_one _) (by omega) (by omega) zH_.2.out.size ?_;intro v9 w9 ho9 hg9;have HO9:=zh (OwnL.snoc (enc:=encS) (x:=(Z++⟨#[32,45,62,32]⟩++Y)) ho9);have HB9:=zh (zH_.2.out.grown hg9 zH_.2.out.size e1.lt);clear ho9 hg9 e1)
   refine hK.out _ _ ?_ (fun zH_=>?_)
   ·(try dsimp only);exact ⟨HCC.out _ HB9.out,HB9.out⟩
   clear hK K;refine tL 23 ?_;try simp only[ps]
   refine wpAnyH_done (by kernel_rfl) ?_ _
   clear zH_;go_wp2;go_roundw
   case rel=>exact ⟨k+1,by omega,by go_num,by rw[HNX.out];exact HO9.out,HB9.out⟩
   case measure=>simp[intOf];omega
  ·obtain rfl:k=v.items.length:=by omega
   have HO2:=HO.out;rw[List.take_of_length_le (by rw[HPL.out,HEQ.out];omega)] at HO2
   have hmz:∀u∈P,SOk u:=fun u hu=>by
    obtain ⟨j,hj,rfl⟩:=List.getElem_of_mem hu;have:=HPP.out j hj;have:=HZ.out;unfold SOk
    omega
   obtain ⟨B2,d2,hl2,hB⟩:=OwnS.strs HO2 (by rw[HPL.out];unfold Lim;omega) hmz
   by_cases hz0:v.keys.length=0
   ·have HL:Hid (L=⟨#[91,45,62,93]⟩):=by
     show _=_
     rw[HL2.out,if_pos hz0,List.eq_nil_of_length_eq_zero (HPL.out.trans hz0)]
     rfl
    rw[HPL.out] at hl2;subst hl2;have q0:((v.keys.length:Int)==0)=true:=by rw[hz0];rfl
    clear hz0 hB HO2 hmz HO;go_wp2;go_ret;exact ⟨by rw[HL.out];rfl,zB HB4.out HBK.out⟩
   ·have HL:Hid (L=⟨#[91]⟩++catL P++⟨#[93]⟩):=by
     show _=_
     rw[HL2.out,if_neg hz0,app_nil]
    have q0:((v.keys.length:Int)==0)=false:=by simp[hz0]
    clear HL2;have HST:Hid (StrAt wk B2 P):=fun j hj=>by
     obtain ⟨b9,o9,e9,_,g9⟩:=hB.at1 hj;exact ⟨b9,o9,e9,g9⟩
    have hj:=rJoined_any P B2 d2 (by rw[HPL.out];omega) (by have:=HZ.out;omega) wk HST.out
    generalize catL P=C at *;rw[HPL.out] at hj hl2;subst hl2;have HJ:=zh hj;clear hj hB HO2 hmz HO;clear hz0;go_wp2_with fail;refine HJ.out.mono ?_;rintro e w6 ⟨rfl,hb6⟩;have HB6:=zh (zB HB4.out (zB HBK.out hb6));clear hb6;have n1:¬ 9223372036854775807<(⟨#[91]⟩:ByteArray).size+C.size:=by have:=HZ.out;show ¬ _<1+_;omega
    have n2:¬ 9223372036854775807<1+C.size:=n1;have n3:¬ 9223372036854775807<(⟨#[91]⟩++C:ByteArray).size+(⟨#[93]⟩:ByteArray).size:=by have:=HZ.out;rw[zH];show ¬ _<1+_+1;omega
    have n4:¬ 9223372036854775807<1+C.size+1:=by have:=HZ.out;omega
    go_wp2
    go_ret
    exact ⟨by rw[HL.out];rfl,HB6.out⟩
theorem text_step {s:List TyD} {A:zo} {c n:Nat} (hv:zQ s=0) (hn:Num64 s) (ih:TextAt s A c n):TextAt s A c (n+1):=by
 intro t v A1 c1 A2 c2 A3 c3 w hf hs hr htb hz
 obtain ⟨i0,i1,_,hfb⟩:=fitF_out hf;obtain ⟨tn,rfl⟩:=Int.eq_ofNat_of_zero_le i0;have htn:tn<s.length:=by omega
 have hk:=kind_rng hv ⟨i0,i1⟩;rw[zT htn] at hfb hk;have hl:litF s (n+1) (tn:Int) v=litB (litF s n) s[tn] v:=by rw[litF,zT htn]
 rw[hl] at hz ⊢;have hkx:(s[tn]).kind=1∨(s[tn]).kind=2∨(s[tn]).kind=3∨(s[tn]).kind=4∨(s[tn]).kind=5∨(s[tn]).kind=6∨(s[tn]).kind=7∨(s[tn]).kind=8∨(s[tn]).kind=9:=by omega
 rcases hkx with e|e|e|e|e|e|e|e|e
 ·exact rtext_1 hn ih tn htn v A1 c1 A2 c2 A3 c3 w e hfb hs hr htb hz
 ·exact rtext_2 hn ih tn htn v A1 c1 A2 c2 A3 c3 w e hfb hs hr htb hz
 ·exact rtext_3 hn ih tn htn v A1 c1 A2 c2 A3 c3 w e hfb hs hr htb hz
 ·exact rtext_4 hn ih tn htn v A1 c1 A2 c2 A3 c3 w e hfb hs hr htb hz
 ·exact rtext_5 hn ih tn htn v A1 c1 A2 c2 A3 c3 w e hfb hs hr htb hz
 ·exact rtext_6 hn ih tn htn v A1 c1 A2 c2 A3 c3 w e hfb hs hr htb hz
 ·exact rtext_7 hn ih tn htn v A1 c1 A2 c2 A3 c3 w e hfb hs hr htb hz
 ·exact rtext_8 hn ih tn htn v A1 c1 A2 c2 A3 c3 w e hfb hs hr htb hz
 ·exact rtext_9 hn ih tn htn v A1 c1 A2 c2 A3 c3 w e hfb hs hr htb hz
theorem text_all {s:List TyD} {A:zo} {c:Nat} (hv:zQ s=0) (hn:Num64 s):∀n,TextAt s A c n
 | 0=>fun _ _ _ _ _ _ _ _ _ hf=>by cases hf
 | n+1=>text_step hv hn (text_all hv hn n)
theorem rFormat_any {s:List TyD} (A:zo) (c:Nat) (hv:zQ s=0) (hn:Num64 s) (t:Int) (v:Val) (hz:(fmtT s t v).size≤1073741824) (A1:zo) (c1:Nat) (A2:zo) (c2:Nat) (A3:zo) (c3:Nat) (w:World) (hs:TysR w A s) (hr:ValR w v A1 A2 A3) (htb:Tab w) :
  Calls Tryz.prog 15 #[.agg #[.slice A s.length c],.int .i64 t,v.v A1 c1 A2 c2 A3 c3] w fun e w'=>e = .returned (.tuple #[.string (fmtT s t v),.int .i64 (if fitV s false t v then 0 else 1)])∧Below w.heap.size w w':=by
 have HS:=zh hs;have HR:=zh hr;have HTB:=zh htb;have HF:=zh (r08_Fits_any (s:=s) A c hv hn t v A1 c1 A2 c2 A3 c3);have HW:=zh (text_all (A:=A) (c:=c) hv hn (SizeOf.sizeOf v));have HZ:Hid (fmtT s t v=if fitV s false t v then litV s t v else ⟨#[]⟩):=rfl
 have HLV:Hid (litV s t v=litF s (SizeOf.sizeOf v) t v):=rfl;have HFV:Hid (fitV s false t v=fitF s false (SizeOf.sizeOf v) t v):=rfl;have HZ2:=zh hz;have HB0:=zh (zI w (.cells #[.slice A s.length c] 31) (v.box A1 c1 A2 c2 A3 c3));have HX0:=zh (tmp_al (heap_alloc_new w (.cells #[.slice A s.length c] 31)) (v.box A1 c1 A2 c2 A3 c3))
 have HY0:Hid (((w.alloc (.cells #[.slice A s.length c] 31)).alloc (v.box A1 c1 A2 c2 A3 c3)).heap[w.heap.size+1]? = some (v.box A1 c1 A2 c2 A3 c3)):=by
  have:=heap_alloc_new (w.alloc (.cells #[.slice A s.length c] 31)) (v.box A1 c1 A2 c2 A3 c3);rw[show (w.alloc (.cells #[.slice A s.length c] 31)).heap.size=w.heap.size+1 by simp] at this
  exact this
 generalize fmtT s t v=FT at *;generalize hER:(if fitV s false t v then (0:Int) else 1)=ER
 replace hER:=zh hER;clear hs hr hv hn htb hz
 go_enter Tryz.func15,Tryz.ntmps15
 go_upto_region 1 with fail
 generalize (w.alloc (.cells #[.slice A s.length c] 31)).alloc (v.box A1 c1 A2 c2 A3 c3)=W1 at *;obtain ⟨v0,v1,v2,v3,v4,v5,v6,v7⟩:=zF HY0.out;have x0:=zb HX0.out;go_wp2_with fail;refine (HF.out _ (HS.out.below HB0.out) (HR.out.below HB0.out)).mono ?_;rintro e w1 ⟨rfl,hb1⟩;have HB1:=zh (zB HB0.out hb1);have HX1:=zh (zE HX0.out hb1);have HY1:=zh (zE HY0.out hb1);clear hb1 v0 v1 v2 v3 v4 v5 v6 v7 x0
 cases hf:fitV s false t v with
 | false =>
  have HE:Hid (FT=⟨#[]⟩):=by show _=_;rw[HZ.out,hf];rfl
  have HR0:Hid (ER=1):=by show _=_;rw[←hER.out,hf];rfl
  clear hf;go_wp2;go_ret2;exact ⟨by rw[HE.out,HR0.out];rfl,HB1.out⟩
 | true =>
  have HE:Hid (FT=litF s (SizeOf.sizeOf v) t v):=by show _=_;rw[HZ.out,hf,←HLV.out];rfl
  have HR0:Hid (ER=0):=by show _=_;rw[←hER.out,hf];rfl
  have HFT:Hid (fitF s false (SizeOf.sizeOf v) t v=true):=HFV.out.symm.trans hf;clear hf;obtain ⟨v0,v1,v2,v3,v4,v5,v6,v7⟩:=zF HY1.out;have x0:=zb HX1.out;go_wp2_with fail;refine (HW.out t v A1 c1 A2 c2 A3 c3 _ HFT.out (HS.out.below HB1.out) (HR.out.below HB1.out) (HTB.out.below HB1.out) (by rw[←HE.out];exact HZ2.out)).mono ?_
  rintro e w2 ⟨rfl,hb2⟩;rw[←HE.out];have HB2:=zh (zB HB1.out hb2);clear hb2 v0 v1 v2 v3 v4 v5 v6 v7 x0;go_wp2;go_ret2;exact ⟨by rw[HR0.out];rfl,HB2.out⟩
end Go.Proofs.YthkkllmmbefedaaGreatDoor


