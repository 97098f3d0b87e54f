/-
  Walks: the reference's declaration.
-/
import Derived.Test.YtdfolgmcggdjdaaGreatDoorQGG0
import Derived.Test.YtdfolgmcggdjdaaGreatDoorQYW5
import Derived.Test.YtdfolgmcggdjdaaGreatDoorQGF1
namespace Go.Proofs.YtdfolgmcggdjdaaGreatDoor
open Go.RowKit
set_option maxHeartbeats 16000000
set_option maxRecDepth 100000
theorem rDecl_any (s:List TyD) (A:zo) (c:Nat) (hv:zJ s=0) (hn:Num64 s) (df:MemD→ByteArray) (tn:Nat) (htn:tn<s.length) (hkn:zL (s[tn]).kind=true) (hd:∀m∈(s[tn]).mems,RDfOk s A c df m) (w:World) (hs:TysR w A s) (htab:Tab w) :
  Calls Tryz.prog 94 #[.agg #[.slice A s.length c],.int .i64 (tn:Int)] w fun e w'=>e = .returned (tv (declR s df s[tn]))∧Below w.heap.size w w':=by
 have hls:=zZ hv;have HS:=zh hs;have HTB:=zh htab;have HV:=zh hv;have HN:=zh hn;have HB0:=zh (zE w (.cells #[.slice A s.length c] 27) ztext);have hxm:s[tn]∈s:=List.getElem_mem htn;have HMR:=zh (fun (m:MemD) (hm:m∈(s[tn]).mems)=>(mem_rng hv hxm hm).2)
 have HMF:=zh (fun (m:MemD) (hm:m∈(s[tn]).mems)=>mem_fit (df:=df) hv hn hxm hm (hd m hm).1)
 have HSR:=zh (fun (y:SymD) (hy:y∈(s[tn]).syms)=>(show In64 y.id∧y.name.size≤24 from by have:=sym_rng hv hxm hy;exact ⟨by have:=this.1.1;unfold In64;omega,this.1.2⟩))
 have hm16:=mems_le hv hxm;have hs16:(s[tn]).syms.length≤16:=by
  cases h:(s[tn]).syms with
  | nil=>simp
  | cons y r=>have:=(sym_rng hv hxm (y:=y) (by rw[h];simp)).2;rwa [h] at this
 have hnl:(s[tn]).name.size≤24:=by
  have:=name_le hv (t:=(tn:Int)) ⟨by omega,by omega⟩ (by rw[zP htn];exact hkn)
  rwa [zP htn] at this
 have HD:=zh hd;obtain ⟨b,o,As,cs,Am,cm,hA,htr,t0,t1,t2,t3,t4,t5,t6,t7,t8,t9⟩:=hs.at10 htn;clear hs htab hv hn hxm hkn hd;subst hA;have HDR:Hid (declR s df s[tn]=((declM s df s[tn]).1++⟨#[32,125,59,10]⟩,(declM s df s[tn]).2)):=rfl;have HDM:Hid (declM s df s[tn]=memsR s df (symsR (head0 s[tn]) (s[tn]).syms,wordD (s[tn]).name,false) (s[tn]).mems):=rfl;generalize s[tn]=x at *
 generalize declR s df x=DR at *;generalize declM s df x=DM at *;have HTR:=zh htr;have h1:(0:Int)≤(tn:Int):=by omega
 have h2:(tn:Int)<(s.length:Int):=by omega
 clear htr;replace t0:=zA HB0.out t0;replace t1:=zA HB0.out t1;replace t2:=zA HB0.out t2;replace t3:=zA HB0.out t3;replace t4:=zA HB0.out t4;replace t5:=zA HB0.out t5;replace t6:=zA HB0.out t6;replace t7:=zA HB0.out t7;replace t8:=zA HB0.out t8;replace t9:=zA HB0.out t9
 go_enter Tryz.func94,Tryz.ntmps94
 go_upto_region 2 with fail
 clear t0 t1 t2 t3 t4 t5 t6 t7 t8 t9;have HB3:=zh (zB HB0.out (zD ((w.alloc (.cells #[.slice (some ⟨b,o,none⟩) s.length c] 27)).alloc ztext) (x.box As cs Am cm)))
 have X0:Hid ((((w.alloc (.cells #[.slice (some ⟨b,o,none⟩) s.length c] 27)).alloc ztext).alloc (x.box As cs Am cm)).heap[w.heap.size]? = some (.cells #[.slice (some ⟨b,o,none⟩) s.length c] 27)):=zF (zF (heap_alloc_new w _) (zD _ _)) (zD _ _)
 have X1:Hid ((((w.alloc (.cells #[.slice (some ⟨b,o,none⟩) s.length c] 27)).alloc ztext).alloc (x.box As cs Am cm)).heap[w.heap.size+1]? = some (tbox noT)):=by
  have h:=heap_alloc_new (w.alloc (.cells #[.slice (some ⟨b,o,none⟩) s.length c] 27)) ztext;rw[show (w.alloc (.cells #[.slice (some ⟨b,o,none⟩) s.length c] 27)).heap.size=w.heap.size+1 by simp] at h
  exact zF h (zD _ _)
 have X2:Hid ((((w.alloc (.cells #[.slice (some ⟨b,o,none⟩) s.length c] 27)).alloc ztext).alloc (x.box As cs Am cm)).heap[w.heap.size+1+1]? = some (x.box As cs Am cm)):=by
  have h:=heap_alloc_new ((w.alloc (.cells #[.slice (some ⟨b,o,none⟩) s.length c] 27)).alloc ztext) (x.box As cs Am cm);rw[show ((w.alloc (.cells #[.slice (some ⟨b,o,none⟩) s.length c] 27)).alloc ztext).heap.size=w.heap.size+1+1 by simp] at h
  exact h
 have XZ:Hid ((((w.alloc (.cells #[.slice (some ⟨b,o,none⟩) s.length c] 27)).alloc ztext).alloc (x.box As cs Am cm)).heap.size=w.heap.size+1+1+1):=by show _=_;simp
 generalize ((w.alloc (.cells #[.slice (some ⟨b,o,none⟩) s.length c] 27)).alloc ztext).alloc (x.box As cs Am cm)=W3 at *;obtain ⟨b0,b1,b2,b3,b4,b7,b8⟩:=bx_cells X2.out;go_upto_region 3 with (refine (rWord_any x.name _).mono ?_;rintro e w4 ⟨rfl,hb4⟩;have HB4:=zh hb4;clear hb4)
 have HD0:Hid (DcS w x As cs Am cm b o s.length c w4.heap.size (⟨#[114,101,99,111,114,100,32]⟩,wordD x.name,false) (w4.alloc (tbox (⟨#[114,101,99,111,114,100,32]⟩,wordD x.name,false)))) :=
  ⟨zB (zB HB3.out HB4.out) (zD _ _),zF (zF X0.out HB4.out) (zD _ _),zF (zF X1.out HB4.out) (zD _ _),zF (zF X2.out HB4.out) (zD _ _),heap_alloc_new _ _,by have:=HB4.out.size;have:=XZ.out;omega⟩
 generalize w4.alloc (tbox (⟨#[114,101,99,111,114,100,32]⟩,wordD x.name,false))=W4 at *;generalize w4.heap.size=g at *;clear b0 b1 b2 b3 b4 b7 b8 X0 X1 X2 XZ HB4 HB3;have HHD:Hid (head0 x=(if x.open_ then kindR x.kind++x.name++⟨#[32,111,112,101,110]⟩ else kindR x.kind++x.name)++⟨#[32,123]⟩):=rfl
 have HKR:Hid ((if x.kind=6 then (⟨#[117,110,105,111,110,32]⟩:ByteArray) else if x.kind=4 then ⟨#[101,110,117,109,32]⟩ else ⟨#[114,101,99,111,114,100,32]⟩)=kindR x.kind):=rfl
 have hkr:(kindR x.kind).size≤7:=by unfold kindR;(repeat' split) <;> decide
 obtain ⟨b0,b1,b2,b3,b4,b7,b8⟩:=bx_cells HD0.out.typ;obtain ⟨b5,b6,b9⟩:=bx_cells2 HD0.out.typ;obtain ⟨⟨z0,z1,z2⟩,zf⟩:=HD0.out.tc;obtain ⟨K1,hK⟩:∃KK,(if x.kind=4 then (⟨#[101,110,117,109,32]⟩:ByteArray) else ⟨#[114,101,99,111,114,100,32]⟩)=KK:=⟨_,rfl⟩
 have HK1:=zh hK;clear hK
 go_upto_if 25 with fail
 go_cut [] (fun wx=>Hid (DcS w x As cs Am cm b o s.length c g (K1,wordD x.name,false) wx))
 case first =>
  by_cases hk:x.kind=4
  ·have q:(x.kind==4)=true:=by simp[hk]
   have HT:=zh ((if_pos hk).symm.trans HK1.out);clear hk;go_wp2;go_meet;rw[←HT.out];exact HD0.out.set _
  ·have q:(x.kind==4)=false:=by simp[hk]
   have HT:=zh ((if_neg hk).symm.trans HK1.out);clear hk;go_wp2;go_meet;rw[←HT.out];exact HD0.out
 case rest =>
 obtain ⟨W5,rfl⟩:∃W:World,W=wc:=⟨_,rfl⟩;have HD1:=zh hcut.out;clear hcut;clear b0 b1 b2 b3 b4 b7 b8 b5 b6 b9 z0 z1 z2 zf;obtain ⟨b0,b1,b2,b3,b4,b7,b8⟩:=bx_cells HD1.out.typ;obtain ⟨b5,b6,b9⟩:=bx_cells2 HD1.out.typ;obtain ⟨⟨z0,z1,z2⟩,zf⟩:=HD1.out.tc;obtain ⟨K2,hK⟩:∃KK,(if x.kind=6 then (⟨#[117,110,105,111,110,32]⟩:ByteArray) else K1)=KK:=⟨_,rfl⟩
 have HK2:=zh hK;clear hK
 go_upto_if 29 with fail
 go_cut [] (fun wx=>Hid (DcS w x As cs Am cm b o s.length c g (K2,wordD x.name,false) wx))
 case first =>
  by_cases hk:x.kind=6
  ·have q:(x.kind==6)=true:=by simp[hk]
   have HT:=zh ((if_pos hk).symm.trans HK2.out);clear hk;go_wp2;go_meet;rw[←HT.out];exact HD1.out.set _
  ·have q:(x.kind==6)=false:=by simp[hk]
   have HT:=zh ((if_neg hk).symm.trans HK2.out);clear hk;go_wp2;go_meet;rw[←HT.out];exact HD1.out
 case rest =>
 obtain ⟨W6,rfl⟩:∃W:World,W=wc:=⟨_,rfl⟩;have HD2:=zh hcut.out;clear hcut;clear b0 b1 b2 b3 b4 b7 b8 b5 b6 b9 z0 z1 z2 zf;obtain ⟨b0,b1,b2,b3,b4,b7,b8⟩:=bx_cells HD2.out.typ;obtain ⟨b5,b6,b9⟩:=bx_cells2 HD2.out.typ;obtain ⟨⟨z0,z1,z2⟩,zf⟩:=HD2.out.tc;obtain rfl:K2=kindR x.kind:=by rw[←HK2.out,←HK1.out];rfl
 have m0:¬ 9223372036854775807<((kindR x.kind):ByteArray).size+(x.name:ByteArray).size:=by have:=And.intro hkr hnl;show ¬ _<_+_;omega
 have m1:¬ 9223372036854775807<(kindR x.kind).size+x.name.size:=by have:=And.intro hkr hnl;omega
 have m2:¬ 9223372036854775807<((kindR x.kind)++x.name:ByteArray).size+(⟨#[32,111,112,101,110]⟩:ByteArray).size:=by have:=And.intro hkr hnl;simp only[zG];show ¬ _<_+_+5;omega
 have m3:¬ 9223372036854775807<(kindR x.kind).size+x.name.size+5:=by have:=And.intro hkr hnl;omega
 have m4:¬ 9223372036854775807<((kindR x.kind)++x.name++⟨#[32,111,112,101,110]⟩:ByteArray).size+(⟨#[32,123]⟩:ByteArray).size:=by have:=And.intro hkr hnl;simp only[zG];show ¬ _<_+_+5+2;omega
 have m5:¬ 9223372036854775807<(kindR x.kind).size+x.name.size+5+2:=by have:=And.intro hkr hnl;omega
 have m6:¬ 9223372036854775807<(kindR x.kind).size+x.name.size+2:=by omega
 have m7:¬ 9223372036854775807<(kindR x.kind++x.name:ByteArray).size+(⟨#[32,123]⟩:ByteArray).size:=by rw[zG];show ¬ _<_+_+2;omega
 generalize kindR x.kind=K at *;go_upto_region 8 with fail
 have HD3:=zh (HD2.out.set (K++x.name));generalize W6.setCell ⟨g,0,none⟩ (.string (K++x.name))=W7 at *;clear b0 b1 b2 b3 b4 b7 b8 b5 b6 b9 z0 z1 z2 zf;obtain ⟨b0,b1,b2,b3,b4,b7,b8⟩:=bx_cells HD3.out.typ;obtain ⟨b5,b6,b9⟩:=bx_cells2 HD3.out.typ;obtain ⟨⟨z0,z1,z2⟩,zf⟩:=HD3.out.tc;obtain ⟨K4,hK⟩:∃KK,(if x.open_=true then K++x.name++⟨#[32,111,112,101,110]⟩ else K++x.name)=KK:=⟨_,rfl⟩
 have HK4:=zh hK;clear hK
 go_upto_if 38 with fail
 go_cut [] (fun wx=>Hid (DcS w x As cs Am cm b o s.length c g (K4,wordD x.name,false) wx))
 case first =>
  by_cases hk:x.open_=true
  ·have q:x.open_=true:=by simp[hk]
   rw[q];have HT:=zh ((if_pos hk).symm.trans HK4.out);clear hk;go_wp2;go_meet;rw[←HT.out];exact HD3.out.set _
  ·have q:x.open_=false:=by simp[hk]
   rw[q];have HT:=zh ((if_neg hk).symm.trans HK4.out);clear hk;go_wp2;go_meet;rw[←HT.out];exact HD3.out
 case rest =>
 obtain ⟨W8,rfl⟩:∃W:World,W=wc:=⟨_,rfl⟩;have HD4:=zh hcut.out;clear hcut;clear b0 b1 b2 b3 b4 b7 b8 b5 b6 b9 z0 z1 z2 zf;obtain ⟨b0,b1,b2,b3,b4,b7,b8⟩:=bx_cells HD4.out.typ;obtain ⟨b5,b6,b9⟩:=bx_cells2 HD4.out.typ;obtain ⟨⟨z0,z1,z2⟩,zf⟩:=HD4.out.tc;have hk4:K4.size≤36:=by
  rw[←HK4.out]
  split
  ·rw[zG,zG];show _+_+5≤_;omega
  ·rw[zG];omega
 rw[HK4.out] at HHD;clear HK4 m0 m1 m2 m3 m4 m5 m6 m7 HD3 HD2 HD1 HD0;have m0:¬ 9223372036854775807<K4.size+(⟨#[32,123]⟩:ByteArray).size:=by show ¬ _<_+2;omega
 have m1:¬ 9223372036854775807<K4.size+2:=m0;go_upto_region 11 with fail
 have HD5:=zh (HD4.out.set (K4++⟨#[32,123]⟩));have hh0:(head0 x).size≤38:=head0_le hnl;generalize W8.setCell ⟨g,0,none⟩ (.string (K4++⟨#[32,123]⟩))=W9 at *;rw[←HHD.out] at HD5;clear m0 m1 hk4 HKR HHD HD4;clear b0 b1 b2 b3 b4 b7 b8 b5 b6 b9 z0 z1 z2 zf;have b5:=(bx_cells2 HD5.out.typ).1;have HZ0:Hid (symsR (head0 x) (x.syms.take 0)=head0 x):=rfl
 have HSL:Hid (∀k,(symsR (head0 x) (x.syms.take k)).size≤1000):=fun k=>by
  have:=symsR_le (x.syms.take k) (head0 x) fun y hy=>HSR.out y (List.mem_of_mem_take hy)
  have:(x.syms.take k).length≤16:=by rw[List.length_take];omega
  omega
 clear hh0;go_wp2_with fail
 go_loopw [7] (fun i wr=>∃k:Nat,k≤x.syms.length∧i = .int .i64 (k:Int)∧Hid (DcS w x As cs Am cm b o s.length c g (symsR (head0 x) (x.syms.take k),wordD x.name,false) wr)) (fun i _=>x.syms.length - (intOf i).toNat)
 case atStart=>exact ⟨0,by omega,rfl,by rw[HZ0.out];exact HD5.out⟩
 case round =>
  obtain ⟨k,hk,rfl,hh⟩:=hrel;obtain ⟨wk,rfl⟩:∃wk:World,wk=wr:=⟨_,rfl⟩;have HDK:=zh hh.out;clear hh b5;have b5:=(bx_cells2 HDK.out.typ).1
  by_cases hlt:k<x.syms.length
  ·obtain ⟨sb,so,hAs,_,a0,a1⟩:=(HTR.out.below HDK.out.bel).syms.at2 hlt
   subst hAs;have HY:=zh (HSR.out _ (List.getElem_mem hlt));have HNX:Hid (symsR (head0 x) (x.syms.take (k+1))=symsR (head0 x) (x.syms.take k)++⟨#[32]⟩++decB (x.syms[k]).id++⟨#[32]⟩++(x.syms[k]).name++⟨#[59]⟩):=by
    show _=_
    rw[List.take_add_one,zl hlt];exact symsR_snoc _ _ _
   have hT:=HSL.out k;generalize symsR (head0 x) (x.syms.take k)=T at *;generalize x.syms[k]=y at *;have hyn:=HY.out.2;obtain ⟨D,hD⟩:∃D,decB y.id=D:=⟨_,rfl⟩;have HDE:=zh hD;have hdl:D.size≤21:=by rw[←hD];exact yE HY.out.1
   rw[hD] at HNX;have h3:(0:Int)≤(k:Int):=by omega
   have h4:(k:Int)<(x.syms.length:Int):=by omega
   have m0:¬ 9223372036854775807<(T:ByteArray).size+(⟨#[32]⟩:ByteArray).size:=by have:=And.intro hT (And.intro hdl hyn);show ¬ _<_+1;omega
   have m1:¬ 9223372036854775807<T.size+1:=by have:=And.intro hT (And.intro hdl hyn);omega
   have m2:¬ 9223372036854775807<(T++⟨#[32]⟩:ByteArray).size+(D:ByteArray).size:=by have:=And.intro hT (And.intro hdl hyn);simp only[zG];show ¬ _<_+1+_;omega
   have m3:¬ 9223372036854775807<T.size+1+D.size:=by have:=And.intro hT (And.intro hdl hyn);omega
   have m4:¬ 9223372036854775807<(T++⟨#[32]⟩++D:ByteArray).size+(⟨#[32]⟩:ByteArray).size:=by have:=And.intro hT (And.intro hdl hyn);simp only[zG];show ¬ _<_+1+_+1;omega
   have m5:¬ 9223372036854775807<T.size+1+D.size+1:=by have:=And.intro hT (And.intro hdl hyn);omega
   have m6:¬ 9223372036854775807<(T++⟨#[32]⟩++D++⟨#[32]⟩:ByteArray).size+(y.name:ByteArray).size:=by have:=And.intro hT (And.intro hdl hyn);simp only[zG];show ¬ _<_+1+_+1+_;omega
   have m7:¬ 9223372036854775807<T.size+1+D.size+1+y.name.size:=by have:=And.intro hT (And.intro hdl hyn);omega
   have m8:¬ 9223372036854775807<(T++⟨#[32]⟩++D++⟨#[32]⟩++y.name:ByteArray).size+(⟨#[59]⟩:ByteArray).size:=by have:=And.intro hT (And.intro hdl hyn);simp only[zG];show ¬ _<_+1+_+1+_+1;omega
   have m9:¬ 9223372036854775807<T.size+1+D.size+1+y.name.size+1:=by have:=And.intro hT (And.intro hdl hyn);omega
   have HCC:Hid (∀w',Below wk.heap.size wk w'→((w'.cell? ⟨g,0,none⟩=some (.string T)∧w'.frozen? ⟨g,0,none⟩=false)∧w'.cell? ⟨w.heap.size+1+1,5,none⟩=some (.slice (some ⟨sb,so,none⟩) x.syms.length cs)∧w'.cell? ⟨sb,so+k * 2,none⟩=some (.int .i64 y.id)∧w'.cell? ⟨sb,so+k * 2+1,none⟩=some (.string y.name))∧Hid (Below wk.heap.size wk w')):=fun w' hb=>⟨⟨⟨(HDK.out.below hb).tc.1.1,(HDK.out.below hb).tc.2⟩,(bx_cells2 (HDK.out.below hb).typ).1,zA hb a0,zA hb a1⟩,hb⟩
   clear a0 a1 hD;go_upto_region 14 with fail
   clear b5;refine yK (S:=(fun w'=>((w'.cell? ⟨g,0,none⟩=some (.string T)∧w'.frozen? ⟨g,0,none⟩=false)∧w'.cell? ⟨w.heap.size+1+1,5,none⟩=some (.slice (some ⟨sb,so,none⟩) x.syms.length cs)∧w'.cell? ⟨sb,so+k * 2,none⟩=some (.int .i64 y.id)∧w'.cell? ⟨sb,so+k * 2+1,none⟩=some (.string y.name))∧Hid (Below wk.heap.size wk w'))) 21 (by kernel_rfl) ?_ (fun zH_=>?_)
   ·(try dsimp only);exact HCC.out _ (zC (Below.refl _ _) 1)
   refine tC 0 ?_;refine tB 1 ?_;refine tC 2 ?_;refine tC 3 ?_;refine tB 4 ?_;refine tC 5 ?_;try simp only[ps]
   refine tC 6 ?_;refine tC 7 ?_;refine tB 8 ?_;refine tC 12 ?_;refine tB 13 ?_;refine tC 14 ?_;try simp only[ps]
   refine tC 15 ?_;refine tC 16 ?_;refine tB 17 ?_;refine tS 9 (fun K hK=>?_)
   go_simp
   (refine (digits_any y.id HY.out.1 _).mono ?_;rintro e w5 ⟨rfl,rfl⟩;rw[HDE.out])
   refine hK.out _ _ ?_ (fun zH_=>?_)
   ·(try dsimp only);exact zH_
   clear hK K;refine tC 10 ?_;refine tC 11 ?_;try simp only[ps]
   refine tC 18 ?_;refine tC 19 ?_;refine tC 20 ?_;refine yQ (rs:=[21]) (by kernel_rfl) (by simp) ?_
   refine AllReadyB.last rfl (by kernel_rfl) (fun K hK=>?_) AllReadyB.nil
   (obtain ⟨⟨⟨hc2,hf2⟩,_⟩,hb5⟩:=zH_;have HB5:=zh hb5.out;go_simp)
   refine hK.out _ _ ?_;clear hK K
   (try clear zH_)
   refine wpAny_done (by kernel_rfl) ?_ _
   have HD6:Hid (DcS w x (some ⟨sb,so,none⟩) cs Am cm b o s.length c g (T++⟨#[32]⟩++D++⟨#[32]⟩++y.name++⟨#[59]⟩,wordD x.name,false) (wk.setCell ⟨g,0,none⟩ (.string (T++⟨#[32]⟩++D++⟨#[32]⟩++y.name++⟨#[59]⟩))).drew):=(HDK.out.set _).below (zC (Below.refl _ _) 1);go_wp2;go_roundw
   case rel=>exact ⟨k+1,by omega,by go_num,by rw[HNX.out];exact HD6.out⟩
   case measure=>simp[intOf];omega
  ·obtain rfl:k=x.syms.length:=by omega
   rw[List.take_length] at HDK;have HMZ:Hid ((symsR (head0 x) x.syms).size≤1000):=by have h:=HSL.out x.syms.length;rw[List.take_length] at h;exact h
   generalize symsR (head0 x) x.syms=T1 at *;have HZ0:Hid (memsR s df (T1,wordD x.name,false) (x.mems.take 0)=(T1,wordD x.name,false)):=rfl;have HML:Hid (∀k,k≤x.mems.length→(memsR s df (T1,wordD x.name,false) (x.mems.take k)).1.size≤1000+16 * 1073800000):=fun k hk=>by
    have h:=memsR_le (s:=s) (df:=df) (x.mems.take k) (T1,wordD x.name,false) fun m hm=>HMF.out m (List.mem_of_mem_take hm)
    have hl:(x.mems.take k).length≤16:=by rw[List.length_take];omega
    have:=HMZ.out;simp only at h
    omega
   have HNXM:Hid (∀k (h:k<x.mems.length),memsR s df (T1,wordD x.name,false) (x.mems.take (k+1))=joinD ⟨#[]⟩ (memsR s df (T1,wordD x.name,false) (x.mems.take k)) (mHead x.mems[k]) (useD s (s.length+1) [] (x.mems[k]).type) (mTail df x.mems[k])):=fun k h=>by
    rw[List.take_add_one,zl h];exact memsR_snoc _ _ _
   have b6:=(bx_cells2 HDK.out.typ).2.1;go_wp2_with fail
   go_loopw [8] (fun i wr=>∃k:Nat,k≤x.mems.length∧i = .int .i64 (k:Int)∧Hid (DcS w x As cs Am cm b o s.length c g (memsR s df (T1,wordD x.name,false) (x.mems.take k)) wr)) (fun i _=>x.mems.length - (intOf i).toNat)
   case atStart=>exact ⟨0,by omega,rfl,by rw[HZ0.out];exact HDK.out⟩
   case round =>
    obtain ⟨k,hk,rfl,hh⟩:=hrel;obtain ⟨wj,rfl⟩:∃wj:World,wj=wr:=⟨_,rfl⟩;have HDJ:=zh hh.out;have hml:=HML.out k hk;clear hh b6;have b6:=(bx_cells2 HDJ.out.typ).2.1
    by_cases hlt:k<x.mems.length
    ·obtain ⟨mb,mo,M1,m1,M2,m2,M3,m3,hM,hmr,d0,d1,d2,d3,d4,d5,d6,d7,d8,d9,d10,d11,d12⟩:=(HTR.out.below HDJ.out.bel).mems.at13 hlt
     have HXM:=zh hmr;have HMI:=zh (List.getElem_mem hlt);have HNX:=zh (HNXM.out k hlt);have HMB:Hid (MBox (wj.alloc ((x.mems[k]).box M1 m1 M2 m2 M3 m3)) wj.heap.size x.mems[k] M1 m1 M2 m2 M3 m3):=heap_alloc_new wj _;have HBM:=zh (zD wj ((x.mems[k]).box M1 m1 M2 m2 M3 m3))
     have HMH:Hid (mHead x.mems[k]=(if (x.mems[k]).critical then ⟨#[32]⟩++decB (x.mems[k]).id++⟨#[33]⟩ else ⟨#[32]⟩++decB (x.mems[k]).id)++⟨#[32]⟩++(x.mems[k]).name++⟨#[58,32]⟩):=rfl
     have HMT:Hid (mTail df x.mems[k]=if (x.mems[k]).hasDef then ⟨#[32,61,32]⟩++df x.mems[k]++⟨#[59]⟩ else ⟨#[59]⟩):=rfl
     clear hmr;rw[hM] at b6;generalize memsR s df (T1,wordD x.name,false) (x.mems.take k)=Z at *;obtain ⟨T,wd,cy⟩:=Z;simp only at hml;generalize x.mems[k]=m at *;have HF:=zh (HMF.out m HMI.out);have HRD:=zh (HD.out m HMI.out);have HMRR:=zh (HMR.out m HMI.out);have h3:(0:Int)≤(k:Int):=by omega
     have h4:(k:Int)<(x.mems.length:Int):=by omega
     go_upto_region 19 with fail
     clear b6 d0 d1 d2 d3 d4 d5 d6 d7 d8 d9 d10 d11 d12;have HDM:=zh (HDJ.out.below HBM.out);have HXM2:=zh (HXM.out.below HBM.out);generalize wj.alloc (m.box M1 m1 M2 m2 M3 m3)=W10 at *;generalize hq:wj.heap.size=q at *;clear hq;obtain ⟨c0,c1,c2,c3,c4,c5,c6,c7,c8,c9,c10,c11,c12⟩:=mbox_cells HMB.out;obtain ⟨D,hD⟩:∃D,decB m.id=D:=⟨_,rfl⟩;have HDE:=zh hD;have hdl:D.size≤21:=by rw[←hD];exact yE HF.out.id
     have hnm:=HF.out.name;rw[hD] at HMH;clear hD;have k0:¬ 9223372036854775807<(⟨#[32]⟩:ByteArray).size+(D:ByteArray).size:=by have:=hdl;show ¬ _<1+_;omega
     have k1:¬ 9223372036854775807<1+D.size:=by have:=hdl;omega
     have k2:¬ 9223372036854775807<(⟨#[32]⟩++D:ByteArray).size+(⟨#[33]⟩:ByteArray).size:=by have:=hdl;simp only[zG];show ¬ _<1+_+1;omega
     have k3:¬ 9223372036854775807<1+D.size+1:=by have:=hdl;omega
     go_wp2_with fail
     refine (digits_any m.id HF.out.id _).mono ?_;rintro e w11 ⟨rfl,rfl⟩;rw[HDE.out];obtain ⟨H0,hH0⟩:∃H0,(if m.critical then ⟨#[32]⟩++D++⟨#[33]⟩ else ⟨#[32]⟩++D)=H0:=⟨_,rfl⟩
     have HH0:=zh hH0;have hh0:H0.size≤23:=by
      rw[←hH0]
      split
      ·rw[zG,zG];show 1+_+1≤_;omega
      ·rw[zG];show 1+_≤_;omega
     rw[hH0] at HMH;clear hH0
     go_upto_if 92 with fail
     go_cut [10] (fun s10 wx=>s10 = .string H0∧wx=W10)
     case first =>
      cases hc:m.critical with
      | true =>
       have HT:Hid (⟨#[32]⟩++D++⟨#[33]⟩=H0):=by show _=_;rw[←HH0.out,hc];rfl
       rw[hc] at c3;try rw[hc]
       clear hc;go_wp2;go_meet;exact ⟨by rw[HT.out],rfl⟩
      | false =>
       have HT:Hid (⟨#[32]⟩++D=H0):=by show _=_;rw[←HH0.out,hc];rfl
       rw[hc] at c3;try rw[hc]
       clear hc;go_wp2;go_meet;exact ⟨by rw[HT.out],rfl⟩
     case rest =>
     obtain ⟨rfl,hwx⟩:=hcut;have hwx:=hwx.symm;subst hwx;clear HH0 k0 k1 k2 k3;obtain ⟨Tl,hTl⟩:∃Tl,mTail df m=Tl:=⟨_,rfl⟩;have htl:Tl.size≤1073741828:=by rw[←hTl];exact mTail_le HF.out.df
     rw[hTl] at HMT HNX;clear hTl;obtain ⟨V,hV⟩:∃V,df m=V:=⟨_,rfl⟩;have hvl:V.size≤1073741824:=by rw[←hV];exact HF.out.df
     have HFS:Hid (m.hasDef=true→RFmtSaid s (some ⟨b,o,none⟩) c m V):=by show _→_;rw[←hV];exact HRD.out.2
     rw[hV] at HMT;clear hV;have v0:¬ 9223372036854775807<(⟨#[32,61,32]⟩:ByteArray).size+(V:ByteArray).size:=by have:=hvl;show ¬ _<3+_;omega
     have v1:¬ 9223372036854775807<3+V.size:=by have:=hvl;omega
     have v2:¬ 9223372036854775807<(⟨#[32,61,32]⟩++V:ByteArray).size+(⟨#[59]⟩:ByteArray).size:=by have:=hvl;simp only[zG];show ¬ _<3+_+1;omega
     have v3:¬ 9223372036854775807<3+V.size+1:=by have:=hvl;omega
     go_upto_if 96 with fail
     go_cut [11,12,13] (fun s11 s12 s13 wx=>s11 = .string Tl∧Hid (DcS w x As cs Am cm b o s.length c g (T,wd,cy) wx∧MBox wx q m M1 m1 M2 m2 M3 m3∧Below W10.heap.size W10 wx))
     case first =>
      cases hc:m.hasDef with
      | true =>
       have HT:Hid (⟨#[32,61,32]⟩++V++⟨#[59]⟩=Tl):=by show _=_;rw[HMT.out,hc];rfl
       have HFC:=zh (HFS.out hc);have x0:=HDM.out.sc;rw[hc] at c4;try rw[hc]
       clear hc;go_wp2_with fail;refine (HFC.out _ M1 m1 M2 m2 M3 m3 (HS.out.below HDM.out.bel) HXM2.out (HTB.out.below HDM.out.bel)).mono ?_;rintro e w12 ⟨er,rfl,hb12⟩;have HB12:=zh hb12;clear hb12;go_wp2;go_meet;exact ⟨by rw[HT.out],HDM.out.below HB12.out,MBox.below HMB.out HB12.out,HB12.out⟩
      | false =>
       have HT:Hid (⟨#[59]⟩=Tl):=by show _=_;rw[HMT.out,hc];rfl
       rw[hc] at c4;try rw[hc]
       clear hc;go_wp2;go_meet;exact ⟨by rw[HT.out],HDM.out,HMB.out,Below.refl _ _⟩
     case rest =>
     obtain ⟨rfl,hcut⟩:=hcut;obtain ⟨W12,rfl⟩:∃W:World,W=wc:=⟨_,rfl⟩;have HDN:=zh hcut.out.1;have HMN:=zh hcut.out.2.1;clear hcut v0 v1 v2 v3 c0 c1 c2 c3 c4 c5 c6 c7 c8 c9 c10 c11 c12 hvl HFS;obtain ⟨U,hU⟩:∃U,useD s (s.length+1) [] m.type=U:=⟨_,rfl⟩;have HUE:=zh hU;have hul:U.1.size≤3300:=by rw[←hU];exact HF.out.use
     rw[hU] at HNX;clear hU;obtain ⟨Hd,hHd⟩:∃Hd,mHead m=Hd:=⟨_,rfl⟩;have hhl:Hd.size≤50:=by rw[←hHd];exact mHead_le HF.out.id HF.out.name
     rw[hHd] at HMH HNX;clear hHd;have v0:¬ 9223372036854775807<(H0:ByteArray).size+(⟨#[32]⟩:ByteArray).size:=by have:=And.intro hh0 hnm;show ¬ _<_+1;omega
     have v1:¬ 9223372036854775807<H0.size+1:=by have:=And.intro hh0 hnm;omega
     have v2:¬ 9223372036854775807<(H0++⟨#[32]⟩:ByteArray).size+(m.name:ByteArray).size:=by have:=And.intro hh0 hnm;simp only[zG];show ¬ _<_+1+_;omega
     have v3:¬ 9223372036854775807<H0.size+1+m.name.size:=by have:=And.intro hh0 hnm;omega
     have v4:¬ 9223372036854775807<(H0++⟨#[32]⟩++m.name:ByteArray).size+(⟨#[58,32]⟩:ByteArray).size:=by have:=And.intro hh0 hnm;simp only[zG];show ¬ _<_+1+_+2;omega
     have v5:¬ 9223372036854775807<H0.size+1+m.name.size+2:=by have:=And.intro hh0 hnm;omega
     have HJ:Hid ((⟨#[]⟩:ByteArray).size+(T,wd,cy).1.size+Hd.size+U.1.size+Tl.size≤100000000000000):=by show 0+T.size+_+_+_≤_;omega
     have HCC:Hid (∀w',Below W12.heap.size W12 w'→(w'.cell? ⟨w.heap.size,0,none⟩=some (.slice (some ⟨b,o,none⟩) s.length c)∧(w'.cell? ⟨g,0,none⟩=some (.string T)∧w'.cell? ⟨g,1,none⟩=some (.bool wd)∧w'.cell? ⟨g,2,none⟩=some (.bool cy))∧w'.cell? ⟨q,1,none⟩=some (.string m.name)∧w'.cell? ⟨q,2,none⟩=some (.int .i64 m.type))∧Hid (Below W12.heap.size W12 w')):=fun w' hb=>by
      have h:=HDN.out.below hb;obtain ⟨_,c1,c2,_⟩:=mbox_cells (MBox.below HMN.out hb);exact ⟨⟨h.sc,h.tc.1,c1,c2⟩,hb⟩
     go_upto_region 26 with fail
     refine yK (S:=(fun w'=>(w'.cell? ⟨w.heap.size,0,none⟩=some (.slice (some ⟨b,o,none⟩) s.length c)∧(w'.cell? ⟨g,0,none⟩=some (.string T)∧w'.cell? ⟨g,1,none⟩=some (.bool wd)∧w'.cell? ⟨g,2,none⟩=some (.bool cy))∧w'.cell? ⟨q,1,none⟩=some (.string m.name)∧w'.cell? ⟨q,2,none⟩=some (.int .i64 m.type))∧Hid (Below W12.heap.size W12 w'))) 13 (by kernel_rfl) ?_ (fun zH_=>?_)
     ·(try dsimp only);exact HCC.out _ (zC (Below.refl _ _) 1)
     refine tB 0 ?_;refine tC 1 ?_;try simp only[ps]
     refine tC 2 ?_;refine tC 3 ?_;refine tB 4 ?_;refine tC 5 ?_;refine tC 6 ?_;refine tB 7 ?_;try simp only[ps]
     refine tC 8 ?_;refine tB 9 ?_;refine tC 11 ?_;refine tS 10 (fun K hK=>?_)
     go_simp
     (refine (use_any s (some ⟨b,o,none⟩) c HV.out HN.out (s.length+1) [] m.type none 0 _ HMRR.out ⟨(fun _ h=>by cases h),List.nodup_nil⟩ (Nat.zero_add _) (HS.out.below (zB HDN.out.bel zH_.2.out)) (ints_nil _)).mono ?_;rintro e w13 ⟨rfl,hb13⟩;rw[HUE.out];have HB13:=zh (zB zH_.2.out hb13);clear hb13)
     refine hK.out _ _ ?_ (fun zH_=>?_)
     ·(try dsimp only);exact HCC.out _ HB13.out
     clear hK K;refine tS 12 (fun K hK=>?_)
     go_simp
     (rw[←HMH.out];refine (joined_any ⟨#[]⟩ Hd Tl (T,wd,cy) U _ HJ.out).mono ?_;rintro e w14 ⟨rfl,hb14⟩;have HB14:=zh (zB zH_.2.out hb14);clear hb14)
     refine hK.out _ _ ?_ (fun zH_=>?_)
     ·(try dsimp only);exact HCC.out _ HB14.out
     clear hK K;refine yQ (rs:=[13]) (by kernel_rfl) (by simp) ?_
     refine AllReadyB.last rfl (by kernel_rfl) (fun K hK=>?_) AllReadyB.nil
     (simp only[List.getElem_toArray,List.getElem_cons_zero,List.getElem_cons_succ];rw[if_pos (by rfl)];refine wp_store_mid 74 (.tmp 6) (.tmp 121) rfl (g) (0) (#[.string (joinD ⟨#[]⟩ (T,wd,cy) Hd U Tl).1,.bool (joinD ⟨#[]⟩ (T,wd,cy) Hd U Tl).2.1,.bool (joinD ⟨#[]⟩ (T,wd,cy) Hd U Tl).2.2]) (by rfl) (by rfl) ?_ ?_ ?_ ?_;(exact yM (HDN.out.below HB14.out).txt);(exact txt_info);(exact txt_one (joinD ⟨#[]⟩ (T,wd,cy) Hd U Tl)))
     refine hK.out _ _ ?_;clear hK K
     (try clear zH_)
     try simp only[ps]
     refine wpAny_done (by kernel_rfl) ?_ _
     have HDO:=zh ((HDN.out.below HB14.out).setA (joinD ⟨#[]⟩ (T,wd,cy) Hd U Tl));go_wp2;go_roundw
     case rel=>exact ⟨k+1,by omega,by go_num,by rw[HNX.out];exact HDO.out⟩
     case measure=>simp[intOf];omega
    ·obtain rfl:k=x.mems.length:=by omega
     rw[List.take_length] at HDJ hml;rw[←HDM.out] at HDJ hml;have HDQ:Hid (DR=(DM.1++⟨#[32,125,59,10]⟩,DM.2)):=HDR.out;obtain ⟨T,wd,cy⟩:=DM;simp only at hml HDQ;have m0:¬ 9223372036854775807<T.size+(⟨#[32,125,59,10]⟩:ByteArray).size:=by show ¬ _<_+4;omega
     have m1:¬ 9223372036854775807<T.size+4:=m0;obtain ⟨⟨z0,z1,z2⟩,zf⟩:=HDJ.out.tc;simp only at z0 z1 z2;go_upto_region 28 with fail
     have HDP:=zh (HDJ.out.set (T++⟨#[32,125,59,10]⟩));generalize wj.setCell ⟨g,0,none⟩ (.string (T++⟨#[32,125,59,10]⟩))=W20 at *;clear m0 m1 b6 z0 z1 z2 zf;generalize T++⟨#[32,125,59,10]⟩=T2 at *;obtain ⟨⟨z0,z1,z2⟩,_⟩:=HDP.out.tc;simp only at z0 z1 z2
     go_wp2_with (refine wpList_store_mid rfl 74 (.tmp 4) (.tmp 126) rfl (w.heap.size+1) 0 #[.string T2,.bool wd,.bool cy] (by rfl) (by rfl) ?_ ?_ ?_ ?_;(exact yM HDP.out.res);(exact txt_info);(exact txt_one (T2,wd,cy)))
     obtain ⟨⟨r0,r1,r2⟩,hbe⟩:=txt_end HDP.out.bel (Nat.le_succ _) HDP.out.res (T2,wd,cy);simp only at r0 r1 r2 hbe;go_wp2;refine bodyPost_ret (v:=tv (T2,wd,cy)) (by simp[results,Tryz.results94,go_sem,r0,r1,r2]) rfl ⟨by rw[HDQ.out],hbe⟩
end Go.Proofs.YtdfolgmcggdjdaaGreatDoor


