/-
  Walks: the law LiteralRestored.
-/
import Derived.Test.YthkkllmmbefedaaGreatDoorQMKN
import Derived.Test.YthkkllmmbefedaaGreatDoorQGA5
import Derived.Test.YthkkllmmbefedaaGreatDoorQGB0
import Derived.Test.YthkkllmmbefedaaGreatDoorQAK2
import Derived.Test.YthkkllmmbefedaaGreatDoorQGD0
import Derived.Test.YthkkllmmbefedaaGreatDoorQNRM
import Derived.Test.YthkkllmmbefedaaGreatDoorQGU0
namespace Go.Proofs.YthkkllmmbefedaaGreatDoor
open Go.RowKit
set_option maxHeartbeats 16000000
set_option maxRecDepth 100000
theorem nk (w:World) (o o2 o3:Obj):(((w.alloc o).alloc o2).alloc o3).heap[w.heap.size]? = some o/\(((w.alloc o).alloc o2).alloc o3).heap[w.heap.size+1]? = some o2/\(((w.alloc o).alloc o2).alloc o3).heap[w.heap.size+1+1]? = some o3/\Below w.heap.size w (((w.alloc o).alloc o2).alloc o3):=by
 have h1:=AAL w o;have h2:=AAL (w.alloc o) o2;have h3:=AAL ((w.alloc o).alloc o2) o3;rw[show (w.alloc o).heap.size=w.heap.size+1 by simp] at h2
 rw[show ((w.alloc o).alloc o2).heap.size=w.heap.size+1+1 by simp] at h3
 exact ⟨Aw (Aw h1 (zD _ _)) (zD _ _),Aw h2 (zD _ _),h3,zB (zI _ _ _) (zD _ _)⟩
theorem PE {s:List Aa} (ho:MO s) {t:Int} (ht:0<=t/\t<(s.length:Int)) {v:Val} (hf:BM s t v=true) (hk:0<=NV v 3000):Bc s false t v=true/\(KQ s t v).size<=36000/\KQ s t v=Lp s t v/\BL false s t (KQ s t v)=(v,0):=by
 have h:=o7 ho.v ho.n64;have hf':=fM hf;have h1:=bW h.nam (fun t=>(h.ty t).ids) h.kind _ t v hf'
 unfold U2 at h1;have h2:=dU hk;have e:KQ s t v=Lp s t v:=by unfold KQ;rw[AAH hf']
 have hz:(Lp s t v).size<=36000:=by show (Ae s (SizeOf.sizeOf v) t v).size<=_;omega
 rw[e];exact ⟨hf',hz,rfl,Rl h ht hf' (by omega)⟩
theorem bU {w:World} {q:Nat} {x y:Val} {a1:zo} {je:Nat} {a2:zo} {jd:Nat} {a3:zo} {jc:Nat} {b1:zo} {bc1:Nat} {b2:zo} {bc2:Nat} {b3:zo} {bc3:Nat} (h:w.rangeAt q 0 (x.cs a1 je a2 jd a3 jc++y.cs b1 bc1 b2 bc2 b3 bc3)) (hx:Ao w x a1 a2 a3) (hy:Ao w y b1 b2 b3):Ch w (some ⟨q,0,none⟩) [x,y]:=by
 refine ⟨by unfold EK;simp,fun _=>⟨q,0,rfl,fun i z hz=>?_⟩⟩
 match i,hz with
 | 0,hz =>
  obtain rfl:=AAh hz;exact ⟨x.cs a1 je a2 jd a3 jc,Val.FZ.2 ⟨a1,je,a2,jd,a3,jc,rfl,hx⟩,fun j u hj=>h j u (by rw[ABS (AAf.1 hj).1];exact hj)⟩
 | 1,hz =>
  obtain rfl:=AAh hz;refine ⟨y.cs b1 bc1 b2 bc2 b3 bc3,Val.FZ.2 ⟨b1,bc1,b2,bc2,b3,bc3,rfl,hy⟩,fun j u hj=>?_⟩
  have:=h (8+j) u (by rw[ABQ (by show 8<=8+j;omega),show 8+j - (x.cs a1 je a2 jd a3 jc).length=j by show 8+j - 8=j;omega];exact hj)
  rw[show 0+1 * 8+j=0+(8+j) by omega]
  exact this
 | i+2,hz=>exact absurd hz (by simp)
theorem OB (d:List AR) (k:Nat) (l:List Int) (A:zo) (c:Nat) (B:zo) (b:Nat) (w:World) (hh:k<256/\BD w A d/\Uv w B l/\l.length<=b) (hE:KZ w) {SA:zo} {sc:Nat} (hS:K6 w SA sc) :
  Calls Tryz.prog 4 #[.agg #[.slice A d.length c,.int .u8 (k:Int),.slice B l.length b]] w (Hy true w):=by
 have HH:=zh hh;have HE:=zh hE;have MV:=zh hS;have HX0:=zh (AAL w (.cells #[.slice A d.length c,.int .u8 (k:Int),.slice B l.length b] 42));have HB0:=zh (zD w (.cells #[.slice A d.length c,.int .u8 (k:Int),.slice B l.length b] 42));clear hh hE hS
 go_enter Tryz.func4,Tryz.ntmps4
 go_upto_region 1 with fail
 generalize w.alloc (.cells #[.slice A d.length c,.int .u8 (k:Int),.slice B l.length b] 42)=W0 at *;have x0:W0.cell? ⟨w.heap.size,0,none⟩=some (.slice A d.length c):=(AAN _ _ _ _ _ _ HX0.out).trans rfl;have x1:W0.cell? ⟨w.heap.size,1,none⟩=some (.int .u8 (k:Int)):=by rw[AAN _ _ _ _ _ _ HX0.out];rfl
 have x2:W0.cell? ⟨w.heap.size,2,none⟩=some (.slice B l.length b):=by rw[AAN _ _ _ _ _ _ HX0.out];rfl
 go_wp2_with fail
 refine (mQ (HH.out.2.1.below HB0) HH.out.1 (HH.out.2.2.1.below HB0) HH.out.2.2.2).mono ?_;rintro e w1 ⟨A1,c1,s,t,⟨x,a1,je,a2,jd,a3,jc⟩,⟨y,b1,bc1,b2,bc2,b3,bc3⟩,ok,rfl,hb1,hs,hx,hy,hok⟩;simp only at hx hy hok;have jv:=zh (nk w1 (.cells #[.slice A1 s.length c1] 31) (x.box a1 je a2 jd a3 jc) (y.box b1 bc1 b2 bc2 b3 bc3));have IA:=zh (hs.below jv.out.2.2.2)
 have aO:=zh (hx.below jv.out.2.2.2);have jg:=zh (hy.below jv.out.2.2.2);have OE:=zh hok;have HB1:=zh (zB (zB HB0 hb1) jv.out.2.2.2);have EH:=zh jv.out.1;have HXB:=zh jv.out.2.1;have ak:=zh jv.out.2.2.1;clear hs hx hy hok hb1 x0 x1 x2 HX0 HB0 HH jv;go_upto_region 2 with fail
 generalize ((w1.alloc (.cells #[.slice A1 s.length c1] 31)).alloc (x.box a1 je a2 jd a3 jc)).alloc (y.box b1 bc1 b2 bc2 b3 bc3)=W1 at *;generalize w1.heap.size+1+1=q3 at *;generalize w1.heap.size+1=q2 at *;generalize w1.heap.size=q1 at *
 have jo:Hid (∀W2,Below W1.heap.size W1 W2->Calls Tryz.prog 12 #[] W2 (Hy true W2)):=fun W2 hb=>Z8 _ (HE.out.below (zB HB1 hb)) (MV.out.below (zB HB1 hb))
 have vO:Hid (∀W2,Below W1.heap.size W1 W2->ok=true->Calls Tryz.prog 13 #[x.v a1 je a2 jd a3 jc] W2 fun e w'=>e = .returned (.bool (decide (0<=NV x 3000)))/\Below W2.heap.size W2 w'):=fun W2 hb ho=>QW x (fS (OE.out ho).2.2.1) _ _ _ _ _ _ W2 (aO.out.below hb)
 have HPY:Hid (∀W2,Below W1.heap.size W1 W2->ok=true->Calls Tryz.prog 13 #[y.v b1 bc1 b2 bc2 b3 bc3] W2 fun e w'=>e = .returned (.bool (decide (0<=NV y 3000)))/\Below W2.heap.size W2 w'):=fun W2 hb ho=>QW y (fS (OE.out ho).2.2.2) _ _ _ _ _ _ W2 (jg.out.below hb)
 by_cases hgo:ok=true/\0<=NV x 3000/\0<=NV y 3000
 case neg =>
  have HGO:=zh hgo;clear hgo OE
  go_cut [37] (fun z wx=>z = .bool true/\Hid (Below W1.heap.size W1 wx))
  case first =>
   go_wp2_with fail
   refine (jo.out W1 (Pe _ _)).mono ?_;rintro e w2 ⟨rfl,hb2⟩;have HB2:=zh hb2;clear hb2
   cases ok with
   | false =>
    go_wp2
    go_meet
    exact ⟨rfl,HB2.out⟩
   | true =>
    obtain ⟨v0,v1,v2,v3,v4,v5,v6,v7⟩:=zF (zE HXB HB2);go_wp2_with fail;refine (vO.out w2 HB2 (by simp)).mono ?_
    rintro e w3 ⟨rfl,hb3⟩;have HB3:=zh (zB HB2 hb3);clear hb3 v0 v1 v2 v3 v4 v5 v6 v7
    by_cases hsx:0<=NV x 3000
    ·have hsy:decide (0<=NV y 3000)=false:=AAZ fun h=>HGO.out ⟨by simp,hsx,h⟩
     rw[AAT hsx];clear hsx;obtain ⟨v0,v1,v2,v3,v4,v5,v6,v7⟩:=zF (zE ak HB3);go_wp2_with fail;refine (HPY.out w3 HB3 (by simp)).mono ?_
     rintro e w4 ⟨rfl,hb4⟩;have Dl:=zh (zB HB3 hb4);rw[hsy];clear hb4 v0 v1 v2 v3 v4 v5 v6 v7 hsy;go_wp2;go_meet;exact ⟨rfl,Dl.out⟩
    ·rw[AAZ hsx]
     clear hsx;go_wp2;go_meet;exact ⟨rfl,HB3.out⟩
  case rest =>
  obtain ⟨rfl,JN⟩:=hcut;obtain ⟨W2,rfl⟩:∃W2:World,W2=wc:=⟨_,rfl⟩;have HB2:=zh JN.out;clear JN;go_wp2_with fail;refine (jo.out W2 HB2).mono ?_;rintro e w3 ⟨rfl,hb3⟩;have HB3:=zh (zB (zB HB1 HB2) hb3);clear hb3;go_wp2;go_ret;exact ⟨rfl,HB3.out⟩
 obtain ⟨rfl,hx3,hy3⟩:=hgo;obtain ⟨hmo,htr,hfx,hfy⟩:=OE.out (by simp)
 have Yc:=zh hmo;have HFV:Hid (∀v∈[x,y],Bc s false t v=true/\(KQ s t v).size<=36000/\KQ s t v=Lp s t v/\BL false s t (KQ s t v)=(v,0)):=fun v hv=>by
  simp only[AAi,List.mem_nil_iff,or_false] at hv
  rcases hv with rfl|rfl
  ·exact PE hmo htr hfx hx3
  ·exact PE hmo htr hfy hy3
 have HZX:Hid (decide (0<=NV x 3000)=true):=AAT hx3;have HZY:Hid (decide (0<=NV y 3000)=true):=AAT hy3;clear hmo htr hfx hfy hx3 hy3 OE;go_wp2_with fail;refine (jo.out W1 (Pe _ _)).mono ?_;rintro e w2 ⟨rfl,hb2⟩;have HB2:=zh hb2;clear hb2;obtain ⟨v0,v1,v2,v3,v4,v5,v6,v7⟩:=zF (zE HXB HB2);go_wp2_with fail;refine (vO.out w2 HB2 (by simp)).mono ?_
 rintro e w3 ⟨rfl,hb3⟩;have HB3:=zh (zB HB2 hb3);clear hb3 v0 v1 v2 v3 v4 v5 v6 v7;rw[HZX.out];obtain ⟨v0,v1,v2,v3,v4,v5,v6,v7⟩:=zF (zE ak HB3);go_wp2_with fail;refine (HPY.out w3 HB3 (by simp)).mono ?_
 rintro e w4 ⟨rfl,hb4⟩;have Dl:=zh (zB HB3 hb4);clear hb4 v0 v1 v2 v3 v4 v5 v6 v7;rw[HZY.out];go_upto_region 4 with fail
 have uG:=zh (zE EH Dl);have HR4:=zh (aO.out.below Dl);have jO:=zh (jg.out.below Dl);have vL:=zh (IA.out.below Dl);obtain ⟨v0,v1,v2,v3,v4,v5,v6,v7⟩:=zF (zE HXB Dl);obtain ⟨u0,u1,u2,u3,u4,u5,u6,u7⟩:=zF (zE ak Dl);have AAJ:=zh (zB HB1 Dl);clear vO HPY HZX HZY HXB ak EH aO jg IA HB2 HB3 Dl jo HB1;go_wp2_with fail
 clear v0 v1 v2 v3 v4 v5 v6 v7 u0 u1 u2 u3 u4 u5 u6 u7;have aZ:=zh (zD w4 (.cells (x.cs a1 je a2 jd a3 jc++y.cs b1 bc1 b2 bc2 b3 bc3).toArray 28));have HVS:=zh (bU (zR w4 (x.cs a1 je a2 jd a3 jc++y.cs b1 bc1 b2 bc2 b3 bc3) 28) (HR4.out.below aZ) (jO.out.below aZ));have jl:=zh (vL.out.below aZ);have CF:=zh (zE uG aZ);have RI:=zh (zB AAJ aZ)
 clear aZ HR4 jO vL uG AAJ
 dsimp only[Val.cs,List.cons_append,List.nil_append] at HVS jl CF RI
 generalize w4.alloc _=W5 at *;generalize w4.heap.size=q5 at *
 go_loopw [43] (fun i wr=>∃n:Nat,n<=2/\i = .int .i64 (n:Int)/\Hid (Below W5.heap.size W5 wr)) (fun i _=>2 - (intOf i).toNat)
 case atStart=>exact ⟨0,by omega,rfl,Pe _ _⟩
 case round =>
  obtain ⟨n,hn2,rfl,hh⟩:=hrel;obtain ⟨wo,rfl⟩:∃wo:World,wo=wr:=⟨_,rfl⟩;have HBo:=zh hh.out;clear hh
  by_cases hlt:n<2
  ·have hl2:n<[x,y].length:=hlt
   obtain ⟨ib,io,E1,e1,E2,e2,E3,e3,hI,hir,g0,g1,g2,g3,g4,g5,g6,g7⟩:=(HVS.out.below HBo).at8 hl2
   injection hI with hI
   injection hI with hI1 hI2 _
   subst hI1 hI2;obtain ⟨hf,hz,hfe,hps⟩:=HFV.out _ (AAU hl2);clear hfe;generalize [x,y][n]=v at *;simp only[Nat.zero_add] at g0 g1 g2 g3 g4 g5 g6 g7;have qI:=zh (fun W=>PV (s:=s) A1 c1 Yc.out.v Yc.out.n64 t v (by omega) E1 e1 E2 e2 E3 e3 W)
   rw[hf] at qI;simp only[if_true] at qI;have Kk:=zh hps;have HZ:Hid ((KQ s t v).size<=140737488355328):=by show _<=_;omega
   generalize KQ s t v=FT at *;have BH:=zh (zD wo (v.box E1 e1 E2 e2 E3 e3));have DL:=zh (AAL wo (v.box E1 e1 E2 e2 E3 e3));have uN:=zh (hir.below BH);have HO6:=zh (zB HBo BH);have h1:(0:Int)<=(n:Int):=by omega
   have h2:(n:Int)<2:=by omega
   clear hf hz hps hir hl2;go_upto_region 7 with fail
   clear g0 g1 g2 g3 g4 g5 g6 g7;generalize wo.alloc (v.box E1 e1 E2 e2 E3 e3)=W6 at *;generalize wo.heap.size=q6 at *;obtain ⟨v0,v1,v2,v3,v4,v5,v6,v7⟩:=zF DL;have x0:=zb (zE CF HO6);go_wp2_with fail;refine (qI.out _ (jl.out.below HO6) uN (HE.out.below (zB RI HO6)).tab).mono ?_;rintro e w7 ⟨rfl,F4⟩;have Ca:=zh F4;have aR:=zh (zB HO6 F4)
   clear F4 v0 v1 v2 v3 v4 v5 v6 v7 x0;have x0:=zb (zE CF aR);go_wp2_with fail;refine (Ce Yc.out.v Yc.out.n64 A1 c1 t FT HZ w7 (jl.out.below aR) (HE.out.below (zB RI aR)) (MV.out.below (zB RI aR))).mono ?_;rintro e w8 ⟨⟨u,F1,f1,F2,f2,F3,f3⟩,rfl,Ci,nL,EM⟩;simp only at Ci nL;rw[Kk.out] at Ci ⊢
   have BK:=zh (zD w8 (u.box F1 f1 F2 f2 F3 f3));have yP:=zh (AAL w8 (u.box F1 f1 F2 f2 F3 f3));have HR8:=zh (nL.below BK);have Ia:=zh (zB (zB aR EM) BK);have uD:=zh (zE (zE (zE DL Ca) EM) BK);have HRV:=zh (((uN.out.below Ca).below EM).below BK);have HUV:Hid (decide (u=v)=true):=AAT Ci;clear EM Ci nL x0
   go_upto_region 9 with fail
   generalize w8.alloc (u.box F1 f1 F2 f2 F3 f3)=W8 at *;generalize w8.heap.size=q8 at *;obtain ⟨v0,v1,v2,v3,v4,v5,v6,v7⟩:=TG uD;obtain ⟨u0,u1,u2,u3,u4,u5,u6,u7⟩:=TG yP;go_wp2_with fail;refine (Ro u v F1 f1 F2 f2 F3 f3 E1 e1 E2 e2 E3 e3 W8 HR8 HRV).mono ?_;rintro e w9 ⟨rfl,wu⟩;rw[HUV.out];have HO9:=zh (zB Ia wu)
   clear wu v0 v1 v2 v3 v4 v5 v6 v7 u0 u1 u2 u3 u4 u5 u6 u7;go_wp2;go_roundw
   case rel=>exact ⟨n+1,by omega,by go_num,HO9.out⟩
   case measure=>simp[intOf];omega
  ·obtain rfl:n=2:=by omega
   have Ji:=zh (zB RI HBo);go_wp2;go_ret;exact ⟨rfl,Ji.out⟩
end Go.Proofs.YthkkllmmbefedaaGreatDoor



