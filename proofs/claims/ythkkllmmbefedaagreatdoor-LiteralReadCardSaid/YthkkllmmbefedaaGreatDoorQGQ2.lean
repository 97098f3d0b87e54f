/-
  The reference's reader: the parts of a record, plain.
-/
import Derived.Test.YthkkllmmbefedaaGreatDoorQGQ1
namespace Go.Proofs.YthkkllmmbefedaaGreatDoor
open Go.RowKit
set_option maxHeartbeats 16000000
set_option maxRecDepth 100000
variable {k:Bool} {s:List AZ} {x:AZ}
theorem lJ {l:List AB}:Bb (AP true s) x l k ≠ .error 0:=fun h=>by
 unfold Bb at h
 rcases Gd h with h|⟨p,_,h⟩
 ·exact Cm true _ _ _ _ h
 ·rcases Gd h with h|⟨l1,_,h⟩
  ·exact EW _ _ h
  ·rcases Gd h with h|⟨q,_,h⟩
   ·exact Cm true _ _ _ _ h
   ·cases h
variable {r:List AB}
theorem lK (hk:KF s) {l:List AB} {v:Val×Val} (h:Bb (AP true s) x l false = .ok (v,r,k)):k=false:=by
 unfold Bb at h;obtain ⟨⟨v1,r1,k1⟩,h1,h⟩:=zS h;have:=hk _ _ _ _ _ h1;subst this;obtain ⟨l1,_,h⟩:=zS h;obtain ⟨⟨v2,r2,k2⟩,h2,h⟩:=zS h;have:=hk _ _ _ _ _ h2;subst this
 injection h with h
 injection h with _ h
 injection h with _ h
 exact h.symm
theorem mX {a b:ByteArray} (h:Ba a r=true) (hn:a≠b):BG b r = .error 2:=by
 unfold BG;rw[Pe (by rw[WU hn h];simp)]
theorem iV {m:Bool} {f:Int->List AB->Bool->PR Val} (h:Ba ⟨#[93]⟩ r=true):CO m f x r k = .error 2:=by
 have t1:=RV (n:=1) h (by decide)
 have t2:=RV (n:=2) h (by decide)
 have t3:=RV (n:=3) h (by decide)
 have a1:=WU (s':=⟨#[64]⟩) (by decide) h
 have s1:=mX (b:=⟨#[123]⟩) h (by decide)
 have s2:=mX (b:=⟨#[91]⟩) h (by decide)
 unfold CO IL CY H9 Co Gv G6 Fg;simp only[t1,t2,t3,s1,s2,a1,Bool.false_eq_true,if_false,Aj]
 repeat (first|rfl|split)
theorem lI (h:Ba ⟨#[93]⟩ r=true):Bb (AP true s) x r k = .error 2:=by
 unfold Bb;rw[RP,iV h]
 rfl
theorem dX (h:Ba ⟨#[45,62]⟩ r=false):Lp (AP true s) x r false=(JK (Bb (AP true s) x) r false).bind fun p=>(BG ⟨#[93]⟩ p.2.1).bind fun l2 => .ok (p.1,l2,p.2.2):=by
 unfold Lp;rw[Pe (by rw[h];simp)]
 cases hb:Ba ⟨#[93]⟩ r with
 | true =>
  rw[AAC rfl,OC (IJ (fun t=>Dv true s t) x),lI hb]
  rfl
 | false=>rw[Pe (by simp)]
variable {r1:List AB}
theorem yg (O5:KF s) {xk y:Val} {r6:List AB} {e6:Int} (hm2:match AP true s x.key r1 false with
   | .ok (v,r',_)=>xk=v/\r6=r'/\e6=0
   | .error e'=>e6=e') {r7:List AB} {e7:Int} (ha:Jy ⟨#[45,62]⟩ r6 e6 r7 e7) {r8:List AB} {e8:Int} (hn:e7≠0->e8=e7) (hm:e7=0->match AP true s x.elem r7 false with
   | .ok (v,r',_)=>y=v/\r8=r'/\e8=0
   | .error e'=>e8=e'):match Bb (AP true s) x r1 false with
  | .ok (v,r',_)=>(xk,y)=v/\r8=r'/\e8=0
  | .error e'=>e8=e':=by
 unfold Bb
 cases hv:AP true s x.key r1 false with
 | error e1 =>
  rw[hv] at hm2;simp only at hm2;subst hm2;have hz:e6≠0:=fun e=>Cm true s x.key r1 false (e▸hv)
  rcases ha.2 with ⟨_,_,h3⟩|⟨h1,_⟩
  ·show e8=e6
   rw[hn (by omega),h3]
  ·exact absurd h1 hz
 | ok p =>
  obtain ⟨v,r',k1⟩:=p;have hk1:=O5 _ _ _ _ _ hv;subst hk1;rw[hv] at hm2;obtain ⟨rfl,rfl,rfl⟩:=hm2;rw[zM];have hs:=Bl ha;simp only
  cases hsy:BG ⟨#[45,62]⟩ r6 with
  | error e1 =>
   rw[hsy] at hs
   show e8=e1
   rw[<-hs.1];exact hn hs.2
  | ok l =>
   rw[hsy] at hs;obtain ⟨rfl,rfl⟩:=hs;have hm:=hm rfl;rw[zM]
   cases hw:AP true s x.elem r7 false with
   | error e1=>rw[hw] at hm;exact hm
   | ok q =>
    obtain ⟨v2,r5,k5⟩:=q;rw[hw] at hm;rw[zM];obtain ⟨rfl,rfl,rfl⟩:=hm;exact ⟨rfl,rfl,rfl⟩
theorem dB {C:CZ} {As:zo} {cs:Nat} {Am:zo} {cm:Nat} {n:Nat} (O5:KF C.s) (ih:Nh C n) {W:World} {e:Int} (h:DW C W r e) (ht:Ic C.w0 x As Am) (hn:e=0->r.length<n) (he1:0<=x.key/\x.key<(C.s.length:Int)) (he:0<=x.elem/\x.elem<(C.s.length:Int)) (hk:x.kind=8):
  Calls Tryz.prog 137 #[.pointer (some ⟨C.b,0,none⟩),x.v As cs Am cm,ng x.kind] W (QP C W r (OL e (M4 x.kind (Lp (AP true C.s) x r false)))):=by
 have IZ:=zh (DX.new (cs:=cs) (cm:=cm) h ht);have Df:=zh ih;have HEK:=zh he1;have MU:=zh he;have HN:=zh hn;have VW:=zh O5;have k7:(x.kind==7)=false:=by simp[hk]
 have k8:(x.kind==8)=true:=by simp[hk]
 have aJ:=zh h.ok.len;have sW:=zh h.LH.length_le;clear h ih he he1 hn ht O5 hk
 go_enter Tryz.func137,Tryz.ntmps137
 go_upto_region 1 with fail
 unfold NH zO at IZ;generalize World.alloc (World.alloc (World.alloc W _) _) _=W1 at *;obtain ⟨px,hpx⟩:∃n,W.heap.size=n:=⟨_,rfl⟩;obtain ⟨p,hp⟩:∃n,px+1=n:=⟨_,rfl⟩;obtain ⟨q,hq⟩:∃n,px+2=n:=⟨_,rfl⟩;rw[hpx,hq,hp] at IZ;rw[show W.heap.size+1+1=q by rw[hpx];exact hq,hpx,hp]
 have Ki:=zh (show DX C W px p q x As cs Am cm W1 r e 0 AJ AJ AJ [] [] [] from IZ.out);clear IZ hpx hp hq;have p0:=(Ki.out.reads (Ah.refl _ _)).2.1
 cases hi:OO ⟨#[45,62]⟩ r e with
 | true =>
  have HI:=zh hi;obtain ⟨rfl,hpp⟩:=IU hi;have LP:=zh hpp;obtain ⟨t,qq,rfl,_,_⟩:=BN hpp;clear hi hpp;go_wp2_with fail;refine (Bt ⟨#[45,62]⟩ Ki.out.rd).mono ?_;rintro y w2 ⟨rfl,hb2⟩;rw[HI.out];have Ht:=zh (Ki.out.below hb2);obtain ⟨i,hi,c2,f2,hi2,KV⟩:=Ht.out.rd.Pb;clear hb2 p0;go_upto_region 3 with fail
  have GJ:=zh (Ht.out.BF ((Ah.refl _ _).set 2 (.int .i64 ((i:Int)+1))) (KV.out.1 _ _ Ht.out.rd));clear c2 f2;generalize w2.setCell ⟨C.b,2,none⟩ (.int .i64 ((i:Int)+1))=W3 at *;go_wp2_with fail;refine (Ay ⟨#[93]⟩ GJ.out.rd).mono ?_;rintro y w8 ⟨rfl,g1,r7,e7,g2,g3⟩;have EL:=zh (GJ.out.BF g1 g2);have Ez:Hid (r7.length<=(t::qq).length):=by have:=g3.1;show _<=_;simp;omega
  have JO:Hid (match OL 0 (M4 x.kind (Lp (AP true C.s) x (t::qq) false)) with
    | .ok (v,r1,_) => .mk x.kind false 0 ⟨#[]⟩ 0 [] [] []=v/\r7=r1/\e7=0
    | .error e1=>e7=e1):=by
   rw[OL,AAC rfl];unfold Lp;rw[AAC LP.out,List.tail_cons];have hs:=Bl g3
   cases hsy:BG ⟨#[93]⟩ qq with
   | error e3=>rw[hsy] at hs;exact hs.1
   | ok l4=>rw[hsy] at hs;exact ⟨rfl,hs.1,hs.2⟩
  clear g1 g2 g3;have HG2:=zh (FI EL Ez z3 JO);have Br:=zh (Cw EL.out.bq (.int .i64 x.kind) (.bool false) (.int .i64 0) (.string ⟨#[]⟩) (.int .i64 0) AJ AJ AJ);obtain ⟨⟨x0,x1,x2,x3,x4,x5,x6,x7⟩,y0,y1,y2,y3,y4,y5,y6,y7⟩:=zK EL.out.bq;obtain ⟨⟨v0,v1,v2,v3,v4,v5,v6,v7⟩,_⟩:=EL.out.vb.cells;go_wp2;clear x0 x1 x2 x3 x4 x5 x6 x7 y0 y1 y2 y3 y4 y5 y6 y7 v0 v1 v2 v3 v4 v5 v6 v7
  unfold q8 q5 at HG2 Br;generalize World.setCell _ _ _=W9 at *;obtain ⟨⟨x0,x1,x2,x3,x4,x5,x6,x7⟩,_⟩:=zK Br
  refine bodyPost_ret (v := .agg #[.int .i64 x.kind,.bool false,.int .i64 0,.string ⟨#[]⟩,.int .i64 0,AJ,AJ,AJ]) (by simp[results,Tryz.results137,go_sem,x0,x1,x2,x3,x4,x5,x6,x7]) rfl HG2
 | false =>
  have HI:=zh hi;have LF:Hid (e=0->Lp (AP true C.s) x r false=(JK (Bb (AP true C.s) x) r false).bind fun p=>(BG ⟨#[93]⟩ p.2.1).bind fun l2 => .ok (p.1,l2,p.2.2)):=fun hz=>by
   unfold OO at hi;rw[AAM hz,Bool.true_and] at hi;exact dX hi
  clear hi;go_wp2_with fail;refine (Bt ⟨#[45,62]⟩ Ki.out.rd).mono ?_;rintro y w2 ⟨rfl,hb2⟩;rw[HI.out];have Ht:=zh (Ki.out.below hb2);clear hb2 p0;have p0:=(Ht.out.reads (Ah.refl _ _)).2.1;have LC:=zh (Ev.start (Bb (AP true C.s) x) r false);obtain ⟨Rt,uW⟩:∃R,JK (Bb (AP true C.s) x) r false=R:=⟨_,rfl⟩;rw[uW] at LF LC;clear uW
  have EK:Hid (∀ (KL I:List BX) r1 e1 r2 e2,(e≠0->e1=e)->(e=0->(e1≠0/\Rt = .error e1)\/(e1=0/\KL.length=I.length/\Rt = .ok (Dq KL I,r1,false)))->Jy ⟨#[93]⟩ r1 e1 r2 e2->match OL e (M4 x.kind (Lp (AP true C.s) x r false)) with
    | .ok (v,r',_) => .mk x.kind false 0 ⟨#[]⟩ 0 (KL.map (·.v)) (I.map (·.v)) []=v/\r2=r'/\e2=0
    | .error e'=>e2=e'):=fun KL I r1 e1 r2 e2 j0 j1 j2=>by
   by_cases hz:e=0
   ·rw[OL,AAC hz,LF.out hz]
    rcases j1 hz with ⟨g1,g2⟩|⟨rfl,gl,g2⟩
    ·rw[g2,Aj]
     rcases j2.2 with ⟨_,_,g⟩|⟨g,_⟩
     ·exact g
     ·exact absurd g g1
    ·rw[g2,zM]
     have hs:=Bl j2;simp only
     cases hsy:BG ⟨#[93]⟩ r1 with
     | error e3=>rw[hsy] at hs;rw[Aj];exact hs.1
     | ok l4=>rw[hsy] at hs;rw[zM,SE,Oq gl,Oo gl];exact ⟨rfl,hs.1,hs.2⟩
   ·rw[OL,Pe hz]
    have:=j0 hz
    rcases j2.2 with ⟨_,_,g⟩|⟨g,_⟩
    ·show e2=e;omega
    ·omega
  go_wp2
  clear p0
  go_loopw [] (fun wr=>∃r1 e1 vk vi KL I,Hid (DX C W px p q x As cs Am cm wr r1 e1 0 vk vi AJ KL I []/\(e1=0->KL.length=I.length/\I.length+r1.length<=C.l.length)/\(KL.length<=1000001/\I.length<=1000001)/\r1.length<=r.length/\(e≠0->e1=e)/\(e1=0->Ev (Bb (AP true C.s) x) Rt (Dq KL I) r1 false)/\(e=0->e1≠0->Rt = .error e1))) (fun wr=>iF C wr)
  case atStart=>exact ⟨r,e,AJ,AJ,[],[],Ht.out,(fun _=>⟨rfl,by have:=sW.out;simpa using this⟩),by simp,AAQ _,fun _=>rfl,fun _=>LC.out,fun h1 h2=>absurd h1 h2⟩
  case round =>
   obtain ⟨r1,e1,vk,vi,KL,I,hI⟩:=hrel;have HF:=zh hI.out.1;have HI1:=zh hI.out.2.1;have HI2:=zh hI.out.2.2.1;have HI3:=zh hI.out.2.2.2.1;have HI4:=zh hI.out.2.2.2.2;clear hI;have rz:=HF.out.rd.zero
   by_cases hz:e1=0
   case neg =>
    have q1:(e1==0)=false:=by simp[hz]
    have HZ:=zh hz;clear hz;obtain ⟨A1,c1,rfl,_⟩:=HF.out.vb.ok.reads;obtain ⟨A2,c2,rfl,_⟩:=HF.out.vb.oi.reads;go_wp2_with fail;refine (Ay ⟨#[93]⟩ HF.out.rd).mono ?_;rintro y w8 ⟨rfl,g1,r7,e7,g2,g3⟩;have EL:=zh (HF.out.BF g1 g2);have JO:=zh (EK.out KL I r1 e1 r7 e7 HI4.out.1 (fun h => .inl ⟨HZ.out,HI4.out.2.2 h HZ⟩) g3)
    have Ez:Hid (r7.length<=r.length):=by have:=g3.1;have:=HI3.out;show _<=_;omega
    have P9:Hid (KL.length<=2000000/\I.length<=2000000):=by have:=HI2.out;exact ⟨by omega,by omega⟩
    clear g1 g2 g3 rz;have HG2:=zh (FI EL Ez ⟨P9.out.1,P9.out.2,by simp⟩ JO)
    have Br:=zh (Cw EL.out.bq (.int .i64 x.kind) (.bool false) (.int .i64 0) (.string ⟨#[]⟩) (.int .i64 0) (.slice A1 KL.length c1) (.slice A2 I.length c2) AJ);obtain ⟨⟨x0,x1,x2,x3,x4,x5,x6,x7⟩,y0,y1,y2,y3,y4,y5,y6,y7⟩:=zK EL.out.bq;obtain ⟨⟨v0,v1,v2,v3,v4,v5,v6,v7⟩,_⟩:=EL.out.vb.cells;go_wp2;clear x0 x1 x2 x3 x4 x5 x6 x7 y0 y1 y2 y3 y4 y5 y6 y7 v0 v1 v2 v3 v4 v5 v6 v7
    unfold q8 q5 at HG2 Br;generalize World.setCell _ _ _=W9 at *;obtain ⟨⟨x0,x1,x2,x3,x4,x5,x6,x7⟩,_⟩:=zK Br
    refine bodyPost_ret (v := .agg #[.int .i64 x.kind,.bool false,.int .i64 0,.string ⟨#[]⟩,.int .i64 0,(.slice A1 KL.length c1),(.slice A2 I.length c2),AJ]) (by simp[results,Tryz.results137,go_sem,x0,x1,x2,x3,x4,x5,x6,x7]) rfl HG2
   subst hz;have iP:Hid (e=0):=by
    show _=_
    by_cases h:e=0
    ·exact h
    ·exact (HI4.out.1 h).symm
   have gU:=zh (HI4.out.2.1 rfl);have Yc:=zh (HI1.out rfl);have gm:=zh HF.out.rd.meas;have HLK:Hid (KL.length<=1000000):=by have:=Yc.out;have:=aJ.out;show _<=_;omega
   obtain ⟨A1,c1,rfl,_⟩:=HF.out.vb.ok.reads;have p0:=(HF.out.reads (Ah.refl _ _)).2.1;go_upto_region 10 with fail
   go_cut [] (fun wx=>∃xk vk r6 e6,Hid (DX C W px p q x As cs Am cm wx r6 e6 0 vk vi AJ (KL++[xk]) I []/\r6.length<=r1.length/\match AP true C.s x.key r1 false with
    | .ok (v,r',_)=>xk.v=v/\r6=r'/\e6=0
    | .error e'=>e6=e'))
   case first =>
    have JI:Hid (C.b<wr.heap.size):=HF.out.rd.lt;have Fp:=zh (fun (w':World) (hb:Ah C.b wr w')=>And.intro (HF.out.reads hb).1.1.1 (HF.out.reads hb).2.2.2.1)
    clear rz p0;refine yE (S:=(fun w'=>(w'.cell? ⟨p,5,none⟩=some (.slice A1 KL.length c1)/\w'.cell? ⟨px,7,none⟩=some (.int .i64 x.key))/\Hid True)) 9 (by kernel_rfl) ?_ (fun AU=>?_)
    ·(try dsimp only);exact ⟨Fp.out _ (Ah.of (zC (Pd _ _) 1) (AAT JI)),trivial⟩
    refine tC 0 ?_;refine tB 1 ?_;refine tC 2 ?_;refine tC 3 ?_;refine tB 4 ?_;refine tS 5 (fun K hK=>?_)
    go_simp
    (refine (Df.out x.key _ r1 (by have:=HI3.out;have:=HN.out iP;omega) HEK (HF.out.below (zC (Pd wr.heap.size wr) 1)).rd).mono ?_;rintro y w6 ⟨xa,rfl,g1,g2,r6,e6,g3,g4,g5⟩;have BA:=zh ((Ah.of (zC (Pd wr.heap.size wr) 1) (AAT JI)).trans g2);have IX:=zh (HF.out.hot g1);have Dn:=zh (HF.out.BF BA g3);have Gm:=zh g4;have Hq:=zh g5;clear g1 g2 g3 g4 g5)
    refine hK.out _ _ ?_ (fun AU=>?_)
    ·(try dsimp only);exact ⟨Fp.out _ BA,trivial⟩
    clear hK K;try simp only[ps]
    refine tS 6 (fun K hK=>?_)
    go_simp
    refine hK.out _ _ ?_ (fun AU=>?_)
    ·(try dsimp only);exact ⟨Fp.out _ (BA.out.below (zD w6 (.cells xa.cells.toArray 28)) JI),trivial⟩
    clear hK K;refine tS 7 (fun K hK=>?_)
    (have DL:=zh (Dn.out.below (zD w6 (.cells xa.cells.toArray 28)));have hll:=HLK.out;refine yH Bz (by rfl) (.tmp 48) (.tmp 53) (by rfl) (p+1) (.slice A1 KL.length c1) KL.length (KL.flatMap BX.cells) (by rfl) DL.out.vb.ok w6.heap.size 0 1 1 xa.cells (by rfl) rfl (zR w6 xa.cells 28) (Gr xa) (by omega) (by omega) DL.out.vb.lt ?_;intro v8 w8 Bq Bp FW;obtain ⟨g,c8,rfl,hgg⟩:=CR Bq;have JU:=zh (Dn.out.key IX (zD w6 (.cells xa.cells.toArray 28)) Bq Bp FW);have I5:=zh (DL.out.after Bp (.inl rfl));obtain ⟨⟨⟨c5,_,_⟩,f5,_,_⟩,_⟩:=I5.out;clear hll Bq FW hgg)
    refine hK.out _ _ ?_ (fun AU=>?_)
    ·(try dsimp only);exact ⟨⟨I5.out.1.1.1,I5.out.2.2.2.1⟩,trivial⟩
    clear hK K;refine tC 8 ?_;refine zV (rs:=[9]) (by kernel_rfl) (by simp) ?_
    refine AO.last rfl (by kernel_rfl) (fun K hK=>?_) AO.nil
    go_simp
    refine hK.out _ _ ?_;clear hK K
    (try clear AU)
    refine wpAny_done (by kernel_rfl) ?_ _
    (go_wp2;go_meet;exact ⟨xa,_,r6,e6,JU.out,Gm.out,Hq.out⟩)
   case rest =>
   obtain ⟨W5,rfl⟩:∃W:World,W=wc:=⟨_,rfl⟩;obtain ⟨xk,vk,r6,e6,h6⟩:=hcut;have Dn:=zh h6.out.1;have sw:=zh h6.out.2.1;have Ya:=zh h6.out.2.2;clear h6 rz p0;have HJK:Hid ((KL++[xk]).length=KL.length+1):=by show _=_;simp
   go_wp2_with fail
   refine (Ay ⟨#[45,62]⟩ Dn.out.rd).mono ?_;rintro y w7 ⟨rfl,g1,r7,e7,g2,g3⟩;have Gj:=zh (Dn.out.BF g1 g2);have Vd:=zh g3;clear g1 g2 g3;have rz:=Gj.out.rd.zero
   go_upto_if 62 with fail
   go_cut [] (fun wx=>∃y:Val,∃J vi r8 e8,Hid (DX C W px p q x As cs Am cm wx r8 e8 0 vk vi AJ (KL++[xk]) J []/\r8.length<=r7.length/\J.length<=I.length+1/\(e7≠0->e8=e7)/\(e7=0->(∃yy:BX,J=I++[yy]/\y=yy.v)/\match AP true C.s x.elem r7 false with
    | .ok (v,r',_)=>y=v/\r8=r'/\e8=0
    | .error e'=>e8=e')))
   case first =>
    by_cases mr:e7=0
    case neg =>
     have q1:(e7==0)=false:=by simp[mr]
     have HZ:=zh mr;clear mr;go_wp2;go_meet;exact ⟨.mk 0 false 0 ⟨#[]⟩ 0 [] [] [],I,vi,r7,e7,Gj.out,AAQ _,Nat.le_succ _,fun _=>rfl,fun h=>absurd h HZ⟩
    have q1:(e7==0)=true:=by simp[mr]
    subst mr;obtain ⟨A2,c2,rfl,_⟩:=Gj.out.vb.oi.reads;have p0:=(Gj.out.reads (Ah.refl _ _)).2.1;go_upto_region 13 with fail
    have JI:Hid (C.b<w7.heap.size):=Gj.out.rd.lt;have Fp:=zh (fun (w':World) (hb:Ah C.b w7 w')=>And.intro (Gj.out.reads hb).1.1.2.1 (Gj.out.reads hb).2.2.2.2)
    clear rz p0;refine yE (S:=(fun w'=>(w'.cell? ⟨p,6,none⟩=some (.slice A2 I.length c2)/\w'.cell? ⟨px,8,none⟩=some (.int .i64 x.elem))/\Hid True)) 9 (by kernel_rfl) ?_ (fun AU=>?_)
    ·(try dsimp only);exact ⟨Fp.out _ (Ah.of (zC (Pd _ _) 1) (AAT JI)),trivial⟩
    refine tC 0 ?_;refine tB 1 ?_;try simp only[ps]
    refine tC 2 ?_;refine tC 3 ?_;refine tB 4 ?_;refine tS 5 (fun K hK=>?_)
    go_simp
    (refine (Df.out x.elem _ r7 (by have:=HI3.out;have:=HN.out iP;have:=sw.out;have:=Vd.out.1;omega) MU (Gj.out.below (zC (Pd w7.heap.size w7) 1)).rd).mono ?_;rintro y w6 ⟨xa,rfl,g1,g2,r8,e8,g3,g4,g5⟩;have BA:=zh ((Ah.of (zC (Pd w7.heap.size w7) 1) (AAT JI)).trans g2);have IX:=zh (Gj.out.hot g1);have Dn:=zh (Gj.out.BF BA g3);have Gm:=zh g4;have Hq:=zh g5;clear g1 g2 g3 g4 g5)
    refine hK.out _ _ ?_ (fun AU=>?_)
    ·(try dsimp only);exact ⟨Fp.out _ BA,trivial⟩
    clear hK K;refine tS 6 (fun K hK=>?_)
    go_simp
    refine hK.out _ _ ?_ (fun AU=>?_)
    ·(try dsimp only);exact ⟨Fp.out _ (BA.out.below (zD w6 (.cells xa.cells.toArray 28)) JI),trivial⟩
    clear hK K;refine tS 7 (fun K hK=>?_)
    (have DL:=zh (Dn.out.below (zD w6 (.cells xa.cells.toArray 28)));have hll:=Yc.out;have Ny:=aJ.out;refine yH Bz (by rfl) (.tmp 64) (.tmp 69) (by rfl) (p+1) (.slice A2 I.length c2) I.length (I.flatMap BX.cells) (by rfl) DL.out.vb.oi w6.heap.size 0 1 1 xa.cells (by rfl) rfl (zR w6 xa.cells 28) (Gr xa) (by omega) (by omega) DL.out.vb.lt ?_;intro v8 w8 Bq Bp FW;obtain ⟨g,c8,rfl,hgg⟩:=CR Bq;have JU:=zh (Dn.out.item IX (zD w6 (.cells xa.cells.toArray 28)) Bq Bp FW);have I5:=zh (DL.out.after Bp (.inr (.inl rfl)));obtain ⟨⟨⟨_,c6,_⟩,_,f6,_⟩,_⟩:=I5.out;clear hll Ny Bq FW hgg)
    refine hK.out _ _ ?_ (fun AU=>?_)
    ·(try dsimp only);exact ⟨⟨I5.out.1.1.2.1,I5.out.2.2.2.2⟩,trivial⟩
    clear hK K;try simp only[ps]
    refine tC 8 ?_;refine zV (rs:=[9]) (by kernel_rfl) (by simp) ?_
    refine AO.last rfl (by kernel_rfl) (fun K hK=>?_) AO.nil
    go_simp
    refine hK.out _ _ ?_;clear hK K
    (try clear AU)
    refine wpAny_done (by kernel_rfl) ?_ _
    (go_wp2;go_meet;exact ⟨xa.v,I++[xa],_,r8,e8,JU.out,Gm.out,by simp,fun h=>absurd rfl h,fun _=>⟨⟨xa,rfl,rfl⟩,Hq.out⟩⟩)
   case rest =>
   obtain ⟨W8,rfl⟩:∃W:World,W=wc:=⟨_,rfl⟩;obtain ⟨y,J,vi,r8,e8,h8⟩:=hcut;have EL:=zh h8.out.1;have HL8:=zh h8.out.2.1;have HJ8:=zh h8.out.2.2.1
   have HST:Hid ((e8≠0->Rt = .error e8)/\(e8=0->((KL++[xk]).length=J.length/\J.length=I.length+1)/\r8.length<r1.length/\(Ba ⟨#[44]⟩ r8=true->Ev (Bb (AP true C.s) x) Rt (Dq (KL++[xk]) J) r8.tail false)/\(Ba ⟨#[44]⟩ r8=false->Rt = .ok (Dq (KL++[xk]) J,r8,false)))):=by
    have hn8:=h8.out.2.2.2.1;have hm8:=h8.out.2.2.2.2;have hE:=yg VW (x:=x) Ya Vd hn8 (fun hz=>(hm8 hz).2)
    have h:=QT (IJ (fun t=>Dv true C.s t) x) gU (fun v r k hv=>lK VW hv) lJ (xv:=(xk.v,y)) (r6:=r8) (e6:=e8) (by
     revert hE
     cases Bb (AP true C.s) x r1 false with
     | error e=>exact fun h=>h
     | ok z=>exact fun h=>h)
    refine ⟨h.1,fun hz=>?_⟩
    have mr:e7=0:=by
     by_cases g:e7=0
     ·exact g
     ·have:=hn8 g;omega
    obtain ⟨⟨yy,rfl,rfl⟩,_⟩:=hm8 mr;rw[Ji Yc.out.1];exact ⟨by have:=Yc.out.1;simp;omega,h.2 hz⟩
   clear h8;generalize KL++[xk]=KJ at *;obtain ⟨A1,c1,rfl,_⟩:=EL.out.vb.ok.reads;obtain ⟨A2,c2,rfl,_⟩:=EL.out.vb.oi.reads;have P9:Hid (KJ.length<=1000001/\J.length<=1000001):=by have:=Yc.out;have:=aJ.out;have:=HJK.out;have:=HJ8.out;exact ⟨by omega,by omega⟩
   cases hi:OO ⟨#[44]⟩ r8 e8 with
   | false =>
    have HI:=zh hi;have MX:Hid ((e8≠0/\Rt = .error e8)\/(e8=0/\KJ.length=J.length/\Rt = .ok (Dq KJ J,r8,false))):=by
     by_cases hz:e8=0
     ·unfold OO at hi
      rw[AAM hz,Bool.true_and] at hi;exact .inr ⟨hz,(HST.out.2 hz).1.1,(HST.out.2 hz).2.2.2 hi⟩
     ·exact .inl ⟨hz,HST.out.1 hz⟩
    clear hi;go_wp2_with fail;refine (Bt ⟨#[44]⟩ EL.out.rd).mono ?_;rintro y9 w9 ⟨rfl,aN⟩;rw[HI.out];have mM:=zh (EL.out.below aN);clear aN;go_wp2_with fail;refine (Ay ⟨#[93]⟩ mM.out.rd).mono ?_;rintro y9 wa ⟨rfl,g1,ra,ea,g2,g3⟩;have iC:=zh (mM.out.BF g1 g2);have JO:=zh (EK.out KJ J r8 e8 ra ea (fun h=>absurd iP.out h) (fun h=>MX.out) g3)
    have Ez:Hid (ra.length<=r.length):=by have:=g3.1;have:=HI3.out;have:=sw.out;have:=HL8.out;have:=Vd.out.1;show _<=_;omega
    clear g1 g2 g3;have HG2:=zh (FI iC Ez ⟨by have:=P9.out;omega,by have:=P9.out;omega,by simp⟩ JO)
    have Br:=zh (Cw iC.out.bq (.int .i64 x.kind) (.bool false) (.int .i64 0) (.string ⟨#[]⟩) (.int .i64 0) (.slice A1 KJ.length c1) (.slice A2 J.length c2) AJ);obtain ⟨⟨x0,x1,x2,x3,x4,x5,x6,x7⟩,y0,y1,y2,y3,y4,y5,y6,y7⟩:=zK iC.out.bq;obtain ⟨⟨v0,v1,v2,v3,v4,v5,v6,v7⟩,_⟩:=iC.out.vb.cells;go_wp2;clear x0 x1 x2 x3 x4 x5 x6 x7 y0 y1 y2 y3 y4 y5 y6 y7 v0 v1 v2 v3 v4 v5 v6 v7
    unfold q8 q5 at HG2 Br;generalize World.setCell _ _ _=W9 at *;obtain ⟨⟨x0,x1,x2,x3,x4,x5,x6,x7⟩,_⟩:=zK Br
    refine bodyPost_ret (v := .agg #[.int .i64 x.kind,.bool false,.int .i64 0,.string ⟨#[]⟩,.int .i64 0,(.slice A1 KJ.length c1),(.slice A2 J.length c2),AJ]) (by simp[results,Tryz.results137,go_sem,x0,x1,x2,x3,x4,x5,x6,x7]) rfl HG2
   | true =>
    have HI:=zh hi;obtain ⟨rfl,hpp⟩:=IU hi;have nO:=zh ((HST.out.2 rfl).2.2.1 hpp);have HLX:=zh (HST.out.2 rfl).2.1;have HLJ:=zh (HST.out.2 rfl).1;obtain ⟨t,qq,rfl,_,_⟩:=BN hpp;clear hi hpp;go_wp2_with fail;refine (Bt ⟨#[44]⟩ EL.out.rd).mono ?_;rintro y9 w9 ⟨rfl,aN⟩;rw[HI.out];have mM:=zh (EL.out.below aN);obtain ⟨i,hi,c3,f3,hi2,KV⟩:=mM.out.rd.Pb;clear aN;go_wp2
    have iC:=zh (mM.out.BF ((Ah.refl _ _).set 2 (.int .i64 ((i:Int)+1))) (KV.out.1 _ _ mM.out.rd));clear c3 f3;generalize w9.setCell ⟨C.b,2,none⟩ (.int .i64 ((i:Int)+1))=Wa at *;have ve:=zh iC.out.rd.meas;have hlx:=HLX.out;rw[AAS] at hlx;go_roundw
    case rel=>exact ⟨qq,0,_,_,KJ,J,iC.out,(fun _=>⟨HLJ.out.1,by have:=Yc.out;have:=HLJ.out;omega⟩),P9.out,by have:=HI3.out;omega,fun h=>absurd iP.out h,fun _=>nO.out,fun _ h=>absurd rfl h⟩
    case measure=>rw[ve.out,gm.out];omega
def Tv (f:Int->List AB->Bool->PR Val) (x:AZ) (l1:List AB) (k:Bool):PR (List Val×List Ac) :=
 (BM f true x.AA l1 k).bind fun p=>(Cx true x.AA.isEmpty p.2.1).bind fun q=>(BG ⟨#[125]⟩ q.2).bind fun l2 => .ok ((p.1,q.1),l2,p.2.2)
theorem bZ (f:Int->List AB->Bool->PR Val) (x:AZ) (l:List AB) (k:Bool):H9 true f x l k=(BG ⟨#[123]⟩ l).bind fun l1=>Tv f x l1 k:=rfl
def U9 (first:Bool) (l:List AB):Except Int (List AB):=if first=true then .ok l else BG ⟨#[44]⟩ l
def XY (first:Bool) (r1:List AB) (e1:Int) (r2:List AB) (e2:Int):Prop:=(first=true/\r2=r1/\e2=e1)\/(first=false/\Jy ⟨#[44]⟩ r1 e1 r2 e2)
variable {first:Bool} {e1 e2:Int} {r2:List AB}
theorem ME (h:XY first r1 e1 r2 e2):r2.length<=r1.length:=by
 rcases h with ⟨_,rfl,_⟩|⟨_,h⟩
 ·exact AAQ _
 ·exact h.1
theorem E9 {T:ByteArray} (h:Jy T r1 e1 r2 e2) (he:e1≠0):e2=e1/\r2=r1:=by
 rcases h.2 with ⟨_,h1,h2⟩|⟨h1,_⟩
 ·exact ⟨h2,h1⟩
 ·exact absurd h1 he
variable {t0:AB}
theorem KI {n:Int} {e:Int} (h:XG n r e t0 r1 e1) (he:e≠0):e1=e/\r1=r:=by
 rcases h with ⟨_,_,h1,h2⟩|⟨h1,_⟩
 ·exact ⟨h2,h1⟩
 ·exact absurd h1 he
theorem fM (h:XY first r1 e1 r2 e2) (he:e1≠0):e2=e1:=by
 rcases h with ⟨_,_,h⟩|⟨_,h⟩
 ·exact h
 ·exact (E9 h he).1
theorem U8 (h:XY first r1 0 r2 e2):match U9 first r1 with
  | .ok l=>r2=l/\e2=0
  | .error e=>e2=e/\e2≠0:=by
 unfold U9
 rcases h with ⟨h,rfl,rfl⟩|⟨h,h2⟩
 ·rw[AAC h];exact ⟨rfl,rfl⟩
 ·rw[Pe (by rw[h];simp)];exact Bl h2
theorem WL {n:Int} (h:XG n r 0 t0 r1 e1):match Bg n r with
  | .ok p=>t0=p.1/\r1=p.2/\e1=0/\r1.length<r.length
  | .error e2=>e1=e2/\e1≠0:=(Ip h).tk
def Oz (first:Bool) (y:AY) (l:List AB):Except Int (List AB):=(U9 first l).bind fun l0=>(Bg 1 l0).bind fun p=>if p.1.text=y.name then BG ⟨#[58]⟩ p.2 else .error 4
theorem SB (f:Int->List AB->Bool->PR Val) (first:Bool) (y:AY) (ms:List AY) (l:List AB) (k:Bool):BM f first (y::ms) l k=(Oz first y l).bind fun l2=>(f y.type l2 k).bind fun q=>(BM f false ms q.2.1 q.2.2).bind fun r => .ok (q.1::r.1,r.2):=by
 rw[BM];unfold Oz U9
 cases (if first=true then Except.ok l else BG ⟨#[44]⟩ l:Except Int (List AB)) with
 | error e=>rfl
 | ok l0 =>
  rw[zM,zM]
  cases Bg 1 l0 with
  | error e=>rfl
  | ok p =>
   rw[zM,zM]
   by_cases h:p.1.text=y.name
   ·rw[AAC h,AAC h]
   ·rw[Pe h,Pe h];rfl
theorem xS {y:AY} {r3 r4:List AB} {e3 e4:Int} (hA:XY first r1 e1 r2 e2) (hB:XG 1 r2 e2 t0 r3 e3) {e3':Int} (hC:e3'=if t0.text=y.name then e3 else JE e3 4) (hD:Jy ⟨#[58]⟩ r3 e3' r4 e4):
  (e1≠0->e4=e1)/\(e1=0->match Oz first y r1 with
   | .ok l=>r4=l/\e4=0/\r4.length<r1.length
   | .error e=>e4=e/\e4≠0):=by
 have hce:∀e,e≠0->e3=e->e3'=e:=fun e he h3=>by
  subst h3;rw[hC]
  split
  ·rfl
  ·exact Pe he
 refine ⟨fun h1=>?_,fun h1=>?_⟩
 ·have g2:=fM hA h1
  have g3:=(KI hB (by omega)).1
  have g4:=hce e1 h1 (by omega)
  have:=(E9 hD (by omega)).1
  omega
 ·subst h1
  have l2:=ME hA;have ha:=U8 hA;unfold Oz
  cases hc:U9 first r1 with
  | error e =>
   rw[hc] at ha;rw[Aj];have g3:=(KI hB ha.2).1;have g4:=hce e2 ha.2 g3;have:=(E9 hD (by have:=ha.2;omega)).1
   exact ⟨by have:=ha.1;omega,by have:=ha.2;omega⟩
  | ok l =>
   rw[hc] at ha;obtain ⟨rfl,rfl⟩:=ha;rw[zM];have hb:=WL hB
   cases hk:Bg 1 r2 with
   | error e =>
    rw[hk] at hb;rw[Aj];have g4:=hce e3 hb.2 rfl;have:=(E9 hD (by have:=hb.2;omega)).1
    exact ⟨by have:=hb.1;omega,by have:=hb.2;omega⟩
   | ok p =>
    rw[hk] at hb;obtain ⟨rfl,rfl,rfl,hl⟩:=hb;rw[zM]
    by_cases hn:p.1.text=y.name
    ·rw[AAC hn] at hC
     subst hC;rw[AAC hn];have hs:=Bl hD;have hd:=hD.1
     cases hsy:BG ⟨#[58]⟩ p.2 with
     | error e=>rw[hsy] at hs;exact hs
     | ok l=>rw[hsy] at hs;exact ⟨hs.1,hs.2,by omega⟩
    ·rw[Pe hn] at hC
     subst hC;rw[Pe hn];have:=(E9 hD (by unfold JE;simp)).1
     unfold JE at this;exact ⟨by simpa using this,by rw[this];simp⟩
def Q9 (f:Int->List AB->Bool->PR Val) (Rt:PR (List Val)) (acc:List Val) (ms:List AY) (first:Bool) (r:List AB):Prop:=Rt=(BM f first ms r false).bind fun q => .ok (acc++q.1,q.2)
theorem Q9.start (f:Int->List AB->Bool->PR Val) (ms:List AY) (r:List AB):Q9 f (BM f true ms r false) [] ms true r:=by
 unfold Q9
 cases BM f true ms r false with
 | error e=>rfl
 | ok q=>rfl
section
variable {f:Int->List AB->Bool->PR Val} {Rt:PR (List Val)} {acc:List Val} {ms:List AY} {first:Bool} {y:AY} {r l:List AB} {e:Int}
theorem Q9.fin (h:Q9 f Rt acc [] first r):Rt = .ok (acc,r,false):=by
 unfold Q9 at h;rw[h,BM,zM,List.append_nil]
theorem Q9.bad (h:Q9 f Rt acc (y::ms) first r) (hm:Oz first y r = .error e):Rt = .error e:=by
 unfold Q9 at h;rw[h,SB,hm]
 rfl
theorem Q9.yx (h:Q9 f Rt acc (y::ms) first r) (hm:Oz first y r = .ok l) (hv:f y.type l false = .error e):Rt = .error e:=by
 unfold Q9 at h;rw[h,SB,hm,zM,hv]
 rfl
theorem Q9.next (h:Q9 f Rt acc (y::ms) first r) (hm:Oz first y r = .ok l) {v:Val} {r':List AB} (hv:f y.type l false = .ok (v,r',false)):Q9 f Rt (acc++[v]) ms false r':=by
 unfold Q9 at h ⊢;rw[h,SB,hm,zM,hv,zM];simp only
 cases BM f false ms r' false with
 | error e=>rfl
 | ok q=>simp only[zM,AAx,List.singleton_append]
end
def rawH (first:Bool) (l:List AB):Except Int (Ac×List AB):=(U9 first l).bind fun l1=>(Bg 2 l1).bind fun p=>(BG ⟨#[58]⟩ p.2).bind fun l3=>(Bg 3 l3).bind fun q => .ok (⟨GH true p.1.int,q.1.str⟩,q.2)
theorem Rn (first:Bool) (l:List AB):Cx true first l=if Ba ⟨#[125]⟩ l=true then .ok ([],l) else (rawH first l).bind fun p=>(Cx true false p.2).bind fun r => .ok (p.1::r.1,r.2):=by
 rw[IA];unfold rawH U9
 split
 ·rfl
 ·cases (if first=true then Except.ok l else BG ⟨#[44]⟩ l:Except Int (List AB)) with
  | error e=>rfl
  | ok l0 =>
   rw[zM,zM]
   cases Bg 2 l0 with
   | error e=>rfl
   | ok p =>
    rw[zM,zM]
    cases BG ⟨#[58]⟩ p.2 with
    | error e=>rfl
    | ok l3 =>
     rw[zM,zM]
     cases Bg 3 l3 with
     | error e=>rfl
     | ok q=>rfl
theorem xO {r3 r4 r5:List AB} {e3 e4 e5:Int} {t1:AB} (hA:XY first r1 0 r2 e2) (hB:XG 2 r2 e2 t0 r3 e3) (hC:Jy ⟨#[58]⟩ r3 e3 r4 e4) (hD:XG 3 r4 e4 t1 r5 e5):
  match rawH first r1 with
   | .ok p=>(⟨GH true t0.int,t1.str⟩:Ac)=p.1/\r5=p.2/\e5=0/\r5.length<r1.length
   | .error e=>e5=e/\e5≠0:=by
 have l2:=ME hA;have ha:=U8 hA;unfold rawH
 cases hc:U9 first r1 with
 | error e =>
  rw[hc] at ha;rw[Aj];have g3:=(KI hB ha.2).1;have g4:=(E9 hC (by have:=ha.2;omega)).1
  have g5:=(KI hD (by have:=ha.2;omega)).1
  exact ⟨by have:=ha.1;omega,by have:=ha.2;omega⟩
 | ok l =>
  rw[hc] at ha;obtain ⟨rfl,rfl⟩:=ha;rw[zM];have hb:=WL hB
  cases hk:Bg 2 r2 with
  | error e =>
   rw[hk] at hb;rw[Aj];have g4:=(E9 hC hb.2).1;have g5:=(KI hD (by have:=hb.2;omega)).1
   exact ⟨by have:=hb.1;omega,by have:=hb.2;omega⟩
  | ok p =>
   rw[hk] at hb;obtain ⟨rfl,rfl,rfl,hl⟩:=hb;rw[zM];have hs:=Bl hC;have hc2:=hC.1
   cases hsy:BG ⟨#[58]⟩ p.2 with
   | error e =>
    rw[hsy] at hs;rw[Aj];have g5:=(KI hD hs.2).1;exact ⟨by have:=hs.1;omega,by have:=hs.2;omega⟩
   | ok l =>
    rw[hsy] at hs;obtain ⟨rfl,rfl⟩:=hs;rw[zM];have hd:=WL hD
    cases hk3:Bg 3 r4 with
    | error e=>rw[hk3] at hd;exact hd
    | ok z =>
     rw[hk3] at hd;obtain ⟨rfl,rfl,rfl,hl3⟩:=hd;exact ⟨rfl,rfl,rfl,by omega⟩
def VF (Rt:Except Int (List Ac×List AB)) (acc:List Ac) (first:Bool) (r:List AB):Prop:=Rt=(Cx true first r).bind fun q => .ok (acc++q.1,q.2)
theorem VF.start (first:Bool) (r:List AB):VF (Cx true first r) [] first r:=by
 unfold VF
 cases Cx true first r with
 | error e=>rfl
 | ok q=>rfl
section
variable {Rt:Except Int (List Ac×List AB)} {acc:List Ac} {first:Bool} {r:List AB} {e:Int}
theorem VF.fin (h:VF Rt acc first r) (hb:Ba ⟨#[125]⟩ r=true):Rt = .ok (acc,r):=by
 unfold VF at h;rw[h,Rn,AAC hb,zM,List.append_nil]
theorem VF.bad (h:VF Rt acc first r) (hb:Ba ⟨#[125]⟩ r=false) (hm:rawH first r = .error e):Rt = .error e:=by
 unfold VF at h;rw[h,Rn,Pe (by rw[hb];simp),hm]
 rfl
theorem VF.next (h:VF Rt acc first r) (hb:Ba ⟨#[125]⟩ r=false) {p:Ac×List AB} (hm:rawH first r = .ok p):VF Rt (acc++[p.1]) false p.2:=by
 unfold VF at h ⊢;rw[h,Rn,Pe (by rw[hb];simp),hm,zM]
 cases Cx true false p.2 with
 | error e=>rfl
 | ok q=>simp only[zM,AAx,List.singleton_append]
end
end Go.Proofs.YthkkllmmbefedaaGreatDoor



