/-
  Walks: sheaveref06.Symbols, isSymbol.
-/
import Derived.Test.YthkkllmmbefedaaGreatDoorQGU0
namespace Go.Proofs.YthkkllmmbefedaaGreatDoor
open Go.RowKit Go.Proofs.Tryz
set_option maxHeartbeats 16000000
set_option maxRecDepth 100000
variable {ch:UInt8}
theorem pu {s:ByteArray}:((s.extract 0 (Jj ch).size).toList==(Jj ch).toList)=decide (Dm ch <+: s.data.toList):=by
 rw[bytes_beq];have h:s.extract 0 (Jj ch).size=Jj ch↔Dm ch <+: s.data.toList:=by
  rw[List.prefix_iff_eq_take,<-P5]
  constructor
  ·intro h
   have:=congrArg (fun x:ByteArray=>x.data.toList) h
   simp only[EK] at this;exact this.symm
  ·intro h
   have h2:(s.extract 0 (Jj ch).size).data.toList=(Jj ch).data.toList:=by rw[EK];exact h.symm
   have h3:(s.extract 0 (Jj ch).size).data=(Jj ch).data:=Array.toList_inj.1 h2;exact ByteArray.ext h3
 simp only[h]
theorem ja {s:ByteArray} (h:Dm ch <+: s.data.toList):(Jj ch).size<=s.size:=by
 have:=h.length_le;rw[<-U3] at this;exact this
def R5 (S:List UInt8) (v:Int):Prop:=match EH S with
 | some (b,_)=>v=(b.toNat:Int)
 | none=>v = -1
theorem je {S:List UInt8} (hq:∀c r,S=c::r->c.toNat≠34) (h:Dm ch <+: S):R5 S (ch.toNat:Int):=by
 unfold R5;rw[ZB ch S h hq]
theorem pz {S:List UInt8} (hq:∀c r,S=c::r->c.toNat≠34) (h:∀ch:UInt8,¬ Dm ch <+: S):R5 S (-1):=by
 unfold R5
 cases hp:EH S with
 | none=>rfl
 | some p =>
  obtain ⟨b,k⟩:=p;exact absurd (TF hp hq).1 (h b)
theorem UX (ch:UInt8):IntKind.u8.wrap (ch.toNat:Int)=(ch.toNat:Int):=by
 have:=ch.toNat_lt;rw[IntKind.wrap_u8]
 omega
theorem ak (s:ByteArray) (hq:∀c r,s.data.toList=c::r->c.toNat≠34) (_hz:s.size<=140737488355328) (w:World) :
  Calls prog 138 #[.string s] w fun e w'=>∃v:Int,e = .returned (.int .i64 v)/\R5 s.data.toList v/\Below w.heap.size w w':=by
 have HQ:=zh hq;clear hq
 go_enter func138,ntmps138
 go_wp2
 go_loopw [3] (fun i wr=>∃k:Nat,k<=256/\i = .int .i64 (k:Int)/\Hid (Below w.heap.size w wr/\∀ch:UInt8,ch.toNat<k->¬ Dm ch <+: s.data.toList)) (fun i _=>256 - (intOf i).toNat)
 case atStart=>exact ⟨0,by omega,rfl,Pe _ _,fun _ h=>absurd h (by omega)⟩
 case round =>
  obtain ⟨k,hk,rfl,hh⟩:=hrel;have HB:=zh hh.O.1;have HN:=zh hh.O.2;clear hh
  by_cases hlt:k<256
  ·obtain ⟨ch,rfl⟩:∃ch:UInt8,k=ch.toNat:=⟨UInt8.ofNat k,by simp[Nat.mod_eq_of_lt hlt]⟩
   have h1:(ch.toNat:Int)<256:=by omega
   have hw:=UX ch;have HE:=zh (pu (s:=s) (ch:=ch))
   by_cases hsz:(Jj ch).size<=s.size
   ·have z1:decide ((s.size:Int) >= ((Jj ch).size:Int))=true:=by simp;omega
    have z2:((Jj ch).size:Int)<=(s.size:Int):=by omega
    have z3:(0:Int)<=((Jj ch).size:Int):=by omega
    by_cases hp:Dm ch <+: s.data.toList
    ·have q1:((s.extract 0 (Jj ch).size).toList==(Jj ch).toList)=true:=by rw[HE.O];exact AAJ hp
     have HR:=zh (je HQ hp);clear hp HE hsz;go_wp2_with fail;refine (G7 ch _).mono ?_;rintro e w1 ⟨rfl,hb1⟩;have HB1:=zh (zB HB hb1);clear hb1;go_wp2;go_ret;exact ⟨_,rfl,HR.O,HB1.O⟩
    ·have q1:((s.extract 0 (Jj ch).size).toList==(Jj ch).toList)=false:=by rw[HE.O];exact AAP hp
     have SB:Hid (∀c:UInt8,c.toNat<ch.toNat+1->¬ Dm c <+: s.data.toList):=fun c hc=>by
      by_cases e:c.toNat=ch.toNat
      ·rw[Cn e];exact hp
      ·exact HN.O c (by omega)
     clear hp HE hsz;go_wp2_with fail;refine (G7 ch _).mono ?_;rintro e w1 ⟨rfl,hb1⟩;have HB1:=zh (zB HB hb1);clear hb1;go_wp2;go_roundw
     case rel=>exact ⟨ch.toNat+1,by omega,by go_num,HB1.O,SB.O⟩
     case measure=>simp[intOf];omega
   ·have z1:decide ((s.size:Int) >= ((Jj ch).size:Int))=false:=by simp;omega
    have SB:Hid (∀c:UInt8,c.toNat<ch.toNat+1->¬ Dm c <+: s.data.toList):=fun c hc=>by
     by_cases e:c.toNat=ch.toNat
     ·rw[Cn e];exact fun h=>hsz (ja h)
     ·exact HN.O c (by omega)
    have z2:¬ (s.size:Int) >= ((Jj ch).size:Int):=by omega
    clear HE;go_wp2_with fail;refine (G7 ch _).mono ?_;rintro e w1 ⟨rfl,hb1⟩;have HB1:=zh (zB HB hb1);clear hb1;go_wp2;go_roundw
    case rel=>exact ⟨ch.toNat+1,by omega,by go_num,HB1.O,SB.O⟩
    case measure=>simp[intOf];omega
  ·have HR:=zh (pz HQ fun ch=>HN.O ch (by have:=ch.toNat_lt;omega))
   have h1:¬ (k:Int)<256:=by omega
   go_wp2
   go_ret
   exact ⟨_,rfl,HR.O,HB.O⟩
def ACC (u:ByteArray) (n:Int):Option (List UInt8×Nat)->Prop
 | some p=>u=bA p.1/\n=((p.2+1:Nat):Int)
 | none=>u=⟨#[]⟩/\n=0
def yt (w:World) (l:List UInt8) (e:Ending) (w':World):Prop:=∃ (u:ByteArray) (n:Int),e = .returned (.agg #[.string u,.int .i64 n])/\ACC u n (I5 l)/\Below w.heap.size w w'
variable {w w':World}
theorem Vk {l:List UInt8} (h:I5 l=none) (hb:Below w.heap.size w w'):yt w l (.returned (.agg #[.string ⟨#[]⟩,.int .i64 0])) w':=⟨_,_,rfl,by rw[h];exact ⟨rfl,rfl⟩,hb⟩
variable {k:Nat}
theorem lQ {l o:List UInt8} (h:I5 l=some (o,k)) (hb:Below w.heap.size w w'):yt w l (.returned (.agg #[.string (bA o),.int .i64 ((k:Int)+1)])) w':=⟨_,_,rfl,by rw[h];exact ⟨rfl,by show (k:Int)+1=((k+1:Nat):Int);omega⟩,hb⟩
variable {p:Nat} {a0 a1:Value}
theorem wZ {T:TypeId} (h:w.heap[p]? = some (.cells #[a0,a1] T)) (v0 v1:Value):((w.setCell ⟨p,0,none⟩ v0).setCell ⟨p,1,none⟩ v1).heap[p]? = some (.cells #[v0,v1] T):=by
 have h0:=AAK _ _ 0 _ _ v0 h;simp only[ABG,List.set_cons_zero] at h0;have h1:=AAK _ _ 1 _ _ v1 h0;simp only[ABG,List.set_cons_zero,List.set_cons_succ] at h1;exact h1
theorem Wy {T:TypeId} (h:w.heap[p]? = some (.cells #[a0,a1] T)):(w.cell? ⟨p,0,none⟩=some a0/\w.cell? ⟨p,1,none⟩=some a1)/\(w.frozen? ⟨p,0,none⟩=false/\w.frozen? ⟨p,1,none⟩=false):=by
 refine ⟨⟨?_,?_⟩,AAG _ _ _ _ _ h,AAG _ _ _ _ _ h⟩ <;> (rw[AAC _ _ _ _ _ _ h];rfl)
theorem LG {B:Nat} (h:Below B w w') {q:Nat} (hq:B<=q) (v0 v1:Value):Below B w ((w'.setCell ⟨q,0,none⟩ v0).setCell ⟨q,1,none⟩ v1) :=
 (h.setCell (p:=⟨q,0,none⟩) hq _).setCell (p:=⟨q,1,none⟩) hq _
abbrev zTx:Obj := .cells #[.string ⟨#[]⟩,.int .i64 0] 146
theorem Xa (s:ByteArray) (hs:s.size<=140737488355328) (h1:0<s.size) (hq0:s[0].toNat=34) (w:World):Calls prog 86 #[.string s] w (yt w (s.data.toList.drop 1)):=by
 have E5:=zh hs;obtain ⟨L1,hL1⟩:∃L1,s.data.toList.drop 1=L1:=⟨_,rfl⟩;rw[hL1];have UJ:=zh hL1;have q0:((s[0].toNat:Int) != 34)=false:=by rw[hq0];rfl
 have q00:s.toList.isEmpty=false:=by simpa using La h1
 have HX0:=zh (AAA w zTx);have HB0:=zh (zD w zTx);have HZ0:Hid ((w.alloc zTx).heap.size=w.heap.size+1):=by show _=_;simp
 have h10:(0:Int)<(s.size:Int):=by omega
 clear hL1 hq0
 go_enter func86,ntmps86
 go_upto_region 1 with fail
 generalize w.alloc zTx=W0 at *;go_wp2
 go_loopw [3,4] (fun v i wr=>∃ (k:Nat) (o:List UInt8),1<=k/\k<=s.size/\o.length<k/\i = .int .i64 k/\Hid (Gs s.data.toList k o/\xD wr W0.heap.size v o/\Below W0.heap.size W0 wr)) (fun _ i _=>s.size - (intOf i).toNat)
 case atStart =>
  refine ⟨1,[],by omega,by omega,by simp,rfl,?_,AZ.nil _ _,Pe _ _⟩
  unfold Gs
  cases I5 (s.data.toList.drop 1) <;> rfl
 case round =>
  obtain ⟨k,o,hk1,hk2,hol,rfl,hh⟩:=hrel;have HQ:=zh hh.O.1;have HO:=zh hh.O.2.1;have HB:=zh hh.O.2.2;have Bf:=zh (zB HB0 hh.O.2.2);have HX:=zh (zE HX0 hh.O.2.2);clear hh;obtain ⟨wo,rfl⟩:∃wo:World,wo=wr:=⟨_,rfl⟩
  by_cases hlt:k<s.size
  case neg =>
   have HN:=zh (UJ.O▸HQ.O.end_ (show s.data.toList.length<=k by have:s.data.toList.length=s.size:=rfl;omega))
   have e0:k=s.size:=by omega
   subst e0;have q1:¬ (s.size:Int)<(s.size:Int):=by omega
   have q2:((s.size:Int)==(s.size:Int))=true:=by simp
   obtain ⟨⟨z0,z1⟩,y0,y1⟩:=Wy HX;clear hlt;go_wp2;have HK:=zh (wZ HX (.string ⟨#[]⟩) (.int .i64 0));have Oc:=zh (Vk HN (LG Bf (AAF w.heap.size) (.string ⟨#[]⟩) (.int .i64 0)));clear z0 z1 y0 y1;generalize World.setCell _ _ _=W9 at *;obtain ⟨⟨z0,z1⟩,_⟩:=Wy HK
   exact bodyPost_ret (v := .agg #[.string ⟨#[]⟩,.int .i64 0]) (by simp[results,results86,go_sem,z0,z1]) rfl Oc
  have g1:(0:Int)<=(k:Int):=by omega
  have g2:(k:Int)<(s.size:Int):=by omega
  have HD:=zh (VJ hlt);obtain ⟨c,hc⟩:∃c,c=s[k]:=⟨_,rfl⟩;rw[<-hc] at HD
  by_cases c1:c.toNat=34
  ·have HN:=zh (UJ.O▸HQ.O.close hk1 HD c1)
   have q1:((s[k].toNat:Int) != 34)=false:=by rw[<-hc];simp[c1]
   have q2:((k:Int)==(s.size:Int))=false:=by simp;omega
   obtain ⟨⟨z0,z1⟩,y0,y1⟩:=Wy HX;clear c1 HD;go_wp2_with (refine UM rfl (.tmp 47) rfl W0.heap.size _ o rfl HO ?_);have HK:=zh (wZ HX (.string (bA o)) (.int .i64 ((k:Int)+1)));have Oc:=zh (lQ HN (LG Bf (AAF w.heap.size) (.string (bA o)) (.int .i64 ((k:Int)+1))));clear z0 z1 y0 y1;generalize World.setCell _ _ _=W9 at *
   obtain ⟨⟨z0,z1⟩,_⟩:=Wy HK;exact bodyPost_ret (v := .agg #[.string (bA o),.int .i64 ((k:Int)+1)]) (by simp[results,results86,go_sem,z0,z1]) rfl Oc
  have q1:((s[k].toNat:Int) != 34)=true:=by rw[<-hc];simp;omega
  have sM:Hid ((s.extract k s.size).data.toList=c::s.data.toList.drop (k+1)):=by show _=_;rw[Gn,HD.O]
  have HPA:=zh (ak (s.extract k s.size) (fun c' r e=>by
   rw[sM.O] at e
   injection e with e _
   rw[<-e];exact c1) (by
   have h:(s.extract k s.size).size=(s.data.toList.drop k).length:=by rw[<-Gn];rfl
   rw[h,AA8,show s.data.toList.length=s.size from rfl];omega) wo)
  have M5:=zh c1;clear c1;go_wp2_with fail;refine HPA.O.mono ?_;rintro e w5 ⟨v,rfl,hp,hb⟩;have Aq:=zh (zB HB hb);have JM:=zh (HO.O.below hb);have CO:=zh (zE HX hb);have M6:=zh (zB Bf hb);unfold R5 at hp;rw[sM.O] at hp;clear hb
  cases hpl:EH (c::s.data.toList.drop (k+1)) with
  | none =>
   rw[hpl] at hp;simp only at hp;subst hp;have HN:=zh (UJ.O▸HQ.O.bad HD M5 hpl);obtain ⟨⟨z0,z1⟩,y0,y1⟩:=Wy CO;clear hpl HD;go_wp2;have HK:=zh (wZ CO (.string ⟨#[]⟩) (.int .i64 0));have Oc:=zh (Vk HN (LG M6 (AAF w.heap.size) (.string ⟨#[]⟩) (.int .i64 0)));clear z0 z1 y0 y1;generalize World.setCell _ _ _=W9 at *
   obtain ⟨⟨z0,z1⟩,_⟩:=Wy HK;exact bodyPost_ret (v := .agg #[.string ⟨#[]⟩,.int .i64 0]) (by simp[results,results86,go_sem,z0,z1]) rfl Oc
  | some q =>
   obtain ⟨b,n⟩:=q;rw[hpl] at hp;simp only at hp;subst hp;have HN:=zh (HQ.O.step hk1 HD M5 hpl);have hop:=TF hpl (fun c' r e=>by
    injection e with e _
    rw[<-e];exact M5.O)
   have hpr:=Jk hpl;have hqz:(Jj b).size=n:=by rw[U3];exact hop.2.symm
   have hkn:k+n<=s.size:=by
    have:=hpr.2;rw[AAI,AA8,show s.data.toList.length=s.size from rfl] at this
    omega
   have hn1:=hpr.1;have p0:¬ (b.toNat:Int)<0:=by omega
   have hw:=UX b;have Lv:=zh (AZ.alloc JM (.cells #[.int .u8 (b.toNat:Int)] 5));have Ov:Hid ((w5.alloc (.cells #[.int .u8 (b.toNat:Int)] 5)).rangeAt w5.heap.size 0 [.int .u8 (b.toNat:Int)]):=zR w5 [.int .u8 (b.toNat:Int)] 5;have M8:Hid (W0.heap.size<=(w5.alloc (.cells #[.int .u8 (b.toNat:Int)] 5)).heap.size):=by have:=Aq.O.size;show _<=_;simp;omega
   clear hpl HD hop hpr
   go_wp2_with (first|(at_builtin;refine yG rE _ rfl (.tmp 31) (.tmp 34) rfl W0.heap.size _ _ _ rfl Lv w5.heap.size 0 1 1 [.int .u8 (b.toNat:Int)] rfl rfl Ov (by simp[Value.oneCell']) (by have:=E5.O;omega) (by have:=E5.O;omega) M8 ?_;intro v8 w8 BB Aw;have Ig:=zh (AZ.snoc (x:=b) BB);have BF:=zh ((Aq.O.alloc Aq.O.size _).grown Aw M8 Lv.O.lt);clear BB Aw)|fail)
   refine (G7 b _).mono ?_;rintro e w9 ⟨rfl,za⟩;have nC:=zh (Ig.O.below za);have Ij:=zh (zB BF za);clear za;go_wp2;go_roundw
   case rel=>exact ⟨k+n,o++[b],by omega,hkn,by simp;omega,by go_num,HN.O,nC.O,Ij.O⟩
   case measure=>simp[intOf];omega
abbrev af (t:AJ) (n:Int):Value := .agg #[.int .i64 t.kind,.string t.text,.int .i64 t.int,.string t.str,.int .i64 t.line,.int .i64 n]
abbrev Wq:AJ:=⟨0,⟨#[]⟩,0,⟨#[]⟩,0⟩
def NxM (t:AJ) (n:Int):Option (AJ×Nat)->Prop
 | some p=>t=p.1/\n=(p.2:Int)
 | none=>n=0
def WE (r:Option (AJ×Nat)) (w:World) (e:Ending) (w':World):Prop:=∃ (t:AJ) (n:Int),e = .returned (af t n)/\NxM t n r/\Below w.heap.size w w'
variable {r:Option (AJ×Nat)}
theorem TI (h:r=none) (hb:Below w.heap.size w w'):WE r w (.returned (af Wq 0)) w':=⟨_,_,rfl,by rw[h];rfl,hb⟩
theorem TH {t:AJ} (h:r=some (t,k)) (hb:Below w.heap.size w w'):WE r w (.returned (af t k)) w':=⟨_,_,rfl,by rw[h];exact ⟨rfl,rfl⟩,hb⟩
abbrev Iy (w:World) (p:Nat) (v0 v1 v2 v3 v4 v5:Value):World:=(((((w.setCell ⟨p,0,none⟩ v0).setCell ⟨p,1,none⟩ v1).setCell ⟨p,2,none⟩ v2).setCell ⟨p,3,none⟩ v3).setCell ⟨p,4,none⟩ v4).setCell ⟨p,5,none⟩ v5
variable {a2 a3 a4 a5:Value}
theorem ADe {T:TypeId} (h:w.heap[p]? = some (.cells #[a0,a1,a2,a3,a4,a5] T)) (v0 v1 v2 v3 v4 v5:Value):(Iy w p v0 v1 v2 v3 v4 v5).heap[p]? = some (.cells #[v0,v1,v2,v3,v4,v5] T):=by
 have h0:=AAK _ _ 0 _ _ v0 h;simp only[ABG,List.set_cons_zero] at h0;have h1:=AAK _ _ 1 _ _ v1 h0;simp only[ABG,List.set_cons_zero,List.set_cons_succ] at h1;have h2:=AAK _ _ 2 _ _ v2 h1;simp only[ABG,List.set_cons_zero,List.set_cons_succ] at h2;have h3:=AAK _ _ 3 _ _ v3 h2
 simp only[ABG,List.set_cons_zero,List.set_cons_succ] at h3;have h4:=AAK _ _ 4 _ _ v4 h3;simp only[ABG,List.set_cons_zero,List.set_cons_succ] at h4;have h5:=AAK _ _ 5 _ _ v5 h4;simp only[ABG,List.set_cons_zero,List.set_cons_succ] at h5;exact h5
theorem BR {T:TypeId} (h:w.heap[p]? = some (.cells #[a0,a1,a2,a3,a4,a5] T)):(w.cell? ⟨p,0,none⟩=some a0/\w.cell? ⟨p,1,none⟩=some a1/\w.cell? ⟨p,2,none⟩=some a2/\w.cell? ⟨p,3,none⟩=some a3/\w.cell? ⟨p,4,none⟩=some a4/\w.cell? ⟨p,5,none⟩=some a5) /\
  (w.frozen? ⟨p,0,none⟩=false/\w.frozen? ⟨p,1,none⟩=false/\w.frozen? ⟨p,2,none⟩=false/\w.frozen? ⟨p,3,none⟩=false/\w.frozen? ⟨p,4,none⟩=false/\w.frozen? ⟨p,5,none⟩=false):=by
 refine ⟨⟨?_,?_,?_,?_,?_,?_⟩,AAG _ _ _ _ _ h,AAG _ _ _ _ _ h,AAG _ _ _ _ _ h,AAG _ _ _ _ _ h,AAG _ _ _ _ _ h,AAG _ _ _ _ _ h⟩ <;> (rw[AAC _ _ _ _ _ _ h];rfl)
theorem XH {B:Nat} (h:Below B w w') {q:Nat} (hq:B<=q) (v0 v1 v2 v3 v4 v5:Value):Below B w (Iy w' q v0 v1 v2 v3 v4 v5) :=
 (((((h.setCell (p:=⟨q,0,none⟩) hq _).setCell (p:=⟨q,1,none⟩) hq _).setCell (p:=⟨q,2,none⟩) hq _).setCell (p:=⟨q,3,none⟩) hq _).setCell (p:=⟨q,4,none⟩) hq _).setCell (p:=⟨q,5,none⟩) hq _
abbrev ni:Obj := .cells #[.int .i64 0,.string ⟨#[]⟩,.int .i64 0,.string ⟨#[]⟩,.int .i64 0,.int .i64 0] 109
variable {n:Int}
theorem Fg {W:World} {t:AJ} (hX:W.heap[w.heap.size]? = some (.cells #[a0,a1,a2,a3,a4,a5] 109)) (hb:Below w.heap.size w W) (h:∀w',Below w.heap.size w w'->WE r w (.returned (af t n)) w'):
  (Iy W w.heap.size (.int .i64 t.kind) (.string t.text) (.int .i64 t.int) (.string t.str) (.int .i64 t.line) (.int .i64 n)).heap[w.heap.size]? = some (.cells #[.int .i64 t.kind,.string t.text,.int .i64 t.int,.string t.str,.int .i64 t.line,.int .i64 n] 109) /\
  WE r w (.returned (af t n)) (Iy W w.heap.size (.int .i64 t.kind) (.string t.text) (.int .i64 t.int) (.string t.str) (.int .i64 t.line) (.int .i64 n)) :=
 ⟨ADe hX _ _ _ _ _ _,h _ (XH hb (AAF _) _ _ _ _ _ _)⟩
def Gu (T:List UInt8) (k:Nat) (n sg:Int):Prop:=(-9223372036854775808<=n/\n<=9223372036854775807) /\
 (k=0->n=0/\sg=1)/\(1<=k->(sg = -1/\(T.headD 0).toNat=45/\∃z,n=Ml (-1) 0 ((T.take k).drop 1)+18446744073709551616 * z)\/(sg=1/\(T.headD 0).toNat≠45/\∃z,n=Ml 1 0 (T.take k)+18446744073709551616 * z))
theorem Gu.start (T:List UInt8):Gu T 0 0 1:=⟨by omega,fun _=>⟨rfl,rfl⟩,fun h=>absurd h (by omega)⟩
variable {T:List UInt8}
theorem Gu.neg (hT:0<T.length) (h:(T.headD 0).toNat=45):Gu T 1 0 (-1) :=
 ⟨by omega,fun h=>absurd h (by omega),fun _=>Or.inl ⟨rfl,h,0,by
  cases T with
  | nil=>cases hT
  | cons c r=>rfl⟩⟩
theorem Gu.step {sg m:Int} (h:Gu T k n sg) (hk:k<T.length) (hs:k=0->(T.headD 0).toNat≠45) (hm:-9223372036854775808<=m/\m<=9223372036854775807) {z:Int} (hz:m=10 * n+sg * ((T[k].toNat:Int) - 48)+18446744073709551616 * z):Gu T (k+1) m sg:=by
 refine ⟨hm,fun h=>absurd h (by omega),fun _=>?_⟩
 have ht:T.take (k+1)=T.take k++[T[k]]:=by rw[ABq hk]
 by_cases h0:k=0
 ·obtain ⟨rfl,rfl⟩:=h.2.1 h0
  right
  refine ⟨rfl,hs h0,z,?_⟩;subst h0;rw[ht,Ib]
  show m=10 * Ml 1 0 []+_+_
  rw[Ml];exact hz
 ·rcases h.2.2 (by omega) with ⟨rfl,h1,y,hy⟩|⟨rfl,h1,y,hy⟩
  ·left
   refine ⟨rfl,h1,10 * y+z,?_⟩;rw[ht,List.drop_append_of_le_length (by rw[List.length_take];omega),Ib]
   omega
  ·right
   refine ⟨rfl,h1,10 * y+z,?_⟩;rw[ht,Ib]
   omega
theorem Gu.O {sg:Int} (h:Gu T T.length n sg) (h0:0<T.length):F9 T=if Lib.itoa n=T then some n else none:=by
 rcases h.2.2 h0 with ⟨rfl,h1,y,hy⟩|⟨rfl,h1,y,hy⟩
 ·refine VT h.1.1 h.1.2 (k:=y) ?_
  rw[hy,List.take_length]
  cases T with
  | nil=>cases h0
  | cons c r=>rw[XV,AAB (show c.toNat=45 from h1)];rfl
 ·refine VT h.1.1 h.1.2 (k:=y) ?_
  rw[hy,List.take_length]
  cases T with
  | nil=>cases h0
  | cons c r=>rw[XV,Pd (show ¬ c.toNat=45 from h1)]
def bV (s:ByteArray):Option (AJ×Nat):=(F9 s.data.toList).map fun v=>(⟨2,⟨#[]⟩,v,⟨#[]⟩,0⟩,s.size)
theorem Ye (x:Int):∃z,wrap64 x=x+18446744073709551616 * z /\ -9223372036854775808<=wrap64 x/\wrap64 x<=9223372036854775807:=by
 refine ⟨(wrap64 x - x) / 18446744073709551616,?_,?_,?_⟩ <;> (unfold wrap64;omega)
theorem Sr (s:ByteArray) (hs:s.size<=140737488355328) (h1:0<s.size) (w:World) (hE:IB w):Calls prog 85 #[.string s] w (WE (bV s) w):=by
 have HE:=zh hE;have E5:=zh hs;have hsl:s.data.toList.length=s.size:=rfl;have h10:(0:Int)<(s.size:Int):=by omega
 have yU:Hid ((s.data.toList.headD 0).toNat=s[0].toNat):=by show _=_;rw[G9 h1];rfl
 have HX0:=zh (AAA w ni);have HB0:=zh (zD w ni);obtain ⟨R,hR⟩:∃R,bV s=R:=⟨_,rfl⟩;rw[hR];have HR:=zh hR;clear hE hR
 go_enter func85,ntmps85
 go_upto_region 1 with fail
 generalize w.alloc ni=W0 at *;go_wp2
 go_loopw [3,4,5] (fun a b i wr=>∃ (k:Nat) (n sg:Int),k<=s.size/\i = .int .i64 k/\a = .int .i64 n/\b = .int .i64 sg/\Hid (Gu s.data.toList k n sg)/\Hid (Below W0.heap.size W0 wr)) (fun _ _ i _=>s.size - (intOf i).toNat)
 case atStart=>exact ⟨0,0,1,by omega,rfl,rfl,rfl,Gu.start _,Pe _ _⟩
 case round =>
  obtain ⟨k,n,sg,hk,rfl,rfl,rfl,hia,hbw⟩:=hrel;obtain ⟨wo,rfl⟩:∃wo:World,wo=wr:=⟨_,rfl⟩
  by_cases hlt:k<s.size
  ·have g1:(0:Int)<=(k:Int):=by omega
   have g2:(k:Int)<(s.size:Int):=by omega
   by_cases hn:k=0/\s[0].toNat=45
   ·obtain ⟨rfl,h45⟩:=hn
    have q2:((s[0].toNat:Int)==45)=true:=by rw[h45];rfl
    have HN:=zh (Gu.neg (T:=s.data.toList) (by omega) (yU.O.trans h45))
    clear h45;obtain ⟨rfl,rfl⟩:=hia.O.2.1 rfl;go_wp2;go_roundw
    case rel=>exact ⟨1,0,-1,by omega,by go_num,rfl,rfl,HN.O,hbw.O⟩
    case measure=>simp[intOf];omega
   ·obtain ⟨ch,hch⟩:∃ch,ch=s[k]:=⟨_,rfl⟩
    have AAy:s.data.toList[k]'(by omega)=ch:=by rw[hch];rfl
    have AG0:=ch.toNat_lt;obtain ⟨r1,hr1⟩:∃r1,wrap64 (10 * n)=r1:=⟨_,rfl⟩;obtain ⟨r2,hr2⟩:∃r2,wrap64 (r1+sg * ((ch.toNat:Int) - 48))=r2:=⟨_,rfl⟩;have Zu:Hid (Gu s.data.toList (k+1) r2 sg):=by
     obtain ⟨z1,e1,_,_⟩:=Ye (10 * n);obtain ⟨z2,e2,e3,e4⟩:=Ye (r1+sg * ((ch.toNat:Int) - 48));rw[hr1] at e1;rw[hr2] at e2 e3 e4;refine hia.O.step (by omega) (fun h0 h45=>hn ⟨h0,?_⟩) ⟨e3,e4⟩ (z:=z1+z2) ?_
     ·rw[<-yU.O];exact h45
     ·rw[AAy,e2,e1];omega
    have mh:Hid (sg=1\/sg = -1):=by
     show _\/_
     by_cases h0:k=0
     ·exact Or.inl (hia.O.2.1 h0).2
     ·rcases hia.O.2.2 (by omega) with ⟨e,_⟩|⟨e,_⟩
      ·exact Or.inr e
      ·exact Or.inl e
    have hqq:((k:Int)==0)=false\/(((k:Int)==0)=true/\((s[k].toNat:Int)==45)=false):=by
     by_cases h0:k=0
     ·right
      subst h0;refine ⟨rfl,?_⟩;have:s[0].toNat≠45:=fun e=>hn ⟨rfl,e⟩
      simp;omega
     ·left;simp;omega
    subst hch;clear AAy hn hia
    rcases mh.O with rfl|rfl
    ·rcases hqq with q1|⟨q1,q2⟩
     ·go_wp2
      go_roundw
      case rel=>exact ⟨k+1,r2,1,by omega,by go_num,congrArg (Value.int .i64) (by rw[<-hr2];congr 1;omega),rfl,Zu.O,hbw.O⟩
      case measure=>simp[intOf];omega
     ·go_wp2
      go_roundw
      case rel=>exact ⟨k+1,r2,1,by omega,by go_num,congrArg (Value.int .i64) (by rw[<-hr2];congr 1;omega),rfl,Zu.O,hbw.O⟩
      case measure=>simp[intOf];omega
    ·rcases hqq with q1|⟨q1,q2⟩
     ·go_wp2
      go_roundw
      case rel=>exact ⟨k+1,r2,-1,by omega,by go_num,congrArg (Value.int .i64) (by rw[<-hr2];congr 1;omega),rfl,Zu.O,hbw.O⟩
      case measure=>simp[intOf];omega
     ·go_wp2
      go_roundw
      case rel=>exact ⟨k+1,r2,-1,by omega,by go_num,congrArg (Value.int .i64) (by rw[<-hr2];congr 1;omega),rfl,Zu.O,hbw.O⟩
      case measure=>simp[intOf];omega
  ·have e0:k=s.size:=by omega
   subst e0;have g3:¬ (s.size:Int)<(s.size:Int):=by omega
   have HO:=zh (Gu.O (show Gu s.data.toList s.data.toList.length n sg from hia.O) h1);have nD:=zh hia.O.1;have Bf:=zh (zB HB0 hbw.O);have rW:=zh (zE HX0 hbw.O);have HF:=zh (QM n nD wo (HE.O.below (zB HB0 hbw.O)));clear hia hbw hlt hk
   by_cases he:Lib.itoa n=s.data.toList
   ·have q1:((bA (Lib.itoa n)).toList != s.toList)=false:=by
     rw[Lib.toList_data,Lib.toList_data,show (bA (Lib.itoa n)).data.toList=Lib.itoa n from rfl,he];simp
    have q2:((bA (Lib.itoa n)).toList==s.toList)=true:=by
     rw[Lib.toList_data,Lib.toList_data,show (bA (Lib.itoa n)).data.toList=Lib.itoa n from rfl,he];simp
    have q3:(bA (Lib.itoa n)).toList=s.toList:=by simpa using q2
    have Ou:Hid (R=some (⟨2,⟨#[]⟩,n,⟨#[]⟩,0⟩,s.size)):=by
     show _=_
     rw[<-HR.O,bV,HO.O,AAB he];rfl
    obtain ⟨⟨z0,z1,z2,z3,z4,z5⟩,y0,y1,y2,y3,y4,y5⟩:=BR rW;clear he z0 z1 z2 z3 z4 z5 y0 y1 y2 y3 y4 y5;go_wp2_with fail;refine HF.O.mono ?_;rintro e w5 ⟨rfl,hb5⟩;have M6:=zh (zB Bf hb5);have CO:=zh (zE rW hb5);clear hb5;obtain ⟨⟨z0,z1,z2,z3,z4,z5⟩,y0,y1,y2,y3,y4,y5⟩:=BR CO;go_wp2
    have HK:=zh (Fg (t:=⟨2,⟨#[]⟩,n,⟨#[]⟩,0⟩) CO M6 fun w' hb=>TH Ou hb)
    clear z0 z1 z2 z3 z4 z5 y0 y1 y2 y3 y4 y5;unfold Go.Proofs.YthkkllmmbefedaaGreatDoor.Iy at HK;generalize World.setCell _ _ _=W9 at *;obtain ⟨⟨z0,z1,z2,z3,z4,z5⟩,_⟩:=BR HK.O.1
    exact bodyPost_ret (v:=af ⟨2,⟨#[]⟩,n,⟨#[]⟩,0⟩ s.size) (by simp[results,results85,go_sem,z0,z1,z2,z3,z4,z5]) rfl HK.O.2
   ·have q1:((bA (Lib.itoa n)).toList != s.toList)=true:=by
     rw[Lib.toList_data,Lib.toList_data,show (bA (Lib.itoa n)).data.toList=Lib.itoa n from rfl];simp[he]
    have q2:((bA (Lib.itoa n)).toList==s.toList)=false:=by
     rw[Lib.toList_data,Lib.toList_data,show (bA (Lib.itoa n)).data.toList=Lib.itoa n from rfl];simp[he]
    have q3:¬ (bA (Lib.itoa n)).toList=s.toList:=by simpa using q2
    have Ou:Hid (R=none):=by
     show _=_
     rw[<-HR.O,bV,HO.O,Pd he];rfl
    clear he;go_wp2_with fail;refine HF.O.mono ?_;rintro e w5 ⟨rfl,hb5⟩;have M6:=zh (zB Bf hb5);have CO:=zh (zE rW hb5);clear hb5;obtain ⟨⟨z0,z1,z2,z3,z4,z5⟩,y0,y1,y2,y3,y4,y5⟩:=BR CO;go_wp2;have HK:=zh (Fg (t:=Wq) (n:=0) CO M6 fun w' hb=>TI Ou hb)
    clear z0 z1 z2 z3 z4 z5 y0 y1 y2 y3 y4 y5;unfold Go.Proofs.YthkkllmmbefedaaGreatDoor.Iy at HK;generalize World.setCell _ _ _=W9 at *;obtain ⟨⟨z0,z1,z2,z3,z4,z5⟩,_⟩:=BR HK.O.1;exact bodyPost_ret (v:=af Wq 0) (by simp[results,results85,go_sem,z0,z1,z2,z3,z4,z5]) rfl HK.O.2
def IJ:List ByteArray:=[⟨#[123]⟩,⟨#[125]⟩,⟨#[40]⟩,⟨#[41]⟩,⟨#[91]⟩,⟨#[93]⟩,⟨#[44]⟩,⟨#[59]⟩,⟨#[58]⟩,⟨#[61]⟩,⟨#[46]⟩,⟨#[46,46]⟩,⟨#[45,62]⟩,⟨#[33]⟩,⟨#[63]⟩,⟨#[64]⟩,⟨#[42]⟩,⟨#[124]⟩]
theorem iV (w:World) (L:List ByteArray) (hL:L.length<=1000) (hz:∀x∈L,Cw x):JK (w.alloc (.cells (L.map Value.string).toArray 9)) (some ⟨w.heap.size,0,none⟩) L:=by
 refine ⟨by unfold EF;omega,fun _=>⟨_,_,rfl,fun i x hx=>⟨[.string x],⟨hz x (ABp hx),rfl⟩,fun j u hj=>?_⟩⟩⟩
 have hr:=zR w (L.map Value.string) 9
 match j,hj with
 | 0,hj =>
  obtain rfl:Value.string x=u:=by simpa using hj
  have:=hr i (.string x) (by rw[List.getElem?_map,hx];rfl)
  simpa using this
 | k+1,hj=>simp at hj
theorem iW {A:zo} {l:List ByteArray} (h:JK w A l) {i:Nat} (hi:i<l.length):∃b o,A=some ⟨b,o,none⟩/\w.cell? ⟨b,o+i,none⟩=some (.string l[i]):=by
 obtain ⟨b,o,cs,e,⟨_,rfl⟩,h2⟩:=AY.at_ h hi;have:=h2 0 _ rfl;exact ⟨b,o,e,by simpa using this⟩
theorem iU:∀x∈IJ,Cw x:=by
 intro x hx
 have:∀y∈IJ,y.size<=100:=by decide
 have:=this x hx;unfold Cw;omega
theorem Sn (w:World):Calls prog 139 #[] w fun e w'=>∃A c,e = .returned (.slice A IJ.length c)/\JK w' A IJ/\Below w.heap.size w w':=by
 have HN:=zh (iV w IJ (by decide) iU)
 have HB:=zh (zD w (.cells (IJ.map Value.string).toArray 9))
 go_enter func139,ntmps139
 go_wp2
 go_ret
 exact ⟨some ⟨w.heap.size,0,none⟩,18,rfl,HN.O,HB.O⟩
theorem Qn (s:ByteArray) (w:World):Calls prog 87 #[.string s] w fun e w'=>e = .returned (.bool (IJ.any fun x=>decide (x=s)))/\Below w.heap.size w w':=by
 have Mv:=zh Sn;have hlen:IJ.length<=18:=by decide
 generalize IJ=L at *
 go_enter func87,ntmps87
 go_wp2_with fail
 refine (Mv.O w).mono ?_;rintro e w1 ⟨A,c,rfl,hr,hb⟩;have HR:=zh hr;have HB:=zh hb;clear hr hb;go_wp2
 go_loopw [4] (fun i wr=>∃k:Nat,k<=L.length/\i = .int .i64 k/\Hid (∀j (h:j<L.length),j<k->L[j]≠s)/\Hid (Below w1.heap.size w1 wr)) (fun i _=>L.length - (intOf i).toNat)
 case atStart=>exact ⟨0,by omega,rfl,fun j _ h=>absurd h (by omega),Pe _ _⟩
 case round =>
  obtain ⟨k,hk,rfl,hn,hbw⟩:=hrel;have HN:=zh hn.O;have Bf:=zh hbw.O;clear hn hbw
  by_cases hlt:k<L.length
  ·obtain ⟨b,o,rfl,r0⟩:=iW (HR.O.below Bf) hlt
   have g1:(0:Int)<=(k:Int):=by omega
   have g2:(k:Int)<(L.length:Int):=by omega
   by_cases he:L[k]=s
   ·have q1:((L[k]).toList==s.toList)=true:=by rw[bytes_beq];exact AAJ he
    have HD:Hid ((L.any fun x=>decide (x=s))=true):=ABx.2 ⟨L[k],AAL hlt,AAJ he⟩
    clear he;go_wp2;go_ret;exact ⟨by rw[HD.O];rfl,zB HB Bf⟩
   ·have q1:((L[k]).toList==s.toList)=false:=by rw[bytes_beq];exact AAP he
    have nE:Hid (∀j (h:j<L.length),j<k+1->L[j]≠s):=fun j h hj=>by
     by_cases e:j=k
     ·subst e;exact he
     ·exact HN.O j h (by omega)
    clear he;go_wp2;go_roundw
    case rel=>exact ⟨k+1,by omega,by go_num,nE.O,Bf.O⟩
    case measure=>simp[intOf];omega
  ·have HD:Hid ((L.any fun x=>decide (x=s))=false):=List.any_eq_false.2 fun x hm he=>by
    obtain ⟨j,hj,rfl⟩:=ABi hm;exact HN.O j hj (by omega) (AAr he)
   have g2:¬ (k:Int)<(L.length:Int):=by omega
   go_wp2
   go_ret
   exact ⟨by rw[HD.O];rfl,zB HB Bf⟩
theorem aO (l:List UInt8):(IJ.any fun x=>decide (x=bA l))=true↔l∈Ao:=by
 have h1:∀x∈IJ,x.data.toList∈Ao:=by decide
 have h2:∀x∈Ao,(IJ.any fun y=>decide (y=bA x))=true:=by decide
 constructor
 ·intro h
  obtain ⟨x,hx,he⟩:=ABx.1 h;have:=h1 x hx;rw[AAr he] at this;exact this
 ·exact h2 l
