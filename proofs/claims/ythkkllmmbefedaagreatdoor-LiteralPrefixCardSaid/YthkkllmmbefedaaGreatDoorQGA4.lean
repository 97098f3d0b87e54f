/-
  The laws of literals, of the plain functions.
-/
import Derived.Test.YthkkllmmbefedaaGreatDoorQGA3
namespace Go.Proofs.YthkkllmmbefedaaGreatDoor
set_option maxHeartbeats 16000000
set_option maxRecDepth 100000
def tZ (ln:Int) (t:AJ):AJ:={ t with line:=ln }
def dZ (r:List UInt8):Prop:=∀c q,r=c::q->(BM c||zZ c)=false
def EC (a:List UInt8) (w:List AJ):Prop:=∀ln rest,Ap ln (a++rest)=(Ap ln rest).map fun o=>w.map (tZ ln)++o
def Ef (a:List UInt8) (w:List AJ):Prop:=∀ln rest,dZ rest->Ap ln (a++rest)=(Ap ln rest).map fun o=>w.map (tZ ln)++o
variable {w:List AJ} {a:List UInt8}
theorem EC.s (h:EC a w):Ef a w:=fun ln rest _=>h ln rest
theorem KW {α:Type} (a:Except Int (List α)) (u w:List α):(a.map fun o=>w++o).map (fun o=>u++o)=a.map fun o=>(u++w)++o:=by
 cases a with
 | error e=>rfl
 | ok o=>exact congrArg Except.ok (AAo u w o).symm
variable {u:List AJ} {b:List UInt8}
theorem EC.app (h1:EC a u) (h2:EC b w):EC (a++b) (u++w):=fun ln rest=>by
 rw[AAo,h1,h2,KW,List.map_append]
theorem EC.QW (h1:EC a u) (h2:Ef b w):Ef (a++b) (u++w):=fun ln rest hr=>by
 rw[AAo,h1,h2 ln rest hr,KW,List.map_append]
def Stop (b:List UInt8):Prop:=∃c q,b=c::q/\(BM c||zZ c)=false
theorem Stop.sep (h:Stop b) (r:List UInt8):dZ (b++r):=by
 obtain ⟨c,q,rfl,hc⟩:=h
 intro d p e
 injection e with e1 e2
 subst e1;exact hc
theorem Ef.app (h1:Ef a u) (hb:Stop b) (h2:EC b w):EC (a++b) (u++w):=fun ln rest=>by
 rw[AAo,h1 ln _ (hb.sep rest),h2,KW,List.map_append]
theorem Ef.QW (h1:Ef a u) (hb:Stop b) (h2:Ef b w):Ef (a++b) (u++w):=fun ln rest hr=>by
 rw[AAo,h1 ln _ (hb.sep rest),h2 ln rest hr,KW,List.map_append]
theorem EC.nil:EC [] []:=fun ln rest=>by
 rw[List.nil_append]
 cases Ap ln rest <;> rfl
theorem o9:dZ []:=fun c q h=>by cases h
variable {r:List UInt8} {c:UInt8}
theorem KX {rest:List UInt8} {t:AJ} (ln:Int) (h1:c.toNat≠10) (h2:¬ (c.toNat=32\/c.toNat=9)) (h3:¬ (c.toNat=47/\((r++rest).headD 0).toNat=47)) (ht:CP (c::(r++rest))=some (t,(c::r).length)):
  Ap ln (c::r++rest)=(Ap ln rest).map fun o=>[t].map (tZ ln)++o:=by
 rw[AAs,BO,Pd h1,Pd h2,Pd h3,ht];simp only;rw[show (c::(r++rest)).drop (c::r).length=rest by rw[<-AAs];exact List.drop_left]
 rfl
theorem ZP (h:BM c=true):c.toNat=95\/(97<=c.toNat/\c.toNat<=122)\/(65<=c.toNat/\c.toNat<=90):=by
 unfold BM Dn at h;simp only[ACE,AAD,AAV] at h
 omega
theorem Mf:zZ c=true↔48<=c.toNat/\c.toNat<=57:=by
 unfold zZ FX;simp only[AAD,AAV]
 omega
theorem Nv (h:¬ (48<=c.toNat/\c.toNat<=57)):zZ c=false:=by
 rw[Bool.eq_false_iff,ne_eq,Mf];exact h
theorem Nk (h:¬ (c.toNat=95\/(97<=c.toNat/\c.toNat<=122)\/(65<=c.toNat/\c.toNat<=90))):BM c=false:=by
 cases hc:BM c with
 | false=>rfl
 | true=>exact absurd (ZP hc) h
theorem wB (h:zZ c=true):BM c=false:=Nk (by have:=Mf.1 h;omega)
theorem kU (ha:a.all (fun d=>BM d||zZ d)=true) (hr:dZ r):Bh (a++r)=a.length:=by
 induction a with
 | nil =>
  cases r with
  | nil=>rfl
  | cons c q=>rw[List.nil_append,Bh,hr c q rfl];rfl
 | cons c q ih =>
  rw[List.all_cons,AAD] at ha;rw[AAs,Bh,AAB ha.1,ih ha.2];rfl
theorem Vw (ha:∀c∈a,zZ c=true) (hr:dZ r):Dh (a++r)=a.length:=by
 induction a with
 | nil =>
  cases r with
  | nil=>rfl
  | cons c q =>
   have:=hr c q rfl;rw[Bool.or_eq_false_iff] at this;rw[List.nil_append,Dh,this.2];rfl
 | cons c q ih =>
  rw[AAs,Dh,AAB (ha c (ABT ..)),ih fun d hd=>ha d (ABZ _ hd)];rfl
theorem rM (s:ByteArray):bA s.data.toList=s:=rfl
theorem LY {s:ByteArray} (h:Bz s=true):Ef s.data.toList [O4 s]:=fun ln rest hr=>by
 unfold Bz at h;simp only[AAD,AAV] at h;obtain ⟨⟨⟨h0,h1⟩,h2⟩,h3⟩:=h;have hlen:s.data.toList.length=s.size:=rfl;have hbs:=rM s;generalize s.data.toList=l at *
 cases l with
 | nil=>rw[<-hlen] at h0;cases h0
 | cons c q =>
  have hc:BM c=true:=h2;have hg:=ZP hc;have ha:(c::q).all (fun d=>BM d||zZ d)=true:=h3
  refine KX ln (by omega) (by omega) (by omega) ?_
  have hk:=kU ha hr;rw[AAs] at hk;rw[CP,hc,AAB rfl,hk,AAB (by rw[hlen];exact h1)]
  have ht:(c::(q++rest)).take (c::q).length=c::q:=by rw[<-AAs];exact List.take_left
  rw[ht,hbs];rfl
theorem Xw (v:Int):(∃c q,Lib.itoa v=c::q/\zZ c=true/\∀d∈q,zZ d=true)\/(∃d q,Lib.itoa v=45::d::q/\zZ d=true/\∀e∈q,zZ e=true):=by
 have hd:∀u:Nat,∀b∈Lib.decDigits u,zZ b=true:=fun u b hb=>Mf.2 (Gq u b hb)
 by_cases hn:v<0
 ·have hv:v = -(v.natAbs:Int):=by omega
  rw[hv,Lib.itoa_neg _ (by omega)]
  cases hc:Lib.decDigits v.natAbs with
  | nil=>exact absurd hc (DZ _)
  | cons c q=>exact Or.inr ⟨c,q,rfl,hd _ _ (by rw[hc];exact ABT ..),fun d hm=>hd v.natAbs d (by rw[hc];exact ABZ _ hm)⟩
 ·have hv:v=(v.toNat:Int):=by omega
  rw[hv,Lib.itoa_nonneg]
  cases hc:Lib.decDigits v.toNat with
  | nil=>exact absurd hc (DZ _)
  | cons c q=>exact Or.inl ⟨c,q,rfl,hd _ _ (by rw[hc];exact ABT ..),fun d hm=>hd v.toNat d (by rw[hc];exact ABZ _ hm)⟩
theorem TP {v:Int} (h:-9223372036854775808<=v/\v<=9223372036854775807):Ef (Lib.itoa v) [cO v]:=fun ln rest hr=>by
 have hi:F9 (Lib.itoa v)=some v:=MU.2 ⟨h,rfl⟩
 rcases Xw v with ⟨c,q,e,hc,hq⟩|⟨d,q,e,hd,hq⟩
 ·rw[e] at hi ⊢
  have hg:=Mf.1 hc;refine KX ln (by omega) (by omega) (by omega) ?_
  have hk:=Vw hq hr;rw[CP,wB hc,Pd (by simp),hc,Bool.true_or,AAB rfl,hk]
  have ht:(c::(q++rest)).take (1+q.length)=c::q:=by rw[Nat.add_comm,List.take_succ_cons,List.take_left]
  rw[ht,hi,Nat.add_comm];rfl
 ·rw[e] at hi ⊢
  have hg:=Mf.1 hd;have h45:(45:UInt8).toNat=45:=rfl;refine KX ln (by omega) (by omega) (by omega) ?_
  have hk:Dh (d::q++rest)=(d::q).length:=Vw (fun c hc=>by
   rcases ABP.1 hc with rfl|hc
   ·exact hd
   ·exact hq c hc) hr
  rw[CP,Nk (by omega),Pd (by simp),Nv (by omega),Bool.false_or]
  have h1:(decide ((45:UInt8).toNat=45)&&zZ ((d::q++rest).headD 0))=true:=by
   rw[AAD];exact ⟨rfl,hd⟩
  rw[h1,AAB rfl,hk];have ht:((45:UInt8)::(d::q++rest)).take (1+(d::q).length)=45::d::q:=by rw[Nat.add_comm,List.take_succ_cons,List.take_left]
  rw[ht,hi,Nat.add_comm];rfl
theorem au (b:UInt8):∃c q,Dm b=c::q/\c.toNat≠34:=by
 unfold Dm
 split
 ·exact ⟨92,_,rfl,by decide⟩
 ·rename_i h1
  split
  ·exact ⟨92,_,rfl,by decide⟩
  ·split
   ·exact ⟨92,_,rfl,by decide⟩
   ·exact ⟨b,_,rfl,by omega⟩
theorem Y3:∀ (l rest:List UInt8),I5 (l.flatMap Dm++34::rest)=some (l,(l.flatMap Dm).length+1)
 | [],rest=>by
  rw[List.flatMap_nil,List.nil_append,GU,AAB (show (34:UInt8).toNat=34 from rfl)];rfl
 | b::l,rest=>by
  obtain ⟨c,q,hc,hn⟩:=au b;have hp:EH (Dm b++(l.flatMap Dm++34::rest))=some (b,(Dm b).length):=ZB b _ ⟨_,rfl⟩ fun d p e=>by
   rw[hc] at e
   injection e with e1 e2
   rw[<-e1];exact hn
  have hd:(Dm b++(l.flatMap Dm++34::rest)).drop (Dm b).length=l.flatMap Dm++34::rest:=List.drop_left;rw[ABy,AAo];rw[hc] at hp hd ⊢;rw[AAs] at hp hd ⊢;rw[GU,Pd hn,hp];simp only;rw[hd,Y3 l rest];simp only[Option.map_some,ABF,AAI]
  congr 2
  omega
theorem U1 (s:ByteArray):∀k,k<=s.size->(NV s k).data.toList=34::(s.data.toList.take k).flatMap Dm
 | 0,_=>rfl
 | k+1,h=>by
  have hk:k<s.data.toList.length:=h;rw[NV,ByteArray.data_append,Array.toList_append,U1 s k (by omega),P5,ABq hk,List.flatMap_append]
  have:s.data.getD k 0=s.data.toList[k]:=by
   rw[Array.getD_eq_getD_getElem?,Array.getElem?_eq_getElem (by exact h)];rfl
  rw[this];simp
theorem U2 (s:ByteArray):(Lr s).data.toList=34::(s.data.toList.flatMap Dm++[34]):=by
 unfold Lr;rw[ByteArray.data_append,Array.toList_append,U1 s s.size (AAF _)];have:s.data.toList.take s.size=s.data.toList:=List.take_of_length_le (AAF _);rw[this];rfl
theorem Xv (s:ByteArray):EC (Lr s).data.toList [iY s]:=fun ln rest=>by
 rw[U2];have Wl:(34:UInt8).toNat=34:=rfl;refine KX ln (by omega) (by omega) (by omega) ?_
 rw[CP,Nk (by omega),Pd (by simp),Nv (by omega),Pd (by simp[Wl]),AAB Wl]
 rw[AAo,List.singleton_append,Y3];simp only[Option.map_some,AAI,ABF,List.length_nil]
 rfl
theorem EW (h:c.toNat=123\/c.toNat=125\/c.toNat=40\/c.toNat=41\/c.toNat=91\/c.toNat=93\/c.toNat=44\/c.toNat=58\/c.toNat=64):EC [c] [Bl ⟨#[c]⟩]:=fun ln rest=>by
 refine KX ln (by omega) (by omega) (by omega) ?_
 rw[List.nil_append,CP,Nk (by omega),Pd (by simp),Nv (by omega),Bool.false_or]
 rw[Pd (by rw[AAD,AAV];omega),Pd (by omega)]
 rw[Pk (by omega) (by omega) (by unfold Na;omega)];rfl
theorem kQ:EC [45,62] [Bl ⟨#[45,62]⟩]:=fun ln rest=>by
 have h45:(45:UInt8).toNat=45:=rfl;refine KX ln (by omega) (by omega) (by omega) ?_
 rw[List.singleton_append,CP,Nk (by omega),Pd (by simp),Nv (by omega),Bool.false_or,List.headD_cons,Nv (by decide),Bool.and_false]
 rw[Pd (by simp),Pd (by omega),II (Or.inl ⟨rfl,rfl⟩)];rfl
theorem QF:EC [32] []:=fun ln rest=>by
 rw[List.singleton_append,BO,Pd (by decide),AAB (by decide)]
 cases Ap ln rest <;> rfl
theorem Kc {s:List Aa} {t:Int} {v:Val} {n:Nat} (h:Ad s false (n+1) t v=true):0<=t/\t<(s.length:Int)/\v.kind=(AO s t).kind/\zJ v=true/\Ak (Ad s false n) false (AO s t) v=true:=by
 rw[Ad] at h
 split at h
 ·cases h
 ·rename_i h1
  split at h
  ·cases h
  ·rename_i h2
   simp only[not_or,ne_eq,Decidable.not_not,Bool.not_eq_false] at h2;exact ⟨by omega,by omega,h2.1,h2.2,h⟩
def Lg (l:List AJ):Prop:=∀more,Ba ⟨#[93]⟩ (l++more)=false/\Ba ⟨#[45,62]⟩ (l++more)=false
theorem wH (a:ByteArray) (l:List AJ):Lg (O4 a::l):=fun _=>⟨TS _ _ _,TS _ _ _⟩
theorem wG {a:ByteArray} (h1:a≠⟨#[93]⟩) (h2:a≠⟨#[45,62]⟩) (l:List AJ):Lg (Bl a::l):=fun more=>by
 rw[AAs,F8,F8];exact ⟨AAP h1,AAP h2⟩
theorem iJ (f:Int->Val->List AJ) (x:Aa) (v:Val):Lg (GL f x v):=by
 unfold GL Rx L9 jg
 repeat' split
 all_goals first
  | exact wH _ _
  | exact wG (by decide) (by decide) _
  | exact fun _=>⟨Xx _ _ _,Xx _ _ _⟩
  | exact fun _=>⟨kr _ _ _,kr _ _ _⟩
section
variable {f:Int->List AJ->Bool->PR Val} {g:Int->Val->List AJ} {x:Aa} {k:Bool} {more:List AJ}
theorem dF (hx:Zn x) {n:Int} :
  Eu false x (Rx x n++more) k = .ok (n,more,k):=by
 unfold Rx
 cases hc:x.AX.find? fun y=>decide (y.id=n) with
 | some y =>
  have h1:=List.find?_some hc;rw[AAV] at h1;have hy:=List.mem_of_find?_eq_some hc;unfold Eu;simp only[AAs,List.nil_append];rw[TS,Pd (by simp),FI 1 _ _ rfl,zM]
  simp only;rw[show (O4 y.name).text=y.name from rfl,QN hx.ACs hy];simp only;rw[h1]
 | none =>
  have h2:OP x n=false:=by
   unfold OP;rw[List.any_eq_false]
   intro y hy hd
   exact (List.find?_eq_none.1 hc y hy) hd
  unfold Eu;simp only[AAs,List.nil_append];rw[F8,AAJ rfl,AAB rfl,List.tail_cons,FI 2 _ _ rfl,zM];simp only;rw[Ns,show (cO n).int=n from rfl,h2,Pd (by simp)]
variable {vs:List Val}
theorem gV (hx:Zn x) {n:Int} {rs:List Af} (h:(∃y v,x.AA.find? (fun y=>decide (y.id=n))=some y/\vs=[v]/\rs=[]/\Wi f g y.type v)\/(x.AA.find? (fun y=>decide (y.id=n))=none/\vs=[]/\∃r,rs=[r]/\r.id=n)):
  FD false f x (L9 g x n vs rs++more) k = .ok ((n,vs,rs),more,k):=by
 rcases h with ⟨y,v,hc,rfl,rfl,hb⟩|⟨hc,rfl,r,rfl,hr⟩
 ·have h1:=List.find?_some hc
  rw[AAV] at h1;have hy:=List.mem_of_find?_eq_some hc;have e:L9 g x n [v] []++more=O4 y.name::Bl ⟨#[40]⟩::(g y.type v++(Bl ⟨#[41]⟩::more)):=by
   unfold L9;rw[hc];simp only[AAs,AAo,List.nil_append,tV]
  rw[e];unfold FD;rw[TS,Pd (by simp),FI 1 _ _ rfl,zM]
  simp only;rw[show (O4 y.name).text=y.name from rfl,QN hx.AC0 hy];simp only;rw[Da,zM,hb,zM];simp only;rw[Da,zM,h1]
 ·have e:L9 g x n [] [r]++more=Bl ⟨#[64]⟩::cO n::Bl ⟨#[40]⟩::iY r.data::Bl ⟨#[41]⟩::more:=by
   unfold L9;rw[hc];simp only[AAs,List.nil_append,tX]
  rw[e];unfold FD;rw[F8,AAJ rfl,AAB rfl,List.tail_cons,FI 2 _ _ rfl,zM];simp only;rw[Da,zM,FI 3 _ _ rfl,zM];simp only;rw[Da,zM,Ns]
  show Except.ok _=Except.ok _
  rw[show (cO n).int=n from rfl,show (iY r.data).str=r.data from rfl,<-hr]
theorem jF {rs:List Af} (hl:x.AA.length=vs.length) (h:∀i (h:i<x.AA.length) (h':i<vs.length),Wi f g x.AA[i].type vs[i]):
  JN false f x (Bl ⟨#[123]⟩::(Xn g true x.AA vs++(RI x.AA.isEmpty rs++[Bl ⟨#[125]⟩]))++more) k = .ok ((vs,rs),more,k):=by
 unfold JN;simp only[AAs,AAo,List.nil_append];rw[Da,zM,Rh x.AA vs true hl h,zM];simp only;have h2:=RP rs x.AA.isEmpty more fun _ _=>trivial
 unfold Eb at h2;rw[h2,zM];simp only;rw[Da,zM]
theorem bR (hd:∀t,Dec (f t)) (h:∀v∈vs,Wi f g x.elem v) (hh:∀v∈vs,Lg (g x.elem v)):
  IW f x (Bl ⟨#[91]⟩::(EU (g x.elem) vs++[Bl ⟨#[93]⟩])++more) k = .ok (vs,more,k):=by
 unfold IW;simp only[AAs,AAo,List.nil_append];rw[Da,zM]
 cases vs with
 | nil=>exact AAB ((F8 ⟨#[93]⟩ ⟨#[93]⟩ more).trans (AAJ rfl))
 | cons v r =>
  have h1:∀m,Ba ⟨#[93]⟩ (EU (g x.elem) (v::r)++m)=false:=fun m=>by
   have:=hh v (ABT ..)
   cases r with
   | nil=>exact (this m).1
   | cons w q=>rw[EU,AAo];exact (this _).1
  have h2:=Pq (hd x.elem) (v::r) (by simp) h (Bl ⟨#[93]⟩::more) k (by rw[F8];decide)
  unfold Kt at h2;rw[h1,Pd (by simp),h2,zM]
  simp only;rw[Da,zM]
theorem kF (hd:∀t,Dec (f t)) {ks:List Val} (hl:vs.length=ks.length) (h1:∀v∈ks,Wi f g x.key v) (h2:∀v∈vs,Wi f g x.elem v) (hh:∀v∈ks,Lg (g x.key v)):
  IV f x (Bl ⟨#[91]⟩::(if ks.length=0 then [Bl ⟨#[45,62]⟩,Bl ⟨#[93]⟩] else EU (etk (g x.key) (g x.elem)) (ks.zip vs)++[Bl ⟨#[93]⟩])++more) k = .ok (ks.zip vs,more,k):=by
 unfold IV;simp only[AAs];rw[Da,zM]
 cases ks with
 | nil =>
  simp only[List.length_nil,if_true,AAs,List.nil_append];rw[F8,AAJ rfl,AAB rfl,List.tail_cons,Da,zM];rfl
 | cons a r =>
  rw[show (if (a::r).length=0 then [Bl ⟨#[45,62]⟩,Bl ⟨#[93]⟩] else EU (etk (g x.key) (g x.elem)) ((a::r).zip vs)++[Bl ⟨#[93]⟩])=EU (etk (g x.key) (g x.elem)) ((a::r).zip vs)++[Bl ⟨#[93]⟩] from Pd (by simp)]
  cases vs with
  | nil=>cases hl
  | cons b q =>
   have ha:=hh a (ABT ..);have h3:Lg (EU (etk (g x.key) (g x.elem)) ((a::r).zip (b::q))++[Bl ⟨#[93]⟩]):=fun m=>by
    rw[List.zip_cons_cons,AAo]
    cases r.zip q with
    | nil=>rw[EU];unfold etk;rw[AAo];exact ha _
    | cons p z=>rw[EU,AAo];unfold etk;rw[AAo];exact ha _
   have h4:=Pq (Jy hd x) (g:=etk (g x.key) (g x.elem)) ((a::r).zip (b::q)) (by simp) (fun p hp m k'=>by
    obtain ⟨p1,p2⟩:=p;have hm:=List.of_mem_zip hp;unfold Dr etk;simp only[AAo,AAs];rw[h1 p1 hm.1,zM];simp only;rw[Da,zM,h2 p2 hm.2,zM]) (Bl ⟨#[93]⟩::more) k (by rw[F8];decide)
   unfold Kt at h4;rw[(h3 more).2,Pd (by simp),(h3 more).1,Pd (by simp)]
   simp only[AAo,AAs,List.nil_append];rw[h4,zM];simp only;rw[Da,zM]
theorem jf (hl:vs.length<=1) (h:∀v∈vs,Wi f g x.elem v):
  Hr f x (jg (g x.elem) vs++more) k = .ok (vs,more,k):=by
 unfold Hr jg
 cases vs with
 | nil =>
  simp only[AAs,List.nil_append];rw[FI 1 _ _ rfl,zM];simp only;rw[AAB (show (O4 ⟨#[110,111,110,101]⟩).text=⟨#[110,111,110,101]⟩ from rfl)]
 | cons v r =>
  have:r=[]:=AAn (by rw[AAI] at hl;omega)
  subst this;simp only[AAs,AAo,List.nil_append];rw[FI 1 _ _ rfl,zM];simp only;rw[Pd (show ¬ (O4 ⟨#[115,111,109,101]⟩).text=⟨#[110,111,110,101]⟩ by decide),AAB (show (O4 ⟨#[115,111,109,101]⟩).text=⟨#[115,111,109,101]⟩ from rfl)]
  rw[Da,zM,h v (ABT ..),zM];simp only;rw[Da,zM]
end
section
variable {s:List Aa} {n:Nat} {t:Int} {v:Val}
theorem zip_fst:∀ {ks vs:List Val},vs.length=ks.length->(ks.zip vs).map Prod.fst=ks/\(ks.zip vs).map Prod.snd=vs
 | [],[],_=>⟨rfl,rfl⟩
 | [],_::_,h=>by cases h
 | _::_,[],h=>by cases h
 | a::r,b::q,h=>by
  have:=zip_fst (ks:=r) (vs:=q) (by simpa using h)
  rw[List.zip_cons_cons,ABh,ABh,this.1,this.2];exact ⟨rfl,rfl⟩
end
theorem UU {s:List Aa} (hT:∀t,Zn (AO s t)) (hK:∀t,0<=t->t<(s.length:Int)->1<=(AO s t).kind/\(AO s t).kind<=9):∀ (n:Nat) (t:Int) (v:Val),Ad s false n t v=true->Wi (Ag false s) (Qg s n) t v
 | 0,_,_,h=>by cases h
 | n+1,t,v,h=>fun more k=>by
  obtain ⟨h1,h2,hk,hp,hf⟩:=Kc h;have hkr:=hK t h1 h2;have hd:=IC false s;have ih:=UU hT hK n;have hx:=hT t;have hhead:∀u w,Ad s false n u w=true->Lg (Qg s n u w):=fun u w hw=>by
   cases n with
   | zero=>cases hw
   | succ n=>exact iJ _ _ _
  rw[Yi,Qg];have e:=RX hp;obtain ⟨kd,b,i,u,d,ks,is,r⟩:=v;generalize AO s t=x at *;simp only[Val.kind] at hk;subst hk;unfold Az at e;simp only[Val.kind,Val.bool,Val.int,Val.str,Val.id,Val.keys,Val.items,Val.rest,Val.mk.injEq,true_and] at e;obtain ⟨e1,e2,e3,e4,e5,e6,e7⟩:=e;have hc:x.kind=1\/x.kind=2\/x.kind=3\/x.kind=4\/x.kind=5\/x.kind=6\/x.kind=7\/x.kind=8\/x.kind=9:=by omega
  unfold Ak at hf;simp only[Val.int,Val.str,Val.id,Val.keys,Val.items,Val.rest] at hf
  rcases hc with hc|hc|hc|hc|hc|hc|hc|hc|hc <;> rw[hc] at e1 e2 e3 e4 e5 e6 e7 <;> simp at e1 e2 e3 e4 e5 e6 e7
  ·subst e2 e3 e4 e5 e6 e7
   unfold Ci GL;rw[AAB hc,AAB hc];unfold Mi;rw[AAs,FI 1 _ _ rfl,zM,hc]
   cases b <;> rfl
  ·subst e1 e3 e4 e5 e6 e7
   unfold Ci GL;rw[Pd (by omega),AAB hc,Pd (by omega),AAB hc,AAs,FI 2 _ _ rfl,zM,hc];rfl
  ·subst e1 e2 e4 e5 e6 e7
   unfold Ci GL;rw[Pd (by omega),Pd (by omega),AAB hc,Pd (by omega),Pd (by omega),AAB hc,AAs,FI 3 _ _ rfl,zM,hc];rfl
  ·subst e1 e2 e3 e5 e6 e7
   unfold Ci GL;rw[Pd (by omega),Pd (by omega),Pd (by omega),AAB hc,Pd (by omega),Pd (by omega),Pd (by omega),AAB hc,dF hx,zM,hc];rfl
  ·subst e1 e2 e3 e4 e5
   rw[Pd (by omega),Pd (by omega),Pd (by omega),AAB hc] at hf
   simp only[AAD] at hf;have hz:=TB _ _ hf.2;unfold Ci GL;rw[Pd (by omega),Pd (by omega),Pd (by omega),Pd (by omega),AAB hc,Pd (by omega),Pd (by omega),Pd (by omega),Pd (by omega),AAB hc]
   refine (congrArg (fun a=>Except.bind a _) (jF (AAr hf.1.1.1).symm (fun i h1 h2=>ih _ _ (hz i h1 h2)))).trans ?_
   simp only[zM,hc,Val.rest]
  ·subst e1 e2 e3 e5
   rw[Pd (by omega),Pd (by omega),Pd (by omega),Pd (by omega),AAB hc] at hf
   have hf2:(match x.AA.find? (fun m=>decide (m.id=d)) with
    | some m=>decide (is.length=1)&&decide (r.length=0)&&is.all fun y=>Ad s false n m.type y
    | none=>x.open_ && !false&&BD d&&decide (is.length=0)&&decide (r.length=1)&&r.all fun q=>decide (q.id=d))=true:=hf
   clear hf;have hu:FD false (Ag false s) x (L9 (Qg s n) x d is r++more) k = .ok ((d,is,r),more,k):=by
    refine gV hx ?_
    cases hm:x.AA.find? fun m=>decide (m.id=d) with
    | some m =>
     rw[hm] at hf2;simp only[AAD,AAV] at hf2;obtain ⟨w,rfl⟩:=List.length_eq_one_iff.1 hf2.1.1;refine Or.inl ⟨m,w,rfl,rfl,AAn hf2.1.2,ih _ _ ?_⟩
     simpa using hf2.2
    | none =>
     rw[hm] at hf2;simp only[AAD,AAV] at hf2;obtain ⟨w,rfl⟩:=List.length_eq_one_iff.1 hf2.1.2;refine Or.inr ⟨rfl,AAn hf2.1.1.2,w,rfl,?_⟩
     simpa using hf2.2
   unfold Ci GL;rw[Pd (by omega),Pd (by omega),Pd (by omega),Pd (by omega),Pd (by omega),AAB hc,Pd (by omega),Pd (by omega),Pd (by omega),Pd (by omega),Pd (by omega),AAB hc]
   simp only[Val.id,Val.items,Val.rest];rw[hu,zM,hc]
  ·subst e1 e2 e3 e4 e5 e7
   rw[Pd (by omega),Pd (by omega),Pd (by omega),Pd (by omega),Pd (by omega),AAB hc] at hf
   simp only[AAD,ABQ] at hf;unfold Ci GL;rw[Pd (by omega),Pd (by omega),Pd (by omega),Pd (by omega),Pd (by omega),Pd (by omega),AAB hc,Pd (by omega),Pd (by omega),Pd (by omega),Pd (by omega),Pd (by omega),Pd (by omega),AAB hc]
   refine (congrArg (fun a=>Except.bind a _) (bR hd (fun w hw=>ih _ _ (hf.2 w hw)) (fun w hw=>hhead _ _ (hf.2 w hw)))).trans ?_
   simp only[zM,hc]
  ·subst e1 e2 e3 e4 e7
   rw[Pd (by omega),Pd (by omega),Pd (by omega),Pd (by omega),Pd (by omega),Pd (by omega),AAB hc] at hf
   simp only[AAD,ABQ] at hf;unfold Ci GL;rw[Pd (by omega),Pd (by omega),Pd (by omega),Pd (by omega),Pd (by omega),Pd (by omega),Pd (by omega),AAB hc,Pd (by omega),Pd (by omega),Pd (by omega),Pd (by omega),Pd (by omega),Pd (by omega),Pd (by omega),AAB hc]
   have hl:=AAr hf.1.1.1.2;have hz:=zip_fst hl;refine (congrArg (fun a=>Except.bind a _) (kF hd hl (fun w hw=>ih _ _ (hf.1.1.2 w hw)) (fun w hw=>ih _ _ (hf.2 w hw)) (fun w hw=>hhead _ _ (hf.1.1.2 w hw)))).trans ?_
   simp only[zM,hc];rw[hz.1,hz.2]
  ·subst e1 e2 e3 e4 e5 e7
   rw[Pd (by omega),Pd (by omega),Pd (by omega),Pd (by omega),Pd (by omega),Pd (by omega),Pd (by omega),AAB hc] at hf
   simp only[AAD,ABQ] at hf;unfold Ci GL;rw[Pd (by omega),Pd (by omega),Pd (by omega),Pd (by omega),Pd (by omega),Pd (by omega),Pd (by omega),Pd (by omega),Pd (by omega),Pd (by omega),Pd (by omega),Pd (by omega),Pd (by omega),Pd (by omega),Pd (by omega),Pd (by omega)]
   refine (congrArg (fun a=>Except.bind a _) (jf (AAr hf.1) (fun w hw=>ih _ _ (hf.2 w hw)))).trans ?_
   simp only[zM,hc]
def Eo (t:AJ):AJ:={ t with line:=0 }
def SF (l r w:List AJ):Prop:=∃pre,l=pre++r/\pre.map Eo=w
theorem SF.refl (l:List AJ):SF l l []:=⟨[],rfl,rfl⟩
theorem SF.app {a b c:List AJ} (h1:SF a b u) (h2:SF b c w):SF a c (u++w):=by
 obtain ⟨p,rfl,rfl⟩:=h1;obtain ⟨q,rfl,rfl⟩:=h2;exact ⟨p++q,by rw[AAo],List.map_append⟩
def ABL {α:Type} (part:List AJ->Bool->PR α):Prop:=∀l k x r k',part l k = .ok (x,r,k')->k=true->k'=true
theorem ABL.false {α:Type} {part:List AJ->Bool->PR α} (h:ABL part) {l:List AJ} {k:Bool} {x:α} {r:List AJ} (he:part l k = .ok (x,r,false)):k=false:=by
 cases k with
 | false=>rfl
 | true=>exact absurd (h _ _ _ _ _ he rfl) (by simp)
section
variable {f:Int->List AJ->Bool->PR Val} {g:Int->Val->List AJ}
variable {P:Int->Val->Prop}
end
end Go.Proofs.YthkkllmmbefedaaGreatDoor
namespace Go.Proofs.YthkkllmmbefedaaGreatDoor
def fD:List (List UInt8)->List UInt8
 | []=>[]
 | [x]=>x
 | x::y::r=>x++44::32::fD (y::r)
theorem ZT:∀ (m:List (List UInt8)) (z:List UInt8),fD (m++[z])=if m=[] then z else fD m++44::32::z
 | [],z=>rfl
 | [x],z=>rfl
 | x::y::r,z=>by
  have:=ZT (y::r) z;rw[Pd (by simp)] at this
  rw[Pd (by simp),fD]
  show x++44::32::fD (y::r++[z])=_
  rw[this];simp
theorem Al (a b:ByteArray):(a++b).data.toList=a.data.toList++b.data.toList:=by rw[ByteArray.data_append,Array.toList_append]
theorem YF (l:List ByteArray):(Fv l).data.toList=fD (l.map fun b=>b.data.toList):=by
 have:∀k,k<=l.length->(EL (fun i=>l.getD i ⟨#[]⟩) k).data.toList=fD ((l.take k).map fun b=>b.data.toList):=fun k=>by
  induction k with
  | zero=>intro _;rfl
  | succ k ih =>
   intro h
   have hk:k<l.length:=h;rw[EL,Al,Al,ih (by omega),ABq hk,List.map_append,List.map_singleton,ZT]
   have hg:l.getD k ⟨#[]⟩=l[k]:=by rw[AA1,zl hk];rfl
   rw[hg]
   by_cases h0:k=0
   ·subst h0
    rw[AAB rfl,AAB (by simp)];rfl
   ·rw[Pd h0,Pd (by
     intro e
     have:=congrArg List.length e;rw[AAt,List.length_take,List.length_nil] at this
     omega)]
    simp
 have h:=this l.length (AAF _);rw[List.take_length] at h;exact h
theorem Yy {α:Type} (g:α->List AJ):∀xs:List α,EU g xs=EU id (xs.map g)
 | []=>rfl
 | [x]=>rfl
 | x::y::r=>by rw[EU,Yy g (y::r)];rfl
theorem TQ:∀ps:List (List UInt8×List AJ),(∀p∈ps,Ef p.1 p.2)->Ef (fD (ps.map Prod.fst)) (EU id (ps.map Prod.snd))
 | [],_=>EC.nil.s
 | [p],h=>h p (List.mem_singleton.2 rfl)
 | p::q::r,h=>by
  have h1:=TQ (q::r) fun x hx=>h x (ABZ _ hx)
  have h2:Ef ([44]++([32]++fD ((q::r).map Prod.fst))) ([Bl ⟨#[44]⟩]++([]++EU id ((q::r).map Prod.snd))):=(EW (by decide)).QW (QF.QW h1)
  exact (h p (ABT ..)).QW ⟨44,_,rfl,by decide⟩ h2
def ML (g:Int->Val->List AJ) (p:Ac×Val):List AJ:=O4 p.1.name::Bl ⟨#[58]⟩::g p.1.type p.2
def K8 (r:Af):List AJ:=[cO r.id,Bl ⟨#[58]⟩,iY r.data]
theorem NJ:∀ (p:List AJ) (ps:List (List AJ)),EU id (p::ps)=p++ps.flatMap fun q=>Bl ⟨#[44]⟩::q
 | p,[]=>by rw[EU];simp
 | p,q::r=>by rw[EU,NJ q r];simp
theorem VE (g:Int->Val->List AJ):∀ (ms:List Ac) (vs:List Val),Xn g false ms vs=((ms.zip vs).map (ML g)).flatMap fun q=>Bl ⟨#[44]⟩::q
 | [],vs=>by cases vs <;> rfl
 | _::_,[]=>rfl
 | y::ms,v::vs=>by rw[Xn,VE g ms vs];simp[ML]
theorem Pt:∀rs:List Af,RI false rs=(rs.map K8).flatMap fun q=>Bl ⟨#[44]⟩::q
 | []=>rfl
 | r::rs=>by rw[RI,Pt rs];simp[K8]
theorem pE (g:Int->Val->List AJ) {ms:List Ac} {vs:List Val} (h:vs.length=ms.length) (rs:List Af) :
  Xn g true ms vs++RI ms.isEmpty rs=EU id ((ms.zip vs).map (ML g)++rs.map K8):=by
 cases ms with
 | nil =>
  have:vs=[]:=AAn h;subst this
  cases rs with
  | nil=>rfl
  | cons r rs =>
   show RI true (r::rs)=EU id (K8 r::rs.map K8)
   rw[NJ,RI,Pt];simp[K8]
 | cons y ms =>
  cases vs with
  | nil=>cases h
  | cons v vs =>
   show Xn g true (y::ms) (v::vs)++RI false rs=EU id (ML g (y,v)::((ms.zip vs).map (ML g)++rs.map K8))
   rw[NJ,Xn,VE,Pt];simp[ML]
structure WG (x:Aa):Prop where
 AX:∀y∈x.AX,Bz y.name=true
 AA:∀y∈x.AA,Bz y.name=true
 low:-9223372036854775808<=x.low
 high:x.high<=9223372036854775807
section
variable {f:Int->Val->ByteArray} {g:Int->Val->List AJ} {x:Aa}
def mY (f:Int->Val->ByteArray) (g:Int->Val->List AJ) (t:Int) (v:Val):Prop:=Ef (f t v).data.toList (g t v)
theorem QK {n:Int} (h:BD n=true):-9223372036854775808<=n/\n<=9223372036854775807:=by
 have:=MZ.1 h
 omega
theorem qY {r:Af} (h:BD r.id=true):Ef (NR r).data.toList (K8 r):=by
 unfold NR K8;rw[Al,Al];have h2:EC ([58]++[32]) ([Bl ⟨#[58]⟩]++[]):=(EW (by decide)).app QF
 exact ((TP (QK h)).app ⟨58,_,rfl,by decide⟩ h2).QW (Xv r.data).s
theorem qZ (hx:WG x) {y:Ac} (hy:y∈x.AA) {v:Val} (h:mY f g y.type v):Ef (LU f (y,v)).data.toList (ML g (y,v)):=by
 unfold LU ML;rw[Al,Al];have h2:EC ([58]++[32]) ([Bl ⟨#[58]⟩]++[]):=(EW (by decide)).app QF
 exact ((LY (hx.AA y hy)).app ⟨58,_,rfl,by decide⟩ h2).QW h
theorem qX (hx:WG x) {vs:List Val} {rs:List Af} (hl:vs.length=x.AA.length) (h:∀i (h:i<x.AA.length) (h':i<vs.length),mY f g x.AA[i].type vs[i]) (hr:∀r∈rs,BD r.id=true) :
  Ef (⟨#[123]⟩++Fv ((x.AA.zip vs).map (LU f)++rs.map NR)++⟨#[125]⟩:ByteArray).data.toList (Bl ⟨#[123]⟩::(Xn g true x.AA vs++(RI x.AA.isEmpty rs++[Bl ⟨#[125]⟩]))):=by
 rw[Al,Al,YF,<-AAo,pE g hl];have hz:∀p∈x.AA.zip vs,p.1∈x.AA/\mY f g p.1.type p.2:=fun p hp=>by
  obtain ⟨i,hi,he⟩:=List.mem_iff_getElem.1 hp;rw[List.getElem_zip] at he;rw[List.length_zip] at hi;subst he;exact ⟨AAL _,h i (by omega) (by omega)⟩
 have hj:=TQ ((x.AA.zip vs).map (fun p=>((LU f p).data.toList,ML g p))++rs.map fun r=>((NR r).data.toList,K8 r)) fun p hp=>by
  rcases ABY.1 hp with hp|hp
  ·obtain ⟨q,hq,rfl⟩:=List.mem_map.1 hp
   exact qZ hx (hz q hq).1 (hz q hq).2
  ·obtain ⟨q,hq,rfl⟩:=List.mem_map.1 hp
   exact qY (hr q hq)
 simp only[List.map_append,List.map_map] at hj;simp only[List.map_append,List.map_map];have h1:EC [123] [Bl ⟨#[123]⟩]:=EW (by decide)
 have h2:EC [125] [Bl ⟨#[125]⟩]:=EW (by decide)
 rw[AAo];exact (h1.app (Ef.app hj ⟨125,_,rfl,by decide⟩ h2)).s
theorem VO {α:Type} {h:α->ByteArray} {k:α->List AJ} {vs:List α} (hv:∀v∈vs,Ef (h v).data.toList (k v)) :
  Ef (⟨#[91]⟩++Fv (vs.map h)++⟨#[93]⟩:ByteArray).data.toList (Bl ⟨#[91]⟩::(EU k vs++[Bl ⟨#[93]⟩])):=by
 rw[Al,Al,YF,Yy];have hj:=TQ (vs.map fun p=>((h p).data.toList,k p)) fun p hp=>by
  obtain ⟨q,hq,rfl⟩:=List.mem_map.1 hp;exact hv q hq
 simp only[List.map_map] at hj;simp only[List.map_map];have h1:EC [91] [Bl ⟨#[91]⟩]:=EW (by decide)
 have h2:EC [93] [Bl ⟨#[93]⟩]:=EW (by decide)
 rw[AAo];exact (h1.app (Ef.app hj ⟨93,_,rfl,by decide⟩ h2)).s
theorem qb {a b:ByteArray} {u w:List AJ} (h1:Ef a.data.toList u) (h2:Ef b.data.toList w):Ef (a++⟨#[32,45,62,32]⟩++b).data.toList (u++Bl ⟨#[45,62]⟩::w):=by
 rw[Al,Al];have h3:EC ([32]++([45,62]++[32])) ([]++([Bl ⟨#[45,62]⟩]++[])):=QF.app (kQ.app QF);have:=(h1.app ⟨32,_,rfl,by decide⟩ h3).QW h2
 rw[show u++Bl ⟨#[45,62]⟩::w=u++([]++([Bl ⟨#[45,62]⟩]++[]))++w by simp]
 exact this
end
section
variable (f:Int->Val->ByteArray) {x:Aa}
variable {v:Val}
theorem tF (hc:x.kind=6) {m:Ac} {w:Val} (hm:x.AA.find? (fun m=>decide (m.id=v.id))=some m) (hi:v.items=[w]):Bg f x v=m.name++⟨#[40]⟩++f m.type w++⟨#[41]⟩:=by
 unfold Bg;rw[Pd (by omega),Pd (by omega),Pd (by omega),Pd (by omega),Pd (by omega),AAB hc,hm,hi]
theorem tH (hc:x.kind=6) {r:Af} (hm:x.AA.find? (fun m=>decide (m.id=v.id))=none) (hi:v.rest=[r]):Bg f x v=⟨#[64]⟩++Ch v.id++⟨#[40]⟩++Lr r.data++⟨#[41]⟩:=by
 unfold Bg;rw[Pd (by omega),Pd (by omega),Pd (by omega),Pd (by omega),Pd (by omega),AAB hc,hm,hi]
theorem sw (hc:x.kind=8):Bg f x v=⟨#[91]⟩++(if v.keys.length=0 then ⟨#[45,62]⟩ else ⟨#[]⟩)++Fv ((v.keys.zip v.items).map (Qs (f x.key) (f x.elem)))++⟨#[93]⟩:=by
 unfold Bg;rw[Pd (by omega),Pd (by omega),Pd (by omega),Pd (by omega),Pd (by omega),Pd (by omega),Pd (by omega),AAB hc]
theorem su (hc:x.kind=9) (hi:v.items=[]):Bg f x v=⟨#[110,111,110,101]⟩:=by
 unfold Bg;rw[Pd (by omega),Pd (by omega),Pd (by omega),Pd (by omega),Pd (by omega),Pd (by omega),Pd (by omega),Pd (by omega),hi]
theorem sj (hc:x.kind=9) {w:Val} {q:List Val} (hi:v.items=w::q):Bg f x v=⟨#[115,111,109,101,40]⟩++f x.elem w++⟨#[41]⟩:=by
 unfold Bg;rw[Pd (by omega),Pd (by omega),Pd (by omega),Pd (by omega),Pd (by omega),Pd (by omega),Pd (by omega),Pd (by omega),hi]
end
section
variable (g:Int->Val->List AJ) {x:Aa} {v:Val}
theorem ACq (hc:x.kind=6):GL g x v=L9 g x v.id v.items v.rest:=by
 unfold GL;rw[Pd (by omega),Pd (by omega),Pd (by omega),Pd (by omega),Pd (by omega),AAB hc]
theorem ACp (hc:x.kind=8):GL g x v=Bl ⟨#[91]⟩::(if v.keys.length=0 then [Bl ⟨#[45,62]⟩,Bl ⟨#[93]⟩] else EU (etk (g x.key) (g x.elem)) (v.keys.zip v.items)++[Bl ⟨#[93]⟩]):=by
 unfold GL;rw[Pd (by omega),Pd (by omega),Pd (by omega),Pd (by omega),Pd (by omega),Pd (by omega),Pd (by omega),AAB hc]
theorem AAO (hc:x.kind=9):GL g x v=jg (g x.elem) v.items:=by
 unfold GL;rw[Pd (by omega),Pd (by omega),Pd (by omega),Pd (by omega),Pd (by omega),Pd (by omega),Pd (by omega),Pd (by omega)]
end
theorem ACk (g:Int->Val->List AJ) {x:Aa} {d:Int} {w:Val} {rs:List Af} {m:Ac} (hm:x.AA.find? (fun m=>decide (m.id=d))=some m):L9 g x d [w] rs=O4 m.name::Bl ⟨#[40]⟩::(g m.type w++[Bl ⟨#[41]⟩]):=by
 unfold L9;rw[hm];rfl
theorem ACl (g:Int->Val->List AJ) {x:Aa} {d:Int} {vs:List Val} {r:Af} (hm:x.AA.find? (fun m=>decide (m.id=d))=none):L9 g x d vs [r]=[Bl ⟨#[64]⟩,cO d,Bl ⟨#[40]⟩,iY r.data,Bl ⟨#[41]⟩]:=by
 unfold L9;rw[hm];rfl
theorem kT {a:List UInt8} {w:List AJ} (h:Ef a w):EC ([115,111,109,101,40]++a++[41]) (O4 ⟨#[115,111,109,101]⟩::Bl ⟨#[40]⟩::(w++[Bl ⟨#[41]⟩])):=by
 have c1:EC [40] [Bl ⟨#[40]⟩]:=EW (by decide)
 have c2:EC [41] [Bl ⟨#[41]⟩]:=EW (by decide)
 have c3:Ef [115,111,109,101] [O4 ⟨#[115,111,109,101]⟩]:=LY (s:=⟨#[115,111,109,101]⟩) (by decide)
 have:=((c3.app ⟨40,_,rfl,by decide⟩ c1).QW h).app ⟨41,_,rfl,by decide⟩ c2
 simpa using this
theorem Yh {s:List Aa} (hN:∀t,WG (AO s t)) (hK:∀t,0<=t->t<(s.length:Int)->1<=(AO s t).kind/\(AO s t).kind<=9):∀ (n:Nat) (t:Int) (v:Val),Ad s false n t v=true->mY (Ae s n) (Qg s n) t v
 | 0,_,_,h=>by cases h
 | n+1,t,v,hfit=>by
  obtain ⟨h1,h2,hk,hp,hf⟩:=Kc hfit;have hkr:=hK t h1 h2;have hx:=hN t;have ih:=Yh hN hK n;unfold mY;rw[Ae,Qg];have e:=RX hp;obtain ⟨kd,b,i,u,d,ks,is,r⟩:=v;generalize AO s t=x at *;simp only[Val.kind] at hk;subst hk;unfold Az at e;simp only[Val.kind,Val.bool,Val.int,Val.str,Val.id,Val.keys,Val.items,Val.rest,Val.mk.injEq,true_and] at e;obtain ⟨e1,e2,e3,e4,e5,e6,e7⟩:=e
  have hc:x.kind=1\/x.kind=2\/x.kind=3\/x.kind=4\/x.kind=5\/x.kind=6\/x.kind=7\/x.kind=8\/x.kind=9:=by omega
  unfold Ak at hf;simp only[Val.int,Val.str,Val.id,Val.keys,Val.items,Val.rest] at hf
  rcases hc with hc|hc|hc|hc|hc|hc|hc|hc|hc
  ·unfold Bg GL
   rw[AAB hc,AAB hc]
   cases b
   ·exact LY (s:=⟨#[102,97,108,115,101]⟩) (by decide)
   ·exact LY (s:=⟨#[116,114,117,101]⟩) (by decide)
  ·rw[AAB hc] at hf
   unfold Bg GL;rw[Pd (by omega),AAB hc,Pd (by omega),AAB hc]
   simp only[AAD] at hf;have g1:=AAr hf.1;have g2:=AAr hf.2;have g3:=hx.low;have g4:=hx.high;exact TP (v:=i) ⟨by omega,by omega⟩
  ·unfold Bg GL
   rw[Pd (by omega),Pd (by omega),AAB hc,Pd (by omega),Pd (by omega),AAB hc]
   exact (Xv u).s
  ·rw[Pd (by omega),Pd (by omega),AAB hc] at hf
   unfold Bg GL;rw[Pd (by omega),Pd (by omega),Pd (by omega),AAB hc,Pd (by omega),Pd (by omega),Pd (by omega),AAB hc]
   show Ef (match x.AX.find? fun y=>decide (y.id=d) with
    | some y=>y.name
    | none=>⟨#[64]⟩++Ch d:ByteArray).data.toList (Rx x d)
   unfold Rx
   cases hm:x.AX.find? fun y=>decide (y.id=d) with
   | some y=>exact LY (hx.AX y (List.mem_of_find?_eq_some hm))
   | none =>
    have hno:(x.AX.any fun y=>decide (y.id=d))=false:=by
     rw[List.any_eq_false]
     intro y hy hd
     exact (List.find?_eq_none.1 hm y hy) hd
    have hf2:((x.AX.any fun y=>decide (y.id=d))||x.open_ && !false&&BD d)=true:=hf
    rw[hno,Bool.false_or,AAD] at hf2;rw[Al];exact (show EC [64] [Bl ⟨#[64]⟩] from EW (by decide)).QW (TP (QK hf2.2))
  ·rw[Pd (by omega),Pd (by omega),Pd (by omega),AAB hc] at hf
   unfold Bg GL;rw[Pd (by omega),Pd (by omega),Pd (by omega),Pd (by omega),AAB hc,Pd (by omega),Pd (by omega),Pd (by omega),Pd (by omega),AAB hc]
   simp only[AAD] at hf;exact qX hx (AAr hf.1.1.1) (fun i h1 h2=>ih _ _ (TB _ _ hf.2 i h1 h2)) (Xj hf.1.2)
  ·rw[Pd (by omega),Pd (by omega),Pd (by omega),Pd (by omega),AAB hc] at hf
   have hf2:(match x.AA.find? (fun m=>decide (m.id=d)) with
    | some m=>decide (is.length=1)&&decide (r.length=0)&&is.all fun y=>Ad s false n m.type y
    | none=>x.open_ && !false&&BD d&&decide (is.length=0)&&decide (r.length=1)&&r.all fun q=>decide (q.id=d))=true:=hf
   clear hf;have c1:EC [40] [Bl ⟨#[40]⟩]:=EW (by decide)
   have c2:EC [41] [Bl ⟨#[41]⟩]:=EW (by decide)
   have c3:EC [64] [Bl ⟨#[64]⟩]:=EW (by decide)
   rw[ACq _ hc]
   show Ef _ (L9 (Qg s n) x d is r)
   cases hm:x.AA.find? fun m=>decide (m.id=d) with
   | some m =>
    rw[hm] at hf2;simp only[AAD,AAV] at hf2;obtain ⟨w,rfl⟩:=List.length_eq_one_iff.1 hf2.1.1;have hw:Ad s false n m.type w=true:=by simpa using hf2.2
    rw[tF _ hc (v:=Val.mk x.kind b i u d ks [w] r) hm rfl,ACk _ hm,Al,Al,Al];have:=(((LY (hx.AA m (List.mem_of_find?_eq_some hm))).app ⟨40,_,rfl,by decide⟩ c1).QW (ih _ _ hw)).app ⟨41,_,rfl,by decide⟩ c2
    rw[show O4 m.name::Bl ⟨#[40]⟩::(Qg s n m.type w++[Bl ⟨#[41]⟩])=[O4 m.name]++[Bl ⟨#[40]⟩]++Qg s n m.type w++[Bl ⟨#[41]⟩] by simp]
    exact this.s
   | none =>
    rw[hm] at hf2;simp only[AAD,AAV] at hf2;obtain ⟨w,rfl⟩:=List.length_eq_one_iff.1 hf2.1.2;rw[tH _ hc (v:=Val.mk x.kind b i u d ks is [w]) hm rfl,ACl _ hm,Al,Al,Al,Al];exact ((((c3.QW (TP (QK hf2.1.1.1.2))).app ⟨40,_,rfl,by decide⟩ c1).app (Xv w.data)).app c2).s
  ·rw[Pd (by omega),Pd (by omega),Pd (by omega),Pd (by omega),Pd (by omega),AAB hc] at hf
   unfold Bg GL;rw[Pd (by omega),Pd (by omega),Pd (by omega),Pd (by omega),Pd (by omega),Pd (by omega),AAB hc,Pd (by omega),Pd (by omega),Pd (by omega),Pd (by omega),Pd (by omega),Pd (by omega),AAB hc]
   simp only[AAD,ABQ] at hf;exact VO fun v hv=>ih _ _ (hf.2 v hv)
  ·rw[Pd (by omega),Pd (by omega),Pd (by omega),Pd (by omega),Pd (by omega),Pd (by omega),AAB hc] at hf
   rw[sw _ hc,ACp _ hc];simp only[AAD,ABQ] at hf;have hl:is.length=ks.length:=AAr hf.1.1.1.2
   cases ks with
   | nil =>
    have:is=[]:=AAn hl;subst this;have c1:EC [91] [Bl ⟨#[91]⟩]:=EW (by decide)
    have c2:EC [93] [Bl ⟨#[93]⟩]:=EW (by decide)
    exact (c1.app (kQ.app c2)).s
   | cons a q =>
    show Ef (⟨#[91]⟩++(if (a::q).length=0 then ⟨#[45,62]⟩ else ⟨#[]⟩)++Fv (((a::q).zip is).map (Qs (Ae s n x.key) (Ae s n x.elem)))++⟨#[93]⟩:ByteArray).data.toList (Bl ⟨#[91]⟩::(if (a::q).length=0 then [Bl ⟨#[45,62]⟩,Bl ⟨#[93]⟩] else EU (etk (Qg s n x.key) (Qg s n x.elem)) ((a::q).zip is)++[Bl ⟨#[93]⟩]))
    rw[show (if (a::q).length=0 then [Bl ⟨#[45,62]⟩,Bl ⟨#[93]⟩] else EU (etk (Qg s n x.key) (Qg s n x.elem)) ((a::q).zip is)++[Bl ⟨#[93]⟩])=EU (etk (Qg s n x.key) (Qg s n x.elem)) ((a::q).zip is)++[Bl ⟨#[93]⟩] from Pd (by simp)]
    have e0:(⟨#[91]⟩++(if (a::q).length=0 then ⟨#[45,62]⟩ else ⟨#[]⟩):ByteArray)=⟨#[91]⟩:=by rw[Pd (by simp)];rfl
    rw[e0];refine VO fun p hp=>?_
    obtain ⟨p1,p2⟩:=p;have hm:=List.of_mem_zip hp;exact qb (ih _ _ (hf.1.1.2 p1 hm.1)) (ih _ _ (hf.2 p2 hm.2))
  ·rw[Pd (by omega),Pd (by omega),Pd (by omega),Pd (by omega),Pd (by omega),Pd (by omega),Pd (by omega),AAB hc] at hf
   simp only[AAD,ABQ] at hf
   cases is with
   | nil =>
    rw[su _ hc rfl,AAO _ hc];exact LY (s:=⟨#[110,111,110,101]⟩) (by decide)
   | cons w q =>
    rw[sj _ hc rfl,AAO _ hc,Al,Al];exact (kT (ih _ _ (hf.2 w (ABT ..)))).s
theorem map_ok {α β:Type} {a:Except Int α} {g:α->β} {b:β} (h:a.map g = .ok b):∃x,a = .ok x/\g x=b:=by
 cases a with
 | error e=>cases h
 | ok x=>exact ⟨x,rfl,by injection h⟩
def JZ (t:AJ):ByteArray:=if t.kind=2 then Ch t.int else if t.kind=3 then Lr t.str else t.text
def ABE (r:List UInt8):Prop:=∃c q,r=c::q/\(c.toNat=32\/c.toNat=10\/c.toNat=9)
theorem ABE.sep {r:List UInt8} (h:ABE r):dZ r:=fun c q e=>by
 obtain ⟨d,p,h1,h2⟩:=h;rw[e] at h1
 injection h1 with h1 _
 subst h1;rw[Nk (by omega),Nv (by omega)];rfl
def AAQ (k:Nat):List UInt8:=if k=0 then [32] else if k=1 then [10] else if k=2 then [32,47,47,32,125,10] else [9,32]
def spread (ks:Nat->Nat):Nat->List AJ->List UInt8
 | _,[]=>[]
 | i,t::l=>(JZ t).data.toList++(AAQ (ks i)++spread ks (i+1) l)
theorem Uz:∀ (n:Nat) (l o:List UInt8) (k:Nat),l.length<=n->I5 l=some (o,k)->(o.flatMap Dm).length+1=k
 | _,[],_,_,_,h=>by rw[U0] at h;cases h
 | 0,_::_,_,_,hn,_=>by simp at hn
 | n+1,c::r,o,k,hn,h=>by
  rw[GU] at h
  split at h
  ·injection h with h;injection h with h1 h2;subst h1 h2;rfl
  ·rename_i hc
   split at h
   ·cases h
   ·rename_i b j hp
    have hle:=Jk hp;rw[ABc] at h;obtain ⟨⟨q,i⟩,h1,h2⟩:=h
    injection h2 with h2 h3
    subst h2 h3;have ih:=Uz n _ q i (by rw[AA8];simp only[AAI] at *;omega) h1
    have hs:=(TF hp fun d p e=>by injection e with e1 _;rw[<-e1];exact hc).2
    rw[ABy,ABF];simp only
    omega
theorem iD {l:List UInt8} {t:AJ} {k:Nat} (h:CP l=some (t,k)):(JZ t).size=k:=by
 have hk:=Ir h;have ht:∀j,j<=l.length->(bA (l.take j)).size=j:=fun j hj=>by
  show (l.take j).toArray.size=j
  rw[List.size_toArray,List.length_take];omega
 unfold CP at h
 split at h
 ·cases h
 ·rename_i c r
  split at h
  ·split at h
   ·injection h with h;injection h with h1 h2
    subst h1 h2;unfold JZ;rw[Pd (by show ¬ (1:Int)=2;decide),Pd (by show ¬ (1:Int)=3;decide)]
    exact ht _ (Jp _)
   ·cases h
  ·split at h
   ·rw[ABc] at h
    obtain ⟨v,hv,h⟩:=h
    injection h with h1 h2
    subst h1 h2;unfold JZ;rw[AAB (by rfl)]
    have:=(MU.1 hv).2
    show (Lib.itoa v).toArray.size=_
    rw[List.size_toArray,this,List.length_take];have:=J2 r;rw[AAI];omega
   ·split at h
    ·rw[ABc] at h
     obtain ⟨⟨o,i⟩,hv,h⟩:=h
     injection h with h1 h2
     subst h1 h2;unfold JZ;rw[Pd (by show ¬ (3:Int)=2;decide),AAB (by rfl)]
     have h1:=Uz _ _ _ _ (AAF _) hv;have h2:(Lr (bA o)).size=((Lr (bA o)).data.toList).length:=rfl
     show (Lr (bA o)).size=_
     rw[h2,U2]
     show ((34:UInt8)::(o.flatMap Dm++[34])).length=_
     rw[AAI,ABF];simp only[AAI,List.length_nil]
     omega
    ·rw[ABc] at h
     obtain ⟨n,hv,h⟩:=h
     injection h with h1 h2
     subst h1 h2;unfold JZ;rw[Pd (by show ¬ (4:Int)=2;decide),Pd (by show ¬ (4:Int)=3;decide)]
     exact ht _ (Oy hv).2.1
def YG:List AJ->Nat
 | []=>0
 | t::l=>(JZ t).size+YG l
theorem Z7 (t:AJ) (ln:Int):JZ { t with line:=ln }=JZ t:=rfl
theorem FE:∀ (n:Nat) (ln:Int) (l:List UInt8) (o:List AJ),l.length<=n->Ap ln l = .ok o->YG o<=l.length/\o.length<=l.length
 | _,ln,[],o,_,h=>by
  rw[IE] at h
  injection h with h
  subst h;exact ⟨AAF _,AAF _⟩
 | 0,_,_::_,_,hn,_=>by simp at hn
 | n+1,ln,c::r,o,hn,h=>by
  have hr:r.length<=n:=by simpa using hn
  rw[AAI];rw[BO] at h
  split at h
  ·have:=FE n _ r o hr h;omega
  ·split at h
   ·have:=FE n _ r o hr h;omega
   ·split at h
    ·have h1:=Gf r
     have:=FE n _ _ o (Nat.le_trans h1 hr) h;omega
    ·split at h
     ·cases h
     ·rename_i u k hk
      obtain ⟨q,hq,rfl⟩:=map_ok h;have hle:=Ir hk;have hs:=iD hk;have hd:((c::r).drop k).length=r.length+1 - k:=by rw[AA8,AAI]
      have:=FE n _ _ q (by rw[hd];omega) hq
      rw[hd] at this;rw[AAI] at hle;rw[YG,Z7,hs,AAI]
      omega
theorem lm (l:List ByteArray):(Fv l).size=(fD (l.map fun b=>b.data.toList)).length:=by
 rw[<-YF];rfl
theorem Cq (c:UInt8):(⟨#[c]⟩:ByteArray).size=1:=rfl
def Ez (l:List AJ):List AJ:=l.map Eo
def FO {α:Type} (a:PR α):PR α:=a.map fun p=>(p.1,Ez p.2.1,p.2.2)
def Gy {α:Type} (part:List AJ->Bool->PR α):Prop:=∀l k,part (Ez l) k=FO (part l k)
theorem Je (k:Int) (l:List AJ):CS k (Ez l)=(CS k l).map fun p=>(Eo p.1,Ez p.2):=by
 cases l with
 | nil=>rfl
 | cons t r =>
  show CS k (Eo t::Ez r)=_
  rw[CS,CS]
  by_cases h:t.kind=k
  ·rw[AAB h,AAB (show (Eo t).kind=k from h)];rfl
  ·rw[Pd h,Pd (show ¬ (Eo t).kind=k from h)];rfl
theorem OT (s:ByteArray) (l:List AJ):Ba s (Ez l)=Ba s l:=by
 cases l with
 | nil=>rfl
 | cons t r=>rfl
theorem KI (l:List AJ):(Ez l).tail=Ez l.tail:=by
 cases l <;> rfl
theorem Fe (s:ByteArray) (l:List AJ):Ay s (Ez l)=(Ay s l).map Ez:=by
 unfold Ay;rw[OT]
 cases Ba s l
 ·rfl
 ·simp only[if_true];rw[KI];rfl
theorem Nl (l:List AJ):(Ez l).length=l.length:=AAt ..
theorem XI {α:Type} {part:List AJ->Bool->PR α} (hp:Gy part):∀ (n:Nat),Gy (I4 part n)
 | 0=>fun _ _=>rfl
 | n+1=>fun l k=>by
  rw[I4,I4,hp]
  cases part l k with
  | error e=>rfl
  | ok p =>
   obtain ⟨x,r,k'⟩:=p
   show (Except.bind (Except.ok (x,Ez r,k')) _)=_
   rw[zM,zM];simp only;rw[OT]
   cases Ba ⟨#[44]⟩ r with
   | false=>rfl
   | true =>
    simp only[if_true];rw[KI,XI hp n]
    cases I4 part n r.tail k' with
    | error e=>rfl
    | ok q=>rfl
theorem Vj (first:Bool) (l:List AJ):(if first=true then Except.ok (Ez l) else Ay ⟨#[44]⟩ (Ez l))=(if first=true then Except.ok l else Ay ⟨#[44]⟩ l:Except Int (List AJ)).map Ez:=by
 cases first
 ·exact Fe _ _
 ·rfl
theorem rC (m:Bool) (x:Aa):Gy (Eu m x):=fun l k=>by
 unfold Eu;rw[OT,KI,Je,Je]
 cases Ba ⟨#[64]⟩ l with
 | true =>
  simp only[if_true]
  cases CS 2 l.tail with
  | error e=>rfl
  | ok p =>
   show (if OP x (Rq m p.1.int)=true then _ else _:PR Int)=FO (if OP x (Rq m p.1.int)=true then _ else _)
   cases OP x (Rq m p.1.int)
   ·rfl
   ·cases m <;> rfl
 | false =>
  simp only[Bool.false_eq_true,if_false]
  cases CS 1 l with
  | error e=>rfl
  | ok p =>
   show (match x.AX.find? fun y=>decide (y.name=p.1.text) with
    | some y=>Except.ok (y.id,Ez p.2,k)
    | none => .error 4:PR Int)=FO (match x.AX.find? fun y=>decide (y.name=p.1.text) with
    | some y=>Except.ok (y.id,p.2,k)
    | none => .error 4:PR Int)
   cases x.AX.find? fun y=>decide (y.name=p.1.text) <;> rfl
section
variable {m:Bool} {f:Int->List AJ->Bool->PR Val}
theorem qW (hf:∀t,Gy (f t)) (x:Aa):Gy (IW f x):=fun l k=>by
 unfold IW;rw[Fe]
 cases Ay ⟨#[91]⟩ l with
 | error e=>rfl
 | ok l1 =>
  show (Except.bind (Except.ok (Ez l1)) _)=_
  rw[zM,zM,OT,Nl]
  cases Ba ⟨#[93]⟩ l1 with
  | true=>simp only[if_true];rw[KI];rfl
  | false =>
   simp only[Bool.false_eq_true,if_false];rw[XI (hf x.elem)]
   cases I4 (f x.elem) (l1.length+1) l1 k with
   | error e=>rfl
   | ok p =>
    show Except.bind (Ay ⟨#[93]⟩ (Ez p.2.1)) _=FO (Except.bind (Ay ⟨#[93]⟩ p.2.1) _)
    rw[Fe]
    cases Ay ⟨#[93]⟩ p.2.1 <;> rfl
theorem wR (hf:∀t,Gy (f t)) (x:Aa):Gy (Dr f x):=fun l k=>by
 unfold Dr;rw[hf]
 cases f x.key l k with
 | error e=>rfl
 | ok p =>
  show Except.bind (Ay ⟨#[45,62]⟩ (Ez p.2.1)) _=FO (Except.bind (Ay ⟨#[45,62]⟩ p.2.1) _)
  rw[Fe]
  cases Ay ⟨#[45,62]⟩ p.2.1 with
  | error e=>rfl
  | ok l1 =>
   show Except.bind (f x.elem (Ez l1) p.2.2) _=FO (Except.bind (f x.elem l1 p.2.2) _)
   rw[hf]
   cases f x.elem l1 p.2.2 <;> rfl
theorem vv (hf:∀t,Gy (f t)) (x:Aa):Gy (IV f x):=fun l k=>by
 unfold IV;rw[Fe]
 cases Ay ⟨#[91]⟩ l with
 | error e=>rfl
 | ok l1 =>
  show (Except.bind (Except.ok (Ez l1)) _)=_
  rw[zM,zM,OT,OT,Nl,KI]
  cases Ba ⟨#[45,62]⟩ l1 with
  | true =>
   simp only[if_true];rw[Fe]
   cases Ay ⟨#[93]⟩ l1.tail <;> rfl
  | false =>
   simp only[Bool.false_eq_true,if_false]
   cases Ba ⟨#[93]⟩ l1 with
   | true=>rfl
   | false =>
    simp only[Bool.false_eq_true,if_false];rw[XI (wR hf x)]
    cases I4 (Dr f x) (l1.length+1) l1 k with
    | error e=>rfl
    | ok p =>
     show Except.bind (Ay ⟨#[93]⟩ (Ez p.2.1)) _=FO (Except.bind (Ay ⟨#[93]⟩ p.2.1) _)
     rw[Fe]
     cases Ay ⟨#[93]⟩ p.2.1 <;> rfl
theorem vQ (hf:∀t,Gy (f t)) (x:Aa):Gy (Hr f x):=fun l k=>by
 unfold Hr;rw[Je]
 cases CS 1 l with
 | error e=>rfl
 | ok p =>
  show (if p.1.text=_ then Except.ok ([],Ez p.2,k) else if p.1.text=_ then Except.bind (Ay ⟨#[40]⟩ (Ez p.2)) _ else .error 2:PR (List Val))=FO (if p.1.text=_ then _ else if p.1.text=_ then Except.bind (Ay ⟨#[40]⟩ p.2) _ else .error 2)
  split
  ·rfl
  ·split
   ·rw[Fe]
    cases Ay ⟨#[40]⟩ p.2 with
    | error e=>rfl
    | ok l2 =>
     show Except.bind (f x.elem (Ez l2) k) _=FO (Except.bind (f x.elem l2 k) _)
     rw[hf]
     cases f x.elem l2 k with
     | error e=>rfl
     | ok q =>
      show Except.bind (Ay ⟨#[41]⟩ (Ez q.2.1)) _=FO (Except.bind (Ay ⟨#[41]⟩ q.2.1) _)
      rw[Fe]
      cases Ay ⟨#[41]⟩ q.2.1 <;> rfl
   ·rfl
theorem ZL (hf:∀t,Gy (f t)):∀ (ms:List Ac) (first:Bool),Gy (BU f first ms)
 | [],_=>fun _ _=>rfl
 | y::ms,first=>fun l k=>by
  rw[BU,BU,Vj]
  cases (if first=true then Except.ok l else Ay ⟨#[44]⟩ l:Except Int (List AJ)) with
  | error e=>rfl
  | ok l0 =>
   show Except.bind (CS 1 (Ez l0)) _=FO (Except.bind (CS 1 l0) _)
   rw[Je]
   cases CS 1 l0 with
   | error e=>rfl
   | ok p =>
    show (if p.1.text=y.name then Except.bind (Ay ⟨#[58]⟩ (Ez p.2)) _ else .error 4:PR (List Val))=FO (if p.1.text=y.name then Except.bind (Ay ⟨#[58]⟩ p.2) _ else .error 4)
    split
    ·rw[Fe]
     cases Ay ⟨#[58]⟩ p.2 with
     | error e=>rfl
     | ok l2 =>
      show Except.bind (f y.type (Ez l2) k) _=FO (Except.bind (f y.type l2 k) _)
      rw[hf]
      cases f y.type l2 k with
      | error e=>rfl
      | ok q =>
       show Except.bind (BU f false ms (Ez q.2.1) q.2.2) _=FO (Except.bind (BU f false ms q.2.1 q.2.2) _)
       rw[ZL hf ms false]
       cases BU f false ms q.2.1 q.2.2 <;> rfl
    ·rfl
theorem Y2 (m:Bool):∀ (n:Nat) (first:Bool) (l:List AJ),D9 m n first (Ez l)=(D9 m n first l).map fun p=>(p.1,Ez p.2)
 | 0,_,_=>rfl
 | n+1,first,l=>by
  rw[D9,D9,OT,Vj]
  cases Ba ⟨#[125]⟩ l with
  | true=>rfl
  | false =>
   simp only[Bool.false_eq_true,if_false]
   cases (if first=true then Except.ok l else Ay ⟨#[44]⟩ l:Except Int (List AJ)) with
   | error e=>rfl
   | ok l0 =>
    show Except.bind (CS 2 (Ez l0)) _=(Except.bind (CS 2 l0) _).map _
    rw[Je]
    cases CS 2 l0 with
    | error e=>rfl
    | ok p =>
     show Except.bind (Ay ⟨#[58]⟩ (Ez p.2)) _=(Except.bind (Ay ⟨#[58]⟩ p.2) _).map _
     rw[Fe]
     cases Ay ⟨#[58]⟩ p.2 with
     | error e=>rfl
     | ok l3 =>
      show Except.bind (CS 3 (Ez l3)) _=(Except.bind (CS 3 l3) _).map _
      rw[Je]
      cases CS 3 l3 with
      | error e=>rfl
      | ok q =>
       show Except.bind (D9 m n false (Ez q.2)) _=(Except.bind (D9 m n false q.2) _).map _
       rw[Y2 m n false]
       cases D9 m n false q.2 <;> rfl
theorem vI (hf:∀t,Gy (f t)) (x:Aa):Gy (JN m f x):=fun l k=>by
 unfold JN;rw[Fe]
 cases Ay ⟨#[123]⟩ l with
 | error e=>rfl
 | ok l1 =>
  show Except.bind (BU f true x.AA (Ez l1) k) _=FO (Except.bind (BU f true x.AA l1 k) _)
  rw[ZL hf]
  cases BU f true x.AA l1 k with
  | error e=>rfl
  | ok p =>
   show Except.bind (D9 m ((Ez p.2.1).length+1) x.AA.isEmpty (Ez p.2.1)) _=FO (Except.bind (D9 m (p.2.1.length+1) x.AA.isEmpty p.2.1) _)
   rw[Nl,Y2]
   cases D9 m (p.2.1.length+1) x.AA.isEmpty p.2.1 with
   | error e=>rfl
   | ok q =>
    show Except.bind (Ay ⟨#[125]⟩ (Ez q.2)) _=FO (Except.bind (Ay ⟨#[125]⟩ q.2) _)
    rw[Fe]
    cases Ay ⟨#[125]⟩ q.2 <;> rfl
theorem uX (hf:∀t,Gy (f t)) (x:Aa):Gy (FD m f x):=fun l k=>by
 unfold FD;rw[OT,KI,Je,Je]
 cases Ba ⟨#[64]⟩ l with
 | true =>
  simp only[if_true]
  cases CS 2 l.tail with
  | error e=>rfl
  | ok p =>
   show Except.bind (Ay ⟨#[40]⟩ (Ez p.2)) _=FO (Except.bind (Ay ⟨#[40]⟩ p.2) _)
   rw[Fe]
   cases Ay ⟨#[40]⟩ p.2 with
   | error e=>rfl
   | ok l2 =>
    show Except.bind (CS 3 (Ez l2)) _=FO (Except.bind (CS 3 l2) _)
    rw[Je]
    cases CS 3 l2 with
    | error e=>rfl
    | ok q =>
     show Except.bind (Ay ⟨#[41]⟩ (Ez q.2)) _=FO (Except.bind (Ay ⟨#[41]⟩ q.2) _)
     rw[Fe]
     cases Ay ⟨#[41]⟩ q.2 <;> rfl
 | false =>
  simp only[Bool.false_eq_true,if_false]
  cases CS 1 l with
  | error e=>rfl
  | ok p =>
   show (match x.AA.find? fun y=>decide (y.name=p.1.text) with
    | none => .error 4
    | some y=>Except.bind (Ay ⟨#[40]⟩ (Ez p.2)) _:PR (Int×List Val×List Af))=FO (match x.AA.find? fun y=>decide (y.name=p.1.text) with
    | none => .error 4
    | some y=>Except.bind (Ay ⟨#[40]⟩ p.2) _)
   cases x.AA.find? fun y=>decide (y.name=p.1.text) with
   | none=>rfl
   | some y =>
    simp only;rw[Fe]
    cases Ay ⟨#[40]⟩ p.2 with
    | error e=>rfl
    | ok l2 =>
     show Except.bind (f y.type (Ez l2) k) _=FO (Except.bind (f y.type l2 k) _)
     rw[hf]
     cases f y.type l2 k with
     | error e=>rfl
     | ok q =>
      show Except.bind (Ay ⟨#[41]⟩ (Ez q.2.1)) _=FO (Except.bind (Ay ⟨#[41]⟩ q.2.1) _)
      rw[Fe]
      cases Ay ⟨#[41]⟩ q.2.1 <;> rfl
theorem rJ:Gy Mi:=fun l k=>by
 unfold Mi;rw[Je]
 cases CS 1 l with
 | error e=>rfl
 | ok p =>
  show (if p.1.text=_ then Except.ok (true,Ez p.2,k) else if p.1.text=_ then Except.ok (false,Ez p.2,k) else .error 2:PR Bool)=FO (if p.1.text=_ then Except.ok (true,p.2,k) else if p.1.text=_ then Except.ok (false,p.2,k) else .error 2)
  repeat' split
  all_goals rfl
theorem uW (hf:∀t,Gy (f t)) (x:Aa):Gy (Ci m f x):=fun l k=>by
 have H:∀ {α:Type} {part:List AJ->Bool->PR α} (hp:Gy part) (G:α->Val),(part (Ez l) k).bind (fun p => .ok (G p.1,p.2))=FO ((part l k).bind fun p => .ok (G p.1,p.2)):=fun {α part} hp G=>by
  rw[hp]
  cases part l k <;> rfl
 have HT:∀ (j:Int) (G:AJ->Val) (_:∀t,G (Eo t)=G t),(CS j (Ez l)).bind (fun p=>(.ok (G p.1,p.2,k):PR Val))=FO ((CS j l).bind fun p => .ok (G p.1,p.2,k)):=fun j G hG=>by
  rw[Je]
  cases CS j l with
  | error e=>rfl
  | ok p=>show Except.ok (G (Eo p.1),_,_)=Except.ok (G p.1,_,_);rw[hG]
 unfold Ci
 repeat' split
 ·exact H rJ fun b => .mk 1 b 0 ⟨#[]⟩ 0 [] [] []
 ·exact HT 2 (fun t => .mk 2 false t.int ⟨#[]⟩ 0 [] [] []) fun _=>rfl
 ·exact HT 3 (fun t => .mk 3 false 0 t.str 0 [] [] []) fun _=>rfl
 ·exact H (rC m x) fun n => .mk 4 false 0 ⟨#[]⟩ n [] [] []
 ·exact H (vI hf x) fun p => .mk 5 false 0 ⟨#[]⟩ 0 [] p.1 p.2
 ·exact H (uX hf x) fun p => .mk 6 false 0 ⟨#[]⟩ p.1 [] p.2.1 p.2.2
 ·exact H (qW hf x) fun p => .mk 7 false 0 ⟨#[]⟩ 0 [] p []
 ·exact H (vv hf x) fun p => .mk 8 false 0 ⟨#[]⟩ 0 (p.map Prod.fst) (p.map Prod.snd) []
 ·exact H (vQ hf x) fun p => .mk 9 false 0 ⟨#[]⟩ 0 [] p []
end
theorem Yj (m:Bool) (s:List Aa):∀n t,Gy (Oh m s n t)
 | 0,_=>fun _ _=>rfl
 | n+1,t=>uW (fun u=>Yj m s n u) (AO s t)
theorem Uu (m:Bool) (s:List Aa) (t:Int) (l:List AJ):CU m s t (Ez l)=FO (CU m s t l):=by
 unfold CU;rw[Nl];exact Yj m s _ t l false
structure R4 (s:List Aa):Prop where
 ty:∀t,Zn (AO s t)
 sym:∀t,((AO s t).AX.map Bu.id).Nodup
 nam:∀t,WG (AO s t)
 kind:∀t,0<=t->t<(s.length:Int)->1<=(AO s t).kind/\(AO s t).kind<=9
noncomputable def BP (m:Bool) (s:List Aa) (t:Int) (x:ByteArray):Val×Int :=
 if t<0\/(s.length:Int)<=t then (zeroV,4)
 else if 65536<x.size then (zeroV,3)
 else match Ap 1 x.data.toList with
  | .error _=>(zeroV,2)
  | .ok l=>match CU m s t l with
   | .error e=>(zeroV,e)
   | .ok (v,r,k)=>if r≠[] then (zeroV,2) else if k=true\/BX s false t v=false then (zeroV,1) else (v,0)
noncomputable def Ea (m:Bool) (s:List Aa) (t:Int) (l:List AJ):Val×Int×Int :=
 if t<0\/(s.length:Int)<=t then (zeroV,0,4)
 else match CU m s t l with
  | .error e=>(zeroV,0,e)
  | .ok (v,r,k)=>if k=true\/BX s false t v=false then (zeroV,0,1) else (v,((l.length - r.length:Nat):Int),0)
variable {t:Int} {v:Val}
theorem QE {s:List Aa} (h:R4 s) (hf:BX s false t v=true) (ln:Int):Ap ln (LX s t v).data.toList = .ok ((Qg s (SizeOf.sizeOf v) t v).map (tZ ln)):=by
 have:=Yh h.nam h.kind (SizeOf.sizeOf v) t v hf ln [] o9;rw[List.append_nil,IE] at this
 show Ap ln (Ae s (SizeOf.sizeOf v) t v).data.toList=_
 rw[this];exact congrArg Except.ok (List.append_nil _)
theorem iX (ln:Int) (l:List AJ):(l.map (tZ ln)).map Eo=l.map Eo:=by
 rw[List.map_map];rfl
theorem ow {l:List AJ} (h:Ez l=[]):l=[]:=by
 cases l with
 | nil=>rfl
 | cons a r=>cases h
theorem XR {s:List Aa} {a b:List AJ} (h:a.map Eo=b.map Eo):
  (∃e,CU false s t a = .error e/\CU false s t b = .error e)\/∃v r r' k,CU false s t a = .ok (v,r,k)/\CU false s t b = .ok (v,r',k)/\Ez r=Ez r':=by
 have h1:=Uu false s t a;have h2:=Uu false s t b;have hs:Ez a=Ez b:=h;rw[hs] at h1;rw[h1] at h2
 cases ha:CU false s t a with
 | error e =>
  rw[ha] at h2
  cases hb:CU false s t b with
  | error e' =>
   rw[hb] at h2
   injection h2 with h2
   subst h2;exact Or.inl ⟨e,rfl,rfl⟩
  | ok p=>rw[hb] at h2;cases h2
 | ok p =>
  obtain ⟨v,r,k⟩:=p;rw[ha] at h2
  cases hb:CU false s t b with
  | error e'=>rw[hb] at h2;cases h2
  | ok q =>
   obtain ⟨v',r',k'⟩:=q;rw[hb] at h2
   injection h2 with h2
   injection h2 with h3 h4
   injection h4 with h4 h5
   simp only at h3 h4 h5;subst h3 h5;exact Or.inr ⟨v,r,r',k,rfl,rfl,h4⟩
theorem Us {s:List Aa} (h:R4 s) (hf:BX s false t v=true) (ln:Int) (more:List AJ):
  ∃r,CU false s t ((Qg s (SizeOf.sizeOf v) t v).map (tZ ln)++more) = .ok (v,r,false)/\Ez r=Ez more:=by
 have h1:=UU h.ty h.kind (SizeOf.sizeOf v) t v hf more false;have h2:CU false s t (Qg s (SizeOf.sizeOf v) t v++more) = .ok (v,more,false):=h1;have h3:((Qg s (SizeOf.sizeOf v) t v).map (tZ ln)++more).map Eo=(Qg s (SizeOf.sizeOf v) t v++more).map Eo:=by
  rw[List.map_append,List.map_append,iX]
 rcases XR (s:=s) (t:=t) h3 with ⟨e,h4,h5⟩|⟨w,r,r',k,h4,h5,h6⟩
 ·rw[h2] at h5;cases h5
 ·rw[h2] at h5
  injection h5 with h5
  injection h5 with h7 h8
  injection h8 with h8 h9
  subst h7 h8 h9;exact ⟨r,h4,h6⟩
theorem Sk {s:List Aa} (h:R4 s) (ht:0<=t/\t<(s.length:Int)) (hf:BX s false t v=true) (hz:(LX s t v).size<=65536):BP false s t (LX s t v)=(v,0):=by
 obtain ⟨r,h1,h2⟩:=Us h hf 1 [];have hr:r=[]:=ow h2;subst hr;rw[List.append_nil] at h1;unfold BP;rw[Pd (by omega),Pd (by omega),QE h hf 1]
 simp only;rw[h1];simp only;rw[Pd (by simp),Pd (by rw[hf];simp)]
theorem Xe {s:List Aa} (h:R4 s) (ht:0<=t/\t<(s.length:Int)) (hf:BX s false t v=true) {l:List AJ} (hl:Ap 1 (LX s t v).data.toList = .ok l) (more:List AJ):Ea false s t (l++more)=(v,(l.length:Int),0):=by
 rw[QE h hf 1] at hl
 injection hl with hl
 subst hl;obtain ⟨r,h1,h2⟩:=Us h hf 1 more;have hlen:r.length=more.length:=by rw[<-Nl r,h2,Nl]
 unfold Ea;rw[Pd (by omega),h1]
 simp only;rw[Pd (by rw[hf];simp),ABF,hlen,Nat.add_sub_cancel]
