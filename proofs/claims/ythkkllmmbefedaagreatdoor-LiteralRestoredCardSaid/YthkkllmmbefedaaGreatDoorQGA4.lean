/-
  The laws of literals, of the plain functions.
-/
import Derived.Test.YthkkllmmbefedaaGreatDoorQGA3
namespace Go.Proofs.YthkkllmmbefedaaGreatDoor
set_option maxHeartbeats 16000000
set_option maxRecDepth 100000
def sj (ln:Int) (t:AJ):AJ:={ t with line:=ln }
def aD (r:List UInt8):Prop:=∀c q,r=c::q->(Ba c||zZ c)=false
def Dq (a:List UInt8) (w:List AJ):Prop:=∀ln rest,Ay ln (a++rest)=(Ay ln rest).map fun o=>w.map (sj ln)++o
def EL (a:List UInt8) (w:List AJ):Prop:=∀ln rest,aD rest->Ay ln (a++rest)=(Ay ln rest).map fun o=>w.map (sj ln)++o
variable {w:List AJ} {a:List UInt8}
theorem Dq.s (h:Dq a w):EL a w:=fun ln rest _=>h ln rest
theorem J4 {α:Type} (a:Except Int (List α)) (u w:List α):(a.map fun o=>w++o).map (fun o=>u++o)=a.map fun o=>(u++w)++o:=by
 cases a with
 | error e=>rfl
 | ok o=>exact congrArg Except.ok (AAb u w o).symm
variable {u:List AJ} {b:List UInt8}
theorem Dq.app (h1:Dq a u) (h2:Dq b w):Dq (a++b) (u++w):=fun ln rest=>by
 rw[AAb,h1,h2,J4,List.map_append]
theorem Dq.Pj (h1:Dq a u) (h2:EL b w):EL (a++b) (u++w):=fun ln rest hr=>by
 rw[AAb,h1,h2 ln rest hr,J4,List.map_append]
def Stop (b:List UInt8):Prop:=∃c q,b=c::q/\(Ba c||zZ c)=false
theorem Stop.sep (h:Stop b) (r:List UInt8):aD (b++r):=by
 obtain ⟨c,q,rfl,hc⟩:=h
 intro d p e
 injection e with e1 e2
 subst e1;exact hc
theorem EL.app (h1:EL a u) (hb:Stop b) (h2:Dq b w):Dq (a++b) (u++w):=fun ln rest=>by
 rw[AAb,h1 ln _ (hb.sep rest),h2,J4,List.map_append]
theorem EL.Pj (h1:EL a u) (hb:Stop b) (h2:EL b w):EL (a++b) (u++w):=fun ln rest hr=>by
 rw[AAb,h1 ln _ (hb.sep rest),h2 ln rest hr,J4,List.map_append]
theorem Dq.nil:Dq [] []:=fun ln rest=>by
 rw[List.nil_append]
 cases Ay ln rest <;> rfl
theorem lT:aD []:=fun c q h=>by cases h
variable {r:List UInt8} {c:UInt8}
theorem J5 {rest:List UInt8} {t:AJ} (ln:Int) (h1:c.toNat≠10) (h2:¬ (c.toNat=32\/c.toNat=9)) (h3:¬ (c.toNat=47/\((r++rest).headD 0).toNat=47)) (ht:DR (c::(r++rest))=some (t,(c::r).length)):
  Ay ln (c::r++rest)=(Ay ln rest).map fun o=>[t].map (sj ln)++o:=by
 rw[AAc,Ck,Pd h1,Pd h2,Pd h3,ht];simp only;rw[show (c::(r++rest)).drop (c::r).length=rest by rw[<-AAc];exact List.drop_left]
 rfl
theorem X6 (h:Ba c=true):c.toNat=95\/(97<=c.toNat/\c.toNat<=122)\/(65<=c.toNat/\c.toNat<=90):=by
 unfold Ba Ho at h;simp only[ABp,AAM,AAX] at h
 omega
theorem ME:zZ c=true↔48<=c.toNat/\c.toNat<=57:=by
 unfold zZ Hw;simp only[AAM,AAX]
 omega
theorem NG (h:¬ (48<=c.toNat/\c.toNat<=57)):zZ c=false:=by
 rw[Bool.eq_false_iff,ne_eq,ME];exact h
theorem M7 (h:¬ (c.toNat=95\/(97<=c.toNat/\c.toNat<=122)\/(65<=c.toNat/\c.toNat<=90))):Ba c=false:=by
 cases hc:Ba c with
 | false=>rfl
 | true=>exact absurd (X6 hc) h
theorem rU (h:zZ c=true):Ba c=false:=M7 (by have:=ME.1 h;omega)
theorem gM (ha:a.all (fun d=>Ba d||zZ d)=true) (hr:aD r):GI (a++r)=a.length:=by
 induction a with
 | nil =>
  cases r with
  | nil=>rfl
  | cons c q=>rw[List.nil_append,GI,hr c q rfl];rfl
 | cons c q ih =>
  rw[List.all_cons,AAM] at ha;rw[AAc,GI,AAH ha.1,ih ha.2];rfl
theorem Us (ha:∀c∈a,zZ c=true) (hr:aD r):Du (a++r)=a.length:=by
 induction a with
 | nil =>
  cases r with
  | nil=>rfl
  | cons c q =>
   have:=hr c q rfl;rw[Bool.or_eq_false_iff] at this;rw[List.nil_append,Du,this.2];rfl
 | cons c q ih =>
  rw[AAc,Du,AAH (ha c (AAl ..)),ih fun d hd=>ha d (ABD _ hd)];rfl
theorem ny (s:ByteArray):bA s.data.toList=s:=rfl
theorem K3 {s:ByteArray} (h:EG s=true):EL s.data.toList [OO s]:=fun ln rest hr=>by
 unfold EG at h;simp only[AAM,AAX] at h;obtain ⟨⟨⟨h0,h1⟩,h2⟩,h3⟩:=h;have hlen:s.data.toList.length=s.size:=rfl;have hbs:=ny s;generalize s.data.toList=l at *
 cases l with
 | nil=>rw[<-hlen] at h0;cases h0
 | cons c q =>
  have hc:Ba c=true:=h2;have hg:=X6 hc;have ha:(c::q).all (fun d=>Ba d||zZ d)=true:=h3
  refine J5 ln (by omega) (by omega) (by omega) ?_
  have hk:=gM ha hr;rw[AAc] at hk;rw[DR,hc,AAH rfl,hk,AAH (by rw[hlen];exact h1)]
  have ht:(c::(q++rest)).take (c::q).length=c::q:=by rw[<-AAc];exact List.take_left
  rw[ht,hbs];rfl
theorem WN (v:Int):(∃c q,Lib.itoa v=c::q/\zZ c=true/\∀d∈q,zZ d=true)\/(∃d q,Lib.itoa v=45::d::q/\zZ d=true/\∀e∈q,zZ e=true):=by
 have hd:∀u:Nat,∀b∈Lib.decDigits u,zZ b=true:=fun u b hb=>ME.2 (JW u b hb)
 by_cases hn:v<0
 ·have hv:v = -(v.natAbs:Int):=by omega
  rw[hv,Lib.itoa_neg _ (by omega)]
  cases hc:Lib.decDigits v.natAbs with
  | nil=>exact absurd hc (Dv _)
  | cons c q=>exact Or.inr ⟨c,q,rfl,hd _ _ (by rw[hc];exact AAl ..),fun d hm=>hd v.natAbs d (by rw[hc];exact ABD _ hm)⟩
 ·have hv:v=(v.toNat:Int):=by omega
  rw[hv,Lib.itoa_nonneg]
  cases hc:Lib.decDigits v.toNat with
  | nil=>exact absurd hc (Dv _)
  | cons c q=>exact Or.inl ⟨c,q,rfl,hd _ _ (by rw[hc];exact AAl ..),fun d hm=>hd v.toNat d (by rw[hc];exact ABD _ hm)⟩
theorem R5 {v:Int} (h:-9223372036854775808<=v/\v<=9223372036854775807):EL (Lib.itoa v) [Zi v]:=fun ln rest hr=>by
 have hi:Hq (Lib.itoa v)=some v:=UQ.2 ⟨h,rfl⟩
 rcases WN v with ⟨c,q,e,hc,hq⟩|⟨d,q,e,hd,hq⟩
 ·rw[e] at hi ⊢
  have hg:=ME.1 hc;refine J5 ln (by omega) (by omega) (by omega) ?_
  have hk:=Us hq hr;rw[DR,rU hc,Pd (by simp),hc,Bool.true_or,AAH rfl,hk]
  have ht:(c::(q++rest)).take (1+q.length)=c::q:=by rw[Nat.add_comm,List.take_succ_cons,List.take_left]
  rw[ht,hi,Nat.add_comm];rfl
 ·rw[e] at hi ⊢
  have hg:=ME.1 hd;have h45:(45:UInt8).toNat=45:=rfl;refine J5 ln (by omega) (by omega) (by omega) ?_
  have hk:Du (d::q++rest)=(d::q).length:=Us (fun c hc=>by
   rcases AAi.1 hc with rfl|hc
   ·exact hd
   ·exact hq c hc) hr
  rw[DR,M7 (by omega),Pd (by simp),NG (by omega),Bool.false_or]
  have h1:(decide ((45:UInt8).toNat=45)&&zZ ((d::q++rest).headD 0))=true:=by
   rw[AAM];exact ⟨rfl,hd⟩
  rw[h1,AAH rfl,hk];have ht:((45:UInt8)::(d::q++rest)).take (1+(d::q).length)=45::d::q:=by rw[Nat.add_comm,List.take_succ_cons,List.take_left]
  rw[ht,hi,Nat.add_comm];rfl
theorem ZB (b:UInt8):∃c q,FV b=c::q/\c.toNat≠34:=by
 unfold FV
 split
 ·exact ⟨92,_,rfl,by decide⟩
 ·rename_i h1
  split
  ·exact ⟨92,_,rfl,by decide⟩
  ·split
   ·exact ⟨92,_,rfl,by decide⟩
   ·exact ⟨b,_,rfl,by omega⟩
theorem Xi:∀ (l rest:List UInt8),Gn (l.flatMap FV++34::rest)=some (l,(l.flatMap FV).length+1)
 | [],rest=>by
  rw[List.flatMap_nil,List.nil_append,Fz,AAH (show (34:UInt8).toNat=34 from rfl)];rfl
 | b::l,rest=>by
  obtain ⟨c,q,hc,hn⟩:=ZB b;have hp:DV (FV b++(l.flatMap FV++34::rest))=some (b,(FV b).length):=mG b _ ⟨_,rfl⟩ fun d p e=>by
   rw[hc] at e
   injection e with e1 e2
   rw[<-e1];exact hn
  have hd:(FV b++(l.flatMap FV++34::rest)).drop (FV b).length=l.flatMap FV++34::rest:=List.drop_left;rw[ABf,AAb];rw[hc] at hp hd ⊢;rw[AAc] at hp hd ⊢;rw[Fz,Pd hn,hp];simp only;rw[hd,Xi l rest];simp only[Option.map_some,AAp,AAS]
  congr 2
  omega
theorem Tw (s:ByteArray):∀k,k<=s.size->(Mr s k).data.toList=34::(s.data.toList.take k).flatMap FV
 | 0,_=>rfl
 | k+1,h=>by
  have hk:k<s.data.toList.length:=h;rw[Mr,ByteArray.data_append,Array.toList_append,Tw s k (by omega),fC,ABd hk,List.flatMap_append]
  have:s.data.getD k 0=s.data.toList[k]:=by
   rw[Array.getD_eq_getD_getElem?,Array.getElem?_eq_getElem (by exact h)];rfl
  rw[this];simp
theorem Tx (s:ByteArray):(LG s).data.toList=34::(s.data.toList.flatMap FV++[34]):=by
 unfold LG;rw[ByteArray.data_append,Array.toList_append,Tw s s.size (AAP _)];have:s.data.toList.take s.size=s.data.toList:=List.take_of_length_le (AAP _);rw[this];rfl
theorem WM (s:ByteArray):Dq (LG s).data.toList [dS s]:=fun ln rest=>by
 rw[Tx];have h34:(34:UInt8).toNat=34:=rfl;refine J5 ln (by omega) (by omega) (by omega) ?_
 rw[DR,M7 (by omega),Pd (by simp),NG (by omega),Pd (by simp[h34]),AAH h34]
 rw[AAb,List.singleton_append,Xi];simp only[Option.map_some,AAS,AAp,List.length_nil]
 rfl
theorem D9 (h:c.toNat=123\/c.toNat=125\/c.toNat=40\/c.toNat=41\/c.toNat=91\/c.toNat=93\/c.toNat=44\/c.toNat=58\/c.toNat=64):Dq [c] [Bf ⟨#[c]⟩]:=fun ln rest=>by
 refine J5 ln (by omega) (by omega) (by omega) ?_
 rw[List.nil_append,DR,M7 (by omega),Pd (by simp),NG (by omega),Bool.false_or]
 rw[Pd (by rw[AAM,AAX];omega),Pd (by omega)]
 rw[TU (by omega) (by omega) (by unfold Ru;omega)];rfl
theorem gK:Dq [45,62] [Bf ⟨#[45,62]⟩]:=fun ln rest=>by
 have h45:(45:UInt8).toNat=45:=rfl;refine J5 ln (by omega) (by omega) (by omega) ?_
 rw[List.singleton_append,DR,M7 (by omega),Pd (by simp),NG (by omega),Bool.false_or,List.headD_cons,NG (by decide),Bool.and_false]
 rw[Pd (by simp),Pd (by omega),Oo (Or.inl ⟨rfl,rfl⟩)];rfl
theorem PG:Dq [32] []:=fun ln rest=>by
 rw[List.singleton_append,Ck,Pd (by decide),AAH (by decide)]
 cases Ay ln rest <;> rfl
theorem KA {s:List Aa} {t:Int} {v:Val} {n:Nat} (h:Ad s false (n+1) t v=true):0<=t/\t<(s.length:Int)/\v.kind=(AO s t).kind/\zJ v=true/\Ak (Ad s false n) false (AO s t) v=true:=by
 rw[Ad] at h
 split at h
 ·cases h
 ·rename_i h1
  split at h
  ·cases h
  ·rename_i h2
   simp only[not_or,ne_eq,Decidable.not_not,Bool.not_eq_false] at h2;exact ⟨by omega,by omega,h2.1,h2.2,h⟩
def LA (l:List AJ):Prop:=∀more,BX ⟨#[93]⟩ (l++more)=false/\BX ⟨#[45,62]⟩ (l++more)=false
theorem ru (a:ByteArray) (l:List AJ):LA (OO a::l):=fun _=>⟨R9 _ _ _,R9 _ _ _⟩
theorem rq {a:ByteArray} (h1:a≠⟨#[93]⟩) (h2:a≠⟨#[45,62]⟩) (l:List AJ):LA (Bf a::l):=fun more=>by
 rw[AAc,FY,FY];exact ⟨AAZ h1,AAZ h2⟩
theorem dI (f:Int->Val->List AJ) (x:Aa) (v:Val):LA (Fj f x v):=by
 unfold Fj Q6 LU fP
 repeat' split
 all_goals first
  | exact ru _ _
  | exact rq (by decide) (by decide) _
  | exact fun _=>⟨WO _ _ _,WO _ _ _⟩
  | exact fun _=>⟨gW _ _ _,gW _ _ _⟩
section
variable {f:Int->List AJ->Bool->PR Val} {g:Int->Val->List AJ} {x:Aa} {k:Bool} {more:List AJ}
theorem Zp (hx:YQ x) {n:Int} :
  Ea false x (Q6 x n++more) k = .ok (n,more,k):=by
 unfold Q6
 cases hc:x.AV.find? fun y=>decide (y.id=n) with
 | some y =>
  have h1:=List.find?_some hc;rw[AAX] at h1;have hy:=List.mem_of_find?_eq_some hc;unfold Ea;simp only[AAc,List.nil_append];rw[R9,Pd (by simp),Em 1 _ _ rfl,zM]
  simp only;rw[show (OO y.name).text=y.name from rfl,PW hx.AAv hy];simp only;rw[h1]
 | none =>
  have h2:Nh x n=false:=by
   unfold Nh;rw[List.any_eq_false]
   intro y hy hd
   exact (List.find?_eq_none.1 hc y hy) hd
  unfold Ea;simp only[AAc,List.nil_append];rw[FY,AAT rfl,AAH rfl,List.tail_cons,Em 2 _ _ rfl,zM];simp only;rw[ND,show (Zi n).int=n from rfl,h2,Pd (by simp)]
variable {vs:List Val}
theorem bY (hx:YQ x) {n:Int} {rs:List Af} (h:(∃y v,x.AA.find? (fun y=>decide (y.id=n))=some y/\vs=[v]/\rs=[]/\VL f g y.type v)\/(x.AA.find? (fun y=>decide (y.id=n))=none/\vs=[]/\∃r,rs=[r]/\r.id=n)):
  Ej false f x (LU g x n vs rs++more) k = .ok ((n,vs,rs),more,k):=by
 rcases h with ⟨y,v,hc,rfl,rfl,hb⟩|⟨hc,rfl,r,rfl,hr⟩
 ·have h1:=List.find?_some hc
  rw[AAX] at h1;have hy:=List.mem_of_find?_eq_some hc;have e:LU g x n [v] []++more=OO y.name::Bf ⟨#[40]⟩::(g y.type v++(Bf ⟨#[41]⟩::more)):=by
   unfold LU;rw[hc];simp only[AAc,AAb,List.nil_append,pU]
  rw[e];unfold Ej;rw[R9,Pd (by simp),Em 1 _ _ rfl,zM]
  simp only;rw[show (OO y.name).text=y.name from rfl,PW hx.AA3 hy];simp only;rw[Cy,zM,hb,zM];simp only;rw[Cy,zM,h1]
 ·have e:LU g x n [] [r]++more=Bf ⟨#[64]⟩::Zi n::Bf ⟨#[40]⟩::dS r.data::Bf ⟨#[41]⟩::more:=by
   unfold LU;rw[hc];simp only[AAc,List.nil_append,pV]
  rw[e];unfold Ej;rw[FY,AAT rfl,AAH rfl,List.tail_cons,Em 2 _ _ rfl,zM];simp only;rw[Cy,zM,Em 3 _ _ rfl,zM];simp only;rw[Cy,zM,ND]
  show Except.ok _=Except.ok _
  rw[show (Zi n).int=n from rfl,show (dS r.data).str=r.data from rfl,<-hr]
theorem dz {rs:List Af} (hl:x.AA.length=vs.length) (h:∀i (h:i<x.AA.length) (h':i<vs.length),VL f g x.AA[i].type vs[i]):
  Iq false f x (Bf ⟨#[123]⟩::(WG g true x.AA vs++(QZ x.AA.isEmpty rs++[Bf ⟨#[125]⟩]))++more) k = .ok ((vs,rs),more,k):=by
 unfold Iq;simp only[AAc,AAb,List.nil_append];rw[Cy,zM,Qq x.AA vs true hl h,zM];simp only;have h2:=Qe rs x.AA.isEmpty more fun _ _=>trivial
 unfold ED at h2;rw[h2,zM];simp only;rw[Cy,zM]
theorem ZW (hd:∀t,Dec (f t)) (h:∀v∈vs,VL f g x.elem v) (hh:∀v∈vs,LA (g x.elem v)):
  Hg f x (Bf ⟨#[91]⟩::(D8 (g x.elem) vs++[Bf ⟨#[93]⟩])++more) k = .ok (vs,more,k):=by
 unfold Hg;simp only[AAc,AAb,List.nil_append];rw[Cy,zM]
 cases vs with
 | nil=>exact AAH ((FY ⟨#[93]⟩ ⟨#[93]⟩ more).trans (AAT rfl))
 | cons v r =>
  have h1:∀m,BX ⟨#[93]⟩ (D8 (g x.elem) (v::r)++m)=false:=fun m=>by
   have:=hh v (AAl ..)
   cases r with
   | nil=>exact (this m).1
   | cons w q=>rw[D8,AAb];exact (this _).1
  have h2:=Ow (hd x.elem) (v::r) (by simp) h (Bf ⟨#[93]⟩::more) k (by rw[FY];decide)
  unfold KP at h2;rw[h1,Pd (by simp),h2,zM]
  simp only;rw[Cy,zM]
theorem fw (hd:∀t,Dec (f t)) {ks:List Val} (hl:vs.length=ks.length) (h1:∀v∈ks,VL f g x.key v) (h2:∀v∈vs,VL f g x.elem v) (hh:∀v∈ks,LA (g x.key v)):
  Hf f x (Bf ⟨#[91]⟩::(if ks.length=0 then [Bf ⟨#[45,62]⟩,Bf ⟨#[93]⟩] else D8 (etk (g x.key) (g x.elem)) (ks.zip vs)++[Bf ⟨#[93]⟩])++more) k = .ok (ks.zip vs,more,k):=by
 unfold Hf;simp only[AAc];rw[Cy,zM]
 cases ks with
 | nil =>
  simp only[List.length_nil,if_true,AAc,List.nil_append];rw[FY,AAT rfl,AAH rfl,List.tail_cons,Cy,zM];rfl
 | cons a r =>
  rw[show (if (a::r).length=0 then [Bf ⟨#[45,62]⟩,Bf ⟨#[93]⟩] else D8 (etk (g x.key) (g x.elem)) ((a::r).zip vs)++[Bf ⟨#[93]⟩])=D8 (etk (g x.key) (g x.elem)) ((a::r).zip vs)++[Bf ⟨#[93]⟩] from Pd (by simp)]
  cases vs with
  | nil=>cases hl
  | cons b q =>
   have ha:=hh a (AAl ..);have h3:LA (D8 (etk (g x.key) (g x.elem)) ((a::r).zip (b::q))++[Bf ⟨#[93]⟩]):=fun m=>by
    rw[List.zip_cons_cons,AAb]
    cases r.zip q with
    | nil=>rw[D8];unfold etk;rw[AAb];exact ha _
    | cons p z=>rw[D8,AAb];unfold etk;rw[AAb];exact ha _
   have h4:=Ow (JU hd x) (g:=etk (g x.key) (g x.elem)) ((a::r).zip (b::q)) (by simp) (fun p hp m k'=>by
    obtain ⟨p1,p2⟩:=p;have hm:=List.of_mem_zip hp;unfold DZ etk;simp only[AAb,AAc];rw[h1 p1 hm.1,zM];simp only;rw[Cy,zM,h2 p2 hm.2,zM]) (Bf ⟨#[93]⟩::more) k (by rw[FY];decide)
   unfold KP at h4;rw[(h3 more).2,Pd (by simp),(h3 more).1,Pd (by simp)]
   simp only[AAb,AAc,List.nil_append];rw[h4,zM];simp only;rw[Cy,zM]
theorem fO (hl:vs.length<=1) (h:∀v∈vs,VL f g x.elem v):
  Gp f x (fP (g x.elem) vs++more) k = .ok (vs,more,k):=by
 unfold Gp fP
 cases vs with
 | nil =>
  simp only[AAc,List.nil_append];rw[Em 1 _ _ rfl,zM];simp only;rw[AAH (show (OO ⟨#[110,111,110,101]⟩).text=⟨#[110,111,110,101]⟩ from rfl)]
 | cons v r =>
  have:r=[]:=AAa (by rw[AAS] at hl;omega)
  subst this;simp only[AAc,AAb,List.nil_append];rw[Em 1 _ _ rfl,zM];simp only;rw[Pd (show ¬ (OO ⟨#[115,111,109,101]⟩).text=⟨#[110,111,110,101]⟩ by decide),AAH (show (OO ⟨#[115,111,109,101]⟩).text=⟨#[115,111,109,101]⟩ from rfl)]
  rw[Cy,zM,h v (AAl ..),zM];simp only;rw[Cy,zM]
end
section
variable {s:List Aa} {n:Nat} {t:Int} {v:Val}
theorem zip_fst:∀ {ks vs:List Val},vs.length=ks.length->(ks.zip vs).map Prod.fst=ks/\(ks.zip vs).map Prod.snd=vs
 | [],[],_=>⟨rfl,rfl⟩
 | [],_::_,h=>by cases h
 | _::_,[],h=>by cases h
 | a::r,b::q,h=>by
  have:=zip_fst (ks:=r) (vs:=q) (by simpa using h)
  rw[List.zip_cons_cons,AA5,AA5,this.1,this.2];exact ⟨rfl,rfl⟩
end
theorem TJ {s:List Aa} (hT:∀t,YQ (AO s t)) (hK:∀t,0<=t->t<(s.length:Int)->1<=(AO s t).kind/\(AO s t).kind<=9):∀ (n:Nat) (t:Int) (v:Val),Ad s false n t v=true->VL (Ag false s) (Py s n) t v
 | 0,_,_,h=>by cases h
 | n+1,t,v,h=>fun more k=>by
  obtain ⟨h1,h2,hk,hp,hf⟩:=KA h;have hkr:=hK t h1 h2;have hd:=G5 false s;have ih:=TJ hT hK n;have hx:=hT t;have hhead:∀u w,Ad s false n u w=true->LA (Py s n u w):=fun u w hw=>by
   cases n with
   | zero=>cases hw
   | succ n=>exact dI _ _ _
  rw[XO,Py];have e:=Qj hp;obtain ⟨kd,b,i,u,d,ks,is,r⟩:=v;generalize AO s t=x at *;simp only[Val.kind] at hk;subst hk;unfold Ar at e;simp only[Val.kind,Val.bool,Val.int,Val.str,Val.id,Val.keys,Val.items,Val.rest,Val.mk.injEq,true_and] at e;obtain ⟨e1,e2,e3,e4,e5,e6,e7⟩:=e;have hc:x.kind=1\/x.kind=2\/x.kind=3\/x.kind=4\/x.kind=5\/x.kind=6\/x.kind=7\/x.kind=8\/x.kind=9:=by omega
  unfold Ak at hf;simp only[Val.int,Val.str,Val.id,Val.keys,Val.items,Val.rest] at hf
  rcases hc with hc|hc|hc|hc|hc|hc|hc|hc|hc <;> rw[hc] at e1 e2 e3 e4 e5 e6 e7 <;> simp at e1 e2 e3 e4 e5 e6 e7
  ·subst e2 e3 e4 e5 e6 e7
   unfold CY Fj;rw[AAH hc,AAH hc];unfold MH;rw[AAc,Em 1 _ _ rfl,zM,hc]
   cases b <;> rfl
  ·subst e1 e3 e4 e5 e6 e7
   unfold CY Fj;rw[Pd (by omega),AAH hc,Pd (by omega),AAH hc,AAc,Em 2 _ _ rfl,zM,hc];rfl
  ·subst e1 e2 e4 e5 e6 e7
   unfold CY Fj;rw[Pd (by omega),Pd (by omega),AAH hc,Pd (by omega),Pd (by omega),AAH hc,AAc,Em 3 _ _ rfl,zM,hc];rfl
  ·subst e1 e2 e3 e5 e6 e7
   unfold CY Fj;rw[Pd (by omega),Pd (by omega),Pd (by omega),AAH hc,Pd (by omega),Pd (by omega),Pd (by omega),AAH hc,Zp hx,zM,hc];rfl
  ·subst e1 e2 e3 e4 e5
   rw[Pd (by omega),Pd (by omega),Pd (by omega),AAH hc] at hf
   simp only[AAM] at hf;have hz:=Rv _ _ hf.2;unfold CY Fj;rw[Pd (by omega),Pd (by omega),Pd (by omega),Pd (by omega),AAH hc,Pd (by omega),Pd (by omega),Pd (by omega),Pd (by omega),AAH hc]
   refine (congrArg (fun a=>Except.bind a _) (dz (AAe hf.1.1.1).symm (fun i h1 h2=>ih _ _ (hz i h1 h2)))).trans ?_
   simp only[zM,hc,Val.rest]
  ·subst e1 e2 e3 e5
   rw[Pd (by omega),Pd (by omega),Pd (by omega),Pd (by omega),AAH hc] at hf
   have hf2:(match x.AA.find? (fun m=>decide (m.id=d)) with
    | some m=>decide (is.length=1)&&decide (r.length=0)&&is.all fun y=>Ad s false n m.type y
    | none=>x.open_ && !false&&BA d&&decide (is.length=0)&&decide (r.length=1)&&r.all fun q=>decide (q.id=d))=true:=hf
   clear hf;have hu:Ej false (Ag false s) x (LU (Py s n) x d is r++more) k = .ok ((d,is,r),more,k):=by
    refine bY hx ?_
    cases hm:x.AA.find? fun m=>decide (m.id=d) with
    | some m =>
     rw[hm] at hf2;simp only[AAM,AAX] at hf2;obtain ⟨w,rfl⟩:=List.length_eq_one_iff.1 hf2.1.1;refine Or.inl ⟨m,w,rfl,rfl,AAa hf2.1.2,ih _ _ ?_⟩
     simpa using hf2.2
    | none =>
     rw[hm] at hf2;simp only[AAM,AAX] at hf2;obtain ⟨w,rfl⟩:=List.length_eq_one_iff.1 hf2.1.2;refine Or.inr ⟨rfl,AAa hf2.1.1.2,w,rfl,?_⟩
     simpa using hf2.2
   unfold CY Fj;rw[Pd (by omega),Pd (by omega),Pd (by omega),Pd (by omega),Pd (by omega),AAH hc,Pd (by omega),Pd (by omega),Pd (by omega),Pd (by omega),Pd (by omega),AAH hc]
   simp only[Val.id,Val.items,Val.rest];rw[hu,zM,hc]
  ·subst e1 e2 e3 e4 e5 e7
   rw[Pd (by omega),Pd (by omega),Pd (by omega),Pd (by omega),Pd (by omega),AAH hc] at hf
   simp only[AAM,AAj] at hf;unfold CY Fj;rw[Pd (by omega),Pd (by omega),Pd (by omega),Pd (by omega),Pd (by omega),Pd (by omega),AAH hc,Pd (by omega),Pd (by omega),Pd (by omega),Pd (by omega),Pd (by omega),Pd (by omega),AAH hc]
   refine (congrArg (fun a=>Except.bind a _) (ZW hd (fun w hw=>ih _ _ (hf.2 w hw)) (fun w hw=>hhead _ _ (hf.2 w hw)))).trans ?_
   simp only[zM,hc]
  ·subst e1 e2 e3 e4 e7
   rw[Pd (by omega),Pd (by omega),Pd (by omega),Pd (by omega),Pd (by omega),Pd (by omega),AAH hc] at hf
   simp only[AAM,AAj] at hf;unfold CY Fj;rw[Pd (by omega),Pd (by omega),Pd (by omega),Pd (by omega),Pd (by omega),Pd (by omega),Pd (by omega),AAH hc,Pd (by omega),Pd (by omega),Pd (by omega),Pd (by omega),Pd (by omega),Pd (by omega),Pd (by omega),AAH hc]
   have hl:=AAe hf.1.1.1.2;have hz:=zip_fst hl;refine (congrArg (fun a=>Except.bind a _) (fw hd hl (fun w hw=>ih _ _ (hf.1.1.2 w hw)) (fun w hw=>ih _ _ (hf.2 w hw)) (fun w hw=>hhead _ _ (hf.1.1.2 w hw)))).trans ?_
   simp only[zM,hc];rw[hz.1,hz.2]
  ·subst e1 e2 e3 e4 e5 e7
   rw[Pd (by omega),Pd (by omega),Pd (by omega),Pd (by omega),Pd (by omega),Pd (by omega),Pd (by omega),AAH hc] at hf
   simp only[AAM,AAj] at hf;unfold CY Fj;rw[Pd (by omega),Pd (by omega),Pd (by omega),Pd (by omega),Pd (by omega),Pd (by omega),Pd (by omega),Pd (by omega),Pd (by omega),Pd (by omega),Pd (by omega),Pd (by omega),Pd (by omega),Pd (by omega),Pd (by omega),Pd (by omega)]
   refine (congrArg (fun a=>Except.bind a _) (fO (AAe hf.1) (fun w hw=>ih _ _ (hf.2 w hw)))).trans ?_
   simp only[zM,hc]
def ES (t:AJ):AJ:={ t with line:=0 }
def RQ (l r w:List AJ):Prop:=∃pre,l=pre++r/\pre.map ES=w
theorem RQ.refl (l:List AJ):RQ l l []:=⟨[],rfl,rfl⟩
theorem RQ.app {a b c:List AJ} (h1:RQ a b u) (h2:RQ b c w):RQ a c (u++w):=by
 obtain ⟨p,rfl,rfl⟩:=h1;obtain ⟨q,rfl,rfl⟩:=h2;exact ⟨p++q,by rw[AAb],List.map_append⟩
def xX {α:Type} (part:List AJ->Bool->PR α):Prop:=∀l k x r k',part l k = .ok (x,r,k')->k=true->k'=true
theorem xX.false {α:Type} {part:List AJ->Bool->PR α} (h:xX part) {l:List AJ} {k:Bool} {x:α} {r:List AJ} (he:part l k = .ok (x,r,false)):k=false:=by
 cases k with
 | false=>rfl
 | true=>exact absurd (h _ _ _ _ _ he rfl) (by simp)
section
variable {f:Int->List AJ->Bool->PR Val} {g:Int->Val->List AJ}
variable {P:Int->Val->Prop}
end
end Go.Proofs.YthkkllmmbefedaaGreatDoor
namespace Go.Proofs.YthkkllmmbefedaaGreatDoor
def ai:List (List UInt8)->List UInt8
 | []=>[]
 | [x]=>x
 | x::y::r=>x++44::32::ai (y::r)
theorem X9:∀ (m:List (List UInt8)) (z:List UInt8),ai (m++[z])=if m=[] then z else ai m++44::32::z
 | [],z=>rfl
 | [x],z=>rfl
 | x::y::r,z=>by
  have:=X9 (y::r) z;rw[Pd (by simp)] at this
  rw[Pd (by simp),ai]
  show x++44::32::ai (y::r++[z])=_
  rw[this];simp
theorem Al (a b:ByteArray):(a++b).data.toList=a.data.toList++b.data.toList:=by rw[ByteArray.data_append,Array.toList_append]
theorem Wn (l:List ByteArray):(FN l).data.toList=ai (l.map fun b=>b.data.toList):=by
 have:∀k,k<=l.length->(Dw (fun i=>l.getD i ⟨#[]⟩) k).data.toList=ai ((l.take k).map fun b=>b.data.toList):=fun k=>by
  induction k with
  | zero=>intro _;rfl
  | succ k ih =>
   intro h
   have hk:k<l.length:=h;rw[Dw,Al,Al,ih (by omega),ABd hk,List.map_append,List.map_singleton,X9]
   have hg:l.getD k ⟨#[]⟩=l[k]:=by rw[AAg,zl hk];rfl
   rw[hg]
   by_cases h0:k=0
   ·subst h0
    rw[AAH rfl,AAH (by simp)];rfl
   ·rw[Pd h0,Pd (by
     intro e
     have:=congrArg List.length e;rw[AAd,List.length_take,List.length_nil] at this
     omega)]
    simp
 have h:=this l.length (AAP _);rw[List.take_length] at h;exact h
theorem Xe {α:Type} (g:α->List AJ):∀xs:List α,D8 g xs=D8 id (xs.map g)
 | []=>rfl
 | [x]=>rfl
 | x::y::r=>by rw[D8,Xe g (y::r)];rfl
theorem R6:∀ps:List (List UInt8×List AJ),(∀p∈ps,EL p.1 p.2)->EL (ai (ps.map Prod.fst)) (D8 id (ps.map Prod.snd))
 | [],_=>Dq.nil.s
 | [p],h=>h p (List.mem_singleton.2 rfl)
 | p::q::r,h=>by
  have h1:=R6 (q::r) fun x hx=>h x (ABD _ hx)
  have h2:EL ([44]++([32]++ai ((q::r).map Prod.fst))) ([Bf ⟨#[44]⟩]++([]++D8 id ((q::r).map Prod.snd))):=(D9 (by decide)).Pj (PG.Pj h1)
  exact (h p (AAl ..)).Pj ⟨44,_,rfl,by decide⟩ h2
def Lg (g:Int->Val->List AJ) (p:AY×Val):List AJ:=OO p.1.name::Bf ⟨#[58]⟩::g p.1.type p.2
def Kg (r:Af):List AJ:=[Zi r.id,Bf ⟨#[58]⟩,dS r.data]
theorem Mg:∀ (p:List AJ) (ps:List (List AJ)),D8 id (p::ps)=p++ps.flatMap fun q=>Bf ⟨#[44]⟩::q
 | p,[]=>by rw[D8];simp
 | p,q::r=>by rw[D8,Mg q r];simp
theorem UG (g:Int->Val->List AJ):∀ (ms:List AY) (vs:List Val),WG g false ms vs=((ms.zip vs).map (Lg g)).flatMap fun q=>Bf ⟨#[44]⟩::q
 | [],vs=>by cases vs <;> rfl
 | _::_,[]=>rfl
 | y::ms,v::vs=>by rw[WG,UG g ms vs];simp[Lg]
theorem Ox:∀rs:List Af,QZ false rs=(rs.map Kg).flatMap fun q=>Bf ⟨#[44]⟩::q
 | []=>rfl
 | r::rs=>by rw[QZ,Ox rs];simp[Kg]
theorem lU (g:Int->Val->List AJ) {ms:List AY} {vs:List Val} (h:vs.length=ms.length) (rs:List Af) :
  WG g true ms vs++QZ ms.isEmpty rs=D8 id ((ms.zip vs).map (Lg g)++rs.map Kg):=by
 cases ms with
 | nil =>
  have:vs=[]:=AAa h;subst this
  cases rs with
  | nil=>rfl
  | cons r rs =>
   show QZ true (r::rs)=D8 id (Kg r::rs.map Kg)
   rw[Mg,QZ,Ox];simp[Kg]
 | cons y ms =>
  cases vs with
  | nil=>cases h
  | cons v vs =>
   show WG g true (y::ms) (v::vs)++QZ false rs=D8 id (Lg g (y,v)::((ms.zip vs).map (Lg g)++rs.map Kg))
   rw[Mg,WG,UG,Ox];simp[Lg]
structure Uz (x:Aa):Prop where
 AV:∀y∈x.AV,EG y.name=true
 AA:∀y∈x.AA,EG y.name=true
 low:-9223372036854775808<=x.low
 high:x.high<=9223372036854775807
section
variable {f:Int->Val->ByteArray} {g:Int->Val->List AJ} {x:Aa}
def jK (f:Int->Val->ByteArray) (g:Int->Val->List AJ) (t:Int) (v:Val):Prop:=EL (f t v).data.toList (g t v)
theorem PU {n:Int} (h:BA n=true):-9223372036854775808<=n/\n<=9223372036854775807:=by
 have:=Lx.1 h
 omega
theorem nE {r:Af} (h:BA r.id=true):EL (Mj r).data.toList (Kg r):=by
 unfold Mj Kg;rw[Al,Al];have h2:Dq ([58]++[32]) ([Bf ⟨#[58]⟩]++[]):=(D9 (by decide)).app PG
 exact ((R5 (PU h)).app ⟨58,_,rfl,by decide⟩ h2).Pj (WM r.data).s
theorem nG (hx:Uz x) {y:AY} (hy:y∈x.AA) {v:Val} (h:jK f g y.type v):EL (Kw f (y,v)).data.toList (Lg g (y,v)):=by
 unfold Kw Lg;rw[Al,Al];have h2:Dq ([58]++[32]) ([Bf ⟨#[58]⟩]++[]):=(D9 (by decide)).app PG
 exact ((K3 (hx.AA y hy)).app ⟨58,_,rfl,by decide⟩ h2).Pj h
theorem nD (hx:Uz x) {vs:List Val} {rs:List Af} (hl:vs.length=x.AA.length) (h:∀i (h:i<x.AA.length) (h':i<vs.length),jK f g x.AA[i].type vs[i]) (hr:∀r∈rs,BA r.id=true) :
  EL (⟨#[123]⟩++FN ((x.AA.zip vs).map (Kw f)++rs.map Mj)++⟨#[125]⟩:ByteArray).data.toList (Bf ⟨#[123]⟩::(WG g true x.AA vs++(QZ x.AA.isEmpty rs++[Bf ⟨#[125]⟩]))):=by
 rw[Al,Al,Wn,<-AAb,lU g hl];have hz:∀p∈x.AA.zip vs,p.1∈x.AA/\jK f g p.1.type p.2:=fun p hp=>by
  obtain ⟨i,hi,he⟩:=List.mem_iff_getElem.1 hp;rw[List.getElem_zip] at he;rw[List.length_zip] at hi;subst he;exact ⟨AAU _,h i (by omega) (by omega)⟩
 have hj:=R6 ((x.AA.zip vs).map (fun p=>((Kw f p).data.toList,Lg g p))++rs.map fun r=>((Mj r).data.toList,Kg r)) fun p hp=>by
  rcases AAm.1 hp with hp|hp
  ·obtain ⟨q,hq,rfl⟩:=List.mem_map.1 hp
   exact nG hx (hz q hq).1 (hz q hq).2
  ·obtain ⟨q,hq,rfl⟩:=List.mem_map.1 hp
   exact nE (hr q hq)
 simp only[List.map_append,List.map_map] at hj;simp only[List.map_append,List.map_map];have h1:Dq [123] [Bf ⟨#[123]⟩]:=D9 (by decide)
 have h2:Dq [125] [Bf ⟨#[125]⟩]:=D9 (by decide)
 rw[AAb];exact (h1.app (EL.app hj ⟨125,_,rfl,by decide⟩ h2)).s
theorem UM {α:Type} {h:α->ByteArray} {k:α->List AJ} {vs:List α} (hv:∀v∈vs,EL (h v).data.toList (k v)) :
  EL (⟨#[91]⟩++FN (vs.map h)++⟨#[93]⟩:ByteArray).data.toList (Bf ⟨#[91]⟩::(D8 k vs++[Bf ⟨#[93]⟩])):=by
 rw[Al,Al,Wn,Xe];have hj:=R6 (vs.map fun p=>((h p).data.toList,k p)) fun p hp=>by
  obtain ⟨q,hq,rfl⟩:=List.mem_map.1 hp;exact hv q hq
 simp only[List.map_map] at hj;simp only[List.map_map];have h1:Dq [91] [Bf ⟨#[91]⟩]:=D9 (by decide)
 have h2:Dq [93] [Bf ⟨#[93]⟩]:=D9 (by decide)
 rw[AAb];exact (h1.app (EL.app hj ⟨93,_,rfl,by decide⟩ h2)).s
theorem nH {a b:ByteArray} {u w:List AJ} (h1:EL a.data.toList u) (h2:EL b.data.toList w):EL (a++⟨#[32,45,62,32]⟩++b).data.toList (u++Bf ⟨#[45,62]⟩::w):=by
 rw[Al,Al];have h3:Dq ([32]++([45,62]++[32])) ([]++([Bf ⟨#[45,62]⟩]++[])):=PG.app (gK.app PG);have:=(h1.app ⟨32,_,rfl,by decide⟩ h3).Pj h2
 rw[show u++Bf ⟨#[45,62]⟩::w=u++([]++([Bf ⟨#[45,62]⟩]++[]))++w by simp]
 exact this
end
section
variable (f:Int->Val->ByteArray) {x:Aa}
variable {v:Val}
theorem pI (hc:x.kind=6) {m:AY} {w:Val} (hm:x.AA.find? (fun m=>decide (m.id=v.id))=some m) (hi:v.items=[w]):Bd f x v=m.name++⟨#[40]⟩++f m.type w++⟨#[41]⟩:=by
 unfold Bd;rw[Pd (by omega),Pd (by omega),Pd (by omega),Pd (by omega),Pd (by omega),AAH hc,hm,hi]
theorem pJ (hc:x.kind=6) {r:Af} (hm:x.AA.find? (fun m=>decide (m.id=v.id))=none) (hi:v.rest=[r]):Bd f x v=⟨#[64]⟩++CX v.id++⟨#[40]⟩++LG r.data++⟨#[41]⟩:=by
 unfold Bd;rw[Pd (by omega),Pd (by omega),Pd (by omega),Pd (by omega),Pd (by omega),AAH hc,hm,hi]
theorem pG (hc:x.kind=8):Bd f x v=⟨#[91]⟩++(if v.keys.length=0 then ⟨#[45,62]⟩ else ⟨#[]⟩)++FN ((v.keys.zip v.items).map (QA (f x.key) (f x.elem)))++⟨#[93]⟩:=by
 unfold Bd;rw[Pd (by omega),Pd (by omega),Pd (by omega),Pd (by omega),Pd (by omega),Pd (by omega),Pd (by omega),AAH hc]
theorem pF (hc:x.kind=9) (hi:v.items=[]):Bd f x v=⟨#[110,111,110,101]⟩:=by
 unfold Bd;rw[Pd (by omega),Pd (by omega),Pd (by omega),Pd (by omega),Pd (by omega),Pd (by omega),Pd (by omega),Pd (by omega),hi]
theorem pE (hc:x.kind=9) {w:Val} {q:List Val} (hi:v.items=w::q):Bd f x v=⟨#[115,111,109,101,40]⟩++f x.elem w++⟨#[41]⟩:=by
 unfold Bd;rw[Pd (by omega),Pd (by omega),Pd (by omega),Pd (by omega),Pd (by omega),Pd (by omega),Pd (by omega),Pd (by omega),hi]
end
section
variable (g:Int->Val->List AJ) {x:Aa} {v:Val}
theorem AAt (hc:x.kind=6):Fj g x v=LU g x v.id v.items v.rest:=by
 unfold Fj;rw[Pd (by omega),Pd (by omega),Pd (by omega),Pd (by omega),Pd (by omega),AAH hc]
theorem AAs (hc:x.kind=8):Fj g x v=Bf ⟨#[91]⟩::(if v.keys.length=0 then [Bf ⟨#[45,62]⟩,Bf ⟨#[93]⟩] else D8 (etk (g x.key) (g x.elem)) (v.keys.zip v.items)++[Bf ⟨#[93]⟩]):=by
 unfold Fj;rw[Pd (by omega),Pd (by omega),Pd (by omega),Pd (by omega),Pd (by omega),Pd (by omega),Pd (by omega),AAH hc]
theorem vZ (hc:x.kind=9):Fj g x v=fP (g x.elem) v.items:=by
 unfold Fj;rw[Pd (by omega),Pd (by omega),Pd (by omega),Pd (by omega),Pd (by omega),Pd (by omega),Pd (by omega),Pd (by omega)]
end
theorem AAn (g:Int->Val->List AJ) {x:Aa} {d:Int} {w:Val} {rs:List Af} {m:AY} (hm:x.AA.find? (fun m=>decide (m.id=d))=some m):LU g x d [w] rs=OO m.name::Bf ⟨#[40]⟩::(g m.type w++[Bf ⟨#[41]⟩]):=by
 unfold LU;rw[hm];rfl
theorem AAo (g:Int->Val->List AJ) {x:Aa} {d:Int} {vs:List Val} {r:Af} (hm:x.AA.find? (fun m=>decide (m.id=d))=none):LU g x d vs [r]=[Bf ⟨#[64]⟩,Zi d,Bf ⟨#[40]⟩,dS r.data,Bf ⟨#[41]⟩]:=by
 unfold LU;rw[hm];rfl
theorem gL {a:List UInt8} {w:List AJ} (h:EL a w):Dq ([115,111,109,101,40]++a++[41]) (OO ⟨#[115,111,109,101]⟩::Bf ⟨#[40]⟩::(w++[Bf ⟨#[41]⟩])):=by
 have c1:Dq [40] [Bf ⟨#[40]⟩]:=D9 (by decide)
 have c2:Dq [41] [Bf ⟨#[41]⟩]:=D9 (by decide)
 have c3:EL [115,111,109,101] [OO ⟨#[115,111,109,101]⟩]:=K3 (s:=⟨#[115,111,109,101]⟩) (by decide)
 have:=((c3.app ⟨40,_,rfl,by decide⟩ c1).Pj h).app ⟨41,_,rfl,by decide⟩ c2
 simpa using this
theorem XM {s:List Aa} (hN:∀t,Uz (AO s t)) (hK:∀t,0<=t->t<(s.length:Int)->1<=(AO s t).kind/\(AO s t).kind<=9):∀ (n:Nat) (t:Int) (v:Val),Ad s false n t v=true->jK (Ae s n) (Py s n) t v
 | 0,_,_,h=>by cases h
 | n+1,t,v,hfit=>by
  obtain ⟨h1,h2,hk,hp,hf⟩:=KA hfit;have hkr:=hK t h1 h2;have hx:=hN t;have ih:=XM hN hK n;unfold jK;rw[Ae,Py];have e:=Qj hp;obtain ⟨kd,b,i,u,d,ks,is,r⟩:=v;generalize AO s t=x at *;simp only[Val.kind] at hk;subst hk;unfold Ar at e;simp only[Val.kind,Val.bool,Val.int,Val.str,Val.id,Val.keys,Val.items,Val.rest,Val.mk.injEq,true_and] at e;obtain ⟨e1,e2,e3,e4,e5,e6,e7⟩:=e
  have hc:x.kind=1\/x.kind=2\/x.kind=3\/x.kind=4\/x.kind=5\/x.kind=6\/x.kind=7\/x.kind=8\/x.kind=9:=by omega
  unfold Ak at hf;simp only[Val.int,Val.str,Val.id,Val.keys,Val.items,Val.rest] at hf
  rcases hc with hc|hc|hc|hc|hc|hc|hc|hc|hc
  ·unfold Bd Fj
   rw[AAH hc,AAH hc]
   cases b
   ·exact K3 (s:=⟨#[102,97,108,115,101]⟩) (by decide)
   ·exact K3 (s:=⟨#[116,114,117,101]⟩) (by decide)
  ·rw[AAH hc] at hf
   unfold Bd Fj;rw[Pd (by omega),AAH hc,Pd (by omega),AAH hc]
   simp only[AAM] at hf;have g1:=AAe hf.1;have g2:=AAe hf.2;have g3:=hx.low;have g4:=hx.high;exact R5 (v:=i) ⟨by omega,by omega⟩
  ·unfold Bd Fj
   rw[Pd (by omega),Pd (by omega),AAH hc,Pd (by omega),Pd (by omega),AAH hc]
   exact (WM u).s
  ·rw[Pd (by omega),Pd (by omega),AAH hc] at hf
   unfold Bd Fj;rw[Pd (by omega),Pd (by omega),Pd (by omega),AAH hc,Pd (by omega),Pd (by omega),Pd (by omega),AAH hc]
   show EL (match x.AV.find? fun y=>decide (y.id=d) with
    | some y=>y.name
    | none=>⟨#[64]⟩++CX d:ByteArray).data.toList (Q6 x d)
   unfold Q6
   cases hm:x.AV.find? fun y=>decide (y.id=d) with
   | some y=>exact K3 (hx.AV y (List.mem_of_find?_eq_some hm))
   | none =>
    have hno:(x.AV.any fun y=>decide (y.id=d))=false:=by
     rw[List.any_eq_false]
     intro y hy hd
     exact (List.find?_eq_none.1 hm y hy) hd
    have hf2:((x.AV.any fun y=>decide (y.id=d))||x.open_ && !false&&BA d)=true:=hf
    rw[hno,Bool.false_or,AAM] at hf2;rw[Al];exact (show Dq [64] [Bf ⟨#[64]⟩] from D9 (by decide)).Pj (R5 (PU hf2.2))
  ·rw[Pd (by omega),Pd (by omega),Pd (by omega),AAH hc] at hf
   unfold Bd Fj;rw[Pd (by omega),Pd (by omega),Pd (by omega),Pd (by omega),AAH hc,Pd (by omega),Pd (by omega),Pd (by omega),Pd (by omega),AAH hc]
   simp only[AAM] at hf;exact nD hx (AAe hf.1.1.1) (fun i h1 h2=>ih _ _ (Rv _ _ hf.2 i h1 h2)) (WB hf.1.2)
  ·rw[Pd (by omega),Pd (by omega),Pd (by omega),Pd (by omega),AAH hc] at hf
   have hf2:(match x.AA.find? (fun m=>decide (m.id=d)) with
    | some m=>decide (is.length=1)&&decide (r.length=0)&&is.all fun y=>Ad s false n m.type y
    | none=>x.open_ && !false&&BA d&&decide (is.length=0)&&decide (r.length=1)&&r.all fun q=>decide (q.id=d))=true:=hf
   clear hf;have c1:Dq [40] [Bf ⟨#[40]⟩]:=D9 (by decide)
   have c2:Dq [41] [Bf ⟨#[41]⟩]:=D9 (by decide)
   have c3:Dq [64] [Bf ⟨#[64]⟩]:=D9 (by decide)
   rw[AAt _ hc]
   show EL _ (LU (Py s n) x d is r)
   cases hm:x.AA.find? fun m=>decide (m.id=d) with
   | some m =>
    rw[hm] at hf2;simp only[AAM,AAX] at hf2;obtain ⟨w,rfl⟩:=List.length_eq_one_iff.1 hf2.1.1;have hw:Ad s false n m.type w=true:=by simpa using hf2.2
    rw[pI _ hc (v:=Val.mk x.kind b i u d ks [w] r) hm rfl,AAn _ hm,Al,Al,Al];have:=(((K3 (hx.AA m (List.mem_of_find?_eq_some hm))).app ⟨40,_,rfl,by decide⟩ c1).Pj (ih _ _ hw)).app ⟨41,_,rfl,by decide⟩ c2
    rw[show OO m.name::Bf ⟨#[40]⟩::(Py s n m.type w++[Bf ⟨#[41]⟩])=[OO m.name]++[Bf ⟨#[40]⟩]++Py s n m.type w++[Bf ⟨#[41]⟩] by simp]
    exact this.s
   | none =>
    rw[hm] at hf2;simp only[AAM,AAX] at hf2;obtain ⟨w,rfl⟩:=List.length_eq_one_iff.1 hf2.1.2;rw[pJ _ hc (v:=Val.mk x.kind b i u d ks is [w]) hm rfl,AAo _ hm,Al,Al,Al,Al];exact ((((c3.Pj (R5 (PU hf2.1.1.1.2))).app ⟨40,_,rfl,by decide⟩ c1).app (WM w.data)).app c2).s
  ·rw[Pd (by omega),Pd (by omega),Pd (by omega),Pd (by omega),Pd (by omega),AAH hc] at hf
   unfold Bd Fj;rw[Pd (by omega),Pd (by omega),Pd (by omega),Pd (by omega),Pd (by omega),Pd (by omega),AAH hc,Pd (by omega),Pd (by omega),Pd (by omega),Pd (by omega),Pd (by omega),Pd (by omega),AAH hc]
   simp only[AAM,AAj] at hf;exact UM fun v hv=>ih _ _ (hf.2 v hv)
  ·rw[Pd (by omega),Pd (by omega),Pd (by omega),Pd (by omega),Pd (by omega),Pd (by omega),AAH hc] at hf
   rw[pG _ hc,AAs _ hc];simp only[AAM,AAj] at hf;have hl:is.length=ks.length:=AAe hf.1.1.1.2
   cases ks with
   | nil =>
    have:is=[]:=AAa hl;subst this;have c1:Dq [91] [Bf ⟨#[91]⟩]:=D9 (by decide)
    have c2:Dq [93] [Bf ⟨#[93]⟩]:=D9 (by decide)
    exact (c1.app (gK.app c2)).s
   | cons a q =>
    show EL (⟨#[91]⟩++(if (a::q).length=0 then ⟨#[45,62]⟩ else ⟨#[]⟩)++FN (((a::q).zip is).map (QA (Ae s n x.key) (Ae s n x.elem)))++⟨#[93]⟩:ByteArray).data.toList (Bf ⟨#[91]⟩::(if (a::q).length=0 then [Bf ⟨#[45,62]⟩,Bf ⟨#[93]⟩] else D8 (etk (Py s n x.key) (Py s n x.elem)) ((a::q).zip is)++[Bf ⟨#[93]⟩]))
    rw[show (if (a::q).length=0 then [Bf ⟨#[45,62]⟩,Bf ⟨#[93]⟩] else D8 (etk (Py s n x.key) (Py s n x.elem)) ((a::q).zip is)++[Bf ⟨#[93]⟩])=D8 (etk (Py s n x.key) (Py s n x.elem)) ((a::q).zip is)++[Bf ⟨#[93]⟩] from Pd (by simp)]
    have e0:(⟨#[91]⟩++(if (a::q).length=0 then ⟨#[45,62]⟩ else ⟨#[]⟩):ByteArray)=⟨#[91]⟩:=by rw[Pd (by simp)];rfl
    rw[e0];refine UM fun p hp=>?_
    obtain ⟨p1,p2⟩:=p;have hm:=List.of_mem_zip hp;exact nH (ih _ _ (hf.1.1.2 p1 hm.1)) (ih _ _ (hf.2 p2 hm.2))
  ·rw[Pd (by omega),Pd (by omega),Pd (by omega),Pd (by omega),Pd (by omega),Pd (by omega),Pd (by omega),AAH hc] at hf
   simp only[AAM,AAj] at hf
   cases is with
   | nil =>
    rw[pF _ hc rfl,vZ _ hc];exact K3 (s:=⟨#[110,111,110,101]⟩) (by decide)
   | cons w q =>
    rw[pE _ hc rfl,vZ _ hc,Al,Al];exact (gL (ih _ _ (hf.2 w (AAl ..)))).s
theorem map_ok {α β:Type} {a:Except Int α} {g:α->β} {b:β} (h:a.map g = .ok b):∃x,a = .ok x/\g x=b:=by
 cases a with
 | error e=>cases h
 | ok x=>exact ⟨x,rfl,by injection h⟩
def I9 (t:AJ):ByteArray:=if t.kind=2 then CX t.int else if t.kind=3 then LG t.str else t.text
def xQ (r:List UInt8):Prop:=∃c q,r=c::q/\(c.toNat=32\/c.toNat=10\/c.toNat=9)
theorem xQ.sep {r:List UInt8} (h:xQ r):aD r:=fun c q e=>by
 obtain ⟨d,p,h1,h2⟩:=h;rw[e] at h1
 injection h1 with h1 _
 subst h1;rw[M7 (by omega),NG (by omega)];rfl
def vg (k:Nat):List UInt8:=if k=0 then [32] else if k=1 then [10] else if k=2 then [32,47,47,32,125,10] else [9,32]
def spread (ks:Nat->Nat):Nat->List AJ->List UInt8
 | _,[]=>[]
 | i,t::l=>(I9 t).data.toList++(vg (ks i)++spread ks (i+1) l)
theorem Tt:∀ (n:Nat) (l o:List UInt8) (k:Nat),l.length<=n->Gn l=some (o,k)->(o.flatMap FV).length+1=k
 | _,[],_,_,_,h=>by rw[Tv] at h;cases h
 | 0,_::_,_,_,hn,_=>by simp at hn
 | n+1,c::r,o,k,hn,h=>by
  rw[Fz] at h
  split at h
  ·injection h with h;injection h with h1 h2;subst h1 h2;rfl
  ·rename_i hc
   split at h
   ·cases h
   ·rename_i b j hp
    have hle:=Lh hp;rw[AA4] at h;obtain ⟨⟨q,i⟩,h1,h2⟩:=h
    injection h2 with h2 h3
    subst h2 h3;have ih:=Tt n _ q i (by rw[AAy];simp only[AAS] at *;omega) h1
    have hs:=(mM hp fun d p e=>by injection e with e1 _;rw[<-e1];exact hc).2
    rw[ABf,AAp];simp only
    omega
theorem dF {l:List UInt8} {t:AJ} {k:Nat} (h:DR l=some (t,k)):(I9 t).size=k:=by
 have hk:=Jm h;have ht:∀j,j<=l.length->(bA (l.take j)).size=j:=fun j hj=>by
  show (l.take j).toArray.size=j
  rw[List.size_toArray,List.length_take];omega
 unfold DR at h
 split at h
 ·cases h
 ·rename_i c r
  split at h
  ·split at h
   ·injection h with h;injection h with h1 h2
    subst h1 h2;unfold I9;rw[Pd (by show ¬ (1:Int)=2;decide),Pd (by show ¬ (1:Int)=3;decide)]
    exact ht _ (PI _)
   ·cases h
  ·split at h
   ·rw[AA4] at h
    obtain ⟨v,hv,h⟩:=h
    injection h with h1 h2
    subst h1 h2;unfold I9;rw[AAH (by rfl)]
    have:=(UQ.1 hv).2
    show (Lib.itoa v).toArray.size=_
    rw[List.size_toArray,this,List.length_take];have:=MC r;rw[AAS];omega
   ·split at h
    ·rw[AA4] at h
     obtain ⟨⟨o,i⟩,hv,h⟩:=h
     injection h with h1 h2
     subst h1 h2;unfold I9;rw[Pd (by show ¬ (3:Int)=2;decide),AAH (by rfl)]
     have h1:=Tt _ _ _ _ (AAP _) hv;have h2:(LG (bA o)).size=((LG (bA o)).data.toList).length:=rfl
     show (LG (bA o)).size=_
     rw[h2,Tx]
     show ((34:UInt8)::(o.flatMap FV++[34])).length=_
     rw[AAS,AAp];simp only[AAS,List.length_nil]
     omega
    ·rw[AA4] at h
     obtain ⟨n,hv,h⟩:=h
     injection h with h1 h2
     subst h1 h2;unfold I9;rw[Pd (by show ¬ (4:Int)=2;decide),Pd (by show ¬ (4:Int)=3;decide)]
     exact ht _ (Xd hv).2.1
def Wo:List AJ->Nat
 | []=>0
 | t::l=>(I9 t).size+Wo l
theorem Yi (t:AJ) (ln:Int):I9 { t with line:=ln }=I9 t:=rfl
theorem G6:∀ (n:Nat) (ln:Int) (l:List UInt8) (o:List AJ),l.length<=n->Ay ln l = .ok o->Wo o<=l.length/\o.length<=l.length
 | _,ln,[],o,_,h=>by
  rw[Jl] at h
  injection h with h
  subst h;exact ⟨AAP _,AAP _⟩
 | 0,_,_::_,_,hn,_=>by simp at hn
 | n+1,ln,c::r,o,hn,h=>by
  have hr:r.length<=n:=by simpa using hn
  rw[AAS];rw[Ck] at h
  split at h
  ·have:=G6 n _ r o hr h;omega
  ·split at h
   ·have:=G6 n _ r o hr h;omega
   ·split at h
    ·have h1:=Hl r
     have:=G6 n _ _ o (Nat.le_trans h1 hr) h;omega
    ·split at h
     ·cases h
     ·rename_i u k hk
      obtain ⟨q,hq,rfl⟩:=map_ok h;have hle:=Jm hk;have hs:=dF hk;have hd:((c::r).drop k).length=r.length+1 - k:=by rw[AAy,AAS]
      have:=G6 n _ _ q (by rw[hd];omega) hq
      rw[hd] at this;rw[AAS] at hle;rw[Wo,Yi,hs,AAS]
      omega
theorem iT (l:List ByteArray):(FN l).size=(ai (l.map fun b=>b.data.toList)).length:=by
 rw[<-Wn];rfl
theorem Cc (c:UInt8):(⟨#[c]⟩:ByteArray).size=1:=rfl
def Ec (l:List AJ):List AJ:=l.map ES
def Ev {α:Type} (a:PR α):PR α:=a.map fun p=>(p.1,Ec p.2.1,p.2.2)
def Ga {α:Type} (part:List AJ->Bool->PR α):Prop:=∀l k,part (Ec l) k=Ev (part l k)
theorem JE (k:Int) (l:List AJ):CG k (Ec l)=(CG k l).map fun p=>(ES p.1,Ec p.2):=by
 cases l with
 | nil=>rfl
 | cons t r =>
  show CG k (ES t::Ec r)=_
  rw[CG,CG]
  by_cases h:t.kind=k
  ·rw[AAH h,AAH (show (ES t).kind=k from h)];rfl
  ·rw[Pd h,Pd (show ¬ (ES t).kind=k from h)];rfl
theorem Nj (s:ByteArray) (l:List AJ):BX s (Ec l)=BX s l:=by
 cases l with
 | nil=>rfl
 | cons t r=>rfl
theorem Jp (l:List AJ):(Ec l).tail=Ec l.tail:=by
 cases l <;> rfl
theorem FH (s:ByteArray) (l:List AJ):Aq s (Ec l)=(Aq s l).map Ec:=by
 unfold Aq;rw[Nj]
 cases BX s l
 ·rfl
 ·simp only[if_true];rw[Jp];rfl
theorem R7 (l:List AJ):(Ec l).length=l.length:=AAd ..
theorem Vj {α:Type} {part:List AJ->Bool->PR α} (hp:Ga part):∀ (n:Nat),Ga (IK part n)
 | 0=>fun _ _=>rfl
 | n+1=>fun l k=>by
  rw[IK,IK,hp]
  cases part l k with
  | error e=>rfl
  | ok p =>
   obtain ⟨x,r,k'⟩:=p
   show (Except.bind (Except.ok (x,Ec r,k')) _)=_
   rw[zM,zM];simp only;rw[Nj]
   cases BX ⟨#[44]⟩ r with
   | false=>rfl
   | true =>
    simp only[if_true];rw[Jp,Vj hp n]
    cases IK part n r.tail k' with
    | error e=>rfl
    | ok q=>rfl
theorem Uf (first:Bool) (l:List AJ):(if first=true then Except.ok (Ec l) else Aq ⟨#[44]⟩ (Ec l))=(if first=true then Except.ok l else Aq ⟨#[44]⟩ l:Except Int (List AJ)).map Ec:=by
 cases first
 ·exact FH _ _
 ·rfl
theorem nZ (m:Bool) (x:Aa):Ga (Ea m x):=fun l k=>by
 unfold Ea;rw[Nj,Jp,JE,JE]
 cases BX ⟨#[64]⟩ l with
 | true =>
  simp only[if_true]
  cases CG 2 l.tail with
  | error e=>rfl
  | ok p =>
   show (if Nh x (Qx m p.1.int)=true then _ else _:PR Int)=Ev (if Nh x (Qx m p.1.int)=true then _ else _)
   cases Nh x (Qx m p.1.int)
   ·rfl
   ·cases m <;> rfl
 | false =>
  simp only[Bool.false_eq_true,if_false]
  cases CG 1 l with
  | error e=>rfl
  | ok p =>
   show (match x.AV.find? fun y=>decide (y.name=p.1.text) with
    | some y=>Except.ok (y.id,Ec p.2,k)
    | none => .error 4:PR Int)=Ev (match x.AV.find? fun y=>decide (y.name=p.1.text) with
    | some y=>Except.ok (y.id,p.2,k)
    | none => .error 4:PR Int)
   cases x.AV.find? fun y=>decide (y.name=p.1.text) <;> rfl
section
variable {m:Bool} {f:Int->List AJ->Bool->PR Val}
theorem nC (hf:∀t,Ga (f t)) (x:Aa):Ga (Hg f x):=fun l k=>by
 unfold Hg;rw[FH]
 cases Aq ⟨#[91]⟩ l with
 | error e=>rfl
 | ok l1 =>
  show (Except.bind (Except.ok (Ec l1)) _)=_
  rw[zM,zM,Nj,R7]
  cases BX ⟨#[93]⟩ l1 with
  | true=>simp only[if_true];rw[Jp];rfl
  | false =>
   simp only[Bool.false_eq_true,if_false];rw[Vj (hf x.elem)]
   cases IK (f x.elem) (l1.length+1) l1 k with
   | error e=>rfl
   | ok p =>
    show Except.bind (Aq ⟨#[93]⟩ (Ec p.2.1)) _=Ev (Except.bind (Aq ⟨#[93]⟩ p.2.1) _)
    rw[FH]
    cases Aq ⟨#[93]⟩ p.2.1 <;> rfl
theorem sN (hf:∀t,Ga (f t)) (x:Aa):Ga (DZ f x):=fun l k=>by
 unfold DZ;rw[hf]
 cases f x.key l k with
 | error e=>rfl
 | ok p =>
  show Except.bind (Aq ⟨#[45,62]⟩ (Ec p.2.1)) _=Ev (Except.bind (Aq ⟨#[45,62]⟩ p.2.1) _)
  rw[FH]
  cases Aq ⟨#[45,62]⟩ p.2.1 with
  | error e=>rfl
  | ok l1 =>
   show Except.bind (f x.elem (Ec l1) p.2.2) _=Ev (Except.bind (f x.elem l1 p.2.2) _)
   rw[hf]
   cases f x.elem l1 p.2.2 <;> rfl
theorem rQ (hf:∀t,Ga (f t)) (x:Aa):Ga (Hf f x):=fun l k=>by
 unfold Hf;rw[FH]
 cases Aq ⟨#[91]⟩ l with
 | error e=>rfl
 | ok l1 =>
  show (Except.bind (Except.ok (Ec l1)) _)=_
  rw[zM,zM,Nj,Nj,R7,Jp]
  cases BX ⟨#[45,62]⟩ l1 with
  | true =>
   simp only[if_true];rw[FH]
   cases Aq ⟨#[93]⟩ l1.tail <;> rfl
  | false =>
   simp only[Bool.false_eq_true,if_false]
   cases BX ⟨#[93]⟩ l1 with
   | true=>rfl
   | false =>
    simp only[Bool.false_eq_true,if_false];rw[Vj (sN hf x)]
    cases IK (DZ f x) (l1.length+1) l1 k with
    | error e=>rfl
    | ok p =>
     show Except.bind (Aq ⟨#[93]⟩ (Ec p.2.1)) _=Ev (Except.bind (Aq ⟨#[93]⟩ p.2.1) _)
     rw[FH]
     cases Aq ⟨#[93]⟩ p.2.1 <;> rfl
theorem qy (hf:∀t,Ga (f t)) (x:Aa):Ga (Gp f x):=fun l k=>by
 unfold Gp;rw[JE]
 cases CG 1 l with
 | error e=>rfl
 | ok p =>
  show (if p.1.text=_ then Except.ok ([],Ec p.2,k) else if p.1.text=_ then Except.bind (Aq ⟨#[40]⟩ (Ec p.2)) _ else .error 2:PR (List Val))=Ev (if p.1.text=_ then _ else if p.1.text=_ then Except.bind (Aq ⟨#[40]⟩ p.2) _ else .error 2)
  split
  ·rfl
  ·split
   ·rw[FH]
    cases Aq ⟨#[40]⟩ p.2 with
    | error e=>rfl
    | ok l2 =>
     show Except.bind (f x.elem (Ec l2) k) _=Ev (Except.bind (f x.elem l2 k) _)
     rw[hf]
     cases f x.elem l2 k with
     | error e=>rfl
     | ok q =>
      show Except.bind (Aq ⟨#[41]⟩ (Ec q.2.1)) _=Ev (Except.bind (Aq ⟨#[41]⟩ q.2.1) _)
      rw[FH]
      cases Aq ⟨#[41]⟩ q.2.1 <;> rfl
   ·rfl
theorem Xz (hf:∀t,Ga (f t)):∀ (ms:List AY) (first:Bool),Ga (BQ f first ms)
 | [],_=>fun _ _=>rfl
 | y::ms,first=>fun l k=>by
  rw[BQ,BQ,Uf]
  cases (if first=true then Except.ok l else Aq ⟨#[44]⟩ l:Except Int (List AJ)) with
  | error e=>rfl
  | ok l0 =>
   show Except.bind (CG 1 (Ec l0)) _=Ev (Except.bind (CG 1 l0) _)
   rw[JE]
   cases CG 1 l0 with
   | error e=>rfl
   | ok p =>
    show (if p.1.text=y.name then Except.bind (Aq ⟨#[58]⟩ (Ec p.2)) _ else .error 4:PR (List Val))=Ev (if p.1.text=y.name then Except.bind (Aq ⟨#[58]⟩ p.2) _ else .error 4)
    split
    ·rw[FH]
     cases Aq ⟨#[58]⟩ p.2 with
     | error e=>rfl
     | ok l2 =>
      show Except.bind (f y.type (Ec l2) k) _=Ev (Except.bind (f y.type l2 k) _)
      rw[hf]
      cases f y.type l2 k with
      | error e=>rfl
      | ok q =>
       show Except.bind (BQ f false ms (Ec q.2.1) q.2.2) _=Ev (Except.bind (BQ f false ms q.2.1 q.2.2) _)
       rw[Xz hf ms false]
       cases BQ f false ms q.2.1 q.2.2 <;> rfl
    ·rfl
theorem Xh (m:Bool):∀ (n:Nat) (first:Bool) (l:List AJ),Dj m n first (Ec l)=(Dj m n first l).map fun p=>(p.1,Ec p.2)
 | 0,_,_=>rfl
 | n+1,first,l=>by
  rw[Dj,Dj,Nj,Uf]
  cases BX ⟨#[125]⟩ l with
  | true=>rfl
  | false =>
   simp only[Bool.false_eq_true,if_false]
   cases (if first=true then Except.ok l else Aq ⟨#[44]⟩ l:Except Int (List AJ)) with
   | error e=>rfl
   | ok l0 =>
    show Except.bind (CG 2 (Ec l0)) _=(Except.bind (CG 2 l0) _).map _
    rw[JE]
    cases CG 2 l0 with
    | error e=>rfl
    | ok p =>
     show Except.bind (Aq ⟨#[58]⟩ (Ec p.2)) _=(Except.bind (Aq ⟨#[58]⟩ p.2) _).map _
     rw[FH]
     cases Aq ⟨#[58]⟩ p.2 with
     | error e=>rfl
     | ok l3 =>
      show Except.bind (CG 3 (Ec l3)) _=(Except.bind (CG 3 l3) _).map _
      rw[JE]
      cases CG 3 l3 with
      | error e=>rfl
      | ok q =>
       show Except.bind (Dj m n false (Ec q.2)) _=(Except.bind (Dj m n false q.2) _).map _
       rw[Xh m n false]
       cases Dj m n false q.2 <;> rfl
theorem qj (hf:∀t,Ga (f t)) (x:Aa):Ga (Iq m f x):=fun l k=>by
 unfold Iq;rw[FH]
 cases Aq ⟨#[123]⟩ l with
 | error e=>rfl
 | ok l1 =>
  show Except.bind (BQ f true x.AA (Ec l1) k) _=Ev (Except.bind (BQ f true x.AA l1 k) _)
  rw[Xz hf]
  cases BQ f true x.AA l1 k with
  | error e=>rfl
  | ok p =>
   show Except.bind (Dj m ((Ec p.2.1).length+1) x.AA.isEmpty (Ec p.2.1)) _=Ev (Except.bind (Dj m (p.2.1.length+1) x.AA.isEmpty p.2.1) _)
   rw[R7,Xh]
   cases Dj m (p.2.1.length+1) x.AA.isEmpty p.2.1 with
   | error e=>rfl
   | ok q =>
    show Except.bind (Aq ⟨#[125]⟩ (Ec q.2)) _=Ev (Except.bind (Aq ⟨#[125]⟩ q.2) _)
    rw[FH]
    cases Aq ⟨#[125]⟩ q.2 <;> rfl
theorem qR (hf:∀t,Ga (f t)) (x:Aa):Ga (Ej m f x):=fun l k=>by
 unfold Ej;rw[Nj,Jp,JE,JE]
 cases BX ⟨#[64]⟩ l with
 | true =>
  simp only[if_true]
  cases CG 2 l.tail with
  | error e=>rfl
  | ok p =>
   show Except.bind (Aq ⟨#[40]⟩ (Ec p.2)) _=Ev (Except.bind (Aq ⟨#[40]⟩ p.2) _)
   rw[FH]
   cases Aq ⟨#[40]⟩ p.2 with
   | error e=>rfl
   | ok l2 =>
    show Except.bind (CG 3 (Ec l2)) _=Ev (Except.bind (CG 3 l2) _)
    rw[JE]
    cases CG 3 l2 with
    | error e=>rfl
    | ok q =>
     show Except.bind (Aq ⟨#[41]⟩ (Ec q.2)) _=Ev (Except.bind (Aq ⟨#[41]⟩ q.2) _)
     rw[FH]
     cases Aq ⟨#[41]⟩ q.2 <;> rfl
 | false =>
  simp only[Bool.false_eq_true,if_false]
  cases CG 1 l with
  | error e=>rfl
  | ok p =>
   show (match x.AA.find? fun y=>decide (y.name=p.1.text) with
    | none => .error 4
    | some y=>Except.bind (Aq ⟨#[40]⟩ (Ec p.2)) _:PR (Int×List Val×List Af))=Ev (match x.AA.find? fun y=>decide (y.name=p.1.text) with
    | none => .error 4
    | some y=>Except.bind (Aq ⟨#[40]⟩ p.2) _)
   cases x.AA.find? fun y=>decide (y.name=p.1.text) with
   | none=>rfl
   | some y =>
    simp only;rw[FH]
    cases Aq ⟨#[40]⟩ p.2 with
    | error e=>rfl
    | ok l2 =>
     show Except.bind (f y.type (Ec l2) k) _=Ev (Except.bind (f y.type l2 k) _)
     rw[hf]
     cases f y.type l2 k with
     | error e=>rfl
     | ok q =>
      show Except.bind (Aq ⟨#[41]⟩ (Ec q.2.1)) _=Ev (Except.bind (Aq ⟨#[41]⟩ q.2.1) _)
      rw[FH]
      cases Aq ⟨#[41]⟩ q.2.1 <;> rfl
theorem nu:Ga MH:=fun l k=>by
 unfold MH;rw[JE]
 cases CG 1 l with
 | error e=>rfl
 | ok p =>
  show (if p.1.text=_ then Except.ok (true,Ec p.2,k) else if p.1.text=_ then Except.ok (false,Ec p.2,k) else .error 2:PR Bool)=Ev (if p.1.text=_ then Except.ok (true,p.2,k) else if p.1.text=_ then Except.ok (false,p.2,k) else .error 2)
  repeat' split
  all_goals rfl
theorem qQ (hf:∀t,Ga (f t)) (x:Aa):Ga (CY m f x):=fun l k=>by
 have H:∀ {α:Type} {part:List AJ->Bool->PR α} (hp:Ga part) (G:α->Val),(part (Ec l) k).bind (fun p => .ok (G p.1,p.2))=Ev ((part l k).bind fun p => .ok (G p.1,p.2)):=fun {α part} hp G=>by
  rw[hp]
  cases part l k <;> rfl
 have HT:∀ (j:Int) (G:AJ->Val) (_:∀t,G (ES t)=G t),(CG j (Ec l)).bind (fun p=>(.ok (G p.1,p.2,k):PR Val))=Ev ((CG j l).bind fun p => .ok (G p.1,p.2,k)):=fun j G hG=>by
  rw[JE]
  cases CG j l with
  | error e=>rfl
  | ok p=>show Except.ok (G (ES p.1),_,_)=Except.ok (G p.1,_,_);rw[hG]
 unfold CY
 repeat' split
 ·exact H nu fun b => .mk 1 b 0 ⟨#[]⟩ 0 [] [] []
 ·exact HT 2 (fun t => .mk 2 false t.int ⟨#[]⟩ 0 [] [] []) fun _=>rfl
 ·exact HT 3 (fun t => .mk 3 false 0 t.str 0 [] [] []) fun _=>rfl
 ·exact H (nZ m x) fun n => .mk 4 false 0 ⟨#[]⟩ n [] [] []
 ·exact H (qj hf x) fun p => .mk 5 false 0 ⟨#[]⟩ 0 [] p.1 p.2
 ·exact H (qR hf x) fun p => .mk 6 false 0 ⟨#[]⟩ p.1 [] p.2.1 p.2.2
 ·exact H (nC hf x) fun p => .mk 7 false 0 ⟨#[]⟩ 0 [] p []
 ·exact H (rQ hf x) fun p => .mk 8 false 0 ⟨#[]⟩ 0 (p.map Prod.fst) (p.map Prod.snd) []
 ·exact H (qy hf x) fun p => .mk 9 false 0 ⟨#[]⟩ 0 [] p []
end
theorem XP (m:Bool) (s:List Aa):∀n t,Ga (Ny m s n t)
 | 0,_=>fun _ _=>rfl
 | n+1,t=>qQ (fun u=>XP m s n u) (AO s t)
theorem Tk (m:Bool) (s:List Aa) (t:Int) (l:List AJ):CZ m s t (Ec l)=Ev (CZ m s t l):=by
 unfold CZ;rw[R7];exact XP m s _ t l false
structure Ux (s:List Aa):Prop where
 ty:∀t,YQ (AO s t)
 sym:∀t,((AO s t).AV.map Bq.id).Nodup
 nam:∀t,Uz (AO s t)
 kind:∀t,0<=t->t<(s.length:Int)->1<=(AO s t).kind/\(AO s t).kind<=9
noncomputable def BL (m:Bool) (s:List Aa) (t:Int) (x:ByteArray):Val×Int :=
 if t<0\/(s.length:Int)<=t then (zeroV,4)
 else if 65536<x.size then (zeroV,3)
 else match Ay 1 x.data.toList with
  | .error _=>(zeroV,2)
  | .ok l=>match CZ m s t l with
   | .error e=>(zeroV,e)
   | .ok (v,r,k)=>if r≠[] then (zeroV,2) else if k=true\/Bc s false t v=false then (zeroV,1) else (v,0)
noncomputable def eG (m:Bool) (s:List Aa) (t:Int) (l:List AJ):Val×Int×Int :=
 if t<0\/(s.length:Int)<=t then (zeroV,0,4)
 else match CZ m s t l with
  | .error e=>(zeroV,0,e)
  | .ok (v,r,k)=>if k=true\/Bc s false t v=false then (zeroV,0,1) else (v,((l.length - r.length:Nat):Int),0)
variable {t:Int} {v:Val}
theorem gH {s:List Aa} (h:Ux s) (hf:Bc s false t v=true) (ln:Int):Ay ln (Lp s t v).data.toList = .ok ((Py s (SizeOf.sizeOf v) t v).map (sj ln)):=by
 have:=XM h.nam h.kind (SizeOf.sizeOf v) t v hf ln [] lT;rw[List.append_nil,Jl] at this
 show Ay ln (Ae s (SizeOf.sizeOf v) t v).data.toList=_
 rw[this];exact congrArg Except.ok (List.append_nil _)
theorem dR (ln:Int) (l:List AJ):(l.map (sj ln)).map ES=l.map ES:=by
 rw[List.map_map];rfl
theorem lK {l:List AJ} (h:Ec l=[]):l=[]:=by
 cases l with
 | nil=>rfl
 | cons a r=>cases h
theorem Vr {s:List Aa} {a b:List AJ} (h:a.map ES=b.map ES):
  (∃e,CZ false s t a = .error e/\CZ false s t b = .error e)\/∃v r r' k,CZ false s t a = .ok (v,r,k)/\CZ false s t b = .ok (v,r',k)/\Ec r=Ec r':=by
 have h1:=Tk false s t a;have h2:=Tk false s t b;have hs:Ec a=Ec b:=h;rw[hs] at h1;rw[h1] at h2
 cases ha:CZ false s t a with
 | error e =>
  rw[ha] at h2
  cases hb:CZ false s t b with
  | error e' =>
   rw[hb] at h2
   injection h2 with h2
   subst h2;exact Or.inl ⟨e,rfl,rfl⟩
  | ok p=>rw[hb] at h2;cases h2
 | ok p =>
  obtain ⟨v,r,k⟩:=p;rw[ha] at h2
  cases hb:CZ false s t b with
  | error e'=>rw[hb] at h2;cases h2
  | ok q =>
   obtain ⟨v',r',k'⟩:=q;rw[hb] at h2
   injection h2 with h2
   injection h2 with h3 h4
   injection h4 with h4 h5
   simp only at h3 h4 h5;subst h3 h5;exact Or.inr ⟨v,r,r',k,rfl,rfl,h4⟩
theorem eF {s:List Aa} (h:Ux s) (hf:Bc s false t v=true) (ln:Int) (more:List AJ):
  ∃r,CZ false s t ((Py s (SizeOf.sizeOf v) t v).map (sj ln)++more) = .ok (v,r,false)/\Ec r=Ec more:=by
 have h1:=TJ h.ty h.kind (SizeOf.sizeOf v) t v hf more false;have h2:CZ false s t (Py s (SizeOf.sizeOf v) t v++more) = .ok (v,more,false):=h1;have h3:((Py s (SizeOf.sizeOf v) t v).map (sj ln)++more).map ES=(Py s (SizeOf.sizeOf v) t v++more).map ES:=by
  rw[List.map_append,List.map_append,dR]
 rcases Vr (s:=s) (t:=t) h3 with ⟨e,h4,h5⟩|⟨w,r,r',k,h4,h5,h6⟩
 ·rw[h2] at h5;cases h5
 ·rw[h2] at h5
  injection h5 with h5
  injection h5 with h7 h8
  injection h8 with h8 h9
  subst h7 h8 h9;exact ⟨r,h4,h6⟩
theorem Rl {s:List Aa} (h:Ux s) (ht:0<=t/\t<(s.length:Int)) (hf:Bc s false t v=true) (hz:(Lp s t v).size<=65536):BL false s t (Lp s t v)=(v,0):=by
 obtain ⟨r,h1,h2⟩:=eF h hf 1 [];have hr:r=[]:=lK h2;subst hr;rw[List.append_nil] at h1;unfold BL;rw[Pd (by omega),Pd (by omega),gH h hf 1]
 simp only;rw[h1];simp only;rw[Pd (by simp),Pd (by rw[hf];simp)]
end Go.Proofs.YthkkllmmbefedaaGreatDoor



