/-
  The library's variables and the table of symbols out of the rows' lists; a world for the witness; numbers that came in.
-/
import Derived.Test.YthkkllmmbefedaaGreatDoorQVF7
import Derived.Test.YthkkllmmbefedaaGreatDoorQGA9
import Derived.Test.YthkkllmmbefedaaGreatDoorQGL0
import Derived.Test.YthkkllmmbefedaaGreatDoorQGA7
import Derived.Test.YthkkllmmbefedaaGreatDoorQGA4
import Derived.Test.YthkkllmmbefedaaGreatDoorQLXWA
import Derived.Test.YthkkllmmbefedaaGreatDoorQLXWB
import Derived.Test.YthkkllmmbefedaaGreatDoorQGA11
import Derived.SliceStrings
import Derived.Stop.LaidErr
import Derived.Shelf.Vars
namespace Go.Proofs.YthkkllmmbefedaaGreatDoor
open Go.RowKit
set_option maxHeartbeats 16000000
set_option maxRecDepth 100000
theorem Tn {s:List Ae} {A:zo} {c:Nat} {plain:Bool} (hv:zQ s=0) (hn:Bq s):∀n,OZ s A c plain n
 | 0=>fun _ v _ _ _ _ _ _ _ h=>absurd h (by have:=PZ v;omega)
 | n+1=>Yq hv hn (Tn hv hn n)
theorem Ig {s:List Ae} (A:zo) (c:Nat) (hv:zQ s=0) (hn:Bq s) (t:Int) (v:Val) (A1:zo) (c1:Nat) (A2:zo) (c2:Nat) (A3:zo) (c3:Nat) (w:World) (hs:CQ w A s) (hr:Az w v A1 A2 A3) :
  Calls Tryz.prog 43 #[.agg #[.slice A s.length c],.int .i64 t,v.v A1 c1 A2 c2 A3 c3] w fun e w'=>e = .returned (.bool (BH s false t v))/\Below w.heap.size w w':=by
 have HS:=zh hs;have HR:=zh hr;have HF:=zh (Tn (A:=A) (c:=c) (plain:=false) hv hn (SizeOf.sizeOf v));have HB0:=zh (zI w (.cells #[.slice A s.length c] 31) (v.box A1 c1 A2 c2 A3 c3));have HX0:=zh (EP (AAC w (.cells #[.slice A s.length c] 31)) (v.box A1 c1 A2 c2 A3 c3))
 have rY:Hid (((w.alloc (.cells #[.slice A s.length c] 31)).alloc (v.box A1 c1 A2 c2 A3 c3)).heap[w.heap.size+1]? = some (v.box A1 c1 A2 c2 A3 c3)):=by
  have:=AAC (w.alloc (.cells #[.slice A s.length c] 31)) (v.box A1 c1 A2 c2 A3 c3);rw[show (w.alloc (.cells #[.slice A s.length c] 31)).heap.size=w.heap.size+1 by simp] at this
  exact this
 clear hs hr hv hn
 go_enter Tryz.func43,Tryz.ntmps43
 go_upto_region 1 with fail
 generalize (w.alloc (.cells #[.slice A s.length c] 31)).alloc (v.box A1 c1 A2 c2 A3 c3)=W1 at *;obtain ⟨v0,v1,v2,v3,v4,v5,v6,v7⟩:=zF rY;have x0:=zb HX0;go_wp2_with fail;refine (HF.out t v A1 c1 A2 c2 A3 c3 _ (AAH _) (HS.out.below HB0) (HR.out.below HB0)).mono ?_;rintro e w1 ⟨rfl,hb1⟩;have HB1:=zh (zB HB0 hb1);clear hb1;go_wp2;go_ret;exact ⟨rfl,HB1.out⟩
theorem XH (l:List UInt8) (n:Nat):(bA (l.take n)).size<=l.length:=by
 show (l.take n).toArray.size<=_
 rw[List.size_toArray,List.length_take];omega
theorem iO {l:List UInt8} {t:AQ} {k:Nat} (h:EK l=some (t,k)):t.text.size<=l.length/\t.str.size<=l.length:=by
 unfold EK at h
 split at h
 ·cases h
 ·rename_i c r
  split at h
  ·split at h
   ·injection h with h;injection h with h _;subst h
    exact ⟨XH _ _,Nat.zero_le _⟩
   ·cases h
  ·split at h
   ·rw[AAs] at h
    obtain ⟨v,_,h⟩:=h
    injection h with h _;subst h
    exact ⟨Nat.zero_le _,Nat.zero_le _⟩
   ·split at h
    ·rw[AAs] at h
     obtain ⟨⟨o,j⟩,h1,h⟩:=h
     injection h with h _;subst h
     have:=WU h1;refine ⟨Nat.zero_le _,?_⟩
     show o.toArray.size<=_
     rw[List.size_toArray,AAS];omega
    ·rw[AAs] at h
     obtain ⟨n,h1,h⟩:=h
     injection h with h _;subst h
     exact ⟨XH _ _,Nat.zero_le _⟩
theorem KZ:∀ (n:Nat) (ln:Int) (l:List UInt8) (o:List AQ),l.length<=n->BB ln l = .ok o->∀t∈o,t.text.size<=n/\t.str.size<=n
 | _,ln,[],o,_,h,t,ht=>by
  rw[JM] at h
  injection h with h
  subst h;cases ht
 | 0,_,_::_,_,hn,_,_,_=>by simp at hn
 | n+1,ln,c::r,o,hn,h,t,ht=>by
  have hr:r.length<=n:=by simpa using hn
  have hu:t.text.size<=n/\t.str.size<=n->t.text.size<=n+1/\t.str.size<=n+1:=fun h=>by omega
  rw[Bn] at h
  split at h
  ·exact hu (KZ n _ r o hr h t ht)
  ·split at h
   ·exact hu (KZ n _ r o hr h t ht)
   ·split at h
    ·exact hu (KZ n _ _ o (Nat.le_trans (Gt r) hr) h t ht)
    ·split at h
     ·cases h
     ·rename_i u k hk
      obtain ⟨q,hq,rfl⟩:=map_ok h;have hle:=JN hk
      rcases AAr.1 ht with rfl|ht
      ·have h1:=iO hk
       exact ⟨Nat.le_trans h1.1 hn,Nat.le_trans h1.2 hn⟩
      ·exact hu (KZ n _ _ q (by rw[AA1];simp only[AAS] at *;omega) hq t ht)
def LtP (x:ByteArray) (w:World) (e:Ending) (w':World):Prop:=∃ (A:zo) (c:Nat) (n er:Int) (o:List AQ),e = .returned (.tuple #[.slice A o.length c,.int .i64 n,.int .i64 er])/\JE w' A o/\o.length<=65536/\Below w.heap.size w w' /\
 (if 65536<x.size then er=3 else match BB 1 x.data.toList with
  | .ok l=>o=l/\er=0/\n=0
  | .error _=>er=2)
theorem Uh (s:ByteArray) (hs:s.size<=140737488355328) (h1:0<s.size) (Yn:∀c∈s.data.toList,c.toNat≠34) (w:World) (hE:Jj w) {A:zo} {c:Nat} (hS:J8 w A c):Calls Tryz.prog 77 #[.string s] w (EG w s.data.toList):=by
 cases hl:CP s[0] with
 | true=>exact Zw s hs h1 hl w
 | false =>
  cases hd:zZ s[0] with
  | true=>exact iN s hs h1 hl hd w hE
  | false =>
   by_cases hq:s[0].toNat=34
   ·exact absurd hq (Yn _ (by rw[I4 h1];exact ABH))
   ·by_cases h45:s[0].toNat=45
    ·by_cases h2:1<s.size
     ·cases hd1:zZ s[1] with
      | true=>exact iM s hs h2 h1 h45 hd1 w hE
      | false =>
       by_cases hy:FM s.data.toList=none
       ·exact iJ s hs h1 h45 h2 hd1 hl hd hq hy w hS
       ·exact iH s hs h1 h45 h2 hd1 hl hd hq hy w hS
     ·have hz:s.size=1:=by omega
      have hy:FM s.data.toList=none:=by
       rw[I4 h1,AA7 (show s.data.toList.length<=1 by rw[show s.data.toList.length=s.size from rfl];omega)]
       exact WL (by rw[h45];decide) (by rw[h45];decide) (by rw[h45];unfold TG;decide)
      exact iK s hs h1 h45 hz hl hd hq hy w hS
    ·by_cases hy:FM s.data.toList=none
     ·exact iL s hs h1 h45 hl hd hq hy w hS
     ·exact iI s hs h1 h45 hl hd hq hy w hS
def Cq (S r:List UInt8) (o:List AQ) (ln:Int):Prop:=BB 1 S=(BB ln r).map fun q=>o++q
section
variable {S q:List UInt8} {o:List AQ} {ln:Int} {c:UInt8}
theorem Cq.start (S:List UInt8):Cq S S [] 1:=by
 unfold Cq
 cases BB 1 S <;> rfl
theorem Cq.end_ (h:Cq S [] o ln):BB 1 S = .ok o:=by
 unfold Cq at h;rw[JM] at h;rw[h];exact congrArg Except.ok (List.append_nil o)
theorem Cq.nl (h:Cq S (c::q) o ln) (hc:c.toNat=10):Cq S q o (ln+1):=by
 unfold Cq at h ⊢
 rwa [Bn,AAG hc] at h
theorem Cq.sp (h:Cq S (c::q) o ln) (hn:c.toNat≠10) (hc:c.toNat=32\/c.toNat=9):Cq S q o ln:=by
 unfold Cq at h ⊢
 rwa [Bn,Pd hn,AAG hc] at h
theorem Cq.cm (h:Cq S (c::q) o ln) (hn:c.toNat≠10) (hs:¬ (c.toNat=32\/c.toNat=9)) (hc:c.toNat=47/\(q.headD 0).toNat=47):Cq S (FJ (c::q)) o ln:=by
 unfold Cq at h ⊢;rw[Bn,Pd hn,Pd hs,AAG hc] at h
 rwa [FJ,Pd hn]
theorem Cq.bad (h:Cq S (c::q) o ln) (hn:c.toNat≠10) (hs:¬ (c.toNat=32\/c.toNat=9)) (hc:¬ (c.toNat=47/\(q.headD 0).toNat=47)) (ht:EK (c::q)=none):BB 1 S = .error ln:=by
 unfold Cq at h;rw[Bn,Pd hn,Pd hs,Pd hc,ht] at h;exact h
theorem Cq.tok (h:Cq S (c::q) o ln) (hn:c.toNat≠10) (hs:¬ (c.toNat=32\/c.toNat=9)) (hc:¬ (c.toNat=47/\(q.headD 0).toNat=47)) {t:AQ} {k:Nat} (ht:EK (c::q)=some (t,k)):Cq S ((c::q).drop k) (o++[{ t with line:=ln }]) ln:=by
 unfold Cq at h ⊢;rw[Bn,Pd hn,Pd hs,Pd hc,ht] at h;simp only at h;rw[h]
 cases BB ln ((c::q).drop k) with
 | error e=>rfl
 | ok x=>exact congrArg Except.ok (show o++({ t with line:=ln }::x)=o++[{ t with line:=ln }]++x by rw[AA0];rfl)
end
theorem TQ:∀l:List UInt8,(Lib.indexByte l 10<0/\FJ l=[])\/∃n:Nat,n<l.length/\Lib.indexByte l 10=(n:Int)/\FJ l=l.drop n
 | []=>Or.inl ⟨by decide,rfl⟩
 | c::r=>by
  by_cases hc:c=10
  ·subst hc
   refine Or.inr ⟨0,by simp,?_,?_⟩
   ·rw[Lib.indexByte];rfl
   ·rw[FJ,AAG (show (10:UInt8).toNat=10 from rfl)];rfl
  ·have h1:(c==10)=false:=by simp[hc]
   have h2:¬ c.toNat=10:=fun e=>hc (GR e)
   rcases TQ r with ⟨g1,g2⟩|⟨n,g0,g1,g2⟩
   ·left
    rw[Lib.indexByte,h1,FJ,Pd h2];refine ⟨?_,g2⟩;simp only[Bool.false_eq_true,if_false]
    split
    ·decide
    ·rename_i h
     have:Lib.indexByte r 10 = -1\/0<=Lib.indexByte r 10:=by
      have key:∀l:List UInt8,-1<=Lib.indexByte l 10:=fun l=>by
       induction l with
       | nil=>decide
       | cons a q ih =>
        rw[Lib.indexByte]
        split
        ·decide
        ·split
         ·decide
         ·omega
      have:=key r
      omega
     rcases this with e|e
     ·rw[e] at h;exact absurd rfl h
     ·omega
   ·right
    refine ⟨n+1,by rw[AAS];omega,?_,?_⟩
    ·rw[Lib.indexByte,h1,g1]
     have:((n:Int) == -1)=false:=by rw[AAc];omega
     rw[this];simp only[Bool.false_eq_true,if_false]
     omega
    ·rw[FJ,Pd h2,g2];rfl
theorem SG (s:ByteArray) (hs:s.size<=140737488355328) (hz:65536<s.size) (w:World):Calls Tryz.prog 49 #[.string s] w fun e w'=>e = .returned (.tuple #[.slice none 0 0,.int .i64 0,.int .i64 3])/\w'=w:=by
 have h1:(65536:Int)<(s.size:Int):=by omega
 go_enter Tryz.func49,Tryz.ntmps49
 go_wp2
 go_ret3
 exact ⟨rfl,rfl⟩
def Ch (S r:List UInt8) (o:List AQ) (ln:Int):Prop:=(BB 1 S=(BB ln r).map fun q=>o++q)/\∀c∈r,c.toNat≠34
section
variable {S q:List UInt8} {o:List AQ} {ln:Int} {c:UInt8}
theorem Ch.start (S:List UInt8) (Yn:∀c∈S,c.toNat≠34):Ch S S [] 1:=by
 refine ⟨?_,Yn⟩
 cases BB 1 S <;> rfl
theorem Ch.end_ (h:Ch S [] o ln):BB 1 S = .ok o:=by
 have h:=h.1;rw[JM] at h;rw[h];exact congrArg Except.ok (List.append_nil o)
theorem Ch.nl (h:Ch S (c::q) o ln) (hc:c.toNat=10):Ch S q o (ln+1):=by
 refine ⟨?_,fun x hx=>h.2 x (ABE _ hx)⟩
 have h:=h.1
 rwa [Bn,AAG hc] at h
theorem Ch.sp (h:Ch S (c::q) o ln) (hn:c.toNat≠10) (hc:c.toNat=32\/c.toNat=9):Ch S q o ln:=by
 refine ⟨?_,fun x hx=>h.2 x (ABE _ hx)⟩
 have h:=h.1
 rwa [Bn,Pd hn,AAG hc] at h
theorem TR:∀ (l:List UInt8),∀x∈FJ l,x∈l
 | [],x,h=>h
 | c::r,x,h=>by
  rw[FJ] at h
  split at h
  ·exact h
  ·exact ABE _ (TR r x h)
theorem Ch.cm (h:Ch S (c::q) o ln) (hn:c.toNat≠10) (hs:¬ (c.toNat=32\/c.toNat=9)) (hc:c.toNat=47/\(q.headD 0).toNat=47):Ch S (FJ (c::q)) o ln:=by
 refine ⟨?_,fun x hx=>h.2 x (TR _ x hx)⟩
 have h:=h.1;rw[Bn,Pd hn,Pd hs,AAG hc] at h
 rwa [FJ,Pd hn]
theorem Ch.bad (h:Ch S (c::q) o ln) (hn:c.toNat≠10) (hs:¬ (c.toNat=32\/c.toNat=9)) (hc:¬ (c.toNat=47/\(q.headD 0).toNat=47)) (ht:EK (c::q)=none):BB 1 S = .error ln:=by
 have h:=h.1;rw[Bn,Pd hn,Pd hs,Pd hc,ht] at h;exact h
theorem Ch.tok (h:Ch S (c::q) o ln) (hn:c.toNat≠10) (hs:¬ (c.toNat=32\/c.toNat=9)) (hc:¬ (c.toNat=47/\(q.headD 0).toNat=47)) {t:AQ} {k:Nat} (ht:EK (c::q)=some (t,k)):Ch S ((c::q).drop k) (o++[{ t with line:=ln }]) ln:=by
 refine ⟨?_,fun x hx=>h.2 x (List.mem_of_mem_drop hx)⟩
 have h:=h.1;rw[Bn,Pd hn,Pd hs,Pd hc,ht] at h;simp only at h;rw[h]
 cases BB ln ((c::q).drop k) with
 | error e=>rfl
 | ok x=>exact congrArg Except.ok (show o++({ t with line:=ln }::x)=o++[{ t with line:=ln }]++x by rw[AA0];rfl)
end
def PV:Value->Nat
 | .string s=>s.size
 | _=>0
def eF (w:World) (S:List UInt8) (e:Ending) (w':World):Prop:=∃ (v:Value) (n er:Int),e = .returned (.tuple #[v,.int .i64 n,.int .i64 er])/\(match BB 1 S with
 | .ok o=>Y9 w' w.heap.size v o/\n=0/\er=0
 | .error l=>v = .slice none 0 0/\n=l/\er=2)/\Below w.heap.size w w'
theorem ext_size {s:ByteArray} {n:Nat}:(s.extract n s.size).size=s.size - n:=by
 have h:(s.extract n s.size).size=(s.data.toList.drop n).length:=by rw[<-K5];rfl
 rw[h,AA1];rfl
theorem WZ {r:ByteArray}:Lib.hasPrefix r.data.toList [47,47]=true↔∃c q,r.data.toList=c::q/\c.toNat=47/\(q.headD 0).toNat=47:=by
 unfold Lib.hasPrefix;rw[List.isPrefixOf_iff_prefix]
 constructor
 ·rintro ⟨t,h⟩
  exact ⟨47,47::t,h.symm,rfl,rfl⟩
 ·rintro ⟨c,q,h,h1,h2⟩
  cases q with
  | nil=>exact absurd h2 (by decide)
  | cons d p =>
   rw[h,GR (show c.toNat=(47:UInt8).toNat from h1),GR (show d.toNat=(47:UInt8).toNat from h2)];exact ⟨p,rfl⟩
theorem SH (s:ByteArray) (hz:s.size<=65536) (Yn:∀c∈s.data.toList,c.toNat≠34) (w:World) (hE:Jj w) {A:zo} {c:Nat} (hS:J8 w A c):Calls Tryz.prog 49 #[.string s] w (eF w s.data.toList):=by
 have HE:=zh hE;have HS:=zh hS;obtain ⟨S,hS0⟩:∃S,s.data.toList=S:=⟨_,rfl⟩;have HST:Hid (Ch S s.data.toList [] 1):=by show Ch _ _ _ _;rw[hS0] at Yn ⊢;exact Ch.start S Yn
 rw[hS0];clear hS0 hE hS Yn;have z0:¬ (65536:Int)<(s.size:Int):=by omega
 go_enter Tryz.func49,Tryz.ntmps49
 go_wp2
 go_loopw [0,5,6] (fun a v l wr=>∃ (r:ByteArray) (o:List AQ) (ln:Nat),a = .string r/\l = .int .i64 ln/\ln+r.size<=s.size+1/\o.length+r.size<=s.size/\Hid (Ch S r.data.toList o ln/\Y9 wr w.heap.size v o/\Below w.heap.size w wr)) (fun a _ _ _=>PV a)
 case atStart=>exact ⟨s,[],1,rfl,rfl,by omega,by simp,HST.out,Ad.nil _ _,Pe _ _⟩
 case round =>
  obtain ⟨r,o,ln,rfl,rfl,hl1,hl2,hh⟩:=hrel;have HT:=zh hh.out.1;have HO:=zh hh.out.2.1;have HB:=zh hh.out.2.2;clear hh
  by_cases h0:r.size=0
  ·obtain rfl:=bK h0
   have HN:=zh (Ch.end_ HT);clear h0;go_wp2
   go_ret3
   exact ⟨_,_,_,rfl,by rw[HN.out];exact ⟨HO.out,rfl,rfl⟩,HB.out⟩
  have hp:0<r.size:=by omega
  have hne2:r.toList.isEmpty=false:=by simpa using Vd hp
  have Mj:=zh (I4 hp);have i0:(1:Int)<=(r.size:Int):=by omega
  have Ei:=zh (K5 (s:=r) (n:=1));have hx1:=ext_size (s:=r) (n:=1)
  by_cases c1:r[0].toNat=10
  ·have q1:((r[0].toNat:Int)==10)=true:=by simp[c1]
   have HN:Hid (Ch S (r.extract 1 r.size).data.toList o ((ln+1:Nat):Int)):=by
    show Ch _ _ _ _
    rw[Ei.out];exact Ch.nl (Mj.out▸HT.out) c1
   clear c1;go_wp2;go_roundw
   case rel=>exact ⟨r.extract 1 r.size,o,ln+1,rfl,by go_num,by omega,by omega,HN.out,HO.out,HB.out⟩
   case measure=>simp[PV];omega
  have q1:((r[0].toNat:Int)==10)=false:=by simp;omega
  by_cases c2:r[0].toNat=32\/r[0].toNat=9
  ·have HN:Hid (Ch S (r.extract 1 r.size).data.toList o (ln:Int)):=by
    show Ch _ _ _ _
    rw[Ei.out];exact Ch.sp (Mj.out▸HT.out) c1 c2
   have hD:((r[0].toNat:Int)==32)=true\/(((r[0].toNat:Int)==32)=false/\((r[0].toNat:Int)==9)=true):=by simp;omega
   clear c1 c2
   rcases hD with q2|⟨q2,q3⟩
   ·go_wp2
    go_roundw
    case rel=>exact ⟨r.extract 1 r.size,o,ln,rfl,by go_num,by omega,by omega,HN.out,HO.out,HB.out⟩
    case measure=>simp[PV];omega
   ·go_wp2
    go_roundw
    case rel=>exact ⟨r.extract 1 r.size,o,ln,rfl,by go_num,by omega,by omega,HN.out,HO.out,HB.out⟩
    case measure=>simp[PV];omega
  have q2:((r[0].toNat:Int)==32)=false:=by simp;omega
  have q3:((r[0].toNat:Int)==9)=false:=by simp;omega
  cases hpre:Lib.hasPrefix r.data.toList [47,47] with
  | true =>
   have HP:=zh hpre;have hcm:r[0].toNat=47/\((r.data.toList.drop 1).headD 0).toNat=47:=by
    obtain ⟨c',q',h1,h2,h3⟩:=WZ.1 hpre;rw[Mj.out] at h1
    injection h1 with h1 h4
    rw[h1,h4];exact ⟨h2,h3⟩
   have ZK:=zh (Ch.cm (Mj.out▸HT.out) c1 c2 hcm);rw[<-Mj.out] at ZK;have gG:=TQ r.data.toList;rw[show r.data.toList.length=r.size from rfl] at gG;have UR:=zh c1;clear hpre c1 c2 hcm
   rcases gG with ⟨g1,g2⟩|⟨n,g0,g1,g2⟩
   ·obtain ⟨v,hv⟩:∃v,Lib.indexByte r.data.toList 10=v:=⟨_,rfl⟩
    have qx:Hid (Lib.indexByte r.data.toList ((10:Int).toNat.toUInt8)=v):=hv;rw[hv] at g1;have HN:Hid (Ch S (ByteArray.empty).data.toList o (ln:Int)):=by
     show Ch _ [] _ _
     rw[<-g2];exact ZK.out
    clear g2 hv;go_wp2_with (first|(go_at_call 75;refine (Tryz.strings_HasPrefix r _ _).mono ?_;rintro e w' ⟨rfl,rfl⟩;rw[HP.out])|(go_at_call 76;refine (Tryz.strings_IndexByte r _ _).mono ?_;rintro e w' ⟨rfl,rfl⟩;rw[qx.out]));go_roundw
    case rel=>exact ⟨ByteArray.empty,o,ln,rfl,by go_num,by show ln+0<=_;omega,by show o.length+0<=_;omega,HN.out,HO.out,HB.out⟩
    case measure=>show 0<r.size;omega
   ·have qx:Hid (Lib.indexByte r.data.toList ((10:Int).toNat.toUInt8)=(n:Int)):=g1
    have n0:¬ (n:Int)<0:=by omega
    have n1:(0:Int)<=(n:Int):=by omega
    have n2:(n:Int)<=(r.size:Int):=by omega
    have HN:Hid (Ch S (r.extract n r.size).data.toList o (ln:Int)):=by
     show Ch _ _ _ _
     rw[K5,<-g2];exact ZK.out
    have hx2:=ext_size (s:=r) (n:=n);have hn1:1<=n:=by
     rcases Nat.eq_zero_or_pos n with e|e
     ·subst e
      exfalso
      rw[Mj.out] at g1;have hb:(r[0]==10)=false:=by
       rw[AAc]
       intro e
       have:=UR.out;rw[e] at this;exact this rfl
      rw[Lib.indexByte,hb] at g1;simp only[Bool.false_eq_true,if_false] at g1
      split at g1
      ·omega
      ·rename_i h
       have h2:Lib.indexByte (r.data.toList.drop 1) 10 = -1:=by omega
       rw[h2] at h;exact h rfl
     ·exact e
    clear g1 g2;go_wp2_with (first|(go_at_call 75;refine (Tryz.strings_HasPrefix r _ _).mono ?_;rintro e w' ⟨rfl,rfl⟩;rw[HP.out])|(go_at_call 76;refine (Tryz.strings_IndexByte r _ _).mono ?_;rintro e w' ⟨rfl,rfl⟩;rw[qx.out]));go_roundw
    case rel=>exact ⟨r.extract n r.size,o,ln,rfl,by go_num,by omega,by omega,HN.out,HO.out,HB.out⟩
    case measure=>simp[PV];omega
  | false =>
   have HP:=zh hpre;have hcm:¬ (r[0].toNat=47/\((r.data.toList.drop 1).headD 0).toNat=47):=fun h=>by
    rw[WZ.2 ⟨_,_,Mj.out,h.1,h.2⟩] at hpre;cases hpre
   have HBAD:Hid (EK r.data.toList=none->BB 1 S = .error (ln:Int)):=fun h=>Ch.bad (Mj.out▸HT.out) c1 c2 hcm (Mj.out▸h)
   have AAh:Hid (∀t k,EK r.data.toList=some (t,k)->Ch S (r.data.toList.drop k) (o++[{ t with line:=(ln:Int) }]) ln):=fun t k h=>by
    have:=Ch.tok (Mj.out▸HT.out) c1 c2 hcm (Mj.out▸h)
    rwa [<-Mj.out] at this
   clear hpre c1 c2 hcm;go_wp2_with (go_at_call 75;refine (Tryz.strings_HasPrefix r _ _).mono ?_;rintro e w' ⟨rfl,rfl⟩;rw[HP.out]);refine (Uh r (by omega) hp HT.out.2 _ (HE.out.below HB) (HS.out.below HB)).mono ?_
   rintro e w5 ⟨u,n,ok,rfl,ht,hb⟩;have Ap:=zh (HB.out.trans (hb.mono HB.out.size));have KF:=zh (HO.out.below hb);clear hb;have t0:(w5.alloc (.cells #[.int .i64 0,.string ⟨#[]⟩,.int .i64 0,.string ⟨#[]⟩,.int .i64 0] 59)).cell? ⟨w5.heap.size,0,none⟩=some (.int .i64 0):=by rw[AAE _ _ _ _ _ _ (AAC w5 _)];rfl
   have t1:(w5.alloc (.cells #[.int .i64 0,.string ⟨#[]⟩,.int .i64 0,.string ⟨#[]⟩,.int .i64 0] 59)).cell? ⟨w5.heap.size,1,none⟩=some (.string ⟨#[]⟩):=by rw[AAE _ _ _ _ _ _ (AAC w5 _)];rfl
   have t2:(w5.alloc (.cells #[.int .i64 0,.string ⟨#[]⟩,.int .i64 0,.string ⟨#[]⟩,.int .i64 0] 59)).cell? ⟨w5.heap.size,2,none⟩=some (.int .i64 0):=by rw[AAE _ _ _ _ _ _ (AAC w5 _)];rfl
   have t3:(w5.alloc (.cells #[.int .i64 0,.string ⟨#[]⟩,.int .i64 0,.string ⟨#[]⟩,.int .i64 0] 59)).cell? ⟨w5.heap.size,3,none⟩=some (.string ⟨#[]⟩):=by rw[AAE _ _ _ _ _ _ (AAC w5 _)];rfl
   have t4:(w5.alloc (.cells #[.int .i64 0,.string ⟨#[]⟩,.int .i64 0,.string ⟨#[]⟩,.int .i64 0] 59)).cell? ⟨w5.heap.size,4,none⟩=some (.int .i64 0):=by rw[AAE _ _ _ _ _ _ (AAC w5 _)];rfl
   have f0:=AAL _ _ 0 _ _ (AAC w5 (.cells #[.int .i64 0,.string ⟨#[]⟩,.int .i64 0,.string ⟨#[]⟩,.int .i64 0] 59));have f1:=AAL _ _ 1 _ _ (AAC w5 (.cells #[.int .i64 0,.string ⟨#[]⟩,.int .i64 0,.string ⟨#[]⟩,.int .i64 0] 59));have f2:=AAL _ _ 2 _ _ (AAC w5 (.cells #[.int .i64 0,.string ⟨#[]⟩,.int .i64 0,.string ⟨#[]⟩,.int .i64 0] 59))
   have f3:=AAL _ _ 3 _ _ (AAC w5 (.cells #[.int .i64 0,.string ⟨#[]⟩,.int .i64 0,.string ⟨#[]⟩,.int .i64 0] 59));have f4:=AAL _ _ 4 _ _ (AAC w5 (.cells #[.int .i64 0,.string ⟨#[]⟩,.int .i64 0,.string ⟨#[]⟩,.int .i64 0] 59));simp only[VZ]
   cases hk:EK r.data.toList with
   | none =>
    rw[hk] at ht;simp only at ht;subst ht;have HN:=zh (HBAD.out hk);clear hk;go_wp2
    go_ret3
    exact ⟨_,_,_,rfl,by rw[HN.out];exact ⟨rfl,rfl,rfl⟩,Ap.out.alloc Ap.out.size _⟩
   | some p =>
    obtain ⟨t,k⟩:=p;rw[hk] at ht;obtain ⟨rfl,rfl,rfl⟩:=ht;have hle:=JN hk;rw[show r.data.toList.length=r.size from rfl] at hle;have HN:=zh (AAh.out _ k hk);clear hk;have n1:(0:Int)<=(k:Int):=by omega
    have n2:(k:Int)<=(r.size:Int):=by omega
    have s4:(w5.alloc (.cells #[.int .i64 u.kind,.string u.text,.int .i64 u.int,.string u.str,.int .i64 u.line] 59)).cell? ⟨w5.heap.size,4,none⟩=some (.int .i64 u.line):=by rw[AAE _ _ _ _ _ _ (AAC w5 _)];rfl
    have z4:=AAL _ _ 4 _ _ (AAC w5 (.cells #[.int .i64 u.kind,.string u.text,.int .i64 u.int,.string u.str,.int .i64 u.line] 59))
    have MN:Hid (Y9 ((w5.alloc (.cells #[.int .i64 u.kind,.string u.text,.int .i64 u.int,.string u.str,.int .i64 (ln:Int)] 59)).alloc (.cells #[.int .i64 u.kind,.string u.text,.int .i64 u.int,.string u.str,.int .i64 (ln:Int)] 59)) w.heap.size u5 o):=Ad.alloc (Ad.alloc KF _) _
    have Rj:Hid (((w5.alloc (.cells #[.int .i64 u.kind,.string u.text,.int .i64 u.int,.string u.str,.int .i64 (ln:Int)] 59)).alloc (.cells #[.int .i64 u.kind,.string u.text,.int .i64 u.int,.string u.str,.int .i64 (ln:Int)] 59)).rangeAt (w5.heap.size+1) 0 [.int .i64 u.kind,.string u.text,.int .i64 u.int,.string u.str,.int .i64 (ln:Int)]):=by
     have:=zR (w5.alloc (.cells #[.int .i64 u.kind,.string u.text,.int .i64 u.int,.string u.str,.int .i64 (ln:Int)] 59)) [.int .i64 u.kind,.string u.text,.int .i64 u.int,.string u.str,.int .i64 (ln:Int)] 59;rw[show (w5.alloc (.cells #[.int .i64 u.kind,.string u.text,.int .i64 u.int,.string u.str,.int .i64 (ln:Int)] 59)).heap.size=w5.heap.size+1 by simp] at this
     exact this
    have NR:Hid (w.heap.size<=((w5.alloc (.cells #[.int .i64 u.kind,.string u.text,.int .i64 u.int,.string u.str,.int .i64 (ln:Int)] 59)).alloc (.cells #[.int .i64 u.kind,.string u.text,.int .i64 u.int,.string u.str,.int .i64 (ln:Int)] 59)).heap.size):=by have:=Ap.out.size;show _<=_;simp;omega
    have CS:Hid (Below w.heap.size w ((w5.alloc (.cells #[.int .i64 u.kind,.string u.text,.int .i64 u.int,.string u.str,.int .i64 (ln:Int)] 59)).alloc (.cells #[.int .i64 u.kind,.string u.text,.int .i64 u.int,.string u.str,.int .i64 (ln:Int)] 59))):=(Ap.out.alloc Ap.out.size _).alloc (by have:=Ap.out.size;simp;omega) _
    have Ic:Hid (Ch S (r.extract k r.size).data.toList (o++[{ u with line:=(ln:Int) }]) (ln:Int)):=by
     show Ch _ _ _ _
     rw[K5];exact HN.out
    have hxk:=ext_size (s:=r) (n:=k);go_wp2_with (at_builtin;refine yG dH _ rfl (.tmp 27) (.tmp 29) rfl w.heap.size _ _ _ rfl MN (w5.heap.size+1) 0 1 1 [.int .i64 u.kind,.string u.text,.int .i64 u.int,.string u.str,.int .i64 (ln:Int)] rfl rfl Rj (by simp[Value.oneCell']) (by omega) (by omega) NR ?_;intro v8 w8 CW Bt)
    go_roundw
    case rel=>exact ⟨r.extract k r.size,o++[{ u with line:=(ln:Int) }],ln,rfl,by go_num,by omega,by simp;omega,Ic.out,Ad.snoc (x:={ u with line:=(ln:Int) }) CW,CS.out.grown Bt NR MN.out.lt⟩
    case measure=>simp[PV];omega
open Go.ChangeShapes Go.WideShapes Go.ChangeAt Go.RowKit
set_option maxRecDepth 100000
theorem star : "*" ++ "errors.errorString" = "*errors.errorString" := by decide
theorem aO (u : TypeId) (h : Tryz.prog.typeName? 3 u = some "*errors.errorString") : u = 222 :=
 typeName_ptr_named (nm := "errors.errorString") (by rw [star]; kernel_rfl) (by kernel_rfl) (by decide) u (by rw [star]; exact h)
theorem Qi {H:Type} {enc:TypeId×Value->H} {W:World} {n:Nat} {cs:List Value} {ps:List MemPlace} {L:List (List UInt8)} {sp:List (DataW H)} {held:Bool}
  (h:DataW.trod enc Tryz.prog W 0 (fun _=>true) held n 65 cs=some (.slice (L.map fun b => .lit (.string b)) sp,ps)) (hL:L.length<=1000) (hz:∀b∈L,b.length<=1000) :
  ∃ (A:zo) (c:Nat),cs=[.slice A L.length c]/\LF W A (L.map bA):=by
 rcases open_strings Tryz.underlying65 Tryz.underlying9 (by kernel_rfl) h with ⟨_,hx⟩|⟨a,len,cap,ss,hcs,_,hlc,_,hss,hx,hc,hmx⟩
 ·have:=congrArg Prod.fst hx
  cases this
 ·have hd:=congrArg Prod.fst hx
  injection hd with hd _
  have hlm:len<=ss.length:=by rw[hss];simp only[if_true];exact hlc
  have hlen:L.length=len:=by
   have:=congrArg List.length hd;simp only[AAZ,strs,List.length_take] at this
   omega
  have hg:∀i (hi:i<L.length),bA L[i]=ss.getD i ByteArray.empty:=fun i hi=>by
   have:=congrArg (fun l=>l[i]?) hd
   simp only[strs,List.getElem?_map,List.getElem?_take] at this;rw[zl hi,AAG (by omega),zl (show i<ss.length by omega)] at this
   simp only[Option.map_some,Option.some.injEq,DataW.lit.injEq,Lit.string.injEq] at this;rw[AAl,zl (show i<ss.length by omega),Option.getD_some]
   exact ByteArray.ext (Array.ext' this)
  refine ⟨some a,cap,by rw[hlen];exact hcs,by unfold DU;rw[AAZ];omega,fun hne=>?_⟩
  have h0:0<ss.length:=by
   have:0<L.length:=by
    rcases Nat.eq_zero_or_pos L.length with e|e
    ·exact absurd (by rw[AAf e];rfl) hne
    ·exact e
   omega
  have hsp:a.spot=none:=PX (show W.cell? (a.add 0)=some _ from hc 0 h0);obtain ⟨b,o,s⟩:=a;simp only at hsp;subst hsp;refine ⟨b,o,rfl,fun i y hy=>?_⟩
  have hi:i<L.length:=by have:=(AAi.1 hy).1;rwa [AAZ] at this
  have hye:y=bA L[i]:=by
   rw[List.getElem?_map,zl hi] at hy;exact (AAm hy).symm
  subst hye;refine ⟨[.string (bA L[i])],⟨?_,rfl⟩,fun j u hj=>?_⟩
  ·have:=hz _ (AAK hi)
   show (bA L[i]).size<=_
   rw[show (bA L[i]).size=L[i].length from List.size_toArray]
   omega
  ·match j,hj with
   | 0,hj =>
    obtain rfl:Value.string (bA L[i])=u:=by simpa using hj
    have:=hc i (by omega)
    rw[<-hg i hi] at this;rw[Addr.add_mid] at this
    simpa using this
   | k+1,hj=>simp at hj
theorem Tq {W : World} (h : laidMetH Tryz.prog [("math/bits.deBruijn32tab", Rows.laid_math_bits_deBruijn32tab), ("math/bits.deBruijn64tab", Rows.laid_math_bits_deBruijn64tab), ("internal/strconv.uint64pow10", Rows.laid_internal_strconv_uint64pow10), ("strconv.ErrRange", Rows.laid_strconv_ErrRange), ("strconv.ErrSyntax", Rows.laid_strconv_ErrSyntax), ("sheave/lexer.symbols", Rows.laid_sheave_lexer_symbols)] W) : Jj W /\ ∃ (A : zo) (c : Nat), J8 W A c := by
 have h0 : laidMet Tryz.prog [("math/bits.deBruijn32tab", Rows.laid_math_bits_deBruijn32tab), ("math/bits.deBruijn64tab", Rows.laid_math_bits_deBruijn64tab), ("internal/strconv.uint64pow10", Rows.laid_internal_strconv_uint64pow10), ("strconv.ErrRange", Rows.laid_strconv_ErrRange), ("strconv.ErrSyntax", Rows.laid_strconv_ErrSyntax), ("sheave/lexer.symbols", Rows.laid_sheave_lexer_symbols)] W := h
 have h2:=h0.tail.tail;have h3:=h2.tail;have h4:=h3.tail;have h5:=h4.tail;have gR : Tryz.prog.globalNamed "strconv.ErrRange" = some 6 := by kernel_rfl
 have gS : Tryz.prog.globalNamed "strconv.ErrSyntax" = some 5 := by kernel_rfl
 have cE:Tryz.prog.cellsOf 224=1:=by kernel_rfl
 have cS:Tryz.prog.cellsOf 9=1:=by kernel_rfl
 refine ⟨⟨?_,?_,?_⟩,?_⟩
 ·obtain ⟨ps,⟨g,t,cs,fuel,p,q,hg,ht,hvar,hd,_,_⟩,_⟩:=h2
  have hg1 : Tryz.prog.globalNamed "internal/strconv.uint64pow10" = some 1 := by kernel_rfl
  have ht1:(Tryz.prog.globals[1]?).map (·.type)=some 202:=by kernel_rfl
  obtain rfl:=AAm (hg1.symm.trans hg);obtain rfl:=AAm (ht1.symm.trans ht);unfold Lib.TabIs;rw[hvar,<-Lib.cells_of_tab Tryz.underlying202 Tryz.underlying179 (by kernel_rfl) (by kernel_rfl) hd]
 ·obtain ⟨a,s,hv,_,_,_⟩:=laid_sentinel h4 gS (by kernel_rfl) Tryz.underlying61 aO Tryz.underlying222 Tryz.underlying224 rfl rfl Tryz.underlying9 cE cS
  exact ⟨_,_,by have h0:=World.var?_cell gS hv 0;simpa using h0⟩
 ·obtain ⟨a,s,hv,_,_,_⟩:=laid_sentinel h3 gR (by kernel_rfl) Tryz.underlying61 aO Tryz.underlying222 Tryz.underlying224 rfl rfl Tryz.underlying9 cE cS
  exact ⟨_,_,by have h0:=World.var?_cell gR hv 0;simpa using h0⟩
 ·obtain ⟨ps,⟨g,t,cs,fuel,p,q,hg,ht,hvar,hd,_,_⟩,_⟩:=h5
  have hg1 : Tryz.prog.globalNamed "sheave/lexer.symbols" = some 0 := by kernel_rfl
  have ht1:(Tryz.prog.globals[0]?).map (·.type)=some 65:=by kernel_rfl
  obtain rfl:=AAm (hg1.symm.trans hg);obtain rfl:=AAm (ht1.symm.trans ht);obtain ⟨A,c,hcs,hst⟩:=Qi (L:=BO) (sp:=[]) hd (by decide) (by decide)
  refine ⟨A,c,?_,hst⟩;have h0:=World.var?_cell hg1 hvar 0;rw[show cs[0]? = cs.toList[0]? from (Array.getElem?_toList ..).symm,hcs] at h0;exact h0
def Jc (cs:Array Value):Obj->Obj
 | .cells _ t frozen => .cells cs t frozen
 | o=>o
noncomputable def Lv (os:Os):World :=
 let w0:=World.holding Tryz.prog os ⟨#[.cells #[.string ⟨#[105,110,118,97,108,105,100,32,115,121,110,116,97,120]⟩] 224,.cells #[.string ⟨#[118,97,108,117,101,32,111,117,116,32,111,102,32,114,97,110,103,101]⟩] 224,.cells #[.string ⟨#[45,62]⟩,.string ⟨#[46,46]⟩,.string ⟨#[123]⟩,.string ⟨#[125]⟩,.string ⟨#[40]⟩,.string ⟨#[41]⟩,.string ⟨#[91]⟩,.string ⟨#[93]⟩,.string ⟨#[44]⟩,.string ⟨#[59]⟩,.string ⟨#[58]⟩,.string ⟨#[61]⟩,.string ⟨#[46]⟩,.string ⟨#[33]⟩,.string ⟨#[63]⟩,.string ⟨#[64]⟩,.string ⟨#[42]⟩,.string ⟨#[124]⟩] 9],#[],[]⟩
 { w0 with heap:=(((w0.heap.modify 1 (Jc #[.int .u64 1,.int .u64 10,.int .u64 100,.int .u64 1000,.int .u64 10000,.int .u64 100000,.int .u64 1000000,.int .u64 10000000,.int .u64 100000000,.int .u64 1000000000,.int .u64 10000000000,.int .u64 100000000000,.int .u64 1000000000000,.int .u64 10000000000000,.int .u64 100000000000000,.int .u64 1000000000000000,.int .u64 10000000000000000,.int .u64 100000000000000000,.int .u64 1000000000000000000,.int .u64 10000000000000000000])).modify 3 (Jc #[.int .u8 0,.int .u8 1,.int .u8 28,.int .u8 2,.int .u8 29,.int .u8 14,.int .u8 24,.int .u8 3,.int .u8 30,.int .u8 22,.int .u8 20,.int .u8 15,.int .u8 25,.int .u8 17,.int .u8 4,.int .u8 8,.int .u8 31,.int .u8 27,.int .u8 13,.int .u8 23,.int .u8 21,.int .u8 19,.int .u8 16,.int .u8 7,.int .u8 26,.int .u8 12,.int .u8 18,.int .u8 6,.int .u8 11,.int .u8 5,.int .u8 10,.int .u8 9])).modify 4 (Jc #[.int .u8 0,.int .u8 1,.int .u8 56,.int .u8 2,.int .u8 57,.int .u8 49,.int .u8 28,.int .u8 3,.int .u8 61,.int .u8 58,.int .u8 42,.int .u8 50,.int .u8 38,.int .u8 29,.int .u8 17,.int .u8 4,.int .u8 62,.int .u8 47,.int .u8 59,.int .u8 36,.int .u8 45,.int .u8 43,.int .u8 51,.int .u8 22,.int .u8 53,.int .u8 39,.int .u8 33,.int .u8 30,.int .u8 24,.int .u8 18,.int .u8 12,.int .u8 5,.int .u8 63,.int .u8 55,.int .u8 48,.int .u8 27,.int .u8 60,.int .u8 41,.int .u8 37,.int .u8 16,.int .u8 46,.int .u8 35,.int .u8 44,.int .u8 21,.int .u8 52,.int .u8 32,.int .u8 23,.int .u8 11,.int .u8 54,.int .u8 26,.int .u8 40,.int .u8 15,.int .u8 34,.int .u8 20,.int .u8 31,.int .u8 10,.int .u8 25,.int .u8 14,.int .u8 19,.int .u8 9,.int .u8 13,.int .u8 8,.int .u8 7,.int .u8 6])) |>.modify 5 (Jc #[.iface 222 (.pointer (some ⟨12,0,none⟩))]) |>.modify 6 (Jc #[.iface 222 (.pointer (some ⟨13,0,none⟩))]) |>.modify 0 (Jc #[.slice (some ⟨14,0,none⟩) 18 18]) }
section
variable {W:World}
end
end Go.Proofs.YthkkllmmbefedaaGreatDoor



