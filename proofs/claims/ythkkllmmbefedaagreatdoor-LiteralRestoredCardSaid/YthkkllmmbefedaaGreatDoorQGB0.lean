/-
  The library's variables and the table of symbols out of the rows' lists; a world for the witness; numbers that came in.
-/
import Derived.Test.YthkkllmmbefedaaGreatDoorQVF7
import Derived.Test.YthkkllmmbefedaaGreatDoorQGA9
import Derived.Test.YthkkllmmbefedaaGreatDoorQLXWA
import Derived.Test.YthkkllmmbefedaaGreatDoorQGW0
import Derived.Test.YthkkllmmbefedaaGreatDoorQGA10
import Derived.Test.YthkkllmmbefedaaGreatDoorQLW7
import Derived.Test.YthkkllmmbefedaaGreatDoorQLW8
import Derived.Test.YthkkllmmbefedaaGreatDoorQGA11
import Derived.SliceStrings
import Derived.Stop.LaidErr
import Derived.Shelf.Vars
namespace Go.Proofs.YthkkllmmbefedaaGreatDoor
open Go.RowKit
set_option maxHeartbeats 16000000
set_option maxRecDepth 100000
theorem Ue {s:List Aa} {A:zo} {c:Nat} {plain:Bool} (hv:zQ s=0) (hn:DI s):∀n,Pv s A c plain n
 | 0=>fun _ v _ _ _ _ _ _ _ h=>absurd h (by have:=Y3 v;omega)
 | n+1=>Zo hv hn (Ue hv hn n)
variable {s:List Aa}
theorem JA (A:zo) (c:Nat) (hv:zQ s=0) (hn:DI s) (t:Int) (v:Val) (A1:zo) (c1:Nat) (A2:zo) (c2:Nat) (A3:zo) (c3:Nat) (w:World) (hs:C8 w A s) (hr:Ao w v A1 A2 A3):
  Calls Tryz.prog 43 #[.agg #[.slice A s.length c],.int .i64 t,v.v A1 c1 A2 c2 A3 c3] w fun e w'=>e = .returned (.bool (Bc s false t v))/\Below w.heap.size w w':=by
 have HS:=zh hs;have HR:=zh hr;have HF:=zh (Ue (A:=A) (c:=c) (plain:=false) hv hn (SizeOf.sizeOf v));have HB0:=zh (zI w (.cells #[.slice A s.length c] 31) (v.box A1 c1 A2 c2 A3 c3));have HX0:=zh (FR (AAL w (.cells #[.slice A s.length c] 31)) (v.box A1 c1 A2 c2 A3 c3))
 have HY0:Hid (((w.alloc (.cells #[.slice A s.length c] 31)).alloc (v.box A1 c1 A2 c2 A3 c3)).heap[w.heap.size+1]? = some (v.box A1 c1 A2 c2 A3 c3)):=by
  have:=AAL (w.alloc (.cells #[.slice A s.length c] 31)) (v.box A1 c1 A2 c2 A3 c3);rw[show (w.alloc (.cells #[.slice A s.length c] 31)).heap.size=w.heap.size+1 by simp] at this
  exact this
 clear hs hr hv hn
 go_enter Tryz.func43,Tryz.ntmps43
 go_upto_region 1 with fail
 generalize (w.alloc (.cells #[.slice A s.length c] 31)).alloc (v.box A1 c1 A2 c2 A3 c3)=W1 at *;obtain ⟨v0,v1,v2,v3,v4,v5,v6,v7⟩:=zF HY0;have x0:=zb HX0;go_wp2_with fail;refine (HF.out t v A1 c1 A2 c2 A3 c3 _ (AAP _) (HS.out.below HB0) (HR.out.below HB0)).mono ?_;rintro e w1 ⟨rfl,hb1⟩;have HB1:=zh (zB HB0 hb1);clear hb1;go_wp2;go_ret;exact ⟨rfl,HB1.out⟩
variable {c:Nat} {A:zo}
theorem Yv (s:ByteArray) (hs:s.size<=140737488355328) (h1:0<s.size) (w:World) (hE:KZ w) (hS:K6 w A c):Calls Tryz.prog 77 #[.string s] w (Dn w s.data.toList):=by
 cases hl:Ba s[0] with
 | true=>exact dD s hs h1 hl w
 | false =>
  cases hd:zZ s[0] with
  | true=>exact lC s hs h1 hl hd w hE
  | false =>
   by_cases hq:s[0].toNat=34
   ·exact kZ s hs h1 hq w
   ·by_cases h45:s[0].toNat=45
    ·by_cases h2:1<s.size
     ·cases hd1:zZ s[1] with
      | true=>exact kz s hs h2 h1 h45 hd1 w hE
      | false =>
       by_cases hy:Fp s.data.toList=none
       ·exact kg s hs h1 h45 h2 hd1 hl hd hq hy w hS
       ·exact kX s hs h1 h45 h2 hd1 hl hd hq hy w hS
     ·have hz:s.size=1:=by omega
      have hy:Fp s.data.toList=none:=by
       rw[Ij h1,ABW (show s.data.toList.length<=1 by rw[show s.data.toList.length=s.size from rfl];omega)]
       exact Xc (by rw[h45];decide) (by rw[h45];decide) (by rw[h45];unfold Ru;decide)
      exact kr s hs h1 h45 hz hl hd hq hy w hS
    ·by_cases hy:Fp s.data.toList=none
     ·exact ku s hs h1 h45 hl hd hq hy w hS
     ·exact kY s hs h1 h45 hl hd hq hy w hS
def Az (S r:List UInt8) (o:List AJ) (ln:Int):Prop:=Ay 1 S=(Ay ln r).map fun q=>o++q
section
variable {S q:List UInt8} {o:List AJ} {ln:Int} {c:UInt8}
theorem Az.start (S:List UInt8):Az S S [] 1:=by
 unfold Az
 cases Ay 1 S <;> rfl
theorem Az.end_ (h:Az S [] o ln):Ay 1 S = .ok o:=by
 unfold Az at h;rw[Jl] at h;rw[h];exact congrArg Except.ok (List.append_nil o)
theorem Az.nl (h:Az S (c::q) o ln) (hc:c.toNat=10):Az S q o (ln+1):=by
 unfold Az at h ⊢
 rwa [Ck,AAH hc] at h
theorem Az.sp (h:Az S (c::q) o ln) (hn:c.toNat≠10) (hc:c.toNat=32\/c.toNat=9):Az S q o ln:=by
 unfold Az at h ⊢
 rwa [Ck,Pd hn,AAH hc] at h
theorem Az.cm (h:Az S (c::q) o ln) (hn:c.toNat≠10) (hs:¬ (c.toNat=32\/c.toNat=9)) (hc:c.toNat=47/\(q.headD 0).toNat=47):Az S (Ik (c::q)) o ln:=by
 unfold Az at h ⊢;rw[Ck,Pd hn,Pd hs,AAH hc] at h
 rwa [Ik,Pd hn]
theorem Az.bad (h:Az S (c::q) o ln) (hn:c.toNat≠10) (hs:¬ (c.toNat=32\/c.toNat=9)) (hc:¬ (c.toNat=47/\(q.headD 0).toNat=47)) (ht:DR (c::q)=none):Ay 1 S = .error ln:=by
 unfold Az at h;rw[Ck,Pd hn,Pd hs,Pd hc,ht] at h;exact h
theorem Az.tok (h:Az S (c::q) o ln) (hn:c.toNat≠10) (hs:¬ (c.toNat=32\/c.toNat=9)) (hc:¬ (c.toNat=47/\(q.headD 0).toNat=47)) {t:AJ} {k:Nat} (ht:DR (c::q)=some (t,k)):Az S ((c::q).drop k) (o++[{ t with line:=ln }]) ln:=by
 unfold Az at h ⊢;rw[Ck,Pd hn,Pd hs,Pd hc,ht] at h;simp only at h;rw[h]
 cases Ay ln ((c::q).drop k) with
 | error e=>rfl
 | ok x=>exact congrArg Except.ok (show o++({ t with line:=ln }::x)=o++[{ t with line:=ln }]++x by rw[AAb];rfl)
end
theorem UL:∀l:List UInt8,(Lib.indexByte l 10<0/\Ik l=[])\/∃n:Nat,n<l.length/\Lib.indexByte l 10=(n:Int)/\Ik l=l.drop n
 | []=>Or.inl ⟨by decide,rfl⟩
 | c::r=>by
  by_cases hc:c=10
  ·subst hc
   refine Or.inr ⟨0,by simp,?_,?_⟩
   ·rw[Lib.indexByte];rfl
   ·rw[Ik,AAH (show (10:UInt8).toNat=10 from rfl)];rfl
  ·have h1:(c==10)=false:=by simp[hc]
   have h2:¬ c.toNat=10:=fun e=>hc (FC e)
   rcases UL r with ⟨g1,g2⟩|⟨n,g0,g1,g2⟩
   ·left
    rw[Lib.indexByte,h1,Ik,Pd h2];refine ⟨?_,g2⟩;simp only[Bool.false_eq_true,if_false]
    split
    ·decide
    ·rename_i h
     have:Lib.indexByte r 10 = -1\/0<=Lib.indexByte r 10:=by
      have key:∀l:List UInt8,-1<=Lib.indexByte l 10:=fun l=>by
       induction l with
       | nil=>decide
       | cons a q ih =>
        rw[Lib.indexByte]
        split
        ·decide
        ·split
         ·decide
         ·omega
      have:=key r
      omega
     rcases this with e|e
     ·rw[e] at h;exact absurd rfl h
     ·omega
   ·right
    refine ⟨n+1,by rw[AAS];omega,?_,?_⟩
    ·rw[Lib.indexByte,h1,g1]
     have:((n:Int) == -1)=false:=by rw[ABY];omega
     rw[this];simp only[Bool.false_eq_true,if_false]
     omega
    ·rw[Ik,Pd h2,g2];rfl
theorem TN (s:ByteArray) (hs:s.size<=140737488355328) (hz:65536<s.size) (w:World):Calls Tryz.prog 49 #[.string s] w fun e w'=>e = .returned (.tuple #[.slice none 0 0,.int .i64 0,.int .i64 3])/\w'=w:=by
 have h1:(65536:Int)<(s.size:Int):=by omega
 go_enter Tryz.func49,Tryz.ntmps49
 go_wp2
 go_ret3
 exact ⟨rfl,rfl⟩
def QU:Value->Nat
 | .string s=>s.size
 | _=>0
def jE (w:World) (S:List UInt8) (e:Ending) (w':World):Prop:=∃ (v:Value) (n er:Int),e = .returned (.tuple #[v,.int .i64 n,.int .i64 er])/\(match Ay 1 S with
 | .ok o=>aG w' w.heap.size v o/\n=0/\er=0
 | .error l=>v = .slice none 0 0/\n=l/\er=2)/\Below w.heap.size w w'
variable {n:Nat}
theorem ext_size {s:ByteArray}:(s.extract n s.size).size=s.size - n:=by
 have h:(s.extract n s.size).size=(s.data.toList.drop n).length:=by rw[<-Hu];rfl
 rw[h,AAy];rfl
theorem Xo {r:ByteArray}:Lib.hasPrefix r.data.toList [47,47]=true↔∃c q,r.data.toList=c::q/\c.toNat=47/\(q.headD 0).toNat=47:=by
 unfold Lib.hasPrefix;rw[List.isPrefixOf_iff_prefix]
 constructor
 ·rintro ⟨t,h⟩
  exact ⟨47,47::t,h.symm,rfl,rfl⟩
 ·rintro ⟨c,q,h,h1,h2⟩
  cases q with
  | nil=>exact absurd h2 (by decide)
  | cons d p =>
   rw[h,FC (show c.toNat=(47:UInt8).toNat from h1),FC (show d.toNat=(47:UInt8).toNat from h2)];exact ⟨p,rfl⟩
theorem Vb (s:ByteArray) (hz:s.size<=65536) (w:World) (hE:KZ w) (hS:K6 w A c):Calls Tryz.prog 49 #[.string s] w (jE w s.data.toList):=by
 have HE:=zh hE;have HS:=zh hS;obtain ⟨S,hS0⟩:∃S,s.data.toList=S:=⟨_,rfl⟩;have HST:Hid (Az S s.data.toList [] 1):=by show Az _ _ _ _;rw[hS0];exact Az.start S
 rw[hS0];clear hS0 hE hS;have z0:¬ (65536:Int)<(s.size:Int):=by omega
 go_enter Tryz.func49,Tryz.ntmps49
 go_wp2
 go_loopw [0,5,6] (fun a v l wr=>∃ (r:ByteArray) (o:List AJ) (ln:Nat),a = .string r/\l = .int .i64 ln/\ln+r.size<=s.size+1/\o.length+r.size<=s.size/\Hid (Az S r.data.toList o ln/\aG wr w.heap.size v o/\Below w.heap.size w wr)) (fun a _ _ _=>QU a)
 case atStart=>exact ⟨s,[],1,rfl,rfl,by omega,by simp,HST.out,Ab.nil _ _,Pe _ _⟩
 case round =>
  obtain ⟨r,o,ln,rfl,rfl,hl1,hl2,hh⟩:=hrel;have HT:=zh hh.out.1;have HO:=zh hh.out.2.1;have HB:=zh hh.out.2.2;clear hh
  by_cases h0:r.size=0
  ·obtain rfl:=UK h0
   have HN:=zh (Az.end_ HT);clear h0;go_wp2
   go_ret3
   exact ⟨_,_,_,rfl,by rw[HN.out];exact ⟨HO.out,rfl,rfl⟩,HB.out⟩
  have hp:0<r.size:=by omega
  have hne2:r.toList.isEmpty=false:=by simpa using Pf hp
  have Gc:=zh (Ij hp);have i0:(1:Int)<=(r.size:Int):=by omega
  have EH:=zh (Hu (s:=r) (n:=1));have hx1:=ext_size (s:=r) (n:=1)
  by_cases c1:r[0].toNat=10
  ·have q1:((r[0].toNat:Int)==10)=true:=by simp[c1]
   have HN:Hid (Az S (r.extract 1 r.size).data.toList o ((ln+1:Nat):Int)):=by
    show Az _ _ _ _
    rw[EH.out];exact Az.nl (Gc.out▸HT.out) c1
   clear c1;go_wp2;go_roundw
   case rel=>exact ⟨r.extract 1 r.size,o,ln+1,rfl,by go_num,by omega,by omega,HN.out,HO.out,HB.out⟩
   case measure=>simp[QU];omega
  have q1:((r[0].toNat:Int)==10)=false:=by simp;omega
  by_cases c2:r[0].toNat=32\/r[0].toNat=9
  ·have HN:Hid (Az S (r.extract 1 r.size).data.toList o (ln:Int)):=by
    show Az _ _ _ _
    rw[EH.out];exact Az.sp (Gc.out▸HT.out) c1 c2
   have hD:((r[0].toNat:Int)==32)=true\/(((r[0].toNat:Int)==32)=false/\((r[0].toNat:Int)==9)=true):=by simp;omega
   clear c1 c2
   rcases hD with q2|⟨q2,q3⟩
   ·go_wp2
    go_roundw
    case rel=>exact ⟨r.extract 1 r.size,o,ln,rfl,by go_num,by omega,by omega,HN.out,HO.out,HB.out⟩
    case measure=>simp[QU];omega
   ·go_wp2
    go_roundw
    case rel=>exact ⟨r.extract 1 r.size,o,ln,rfl,by go_num,by omega,by omega,HN.out,HO.out,HB.out⟩
    case measure=>simp[QU];omega
  have q2:((r[0].toNat:Int)==32)=false:=by simp;omega
  have q3:((r[0].toNat:Int)==9)=false:=by simp;omega
  cases hpre:Lib.hasPrefix r.data.toList [47,47] with
  | true =>
   have HP:=zh hpre;have hcm:r[0].toNat=47/\((r.data.toList.drop 1).headD 0).toNat=47:=by
    obtain ⟨c',q',h1,h2,h3⟩:=Xo.1 hpre;rw[Gc.out] at h1
    injection h1 with h1 h4
    rw[h1,h4];exact ⟨h2,h3⟩
   have jR:=zh (Az.cm (Gc.out▸HT.out) c1 c2 hcm);rw[<-Gc.out] at jR;have rZ:=UL r.data.toList;rw[show r.data.toList.length=r.size from rfl] at rZ;have VG:=zh c1;clear hpre c1 c2 hcm
   rcases rZ with ⟨g1,g2⟩|⟨n,g0,g1,g2⟩
   ·obtain ⟨v,hv⟩:∃v,Lib.indexByte r.data.toList 10=v:=⟨_,rfl⟩
    have ug:Hid (Lib.indexByte r.data.toList ((10:Int).toNat.toUInt8)=v):=hv;rw[hv] at g1;have HN:Hid (Az S (ByteArray.empty).data.toList o (ln:Int)):=by
     show Az _ [] _ _
     rw[<-g2];exact jR.out
    clear g2 hv;go_wp2_with (first|(go_at_call 75;refine (Tryz.strings_HasPrefix r _ _).mono ?_;rintro e w' ⟨rfl,rfl⟩;rw[HP.out])|(go_at_call 76;refine (Tryz.strings_IndexByte r _ _).mono ?_;rintro e w' ⟨rfl,rfl⟩;rw[ug.out]));go_roundw
    case rel=>exact ⟨ByteArray.empty,o,ln,rfl,by go_num,by show ln+0<=_;omega,by show o.length+0<=_;omega,HN.out,HO.out,HB.out⟩
    case measure=>show 0<r.size;omega
   ·have ug:Hid (Lib.indexByte r.data.toList ((10:Int).toNat.toUInt8)=(n:Int)):=g1
    have n0:¬ (n:Int)<0:=by omega
    have n1:(0:Int)<=(n:Int):=by omega
    have n2:(n:Int)<=(r.size:Int):=by omega
    have HN:Hid (Az S (r.extract n r.size).data.toList o (ln:Int)):=by
     show Az _ _ _ _
     rw[Hu,<-g2];exact jR.out
    have hx2:=ext_size (s:=r) (n:=n);have hn1:1<=n:=by
     rcases Nat.eq_zero_or_pos n with e|e
     ·subst e
      exfalso
      rw[Gc.out] at g1;have hb:(r[0]==10)=false:=by
       rw[ABY]
       intro e
       have:=VG.out;rw[e] at this;exact this rfl
      rw[Lib.indexByte,hb] at g1;simp only[Bool.false_eq_true,if_false] at g1
      split at g1
      ·omega
      ·rename_i h
       have h2:Lib.indexByte (r.data.toList.drop 1) 10 = -1:=by omega
       rw[h2] at h;exact h rfl
     ·exact e
    clear g1 g2;go_wp2_with (first|(go_at_call 75;refine (Tryz.strings_HasPrefix r _ _).mono ?_;rintro e w' ⟨rfl,rfl⟩;rw[HP.out])|(go_at_call 76;refine (Tryz.strings_IndexByte r _ _).mono ?_;rintro e w' ⟨rfl,rfl⟩;rw[ug.out]));go_roundw
    case rel=>exact ⟨r.extract n r.size,o,ln,rfl,by go_num,by omega,by omega,HN.out,HO.out,HB.out⟩
    case measure=>simp[QU];omega
  | false =>
   have HP:=zh hpre;have hcm:¬ (r[0].toNat=47/\((r.data.toList.drop 1).headD 0).toNat=47):=fun h=>by
    rw[Xo.2 ⟨_,_,Gc.out,h.1,h.2⟩] at hpre;cases hpre
   have HBAD:Hid (DR r.data.toList=none->Ay 1 S = .error (ln:Int)):=fun h=>Az.bad (Gc.out▸HT.out) c1 c2 hcm (Gc.out▸h)
   have ABn:Hid (∀t k,DR r.data.toList=some (t,k)->Az S (r.data.toList.drop k) (o++[{ t with line:=(ln:Int) }]) ln):=fun t k h=>by
    have:=Az.tok (Gc.out▸HT.out) c1 c2 hcm (Gc.out▸h)
    rwa [<-Gc.out] at this
   clear hpre c1 c2 hcm;go_wp2_with (go_at_call 75;refine (Tryz.strings_HasPrefix r _ _).mono ?_;rintro e w' ⟨rfl,rfl⟩;rw[HP.out]);refine (Yv r (by omega) hp _ (HE.out.below HB) (HS.out.below HB)).mono ?_
   rintro e w5 ⟨u,n,ok,rfl,ht,hb⟩;have Ap:=zh (HB.out.trans (hb.mono HB.out.size));have KU:=zh (HO.out.below hb);clear hb;have t0:(w5.alloc (.cells #[.int .i64 0,.string ⟨#[]⟩,.int .i64 0,.string ⟨#[]⟩,.int .i64 0] 59)).cell? ⟨w5.heap.size,0,none⟩=some (.int .i64 0):=by rw[AAN _ _ _ _ _ _ (AAL w5 _)];rfl
   have t1:(w5.alloc (.cells #[.int .i64 0,.string ⟨#[]⟩,.int .i64 0,.string ⟨#[]⟩,.int .i64 0] 59)).cell? ⟨w5.heap.size,1,none⟩=some (.string ⟨#[]⟩):=by rw[AAN _ _ _ _ _ _ (AAL w5 _)];rfl
   have t2:(w5.alloc (.cells #[.int .i64 0,.string ⟨#[]⟩,.int .i64 0,.string ⟨#[]⟩,.int .i64 0] 59)).cell? ⟨w5.heap.size,2,none⟩=some (.int .i64 0):=by rw[AAN _ _ _ _ _ _ (AAL w5 _)];rfl
   have t3:(w5.alloc (.cells #[.int .i64 0,.string ⟨#[]⟩,.int .i64 0,.string ⟨#[]⟩,.int .i64 0] 59)).cell? ⟨w5.heap.size,3,none⟩=some (.string ⟨#[]⟩):=by rw[AAN _ _ _ _ _ _ (AAL w5 _)];rfl
   have t4:(w5.alloc (.cells #[.int .i64 0,.string ⟨#[]⟩,.int .i64 0,.string ⟨#[]⟩,.int .i64 0] 59)).cell? ⟨w5.heap.size,4,none⟩=some (.int .i64 0):=by rw[AAN _ _ _ _ _ _ (AAL w5 _)];rfl
   have f0:=AAR _ _ 0 _ _ (AAL w5 (.cells #[.int .i64 0,.string ⟨#[]⟩,.int .i64 0,.string ⟨#[]⟩,.int .i64 0] 59));have f1:=AAR _ _ 1 _ _ (AAL w5 (.cells #[.int .i64 0,.string ⟨#[]⟩,.int .i64 0,.string ⟨#[]⟩,.int .i64 0] 59));have f2:=AAR _ _ 2 _ _ (AAL w5 (.cells #[.int .i64 0,.string ⟨#[]⟩,.int .i64 0,.string ⟨#[]⟩,.int .i64 0] 59))
   have f3:=AAR _ _ 3 _ _ (AAL w5 (.cells #[.int .i64 0,.string ⟨#[]⟩,.int .i64 0,.string ⟨#[]⟩,.int .i64 0] 59));have f4:=AAR _ _ 4 _ _ (AAL w5 (.cells #[.int .i64 0,.string ⟨#[]⟩,.int .i64 0,.string ⟨#[]⟩,.int .i64 0] 59));simp only[Wi]
   cases hk:DR r.data.toList with
   | none =>
    rw[hk] at ht;simp only at ht;subst ht;have HN:=zh (HBAD.out hk);clear hk;go_wp2
    go_ret3
    exact ⟨_,_,_,rfl,by rw[HN.out];exact ⟨rfl,rfl,rfl⟩,Ap.out.alloc Ap.out.size _⟩
   | some p =>
    obtain ⟨t,k⟩:=p;rw[hk] at ht;obtain ⟨rfl,rfl,rfl⟩:=ht;have hle:=Jm hk;rw[show r.data.toList.length=r.size from rfl] at hle;have HN:=zh (ABn.out _ k hk);clear hk;have n1:(0:Int)<=(k:Int):=by omega
    have n2:(k:Int)<=(r.size:Int):=by omega
    have s4:(w5.alloc (.cells #[.int .i64 u.kind,.string u.text,.int .i64 u.int,.string u.str,.int .i64 u.line] 59)).cell? ⟨w5.heap.size,4,none⟩=some (.int .i64 u.line):=by rw[AAN _ _ _ _ _ _ (AAL w5 _)];rfl
    have z4:=AAR _ _ 4 _ _ (AAL w5 (.cells #[.int .i64 u.kind,.string u.text,.int .i64 u.int,.string u.str,.int .i64 u.line] 59))
    have LM:Hid (aG ((w5.alloc (.cells #[.int .i64 u.kind,.string u.text,.int .i64 u.int,.string u.str,.int .i64 (ln:Int)] 59)).alloc (.cells #[.int .i64 u.kind,.string u.text,.int .i64 u.int,.string u.str,.int .i64 (ln:Int)] 59)) w.heap.size u5 o):=Ab.alloc (Ab.alloc KU _) _
    have Po:Hid (((w5.alloc (.cells #[.int .i64 u.kind,.string u.text,.int .i64 u.int,.string u.str,.int .i64 (ln:Int)] 59)).alloc (.cells #[.int .i64 u.kind,.string u.text,.int .i64 u.int,.string u.str,.int .i64 (ln:Int)] 59)).rangeAt (w5.heap.size+1) 0 [.int .i64 u.kind,.string u.text,.int .i64 u.int,.string u.str,.int .i64 (ln:Int)]):=by
     have:=zR (w5.alloc (.cells #[.int .i64 u.kind,.string u.text,.int .i64 u.int,.string u.str,.int .i64 (ln:Int)] 59)) [.int .i64 u.kind,.string u.text,.int .i64 u.int,.string u.str,.int .i64 (ln:Int)] 59;rw[show (w5.alloc (.cells #[.int .i64 u.kind,.string u.text,.int .i64 u.int,.string u.str,.int .i64 (ln:Int)] 59)).heap.size=w5.heap.size+1 by simp] at this
     exact this
    have MU:Hid (w.heap.size<=((w5.alloc (.cells #[.int .i64 u.kind,.string u.text,.int .i64 u.int,.string u.str,.int .i64 (ln:Int)] 59)).alloc (.cells #[.int .i64 u.kind,.string u.text,.int .i64 u.int,.string u.str,.int .i64 (ln:Int)] 59)).heap.size):=by have:=Ap.out.size;show _<=_;simp;omega
    have Ca:Hid (Below w.heap.size w ((w5.alloc (.cells #[.int .i64 u.kind,.string u.text,.int .i64 u.int,.string u.str,.int .i64 (ln:Int)] 59)).alloc (.cells #[.int .i64 u.kind,.string u.text,.int .i64 u.int,.string u.str,.int .i64 (ln:Int)] 59))):=(Ap.out.alloc Ap.out.size _).alloc (by have:=Ap.out.size;simp;omega) _
    have Si:Hid (Az S (r.extract k r.size).data.toList (o++[{ u with line:=(ln:Int) }]) (ln:Int)):=by
     show Az _ _ _ _
     rw[Hu];exact HN.out
    have hxk:=ext_size (s:=r) (n:=k);go_wp2_with (at_builtin;refine yG iM _ rfl (.tmp 27) (.tmp 29) rfl w.heap.size _ _ _ rfl LM (w5.heap.size+1) 0 1 1 [.int .i64 u.kind,.string u.text,.int .i64 u.int,.string u.str,.int .i64 (ln:Int)] rfl rfl Po (by simp[Value.oneCell']) (by omega) (by omega) MU ?_;intro v8 w8 BI BB)
    go_roundw
    case rel=>exact ⟨r.extract k r.size,o++[{ u with line:=(ln:Int) }],ln,rfl,by go_num,by omega,by simp;omega,Si.out,Ab.snoc (x:={ u with line:=(ln:Int) }) BI,Ca.out.grown BB MU LM.out.lt⟩
    case measure=>simp[QU];omega
theorem VU (hv:zQ s=0) (hn:DI s) (ih:WriteAt s A c n):WriteAt s A c (n+1):=by
 intro t v A1 c1 A2 c2 A3 c3 w0 w B b T hf hs hr htb hg hb0 hB hbl hsz
 obtain ⟨i0,i1,_,_⟩:=Bt hf;have hk:=FI hv ⟨i0,i1⟩;have hkx:(AO s t).kind=1\/(AO s t).kind=2\/(AO s t).kind=3\/(AO s t).kind=4\/(AO s t).kind=5\/(AO s t).kind=6\/(AO s t).kind=7\/(AO s t).kind=8\/(AO s t).kind=9:=by omega
 rcases hkx with e|e|e|e|e|e|e|e|e
 ·exact bQ hv hn ih t v A1 c1 A2 c2 A3 c3 w0 w B b T e hf hs hr htb hg hb0 hB hbl hsz
 ·exact bP hv hn ih t v A1 c1 A2 c2 A3 c3 w0 w B b T e hf hs hr htb hg hb0 hB hbl hsz
 ·exact bO hv hn ih t v A1 c1 A2 c2 A3 c3 w0 w B b T e hf hs hr htb hg hb0 hB hbl hsz
 ·exact bN hv hn ih t v A1 c1 A2 c2 A3 c3 w0 w B b T e hf hs hr htb hg hb0 hB hbl hsz
 ·exact bM hv hn ih t v A1 c1 A2 c2 A3 c3 w0 w B b T e hf hs hr htb hg hb0 hB hbl hsz
 ·exact bL hv hn ih t v A1 c1 A2 c2 A3 c3 w0 w B b T e hf hs hr htb hg hb0 hB hbl hsz
 ·exact bK hv hn ih t v A1 c1 A2 c2 A3 c3 w0 w B b T e hf hs hr htb hg hb0 hB hbl hsz
 ·exact bJ hv hn ih t v A1 c1 A2 c2 A3 c3 w0 w B b T e hf hs hr htb hg hb0 hB hbl hsz
 ·exact bI hv hn ih t v A1 c1 A2 c2 A3 c3 w0 w B b T e hf hs hr htb hg hb0 hB hbl hsz
theorem QI {s:List Aa} {A:zo} {c:Nat} (hv:zQ s=0) (hn:DI s):∀n,WriteAt s A c n
 | 0=>fun _ _ _ _ _ _ _ _ _ _ _ _ _ hf=>by cases hf
 | n+1=>VU hv hn (QI hv hn n)
noncomputable def KQ (s:List Aa) (t:Int) (v:Val):ByteArray:=if Bc s false t v then Lp s t v else ⟨#[]⟩
theorem PV (A:zo) (c:Nat) (hv:zQ s=0) (hn:DI s) (t:Int) (v:Val) (hz:(KQ s t v).size<=140737488355328) (A1:zo) (c1:Nat) (A2:zo) (c2:Nat) (A3:zo) (c3:Nat) (w:World) (hs:C8 w A s) (hr:Ao w v A1 A2 A3) (htb:jf w):
  Calls Tryz.prog 14 #[.agg #[.slice A s.length c],.int .i64 t,v.v A1 c1 A2 c2 A3 c3] w fun e w'=>e = .returned (.tuple #[.string (KQ s t v),.int .i64 (if Bc s false t v then 0 else 1)])/\Below w.heap.size w w':=by
 have HS:=zh hs;have HR:=zh hr;have KJ:=zh htb;have HF:=zh (JA A c hv hn t v A1 c1 A2 c2 A3 c3);have HW:=zh (QI (A:=A) (c:=c) hv hn (SizeOf.sizeOf v));have HZ:Hid (KQ s t v=if Bc s false t v then Lp s t v else ⟨#[]⟩):=rfl
 have HZ2:=zh hz;have HB0:=zh (zI w (.cells #[.slice A s.length c] 31) (v.box A1 c1 A2 c2 A3 c3));have HX0:=zh (FR (AAL w (.cells #[.slice A s.length c] 31)) (v.box A1 c1 A2 c2 A3 c3));have HY0:Hid (((w.alloc (.cells #[.slice A s.length c] 31)).alloc (v.box A1 c1 A2 c2 A3 c3)).heap[w.heap.size+1]? = some (v.box A1 c1 A2 c2 A3 c3)):=by
  have:=AAL (w.alloc (.cells #[.slice A s.length c] 31)) (v.box A1 c1 A2 c2 A3 c3);rw[show (w.alloc (.cells #[.slice A s.length c] 31)).heap.size=w.heap.size+1 by simp] at this
  exact this
 generalize KQ s t v=FT at *;generalize hER:(if Bc s false t v then (0:Int) else 1)=ER
 replace hER:=zh hER;clear hs hr hv hn htb hz
 go_enter Tryz.func14,Tryz.ntmps14
 go_upto_region 1 with fail
 generalize (w.alloc (.cells #[.slice A s.length c] 31)).alloc (v.box A1 c1 A2 c2 A3 c3)=W1 at *;obtain ⟨v0,v1,v2,v3,v4,v5,v6,v7⟩:=zF HY0;have x0:=zb HX0;go_wp2_with fail;refine (HF.out _ (HS.out.below HB0) (HR.out.below HB0)).mono ?_;rintro e w1 ⟨rfl,hb1⟩;have HB1:=zh (zB HB0 hb1);have EH:=zh (zE HX0 hb1);have HY1:=zh (zE HY0 hb1);clear hb1 v0 v1 v2 v3 v4 v5 v6 v7 x0
 cases hf:Bc s false t v with
 | false =>
  have HE:Hid (FT=⟨#[]⟩):=by show _=_;rw[HZ.out,hf];rfl
  have MW:Hid (ER=1):=by show _=_;rw[<-hER.out,hf];rfl
  clear hf;go_wp2;go_ret2;exact ⟨by rw[HE.out,MW.out];rfl,HB1.out⟩
 | true =>
  have HE:Hid (FT=Lp s t v):=by show _=_;rw[HZ.out,hf];rfl
  have MW:Hid (ER=0):=by show _=_;rw[<-hER.out,hf];rfl
  have bE:=zh hf;clear hf;have HN:=zh (CP.new w1 HB1.out.size);have RN:=zh (zD w1 (.cells #[.pointer none,.slice none 0 0] 57));have HB2:=zh (HB1.out.trans (RN.out.mono HB1.out.size));have NK:=zh (zE EH RN);have HY2:=zh (zE HY1 RN);go_upto_region 4 with fail
  generalize w1.alloc (.cells #[.pointer none,.slice none 0 0] 57)=W2 at *;generalize w1.heap.size=p8 at *;obtain ⟨v0,v1,v2,v3,v4,v5,v6,v7⟩:=zF HY2;have x0:=zb NK;go_wp2_with fail;refine (HW.out t v A1 c1 A2 c2 A3 c3 w _ w.heap.size p8 ⟨#[]⟩ bE HS HR KJ (AAP _) HB2 HB2.out.size HN ?_).mono ?_
  ·have:=HZ2.out
   rw[HE.out] at this
   show 0+_<=_
   rw[Nat.zero_add];exact this
  rintro e w3 ⟨rfl,h1,h2,_⟩;have jv:Hid (CP w3 w.heap.size p8 FT):=by
   rw[show (⟨#[]⟩:ByteArray)++Ae s (SizeOf.sizeOf v) t v=Lp s t v from ByteArray.empty_append,<-HE.out] at h1;exact h1
  have HB3:=zh (HB2.out.trans h2);clear h1 h2 v0 v1 v2 v3 v4 v5 v6 v7 x0;go_wp2_with fail;refine (jv.out.str HB3.out.size).mono ?_;rintro e w4 ⟨rfl,h4⟩;have Dl:=zh (HB3.out.trans h4);clear h4;go_wp2;go_ret2;exact ⟨by rw[MW.out];rfl,Dl.out⟩
open Go.ChangeShapes Go.WideShapes Go.ChangeAt Go.RowKit
set_option maxRecDepth 100000
theorem star : "*" ++ "errors.errorString" = "*errors.errorString" := by decide
theorem dw (u : TypeId) (h : Tryz.prog.typeName? 3 u = some "*errors.errorString") : u = 222 :=
 typeName_ptr_named (nm := "errors.errorString") (by rw [star]; kernel_rfl) (by kernel_rfl) (by decide) u (by rw [star]; exact h)
theorem Ra {H:Type} {enc:TypeId×Value->H} {W:World} {cs:List Value} {ps:List MemPlace} {L:List (List UInt8)} {sp:List (DataW H)} {held:Bool} (h:DataW.trod enc Tryz.prog W 0 (fun _=>true) held n 65 cs=some (.slice (L.map fun b => .lit (.string b)) sp,ps)) (hL:L.length<=1000) (hz:∀b∈L,b.length<=1000):
  ∃ (A:zo) (c:Nat),cs=[.slice A L.length c]/\MK W A (L.map bA):=by
 rcases open_strings Tryz.underlying65 Tryz.underlying9 (by kernel_rfl) h with ⟨_,hx⟩|⟨a,len,cap,ss,hcs,_,hlc,_,hss,hx,hc,hmx⟩
 ·have:=congrArg Prod.fst hx
  cases this
 ·have hd:=congrArg Prod.fst hx
  injection hd with hd _
  have hlm:len<=ss.length:=by rw[hss];simp only[if_true];exact hlc
  have hlen:L.length=len:=by
   have:=congrArg List.length hd;simp only[AAd,strs,List.length_take] at this
   omega
  have hg:∀i (hi:i<L.length),bA L[i]=ss.getD i ByteArray.empty:=fun i hi=>by
   have:=congrArg (fun l=>l[i]?) hd
   simp only[strs,List.getElem?_map,List.getElem?_take] at this;rw[zl hi,AAH (by omega),zl (show i<ss.length by omega)] at this
   simp only[Option.map_some,Option.some.injEq,DataW.lit.injEq,Lit.string.injEq] at this;rw[AAg,zl (show i<ss.length by omega),Option.getD_some]
   exact ByteArray.ext (Array.ext' this)
  refine ⟨some a,cap,by rw[hlen];exact hcs,by unfold EK;rw[AAd];omega,fun hne=>?_⟩
  have h0:0<ss.length:=by
   have:0<L.length:=by
    rcases Nat.eq_zero_or_pos L.length with e|e
    ·exact absurd (by rw[AAa e];rfl) hne
    ·exact e
   omega
  have hsp:a.spot=none:=QV (show W.cell? (a.add 0)=some _ from hc 0 h0);obtain ⟨b,o,s⟩:=a;simp only at hsp;subst hsp;refine ⟨b,o,rfl,fun i y hy=>?_⟩
  have hi:i<L.length:=by have:=(AAf.1 hy).1;rwa [AAd] at this
  have hye:y=bA L[i]:=by
   rw[List.getElem?_map,zl hi] at hy;exact (AAh hy).symm
  subst hye;refine ⟨[.string (bA L[i])],⟨?_,rfl⟩,fun j u hj=>?_⟩
  ·have:=hz _ (AAU hi)
   show (bA L[i]).size<=_
   rw[show (bA L[i]).size=L[i].length from List.size_toArray]
   omega
  ·match j,hj with
   | 0,hj =>
    obtain rfl:Value.string (bA L[i])=u:=by simpa using hj
    have:=hc i (by omega)
    rw[<-hg i hi] at this;rw[Addr.add_mid] at this
    simpa using this
   | k+1,hj=>simp at hj
theorem Uj {W : World} (h : laidMetH Tryz.prog [("math/bits.deBruijn32tab", Rows.laid_math_bits_deBruijn32tab), ("math/bits.deBruijn64tab", Rows.laid_math_bits_deBruijn64tab), ("internal/strconv.uint64pow10", Rows.laid_internal_strconv_uint64pow10), ("strconv.ErrRange", Rows.laid_strconv_ErrRange), ("strconv.ErrSyntax", Rows.laid_strconv_ErrSyntax), ("sheave/lexer.symbols", Rows.laid_sheave_lexer_symbols)] W) : KZ W /\ ∃ (A : zo) (c : Nat), K6 W A c := by
 have h0 : laidMet Tryz.prog [("math/bits.deBruijn32tab", Rows.laid_math_bits_deBruijn32tab), ("math/bits.deBruijn64tab", Rows.laid_math_bits_deBruijn64tab), ("internal/strconv.uint64pow10", Rows.laid_internal_strconv_uint64pow10), ("strconv.ErrRange", Rows.laid_strconv_ErrRange), ("strconv.ErrSyntax", Rows.laid_strconv_ErrSyntax), ("sheave/lexer.symbols", Rows.laid_sheave_lexer_symbols)] W := h
 have h2:=h0.tail.tail;have h3:=h2.tail;have h4:=h3.tail;have h5:=h4.tail;have gR : Tryz.prog.globalNamed "strconv.ErrRange" = some 6 := by kernel_rfl
 have gS : Tryz.prog.globalNamed "strconv.ErrSyntax" = some 5 := by kernel_rfl
 have cE:Tryz.prog.cellsOf 224=1:=by kernel_rfl
 have cS:Tryz.prog.cellsOf 9=1:=by kernel_rfl
 refine ⟨⟨?_,?_,?_⟩,?_⟩
 ·obtain ⟨ps,⟨g,t,cs,fuel,p,q,hg,ht,hvar,hd,_,_⟩,_⟩:=h2
  have hg1 : Tryz.prog.globalNamed "internal/strconv.uint64pow10" = some 1 := by kernel_rfl
  have ht1:(Tryz.prog.globals[1]?).map (·.type)=some 202:=by kernel_rfl
  obtain rfl:=AAh (hg1.symm.trans hg);obtain rfl:=AAh (ht1.symm.trans ht);unfold Lib.TabIs;rw[hvar,<-Lib.cells_of_tab Tryz.underlying202 Tryz.underlying179 (by kernel_rfl) (by kernel_rfl) hd]
 ·obtain ⟨a,s,hv,_,_,_⟩:=laid_sentinel h4 gS (by kernel_rfl) Tryz.underlying61 dw Tryz.underlying222 Tryz.underlying224 rfl rfl Tryz.underlying9 cE cS
  exact ⟨_,_,by have h0:=World.var?_cell gS hv 0;simpa using h0⟩
 ·obtain ⟨a,s,hv,_,_,_⟩:=laid_sentinel h3 gR (by kernel_rfl) Tryz.underlying61 dw Tryz.underlying222 Tryz.underlying224 rfl rfl Tryz.underlying9 cE cS
  exact ⟨_,_,by have h0:=World.var?_cell gR hv 0;simpa using h0⟩
 ·obtain ⟨ps,⟨g,t,cs,fuel,p,q,hg,ht,hvar,hd,_,_⟩,_⟩:=h5
  have hg1 : Tryz.prog.globalNamed "sheave/lexer.symbols" = some 0 := by kernel_rfl
  have ht1:(Tryz.prog.globals[0]?).map (·.type)=some 65:=by kernel_rfl
  obtain rfl:=AAh (hg1.symm.trans hg);obtain rfl:=AAh (ht1.symm.trans ht);obtain ⟨A,c,hcs,hst⟩:=Ra (L:=BF) (sp:=[]) hd (by decide) (by decide)
  refine ⟨A,c,?_,hst⟩;have h0:=World.var?_cell hg1 hvar 0;rw[show cs[0]? = cs.toList[0]? from (Array.getElem?_toList ..).symm,hcs] at h0;exact h0
def KD (cs:Array Value):Obj->Obj
 | .cells _ t frozen => .cells cs t frozen
 | o=>o
noncomputable def M8 (os:Os):World :=
 let w0:=World.holding Tryz.prog os ⟨#[.cells #[.string ⟨#[105,110,118,97,108,105,100,32,115,121,110,116,97,120]⟩] 224,.cells #[.string ⟨#[118,97,108,117,101,32,111,117,116,32,111,102,32,114,97,110,103,101]⟩] 224,.cells #[.string ⟨#[45,62]⟩,.string ⟨#[46,46]⟩,.string ⟨#[123]⟩,.string ⟨#[125]⟩,.string ⟨#[40]⟩,.string ⟨#[41]⟩,.string ⟨#[91]⟩,.string ⟨#[93]⟩,.string ⟨#[44]⟩,.string ⟨#[59]⟩,.string ⟨#[58]⟩,.string ⟨#[61]⟩,.string ⟨#[46]⟩,.string ⟨#[33]⟩,.string ⟨#[63]⟩,.string ⟨#[64]⟩,.string ⟨#[42]⟩,.string ⟨#[124]⟩] 9],#[],[]⟩
 { w0 with heap:=(((w0.heap.modify 1 (KD #[.int .u64 1,.int .u64 10,.int .u64 100,.int .u64 1000,.int .u64 10000,.int .u64 100000,.int .u64 1000000,.int .u64 10000000,.int .u64 100000000,.int .u64 1000000000,.int .u64 10000000000,.int .u64 100000000000,.int .u64 1000000000000,.int .u64 10000000000000,.int .u64 100000000000000,.int .u64 1000000000000000,.int .u64 10000000000000000,.int .u64 100000000000000000,.int .u64 1000000000000000000,.int .u64 10000000000000000000])).modify 3 (KD #[.int .u8 0,.int .u8 1,.int .u8 28,.int .u8 2,.int .u8 29,.int .u8 14,.int .u8 24,.int .u8 3,.int .u8 30,.int .u8 22,.int .u8 20,.int .u8 15,.int .u8 25,.int .u8 17,.int .u8 4,.int .u8 8,.int .u8 31,.int .u8 27,.int .u8 13,.int .u8 23,.int .u8 21,.int .u8 19,.int .u8 16,.int .u8 7,.int .u8 26,.int .u8 12,.int .u8 18,.int .u8 6,.int .u8 11,.int .u8 5,.int .u8 10,.int .u8 9])).modify 4 (KD #[.int .u8 0,.int .u8 1,.int .u8 56,.int .u8 2,.int .u8 57,.int .u8 49,.int .u8 28,.int .u8 3,.int .u8 61,.int .u8 58,.int .u8 42,.int .u8 50,.int .u8 38,.int .u8 29,.int .u8 17,.int .u8 4,.int .u8 62,.int .u8 47,.int .u8 59,.int .u8 36,.int .u8 45,.int .u8 43,.int .u8 51,.int .u8 22,.int .u8 53,.int .u8 39,.int .u8 33,.int .u8 30,.int .u8 24,.int .u8 18,.int .u8 12,.int .u8 5,.int .u8 63,.int .u8 55,.int .u8 48,.int .u8 27,.int .u8 60,.int .u8 41,.int .u8 37,.int .u8 16,.int .u8 46,.int .u8 35,.int .u8 44,.int .u8 21,.int .u8 52,.int .u8 32,.int .u8 23,.int .u8 11,.int .u8 54,.int .u8 26,.int .u8 40,.int .u8 15,.int .u8 34,.int .u8 20,.int .u8 31,.int .u8 10,.int .u8 25,.int .u8 14,.int .u8 19,.int .u8 9,.int .u8 13,.int .u8 8,.int .u8 7,.int .u8 6])) |>.modify 5 (KD #[.iface 222 (.pointer (some ⟨12,0,none⟩))]) |>.modify 6 (KD #[.iface 222 (.pointer (some ⟨13,0,none⟩))]) |>.modify 0 (KD #[.slice (some ⟨14,0,none⟩) 18 18]) }
section
variable {W:World}
end
end Go.Proofs.YthkkllmmbefedaaGreatDoor



