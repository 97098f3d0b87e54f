/-
  The library's variables and the table of symbols out of the rows' lists; a world for the witness; numbers that came in.
-/
import Derived.Test.YthkkllmmbefedaaGreatDoorQVF7
import Derived.Test.YthkkllmmbefedaaGreatDoorQLXWB
import Derived.Test.YthkkllmmbefedaaGreatDoorQGW0
import Derived.Test.YthkkllmmbefedaaGreatDoorQLW7
import Derived.Test.YthkkllmmbefedaaGreatDoorQLW8
import Derived.Test.YthkkllmmbefedaaGreatDoorQGA11
import Derived.Stop.LaidErr
namespace Go.Proofs.YthkkllmmbefedaaGreatDoor
open Go.RowKit Go.Proofs.Tryz
set_option maxHeartbeats 16000000
set_option maxRecDepth 100000
theorem Vi {s:List Aa} {A:zo} {c:Nat} {plain:Bool} (hv:zQ s=0) (hn:DW s):∀n,Qf s A c plain n
 | 0=>fun _ v _ _ _ _ _ _ _ h=>absurd h (by have:=aU v;omega)
 | n+1=>dD hv hn (Vi hv hn n)
variable {s:List Aa}
theorem Ja (A:zo) (c:Nat) (hv:zQ s=0) (hn:DW s) (t:Int) (v:Val) (A1:zo) (c1:Nat) (A2:zo) (c2:Nat) (A3:zo) (c3:Nat) (w:World) (hs:DC w A s) (hr:Ar w v A1 A2 A3):
  Calls prog 43 #[.agg #[.slice A s.length c],.int .i64 t,v.v A1 c1 A2 c2 A3 c3] w fun e w'=>e = .returned (.bool (BX s false t v))/\Below w.heap.size w w':=by
 have HS:=zh hs;have HR:=zh hr;have HF:=zh (Vi (A:=A) (c:=c) (plain:=false) hv hn (SizeOf.sizeOf v));have HB0:=zh (zI w (.cells #[.slice A s.length c] 31) (v.box A1 c1 A2 c2 A3 c3));have HX0:=zh (FH (AAA w (.cells #[.slice A s.length c] 31)) (v.box A1 c1 A2 c2 A3 c3))
 have HY0:Hid (((w.alloc (.cells #[.slice A s.length c] 31)).alloc (v.box A1 c1 A2 c2 A3 c3)).heap[w.heap.size+1]? = some (v.box A1 c1 A2 c2 A3 c3)):=by
  have:=AAA (w.alloc (.cells #[.slice A s.length c] 31)) (v.box A1 c1 A2 c2 A3 c3);rw[show (w.alloc (.cells #[.slice A s.length c] 31)).heap.size=w.heap.size+1 by simp] at this
  exact this
 clear hs hr hv hn
 go_enter func43,ntmps43
 go_upto_region 1 with fail
 generalize (w.alloc (.cells #[.slice A s.length c] 31)).alloc (v.box A1 c1 A2 c2 A3 c3)=W1 at *;obtain ⟨v0,v1,v2,v3,v4,v5,v6,v7⟩:=zF HY0;have x0:=zb HX0;go_wp2_with fail;refine (HF.O t v A1 c1 A2 c2 A3 c3 _ (AAF _) (HS.O.below HB0) (HR.O.below HB0)).mono ?_;rintro e w1 ⟨rfl,hb1⟩;have HB1:=zh (zB HB0 hb1);clear hb1;go_wp2;go_ret;exact ⟨rfl,HB1.O⟩
theorem Zh (l:List UInt8) (n:Nat):(bA (l.take n)).size<=l.length:=by
 show (l.take n).toArray.size<=_
 rw[List.size_toArray,List.length_take];omega
theorem og {l:List UInt8} {t:AJ} {k:Nat} (h:CP l=some (t,k)):t.text.size<=l.length/\t.str.size<=l.length:=by
 unfold CP at h
 split at h
 ·cases h
 ·rename_i c r
  split at h
  ·split at h
   ·injection h with h;injection h with h _;subst h
    exact ⟨Zh _ _,Nat.zero_le _⟩
   ·cases h
  ·split at h
   ·rw[ABc] at h
    obtain ⟨v,_,h⟩:=h
    injection h with h _;subst h
    exact ⟨Nat.zero_le _,Nat.zero_le _⟩
   ·split at h
    ·rw[ABc] at h
     obtain ⟨⟨o,j⟩,h1,h⟩:=h
     injection h with h _;subst h
     have:=Y4 h1;refine ⟨Nat.zero_le _,?_⟩
     show o.toArray.size<=_
     rw[List.size_toArray,AAI];omega
    ·rw[ABc] at h
     obtain ⟨n,h1,h⟩:=h
     injection h with h _;subst h
     exact ⟨Zh _ _,Nat.zero_le _⟩
theorem KG:∀ (n:Nat) (ln:Int) (l:List UInt8) (o:List AJ),l.length<=n->Ap ln l = .ok o->∀t∈o,t.text.size<=n/\t.str.size<=n
 | _,ln,[],o,_,h,t,ht=>by
  rw[IE] at h
  injection h with h
  subst h;cases ht
 | 0,_,_::_,_,hn,_,_,_=>by simp at hn
 | n+1,ln,c::r,o,hn,h,t,ht=>by
  have hr:r.length<=n:=by simpa using hn
  have hu:t.text.size<=n/\t.str.size<=n->t.text.size<=n+1/\t.str.size<=n+1:=fun h=>by omega
  rw[BO] at h
  split at h
  ·exact hu (KG n _ r o hr h t ht)
  ·split at h
   ·exact hu (KG n _ r o hr h t ht)
   ·split at h
    ·exact hu (KG n _ _ o (Nat.le_trans (Gf r) hr) h t ht)
    ·split at h
     ·cases h
     ·rename_i u k hk
      obtain ⟨q,hq,rfl⟩:=map_ok h;have hle:=Ir hk
      rcases ABP.1 ht with rfl|ht
      ·have h1:=og hk
       exact ⟨Nat.le_trans h1.1 hn,Nat.le_trans h1.2 hn⟩
      ·exact hu (KG n _ _ q (by rw[AA8];simp only[AAI] at *;omega) hq t ht)
def LtP (x:ByteArray) (w:World) (e:Ending) (w':World):Prop:=∃ (A:zo) (c:Nat) (n er:Int) (o:List AJ),e = .returned (.tuple #[.slice A o.length c,.int .i64 n,.int .i64 er])/\Ew w' A o/\o.length<=65536/\Below w.heap.size w w' /\
 (if 65536<x.size then er=3 else match Ap 1 x.data.toList with
  | .ok l=>o=l/\er=0/\n=0
  | .error _=>er=2)
def plS (n:Nat):Bool:=decide (n=123)||decide (n=125)||decide (n=40)||decide (n=41)||decide (n=44)||decide (n=58)
def plC (c:UInt8):Bool:=BM c||zZ c||decide (c.toNat=32)||plS c.toNat
theorem ACF {c:UInt8} (h:plC c=true):c.toNat≠34/\c.toNat≠45/\c.toNat≠47/\c.toNat≠10/\c.toNat≠9:=by
 unfold plC plS BM zZ Dn FX at h;simp only[ACE,AAD,AAV] at h
 omega
theorem ACH {c:UInt8} {r:List UInt8} (h:plC c=true) (hl:BM c=false) (hd:zZ c=false) (hs:c.toNat≠32):Ck (c::r)≠none:=by
 have h2:=ACF h;unfold plC plS at h;rw[hl,hd] at h;simp only[Bool.false_or,ACE,AAV,hs,false_or] at h;have h9:Ck (c::r)=some 1:=Pk (by omega) (by omega) (by unfold Na;omega)
 rw[h9];exact fun e=>by cases e
variable {c:Nat} {A:zo}
theorem Wz (s:ByteArray) (hs:s.size<=140737488355328) (h1:0<s.size) (hp:∀c∈s.data.toList,plC c=true) (h32:s[0].toNat≠32) (w:World) (hE:IB w) (hS:Lc w A c):Calls prog 77 #[.string s] w (Ey w s.data.toList):=by
 have h0:=hp s[0] (by rw[G9 h1];exact ABT)
 have hn:=ACF h0
 cases hl:BM s[0] with
 | true=>exact iC s hs h1 hl w
 | false =>
  cases hd:zZ s[0] with
  | true=>exact oZ s hs h1 hl hd w hE
  | false=>exact oP s hs h1 hn.2.1 hl hd hn.1 (by rw[G9 h1];exact ACH h0 hl hd h32) w hS
def CQ (S r:List UInt8) (o:List AJ) (ln:Int):Prop:=Ap 1 S=(Ap ln r).map fun q=>o++q
section
variable {S q:List UInt8} {o:List AJ} {ln:Int} {c:UInt8}
theorem CQ.start (S:List UInt8):CQ S S [] 1:=by
 unfold CQ
 cases Ap 1 S <;> rfl
theorem CQ.end_ (h:CQ S [] o ln):Ap 1 S = .ok o:=by
 unfold CQ at h;rw[IE] at h;rw[h];exact congrArg Except.ok (List.append_nil o)
theorem CQ.nl (h:CQ S (c::q) o ln) (hc:c.toNat=10):CQ S q o (ln+1):=by
 unfold CQ at h ⊢
 rwa [BO,AAB hc] at h
theorem CQ.sp (h:CQ S (c::q) o ln) (hn:c.toNat≠10) (hc:c.toNat=32\/c.toNat=9):CQ S q o ln:=by
 unfold CQ at h ⊢
 rwa [BO,Pd hn,AAB hc] at h
theorem CQ.cm (h:CQ S (c::q) o ln) (hn:c.toNat≠10) (hs:¬ (c.toNat=32\/c.toNat=9)) (hc:c.toNat=47/\(q.headD 0).toNat=47):CQ S (DN (c::q)) o ln:=by
 unfold CQ at h ⊢;rw[BO,Pd hn,Pd hs,AAB hc] at h
 rwa [DN,Pd hn]
theorem CQ.bad (h:CQ S (c::q) o ln) (hn:c.toNat≠10) (hs:¬ (c.toNat=32\/c.toNat=9)) (hc:¬ (c.toNat=47/\(q.headD 0).toNat=47)) (ht:CP (c::q)=none):Ap 1 S = .error ln:=by
 unfold CQ at h;rw[BO,Pd hn,Pd hs,Pd hc,ht] at h;exact h
theorem CQ.tok (h:CQ S (c::q) o ln) (hn:c.toNat≠10) (hs:¬ (c.toNat=32\/c.toNat=9)) (hc:¬ (c.toNat=47/\(q.headD 0).toNat=47)) {t:AJ} {k:Nat} (ht:CP (c::q)=some (t,k)):CQ S ((c::q).drop k) (o++[{ t with line:=ln }]) ln:=by
 unfold CQ at h ⊢;rw[BO,Pd hn,Pd hs,Pd hc,ht] at h;simp only at h;rw[h]
 cases Ap ln ((c::q).drop k) with
 | error e=>rfl
 | ok x=>exact congrArg Except.ok (show o++({ t with line:=ln }::x)=o++[{ t with line:=ln }]++x by rw[AAo];rfl)
end
theorem Ua (s:ByteArray) (hs:s.size<=140737488355328) (hz:65536<s.size) (w:World):Calls prog 49 #[.string s] w fun e w'=>e = .returned (.tuple #[.slice none 0 0,.int .i64 0,.int .i64 3])/\w'=w:=by
 have h1:(65536:Int)<(s.size:Int):=by omega
 go_enter func49,ntmps49
 go_wp2
 go_ret3
 exact ⟨rfl,rfl⟩
def DF (S r:List UInt8) (o:List AJ) (ln:Int):Prop:=(Ap 1 S=(Ap ln r).map fun q=>o++q)/\∀c∈r,plC c=true
section
variable {S q:List UInt8} {o:List AJ} {ln:Int} {c:UInt8}
theorem DF.start (S:List UInt8) (Wl:∀c∈S,plC c=true):DF S S [] 1:=by
 refine ⟨?_,Wl⟩
 cases Ap 1 S <;> rfl
theorem DF.end_ (h:DF S [] o ln):Ap 1 S = .ok o:=by
 have h:=h.1;rw[IE] at h;rw[h];exact congrArg Except.ok (List.append_nil o)
theorem DF.sp (h:DF S (c::q) o ln) (hn:c.toNat≠10) (hc:c.toNat=32\/c.toNat=9):DF S q o ln:=by
 refine ⟨?_,fun x hx=>h.2 x (ABZ _ hx)⟩
 have h:=h.1
 rwa [BO,Pd hn,AAB hc] at h
theorem DF.bad (h:DF S (c::q) o ln) (hn:c.toNat≠10) (hs:¬ (c.toNat=32\/c.toNat=9)) (hc:¬ (c.toNat=47/\(q.headD 0).toNat=47)) (ht:CP (c::q)=none):Ap 1 S = .error ln:=by
 have h:=h.1;rw[BO,Pd hn,Pd hs,Pd hc,ht] at h;exact h
theorem DF.tok (h:DF S (c::q) o ln) (hn:c.toNat≠10) (hs:¬ (c.toNat=32\/c.toNat=9)) (hc:¬ (c.toNat=47/\(q.headD 0).toNat=47)) {t:AJ} {k:Nat} (ht:CP (c::q)=some (t,k)):DF S ((c::q).drop k) (o++[{ t with line:=ln }]) ln:=by
 refine ⟨?_,fun x hx=>h.2 x (List.mem_of_mem_drop hx)⟩
 have h:=h.1;rw[BO,Pd hn,Pd hs,Pd hc,ht] at h;simp only at h;rw[h]
 cases Ap ln ((c::q).drop k) with
 | error e=>rfl
 | ok x=>exact congrArg Except.ok (show o++({ t with line:=ln }::x)=o++[{ t with line:=ln }]++x by rw[AAo];rfl)
end
def RD:Value->Nat
 | .string s=>s.size
 | _=>0
def V9 (w:World) (S:List UInt8) (e:Ending) (w':World):Prop:=∃ (v:Value) (n er:Int),e = .returned (.tuple #[v,.int .i64 n,.int .i64 er])/\(match Ap 1 S with
 | .ok o=>N8 w' w.heap.size v o/\n=0/\er=0
 | .error l=>v = .slice none 0 0/\n=l/\er=2)/\Below w.heap.size w w'
variable {n:Nat}
theorem ext_size {s:ByteArray}:(s.extract n s.size).size=s.size - n:=by
 have h:(s.extract n s.size).size=(s.data.toList.drop n).length:=by rw[<-Gn];rfl
 rw[h,AA8];rfl
theorem Y9 {r:ByteArray}:Lib.hasPrefix r.data.toList [47,47]=true↔∃c q,r.data.toList=c::q/\c.toNat=47/\(q.headD 0).toNat=47:=by
 unfold Lib.hasPrefix;rw[List.isPrefixOf_iff_prefix]
 constructor
 ·rintro ⟨t,h⟩
  exact ⟨47,47::t,h.symm,rfl,rfl⟩
 ·rintro ⟨c,q,h,h1,h2⟩
  cases q with
  | nil=>exact absurd h2 (by decide)
  | cons d p =>
   rw[h,Cn (show c.toNat=(47:UInt8).toNat from h1),Cn (show d.toNat=(47:UInt8).toNat from h2)];exact ⟨p,rfl⟩
theorem Ub (s:ByteArray) (hz:s.size<=65536) (Wl:∀c∈s.data.toList,plC c=true) (w:World) (hE:IB w) (hS:Lc w A c):Calls prog 49 #[.string s] w (V9 w s.data.toList):=by
 have HE:=zh hE;have HS:=zh hS;obtain ⟨S,hS0⟩:∃S,s.data.toList=S:=⟨_,rfl⟩;have HST:Hid (DF S s.data.toList [] 1):=by show DF _ _ _ _;rw[hS0] at Wl ⊢;exact DF.start S Wl
 rw[hS0];clear hS0 hE hS Wl;have z0:¬ (65536:Int)<(s.size:Int):=by omega
 go_enter func49,ntmps49
 go_wp2
 go_loopw [0,5,6] (fun a v l wr=>∃ (r:ByteArray) (o:List AJ) (ln:Nat),a = .string r/\l = .int .i64 ln/\ln+r.size<=s.size+1/\o.length+r.size<=s.size/\Hid (DF S r.data.toList o ln/\N8 wr w.heap.size v o/\Below w.heap.size w wr)) (fun a _ _ _=>RD a)
 case atStart=>exact ⟨s,[],1,rfl,rfl,by omega,by simp,HST.O,AZ.nil _ _,Pe _ _⟩
 case round =>
  obtain ⟨r,o,ln,rfl,rfl,hl1,hl2,hh⟩:=hrel;have HT:=zh hh.O.1;have HO:=zh hh.O.2.1;have HB:=zh hh.O.2.2;clear hh
  by_cases h0:r.size=0
  ·obtain rfl:=kM h0
   have HN:=zh (DF.end_ HT);clear h0;go_wp2
   go_ret3
   exact ⟨_,_,_,rfl,by rw[HN.O];exact ⟨HO.O,rfl,rfl⟩,HB.O⟩
  have hp:0<r.size:=by omega
  have hne2:r.toList.isEmpty=false:=by simpa using La hp
  have Fy:=zh (G9 hp);have i0:(1:Int)<=(r.size:Int):=by omega
  have Ei:=zh (Gn (s:=r) (n:=1));have hx1:=ext_size (s:=r) (n:=1);have HPL:=HT.O.2 r[0] (by rw[Fy.O];exact ABT)
  obtain ⟨_,_,c47,c1,c9⟩:=ACF HPL;clear HPL;have q1:((r[0].toNat:Int)==10)=false:=by simp;omega
  by_cases c3:r[0].toNat=32
  ·have HN:Hid (DF S (r.extract 1 r.size).data.toList o (ln:Int)):=by
    show DF _ _ _ _
    rw[Ei.O];exact DF.sp (Fy.O▸HT.O) c1 (.inl c3)
   have q2:((r[0].toNat:Int)==32)=true:=by simp[c3]
   clear c1 c3 c9 c47;go_wp2;go_roundw
   case rel=>exact ⟨r.extract 1 r.size,o,ln,rfl,by go_num,by omega,by omega,HN.O,HO.O,HB.O⟩
   case measure=>simp[RD];omega
  have c2:¬ (r[0].toNat=32\/r[0].toNat=9):=by omega
  have H32:=zh c3;have q2:((r[0].toNat:Int)==32)=false:=by simp;omega
  have q3:((r[0].toNat:Int)==9)=false:=by simp;omega
  cases hpre:Lib.hasPrefix r.data.toList [47,47] with
  | true =>
   obtain ⟨c',q',h1,h2,h3⟩:=Y9.1 hpre;rw[Fy.O] at h1
   injection h1 with h1 h4
   rw[h1] at c47;exact absurd h2 c47
  | false =>
   have HP:=zh hpre;have hcm:¬ (r[0].toNat=47/\((r.data.toList.drop 1).headD 0).toNat=47):=fun h=>by
    rw[Y9.2 ⟨_,_,Fy.O,h.1,h.2⟩] at hpre;cases hpre
   have HBAD:Hid (CP r.data.toList=none->Ap 1 S = .error (ln:Int)):=fun h=>DF.bad (Fy.O▸HT.O) c1 c2 hcm (Fy.O▸h)
   have ru:Hid (∀t k,CP r.data.toList=some (t,k)->DF S (r.data.toList.drop k) (o++[{ t with line:=(ln:Int) }]) ln):=fun t k h=>by
    have:=DF.tok (Fy.O▸HT.O) c1 c2 hcm (Fy.O▸h)
    rwa [<-Fy.O] at this
   clear hpre c1 c2 hcm c3 c9 c47;go_wp2_with (go_at_call 75;refine (strings_HasPrefix r _ _).mono ?_;rintro e w' ⟨rfl,rfl⟩;rw[HP.O]);refine (Wz r (by omega) hp HT.O.2 H32 _ (HE.O.below HB) (HS.O.below HB)).mono ?_
   rintro e w5 ⟨u,n,ok,rfl,ht,hb⟩;have Aq:=zh (HB.O.trans (hb.mono HB.O.size));have JM:=zh (HO.O.below hb);clear hb;have t0:(w5.alloc (.cells #[.int .i64 0,.string ⟨#[]⟩,.int .i64 0,.string ⟨#[]⟩,.int .i64 0] 59)).cell? ⟨w5.heap.size,0,none⟩=some (.int .i64 0):=by rw[AAC _ _ _ _ _ _ (AAA w5 _)];rfl
   have t1:(w5.alloc (.cells #[.int .i64 0,.string ⟨#[]⟩,.int .i64 0,.string ⟨#[]⟩,.int .i64 0] 59)).cell? ⟨w5.heap.size,1,none⟩=some (.string ⟨#[]⟩):=by rw[AAC _ _ _ _ _ _ (AAA w5 _)];rfl
   have t2:(w5.alloc (.cells #[.int .i64 0,.string ⟨#[]⟩,.int .i64 0,.string ⟨#[]⟩,.int .i64 0] 59)).cell? ⟨w5.heap.size,2,none⟩=some (.int .i64 0):=by rw[AAC _ _ _ _ _ _ (AAA w5 _)];rfl
   have t3:(w5.alloc (.cells #[.int .i64 0,.string ⟨#[]⟩,.int .i64 0,.string ⟨#[]⟩,.int .i64 0] 59)).cell? ⟨w5.heap.size,3,none⟩=some (.string ⟨#[]⟩):=by rw[AAC _ _ _ _ _ _ (AAA w5 _)];rfl
   have t4:(w5.alloc (.cells #[.int .i64 0,.string ⟨#[]⟩,.int .i64 0,.string ⟨#[]⟩,.int .i64 0] 59)).cell? ⟨w5.heap.size,4,none⟩=some (.int .i64 0):=by rw[AAC _ _ _ _ _ _ (AAA w5 _)];rfl
   have f0:=AAG _ _ 0 _ _ (AAA w5 (.cells #[.int .i64 0,.string ⟨#[]⟩,.int .i64 0,.string ⟨#[]⟩,.int .i64 0] 59));have f1:=AAG _ _ 1 _ _ (AAA w5 (.cells #[.int .i64 0,.string ⟨#[]⟩,.int .i64 0,.string ⟨#[]⟩,.int .i64 0] 59));have f2:=AAG _ _ 2 _ _ (AAA w5 (.cells #[.int .i64 0,.string ⟨#[]⟩,.int .i64 0,.string ⟨#[]⟩,.int .i64 0] 59))
   have f3:=AAG _ _ 3 _ _ (AAA w5 (.cells #[.int .i64 0,.string ⟨#[]⟩,.int .i64 0,.string ⟨#[]⟩,.int .i64 0] 59));have f4:=AAG _ _ 4 _ _ (AAA w5 (.cells #[.int .i64 0,.string ⟨#[]⟩,.int .i64 0,.string ⟨#[]⟩,.int .i64 0] 59));simp only[FW]
   cases hk:CP r.data.toList with
   | none =>
    rw[hk] at ht;simp only at ht;subst ht;have HN:=zh (HBAD.O hk);clear hk;go_wp2
    go_ret3
    exact ⟨_,_,_,rfl,by rw[HN.O];exact ⟨rfl,rfl,rfl⟩,Aq.O.alloc Aq.O.size _⟩
   | some p =>
    obtain ⟨t,k⟩:=p;rw[hk] at ht;obtain ⟨rfl,rfl,rfl⟩:=ht;have hle:=Ir hk;rw[show r.data.toList.length=r.size from rfl] at hle;have HN:=zh (ru.O _ k hk);clear hk;have n1:(0:Int)<=(k:Int):=by omega
    have n2:(k:Int)<=(r.size:Int):=by omega
    have s4:(w5.alloc (.cells #[.int .i64 u.kind,.string u.text,.int .i64 u.int,.string u.str,.int .i64 u.line] 59)).cell? ⟨w5.heap.size,4,none⟩=some (.int .i64 u.line):=by rw[AAC _ _ _ _ _ _ (AAA w5 _)];rfl
    have z4:=AAG _ _ 4 _ _ (AAA w5 (.cells #[.int .i64 u.kind,.string u.text,.int .i64 u.int,.string u.str,.int .i64 u.line] 59))
    have Lv:Hid (N8 ((w5.alloc (.cells #[.int .i64 u.kind,.string u.text,.int .i64 u.int,.string u.str,.int .i64 (ln:Int)] 59)).alloc (.cells #[.int .i64 u.kind,.string u.text,.int .i64 u.int,.string u.str,.int .i64 (ln:Int)] 59)) w.heap.size u5 o):=AZ.alloc (AZ.alloc JM _) _
    have Ov:Hid (((w5.alloc (.cells #[.int .i64 u.kind,.string u.text,.int .i64 u.int,.string u.str,.int .i64 (ln:Int)] 59)).alloc (.cells #[.int .i64 u.kind,.string u.text,.int .i64 u.int,.string u.str,.int .i64 (ln:Int)] 59)).rangeAt (w5.heap.size+1) 0 [.int .i64 u.kind,.string u.text,.int .i64 u.int,.string u.str,.int .i64 (ln:Int)]):=by
     have:=zR (w5.alloc (.cells #[.int .i64 u.kind,.string u.text,.int .i64 u.int,.string u.str,.int .i64 (ln:Int)] 59)) [.int .i64 u.kind,.string u.text,.int .i64 u.int,.string u.str,.int .i64 (ln:Int)] 59;rw[show (w5.alloc (.cells #[.int .i64 u.kind,.string u.text,.int .i64 u.int,.string u.str,.int .i64 (ln:Int)] 59)).heap.size=w5.heap.size+1 by simp] at this
     exact this
    have M8:Hid (w.heap.size<=((w5.alloc (.cells #[.int .i64 u.kind,.string u.text,.int .i64 u.int,.string u.str,.int .i64 (ln:Int)] 59)).alloc (.cells #[.int .i64 u.kind,.string u.text,.int .i64 u.int,.string u.str,.int .i64 (ln:Int)] 59)).heap.size):=by have:=Aq.O.size;show _<=_;simp;omega
    have Bv:Hid (Below w.heap.size w ((w5.alloc (.cells #[.int .i64 u.kind,.string u.text,.int .i64 u.int,.string u.str,.int .i64 (ln:Int)] 59)).alloc (.cells #[.int .i64 u.kind,.string u.text,.int .i64 u.int,.string u.str,.int .i64 (ln:Int)] 59))):=(Aq.O.alloc Aq.O.size _).alloc (by have:=Aq.O.size;simp;omega) _
    have Tt:Hid (DF S (r.extract k r.size).data.toList (o++[{ u with line:=(ln:Int) }]) (ln:Int)):=by
     show DF _ _ _ _
     rw[Gn];exact HN.O
    have hxk:=ext_size (s:=r) (n:=k);go_wp2_with (at_builtin;refine yG IZ _ rfl (.tmp 27) (.tmp 29) rfl w.heap.size _ _ _ rfl Lv (w5.heap.size+1) 0 1 1 [.int .i64 u.kind,.string u.text,.int .i64 u.int,.string u.str,.int .i64 (ln:Int)] rfl rfl Ov (by simp[Value.oneCell']) (by omega) (by omega) M8 ?_;intro v8 w8 BB Aw)
    go_roundw
    case rel=>exact ⟨r.extract k r.size,o++[{ u with line:=(ln:Int) }],ln,rfl,by go_num,by omega,by simp;omega,Tt.O,AZ.snoc (x:={ u with line:=(ln:Int) }) BB,Bv.O.grown Aw M8 Lv.O.lt⟩
    case measure=>simp[RD];omega
theorem Ws (hv:zQ s=0) (hn:DW s) (ih:WriteAt s A c n):WriteAt s A c (n+1):=by
 intro t v A1 c1 A2 c2 A3 c3 w0 w B b T hf hs hr htb hg hb0 hB hbl hsz
 obtain ⟨i0,i1,_,_⟩:=CF hf;have hk:=Fh hv ⟨i0,i1⟩;have hkx:(AO s t).kind=1\/(AO s t).kind=2\/(AO s t).kind=3\/(AO s t).kind=4\/(AO s t).kind=5\/(AO s t).kind=6\/(AO s t).kind=7\/(AO s t).kind=8\/(AO s t).kind=9:=by omega
 rcases hkx with e|e|e|e|e|e|e|e|e
 ·exact gL hv hn ih t v A1 c1 A2 c2 A3 c3 w0 w B b T e hf hs hr htb hg hb0 hB hbl hsz
 ·exact gK hv hn ih t v A1 c1 A2 c2 A3 c3 w0 w B b T e hf hs hr htb hg hb0 hB hbl hsz
 ·exact gJ hv hn ih t v A1 c1 A2 c2 A3 c3 w0 w B b T e hf hs hr htb hg hb0 hB hbl hsz
 ·exact gI hv hn ih t v A1 c1 A2 c2 A3 c3 w0 w B b T e hf hs hr htb hg hb0 hB hbl hsz
 ·exact gH hv hn ih t v A1 c1 A2 c2 A3 c3 w0 w B b T e hf hs hr htb hg hb0 hB hbl hsz
 ·exact gG hv hn ih t v A1 c1 A2 c2 A3 c3 w0 w B b T e hf hs hr htb hg hb0 hB hbl hsz
 ·exact gF hv hn ih t v A1 c1 A2 c2 A3 c3 w0 w B b T e hf hs hr htb hg hb0 hB hbl hsz
 ·exact gD hv hn ih t v A1 c1 A2 c2 A3 c3 w0 w B b T e hf hs hr htb hg hb0 hB hbl hsz
 ·exact gB hv hn ih t v A1 c1 A2 c2 A3 c3 w0 w B b T e hf hs hr htb hg hb0 hB hbl hsz
theorem Qz {s:List Aa} {A:zo} {c:Nat} (hv:zQ s=0) (hn:DW s):∀n,WriteAt s A c n
 | 0=>fun _ _ _ _ _ _ _ _ _ _ _ _ _ hf=>by cases hf
 | n+1=>Ws hv hn (Qz hv hn n)
noncomputable def LZ (s:List Aa) (t:Int) (v:Val):ByteArray:=if BX s false t v then LX s t v else ⟨#[]⟩
theorem QL (A:zo) (c:Nat) (hv:zQ s=0) (hn:DW s) (t:Int) (v:Val) (hz:(LZ s t v).size<=140737488355328) (A1:zo) (c1:Nat) (A2:zo) (c2:Nat) (A3:zo) (c3:Nat) (w:World) (hs:DC w A s) (hr:Ar w v A1 A2 A3) (htb:nQ w):
  Calls prog 14 #[.agg #[.slice A s.length c],.int .i64 t,v.v A1 c1 A2 c2 A3 c3] w fun e w'=>e = .returned (.tuple #[.string (LZ s t v),.int .i64 (if BX s false t v then 0 else 1)])/\Below w.heap.size w w':=by
 have HS:=zh hs;have HR:=zh hr;have Kw:=zh htb;have HF:=zh (Ja A c hv hn t v A1 c1 A2 c2 A3 c3);have HW:=zh (Qz (A:=A) (c:=c) hv hn (SizeOf.sizeOf v));have HZ:Hid (LZ s t v=if BX s false t v then LX s t v else ⟨#[]⟩):=rfl
 have HZ2:=zh hz;have HB0:=zh (zI w (.cells #[.slice A s.length c] 31) (v.box A1 c1 A2 c2 A3 c3));have HX0:=zh (FH (AAA w (.cells #[.slice A s.length c] 31)) (v.box A1 c1 A2 c2 A3 c3));have HY0:Hid (((w.alloc (.cells #[.slice A s.length c] 31)).alloc (v.box A1 c1 A2 c2 A3 c3)).heap[w.heap.size+1]? = some (v.box A1 c1 A2 c2 A3 c3)):=by
  have:=AAA (w.alloc (.cells #[.slice A s.length c] 31)) (v.box A1 c1 A2 c2 A3 c3);rw[show (w.alloc (.cells #[.slice A s.length c] 31)).heap.size=w.heap.size+1 by simp] at this
  exact this
 generalize LZ s t v=FT at *;generalize hER:(if BX s false t v then (0:Int) else 1)=ER
 replace hER:=zh hER;clear hs hr hv hn htb hz
 go_enter func14,ntmps14
 go_upto_region 1 with fail
 generalize (w.alloc (.cells #[.slice A s.length c] 31)).alloc (v.box A1 c1 A2 c2 A3 c3)=W1 at *;obtain ⟨v0,v1,v2,v3,v4,v5,v6,v7⟩:=zF HY0;have x0:=zb HX0;go_wp2_with fail;refine (HF.O _ (HS.O.below HB0) (HR.O.below HB0)).mono ?_;rintro e w1 ⟨rfl,hb1⟩;have HB1:=zh (zB HB0 hb1);have Ei:=zh (zE HX0 hb1);have HY1:=zh (zE HY0 hb1);clear hb1 v0 v1 v2 v3 v4 v5 v6 v7 x0
 cases hf:BX s false t v with
 | false =>
  have HE:Hid (FT=⟨#[]⟩):=by show _=_;rw[HZ.O,hf];rfl
  have Ob:Hid (ER=1):=by show _=_;rw[<-hER.O,hf];rfl
  clear hf;go_wp2;go_ret2;exact ⟨by rw[HE.O,Ob.O];rfl,HB1.O⟩
 | true =>
  have HE:Hid (FT=LX s t v):=by show _=_;rw[HZ.O,hf];rfl
  have Ob:Hid (ER=0):=by show _=_;rw[<-hER.O,hf];rfl
  have fe:=zh hf;clear hf;have HN:=zh (CX.new w1 HB1.O.size);have SC:=zh (zD w1 (.cells #[.pointer none,.slice none 0 0] 57));have HB2:=zh (HB1.O.trans (SC.O.mono HB1.O.size));have N9:=zh (zE Ei SC);have HY2:=zh (zE HY1 SC);go_upto_region 4 with fail
  generalize w1.alloc (.cells #[.pointer none,.slice none 0 0] 57)=W2 at *;generalize w1.heap.size=p8 at *;obtain ⟨v0,v1,v2,v3,v4,v5,v6,v7⟩:=zF HY2;have x0:=zb N9;go_wp2_with fail;refine (HW.O t v A1 c1 A2 c2 A3 c3 w _ w.heap.size p8 ⟨#[]⟩ fe HS HR Kw (AAF _) HB2 HB2.O.size HN ?_).mono ?_
  ·have:=HZ2.O
   rw[HE.O] at this
   show 0+_<=_
   rw[Nat.zero_add];exact this
  rintro e w3 ⟨rfl,h1,h2,_⟩;have nX:Hid (CX w3 w.heap.size p8 FT):=by
   rw[show (⟨#[]⟩:ByteArray)++Ae s (SizeOf.sizeOf v) t v=LX s t v from ByteArray.empty_append,<-HE.O] at h1;exact h1
  have HB3:=zh (HB2.O.trans h2);clear h1 h2 v0 v1 v2 v3 v4 v5 v6 v7 x0;go_wp2_with fail;refine (nX.O.str HB3.O.size).mono ?_;rintro e w4 ⟨rfl,h4⟩;have ED:=zh (HB3.O.trans h4);clear h4;go_wp2;go_ret2;exact ⟨by rw[Ob.O];rfl,ED.O⟩
open Go.ChangeShapes Go.WideShapes Go.ChangeAt Go.RowKit
set_option maxRecDepth 100000
theorem star : "*" ++ "errors.errorString" = "*errors.errorString" := by decide
theorem jD (u : TypeId) (h : prog.typeName? 3 u = some "*errors.errorString") : u = 222 :=
 typeName_ptr_named (nm := "errors.errorString") (by rw [star]; kernel_rfl) (by kernel_rfl) (by decide) u (by rw [star]; exact h)
theorem SX {H:Type} {enc:TypeId×Value->H} {W:World} {cs:List Value} {ps:List MemPlace} {L:List (List UInt8)} {sp:List (DataW H)} {held:Bool} (h:DataW.trod enc prog W 0 (fun _=>true) held n 65 cs=some (.slice (L.map fun b => .lit (.string b)) sp,ps)) (hL:L.length<=1000) (hz:∀b∈L,b.length<=1000):
  ∃ (A:zo) (c:Nat),cs=[.slice A L.length c]/\JK W A (L.map bA):=by
 rcases open_strings underlying65 underlying9 (by kernel_rfl) h with ⟨_,hx⟩|⟨a,len,cap,ss,hcs,_,hlc,_,hss,hx,hc,hmx⟩
 ·have:=congrArg Prod.fst hx
  cases this
 ·have hd:=congrArg Prod.fst hx
  injection hd with hd _
  have hlm:len<=ss.length:=by rw[hss];simp only[if_true];exact hlc
  have hlen:L.length=len:=by
   have:=congrArg List.length hd;simp only[AAt,strs,List.length_take] at this
   omega
  have hg:∀i (hi:i<L.length),bA L[i]=ss.getD i ByteArray.empty:=fun i hi=>by
   have:=congrArg (fun l=>l[i]?) hd
   simp only[strs,List.getElem?_map,List.getElem?_take] at this;rw[zl hi,AAB (by omega),zl (show i<ss.length by omega)] at this
   simp only[Option.map_some,Option.some.injEq,DataW.lit.injEq,Lit.string.injEq] at this;rw[AA1,zl (show i<ss.length by omega),Option.getD_some]
   exact ByteArray.ext (Array.ext' this)
  refine ⟨some a,cap,by rw[hlen];exact hcs,by unfold EF;rw[AAt];omega,fun hne=>?_⟩
  have h0:0<ss.length:=by
   have:0<L.length:=by
    rcases Nat.eq_zero_or_pos L.length with e|e
    ·exact absurd (by rw[AAn e];rfl) hne
    ·exact e
   omega
  have hsp:a.spot=none:=RF (show W.cell? (a.add 0)=some _ from hc 0 h0);obtain ⟨b,o,s⟩:=a;simp only at hsp;subst hsp;refine ⟨b,o,rfl,fun i y hy=>?_⟩
  have hi:i<L.length:=by have:=(AAv.1 hy).1;rwa [AAt] at this
  have hye:y=bA L[i]:=by
   rw[List.getElem?_map,zl hi] at hy;exact (ABW hy).symm
  subst hye;refine ⟨[.string (bA L[i])],⟨?_,rfl⟩,fun j u hj=>?_⟩
  ·have:=hz _ (AAL hi)
   show (bA L[i]).size<=_
   rw[show (bA L[i]).size=L[i].length from List.size_toArray]
   omega
  ·match j,hj with
   | 0,hj =>
    obtain rfl:Value.string (bA L[i])=u:=by simpa using hj
    have:=hc i (by omega)
    rw[<-hg i hi] at this;rw[Addr.add_mid] at this
    simpa using this
   | k+1,hj=>simp at hj
theorem Vn {W : World} (h : laidMetH prog [("math/bits.deBruijn32tab", Rows.laid_math_bits_deBruijn32tab), ("math/bits.deBruijn64tab", Rows.laid_math_bits_deBruijn64tab), ("internal/strconv.uint64pow10", Rows.laid_internal_strconv_uint64pow10), ("strconv.ErrRange", Rows.laid_strconv_ErrRange), ("strconv.ErrSyntax", Rows.laid_strconv_ErrSyntax), ("sheave/lexer.symbols", Rows.laid_sheave_lexer_symbols)] W) : IB W /\ ∃ (A : zo) (c : Nat), Lc W A c := by
 have h0 : laidMet prog [("math/bits.deBruijn32tab", Rows.laid_math_bits_deBruijn32tab), ("math/bits.deBruijn64tab", Rows.laid_math_bits_deBruijn64tab), ("internal/strconv.uint64pow10", Rows.laid_internal_strconv_uint64pow10), ("strconv.ErrRange", Rows.laid_strconv_ErrRange), ("strconv.ErrSyntax", Rows.laid_strconv_ErrSyntax), ("sheave/lexer.symbols", Rows.laid_sheave_lexer_symbols)] W := h
 have h2:=h0.tail.tail;have h3:=h2.tail;have h4:=h3.tail;have h5:=h4.tail;have gR : prog.globalNamed "strconv.ErrRange" = some 6 := by kernel_rfl
 have gS : prog.globalNamed "strconv.ErrSyntax" = some 5 := by kernel_rfl
 have cE:prog.cellsOf 224=1:=by kernel_rfl
 have cS:prog.cellsOf 9=1:=by kernel_rfl
 refine ⟨⟨?_,?_,?_⟩,?_⟩
 ·obtain ⟨ps,⟨g,t,cs,fuel,p,q,hg,ht,hvar,hd,_,_⟩,_⟩:=h2
  have hg1 : prog.globalNamed "internal/strconv.uint64pow10" = some 1 := by kernel_rfl
  have ht1:(prog.globals[1]?).map (·.type)=some 202:=by kernel_rfl
  obtain rfl:=ABW (hg1.symm.trans hg);obtain rfl:=ABW (ht1.symm.trans ht);unfold Lib.TabIs;rw[hvar,<-Lib.cells_of_tab underlying202 underlying179 (by kernel_rfl) (by kernel_rfl) hd]
 ·obtain ⟨a,s,hv,_,_,_⟩:=laid_sentinel h4 gS (by kernel_rfl) underlying61 jD underlying222 underlying224 rfl rfl underlying9 cE cS
  exact ⟨_,_,by have h0:=World.var?_cell gS hv 0;simpa using h0⟩
 ·obtain ⟨a,s,hv,_,_,_⟩:=laid_sentinel h3 gR (by kernel_rfl) underlying61 jD underlying222 underlying224 rfl rfl underlying9 cE cS
  exact ⟨_,_,by have h0:=World.var?_cell gR hv 0;simpa using h0⟩
 ·obtain ⟨ps,⟨g,t,cs,fuel,p,q,hg,ht,hvar,hd,_,_⟩,_⟩:=h5
  have hg1 : prog.globalNamed "sheave/lexer.symbols" = some 0 := by kernel_rfl
  have ht1:(prog.globals[0]?).map (·.type)=some 65:=by kernel_rfl
  obtain rfl:=ABW (hg1.symm.trans hg);obtain rfl:=ABW (ht1.symm.trans ht);obtain ⟨A,c,hcs,hst⟩:=SX (L:=Ao) (sp:=[]) hd (by decide) (by decide)
  refine ⟨A,c,?_,hst⟩;have h0:=World.var?_cell hg1 hvar 0;rw[show cs[0]? = cs.toList[0]? from (Array.getElem?_toList ..).symm,hcs] at h0;exact h0
def Kg (cs:Array Value):Obj->Obj
 | .cells _ t frozen => .cells cs t frozen
 | o=>o
noncomputable def Nn (os:Os):World :=
 let w0:=World.holding prog os ⟨#[.cells #[.string ⟨#[105,110,118,97,108,105,100,32,115,121,110,116,97,120]⟩] 224,.cells #[.string ⟨#[118,97,108,117,101,32,111,117,116,32,111,102,32,114,97,110,103,101]⟩] 224,.cells #[.string ⟨#[45,62]⟩,.string ⟨#[46,46]⟩,.string ⟨#[123]⟩,.string ⟨#[125]⟩,.string ⟨#[40]⟩,.string ⟨#[41]⟩,.string ⟨#[91]⟩,.string ⟨#[93]⟩,.string ⟨#[44]⟩,.string ⟨#[59]⟩,.string ⟨#[58]⟩,.string ⟨#[61]⟩,.string ⟨#[46]⟩,.string ⟨#[33]⟩,.string ⟨#[63]⟩,.string ⟨#[64]⟩,.string ⟨#[42]⟩,.string ⟨#[124]⟩] 9],#[],[]⟩
 { w0 with heap:=(((w0.heap.modify 1 (Kg #[.int .u64 1,.int .u64 10,.int .u64 100,.int .u64 1000,.int .u64 10000,.int .u64 100000,.int .u64 1000000,.int .u64 10000000,.int .u64 100000000,.int .u64 1000000000,.int .u64 10000000000,.int .u64 100000000000,.int .u64 1000000000000,.int .u64 10000000000000,.int .u64 100000000000000,.int .u64 1000000000000000,.int .u64 10000000000000000,.int .u64 100000000000000000,.int .u64 1000000000000000000,.int .u64 10000000000000000000])).modify 3 (Kg #[.int .u8 0,.int .u8 1,.int .u8 28,.int .u8 2,.int .u8 29,.int .u8 14,.int .u8 24,.int .u8 3,.int .u8 30,.int .u8 22,.int .u8 20,.int .u8 15,.int .u8 25,.int .u8 17,.int .u8 4,.int .u8 8,.int .u8 31,.int .u8 27,.int .u8 13,.int .u8 23,.int .u8 21,.int .u8 19,.int .u8 16,.int .u8 7,.int .u8 26,.int .u8 12,.int .u8 18,.int .u8 6,.int .u8 11,.int .u8 5,.int .u8 10,.int .u8 9])).modify 4 (Kg #[.int .u8 0,.int .u8 1,.int .u8 56,.int .u8 2,.int .u8 57,.int .u8 49,.int .u8 28,.int .u8 3,.int .u8 61,.int .u8 58,.int .u8 42,.int .u8 50,.int .u8 38,.int .u8 29,.int .u8 17,.int .u8 4,.int .u8 62,.int .u8 47,.int .u8 59,.int .u8 36,.int .u8 45,.int .u8 43,.int .u8 51,.int .u8 22,.int .u8 53,.int .u8 39,.int .u8 33,.int .u8 30,.int .u8 24,.int .u8 18,.int .u8 12,.int .u8 5,.int .u8 63,.int .u8 55,.int .u8 48,.int .u8 27,.int .u8 60,.int .u8 41,.int .u8 37,.int .u8 16,.int .u8 46,.int .u8 35,.int .u8 44,.int .u8 21,.int .u8 52,.int .u8 32,.int .u8 23,.int .u8 11,.int .u8 54,.int .u8 26,.int .u8 40,.int .u8 15,.int .u8 34,.int .u8 20,.int .u8 31,.int .u8 10,.int .u8 25,.int .u8 14,.int .u8 19,.int .u8 9,.int .u8 13,.int .u8 8,.int .u8 7,.int .u8 6])) |>.modify 5 (Kg #[.iface 222 (.pointer (some ⟨12,0,none⟩))]) |>.modify 6 (Kg #[.iface 222 (.pointer (some ⟨13,0,none⟩))]) |>.modify 0 (Kg #[.slice (some ⟨14,0,none⟩) 18 18]) }
section
variable {W:World}
end
