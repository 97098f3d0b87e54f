/-
  Walks: lexer.token: where no symbol stands in front.
-/
import Derived.Test.YthkkllmmbefedaaGreatDoorQGA5
import Derived.Test.YthkkllmmbefedaaGreatDoorQGA3
import Derived.Test.YthkkllmmbefedaaGreatDoorQGA7
import Derived.Test.YthkkllmmbefedaaGreatDoorShelf
import Derived.BigQuiet
import Derived.Deep.DeepCutAuto
import Derived.Laws.IdiomStrings
import Derived.Lib.AppendIntMem
import Derived.Lib.MinMax
namespace Go.Proofs.YthkkllmmbefedaaGreatDoor
open Go.RowKit
set_option maxHeartbeats 16000000
set_option maxRecDepth 100000
variable {s:ByteArray}
theorem I4 (h:0<s.size):s.data.toList=s[0]::s.data.toList.drop 1:=by
 have h':0<s.data.toList.length:=h;have:=AAv h';rw[List.drop_zero] at this;exact this
variable {n:Nat}
theorem tZ (h:n<s.size):s.data.toList.drop n=s[n]::s.data.toList.drop (n+1):=AAv (l:=s.data.toList) h
theorem bK (h:s.size=0):s=⟨#[]⟩:=by
 obtain ⟨d⟩:=s;have:d.size=0:=h;rw[Array.eq_empty_of_size_eq_zero this]
def Jt (L:List UInt8) (k:Nat) (o:List UInt8):Prop:=Mt (L.drop 1)=(Mt (L.drop k)).map fun p=>(o++p.1,p.2+(k - 1))
variable {L o:List UInt8} {k:Nat}
theorem Jt.end_ (h:Jt L k o) (hk:L.length<=k):Mt (L.drop 1)=none:=by
 unfold Jt at h;rw[AA7 hk,Sv] at h;exact h
variable {r:List UInt8} {c:UInt8}
theorem Jt.bad (h:Jt L k o) (hd:L.drop k=c::r) (hc:c.toNat≠34) (hp:MV (c::r)=none):Mt (L.drop 1)=none:=by
 unfold Jt at h;rw[hd,Lf,Pd hc,hp] at h;exact h
theorem Jt.step (h:Jt L k o) (h1:1<=k) (hd:L.drop k=c::r) (hc:c.toNat≠34) {b:UInt8} (hp:MV (c::r)=some (b,n)):Jt L (k+n) (o++[b]):=by
 unfold Jt at h ⊢;rw[hd,Lf,Pd hc,hp] at h;have hd2:(c::r).drop n=L.drop (k+n):=by rw[<-hd,List.drop_drop]
 simp only at h;rw[hd2] at h;rw[h]
 cases Mt (L.drop (k+n)) with
 | none=>rfl
 | some p =>
  show some (o++b::p.1,p.2+n+(k - 1))=some (o++[b]++p.1,p.2+(k+n - 1))
  rw[AA0,show p.2+n+(k - 1)=p.2+(k+n - 1) by omega];rfl
theorem K5:(s.extract n s.size).data.toList=s.data.toList.drop n:=by
 rw[Lib.extract_data];rw[List.take_of_length_le];rw[AA1];have:s.data.toList.length=s.size:=rfl
 omega
structure Jj (w:World):Prop where
 tab : Lib.TabIs Tryz.prog w "internal/strconv.uint64pow10" .u64 Lib.pow10Tab
 syn:∃t p,w.cell? ⟨5,0,none⟩=some (.iface t p)
 rng:∃t p,w.cell? ⟨6,0,none⟩=some (.iface t p)
variable {w w':World}
theorem Jj.below (h:Jj w) (hb:Below w.heap.size w w'):Jj w':=by
 obtain ⟨t,p,hs⟩:=h.syn;obtain ⟨t',p',hr⟩:=h.rng;exact ⟨Lib.tabBelow_of_tabIs h.tab w' hb,⟨t,p,zA hb hs⟩,⟨t',p',zA hb hr⟩⟩
theorem Tj (n:Int) (hn:In64 n) (w:World) (ht:Jj w) :
  Calls Tryz.prog 55 #[.int .i64 n,.int .i64 10] w fun e w'=>e = .returned (.string (bA (Lib.itoa n)))/\Below w.heap.size w w' :=
 (Tryz.strconv_FormatInt_10 n hn.1 hn.2 w ht.tab).mono fun e w' ⟨he,k,os,hw⟩=>⟨he,by subst hw;exact Lib.below_grow _ _ (AAH _) _ _⟩
def qA (w:World) (T:List UInt8) (e:Ending) (w':World):Prop:=∃ (v n:Int) (ok:Bool),e = .returned (.tuple #[.int .i64 v,.int .i64 n,.bool ok])/\n=(T.length:Int)/\(match Hg T with
 | some x=>ok=true/\v=x
 | none=>ok=false)/\Below w.heap.size w w'
theorem OE:(s.extract 0 n).data.toList=s.data.toList.take n:=by
 rw[Lib.extract_data];simp
theorem Y2 {a:ByteArray} {l:List UInt8}:bA l=a↔l=a.data.toList:=by
 constructor
 ·rintro rfl;rfl
 ·rintro rfl;rfl
theorem Wo (v:Int) {a:ByteArray} {T:List UInt8} (h:a.data.toList=T):match if Lib.itoa v=T then some v else none with
 | some x=>((bA (Lib.itoa v)).toList==a.toList)=true/\v=x
 | none=>((bA (Lib.itoa v)).toList==a.toList)=false:=by
 rw[Lib.toList_data,Lib.toList_data,h]
 by_cases e:Lib.itoa v=T
 ·rw[AAG e]
  exact ⟨by rw[show (bA (Lib.itoa v)).data.toList=Lib.itoa v from rfl,e];simp,rfl⟩
 ·rw[Pd e]
  show (Lib.itoa v==T)=false
  simp[e]
theorem Nt (s:ByteArray) (hs:s.size<=140737488355328) (h1:0<s.size) (w:World) (hE:Jj w):Calls Tryz.prog 118 #[.string s] w (qA w (s.data.toList.take (1+Dx (s.data.toList.drop 1)))):=by
 have FR:=zh hs;have HE:=zh hE;obtain ⟨T,hT⟩:∃T,s.data.toList.take (1+Dx (s.data.toList.drop 1))=T:=⟨_,rfl⟩;rw[hT];have HT:=zh hT;clear hT hE;have hsl:s.data.toList.length=s.size:=rfl;have HAT:Hid (∀k,1<=k->k<=s.size->(∀j (hj:j<s.size),1<=j->j<k->zZ s[j]=true)->(∀h:k<s.size,zZ s[k]=false)->s.data.toList.take k=T):=fun k hk1 hk2 ha hb=>by
  rw[<-HT.out];have:=dK (l:=s.data.toList.drop 1) (n:=k - 1) (by rw[AA1];omega) (fun i hi hik=>by
   rw[List.getElem_drop];exact ha (1+i) (by rw[AA1] at hi;omega) (by omega) (by omega)) (fun h=>by
   rw[List.getElem_drop];have e:1+(k - 1)=k:=by omega
   have h2:k<s.size:=by rw[AA1] at h;omega
   have:=hb h2;simp only[e];exact this)
  rw[this,show 1+(k - 1)=k by omega]
 clear hsl
 go_enter Tryz.func118,Tryz.ntmps118
 go_wp2
 go_loopw [5] (fun i wr=>∃k:Nat,1<=k/\k<=s.size/\i = .int .i64 k/\wr=w/\Hid (∀j (hj:j<s.size),1<=j->j<k->zZ s[j]=true)) (fun i _=>s.size - (intOf i).toNat)
 case atStart=>exact ⟨1,by omega,by omega,rfl,rfl,fun j _ h1 h2=>absurd h1 (by omega)⟩
 case round =>
  obtain ⟨k,hk1,hk2,rfl,rfl,hh⟩:=hrel;have g1:(0:Int)<=(k:Int):=by omega
  by_cases hlt:k<s.size
  ·have g2:(k:Int)<(s.size:Int):=by omega
   cases hd:IV (s[k].toNat:Int) with
   | true =>
    have HD:=zh hd;have HN:Hid (∀j (hj:j<s.size),1<=j->j<k+1->zZ s[j]=true):=fun j hj h1 h2=>by
     by_cases e:j=k
     ·subst e;exact hd
     ·exact hh.out j hj h1 (by omega)
    clear hd hh;go_wp2_with (go_at_call 117;refine (Bf _ _).mono ?_;rintro e w' ⟨rfl,rfl⟩;rw[HD.out]);go_roundw
    case rel=>exact ⟨k+1,by omega,by omega,by go_num,trivial,HN.out⟩
    case measure=>simp[intOf];omega
   | false =>
    have HD:=zh hd;have HK:=zh (HAT.out k hk1 hk2 hh fun _=>hd)
    clear hd hh;go_wp2_with (go_at_call 117;refine (Bf _ _).mono ?_;rintro e w' ⟨rfl,rfl⟩;rw[HD.out]);have HX:Hid ((s.extract 0 k).data.toList=T):=by show _=_;rw[OE];exact HK.out
    have lQ:Hid (T.length=k):=by show _=_;rw[<-HK.out,List.length_take];(have:s.data.toList.length=s.size:=rfl);omega
    have h0:(s.extract 0 k).size=T.length:=by rw[<-HX.out];rfl
    have uO:(s.extract 0 k).size<=140737488355328:=by rw[h0,lQ.out];have:=FR.out;omega
    have rF:=zh uO;clear uO h0
    rcases hp:Lib.parseIntB 64 (s.extract 0 k).data.toList with v|_|_
    ·
     have hvb:=Lib.parseIntB_bounds hp;have e2:(2 ^ (64 - 1):Nat)=9223372036854775808:=by decide
     rw[e2] at hvb;have HV:Hid (In64 v):=⟨by omega,by omega⟩
     have HI:Hid (Hg T=if Lib.itoa v=T then some v else none):=by show _=_;rw[<-HX.out];unfold Hg;rw[hp]
     refine (Tryz.strconv_ParseInt_10_at64_ok _ (by have:=rF.out;omega) v hp _).mono ?_
     rintro e w5 ⟨rfl,uH⟩;have Ap:Hid (Below wr.heap.size wr w5):=by
      show Below _ _ _
      rcases uH with rfl|⟨t,rfl⟩
      ·exact Pe _ _
      ·exact Lib.bytesWorld_below _ _ _
     have HE5:=zh (HE.out.below Ap);clear uH hp hvb e2;go_wp2_with fail;refine wp_region_held_drew (S:=(fun w'=>Hid (Jj w')/\Hid (Below wr.heap.size wr w'))) (by kernel_rfl) ?_ (fun AO=>?_)
     ·(try dsimp only);exact ⟨HE5.out.below (zC (Pe _ _) 1),zC Ap 1⟩
     refine tL 0 ?_;refine tL 1 ?_;refine tL 2 ?_;refine tL 3 ?_;refine tL 4 ?_;refine tL 5 ?_;try simp only[ps]
     refine tL 7 ?_;refine tL 8 ?_;refine tL 9 ?_;refine tR 6 (fun K hK=>?_)
     go_simp
     (refine (Tj v HV _ AO.1.out).mono ?_;rintro e w6 ⟨rfl,hb6⟩;have BN:=zh (zB AO.2.out hb6);have HE6:=zh (AO.1.out.below hb6);clear hb6)
     refine hK.out _ _ ?_ (fun AO=>?_)
     ·(try dsimp only);exact ⟨HE6.out,BN.out⟩
     clear hK K;refine tL 10 ?_;refine tL 11 ?_;try simp only[ps]
     refine tL 12 ?_;refine tL 13 ?_;refine tL 14 ?_;refine wpAnyH_done (by kernel_rfl) ?_ _
     go_wp2
     go_ret3
     refine ⟨_,_,_,rfl,by rw[lQ.out],?_,AO.2.out⟩
     rw[HI.out];exact Wo v HX
    ·
     have HI:Hid (Hg T=none):=by show _=_;rw[<-HX.out];unfold Hg;rw[hp]
     obtain ⟨t,p,hv⟩:=HE.out.syn;refine (Tryz.strconv_ParseInt_10_at64_syntax _ (by have:=rF.out;omega) hp (.iface t p) _ hv (Or.inr ⟨t,p,rfl⟩)).mono ?_
     rintro e w5 ⟨N,rfl,_,_,hb5⟩;have Ap:=zh hb5;clear hp hv hb5;go_wp2_with fail
     go_quiet (fail)
     go_wp2
     go_ret3
     exact ⟨_,_,_,rfl,by rw[lQ.out],by rw[HI.out],zC Ap _⟩
    ·
     have HI:Hid (Hg T=none):=by show _=_;rw[<-HX.out];unfold Hg;rw[hp]
     obtain ⟨t,p,hv⟩:=HE.out.rng;refine (Tryz.strconv_ParseInt_10_at64_range _ (by have:=rF.out;omega) hp (.iface t p) _ hv (Or.inr ⟨t,p,rfl⟩)).mono ?_
     rintro e w5 ⟨N,rfl,_,_,hb5⟩;have Ap:=zh hb5;clear hp hv hb5;go_wp2_with fail
     go_quiet (fail)
     go_wp2
     go_ret3
     exact ⟨_,_,_,rfl,by rw[lQ.out],by rw[HI.out],zC Ap _⟩
  ·have HK:=zh (HAT.out k hk1 hk2 hh fun h=>absurd h hlt)
   have g2:¬ (k:Int)<(s.size:Int):=by omega
   clear hh;go_wp2_with fail;have HX:Hid ((s.extract 0 k).data.toList=T):=by show _=_;rw[OE];exact HK.out
   have lQ:Hid (T.length=k):=by show _=_;rw[<-HK.out,List.length_take];(have:s.data.toList.length=s.size:=rfl);omega
   have h0:(s.extract 0 k).size=T.length:=by rw[<-HX.out];rfl
   have uO:(s.extract 0 k).size<=140737488355328:=by rw[h0,lQ.out];have:=FR.out;omega
   have rF:=zh uO;clear uO h0
   rcases hp:Lib.parseIntB 64 (s.extract 0 k).data.toList with v|_|_
   ·
    have hvb:=Lib.parseIntB_bounds hp;have e2:(2 ^ (64 - 1):Nat)=9223372036854775808:=by decide
    rw[e2] at hvb;have HV:Hid (In64 v):=⟨by omega,by omega⟩
    have HI:Hid (Hg T=if Lib.itoa v=T then some v else none):=by show _=_;rw[<-HX.out];unfold Hg;rw[hp]
    refine (Tryz.strconv_ParseInt_10_at64_ok _ (by have:=rF.out;omega) v hp _).mono ?_
    rintro e w5 ⟨rfl,uH⟩;have Ap:Hid (Below wr.heap.size wr w5):=by
     show Below _ _ _
     rcases uH with rfl|⟨t,rfl⟩
     ·exact Pe _ _
     ·exact Lib.bytesWorld_below _ _ _
    have HE5:=zh (HE.out.below Ap);clear uH hp hvb e2;go_wp2_with fail;refine wp_region_held_drew (S:=(fun w'=>Hid (Jj w')/\Hid (Below wr.heap.size wr w'))) (by kernel_rfl) ?_ (fun AO=>?_)
    ·(try dsimp only);exact ⟨HE5.out.below (zC (Pe _ _) 1),zC Ap 1⟩
    refine tL 0 ?_;refine tL 1 ?_;refine tL 2 ?_;try simp only[ps]
    refine tL 3 ?_;refine tL 4 ?_;refine tL 5 ?_;refine tL 7 ?_;refine tL 8 ?_;refine tL 9 ?_;try simp only[ps]
    refine tR 6 (fun K hK=>?_)
    go_simp
    (refine (Tj v HV _ AO.1.out).mono ?_;rintro e w6 ⟨rfl,hb6⟩;have BN:=zh (zB AO.2.out hb6);have HE6:=zh (AO.1.out.below hb6);clear hb6)
    refine hK.out _ _ ?_ (fun AO=>?_)
    ·(try dsimp only);exact ⟨HE6.out,BN.out⟩
    clear hK K;refine tL 10 ?_;refine tL 11 ?_;refine tL 12 ?_;refine tL 13 ?_;refine tL 14 ?_;try simp only[ps]
    refine wpAnyH_done (by kernel_rfl) ?_ _
    go_wp2
    go_ret3
    refine ⟨_,_,_,rfl,by rw[lQ.out],?_,AO.2.out⟩
    rw[HI.out];exact Wo v HX
   ·
    have HI:Hid (Hg T=none):=by show _=_;rw[<-HX.out];unfold Hg;rw[hp]
    obtain ⟨t,p,hv⟩:=HE.out.syn;refine (Tryz.strconv_ParseInt_10_at64_syntax _ (by have:=rF.out;omega) hp (.iface t p) _ hv (Or.inr ⟨t,p,rfl⟩)).mono ?_
    rintro e w5 ⟨N,rfl,_,_,hb5⟩;have Ap:=zh hb5;clear hp hv hb5;go_wp2_with fail
    go_quiet (fail)
    go_wp2
    go_ret3
    exact ⟨_,_,_,rfl,by rw[lQ.out],by rw[HI.out],zC Ap _⟩
   ·
    have HI:Hid (Hg T=none):=by show _=_;rw[<-HX.out];unfold Hg;rw[hp]
    obtain ⟨t,p,hv⟩:=HE.out.rng;refine (Tryz.strconv_ParseInt_10_at64_range _ (by have:=rF.out;omega) hp (.iface t p) _ hv (Or.inr ⟨t,p,rfl⟩)).mono ?_
    rintro e w5 ⟨N,rfl,_,_,hb5⟩;have Ap:=zh hb5;clear hp hv hb5;go_wp2_with fail
    go_quiet (fail)
    go_wp2
    go_ret3
    exact ⟨_,_,_,rfl,by rw[lQ.out],by rw[HI.out],zC Ap _⟩
def lM {α:Type} (p:α->Bool) (l:List α) (i:Int):Prop:=(i = -1/\∀j (h:j<l.length),p l[j]=false)\/∃ (k:Nat) (h:k<l.length),i=(k:Int)/\p l[k]=true/\∀j (hj:j<l.length),j<k->p l[j]=false
def preB (s x:ByteArray):Bool:=Lib.hasPrefix s.data.toList x.data.toList
theorem SK (s:ByteArray) (q:Nat) (x:ByteArray) (w:World) (hq:w.cell? ⟨q,0,none⟩=some (.string s)) :
  Calls Tryz.prog 121 #[.string x,.pointer (some ⟨q,0,none⟩)] w fun e w'=>e = .returned (.bool (preB s x))/\Below w.heap.size w w':=by
 have hlt:=zL hq;simp only at hlt;have HP:Hid (Lib.hasPrefix s.data.toList x.data.toList=preB s x):=rfl
 go_enter Tryz.func121,Tryz.ntmps121
 go_wp2_with (go_at_call 75;refine (Tryz.strings_HasPrefix s x _).mono ?_;rintro e w' ⟨rfl,rfl⟩;rw[HP.out])
 go_ret
 exact ⟨rfl,Pe _ _⟩
theorem Fu (s:ByteArray) (q:Nat) (l:List ByteArray) (A:zo) (c:Nat) (w:World) (hl:LF w A l) (hq:w.cell? ⟨q,0,none⟩=some (.string s)) :
  Calls Tryz.prog 120 #[.slice A l.length c,.func (.func 121) #[] #[.pointer (some ⟨q,0,none⟩)]] w fun e w'=>∃i,e = .returned (.int .i64 i)/\lM (preB s) l i/\Below w.heap.size w w':=by
 have hln:=hl.1;unfold DU at hln;have HL:=zh hl;have HQ:=zh hq;clear hl hq
 go_enter Tryz.func120,Tryz.ntmps120
 go_wp2
 go_loopw [8] (fun i wr=>∃k:Nat,k<=l.length/\i = .int .i64 (k:Int)/\Hid ((∀j (h:j<l.length),j<k->preB s l[j]=false)/\Below w.heap.size w wr)) (fun i _=>l.length - (intOf i).toNat)
 case atStart=>exact ⟨0,by omega,rfl,(fun j _ h=>absurd h (by omega)),Pe _ _⟩
 case round =>
  obtain ⟨k,hk,rfl,hh⟩:=hrel
  by_cases hlt:k<l.length
  ·obtain ⟨b,o,rfl,hr1,a0⟩:=(HL.out.below hh.out.2).UD hlt
   clear hr1;have h1:(0:Int)<=(k:Int):=by omega
   have h2:(k:Int)<(l.length:Int):=by omega
   cases he:preB s l[k] with
   | true =>
    have HD:=zh he;have HI:Hid (lM (preB s) l (k:Int)):=Or.inr ⟨k,hlt,rfl,he,hh.out.1⟩;clear he;go_wp2_with (go_at_call 121;refine (SK s q l[k] _ (zA hh.out.2 HQ)).mono ?_;rintro e w2 ⟨rfl,hb2⟩;rw[HD.out]);go_ret;exact ⟨_,rfl,HI.out,zB hh.out.2 hb2⟩
   | false =>
    have HD:=zh he;have HN:Hid (∀j (h:j<l.length),j<k+1->preB s l[j]=false):=fun j h hj=>by
     by_cases e:j=k
     ·subst e;exact he
     ·exact hh.out.1 j h (by omega)
    clear he;go_wp2_with (go_at_call 121;refine (SK s q l[k] _ (zA hh.out.2 HQ)).mono ?_;rintro e w2 ⟨rfl,hb2⟩;rw[HD.out]);go_roundw
    case rel=>exact ⟨k+1,by omega,by go_num,HN.out,zB hh.out.2 hb2⟩
    case measure=>simp[intOf];omega
  ·have HI:Hid (lM (preB s) l (-1)):=Or.inl ⟨rfl,fun j h=>hh.out.1 j h (by omega)⟩
   go_wp2
   go_ret
   exact ⟨_,rfl,HI.out,hh.out.2⟩
theorem Nv {g:Nat} {o:Obj} (h:w.heap[g]? = some o) (hb:Below w.heap.size w w'):w'.heap[g]? = some o:=(hb.block _ (zg.1 h).1).trans h
def EG (w:World) (L:List UInt8) (e:Ending) (w':World):Prop:=∃ (u:AQ) (n:Int) (ok:Bool),e = .returned (.tuple #[.agg (VZ u).toArray,.int .i64 n,.bool ok])/\(match EK L with
 | some p=>ok=true/\u=p.1/\n=(p.2:Int)
 | none=>ok=false)/\Below w.heap.size w w'
variable {ok:Bool}
theorem Qg {u:AQ} (h:EK L=some (u,k)) (hb:Below w.heap.size w w') {cs:Array Value} {n:Int} (hc:cs=(VZ u).toArray) (hn:n=(k:Int)) (hk:ok=true):EG w L (.returned (.tuple #[.agg cs,.int .i64 n,.bool ok])) w' :=
 ⟨u,n,ok,by rw[hc],by rw[h];exact ⟨hk,rfl,hn⟩,hb⟩
theorem Kb (h:EK L=none) (hb:Below w.heap.size w w') (u:AQ) {cs:Array Value} {n:Int} (hc:cs=(VZ u).toArray) (hk:ok=false):EG w L (.returned (.tuple #[.agg cs,.int .i64 n,.bool ok])) w' :=
 ⟨u,n,ok,by rw[hc],by rw[h];exact hk,hb⟩
theorem R7 (hL:s.data.toList=L) (h0:L=c::r) (hc:IU (c.toNat:Int)=true) (hk:Fq L=k) (hb:Below w.heap.size w w'):
  EG w L (.returned (.tuple #[.agg #[.int .i64 1,.string (s.extract 0 k),.int .i64 0,.string ⟨#[]⟩,.int .i64 0],.int .i64 k,.bool (decide ((k:Int)<=24))])) w':=by
 have e:bA (L.take k)=s.extract 0 k:=Y2.2 (by rw[OE,hL])
 have ht:EK L=if k<=24 then some (⟨1,bA (L.take k),0,⟨#[]⟩,0⟩,k) else none:=by
  rw[<-hk];subst h0;rw[EK,AAG (show CP c=true from hc)]
 by_cases h:k<=24
 ·rw[AAG h] at ht
  exact Qg ht hb (by rw[e];rfl) rfl (AAX (by omega))
 ·rw[Pd h] at ht
  exact Kb ht hb ⟨1,s.extract 0 k,0,⟨#[]⟩,0⟩ rfl (AAU (by omega))
theorem Zw (s:ByteArray) (hs:s.size<=140737488355328) (h1:0<s.size) (hl:IU (s[0].toNat:Int)=true) (w:World):Calls Tryz.prog 77 #[.string s] w (EG w s.data.toList):=by
 have FR:=zh hs;have HL:=zh hl;have Mj:=zh (I4 h1);obtain ⟨L,hL⟩:∃L,s.data.toList=L:=⟨_,rfl⟩;have Oh:=zh hL;rw[hL];rw[hL] at Mj;have HAT:Hid (∀k,1<=k->k<=s.size->(∀j (hj:j<s.size),j<k->gI s[j]=true)->(∀h:k<s.size,gI s[k]=false)->Fq L=k):=fun k hk1 hk2 ha hb=>by
  refine bM (by rw[<-Oh.out];exact hk2) (fun i hi hik=>?_) fun h=>?_
  ·have h2:i<s.size:=by rw[<-Oh.out] at hi;exact hi
   have:=ha i h2 hik;have e:L[i]=s[i]:=by simp only[<-Oh.out];rfl
   rw[e];exact this
  ·have h2:k<s.size:=by rw[<-Oh.out] at h;exact h
   have:=hb h2;have e:L[k]=s[k]:=by simp only[<-Oh.out];rfl
   rw[e];exact this
 clear hL hl;obtain ⟨HB1,HX0,Ei⟩:=zy w (.cells #[.string s] 9) (.cells #[.int .i64 0,.string ⟨#[]⟩,.int .i64 0,.string ⟨#[]⟩,.int .i64 0] 59)
 go_enter Tryz.func77,Tryz.ntmps77
 go_upto_region 1 with fail
 generalize (w.alloc (.cells #[.string s] 9)).alloc (.cells #[.int .i64 0,.string ⟨#[]⟩,.int .i64 0,.string ⟨#[]⟩,.int .i64 0] 59)=W1 at *;have x0:W1.cell? ⟨w.heap.size,0,none⟩=some (.string s):=by rw[AAE _ _ _ _ _ _ HX0.out];rfl
 go_wp2_with (go_at_call 116;refine (yI _ _).mono ?_;rintro e w' ⟨rfl,rfl⟩;rw[HL.out])
 have AAb:=zh x0;clear x0
 go_loopw [5] (fun i wr=>∃k:Nat,1<=k/\k<=s.size/\i = .int .i64 k/\Hid (wr=W1/\∀j (hj:j<s.size),j<k->gI s[j]=true)) (fun i _=>s.size - (intOf i).toNat)
 case atStart=>exact ⟨1,by omega,by omega,rfl,rfl,fun j hj h=>by
  obtain rfl:j=0:=by omega
  unfold gI;rw[HL.out];rfl⟩
 case round =>
  obtain ⟨k,hk1,hk2,rfl,hh⟩:=hrel;obtain ⟨hw,hcc⟩:=hh.out;have HC:=zh hcc;clear hh hcc;subst hw;have x0:=AAb.out;have g1:(0:Int)<=(k:Int):=by omega
  by_cases hlt:k<s.size
  ·have g2:(k:Int)<(s.size:Int):=by omega
   cases hd:IU (s[k].toNat:Int) with
   | true =>
    have HD:=zh hd;have HN:Hid (∀j (hj:j<s.size),j<k+1->gI s[j]=true):=fun j hj h2=>by
     by_cases e:j=k
     ·subst e;unfold gI;rw[hd];rfl
     ·exact HC.out j hj (by omega)
    clear hd;go_wp2_with (go_at_call 116;refine (yI _ _).mono ?_;rintro e w' ⟨rfl,rfl⟩;rw[HD.out]);go_roundw
    case rel=>exact ⟨k+1,by omega,by omega,by go_num,trivial,HN.out⟩
    case measure=>simp[intOf];omega
   | false =>
    have HD:=zh hd;clear hd
    cases hd2:IV (s[k].toNat:Int) with
    | true =>
     have HD2:=zh hd2;have HN:Hid (∀j (hj:j<s.size),j<k+1->gI s[j]=true):=fun j hj h2=>by
      by_cases e:j=k
      ·subst e;unfold gI;rw[HD.out,hd2];rfl
      ·exact HC.out j hj (by omega)
     clear hd2;go_wp2_with (first|(go_at_call 116;refine (yI _ _).mono ?_;rintro e w' ⟨rfl,rfl⟩;rw[HD.out])|(go_at_call 117;refine (Bf _ _).mono ?_;rintro e w' ⟨rfl,rfl⟩;rw[HD2.out]));go_roundw
     case rel=>exact ⟨k+1,by omega,by omega,by go_num,trivial,HN.out⟩
     case measure=>simp[intOf];omega
    | false =>
     have HD2:=zh hd2;have t0:wr.cell? ⟨w.heap.size+1,0,none⟩=some (.int .i64 0):=by rw[AAE _ _ _ _ _ _ Ei.out];rfl
     have t1:wr.cell? ⟨w.heap.size+1,1,none⟩=some (.string ⟨#[]⟩):=by rw[AAE _ _ _ _ _ _ Ei.out];rfl
     have t2:wr.cell? ⟨w.heap.size+1,2,none⟩=some (.int .i64 0):=by rw[AAE _ _ _ _ _ _ Ei.out];rfl
     have t3:wr.cell? ⟨w.heap.size+1,3,none⟩=some (.string ⟨#[]⟩):=by rw[AAE _ _ _ _ _ _ Ei.out];rfl
     have t4:wr.cell? ⟨w.heap.size+1,4,none⟩=some (.int .i64 0):=by rw[AAE _ _ _ _ _ _ Ei.out];rfl
     have f0:=AAL _ _ 0 _ _ Ei;have f1:=AAL _ _ 1 _ _ Ei;have f2:=AAL _ _ 2 _ _ Ei;have f3:=AAL _ _ 3 _ _ Ei;have f4:=AAL _ _ 4 _ _ Ei;have HK:=zh (HAT.out k hk1 hk2 HC fun _=>by unfold gI;rw[HD.out,hd2];rfl)
     clear hd2;go_wp2_with (first|(go_at_call 116;refine (yI _ _).mono ?_;rintro e w' ⟨rfl,rfl⟩;rw[HD.out])|(go_at_call 117;refine (Bf _ _).mono ?_;rintro e w' ⟨rfl,rfl⟩;rw[HD2.out]))
     refine bodyPost_ret (v := .tuple #[.agg #[.int .i64 1,.string (s.extract 0 k),.int .i64 0,.string ⟨#[]⟩,.int .i64 0],.int .i64 k,.bool (decide ((k:Int)<=24))]) (by simp[results,Tryz.results77,go_sem,t0,t1,t2,t3,t4]) rfl ?_
     exact R7 Oh Mj HL HK (((((HB1.out.setCell (p:=⟨w.heap.size+1,0,none⟩) (by simp) _).setCell (p:=⟨w.heap.size+1,1,none⟩) (by simp) _).setCell (p:=⟨w.heap.size+1,2,none⟩) (by simp) _).setCell (p:=⟨w.heap.size+1,3,none⟩) (by simp) _).setCell (p:=⟨w.heap.size+1,4,none⟩) (by simp) _)
  ·have HK:=zh (HAT.out k hk1 hk2 HC fun h=>absurd h hlt)
   have g2:¬ (k:Int)<(s.size:Int):=by omega
   have t0:wr.cell? ⟨w.heap.size+1,0,none⟩=some (.int .i64 0):=by rw[AAE _ _ _ _ _ _ Ei.out];rfl
   have t1:wr.cell? ⟨w.heap.size+1,1,none⟩=some (.string ⟨#[]⟩):=by rw[AAE _ _ _ _ _ _ Ei.out];rfl
   have t2:wr.cell? ⟨w.heap.size+1,2,none⟩=some (.int .i64 0):=by rw[AAE _ _ _ _ _ _ Ei.out];rfl
   have t3:wr.cell? ⟨w.heap.size+1,3,none⟩=some (.string ⟨#[]⟩):=by rw[AAE _ _ _ _ _ _ Ei.out];rfl
   have t4:wr.cell? ⟨w.heap.size+1,4,none⟩=some (.int .i64 0):=by rw[AAE _ _ _ _ _ _ Ei.out];rfl
   have f0:=AAL _ _ 0 _ _ Ei;have f1:=AAL _ _ 1 _ _ Ei;have f2:=AAL _ _ 2 _ _ Ei;have f3:=AAL _ _ 3 _ _ Ei;have f4:=AAL _ _ 4 _ _ Ei;go_wp2
   refine bodyPost_ret (v := .tuple #[.agg #[.int .i64 1,.string (s.extract 0 k),.int .i64 0,.string ⟨#[]⟩,.int .i64 0],.int .i64 k,.bool (decide ((k:Int)<=24))]) (by simp[results,Tryz.results77,go_sem,t0,t1,t2,t3,t4]) rfl ?_
   exact R7 Oh Mj HL HK (((((HB1.out.setCell (p:=⟨w.heap.size+1,0,none⟩) (by simp) _).setCell (p:=⟨w.heap.size+1,1,none⟩) (by simp) _).setCell (p:=⟨w.heap.size+1,2,none⟩) (by simp) _).setCell (p:=⟨w.heap.size+1,3,none⟩) (by simp) _).setCell (p:=⟨w.heap.size+1,4,none⟩) (by simp) _)
theorem Wn (h0:L=c::r) (hl:CP c=false) (hd:(zZ c||(decide (c.toNat=45)&&zZ (r.headD 0)))=true) (hb:Below w.heap.size w w') {v n:Int} (hn:n=((L.take (1+Dx (L.drop 1))).length:Int)) (hi:match Hg (L.take (1+Dx (L.drop 1))) with
 | some x=>ok=true/\v=x
 | none=>ok=false):EG w L (.returned (.tuple #[.agg #[.int .i64 2,.string ⟨#[]⟩,.int .i64 v,.string ⟨#[]⟩,.int .i64 0],.int .i64 n,.bool ok])) w':=by
 subst h0;have hk:=LA r;have ht:EK (c::r)=(Hg ((c::r).take (1+Dx r))).map fun v=>(⟨2,⟨#[]⟩,v,⟨#[]⟩,0⟩,1+Dx r):=by
  rw[EK,Pd (by rw[hl];simp),AAG hd]
 rw[List.drop_one,List.tail_cons] at hn hi;have hlen:((c::r).take (1+Dx r)).length=1+Dx r:=by rw[List.length_take,AAS];omega
 rw[hlen] at hn
 cases hx:Hg ((c::r).take (1+Dx r)) with
 | none =>
  rw[hx] at hi ht;exact Kb ht hb ⟨2,⟨#[]⟩,v,⟨#[]⟩,0⟩ rfl hi
 | some x =>
  rw[hx] at hi ht;obtain ⟨h1,rfl⟩:=hi;exact Qg ht hb rfl hn h1
theorem iN (s:ByteArray) (hs:s.size<=140737488355328) (h1:0<s.size) (hl:CP s[0]=false) (hd:zZ s[0]=true) (w:World) (hE:Jj w):Calls Tryz.prog 77 #[.string s] w (EG w s.data.toList):=by
 have HDG:Hid ((zZ s[0]||(decide (s[0].toNat=45)&&zZ ((s.data.toList.drop 1).headD 0)))=true):=by show _=_;rw[hd];rfl
 have HD:Hid (IV (s[0].toNat:Int)=true):=hd;have hl':IU (s[0].toNat:Int)=false:=hl;have Mk:=zh (hE.below (zI w (.cells #[.string s] 9) (.cells #[.int .i64 0,.string ⟨#[]⟩,.int .i64 0,.string ⟨#[]⟩,.int .i64 0] 59)));clear hd hE;have FR:=zh hs;have Vu:Hid (IU (s[0].toNat:Int)=false):=hl'
 obtain ⟨HB1,HX0,Ei⟩:=zy w (.cells #[.string s] 9) (.cells #[.int .i64 0,.string ⟨#[]⟩,.int .i64 0,.string ⟨#[]⟩,.int .i64 0] 59);clear hl hl'
 go_enter Tryz.func77,Tryz.ntmps77
 go_upto_region 1 with fail
 generalize (w.alloc (.cells #[.string s] 9)).alloc (.cells #[.int .i64 0,.string ⟨#[]⟩,.int .i64 0,.string ⟨#[]⟩,.int .i64 0] 59)=W1 at *;have x0:W1.cell? ⟨w.heap.size,0,none⟩=some (.string s):=by rw[AAE _ _ _ _ _ _ HX0.out];rfl
 go_wp2_with (first|(go_at_call 116;refine (yI _ _).mono ?_;rintro e w' ⟨rfl,rfl⟩;rw[Vu.out])|(go_at_call 117;refine (Bf _ _).mono ?_;rintro e w' ⟨rfl,rfl⟩;rw[HD.out]))
 refine (Nt s FR h1 W1 Mk).mono ?_;rintro e w5 ⟨v,n,ok,rfl,hn,hi,hb⟩;have Bg:=zh (Nv Ei hb);have Ap:=zh (zB HB1 hb);have HF:=zh (fun w' (h:Below w.heap.size w w')=>Wn (w:=w) (w':=w') (I4 h1) Vu HDG h hn hi)
 clear hb hn hi x0;have t0:w5.cell? ⟨w.heap.size+1,0,none⟩=some (.int .i64 0):=by rw[AAE _ _ _ _ _ _ Bg.out];rfl
 have t1:w5.cell? ⟨w.heap.size+1,1,none⟩=some (.string ⟨#[]⟩):=by rw[AAE _ _ _ _ _ _ Bg.out];rfl
 have t2:w5.cell? ⟨w.heap.size+1,2,none⟩=some (.int .i64 0):=by rw[AAE _ _ _ _ _ _ Bg.out];rfl
 have t3:w5.cell? ⟨w.heap.size+1,3,none⟩=some (.string ⟨#[]⟩):=by rw[AAE _ _ _ _ _ _ Bg.out];rfl
 have t4:w5.cell? ⟨w.heap.size+1,4,none⟩=some (.int .i64 0):=by rw[AAE _ _ _ _ _ _ Bg.out];rfl
 have f0:=AAL _ _ 0 _ _ Bg;have f1:=AAL _ _ 1 _ _ Bg;have f2:=AAL _ _ 2 _ _ Bg;have f3:=AAL _ _ 3 _ _ Bg;have f4:=AAL _ _ 4 _ _ Bg;go_wp2
 refine bodyPost_ret (v := .tuple #[.agg #[.int .i64 2,.string ⟨#[]⟩,.int .i64 v,.string ⟨#[]⟩,.int .i64 0],.int .i64 n,.bool ok]) (by simp[results,Tryz.results77,go_sem,t0,t1,t2,t3,t4]) rfl ?_
 exact HF.out _ (((((Ap.out.setCell (p:=⟨w.heap.size+1,0,none⟩) (by simp) _).setCell (p:=⟨w.heap.size+1,1,none⟩) (by simp) _).setCell (p:=⟨w.heap.size+1,2,none⟩) (by simp) _).setCell (p:=⟨w.heap.size+1,3,none⟩) (by simp) _).setCell (p:=⟨w.heap.size+1,4,none⟩) (by simp) _)
theorem Nh (h:1<s.size):(s.data.toList.drop 1).headD 0=s[1]:=by rw[tZ h];rfl
theorem iM (s:ByteArray) (hs:s.size<=140737488355328) (h2:1<s.size) (h1:0<s.size) (hc:s[0].toNat=45) (hd:zZ s[1]=true) (w:World) (hE:Jj w):Calls Tryz.prog 77 #[.string s] w (EG w s.data.toList):=by
 have hl:IU (s[0].toNat:Int)=false:=by rw[hc];decide
 have HDG:Hid ((zZ s[0]||(decide (s[0].toNat=45)&&zZ ((s.data.toList.drop 1).headD 0)))=true):=by show _=_;rw[Nh h2,hd,hc];simp
 have HD:Hid (IV (s[0].toNat:Int)=false):=by show _=_;rw[hc];decide
 have HD1:Hid (IV (s[1].toNat:Int)=true):=hd;have q1:((s[0].toNat:Int)==45)=true:=by rw[hc];decide
 have i1:(1:Int)<(s.size:Int):=by omega
 have Mk:=zh (hE.below (zI w (.cells #[.string s] 9) (.cells #[.int .i64 0,.string ⟨#[]⟩,.int .i64 0,.string ⟨#[]⟩,.int .i64 0] 59)));clear hd hE hc;have FR:=zh hs;have Vu:=zh hl;obtain ⟨HB1,HX0,Ei⟩:=zy w (.cells #[.string s] 9) (.cells #[.int .i64 0,.string ⟨#[]⟩,.int .i64 0,.string ⟨#[]⟩,.int .i64 0] 59);clear hl
 go_enter Tryz.func77,Tryz.ntmps77
 go_upto_region 1 with fail
 generalize (w.alloc (.cells #[.string s] 9)).alloc (.cells #[.int .i64 0,.string ⟨#[]⟩,.int .i64 0,.string ⟨#[]⟩,.int .i64 0] 59)=W1 at *;have x0:W1.cell? ⟨w.heap.size,0,none⟩=some (.string s):=by rw[AAE _ _ _ _ _ _ HX0.out];rfl
 go_wp2_with (first|(go_at_call 116;refine (yI _ _).mono ?_;rintro e w' ⟨rfl,rfl⟩;rw[Vu.out])|(go_at_call 117;refine (Bf _ _).mono ?_;rintro e w' ⟨rfl,rfl⟩;first|rw[HD.out]|rw[HD1.out]))
 refine (Nt s FR h1 W1 Mk).mono ?_;rintro e w5 ⟨v,n,ok,rfl,hn,hi,hb⟩;have Bg:=zh (Nv Ei hb);have Ap:=zh (zB HB1 hb);have HF:=zh (fun w' (h:Below w.heap.size w w')=>Wn (w:=w) (w':=w') (I4 h1) Vu HDG h hn hi)
 clear hb hn hi x0 q1;have t0:w5.cell? ⟨w.heap.size+1,0,none⟩=some (.int .i64 0):=by rw[AAE _ _ _ _ _ _ Bg.out];rfl
 have t1:w5.cell? ⟨w.heap.size+1,1,none⟩=some (.string ⟨#[]⟩):=by rw[AAE _ _ _ _ _ _ Bg.out];rfl
 have t2:w5.cell? ⟨w.heap.size+1,2,none⟩=some (.int .i64 0):=by rw[AAE _ _ _ _ _ _ Bg.out];rfl
 have t3:w5.cell? ⟨w.heap.size+1,3,none⟩=some (.string ⟨#[]⟩):=by rw[AAE _ _ _ _ _ _ Bg.out];rfl
 have t4:w5.cell? ⟨w.heap.size+1,4,none⟩=some (.int .i64 0):=by rw[AAE _ _ _ _ _ _ Bg.out];rfl
 have f0:=AAL _ _ 0 _ _ Bg;have f1:=AAL _ _ 1 _ _ Bg;have f2:=AAL _ _ 2 _ _ Bg;have f3:=AAL _ _ 3 _ _ Bg;have f4:=AAL _ _ 4 _ _ Bg;go_wp2
 refine bodyPost_ret (v := .tuple #[.agg #[.int .i64 2,.string ⟨#[]⟩,.int .i64 v,.string ⟨#[]⟩,.int .i64 0],.int .i64 n,.bool ok]) (by simp[results,Tryz.results77,go_sem,t0,t1,t2,t3,t4]) rfl ?_
 exact HF.out _ (((((Ap.out.setCell (p:=⟨w.heap.size+1,0,none⟩) (by simp) _).setCell (p:=⟨w.heap.size+1,1,none⟩) (by simp) _).setCell (p:=⟨w.heap.size+1,2,none⟩) (by simp) _).setCell (p:=⟨w.heap.size+1,3,none⟩) (by simp) _).setCell (p:=⟨w.heap.size+1,4,none⟩) (by simp) _)
def Cz:List ByteArray:=BO.map bA
structure J8 (w:World) (A:zo) (c:Nat):Prop where
 cell:w.cell? ⟨0,0,none⟩=some (.slice A 18 c)
 rows:LF w A Cz
variable {A:zo}
theorem J8.below {c:Nat} (h:J8 w A c) (hb:Below w.heap.size w w'):J8 w' A c:=⟨zA hb h.cell,h.rows.below hb⟩
theorem Wd {x:ByteArray}:preB s x=true↔x.data.toList <+: s.data.toList:=by
 unfold preB Lib.hasPrefix;exact List.isPrefixOf_iff_prefix
theorem Kw {i:Int} (h:lM (preB s) Cz i):(i = -1/\FM s.data.toList=none)\/∃ (k:Nat) (hk:k<BO.length),i=(k:Int)/\FM s.data.toList=some BO[k].length/\s.data.toList.take BO[k].length=BO[k]:=by
 have hl:Cz.length=BO.length:=AAZ ..;have hg:∀j (hj:j<BO.length),(Cz[j]'(by rw[hl];exact hj)).data.toList=BO[j]:=fun j hj=>by
  simp only[Cz,List.getElem_map];rfl
 have hno:∀j (hj:j<BO.length),preB s (Cz[j]'(by rw[hl];exact hj))=false->¬ BO[j] <+: s.data.toList:=fun j hj h hp=>by
  rw[<-hg j hj] at hp;rw[Wd.2 hp] at h;cases h
 rcases h with ⟨h1,h2⟩|⟨k,hk,h1,h2,h3⟩
 ·exact Or.inl ⟨h1,aA fun j hj=>hno j hj (h2 j (by rw[hl];exact hj))⟩
 ·have hk':k<BO.length:=by rw[<-hl];exact hk
  have hp:=Wd.1 h2;rw[hg k hk'] at hp;have:=Xm hk' hp fun j hj=>hno j (Nat.lt_trans hj hk') (h3 j (by rw[hl];omega) hj)
  exact Or.inr ⟨k,hk',h1,this.1,this.2⟩
theorem Nb (h0:s.data.toList=c::r) (hl:CP c=false) (hd:zZ c=false) (hn:(decide (c.toNat=45)&&zZ (r.headD 0))=false) (hc:c.toNat≠34):EK s.data.toList=(FM s.data.toList).map fun n=>(⟨4,bA (s.data.toList.take n),0,⟨#[]⟩,0⟩,n):=by
 rw[h0,EK,hl,Pd (by simp),hd,hn,Bool.false_or,Pd (by simp),Pd hc]
theorem iL (s:ByteArray) (hs:s.size<=140737488355328) (h1:0<s.size) (h45:s[0].toNat≠45) (hl0:CP s[0]=false) (hd0:zZ s[0]=false) (hc:s[0].toNat≠34) (hsy:FM s.data.toList=none) (w:World) {c:Nat} (hE:J8 w A c):Calls Tryz.prog 77 #[.string s] w (EG w s.data.toList):=by
 have NS:Hid (EK s.data.toList=none):=by
  show _=_
  rw[Nb (I4 h1) hl0 hd0 (by simp[h45]) hc,hsy];rfl
 have hl:IU (s[0].toNat:Int)=false:=hl0;have HD:Hid (IV (s[0].toNat:Int)=false):=hd0;have q2:((s[0].toNat:Int)==34)=false:=by simp;omega
 have q1:((s[0].toNat:Int)==45)=false:=by simp;omega
 have HD1:=HD;clear h45;have ZT:=zh hsy;have Mk:=zh (hE.below (zI w (.cells #[.string s] 9) (.cells #[.int .i64 0,.string ⟨#[]⟩,.int .i64 0,.string ⟨#[]⟩,.int .i64 0] 59)));clear hE hl0 hd0 hsy hc;have FR:=zh hs;have Vu:=zh hl;obtain ⟨HB1,HX0,Ei⟩:=zy w (.cells #[.string s] 9) (.cells #[.int .i64 0,.string ⟨#[]⟩,.int .i64 0,.string ⟨#[]⟩,.int .i64 0] 59);clear hl
 go_enter Tryz.func77,Tryz.ntmps77
 go_upto_region 1 with fail
 generalize (w.alloc (.cells #[.string s] 9)).alloc (.cells #[.int .i64 0,.string ⟨#[]⟩,.int .i64 0,.string ⟨#[]⟩,.int .i64 0] 59)=W1 at *;have x0:W1.cell? ⟨w.heap.size,0,none⟩=some (.string s):=by rw[AAE _ _ _ _ _ _ HX0.out];rfl
 have y0:=Mk.out.cell;have Rh:=zh x0;go_wp2_with (first|(go_at_call 116;refine (yI _ _).mono ?_;rintro e w' ⟨rfl,rfl⟩;rw[Vu.out])|(go_at_call 117;refine (Bf _ _).mono ?_;rintro e w' ⟨rfl,rfl⟩;first|rw[HD.out]|rw[HD1.out]));refine (Fu s w.heap.size Cz A c W1 Mk.out.rows Rh).mono ?_;rintro e w5 ⟨i,rfl,hi,hb⟩;have hm:i = -1:=by
  rcases Kw hi with ⟨h,_⟩|⟨k,hk,_,h,_⟩
  ·exact h
  ·rw[ZT.out] at h;cases h
 subst hm;have Bg:=zh (Nv Ei hb);have Ap:=zh (zB HB1 hb);clear hb hi x0 y0;have t0:w5.cell? ⟨w.heap.size+1,0,none⟩=some (.int .i64 0):=by rw[AAE _ _ _ _ _ _ Bg.out];rfl
 have t1:w5.cell? ⟨w.heap.size+1,1,none⟩=some (.string ⟨#[]⟩):=by rw[AAE _ _ _ _ _ _ Bg.out];rfl
 have t2:w5.cell? ⟨w.heap.size+1,2,none⟩=some (.int .i64 0):=by rw[AAE _ _ _ _ _ _ Bg.out];rfl
 have t3:w5.cell? ⟨w.heap.size+1,3,none⟩=some (.string ⟨#[]⟩):=by rw[AAE _ _ _ _ _ _ Bg.out];rfl
 have t4:w5.cell? ⟨w.heap.size+1,4,none⟩=some (.int .i64 0):=by rw[AAE _ _ _ _ _ _ Bg.out];rfl
 have f0:=AAL _ _ 0 _ _ Bg;have f1:=AAL _ _ 1 _ _ Bg;have f2:=AAL _ _ 2 _ _ Bg;have f3:=AAL _ _ 3 _ _ Bg;have f4:=AAL _ _ 4 _ _ Bg;go_wp2
 refine bodyPost_ret (v := .tuple #[.agg #[.int .i64 0,.string ⟨#[]⟩,.int .i64 0,.string ⟨#[]⟩,.int .i64 0],.int .i64 0,.bool false]) (by simp[results,Tryz.results77,go_sem,t0,t1,t2,t3,t4]) rfl ?_
 exact Kb NS (((((Ap.out.setCell (p:=⟨w.heap.size+1,0,none⟩) (by simp) _).setCell (p:=⟨w.heap.size+1,1,none⟩) (by simp) _).setCell (p:=⟨w.heap.size+1,2,none⟩) (by simp) _).setCell (p:=⟨w.heap.size+1,3,none⟩) (by simp) _).setCell (p:=⟨w.heap.size+1,4,none⟩) (by simp) _) ⟨0,⟨#[]⟩,0,⟨#[]⟩,0⟩ rfl rfl
theorem iK (s:ByteArray) (hs:s.size<=140737488355328) (h1:0<s.size) (h45:s[0].toNat=45) (hz:s.size=1) (hl0:CP s[0]=false) (hd0:zZ s[0]=false) (hc:s[0].toNat≠34) (hsy:FM s.data.toList=none) (w:World) {c:Nat} (hE:J8 w A c):Calls Tryz.prog 77 #[.string s] w (EG w s.data.toList):=by
 have NS:Hid (EK s.data.toList=none):=by
  show _=_
  rw[Nb (I4 h1) hl0 hd0 (by rw[show s.data.toList.drop 1=[] from AA7 (by rw[show s.data.toList.length=s.size from rfl,hz];exact AAH _)];rw[Bool.and_eq_false_iff];exact Or.inr (by decide)) hc,hsy];rfl
 have hl:IU (s[0].toNat:Int)=false:=hl0;have HD:Hid (IV (s[0].toNat:Int)=false):=hd0;have q2:((s[0].toNat:Int)==34)=false:=by simp;omega
 have q1:((s[0].toNat:Int)==45)=true:=by simp[h45]
 have i1:¬ (1:Int)<(s.size:Int):=by omega
 have HD1:=HD;clear h45 hz;have ZT:=zh hsy;have Mk:=zh (hE.below (zI w (.cells #[.string s] 9) (.cells #[.int .i64 0,.string ⟨#[]⟩,.int .i64 0,.string ⟨#[]⟩,.int .i64 0] 59)));clear hE hl0 hd0 hsy hc;have FR:=zh hs;have Vu:=zh hl;obtain ⟨HB1,HX0,Ei⟩:=zy w (.cells #[.string s] 9) (.cells #[.int .i64 0,.string ⟨#[]⟩,.int .i64 0,.string ⟨#[]⟩,.int .i64 0] 59);clear hl
 go_enter Tryz.func77,Tryz.ntmps77
 go_upto_region 1 with fail
 generalize (w.alloc (.cells #[.string s] 9)).alloc (.cells #[.int .i64 0,.string ⟨#[]⟩,.int .i64 0,.string ⟨#[]⟩,.int .i64 0] 59)=W1 at *;have x0:W1.cell? ⟨w.heap.size,0,none⟩=some (.string s):=by rw[AAE _ _ _ _ _ _ HX0.out];rfl
 have y0:=Mk.out.cell;have Rh:=zh x0;go_wp2_with (first|(go_at_call 116;refine (yI _ _).mono ?_;rintro e w' ⟨rfl,rfl⟩;rw[Vu.out])|(go_at_call 117;refine (Bf _ _).mono ?_;rintro e w' ⟨rfl,rfl⟩;first|rw[HD.out]|rw[HD1.out]));refine (Fu s w.heap.size Cz A c W1 Mk.out.rows Rh).mono ?_;rintro e w5 ⟨i,rfl,hi,hb⟩;have hm:i = -1:=by
  rcases Kw hi with ⟨h,_⟩|⟨k,hk,_,h,_⟩
  ·exact h
  ·rw[ZT.out] at h;cases h
 subst hm;have Bg:=zh (Nv Ei hb);have Ap:=zh (zB HB1 hb);clear hb hi x0 y0;have t0:w5.cell? ⟨w.heap.size+1,0,none⟩=some (.int .i64 0):=by rw[AAE _ _ _ _ _ _ Bg.out];rfl
 have t1:w5.cell? ⟨w.heap.size+1,1,none⟩=some (.string ⟨#[]⟩):=by rw[AAE _ _ _ _ _ _ Bg.out];rfl
 have t2:w5.cell? ⟨w.heap.size+1,2,none⟩=some (.int .i64 0):=by rw[AAE _ _ _ _ _ _ Bg.out];rfl
 have t3:w5.cell? ⟨w.heap.size+1,3,none⟩=some (.string ⟨#[]⟩):=by rw[AAE _ _ _ _ _ _ Bg.out];rfl
 have t4:w5.cell? ⟨w.heap.size+1,4,none⟩=some (.int .i64 0):=by rw[AAE _ _ _ _ _ _ Bg.out];rfl
 have f0:=AAL _ _ 0 _ _ Bg;have f1:=AAL _ _ 1 _ _ Bg;have f2:=AAL _ _ 2 _ _ Bg;have f3:=AAL _ _ 3 _ _ Bg;have f4:=AAL _ _ 4 _ _ Bg;go_wp2
 refine bodyPost_ret (v := .tuple #[.agg #[.int .i64 0,.string ⟨#[]⟩,.int .i64 0,.string ⟨#[]⟩,.int .i64 0],.int .i64 0,.bool false]) (by simp[results,Tryz.results77,go_sem,t0,t1,t2,t3,t4]) rfl ?_
 exact Kb NS (((((Ap.out.setCell (p:=⟨w.heap.size+1,0,none⟩) (by simp) _).setCell (p:=⟨w.heap.size+1,1,none⟩) (by simp) _).setCell (p:=⟨w.heap.size+1,2,none⟩) (by simp) _).setCell (p:=⟨w.heap.size+1,3,none⟩) (by simp) _).setCell (p:=⟨w.heap.size+1,4,none⟩) (by simp) _) ⟨0,⟨#[]⟩,0,⟨#[]⟩,0⟩ rfl rfl
theorem iJ (s:ByteArray) (hs:s.size<=140737488355328) (h1:0<s.size) (h45:s[0].toNat=45) (h2:1<s.size) (hd1:zZ s[1]=false) (hl0:CP s[0]=false) (hd0:zZ s[0]=false) (hc:s[0].toNat≠34) (hsy:FM s.data.toList=none) (w:World) {c:Nat} (hE:J8 w A c):Calls Tryz.prog 77 #[.string s] w (EG w s.data.toList):=by
 have NS:Hid (EK s.data.toList=none):=by
  show _=_
  rw[Nb (I4 h1) hl0 hd0 (by rw[Nh h2,hd1,Bool.and_false]) hc,hsy];rfl
 have hl:IU (s[0].toNat:Int)=false:=hl0;have HD:Hid (IV (s[0].toNat:Int)=false):=hd0;have q2:((s[0].toNat:Int)==34)=false:=by simp;omega
 have q1:((s[0].toNat:Int)==45)=true:=by simp[h45]
 have i1:(1:Int)<(s.size:Int):=by omega
 have HD1:Hid (IV (s[1].toNat:Int)=false):=hd1;clear h45 hd1;have ZT:=zh hsy;have Mk:=zh (hE.below (zI w (.cells #[.string s] 9) (.cells #[.int .i64 0,.string ⟨#[]⟩,.int .i64 0,.string ⟨#[]⟩,.int .i64 0] 59)));clear hE hl0 hd0 hsy hc;have FR:=zh hs;have Vu:=zh hl;obtain ⟨HB1,HX0,Ei⟩:=zy w (.cells #[.string s] 9) (.cells #[.int .i64 0,.string ⟨#[]⟩,.int .i64 0,.string ⟨#[]⟩,.int .i64 0] 59)
 clear hl
 go_enter Tryz.func77,Tryz.ntmps77
 go_upto_region 1 with fail
 generalize (w.alloc (.cells #[.string s] 9)).alloc (.cells #[.int .i64 0,.string ⟨#[]⟩,.int .i64 0,.string ⟨#[]⟩,.int .i64 0] 59)=W1 at *;have x0:W1.cell? ⟨w.heap.size,0,none⟩=some (.string s):=by rw[AAE _ _ _ _ _ _ HX0.out];rfl
 have y0:=Mk.out.cell;have Rh:=zh x0;go_wp2_with (first|(go_at_call 116;refine (yI _ _).mono ?_;rintro e w' ⟨rfl,rfl⟩;rw[Vu.out])|(go_at_call 117;refine (Bf _ _).mono ?_;rintro e w' ⟨rfl,rfl⟩;first|rw[HD.out]|rw[HD1.out]));refine (Fu s w.heap.size Cz A c W1 Mk.out.rows Rh).mono ?_;rintro e w5 ⟨i,rfl,hi,hb⟩;have hm:i = -1:=by
  rcases Kw hi with ⟨h,_⟩|⟨k,hk,_,h,_⟩
  ·exact h
  ·rw[ZT.out] at h;cases h
 subst hm;have Bg:=zh (Nv Ei hb);have Ap:=zh (zB HB1 hb);clear hb hi x0 y0;have t0:w5.cell? ⟨w.heap.size+1,0,none⟩=some (.int .i64 0):=by rw[AAE _ _ _ _ _ _ Bg.out];rfl
 have t1:w5.cell? ⟨w.heap.size+1,1,none⟩=some (.string ⟨#[]⟩):=by rw[AAE _ _ _ _ _ _ Bg.out];rfl
 have t2:w5.cell? ⟨w.heap.size+1,2,none⟩=some (.int .i64 0):=by rw[AAE _ _ _ _ _ _ Bg.out];rfl
 have t3:w5.cell? ⟨w.heap.size+1,3,none⟩=some (.string ⟨#[]⟩):=by rw[AAE _ _ _ _ _ _ Bg.out];rfl
 have t4:w5.cell? ⟨w.heap.size+1,4,none⟩=some (.int .i64 0):=by rw[AAE _ _ _ _ _ _ Bg.out];rfl
 have f0:=AAL _ _ 0 _ _ Bg;have f1:=AAL _ _ 1 _ _ Bg;have f2:=AAL _ _ 2 _ _ Bg;have f3:=AAL _ _ 3 _ _ Bg;have f4:=AAL _ _ 4 _ _ Bg;go_wp2
 refine bodyPost_ret (v := .tuple #[.agg #[.int .i64 0,.string ⟨#[]⟩,.int .i64 0,.string ⟨#[]⟩,.int .i64 0],.int .i64 0,.bool false]) (by simp[results,Tryz.results77,go_sem,t0,t1,t2,t3,t4]) rfl ?_
 exact Kb NS (((((Ap.out.setCell (p:=⟨w.heap.size+1,0,none⟩) (by simp) _).setCell (p:=⟨w.heap.size+1,1,none⟩) (by simp) _).setCell (p:=⟨w.heap.size+1,2,none⟩) (by simp) _).setCell (p:=⟨w.heap.size+1,3,none⟩) (by simp) _).setCell (p:=⟨w.heap.size+1,4,none⟩) (by simp) _) ⟨0,⟨#[]⟩,0,⟨#[]⟩,0⟩ rfl rfl
end Go.Proofs.YthkkllmmbefedaaGreatDoor



