/-
  Walks: lexer.token: where no symbol stands in front.
-/
import Derived.Test.YthkkllmmbefedaaGreatDoorQGA7
import Derived.Test.YthkkllmmbefedaaGreatDoorShelf
import Derived.Lib.AppendIntMem
namespace Go.Proofs.YthkkllmmbefedaaGreatDoor
open Go.RowKit Tryz
set_option maxHeartbeats 16000000
set_option maxRecDepth 100000
variable {s:ByteArray}
theorem G9 (h:0<s.size):s.data.toList=s[0]::s.data.toList.drop 1:=by
 have h':0<s.data.toList.length:=h;have:=ABf h';rw[List.drop_zero] at this;exact this
variable {n:Nat}
theorem VJ (h:n<s.size):s.data.toList.drop n=s[n]::s.data.toList.drop (n+1):=ABf (l:=s.data.toList) h
theorem kM (h:s.size=0):s=⟨#[]⟩:=by
 obtain ⟨d⟩:=s;have:d.size=0:=h;rw[Array.eq_empty_of_size_eq_zero this]
def AA9 (c:UInt8):List Value:=[.int .u8 (c.toNat:Int)]
abbrev xD:=AZ 5 1 AA9
theorem rE:Elem 40 5 1 1:=⟨underlying40,⟨.int .u8 0,by kernel_rfl,rfl⟩,by omega⟩
theorem wO (l:List UInt8):l.flatMap AA9=l.map fun c=>Value.int .u8 (c.toNat:Int):=by
 induction l with
 | nil=>rfl
 | cons a r ih=>rw[ABy,ih];rfl
variable {w:World}
theorem Sg {base:Nat} {v:Value} {l:List UInt8} (h:xD w base v l):(convert 40 9 v).run prog w = .ok (.string (bA l)) w:=by
 obtain ⟨A,c,rfl,_,_,hA⟩:=h.reads
 cases l with
 | nil =>
  cases A with
  | none =>
   show (convert _ _ (.slice none 0 c)).run _ w=_
   rw[run_convert_bytes_string w 40 9 5 none 0 c underlying40 (by kernel_rfl) (by kernel_rfl)]
   rfl
  | some a=>exact run_convert_bytes_back (P:=prog) w 40 9 5 a c [] underlying40 (by kernel_rfl) (by kernel_rfl) fun j hj=>absurd hj (Nat.not_lt_zero _)
 | cons x r =>
  obtain ⟨g,rfl,_,hr⟩:=hA (by simp)
  refine run_convert_bytes_back (P:=prog) w 40 9 5 ⟨g,0,none⟩ c (x::r) underlying40 (by kernel_rfl) (by kernel_rfl) fun j hj=>?_
  rw[Addr.add_mid];refine hr j _ ?_;rw[wO,List.getElem?_map,zl hj];rfl
theorem UM {ops:Array Oper} {rest:List Oper} {op:Oper} {a:Act} {Q:Exit->Act->World->Prop} (hgd:op.guard=none) (x:Operand) (ho:op.op = .convert 40 9 x) (base:Nat) (v:Value) (l:List UInt8) (hx:a.eval x=v) (h:xD w base v l) (hq:wpList prog ops Q rest (a.put op.dst (.string (bA l))) w):wpList prog ops Q (op::rest) a w:=by
 refine wpList_plain hgd fun K hK=>?_
 have hr:=Sg h;unfold Oper.wp execOp;simp only[ho,hx,Sem.run_bind,Sem.run_pure,Result.andThen_ok,hr];exact hK _ _ hq
def Gs (L:List UInt8) (k:Nat) (o:List UInt8):Prop:=I5 (L.drop 1)=(I5 (L.drop k)).map fun p=>(o++p.1,p.2+(k - 1))
variable {L o:List UInt8} {k:Nat}
theorem Gs.end_ (h:Gs L k o) (hk:L.length<=k):I5 (L.drop 1)=none:=by
 unfold Gs at h;rw[ABg hk,U0] at h;exact h
variable {r:List UInt8} {c:UInt8}
theorem Gs.close (h:Gs L k o) (h1:1<=k) (hd:L.drop k=c::r) (hc:c.toNat=34):I5 (L.drop 1)=some (o,k):=by
 unfold Gs at h;rw[hd,GU,AAB hc] at h;rw[h]
 show some (o++[],1+(k - 1))=_
 rw[List.append_nil,show 1+(k - 1)=k by omega]
theorem Gs.bad (h:Gs L k o) (hd:L.drop k=c::r) (hc:c.toNat≠34) (hp:EH (c::r)=none):I5 (L.drop 1)=none:=by
 unfold Gs at h;rw[hd,GU,Pd hc,hp] at h;exact h
theorem Gs.step (h:Gs L k o) (h1:1<=k) (hd:L.drop k=c::r) (hc:c.toNat≠34) {b:UInt8} (hp:EH (c::r)=some (b,n)):Gs L (k+n) (o++[b]):=by
 unfold Gs at h ⊢;rw[hd,GU,Pd hc,hp] at h;have hd2:(c::r).drop n=L.drop (k+n):=by rw[<-hd,List.drop_drop]
 simp only at h;rw[hd2] at h;rw[h]
 cases I5 (L.drop (k+n)) with
 | none=>rfl
 | some p =>
  show some (o++b::p.1,p.2+n+(k - 1))=some (o++[b]++p.1,p.2+(k+n - 1))
  rw[AAo,show p.2+n+(k - 1)=p.2+(k+n - 1) by omega];rfl
theorem Gn:(s.extract n s.size).data.toList=s.data.toList.drop n:=by
 rw[Lib.extract_data];rw[List.take_of_length_le];rw[AA8];have:s.data.toList.length=s.size:=rfl
 omega
structure IB (w:World):Prop where
 tab : Lib.TabIs prog w "internal/strconv.uint64pow10" .u64 Lib.pow10Tab
 syn:∃t p,w.cell? ⟨5,0,none⟩=some (.iface t p)
 rng:∃t p,w.cell? ⟨6,0,none⟩=some (.iface t p)
variable {w':World}
theorem IB.below (h:IB w) (hb:Below w.heap.size w w'):IB w':=by
 obtain ⟨t,p,hs⟩:=h.syn;obtain ⟨t',p',hr⟩:=h.rng;exact ⟨Lib.tabBelow_of_tabIs h.tab w' hb,⟨t,p,zA hb hs⟩,⟨t',p',zA hb hr⟩⟩
theorem QM (n:Int) (hn:In64 n) (w:World) (ht:IB w) :
  Calls prog 55 #[.int .i64 n,.int .i64 10] w fun e w'=>e = .returned (.string (bA (Lib.itoa n)))/\Below w.heap.size w w' :=
 (strconv_FormatInt_10 n hn.1 hn.2 w ht.tab).mono fun e w' ⟨he,k,os,hw⟩=>⟨he,by subst hw;exact Lib.below_grow _ _ (AAF _) _ _⟩
def xE (w:World) (T:List UInt8) (e:Ending) (w':World):Prop:=∃ (v n:Int) (ok:Bool),e = .returned (.tuple #[.int .i64 v,.int .i64 n,.bool ok])/\n=(T.length:Int)/\(match F9 T with
 | some x=>ok=true/\v=x
 | none=>ok=false)/\Below w.heap.size w w'
theorem EK:(s.extract 0 n).data.toList=s.data.toList.take n:=by
 rw[Lib.extract_data];simp
theorem Nw {a:ByteArray} {l:List UInt8}:bA l=a↔l=a.data.toList:=by
 constructor
 ·rintro rfl;rfl
 ·rintro rfl;rfl
theorem ZI (v:Int) {a:ByteArray} {T:List UInt8} (h:a.data.toList=T):match if Lib.itoa v=T then some v else none with
 | some x=>((bA (Lib.itoa v)).toList==a.toList)=true/\v=x
 | none=>((bA (Lib.itoa v)).toList==a.toList)=false:=by
 rw[Lib.toList_data,Lib.toList_data,h]
 by_cases e:Lib.itoa v=T
 ·rw[AAB e]
  exact ⟨by rw[show (bA (Lib.itoa v)).data.toList=Lib.itoa v from rfl,e];simp,rfl⟩
 ·rw[Pd e]
  show (Lib.itoa v==T)=false
  simp[e]
theorem P9 (s:ByteArray) (hs:s.size<=140737488355328) (h1:0<s.size) (w:World) (hE:IB w):Calls prog 118 #[.string s] w (xE w (s.data.toList.take (1+Dh (s.data.toList.drop 1)))):=by
 have E5:=zh hs;have HE:=zh hE;obtain ⟨T,hT⟩:∃T,s.data.toList.take (1+Dh (s.data.toList.drop 1))=T:=⟨_,rfl⟩;rw[hT];have HT:=zh hT;clear hT hE;have hsl:s.data.toList.length=s.size:=rfl;have HAT:Hid (∀k,1<=k->k<=s.size->(∀j (hj:j<s.size),1<=j->j<k->zZ s[j]=true)->(∀h:k<s.size,zZ s[k]=false)->s.data.toList.take k=T):=fun k hk1 hk2 ha hb=>by
  rw[<-HT.O];have:=Vy (l:=s.data.toList.drop 1) (n:=k - 1) (by rw[AA8];omega) (fun i hi hik=>by
   rw[List.getElem_drop];exact ha (1+i) (by rw[AA8] at hi;omega) (by omega) (by omega)) (fun h=>by
   rw[List.getElem_drop];have e:1+(k - 1)=k:=by omega
   have h2:k<s.size:=by rw[AA8] at h;omega
   have:=hb h2;simp only[e];exact this)
  rw[this,show 1+(k - 1)=k by omega]
 clear hsl
 go_enter func118,ntmps118
 go_wp2
 go_loopw [5] (fun i wr=>∃k:Nat,1<=k/\k<=s.size/\i = .int .i64 k/\wr=w/\Hid (∀j (hj:j<s.size),1<=j->j<k->zZ s[j]=true)) (fun i _=>s.size - (intOf i).toNat)
 case atStart=>exact ⟨1,by omega,by omega,rfl,rfl,fun j _ h1 h2=>absurd h1 (by omega)⟩
 case round =>
  obtain ⟨k,hk1,hk2,rfl,rfl,hh⟩:=hrel;have g1:(0:Int)<=(k:Int):=by omega
  by_cases hlt:k<s.size
  ·have g2:(k:Int)<(s.size:Int):=by omega
   cases hd:FX (s[k].toNat:Int) with
   | true =>
    have HD:=zh hd;have HN:Hid (∀j (hj:j<s.size),1<=j->j<k+1->zZ s[j]=true):=fun j hj h1 h2=>by
     by_cases e:j=k
     ·subst e;exact hd
     ·exact hh.O j hj h1 (by omega)
    clear hd hh;go_wp2_with (go_at_call 117;refine (Bj _ _).mono ?_;rintro e w' ⟨rfl,rfl⟩;rw[HD.O]);go_roundw
    case rel=>exact ⟨k+1,by omega,by omega,by go_num,trivial,HN.O⟩
    case measure=>simp[intOf];omega
   | false =>
    have HD:=zh hd;have HK:=zh (HAT.O k hk1 hk2 hh fun _=>hd)
    clear hd hh;go_wp2_with (go_at_call 117;refine (Bj _ _).mono ?_;rintro e w' ⟨rfl,rfl⟩;rw[HD.O]);have HX:Hid ((s.extract 0 k).data.toList=T):=by show _=_;rw[EK];exact HK.O
    have r9:Hid (T.length=k):=by show _=_;rw[<-HK.O,List.length_take];(have:s.data.toList.length=s.size:=rfl);omega
    have h0:(s.extract 0 k).size=T.length:=by rw[<-HX.O];rfl
    have hez:(s.extract 0 k).size<=140737488355328:=by rw[h0,r9.O];have:=E5.O;omega
    have yZ:=zh hez;clear hez h0
    rcases hp:Lib.parseIntB 64 (s.extract 0 k).data.toList with v|_|_
    ·
     have hvb:=Lib.parseIntB_bounds hp;have e2:(2 ^ (64 - 1):Nat)=9223372036854775808:=by decide
     rw[e2] at hvb;have HV:Hid (In64 v):=⟨by omega,by omega⟩
     have HI:Hid (F9 T=if Lib.itoa v=T then some v else none):=by show _=_;rw[<-HX.O];unfold F9;rw[hp]
     refine (strconv_ParseInt_10_at64_ok _ (by have:=yZ.O;omega) v hp _).mono ?_
     rintro e w5 ⟨rfl,hw5⟩;have Aq:Hid (Below wr.heap.size wr w5):=by
      show Below _ _ _
      rcases hw5 with rfl|⟨t,rfl⟩
      ·exact Pe _ _
      ·exact Lib.bytesWorld_below _ _ _
     have HE5:=zh (HE.O.below Aq);clear hw5 hp hvb e2;go_wp2_with fail;refine wp_region_held_drew (S:=(fun w'=>Hid (IB w')/\Hid (Below wr.heap.size wr w'))) (by kernel_rfl) ?_ (fun AQ=>?_)
     ·(try dsimp only);exact ⟨HE5.O.below (zC (Pe _ _) 1),zC Aq 1⟩
     refine tL 0 ?_;refine tL 1 ?_;refine tL 2 ?_;refine tL 3 ?_;refine tL 4 ?_;refine tL 5 ?_;try simp only[ps]
     refine tL 7 ?_;refine tL 8 ?_;refine tL 9 ?_;refine tR 6 (fun K hK=>?_)
     go_simp
     (refine (QM v HV _ AQ.1.O).mono ?_;rintro e w6 ⟨rfl,hb6⟩;have BH:=zh (zB AQ.2.O hb6);have HE6:=zh (AQ.1.O.below hb6);clear hb6)
     refine hK.out _ _ ?_ (fun AQ=>?_)
     ·(try dsimp only);exact ⟨HE6.O,BH.O⟩
     clear hK K;refine tL 10 ?_;refine tL 11 ?_;try simp only[ps]
     refine tL 12 ?_;refine tL 13 ?_;refine tL 14 ?_;refine wpAnyH_done (by kernel_rfl) ?_ _
     go_wp2
     go_ret3
     refine ⟨_,_,_,rfl,by rw[r9.O],?_,AQ.2.O⟩
     rw[HI.O];exact ZI v HX
    ·
     have HI:Hid (F9 T=none):=by show _=_;rw[<-HX.O];unfold F9;rw[hp]
     obtain ⟨t,p,hv⟩:=HE.O.syn;refine (strconv_ParseInt_10_at64_syntax _ (by have:=yZ.O;omega) hp (.iface t p) _ hv (Or.inr ⟨t,p,rfl⟩)).mono ?_
     rintro e w5 ⟨N,rfl,_,_,hb5⟩;have Aq:=zh hb5;clear hp hv hb5;go_wp2_with fail
     go_quiet (fail)
     go_wp2
     go_ret3
     exact ⟨_,_,_,rfl,by rw[r9.O],by rw[HI.O],zC Aq _⟩
    ·
     have HI:Hid (F9 T=none):=by show _=_;rw[<-HX.O];unfold F9;rw[hp]
     obtain ⟨t,p,hv⟩:=HE.O.rng;refine (strconv_ParseInt_10_at64_range _ (by have:=yZ.O;omega) hp (.iface t p) _ hv (Or.inr ⟨t,p,rfl⟩)).mono ?_
     rintro e w5 ⟨N,rfl,_,_,hb5⟩;have Aq:=zh hb5;clear hp hv hb5;go_wp2_with fail
     go_quiet (fail)
     go_wp2
     go_ret3
     exact ⟨_,_,_,rfl,by rw[r9.O],by rw[HI.O],zC Aq _⟩
  ·have HK:=zh (HAT.O k hk1 hk2 hh fun h=>absurd h hlt)
   have g2:¬ (k:Int)<(s.size:Int):=by omega
   clear hh;go_wp2_with fail;have HX:Hid ((s.extract 0 k).data.toList=T):=by show _=_;rw[EK];exact HK.O
   have r9:Hid (T.length=k):=by show _=_;rw[<-HK.O,List.length_take];(have:s.data.toList.length=s.size:=rfl);omega
   have h0:(s.extract 0 k).size=T.length:=by rw[<-HX.O];rfl
   have hez:(s.extract 0 k).size<=140737488355328:=by rw[h0,r9.O];have:=E5.O;omega
   have yZ:=zh hez;clear hez h0
   rcases hp:Lib.parseIntB 64 (s.extract 0 k).data.toList with v|_|_
   ·
    have hvb:=Lib.parseIntB_bounds hp;have e2:(2 ^ (64 - 1):Nat)=9223372036854775808:=by decide
    rw[e2] at hvb;have HV:Hid (In64 v):=⟨by omega,by omega⟩
    have HI:Hid (F9 T=if Lib.itoa v=T then some v else none):=by show _=_;rw[<-HX.O];unfold F9;rw[hp]
    refine (strconv_ParseInt_10_at64_ok _ (by have:=yZ.O;omega) v hp _).mono ?_
    rintro e w5 ⟨rfl,hw5⟩;have Aq:Hid (Below wr.heap.size wr w5):=by
     show Below _ _ _
     rcases hw5 with rfl|⟨t,rfl⟩
     ·exact Pe _ _
     ·exact Lib.bytesWorld_below _ _ _
    have HE5:=zh (HE.O.below Aq);clear hw5 hp hvb e2;go_wp2_with fail;refine wp_region_held_drew (S:=(fun w'=>Hid (IB w')/\Hid (Below wr.heap.size wr w'))) (by kernel_rfl) ?_ (fun AQ=>?_)
    ·(try dsimp only);exact ⟨HE5.O.below (zC (Pe _ _) 1),zC Aq 1⟩
    refine tL 0 ?_;refine tL 1 ?_;refine tL 2 ?_;try simp only[ps]
    refine tL 3 ?_;refine tL 4 ?_;refine tL 5 ?_;refine tL 7 ?_;refine tL 8 ?_;refine tL 9 ?_;try simp only[ps]
    refine tR 6 (fun K hK=>?_)
    go_simp
    (refine (QM v HV _ AQ.1.O).mono ?_;rintro e w6 ⟨rfl,hb6⟩;have BH:=zh (zB AQ.2.O hb6);have HE6:=zh (AQ.1.O.below hb6);clear hb6)
    refine hK.out _ _ ?_ (fun AQ=>?_)
    ·(try dsimp only);exact ⟨HE6.O,BH.O⟩
    clear hK K;refine tL 10 ?_;refine tL 11 ?_;refine tL 12 ?_;refine tL 13 ?_;refine tL 14 ?_;try simp only[ps]
    refine wpAnyH_done (by kernel_rfl) ?_ _
    go_wp2
    go_ret3
    refine ⟨_,_,_,rfl,by rw[r9.O],?_,AQ.2.O⟩
    rw[HI.O];exact ZI v HX
   ·
    have HI:Hid (F9 T=none):=by show _=_;rw[<-HX.O];unfold F9;rw[hp]
    obtain ⟨t,p,hv⟩:=HE.O.syn;refine (strconv_ParseInt_10_at64_syntax _ (by have:=yZ.O;omega) hp (.iface t p) _ hv (Or.inr ⟨t,p,rfl⟩)).mono ?_
    rintro e w5 ⟨N,rfl,_,_,hb5⟩;have Aq:=zh hb5;clear hp hv hb5;go_wp2_with fail
    go_quiet (fail)
    go_wp2
    go_ret3
    exact ⟨_,_,_,rfl,by rw[r9.O],by rw[HI.O],zC Aq _⟩
   ·
    have HI:Hid (F9 T=none):=by show _=_;rw[<-HX.O];unfold F9;rw[hp]
    obtain ⟨t,p,hv⟩:=HE.O.rng;refine (strconv_ParseInt_10_at64_range _ (by have:=yZ.O;omega) hp (.iface t p) _ hv (Or.inr ⟨t,p,rfl⟩)).mono ?_
    rintro e w5 ⟨N,rfl,_,_,hb5⟩;have Aq:=zh hb5;clear hp hv hb5;go_wp2_with fail
    go_quiet (fail)
    go_wp2
    go_ret3
    exact ⟨_,_,_,rfl,by rw[r9.O],by rw[HI.O],zC Aq _⟩
def rV {α:Type} (p:α->Bool) (l:List α) (i:Int):Prop:=(i = -1/\∀j (h:j<l.length),p l[j]=false)\/∃ (k:Nat) (h:k<l.length),i=(k:Int)/\p l[k]=true/\∀j (hj:j<l.length),j<k->p l[j]=false
def preB (s x:ByteArray):Bool:=Lib.hasPrefix s.data.toList x.data.toList
theorem Ud (s:ByteArray) (q:Nat) (x:ByteArray) (w:World) (hq:w.cell? ⟨q,0,none⟩=some (.string s)) :
  Calls prog 121 #[.string x,.pointer (some ⟨q,0,none⟩)] w fun e w'=>e = .returned (.bool (preB s x))/\Below w.heap.size w w':=by
 have hlt:=zL hq;simp only at hlt;have HP:Hid (Lib.hasPrefix s.data.toList x.data.toList=preB s x):=rfl
 go_enter func121,ntmps121
 go_wp2_with (go_at_call 75;refine (strings_HasPrefix s x _).mono ?_;rintro e w' ⟨rfl,rfl⟩;rw[HP.O])
 go_ret
 exact ⟨rfl,Pe _ _⟩
theorem Gg (s:ByteArray) (q:Nat) (l:List ByteArray) (A:zo) (c:Nat) (w:World) (hl:JK w A l) (hq:w.cell? ⟨q,0,none⟩=some (.string s)) :
  Calls prog 120 #[.slice A l.length c,.func (.func 121) #[] #[.pointer (some ⟨q,0,none⟩)]] w fun e w'=>∃i,e = .returned (.int .i64 i)/\rV (preB s) l i/\Below w.heap.size w w':=by
 have hln:=hl.1;unfold EF at hln;have HL:=zh hl;have HQ:=zh hq;clear hl hq
 go_enter func120,ntmps120
 go_wp2
 go_loopw [8] (fun i wr=>∃k:Nat,k<=l.length/\i = .int .i64 (k:Int)/\Hid ((∀j (h:j<l.length),j<k->preB s l[j]=false)/\Below w.heap.size w wr)) (fun i _=>l.length - (intOf i).toNat)
 case atStart=>exact ⟨0,by omega,rfl,(fun j _ h=>absurd h (by omega)),Pe _ _⟩
 case round =>
  obtain ⟨k,hk,rfl,hh⟩:=hrel
  by_cases hlt:k<l.length
  ·obtain ⟨b,o,rfl,hr1,a0⟩:=(HL.O.below hh.O.2).fF hlt
   clear hr1;have h1:(0:Int)<=(k:Int):=by omega
   have h2:(k:Int)<(l.length:Int):=by omega
   cases he:preB s l[k] with
   | true =>
    have HD:=zh he;have HI:Hid (rV (preB s) l (k:Int)):=Or.inr ⟨k,hlt,rfl,he,hh.O.1⟩;clear he;go_wp2_with (go_at_call 121;refine (Ud s q l[k] _ (zA hh.O.2 HQ)).mono ?_;rintro e w2 ⟨rfl,hb2⟩;rw[HD.O]);go_ret;exact ⟨_,rfl,HI.O,zB hh.O.2 hb2⟩
   | false =>
    have HD:=zh he;have HN:Hid (∀j (h:j<l.length),j<k+1->preB s l[j]=false):=fun j h hj=>by
     by_cases e:j=k
     ·subst e;exact he
     ·exact hh.O.1 j h (by omega)
    clear he;go_wp2_with (go_at_call 121;refine (Ud s q l[k] _ (zA hh.O.2 HQ)).mono ?_;rintro e w2 ⟨rfl,hb2⟩;rw[HD.O]);go_roundw
    case rel=>exact ⟨k+1,by omega,by go_num,HN.O,zB hh.O.2 hb2⟩
    case measure=>simp[intOf];omega
  ·have HI:Hid (rV (preB s) l (-1)):=Or.inl ⟨rfl,fun j h=>hh.O.1 j h (by omega)⟩
   go_wp2
   go_ret
   exact ⟨_,rfl,HI.O,hh.O.2⟩
theorem QB {g:Nat} {o:Obj} (h:w.heap[g]? = some o) (hb:Below w.heap.size w w'):w'.heap[g]? = some o:=(hb.block _ (zg.1 h).1).trans h
def Ey (w:World) (L:List UInt8) (e:Ending) (w':World):Prop:=∃ (u:AJ) (n:Int) (ok:Bool),e = .returned (.tuple #[.agg (FW u).toArray,.int .i64 n,.bool ok])/\(match CP L with
 | some p=>ok=true/\u=p.1/\n=(p.2:Int)
 | none=>ok=false)/\Below w.heap.size w w'
variable {ok:Bool}
theorem SQ {u:AJ} (h:CP L=some (u,k)) (hb:Below w.heap.size w w') {cs:Array Value} {n:Int} (hc:cs=(FW u).toArray) (hn:n=(k:Int)) (hk:ok=true):Ey w L (.returned (.tuple #[.agg cs,.int .i64 n,.bool ok])) w' :=
 ⟨u,n,ok,by rw[hc],by rw[h];exact ⟨hk,rfl,hn⟩,hb⟩
theorem MC (h:CP L=none) (hb:Below w.heap.size w w') (u:AJ) {cs:Array Value} {n:Int} (hc:cs=(FW u).toArray) (hk:ok=false):Ey w L (.returned (.tuple #[.agg cs,.int .i64 n,.bool ok])) w' :=
 ⟨u,n,ok,by rw[hc],by rw[h];exact hk,hb⟩
theorem UN (hL:s.data.toList=L) (h0:L=c::r) (hc:Dn (c.toNat:Int)=true) (hk:Bh L=k) (hb:Below w.heap.size w w'):
  Ey w L (.returned (.tuple #[.agg #[.int .i64 1,.string (s.extract 0 k),.int .i64 0,.string ⟨#[]⟩,.int .i64 0],.int .i64 k,.bool (decide ((k:Int)<=24))])) w':=by
 have e:bA (L.take k)=s.extract 0 k:=Nw.2 (by rw[EK,hL])
 have ht:CP L=if k<=24 then some (⟨1,bA (L.take k),0,⟨#[]⟩,0⟩,k) else none:=by
  rw[<-hk];subst h0;rw[CP,AAB (show BM c=true from hc)]
 by_cases h:k<=24
 ·rw[AAB h] at ht
  exact SQ ht hb (by rw[e];rfl) rfl (AAJ (by omega))
 ·rw[Pd h] at ht
  exact MC ht hb ⟨1,s.extract 0 k,0,⟨#[]⟩,0⟩ rfl (AAP (by omega))
theorem iC (s:ByteArray) (hs:s.size<=140737488355328) (h1:0<s.size) (hl:Dn (s[0].toNat:Int)=true) (w:World):Calls prog 77 #[.string s] w (Ey w s.data.toList):=by
 have E5:=zh hs;have HL:=zh hl;have Fy:=zh (G9 h1);obtain ⟨L,hL⟩:∃L,s.data.toList=L:=⟨_,rfl⟩;have Lh:=zh hL;rw[hL];rw[hL] at Fy;have HAT:Hid (∀k,1<=k->k<=s.size->(∀j (hj:j<s.size),j<k->LA s[j]=true)->(∀h:k<s.size,LA s[k]=false)->Bh L=k):=fun k hk1 hk2 ha hb=>by
  refine VQ (by rw[<-Lh.O];exact hk2) (fun i hi hik=>?_) fun h=>?_
  ·have h2:i<s.size:=by rw[<-Lh.O] at hi;exact hi
   have:=ha i h2 hik;have e:L[i]=s[i]:=by simp only[<-Lh.O];rfl
   rw[e];exact this
  ·have h2:k<s.size:=by rw[<-Lh.O] at h;exact h
   have:=hb h2;have e:L[k]=s[k]:=by simp only[<-Lh.O];rfl
   rw[e];exact this
 clear hL hl;obtain ⟨HB1,HX0,Ei⟩:=zy w (.cells #[.string s] 9) (.cells #[.int .i64 0,.string ⟨#[]⟩,.int .i64 0,.string ⟨#[]⟩,.int .i64 0] 59)
 go_enter func77,ntmps77
 go_upto_region 1 with fail
 generalize (w.alloc (.cells #[.string s] 9)).alloc (.cells #[.int .i64 0,.string ⟨#[]⟩,.int .i64 0,.string ⟨#[]⟩,.int .i64 0] 59)=W1 at *;have x0:W1.cell? ⟨w.heap.size,0,none⟩=some (.string s):=by rw[AAC _ _ _ _ _ _ HX0.O];rfl
 go_wp2_with (go_at_call 116;refine (yI _ _).mono ?_;rintro e w' ⟨rfl,rfl⟩;rw[HL.O])
 have ADp:=zh x0;clear x0
 go_loopw [5] (fun i wr=>∃k:Nat,1<=k/\k<=s.size/\i = .int .i64 k/\Hid (wr=W1/\∀j (hj:j<s.size),j<k->LA s[j]=true)) (fun i _=>s.size - (intOf i).toNat)
 case atStart=>exact ⟨1,by omega,by omega,rfl,rfl,fun j hj h=>by
  obtain rfl:j=0:=by omega
  unfold LA;rw[HL.O];rfl⟩
 case round =>
  obtain ⟨k,hk1,hk2,rfl,hh⟩:=hrel;obtain ⟨hw,hcc⟩:=hh.O;have HC:=zh hcc;clear hh hcc;subst hw;have x0:=ADp.O;have g1:(0:Int)<=(k:Int):=by omega
  by_cases hlt:k<s.size
  ·have g2:(k:Int)<(s.size:Int):=by omega
   cases hd:Dn (s[k].toNat:Int) with
   | true =>
    have HD:=zh hd;have HN:Hid (∀j (hj:j<s.size),j<k+1->LA s[j]=true):=fun j hj h2=>by
     by_cases e:j=k
     ·subst e;unfold LA;rw[hd];rfl
     ·exact HC.O j hj (by omega)
    clear hd;go_wp2_with (go_at_call 116;refine (yI _ _).mono ?_;rintro e w' ⟨rfl,rfl⟩;rw[HD.O]);go_roundw
    case rel=>exact ⟨k+1,by omega,by omega,by go_num,trivial,HN.O⟩
    case measure=>simp[intOf];omega
   | false =>
    have HD:=zh hd;clear hd
    cases hd2:FX (s[k].toNat:Int) with
    | true =>
     have HD2:=zh hd2;have HN:Hid (∀j (hj:j<s.size),j<k+1->LA s[j]=true):=fun j hj h2=>by
      by_cases e:j=k
      ·subst e;unfold LA;rw[HD.O,hd2];rfl
      ·exact HC.O j hj (by omega)
     clear hd2;go_wp2_with (first|(go_at_call 116;refine (yI _ _).mono ?_;rintro e w' ⟨rfl,rfl⟩;rw[HD.O])|(go_at_call 117;refine (Bj _ _).mono ?_;rintro e w' ⟨rfl,rfl⟩;rw[HD2.O]));go_roundw
     case rel=>exact ⟨k+1,by omega,by omega,by go_num,trivial,HN.O⟩
     case measure=>simp[intOf];omega
    | false =>
     have HD2:=zh hd2;have t0:wr.cell? ⟨w.heap.size+1,0,none⟩=some (.int .i64 0):=by rw[AAC _ _ _ _ _ _ Ei.O];rfl
     have t1:wr.cell? ⟨w.heap.size+1,1,none⟩=some (.string ⟨#[]⟩):=by rw[AAC _ _ _ _ _ _ Ei.O];rfl
     have t2:wr.cell? ⟨w.heap.size+1,2,none⟩=some (.int .i64 0):=by rw[AAC _ _ _ _ _ _ Ei.O];rfl
     have t3:wr.cell? ⟨w.heap.size+1,3,none⟩=some (.string ⟨#[]⟩):=by rw[AAC _ _ _ _ _ _ Ei.O];rfl
     have t4:wr.cell? ⟨w.heap.size+1,4,none⟩=some (.int .i64 0):=by rw[AAC _ _ _ _ _ _ Ei.O];rfl
     have f0:=AAG _ _ 0 _ _ Ei;have f1:=AAG _ _ 1 _ _ Ei;have f2:=AAG _ _ 2 _ _ Ei;have f3:=AAG _ _ 3 _ _ Ei;have f4:=AAG _ _ 4 _ _ Ei;have HK:=zh (HAT.O k hk1 hk2 HC fun _=>by unfold LA;rw[HD.O,hd2];rfl)
     clear hd2;go_wp2_with (first|(go_at_call 116;refine (yI _ _).mono ?_;rintro e w' ⟨rfl,rfl⟩;rw[HD.O])|(go_at_call 117;refine (Bj _ _).mono ?_;rintro e w' ⟨rfl,rfl⟩;rw[HD2.O]))
     refine bodyPost_ret (v := .tuple #[.agg #[.int .i64 1,.string (s.extract 0 k),.int .i64 0,.string ⟨#[]⟩,.int .i64 0],.int .i64 k,.bool (decide ((k:Int)<=24))]) (by simp[results,results77,go_sem,t0,t1,t2,t3,t4]) rfl ?_
     exact UN Lh Fy HL HK (((((HB1.O.setCell (p:=⟨w.heap.size+1,0,none⟩) (by simp) _).setCell (p:=⟨w.heap.size+1,1,none⟩) (by simp) _).setCell (p:=⟨w.heap.size+1,2,none⟩) (by simp) _).setCell (p:=⟨w.heap.size+1,3,none⟩) (by simp) _).setCell (p:=⟨w.heap.size+1,4,none⟩) (by simp) _)
  ·have HK:=zh (HAT.O k hk1 hk2 HC fun h=>absurd h hlt)
   have g2:¬ (k:Int)<(s.size:Int):=by omega
   have t0:wr.cell? ⟨w.heap.size+1,0,none⟩=some (.int .i64 0):=by rw[AAC _ _ _ _ _ _ Ei.O];rfl
   have t1:wr.cell? ⟨w.heap.size+1,1,none⟩=some (.string ⟨#[]⟩):=by rw[AAC _ _ _ _ _ _ Ei.O];rfl
   have t2:wr.cell? ⟨w.heap.size+1,2,none⟩=some (.int .i64 0):=by rw[AAC _ _ _ _ _ _ Ei.O];rfl
   have t3:wr.cell? ⟨w.heap.size+1,3,none⟩=some (.string ⟨#[]⟩):=by rw[AAC _ _ _ _ _ _ Ei.O];rfl
   have t4:wr.cell? ⟨w.heap.size+1,4,none⟩=some (.int .i64 0):=by rw[AAC _ _ _ _ _ _ Ei.O];rfl
   have f0:=AAG _ _ 0 _ _ Ei;have f1:=AAG _ _ 1 _ _ Ei;have f2:=AAG _ _ 2 _ _ Ei;have f3:=AAG _ _ 3 _ _ Ei;have f4:=AAG _ _ 4 _ _ Ei;go_wp2
   refine bodyPost_ret (v := .tuple #[.agg #[.int .i64 1,.string (s.extract 0 k),.int .i64 0,.string ⟨#[]⟩,.int .i64 0],.int .i64 k,.bool (decide ((k:Int)<=24))]) (by simp[results,results77,go_sem,t0,t1,t2,t3,t4]) rfl ?_
   exact UN Lh Fy HL HK (((((HB1.O.setCell (p:=⟨w.heap.size+1,0,none⟩) (by simp) _).setCell (p:=⟨w.heap.size+1,1,none⟩) (by simp) _).setCell (p:=⟨w.heap.size+1,2,none⟩) (by simp) _).setCell (p:=⟨w.heap.size+1,3,none⟩) (by simp) _).setCell (p:=⟨w.heap.size+1,4,none⟩) (by simp) _)
theorem ZH (h0:L=c::r) (hl:BM c=false) (hd:(zZ c||(decide (c.toNat=45)&&zZ (r.headD 0)))=true) (hb:Below w.heap.size w w') {v n:Int} (hn:n=((L.take (1+Dh (L.drop 1))).length:Int)) (hi:match F9 (L.take (1+Dh (L.drop 1))) with
 | some x=>ok=true/\v=x
 | none=>ok=false):Ey w L (.returned (.tuple #[.agg #[.int .i64 2,.string ⟨#[]⟩,.int .i64 v,.string ⟨#[]⟩,.int .i64 0],.int .i64 n,.bool ok])) w':=by
 subst h0;have hk:=J2 r;have ht:CP (c::r)=(F9 ((c::r).take (1+Dh r))).map fun v=>(⟨2,⟨#[]⟩,v,⟨#[]⟩,0⟩,1+Dh r):=by
  rw[CP,Pd (by rw[hl];simp),AAB hd]
 rw[List.drop_one,List.tail_cons] at hn hi;have hlen:((c::r).take (1+Dh r)).length=1+Dh r:=by rw[List.length_take,AAI];omega
 rw[hlen] at hn
 cases hx:F9 ((c::r).take (1+Dh r)) with
 | none =>
  rw[hx] at hi ht;exact MC ht hb ⟨2,⟨#[]⟩,v,⟨#[]⟩,0⟩ rfl hi
 | some x =>
  rw[hx] at hi ht;obtain ⟨h1,rfl⟩:=hi;exact SQ ht hb rfl hn h1
theorem oZ (s:ByteArray) (hs:s.size<=140737488355328) (h1:0<s.size) (hl:BM s[0]=false) (hd:zZ s[0]=true) (w:World) (hE:IB w):Calls prog 77 #[.string s] w (Ey w s.data.toList):=by
 have HDG:Hid ((zZ s[0]||(decide (s[0].toNat=45)&&zZ ((s.data.toList.drop 1).headD 0)))=true):=by show _=_;rw[hd];rfl
 have HD:Hid (FX (s[0].toNat:Int)=true):=hd;have hl':Dn (s[0].toNat:Int)=false:=hl;have PO:=zh (hE.below (zI w (.cells #[.string s] 9) (.cells #[.int .i64 0,.string ⟨#[]⟩,.int .i64 0,.string ⟨#[]⟩,.int .i64 0] 59)));clear hd hE;have E5:=zh hs;have YV:Hid (Dn (s[0].toNat:Int)=false):=hl'
 obtain ⟨HB1,HX0,Ei⟩:=zy w (.cells #[.string s] 9) (.cells #[.int .i64 0,.string ⟨#[]⟩,.int .i64 0,.string ⟨#[]⟩,.int .i64 0] 59);clear hl hl'
 go_enter func77,ntmps77
 go_upto_region 1 with fail
 generalize (w.alloc (.cells #[.string s] 9)).alloc (.cells #[.int .i64 0,.string ⟨#[]⟩,.int .i64 0,.string ⟨#[]⟩,.int .i64 0] 59)=W1 at *;have x0:W1.cell? ⟨w.heap.size,0,none⟩=some (.string s):=by rw[AAC _ _ _ _ _ _ HX0.O];rfl
 go_wp2_with (first|(go_at_call 116;refine (yI _ _).mono ?_;rintro e w' ⟨rfl,rfl⟩;rw[YV.O])|(go_at_call 117;refine (Bj _ _).mono ?_;rintro e w' ⟨rfl,rfl⟩;rw[HD.O]))
 refine (P9 s E5 h1 W1 PO).mono ?_;rintro e w5 ⟨v,n,ok,rfl,hn,hi,hb⟩;have CO:=zh (QB Ei hb);have Aq:=zh (zB HB1 hb);have HF:=zh (fun w' (h:Below w.heap.size w w')=>ZH (w:=w) (w':=w') (G9 h1) YV HDG h hn hi)
 clear hb hn hi x0;have t0:w5.cell? ⟨w.heap.size+1,0,none⟩=some (.int .i64 0):=by rw[AAC _ _ _ _ _ _ CO.O];rfl
 have t1:w5.cell? ⟨w.heap.size+1,1,none⟩=some (.string ⟨#[]⟩):=by rw[AAC _ _ _ _ _ _ CO.O];rfl
 have t2:w5.cell? ⟨w.heap.size+1,2,none⟩=some (.int .i64 0):=by rw[AAC _ _ _ _ _ _ CO.O];rfl
 have t3:w5.cell? ⟨w.heap.size+1,3,none⟩=some (.string ⟨#[]⟩):=by rw[AAC _ _ _ _ _ _ CO.O];rfl
 have t4:w5.cell? ⟨w.heap.size+1,4,none⟩=some (.int .i64 0):=by rw[AAC _ _ _ _ _ _ CO.O];rfl
 have f0:=AAG _ _ 0 _ _ CO;have f1:=AAG _ _ 1 _ _ CO;have f2:=AAG _ _ 2 _ _ CO;have f3:=AAG _ _ 3 _ _ CO;have f4:=AAG _ _ 4 _ _ CO;go_wp2
 refine bodyPost_ret (v := .tuple #[.agg #[.int .i64 2,.string ⟨#[]⟩,.int .i64 v,.string ⟨#[]⟩,.int .i64 0],.int .i64 n,.bool ok]) (by simp[results,results77,go_sem,t0,t1,t2,t3,t4]) rfl ?_
 exact HF.O _ (((((Aq.O.setCell (p:=⟨w.heap.size+1,0,none⟩) (by simp) _).setCell (p:=⟨w.heap.size+1,1,none⟩) (by simp) _).setCell (p:=⟨w.heap.size+1,2,none⟩) (by simp) _).setCell (p:=⟨w.heap.size+1,3,none⟩) (by simp) _).setCell (p:=⟨w.heap.size+1,4,none⟩) (by simp) _)
def Dg:List ByteArray:=Ao.map bA
structure Lc (w:World) (A:zo) (c:Nat):Prop where
 cell:w.cell? ⟨0,0,none⟩=some (.slice A 18 c)
 rows:JK w A Dg
theorem Lc.below {A:zo} {c:Nat} (h:Lc w A c) (hb:Below w.heap.size w w'):Lc w' A c:=⟨zA hb h.cell,h.rows.below hb⟩
theorem ZA {x:ByteArray}:preB s x=true↔x.data.toList <+: s.data.toList:=by
 unfold preB Lib.hasPrefix;exact List.isPrefixOf_iff_prefix
theorem MV {i:Int} (h:rV (preB s) Dg i):(i = -1/\Ck s.data.toList=none)\/∃ (k:Nat) (hk:k<Ao.length),i=(k:Int)/\Ck s.data.toList=some Ao[k].length/\s.data.toList.take Ao[k].length=Ao[k]:=by
 have hl:Dg.length=Ao.length:=AAt ..;have hg:∀j (hj:j<Ao.length),(Dg[j]'(by rw[hl];exact hj)).data.toList=Ao[j]:=fun j hj=>by
  simp only[Dg,List.getElem_map];rfl
 have hno:∀j (hj:j<Ao.length),preB s (Dg[j]'(by rw[hl];exact hj))=false->¬ Ao[j] <+: s.data.toList:=fun j hj h hp=>by
  rw[<-hg j hj] at hp;rw[ZA.2 hp] at h;cases h
 rcases h with ⟨h1,h2⟩|⟨k,hk,h1,h2,h3⟩
 ·exact Or.inl ⟨h1,iR fun j hj=>hno j hj (h2 j (by rw[hl];exact hj))⟩
 ·have hk':k<Ao.length:=by rw[<-hl];exact hk
  have hp:=ZA.1 h2;rw[hg k hk'] at hp;have:=aN hk' hp fun j hj=>hno j (Nat.lt_trans hj hk') (h3 j (by rw[hl];omega) hj)
  exact Or.inr ⟨k,hk',h1,this.1,this.2⟩
theorem PZ (h0:s.data.toList=c::r) (hl:BM c=false) (hd:zZ c=false) (hn:(decide (c.toNat=45)&&zZ (r.headD 0))=false) (hc:c.toNat≠34):CP s.data.toList=(Ck s.data.toList).map fun n=>(⟨4,bA (s.data.toList.take n),0,⟨#[]⟩,0⟩,n):=by
 rw[h0,CP,hl,Pd (by simp),hd,hn,Bool.false_or,Pd (by simp),Pd hc]
