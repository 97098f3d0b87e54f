/-
  Schemas that came in, opened: and how much they hold.
-/
import Derived.Test.YtdfolgmcggdjdaaGreatDoorQGA4
import Derived.Test.YtdfolgmcggdjdaaGreatDoorQGI2
import Derived.Test.YtdfolgmcggdjdaaGreatDoorCards
import Derived.Test.YtdfolgmcggdjdaaGreatDoorTie
import Derived.Test.YtdfolgmcggdjdaaGreatDoorQGA5
import Derived.Test.YtdfolgmcggdjdaaGreatDoorQGA3
import Derived.Test.YtdfolgmcggdjdaaGreatDoorQGH1
import Derived.ProofKit
import Derived.Deep.DeepHandedRow
import Derived.Lib.LaidTab
namespace Go.Proofs.YtdfolgmcggdjdaaGreatDoor
open Go.RowKit
set_option maxHeartbeats 16000000
set_option maxRecDepth 100000
def NumPost (w:World) (e:Ending) (w':World):Prop:=∃n:Int,e = .returned (.int .i64 n)∧Below w.heap.size w w'
def BitPost (w:World) (e:Ending) (w':World):Prop:=∃v:Bool,e = .returned (.bool v)∧Below w.heap.size w w'
theorem box8 {W:World} {b:Nat} {y:Val} {E1:zo} {e1:Nat} {E2:zo} {e2:Nat} {E3:zo} {e3:Nat} (hb:W.heap[b]? = some (y.box E1 e1 E2 e2 E3 e3)) :
  W.cell? ⟨b,3,none⟩=some (.string y.str)∧W.cell? ⟨b,5,none⟩=some (.slice E1 y.keys.length e1)∧W.cell? ⟨b,6,none⟩=some (.slice E2 y.items.length e2)∧W.cell? ⟨b,7,none⟩=some (.slice E3 y.rest.length e3):=by
 refine ⟨?_,?_,?_,?_⟩ <;> (rw[cell_of_row _ _ _ _ _ _ hb];rfl)
theorem size07_n:∀ (n:Nat) (x:Val),SizeOf.sizeOf x≤n→∀ (A1:zo) (c1:Nat) (A2:zo) (c2:Nat) (A3:zo) (c3:Nat) (w:World),ValR w x A1 A2 A3 →
  Calls Tryz.prog 43 #[x.v A1 c1 A2 c2 A3 c3] w (NumPost w):=by
 intro n
 induction n with
 | zero=>intro x hx;exact absurd hx (by obtain ⟨k,b,i,s,d,ks,is,r⟩:=x;simp[Val.mk.sizeOf_spec])
 | succ n ih =>
 intro x hx A1 c1 A2 c2 A3 c3 w hr
 have IH:=zh ih;have HX:=zh hx;have HR:=zh hr;have hn1:x.keys.length≤1172812402961:=by have:=hr.keys.1;unfold Lim at this;omega
 have hn2:x.items.length≤1172812402961:=by have:=hr.items.1;unfold Lim at this;omega
 have hn3:x.rest.length≤5864062014805:=by have:=hr.rest.1;unfold Lim at this;omega
 have HB0:=zh (zD w (x.box A1 c1 A2 c2 A3 c3));have HBX:=zh (heap_alloc_new w (x.box A1 c1 A2 c2 A3 c3));clear ih hx hr
 go_enter Tryz.func43,Tryz.ntmps43
 go_wp2
 generalize w.alloc (x.box A1 c1 A2 c2 A3 c3)=W at *
 go_loopw [3,4] (fun a s wr=>∃ (m:Int) (i:Nat),a = .int .i64 m∧i≤x.keys.length∧s = .int .i64 i∧Hid (Below W.heap.size W wr)) (fun _ s _=>x.keys.length - (intOf s).toNat)
 case atStart=>exact ⟨_,0,rfl,by omega,rfl,Below.refl _ _⟩
 case round =>
  obtain ⟨m,i,rfl,hi,rfl,hbw⟩:=hrel;have HBY:=zh ((hbw.out.block _ (zg.1 HBX.out).1).trans HBX.out);obtain ⟨_,b5,_,_⟩:=box8 HBY.out
  by_cases hlt:i<x.keys.length
  ·obtain ⟨b,o,E1,e1,E2,e2,E3,e3,rfl,hvr,a0,a1,a2,a3,a4,a5,a6,a7⟩:=(HR.out.keys.below (zB HB0.out hbw.out)).at8 hlt
   have HSZ:=zh (Nat.le_of_lt_succ (Nat.lt_of_lt_of_le (Val.size_keys (List.getElem_mem hlt)) HX.out));have HVR:=zh hvr;have h1:(0:Int)≤(i:Int):=by omega
   have h2:(i:Int)<(x.keys.length:Int):=by omega
   clear hvr;go_wp2_with fail;refine (IH.out x.keys[i] HSZ.out E1 e1 E2 e2 E3 e3 _ HVR.out).mono ?_;rintro e w2 ⟨k,rfl,hb2⟩;have HB2:=zh (zB hbw.out hb2);clear hb2;go_wp2;go_roundw
   case rel=>exact ⟨_,i+1,rfl,by omega,by go_num,HB2.out⟩
   case measure=>simp[intOf];omega
  ·go_wp2
   go_loopw [3,5] (fun a s wr=>∃ (m:Int) (i:Nat),a = .int .i64 m∧i≤x.items.length∧s = .int .i64 i∧Hid (Below W.heap.size W wr)) (fun _ s _=>x.items.length - (intOf s).toNat)
   case atStart=>exact ⟨_,0,rfl,by omega,rfl,hbw.out⟩
   case round =>
    obtain ⟨m,i,rfl,hi,rfl,hbw⟩:=hrel;have HBY:=zh ((hbw.out.block _ (zg.1 HBX.out).1).trans HBX.out);obtain ⟨_,_,b6,_⟩:=box8 HBY.out
    by_cases hlt:i<x.items.length
    ·obtain ⟨b,o,E1,e1,E2,e2,E3,e3,rfl,hvr,a0,a1,a2,a3,a4,a5,a6,a7⟩:=(HR.out.items.below (zB HB0.out hbw.out)).at8 hlt
     have HSZ:=zh (Nat.le_of_lt_succ (Nat.lt_of_lt_of_le (Val.size_items (List.getElem_mem hlt)) HX.out));have HVR:=zh hvr;have h1:(0:Int)≤(i:Int):=by omega
     have h2:(i:Int)<(x.items.length:Int):=by omega
     clear hvr;go_wp2_with fail;refine (IH.out x.items[i] HSZ.out E1 e1 E2 e2 E3 e3 _ HVR.out).mono ?_;rintro e w2 ⟨k,rfl,hb2⟩;have HB2:=zh (zB hbw.out hb2);clear hb2;go_wp2;go_roundw
     case rel=>exact ⟨_,i+1,rfl,by omega,by go_num,HB2.out⟩
     case measure=>simp[intOf];omega
    ·go_wp2
     go_loopw [3,6] (fun a s wr=>∃ (m:Int) (i:Nat),a = .int .i64 m∧i≤x.rest.length∧s = .int .i64 i∧Hid (Below W.heap.size W wr)) (fun _ s _=>x.rest.length - (intOf s).toNat)
     case atStart=>exact ⟨_,0,rfl,by omega,rfl,hbw.out⟩
     case round =>
      obtain ⟨m,i,rfl,hi,rfl,hbw⟩:=hrel;have HBY:=zh ((hbw.out.block _ (zg.1 HBX.out).1).trans HBX.out);obtain ⟨_,_,_,b7⟩:=box8 HBY.out
      by_cases hlt:i<x.rest.length
      ·obtain ⟨b,o,rfl,_,a0,a1⟩:=(HR.out.rest.below (zB HB0.out hbw.out)).at2 hlt
       have h1:(0:Int)≤(i:Int):=by omega
       have h2:(i:Int)<(x.rest.length:Int):=by omega
       go_wp2
       go_roundw
       case rel=>exact ⟨_,i+1,rfl,by omega,by go_num,hbw.out⟩
       case measure=>simp[intOf];omega
      ·go_wp2
       go_ret
       exact ⟨_,rfl,zB HB0.out hbw.out⟩
theorem size07_any (x:Val) (A1:zo) (c1:Nat) (A2:zo) (c2:Nat) (A3:zo) (c3:Nat) (w:World) (h:ValR w x A1 A2 A3):Calls Tryz.prog 43 #[x.v A1 c1 A2 c2 A3 c3] w (NumPost w) :=
 size07_n _ x (Nat.le_refl _) A1 c1 A2 c2 A3 c3 w h
theorem ten_below {wo w':World} {x0 x1 x2 x3 x4 x5 x6 x7 x8 x9:Addr} {v0 v1 v2 v3 v4 v5 v6 v7 v8 v9:Value} (hb:Below wo.heap.size wo w') (h:wo.cell? x0=some v0∧wo.cell? x1=some v1∧wo.cell? x2=some v2∧wo.cell? x3=some v3∧wo.cell? x4=some v4∧wo.cell? x5=some v5∧wo.cell? x6=some v6∧wo.cell? x7=some v7∧wo.cell? x8=some v8∧wo.cell? x9=some v9) :
  (w'.cell? x0=some v0∧w'.cell? x1=some v1∧w'.cell? x2=some v2∧w'.cell? x3=some v3∧w'.cell? x4=some v4∧w'.cell? x5=some v5∧w'.cell? x6=some v6∧w'.cell? x7=some v7∧w'.cell? x8=some v8∧w'.cell? x9=some v9)∧Hid (Below wo.heap.size wo w'):=by
 have hk:∀ {x:Addr} {v:Value},wo.cell? x=some v→w'.cell? x=some v:=fun {x v} h=>(hb.cell (zN h)).trans h
 obtain ⟨h0,h1,h2,h3,h4,h5,h6,h7,h8,h9⟩:=h;exact ⟨⟨hk h0,hk h1,hk h2,hk h3,hk h4,hk h5,hk h6,hk h7,hk h8,hk h9⟩,hb⟩
theorem few07_any (s:List TyD) (A:zo) (c:Nat) (w:World) (hs:TysR w A s):Calls Tryz.prog 15 #[.agg #[.slice A s.length c]] w (BitPost w):=by
 have hn:s.length≤1172812402961:=by have:=hs.1;unfold Lim at this;omega
 have HS:=zh hs;have HB0:=zh (zD w (.cells #[.slice A s.length c] 27));have HC0:Hid ((w.alloc (.cells #[.slice A s.length c] 27)).cell? ⟨w.heap.size,0,none⟩=some (.slice A s.length c)):=by show _=_;rw[cell_of_row _ _ _ _ _ _ (heap_alloc_new w _)];rfl
 clear hs
 by_cases h40:40<s.length
 ·have g40:(40:Int)<(s.length:Int):=by omega
  go_enter Tryz.func15,Tryz.ntmps15
  go_wp2
  go_ret
  exact ⟨_,rfl,HB0.out⟩
 have g40:¬ (40:Int)<(s.length:Int):=by omega
 go_enter Tryz.func15,Tryz.ntmps15
 go_wp2
 generalize w.alloc (.cells #[.slice A s.length c] 27)=W at *
 go_loopw [3,4] (fun a q wr=>∃ (m:Int) (i:Nat),a = .int .i64 m∧i≤s.length∧q = .int .i64 i∧Hid (Below W.heap.size W wr)) (fun _ q _=>s.length - (intOf q).toNat)
 case atStart=>exact ⟨_,0,rfl,by omega,rfl,Below.refl _ _⟩
 case round =>
  obtain ⟨m,i,rfl,hi,rfl,hbw⟩:=hrel;obtain ⟨wo,rfl⟩:∃wo:World,wo=wr:=⟨_,rfl⟩;have k0:=zA hbw.out HC0.out
  by_cases hlt:i<s.length
  case neg =>
   go_wp2
   go_ret
   exact ⟨_,rfl,zB HB0.out hbw.out⟩
  obtain ⟨b,o,As,cs,Am,cm,rfl,htr,t0,t1,t2,t3,t4,t5,t6,t7,t8,t9⟩:=(HS.out.below (zB HB0.out hbw.out)).at10 hlt;have hmn:(s[i]).mems.length≤879609302220:=by have:=htr.mems.1;unfold Lim at this;omega
  have HTM:=zh (htr.mems.below (zD wo ((s[i]).box As cs Am cm)));have HTB:Hid (((wo.alloc ((s[i]).box As cs Am cm)).cell? ⟨wo.heap.size,6,none⟩=some (.slice Am (s[i]).mems.length cm))):=by show _=_;rw[cell_of_row _ _ _ _ _ _ (heap_alloc_new wo _)];rfl
  have HBB:=zh (zB hbw.out (zD wo ((s[i]).box As cs Am cm)));have h1:(0:Int)≤(i:Int):=by omega
  have h2:(i:Int)<(s.length:Int):=by omega
  have z1:=zN k0;have z2:=zN t0;simp only at z1 z2;clear htr;go_wp2;clear k0 t0 t1 t2 t3 t4 t5 t6 t7 t8 t9 z1 z2;generalize wo.alloc ((s[i]).box As cs Am cm)=wb at *
  go_loopw [3,6] (fun a q wr=>∃ (m:Int) (j:Nat),a = .int .i64 m∧j≤(s[i]).mems.length∧q = .int .i64 j∧Hid (Below wb.heap.size wb wr)) (fun _ q _=>(s[i]).mems.length - (intOf q).toNat)
  case atStart=>exact ⟨_,0,rfl,by omega,rfl,Below.refl _ _⟩
  case round =>
   obtain ⟨m,j,rfl,hj,rfl,hbj⟩:=hrel;obtain ⟨wi,rfl⟩:∃wi:World,wi=wr:=⟨_,rfl⟩;have k6:=zA hbj.out HTB.out
   by_cases hlm:j<(s[i]).mems.length
   case neg =>
    have hd':decide ((j:Int)<((s[i]).mems.length:Int))=false:=by simp;omega
    go_wp2
    go_roundw
    case rel=>exact ⟨_,i+1,rfl,by omega,by go_num,zB HBB.out hbj.out⟩
    case measure=>simp[intOf];omega
   by_cases h100:(j:Int)<100
   case neg =>
    have h3:(j:Int)<((s[i]).mems.length:Int):=by omega
    go_wp2
    go_roundw
    case rel=>exact ⟨_,i+1,rfl,by omega,by go_num,zB HBB.out hbj.out⟩
    case measure=>simp[intOf];omega
   obtain ⟨bm,om,E1,e1,E2,e2,E3,e3,rfl,hmr,a0,a1,a2,a3,a4,a5,a6,a7,a8,a9,a10,a11,a12⟩:=(HTM.out.below hbj.out).at13 hlm;have HMR:=zh hmr;have HTEN:=zh (And.intro k6 (And.intro a1 (And.intro a5 (And.intro a6 (And.intro a7 (And.intro a8 (And.intro a9 (And.intro a10 (And.intro a11 a12)))))))));have h3:(0:Int)≤(j:Int):=by omega
   have h4:(j:Int)<((s[i]).mems.length:Int):=by omega
   clear hmr a0 a1 a2 a3 a4 a5 a6 a7 a8 a9 a10 a11 a12;go_wp2_with fail;clear k6
   refine wp_region_held_drew (S:=(fun w'=>(w'.cell? ⟨wo.heap.size,6,none⟩=some (.slice (some ⟨bm,om,none⟩) (s[i]).mems.length cm)∧w'.cell? ⟨bm,om+j * 13+1,none⟩=some (.string ((s[i]).mems[j]).name)∧w'.cell? ⟨bm,om+j * 13+5,none⟩=some (.int .i64 ((s[i]).mems[j]).dflt.kind)∧w'.cell? ⟨bm,om+j * 13+6,none⟩=some (.bool ((s[i]).mems[j]).dflt.bool)∧w'.cell? ⟨bm,om+j * 13+7,none⟩=some (.int .i64 ((s[i]).mems[j]).dflt.int)∧w'.cell? ⟨bm,om+j * 13+8,none⟩=some (.string ((s[i]).mems[j]).dflt.str)∧w'.cell? ⟨bm,om+j * 13+9,none⟩=some (.int .i64 ((s[i]).mems[j]).dflt.id)∧w'.cell? ⟨bm,om+j * 13+10,none⟩=some (.slice E1 ((s[i]).mems[j]).dflt.keys.length e1)∧w'.cell? ⟨bm,om+j * 13+11,none⟩=some (.slice E2 ((s[i]).mems[j]).dflt.items.length e2)∧w'.cell? ⟨bm,om+j * 13+12,none⟩=some (.slice E3 ((s[i]).mems[j]).dflt.rest.length e3))∧Hid (Below wi.heap.size wi w'))) (by kernel_rfl) ?_ (fun zH_=>?_)
   ·(try dsimp only);exact ten_below (zC (Below.refl _ _) 1) HTEN.out
   refine tL 0 ?_;refine tL 1 ?_;refine tL 2 ?_;refine tL 3 ?_;refine tL 4 ?_;refine tL 5 ?_;try simp only[ps]
   refine tL 6 ?_;refine tL 9 ?_;refine tL 10 ?_;refine tL 11 ?_;refine tL 12 ?_;refine tL 13 ?_;try simp only[ps]
   refine tL 14 ?_;refine tL 15 ?_;refine tR 7 (fun K hK=>?_)
   go_simp
   (refine (size07_any ((s[i]).mems[j]).dflt E1 e1 E2 e2 E3 e3 _ (HMR.out.dflt.below zH_.2.out)).mono ?_;rintro e w5 ⟨k5,rfl,hb5⟩;have HB5:=zh (zB zH_.2.out hb5);clear hb5)
   refine hK.out _ _ ?_ (fun zH_=>?_)
   ·(try dsimp only);exact ten_below HB5.out HTEN.out
   clear hK K;refine tL 8 ?_;refine tL 16 ?_;refine tL 17 ?_;try simp only[ps]
   refine wpAnyH_done (by kernel_rfl) ?_ _
   clear zH_;go_wp2;go_roundw
   case rel=>exact ⟨_,j+1,rfl,by omega,by go_num,zB hbj.out HB5.out⟩
   case measure=>simp[intOf];omega
open Go.ChangeShapes Go.WideShapes Go.ChangeAt Go.RowKit Go.Deep
set_option maxRecDepth 100000
theorem own:ownKnob Tryz.prog.godebug=none:=by kernel_rfl
theorem laidOut:laidOutB Tryz.prog=true:=by kernel_rfl
section
variable {H:Type} {enc:TypeId×Value→H}
def Stays (ts:List TypeId):Prop:=∀t∈ts,Tryz.prog.readableRec t=true∧t<Tryz.prog.types.size
theorem trodAll_stays {W W':World} (hb:Below W.heap.size W W') (sp:Nat→Bool):∀ (ts:List TypeId) (vs:List Value) (ds:List (DataW H)) (ps:List MemPlace),
  Stays ts→DataW.TrodAll enc Tryz.prog W 0 (fun _=>true) true ts vs ds ps→(∀p∈ps,p.block<W.heap.size)→(∀p∈ps,sp p.block=true)→DataW.TrodAll enc Tryz.prog W' 0 sp true ts vs ds ps
 | [],[],[],ps,_,h,_,_=>h
 | t::ts,v::vs,d::ds,ps,hs,h,hlt,hsp=>by
  obtain ⟨p,q,h1,h2,rfl⟩:=h;have hs':(Tryz.prog.readableRec t=true∧t<Tryz.prog.types.size)∧Stays ts:=⟨hs t (List.mem_cons_self ..),fun u hu=>hs u (List.mem_cons_of_mem _ hu)⟩
  refine ⟨p,q,WideElems.Trod_stays laidOut hs'.1.1 hs'.1.2 h1 (fun x hx=>hb.same (hlt x (List.mem_append_left _ hx))) (fun x hx=>hsp x (List.mem_append_left _ hx)),trodAll_stays hb sp ts vs ds q hs'.2 h2 (fun x hx=>hlt x (List.mem_append_right _ hx)) (fun x hx=>hsp x (List.mem_append_right _ hx)),rfl⟩
 | [],[],_::_,_,_,h,_,_=>by cases h
 | [],_::_,_,_,_,h,_,_=>by cases h
 | _::_,[],_,_,_,h,_,_=>by cases h
 | _::_,_::_,[],_,_,h,_,_=>by cases h
theorem law_post {f:Func} {s:ChangeSpec} {W W':World} {args:Array Value} {ds gs:List (DataW H)} {before:List MemPlace} (hv:s.vars=[]) (hrt:f.resultTypes = #[4])
  (hfn:(s.fn H ds).results=[.lit (.bool true)]∧(s.fn H ds).args=ds∧(s.fn H ds).vars=[]) (hst:Stays f.params.toList)
  (hW:DataW.Whole enc Tryz.prog f.params.toList s.vars false W args.toList ds gs before) (hb:Below W.heap.size W W') :
  s.post enc Tryz.prog f false true false false W args (.bool true) W':=by
 have hlt:∀p∈before,p.block<W.heap.size:=fun p hp=>hW.lt p hp
 have hW0:=hW;obtain ⟨p,q,h1,h2,rfl,h4,h5⟩:=hW;rw[hv] at h2;obtain ⟨rfl,rfl⟩:=trodVars_none h2;have hold:∀x∈p++[],(fun b=>decide (b<W.heap.size)) x.block=true:=fun x hx=>by simpa using hlt x hx
 have hres:∀ (b:Nat) (sp:Nat→Bool) (hd:Bool),DataW.TrodAll enc Tryz.prog W' b sp hd f.resultTypes.toList ((Value.bool true).resultList f.resultTypes.size) (s.fn H (ds++[])).results []:=fun b sp hd=>by
  rw[List.append_nil,hfn.1,hrt];exact trodAll_cons_mk (shut_bool Tryz.underlying4 _) trodAll_mk0
 have hargs:∀sp:Nat→Bool,(∀x∈p++[],sp x.block=true)→DataW.TrodAll enc Tryz.prog W' 0 sp true f.params.toList args.toList (s.fn H (ds++[])).args p:=fun sp hsp=>by
  rw[List.append_nil,hfn.2.1];exact trodAll_stays hb sp _ _ _ _ hst h1 (fun x hx=>hlt x (List.mem_append_left _ hx)) (fun x hx=>hsp x (List.mem_append_left _ hx))
 have hvars:∀sp:Nat→Bool,DataW.TrodVars enc Tryz.prog W' sp s.vars (s.fn H (ds++[])).vars []:=fun sp=>by
  rw[List.append_nil,hfn.2.2,hv];rfl
 refine ⟨ds,[],p++[],[],p,[],hW0,hres _ _ _,hargs _ hold,hvars _,World.keptBut_mono (fun x hx=>⟨hx,Or.inr (List.mem_append.1 hx)⟩) (hb.frame (· ∈ p++[])),fun _=>?_⟩
 refine ⟨ok_one hrt rfl (okWide_bool_mk Tryz.underlying4 _),_,_,([]++p)++[],⟨[]++p,[],trodAll_append (hargs _ (fun _ _=>rfl)) (hres _ _ _),hvars _,rfl,?_,?_⟩,?_⟩
 ·intro b off hp
  have hin:MemPlace.cell b off∈p++[]:=by simpa using hp
  rw[hb.frozen (hlt _ hin)];exact h4 b off hin
 ·intro ha;cases ha
 ·intro x hx _
  simpa using hx
theorem in64_of {n:Int} (h:(Lit.int .i64 n).wf=true):In64 n:=by
 have h':(decide (IntKind.i64.min≤n)&&decide (n≤IntKind.i64.max))=true:=h;simp only[Bool.and_eq_true,decide_eq_true_eq] at h';exact ⟨h'.1,h'.2⟩
theorem tab_of_laid {W : World} (h : laidMetH Tryz.prog [("math/bits.deBruijn32tab", Rows.laid_math_bits_deBruijn32tab), ("math/bits.deBruijn64tab", Rows.laid_math_bits_deBruijn64tab), ("internal/strconv.uint64pow10", Rows.laid_internal_strconv_uint64pow10)] W) : Tab W := by
 have h' : laidMet Tryz.prog [("math/bits.deBruijn32tab", Rows.laid_math_bits_deBruijn32tab), ("math/bits.deBruijn64tab", Rows.laid_math_bits_deBruijn64tab), ("internal/strconv.uint64pow10", Rows.laid_internal_strconv_uint64pow10)] W := h;obtain ⟨ps,⟨_,_,_,_,_,_,_,_,_,_,⟨_,_,_,_,_,_,_,_,_,_,⟨g,t,cs,fuel,p,q,hg,ht,hvar,hd,_,_⟩,_⟩,_⟩,_⟩:=h'
 have hg1 : Tryz.prog.globalNamed "internal/strconv.uint64pow10" = some 0 := by kernel_rfl
 have ht1:(Tryz.prog.globals[0]?).map (·.type)=some 185:=by kernel_rfl
 obtain rfl:=Option.some.inj (hg1.symm.trans hg);obtain rfl:=Option.some.inj (ht1.symm.trans ht);unfold Tab Lib.TabIs;rw[hvar,←Lib.cells_of_tab Tryz.underlying185 Tryz.underlying129 (by kernel_rfl) (by kernel_rfl) hd]
end
open Go.ChangeShapes Go.WideShapes Go.ChangeAt Go.RowKit
set_option maxRecDepth 100000
def fillRow (cs:Array Value):Obj→Obj
 | .cells _ t frozen => .cells cs t frozen
 | o=>o
noncomputable def laidWorld (os:Os):World :=
 { World.holding Tryz.prog os ⟨#[],#[],[]⟩ with heap:=(((World.holding Tryz.prog os ⟨#[],#[],[]⟩).heap.modify 0 (fillRow #[.int .u64 1,.int .u64 10,.int .u64 100,.int .u64 1000,.int .u64 10000,.int .u64 100000,.int .u64 1000000,.int .u64 10000000,.int .u64 100000000,.int .u64 1000000000,.int .u64 10000000000,.int .u64 100000000000,.int .u64 1000000000000,.int .u64 10000000000000,.int .u64 100000000000000,.int .u64 1000000000000000,.int .u64 10000000000000000,.int .u64 100000000000000000,.int .u64 1000000000000000000,.int .u64 10000000000000000000])).modify 2 (fillRow #[.int .u8 0,.int .u8 1,.int .u8 28,.int .u8 2,.int .u8 29,.int .u8 14,.int .u8 24,.int .u8 3,.int .u8 30,.int .u8 22,.int .u8 20,.int .u8 15,.int .u8 25,.int .u8 17,.int .u8 4,.int .u8 8,.int .u8 31,.int .u8 27,.int .u8 13,.int .u8 23,.int .u8 21,.int .u8 19,.int .u8 16,.int .u8 7,.int .u8 26,.int .u8 12,.int .u8 18,.int .u8 6,.int .u8 11,.int .u8 5,.int .u8 10,.int .u8 9])).modify 3 (fillRow #[.int .u8 0,.int .u8 1,.int .u8 56,.int .u8 2,.int .u8 57,.int .u8 49,.int .u8 28,.int .u8 3,.int .u8 61,.int .u8 58,.int .u8 42,.int .u8 50,.int .u8 38,.int .u8 29,.int .u8 17,.int .u8 4,.int .u8 62,.int .u8 47,.int .u8 59,.int .u8 36,.int .u8 45,.int .u8 43,.int .u8 51,.int .u8 22,.int .u8 53,.int .u8 39,.int .u8 33,.int .u8 30,.int .u8 24,.int .u8 18,.int .u8 12,.int .u8 5,.int .u8 63,.int .u8 55,.int .u8 48,.int .u8 27,.int .u8 60,.int .u8 41,.int .u8 37,.int .u8 16,.int .u8 46,.int .u8 35,.int .u8 44,.int .u8 21,.int .u8 52,.int .u8 32,.int .u8 23,.int .u8 11,.int .u8 54,.int .u8 26,.int .u8 40,.int .u8 15,.int .u8 34,.int .u8 20,.int .u8 31,.int .u8 10,.int .u8 25,.int .u8 14,.int .u8 19,.int .u8 9,.int .u8 13,.int .u8 8,.int .u8 7,.int .u8 6]) }
section
variable {W:World}
end
open Go.ChangeShapes Go.WideShapes Go.ChangeAt Go.RowKit Go.Deep
set_option maxRecDepth 100000
section
variable {H:Type} {enc:TypeId×Value→H} {W:World}
theorem bulk_one (d:DataW H):1≤Rows.uptoBulk d:=by
 cases d with
 | lit l=>cases l <;> simp[Rows.uptoBulk]
 | nil=>simp[Rows.uptoBulk]
 | ptr d=>simp[Rows.uptoBulk]
 | slice elems spare=>simp[Rows.uptoBulk]
 | agg parts=>simp[Rows.uptoBulk]
 | iface t d=>simp[Rows.uptoBulk]
 | map entries=>simp[Rows.uptoBulk]
 | held h=>simp[Rows.uptoBulk]
theorem bulk_part {d:DataW H} {l:List (DataW H)} (h:d∈l):Rows.uptoBulk d≤Rows.uptoBulkAll l:=by
 induction l with
 | nil=>cases h
 | cons x r ih =>
  simp only[Rows.uptoBulkAll]
  rcases List.mem_cons.1 h with e|e
  ·subst e;omega
  ·have:=ih e;omega
theorem bulk_agg {d:DataW H} {l:List (DataW H)} (h:d∈l):Rows.uptoBulk d≤Rows.uptoBulk (DataW.agg l):=by
 have:=bulk_part h;rw[Rows.uptoBulk];omega
theorem bulk_str (bytes:List UInt8):Rows.uptoBulk (DataW.lit (H:=H) (.string bytes))=bytes.length+1:=by simp[Rows.uptoBulk]
theorem bulk_all:∀l:List (DataW H),Rows.uptoBulkAll l=(l.map Rows.uptoBulk).sum
 | []=>rfl
 | x::l=>by rw[Rows.uptoBulkAll,bulk_all l,List.map_cons,List.sum_cons]
theorem bulk_sum {α:Type} (wt:α→Nat) (f:Nat→α) (D:Nat→DataW H):∀ (len:Nat),(∀i,i<len→wt (f i)≤Rows.uptoBulk (D i))→(((List.range len).map f).map wt).sum≤Rows.uptoBulkAll ((List.range len).map D)
 | 0,_=>Nat.zero_le _
 | len+1,h=>by
  have h1:=bulk_sum wt f D len fun i hi=>h i (by omega)
  have h2:=h len (by omega)
  rw[bulk_all] at h1 ⊢;rw[List.range_succ,List.map_append,List.map_append,List.map_append,List.map_append,List.sum_append,List.sum_append];simp only[List.map_cons,List.map_nil,List.sum_cons,List.sum_nil]
  omega
theorem sum_mem {α:Type} {f:α→Nat} {x:α}:∀ {l:List α},x∈l→f x≤(l.map f).sum
 | y::l,h=>by
  rw[List.map_cons,List.sum_cons]
  rcases List.mem_cons.1 h with e|e
  ·subst e;omega
  ·have:=sum_mem (f:=f) e;omega
theorem open_rowsW {α:Type} [Inhabited α] {T E:TypeId} {k bytes:Nat} (hu:Tryz.prog.underlying T=some (.slice E)) (hk:Tryz.prog.cellsOf E=k) (hby:Tryz.prog.bytesOf E=bytes) (hk0:0<k) {at_:α→List Value→Prop} (wt:α→Nat) (hlen:∀y cs,at_ y cs→cs.length=k)
  {n:Nat} {cs:List Value} {d:DataW H} {ps:List MemPlace} (h:DataW.trod enc Tryz.prog W 0 (fun _=>true) true n T cs=some (d,ps)) (hz:Sz T d)
  (hel:∀d':DataW H,SizeOf.sizeOf d'<SizeOf.sizeOf d→Rows.uptoBulk d'≤Rows.uptoBulk d→∀n' cs' ps',DataW.trod enc Tryz.prog W 0 (fun _=>true) true n' E cs'=some (d',ps')→Sz E d'→∃y,at_ y cs'∧wt y≤Rows.uptoBulk d') :
  ∃ (A:zo) (c:Nat) (l:List α),cs=[.slice A l.length c]∧RowsR k bytes at_ W A l∧(l.map wt).sum+1≤Rows.uptoBulk d:=by
 rcases open_slice hu h with ⟨hcs,_⟩|⟨a,len,cap,m,n',D,Pl,hcs,_,hlc,hcm,hm,hx,hi⟩
 ·exact ⟨none,0,[],hcs,RowsR.nil _ _ _ _ _,bulk_one d⟩
 ·have hd:d = .slice ((List.range len).map D) ((List.range (m - len)).map fun j=>D (len+j)):=by
   have:=congrArg Prod.fst hx;exact this
  rw[hk] at hi;have hlm:len≤m:=by rw[hm];simp only[if_true];omega
  have hw:∀w∈(((List.range len).map D).length+((List.range (m - len)).map fun j=>D (len+j)).length) * bytes::(DataW.weightsAll Tryz.prog E ((List.range len).map D)++DataW.weightsAll Tryz.prog E ((List.range (m - len)).map fun j=>D (len+j))),w≤reachBytes:=by
   intro w hw
   refine hz w ?_;rw[hd,DataW.weights,hu];rw[←hby] at hw;exact hw
  have hbig:=hw _ List.mem_cons_self;have hall:=sz_all (fun w h=>hw w (List.mem_cons_of_mem _ (List.mem_append_left _ h)))
  have hLim:Lim bytes len:=by
   unfold Lim;have h1:len * bytes≤(((List.range len).map D).length+((List.range (m - len)).map fun j=>D (len+j)).length) * bytes:=Nat.mul_le_mul_right _ (by simp)
   have h2:reachBytes≤140737488355328:=by decide
   omega
  have each:∀i,∃y:α,i<len→wt y≤Rows.uptoBulk (D i)∧∃cs',at_ y cs'∧∀j,j<k→W.cell? ((a.add (i * k)).add j)=cs'[j]? := fun i=>by
   by_cases hl:i<len
   ·obtain ⟨cs',hcell,ht⟩:=hi i (by omega)
    have hmem:D i∈(List.range len).map D:=List.mem_map.2 ⟨i,List.mem_range.2 hl,rfl⟩;have hbk:Rows.uptoBulk (D i)≤Rows.uptoBulk d:=by rw[hd];have:=bulk_part hmem;rw[Rows.uptoBulk];omega
    obtain ⟨y,hy,hyw⟩:=hel (D i) (by rw[hd];have:=List.sizeOf_lt_of_mem hmem;simp only[DataW.slice.sizeOf_spec];omega) hbk n' cs' (Pl i) ht (hall _ hmem)
    exact ⟨y,fun _=>⟨hyw,cs',hy,(World.cells?_some hcell).2.2⟩⟩
   ·exact ⟨default,fun h=>absurd h hl⟩
  obtain ⟨f,hf⟩:=Classical.skolem.1 each;have hlenr:((List.range len).map f).length=len:=by simp
  refine ⟨some a,cap,(List.range len).map f,by rw[hlenr];exact hcs,⟨by rw[hlenr];exact hLim,fun hne=>?_⟩,?_⟩
  case refine_2 =>
   rw[hd,Rows.uptoBulk];have hsum:=bulk_sum wt f D len fun i hi=>(hf i hi).1
   omega
  have hpos:0<len:=by
   rcases Nat.eq_zero_or_pos len with e|e
   ·subst e;exact absurd rfl hne
   ·exact e
  have hsp:a.spot=none:=by
   obtain ⟨_,cs0,h0,h1⟩:=hf 0 hpos;have h2:=h1 0 hk0;have hl:=hlen _ _ h0;rw[zl (by omega)] at h2
   have ea:(a.add (0 * k)).add 0=a:=by simp[Addr.add]
   rw[ea] at h2;exact spot_none h2
  obtain ⟨b,o,s⟩:=a;simp only at hsp;subst hsp;refine ⟨b,o,rfl,fun i y hy=>?_⟩
  have hi':i<len:=by
   have:=(List.getElem?_eq_some_iff.1 hy).1
   rwa [hlenr] at this
  have hyf:y=f i:=by
   rw[List.getElem?_map,List.getElem?_range hi'] at hy;exact (Option.some.inj hy).symm
  subst hyf;obtain ⟨_,cs',h1,h2⟩:=hf i hi';refine ⟨cs',h1,fun j u hj=>?_⟩
  have hjk:j<k:=by rw[←hlen _ _ h1];exact (List.getElem?_eq_some_iff.1 hj).1
  have:=h2 j hjk;rw[Addr.add_mid,Addr.add_mid] at this;rw[this,hj]
theorem open_rawW {n:Nat} {cs:List Value} {d:DataW H} {ps:List MemPlace} (h:DataW.trod enc Tryz.prog W 0 (fun _=>true) true n 124 cs=some (d,ps)):∃r:RawD,r.At cs∧1+r.data.size≤Rows.uptoBulk d:=by
 obtain ⟨xs,m,_,hx,hlen,hxl,hf⟩:=DataW.trod_struct Tryz.underlying124 h;have hdd:d = .agg (xs.map (·.1)):=congrArg Prod.fst hx;subst hdd;have hc:Tryz.prog.cellsOf 124=2:=by kernel_rfl
 have hci:Tryz.prog.cellsOf 3=1:=by kernel_rfl
 have hcs:Tryz.prog.cellsOf 9=1:=by kernel_rfl
 rw[hc] at hlen;simp only[List.size_toArray,List.length_cons,List.length_nil] at hxl
 match cs,hlen,xs,hxl with
 | [c0,c1],_,[x0,x1],_ =>
  have h0:DataW.trod enc Tryz.prog W 0 (fun _=>true) true m 3 (([c0,c1].drop 0).take (Tryz.prog.cellsOf 3))=some x0:=hf 0 _ rfl
  rw[hci] at h0;have h1:DataW.trod enc Tryz.prog W 0 (fun _=>true) true m 9 (([c0,c1].drop 1).take (Tryz.prog.cellsOf 9))=some x1:=hf 1 _ rfl
  rw[hcs] at h1;obtain ⟨z,hz,_,_⟩:=DataW.trod_int Tryz.underlying3 h0;obtain ⟨s,hs,hxs,hsz⟩:=DataW.trod_string Tryz.underlying9 h1
  injection (show [c0]=[Value.int .i64 z] from hz) with gz _
  injection (show [c1]=[Value.string s] from hs) with gs _
  subst gz;subst gs;refine ⟨⟨z,s⟩,⟨sok_of hsz,rfl⟩,?_⟩;have hb:=bulk_part (d:=x1.1) (l:=[x0,x1].map (·.1)) (by simp)
  rw[hxs] at hb;rw[Rows.uptoBulk];have h2:Rows.uptoBulk (DataW.lit (H:=H) (.string s.data.toList))=s.size+1:=by rw[bulk_str];rfl
  rw[hxs];simp only at hb;rw[h2] at hb
  show 1+s.size≤_
  rw[hxs] at *
  omega
theorem open_valW:∀ (k:Nat) (d:DataW H),SizeOf.sizeOf d≤k→∀ (n:Nat) (cs:List Value) (ps:List MemPlace),DataW.trod enc Tryz.prog W 0 (fun _=>true) true n 69 cs=some (d,ps)→Sz 69 d→∃x:Val,x.At W cs∧wV x≤Rows.uptoBulk d:=by
 intro k
 induction k with
 | zero=>intro d hd n cs ps h hz;exact absurd hd (by cases d <;> simp)
 | succ k ih =>
  intro d hd n cs ps h hz
  obtain ⟨xs,m,_,hx,hlen,hxl,hf⟩:=DataW.trod_struct Tryz.underlying69 h;have hdd:d = .agg (xs.map (·.1)):=congrArg Prod.fst hx;subst hdd;have hc:Tryz.prog.cellsOf 69=8:=by kernel_rfl
  have hci:Tryz.prog.cellsOf 3=1:=by kernel_rfl
  have hci64:Tryz.prog.cellsOf 2=1:=by kernel_rfl
  have hcb:Tryz.prog.cellsOf 4=1:=by kernel_rfl
  have hcs:Tryz.prog.cellsOf 9=1:=by kernel_rfl
  have hcv:Tryz.prog.cellsOf 66=1:=by kernel_rfl
  have hcr:Tryz.prog.cellsOf 67=1:=by kernel_rfl
  have hsz:=sz_parts Tryz.underlying69 hz;rw[hc] at hlen;simp only[List.size_toArray,List.length_cons,List.length_nil] at hxl
  match cs,hlen,xs,hxl with
  | [c0,c1,c2,c3,c4,c5,c6,c7],_,[x0,x1,x2,x3,x4,x5,x6,x7],_ =>
   have h0:DataW.trod enc Tryz.prog W 0 (fun _=>true) true m 3 (([c0,c1,c2,c3,c4,c5,c6,c7].drop 0).take (Tryz.prog.cellsOf 3))=some x0:=hf 0 _ rfl
   rw[hci] at h0;have h1:DataW.trod enc Tryz.prog W 0 (fun _=>true) true m 4 (([c0,c1,c2,c3,c4,c5,c6,c7].drop 1).take (Tryz.prog.cellsOf 4))=some x1:=hf 1 _ rfl
   rw[hcb] at h1;have h2:DataW.trod enc Tryz.prog W 0 (fun _=>true) true m 2 (([c0,c1,c2,c3,c4,c5,c6,c7].drop 2).take (Tryz.prog.cellsOf 2))=some x2:=hf 2 _ rfl
   rw[hci64] at h2;have h3:DataW.trod enc Tryz.prog W 0 (fun _=>true) true m 9 (([c0,c1,c2,c3,c4,c5,c6,c7].drop 3).take (Tryz.prog.cellsOf 9))=some x3:=hf 3 _ rfl
   rw[hcs] at h3;have h4:DataW.trod enc Tryz.prog W 0 (fun _=>true) true m 3 (([c0,c1,c2,c3,c4,c5,c6,c7].drop 4).take (Tryz.prog.cellsOf 3))=some x4:=hf 4 _ rfl
   rw[hci] at h4;have h5:DataW.trod enc Tryz.prog W 0 (fun _=>true) true m 66 (([c0,c1,c2,c3,c4,c5,c6,c7].drop 5).take (Tryz.prog.cellsOf 66))=some x5:=hf 5 _ rfl
   rw[hcv] at h5;have h6:DataW.trod enc Tryz.prog W 0 (fun _=>true) true m 66 (([c0,c1,c2,c3,c4,c5,c6,c7].drop 6).take (Tryz.prog.cellsOf 66))=some x6:=hf 6 _ rfl
   rw[hcv] at h6;have h7:DataW.trod enc Tryz.prog W 0 (fun _=>true) true m 67 (([c0,c1,c2,c3,c4,c5,c6,c7].drop 7).take (Tryz.prog.cellsOf 67))=some x7:=hf 7 _ rfl
   rw[hcr] at h7;obtain ⟨z0,e0,_,_⟩:=DataW.trod_int Tryz.underlying3 h0;obtain ⟨z1,e1,_⟩:=DataW.trod_bool Tryz.underlying4 h1;obtain ⟨z2,e2,_,_⟩:=DataW.trod_int Tryz.underlying2 h2;obtain ⟨z3,e3,x3e,s3⟩:=DataW.trod_string Tryz.underlying9 h3;obtain ⟨z4,e4,_,_⟩:=DataW.trod_int Tryz.underlying3 h4
   have hl5:SizeOf.sizeOf x5.1<SizeOf.sizeOf (DataW.agg ([x0,x1,x2,x3,x4,x5,x6,x7].map (·.1))):=agg_lt (by simp)
   have hl6:SizeOf.sizeOf x6.1<SizeOf.sizeOf (DataW.agg ([x0,x1,x2,x3,x4,x5,x6,x7].map (·.1))):=agg_lt (by simp)
   obtain ⟨A1,c1',l1,e5,r5,b5⟩:=open_rowsW (α:=Val) (bytes:=120) Tryz.underlying66 hc (by kernel_rfl) (by omega) (at_:=fun x cs=>Val.At W x cs) wV (fun y cs hy=>by obtain ⟨A1,c1,A2,c2,A3,c3,rfl,_⟩:=Val.at_iff.1 hy;rfl) (d:=x5.1) (ps:=x5.2) h5 (sz_each hsz 5 _ _ rfl rfl) (fun d' hd' _ n' cs' ps' ht hz'=>ih d' (by omega) n' cs' ps' ht hz')
   obtain ⟨A2,c2',l2,e6,r6,b6⟩:=open_rowsW (α:=Val) (bytes:=120) Tryz.underlying66 hc (by kernel_rfl) (by omega) (at_:=fun x cs=>Val.At W x cs) wV (fun y cs hy=>by obtain ⟨A1,c1,A2,c2,A3,c3,rfl,_⟩:=Val.at_iff.1 hy;rfl) (d:=x6.1) (ps:=x6.2) h6 (sz_each hsz 6 _ _ rfl rfl) (fun d' hd' _ n' cs' ps' ht hz'=>ih d' (by omega) n' cs' ps' ht hz')
   obtain ⟨A3,c3',l3,e7,r7,b7⟩:=open_rowsW (α:=RawD) (bytes:=24) Tryz.underlying67 (show Tryz.prog.cellsOf 124=2 by kernel_rfl) (by kernel_rfl) (by omega) (at_:=fun x cs=>RawD.At x cs) (fun r=>1+r.data.size) (fun y cs hy=>by rw[hy.2];rfl) (d:=x7.1) (ps:=x7.2) h7 (sz_each hsz 7 _ _ rfl rfl) (fun d' _ _ n' cs' ps' ht _=>open_rawW ht)
   injection (show [c0]=[Value.int .i64 z0] from e0) with g0 _
   injection (show [c1]=[Value.bool z1] from e1) with g1 _
   injection (show [c2]=[Value.int .i64 z2] from e2) with g2 _
   injection (show [c3]=[Value.string z3] from e3) with g3 _
   injection (show [c4]=[Value.int .i64 z4] from e4) with g4 _
   injection (show [c5]=[Value.slice A1 l1.length c1'] from e5) with g5 _
   injection (show [c6]=[Value.slice A2 l2.length c2'] from e6) with g6 _
   injection (show [c7]=[Value.slice A3 l3.length c3'] from e7) with g7 _
   subst g0 g1 g2 g3 g4 g5 g6 g7;refine ⟨.mk z0 z1 z2 z3 z4 l1 l2 l3,Val.at_iff.2 ⟨A1,c1',A2,c2',A3,c3',rfl,sok_of s3,r5,r6,r7⟩,?_⟩;have h3b:Rows.uptoBulk x3.1=z3.size+1:=by rw[x3e];exact (bulk_str _).trans rfl
   rw[wV,wVs_sum,wVs_sum];unfold wRs;rw[Rows.uptoBulk];simp only[List.map_cons,List.map_nil,Rows.uptoBulkAll];have k0:=bulk_one x0.1
   omega
theorem open_memW {n:Nat} {cs:List Value} {d:DataW H} {ps:List MemPlace} (h:DataW.trod enc Tryz.prog W 0 (fun _=>true) true n 71 cs=some (d,ps)) (hz:Sz 71 d):∃x:MemD,x.At W cs∧wV x.dflt≤Rows.uptoBulk d:=by
 obtain ⟨xs,m,_,hx,hlen,hxl,hf⟩:=DataW.trod_struct Tryz.underlying71 h;have hdd:d = .agg (xs.map (·.1)):=congrArg Prod.fst hx;subst hdd;have hc:Tryz.prog.cellsOf 71=13:=by kernel_rfl
 have hci:Tryz.prog.cellsOf 3=1:=by kernel_rfl
 have hcb:Tryz.prog.cellsOf 4=1:=by kernel_rfl
 have hcs:Tryz.prog.cellsOf 9=1:=by kernel_rfl
 have hcV:Tryz.prog.cellsOf 69=8:=by kernel_rfl
 have hsz:=sz_parts Tryz.underlying71 hz;rw[hc] at hlen;simp only[List.size_toArray,List.length_cons,List.length_nil] at hxl
 match cs,hlen,xs,hxl with
 | [c0,c1,c2,c3,c4,c5,c6,c7,c8,c9,c10,c11,c12],_,[x0,x1,x2,x3,x4,x5],_ =>
  have h0:DataW.trod enc Tryz.prog W 0 (fun _=>true) true m 3 (([c0,c1,c2,c3,c4,c5,c6,c7,c8,c9,c10,c11,c12].drop 0).take (Tryz.prog.cellsOf 3))=some x0:=hf 0 _ rfl
  rw[hci] at h0;have h1:DataW.trod enc Tryz.prog W 0 (fun _=>true) true m 9 (([c0,c1,c2,c3,c4,c5,c6,c7,c8,c9,c10,c11,c12].drop 1).take (Tryz.prog.cellsOf 9))=some x1:=hf 1 _ rfl
  rw[hcs] at h1;have h2:DataW.trod enc Tryz.prog W 0 (fun _=>true) true m 3 (([c0,c1,c2,c3,c4,c5,c6,c7,c8,c9,c10,c11,c12].drop 2).take (Tryz.prog.cellsOf 3))=some x2:=hf 2 _ rfl
  rw[hci] at h2;have h3:DataW.trod enc Tryz.prog W 0 (fun _=>true) true m 4 (([c0,c1,c2,c3,c4,c5,c6,c7,c8,c9,c10,c11,c12].drop 3).take (Tryz.prog.cellsOf 4))=some x3:=hf 3 _ rfl
  rw[hcb] at h3;have h4:DataW.trod enc Tryz.prog W 0 (fun _=>true) true m 4 (([c0,c1,c2,c3,c4,c5,c6,c7,c8,c9,c10,c11,c12].drop 4).take (Tryz.prog.cellsOf 4))=some x4:=hf 4 _ rfl
  rw[hcb] at h4;have h5:DataW.trod enc Tryz.prog W 0 (fun _=>true) true m 69 (([c0,c1,c2,c3,c4,c5,c6,c7,c8,c9,c10,c11,c12].drop 5).take (Tryz.prog.cellsOf 69))=some x5:=hf 5 _ rfl
  rw[hcV] at h5;obtain ⟨z0,e0,_,_⟩:=DataW.trod_int Tryz.underlying3 h0;obtain ⟨z1,e1,_,s1⟩:=DataW.trod_string Tryz.underlying9 h1;obtain ⟨z2,e2,_,_⟩:=DataW.trod_int Tryz.underlying3 h2;obtain ⟨z3,e3,_⟩:=DataW.trod_bool Tryz.underlying4 h3;obtain ⟨z4,e4,_⟩:=DataW.trod_bool Tryz.underlying4 h4;obtain ⟨v,hv,hvw⟩:=open_valW _ x5.1 (Nat.le_refl _) m _ x5.2 h5 (sz_each hsz 5 _ _ rfl rfl)
  obtain ⟨A1,c1',A2,c2',A3,c3',e5,hr⟩:=Val.at_iff.1 hv
  injection (show [c0]=[Value.int .i64 z0] from e0) with g0 _
  injection (show [c1]=[Value.string z1] from e1) with g1 _
  injection (show [c2]=[Value.int .i64 z2] from e2) with g2 _
  injection (show [c3]=[Value.bool z3] from e3) with g3 _
  injection (show [c4]=[Value.bool z4] from e4) with g4 _
  have e5':[c5,c6,c7,c8,c9,c10,c11,c12]=v.cs A1 c1' A2 c2' A3 c3':=e5;simp only[Val.cs,List.cons.injEq,and_true] at e5';obtain ⟨k0,k1,k2,k3,k4,k5,k6,k7⟩:=e5';subst g0 g1 g2 g3 g4 k0 k1 k2 k3 k4 k5 k6 k7;exact ⟨⟨z0,z1,z2,z3,z4,v⟩,⟨A1,c1',A2,c2',A3,c3',rfl,sok_of s1,hr⟩,Nat.le_trans hvw (bulk_agg (by simp))⟩
theorem open_tyW {W:World} {n:Nat} {cs:List Value} {d:DataW H} {ps:List MemPlace} (h:DataW.trod enc Tryz.prog W 0 (fun _=>true) true n 50 cs=some (d,ps)) (hz:Sz 50 d):∃x:TyD,(x.At W cs∧In64 x.low∧In64 x.high)∧(x.mems.map fun m=>wV m.dflt).sum≤Rows.uptoBulk d:=by
 obtain ⟨xs,m,_,hx,hlen,hxl,hf⟩:=DataW.trod_struct Tryz.underlying50 h;have hdd:d = .agg (xs.map (·.1)):=congrArg Prod.fst hx;subst hdd;have hc:Tryz.prog.cellsOf 50=10:=by kernel_rfl
 have hci:Tryz.prog.cellsOf 3=1:=by kernel_rfl
 have hci64:Tryz.prog.cellsOf 2=1:=by kernel_rfl
 have hcb:Tryz.prog.cellsOf 4=1:=by kernel_rfl
 have hcs:Tryz.prog.cellsOf 9=1:=by kernel_rfl
 have hcy:Tryz.prog.cellsOf 47=1:=by kernel_rfl
 have hcm:Tryz.prog.cellsOf 48=1:=by kernel_rfl
 have hsz:=sz_parts Tryz.underlying50 hz;rw[hc] at hlen;simp only[List.size_toArray,List.length_cons,List.length_nil] at hxl
 match cs,hlen,xs,hxl with
 | [c0,c1,c2,c3,c4,c5,c6,c7,c8,c9],_,[x0,x1,x2,x3,x4,x5,x6,x7,x8,x9],_ =>
  have h0:DataW.trod enc Tryz.prog W 0 (fun _=>true) true m 3 (([c0,c1,c2,c3,c4,c5,c6,c7,c8,c9].drop 0).take (Tryz.prog.cellsOf 3))=some x0:=hf 0 _ rfl
  rw[hci] at h0;have h1:DataW.trod enc Tryz.prog W 0 (fun _=>true) true m 9 (([c0,c1,c2,c3,c4,c5,c6,c7,c8,c9].drop 1).take (Tryz.prog.cellsOf 9))=some x1:=hf 1 _ rfl
  rw[hcs] at h1;have h2:DataW.trod enc Tryz.prog W 0 (fun _=>true) true m 2 (([c0,c1,c2,c3,c4,c5,c6,c7,c8,c9].drop 2).take (Tryz.prog.cellsOf 2))=some x2:=hf 2 _ rfl
  rw[hci64] at h2;have h3:DataW.trod enc Tryz.prog W 0 (fun _=>true) true m 2 (([c0,c1,c2,c3,c4,c5,c6,c7,c8,c9].drop 3).take (Tryz.prog.cellsOf 2))=some x3:=hf 3 _ rfl
  rw[hci64] at h3;have h4:DataW.trod enc Tryz.prog W 0 (fun _=>true) true m 3 (([c0,c1,c2,c3,c4,c5,c6,c7,c8,c9].drop 4).take (Tryz.prog.cellsOf 3))=some x4:=hf 4 _ rfl
  rw[hci] at h4;have h5:DataW.trod enc Tryz.prog W 0 (fun _=>true) true m 47 (([c0,c1,c2,c3,c4,c5,c6,c7,c8,c9].drop 5).take (Tryz.prog.cellsOf 47))=some x5:=hf 5 _ rfl
  rw[hcy] at h5;have h6:DataW.trod enc Tryz.prog W 0 (fun _=>true) true m 48 (([c0,c1,c2,c3,c4,c5,c6,c7,c8,c9].drop 6).take (Tryz.prog.cellsOf 48))=some x6:=hf 6 _ rfl
  rw[hcm] at h6;have h7:DataW.trod enc Tryz.prog W 0 (fun _=>true) true m 3 (([c0,c1,c2,c3,c4,c5,c6,c7,c8,c9].drop 7).take (Tryz.prog.cellsOf 3))=some x7:=hf 7 _ rfl
  rw[hci] at h7;have h8:DataW.trod enc Tryz.prog W 0 (fun _=>true) true m 3 (([c0,c1,c2,c3,c4,c5,c6,c7,c8,c9].drop 8).take (Tryz.prog.cellsOf 3))=some x8:=hf 8 _ rfl
  rw[hci] at h8;have h9:DataW.trod enc Tryz.prog W 0 (fun _=>true) true m 4 (([c0,c1,c2,c3,c4,c5,c6,c7,c8,c9].drop 9).take (Tryz.prog.cellsOf 4))=some x9:=hf 9 _ rfl
  rw[hcb] at h9;obtain ⟨z0,e0,_,_⟩:=DataW.trod_int Tryz.underlying3 h0;obtain ⟨z1,e1,_,s1⟩:=DataW.trod_string Tryz.underlying9 h1;obtain ⟨z2,e2,_,f2⟩:=DataW.trod_int Tryz.underlying2 h2;obtain ⟨z3,e3,_,f3⟩:=DataW.trod_int Tryz.underlying2 h3;obtain ⟨z4,e4,_,_⟩:=DataW.trod_int Tryz.underlying3 h4;obtain ⟨z7,e7,_,_⟩:=DataW.trod_int Tryz.underlying3 h7
  obtain ⟨z8,e8,_,_⟩:=DataW.trod_int Tryz.underlying3 h8;obtain ⟨z9,e9,_⟩:=DataW.trod_bool Tryz.underlying4 h9
  obtain ⟨A1,c1',l1,e5,r5⟩:=open_rows (α:=SymD) (bytes:=24) Tryz.underlying47 (show Tryz.prog.cellsOf 55=2 by kernel_rfl) (by kernel_rfl) (by omega) (at_:=fun x cs=>SymD.At x cs) (fun y cs hy=>by rw[hy.2];rfl) (d:=x5.1) (ps:=x5.2) h5 (sz_each hsz 5 _ _ rfl rfl) (fun d' _ n' cs' ps' ht _=>open_sym ht)
  obtain ⟨A2,c2',l2,e6,r6,b6⟩:=open_rowsW (α:=MemD) (bytes:=160) Tryz.underlying48 (show Tryz.prog.cellsOf 71=13 by kernel_rfl) (by kernel_rfl) (by omega) (at_:=fun x cs=>MemD.At W x cs) (fun m=>wV m.dflt) (fun y cs hy=>by obtain ⟨A1,c1,A2,c2,A3,c3,rfl,_⟩:=hy;rfl) (d:=x6.1) (ps:=x6.2) h6 (sz_each hsz 6 _ _ rfl rfl) (fun d' _ _ n' cs' ps' ht hz'=>open_memW ht hz')
  injection (show [c0]=[Value.int .i64 z0] from e0) with g0 _
  injection (show [c1]=[Value.string z1] from e1) with g1 _
  injection (show [c2]=[Value.int .i64 z2] from e2) with g2 _
  injection (show [c3]=[Value.int .i64 z3] from e3) with g3 _
  injection (show [c4]=[Value.int .i64 z4] from e4) with g4 _
  injection (show [c5]=[Value.slice A1 l1.length c1'] from e5) with g5 _
  injection (show [c6]=[Value.slice A2 l2.length c2'] from e6) with g6 _
  injection (show [c7]=[Value.int .i64 z7] from e7) with g7 _
  injection (show [c8]=[Value.int .i64 z8] from e8) with g8 _
  injection (show [c9]=[Value.bool z9] from e9) with g9 _
  subst g0 g1 g2 g3 g4 g5 g6 g7 g8 g9;exact ⟨⟨z0,z1,z2,z3,z4,l1,l2,z7,z8,z9⟩,⟨⟨A1,c1',A2,c2',rfl,sok_of s1,r5,r6⟩,in64_of f2,in64_of f3⟩,Nat.le_trans (Nat.le_trans (Nat.le_succ _) b6) (bulk_agg (by simp))⟩
theorem open_schemaW {W:World} {r:Reach} {b0:Nat} {v:Value} {d:DataW H} {p:List MemPlace} (hv:Value.okWide Tryz.prog W r b0 27 v) (h:DataW.Trod enc Tryz.prog W 0 (fun _=>true) true 27 v d p) (hz:Sz 27 d) :
  ∃ (A:zo) (c:Nat) (s:List TyD),v = .agg #[.slice A s.length c]∧TysR W A s∧Num64 s∧∀t∈s,∀m∈t.mems,wV m.dflt≤Rows.uptoBulk d:=by
 obtain ⟨cs,rfl,hsz,_⟩:∃cs,v = .agg cs∧cs.size=Tryz.prog.cellsOf 27∧Row.okWide Tryz.prog W r b0 27 cs:=by
  have h':=hv;unfold Value.okWide at h';rw[Tryz.underlying27] at h';exact h'
 have hcS:Tryz.prog.cellsOf 27=1:=by kernel_rfl
 have hcT:Tryz.prog.cellsOf 25=1:=by kernel_rfl
 obtain ⟨fuel,hf⟩:=h;obtain ⟨l⟩:=cs
 match l,hsz.trans hcS with
 | [c0],_ =>
  obtain ⟨ys,m2,_,hy,_,hyl,hi2⟩:=DataW.trod_struct Tryz.underlying27 hf;have hd0:d = .agg (ys.map (·.1)):=congrArg Prod.fst hy;subst hd0;have hs2:=sz_parts Tryz.underlying27 hz;simp only[List.size_toArray,List.length_cons,List.length_nil] at hyl;obtain ⟨y0,rfl⟩:∃y0,ys=[y0]:=by
   match ys,hyl with
   | [y0],_=>exact ⟨y0,rfl⟩
  have k0:DataW.trod enc Tryz.prog W 0 (fun _=>true) true m2 25 ([c0].drop 0 |>.take (Tryz.prog.cellsOf 25))=some y0:=hi2 0 _ rfl
  rw[hcT] at k0
  obtain ⟨A,c,s,e0,hr,hw⟩:=open_rowsW (α:=TyD) (bytes:=120) Tryz.underlying25 (show Tryz.prog.cellsOf 50=10 by kernel_rfl) (by kernel_rfl) (by omega) (at_:=fun x cs=>TyD.At W x cs∧In64 x.low∧In64 x.high) (fun x=>(x.mems.map fun m=>wV m.dflt).sum) (fun y cs hy=>by obtain ⟨⟨As,cs',Am,cm,rfl,_⟩,_⟩:=hy;rfl) (d:=y0.1) (ps:=y0.2) k0 (sz_each hs2 0 _ _ rfl rfl) (fun d' _ _ n' cs' ps' ht hz'=>open_tyW ht hz')
  injection (show [c0]=[Value.slice A s.length c] from e0) with g0 _
  subst g0;refine ⟨A,c,s,rfl,RowsR.imp hr (fun x _ cs hx=>hx.1) (Below.refl _ _),fun x hx=>?_,fun t ht m hm=>?_⟩
  case refine_2 =>
   have h1:=sum_mem (f:=fun x:TyD=>(x.mems.map fun m=>wV m.dflt).sum) ht
   have h2:=sum_mem (f:=fun m:MemD=>wV m.dflt) hm
   have h3:Rows.uptoBulk y0.1≤Rows.uptoBulk (DataW.agg ([y0].map (·.1))):=bulk_agg (by simp)
   omega
  obtain ⟨i,hi,rfl⟩:=List.getElem_of_mem hx;obtain ⟨_,_,_,_,hat,_⟩:=hr.at_ hi;exact hat.2
end
end Go.Proofs.YtdfolgmcggdjdaaGreatDoor


