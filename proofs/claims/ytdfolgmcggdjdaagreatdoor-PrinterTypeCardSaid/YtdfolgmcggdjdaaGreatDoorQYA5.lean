/-
  Walks: Print.
-/
import Derived.Test.YtdfolgmcggdjdaaGreatDoorQYA4
namespace Go.Proofs.YtdfolgmcggdjdaaGreatDoor
open Go.RowKit
set_option maxHeartbeats 16000000
set_option maxRecDepth 100000
theorem written_fin {s:List TyD} (hv:zG s=0) {l:List Int} (hl:∀u∈l,0≤u∧u<(s.length:Int)) (h:writtenD s l=0):∀u∈l,finD s (s.length+1) u:=fun u hu=>by
 obtain ⟨_,n1⟩:=visits_ok hv l (yA s.length) hl (VI.start s) (cntF_rep _)
 refine use_fin (s.length+1) [] u (hl u hu) hv (PathOk.nil s u) (by simp) fun hc=>?_
 have:=n1.c1 ⟨u,hu,hc⟩
 unfold writtenD at h
 simp only[this] at h
 split at h <;> simp at h
theorem check_parts {s:List TyD} {d:Int} (h:checkD s d=0):zG s=0∧d=0∧s.any badW=false∧writtenD s (usesL s)=0:=by
 unfold checkD at h
 split at h
 ·rename_i h1;exact absurd h h1
 rename_i h1
 split at h
 ·rename_i h2;exact absurd h h2
 rename_i h2
 split at h
 ·cases h
 rename_i h3
 exact ⟨by simpa using h1,by simpa using h2,by simpa using h3,h⟩
theorem check_fin {s:List TyD} {d:Int} (h:checkD s d=0) {t:TyD} (ht:t∈s) {m:MemD} (hm:m∈t.mems):finD s (s.length+1) m.type:=by
 obtain ⟨hv,_,_,hw⟩:=check_parts h
 exact written_fin hv (uses_rng hv) hw _ (List.mem_flatMap.2 ⟨t,ht,List.mem_map.2 ⟨m,hm,rfl⟩⟩)
def printD (s:List TyD) (d:Int) (df:MemD→ByteArray):ByteArray×Int:=if checkD s d≠0 then (⟨#[]⟩,checkD s d) else if 65536<(printT s df s).size then (⟨#[]⟩,3) else (printT s df s,0)
theorem print_bad {s:List TyD} {d:Int} {df:MemD→ByteArray} (h:checkD s d≠0):printD s d df=(⟨#[]⟩,checkD s d):=by unfold printD;rw[if_pos h]
theorem printT_snoc (s:List TyD) (df:MemD→ByteArray) (l:List TyD) (x:TyD):printT s df (l++[x])=if zH x.kind then printT s df l++declT s df x else printT s df l:=by
 unfold printT;rw[List.foldl_append];rfl
theorem declT_le {s:List TyD} {df:MemD→ByteArray} (hv:zG s=0) (hn:Num64 s) {x:TyD} (hx:x∈s) (hkn:zH x.kind=true) (hd:∀m∈x.mems,(df m).size≤1073741824∧finD s (s.length+1) m.type):(declT s df x).size≤40000000000:=by
 have hm16:=mems_le hv hx
 have hs16:x.syms.length≤16:=by
  cases h:x.syms with
  | nil=>simp
  | cons y r=>have:=(sym_rng hv hx (y:=y) (by rw[h];simp)).2;rwa [h] at this
 have hnl:x.name.size≤24:=by
  obtain ⟨i,hi,e⟩:=List.getElem_of_mem hx
  have:=name_le hv (t:=(i:Int)) ⟨by omega,by omega⟩ (by rw[tyAt_nat hi,e];exact hkn)
  rwa [tyAt_nat hi,e] at this
 have hz:∀u∈wordsT s df x,u.size≤3400+1073741824:=fun u hu=>by
  unfold wordsT at hu
  simp only[List.mem_append] at hu
  rcases hu with ((((h|h)|h)|h)|h)|h
  ·rcases List.mem_cons.1 h with e|e
   ·subst e;have:=kindW_le x.kind;omega
   ·obtain rfl:u=x.name:=by simpa using e
    omega
  ·split at h
   ·obtain rfl:u=⟨#[111,112,101,110]⟩:=by simpa using h
    show 4≤_;omega
   ·cases h
  ·obtain rfl:u=⟨#[123]⟩:=by simpa using h
   show 1≤_;omega
  ·obtain ⟨y,hy,rfl⟩:=List.mem_map.1 h
   have:=sym_rng hv hx hy
   have:=symT_le (y:=y) (by have:=this.1.1;unfold In64;omega) this.1.2
   omega
  ·obtain ⟨m,hm,rfl⟩:=List.mem_map.1 h
   have:=mem_rng hv hx hm
   exact memT_le (by have:=this.1.1;unfold In64;omega) this.1.2 (hd m hm).1 (by have:=text_le hv hn (s.length+1) m.type this.2 (hd m hm).2;have:=yD hv;omega)
  ·obtain rfl:u=⟨#[125,59]⟩:=by simpa using h
   show 2≤_;omega
 have hl:(wordsT s df x).length≤37:=by
  unfold wordsT
  simp only[List.length_append,List.length_map,List.length_cons,List.length_nil]
  split <;> simp <;> omega
 have h1:=joinB_le _ _ hz
 have h2:(wordsT s df x).length * (3400+1073741824+1)≤37 * (3400+1073741824+1):=Nat.mul_le_mul_right _ hl
 unfold declT
 rw[zX]
 show _+1≤_
 omega
theorem printT_le {s:List TyD} {df:MemD→ByteArray} {B:Nat} (h:∀x∈s,zH x.kind=true→(declT s df x).size≤B):∀k,k≤s.length→(printT s df (s.take k)).size≤k * B
 | 0,_=>by rw[List.take_zero];exact Nat.zero_le _
 | k+1,hk=>by
  have ih:=printT_le h k (by omega)
  rw[List.take_succ_eq_append_getElem (by omega),printT_snoc,Nat.succ_mul]
  split
  ·rename_i hkn
   have:=h _ (List.getElem_mem (show k<s.length by omega)) hkn
   rw[zX]
   omega
  ·omega
theorem print_any (s:List TyD) (d:Int) (df:MemD→ByteArray) (A:Option Addr) (c:Nat) (hd:DefSaid s A c d) (hn:Num64 s) (hdf:checkD s d=0→∀t∈s,∀m∈t.mems,DfOk s A c df m) (w:World) (hs:TysR w A s) (htab:Tab w) :
  Calls Tryz.prog 12 #[.agg #[.slice A s.length c]] w fun e w'=>e = .returned (.tuple #[.string (printD s d df).1,.int .i64 (printD s d df).2])∧Below w.heap.size w w':=by
 have hln:=hs.1.lt (by omega)
 have HS:=zh hs
 have HD:=zh hd
 have HTB:=zh htab
 have HDF:=zh hdf
 have HN:=zh hn
 have HB0:=zh (zD w (.cells #[.slice A s.length c] 27))
 have HX0:=zh (heap_alloc_new w (.cells #[.slice A s.length c] 27))
 clear hs hd htab hdf hn
 go_enter Tryz.func12,Tryz.ntmps12
 go_wp2_with fail
 generalize w.alloc (.cells #[.slice A s.length c] 27)=W1 at *
 refine (checked_any s d A c HD.out W1 (HS.out.below HB0.out)).mono ?_
 rintro e w1 ⟨rfl,hb1⟩
 have HB1:=zh (zA HB0.out hb1)
 have HX1:=zh ((hb1.block _ (zg.1 HX0.out).1).trans HX0.out)
 have x0:w1.cell? ⟨w.heap.size,0,none⟩=some (.slice A s.length c):=by rw[cell_of_row _ _ _ _ _ _ HX1.out];rfl
 clear hb1
 by_cases hc:checkD s d=0
 case neg =>
  have q1:(checkD s d != 0)=true:=by simp[hc]
  have HT:=zh (print_bad (df:=df) hc)
  clear hc
  go_wp2
  go_ret2
  exact ⟨by rw[HT.out];rfl,HB1.out⟩
 have HPD:Hid (printD s d df=if 65536<(printT s df s).size then (⟨#[]⟩,3) else (printT s df s,0)):=by show _=_;unfold printD;rw[if_neg (by simp[hc])]
 have HDF2:=zh (HDF.out hc)
 obtain ⟨hv,hd0,_,_⟩:=check_parts hc
 have HV:=zh hv
 have hls:=yD hv
 have HFN:=zh (fun (t:TyD) (ht:t∈s) (m:MemD) (hm:m∈t.mems)=>check_fin hc ht hm)
 have HDL:=zh (fun (x:TyD) (hx:x∈s) (hk:zH x.kind=true)=>declT_le hv HN.out hx hk fun m hm=>⟨(HDF2.out x hx m hm).1,HFN.out x hx m hm⟩)
 have HPZ:=zh (printT_le (B:=40000000000) HDL.out)
 rw[hc]
 subst hd0
 clear hc hv HDF HD
 have HI0:=zh (BldAt.new w1 (Nat.le_refl _))
 have HBI:=zh (zD w1 (.cells #[.pointer none,.slice none 0 0] 84))
 have HX2:=zh (tmp_al HX1.out (.cells #[.pointer none,.slice none 0 0] 84))
 go_upto_region 5 with fail
 generalize w1.alloc (.cells #[.pointer none,.slice none 0 0] 84)=W2 at *
 have y0:W2.cell? ⟨w.heap.size,0,none⟩=some (.slice A s.length c):=by rw[cell_of_row _ _ _ _ _ _ HX2.out];rfl
 clear x0
 go_wp2_with fail
 go_loopw [16] (fun i wr=>∃k:Nat,k≤s.length∧i = .int .i64 (k:Int)∧Hid (BldAt wr w1.heap.size w1.heap.size (printT s df (s.take k))∧Below w1.heap.size w1 wr)) (fun i _=>s.length - (intOf i).toNat)
 case atStart=>exact ⟨0,by omega,rfl,HI0.out,HBI.out⟩
 case round =>
  obtain ⟨k,hk,rfl,hh⟩:=hrel
  obtain ⟨wk,rfl⟩:∃wk:World,wk=wr:=⟨_,rfl⟩
  have HBL:=zh hh.out.1
  have HBK:=zh hh.out.2
  have HBK0:=zh (zA HB1.out HBK.out)
  have hpz:=HPZ.out k hk
  clear hh y0
  by_cases hlt:k<s.length
  ·obtain ⟨b,o,As,cs,Am,cm,rfl,htr,t0,t1,t2,t3,t4,t5,t6,t7,t8,t9⟩:=(HS.out.below HBK0.out).at10 hlt
   have HTR:=zh htr
   have h1:(0:Int)≤(k:Int):=by omega
   have h2:(k:Int)<(s.length:Int):=by omega
   have HMH:=zh (List.getElem_mem hlt)
   have HNX:Hid (printT s df (s.take (k+1))=if zH (s[k]).kind then printT s df (s.take k)++declT s df s[k] else printT s df (s.take k)):=by
    show _=_
    rw[List.take_succ_eq_append_getElem hlt,printT_snoc]
   generalize printT s df (s.take k)=T at *
   generalize s[k]=x at *
   clear htr
   have HBX:=zh (zD wk (x.box As cs Am cm))
   have HXX:=zh (heap_alloc_new wk (x.box As cs Am cm))
   have HBLX:=zh (HBL.out.below HBX.out)
   have HBW:=zh (zA HBK.out HBX.out)
   go_upto_region 8 with fail
   clear t0 t1 t2 t3 t4 t5 t6 t7 t8 t9
   generalize wk.alloc (x.box As cs Am cm)=W6 at *
   have HX6:=zh ((HBW.out.block _ (zg.1 HX1.out).1).trans HX1.out)
   have x0:W6.cell? ⟨w.heap.size,0,none⟩=some (.slice (some ⟨b,o,none⟩) s.length c):=by rw[cell_of_row _ _ _ _ _ _ HX6.out];rfl
   obtain ⟨b0,b1,b2,b3,b4,b7,b8⟩:=bx_cells HXX.out
   obtain ⟨b5,b6,b9⟩:=bx_cells2 HXX.out
   have HBW0:=zh (zA HB1.out HBW.out)
   go_wp2_with fail
   refine (prNamed_any x.kind W6).mono ?_
   rintro e w7 ⟨rfl,rfl⟩
   cases hkn:zH x.kind with
   | false =>
    rw[hkn,if_neg (by simp)] at HNX
    clear hkn
    go_wp2
    go_roundw
    case rel=>exact ⟨k+1,by omega,by go_num,by rw[HNX.out];exact HBLX.out,HBW.out⟩
    case measure=>simp[intOf];omega
   | true =>
    rw[hkn,if_pos rfl] at HNX
    have hdl:=HDL.out x HMH.out hkn
    have HKN:=zh hkn
    clear hkn
    go_wp2_with fail
    refine (declaration_any s (some ⟨b,o,none⟩) c HV.out HN.out df x HMH.out HKN.out (fun m hm=>⟨HDF2.out x HMH.out m hm,HFN.out x HMH.out m hm⟩) As cs Am cm _ (HS.out.below HBW0.out) (HTR.out.below HBX.out) (HTB.out.below HBW0.out)).mono ?_
    rintro e w8 ⟨rfl,hb8⟩
    have HBL8:=zh (HBLX.out.below hb8)
    have HB8:=zh (zA HBW.out hb8)
    clear hb8 b0 b1 b2 b3 b4 b5 b6 b7 b8 b9 x0
    generalize declT s df x=D at *
    go_wp2_with fail
    refine (HBL8.out.write D (by have:=Nat.mul_le_mul_right 40000000000 (show k≤32 by omega);omega) HB8.out.size).mono ?_
    rintro e w9 ⟨rfl,hbl9,hb9⟩
    have HBL9:=zh hbl9
    have HB9:Hid (Below w1.heap.size w1 w9):=HB8.out.trans hb9
    clear hbl9 hb9
    go_wp2
    go_roundw
    case rel=>exact ⟨k+1,by omega,by go_num,by rw[HNX.out];exact HBL9.out,HB9.out⟩
    case measure=>simp[intOf];omega
  ·obtain rfl:k=s.length:=by omega
   rw[List.take_length] at HBL hpz
   generalize printT s df s=T at *
   go_wp2_with fail
   refine HBL.out.len.mono ?_
   rintro e w7 ⟨rfl,rfl⟩
   by_cases hbig:65536<T.size
   ·have q1:(65536:Int)<(T.size:Int):=by omega
    rw[if_pos hbig] at HPD
    clear hbig
    go_wp2
    go_ret2
    exact ⟨by rw[HPD.out];rfl,HBK0.out⟩
   ·have q1:¬ (65536:Int)<(T.size:Int):=by omega
    rw[if_neg hbig] at HPD
    clear hbig
    go_wp2_with fail
    refine (HBL.out.str HBK.out.size).mono ?_
    rintro e w8 ⟨rfl,hb8⟩
    have HB8:Hid (Below w.heap.size w w8):=zA HB1.out (HBK.out.trans hb8)
    clear hb8
    go_wp2
    go_ret2
    exact ⟨by rw[HPD.out];rfl,HB8.out⟩
end Go.Proofs.YtdfolgmcggdjdaaGreatDoor


