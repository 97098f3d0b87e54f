/-
  Walks: value.Compare.
-/
import Derived.Test.YtdfolgmcggdjdaaGreatDoorQGG0
namespace Go.Proofs.YtdfolgmcggdjdaaGreatDoor
open Go.RowKit
set_option maxHeartbeats 16000000
set_option maxRecDepth 100000
def orI:List Int→Int
 | []=>0
 | x::r=>if x≠0 then x else orI r
theorem or_any (l:List Int) (hl:l.length≤100) (g o c:Nat) (w:World) (hc:∀k x,l[k]? = some x→w.cell? ⟨g,o+k,none⟩=some (.int .i64 x)) :
  Calls Tryz.prog 168 #[.slice (some ⟨g,o,none⟩) l.length c] w fun e w'=>e = .returned (.int .i64 (orI l))∧w=w':=by
 have HC:=zh hc;clear hc
 go_enter Tryz.func168,Tryz.ntmps168
 go_wp2
 go_loop [8] (fun i=>∃k:Nat,k≤l.length∧i = .int .i64 k∧Hid (orI l=orI (l.drop k))) (fun i=>l.length - (intOf i).toNat)
 case atStart=>exact ⟨0,by omega,rfl,rfl⟩
 case round =>
  obtain ⟨k,hk,rfl,hh⟩:=hrel
  by_cases hlt:k<l.length
  ·have c0:w.cell? ⟨g,o+k,none⟩=some (.int .i64 l[k]):=HC.out k _ (zl hlt)
   have HD:=zh (List.drop_eq_getElem_cons hlt)
   by_cases h0:l[k]=0
   ·have hb:(l[k] != 0)=false:=by simp[h0]
    have HN:Hid (orI l=orI (l.drop (k+1))):=by
     show _=_
     rw[hh.out,HD.out,orI,if_neg (by simp[h0])]
    clear h0;go_wp2
    go_round
    case rel=>exact ⟨k+1,by omega,by go_num,HN.out⟩
    case measure=>simp[intOf];omega
   ·have hb:(l[k] != 0)=true:=by simp[h0]
    have HN:Hid (orI l=l[k]):=by
     show _=_
     rw[hh.out,HD.out,orI,if_pos h0]
    clear h0;go_wp2;go_ret;exact ⟨by rw[HN.out];rfl,rfl⟩
  ·have HN:Hid (orI l=0):=by
    show _=_
    rw[hh.out,List.drop_of_length_le (by omega)];rfl
   go_wp2
   go_ret
   exact ⟨by rw[HN.out];rfl,rfl⟩
theorem compareV_any (a b:Val) (hk:a.kind=b.kind) (h14:1≤a.kind∧a.kind≤4) (hi:a.kind=2→In64 a.int∧In64 b.int) (_hz:a.str.size≤9223372036854775807∧b.str.size≤9223372036854775807) (A1:zo) (c1:Nat) (A2:zo) (c2:Nat) (A3:zo) (c3:Nat) (B1:zo) (d1:Nat) (B2:zo) (d2:Nat) (B3:zo) (d3:Nat) (w:World) :
  Calls Tryz.prog 139 #[a.v A1 c1 A2 c2 A3 c3,b.v B1 d1 B2 d2 B3 d3] w fun e w'=>e = .returned (.int .i64 (cmpV a b))∧Below w.heap.size w w':=by
 have HBN:=zh (fun o1 o2=>zE w o1 o2)
 have q0:(a.kind != b.kind)=false:=by simp[hk]
 have HC:Hid (a.kind≠b.kind→False):=fun h=>h hk
 have hk4:a.kind=1∨a.kind=2∨a.kind=3∨a.kind=4:=by omega
 rcases hk4 with e|e|e|e
 ·have hkb:b.kind=1:=by omega
  clear h14 hi _hz q0
  cases ha:a.bool with
  | true =>
   cases hb:b.bool with
   | true =>
    have HD:Hid (cmpV a b=0):=by show _=_;unfold cmpV;rw[if_neg (by simp[hk]),if_pos e,ha,hb];rfl
    clear hk
    go_enter Tryz.func139,Tryz.ntmps139
    go_wp2
    go_ret
    exact ⟨by rw[HD.out];rfl,HBN.out _ _⟩
   | false =>
    have HD:Hid (cmpV a b=1):=by show _=_;unfold cmpV;rw[if_neg (by simp[hk]),if_pos e,ha,hb];rfl
    clear hk
    go_enter Tryz.func139,Tryz.ntmps139
    go_wp2
    go_ret
    exact ⟨by rw[HD.out];rfl,HBN.out _ _⟩
  | false =>
   cases hb:b.bool with
   | true =>
    have HD:Hid (cmpV a b = -1):=by show _=_;unfold cmpV;rw[if_neg (by simp[hk]),if_pos e,ha,hb];rfl
    clear hk
    go_enter Tryz.func139,Tryz.ntmps139
    go_wp2
    go_ret
    exact ⟨by rw[HD.out];rfl,HBN.out _ _⟩
   | false =>
    have HD:Hid (cmpV a b=0):=by show _=_;unfold cmpV;rw[if_neg (by simp[hk]),if_pos e,ha,hb];rfl
    clear hk
    go_enter Tryz.func139,Tryz.ntmps139
    go_wp2
    go_ret
    exact ⟨by rw[HD.out];rfl,HBN.out _ _⟩
 ·have hkb:b.kind=2:=by omega
  have HD:Hid (cmpV a b=cmpI (zzD a.int) (zzD b.int)):=by show _=_;unfold cmpV;rw[if_neg (by simp[hk]),if_neg (by omega),if_pos e]
  have HI:=zh (hi e);clear h14 hi hk _hz
  go_enter Tryz.func139,Tryz.ntmps139
  go_upto_region 11 with fail
  refine wp_region_held_drew (S:=(fun w'=>w'.cell? ⟨w.heap.size,2,none⟩=some (.int .i64 a.int)∧w'.cell? ⟨w.heap.size+1,2,none⟩=some (.int .i64 b.int))) (by kernel_rfl) ?_ (fun zH_=>?_)
  ·(try dsimp only);go_simp
  refine tL 0 ?_;refine tL 1 ?_;refine tL 3 ?_;refine tL 4 ?_;refine tR 2 (fun K hK=>?_)
  go_simp
  (refine (zig_any a.int HI.out.1 _).mono ?_;rintro e w3 ⟨rfl,rfl⟩)
  refine hK.out _ _ ?_ (fun zH_=>?_)
  ·(try dsimp only);exact zH_
  clear hK K;refine tR 5 (fun K hK=>?_)
  go_simp
  (refine (zig_any b.int HI.out.2 _).mono ?_;rintro e w3 ⟨rfl,rfl⟩)
  refine hK.out _ _ ?_ (fun zH_=>?_)
  ·(try dsimp only);exact zH_
  clear hK K;try simp only[ps]
  refine tR 6 (fun K hK=>?_)
  go_simp
  (refine (compareu_any _ _ _).mono ?_;rintro e w3 ⟨rfl,rfl⟩)
  refine hK.out _ _ ?_ (fun zH_=>?_)
  ·(try dsimp only);exact zH_
  clear hK K;refine tL 7 ?_;refine wpAnyH_done (by kernel_rfl) ?_ _
  clear zH_;go_wp2;go_ret;exact ⟨by rw[HD.out];rfl,zC (HBN.out _ _) 1⟩
 ·have hkb:b.kind=3:=by omega
  have HD:Hid (cmpV a b=orI [cmpI a.str.size b.str.size,cmpS a.str b.str]):=by
   show _=_;unfold cmpV orI orI orI;rw[if_neg (by simp[hk]),if_neg (by omega),if_neg (by omega),if_pos e]
   split
   ·rfl
   ·split
    ·rfl
    ·rename_i h;exact Decidable.not_not.1 h
  clear h14 hi hk
  go_enter Tryz.func139,Tryz.ntmps139
  go_upto_region 13 with fail
  refine wp_region_held_drew (S:=(fun w'=>(w'.cell? ⟨w.heap.size,3,none⟩=some (.string a.str)∧w'.cell? ⟨w.heap.size+1,3,none⟩=some (.string b.str))∧Hid (Below w.heap.size w w'))) (by kernel_rfl) ?_ (fun zH_=>?_)
  ·(try dsimp only);exact ⟨by go_simp,zC (HBN.out _ _) 1⟩
  refine tL 0 ?_;refine tL 1 ?_;refine tL 2 ?_;refine tL 3 ?_;try simp only[ps]
  refine tL 4 ?_;refine tL 5 ?_;refine tL 7 ?_;refine tL 8 ?_;refine tL 9 ?_;refine tL 10 ?_;try simp only[ps]
  refine tR 6 (fun K hK=>?_)
  go_simp
  (refine (comparei_any _ _ _).mono ?_;rintro e w3 ⟨rfl,rfl⟩)
  refine hK.out _ _ ?_ (fun zH_=>?_)
  ·(try dsimp only);exact zH_
  clear hK K;refine tR 11 (fun K hK=>?_)
  go_simp
  (refine (compares_any _ _ _).mono ?_;rintro e w3 ⟨rfl,rfl⟩)
  refine hK.out _ _ ?_ (fun zH_=>?_)
  ·(try dsimp only);exact zH_
  clear hK K;refine tR 12 (fun K hK=>?_)
  go_simp
  refine hK.out _ _ ?_ (fun zH_=>?_)
  ·(try dsimp only);exact ⟨⟨zA (zD _ _) zH_.1.1,zA (zD _ _) zH_.1.2⟩,zB zH_.2.out (zD _ _)⟩
  clear hK K;refine tR 13 (fun K hK=>?_)
  go_simp
  (refine (or_any [cmpI a.str.size b.str.size,cmpS a.str b.str] (by simp) _ 0 2 _ ?hc13).mono ?_;(case hc13=>(intro k x hx;match k,hx with|0,hx=>(obtain rfl:=Option.some.inj hx;go_simp)|1,hx=>(obtain rfl:=Option.some.inj hx;go_simp)|k+2,hx=>cases hx));rintro e w3 ⟨rfl,rfl⟩)
  refine hK.out _ _ ?_ (fun zH_=>?_)
  ·(try dsimp only);exact zH_
  clear hK K;refine tL 14 ?_;refine wpAnyH_done (by kernel_rfl) ?_ _
  have HBF:=zh zH_.2.out;clear zH_;go_wp2;go_ret;exact ⟨by rw[HD.out];rfl,HBF.out⟩
 ·have hkb:b.kind=4:=by omega
  have HD:Hid (cmpV a b=cmpI a.id b.id):=by show _=_;unfold cmpV;rw[if_neg (by simp[hk]),if_neg (by omega),if_neg (by omega),if_neg (by omega),if_pos e]
  clear h14 hi hk _hz
  go_enter Tryz.func139,Tryz.ntmps139
  go_wp2_with fail
  refine (comparei_any _ _ _).mono ?_;rintro e w3 ⟨rfl,rfl⟩;go_wp2;go_ret;exact ⟨by rw[HD.out];rfl,HBN.out _ _⟩
end Go.Proofs.YtdfolgmcggdjdaaGreatDoor


