/-
  Walks: the reference's Member, Symbol, Compare.
-/
import Derived.Test.YthkkllmmbefedaaGreatDoorQGA8
import Derived.Test.YthkkllmmbefedaaGreatDoorQGA9
import Derived.BigQuiet
namespace Go.Proofs.YthkkllmmbefedaaGreatDoor
open Go.RowKit
set_option maxHeartbeats 16000000
set_option maxRecDepth 100000
theorem rIdF_any (n:Int) (known:Bool) (w:World) :
  Calls Tryz.prog 104 #[.int .i64 n,.bool known] w fun e w'=>e = .returned (.bool (!known&&freeD n))∧w'=w:=by
 cases known with
 | true =>
  go_enter Tryz.func104,Tryz.ntmps104
  go_wp2
  go_ret
  exact ⟨rfl,rfl⟩
 | false =>
  have HE:Hid ((!false&&freeD n)=freeD n):=rfl;rw[HE.out]
  by_cases h1:1≤n
  ·by_cases h2:n≤1000
   ·have HD:Hid (freeD n=true):=by show _=_;unfold freeD;simp[h1,h2]
    go_enter Tryz.func104,Tryz.ntmps104
    go_wp2
    go_ret
    exact ⟨by rw[HD.out];rfl,rfl⟩
   ·have HD:Hid (freeD n=false):=by show _=_;unfold freeD;simp[h2]
    go_enter Tryz.func104,Tryz.ntmps104
    go_wp2
    go_ret
    exact ⟨by rw[HD.out];rfl,rfl⟩
  ·have HD:Hid (freeD n=false):=by show _=_;unfold freeD;simp[h1]
   go_enter Tryz.func104,Tryz.ntmps104
   go_wp2
   go_ret
   exact ⟨by rw[HD.out];rfl,rfl⟩
theorem isEmpty_iff' (s:ByteArray):s.toList.isEmpty=true↔s=⟨#[]⟩:=by
 have h:=bytes_beq s ⟨#[]⟩;rw[show (⟨#[]⟩:ByteArray).toList=[] by decide +kernel] at h
 have e:(s.toList==[])=s.toList.isEmpty:=by cases s.toList <;> rfl
 rw[e] at h;rw[h,decide_eq_true_iff]
theorem properE (v:Val):zJ v=(decide (v.bool=if v.kind=1 then v.bool else false)&&decide (v.int=if v.kind=2 then v.int else 0)&&decide (v.str=if v.kind=3 then v.str else ⟨#[]⟩)&&decide (v.id=if v.kind=4∨v.kind=6 then v.id else 0)&&decide (v.keys.length=(if v.kind=8 then v.keys else []).length)&&decide (v.items.length=(if 5≤v.kind∧v.kind≤9 then v.items else []).length)&&decide (v.rest.length=(if v.kind=5∨v.kind=6 then v.rest else []).length)):=rfl
theorem rZero_1 (v:Val) (e:v.kind=1) (A1:zo) (c1:Nat) (A2:zo) (c2:Nat) (A3:zo) (c3:Nat) (w:World) :
  Calls Tryz.prog 103 #[v.v A1 c1 A2 c2 A3 c3] w fun e w'=>e = .returned (.bool (zJ v))∧Below w.heap.size w w':=by
 have HB:=zh (zD w (v.box A1 c1 A2 c2 A3 c3));have HX:=zh (heap_alloc_new w (v.box A1 c1 A2 c2 A3 c3));have HP:=zh (properE v);have HK:=zh e;clear e
 go_enter Tryz.func103,Tryz.ntmps103
 go_upto_region 1 with fail
 generalize w.alloc (v.box A1 c1 A2 c2 A3 c3)=W1 at *;obtain ⟨v0,v1,v2,v3,v4,v5,v6,v7⟩:=zF HX.out;rw[HK.out] at v0;go_upto_region 2 with fail
 simp only[List.append]
 by_cases q_int:v.int=0
 case neg =>
  have HD:Hid (zJ v=false):=by show _=_;rw[HP.out];simp[HK.out,q_int]
  have e_int:(v.int==0)=false:=by simp[q_int]
  clear q_int;go_wp2;go_ret;exact ⟨by rw[HD.out];rfl,HB.out⟩
 have e_int:(v.int==0)=true:=by simp[q_int]
 by_cases q_str:v.str=⟨#[]⟩
 case neg =>
  have HD:Hid (zJ v=false):=by show _=_;rw[HP.out];simp[HK.out,q_str]
  have e_str:v.str.toList.isEmpty=false:=by cases h:v.str.toList.isEmpty with|false=>rfl|true=>exact absurd ((isEmpty_iff' v.str).1 h) q_str
  clear q_int q_str;go_wp2;go_ret;exact ⟨by rw[HD.out];rfl,HB.out⟩
 have e_str:v.str.toList.isEmpty=true:=(isEmpty_iff' v.str).2 q_str
 by_cases q_id:v.id=0
 case neg =>
  have HD:Hid (zJ v=false):=by show _=_;rw[HP.out];simp[HK.out,q_id]
  have e_id:(v.id==0)=false:=by simp[q_id]
  clear q_int q_str q_id;go_wp2;go_ret;exact ⟨by rw[HD.out];rfl,HB.out⟩
 have e_id:(v.id==0)=true:=by simp[q_id]
 by_cases q_keys:v.keys.length=0
 case neg =>
  have HD:Hid (zJ v=false):=by show _=_;rw[HP.out];simp[HK.out,q_keys]
  have e_keys:((v.keys.length:Int)==0)=false:=by simp only[beq_eq_false_iff_ne];omega
  clear q_int q_str q_id q_keys;go_wp2;go_ret;exact ⟨by rw[HD.out];rfl,HB.out⟩
 have e_keys:((v.keys.length:Int)==0)=true:=by simp[q_keys]
 by_cases q_items:v.items.length=0
 case neg =>
  have HD:Hid (zJ v=false):=by show _=_;rw[HP.out];simp[HK.out,q_items]
  have e_items:((v.items.length:Int)==0)=false:=by simp only[beq_eq_false_iff_ne];omega
  clear q_int q_str q_id q_keys q_items;go_wp2;go_ret;exact ⟨by rw[HD.out];rfl,HB.out⟩
 have e_items:((v.items.length:Int)==0)=true:=by simp[q_items]
 by_cases q_rest:v.rest.length=0
 case neg =>
  have HD:Hid (zJ v=false):=by show _=_;rw[HP.out];simp[HK.out,q_rest]
  have e_rest:((v.rest.length:Int)==0)=false:=by simp only[beq_eq_false_iff_ne];omega
  clear q_int q_str q_id q_keys q_items q_rest;go_wp2;go_ret;exact ⟨by rw[HD.out];rfl,HB.out⟩
 have e_rest:((v.rest.length:Int)==0)=true:=by simp[q_rest]
 have HD:Hid (zJ v=true):=by show _=_;rw[HP.out];simp[HK.out,q_int,q_str,q_id,q_keys,q_items,q_rest]
 clear q_int q_str q_id q_keys q_items q_rest;go_wp2;go_ret;exact ⟨by rw[HD.out];rfl,HB.out⟩
theorem rZero_2 (v:Val) (e:v.kind=2) (A1:zo) (c1:Nat) (A2:zo) (c2:Nat) (A3:zo) (c3:Nat) (w:World) :
  Calls Tryz.prog 103 #[v.v A1 c1 A2 c2 A3 c3] w fun e w'=>e = .returned (.bool (zJ v))∧Below w.heap.size w w':=by
 have HB:=zh (zD w (v.box A1 c1 A2 c2 A3 c3));have HX:=zh (heap_alloc_new w (v.box A1 c1 A2 c2 A3 c3));have HP:=zh (properE v);have HK:=zh e;clear e
 go_enter Tryz.func103,Tryz.ntmps103
 go_upto_region 1 with fail
 generalize w.alloc (v.box A1 c1 A2 c2 A3 c3)=W1 at *;obtain ⟨v0,v1,v2,v3,v4,v5,v6,v7⟩:=zF HX.out;rw[HK.out] at v0;go_upto_region 2 with fail
 simp only[List.append]
 by_cases q_bool:v.bool=false
 case neg =>
  have HD:Hid (zJ v=false):=by show _=_;rw[HP.out];simp[HK.out,q_bool]
  rw[show v.bool=true by simpa using q_bool] at v1
  clear q_bool;go_wp2;go_ret;exact ⟨by rw[HD.out];rfl,HB.out⟩
 rw[q_bool] at v1
 by_cases q_str:v.str=⟨#[]⟩
 case neg =>
  have HD:Hid (zJ v=false):=by show _=_;rw[HP.out];simp[HK.out,q_str]
  have e_str:v.str.toList.isEmpty=false:=by cases h:v.str.toList.isEmpty with|false=>rfl|true=>exact absurd ((isEmpty_iff' v.str).1 h) q_str
  clear q_bool q_str;go_wp2;go_ret;exact ⟨by rw[HD.out];rfl,HB.out⟩
 have e_str:v.str.toList.isEmpty=true:=(isEmpty_iff' v.str).2 q_str
 by_cases q_id:v.id=0
 case neg =>
  have HD:Hid (zJ v=false):=by show _=_;rw[HP.out];simp[HK.out,q_id]
  have e_id:(v.id==0)=false:=by simp[q_id]
  clear q_bool q_str q_id;go_wp2;go_ret;exact ⟨by rw[HD.out];rfl,HB.out⟩
 have e_id:(v.id==0)=true:=by simp[q_id]
 by_cases q_keys:v.keys.length=0
 case neg =>
  have HD:Hid (zJ v=false):=by show _=_;rw[HP.out];simp[HK.out,q_keys]
  have e_keys:((v.keys.length:Int)==0)=false:=by simp only[beq_eq_false_iff_ne];omega
  clear q_bool q_str q_id q_keys;go_wp2;go_ret;exact ⟨by rw[HD.out];rfl,HB.out⟩
 have e_keys:((v.keys.length:Int)==0)=true:=by simp[q_keys]
 by_cases q_items:v.items.length=0
 case neg =>
  have HD:Hid (zJ v=false):=by show _=_;rw[HP.out];simp[HK.out,q_items]
  have e_items:((v.items.length:Int)==0)=false:=by simp only[beq_eq_false_iff_ne];omega
  clear q_bool q_str q_id q_keys q_items;go_wp2;go_ret;exact ⟨by rw[HD.out];rfl,HB.out⟩
 have e_items:((v.items.length:Int)==0)=true:=by simp[q_items]
 by_cases q_rest:v.rest.length=0
 case neg =>
  have HD:Hid (zJ v=false):=by show _=_;rw[HP.out];simp[HK.out,q_rest]
  have e_rest:((v.rest.length:Int)==0)=false:=by simp only[beq_eq_false_iff_ne];omega
  clear q_bool q_str q_id q_keys q_items q_rest;go_wp2;go_ret;exact ⟨by rw[HD.out];rfl,HB.out⟩
 have e_rest:((v.rest.length:Int)==0)=true:=by simp[q_rest]
 have HD:Hid (zJ v=true):=by show _=_;rw[HP.out];simp[HK.out,q_bool,q_str,q_id,q_keys,q_items,q_rest]
 clear q_bool q_str q_id q_keys q_items q_rest;go_wp2;go_ret;exact ⟨by rw[HD.out];rfl,HB.out⟩
theorem rZero_3 (v:Val) (e:v.kind=3) (A1:zo) (c1:Nat) (A2:zo) (c2:Nat) (A3:zo) (c3:Nat) (w:World) :
  Calls Tryz.prog 103 #[v.v A1 c1 A2 c2 A3 c3] w fun e w'=>e = .returned (.bool (zJ v))∧Below w.heap.size w w':=by
 have HB:=zh (zD w (v.box A1 c1 A2 c2 A3 c3));have HX:=zh (heap_alloc_new w (v.box A1 c1 A2 c2 A3 c3));have HP:=zh (properE v);have HK:=zh e;clear e
 go_enter Tryz.func103,Tryz.ntmps103
 go_upto_region 1 with fail
 generalize w.alloc (v.box A1 c1 A2 c2 A3 c3)=W1 at *;obtain ⟨v0,v1,v2,v3,v4,v5,v6,v7⟩:=zF HX.out;rw[HK.out] at v0;go_upto_region 2 with fail
 simp only[List.append]
 by_cases q_bool:v.bool=false
 case neg =>
  have HD:Hid (zJ v=false):=by show _=_;rw[HP.out];simp[HK.out,q_bool]
  rw[show v.bool=true by simpa using q_bool] at v1
  clear q_bool;go_wp2;go_ret;exact ⟨by rw[HD.out];rfl,HB.out⟩
 rw[q_bool] at v1
 by_cases q_int:v.int=0
 case neg =>
  have HD:Hid (zJ v=false):=by show _=_;rw[HP.out];simp[HK.out,q_int]
  have e_int:(v.int==0)=false:=by simp[q_int]
  clear q_bool q_int;go_wp2;go_ret;exact ⟨by rw[HD.out];rfl,HB.out⟩
 have e_int:(v.int==0)=true:=by simp[q_int]
 by_cases q_id:v.id=0
 case neg =>
  have HD:Hid (zJ v=false):=by show _=_;rw[HP.out];simp[HK.out,q_id]
  have e_id:(v.id==0)=false:=by simp[q_id]
  clear q_bool q_int q_id;go_wp2;go_ret;exact ⟨by rw[HD.out];rfl,HB.out⟩
 have e_id:(v.id==0)=true:=by simp[q_id]
 by_cases q_keys:v.keys.length=0
 case neg =>
  have HD:Hid (zJ v=false):=by show _=_;rw[HP.out];simp[HK.out,q_keys]
  have e_keys:((v.keys.length:Int)==0)=false:=by simp only[beq_eq_false_iff_ne];omega
  clear q_bool q_int q_id q_keys;go_wp2;go_ret;exact ⟨by rw[HD.out];rfl,HB.out⟩
 have e_keys:((v.keys.length:Int)==0)=true:=by simp[q_keys]
 by_cases q_items:v.items.length=0
 case neg =>
  have HD:Hid (zJ v=false):=by show _=_;rw[HP.out];simp[HK.out,q_items]
  have e_items:((v.items.length:Int)==0)=false:=by simp only[beq_eq_false_iff_ne];omega
  clear q_bool q_int q_id q_keys q_items;go_wp2;go_ret;exact ⟨by rw[HD.out];rfl,HB.out⟩
 have e_items:((v.items.length:Int)==0)=true:=by simp[q_items]
 by_cases q_rest:v.rest.length=0
 case neg =>
  have HD:Hid (zJ v=false):=by show _=_;rw[HP.out];simp[HK.out,q_rest]
  have e_rest:((v.rest.length:Int)==0)=false:=by simp only[beq_eq_false_iff_ne];omega
  clear q_bool q_int q_id q_keys q_items q_rest;go_wp2;go_ret;exact ⟨by rw[HD.out];rfl,HB.out⟩
 have e_rest:((v.rest.length:Int)==0)=true:=by simp[q_rest]
 have HD:Hid (zJ v=true):=by show _=_;rw[HP.out];simp[HK.out,q_bool,q_int,q_id,q_keys,q_items,q_rest]
 clear q_bool q_int q_id q_keys q_items q_rest;go_wp2;go_ret;exact ⟨by rw[HD.out];rfl,HB.out⟩
theorem rZero_4 (v:Val) (e:v.kind=4) (A1:zo) (c1:Nat) (A2:zo) (c2:Nat) (A3:zo) (c3:Nat) (w:World) :
  Calls Tryz.prog 103 #[v.v A1 c1 A2 c2 A3 c3] w fun e w'=>e = .returned (.bool (zJ v))∧Below w.heap.size w w':=by
 have HB:=zh (zD w (v.box A1 c1 A2 c2 A3 c3));have HX:=zh (heap_alloc_new w (v.box A1 c1 A2 c2 A3 c3));have HP:=zh (properE v);have HK:=zh e;clear e
 go_enter Tryz.func103,Tryz.ntmps103
 go_upto_region 1 with fail
 generalize w.alloc (v.box A1 c1 A2 c2 A3 c3)=W1 at *;obtain ⟨v0,v1,v2,v3,v4,v5,v6,v7⟩:=zF HX.out;rw[HK.out] at v0;go_upto_region 2 with fail
 simp only[List.append]
 by_cases q_bool:v.bool=false
 case neg =>
  have HD:Hid (zJ v=false):=by show _=_;rw[HP.out];simp[HK.out,q_bool]
  rw[show v.bool=true by simpa using q_bool] at v1
  clear q_bool;go_wp2;go_ret;exact ⟨by rw[HD.out];rfl,HB.out⟩
 rw[q_bool] at v1
 by_cases q_int:v.int=0
 case neg =>
  have HD:Hid (zJ v=false):=by show _=_;rw[HP.out];simp[HK.out,q_int]
  have e_int:(v.int==0)=false:=by simp[q_int]
  clear q_bool q_int;go_wp2;go_ret;exact ⟨by rw[HD.out];rfl,HB.out⟩
 have e_int:(v.int==0)=true:=by simp[q_int]
 by_cases q_str:v.str=⟨#[]⟩
 case neg =>
  have HD:Hid (zJ v=false):=by show _=_;rw[HP.out];simp[HK.out,q_str]
  have e_str:v.str.toList.isEmpty=false:=by cases h:v.str.toList.isEmpty with|false=>rfl|true=>exact absurd ((isEmpty_iff' v.str).1 h) q_str
  clear q_bool q_int q_str;go_wp2;go_ret;exact ⟨by rw[HD.out];rfl,HB.out⟩
 have e_str:v.str.toList.isEmpty=true:=(isEmpty_iff' v.str).2 q_str
 by_cases q_keys:v.keys.length=0
 case neg =>
  have HD:Hid (zJ v=false):=by show _=_;rw[HP.out];simp[HK.out,q_keys]
  have e_keys:((v.keys.length:Int)==0)=false:=by simp only[beq_eq_false_iff_ne];omega
  clear q_bool q_int q_str q_keys;go_wp2;go_ret;exact ⟨by rw[HD.out];rfl,HB.out⟩
 have e_keys:((v.keys.length:Int)==0)=true:=by simp[q_keys]
 by_cases q_items:v.items.length=0
 case neg =>
  have HD:Hid (zJ v=false):=by show _=_;rw[HP.out];simp[HK.out,q_items]
  have e_items:((v.items.length:Int)==0)=false:=by simp only[beq_eq_false_iff_ne];omega
  clear q_bool q_int q_str q_keys q_items;go_wp2;go_ret;exact ⟨by rw[HD.out];rfl,HB.out⟩
 have e_items:((v.items.length:Int)==0)=true:=by simp[q_items]
 by_cases q_rest:v.rest.length=0
 case neg =>
  have HD:Hid (zJ v=false):=by show _=_;rw[HP.out];simp[HK.out,q_rest]
  have e_rest:((v.rest.length:Int)==0)=false:=by simp only[beq_eq_false_iff_ne];omega
  clear q_bool q_int q_str q_keys q_items q_rest;go_wp2;go_ret;exact ⟨by rw[HD.out];rfl,HB.out⟩
 have e_rest:((v.rest.length:Int)==0)=true:=by simp[q_rest]
 have HD:Hid (zJ v=true):=by show _=_;rw[HP.out];simp[HK.out,q_bool,q_int,q_str,q_keys,q_items,q_rest]
 clear q_bool q_int q_str q_keys q_items q_rest;go_wp2;go_ret;exact ⟨by rw[HD.out];rfl,HB.out⟩
theorem rZero_5 (v:Val) (e:v.kind=5) (A1:zo) (c1:Nat) (A2:zo) (c2:Nat) (A3:zo) (c3:Nat) (w:World) :
  Calls Tryz.prog 103 #[v.v A1 c1 A2 c2 A3 c3] w fun e w'=>e = .returned (.bool (zJ v))∧Below w.heap.size w w':=by
 have HB:=zh (zD w (v.box A1 c1 A2 c2 A3 c3));have HX:=zh (heap_alloc_new w (v.box A1 c1 A2 c2 A3 c3));have HP:=zh (properE v);have HK:=zh e;clear e
 go_enter Tryz.func103,Tryz.ntmps103
 go_upto_region 1 with fail
 generalize w.alloc (v.box A1 c1 A2 c2 A3 c3)=W1 at *;obtain ⟨v0,v1,v2,v3,v4,v5,v6,v7⟩:=zF HX.out;rw[HK.out] at v0;go_upto_region 2 with fail
 simp only[List.append]
 by_cases q_bool:v.bool=false
 case neg =>
  have HD:Hid (zJ v=false):=by show _=_;rw[HP.out];simp[HK.out,q_bool]
  rw[show v.bool=true by simpa using q_bool] at v1
  clear q_bool;go_wp2;go_ret;exact ⟨by rw[HD.out];rfl,HB.out⟩
 rw[q_bool] at v1
 by_cases q_int:v.int=0
 case neg =>
  have HD:Hid (zJ v=false):=by show _=_;rw[HP.out];simp[HK.out,q_int]
  have e_int:(v.int==0)=false:=by simp[q_int]
  clear q_bool q_int;go_wp2;go_ret;exact ⟨by rw[HD.out];rfl,HB.out⟩
 have e_int:(v.int==0)=true:=by simp[q_int]
 by_cases q_str:v.str=⟨#[]⟩
 case neg =>
  have HD:Hid (zJ v=false):=by show _=_;rw[HP.out];simp[HK.out,q_str]
  have e_str:v.str.toList.isEmpty=false:=by cases h:v.str.toList.isEmpty with|false=>rfl|true=>exact absurd ((isEmpty_iff' v.str).1 h) q_str
  clear q_bool q_int q_str;go_wp2;go_ret;exact ⟨by rw[HD.out];rfl,HB.out⟩
 have e_str:v.str.toList.isEmpty=true:=(isEmpty_iff' v.str).2 q_str
 by_cases q_id:v.id=0
 case neg =>
  have HD:Hid (zJ v=false):=by show _=_;rw[HP.out];simp[HK.out,q_id]
  have e_id:(v.id==0)=false:=by simp[q_id]
  clear q_bool q_int q_str q_id;go_wp2;go_ret;exact ⟨by rw[HD.out];rfl,HB.out⟩
 have e_id:(v.id==0)=true:=by simp[q_id]
 by_cases q_keys:v.keys.length=0
 case neg =>
  have HD:Hid (zJ v=false):=by show _=_;rw[HP.out];simp[HK.out,q_keys]
  have e_keys:((v.keys.length:Int)==0)=false:=by simp only[beq_eq_false_iff_ne];omega
  clear q_bool q_int q_str q_id q_keys;go_wp2;go_ret;exact ⟨by rw[HD.out];rfl,HB.out⟩
 have e_keys:((v.keys.length:Int)==0)=true:=by simp[q_keys]
 have HD:Hid (zJ v=true):=by show _=_;rw[HP.out];simp[HK.out,q_bool,q_int,q_str,q_id,q_keys]
 clear q_bool q_int q_str q_id q_keys;go_wp2;go_ret;exact ⟨by rw[HD.out];rfl,HB.out⟩
theorem rZero_6 (v:Val) (e:v.kind=6) (A1:zo) (c1:Nat) (A2:zo) (c2:Nat) (A3:zo) (c3:Nat) (w:World) :
  Calls Tryz.prog 103 #[v.v A1 c1 A2 c2 A3 c3] w fun e w'=>e = .returned (.bool (zJ v))∧Below w.heap.size w w':=by
 have HB:=zh (zD w (v.box A1 c1 A2 c2 A3 c3));have HX:=zh (heap_alloc_new w (v.box A1 c1 A2 c2 A3 c3));have HP:=zh (properE v);have HK:=zh e;clear e
 go_enter Tryz.func103,Tryz.ntmps103
 go_upto_region 1 with fail
 generalize w.alloc (v.box A1 c1 A2 c2 A3 c3)=W1 at *;obtain ⟨v0,v1,v2,v3,v4,v5,v6,v7⟩:=zF HX.out;rw[HK.out] at v0;go_upto_region 2 with fail
 simp only[List.append]
 by_cases q_bool:v.bool=false
 case neg =>
  have HD:Hid (zJ v=false):=by show _=_;rw[HP.out];simp[HK.out,q_bool]
  rw[show v.bool=true by simpa using q_bool] at v1
  clear q_bool;go_wp2;go_ret;exact ⟨by rw[HD.out];rfl,HB.out⟩
 rw[q_bool] at v1
 by_cases q_int:v.int=0
 case neg =>
  have HD:Hid (zJ v=false):=by show _=_;rw[HP.out];simp[HK.out,q_int]
  have e_int:(v.int==0)=false:=by simp[q_int]
  clear q_bool q_int;go_wp2;go_ret;exact ⟨by rw[HD.out];rfl,HB.out⟩
 have e_int:(v.int==0)=true:=by simp[q_int]
 by_cases q_str:v.str=⟨#[]⟩
 case neg =>
  have HD:Hid (zJ v=false):=by show _=_;rw[HP.out];simp[HK.out,q_str]
  have e_str:v.str.toList.isEmpty=false:=by cases h:v.str.toList.isEmpty with|false=>rfl|true=>exact absurd ((isEmpty_iff' v.str).1 h) q_str
  clear q_bool q_int q_str;go_wp2;go_ret;exact ⟨by rw[HD.out];rfl,HB.out⟩
 have e_str:v.str.toList.isEmpty=true:=(isEmpty_iff' v.str).2 q_str
 by_cases q_keys:v.keys.length=0
 case neg =>
  have HD:Hid (zJ v=false):=by show _=_;rw[HP.out];simp[HK.out,q_keys]
  have e_keys:((v.keys.length:Int)==0)=false:=by simp only[beq_eq_false_iff_ne];omega
  clear q_bool q_int q_str q_keys;go_wp2;go_ret;exact ⟨by rw[HD.out];rfl,HB.out⟩
 have e_keys:((v.keys.length:Int)==0)=true:=by simp[q_keys]
 have HD:Hid (zJ v=true):=by show _=_;rw[HP.out];simp[HK.out,q_bool,q_int,q_str,q_keys]
 clear q_bool q_int q_str q_keys;go_wp2;go_ret;exact ⟨by rw[HD.out];rfl,HB.out⟩
theorem rZero_7 (v:Val) (e:v.kind=7) (A1:zo) (c1:Nat) (A2:zo) (c2:Nat) (A3:zo) (c3:Nat) (w:World) :
  Calls Tryz.prog 103 #[v.v A1 c1 A2 c2 A3 c3] w fun e w'=>e = .returned (.bool (zJ v))∧Below w.heap.size w w':=by
 have HB:=zh (zD w (v.box A1 c1 A2 c2 A3 c3));have HX:=zh (heap_alloc_new w (v.box A1 c1 A2 c2 A3 c3));have HP:=zh (properE v);have HK:=zh e;clear e
 go_enter Tryz.func103,Tryz.ntmps103
 go_upto_region 1 with fail
 generalize w.alloc (v.box A1 c1 A2 c2 A3 c3)=W1 at *;obtain ⟨v0,v1,v2,v3,v4,v5,v6,v7⟩:=zF HX.out;rw[HK.out] at v0;go_upto_region 2 with fail
 simp only[List.append]
 by_cases q_bool:v.bool=false
 case neg =>
  have HD:Hid (zJ v=false):=by show _=_;rw[HP.out];simp[HK.out,q_bool]
  rw[show v.bool=true by simpa using q_bool] at v1
  clear q_bool;go_wp2;go_ret;exact ⟨by rw[HD.out];rfl,HB.out⟩
 rw[q_bool] at v1
 by_cases q_int:v.int=0
 case neg =>
  have HD:Hid (zJ v=false):=by show _=_;rw[HP.out];simp[HK.out,q_int]
  have e_int:(v.int==0)=false:=by simp[q_int]
  clear q_bool q_int;go_wp2;go_ret;exact ⟨by rw[HD.out];rfl,HB.out⟩
 have e_int:(v.int==0)=true:=by simp[q_int]
 by_cases q_str:v.str=⟨#[]⟩
 case neg =>
  have HD:Hid (zJ v=false):=by show _=_;rw[HP.out];simp[HK.out,q_str]
  have e_str:v.str.toList.isEmpty=false:=by cases h:v.str.toList.isEmpty with|false=>rfl|true=>exact absurd ((isEmpty_iff' v.str).1 h) q_str
  clear q_bool q_int q_str;go_wp2;go_ret;exact ⟨by rw[HD.out];rfl,HB.out⟩
 have e_str:v.str.toList.isEmpty=true:=(isEmpty_iff' v.str).2 q_str
 by_cases q_id:v.id=0
 case neg =>
  have HD:Hid (zJ v=false):=by show _=_;rw[HP.out];simp[HK.out,q_id]
  have e_id:(v.id==0)=false:=by simp[q_id]
  clear q_bool q_int q_str q_id;go_wp2;go_ret;exact ⟨by rw[HD.out];rfl,HB.out⟩
 have e_id:(v.id==0)=true:=by simp[q_id]
 by_cases q_keys:v.keys.length=0
 case neg =>
  have HD:Hid (zJ v=false):=by show _=_;rw[HP.out];simp[HK.out,q_keys]
  have e_keys:((v.keys.length:Int)==0)=false:=by simp only[beq_eq_false_iff_ne];omega
  clear q_bool q_int q_str q_id q_keys;go_wp2;go_ret;exact ⟨by rw[HD.out];rfl,HB.out⟩
 have e_keys:((v.keys.length:Int)==0)=true:=by simp[q_keys]
 by_cases q_rest:v.rest.length=0
 case neg =>
  have HD:Hid (zJ v=false):=by show _=_;rw[HP.out];simp[HK.out,q_rest]
  have e_rest:((v.rest.length:Int)==0)=false:=by simp only[beq_eq_false_iff_ne];omega
  clear q_bool q_int q_str q_id q_keys q_rest;go_wp2;go_ret;exact ⟨by rw[HD.out];rfl,HB.out⟩
 have e_rest:((v.rest.length:Int)==0)=true:=by simp[q_rest]
 have HD:Hid (zJ v=true):=by show _=_;rw[HP.out];simp[HK.out,q_bool,q_int,q_str,q_id,q_keys,q_rest]
 clear q_bool q_int q_str q_id q_keys q_rest;go_wp2;go_ret;exact ⟨by rw[HD.out];rfl,HB.out⟩
theorem rZero_8 (v:Val) (e:v.kind=8) (A1:zo) (c1:Nat) (A2:zo) (c2:Nat) (A3:zo) (c3:Nat) (w:World) :
  Calls Tryz.prog 103 #[v.v A1 c1 A2 c2 A3 c3] w fun e w'=>e = .returned (.bool (zJ v))∧Below w.heap.size w w':=by
 have HB:=zh (zD w (v.box A1 c1 A2 c2 A3 c3));have HX:=zh (heap_alloc_new w (v.box A1 c1 A2 c2 A3 c3));have HP:=zh (properE v);have HK:=zh e;clear e
 go_enter Tryz.func103,Tryz.ntmps103
 go_upto_region 1 with fail
 generalize w.alloc (v.box A1 c1 A2 c2 A3 c3)=W1 at *;obtain ⟨v0,v1,v2,v3,v4,v5,v6,v7⟩:=zF HX.out;rw[HK.out] at v0;go_upto_region 2 with fail
 simp only[List.append]
 by_cases q_bool:v.bool=false
 case neg =>
  have HD:Hid (zJ v=false):=by show _=_;rw[HP.out];simp[HK.out,q_bool]
  rw[show v.bool=true by simpa using q_bool] at v1
  clear q_bool;go_wp2;go_ret;exact ⟨by rw[HD.out];rfl,HB.out⟩
 rw[q_bool] at v1
 by_cases q_int:v.int=0
 case neg =>
  have HD:Hid (zJ v=false):=by show _=_;rw[HP.out];simp[HK.out,q_int]
  have e_int:(v.int==0)=false:=by simp[q_int]
  clear q_bool q_int;go_wp2;go_ret;exact ⟨by rw[HD.out];rfl,HB.out⟩
 have e_int:(v.int==0)=true:=by simp[q_int]
 by_cases q_str:v.str=⟨#[]⟩
 case neg =>
  have HD:Hid (zJ v=false):=by show _=_;rw[HP.out];simp[HK.out,q_str]
  have e_str:v.str.toList.isEmpty=false:=by cases h:v.str.toList.isEmpty with|false=>rfl|true=>exact absurd ((isEmpty_iff' v.str).1 h) q_str
  clear q_bool q_int q_str;go_wp2;go_ret;exact ⟨by rw[HD.out];rfl,HB.out⟩
 have e_str:v.str.toList.isEmpty=true:=(isEmpty_iff' v.str).2 q_str
 by_cases q_id:v.id=0
 case neg =>
  have HD:Hid (zJ v=false):=by show _=_;rw[HP.out];simp[HK.out,q_id]
  have e_id:(v.id==0)=false:=by simp[q_id]
  clear q_bool q_int q_str q_id;go_wp2;go_ret;exact ⟨by rw[HD.out];rfl,HB.out⟩
 have e_id:(v.id==0)=true:=by simp[q_id]
 by_cases q_rest:v.rest.length=0
 case neg =>
  have HD:Hid (zJ v=false):=by show _=_;rw[HP.out];simp[HK.out,q_rest]
  have e_rest:((v.rest.length:Int)==0)=false:=by simp only[beq_eq_false_iff_ne];omega
  clear q_bool q_int q_str q_id q_rest;go_wp2;go_ret;exact ⟨by rw[HD.out];rfl,HB.out⟩
 have e_rest:((v.rest.length:Int)==0)=true:=by simp[q_rest]
 have HD:Hid (zJ v=true):=by show _=_;rw[HP.out];simp[HK.out,q_bool,q_int,q_str,q_id,q_rest]
 clear q_bool q_int q_str q_id q_rest;go_wp2;go_ret;exact ⟨by rw[HD.out];rfl,HB.out⟩
theorem rZero_9 (v:Val) (e:v.kind=9) (A1:zo) (c1:Nat) (A2:zo) (c2:Nat) (A3:zo) (c3:Nat) (w:World) :
  Calls Tryz.prog 103 #[v.v A1 c1 A2 c2 A3 c3] w fun e w'=>e = .returned (.bool (zJ v))∧Below w.heap.size w w':=by
 have HB:=zh (zD w (v.box A1 c1 A2 c2 A3 c3));have HX:=zh (heap_alloc_new w (v.box A1 c1 A2 c2 A3 c3));have HP:=zh (properE v);have HK:=zh e;clear e
 go_enter Tryz.func103,Tryz.ntmps103
 go_upto_region 1 with fail
 generalize w.alloc (v.box A1 c1 A2 c2 A3 c3)=W1 at *;obtain ⟨v0,v1,v2,v3,v4,v5,v6,v7⟩:=zF HX.out;rw[HK.out] at v0;go_upto_region 2 with fail
 simp only[List.append]
 by_cases q_bool:v.bool=false
 case neg =>
  have HD:Hid (zJ v=false):=by show _=_;rw[HP.out];simp[HK.out,q_bool]
  rw[show v.bool=true by simpa using q_bool] at v1
  clear q_bool;go_wp2;go_ret;exact ⟨by rw[HD.out];rfl,HB.out⟩
 rw[q_bool] at v1
 by_cases q_int:v.int=0
 case neg =>
  have HD:Hid (zJ v=false):=by show _=_;rw[HP.out];simp[HK.out,q_int]
  have e_int:(v.int==0)=false:=by simp[q_int]
  clear q_bool q_int;go_wp2;go_ret;exact ⟨by rw[HD.out];rfl,HB.out⟩
 have e_int:(v.int==0)=true:=by simp[q_int]
 by_cases q_str:v.str=⟨#[]⟩
 case neg =>
  have HD:Hid (zJ v=false):=by show _=_;rw[HP.out];simp[HK.out,q_str]
  have e_str:v.str.toList.isEmpty=false:=by cases h:v.str.toList.isEmpty with|false=>rfl|true=>exact absurd ((isEmpty_iff' v.str).1 h) q_str
  clear q_bool q_int q_str;go_wp2;go_ret;exact ⟨by rw[HD.out];rfl,HB.out⟩
 have e_str:v.str.toList.isEmpty=true:=(isEmpty_iff' v.str).2 q_str
 by_cases q_id:v.id=0
 case neg =>
  have HD:Hid (zJ v=false):=by show _=_;rw[HP.out];simp[HK.out,q_id]
  have e_id:(v.id==0)=false:=by simp[q_id]
  clear q_bool q_int q_str q_id;go_wp2;go_ret;exact ⟨by rw[HD.out];rfl,HB.out⟩
 have e_id:(v.id==0)=true:=by simp[q_id]
 by_cases q_keys:v.keys.length=0
 case neg =>
  have HD:Hid (zJ v=false):=by show _=_;rw[HP.out];simp[HK.out,q_keys]
  have e_keys:((v.keys.length:Int)==0)=false:=by simp only[beq_eq_false_iff_ne];omega
  clear q_bool q_int q_str q_id q_keys;go_wp2;go_ret;exact ⟨by rw[HD.out];rfl,HB.out⟩
 have e_keys:((v.keys.length:Int)==0)=true:=by simp[q_keys]
 by_cases q_rest:v.rest.length=0
 case neg =>
  have HD:Hid (zJ v=false):=by show _=_;rw[HP.out];simp[HK.out,q_rest]
  have e_rest:((v.rest.length:Int)==0)=false:=by simp only[beq_eq_false_iff_ne];omega
  clear q_bool q_int q_str q_id q_keys q_rest;go_wp2;go_ret;exact ⟨by rw[HD.out];rfl,HB.out⟩
 have e_rest:((v.rest.length:Int)==0)=true:=by simp[q_rest]
 have HD:Hid (zJ v=true):=by show _=_;rw[HP.out];simp[HK.out,q_bool,q_int,q_str,q_id,q_keys,q_rest]
 clear q_bool q_int q_str q_id q_keys q_rest;go_wp2;go_ret;exact ⟨by rw[HD.out];rfl,HB.out⟩
theorem yJ (v:Val) (hk:1≤v.kind∧v.kind≤9) (A1:zo) (c1:Nat) (A2:zo) (c2:Nat) (A3:zo) (c3:Nat) (w:World) :
  Calls Tryz.prog 103 #[v.v A1 c1 A2 c2 A3 c3] w fun e w'=>e = .returned (.bool (zJ v))∧Below w.heap.size w w':=by
 have hkx:v.kind=1∨v.kind=2∨v.kind=3∨v.kind=4∨v.kind=5∨v.kind=6∨v.kind=7∨v.kind=8∨v.kind=9:=by omega
 rcases hkx with e|e|e|e|e|e|e|e|e
 ·exact rZero_1 v e A1 c1 A2 c2 A3 c3 w
 ·exact rZero_2 v e A1 c1 A2 c2 A3 c3 w
 ·exact rZero_3 v e A1 c1 A2 c2 A3 c3 w
 ·exact rZero_4 v e A1 c1 A2 c2 A3 c3 w
 ·exact rZero_5 v e A1 c1 A2 c2 A3 c3 w
 ·exact rZero_6 v e A1 c1 A2 c2 A3 c3 w
 ·exact rZero_7 v e A1 c1 A2 c2 A3 c3 w
 ·exact rZero_8 v e A1 c1 A2 c2 A3 c3 w
 ·exact rZero_9 v e A1 c1 A2 c2 A3 c3 w
def ord3 (less eq:Bool):Int:=if eq then 0 else if less then -1 else 1
theorem rOrder_any (less eq:Bool) (w:World) :
  Calls Tryz.prog 154 #[.bool less,.bool eq] w fun e w'=>e = .returned (.int .i64 (ord3 less eq))∧w'=w:=by
 cases eq with
 | true =>
  go_enter Tryz.func154,Tryz.ntmps154
  go_wp2
  go_ret
  exact ⟨rfl,rfl⟩
 | false =>
  cases less with
  | true =>
   go_enter Tryz.func154,Tryz.ntmps154
   go_wp2
   go_ret
   exact ⟨rfl,rfl⟩
  | false =>
   go_enter Tryz.func154,Tryz.ntmps154
   go_wp2
   go_ret
   exact ⟨rfl,rfl⟩
theorem rZig_any (n:Int) (h:In64 n) (w:World) :
  Calls Tryz.prog 155 #[.int .i64 n] w fun e w'=>e = .returned (.int .u64 (zzD n))∧w'=w:=by
 unfold In64 at h
 by_cases h0:0≤n
 ·have HD:Hid (zzD n=2 * n):=if_pos h0
  have u1:IntKind.u64.wrap n=n:=by rw[IntKind.wrap_u64];omega
  have u2:IntKind.u64.wrap (2 * n)=2 * n:=by rw[IntKind.wrap_u64];omega
  go_enter Tryz.func155,Tryz.ntmps155
  go_wp2
  go_ret
  exact ⟨by rw[HD.out];rfl,rfl⟩
 ·have HD:Hid (zzD n = -2 * n - 1):=if_neg h0
  have u0:IntKind.i64.wrap (n+1)=n+1:=by rw[IntKind.wrap_i64];omega
  have u3:IntKind.i64.wrap (-(n+1)) = -(n+1):=by rw[IntKind.wrap_i64];omega
  have u1:IntKind.u64.wrap (-(n+1)) = -(n+1):=by rw[IntKind.wrap_u64];omega
  have u2:IntKind.u64.wrap (2 * -(n+1))=2 * -(n+1):=by rw[IntKind.wrap_u64];omega
  have u4:IntKind.u64.wrap (2 * -(n+1)+1)=2 * -(n+1)+1:=by rw[IntKind.wrap_u64];omega
  go_enter Tryz.func155,Tryz.ntmps155
  go_wp2
  go_ret
  refine ⟨?_,rfl⟩;rw[HD.out,show -2 * n - 1=2 * -(n+1)+1 by omega]
  rfl
theorem bl_self:∀l:List UInt8,Go.Op.bytesLess l l=false
 | []=>by simp[Go.Op.bytesLess]
 | x::xs=>by simp[Go.Op.bytesLess,bl_self xs]
theorem ltS_self (a:ByteArray):ltS a a=false:=bl_self _
theorem zz_inj {a b:Int} (h:zzD a=zzD b):a=b:=by
 unfold zzD at h
 split at h <;> split at h <;> omega
theorem cmp_1 {a b:Val} (hk:a.kind=b.kind) (e:a.kind=1):cmpV a b=ord3 b.bool (a.bool==b.bool):=by
 unfold cmpV;rw[if_neg (by simp[hk]),if_pos e]
 cases a.bool <;> cases b.bool <;> rfl
theorem cmp_2 {a b:Val} (hk:a.kind=b.kind) (e:a.kind=2):cmpV a b=ord3 (decide (zzD a.int<zzD b.int)) (a.int==b.int):=by
 unfold cmpV;rw[if_neg (by simp[hk]),if_neg (by omega),if_pos e]
 unfold cmpI ord3
 by_cases h:a.int=b.int
 ·rw[h,if_neg (by omega),if_pos rfl,if_pos (by simp)]
 ·rw[if_neg (c:=(a.int==b.int)=true) (by simpa using h)]
  by_cases h2:zzD a.int<zzD b.int
  ·rw[if_pos h2,if_pos (by simpa using h2)]
  ·rw[if_neg h2,if_neg (fun g=>h (zz_inj g)),if_neg (by simpa using h2)]
theorem cmp_3a {a b:Val} (hk:a.kind=b.kind) (e:a.kind=3) (h:¬ (a.str.size:Int)=b.str.size):cmpV a b=ord3 (decide ((a.str.size:Int)<b.str.size)) false:=by
 unfold cmpV;rw[if_neg (by simp[hk]),if_neg (by omega),if_neg (by omega),if_pos e]
 have h1:cmpI a.str.size b.str.size=ord3 (decide ((a.str.size:Int)<b.str.size)) false:=by
  unfold cmpI ord3;rw[if_neg (c:=(false=true)) (by simp)]
  by_cases h2:(a.str.size:Int)<b.str.size
  ·rw[if_pos h2,if_pos (by simpa using h2)]
  ·rw[if_neg h2,if_neg h,if_neg (by simpa using h2)]
 rw[h1,if_pos];unfold ord3;rw[if_neg (c:=(false=true)) (by simp)]
 split <;> decide
theorem cmp_3b {a b:Val} (hk:a.kind=b.kind) (e:a.kind=3) (h:(a.str.size:Int)=b.str.size):cmpV a b=ord3 (ltS a.str b.str) (decide (a.str=b.str)):=by
 unfold cmpV;rw[if_neg (by simp[hk]),if_neg (by omega),if_neg (by omega),if_pos e,if_neg]
 ·unfold cmpS ord3
  by_cases h1:a.str=b.str
  ·rw[if_pos (c:=decide (a.str=b.str)=true) (by simpa using h1),if_pos h1]
   cases hl:ltS a.str b.str with
   | true=>rw[h1] at hl;exact absurd hl (by rw[ltS_self];simp)
   | false=>rfl
  ·rw[if_neg (c:=decide (a.str=b.str)=true) (by simpa using h1),if_neg h1]
 ·unfold cmpI
  rw[h,if_neg (by omega),if_pos rfl]
  simp
theorem cmp_4 {a b:Val} (hk:a.kind=b.kind) (e:a.kind=4):cmpV a b=ord3 (decide (a.id<b.id)) (a.id==b.id):=by
 unfold cmpV;rw[if_neg (by simp[hk]),if_neg (by omega),if_neg (by omega),if_neg (by omega),if_pos e]
 unfold cmpI ord3
 by_cases h:a.id=b.id
 ·rw[h,if_neg (by omega),if_pos rfl,if_pos (by simp)]
 ·rw[if_neg (c:=(a.id==b.id)=true) (by simpa using h),if_neg h]
  by_cases h2:a.id<b.id
  ·rw[if_pos h2,if_pos (by simpa using h2)]
  ·rw[if_neg h2,if_neg (by simpa using h2)]
theorem rMem_any (n:Int) (t:TyD) (As:zo) (cs:Nat) (Am:zo) (cm:Nat) (w:World) (ht:TyR w t As Am) :
  Calls Tryz.prog 61 #[t.v As cs Am cm,.int .i64 n] w fun e w'=>∃r:Int,e = .returned (.tuple #[.int .i64 r,.bool (t.mems.any fun y=>decide (y.id=n))])∧((t.mems.any fun y=>decide (y.id=n))=true→r=idxD (fun y:MemD=>decide (y.id=n)) t.mems)∧Below w.heap.size w w':=by
 have hl:=ht.mems.1.lt (by omega)
 have HB:=zh (zD w (t.box As cs Am cm));have HX:Hid (TBox (w.alloc (t.box As cs Am cm)) w.heap.size t As cs Am cm):=heap_alloc_new w _;have HT:=zh (ht.below HB.out);clear ht;obtain ⟨an,han⟩:∃an,(t.mems.any fun y=>decide (y.id=n))=an:=⟨_,rfl⟩
 obtain ⟨X,hX⟩:∃X,idxD (fun y:MemD=>decide (y.id=n)) t.mems=X:=⟨_,rfl⟩
 rw[han,hX];have HAN:=zh han;have HIX:=zh hX;clear han hX
 go_enter Tryz.func61,Tryz.ntmps61
 go_upto_region 1 with fail
 generalize w.alloc (t.box As cs Am cm)=W1 at *;obtain ⟨b0,b1,b2,b3,b4,b5,b6,b7,b8,b9⟩:=zG HX.out;go_wp2_with fail
 go_loop [6] (fun i=>∃k:Nat,k≤t.mems.length∧i = .int .i64 (k:Int)∧Hid (∀j (h:j<t.mems.length),j<k→decide ((t.mems[j]).id=n)=false)) (fun i=>t.mems.length - (intOf i).toNat)
 case atStart=>exact ⟨0,by omega,rfl,fun j _ h=>absurd h (by omega)⟩
 case round =>
  obtain ⟨k,hk,rfl,hh⟩:=hrel
  by_cases hlt:k<t.mems.length
  ·obtain ⟨mb,mo,M1,m1,M2,m2,M3,m3,hA,_,d0,d1,d2,d3,d4,d5,d6,d7,d8,d9,d10,d11,d12⟩:=HT.out.mems.at13 hlt
   have h1:(0:Int)≤(k:Int):=by omega
   have h2:(k:Int)<(t.mems.length:Int):=by omega
   have HBX:=b6;rw[hA] at HBX
   by_cases he:(t.mems[k]).id=n
   ·have HE:Hid (an=true∧X=(k:Int)):=⟨by rw[←HAN.out];exact any_yes hlt (decide_eq_true he),by rw[←HIX.out];exact idxD_at _ k hlt hh.out (decide_eq_true he)⟩
    have q1:((t.mems[k]).id==n)=true:=by simpa using he
    clear he b6;go_wp2;go_ret2;exact ⟨k,by rw[HE.out.1];rfl,fun _=>HE.out.2.symm,HB.out⟩
   ·have q1:((t.mems[k]).id==n)=false:=by simpa using he
    have HN:Hid (∀j (h:j<t.mems.length),j<k+1→decide ((t.mems[j]).id=n)=false):=fun j hj hjk=>by
     by_cases ej:j=k
     ·subst ej;exact decide_eq_false he
     ·exact hh.out j hj (by omega)
    clear he b6;go_wp2
    go_round
    case rel=>exact ⟨k+1,by omega,by go_num,HN.out⟩
    case measure=>simp[intOf];omega
  ·have HE:Hid (an=false):=by show _=_;rw[←HAN.out];exact any_no fun j hj=>hh.out j hj (by omega)
   go_wp2
   go_ret2
   exact ⟨0,by rw[HE.out];rfl,fun h=>absurd (HE.out.symm.trans h) (by simp),HB.out⟩
theorem rSym_any (n:Int) (t:TyD) (As:zo) (cs:Nat) (Am:zo) (cm:Nat) (w:World) (ht:TyR w t As Am) :
  Calls Tryz.prog 72 #[t.v As cs Am cm,.int .i64 n] w fun e w'=>∃r:Int,e = .returned (.tuple #[.int .i64 r,.bool (t.syms.any fun y=>decide (y.id=n))])∧((t.syms.any fun y=>decide (y.id=n))=true→r=idxD (fun y:SymD=>decide (y.id=n)) t.syms)∧Below w.heap.size w w':=by
 have hl:=ht.syms.1.lt (by omega)
 have HB:=zh (zD w (t.box As cs Am cm));have HX:Hid (TBox (w.alloc (t.box As cs Am cm)) w.heap.size t As cs Am cm):=heap_alloc_new w _;have HT:=zh (ht.below HB.out);clear ht;obtain ⟨an,han⟩:∃an,(t.syms.any fun y=>decide (y.id=n))=an:=⟨_,rfl⟩
 obtain ⟨X,hX⟩:∃X,idxD (fun y:SymD=>decide (y.id=n)) t.syms=X:=⟨_,rfl⟩
 rw[han,hX];have HAN:=zh han;have HIX:=zh hX;clear han hX
 go_enter Tryz.func72,Tryz.ntmps72
 go_upto_region 1 with fail
 generalize w.alloc (t.box As cs Am cm)=W1 at *;obtain ⟨b0,b1,b2,b3,b4,b5,b6,b7,b8,b9⟩:=zG HX.out;go_wp2_with fail
 go_loop [6] (fun i=>∃k:Nat,k≤t.syms.length∧i = .int .i64 (k:Int)∧Hid (∀j (h:j<t.syms.length),j<k→decide ((t.syms[j]).id=n)=false)) (fun i=>t.syms.length - (intOf i).toNat)
 case atStart=>exact ⟨0,by omega,rfl,fun j _ h=>absurd h (by omega)⟩
 case round =>
  obtain ⟨k,hk,rfl,hh⟩:=hrel
  by_cases hlt:k<t.syms.length
  ·obtain ⟨mb,mo,hA,_,d0,d1⟩:=HT.out.syms.at2 hlt
   have h1:(0:Int)≤(k:Int):=by omega
   have h2:(k:Int)<(t.syms.length:Int):=by omega
   have HBX:=b5;rw[hA] at HBX
   by_cases he:(t.syms[k]).id=n
   ·have HE:Hid (an=true∧X=(k:Int)):=⟨by rw[←HAN.out];exact any_yes hlt (decide_eq_true he),by rw[←HIX.out];exact idxD_at _ k hlt hh.out (decide_eq_true he)⟩
    have q1:((t.syms[k]).id==n)=true:=by simpa using he
    clear he b5;go_wp2;go_ret2;exact ⟨k,by rw[HE.out.1];rfl,fun _=>HE.out.2.symm,HB.out⟩
   ·have q1:((t.syms[k]).id==n)=false:=by simpa using he
    have HN:Hid (∀j (h:j<t.syms.length),j<k+1→decide ((t.syms[j]).id=n)=false):=fun j hj hjk=>by
     by_cases ej:j=k
     ·subst ej;exact decide_eq_false he
     ·exact hh.out j hj (by omega)
    clear he b5;go_wp2
    go_round
    case rel=>exact ⟨k+1,by omega,by go_num,HN.out⟩
    case measure=>simp[intOf];omega
  ·have HE:Hid (an=false):=by show _=_;rw[←HAN.out];exact any_no fun j hj=>hh.out j hj (by omega)
   go_wp2
   go_ret2
   exact ⟨0,by rw[HE.out];rfl,fun h=>absurd (HE.out.symm.trans h) (by simp),HB.out⟩
end Go.Proofs.YthkkllmmbefedaaGreatDoor


