/-
  Walks: the reference's zero and id.
-/
import Derived.Test.YtdfolgmcggdjdaaGreatDoorQGH0
namespace Go.Proofs.YtdfolgmcggdjdaaGreatDoor
open Go.RowKit
set_option maxHeartbeats 16000000
set_option maxRecDepth 100000
theorem rIdF_any (n:Int) (known:Bool) (w:World) :
  Calls Tryz.prog 142 #[.int .i64 n,.bool known] w fun e w'=>e = .returned (.bool (!known&&freeD n))∧w'=w:=by
 cases known with
 | true =>
  go_enter Tryz.func142,Tryz.ntmps142
  go_wp2
  go_ret
  exact ⟨rfl,rfl⟩
 | false =>
  have HE:Hid ((!false&&freeD n)=freeD n):=rfl;rw[HE.out]
  by_cases h1:1≤n
  ·by_cases h2:n≤1000
   ·have HD:Hid (freeD n=true):=by show _=_;unfold freeD;simp[h1,h2]
    go_enter Tryz.func142,Tryz.ntmps142
    go_wp2
    go_ret
    exact ⟨by rw[HD.out];rfl,rfl⟩
   ·have HD:Hid (freeD n=false):=by show _=_;unfold freeD;simp[h2]
    go_enter Tryz.func142,Tryz.ntmps142
    go_wp2
    go_ret
    exact ⟨by rw[HD.out];rfl,rfl⟩
  ·have HD:Hid (freeD n=false):=by show _=_;unfold freeD;simp[h1]
   go_enter Tryz.func142,Tryz.ntmps142
   go_wp2
   go_ret
   exact ⟨by rw[HD.out];rfl,rfl⟩
theorem isEmpty_iff' (s:ByteArray):s.toList.isEmpty=true↔s=⟨#[]⟩:=by
 have h:=zS s ⟨#[]⟩;rw[show (⟨#[]⟩:ByteArray).toList=[] by decide +kernel] at h
 have e:(s.toList==[])=s.toList.isEmpty:=by cases s.toList <;> rfl
 rw[e] at h;rw[h,decide_eq_true_iff]
theorem properE (v:Val):zK v=(decide (v.bool=if v.kind=1 then v.bool else false)&&decide (v.int=if v.kind=2 then v.int else 0)&&decide (v.str=if v.kind=3 then v.str else ⟨#[]⟩)&&decide (v.id=if v.kind=4∨v.kind=6 then v.id else 0)&&decide (v.keys.length=(if v.kind=8 then v.keys else []).length)&&decide (v.items.length=(if 5≤v.kind∧v.kind≤9 then v.items else []).length)&&decide (v.rest.length=(if v.kind=5∨v.kind=6 then v.rest else []).length)):=rfl
theorem rZero_1 (v:Val) (e:v.kind=1) (A1:zo) (c1:Nat) (A2:zo) (c2:Nat) (A3:zo) (c3:Nat) (w:World) :
  Calls Tryz.prog 140 #[v.v A1 c1 A2 c2 A3 c3] w fun e w'=>e = .returned (.bool (zK v))∧Below w.heap.size w w':=by
 have HB:=zh (zD w (v.box A1 c1 A2 c2 A3 c3));have HX:=zh (heap_alloc_new w (v.box A1 c1 A2 c2 A3 c3));have HP:=zh (properE v);have HK:=zh e;clear e
 go_enter Tryz.func140,Tryz.ntmps140
 go_upto_region 1 with fail
 generalize w.alloc (v.box A1 c1 A2 c2 A3 c3)=W1 at *;obtain ⟨v0,v1,v2,v3,v4,v5,v6,v7⟩:=zH HX.out;rw[HK.out] at v0;go_upto_region 2 with fail
 simp only[List.append]
 by_cases q_int:v.int=0
 case neg =>
  have HD:Hid (zK v=false):=by show _=_;rw[HP.out];simp[HK.out,q_int]
  have e_int:(v.int==0)=false:=by simp[q_int]
  clear q_int;go_wp2;go_ret;exact ⟨by rw[HD.out];rfl,HB.out⟩
 have e_int:(v.int==0)=true:=by simp[q_int]
 by_cases q_str:v.str=⟨#[]⟩
 case neg =>
  have HD:Hid (zK v=false):=by show _=_;rw[HP.out];simp[HK.out,q_str]
  have e_str:v.str.toList.isEmpty=false:=by cases h:v.str.toList.isEmpty with|false=>rfl|true=>exact absurd ((isEmpty_iff' v.str).1 h) q_str
  clear q_int q_str;go_wp2;go_ret;exact ⟨by rw[HD.out];rfl,HB.out⟩
 have e_str:v.str.toList.isEmpty=true:=(isEmpty_iff' v.str).2 q_str
 by_cases q_id:v.id=0
 case neg =>
  have HD:Hid (zK v=false):=by show _=_;rw[HP.out];simp[HK.out,q_id]
  have e_id:(v.id==0)=false:=by simp[q_id]
  clear q_int q_str q_id;go_wp2;go_ret;exact ⟨by rw[HD.out];rfl,HB.out⟩
 have e_id:(v.id==0)=true:=by simp[q_id]
 by_cases q_keys:v.keys.length=0
 case neg =>
  have HD:Hid (zK v=false):=by show _=_;rw[HP.out];simp[HK.out,q_keys]
  have e_keys:((v.keys.length:Int)==0)=false:=by simp only[beq_eq_false_iff_ne];omega
  clear q_int q_str q_id q_keys;go_wp2;go_ret;exact ⟨by rw[HD.out];rfl,HB.out⟩
 have e_keys:((v.keys.length:Int)==0)=true:=by simp[q_keys]
 by_cases q_items:v.items.length=0
 case neg =>
  have HD:Hid (zK v=false):=by show _=_;rw[HP.out];simp[HK.out,q_items]
  have e_items:((v.items.length:Int)==0)=false:=by simp only[beq_eq_false_iff_ne];omega
  clear q_int q_str q_id q_keys q_items;go_wp2;go_ret;exact ⟨by rw[HD.out];rfl,HB.out⟩
 have e_items:((v.items.length:Int)==0)=true:=by simp[q_items]
 by_cases q_rest:v.rest.length=0
 case neg =>
  have HD:Hid (zK v=false):=by show _=_;rw[HP.out];simp[HK.out,q_rest]
  have e_rest:((v.rest.length:Int)==0)=false:=by simp only[beq_eq_false_iff_ne];omega
  clear q_int q_str q_id q_keys q_items q_rest;go_wp2;go_ret;exact ⟨by rw[HD.out];rfl,HB.out⟩
 have e_rest:((v.rest.length:Int)==0)=true:=by simp[q_rest]
 have HD:Hid (zK v=true):=by show _=_;rw[HP.out];simp[HK.out,q_int,q_str,q_id,q_keys,q_items,q_rest]
 clear q_int q_str q_id q_keys q_items q_rest;go_wp2;go_ret;exact ⟨by rw[HD.out];rfl,HB.out⟩
theorem rZero_2 (v:Val) (e:v.kind=2) (A1:zo) (c1:Nat) (A2:zo) (c2:Nat) (A3:zo) (c3:Nat) (w:World) :
  Calls Tryz.prog 140 #[v.v A1 c1 A2 c2 A3 c3] w fun e w'=>e = .returned (.bool (zK v))∧Below w.heap.size w w':=by
 have HB:=zh (zD w (v.box A1 c1 A2 c2 A3 c3));have HX:=zh (heap_alloc_new w (v.box A1 c1 A2 c2 A3 c3));have HP:=zh (properE v);have HK:=zh e;clear e
 go_enter Tryz.func140,Tryz.ntmps140
 go_upto_region 1 with fail
 generalize w.alloc (v.box A1 c1 A2 c2 A3 c3)=W1 at *;obtain ⟨v0,v1,v2,v3,v4,v5,v6,v7⟩:=zH HX.out;rw[HK.out] at v0;go_upto_region 2 with fail
 simp only[List.append]
 by_cases q_bool:v.bool=false
 case neg =>
  have HD:Hid (zK v=false):=by show _=_;rw[HP.out];simp[HK.out,q_bool]
  rw[show v.bool=true by simpa using q_bool] at v1
  clear q_bool;go_wp2;go_ret;exact ⟨by rw[HD.out];rfl,HB.out⟩
 rw[q_bool] at v1
 by_cases q_str:v.str=⟨#[]⟩
 case neg =>
  have HD:Hid (zK v=false):=by show _=_;rw[HP.out];simp[HK.out,q_str]
  have e_str:v.str.toList.isEmpty=false:=by cases h:v.str.toList.isEmpty with|false=>rfl|true=>exact absurd ((isEmpty_iff' v.str).1 h) q_str
  clear q_bool q_str;go_wp2;go_ret;exact ⟨by rw[HD.out];rfl,HB.out⟩
 have e_str:v.str.toList.isEmpty=true:=(isEmpty_iff' v.str).2 q_str
 by_cases q_id:v.id=0
 case neg =>
  have HD:Hid (zK v=false):=by show _=_;rw[HP.out];simp[HK.out,q_id]
  have e_id:(v.id==0)=false:=by simp[q_id]
  clear q_bool q_str q_id;go_wp2;go_ret;exact ⟨by rw[HD.out];rfl,HB.out⟩
 have e_id:(v.id==0)=true:=by simp[q_id]
 by_cases q_keys:v.keys.length=0
 case neg =>
  have HD:Hid (zK v=false):=by show _=_;rw[HP.out];simp[HK.out,q_keys]
  have e_keys:((v.keys.length:Int)==0)=false:=by simp only[beq_eq_false_iff_ne];omega
  clear q_bool q_str q_id q_keys;go_wp2;go_ret;exact ⟨by rw[HD.out];rfl,HB.out⟩
 have e_keys:((v.keys.length:Int)==0)=true:=by simp[q_keys]
 by_cases q_items:v.items.length=0
 case neg =>
  have HD:Hid (zK v=false):=by show _=_;rw[HP.out];simp[HK.out,q_items]
  have e_items:((v.items.length:Int)==0)=false:=by simp only[beq_eq_false_iff_ne];omega
  clear q_bool q_str q_id q_keys q_items;go_wp2;go_ret;exact ⟨by rw[HD.out];rfl,HB.out⟩
 have e_items:((v.items.length:Int)==0)=true:=by simp[q_items]
 by_cases q_rest:v.rest.length=0
 case neg =>
  have HD:Hid (zK v=false):=by show _=_;rw[HP.out];simp[HK.out,q_rest]
  have e_rest:((v.rest.length:Int)==0)=false:=by simp only[beq_eq_false_iff_ne];omega
  clear q_bool q_str q_id q_keys q_items q_rest;go_wp2;go_ret;exact ⟨by rw[HD.out];rfl,HB.out⟩
 have e_rest:((v.rest.length:Int)==0)=true:=by simp[q_rest]
 have HD:Hid (zK v=true):=by show _=_;rw[HP.out];simp[HK.out,q_bool,q_str,q_id,q_keys,q_items,q_rest]
 clear q_bool q_str q_id q_keys q_items q_rest;go_wp2;go_ret;exact ⟨by rw[HD.out];rfl,HB.out⟩
theorem rZero_3 (v:Val) (e:v.kind=3) (A1:zo) (c1:Nat) (A2:zo) (c2:Nat) (A3:zo) (c3:Nat) (w:World) :
  Calls Tryz.prog 140 #[v.v A1 c1 A2 c2 A3 c3] w fun e w'=>e = .returned (.bool (zK v))∧Below w.heap.size w w':=by
 have HB:=zh (zD w (v.box A1 c1 A2 c2 A3 c3));have HX:=zh (heap_alloc_new w (v.box A1 c1 A2 c2 A3 c3));have HP:=zh (properE v);have HK:=zh e;clear e
 go_enter Tryz.func140,Tryz.ntmps140
 go_upto_region 1 with fail
 generalize w.alloc (v.box A1 c1 A2 c2 A3 c3)=W1 at *;obtain ⟨v0,v1,v2,v3,v4,v5,v6,v7⟩:=zH HX.out;rw[HK.out] at v0;go_upto_region 2 with fail
 simp only[List.append]
 by_cases q_bool:v.bool=false
 case neg =>
  have HD:Hid (zK v=false):=by show _=_;rw[HP.out];simp[HK.out,q_bool]
  rw[show v.bool=true by simpa using q_bool] at v1
  clear q_bool;go_wp2;go_ret;exact ⟨by rw[HD.out];rfl,HB.out⟩
 rw[q_bool] at v1
 by_cases q_int:v.int=0
 case neg =>
  have HD:Hid (zK v=false):=by show _=_;rw[HP.out];simp[HK.out,q_int]
  have e_int:(v.int==0)=false:=by simp[q_int]
  clear q_bool q_int;go_wp2;go_ret;exact ⟨by rw[HD.out];rfl,HB.out⟩
 have e_int:(v.int==0)=true:=by simp[q_int]
 by_cases q_id:v.id=0
 case neg =>
  have HD:Hid (zK v=false):=by show _=_;rw[HP.out];simp[HK.out,q_id]
  have e_id:(v.id==0)=false:=by simp[q_id]
  clear q_bool q_int q_id;go_wp2;go_ret;exact ⟨by rw[HD.out];rfl,HB.out⟩
 have e_id:(v.id==0)=true:=by simp[q_id]
 by_cases q_keys:v.keys.length=0
 case neg =>
  have HD:Hid (zK v=false):=by show _=_;rw[HP.out];simp[HK.out,q_keys]
  have e_keys:((v.keys.length:Int)==0)=false:=by simp only[beq_eq_false_iff_ne];omega
  clear q_bool q_int q_id q_keys;go_wp2;go_ret;exact ⟨by rw[HD.out];rfl,HB.out⟩
 have e_keys:((v.keys.length:Int)==0)=true:=by simp[q_keys]
 by_cases q_items:v.items.length=0
 case neg =>
  have HD:Hid (zK v=false):=by show _=_;rw[HP.out];simp[HK.out,q_items]
  have e_items:((v.items.length:Int)==0)=false:=by simp only[beq_eq_false_iff_ne];omega
  clear q_bool q_int q_id q_keys q_items;go_wp2;go_ret;exact ⟨by rw[HD.out];rfl,HB.out⟩
 have e_items:((v.items.length:Int)==0)=true:=by simp[q_items]
 by_cases q_rest:v.rest.length=0
 case neg =>
  have HD:Hid (zK v=false):=by show _=_;rw[HP.out];simp[HK.out,q_rest]
  have e_rest:((v.rest.length:Int)==0)=false:=by simp only[beq_eq_false_iff_ne];omega
  clear q_bool q_int q_id q_keys q_items q_rest;go_wp2;go_ret;exact ⟨by rw[HD.out];rfl,HB.out⟩
 have e_rest:((v.rest.length:Int)==0)=true:=by simp[q_rest]
 have HD:Hid (zK v=true):=by show _=_;rw[HP.out];simp[HK.out,q_bool,q_int,q_id,q_keys,q_items,q_rest]
 clear q_bool q_int q_id q_keys q_items q_rest;go_wp2;go_ret;exact ⟨by rw[HD.out];rfl,HB.out⟩
theorem rZero_4 (v:Val) (e:v.kind=4) (A1:zo) (c1:Nat) (A2:zo) (c2:Nat) (A3:zo) (c3:Nat) (w:World) :
  Calls Tryz.prog 140 #[v.v A1 c1 A2 c2 A3 c3] w fun e w'=>e = .returned (.bool (zK v))∧Below w.heap.size w w':=by
 have HB:=zh (zD w (v.box A1 c1 A2 c2 A3 c3));have HX:=zh (heap_alloc_new w (v.box A1 c1 A2 c2 A3 c3));have HP:=zh (properE v);have HK:=zh e;clear e
 go_enter Tryz.func140,Tryz.ntmps140
 go_upto_region 1 with fail
 generalize w.alloc (v.box A1 c1 A2 c2 A3 c3)=W1 at *;obtain ⟨v0,v1,v2,v3,v4,v5,v6,v7⟩:=zH HX.out;rw[HK.out] at v0;go_upto_region 2 with fail
 simp only[List.append]
 by_cases q_bool:v.bool=false
 case neg =>
  have HD:Hid (zK v=false):=by show _=_;rw[HP.out];simp[HK.out,q_bool]
  rw[show v.bool=true by simpa using q_bool] at v1
  clear q_bool;go_wp2;go_ret;exact ⟨by rw[HD.out];rfl,HB.out⟩
 rw[q_bool] at v1
 by_cases q_int:v.int=0
 case neg =>
  have HD:Hid (zK v=false):=by show _=_;rw[HP.out];simp[HK.out,q_int]
  have e_int:(v.int==0)=false:=by simp[q_int]
  clear q_bool q_int;go_wp2;go_ret;exact ⟨by rw[HD.out];rfl,HB.out⟩
 have e_int:(v.int==0)=true:=by simp[q_int]
 by_cases q_str:v.str=⟨#[]⟩
 case neg =>
  have HD:Hid (zK v=false):=by show _=_;rw[HP.out];simp[HK.out,q_str]
  have e_str:v.str.toList.isEmpty=false:=by cases h:v.str.toList.isEmpty with|false=>rfl|true=>exact absurd ((isEmpty_iff' v.str).1 h) q_str
  clear q_bool q_int q_str;go_wp2;go_ret;exact ⟨by rw[HD.out];rfl,HB.out⟩
 have e_str:v.str.toList.isEmpty=true:=(isEmpty_iff' v.str).2 q_str
 by_cases q_keys:v.keys.length=0
 case neg =>
  have HD:Hid (zK v=false):=by show _=_;rw[HP.out];simp[HK.out,q_keys]
  have e_keys:((v.keys.length:Int)==0)=false:=by simp only[beq_eq_false_iff_ne];omega
  clear q_bool q_int q_str q_keys;go_wp2;go_ret;exact ⟨by rw[HD.out];rfl,HB.out⟩
 have e_keys:((v.keys.length:Int)==0)=true:=by simp[q_keys]
 by_cases q_items:v.items.length=0
 case neg =>
  have HD:Hid (zK v=false):=by show _=_;rw[HP.out];simp[HK.out,q_items]
  have e_items:((v.items.length:Int)==0)=false:=by simp only[beq_eq_false_iff_ne];omega
  clear q_bool q_int q_str q_keys q_items;go_wp2;go_ret;exact ⟨by rw[HD.out];rfl,HB.out⟩
 have e_items:((v.items.length:Int)==0)=true:=by simp[q_items]
 by_cases q_rest:v.rest.length=0
 case neg =>
  have HD:Hid (zK v=false):=by show _=_;rw[HP.out];simp[HK.out,q_rest]
  have e_rest:((v.rest.length:Int)==0)=false:=by simp only[beq_eq_false_iff_ne];omega
  clear q_bool q_int q_str q_keys q_items q_rest;go_wp2;go_ret;exact ⟨by rw[HD.out];rfl,HB.out⟩
 have e_rest:((v.rest.length:Int)==0)=true:=by simp[q_rest]
 have HD:Hid (zK v=true):=by show _=_;rw[HP.out];simp[HK.out,q_bool,q_int,q_str,q_keys,q_items,q_rest]
 clear q_bool q_int q_str q_keys q_items q_rest;go_wp2;go_ret;exact ⟨by rw[HD.out];rfl,HB.out⟩
theorem rZero_5 (v:Val) (e:v.kind=5) (A1:zo) (c1:Nat) (A2:zo) (c2:Nat) (A3:zo) (c3:Nat) (w:World) :
  Calls Tryz.prog 140 #[v.v A1 c1 A2 c2 A3 c3] w fun e w'=>e = .returned (.bool (zK v))∧Below w.heap.size w w':=by
 have HB:=zh (zD w (v.box A1 c1 A2 c2 A3 c3));have HX:=zh (heap_alloc_new w (v.box A1 c1 A2 c2 A3 c3));have HP:=zh (properE v);have HK:=zh e;clear e
 go_enter Tryz.func140,Tryz.ntmps140
 go_upto_region 1 with fail
 generalize w.alloc (v.box A1 c1 A2 c2 A3 c3)=W1 at *;obtain ⟨v0,v1,v2,v3,v4,v5,v6,v7⟩:=zH HX.out;rw[HK.out] at v0;go_upto_region 2 with fail
 simp only[List.append]
 by_cases q_bool:v.bool=false
 case neg =>
  have HD:Hid (zK v=false):=by show _=_;rw[HP.out];simp[HK.out,q_bool]
  rw[show v.bool=true by simpa using q_bool] at v1
  clear q_bool;go_wp2;go_ret;exact ⟨by rw[HD.out];rfl,HB.out⟩
 rw[q_bool] at v1
 by_cases q_int:v.int=0
 case neg =>
  have HD:Hid (zK v=false):=by show _=_;rw[HP.out];simp[HK.out,q_int]
  have e_int:(v.int==0)=false:=by simp[q_int]
  clear q_bool q_int;go_wp2;go_ret;exact ⟨by rw[HD.out];rfl,HB.out⟩
 have e_int:(v.int==0)=true:=by simp[q_int]
 by_cases q_str:v.str=⟨#[]⟩
 case neg =>
  have HD:Hid (zK v=false):=by show _=_;rw[HP.out];simp[HK.out,q_str]
  have e_str:v.str.toList.isEmpty=false:=by cases h:v.str.toList.isEmpty with|false=>rfl|true=>exact absurd ((isEmpty_iff' v.str).1 h) q_str
  clear q_bool q_int q_str;go_wp2;go_ret;exact ⟨by rw[HD.out];rfl,HB.out⟩
 have e_str:v.str.toList.isEmpty=true:=(isEmpty_iff' v.str).2 q_str
 by_cases q_id:v.id=0
 case neg =>
  have HD:Hid (zK v=false):=by show _=_;rw[HP.out];simp[HK.out,q_id]
  have e_id:(v.id==0)=false:=by simp[q_id]
  clear q_bool q_int q_str q_id;go_wp2;go_ret;exact ⟨by rw[HD.out];rfl,HB.out⟩
 have e_id:(v.id==0)=true:=by simp[q_id]
 by_cases q_keys:v.keys.length=0
 case neg =>
  have HD:Hid (zK v=false):=by show _=_;rw[HP.out];simp[HK.out,q_keys]
  have e_keys:((v.keys.length:Int)==0)=false:=by simp only[beq_eq_false_iff_ne];omega
  clear q_bool q_int q_str q_id q_keys;go_wp2;go_ret;exact ⟨by rw[HD.out];rfl,HB.out⟩
 have e_keys:((v.keys.length:Int)==0)=true:=by simp[q_keys]
 have HD:Hid (zK v=true):=by show _=_;rw[HP.out];simp[HK.out,q_bool,q_int,q_str,q_id,q_keys]
 clear q_bool q_int q_str q_id q_keys;go_wp2;go_ret;exact ⟨by rw[HD.out];rfl,HB.out⟩
theorem rZero_6 (v:Val) (e:v.kind=6) (A1:zo) (c1:Nat) (A2:zo) (c2:Nat) (A3:zo) (c3:Nat) (w:World) :
  Calls Tryz.prog 140 #[v.v A1 c1 A2 c2 A3 c3] w fun e w'=>e = .returned (.bool (zK v))∧Below w.heap.size w w':=by
 have HB:=zh (zD w (v.box A1 c1 A2 c2 A3 c3));have HX:=zh (heap_alloc_new w (v.box A1 c1 A2 c2 A3 c3));have HP:=zh (properE v);have HK:=zh e;clear e
 go_enter Tryz.func140,Tryz.ntmps140
 go_upto_region 1 with fail
 generalize w.alloc (v.box A1 c1 A2 c2 A3 c3)=W1 at *;obtain ⟨v0,v1,v2,v3,v4,v5,v6,v7⟩:=zH HX.out;rw[HK.out] at v0;go_upto_region 2 with fail
 simp only[List.append]
 by_cases q_bool:v.bool=false
 case neg =>
  have HD:Hid (zK v=false):=by show _=_;rw[HP.out];simp[HK.out,q_bool]
  rw[show v.bool=true by simpa using q_bool] at v1
  clear q_bool;go_wp2;go_ret;exact ⟨by rw[HD.out];rfl,HB.out⟩
 rw[q_bool] at v1
 by_cases q_int:v.int=0
 case neg =>
  have HD:Hid (zK v=false):=by show _=_;rw[HP.out];simp[HK.out,q_int]
  have e_int:(v.int==0)=false:=by simp[q_int]
  clear q_bool q_int;go_wp2;go_ret;exact ⟨by rw[HD.out];rfl,HB.out⟩
 have e_int:(v.int==0)=true:=by simp[q_int]
 by_cases q_str:v.str=⟨#[]⟩
 case neg =>
  have HD:Hid (zK v=false):=by show _=_;rw[HP.out];simp[HK.out,q_str]
  have e_str:v.str.toList.isEmpty=false:=by cases h:v.str.toList.isEmpty with|false=>rfl|true=>exact absurd ((isEmpty_iff' v.str).1 h) q_str
  clear q_bool q_int q_str;go_wp2;go_ret;exact ⟨by rw[HD.out];rfl,HB.out⟩
 have e_str:v.str.toList.isEmpty=true:=(isEmpty_iff' v.str).2 q_str
 by_cases q_keys:v.keys.length=0
 case neg =>
  have HD:Hid (zK v=false):=by show _=_;rw[HP.out];simp[HK.out,q_keys]
  have e_keys:((v.keys.length:Int)==0)=false:=by simp only[beq_eq_false_iff_ne];omega
  clear q_bool q_int q_str q_keys;go_wp2;go_ret;exact ⟨by rw[HD.out];rfl,HB.out⟩
 have e_keys:((v.keys.length:Int)==0)=true:=by simp[q_keys]
 have HD:Hid (zK v=true):=by show _=_;rw[HP.out];simp[HK.out,q_bool,q_int,q_str,q_keys]
 clear q_bool q_int q_str q_keys;go_wp2;go_ret;exact ⟨by rw[HD.out];rfl,HB.out⟩
theorem rZero_7 (v:Val) (e:v.kind=7) (A1:zo) (c1:Nat) (A2:zo) (c2:Nat) (A3:zo) (c3:Nat) (w:World) :
  Calls Tryz.prog 140 #[v.v A1 c1 A2 c2 A3 c3] w fun e w'=>e = .returned (.bool (zK v))∧Below w.heap.size w w':=by
 have HB:=zh (zD w (v.box A1 c1 A2 c2 A3 c3));have HX:=zh (heap_alloc_new w (v.box A1 c1 A2 c2 A3 c3));have HP:=zh (properE v);have HK:=zh e;clear e
 go_enter Tryz.func140,Tryz.ntmps140
 go_upto_region 1 with fail
 generalize w.alloc (v.box A1 c1 A2 c2 A3 c3)=W1 at *;obtain ⟨v0,v1,v2,v3,v4,v5,v6,v7⟩:=zH HX.out;rw[HK.out] at v0;go_upto_region 2 with fail
 simp only[List.append]
 by_cases q_bool:v.bool=false
 case neg =>
  have HD:Hid (zK v=false):=by show _=_;rw[HP.out];simp[HK.out,q_bool]
  rw[show v.bool=true by simpa using q_bool] at v1
  clear q_bool;go_wp2;go_ret;exact ⟨by rw[HD.out];rfl,HB.out⟩
 rw[q_bool] at v1
 by_cases q_int:v.int=0
 case neg =>
  have HD:Hid (zK v=false):=by show _=_;rw[HP.out];simp[HK.out,q_int]
  have e_int:(v.int==0)=false:=by simp[q_int]
  clear q_bool q_int;go_wp2;go_ret;exact ⟨by rw[HD.out];rfl,HB.out⟩
 have e_int:(v.int==0)=true:=by simp[q_int]
 by_cases q_str:v.str=⟨#[]⟩
 case neg =>
  have HD:Hid (zK v=false):=by show _=_;rw[HP.out];simp[HK.out,q_str]
  have e_str:v.str.toList.isEmpty=false:=by cases h:v.str.toList.isEmpty with|false=>rfl|true=>exact absurd ((isEmpty_iff' v.str).1 h) q_str
  clear q_bool q_int q_str;go_wp2;go_ret;exact ⟨by rw[HD.out];rfl,HB.out⟩
 have e_str:v.str.toList.isEmpty=true:=(isEmpty_iff' v.str).2 q_str
 by_cases q_id:v.id=0
 case neg =>
  have HD:Hid (zK v=false):=by show _=_;rw[HP.out];simp[HK.out,q_id]
  have e_id:(v.id==0)=false:=by simp[q_id]
  clear q_bool q_int q_str q_id;go_wp2;go_ret;exact ⟨by rw[HD.out];rfl,HB.out⟩
 have e_id:(v.id==0)=true:=by simp[q_id]
 by_cases q_keys:v.keys.length=0
 case neg =>
  have HD:Hid (zK v=false):=by show _=_;rw[HP.out];simp[HK.out,q_keys]
  have e_keys:((v.keys.length:Int)==0)=false:=by simp only[beq_eq_false_iff_ne];omega
  clear q_bool q_int q_str q_id q_keys;go_wp2;go_ret;exact ⟨by rw[HD.out];rfl,HB.out⟩
 have e_keys:((v.keys.length:Int)==0)=true:=by simp[q_keys]
 by_cases q_rest:v.rest.length=0
 case neg =>
  have HD:Hid (zK v=false):=by show _=_;rw[HP.out];simp[HK.out,q_rest]
  have e_rest:((v.rest.length:Int)==0)=false:=by simp only[beq_eq_false_iff_ne];omega
  clear q_bool q_int q_str q_id q_keys q_rest;go_wp2;go_ret;exact ⟨by rw[HD.out];rfl,HB.out⟩
 have e_rest:((v.rest.length:Int)==0)=true:=by simp[q_rest]
 have HD:Hid (zK v=true):=by show _=_;rw[HP.out];simp[HK.out,q_bool,q_int,q_str,q_id,q_keys,q_rest]
 clear q_bool q_int q_str q_id q_keys q_rest;go_wp2;go_ret;exact ⟨by rw[HD.out];rfl,HB.out⟩
theorem rZero_8 (v:Val) (e:v.kind=8) (A1:zo) (c1:Nat) (A2:zo) (c2:Nat) (A3:zo) (c3:Nat) (w:World) :
  Calls Tryz.prog 140 #[v.v A1 c1 A2 c2 A3 c3] w fun e w'=>e = .returned (.bool (zK v))∧Below w.heap.size w w':=by
 have HB:=zh (zD w (v.box A1 c1 A2 c2 A3 c3));have HX:=zh (heap_alloc_new w (v.box A1 c1 A2 c2 A3 c3));have HP:=zh (properE v);have HK:=zh e;clear e
 go_enter Tryz.func140,Tryz.ntmps140
 go_upto_region 1 with fail
 generalize w.alloc (v.box A1 c1 A2 c2 A3 c3)=W1 at *;obtain ⟨v0,v1,v2,v3,v4,v5,v6,v7⟩:=zH HX.out;rw[HK.out] at v0;go_upto_region 2 with fail
 simp only[List.append]
 by_cases q_bool:v.bool=false
 case neg =>
  have HD:Hid (zK v=false):=by show _=_;rw[HP.out];simp[HK.out,q_bool]
  rw[show v.bool=true by simpa using q_bool] at v1
  clear q_bool;go_wp2;go_ret;exact ⟨by rw[HD.out];rfl,HB.out⟩
 rw[q_bool] at v1
 by_cases q_int:v.int=0
 case neg =>
  have HD:Hid (zK v=false):=by show _=_;rw[HP.out];simp[HK.out,q_int]
  have e_int:(v.int==0)=false:=by simp[q_int]
  clear q_bool q_int;go_wp2;go_ret;exact ⟨by rw[HD.out];rfl,HB.out⟩
 have e_int:(v.int==0)=true:=by simp[q_int]
 by_cases q_str:v.str=⟨#[]⟩
 case neg =>
  have HD:Hid (zK v=false):=by show _=_;rw[HP.out];simp[HK.out,q_str]
  have e_str:v.str.toList.isEmpty=false:=by cases h:v.str.toList.isEmpty with|false=>rfl|true=>exact absurd ((isEmpty_iff' v.str).1 h) q_str
  clear q_bool q_int q_str;go_wp2;go_ret;exact ⟨by rw[HD.out];rfl,HB.out⟩
 have e_str:v.str.toList.isEmpty=true:=(isEmpty_iff' v.str).2 q_str
 by_cases q_id:v.id=0
 case neg =>
  have HD:Hid (zK v=false):=by show _=_;rw[HP.out];simp[HK.out,q_id]
  have e_id:(v.id==0)=false:=by simp[q_id]
  clear q_bool q_int q_str q_id;go_wp2;go_ret;exact ⟨by rw[HD.out];rfl,HB.out⟩
 have e_id:(v.id==0)=true:=by simp[q_id]
 by_cases q_rest:v.rest.length=0
 case neg =>
  have HD:Hid (zK v=false):=by show _=_;rw[HP.out];simp[HK.out,q_rest]
  have e_rest:((v.rest.length:Int)==0)=false:=by simp only[beq_eq_false_iff_ne];omega
  clear q_bool q_int q_str q_id q_rest;go_wp2;go_ret;exact ⟨by rw[HD.out];rfl,HB.out⟩
 have e_rest:((v.rest.length:Int)==0)=true:=by simp[q_rest]
 have HD:Hid (zK v=true):=by show _=_;rw[HP.out];simp[HK.out,q_bool,q_int,q_str,q_id,q_rest]
 clear q_bool q_int q_str q_id q_rest;go_wp2;go_ret;exact ⟨by rw[HD.out];rfl,HB.out⟩
theorem rZero_9 (v:Val) (e:v.kind=9) (A1:zo) (c1:Nat) (A2:zo) (c2:Nat) (A3:zo) (c3:Nat) (w:World) :
  Calls Tryz.prog 140 #[v.v A1 c1 A2 c2 A3 c3] w fun e w'=>e = .returned (.bool (zK v))∧Below w.heap.size w w':=by
 have HB:=zh (zD w (v.box A1 c1 A2 c2 A3 c3));have HX:=zh (heap_alloc_new w (v.box A1 c1 A2 c2 A3 c3));have HP:=zh (properE v);have HK:=zh e;clear e
 go_enter Tryz.func140,Tryz.ntmps140
 go_upto_region 1 with fail
 generalize w.alloc (v.box A1 c1 A2 c2 A3 c3)=W1 at *;obtain ⟨v0,v1,v2,v3,v4,v5,v6,v7⟩:=zH HX.out;rw[HK.out] at v0;go_upto_region 2 with fail
 simp only[List.append]
 by_cases q_bool:v.bool=false
 case neg =>
  have HD:Hid (zK v=false):=by show _=_;rw[HP.out];simp[HK.out,q_bool]
  rw[show v.bool=true by simpa using q_bool] at v1
  clear q_bool;go_wp2;go_ret;exact ⟨by rw[HD.out];rfl,HB.out⟩
 rw[q_bool] at v1
 by_cases q_int:v.int=0
 case neg =>
  have HD:Hid (zK v=false):=by show _=_;rw[HP.out];simp[HK.out,q_int]
  have e_int:(v.int==0)=false:=by simp[q_int]
  clear q_bool q_int;go_wp2;go_ret;exact ⟨by rw[HD.out];rfl,HB.out⟩
 have e_int:(v.int==0)=true:=by simp[q_int]
 by_cases q_str:v.str=⟨#[]⟩
 case neg =>
  have HD:Hid (zK v=false):=by show _=_;rw[HP.out];simp[HK.out,q_str]
  have e_str:v.str.toList.isEmpty=false:=by cases h:v.str.toList.isEmpty with|false=>rfl|true=>exact absurd ((isEmpty_iff' v.str).1 h) q_str
  clear q_bool q_int q_str;go_wp2;go_ret;exact ⟨by rw[HD.out];rfl,HB.out⟩
 have e_str:v.str.toList.isEmpty=true:=(isEmpty_iff' v.str).2 q_str
 by_cases q_id:v.id=0
 case neg =>
  have HD:Hid (zK v=false):=by show _=_;rw[HP.out];simp[HK.out,q_id]
  have e_id:(v.id==0)=false:=by simp[q_id]
  clear q_bool q_int q_str q_id;go_wp2;go_ret;exact ⟨by rw[HD.out];rfl,HB.out⟩
 have e_id:(v.id==0)=true:=by simp[q_id]
 by_cases q_keys:v.keys.length=0
 case neg =>
  have HD:Hid (zK v=false):=by show _=_;rw[HP.out];simp[HK.out,q_keys]
  have e_keys:((v.keys.length:Int)==0)=false:=by simp only[beq_eq_false_iff_ne];omega
  clear q_bool q_int q_str q_id q_keys;go_wp2;go_ret;exact ⟨by rw[HD.out];rfl,HB.out⟩
 have e_keys:((v.keys.length:Int)==0)=true:=by simp[q_keys]
 by_cases q_rest:v.rest.length=0
 case neg =>
  have HD:Hid (zK v=false):=by show _=_;rw[HP.out];simp[HK.out,q_rest]
  have e_rest:((v.rest.length:Int)==0)=false:=by simp only[beq_eq_false_iff_ne];omega
  clear q_bool q_int q_str q_id q_keys q_rest;go_wp2;go_ret;exact ⟨by rw[HD.out];rfl,HB.out⟩
 have e_rest:((v.rest.length:Int)==0)=true:=by simp[q_rest]
 have HD:Hid (zK v=true):=by show _=_;rw[HP.out];simp[HK.out,q_bool,q_int,q_str,q_id,q_keys,q_rest]
 clear q_bool q_int q_str q_id q_keys q_rest;go_wp2;go_ret;exact ⟨by rw[HD.out];rfl,HB.out⟩
theorem yJ (v:Val) (hk:1≤v.kind∧v.kind≤9) (A1:zo) (c1:Nat) (A2:zo) (c2:Nat) (A3:zo) (c3:Nat) (w:World) :
  Calls Tryz.prog 140 #[v.v A1 c1 A2 c2 A3 c3] w fun e w'=>e = .returned (.bool (zK v))∧Below w.heap.size w w':=by
 have hkx:v.kind=1∨v.kind=2∨v.kind=3∨v.kind=4∨v.kind=5∨v.kind=6∨v.kind=7∨v.kind=8∨v.kind=9:=by omega
 rcases hkx with e|e|e|e|e|e|e|e|e
 ·exact rZero_1 v e A1 c1 A2 c2 A3 c3 w
 ·exact rZero_2 v e A1 c1 A2 c2 A3 c3 w
 ·exact rZero_3 v e A1 c1 A2 c2 A3 c3 w
 ·exact rZero_4 v e A1 c1 A2 c2 A3 c3 w
 ·exact rZero_5 v e A1 c1 A2 c2 A3 c3 w
 ·exact rZero_6 v e A1 c1 A2 c2 A3 c3 w
 ·exact rZero_7 v e A1 c1 A2 c2 A3 c3 w
 ·exact rZero_8 v e A1 c1 A2 c2 A3 c3 w
 ·exact rZero_9 v e A1 c1 A2 c2 A3 c3 w
end Go.Proofs.YtdfolgmcggdjdaaGreatDoor


