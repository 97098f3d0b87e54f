/-
  Walks: the reference's Member, Symbol, Compare.
-/
import Derived.Test.YthkkllmmbefedaaGreatDoorQGA8
import Derived.Test.YthkkllmmbefedaaGreatDoorQGA9
import Derived.BigQuiet
namespace Go.Proofs.YthkkllmmbefedaaGreatDoor
open Go.RowKit
set_option maxHeartbeats 16000000
set_option maxRecDepth 100000
theorem En (n:Int) (known:Bool) (w:World) :
  Calls Tryz.prog 104 #[.int .i64 n,.bool known] w fun e w'=>e = .returned (.bool (!known&&Aw n))/\w'=w:=by
 cases known with
 | true =>
  go_enter Tryz.func104,Tryz.ntmps104
  go_wp2
  go_ret
  exact ⟨rfl,rfl⟩
 | false =>
  have HE:Hid ((!false&&Aw n)=Aw n):=rfl;rw[HE.out]
  by_cases h1:1<=n
  ·by_cases h2:n<=1000
   ·have HD:Hid (Aw n=true):=by show _=_;unfold Aw;simp[h1,h2]
    go_enter Tryz.func104,Tryz.ntmps104
    go_wp2
    go_ret
    exact ⟨by rw[HD.out];rfl,rfl⟩
   ·have HD:Hid (Aw n=false):=by show _=_;unfold Aw;simp[h2]
    go_enter Tryz.func104,Tryz.ntmps104
    go_wp2
    go_ret
    exact ⟨by rw[HD.out];rfl,rfl⟩
  ·have HD:Hid (Aw n=false):=by show _=_;unfold Aw;simp[h1]
   go_enter Tryz.func104,Tryz.ntmps104
   go_wp2
   go_ret
   exact ⟨by rw[HD.out];rfl,rfl⟩
theorem Aq (s:ByteArray):s.toList.isEmpty=true↔s=⟨#[]⟩:=by
 have h:=bytes_beq s ⟨#[]⟩;rw[show (⟨#[]⟩:ByteArray).toList=[] by decide +kernel] at h
 have e:(s.toList==[])=s.toList.isEmpty:=by cases s.toList <;> rfl
 rw[e] at h;rw[h,decide_eq_true_iff]
theorem Ef (v:Val):zJ v=(decide (v.bool=if v.kind=1 then v.bool else false)&&decide (v.int=if v.kind=2 then v.int else 0)&&decide (v.str=if v.kind=3 then v.str else ⟨#[]⟩)&&decide (v.id=if v.kind=4\/v.kind=6 then v.id else 0)&&decide (v.keys.length=(if v.kind=8 then v.keys else []).length)&&decide (v.items.length=(if 5<=v.kind/\v.kind<=9 then v.items else []).length)&&decide (v.rest.length=(if v.kind=5\/v.kind=6 then v.rest else []).length)):=rfl
theorem jL (v:Val) (e:v.kind=1) (A1:zo) (c1:Nat) (A2:zo) (c2:Nat) (A3:zo) (c3:Nat) (w:World) :
  Calls Tryz.prog 103 #[v.v A1 c1 A2 c2 A3 c3] w fun e w'=>e = .returned (.bool (zJ v))/\Below w.heap.size w w':=by
 have HB:=zh (zD w (v.box A1 c1 A2 c2 A3 c3));have HX:=zh (AAC w (v.box A1 c1 A2 c2 A3 c3));have HP:=zh (Ef v);have HK:=zh e;clear e
 go_enter Tryz.func103,Tryz.ntmps103
 go_upto_region 1 with fail
 generalize w.alloc (v.box A1 c1 A2 c2 A3 c3)=W1 at *;obtain ⟨v0,v1,v2,v3,v4,v5,v6,v7⟩:=zF HX;rw[HK.out] at v0;go_upto_region 2 with fail
 simp only[List.append]
 by_cases Ag:v.int=0
 case neg =>
  have HD:Hid (zJ v=false):=by show _=_;rw[HP.out];simp[HK.out,Ag]
  have F4:(v.int==0)=false:=by simp[Ag]
  clear Ag;go_wp2;go_ret;exact ⟨by rw[HD.out];rfl,HB.out⟩
 have F4:(v.int==0)=true:=by simp[Ag]
 by_cases Ah:v.str=⟨#[]⟩
 case neg =>
  have HD:Hid (zJ v=false):=by show _=_;rw[HP.out];simp[HK.out,Ah]
  have Fz:v.str.toList.isEmpty=false:=by cases h:v.str.toList.isEmpty with|false=>rfl|true=>exact absurd ((Aq v.str).1 h) Ah
  clear Ag Ah;go_wp2;go_ret;exact ⟨by rw[HD.out];rfl,HB.out⟩
 have Fz:v.str.toList.isEmpty=true:=(Aq v.str).2 Ah
 by_cases BQ:v.id=0
 case neg =>
  have HD:Hid (zJ v=false):=by show _=_;rw[HP.out];simp[HK.out,BQ]
  have MB:(v.id==0)=false:=by simp[BQ]
  clear Ag Ah BQ;go_wp2;go_ret;exact ⟨by rw[HD.out];rfl,HB.out⟩
 have MB:(v.id==0)=true:=by simp[BQ]
 by_cases Ai:v.keys.length=0
 case neg =>
  have HD:Hid (zJ v=false):=by show _=_;rw[HP.out];simp[HK.out,Ai]
  have Du:((v.keys.length:Int)==0)=false:=by simp only[AAc];omega
  clear Ag Ah BQ Ai;go_wp2;go_ret;exact ⟨by rw[HD.out];rfl,HB.out⟩
 have Du:((v.keys.length:Int)==0)=true:=by simp[Ai]
 by_cases BG:v.items.length=0
 case neg =>
  have HD:Hid (zJ v=false):=by show _=_;rw[HP.out];simp[HK.out,BG]
  have Hq:((v.items.length:Int)==0)=false:=by simp only[AAc];omega
  clear Ag Ah BQ Ai BG;go_wp2;go_ret;exact ⟨by rw[HD.out];rfl,HB.out⟩
 have Hq:((v.items.length:Int)==0)=true:=by simp[BG]
 by_cases Ar:v.rest.length=0
 case neg =>
  have HD:Hid (zJ v=false):=by show _=_;rw[HP.out];simp[HK.out,Ar]
  have Ec:((v.rest.length:Int)==0)=false:=by simp only[AAc];omega
  clear Ag Ah BQ Ai BG Ar;go_wp2;go_ret;exact ⟨by rw[HD.out];rfl,HB.out⟩
 have Ec:((v.rest.length:Int)==0)=true:=by simp[Ar]
 have HD:Hid (zJ v=true):=by show _=_;rw[HP.out];simp[HK.out,Ag,Ah,BQ,Ai,BG,Ar]
 clear Ag Ah BQ Ai BG Ar;go_wp2;go_ret;exact ⟨by rw[HD.out];rfl,HB.out⟩
theorem jK (v:Val) (e:v.kind=2) (A1:zo) (c1:Nat) (A2:zo) (c2:Nat) (A3:zo) (c3:Nat) (w:World) :
  Calls Tryz.prog 103 #[v.v A1 c1 A2 c2 A3 c3] w fun e w'=>e = .returned (.bool (zJ v))/\Below w.heap.size w w':=by
 have HB:=zh (zD w (v.box A1 c1 A2 c2 A3 c3));have HX:=zh (AAC w (v.box A1 c1 A2 c2 A3 c3));have HP:=zh (Ef v);have HK:=zh e;clear e
 go_enter Tryz.func103,Tryz.ntmps103
 go_upto_region 1 with fail
 generalize w.alloc (v.box A1 c1 A2 c2 A3 c3)=W1 at *;obtain ⟨v0,v1,v2,v3,v4,v5,v6,v7⟩:=zF HX;rw[HK.out] at v0;go_upto_region 2 with fail
 simp only[List.append]
 by_cases AV:v.bool=false
 case neg =>
  have HD:Hid (zJ v=false):=by show _=_;rw[HP.out];simp[HK.out,AV]
  rw[show v.bool=true by simpa using AV] at v1
  clear AV;go_wp2;go_ret;exact ⟨by rw[HD.out];rfl,HB.out⟩
 rw[AV] at v1
 by_cases Ah:v.str=⟨#[]⟩
 case neg =>
  have HD:Hid (zJ v=false):=by show _=_;rw[HP.out];simp[HK.out,Ah]
  have Fz:v.str.toList.isEmpty=false:=by cases h:v.str.toList.isEmpty with|false=>rfl|true=>exact absurd ((Aq v.str).1 h) Ah
  clear AV Ah;go_wp2;go_ret;exact ⟨by rw[HD.out];rfl,HB.out⟩
 have Fz:v.str.toList.isEmpty=true:=(Aq v.str).2 Ah
 by_cases BQ:v.id=0
 case neg =>
  have HD:Hid (zJ v=false):=by show _=_;rw[HP.out];simp[HK.out,BQ]
  have MB:(v.id==0)=false:=by simp[BQ]
  clear AV Ah BQ;go_wp2;go_ret;exact ⟨by rw[HD.out];rfl,HB.out⟩
 have MB:(v.id==0)=true:=by simp[BQ]
 by_cases Ai:v.keys.length=0
 case neg =>
  have HD:Hid (zJ v=false):=by show _=_;rw[HP.out];simp[HK.out,Ai]
  have Du:((v.keys.length:Int)==0)=false:=by simp only[AAc];omega
  clear AV Ah BQ Ai;go_wp2;go_ret;exact ⟨by rw[HD.out];rfl,HB.out⟩
 have Du:((v.keys.length:Int)==0)=true:=by simp[Ai]
 by_cases BG:v.items.length=0
 case neg =>
  have HD:Hid (zJ v=false):=by show _=_;rw[HP.out];simp[HK.out,BG]
  have Hq:((v.items.length:Int)==0)=false:=by simp only[AAc];omega
  clear AV Ah BQ Ai BG;go_wp2;go_ret;exact ⟨by rw[HD.out];rfl,HB.out⟩
 have Hq:((v.items.length:Int)==0)=true:=by simp[BG]
 by_cases Ar:v.rest.length=0
 case neg =>
  have HD:Hid (zJ v=false):=by show _=_;rw[HP.out];simp[HK.out,Ar]
  have Ec:((v.rest.length:Int)==0)=false:=by simp only[AAc];omega
  clear AV Ah BQ Ai BG Ar;go_wp2;go_ret;exact ⟨by rw[HD.out];rfl,HB.out⟩
 have Ec:((v.rest.length:Int)==0)=true:=by simp[Ar]
 have HD:Hid (zJ v=true):=by show _=_;rw[HP.out];simp[HK.out,AV,Ah,BQ,Ai,BG,Ar]
 clear AV Ah BQ Ai BG Ar;go_wp2;go_ret;exact ⟨by rw[HD.out];rfl,HB.out⟩
theorem jJ (v:Val) (e:v.kind=3) (A1:zo) (c1:Nat) (A2:zo) (c2:Nat) (A3:zo) (c3:Nat) (w:World) :
  Calls Tryz.prog 103 #[v.v A1 c1 A2 c2 A3 c3] w fun e w'=>e = .returned (.bool (zJ v))/\Below w.heap.size w w':=by
 have HB:=zh (zD w (v.box A1 c1 A2 c2 A3 c3));have HX:=zh (AAC w (v.box A1 c1 A2 c2 A3 c3));have HP:=zh (Ef v);have HK:=zh e;clear e
 go_enter Tryz.func103,Tryz.ntmps103
 go_upto_region 1 with fail
 generalize w.alloc (v.box A1 c1 A2 c2 A3 c3)=W1 at *;obtain ⟨v0,v1,v2,v3,v4,v5,v6,v7⟩:=zF HX;rw[HK.out] at v0;go_upto_region 2 with fail
 simp only[List.append]
 by_cases AV:v.bool=false
 case neg =>
  have HD:Hid (zJ v=false):=by show _=_;rw[HP.out];simp[HK.out,AV]
  rw[show v.bool=true by simpa using AV] at v1
  clear AV;go_wp2;go_ret;exact ⟨by rw[HD.out];rfl,HB.out⟩
 rw[AV] at v1
 by_cases Ag:v.int=0
 case neg =>
  have HD:Hid (zJ v=false):=by show _=_;rw[HP.out];simp[HK.out,Ag]
  have F4:(v.int==0)=false:=by simp[Ag]
  clear AV Ag;go_wp2;go_ret;exact ⟨by rw[HD.out];rfl,HB.out⟩
 have F4:(v.int==0)=true:=by simp[Ag]
 by_cases BQ:v.id=0
 case neg =>
  have HD:Hid (zJ v=false):=by show _=_;rw[HP.out];simp[HK.out,BQ]
  have MB:(v.id==0)=false:=by simp[BQ]
  clear AV Ag BQ;go_wp2;go_ret;exact ⟨by rw[HD.out];rfl,HB.out⟩
 have MB:(v.id==0)=true:=by simp[BQ]
 by_cases Ai:v.keys.length=0
 case neg =>
  have HD:Hid (zJ v=false):=by show _=_;rw[HP.out];simp[HK.out,Ai]
  have Du:((v.keys.length:Int)==0)=false:=by simp only[AAc];omega
  clear AV Ag BQ Ai;go_wp2;go_ret;exact ⟨by rw[HD.out];rfl,HB.out⟩
 have Du:((v.keys.length:Int)==0)=true:=by simp[Ai]
 by_cases BG:v.items.length=0
 case neg =>
  have HD:Hid (zJ v=false):=by show _=_;rw[HP.out];simp[HK.out,BG]
  have Hq:((v.items.length:Int)==0)=false:=by simp only[AAc];omega
  clear AV Ag BQ Ai BG;go_wp2;go_ret;exact ⟨by rw[HD.out];rfl,HB.out⟩
 have Hq:((v.items.length:Int)==0)=true:=by simp[BG]
 by_cases Ar:v.rest.length=0
 case neg =>
  have HD:Hid (zJ v=false):=by show _=_;rw[HP.out];simp[HK.out,Ar]
  have Ec:((v.rest.length:Int)==0)=false:=by simp only[AAc];omega
  clear AV Ag BQ Ai BG Ar;go_wp2;go_ret;exact ⟨by rw[HD.out];rfl,HB.out⟩
 have Ec:((v.rest.length:Int)==0)=true:=by simp[Ar]
 have HD:Hid (zJ v=true):=by show _=_;rw[HP.out];simp[HK.out,AV,Ag,BQ,Ai,BG,Ar]
 clear AV Ag BQ Ai BG Ar;go_wp2;go_ret;exact ⟨by rw[HD.out];rfl,HB.out⟩
theorem jI (v:Val) (e:v.kind=4) (A1:zo) (c1:Nat) (A2:zo) (c2:Nat) (A3:zo) (c3:Nat) (w:World) :
  Calls Tryz.prog 103 #[v.v A1 c1 A2 c2 A3 c3] w fun e w'=>e = .returned (.bool (zJ v))/\Below w.heap.size w w':=by
 have HB:=zh (zD w (v.box A1 c1 A2 c2 A3 c3));have HX:=zh (AAC w (v.box A1 c1 A2 c2 A3 c3));have HP:=zh (Ef v);have HK:=zh e;clear e
 go_enter Tryz.func103,Tryz.ntmps103
 go_upto_region 1 with fail
 generalize w.alloc (v.box A1 c1 A2 c2 A3 c3)=W1 at *;obtain ⟨v0,v1,v2,v3,v4,v5,v6,v7⟩:=zF HX;rw[HK.out] at v0;go_upto_region 2 with fail
 simp only[List.append]
 by_cases AV:v.bool=false
 case neg =>
  have HD:Hid (zJ v=false):=by show _=_;rw[HP.out];simp[HK.out,AV]
  rw[show v.bool=true by simpa using AV] at v1
  clear AV;go_wp2;go_ret;exact ⟨by rw[HD.out];rfl,HB.out⟩
 rw[AV] at v1
 by_cases Ag:v.int=0
 case neg =>
  have HD:Hid (zJ v=false):=by show _=_;rw[HP.out];simp[HK.out,Ag]
  have F4:(v.int==0)=false:=by simp[Ag]
  clear AV Ag;go_wp2;go_ret;exact ⟨by rw[HD.out];rfl,HB.out⟩
 have F4:(v.int==0)=true:=by simp[Ag]
 by_cases Ah:v.str=⟨#[]⟩
 case neg =>
  have HD:Hid (zJ v=false):=by show _=_;rw[HP.out];simp[HK.out,Ah]
  have Fz:v.str.toList.isEmpty=false:=by cases h:v.str.toList.isEmpty with|false=>rfl|true=>exact absurd ((Aq v.str).1 h) Ah
  clear AV Ag Ah;go_wp2;go_ret;exact ⟨by rw[HD.out];rfl,HB.out⟩
 have Fz:v.str.toList.isEmpty=true:=(Aq v.str).2 Ah
 by_cases Ai:v.keys.length=0
 case neg =>
  have HD:Hid (zJ v=false):=by show _=_;rw[HP.out];simp[HK.out,Ai]
  have Du:((v.keys.length:Int)==0)=false:=by simp only[AAc];omega
  clear AV Ag Ah Ai;go_wp2;go_ret;exact ⟨by rw[HD.out];rfl,HB.out⟩
 have Du:((v.keys.length:Int)==0)=true:=by simp[Ai]
 by_cases BG:v.items.length=0
 case neg =>
  have HD:Hid (zJ v=false):=by show _=_;rw[HP.out];simp[HK.out,BG]
  have Hq:((v.items.length:Int)==0)=false:=by simp only[AAc];omega
  clear AV Ag Ah Ai BG;go_wp2;go_ret;exact ⟨by rw[HD.out];rfl,HB.out⟩
 have Hq:((v.items.length:Int)==0)=true:=by simp[BG]
 by_cases Ar:v.rest.length=0
 case neg =>
  have HD:Hid (zJ v=false):=by show _=_;rw[HP.out];simp[HK.out,Ar]
  have Ec:((v.rest.length:Int)==0)=false:=by simp only[AAc];omega
  clear AV Ag Ah Ai BG Ar;go_wp2;go_ret;exact ⟨by rw[HD.out];rfl,HB.out⟩
 have Ec:((v.rest.length:Int)==0)=true:=by simp[Ar]
 have HD:Hid (zJ v=true):=by show _=_;rw[HP.out];simp[HK.out,AV,Ag,Ah,Ai,BG,Ar]
 clear AV Ag Ah Ai BG Ar;go_wp2;go_ret;exact ⟨by rw[HD.out];rfl,HB.out⟩
theorem jH (v:Val) (e:v.kind=5) (A1:zo) (c1:Nat) (A2:zo) (c2:Nat) (A3:zo) (c3:Nat) (w:World) :
  Calls Tryz.prog 103 #[v.v A1 c1 A2 c2 A3 c3] w fun e w'=>e = .returned (.bool (zJ v))/\Below w.heap.size w w':=by
 have HB:=zh (zD w (v.box A1 c1 A2 c2 A3 c3));have HX:=zh (AAC w (v.box A1 c1 A2 c2 A3 c3));have HP:=zh (Ef v);have HK:=zh e;clear e
 go_enter Tryz.func103,Tryz.ntmps103
 go_upto_region 1 with fail
 generalize w.alloc (v.box A1 c1 A2 c2 A3 c3)=W1 at *;obtain ⟨v0,v1,v2,v3,v4,v5,v6,v7⟩:=zF HX;rw[HK.out] at v0;go_upto_region 2 with fail
 simp only[List.append]
 by_cases AV:v.bool=false
 case neg =>
  have HD:Hid (zJ v=false):=by show _=_;rw[HP.out];simp[HK.out,AV]
  rw[show v.bool=true by simpa using AV] at v1
  clear AV;go_wp2;go_ret;exact ⟨by rw[HD.out];rfl,HB.out⟩
 rw[AV] at v1
 by_cases Ag:v.int=0
 case neg =>
  have HD:Hid (zJ v=false):=by show _=_;rw[HP.out];simp[HK.out,Ag]
  have F4:(v.int==0)=false:=by simp[Ag]
  clear AV Ag;go_wp2;go_ret;exact ⟨by rw[HD.out];rfl,HB.out⟩
 have F4:(v.int==0)=true:=by simp[Ag]
 by_cases Ah:v.str=⟨#[]⟩
 case neg =>
  have HD:Hid (zJ v=false):=by show _=_;rw[HP.out];simp[HK.out,Ah]
  have Fz:v.str.toList.isEmpty=false:=by cases h:v.str.toList.isEmpty with|false=>rfl|true=>exact absurd ((Aq v.str).1 h) Ah
  clear AV Ag Ah;go_wp2;go_ret;exact ⟨by rw[HD.out];rfl,HB.out⟩
 have Fz:v.str.toList.isEmpty=true:=(Aq v.str).2 Ah
 by_cases BQ:v.id=0
 case neg =>
  have HD:Hid (zJ v=false):=by show _=_;rw[HP.out];simp[HK.out,BQ]
  have MB:(v.id==0)=false:=by simp[BQ]
  clear AV Ag Ah BQ;go_wp2;go_ret;exact ⟨by rw[HD.out];rfl,HB.out⟩
 have MB:(v.id==0)=true:=by simp[BQ]
 by_cases Ai:v.keys.length=0
 case neg =>
  have HD:Hid (zJ v=false):=by show _=_;rw[HP.out];simp[HK.out,Ai]
  have Du:((v.keys.length:Int)==0)=false:=by simp only[AAc];omega
  clear AV Ag Ah BQ Ai;go_wp2;go_ret;exact ⟨by rw[HD.out];rfl,HB.out⟩
 have Du:((v.keys.length:Int)==0)=true:=by simp[Ai]
 have HD:Hid (zJ v=true):=by show _=_;rw[HP.out];simp[HK.out,AV,Ag,Ah,BQ,Ai]
 clear AV Ag Ah BQ Ai;go_wp2;go_ret;exact ⟨by rw[HD.out];rfl,HB.out⟩
theorem jG (v:Val) (e:v.kind=6) (A1:zo) (c1:Nat) (A2:zo) (c2:Nat) (A3:zo) (c3:Nat) (w:World) :
  Calls Tryz.prog 103 #[v.v A1 c1 A2 c2 A3 c3] w fun e w'=>e = .returned (.bool (zJ v))/\Below w.heap.size w w':=by
 have HB:=zh (zD w (v.box A1 c1 A2 c2 A3 c3));have HX:=zh (AAC w (v.box A1 c1 A2 c2 A3 c3));have HP:=zh (Ef v);have HK:=zh e;clear e
 go_enter Tryz.func103,Tryz.ntmps103
 go_upto_region 1 with fail
 generalize w.alloc (v.box A1 c1 A2 c2 A3 c3)=W1 at *;obtain ⟨v0,v1,v2,v3,v4,v5,v6,v7⟩:=zF HX;rw[HK.out] at v0;go_upto_region 2 with fail
 simp only[List.append]
 by_cases AV:v.bool=false
 case neg =>
  have HD:Hid (zJ v=false):=by show _=_;rw[HP.out];simp[HK.out,AV]
  rw[show v.bool=true by simpa using AV] at v1
  clear AV;go_wp2;go_ret;exact ⟨by rw[HD.out];rfl,HB.out⟩
 rw[AV] at v1
 by_cases Ag:v.int=0
 case neg =>
  have HD:Hid (zJ v=false):=by show _=_;rw[HP.out];simp[HK.out,Ag]
  have F4:(v.int==0)=false:=by simp[Ag]
  clear AV Ag;go_wp2;go_ret;exact ⟨by rw[HD.out];rfl,HB.out⟩
 have F4:(v.int==0)=true:=by simp[Ag]
 by_cases Ah:v.str=⟨#[]⟩
 case neg =>
  have HD:Hid (zJ v=false):=by show _=_;rw[HP.out];simp[HK.out,Ah]
  have Fz:v.str.toList.isEmpty=false:=by cases h:v.str.toList.isEmpty with|false=>rfl|true=>exact absurd ((Aq v.str).1 h) Ah
  clear AV Ag Ah;go_wp2;go_ret;exact ⟨by rw[HD.out];rfl,HB.out⟩
 have Fz:v.str.toList.isEmpty=true:=(Aq v.str).2 Ah
 by_cases Ai:v.keys.length=0
 case neg =>
  have HD:Hid (zJ v=false):=by show _=_;rw[HP.out];simp[HK.out,Ai]
  have Du:((v.keys.length:Int)==0)=false:=by simp only[AAc];omega
  clear AV Ag Ah Ai;go_wp2;go_ret;exact ⟨by rw[HD.out];rfl,HB.out⟩
 have Du:((v.keys.length:Int)==0)=true:=by simp[Ai]
 have HD:Hid (zJ v=true):=by show _=_;rw[HP.out];simp[HK.out,AV,Ag,Ah,Ai]
 clear AV Ag Ah Ai;go_wp2;go_ret;exact ⟨by rw[HD.out];rfl,HB.out⟩
theorem jF (v:Val) (e:v.kind=7) (A1:zo) (c1:Nat) (A2:zo) (c2:Nat) (A3:zo) (c3:Nat) (w:World) :
  Calls Tryz.prog 103 #[v.v A1 c1 A2 c2 A3 c3] w fun e w'=>e = .returned (.bool (zJ v))/\Below w.heap.size w w':=by
 have HB:=zh (zD w (v.box A1 c1 A2 c2 A3 c3));have HX:=zh (AAC w (v.box A1 c1 A2 c2 A3 c3));have HP:=zh (Ef v);have HK:=zh e;clear e
 go_enter Tryz.func103,Tryz.ntmps103
 go_upto_region 1 with fail
 generalize w.alloc (v.box A1 c1 A2 c2 A3 c3)=W1 at *;obtain ⟨v0,v1,v2,v3,v4,v5,v6,v7⟩:=zF HX;rw[HK.out] at v0;go_upto_region 2 with fail
 simp only[List.append]
 by_cases AV:v.bool=false
 case neg =>
  have HD:Hid (zJ v=false):=by show _=_;rw[HP.out];simp[HK.out,AV]
  rw[show v.bool=true by simpa using AV] at v1
  clear AV;go_wp2;go_ret;exact ⟨by rw[HD.out];rfl,HB.out⟩
 rw[AV] at v1
 by_cases Ag:v.int=0
 case neg =>
  have HD:Hid (zJ v=false):=by show _=_;rw[HP.out];simp[HK.out,Ag]
  have F4:(v.int==0)=false:=by simp[Ag]
  clear AV Ag;go_wp2;go_ret;exact ⟨by rw[HD.out];rfl,HB.out⟩
 have F4:(v.int==0)=true:=by simp[Ag]
 by_cases Ah:v.str=⟨#[]⟩
 case neg =>
  have HD:Hid (zJ v=false):=by show _=_;rw[HP.out];simp[HK.out,Ah]
  have Fz:v.str.toList.isEmpty=false:=by cases h:v.str.toList.isEmpty with|false=>rfl|true=>exact absurd ((Aq v.str).1 h) Ah
  clear AV Ag Ah;go_wp2;go_ret;exact ⟨by rw[HD.out];rfl,HB.out⟩
 have Fz:v.str.toList.isEmpty=true:=(Aq v.str).2 Ah
 by_cases BQ:v.id=0
 case neg =>
  have HD:Hid (zJ v=false):=by show _=_;rw[HP.out];simp[HK.out,BQ]
  have MB:(v.id==0)=false:=by simp[BQ]
  clear AV Ag Ah BQ;go_wp2;go_ret;exact ⟨by rw[HD.out];rfl,HB.out⟩
 have MB:(v.id==0)=true:=by simp[BQ]
 by_cases Ai:v.keys.length=0
 case neg =>
  have HD:Hid (zJ v=false):=by show _=_;rw[HP.out];simp[HK.out,Ai]
  have Du:((v.keys.length:Int)==0)=false:=by simp only[AAc];omega
  clear AV Ag Ah BQ Ai;go_wp2;go_ret;exact ⟨by rw[HD.out];rfl,HB.out⟩
 have Du:((v.keys.length:Int)==0)=true:=by simp[Ai]
 by_cases Ar:v.rest.length=0
 case neg =>
  have HD:Hid (zJ v=false):=by show _=_;rw[HP.out];simp[HK.out,Ar]
  have Ec:((v.rest.length:Int)==0)=false:=by simp only[AAc];omega
  clear AV Ag Ah BQ Ai Ar;go_wp2;go_ret;exact ⟨by rw[HD.out];rfl,HB.out⟩
 have Ec:((v.rest.length:Int)==0)=true:=by simp[Ar]
 have HD:Hid (zJ v=true):=by show _=_;rw[HP.out];simp[HK.out,AV,Ag,Ah,BQ,Ai,Ar]
 clear AV Ag Ah BQ Ai Ar;go_wp2;go_ret;exact ⟨by rw[HD.out];rfl,HB.out⟩
theorem jE (v:Val) (e:v.kind=8) (A1:zo) (c1:Nat) (A2:zo) (c2:Nat) (A3:zo) (c3:Nat) (w:World) :
  Calls Tryz.prog 103 #[v.v A1 c1 A2 c2 A3 c3] w fun e w'=>e = .returned (.bool (zJ v))/\Below w.heap.size w w':=by
 have HB:=zh (zD w (v.box A1 c1 A2 c2 A3 c3));have HX:=zh (AAC w (v.box A1 c1 A2 c2 A3 c3));have HP:=zh (Ef v);have HK:=zh e;clear e
 go_enter Tryz.func103,Tryz.ntmps103
 go_upto_region 1 with fail
 generalize w.alloc (v.box A1 c1 A2 c2 A3 c3)=W1 at *;obtain ⟨v0,v1,v2,v3,v4,v5,v6,v7⟩:=zF HX;rw[HK.out] at v0;go_upto_region 2 with fail
 simp only[List.append]
 by_cases AV:v.bool=false
 case neg =>
  have HD:Hid (zJ v=false):=by show _=_;rw[HP.out];simp[HK.out,AV]
  rw[show v.bool=true by simpa using AV] at v1
  clear AV;go_wp2;go_ret;exact ⟨by rw[HD.out];rfl,HB.out⟩
 rw[AV] at v1
 by_cases Ag:v.int=0
 case neg =>
  have HD:Hid (zJ v=false):=by show _=_;rw[HP.out];simp[HK.out,Ag]
  have F4:(v.int==0)=false:=by simp[Ag]
  clear AV Ag;go_wp2;go_ret;exact ⟨by rw[HD.out];rfl,HB.out⟩
 have F4:(v.int==0)=true:=by simp[Ag]
 by_cases Ah:v.str=⟨#[]⟩
 case neg =>
  have HD:Hid (zJ v=false):=by show _=_;rw[HP.out];simp[HK.out,Ah]
  have Fz:v.str.toList.isEmpty=false:=by cases h:v.str.toList.isEmpty with|false=>rfl|true=>exact absurd ((Aq v.str).1 h) Ah
  clear AV Ag Ah;go_wp2;go_ret;exact ⟨by rw[HD.out];rfl,HB.out⟩
 have Fz:v.str.toList.isEmpty=true:=(Aq v.str).2 Ah
 by_cases BQ:v.id=0
 case neg =>
  have HD:Hid (zJ v=false):=by show _=_;rw[HP.out];simp[HK.out,BQ]
  have MB:(v.id==0)=false:=by simp[BQ]
  clear AV Ag Ah BQ;go_wp2;go_ret;exact ⟨by rw[HD.out];rfl,HB.out⟩
 have MB:(v.id==0)=true:=by simp[BQ]
 by_cases Ar:v.rest.length=0
 case neg =>
  have HD:Hid (zJ v=false):=by show _=_;rw[HP.out];simp[HK.out,Ar]
  have Ec:((v.rest.length:Int)==0)=false:=by simp only[AAc];omega
  clear AV Ag Ah BQ Ar;go_wp2;go_ret;exact ⟨by rw[HD.out];rfl,HB.out⟩
 have Ec:((v.rest.length:Int)==0)=true:=by simp[Ar]
 have HD:Hid (zJ v=true):=by show _=_;rw[HP.out];simp[HK.out,AV,Ag,Ah,BQ,Ar]
 clear AV Ag Ah BQ Ar;go_wp2;go_ret;exact ⟨by rw[HD.out];rfl,HB.out⟩
theorem jD (v:Val) (e:v.kind=9) (A1:zo) (c1:Nat) (A2:zo) (c2:Nat) (A3:zo) (c3:Nat) (w:World) :
  Calls Tryz.prog 103 #[v.v A1 c1 A2 c2 A3 c3] w fun e w'=>e = .returned (.bool (zJ v))/\Below w.heap.size w w':=by
 have HB:=zh (zD w (v.box A1 c1 A2 c2 A3 c3));have HX:=zh (AAC w (v.box A1 c1 A2 c2 A3 c3));have HP:=zh (Ef v);have HK:=zh e;clear e
 go_enter Tryz.func103,Tryz.ntmps103
 go_upto_region 1 with fail
 generalize w.alloc (v.box A1 c1 A2 c2 A3 c3)=W1 at *;obtain ⟨v0,v1,v2,v3,v4,v5,v6,v7⟩:=zF HX;rw[HK.out] at v0;go_upto_region 2 with fail
 simp only[List.append]
 by_cases AV:v.bool=false
 case neg =>
  have HD:Hid (zJ v=false):=by show _=_;rw[HP.out];simp[HK.out,AV]
  rw[show v.bool=true by simpa using AV] at v1
  clear AV;go_wp2;go_ret;exact ⟨by rw[HD.out];rfl,HB.out⟩
 rw[AV] at v1
 by_cases Ag:v.int=0
 case neg =>
  have HD:Hid (zJ v=false):=by show _=_;rw[HP.out];simp[HK.out,Ag]
  have F4:(v.int==0)=false:=by simp[Ag]
  clear AV Ag;go_wp2;go_ret;exact ⟨by rw[HD.out];rfl,HB.out⟩
 have F4:(v.int==0)=true:=by simp[Ag]
 by_cases Ah:v.str=⟨#[]⟩
 case neg =>
  have HD:Hid (zJ v=false):=by show _=_;rw[HP.out];simp[HK.out,Ah]
  have Fz:v.str.toList.isEmpty=false:=by cases h:v.str.toList.isEmpty with|false=>rfl|true=>exact absurd ((Aq v.str).1 h) Ah
  clear AV Ag Ah;go_wp2;go_ret;exact ⟨by rw[HD.out];rfl,HB.out⟩
 have Fz:v.str.toList.isEmpty=true:=(Aq v.str).2 Ah
 by_cases BQ:v.id=0
 case neg =>
  have HD:Hid (zJ v=false):=by show _=_;rw[HP.out];simp[HK.out,BQ]
  have MB:(v.id==0)=false:=by simp[BQ]
  clear AV Ag Ah BQ;go_wp2;go_ret;exact ⟨by rw[HD.out];rfl,HB.out⟩
 have MB:(v.id==0)=true:=by simp[BQ]
 by_cases Ai:v.keys.length=0
 case neg =>
  have HD:Hid (zJ v=false):=by show _=_;rw[HP.out];simp[HK.out,Ai]
  have Du:((v.keys.length:Int)==0)=false:=by simp only[AAc];omega
  clear AV Ag Ah BQ Ai;go_wp2;go_ret;exact ⟨by rw[HD.out];rfl,HB.out⟩
 have Du:((v.keys.length:Int)==0)=true:=by simp[Ai]
 by_cases Ar:v.rest.length=0
 case neg =>
  have HD:Hid (zJ v=false):=by show _=_;rw[HP.out];simp[HK.out,Ar]
  have Ec:((v.rest.length:Int)==0)=false:=by simp only[AAc];omega
  clear AV Ag Ah BQ Ai Ar;go_wp2;go_ret;exact ⟨by rw[HD.out];rfl,HB.out⟩
 have Ec:((v.rest.length:Int)==0)=true:=by simp[Ar]
 have HD:Hid (zJ v=true):=by show _=_;rw[HP.out];simp[HK.out,AV,Ag,Ah,BQ,Ai,Ar]
 clear AV Ag Ah BQ Ai Ar;go_wp2;go_ret;exact ⟨by rw[HD.out];rfl,HB.out⟩
theorem yJ (v:Val) (hk:1<=v.kind/\v.kind<=9) (A1:zo) (c1:Nat) (A2:zo) (c2:Nat) (A3:zo) (c3:Nat) (w:World) :
  Calls Tryz.prog 103 #[v.v A1 c1 A2 c2 A3 c3] w fun e w'=>e = .returned (.bool (zJ v))/\Below w.heap.size w w':=by
 have hkx:v.kind=1\/v.kind=2\/v.kind=3\/v.kind=4\/v.kind=5\/v.kind=6\/v.kind=7\/v.kind=8\/v.kind=9:=by omega
 rcases hkx with e|e|e|e|e|e|e|e|e
 ·exact jL v e A1 c1 A2 c2 A3 c3 w
 ·exact jK v e A1 c1 A2 c2 A3 c3 w
 ·exact jJ v e A1 c1 A2 c2 A3 c3 w
 ·exact jI v e A1 c1 A2 c2 A3 c3 w
 ·exact jH v e A1 c1 A2 c2 A3 c3 w
 ·exact jG v e A1 c1 A2 c2 A3 c3 w
 ·exact jF v e A1 c1 A2 c2 A3 c3 w
 ·exact jE v e A1 c1 A2 c2 A3 c3 w
 ·exact jD v e A1 c1 A2 c2 A3 c3 w
def Ll (less eq:Bool):Int:=if eq then 0 else if less then -1 else 1
theorem ES (less eq:Bool) (w:World) :
  Calls Tryz.prog 154 #[.bool less,.bool eq] w fun e w'=>e = .returned (.int .i64 (Ll less eq))/\w'=w:=by
 cases eq with
 | true =>
  go_enter Tryz.func154,Tryz.ntmps154
  go_wp2
  go_ret
  exact ⟨rfl,rfl⟩
 | false =>
  cases less with
  | true =>
   go_enter Tryz.func154,Tryz.ntmps154
   go_wp2
   go_ret
   exact ⟨rfl,rfl⟩
  | false =>
   go_enter Tryz.func154,Tryz.ntmps154
   go_wp2
   go_ret
   exact ⟨rfl,rfl⟩
theorem Sn (n:Int) (h:In64 n) (w:World) :
  Calls Tryz.prog 155 #[.int .i64 n] w fun e w'=>e = .returned (.int .u64 (O6 n))/\w'=w:=by
 unfold In64 at h
 by_cases h0:0<=n
 ·have HD:Hid (O6 n=2 * n):=AAG h0
  have u1:IntKind.u64.wrap n=n:=by rw[IntKind.wrap_u64];omega
  have u2:IntKind.u64.wrap (2 * n)=2 * n:=by rw[IntKind.wrap_u64];omega
  go_enter Tryz.func155,Tryz.ntmps155
  go_wp2
  go_ret
  exact ⟨by rw[HD.out];rfl,rfl⟩
 ·have HD:Hid (O6 n = -2 * n - 1):=Pd h0
  have u0:IntKind.i64.wrap (n+1)=n+1:=by rw[IntKind.wrap_i64];omega
  have u3:IntKind.i64.wrap (-(n+1)) = -(n+1):=by rw[IntKind.wrap_i64];omega
  have u1:IntKind.u64.wrap (-(n+1)) = -(n+1):=by rw[IntKind.wrap_u64];omega
  have u2:IntKind.u64.wrap (2 * -(n+1))=2 * -(n+1):=by rw[IntKind.wrap_u64];omega
  have u4:IntKind.u64.wrap (2 * -(n+1)+1)=2 * -(n+1)+1:=by rw[IntKind.wrap_u64];omega
  go_enter Tryz.func155,Tryz.ntmps155
  go_wp2
  go_ret
  refine ⟨?_,rfl⟩;rw[HD.out,show -2 * n - 1=2 * -(n+1)+1 by omega]
  rfl
theorem XG:∀l:List UInt8,Go.Op.bytesLess l l=false
 | []=>by simp[Go.Op.bytesLess]
 | x::xs=>by simp[Go.Op.bytesLess,XG xs]
theorem bI (a:ByteArray):gB a a=false:=XG _
theorem nO {a b:Int} (h:O6 a=O6 b):a=b:=by
 unfold O6 at h
 split at h <;> split at h <;> omega
variable {a b:Val}
theorem ug (hk:a.kind=b.kind) (e:a.kind=1):BS a b=Ll b.bool (a.bool==b.bool):=by
 unfold BS;rw[Pd (by simp[hk]),AAG e]
 cases a.bool <;> cases b.bool <;> rfl
theorem uf (hk:a.kind=b.kind) (e:a.kind=2):BS a b=Ll (decide (O6 a.int<O6 b.int)) (a.int==b.int):=by
 unfold BS;rw[Pd (by simp[hk]),Pd (by omega),AAG e]
 unfold DZ Ll
 by_cases h:a.int=b.int
 ·rw[h,Pd (by omega),AAG rfl,AAG (by simp)]
 ·rw[Pd (c:=(a.int==b.int)=true) (by simpa using h)]
  by_cases h2:O6 a.int<O6 b.int
  ·rw[AAG h2,AAG (by simpa using h2)]
  ·rw[Pd h2,Pd (fun g=>h (nO g)),Pd (by simpa using h2)]
theorem pQ (hk:a.kind=b.kind) (e:a.kind=3) (h:¬ (a.str.size:Int)=b.str.size):BS a b=Ll (decide ((a.str.size:Int)<b.str.size)) false:=by
 unfold BS;rw[Pd (by simp[hk]),Pd (by omega),Pd (by omega),AAG e]
 have h1:DZ a.str.size b.str.size=Ll (decide ((a.str.size:Int)<b.str.size)) false:=by
  unfold DZ Ll;rw[Pd (c:=(false=true)) (by simp)]
  by_cases h2:(a.str.size:Int)<b.str.size
  ·rw[AAG h2,AAG (by simpa using h2)]
  ·rw[Pd h2,Pd h,Pd (by simpa using h2)]
 rw[h1,AAG];unfold Ll;rw[Pd (c:=(false=true)) (by simp)]
 split <;> decide
theorem pO (hk:a.kind=b.kind) (e:a.kind=3) (h:(a.str.size:Int)=b.str.size):BS a b=Ll (gB a.str b.str) (decide (a.str=b.str)):=by
 unfold BS;rw[Pd (by simp[hk]),Pd (by omega),Pd (by omega),AAG e,Pd]
 ·unfold M4 Ll
  by_cases h1:a.str=b.str
  ·rw[AAG (c:=decide (a.str=b.str)=true) (by simpa using h1),AAG h1]
   cases hl:gB a.str b.str with
   | true=>rw[h1] at hl;exact absurd hl (by rw[bI];simp)
   | false=>rfl
  ·rw[Pd (c:=decide (a.str=b.str)=true) (by simpa using h1),Pd h1]
 ·unfold DZ
  rw[h,Pd (by omega),AAG rfl]
  simp
theorem uZ (hk:a.kind=b.kind) (e:a.kind=4):BS a b=Ll (decide (a.id<b.id)) (a.id==b.id):=by
 unfold BS;rw[Pd (by simp[hk]),Pd (by omega),Pd (by omega),Pd (by omega),AAG e]
 unfold DZ Ll
 by_cases h:a.id=b.id
 ·rw[h,Pd (by omega),AAG rfl,AAG (by simp)]
 ·rw[Pd (c:=(a.id==b.id)=true) (by simpa using h),Pd h]
  by_cases h2:a.id<b.id
  ·rw[AAG h2,AAG (by simpa using h2)]
  ·rw[Pd h2,Pd (by simpa using h2)]
theorem Fe (n:Int) (t:Ae) (As:zo) (cs:Nat) (Am:zo) (cm:Nat) (w:World) (ht:KM w t As Am) :
  Calls Tryz.prog 61 #[t.v As cs Am cm,.int .i64 n] w fun e w'=>∃r:Int,e = .returned (.tuple #[.int .i64 r,.bool (t.AA.any fun y=>decide (y.id=n))])/\((t.AA.any fun y=>decide (y.id=n))=true->r=BD (fun y:AZ=>decide (y.id=n)) t.AA)/\Below w.heap.size w w':=by
 have hl:=ht.AA.1.lt (by omega)
 have HB:=zh (zD w (t.box As cs Am cm));have HX:Hid (BX (w.alloc (t.box As cs Am cm)) w.heap.size t As cs Am cm):=AAC w _;have HT:=zh (ht.below HB);clear ht;obtain ⟨an,han⟩:∃an,(t.AA.any fun y=>decide (y.id=n))=an:=⟨_,rfl⟩
 obtain ⟨X,hX⟩:∃X,BD (fun y:AZ=>decide (y.id=n)) t.AA=X:=⟨_,rfl⟩
 rw[han,hX];have Rp:=zh han;have qx:=zh hX;clear han hX
 go_enter Tryz.func61,Tryz.ntmps61
 go_upto_region 1 with fail
 generalize w.alloc (t.box As cs Am cm)=W1 at *;obtain ⟨b0,b1,b2,b3,b4,b5,b6,b7,b8,b9⟩:=zG HX;go_wp2_with fail
 go_loop [6] (fun i=>∃k:Nat,k<=t.AA.length/\i = .int .i64 (k:Int)/\Hid (∀j (h:j<t.AA.length),j<k->decide ((t.AA[j]).id=n)=false)) (fun i=>t.AA.length - (intOf i).toNat)
 case atStart=>exact ⟨0,by omega,rfl,fun j _ h=>absurd h (by omega)⟩
 case round =>
  obtain ⟨k,hk,rfl,hh⟩:=hrel
  by_cases hlt:k<t.AA.length
  ·obtain ⟨mb,mo,M1,m1,M2,m2,M3,m3,hA,_,d0,d1,d2,d3,d4,d5,d6,d7,d8,d9,Jr,Jq,Jp⟩:=HT.out.AA.Gw hlt
   have h1:(0:Int)<=(k:Int):=by omega
   have h2:(k:Int)<(t.AA.length:Int):=by omega
   have BI:=b6;rw[hA] at BI
   by_cases he:(t.AA[k]).id=n
   ·have HE:Hid (an=true/\X=(k:Int)):=⟨by rw[<-Rp.out];exact XM hlt (AAX he),by rw[<-qx.out];exact Ja _ k hlt hh (AAX he)⟩
    have q1:((t.AA[k]).id==n)=true:=by simpa using he
    clear he b6;go_wp2;go_ret2;exact ⟨k,by rw[HE.out.1];rfl,fun _=>HE.out.2.symm,HB.out⟩
   ·have q1:((t.AA[k]).id==n)=false:=by simpa using he
    have HN:Hid (∀j (h:j<t.AA.length),j<k+1->decide ((t.AA[j]).id=n)=false):=fun j hj hjk=>by
     by_cases ej:j=k
     ·subst ej;exact AAU he
     ·exact hh.out j hj (by omega)
    clear he b6;go_wp2
    go_round
    case rel=>exact ⟨k+1,by omega,by go_num,HN.out⟩
    case measure=>simp[intOf];omega
  ·have HE:Hid (an=false):=by show _=_;rw[<-Rp.out];exact dx fun j hj=>hh.out j hj (by omega)
   go_wp2
   go_ret2
   exact ⟨0,by rw[HE.out];rfl,fun h=>absurd (HE.out.symm.trans h) (by simp),HB.out⟩
theorem Sq (n:Int) (t:Ae) (As:zo) (cs:Nat) (Am:zo) (cm:Nat) (w:World) (ht:KM w t As Am) :
  Calls Tryz.prog 72 #[t.v As cs Am cm,.int .i64 n] w fun e w'=>∃r:Int,e = .returned (.tuple #[.int .i64 r,.bool (t.Aj.any fun y=>decide (y.id=n))])/\((t.Aj.any fun y=>decide (y.id=n))=true->r=BD (fun y:Bu=>decide (y.id=n)) t.Aj)/\Below w.heap.size w w':=by
 have hl:=ht.Aj.1.lt (by omega)
 have HB:=zh (zD w (t.box As cs Am cm));have HX:Hid (BX (w.alloc (t.box As cs Am cm)) w.heap.size t As cs Am cm):=AAC w _;have HT:=zh (ht.below HB);clear ht;obtain ⟨an,han⟩:∃an,(t.Aj.any fun y=>decide (y.id=n))=an:=⟨_,rfl⟩
 obtain ⟨X,hX⟩:∃X,BD (fun y:Bu=>decide (y.id=n)) t.Aj=X:=⟨_,rfl⟩
 rw[han,hX];have Rp:=zh han;have qx:=zh hX;clear han hX
 go_enter Tryz.func72,Tryz.ntmps72
 go_upto_region 1 with fail
 generalize w.alloc (t.box As cs Am cm)=W1 at *;obtain ⟨b0,b1,b2,b3,b4,b5,b6,b7,b8,b9⟩:=zG HX;go_wp2_with fail
 go_loop [6] (fun i=>∃k:Nat,k<=t.Aj.length/\i = .int .i64 (k:Int)/\Hid (∀j (h:j<t.Aj.length),j<k->decide ((t.Aj[j]).id=n)=false)) (fun i=>t.Aj.length - (intOf i).toNat)
 case atStart=>exact ⟨0,by omega,rfl,fun j _ h=>absurd h (by omega)⟩
 case round =>
  obtain ⟨k,hk,rfl,hh⟩:=hrel
  by_cases hlt:k<t.Aj.length
  ·obtain ⟨mb,mo,hA,_,d0,d1⟩:=HT.out.Aj.at2 hlt
   have h1:(0:Int)<=(k:Int):=by omega
   have h2:(k:Int)<(t.Aj.length:Int):=by omega
   have BI:=b5;rw[hA] at BI
   by_cases he:(t.Aj[k]).id=n
   ·have HE:Hid (an=true/\X=(k:Int)):=⟨by rw[<-Rp.out];exact XM hlt (AAX he),by rw[<-qx.out];exact Ja _ k hlt hh (AAX he)⟩
    have q1:((t.Aj[k]).id==n)=true:=by simpa using he
    clear he b5;go_wp2;go_ret2;exact ⟨k,by rw[HE.out.1];rfl,fun _=>HE.out.2.symm,HB.out⟩
   ·have q1:((t.Aj[k]).id==n)=false:=by simpa using he
    have HN:Hid (∀j (h:j<t.Aj.length),j<k+1->decide ((t.Aj[j]).id=n)=false):=fun j hj hjk=>by
     by_cases ej:j=k
     ·subst ej;exact AAU he
     ·exact hh.out j hj (by omega)
    clear he b5;go_wp2
    go_round
    case rel=>exact ⟨k+1,by omega,by go_num,HN.out⟩
    case measure=>simp[intOf];omega
  ·have HE:Hid (an=false):=by show _=_;rw[<-Rp.out];exact dx fun j hj=>hh.out j hj (by omega)
   go_wp2
   go_ret2
   exact ⟨0,by rw[HE.out];rfl,fun h=>absurd (HE.out.symm.trans h) (by simp),HB.out⟩
end Go.Proofs.YthkkllmmbefedaaGreatDoor



