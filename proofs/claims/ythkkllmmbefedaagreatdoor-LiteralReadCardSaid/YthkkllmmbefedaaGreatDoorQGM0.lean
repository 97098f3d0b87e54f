/-
  Walks: the reference's Member, Symbol, Compare.
-/
import Derived.Test.YthkkllmmbefedaaGreatDoorQGA8
import Derived.Test.YthkkllmmbefedaaGreatDoorQGA9
import Derived.BigQuiet
namespace Go.Proofs.YthkkllmmbefedaaGreatDoor
open Go.RowKit
set_option maxHeartbeats 16000000
set_option maxRecDepth 100000
theorem FH (n:Int) (known:Bool) (w:World) :
  Calls Tryz.prog 104 #[.int .i64 n,.bool known] w fun e w'=>e = .returned (.bool (!known&&Aq n))/\w'=w:=by
 cases known with
 | true =>
  go_enter Tryz.func104,Tryz.ntmps104
  go_wp2
  go_ret
  exact ⟨rfl,rfl⟩
 | false =>
  have HE:Hid ((!false&&Aq n)=Aq n):=rfl;rw[HE.out]
  by_cases h1:1<=n
  ·by_cases h2:n<=1000
   ·have HD:Hid (Aq n=true):=by show _=_;unfold Aq;simp[h1,h2]
    go_enter Tryz.func104,Tryz.ntmps104
    go_wp2
    go_ret
    exact ⟨by rw[HD.out];rfl,rfl⟩
   ·have HD:Hid (Aq n=false):=by show _=_;unfold Aq;simp[h2]
    go_enter Tryz.func104,Tryz.ntmps104
    go_wp2
    go_ret
    exact ⟨by rw[HD.out];rfl,rfl⟩
  ·have HD:Hid (Aq n=false):=by show _=_;unfold Aq;simp[h1]
   go_enter Tryz.func104,Tryz.ntmps104
   go_wp2
   go_ret
   exact ⟨by rw[HD.out];rfl,rfl⟩
theorem Au (s:ByteArray):s.toList.isEmpty=true↔s=⟨#[]⟩:=by
 have h:=bytes_beq s ⟨#[]⟩;rw[show (⟨#[]⟩:ByteArray).toList=[] by decide +kernel] at h
 have e:(s.toList==[])=s.toList.isEmpty:=by cases s.toList <;> rfl
 rw[e] at h;rw[h,decide_eq_true_iff]
theorem FB (v:Val):zJ v=(decide (v.bool=if v.kind=1 then v.bool else false)&&decide (v.int=if v.kind=2 then v.int else 0)&&decide (v.str=if v.kind=3 then v.str else ⟨#[]⟩)&&decide (v.id=if v.kind=4\/v.kind=6 then v.id else 0)&&decide (v.keys.length=(if v.kind=8 then v.keys else []).length)&&decide (v.items.length=(if 5<=v.kind/\v.kind<=9 then v.items else []).length)&&decide (v.rest.length=(if v.kind=5\/v.kind=6 then v.rest else []).length)):=rfl
theorem ji (v:Val) (e:v.kind=1) (A1:zo) (c1:Nat) (A2:zo) (c2:Nat) (A3:zo) (c3:Nat) (w:World) :
  Calls Tryz.prog 103 #[v.v A1 c1 A2 c2 A3 c3] w fun e w'=>e = .returned (.bool (zJ v))/\Below w.heap.size w w':=by
 have HB:=zh (zD w (v.box A1 c1 A2 c2 A3 c3));have HX:=zh (AAA w (v.box A1 c1 A2 c2 A3 c3));have HP:=zh (FB v);have HK:=zh e;clear e
 go_enter Tryz.func103,Tryz.ntmps103
 go_upto_region 1 with fail
 generalize w.alloc (v.box A1 c1 A2 c2 A3 c3)=W1 at *;obtain ⟨v0,v1,v2,v3,v4,v5,v6,v7⟩:=zF HX;rw[HK.out] at v0;go_upto_region 2 with fail
 simp only[List.append]
 by_cases Ad:v.int=0
 case neg =>
  have HD:Hid (zJ v=false):=by show _=_;rw[HP.out];simp[HK.out,Ad]
  have Gc:(v.int==0)=false:=by simp[Ad]
  clear Ad;go_wp2;go_ret;exact ⟨by rw[HD.out];rfl,HB.out⟩
 have Gc:(v.int==0)=true:=by simp[Ad]
 by_cases Af:v.str=⟨#[]⟩
 case neg =>
  have HD:Hid (zJ v=false):=by show _=_;rw[HP.out];simp[HK.out,Af]
  have Gb:v.str.toList.isEmpty=false:=by cases h:v.str.toList.isEmpty with|false=>rfl|true=>exact absurd ((Au v.str).1 h) Af
  clear Ad Af;go_wp2;go_ret;exact ⟨by rw[HD.out];rfl,HB.out⟩
 have Gb:v.str.toList.isEmpty=true:=(Au v.str).2 Af
 by_cases BQ:v.id=0
 case neg =>
  have HD:Hid (zJ v=false):=by show _=_;rw[HP.out];simp[HK.out,BQ]
  have NE:(v.id==0)=false:=by simp[BQ]
  clear Ad Af BQ;go_wp2;go_ret;exact ⟨by rw[HD.out];rfl,HB.out⟩
 have NE:(v.id==0)=true:=by simp[BQ]
 by_cases Ag:v.keys.length=0
 case neg =>
  have HD:Hid (zJ v=false):=by show _=_;rw[HP.out];simp[HK.out,Ag]
  have EC:((v.keys.length:Int)==0)=false:=by simp only[AAX];omega
  clear Ad Af BQ Ag;go_wp2;go_ret;exact ⟨by rw[HD.out];rfl,HB.out⟩
 have EC:((v.keys.length:Int)==0)=true:=by simp[Ag]
 by_cases BL:v.items.length=0
 case neg =>
  have HD:Hid (zJ v=false):=by show _=_;rw[HP.out];simp[HK.out,BL]
  have Ir:((v.items.length:Int)==0)=false:=by simp only[AAX];omega
  clear Ad Af BQ Ag BL;go_wp2;go_ret;exact ⟨by rw[HD.out];rfl,HB.out⟩
 have Ir:((v.items.length:Int)==0)=true:=by simp[BL]
 by_cases Aw:v.rest.length=0
 case neg =>
  have HD:Hid (zJ v=false):=by show _=_;rw[HP.out];simp[HK.out,Aw]
  have Et:((v.rest.length:Int)==0)=false:=by simp only[AAX];omega
  clear Ad Af BQ Ag BL Aw;go_wp2;go_ret;exact ⟨by rw[HD.out];rfl,HB.out⟩
 have Et:((v.rest.length:Int)==0)=true:=by simp[Aw]
 have HD:Hid (zJ v=true):=by show _=_;rw[HP.out];simp[HK.out,Ad,Af,BQ,Ag,BL,Aw]
 clear Ad Af BQ Ag BL Aw;go_wp2;go_ret;exact ⟨by rw[HD.out];rfl,HB.out⟩
theorem jh (v:Val) (e:v.kind=2) (A1:zo) (c1:Nat) (A2:zo) (c2:Nat) (A3:zo) (c3:Nat) (w:World) :
  Calls Tryz.prog 103 #[v.v A1 c1 A2 c2 A3 c3] w fun e w'=>e = .returned (.bool (zJ v))/\Below w.heap.size w w':=by
 have HB:=zh (zD w (v.box A1 c1 A2 c2 A3 c3));have HX:=zh (AAA w (v.box A1 c1 A2 c2 A3 c3));have HP:=zh (FB v);have HK:=zh e;clear e
 go_enter Tryz.func103,Tryz.ntmps103
 go_upto_region 1 with fail
 generalize w.alloc (v.box A1 c1 A2 c2 A3 c3)=W1 at *;obtain ⟨v0,v1,v2,v3,v4,v5,v6,v7⟩:=zF HX;rw[HK.out] at v0;go_upto_region 2 with fail
 simp only[List.append]
 by_cases AV:v.bool=false
 case neg =>
  have HD:Hid (zJ v=false):=by show _=_;rw[HP.out];simp[HK.out,AV]
  rw[show v.bool=true by simpa using AV] at v1
  clear AV;go_wp2;go_ret;exact ⟨by rw[HD.out];rfl,HB.out⟩
 rw[AV] at v1
 by_cases Af:v.str=⟨#[]⟩
 case neg =>
  have HD:Hid (zJ v=false):=by show _=_;rw[HP.out];simp[HK.out,Af]
  have Gb:v.str.toList.isEmpty=false:=by cases h:v.str.toList.isEmpty with|false=>rfl|true=>exact absurd ((Au v.str).1 h) Af
  clear AV Af;go_wp2;go_ret;exact ⟨by rw[HD.out];rfl,HB.out⟩
 have Gb:v.str.toList.isEmpty=true:=(Au v.str).2 Af
 by_cases BQ:v.id=0
 case neg =>
  have HD:Hid (zJ v=false):=by show _=_;rw[HP.out];simp[HK.out,BQ]
  have NE:(v.id==0)=false:=by simp[BQ]
  clear AV Af BQ;go_wp2;go_ret;exact ⟨by rw[HD.out];rfl,HB.out⟩
 have NE:(v.id==0)=true:=by simp[BQ]
 by_cases Ag:v.keys.length=0
 case neg =>
  have HD:Hid (zJ v=false):=by show _=_;rw[HP.out];simp[HK.out,Ag]
  have EC:((v.keys.length:Int)==0)=false:=by simp only[AAX];omega
  clear AV Af BQ Ag;go_wp2;go_ret;exact ⟨by rw[HD.out];rfl,HB.out⟩
 have EC:((v.keys.length:Int)==0)=true:=by simp[Ag]
 by_cases BL:v.items.length=0
 case neg =>
  have HD:Hid (zJ v=false):=by show _=_;rw[HP.out];simp[HK.out,BL]
  have Ir:((v.items.length:Int)==0)=false:=by simp only[AAX];omega
  clear AV Af BQ Ag BL;go_wp2;go_ret;exact ⟨by rw[HD.out];rfl,HB.out⟩
 have Ir:((v.items.length:Int)==0)=true:=by simp[BL]
 by_cases Aw:v.rest.length=0
 case neg =>
  have HD:Hid (zJ v=false):=by show _=_;rw[HP.out];simp[HK.out,Aw]
  have Et:((v.rest.length:Int)==0)=false:=by simp only[AAX];omega
  clear AV Af BQ Ag BL Aw;go_wp2;go_ret;exact ⟨by rw[HD.out];rfl,HB.out⟩
 have Et:((v.rest.length:Int)==0)=true:=by simp[Aw]
 have HD:Hid (zJ v=true):=by show _=_;rw[HP.out];simp[HK.out,AV,Af,BQ,Ag,BL,Aw]
 clear AV Af BQ Ag BL Aw;go_wp2;go_ret;exact ⟨by rw[HD.out];rfl,HB.out⟩
theorem jg (v:Val) (e:v.kind=3) (A1:zo) (c1:Nat) (A2:zo) (c2:Nat) (A3:zo) (c3:Nat) (w:World) :
  Calls Tryz.prog 103 #[v.v A1 c1 A2 c2 A3 c3] w fun e w'=>e = .returned (.bool (zJ v))/\Below w.heap.size w w':=by
 have HB:=zh (zD w (v.box A1 c1 A2 c2 A3 c3));have HX:=zh (AAA w (v.box A1 c1 A2 c2 A3 c3));have HP:=zh (FB v);have HK:=zh e;clear e
 go_enter Tryz.func103,Tryz.ntmps103
 go_upto_region 1 with fail
 generalize w.alloc (v.box A1 c1 A2 c2 A3 c3)=W1 at *;obtain ⟨v0,v1,v2,v3,v4,v5,v6,v7⟩:=zF HX;rw[HK.out] at v0;go_upto_region 2 with fail
 simp only[List.append]
 by_cases AV:v.bool=false
 case neg =>
  have HD:Hid (zJ v=false):=by show _=_;rw[HP.out];simp[HK.out,AV]
  rw[show v.bool=true by simpa using AV] at v1
  clear AV;go_wp2;go_ret;exact ⟨by rw[HD.out];rfl,HB.out⟩
 rw[AV] at v1
 by_cases Ad:v.int=0
 case neg =>
  have HD:Hid (zJ v=false):=by show _=_;rw[HP.out];simp[HK.out,Ad]
  have Gc:(v.int==0)=false:=by simp[Ad]
  clear AV Ad;go_wp2;go_ret;exact ⟨by rw[HD.out];rfl,HB.out⟩
 have Gc:(v.int==0)=true:=by simp[Ad]
 by_cases BQ:v.id=0
 case neg =>
  have HD:Hid (zJ v=false):=by show _=_;rw[HP.out];simp[HK.out,BQ]
  have NE:(v.id==0)=false:=by simp[BQ]
  clear AV Ad BQ;go_wp2;go_ret;exact ⟨by rw[HD.out];rfl,HB.out⟩
 have NE:(v.id==0)=true:=by simp[BQ]
 by_cases Ag:v.keys.length=0
 case neg =>
  have HD:Hid (zJ v=false):=by show _=_;rw[HP.out];simp[HK.out,Ag]
  have EC:((v.keys.length:Int)==0)=false:=by simp only[AAX];omega
  clear AV Ad BQ Ag;go_wp2;go_ret;exact ⟨by rw[HD.out];rfl,HB.out⟩
 have EC:((v.keys.length:Int)==0)=true:=by simp[Ag]
 by_cases BL:v.items.length=0
 case neg =>
  have HD:Hid (zJ v=false):=by show _=_;rw[HP.out];simp[HK.out,BL]
  have Ir:((v.items.length:Int)==0)=false:=by simp only[AAX];omega
  clear AV Ad BQ Ag BL;go_wp2;go_ret;exact ⟨by rw[HD.out];rfl,HB.out⟩
 have Ir:((v.items.length:Int)==0)=true:=by simp[BL]
 by_cases Aw:v.rest.length=0
 case neg =>
  have HD:Hid (zJ v=false):=by show _=_;rw[HP.out];simp[HK.out,Aw]
  have Et:((v.rest.length:Int)==0)=false:=by simp only[AAX];omega
  clear AV Ad BQ Ag BL Aw;go_wp2;go_ret;exact ⟨by rw[HD.out];rfl,HB.out⟩
 have Et:((v.rest.length:Int)==0)=true:=by simp[Aw]
 have HD:Hid (zJ v=true):=by show _=_;rw[HP.out];simp[HK.out,AV,Ad,BQ,Ag,BL,Aw]
 clear AV Ad BQ Ag BL Aw;go_wp2;go_ret;exact ⟨by rw[HD.out];rfl,HB.out⟩
theorem jf (v:Val) (e:v.kind=4) (A1:zo) (c1:Nat) (A2:zo) (c2:Nat) (A3:zo) (c3:Nat) (w:World) :
  Calls Tryz.prog 103 #[v.v A1 c1 A2 c2 A3 c3] w fun e w'=>e = .returned (.bool (zJ v))/\Below w.heap.size w w':=by
 have HB:=zh (zD w (v.box A1 c1 A2 c2 A3 c3));have HX:=zh (AAA w (v.box A1 c1 A2 c2 A3 c3));have HP:=zh (FB v);have HK:=zh e;clear e
 go_enter Tryz.func103,Tryz.ntmps103
 go_upto_region 1 with fail
 generalize w.alloc (v.box A1 c1 A2 c2 A3 c3)=W1 at *;obtain ⟨v0,v1,v2,v3,v4,v5,v6,v7⟩:=zF HX;rw[HK.out] at v0;go_upto_region 2 with fail
 simp only[List.append]
 by_cases AV:v.bool=false
 case neg =>
  have HD:Hid (zJ v=false):=by show _=_;rw[HP.out];simp[HK.out,AV]
  rw[show v.bool=true by simpa using AV] at v1
  clear AV;go_wp2;go_ret;exact ⟨by rw[HD.out];rfl,HB.out⟩
 rw[AV] at v1
 by_cases Ad:v.int=0
 case neg =>
  have HD:Hid (zJ v=false):=by show _=_;rw[HP.out];simp[HK.out,Ad]
  have Gc:(v.int==0)=false:=by simp[Ad]
  clear AV Ad;go_wp2;go_ret;exact ⟨by rw[HD.out];rfl,HB.out⟩
 have Gc:(v.int==0)=true:=by simp[Ad]
 by_cases Af:v.str=⟨#[]⟩
 case neg =>
  have HD:Hid (zJ v=false):=by show _=_;rw[HP.out];simp[HK.out,Af]
  have Gb:v.str.toList.isEmpty=false:=by cases h:v.str.toList.isEmpty with|false=>rfl|true=>exact absurd ((Au v.str).1 h) Af
  clear AV Ad Af;go_wp2;go_ret;exact ⟨by rw[HD.out];rfl,HB.out⟩
 have Gb:v.str.toList.isEmpty=true:=(Au v.str).2 Af
 by_cases Ag:v.keys.length=0
 case neg =>
  have HD:Hid (zJ v=false):=by show _=_;rw[HP.out];simp[HK.out,Ag]
  have EC:((v.keys.length:Int)==0)=false:=by simp only[AAX];omega
  clear AV Ad Af Ag;go_wp2;go_ret;exact ⟨by rw[HD.out];rfl,HB.out⟩
 have EC:((v.keys.length:Int)==0)=true:=by simp[Ag]
 by_cases BL:v.items.length=0
 case neg =>
  have HD:Hid (zJ v=false):=by show _=_;rw[HP.out];simp[HK.out,BL]
  have Ir:((v.items.length:Int)==0)=false:=by simp only[AAX];omega
  clear AV Ad Af Ag BL;go_wp2;go_ret;exact ⟨by rw[HD.out];rfl,HB.out⟩
 have Ir:((v.items.length:Int)==0)=true:=by simp[BL]
 by_cases Aw:v.rest.length=0
 case neg =>
  have HD:Hid (zJ v=false):=by show _=_;rw[HP.out];simp[HK.out,Aw]
  have Et:((v.rest.length:Int)==0)=false:=by simp only[AAX];omega
  clear AV Ad Af Ag BL Aw;go_wp2;go_ret;exact ⟨by rw[HD.out];rfl,HB.out⟩
 have Et:((v.rest.length:Int)==0)=true:=by simp[Aw]
 have HD:Hid (zJ v=true):=by show _=_;rw[HP.out];simp[HK.out,AV,Ad,Af,Ag,BL,Aw]
 clear AV Ad Af Ag BL Aw;go_wp2;go_ret;exact ⟨by rw[HD.out];rfl,HB.out⟩
theorem je (v:Val) (e:v.kind=5) (A1:zo) (c1:Nat) (A2:zo) (c2:Nat) (A3:zo) (c3:Nat) (w:World) :
  Calls Tryz.prog 103 #[v.v A1 c1 A2 c2 A3 c3] w fun e w'=>e = .returned (.bool (zJ v))/\Below w.heap.size w w':=by
 have HB:=zh (zD w (v.box A1 c1 A2 c2 A3 c3));have HX:=zh (AAA w (v.box A1 c1 A2 c2 A3 c3));have HP:=zh (FB v);have HK:=zh e;clear e
 go_enter Tryz.func103,Tryz.ntmps103
 go_upto_region 1 with fail
 generalize w.alloc (v.box A1 c1 A2 c2 A3 c3)=W1 at *;obtain ⟨v0,v1,v2,v3,v4,v5,v6,v7⟩:=zF HX;rw[HK.out] at v0;go_upto_region 2 with fail
 simp only[List.append]
 by_cases AV:v.bool=false
 case neg =>
  have HD:Hid (zJ v=false):=by show _=_;rw[HP.out];simp[HK.out,AV]
  rw[show v.bool=true by simpa using AV] at v1
  clear AV;go_wp2;go_ret;exact ⟨by rw[HD.out];rfl,HB.out⟩
 rw[AV] at v1
 by_cases Ad:v.int=0
 case neg =>
  have HD:Hid (zJ v=false):=by show _=_;rw[HP.out];simp[HK.out,Ad]
  have Gc:(v.int==0)=false:=by simp[Ad]
  clear AV Ad;go_wp2;go_ret;exact ⟨by rw[HD.out];rfl,HB.out⟩
 have Gc:(v.int==0)=true:=by simp[Ad]
 by_cases Af:v.str=⟨#[]⟩
 case neg =>
  have HD:Hid (zJ v=false):=by show _=_;rw[HP.out];simp[HK.out,Af]
  have Gb:v.str.toList.isEmpty=false:=by cases h:v.str.toList.isEmpty with|false=>rfl|true=>exact absurd ((Au v.str).1 h) Af
  clear AV Ad Af;go_wp2;go_ret;exact ⟨by rw[HD.out];rfl,HB.out⟩
 have Gb:v.str.toList.isEmpty=true:=(Au v.str).2 Af
 by_cases BQ:v.id=0
 case neg =>
  have HD:Hid (zJ v=false):=by show _=_;rw[HP.out];simp[HK.out,BQ]
  have NE:(v.id==0)=false:=by simp[BQ]
  clear AV Ad Af BQ;go_wp2;go_ret;exact ⟨by rw[HD.out];rfl,HB.out⟩
 have NE:(v.id==0)=true:=by simp[BQ]
 by_cases Ag:v.keys.length=0
 case neg =>
  have HD:Hid (zJ v=false):=by show _=_;rw[HP.out];simp[HK.out,Ag]
  have EC:((v.keys.length:Int)==0)=false:=by simp only[AAX];omega
  clear AV Ad Af BQ Ag;go_wp2;go_ret;exact ⟨by rw[HD.out];rfl,HB.out⟩
 have EC:((v.keys.length:Int)==0)=true:=by simp[Ag]
 have HD:Hid (zJ v=true):=by show _=_;rw[HP.out];simp[HK.out,AV,Ad,Af,BQ,Ag]
 clear AV Ad Af BQ Ag;go_wp2;go_ret;exact ⟨by rw[HD.out];rfl,HB.out⟩
theorem jd (v:Val) (e:v.kind=6) (A1:zo) (c1:Nat) (A2:zo) (c2:Nat) (A3:zo) (c3:Nat) (w:World) :
  Calls Tryz.prog 103 #[v.v A1 c1 A2 c2 A3 c3] w fun e w'=>e = .returned (.bool (zJ v))/\Below w.heap.size w w':=by
 have HB:=zh (zD w (v.box A1 c1 A2 c2 A3 c3));have HX:=zh (AAA w (v.box A1 c1 A2 c2 A3 c3));have HP:=zh (FB v);have HK:=zh e;clear e
 go_enter Tryz.func103,Tryz.ntmps103
 go_upto_region 1 with fail
 generalize w.alloc (v.box A1 c1 A2 c2 A3 c3)=W1 at *;obtain ⟨v0,v1,v2,v3,v4,v5,v6,v7⟩:=zF HX;rw[HK.out] at v0;go_upto_region 2 with fail
 simp only[List.append]
 by_cases AV:v.bool=false
 case neg =>
  have HD:Hid (zJ v=false):=by show _=_;rw[HP.out];simp[HK.out,AV]
  rw[show v.bool=true by simpa using AV] at v1
  clear AV;go_wp2;go_ret;exact ⟨by rw[HD.out];rfl,HB.out⟩
 rw[AV] at v1
 by_cases Ad:v.int=0
 case neg =>
  have HD:Hid (zJ v=false):=by show _=_;rw[HP.out];simp[HK.out,Ad]
  have Gc:(v.int==0)=false:=by simp[Ad]
  clear AV Ad;go_wp2;go_ret;exact ⟨by rw[HD.out];rfl,HB.out⟩
 have Gc:(v.int==0)=true:=by simp[Ad]
 by_cases Af:v.str=⟨#[]⟩
 case neg =>
  have HD:Hid (zJ v=false):=by show _=_;rw[HP.out];simp[HK.out,Af]
  have Gb:v.str.toList.isEmpty=false:=by cases h:v.str.toList.isEmpty with|false=>rfl|true=>exact absurd ((Au v.str).1 h) Af
  clear AV Ad Af;go_wp2;go_ret;exact ⟨by rw[HD.out];rfl,HB.out⟩
 have Gb:v.str.toList.isEmpty=true:=(Au v.str).2 Af
 by_cases Ag:v.keys.length=0
 case neg =>
  have HD:Hid (zJ v=false):=by show _=_;rw[HP.out];simp[HK.out,Ag]
  have EC:((v.keys.length:Int)==0)=false:=by simp only[AAX];omega
  clear AV Ad Af Ag;go_wp2;go_ret;exact ⟨by rw[HD.out];rfl,HB.out⟩
 have EC:((v.keys.length:Int)==0)=true:=by simp[Ag]
 have HD:Hid (zJ v=true):=by show _=_;rw[HP.out];simp[HK.out,AV,Ad,Af,Ag]
 clear AV Ad Af Ag;go_wp2;go_ret;exact ⟨by rw[HD.out];rfl,HB.out⟩
theorem jc (v:Val) (e:v.kind=7) (A1:zo) (c1:Nat) (A2:zo) (c2:Nat) (A3:zo) (c3:Nat) (w:World) :
  Calls Tryz.prog 103 #[v.v A1 c1 A2 c2 A3 c3] w fun e w'=>e = .returned (.bool (zJ v))/\Below w.heap.size w w':=by
 have HB:=zh (zD w (v.box A1 c1 A2 c2 A3 c3));have HX:=zh (AAA w (v.box A1 c1 A2 c2 A3 c3));have HP:=zh (FB v);have HK:=zh e;clear e
 go_enter Tryz.func103,Tryz.ntmps103
 go_upto_region 1 with fail
 generalize w.alloc (v.box A1 c1 A2 c2 A3 c3)=W1 at *;obtain ⟨v0,v1,v2,v3,v4,v5,v6,v7⟩:=zF HX;rw[HK.out] at v0;go_upto_region 2 with fail
 simp only[List.append]
 by_cases AV:v.bool=false
 case neg =>
  have HD:Hid (zJ v=false):=by show _=_;rw[HP.out];simp[HK.out,AV]
  rw[show v.bool=true by simpa using AV] at v1
  clear AV;go_wp2;go_ret;exact ⟨by rw[HD.out];rfl,HB.out⟩
 rw[AV] at v1
 by_cases Ad:v.int=0
 case neg =>
  have HD:Hid (zJ v=false):=by show _=_;rw[HP.out];simp[HK.out,Ad]
  have Gc:(v.int==0)=false:=by simp[Ad]
  clear AV Ad;go_wp2;go_ret;exact ⟨by rw[HD.out];rfl,HB.out⟩
 have Gc:(v.int==0)=true:=by simp[Ad]
 by_cases Af:v.str=⟨#[]⟩
 case neg =>
  have HD:Hid (zJ v=false):=by show _=_;rw[HP.out];simp[HK.out,Af]
  have Gb:v.str.toList.isEmpty=false:=by cases h:v.str.toList.isEmpty with|false=>rfl|true=>exact absurd ((Au v.str).1 h) Af
  clear AV Ad Af;go_wp2;go_ret;exact ⟨by rw[HD.out];rfl,HB.out⟩
 have Gb:v.str.toList.isEmpty=true:=(Au v.str).2 Af
 by_cases BQ:v.id=0
 case neg =>
  have HD:Hid (zJ v=false):=by show _=_;rw[HP.out];simp[HK.out,BQ]
  have NE:(v.id==0)=false:=by simp[BQ]
  clear AV Ad Af BQ;go_wp2;go_ret;exact ⟨by rw[HD.out];rfl,HB.out⟩
 have NE:(v.id==0)=true:=by simp[BQ]
 by_cases Ag:v.keys.length=0
 case neg =>
  have HD:Hid (zJ v=false):=by show _=_;rw[HP.out];simp[HK.out,Ag]
  have EC:((v.keys.length:Int)==0)=false:=by simp only[AAX];omega
  clear AV Ad Af BQ Ag;go_wp2;go_ret;exact ⟨by rw[HD.out];rfl,HB.out⟩
 have EC:((v.keys.length:Int)==0)=true:=by simp[Ag]
 by_cases Aw:v.rest.length=0
 case neg =>
  have HD:Hid (zJ v=false):=by show _=_;rw[HP.out];simp[HK.out,Aw]
  have Et:((v.rest.length:Int)==0)=false:=by simp only[AAX];omega
  clear AV Ad Af BQ Ag Aw;go_wp2;go_ret;exact ⟨by rw[HD.out];rfl,HB.out⟩
 have Et:((v.rest.length:Int)==0)=true:=by simp[Aw]
 have HD:Hid (zJ v=true):=by show _=_;rw[HP.out];simp[HK.out,AV,Ad,Af,BQ,Ag,Aw]
 clear AV Ad Af BQ Ag Aw;go_wp2;go_ret;exact ⟨by rw[HD.out];rfl,HB.out⟩
theorem jb (v:Val) (e:v.kind=8) (A1:zo) (c1:Nat) (A2:zo) (c2:Nat) (A3:zo) (c3:Nat) (w:World) :
  Calls Tryz.prog 103 #[v.v A1 c1 A2 c2 A3 c3] w fun e w'=>e = .returned (.bool (zJ v))/\Below w.heap.size w w':=by
 have HB:=zh (zD w (v.box A1 c1 A2 c2 A3 c3));have HX:=zh (AAA w (v.box A1 c1 A2 c2 A3 c3));have HP:=zh (FB v);have HK:=zh e;clear e
 go_enter Tryz.func103,Tryz.ntmps103
 go_upto_region 1 with fail
 generalize w.alloc (v.box A1 c1 A2 c2 A3 c3)=W1 at *;obtain ⟨v0,v1,v2,v3,v4,v5,v6,v7⟩:=zF HX;rw[HK.out] at v0;go_upto_region 2 with fail
 simp only[List.append]
 by_cases AV:v.bool=false
 case neg =>
  have HD:Hid (zJ v=false):=by show _=_;rw[HP.out];simp[HK.out,AV]
  rw[show v.bool=true by simpa using AV] at v1
  clear AV;go_wp2;go_ret;exact ⟨by rw[HD.out];rfl,HB.out⟩
 rw[AV] at v1
 by_cases Ad:v.int=0
 case neg =>
  have HD:Hid (zJ v=false):=by show _=_;rw[HP.out];simp[HK.out,Ad]
  have Gc:(v.int==0)=false:=by simp[Ad]
  clear AV Ad;go_wp2;go_ret;exact ⟨by rw[HD.out];rfl,HB.out⟩
 have Gc:(v.int==0)=true:=by simp[Ad]
 by_cases Af:v.str=⟨#[]⟩
 case neg =>
  have HD:Hid (zJ v=false):=by show _=_;rw[HP.out];simp[HK.out,Af]
  have Gb:v.str.toList.isEmpty=false:=by cases h:v.str.toList.isEmpty with|false=>rfl|true=>exact absurd ((Au v.str).1 h) Af
  clear AV Ad Af;go_wp2;go_ret;exact ⟨by rw[HD.out];rfl,HB.out⟩
 have Gb:v.str.toList.isEmpty=true:=(Au v.str).2 Af
 by_cases BQ:v.id=0
 case neg =>
  have HD:Hid (zJ v=false):=by show _=_;rw[HP.out];simp[HK.out,BQ]
  have NE:(v.id==0)=false:=by simp[BQ]
  clear AV Ad Af BQ;go_wp2;go_ret;exact ⟨by rw[HD.out];rfl,HB.out⟩
 have NE:(v.id==0)=true:=by simp[BQ]
 by_cases Aw:v.rest.length=0
 case neg =>
  have HD:Hid (zJ v=false):=by show _=_;rw[HP.out];simp[HK.out,Aw]
  have Et:((v.rest.length:Int)==0)=false:=by simp only[AAX];omega
  clear AV Ad Af BQ Aw;go_wp2;go_ret;exact ⟨by rw[HD.out];rfl,HB.out⟩
 have Et:((v.rest.length:Int)==0)=true:=by simp[Aw]
 have HD:Hid (zJ v=true):=by show _=_;rw[HP.out];simp[HK.out,AV,Ad,Af,BQ,Aw]
 clear AV Ad Af BQ Aw;go_wp2;go_ret;exact ⟨by rw[HD.out];rfl,HB.out⟩
theorem ja (v:Val) (e:v.kind=9) (A1:zo) (c1:Nat) (A2:zo) (c2:Nat) (A3:zo) (c3:Nat) (w:World) :
  Calls Tryz.prog 103 #[v.v A1 c1 A2 c2 A3 c3] w fun e w'=>e = .returned (.bool (zJ v))/\Below w.heap.size w w':=by
 have HB:=zh (zD w (v.box A1 c1 A2 c2 A3 c3));have HX:=zh (AAA w (v.box A1 c1 A2 c2 A3 c3));have HP:=zh (FB v);have HK:=zh e;clear e
 go_enter Tryz.func103,Tryz.ntmps103
 go_upto_region 1 with fail
 generalize w.alloc (v.box A1 c1 A2 c2 A3 c3)=W1 at *;obtain ⟨v0,v1,v2,v3,v4,v5,v6,v7⟩:=zF HX;rw[HK.out] at v0;go_upto_region 2 with fail
 simp only[List.append]
 by_cases AV:v.bool=false
 case neg =>
  have HD:Hid (zJ v=false):=by show _=_;rw[HP.out];simp[HK.out,AV]
  rw[show v.bool=true by simpa using AV] at v1
  clear AV;go_wp2;go_ret;exact ⟨by rw[HD.out];rfl,HB.out⟩
 rw[AV] at v1
 by_cases Ad:v.int=0
 case neg =>
  have HD:Hid (zJ v=false):=by show _=_;rw[HP.out];simp[HK.out,Ad]
  have Gc:(v.int==0)=false:=by simp[Ad]
  clear AV Ad;go_wp2;go_ret;exact ⟨by rw[HD.out];rfl,HB.out⟩
 have Gc:(v.int==0)=true:=by simp[Ad]
 by_cases Af:v.str=⟨#[]⟩
 case neg =>
  have HD:Hid (zJ v=false):=by show _=_;rw[HP.out];simp[HK.out,Af]
  have Gb:v.str.toList.isEmpty=false:=by cases h:v.str.toList.isEmpty with|false=>rfl|true=>exact absurd ((Au v.str).1 h) Af
  clear AV Ad Af;go_wp2;go_ret;exact ⟨by rw[HD.out];rfl,HB.out⟩
 have Gb:v.str.toList.isEmpty=true:=(Au v.str).2 Af
 by_cases BQ:v.id=0
 case neg =>
  have HD:Hid (zJ v=false):=by show _=_;rw[HP.out];simp[HK.out,BQ]
  have NE:(v.id==0)=false:=by simp[BQ]
  clear AV Ad Af BQ;go_wp2;go_ret;exact ⟨by rw[HD.out];rfl,HB.out⟩
 have NE:(v.id==0)=true:=by simp[BQ]
 by_cases Ag:v.keys.length=0
 case neg =>
  have HD:Hid (zJ v=false):=by show _=_;rw[HP.out];simp[HK.out,Ag]
  have EC:((v.keys.length:Int)==0)=false:=by simp only[AAX];omega
  clear AV Ad Af BQ Ag;go_wp2;go_ret;exact ⟨by rw[HD.out];rfl,HB.out⟩
 have EC:((v.keys.length:Int)==0)=true:=by simp[Ag]
 by_cases Aw:v.rest.length=0
 case neg =>
  have HD:Hid (zJ v=false):=by show _=_;rw[HP.out];simp[HK.out,Aw]
  have Et:((v.rest.length:Int)==0)=false:=by simp only[AAX];omega
  clear AV Ad Af BQ Ag Aw;go_wp2;go_ret;exact ⟨by rw[HD.out];rfl,HB.out⟩
 have Et:((v.rest.length:Int)==0)=true:=by simp[Aw]
 have HD:Hid (zJ v=true):=by show _=_;rw[HP.out];simp[HK.out,AV,Ad,Af,BQ,Ag,Aw]
 clear AV Ad Af BQ Ag Aw;go_wp2;go_ret;exact ⟨by rw[HD.out];rfl,HB.out⟩
theorem yJ (v:Val) (hk:1<=v.kind/\v.kind<=9) (A1:zo) (c1:Nat) (A2:zo) (c2:Nat) (A3:zo) (c3:Nat) (w:World) :
  Calls Tryz.prog 103 #[v.v A1 c1 A2 c2 A3 c3] w fun e w'=>e = .returned (.bool (zJ v))/\Below w.heap.size w w':=by
 have hkx:v.kind=1\/v.kind=2\/v.kind=3\/v.kind=4\/v.kind=5\/v.kind=6\/v.kind=7\/v.kind=8\/v.kind=9:=by omega
 rcases hkx with e|e|e|e|e|e|e|e|e
 ·exact ji v e A1 c1 A2 c2 A3 c3 w
 ·exact jh v e A1 c1 A2 c2 A3 c3 w
 ·exact jg v e A1 c1 A2 c2 A3 c3 w
 ·exact jf v e A1 c1 A2 c2 A3 c3 w
 ·exact je v e A1 c1 A2 c2 A3 c3 w
 ·exact jd v e A1 c1 A2 c2 A3 c3 w
 ·exact jc v e A1 c1 A2 c2 A3 c3 w
 ·exact jb v e A1 c1 A2 c2 A3 c3 w
 ·exact ja v e A1 c1 A2 c2 A3 c3 w
def Mx (less eq:Bool):Int:=if eq then 0 else if less then -1 else 1
theorem Ei (less eq:Bool) (w:World) :
  Calls Tryz.prog 154 #[.bool less,.bool eq] w fun e w'=>e = .returned (.int .i64 (Mx less eq))/\w'=w:=by
 cases eq with
 | true =>
  go_enter Tryz.func154,Tryz.ntmps154
  go_wp2
  go_ret
  exact ⟨rfl,rfl⟩
 | false =>
  cases less with
  | true =>
   go_enter Tryz.func154,Tryz.ntmps154
   go_wp2
   go_ret
   exact ⟨rfl,rfl⟩
  | false =>
   go_enter Tryz.func154,Tryz.ntmps154
   go_wp2
   go_ret
   exact ⟨rfl,rfl⟩
theorem UB (n:Int) (h:In64 n) (w:World) :
  Calls Tryz.prog 155 #[.int .i64 n] w fun e w'=>e = .returned (.int .u64 (QC n))/\w'=w:=by
 unfold In64 at h
 by_cases h0:0<=n
 ·have HD:Hid (QC n=2 * n):=AAC h0
  have u1:IntKind.u64.wrap n=n:=by rw[IntKind.wrap_u64];omega
  have u2:IntKind.u64.wrap (2 * n)=2 * n:=by rw[IntKind.wrap_u64];omega
  go_enter Tryz.func155,Tryz.ntmps155
  go_wp2
  go_ret
  exact ⟨by rw[HD.out];rfl,rfl⟩
 ·have HD:Hid (QC n = -2 * n - 1):=Pe h0
  have u0:IntKind.i64.wrap (n+1)=n+1:=by rw[IntKind.wrap_i64];omega
  have u3:IntKind.i64.wrap (-(n+1)) = -(n+1):=by rw[IntKind.wrap_i64];omega
  have u1:IntKind.u64.wrap (-(n+1)) = -(n+1):=by rw[IntKind.wrap_u64];omega
  have u2:IntKind.u64.wrap (2 * -(n+1))=2 * -(n+1):=by rw[IntKind.wrap_u64];omega
  have u4:IntKind.u64.wrap (2 * -(n+1)+1)=2 * -(n+1)+1:=by rw[IntKind.wrap_u64];omega
  go_enter Tryz.func155,Tryz.ntmps155
  go_wp2
  go_ret
  refine ⟨?_,rfl⟩;rw[HD.out,show -2 * n - 1=2 * -(n+1)+1 by omega]
  rfl
theorem YK:∀l:List UInt8,Go.Op.bytesLess l l=false
 | []=>by simp[Go.Op.bytesLess]
 | x::xs=>by simp[Go.Op.bytesLess,YK xs]
theorem dY (a:ByteArray):pU a a=false:=YK _
theorem nZ {a b:Int} (h:QC a=QC b):a=b:=by
 unfold QC at h
 split at h <;> split at h <;> omega
variable {a b:Val}
theorem uj (hk:a.kind=b.kind) (e:a.kind=1):Cg a b=Mx b.bool (a.bool==b.bool):=by
 unfold Cg;rw[Pe (by simp[hk]),AAC e]
 cases a.bool <;> cases b.bool <;> rfl
theorem uh (hk:a.kind=b.kind) (e:a.kind=2):Cg a b=Mx (decide (QC a.int<QC b.int)) (a.int==b.int):=by
 unfold Cg;rw[Pe (by simp[hk]),Pe (by omega),AAC e]
 unfold Eu Mx
 by_cases h:a.int=b.int
 ·rw[h,Pe (by omega),AAC rfl,AAC (by simp)]
 ·rw[Pe (c:=(a.int==b.int)=true) (by simpa using h)]
  by_cases h2:QC a.int<QC b.int
  ·rw[AAC h2,AAC (by simpa using h2)]
  ·rw[Pe h2,Pe (fun g=>h (nZ g)),Pe (by simpa using h2)]
theorem qJ (hk:a.kind=b.kind) (e:a.kind=3) (h:¬ (a.str.size:Int)=b.str.size):Cg a b=Mx (decide ((a.str.size:Int)<b.str.size)) false:=by
 unfold Cg;rw[Pe (by simp[hk]),Pe (by omega),Pe (by omega),AAC e]
 have h1:Eu a.str.size b.str.size=Mx (decide ((a.str.size:Int)<b.str.size)) false:=by
  unfold Eu Mx;rw[Pe (c:=(false=true)) (by simp)]
  by_cases h2:(a.str.size:Int)<b.str.size
  ·rw[AAC h2,AAC (by simpa using h2)]
  ·rw[Pe h2,Pe h,Pe (by simpa using h2)]
 rw[h1,AAC];unfold Mx;rw[Pe (c:=(false=true)) (by simp)]
 split <;> decide
theorem qI (hk:a.kind=b.kind) (e:a.kind=3) (h:(a.str.size:Int)=b.str.size):Cg a b=Mx (pU a.str b.str) (decide (a.str=b.str)):=by
 unfold Cg;rw[Pe (by simp[hk]),Pe (by omega),Pe (by omega),AAC e,Pe]
 ·unfold PD Mx
  by_cases h1:a.str=b.str
  ·rw[AAC (c:=decide (a.str=b.str)=true) (by simpa using h1),AAC h1]
   cases hl:pU a.str b.str with
   | true=>rw[h1] at hl;exact absurd hl (by rw[dY];simp)
   | false=>rfl
  ·rw[Pe (c:=decide (a.str=b.str)=true) (by simpa using h1),Pe h1]
 ·unfold Eu
  rw[h,Pe (by omega),AAC rfl]
  simp
theorem ug (hk:a.kind=b.kind) (e:a.kind=4):Cg a b=Mx (decide (a.id<b.id)) (a.id==b.id):=by
 unfold Cg;rw[Pe (by simp[hk]),Pe (by omega),Pe (by omega),Pe (by omega),AAC e]
 unfold Eu Mx
 by_cases h:a.id=b.id
 ·rw[h,Pe (by omega),AAC rfl,AAC (by simp)]
 ·rw[Pe (c:=(a.id==b.id)=true) (by simpa using h),Pe h]
  by_cases h2:a.id<b.id
  ·rw[AAC h2,AAC (by simpa using h2)]
  ·rw[Pe h2,Pe (by simpa using h2)]
theorem UD (n:Int) (t:AZ) (As:zo) (cs:Nat) (Am:zo) (cm:Nat) (w:World) (ht:Ic w t As Am) :
  Calls Tryz.prog 61 #[t.v As cs Am cm,.int .i64 n] w fun e w'=>∃r:Int,e = .returned (.tuple #[.int .i64 r,.bool (t.AA.any fun y=>decide (y.id=n))])/\((t.AA.any fun y=>decide (y.id=n))=true->r=Bv (fun y:AY=>decide (y.id=n)) t.AA)/\Below w.heap.size w w':=by
 have hl:=ht.AA.1.lt (by omega)
 have HB:=zh (zD w (t.box As cs Am cm));have HX:Hid (Bf (w.alloc (t.box As cs Am cm)) w.heap.size t As cs Am cm):=AAA w _;have HT:=zh (ht.below HB);clear ht;obtain ⟨an,han⟩:∃an,(t.AA.any fun y=>decide (y.id=n))=an:=⟨_,rfl⟩
 obtain ⟨X,hX⟩:∃X,Bv (fun y:AY=>decide (y.id=n)) t.AA=X:=⟨_,rfl⟩
 rw[han,hX];have Yf:=zh han;have rJ:=zh hX;clear han hX
 go_enter Tryz.func61,Tryz.ntmps61
 go_upto_region 1 with fail
 generalize w.alloc (t.box As cs Am cm)=W1 at *;obtain ⟨b0,b1,b2,b3,b4,b5,b6,b7,b8,b9⟩:=zG HX;go_wp2_with fail
 go_loop [6] (fun i=>∃k:Nat,k<=t.AA.length/\i = .int .i64 (k:Int)/\Hid (∀j (h:j<t.AA.length),j<k->decide ((t.AA[j]).id=n)=false)) (fun i=>t.AA.length - (intOf i).toNat)
 case atStart=>exact ⟨0,by omega,rfl,fun j _ h=>absurd h (by omega)⟩
 case round =>
  obtain ⟨k,hk,rfl,hh⟩:=hrel
  by_cases hlt:k<t.AA.length
  ·obtain ⟨mb,mo,M1,m1,M2,m2,M3,m3,hA,_,d0,d1,d2,d3,d4,d5,d6,d7,d8,d9,aQ,aP,aO⟩:=HT.out.AA.MH hlt
   have h1:(0:Int)<=(k:Int):=by omega
   have h2:(k:Int)<(t.AA.length:Int):=by omega
   have BI:=b6;rw[hA] at BI
   by_cases he:(t.AA[k]).id=n
   ·have HE:Hid (an=true/\X=(k:Int)):=⟨by rw[<-Yf.out];exact YP hlt (AAM he),by rw[<-rJ.out];exact KO _ k hlt hh (AAM he)⟩
    have q1:((t.AA[k]).id==n)=true:=by simpa using he
    clear he b6;go_wp2;go_ret2;exact ⟨k,by rw[HE.out.1];rfl,fun _=>HE.out.2.symm,HB.out⟩
   ·have q1:((t.AA[k]).id==n)=false:=by simpa using he
    have HN:Hid (∀j (h:j<t.AA.length),j<k+1->decide ((t.AA[j]).id=n)=false):=fun j hj hjk=>by
     by_cases ej:j=k
     ·subst ej;exact AAE he
     ·exact hh.out j hj (by omega)
    clear he b6;go_wp2
    go_round
    case rel=>exact ⟨k+1,by omega,by go_num,HN.out⟩
    case measure=>simp[intOf];omega
  ·have HE:Hid (an=false):=by show _=_;rw[<-Yf.out];exact gJ fun j hj=>hh.out j hj (by omega)
   go_wp2
   go_ret2
   exact ⟨0,by rw[HE.out];rfl,fun h=>absurd (HE.out.symm.trans h) (by simp),HB.out⟩
theorem UC (n:Int) (t:AZ) (As:zo) (cs:Nat) (Am:zo) (cm:Nat) (w:World) (ht:Ic w t As Am) :
  Calls Tryz.prog 72 #[t.v As cs Am cm,.int .i64 n] w fun e w'=>∃r:Int,e = .returned (.tuple #[.int .i64 r,.bool (t.Ab.any fun y=>decide (y.id=n))])/\((t.Ab.any fun y=>decide (y.id=n))=true->r=Bv (fun y:CB=>decide (y.id=n)) t.Ab)/\Below w.heap.size w w':=by
 have hl:=ht.Ab.1.lt (by omega)
 have HB:=zh (zD w (t.box As cs Am cm));have HX:Hid (Bf (w.alloc (t.box As cs Am cm)) w.heap.size t As cs Am cm):=AAA w _;have HT:=zh (ht.below HB);clear ht;obtain ⟨an,han⟩:∃an,(t.Ab.any fun y=>decide (y.id=n))=an:=⟨_,rfl⟩
 obtain ⟨X,hX⟩:∃X,Bv (fun y:CB=>decide (y.id=n)) t.Ab=X:=⟨_,rfl⟩
 rw[han,hX];have Yf:=zh han;have rJ:=zh hX;clear han hX
 go_enter Tryz.func72,Tryz.ntmps72
 go_upto_region 1 with fail
 generalize w.alloc (t.box As cs Am cm)=W1 at *;obtain ⟨b0,b1,b2,b3,b4,b5,b6,b7,b8,b9⟩:=zG HX;go_wp2_with fail
 go_loop [6] (fun i=>∃k:Nat,k<=t.Ab.length/\i = .int .i64 (k:Int)/\Hid (∀j (h:j<t.Ab.length),j<k->decide ((t.Ab[j]).id=n)=false)) (fun i=>t.Ab.length - (intOf i).toNat)
 case atStart=>exact ⟨0,by omega,rfl,fun j _ h=>absurd h (by omega)⟩
 case round =>
  obtain ⟨k,hk,rfl,hh⟩:=hrel
  by_cases hlt:k<t.Ab.length
  ·obtain ⟨mb,mo,hA,_,d0,d1⟩:=HT.out.Ab.at2 hlt
   have h1:(0:Int)<=(k:Int):=by omega
   have h2:(k:Int)<(t.Ab.length:Int):=by omega
   have BI:=b5;rw[hA] at BI
   by_cases he:(t.Ab[k]).id=n
   ·have HE:Hid (an=true/\X=(k:Int)):=⟨by rw[<-Yf.out];exact YP hlt (AAM he),by rw[<-rJ.out];exact KO _ k hlt hh (AAM he)⟩
    have q1:((t.Ab[k]).id==n)=true:=by simpa using he
    clear he b5;go_wp2;go_ret2;exact ⟨k,by rw[HE.out.1];rfl,fun _=>HE.out.2.symm,HB.out⟩
   ·have q1:((t.Ab[k]).id==n)=false:=by simpa using he
    have HN:Hid (∀j (h:j<t.Ab.length),j<k+1->decide ((t.Ab[j]).id=n)=false):=fun j hj hjk=>by
     by_cases ej:j=k
     ·subst ej;exact AAE he
     ·exact hh.out j hj (by omega)
    clear he b5;go_wp2
    go_round
    case rel=>exact ⟨k+1,by omega,by go_num,HN.out⟩
    case measure=>simp[intOf];omega
  ·have HE:Hid (an=false):=by show _=_;rw[<-Yf.out];exact gJ fun j hj=>hh.out j hj (by omega)
   go_wp2
   go_ret2
   exact ⟨0,by rw[HE.out];rfl,fun h=>absurd (HE.out.symm.trans h) (by simp),HB.out⟩
end Go.Proofs.YthkkllmmbefedaaGreatDoor



