/-
  Walks: bare, proper, free.
-/
import Derived.Test.YtdfolgmcggdjdaaGreatDoorQGA5
import Derived.Test.YtdfolgmcggdjdaaGreatDoorQGA2
import Derived.Deep.DeepCutAuto
namespace Go.Proofs.YtdfolgmcggdjdaaGreatDoor
open Go.RowKit
set_option maxHeartbeats 16000000
set_option maxRecDepth 100000
def BarePost (v:Val) (w:World) (e:Ending) (w':World):Prop:=∃B1 d1 B2 d2 B3 d3,e = .returned ((bareD v).v B1 d1 B2 d2 B3 d3)∧Below w.heap.size w w'
theorem below_new3 (w:World) (o1 o2 o3:Obj):Below w.heap.size w (((w.alloc o1).alloc o2).alloc o3):=zB (zB (zD w o1) (zD _ o2)) (zD _ o3)
theorem bare_bool (v:Val) (hk:v.kind=1) (A1:zo) (c1:Nat) (A2:zo) (c2:Nat) (A3:zo) (c3:Nat) (w:World) :
  Calls Tryz.prog 159 #[v.v A1 c1 A2 c2 A3 c3] w (BarePost v w):=by
 have HB:Hid (bareD v = .mk 1 v.bool 0 ⟨#[]⟩ 0 [] [] []):=by show _=_;unfold bareD;simp[hk]
 have HBL:=zh (fun o1 o2 o3=>below_new3 w o1 o2 o3)
 go_enter Tryz.func159,Tryz.ntmps159
 go_wp2
 refine bodyPost_ret (v:=Val.v (.mk 1 v.bool 0 ⟨#[]⟩ 0 [] [] []) none 0 none 0 none 0) (by simp only[results,Tryz.results159];go_simp;exact ⟨rfl,rfl,rfl,rfl,rfl,rfl,rfl,rfl⟩) rfl ⟨_,_,_,_,_,_,by rw[HB.out],HBL.out _ _ _⟩
theorem bare_int (v:Val) (hk:v.kind=2) (A1:zo) (c1:Nat) (A2:zo) (c2:Nat) (A3:zo) (c3:Nat) (w:World) :
  Calls Tryz.prog 159 #[v.v A1 c1 A2 c2 A3 c3] w (BarePost v w):=by
 have HB:Hid (bareD v = .mk 2 false v.int ⟨#[]⟩ 0 [] [] []):=by show _=_;unfold bareD;simp[hk]
 have HBL:=zh (fun o1 o2 o3=>below_new3 w o1 o2 o3)
 go_enter Tryz.func159,Tryz.ntmps159
 go_wp2
 refine bodyPost_ret (v:=Val.v (.mk 2 false v.int ⟨#[]⟩ 0 [] [] []) none 0 none 0 none 0) (by simp only[results,Tryz.results159];go_simp;exact ⟨rfl,rfl,rfl,rfl,rfl,rfl,rfl,rfl⟩) rfl ⟨_,_,_,_,_,_,by rw[HB.out],HBL.out _ _ _⟩
theorem bare_str (v:Val) (hk:v.kind=3) (A1:zo) (c1:Nat) (A2:zo) (c2:Nat) (A3:zo) (c3:Nat) (w:World) :
  Calls Tryz.prog 159 #[v.v A1 c1 A2 c2 A3 c3] w (BarePost v w):=by
 have HB:Hid (bareD v = .mk 3 false 0 v.str 0 [] [] []):=by show _=_;unfold bareD;simp[hk]
 have HBL:=zh (fun o1 o2 o3=>below_new3 w o1 o2 o3)
 go_enter Tryz.func159,Tryz.ntmps159
 go_wp2
 refine bodyPost_ret (v:=Val.v (.mk 3 false 0 v.str 0 [] [] []) none 0 none 0 none 0) (by simp only[results,Tryz.results159];go_simp;exact ⟨rfl,rfl,rfl,rfl,rfl,rfl,rfl,rfl⟩) rfl ⟨_,_,_,_,_,_,by rw[HB.out],HBL.out _ _ _⟩
theorem bare_enum (v:Val) (hk:v.kind=4) (A1:zo) (c1:Nat) (A2:zo) (c2:Nat) (A3:zo) (c3:Nat) (w:World) :
  Calls Tryz.prog 159 #[v.v A1 c1 A2 c2 A3 c3] w (BarePost v w):=by
 have HB:Hid (bareD v = .mk 4 false 0 ⟨#[]⟩ v.id [] [] []):=by show _=_;unfold bareD;simp[hk]
 have HBL:=zh (fun o1 o2 o3=>below_new3 w o1 o2 o3)
 go_enter Tryz.func159,Tryz.ntmps159
 go_wp2
 refine bodyPost_ret (v:=Val.v (.mk 4 false 0 ⟨#[]⟩ v.id [] [] []) none 0 none 0 none 0) (by simp only[results,Tryz.results159];go_simp;exact ⟨rfl,rfl,rfl,rfl,rfl,rfl,rfl,rfl⟩) rfl ⟨_,_,_,_,_,_,by rw[HB.out],HBL.out _ _ _⟩
theorem bare_list (v:Val) (hk:v.kind=7) (A1:zo) (c1:Nat) (A2:zo) (c2:Nat) (A3:zo) (c3:Nat) (w:World) :
  Calls Tryz.prog 159 #[v.v A1 c1 A2 c2 A3 c3] w (BarePost v w):=by
 have HB:Hid (bareD v = .mk 7 false 0 ⟨#[]⟩ 0 [] v.items []):=by show _=_;unfold bareD;simp[hk]
 have HBL:=zh (fun o1 o2 o3=>below_new3 w o1 o2 o3)
 go_enter Tryz.func159,Tryz.ntmps159
 go_wp2
 refine bodyPost_ret (v:=Val.v (.mk 7 false 0 ⟨#[]⟩ 0 [] v.items []) none 0 A2 c2 none 0) (by simp only[results,Tryz.results159];go_simp;exact ⟨rfl,rfl,rfl,rfl,rfl,rfl,rfl,rfl⟩) rfl ⟨_,_,_,_,_,_,by rw[HB.out],HBL.out _ _ _⟩
theorem bare_opt (v:Val) (hk:v.kind=9) (A1:zo) (c1:Nat) (A2:zo) (c2:Nat) (A3:zo) (c3:Nat) (w:World) :
  Calls Tryz.prog 159 #[v.v A1 c1 A2 c2 A3 c3] w (BarePost v w):=by
 have HB:Hid (bareD v = .mk 9 false 0 ⟨#[]⟩ 0 [] v.items []):=by show _=_;unfold bareD;simp[hk]
 have HBL:=zh (fun o1 o2 o3=>below_new3 w o1 o2 o3)
 go_enter Tryz.func159,Tryz.ntmps159
 go_wp2
 refine bodyPost_ret (v:=Val.v (.mk 9 false 0 ⟨#[]⟩ 0 [] v.items []) none 0 A2 c2 none 0) (by simp only[results,Tryz.results159];go_simp;exact ⟨rfl,rfl,rfl,rfl,rfl,rfl,rfl,rfl⟩) rfl ⟨_,_,_,_,_,_,by rw[HB.out],HBL.out _ _ _⟩
theorem bare_rec (v:Val) (hk:v.kind=5) (A1:zo) (c1:Nat) (A2:zo) (c2:Nat) (A3:zo) (c3:Nat) (w:World) :
  Calls Tryz.prog 159 #[v.v A1 c1 A2 c2 A3 c3] w (BarePost v w):=by
 have HB:Hid (bareD v = .mk 5 false 0 ⟨#[]⟩ 0 [] v.items v.rest):=by show _=_;unfold bareD;simp[hk]
 have HBL:=zh (fun o1 o2 o3=>zC (below_new3 w o1 o2 o3) 1)
 go_enter Tryz.func159,Tryz.ntmps159
 go_upto_region 12 with fail
 refine wp_region_held_drew (S:=(fun w'=>(w'.cell? ⟨w.heap.size,6,none⟩=some (.slice A2 v.items.length c2)∧w'.cell? ⟨w.heap.size,7,none⟩=some (.slice A3 v.rest.length c3)))) (by kernel_rfl) ?_ (fun zH_=>?_)
 ·(try dsimp only);go_simp
 refine tL 0 ?_;refine tL 1 ?_;refine tL 2 ?_;refine tL 3 ?_;refine tL 4 ?_;refine tR 5 (fun K hK=>?_)
 go_simp
 refine hK.out _ _ ?_ (fun zH_=>?_)
 ·(try dsimp only);go_simp
 clear hK K;try simp only[ps]
 refine tL 6 ?_;refine tR 7 (fun K hK=>?_)
 go_simp
 refine hK.out _ _ ?_ (fun zH_=>?_)
 ·(try dsimp only);go_simp
 clear hK K;refine wpAnyH_done (by kernel_rfl) ?_ _
 clear zH_;go_wp2;refine bodyPost_ret (v:=Val.v (.mk 5 false 0 ⟨#[]⟩ 0 [] v.items v.rest) none 0 A2 c2 A3 c3) (by simp only[results,Tryz.results159];go_simp;exact ⟨rfl,rfl,rfl,rfl,rfl,rfl,rfl,rfl⟩) rfl ⟨_,_,_,_,_,_,by rw[HB.out],HBL.out _ _ _⟩
theorem bare_uni (v:Val) (hk:v.kind=6) (A1:zo) (c1:Nat) (A2:zo) (c2:Nat) (A3:zo) (c3:Nat) (w:World) :
  Calls Tryz.prog 159 #[v.v A1 c1 A2 c2 A3 c3] w (BarePost v w):=by
 have HB:Hid (bareD v = .mk 6 false 0 ⟨#[]⟩ v.id [] v.items v.rest):=by show _=_;unfold bareD;simp[hk]
 have HBL:=zh (fun o1 o2 o3=>zC (below_new3 w o1 o2 o3) 1)
 go_enter Tryz.func159,Tryz.ntmps159
 go_upto_region 14 with fail
 refine wp_region_held_drew (S:=(fun w'=>(w'.cell? ⟨w.heap.size,4,none⟩=some (.int .i64 v.id)∧w'.cell? ⟨w.heap.size,6,none⟩=some (.slice A2 v.items.length c2)∧w'.cell? ⟨w.heap.size,7,none⟩=some (.slice A3 v.rest.length c3)))) (by kernel_rfl) ?_ (fun zH_=>?_)
 ·(try dsimp only);go_simp
 refine tL 0 ?_;refine tL 1 ?_;refine tL 2 ?_;refine tL 3 ?_;refine tL 4 ?_;refine tL 5 ?_;try simp only[ps]
 refine tL 6 ?_;refine tR 7 (fun K hK=>?_)
 go_simp
 refine hK.out _ _ ?_ (fun zH_=>?_)
 ·(try dsimp only);go_simp
 clear hK K;refine tL 8 ?_;refine tR 9 (fun K hK=>?_)
 go_simp
 refine hK.out _ _ ?_ (fun zH_=>?_)
 ·(try dsimp only);go_simp
 clear hK K;refine tL 10 ?_;refine tR 11 (fun K hK=>?_)
 go_simp
 refine hK.out _ _ ?_ (fun zH_=>?_)
 ·(try dsimp only);go_simp
 clear hK K;try simp only[ps]
 refine wpAnyH_done (by kernel_rfl) ?_ _
 clear zH_;go_wp2;refine bodyPost_ret (v:=Val.v (.mk 6 false 0 ⟨#[]⟩ v.id [] v.items v.rest) none 0 A2 c2 A3 c3) (by simp only[results,Tryz.results159];go_simp;exact ⟨rfl,rfl,rfl,rfl,rfl,rfl,rfl,rfl⟩) rfl ⟨_,_,_,_,_,_,by rw[HB.out],HBL.out _ _ _⟩
theorem bare_map (v:Val) (hk:v.kind=8) (A1:zo) (c1:Nat) (A2:zo) (c2:Nat) (A3:zo) (c3:Nat) (w:World) :
  Calls Tryz.prog 159 #[v.v A1 c1 A2 c2 A3 c3] w (BarePost v w):=by
 have HB:Hid (bareD v = .mk 8 false 0 ⟨#[]⟩ 0 v.keys v.items []):=by show _=_;unfold bareD;simp[hk]
 have HBL:=zh (fun o1 o2 o3=>zC (below_new3 w o1 o2 o3) 1)
 go_enter Tryz.func159,Tryz.ntmps159
 go_upto_region 16 with fail
 refine wp_region_held_drew (S:=(fun w'=>(w'.cell? ⟨w.heap.size,5,none⟩=some (.slice A1 v.keys.length c1)∧w'.cell? ⟨w.heap.size,6,none⟩=some (.slice A2 v.items.length c2)))) (by kernel_rfl) ?_ (fun zH_=>?_)
 ·(try dsimp only);go_simp
 refine tL 0 ?_;refine tL 1 ?_;refine tL 2 ?_;refine tL 3 ?_;refine tL 4 ?_;refine tR 5 (fun K hK=>?_)
 go_simp
 refine hK.out _ _ ?_ (fun zH_=>?_)
 ·(try dsimp only);go_simp
 clear hK K;try simp only[ps]
 refine tL 6 ?_;refine tR 7 (fun K hK=>?_)
 go_simp
 refine hK.out _ _ ?_ (fun zH_=>?_)
 ·(try dsimp only);go_simp
 clear hK K;refine wpAnyH_done (by kernel_rfl) ?_ _
 clear zH_;go_wp2;refine bodyPost_ret (v:=Val.v (.mk 8 false 0 ⟨#[]⟩ 0 v.keys v.items []) A1 c1 A2 c2 none 0) (by simp only[results,Tryz.results159];go_simp;exact ⟨rfl,rfl,rfl,rfl,rfl,rfl,rfl,rfl⟩) rfl ⟨_,_,_,_,_,_,by rw[HB.out],HBL.out _ _ _⟩
theorem bare_any (v:Val) (h:1≤v.kind∧v.kind≤9) (A1:zo) (c1:Nat) (A2:zo) (c2:Nat) (A3:zo) (c3:Nat) (w:World) :
  Calls Tryz.prog 159 #[v.v A1 c1 A2 c2 A3 c3] w (BarePost v w):=by
 have hk:v.kind=1∨v.kind=2∨v.kind=3∨v.kind=4∨v.kind=5∨v.kind=6∨v.kind=7∨v.kind=8∨v.kind=9:=by omega
 rcases hk with h|h|h|h|h|h|h|h|h
 ·exact bare_bool v h A1 c1 A2 c2 A3 c3 w
 ·exact bare_int v h A1 c1 A2 c2 A3 c3 w
 ·exact bare_str v h A1 c1 A2 c2 A3 c3 w
 ·exact bare_enum v h A1 c1 A2 c2 A3 c3 w
 ·exact bare_rec v h A1 c1 A2 c2 A3 c3 w
 ·exact bare_uni v h A1 c1 A2 c2 A3 c3 w
 ·exact bare_list v h A1 c1 A2 c2 A3 c3 w
 ·exact bare_map v h A1 c1 A2 c2 A3 c3 w
 ·exact bare_opt v h A1 c1 A2 c2 A3 c3 w
end Go.Proofs.YtdfolgmcggdjdaaGreatDoor


