/- Chapter 15's law KernelPoints: where it stops early. -/
import Derived.Test.YtklcmlbkhjcaiaaGreatDoorLaw15B


namespace Go.Proofs.YtklcmlbkhjcaiaaGreatDoor
open Go.RowKit
set_option linter.unusedVariables false

set_option maxRecDepth 100000 in
set_option maxHeartbeats 25600000 in
theorem kpoints_f (op : Int) (ia : Option Addr) (il ic : Nat) (is : Nat → Int) (pa : Option Addr) (pl pc : Nat) (ps : Nat → Int) (al : Option Addr) (ll cl : Nat) (g5 : Nat → Bf) (x y : Int) (w : World) (hop : -9223372036854775808 ≤ op ∧ op ≤ 9223372036854775807) (ht : Tabs w) (hi : IsInts w ia il ic is) (hp : IsInts w pa pl pc ps) (hb : IsBufs w al ll cl g5) (hx : -9223372036854775808 ≤ x ∧ x ≤ 9223372036854775807) (hy : -9223372036854775808 ≤ y ∧ y ≤ 9223372036854775807) (hr : (-1000000 ≤ x ∧ x ≤ 1000000) ∧ (-1000000 ≤ y ∧ y ≤ 1000000)) (c_F : fine15 op il is pl ps ll g5 (⟨x, y, x + 1, y + 1⟩ : R) = false) :
    Calls Tryz.prog 4 #[.agg #[.int .i64 op, .slice ia il ic, .slice pa pl pc], .slice al ll cl, .int .i64 x, .int .i64 y] w fun e w' => e = .returned (.bool true) ∧ Grows w w' := by
  have m1 := hi.le
  have m2 := hi.most
  have m3 := hp.le
  have m4 := hp.most
  have m5 := hb.le
  have m6 := hb.most
  replace ht := Lib.hid ht
  replace hi := Lib.hid hi
  replace hp := Lib.hid hp
  replace hb := Lib.hid hb
  have CF := Lib.hid c_F
  have HFI : Hid (∀ W c, Grows w W → fine15 op il is pl ps ll g5 (⟨x, y, x + 1, y + 1⟩ : R) = c → Calls Tryz.prog 6 #[.agg #[.int .i64 op, .slice ia il ic, .slice pa pl pc], .slice al ll cl, .agg #[.int .i64 x, .int .i64 y, .int .i64 (x + 1), .int .i64 (y + 1)]] W fun e w' => e = .returned (.bool c) ∧ Grows W w') := fun W c g hc => law15_fine op ia il ic is pa pl pc ps al ll cl g5 (⟨x, y, x + 1, y + 1⟩ : R) c W (Lib.hid (ht.out.grows g)) (Lib.hid (hi.out.grows g)) (Lib.hid (hp.out.grows g)) (Lib.hid (hb.out.grows g)) (Lib.hid hc)
  obtain ⟨⟨x1, x2⟩, y1, y2⟩ := hr
  have hwx : IntKind.i64.wrap (x + 1) = x + 1 := IntWalk.i64_in _ (by omega)
  have hwy : IntKind.i64.wrap (y + 1) = y + 1 := IntWalk.i64_in _ (by omega)
  have g1 : ¬ 1000000 < x := by omega
  have g2 : ¬ x < -1000000 := by omega
  have g3 : ¬ 1000000 < y := by omega
  have g4 : ¬ y < -1000000 := by omega
  clear c_F hi hp ht hb
  go_enter Tryz.func4, Tryz.ntmps4
  go_wp2_with (first | (first | (go_at_call 5; refine (awake15 _ ).mono ?_; rintro e w' ⟨rfl, hgw⟩; first | (obtain ⟨gw, rfl⟩ := grows_of_grow hgw) | (obtain ⟨gw, rfl⟩ := hgw))) | (go_at_call 6; (with_reducible refine Calls.mono (HFI.out _ false ?_ CF.out) ?_); (exact (by repeat (first | exact Grows.refl _ | apply Grows.grow | apply Grows.alloc | apply Grows.drew))); rintro e w' ⟨rfl, hgw⟩; first | (obtain ⟨gw, rfl⟩ := grows_of_grow hgw) | (obtain ⟨gw, rfl⟩ := hgw)))
  go_ret
  exact ⟨rfl, (by repeat (first | exact Grows.refl _ | apply Grows.grow | apply Grows.alloc | apply Grows.drew))⟩
set_option maxRecDepth 100000 in
set_option maxHeartbeats 25600000 in
theorem kpoints_a (op : Int) (ia : Option Addr) (il ic : Nat) (is : Nat → Int) (pa : Option Addr) (pl pc : Nat) (ps : Nat → Int) (al : Option Addr) (ll cl : Nat) (g5 : Nat → Bf) (x y : Int) (w : World) (hop : -9223372036854775808 ≤ op ∧ op ≤ 9223372036854775807) (ht : Tabs w) (hi : IsInts w ia il ic is) (hp : IsInts w pa pl pc ps) (hb : IsBufs w al ll cl g5) (hx : -9223372036854775808 ≤ x ∧ x ≤ 9223372036854775807) (hy : -9223372036854775808 ≤ y ∧ y ≤ 9223372036854775807) (h1 : 1000000 < x) :
    Calls Tryz.prog 4 #[.agg #[.int .i64 op, .slice ia il ic, .slice pa pl pc], .slice al ll cl, .int .i64 x, .int .i64 y] w fun e w' => e = .returned (.bool true) ∧ Grows w w' := by
  obtain ⟨x', hwx⟩ : ∃ z, IntKind.i64.wrap (x + 1) = z := ⟨_, rfl⟩
  obtain ⟨y', hwy⟩ : ∃ z, IntKind.i64.wrap (y + 1) = z := ⟨_, rfl⟩
  clear hi hp ht hb
  go_enter Tryz.func4, Tryz.ntmps4
  go_wp2_with (first | (first | (go_at_call 5; refine (awake15 _ ).mono ?_; rintro e w' ⟨rfl, hgw⟩; first | (obtain ⟨gw, rfl⟩ := grows_of_grow hgw) | (obtain ⟨gw, rfl⟩ := hgw))))
  go_ret
  exact ⟨rfl, (by repeat (first | exact Grows.refl _ | apply Grows.grow | apply Grows.alloc | apply Grows.drew))⟩
set_option maxRecDepth 100000 in
set_option maxHeartbeats 25600000 in
theorem kpoints_b (op : Int) (ia : Option Addr) (il ic : Nat) (is : Nat → Int) (pa : Option Addr) (pl pc : Nat) (ps : Nat → Int) (al : Option Addr) (ll cl : Nat) (g5 : Nat → Bf) (x y : Int) (w : World) (hop : -9223372036854775808 ≤ op ∧ op ≤ 9223372036854775807) (ht : Tabs w) (hi : IsInts w ia il ic is) (hp : IsInts w pa pl pc ps) (hb : IsBufs w al ll cl g5) (hx : -9223372036854775808 ≤ x ∧ x ≤ 9223372036854775807) (hy : -9223372036854775808 ≤ y ∧ y ≤ 9223372036854775807) (h1 : ¬ 1000000 < x) (h2 : x < -1000000) :
    Calls Tryz.prog 4 #[.agg #[.int .i64 op, .slice ia il ic, .slice pa pl pc], .slice al ll cl, .int .i64 x, .int .i64 y] w fun e w' => e = .returned (.bool true) ∧ Grows w w' := by
  obtain ⟨x', hwx⟩ : ∃ z, IntKind.i64.wrap (x + 1) = z := ⟨_, rfl⟩
  obtain ⟨y', hwy⟩ : ∃ z, IntKind.i64.wrap (y + 1) = z := ⟨_, rfl⟩
  clear hi hp ht hb
  go_enter Tryz.func4, Tryz.ntmps4
  go_wp2_with (first | (first | (go_at_call 5; refine (awake15 _ ).mono ?_; rintro e w' ⟨rfl, hgw⟩; first | (obtain ⟨gw, rfl⟩ := grows_of_grow hgw) | (obtain ⟨gw, rfl⟩ := hgw))))
  go_ret
  exact ⟨rfl, (by repeat (first | exact Grows.refl _ | apply Grows.grow | apply Grows.alloc | apply Grows.drew))⟩
set_option maxRecDepth 100000 in
set_option maxHeartbeats 25600000 in
theorem kpoints_c (op : Int) (ia : Option Addr) (il ic : Nat) (is : Nat → Int) (pa : Option Addr) (pl pc : Nat) (ps : Nat → Int) (al : Option Addr) (ll cl : Nat) (g5 : Nat → Bf) (x y : Int) (w : World) (hop : -9223372036854775808 ≤ op ∧ op ≤ 9223372036854775807) (ht : Tabs w) (hi : IsInts w ia il ic is) (hp : IsInts w pa pl pc ps) (hb : IsBufs w al ll cl g5) (hx : -9223372036854775808 ≤ x ∧ x ≤ 9223372036854775807) (hy : -9223372036854775808 ≤ y ∧ y ≤ 9223372036854775807) (h1 : ¬ 1000000 < x) (h2 : ¬ x < -1000000) (h3 : 1000000 < y) :
    Calls Tryz.prog 4 #[.agg #[.int .i64 op, .slice ia il ic, .slice pa pl pc], .slice al ll cl, .int .i64 x, .int .i64 y] w fun e w' => e = .returned (.bool true) ∧ Grows w w' := by
  obtain ⟨x', hwx⟩ : ∃ z, IntKind.i64.wrap (x + 1) = z := ⟨_, rfl⟩
  obtain ⟨y', hwy⟩ : ∃ z, IntKind.i64.wrap (y + 1) = z := ⟨_, rfl⟩
  clear hi hp ht hb
  go_enter Tryz.func4, Tryz.ntmps4
  go_wp2_with (first | (first | (go_at_call 5; refine (awake15 _ ).mono ?_; rintro e w' ⟨rfl, hgw⟩; first | (obtain ⟨gw, rfl⟩ := grows_of_grow hgw) | (obtain ⟨gw, rfl⟩ := hgw))))
  go_ret
  exact ⟨rfl, (by repeat (first | exact Grows.refl _ | apply Grows.grow | apply Grows.alloc | apply Grows.drew))⟩
set_option maxRecDepth 100000 in
set_option maxHeartbeats 25600000 in
theorem kpoints_d (op : Int) (ia : Option Addr) (il ic : Nat) (is : Nat → Int) (pa : Option Addr) (pl pc : Nat) (ps : Nat → Int) (al : Option Addr) (ll cl : Nat) (g5 : Nat → Bf) (x y : Int) (w : World) (hop : -9223372036854775808 ≤ op ∧ op ≤ 9223372036854775807) (ht : Tabs w) (hi : IsInts w ia il ic is) (hp : IsInts w pa pl pc ps) (hb : IsBufs w al ll cl g5) (hx : -9223372036854775808 ≤ x ∧ x ≤ 9223372036854775807) (hy : -9223372036854775808 ≤ y ∧ y ≤ 9223372036854775807) (h1 : ¬ 1000000 < x) (h2 : ¬ x < -1000000) (h3 : ¬ 1000000 < y) (h4 : y < -1000000) :
    Calls Tryz.prog 4 #[.agg #[.int .i64 op, .slice ia il ic, .slice pa pl pc], .slice al ll cl, .int .i64 x, .int .i64 y] w fun e w' => e = .returned (.bool true) ∧ Grows w w' := by
  obtain ⟨x', hwx⟩ : ∃ z, IntKind.i64.wrap (x + 1) = z := ⟨_, rfl⟩
  obtain ⟨y', hwy⟩ : ∃ z, IntKind.i64.wrap (y + 1) = z := ⟨_, rfl⟩
  clear hi hp ht hb
  go_enter Tryz.func4, Tryz.ntmps4
  go_wp2_with (first | (first | (go_at_call 5; refine (awake15 _ ).mono ?_; rintro e w' ⟨rfl, hgw⟩; first | (obtain ⟨gw, rfl⟩ := grows_of_grow hgw) | (obtain ⟨gw, rfl⟩ := hgw))))
  go_ret
  exact ⟨rfl, (by repeat (first | exact Grows.refl _ | apply Grows.grow | apply Grows.alloc | apply Grows.drew))⟩
end Go.Proofs.YtklcmlbkhjcaiaaGreatDoor
