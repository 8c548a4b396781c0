/- Lists of numbers that came in; the reference of layer 12: is a node right? -/
import Derived.Test.YtklcmlbkhjcaiaaDoorLaw10A


namespace Go.Proofs.YtklcmlbkhjcaiaaDoor
open Go.RowKit
set_option linter.unusedVariables false

/-- A list of numbers that came in. -/
structure IsInts (w : World) (a : Option Addr) (len cap : Nat) (f : Nat → Int) : Prop where
  le : len ≤ cap
  most : cap ≤ 9223372036854775807
  wf : ∀ i, i < len → -9223372036854775808 ≤ f i ∧ f i ≤ 9223372036854775807
  cells : 0 < len → ∃ b off, a = some ⟨b, off, none⟩ ∧ b < w.heap.size ∧ ∀ i, i < len → w.cell? ⟨b, off + i, none⟩ = some (.int .i64 (f i))
theorem IsInts.grows {w w' : World} {a : Option Addr} {len cap : Nat} {f : Nat → Int} (h : IsInts w a len cap f) (g : Grows w w') : IsInts w' a len cap f :=
  ⟨h.le, h.most, h.wf, fun h0 => by
    obtain ⟨b, off, e, hb, hc⟩ := h.cells h0
    exact ⟨b, off, e, Nat.lt_of_lt_of_le hb g.below.size, fun i hi => (g.below.cell (p := ⟨b, off + i, none⟩) hb).trans (hc i hi)⟩⟩
theorem IsInts.nil (w : World) (f : Nat → Int) : IsInts w none 0 0 f := ⟨by omega, by omega, fun i hi => by omega, fun h => by omega⟩
theorem IsInts.at {w : World} {a : Option Addr} {len cap : Nat} {f : Nat → Int} (h : IsInts w a len cap f) {k : Nat} (hk : k < len) : ∃ b off, a = some ⟨b, off, none⟩ ∧ b < w.heap.size ∧ w.cell? ⟨b, off + k, none⟩ = some (.int .i64 (f k)) := by
  obtain ⟨b, off, e, hb, hc⟩ := h.cells (by omega)
  exact ⟨b, off, e, hb, hc k hk⟩

def NearIs (f : Nat → Int) (lo hi low high : Int) (b : Bool) : Prop := b = true ↔ ∀ i : Nat, lo ≤ i → (i : Int) < hi → low ≤ f i ∧ f i ≤ high
def inB (f : Nat → Int) (lo n : Nat) (low high : Int) : Bool := (List.range n).all fun i => decide (low ≤ f (lo + i)) && decide (f (lo + i) ≤ high)
theorem inB_iff (f : Nat → Int) (lo n : Nat) (low high : Int) : inB f lo n low high = true ↔ ∀ i, i < n → low ≤ f (lo + i) ∧ f (lo + i) ≤ high := by
  simp only [inB, List.all_eq_true, List.mem_range, Bool.and_eq_true, decide_eq_true_eq]
theorem nearIs_in (f : Nat → Int) (lo n : Nat) (low high : Int) {hi lo' : Int} (hl : lo' = lo) (hh : hi = lo + n) : NearIs f lo' hi low high (inB f lo n low high) := by
  subst hl hh
  unfold NearIs
  rw [inB_iff]
  constructor
  · intro h i h1 h2
    have := h (i - lo) (by omega)
    rwa [show lo + (i - lo) = i from by omega] at this
  · intro h i hi
    exact h (lo + i) (by omega) (by omega)
set_option maxRecDepth 100000 in
set_option maxHeartbeats 3200000 in
theorem ref12_near (a : Option Addr) (len cap : Nat) (f : Nat → Int) (lo hi low high : Int) (b : Bool) (w : World) (h : Hid (IsInts w a len cap f)) (h0 : 0 ≤ lo) (h1 : lo ≤ hi) (h2 : hi ≤ len) (hb : Hid (NearIs f lo hi low high b)) :
    Calls Tryd.prog 54 #[.slice a len cap, .int .i64 lo, .int .i64 hi, .int .i64 low, .int .i64 high] w fun e w' => e = .returned (.bool b) ∧ Grows w w' := by
  have m1 := h.out.le
  have m2 := h.out.most
  go_enter Tryd.func54, Tryd.ntmps54
  go_wp2
  go_loopw [11] (fun z wr => ∃ k : Nat, lo ≤ k ∧ (k : Int) ≤ hi ∧ z = .int .i64 k ∧ Hid (Grows w wr ∧ ∀ i : Nat, lo ≤ i → i < k → low ≤ f i ∧ f i ≤ high)) (fun z _ => (hi - intOf z).toNat)
  case atStart => exact ⟨lo.toNat, by omega, by omega, by rw [Int.toNat_of_nonneg h0], (by repeat (first | exact Grows.refl _ | apply Grows.grow | apply Grows.alloc | apply Grows.drew)), fun i hi1 hi2 => by omega⟩
  case round =>
    obtain ⟨k, hk1, hk2, rfl, hh⟩ := hrel
    by_cases hlt : (k : Int) < hi
    · obtain ⟨b', off', rfl, hb', hc⟩ := (h.out.grows hh.out.1).at (k := k) (by omega)
      obtain ⟨v, hv⟩ : ∃ v, v = f k := ⟨_, rfl⟩
      have HV := Lib.hid hv
      rw [← hv] at hc
      clear hv
      by_cases c1 : v < low
      · go_wp2
        have hF : b = false := bool_no fun e => by have := hb.out.1 e k (by omega) (by omega); have := HV.out; omega
        subst hF
        go_ret
        exact ⟨rfl, hh.out.1.trans (by repeat (first | exact Grows.refl _ | apply Grows.grow | apply Grows.alloc | apply Grows.drew))⟩
      · by_cases c2 : high < v
        · go_wp2
          have hF : b = false := bool_no fun e => by have := hb.out.1 e k (by omega) (by omega); have := HV.out; omega
          subst hF
          go_ret
          exact ⟨rfl, hh.out.1.trans (by repeat (first | exact Grows.refl _ | apply Grows.grow | apply Grows.alloc | apply Grows.drew))⟩
        · go_wp2
          go_roundw
          case rel =>
            refine ⟨k + 1, by omega, by omega, by go_num, hh.out.1.trans (by repeat (first | exact Grows.refl _ | apply Grows.grow | apply Grows.alloc | apply Grows.drew)), fun i hi1 hi2 => ?_⟩
            by_cases e : i = k
            · subst e; have := HV.out; omega
            · exact hh.out.2 i hi1 (by omega)
          case measure => simp [intOf]; omega
    · have hT : b = true := hb.out.2 fun i hi1 hi2 => hh.out.2 i hi1 (by omega)
      subst hT
      go_wp2
      go_ret
      exact ⟨rfl, hh.out.1.trans (by repeat (first | exact Grows.refl _ | apply Grows.grow | apply Grows.alloc | apply Grows.drew))⟩
set_option maxRecDepth 100000 in
set_option maxHeartbeats 3200000 in
theorem ref07_RightIs (a : Option Addr) (cap : Nat) (f : Nat → Int) (b : Bool) (w : World) (h : Hid (IsInts w a 20 cap f)) (hb : Hid (NearIs f 0 20 (-32768) 32767 b)) :
    Calls Tryd.prog 77 #[.slice a 20 cap] w fun e w' => e = .returned (.bool b) ∧ Grows w w' := by
  have m1 := h.out.le
  have m2 := h.out.most
  go_enter Tryd.func77, Tryd.ntmps77
  go_wp2
  go_loopw [3] (fun z wr => ∃ k : Nat, k ≤ 20 ∧ z = .int .i64 k ∧ Hid (Grows w wr ∧ ∀ i : Nat, i < k → -32768 ≤ f i ∧ f i ≤ 32767)) (fun z _ => 20 - (intOf z).toNat)
  case atStart => exact ⟨0, by omega, rfl, (by repeat (first | exact Grows.refl _ | apply Grows.grow | apply Grows.alloc | apply Grows.drew)), fun i hi2 => by omega⟩
  case round =>
    obtain ⟨k, hk2, rfl, hh⟩ := hrel
    by_cases hlt : k < 20
    · obtain ⟨b', off', rfl, hb', hc⟩ := (h.out.grows hh.out.1).at (k := k) (by omega)
      obtain ⟨v, hv⟩ : ∃ v, v = f k := ⟨_, rfl⟩
      have HV := Lib.hid hv
      rw [← hv] at hc
      clear hv
      by_cases c1 : v < -32768
      · go_wp2
        have hF : b = false := bool_no fun e => by have := hb.out.1 e k (by omega) (by omega); have := HV.out; omega
        subst hF
        go_ret
        exact ⟨rfl, hh.out.1.trans (by repeat (first | exact Grows.refl _ | apply Grows.grow | apply Grows.alloc | apply Grows.drew))⟩
      · by_cases c2 : 32767 < v
        · go_wp2
          have hF : b = false := bool_no fun e => by have := hb.out.1 e k (by omega) (by omega); have := HV.out; omega
          subst hF
          go_ret
          exact ⟨rfl, hh.out.1.trans (by repeat (first | exact Grows.refl _ | apply Grows.grow | apply Grows.alloc | apply Grows.drew))⟩
        · go_wp2
          go_roundw
          case rel =>
            refine ⟨k + 1, by omega, by go_num, hh.out.1.trans (by repeat (first | exact Grows.refl _ | apply Grows.grow | apply Grows.alloc | apply Grows.drew)), fun i hi2 => ?_⟩
            by_cases e : i = k
            · subst e; have := HV.out; omega
            · exact hh.out.2 i (by omega)
          case measure => simp [intOf]; omega
    · have hT : b = true := hb.out.2 fun i hi1 hi2 => hh.out.2 i (by omega)
      subst hT
      go_wp2
      go_ret
      exact ⟨rfl, hh.out.1.trans (by repeat (first | exact Grows.refl _ | apply Grows.grow | apply Grows.alloc | apply Grows.drew))⟩
def pixB (f : Nat → Int) (o : Nat) : Bool := inB f o 4 0 255 && rightT (f o) (f (o + 1)) (f (o + 2)) (f (o + 3))
def pxO (f : Nat → Int) (o : Nat) : P4 := ⟨f o, f (o + 1), f (o + 2), f (o + 3)⟩
theorem pxO_ok {f : Nat → Int} {o : Nat} (h : inB f o 4 0 255 = true) : okP (pxO f o) := by
  rw [inB_iff] at h
  exact ⟨h 0 (by omega), h 1 (by omega), h 2 (by omega), h 3 (by omega)⟩
set_option maxRecDepth 100000 in
set_option maxHeartbeats 3200000 in
theorem ref12_pixel (a : Option Addr) (len cap : Nat) (f : Nat → Int) (o : Int) (k : Nat) (b : Bool) (w : World) (h : Hid (IsInts w a len cap f)) (ho : o = k) (h2 : k + 4 ≤ len) (hk : k ≤ 1000) (hb : Hid (pixB f k = b)) :
    Calls Tryd.prog 78 #[.slice a len cap, .int .i64 o] w fun e w' => e = .returned (.bool b) ∧ Grows w w' := by
  have m1 := h.out.le
  have m2 := h.out.most
  obtain ⟨b', off', rfl, hb', e0⟩ := h.out.at (k := k) (by omega)
  obtain ⟨b2, off2, e, -, e1⟩ := h.out.at (k := k + 1) (by omega)
  cases e
  obtain ⟨b2, off2, e, -, e2⟩ := h.out.at (k := k + 2) (by omega)
  cases e
  obtain ⟨b2, off2, e, -, e3⟩ := h.out.at (k := k + 3) (by omega)
  cases e
  subst ho
  have HN := Lib.hid (nearIs_in f k 4 0 255 (lo' := k) (hi := k + 4) rfl rfl)
  unfold pixB at hb
  cases c : inB f k 4 0 255
  · rw [c] at HN hb
    have hF : false = b := hb.out
    subst hF
    clear hb c
    go_enter Tryd.func78, Tryd.ntmps78
    go_wp2
    first | refine region_grow2 (by kernel_rfl) (by kernel_rfl) ?_ | refine region_grow (by kernel_rfl) (by kernel_rfl) ?_
    repeat (go_big_quiet_step ((first | (go_at_call 54; exact grow_of (ref12_near _ _ _ _ _ _ _ _ _ _ (Lib.hid (IsInts.grows h.out (by repeat (first | exact Grows.refl _ | apply Grows.grow | apply Grows.alloc | apply Grows.drew)))) (by omega) (by omega) (by omega) HN)))))
    refine wpQuiet_nil ?_
    rintro _ ⟨gr, rfl⟩
    go_wp2
    go_ret
    exact ⟨rfl, (by repeat (first | exact Grows.refl _ | apply Grows.grow | apply Grows.alloc | apply Grows.drew))⟩
  · rw [c] at HN hb
    have hR : Hid (rightT (f k) (f (k + 1)) (f (k + 2)) (f (k + 3)) = b) := hb.out
    have ok := pxO_ok c
    obtain ⟨⟨o0, o0'⟩, ⟨o1, o1'⟩, ⟨o2, o2'⟩, ⟨o3, o3'⟩⟩ : ((0 ≤ f k ∧ f k ≤ 255) ∧ (0 ≤ f (k + 1) ∧ f (k + 1) ≤ 255) ∧ (0 ≤ f (k + 2) ∧ f (k + 2) ≤ 255) ∧ (0 ≤ f (k + 3) ∧ f (k + 3) ≤ 255)) := ok
    obtain ⟨v0, hv0⟩ : ∃ v, v = f k := ⟨_, rfl⟩
    obtain ⟨v1, hv1⟩ : ∃ v, v = f (k + 1) := ⟨_, rfl⟩
    obtain ⟨v2, hv2⟩ : ∃ v, v = f (k + 2) := ⟨_, rfl⟩
    obtain ⟨v3, hv3⟩ : ∃ v, v = f (k + 3) := ⟨_, rfl⟩
    rw [← hv0] at e0 o0 o0' hR
    rw [← hv1] at e1 o1 o1' hR
    rw [← hv2] at e2 o2 o2' hR
    rw [← hv3] at e3 o3 o3' hR
    clear hb c hv0 hv1 hv2 hv3
    go_enter Tryd.func78, Tryd.ntmps78
    go_wp2
    first | refine region_grow2 (by kernel_rfl) (by kernel_rfl) ?_ | refine region_grow (by kernel_rfl) (by kernel_rfl) ?_
    repeat (go_big_quiet_step ((first | (go_at_call 54; exact grow_of (ref12_near _ _ _ _ _ _ _ _ _ _ (Lib.hid (IsInts.grows h.out (by repeat (first | exact Grows.refl _ | apply Grows.grow | apply Grows.alloc | apply Grows.drew)))) (by omega) (by omega) (by omega) HN)) | (go_at_call 15; exact grow_of (ref01_rightIs ⟨v0, v1, v2, v3⟩ _ _ ⟨⟨by omega, by omega⟩, ⟨by omega, by omega⟩, ⟨by omega, by omega⟩, ⟨by omega, by omega⟩⟩ hR.out)))))
    refine wpQuiet_nil ?_
    rintro _ ⟨gr, rfl⟩
    go_wp2
    go_ret
    exact ⟨rfl, (by repeat (first | exact Grows.refl _ | apply Grows.grow | apply Grows.alloc | apply Grows.drew))⟩
end Go.Proofs.YtklcmlbkhjcaiaaDoor
/- The reference of layer 12: what a kind asks for; whether a node is right. -/

namespace Go.Proofs.YtklcmlbkhjcaiaaDoor
open Go.RowKit
set_option linter.unusedVariables false

/-- Whether the numbers of a node of a kind are within bounds. -/
def bndB (op : Int) (p : Nat → Int) : Bool :=
  if op = 1 then inB p 0 2 (-1048576) 1048576
  else if op = 2 ∨ op = 3 ∨ op = 4 then inB p 0 2 0 255
  else if op = 5 then inB p 0 20 (-32768) 32767
  else if op = 6 then pixB p 0 && inB p 4 4 (-1048576) 1048576
  else if op = 7 then inB p 0 1 0 6
  else if op = 8 then inB p 0 1 0 5
  else if op = 10 then inB p 0 4 (-1048576) 1048576 && (decide (p 0 < p 2) && (decide (p 1 < p 3) && (decide (p 2 - p 0 ≤ 4096) && decide (p 3 - p 1 ≤ 4096))))
  else if op = 11 then inB p 0 2 (-1048576) 1048576 && (inB p 2 2 0 255 && pixB p 4)
  else if op = 12 then inB p 0 4 (-1048576) 1048576
  else true
def lstT : List Int := [0, 1, 1, 1, 1, 1, 0, 2, 2, 1, 1, 1, 1]
def mstT : List Int := [0, 1, 1, 1, 1, 1, 0, 2, 2, 8, 1, 1, 1]
def prmT : List Int := [0, 2, 2, 2, 2, 20, 8, 1, 1, 0, 4, 8, 4]
def prmN (op : Int) : Int := prmT.getD op.toNat 0
/-- The three tables of the reference, as the program's text lays them. -/
structure Tabs (w : World) : Prop where
  lt : 0 < w.heap.size ∧ 1 < w.heap.size ∧ 2 < w.heap.size
  least : ∀ i, i < 13 → w.cell? ⟨0, i, none⟩ = some (.int .i64 (lstT.getD i 0))
  most : ∀ i, i < 13 → w.cell? ⟨1, i, none⟩ = some (.int .i64 (mstT.getD i 0))
  params : ∀ i, i < 13 → w.cell? ⟨2, i, none⟩ = some (.int .i64 (prmT.getD i 0))
theorem Tabs.grows {w w' : World} (h : Tabs w) (g : Grows w w') : Tabs w' := by
  have s := g.below.size
  refine ⟨⟨by have := h.lt.1; omega, by have := h.lt.2.1; omega, by have := h.lt.2.2; omega⟩, fun i hi => ?_, fun i hi => ?_, fun i hi => ?_⟩
  · exact (g.below.cell (p := ⟨_, i, none⟩) h.lt.1).trans (h.least i hi)
  · exact (g.below.cell (p := ⟨_, i, none⟩) h.lt.2.1).trans (h.most i hi)
  · exact (g.below.cell (p := ⟨_, i, none⟩) h.lt.2.2).trans (h.params i hi)
/-- Whether a node may be, among so many. -/
def oneB (op : Int) (il : Nat) (is : Nat → Int) (pl : Nat) (p : Nat → Int) (count : Int) : Bool :=
  decide (1 ≤ op ∧ op ≤ 12) && (decide (lstT.getD op.toNat 0 ≤ il ∧ (il : Int) ≤ mstT.getD op.toNat 0 ∧ (pl : Int) = prmT.getD op.toNat 0) && (inB is 0 il (-1) (count - 1) && bndB op p))

theorem results_tmp4 {fn : Func} {t u v x : Tmp} (h : fn.results = #[.tmp t, .tmp u, .tmp v, .tmp x]) (tmps : Array Value) (P : Program) (w : World) :
    (results fn tmps).run P w = .ok (.tuple #[tmps.getD t undef, tmps.getD u undef, tmps.getD v undef, tmps.getD x undef]) w := by
  simp [results, h]
set_option maxRecDepth 100000 in
set_option maxHeartbeats 12800000 in
theorem ref12_Bounds (op : Int) (ia : Option Addr) (il ic : Nat) (pa : Option Addr) (pl pc : Nat) (p : Nat → Int) (b : Bool) (w : World) (h : Hid (IsInts w pa pl pc p)) (hop : 1 ≤ op ∧ op ≤ 12) (hl : (pl : Int) = prmN op) (hb : bndB op p = b) :
    Calls Tryd.prog 55 #[.agg #[.int .i64 op, .slice ia il ic, .slice pa pl pc]] w fun e w' => e = .returned (.bool b) ∧ Grows w w' := by
  have m1 := h.out.le
  have m2 := h.out.most
  have hc : op = 1 ∨ op = 2 ∨ op = 3 ∨ op = 4 ∨ op = 5 ∨ op = 6 ∨ op = 7 ∨ op = 8 ∨ op = 9 ∨ op = 10 ∨ op = 11 ∨ op = 12 := by omega
  rcases hc with rfl | rfl | rfl | rfl | rfl | rfl | rfl | rfl | rfl | rfl | rfl | rfl
  · obtain rfl : pl = 2 := by have : prmN 1 = 2 := (by decide); omega
    have HN : Hid (NearIs p 0 2 (-1048576) 1048576 b) := by rw [← hb]; exact nearIs_in p 0 2 (-1048576) 1048576 rfl rfl
    clear hb hop hl
    go_enter Tryd.func55, Tryd.ntmps55
    go_wp2_with ((first | (go_at_call 54; (with_reducible refine (ref12_near _ _ _ _ _ _ _ _ _ _ (Lib.hid (IsInts.grows h.out (by repeat (first | exact Grows.refl _ | apply Grows.grow | apply Grows.alloc | apply Grows.drew)))) (by omega) (by omega) (by omega) HN).mono ?_); rintro e w' ⟨rfl, hgw⟩; first | (obtain ⟨gw, rfl⟩ := grows_of_grow hgw) | (obtain ⟨gw, rfl⟩ := hgw))))
    go_ret
    exact ⟨rfl, (by repeat (first | exact Grows.refl _ | apply Grows.grow | apply Grows.alloc | apply Grows.drew))⟩
  · obtain rfl : pl = 2 := by have : prmN 2 = 2 := (by decide); omega
    have HN : Hid (NearIs p 0 2 (0) 255 b) := by rw [← hb]; exact nearIs_in p 0 2 (0) 255 rfl rfl
    clear hb hop hl
    go_enter Tryd.func55, Tryd.ntmps55
    go_wp2_with ((first | (go_at_call 54; (with_reducible refine (ref12_near _ _ _ _ _ _ _ _ _ _ (Lib.hid (IsInts.grows h.out (by repeat (first | exact Grows.refl _ | apply Grows.grow | apply Grows.alloc | apply Grows.drew)))) (by omega) (by omega) (by omega) HN).mono ?_); rintro e w' ⟨rfl, hgw⟩; first | (obtain ⟨gw, rfl⟩ := grows_of_grow hgw) | (obtain ⟨gw, rfl⟩ := hgw))))
    go_ret
    exact ⟨rfl, (by repeat (first | exact Grows.refl _ | apply Grows.grow | apply Grows.alloc | apply Grows.drew))⟩
  · obtain rfl : pl = 2 := by have : prmN 3 = 2 := (by decide); omega
    have HN : Hid (NearIs p 0 2 (0) 255 b) := by rw [← hb]; exact nearIs_in p 0 2 (0) 255 rfl rfl
    clear hb hop hl
    go_enter Tryd.func55, Tryd.ntmps55
    go_wp2_with ((first | (go_at_call 54; (with_reducible refine (ref12_near _ _ _ _ _ _ _ _ _ _ (Lib.hid (IsInts.grows h.out (by repeat (first | exact Grows.refl _ | apply Grows.grow | apply Grows.alloc | apply Grows.drew)))) (by omega) (by omega) (by omega) HN).mono ?_); rintro e w' ⟨rfl, hgw⟩; first | (obtain ⟨gw, rfl⟩ := grows_of_grow hgw) | (obtain ⟨gw, rfl⟩ := hgw))))
    go_ret
    exact ⟨rfl, (by repeat (first | exact Grows.refl _ | apply Grows.grow | apply Grows.alloc | apply Grows.drew))⟩
  · obtain rfl : pl = 2 := by have : prmN 4 = 2 := (by decide); omega
    have HN : Hid (NearIs p 0 2 (0) 255 b) := by rw [← hb]; exact nearIs_in p 0 2 (0) 255 rfl rfl
    clear hb hop hl
    go_enter Tryd.func55, Tryd.ntmps55
    go_wp2_with ((first | (go_at_call 54; (with_reducible refine (ref12_near _ _ _ _ _ _ _ _ _ _ (Lib.hid (IsInts.grows h.out (by repeat (first | exact Grows.refl _ | apply Grows.grow | apply Grows.alloc | apply Grows.drew)))) (by omega) (by omega) (by omega) HN).mono ?_); rintro e w' ⟨rfl, hgw⟩; first | (obtain ⟨gw, rfl⟩ := grows_of_grow hgw) | (obtain ⟨gw, rfl⟩ := hgw))))
    go_ret
    exact ⟨rfl, (by repeat (first | exact Grows.refl _ | apply Grows.grow | apply Grows.alloc | apply Grows.drew))⟩
  · obtain rfl : pl = 20 := by have : prmN 5 = 20 := (by decide); omega
    have HN : Hid (NearIs p 0 20 (-32768) 32767 b) := by rw [← hb]; exact nearIs_in p 0 20 (-32768) 32767 rfl rfl
    clear hb hop hl
    go_enter Tryd.func55, Tryd.ntmps55
    go_wp2_with ((first | (go_at_call 77; (with_reducible refine (ref07_RightIs _ _ _ _ _ (Lib.hid (IsInts.grows h.out (by repeat (first | exact Grows.refl _ | apply Grows.grow | apply Grows.alloc | apply Grows.drew)))) HN).mono ?_); rintro e w' ⟨rfl, hgw⟩; first | (obtain ⟨gw, rfl⟩ := grows_of_grow hgw) | (obtain ⟨gw, rfl⟩ := hgw))))
    go_ret
    exact ⟨rfl, (by repeat (first | exact Grows.refl _ | apply Grows.grow | apply Grows.alloc | apply Grows.drew))⟩
  · obtain rfl : pl = 8 := by have : prmN 6 = 8 := (by decide); omega
    have hb' : (pixB p 0 && inB p 4 4 (-1048576) 1048576) = b := hb
    have HN := Lib.hid (nearIs_in p 4 4 (-1048576) 1048576 (lo' := 4) (hi := 8) rfl rfl)
    cases c : pixB p 0
    · have HP := Lib.hid c
      rw [c] at hb'
      have hF : false = b := hb'
      subst hF
      clear hb hb' c hop hl
      go_enter Tryd.func55, Tryd.ntmps55
      go_wp2_with ((first | (go_at_call 78; (with_reducible refine (ref12_pixel _ _ _ _ _ 0 _ _ (Lib.hid (IsInts.grows h.out (by repeat (first | exact Grows.refl _ | apply Grows.grow | apply Grows.alloc | apply Grows.drew)))) (by omega) (by omega) (by omega) HP).mono ?_); rintro e w' ⟨rfl, hgw⟩; first | (obtain ⟨gw, rfl⟩ := grows_of_grow hgw) | (obtain ⟨gw, rfl⟩ := hgw)) | (go_at_call 54; (with_reducible refine (ref12_near _ _ _ _ _ _ _ _ _ _ (Lib.hid (IsInts.grows h.out (by repeat (first | exact Grows.refl _ | apply Grows.grow | apply Grows.alloc | apply Grows.drew)))) (by omega) (by omega) (by omega) HN).mono ?_); rintro e w' ⟨rfl, hgw⟩; first | (obtain ⟨gw, rfl⟩ := grows_of_grow hgw) | (obtain ⟨gw, rfl⟩ := hgw))))
      go_ret
      exact ⟨rfl, (by repeat (first | exact Grows.refl _ | apply Grows.grow | apply Grows.alloc | apply Grows.drew))⟩
    · have HP := Lib.hid c
      rw [c] at hb'
      have hF : inB p 4 4 (-1048576) 1048576 = b := hb'
      rw [hF] at HN
      clear hb hb' c hop hl hF
      go_enter Tryd.func55, Tryd.ntmps55
      go_wp2_with ((first | (go_at_call 78; (with_reducible refine (ref12_pixel _ _ _ _ _ 0 _ _ (Lib.hid (IsInts.grows h.out (by repeat (first | exact Grows.refl _ | apply Grows.grow | apply Grows.alloc | apply Grows.drew)))) (by omega) (by omega) (by omega) HP).mono ?_); rintro e w' ⟨rfl, hgw⟩; first | (obtain ⟨gw, rfl⟩ := grows_of_grow hgw) | (obtain ⟨gw, rfl⟩ := hgw)) | (go_at_call 54; (with_reducible refine (ref12_near _ _ _ _ _ _ _ _ _ _ (Lib.hid (IsInts.grows h.out (by repeat (first | exact Grows.refl _ | apply Grows.grow | apply Grows.alloc | apply Grows.drew)))) (by omega) (by omega) (by omega) HN).mono ?_); rintro e w' ⟨rfl, hgw⟩; first | (obtain ⟨gw, rfl⟩ := grows_of_grow hgw) | (obtain ⟨gw, rfl⟩ := hgw))))
      go_ret
      exact ⟨rfl, (by repeat (first | exact Grows.refl _ | apply Grows.grow | apply Grows.alloc | apply Grows.drew))⟩
  · obtain rfl : pl = 1 := by have : prmN 7 = 1 := (by decide); omega
    have HN : Hid (NearIs p 0 1 (0) 6 b) := by rw [← hb]; exact nearIs_in p 0 1 (0) 6 rfl rfl
    clear hb hop hl
    go_enter Tryd.func55, Tryd.ntmps55
    go_wp2_with ((first | (go_at_call 54; (with_reducible refine (ref12_near _ _ _ _ _ _ _ _ _ _ (Lib.hid (IsInts.grows h.out (by repeat (first | exact Grows.refl _ | apply Grows.grow | apply Grows.alloc | apply Grows.drew)))) (by omega) (by omega) (by omega) HN).mono ?_); rintro e w' ⟨rfl, hgw⟩; first | (obtain ⟨gw, rfl⟩ := grows_of_grow hgw) | (obtain ⟨gw, rfl⟩ := hgw))))
    go_ret
    exact ⟨rfl, (by repeat (first | exact Grows.refl _ | apply Grows.grow | apply Grows.alloc | apply Grows.drew))⟩
  · obtain rfl : pl = 1 := by have : prmN 8 = 1 := (by decide); omega
    have HN : Hid (NearIs p 0 1 (0) 5 b) := by rw [← hb]; exact nearIs_in p 0 1 (0) 5 rfl rfl
    clear hb hop hl
    go_enter Tryd.func55, Tryd.ntmps55
    go_wp2_with ((first | (go_at_call 54; (with_reducible refine (ref12_near _ _ _ _ _ _ _ _ _ _ (Lib.hid (IsInts.grows h.out (by repeat (first | exact Grows.refl _ | apply Grows.grow | apply Grows.alloc | apply Grows.drew)))) (by omega) (by omega) (by omega) HN).mono ?_); rintro e w' ⟨rfl, hgw⟩; first | (obtain ⟨gw, rfl⟩ := grows_of_grow hgw) | (obtain ⟨gw, rfl⟩ := hgw))))
    go_ret
    exact ⟨rfl, (by repeat (first | exact Grows.refl _ | apply Grows.grow | apply Grows.alloc | apply Grows.drew))⟩
  · obtain rfl : pl = 0 := by have : prmN 9 = 0 := (by decide); omega
    have hT : true = b := hb
    subst hT
    clear hb hop hl
    go_enter Tryd.func55, Tryd.ntmps55
    go_wp2
    go_ret
    exact ⟨rfl, (by repeat (first | exact Grows.refl _ | apply Grows.grow | apply Grows.alloc | apply Grows.drew))⟩
  · obtain rfl : pl = 4 := by have : prmN 10 = 4 := (by decide); omega
    have hb' : (inB p 0 4 (-1048576) 1048576 && (decide (p 0 < p 2) && (decide (p 1 < p 3) && (decide (p 2 - p 0 ≤ 4096) && decide (p 3 - p 1 ≤ 4096))))) = b := hb
    have HN := Lib.hid (nearIs_in p 0 4 (-1048576) 1048576 (lo' := 0) (hi := 4) rfl rfl)
    obtain ⟨b', off', rfl, hb1, e0⟩ := h.out.at (k := 0) (by omega)
    obtain ⟨b2, off2, e, -, e1⟩ := h.out.at (k := 1) (by omega)
    cases e
    obtain ⟨b2, off2, e, -, e2⟩ := h.out.at (k := 2) (by omega)
    cases e
    obtain ⟨b2, off2, e, -, e3⟩ := h.out.at (k := 3) (by omega)
    cases e
    cases c : inB p 0 4 (-1048576) 1048576
    · rw [c] at HN hb'
      have hF : false = b := hb'
      subst hF
      clear hb hb' c hop hl
      go_enter Tryd.func55, Tryd.ntmps55
      go_wp2
      first | refine region_grow2 (by kernel_rfl) (by kernel_rfl) ?_ | refine region_grow (by kernel_rfl) (by kernel_rfl) ?_
      repeat (go_big_quiet_step ((first | (go_at_call 54; exact grow_of (ref12_near _ _ _ _ _ _ _ _ _ _ (Lib.hid (IsInts.grows h.out (by repeat (first | exact Grows.refl _ | apply Grows.grow | apply Grows.alloc | apply Grows.drew)))) (by omega) (by omega) (by omega) HN)))))
      refine wpQuiet_nil ?_
      rintro _ ⟨gr, rfl⟩
      go_wp2
      go_ret
      exact ⟨rfl, (by repeat (first | exact Grows.refl _ | apply Grows.grow | apply Grows.alloc | apply Grows.drew))⟩
    · rw [c] at HN hb'
      have k0 := (inB_iff ..).1 c
      have q0 := k0 0 (by omega)
      have q1 := k0 1 (by omega)
      have q2 := k0 2 (by omega)
      have q3 := k0 3 (by omega)
      simp only [Nat.zero_add] at q0 q1 q2 q3
      clear k0
      obtain ⟨v0, hv0⟩ : ∃ v, v = p 0 := ⟨_, rfl⟩
      obtain ⟨v1, hv1⟩ : ∃ v, v = p 1 := ⟨_, rfl⟩
      obtain ⟨v2, hv2⟩ : ∃ v, v = p 2 := ⟨_, rfl⟩
      obtain ⟨v3, hv3⟩ : ∃ v, v = p 3 := ⟨_, rfl⟩
      rw [← hv0, ← hv1, ← hv2, ← hv3] at hb'
      rw [← hv0] at e0 q0
      rw [← hv1] at e1 q1
      rw [← hv2] at e2 q2
      rw [← hv3] at e3 q3
      simp only [Nat.add_zero] at e0
      have hw1 : IntKind.i64.wrap (v2 - v0) = v2 - v0 := IntWalk.i64_in _ (by omega)
      have hw2 : IntKind.i64.wrap (v3 - v1) = v3 - v1 := IntWalk.i64_in _ (by omega)
      clear hb c hv0 hv1 hv2 hv3 hop hl
      by_cases t1 : v0 < v2
      case neg =>
        have hF : false = b := by rw [← hb']; simp [t1]
        subst hF
        have dt1 : decide (v0 < v2) = false := decide_eq_false t1
        clear hb'
        go_enter Tryd.func55, Tryd.ntmps55
        go_wp2
        first | refine region_grow2 (by kernel_rfl) (by kernel_rfl) ?_ | refine region_grow (by kernel_rfl) (by kernel_rfl) ?_
        repeat (go_big_quiet_step ((first | (go_at_call 54; exact grow_of (ref12_near _ _ _ _ _ _ _ _ _ _ (Lib.hid (IsInts.grows h.out (by repeat (first | exact Grows.refl _ | apply Grows.grow | apply Grows.alloc | apply Grows.drew)))) (by omega) (by omega) (by omega) HN)))))
        refine wpQuiet_nil ?_
        rintro _ ⟨gr, rfl⟩
        go_wp2
        go_ret
        exact ⟨rfl, (by repeat (first | exact Grows.refl _ | apply Grows.grow | apply Grows.alloc | apply Grows.drew))⟩
      by_cases t2 : v1 < v3
      case neg =>
        have hF : false = b := by rw [← hb']; simp [t1, t2]
        subst hF
        have dt2 : decide (v1 < v3) = false := decide_eq_false t2
        clear hb'
        go_enter Tryd.func55, Tryd.ntmps55
        go_wp2
        first | refine region_grow2 (by kernel_rfl) (by kernel_rfl) ?_ | refine region_grow (by kernel_rfl) (by kernel_rfl) ?_
        repeat (go_big_quiet_step ((first | (go_at_call 54; exact grow_of (ref12_near _ _ _ _ _ _ _ _ _ _ (Lib.hid (IsInts.grows h.out (by repeat (first | exact Grows.refl _ | apply Grows.grow | apply Grows.alloc | apply Grows.drew)))) (by omega) (by omega) (by omega) HN)))))
        refine wpQuiet_nil ?_
        rintro _ ⟨gr, rfl⟩
        go_wp2
        go_ret
        exact ⟨rfl, (by repeat (first | exact Grows.refl _ | apply Grows.grow | apply Grows.alloc | apply Grows.drew))⟩
      by_cases t3 : v2 - v0 ≤ 4096
      case neg =>
        have hF : false = b := by rw [← hb']; simp [t1, t2, t3]
        subst hF
        have dt3 : decide (v2 - v0 ≤ 4096) = false := decide_eq_false t3
        clear hb'
        go_enter Tryd.func55, Tryd.ntmps55
        go_wp2
        first | refine region_grow2 (by kernel_rfl) (by kernel_rfl) ?_ | refine region_grow (by kernel_rfl) (by kernel_rfl) ?_
        repeat (go_big_quiet_step ((first | (go_at_call 54; exact grow_of (ref12_near _ _ _ _ _ _ _ _ _ _ (Lib.hid (IsInts.grows h.out (by repeat (first | exact Grows.refl _ | apply Grows.grow | apply Grows.alloc | apply Grows.drew)))) (by omega) (by omega) (by omega) HN)))))
        refine wpQuiet_nil ?_
        rintro _ ⟨gr, rfl⟩
        go_wp2
        go_ret
        exact ⟨rfl, (by repeat (first | exact Grows.refl _ | apply Grows.grow | apply Grows.alloc | apply Grows.drew))⟩
      by_cases t4 : v3 - v1 ≤ 4096
      case neg =>
        have hF : false = b := by rw [← hb']; simp [t1, t2, t3, t4]
        subst hF
        have dt4 : decide (v3 - v1 ≤ 4096) = false := decide_eq_false t4
        clear hb'
        go_enter Tryd.func55, Tryd.ntmps55
        go_wp2
        first | refine region_grow2 (by kernel_rfl) (by kernel_rfl) ?_ | refine region_grow (by kernel_rfl) (by kernel_rfl) ?_
        repeat (go_big_quiet_step ((first | (go_at_call 54; exact grow_of (ref12_near _ _ _ _ _ _ _ _ _ _ (Lib.hid (IsInts.grows h.out (by repeat (first | exact Grows.refl _ | apply Grows.grow | apply Grows.alloc | apply Grows.drew)))) (by omega) (by omega) (by omega) HN)))))
        refine wpQuiet_nil ?_
        rintro _ ⟨gr, rfl⟩
        go_wp2
        go_ret
        exact ⟨rfl, (by repeat (first | exact Grows.refl _ | apply Grows.grow | apply Grows.alloc | apply Grows.drew))⟩
      have hT : true = b := by rw [← hb']; simp [t1, t2, t3, t4]
      subst hT
      clear hb'
      go_enter Tryd.func55, Tryd.ntmps55
      go_wp2
      first | refine region_grow2 (by kernel_rfl) (by kernel_rfl) ?_ | refine region_grow (by kernel_rfl) (by kernel_rfl) ?_
      repeat (go_big_quiet_step ((first | (go_at_call 54; exact grow_of (ref12_near _ _ _ _ _ _ _ _ _ _ (Lib.hid (IsInts.grows h.out (by repeat (first | exact Grows.refl _ | apply Grows.grow | apply Grows.alloc | apply Grows.drew)))) (by omega) (by omega) (by omega) HN)))))
      refine wpQuiet_nil ?_
      rintro _ ⟨gr, rfl⟩
      go_wp2
      go_ret
      exact ⟨rfl, (by repeat (first | exact Grows.refl _ | apply Grows.grow | apply Grows.alloc | apply Grows.drew))⟩
  · obtain rfl : pl = 8 := by have : prmN 11 = 8 := (by decide); omega
    have hb' : (inB p 0 2 (-1048576) 1048576 && (inB p 2 2 0 255 && pixB p 4)) = b := hb
    have HN := Lib.hid (nearIs_in p 0 2 (-1048576) 1048576 (lo' := 0) (hi := 2) rfl rfl)
    have HN2 := Lib.hid (nearIs_in p 2 2 0 255 (lo' := 2) (hi := 4) rfl rfl)
    cases c : inB p 0 2 (-1048576) 1048576
    · rw [c] at HN hb'
      have hF : false = b := hb'
      subst hF
      clear hb hb' c hop hl
      go_enter Tryd.func55, Tryd.ntmps55
      go_wp2_with ((first | (go_at_call 54; (with_reducible refine (ref12_near _ _ _ _ _ _ _ _ _ _ (Lib.hid (IsInts.grows h.out (by repeat (first | exact Grows.refl _ | apply Grows.grow | apply Grows.alloc | apply Grows.drew)))) (by omega) (by omega) (by omega) HN).mono ?_); rintro e w' ⟨rfl, hgw⟩; first | (obtain ⟨gw, rfl⟩ := grows_of_grow hgw) | (obtain ⟨gw, rfl⟩ := hgw)) | (go_at_call 54; (with_reducible refine (ref12_near _ _ _ _ _ _ _ _ _ _ (Lib.hid (IsInts.grows h.out (by repeat (first | exact Grows.refl _ | apply Grows.grow | apply Grows.alloc | apply Grows.drew)))) (by omega) (by omega) (by omega) HN2).mono ?_); rintro e w' ⟨rfl, hgw⟩; first | (obtain ⟨gw, rfl⟩ := grows_of_grow hgw) | (obtain ⟨gw, rfl⟩ := hgw)) | (go_at_call 78; (with_reducible refine (ref12_pixel _ _ _ _ _ 4 _ _ (Lib.hid (IsInts.grows h.out (by repeat (first | exact Grows.refl _ | apply Grows.grow | apply Grows.alloc | apply Grows.drew)))) (by omega) (by omega) (by omega) HP2).mono ?_); rintro e w' ⟨rfl, hgw⟩; first | (obtain ⟨gw, rfl⟩ := grows_of_grow hgw) | (obtain ⟨gw, rfl⟩ := hgw))))
      go_ret
      exact ⟨rfl, (by repeat (first | exact Grows.refl _ | apply Grows.grow | apply Grows.alloc | apply Grows.drew))⟩
    rw [c] at HN hb'
    cases c2 : inB p 2 2 0 255
    · rw [c2] at HN2 hb'
      have hF : false = b := hb'
      subst hF
      clear hb hb' c c2 hop hl
      go_enter Tryd.func55, Tryd.ntmps55
      go_wp2_with ((first | (go_at_call 54; (with_reducible refine (ref12_near _ _ _ _ _ _ _ _ _ _ (Lib.hid (IsInts.grows h.out (by repeat (first | exact Grows.refl _ | apply Grows.grow | apply Grows.alloc | apply Grows.drew)))) (by omega) (by omega) (by omega) HN).mono ?_); rintro e w' ⟨rfl, hgw⟩; first | (obtain ⟨gw, rfl⟩ := grows_of_grow hgw) | (obtain ⟨gw, rfl⟩ := hgw)) | (go_at_call 54; (with_reducible refine (ref12_near _ _ _ _ _ _ _ _ _ _ (Lib.hid (IsInts.grows h.out (by repeat (first | exact Grows.refl _ | apply Grows.grow | apply Grows.alloc | apply Grows.drew)))) (by omega) (by omega) (by omega) HN2).mono ?_); rintro e w' ⟨rfl, hgw⟩; first | (obtain ⟨gw, rfl⟩ := grows_of_grow hgw) | (obtain ⟨gw, rfl⟩ := hgw)) | (go_at_call 78; (with_reducible refine (ref12_pixel _ _ _ _ _ 4 _ _ (Lib.hid (IsInts.grows h.out (by repeat (first | exact Grows.refl _ | apply Grows.grow | apply Grows.alloc | apply Grows.drew)))) (by omega) (by omega) (by omega) HP2).mono ?_); rintro e w' ⟨rfl, hgw⟩; first | (obtain ⟨gw, rfl⟩ := grows_of_grow hgw) | (obtain ⟨gw, rfl⟩ := hgw))))
      go_ret
      exact ⟨rfl, (by repeat (first | exact Grows.refl _ | apply Grows.grow | apply Grows.alloc | apply Grows.drew))⟩
    · rw [c2] at HN2 hb'
      have HP2 : Hid (pixB p 4 = b) := hb'
      clear hb hb' c c2 hop hl
      go_enter Tryd.func55, Tryd.ntmps55
      go_wp2_with ((first | (go_at_call 54; (with_reducible refine (ref12_near _ _ _ _ _ _ _ _ _ _ (Lib.hid (IsInts.grows h.out (by repeat (first | exact Grows.refl _ | apply Grows.grow | apply Grows.alloc | apply Grows.drew)))) (by omega) (by omega) (by omega) HN).mono ?_); rintro e w' ⟨rfl, hgw⟩; first | (obtain ⟨gw, rfl⟩ := grows_of_grow hgw) | (obtain ⟨gw, rfl⟩ := hgw)) | (go_at_call 54; (with_reducible refine (ref12_near _ _ _ _ _ _ _ _ _ _ (Lib.hid (IsInts.grows h.out (by repeat (first | exact Grows.refl _ | apply Grows.grow | apply Grows.alloc | apply Grows.drew)))) (by omega) (by omega) (by omega) HN2).mono ?_); rintro e w' ⟨rfl, hgw⟩; first | (obtain ⟨gw, rfl⟩ := grows_of_grow hgw) | (obtain ⟨gw, rfl⟩ := hgw)) | (go_at_call 78; (with_reducible refine (ref12_pixel _ _ _ _ _ 4 _ _ (Lib.hid (IsInts.grows h.out (by repeat (first | exact Grows.refl _ | apply Grows.grow | apply Grows.alloc | apply Grows.drew)))) (by omega) (by omega) (by omega) HP2).mono ?_); rintro e w' ⟨rfl, hgw⟩; first | (obtain ⟨gw, rfl⟩ := grows_of_grow hgw) | (obtain ⟨gw, rfl⟩ := hgw))))
      go_ret
      exact ⟨rfl, (by repeat (first | exact Grows.refl _ | apply Grows.grow | apply Grows.alloc | apply Grows.drew))⟩
  · obtain rfl : pl = 4 := by have : prmN 12 = 4 := (by decide); omega
    have HN : Hid (NearIs p 0 4 (-1048576) 1048576 b) := by rw [← hb]; exact nearIs_in p 0 4 (-1048576) 1048576 rfl rfl
    clear hb hop hl
    go_enter Tryd.func55, Tryd.ntmps55
    go_wp2_with ((first | (go_at_call 54; (with_reducible refine (ref12_near _ _ _ _ _ _ _ _ _ _ (Lib.hid (IsInts.grows h.out (by repeat (first | exact Grows.refl _ | apply Grows.grow | apply Grows.alloc | apply Grows.drew)))) (by omega) (by omega) (by omega) HN).mono ?_); rintro e w' ⟨rfl, hgw⟩; first | (obtain ⟨gw, rfl⟩ := grows_of_grow hgw) | (obtain ⟨gw, rfl⟩ := hgw))))
    go_ret
    exact ⟨rfl, (by repeat (first | exact Grows.refl _ | apply Grows.grow | apply Grows.alloc | apply Grows.drew))⟩
set_option maxRecDepth 100000 in
set_option maxHeartbeats 3200000 in
theorem ref12_Arity (k : Nat) (w : World) (h : Hid (Tabs w)) (hop : 1 ≤ k ∧ k ≤ 12) :
    Calls Tryd.prog 53 #[.int .i64 k] w fun e w' => e = .returned (.tuple #[.int .i64 (lstT.getD k 0), .int .i64 (mstT.getD k 0), .int .i64 (prmT.getD k 0), .bool true]) ∧ Grows w w' := by
  obtain ⟨l1, l2, l3⟩ := h.out.lt
  have e1 := h.out.least k (by omega)
  have e2 := h.out.most k (by omega)
  have e3 := h.out.params k (by omega)
  obtain ⟨v1, hv1⟩ : ∃ v, v = lstT.getD k 0 := ⟨_, rfl⟩
  obtain ⟨v2, hv2⟩ : ∃ v, v = mstT.getD k 0 := ⟨_, rfl⟩
  obtain ⟨v3, hv3⟩ : ∃ v, v = prmT.getD k 0 := ⟨_, rfl⟩
  rw [← hv1] at e1 ⊢
  rw [← hv2] at e2 ⊢
  rw [← hv3] at e3 ⊢
  clear hv1 hv2 hv3
  go_enter Tryd.func53, Tryd.ntmps53
  go_wp2
  first | refine region_grow2 (by kernel_rfl) (by kernel_rfl) ?_ | refine region_grow (by kernel_rfl) (by kernel_rfl) ?_
  repeat (go_big_quiet_step (fail))
  refine wpQuiet_nil ?_
  rintro _ ⟨gr, rfl⟩
  go_wp2
  (try simp only [Exit.inBlock, Exit.then]); refine bodyPost_ret (results_tmp4 rfl _ _ _) rfl ⟨rfl, (by repeat (first | exact Grows.refl _ | apply Grows.grow | apply Grows.alloc | apply Grows.drew))⟩
set_option maxRecDepth 100000 in
set_option maxHeartbeats 3200000 in
theorem ref12_ArityNo (op : Int) (w : World) (hop : ¬ (1 ≤ op ∧ op ≤ 12)) :
    Calls Tryd.prog 53 #[.int .i64 op] w fun e w' => e = .returned (.tuple #[.int .i64 0, .int .i64 0, .int .i64 0, .bool false]) ∧ Grows w w' := by
  by_cases c : op < 1
  · go_enter Tryd.func53, Tryd.ntmps53
    go_wp2
    (try simp only [Exit.inBlock, Exit.then]); refine bodyPost_ret (results_tmp4 rfl _ _ _) rfl ⟨rfl, (by repeat (first | exact Grows.refl _ | apply Grows.grow | apply Grows.alloc | apply Grows.drew))⟩
  · have c2 : 12 < op := by omega
    go_enter Tryd.func53, Tryd.ntmps53
    go_wp2
    (try simp only [Exit.inBlock, Exit.then]); refine bodyPost_ret (results_tmp4 rfl _ _ _) rfl ⟨rfl, (by repeat (first | exact Grows.refl _ | apply Grows.grow | apply Grows.alloc | apply Grows.drew))⟩
end Go.Proofs.YtklcmlbkhjcaiaaDoor

/- The reference of layer 12: is a node right? -/

namespace Go.Proofs.YtklcmlbkhjcaiaaDoor
open Go.RowKit
set_option linter.unusedVariables false

set_option maxRecDepth 100000 in
set_option maxHeartbeats 12800000 in
theorem ref12_One (op : Int) (ia : Option Addr) (il ic : Nat) (is : Nat → Int) (pa : Option Addr) (pl pc : Nat) (p : Nat → Int) (count : Int) (w : World) (ht : Hid (Tabs w)) (hi : Hid (IsInts w ia il ic is)) (hp : Hid (IsInts w pa pl pc p)) (hc : 0 ≤ count ∧ count ≤ 1000) :
    Calls Tryd.prog 26 #[.agg #[.int .i64 op, .slice ia il ic, .slice pa pl pc], .int .i64 count] w fun e w' => ∃ k : Int, e = .returned (.int .i64 k) ∧ Grows w w' ∧ oneB op il is pl p count = decide (k = 0) := by
  have m1 := hi.out.le
  have m2 := hi.out.most
  have m3 := hp.out.le
  have m4 := hp.out.most
  by_cases c0 : 1 ≤ op ∧ op ≤ 12
  case neg =>
    have HNO : Hid (∀ W, Calls Tryd.prog 53 #[.int .i64 op] W fun e w' => e = .returned (.tuple #[.int .i64 0, .int .i64 0, .int .i64 0, .bool false]) ∧ Grows W w') := fun W => ref12_ArityNo op W c0
    have HONE : Hid (oneB op il is pl p count = decide ((1 : Int) = 0)) := Lib.hid (by unfold oneB; simp [c0])
    clear c0
    go_enter Tryd.func26, Tryd.ntmps26
    go_wp2_with (go_at_call 53; refine (HNO.out _).mono ?_; rintro e w' ⟨rfl, hgw⟩; first | (obtain ⟨gw, rfl⟩ := grows_of_grow hgw) | (obtain ⟨gw, rfl⟩ := hgw))
    go_ret
    exact ⟨1, rfl, (by repeat (first | exact Grows.refl _ | apply Grows.grow | apply Grows.alloc | apply Grows.drew)), HONE.out⟩
  obtain ⟨k, rfl⟩ : ∃ k : Nat, op = k := ⟨op.toNat, by omega⟩
  have HAR : Hid (∀ W, Grows w W → Calls Tryd.prog 53 #[.int .i64 k] W fun e w' => e = .returned (.tuple #[.int .i64 (lstT.getD k 0), .int .i64 (mstT.getD k 0), .int .i64 (prmT.getD k 0), .bool true]) ∧ Grows W w') := fun W g => ref12_Arity k W (ht.out.grows g) (by omega)
  have HONE : Hid (oneB k il is pl p count = (decide (lstT.getD k 0 ≤ il ∧ (il : Int) ≤ mstT.getD k 0 ∧ (pl : Int) = prmT.getD k 0) && (inB is 0 il (-1) (count - 1) && bndB k p))) := Lib.hid (by unfold oneB; simp [c0])
  have HL : Hid ((pl : Int) = prmT.getD k 0 → (pl : Int) = prmN k) := fun h => by rw [h]; rfl
  have hbd : (0 ≤ lstT.getD k 0 ∧ lstT.getD k 0 ≤ 40) ∧ (0 ≤ mstT.getD k 0 ∧ mstT.getD k 0 ≤ 40) ∧ (0 ≤ prmT.getD k 0 ∧ prmT.getD k 0 ≤ 40) := by
    have hk : k = 1 ∨ k = 2 ∨ k = 3 ∨ k = 4 ∨ k = 5 ∨ k = 6 ∨ k = 7 ∨ k = 8 ∨ k = 9 ∨ k = 10 ∨ k = 11 ∨ k = 12 := by omega
    rcases hk with rfl | rfl | rfl | rfl | rfl | rfl | rfl | rfl | rfl | rfl | rfl | rfl <;> decide
  obtain ⟨v1, hv1⟩ : ∃ v, v = lstT.getD k 0 := ⟨_, rfl⟩
  obtain ⟨v2, hv2⟩ : ∃ v, v = mstT.getD k 0 := ⟨_, rfl⟩
  obtain ⟨v3, hv3⟩ : ∃ v, v = prmT.getD k 0 := ⟨_, rfl⟩
  rw [← hv1, ← hv2, ← hv3] at HAR HONE hbd
  rw [← hv3] at HL
  clear hv1 hv2 hv3 ht
  by_cases t1 : (il : Int) < v1
  case pos =>
    replace HONE : Hid (oneB k il is pl p count = false) := Lib.hid (by rw [HONE.out]; simp; intros; omega)
    go_enter Tryd.func26, Tryd.ntmps26
    go_wp2_with (first
      | (go_at_call 53; (with_reducible refine Calls.mono (HAR.out _ ?_) ?_); (exact (by repeat (first | exact Grows.refl _ | apply Grows.grow | apply Grows.alloc | apply Grows.drew))); rintro e w' ⟨rfl, hgw⟩; (first | (obtain ⟨gw, rfl⟩ := grows_of_grow hgw) | (obtain ⟨gw, rfl⟩ := hgw))))
    go_ret
    exact ⟨7, rfl, (by repeat (first | exact Grows.refl _ | apply Grows.grow | apply Grows.alloc | apply Grows.drew)), HONE.out.trans (by simp)⟩
  by_cases t2 : v2 < (il : Int)
  case pos =>
    replace HONE : Hid (oneB k il is pl p count = false) := Lib.hid (by rw [HONE.out]; simp; intros; omega)
    go_enter Tryd.func26, Tryd.ntmps26
    go_wp2_with (first
      | (go_at_call 53; (with_reducible refine Calls.mono (HAR.out _ ?_) ?_); (exact (by repeat (first | exact Grows.refl _ | apply Grows.grow | apply Grows.alloc | apply Grows.drew))); rintro e w' ⟨rfl, hgw⟩; (first | (obtain ⟨gw, rfl⟩ := grows_of_grow hgw) | (obtain ⟨gw, rfl⟩ := hgw))))
    go_ret
    exact ⟨7, rfl, (by repeat (first | exact Grows.refl _ | apply Grows.grow | apply Grows.alloc | apply Grows.drew)), HONE.out.trans (by simp)⟩
  by_cases t3 : (pl : Int) = v3
  case neg =>
    replace HONE : Hid (oneB k il is pl p count = false) := Lib.hid (by rw [HONE.out]; simp; intros; omega)
    have d3 : ((pl : Int) != v3) = true := by simpa using t3
    go_enter Tryd.func26, Tryd.ntmps26
    go_wp2_with (first
      | (go_at_call 53; (with_reducible refine Calls.mono (HAR.out _ ?_) ?_); (exact (by repeat (first | exact Grows.refl _ | apply Grows.grow | apply Grows.alloc | apply Grows.drew))); rintro e w' ⟨rfl, hgw⟩; (first | (obtain ⟨gw, rfl⟩ := grows_of_grow hgw) | (obtain ⟨gw, rfl⟩ := hgw))))
    go_ret
    exact ⟨7, rfl, (by repeat (first | exact Grows.refl _ | apply Grows.grow | apply Grows.alloc | apply Grows.drew)), HONE.out.trans (by simp)⟩
  have HL2 : Hid ((pl : Int) = prmN k) := HL.out t3
  replace HONE : Hid (oneB k il is pl p count = (inB is 0 il (-1) (count - 1) && bndB k p)) := by
    rw [HONE.out]
    have : decide (v1 ≤ (il : Int) ∧ (il : Int) ≤ v2 ∧ (pl : Int) = v3) = true := decide_eq_true ⟨by omega, by omega, t3⟩
    rw [this, Bool.true_and]
    exact Lib.hid rfl
  clear HL
  have HN := Lib.hid (nearIs_in is 0 il (-1) (count - 1) (lo' := 0) (hi := il) rfl (by omega))
  cases c1 : inB is 0 il (-1) (count - 1)
  · rw [c1] at HN HONE
    clear c1
    go_enter Tryd.func26, Tryd.ntmps26
    go_wp2_with (first
      | (go_at_call 53; (with_reducible refine Calls.mono (HAR.out _ ?_) ?_); (exact (by repeat (first | exact Grows.refl _ | apply Grows.grow | apply Grows.alloc | apply Grows.drew))); rintro e w' ⟨rfl, hgw⟩; (first | (obtain ⟨gw, rfl⟩ := grows_of_grow hgw) | (obtain ⟨gw, rfl⟩ := hgw)))
      | (go_at_call 54; (with_reducible refine Calls.mono (ref12_near ia il ic is 0 il (-1) (count - 1) _ _ ?_ (by omega) (by omega) (by omega) HN) ?_); (exact Lib.hid (IsInts.grows hi.out (by repeat (first | exact Grows.refl _ | apply Grows.grow | apply Grows.alloc | apply Grows.drew)))); rintro e w' ⟨rfl, hgw⟩; (first | (obtain ⟨gx, rfl⟩ := grows_of_grow hgw) | (obtain ⟨gx, rfl⟩ := hgw))))
    go_ret
    exact ⟨8, rfl, (by repeat (first | exact Grows.refl _ | apply Grows.grow | apply Grows.alloc | apply Grows.drew)), HONE.out.trans (by simp)⟩
  rw [c1] at HN HONE
  clear c1
  cases c2 : bndB k p
  · have HB := Lib.hid c2
    rw [c2] at HONE
    clear c2
    go_enter Tryd.func26, Tryd.ntmps26
    go_wp2_with (first
      | (go_at_call 53; (with_reducible refine Calls.mono (HAR.out _ ?_) ?_); (exact (by repeat (first | exact Grows.refl _ | apply Grows.grow | apply Grows.alloc | apply Grows.drew))); rintro e w' ⟨rfl, hgw⟩; (first | (obtain ⟨gw, rfl⟩ := grows_of_grow hgw) | (obtain ⟨gw, rfl⟩ := hgw)))
      | (go_at_call 54; (with_reducible refine Calls.mono (ref12_near ia il ic is 0 il (-1) (count - 1) _ _ ?_ (by omega) (by omega) (by omega) HN) ?_); (exact Lib.hid (IsInts.grows hi.out (by repeat (first | exact Grows.refl _ | apply Grows.grow | apply Grows.alloc | apply Grows.drew)))); rintro e w' ⟨rfl, hgw⟩; (first | (obtain ⟨gx, rfl⟩ := grows_of_grow hgw) | (obtain ⟨gx, rfl⟩ := hgw)))
      | (go_at_call 55; (with_reducible refine Calls.mono (ref12_Bounds k ia il ic pa pl pc p _ _ ?_ (by omega) HL2.out HB.out) ?_); (exact Lib.hid (IsInts.grows hp.out (by repeat (first | exact Grows.refl _ | apply Grows.grow | apply Grows.alloc | apply Grows.drew)))); rintro e w' ⟨rfl, hgw⟩; (first | (obtain ⟨gy, rfl⟩ := grows_of_grow hgw) | (obtain ⟨gy, rfl⟩ := hgw))))
    go_ret
    exact ⟨3, rfl, (by repeat (first | exact Grows.refl _ | apply Grows.grow | apply Grows.alloc | apply Grows.drew)), HONE.out.trans (by simp)⟩
  · have HB := Lib.hid c2
    rw [c2] at HONE
    clear c2
    go_enter Tryd.func26, Tryd.ntmps26
    go_wp2_with (first
      | (go_at_call 53; (with_reducible refine Calls.mono (HAR.out _ ?_) ?_); (exact (by repeat (first | exact Grows.refl _ | apply Grows.grow | apply Grows.alloc | apply Grows.drew))); rintro e w' ⟨rfl, hgw⟩; (first | (obtain ⟨gw, rfl⟩ := grows_of_grow hgw) | (obtain ⟨gw, rfl⟩ := hgw)))
      | (go_at_call 54; (with_reducible refine Calls.mono (ref12_near ia il ic is 0 il (-1) (count - 1) _ _ ?_ (by omega) (by omega) (by omega) HN) ?_); (exact Lib.hid (IsInts.grows hi.out (by repeat (first | exact Grows.refl _ | apply Grows.grow | apply Grows.alloc | apply Grows.drew)))); rintro e w' ⟨rfl, hgw⟩; (first | (obtain ⟨gx, rfl⟩ := grows_of_grow hgw) | (obtain ⟨gx, rfl⟩ := hgw)))
      | (go_at_call 55; (with_reducible refine Calls.mono (ref12_Bounds k ia il ic pa pl pc p _ _ ?_ (by omega) HL2.out HB.out) ?_); (exact Lib.hid (IsInts.grows hp.out (by repeat (first | exact Grows.refl _ | apply Grows.grow | apply Grows.alloc | apply Grows.drew)))); rintro e w' ⟨rfl, hgw⟩; (first | (obtain ⟨gy, rfl⟩ := grows_of_grow hgw) | (obtain ⟨gy, rfl⟩ := hgw))))
    go_ret
    exact ⟨0, rfl, (by repeat (first | exact Grows.refl _ | apply Grows.grow | apply Grows.alloc | apply Grows.drew)), HONE.out.trans (by simp)⟩
end Go.Proofs.YtklcmlbkhjcaiaaDoor
