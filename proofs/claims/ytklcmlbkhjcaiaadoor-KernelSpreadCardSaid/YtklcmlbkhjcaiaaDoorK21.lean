/- Layer 4, the document's: is a point in a region's rectangles; is it wanted. -/
import Derived.Test.YtklcmlbkhjcaiaaDoorK12
import Derived.Test.YtklcmlbkhjcaiaaDoorRef3J
import Derived.Test.YtklcmlbkhjcaiaaDoorK19



namespace Go.Proofs.YtklcmlbkhjcaiaaDoor
open Go.RowKit
set_option linter.unusedVariables false

/-- Is a point in one of the first rectangles? -/
def hasL (f : Nat → R) : Nat → Int → Int → Bool
  | 0, _, _ => false
  | n + 1, x, y => hasL f n x y || hasR (f n) x y
theorem hasL_iff (f : Nat → R) (x y : Int) : ∀ n, hasL f n x y = true ↔ ∃ i, i < n ∧ hasR (f i) x y = true
  | 0 => ⟨fun h => (by cases h), fun ⟨i, hi, _⟩ => absurd hi (by omega)⟩
  | n + 1 => by
    have ih := hasL_iff f x y n
    simp only [hasL, Bool.or_eq_true, ih]
    constructor
    · rintro (⟨i, hi, h⟩ | h)
      · exact ⟨i, by omega, h⟩
      · exact ⟨n, by omega, h⟩
    · rintro ⟨i, hi, h⟩
      by_cases e : i = n
      · subst e; exact Or.inr h
      · exact Or.inl ⟨i, by omega, h⟩
theorem hasL_congr {f g : Nat → R} (x y : Int) : ∀ n, (∀ i, i < n → f i = g i) → hasL f n x y = hasL g n x y
  | 0, _ => rfl
  | n + 1, h => by
    show (hasL f n x y || hasR (f n) x y) = (hasL g n x y || hasR (g n) x y)
    rw [hasL_congr x y n fun i hi => h i (by omega), h n (by omega)]
/-- Is a point wanted: in one of both (0), in both (1), in the first alone? -/
def wantB (how : Int) (i t : Bool) : Bool := if how = 0 then i || t else if how = 1 then i && t else i && !t

set_option maxHeartbeats 1600000 in
theorem ref04_Has (a : Option Addr) (len cap : Nat) (f : Nat → R) (x y : Int) (w : World) (b : Bool) (h : Hid (IsRects w a len cap f)) (hb : Hid (hasL f len x y = b)) :
    Calls Tryd.prog 21 #[.slice a len cap, .int .i64 x, .int .i64 y] w fun e w' => e = .returned (.bool b) ∧ Grows w w' := by
  have m1 := h.out.le
  have m2 := h.out.most
  have HT : Hid (∀ k, k < len → hasR (f k) x y = true → b = true) := fun k hk hh => by rw [← hb.out]; exact (hasL_iff f x y len).2 ⟨k, hk, hh⟩
  have HN : Hid ((∀ k, k < len → hasR (f k) x y = false) → b = false) := fun hh => by
    rw [← hb.out]
    cases c : hasL f len x y
    · rfl
    · obtain ⟨i, hi, e⟩ := (hasL_iff f x y len).1 c
      rw [hh i hi] at e
      cases e
  clear hb
  go_enter Tryd.func21, Tryd.ntmps21
  go_wp2
  go_loopw [7] (fun i wr => ∃ k : Nat, k ≤ len ∧ i = .int .i64 k ∧ Hid (Grows w wr ∧ ∀ j, j < k → hasR (f j) x y = false)) (fun i _ => len - (intOf i).toNat)
  case atStart => exact ⟨0, by omega, rfl, (by repeat (first | exact Grows.refl _ | apply Grows.grow | apply Grows.alloc | apply Grows.drew)), fun j hj => by omega⟩
  case round =>
    obtain ⟨k, hk, rfl, hh⟩ := hrel
    by_cases hlt : k < len
    · obtain ⟨b', off', rfl, hb', e0, e1, e2, e3⟩ := (h.out.grows hh.out.1).at hlt
      obtain ⟨rk, hrk⟩ : ∃ z, z = f k := ⟨_, rfl⟩
      rw [← hrk] at e0 e1 e2 e3
      cases c : hasR rk x y
      case true =>
        have HH := Lib.hid c
        obtain rfl : b = true := HT.out k hlt (by rw [← hrk]; exact c)
        clear c hrk
        go_wp2_with (go_at_call 23; (with_reducible refine Calls.mono (ref03_hasIs15 rk x y _ _ HH) ?_); rintro e w' ⟨rfl, hgw⟩; first | (obtain ⟨gx, rfl⟩ := grows_of_grow hgw) | (obtain ⟨gx, rfl⟩ := hgw))
        go_ret
        exact ⟨rfl, hh.out.1.trans (by repeat (first | exact Grows.refl _ | apply Grows.grow | apply Grows.alloc | apply Grows.drew))⟩
      case false =>
        have HH := Lib.hid c
        have HS : Hid (∀ j, j < k + 1 → hasR (f j) x y = false) := fun j hj => by
          by_cases e : j = k
          · subst e; rw [← hrk]; exact c
          · exact hh.out.2 j (by omega)
        clear c hrk
        go_wp2_with (go_at_call 23; (with_reducible refine Calls.mono (ref03_hasIs15 rk x y _ _ HH) ?_); rintro e w' ⟨rfl, hgw⟩; first | (obtain ⟨gx, rfl⟩ := grows_of_grow hgw) | (obtain ⟨gx, rfl⟩ := hgw))
        go_roundw
        case rel => exact ⟨k + 1, by omega, by go_num, hh.out.1.trans (by repeat (first | exact Grows.refl _ | apply Grows.grow | apply Grows.alloc | apply Grows.drew)), HS.out⟩
        case measure => simp [intOf]; omega
    · obtain rfl : k = len := by omega
      obtain rfl : b = false := HN.out hh.out.2
      go_wp2
      go_ret
      exact ⟨rfl, hh.out.1.trans (by repeat (first | exact Grows.refl _ | apply Grows.grow | apply Grows.alloc | apply Grows.drew))⟩

set_option maxHeartbeats 3200000 in
theorem ref04_want (a c : Option Addr) (la ca lc cc : Nat) (f g : Nat → R) (how x y : Int) (w : World) (b : Bool) (hf : Hid (IsRects w a la ca f)) (hg : Hid (IsRects w c lc cc g)) (hh : 0 ≤ how ∧ how ≤ 2) (hb : Hid (wantB how (hasL f la x y) (hasL g lc x y) = b)) :
    Calls Tryd.prog 72 #[.slice a la ca, .slice c lc cc, .int .i64 how, .int .i64 x, .int .i64 y] w fun e w' => e = .returned (.bool b) ∧ Grows w w' := by
  have m1 := hf.out.le
  have m2 := hf.out.most
  have m3 := hg.out.le
  have m4 := hg.out.most
  obtain ⟨i, hi⟩ : ∃ z, hasL f la x y = z := ⟨_, rfl⟩
  obtain ⟨t, ht⟩ : ∃ z, hasL g lc x y = z := ⟨_, rfl⟩
  have HF : Hid (∀ W, Grows w W → Calls Tryd.prog 21 #[.slice a la ca, .int .i64 x, .int .i64 y] W fun e w' => e = .returned (.bool i) ∧ Grows W w') := fun W gg => ref04_Has a la ca f x y W i (Lib.hid (hf.out.grows gg)) (Lib.hid hi)
  have HG : Hid (∀ W, Grows w W → Calls Tryd.prog 21 #[.slice c lc cc, .int .i64 x, .int .i64 y] W fun e w' => e = .returned (.bool t) ∧ Grows W w') := fun W gg => ref04_Has c lc cc g x y W t (Lib.hid (hg.out.grows gg)) (Lib.hid ht)
  have eb := hb.out
  rw [hi, ht] at eb
  clear hi ht hf hg hb
  subst eb
  have hc : how = 0 ∨ how = 1 ∨ how = 2 := by omega
  rcases hc with rfl | rfl | rfl <;> cases i <;> cases t
  all_goals
    go_enter Tryd.func72, Tryd.ntmps72
    go_wp2_with (first
      | (go_at_call 21; (with_reducible refine Calls.mono (HF.out _ ?_) ?_); (exact (by repeat (first | exact Grows.refl _ | apply Grows.grow | apply Grows.alloc | apply Grows.drew))); rintro e w' ⟨rfl, hgw⟩; first | (obtain ⟨gx, rfl⟩ := grows_of_grow hgw) | (obtain ⟨gx, rfl⟩ := hgw))
      | (go_at_call 21; (with_reducible refine Calls.mono (HG.out _ ?_) ?_); (exact (by repeat (first | exact Grows.refl _ | apply Grows.grow | apply Grows.alloc | apply Grows.drew))); rintro e w' ⟨rfl, hgw⟩; first | (obtain ⟨gx, rfl⟩ := grows_of_grow hgw) | (obtain ⟨gx, rfl⟩ := hgw)))
    go_ret
    exact ⟨rfl, (by repeat (first | exact Grows.refl _ | apply Grows.grow | apply Grows.alloc | apply Grows.drew))⟩
end Go.Proofs.YtklcmlbkhjcaiaaDoor
/- Layer 4, the document's: a number put into a list that rises. -/


namespace Go.Proofs.YtklcmlbkhjcaiaaDoor
open Go.RowKit
set_option linter.unusedVariables false

def inL (f : Nat → Int) (n : Nat) (z : Int) : Prop := ∃ i, i < n ∧ f i = z
def SortS (f : Nat → Int) (n : Nat) : Prop := ∀ i j, i < j → j < n → f i < f j
def upd {α : Type} (g : Nat → α) (m : Nat) (v : α) : Nat → α := fun i => if i = m then v else g i
theorem upd_at {α : Type} (g : Nat → α) (m : Nat) (v : α) : upd g m v m = v := by simp [upd]
theorem upd_ne {α : Type} (g : Nat → α) {m i : Nat} (v : α) (h : i ≠ m) : upd g m v i = g i := by simp [upd, h]
theorem cellsL_upd {α : Type} (c : α → List Value) (g : Nat → α) (k : Nat) (v : α) : cellsL (fun i => c (upd g k v i)) (k + 1) = cellsL (fun i => c (g i)) k ++ c v := by
  show cellsL (fun i => c (upd g k v i)) k ++ c (upd g k v k) = _
  rw [upd_at, cellsL_congr (c' := fun i => c (g i)) k fun i hi => by rw [upd_ne g v (by omega)]]
theorem inL_upd {g : Nat → Int} {m : Nat} {v z : Int} : inL (upd g m v) (m + 1) z ↔ inL g m z ∨ z = v := by
  constructor
  · rintro ⟨i, hi, e⟩
    by_cases h : i = m
    · subst h; rw [upd_at] at e; exact Or.inr e.symm
    · rw [upd_ne g v h] at e; exact Or.inl ⟨i, by omega, e⟩
  · rintro (⟨i, hi, e⟩ | rfl)
    · exact ⟨i, by omega, by rw [upd_ne g v (by omega)]; exact e⟩
    · exact ⟨m, by omega, upd_at _ _ _⟩
theorem inL_succ {f : Nat → Int} {k : Nat} {z : Int} : inL f (k + 1) z ↔ inL f k z ∨ z = f k := by
  constructor
  · rintro ⟨i, hi, e⟩
    by_cases h : i = k
    · subst h; exact Or.inr e.symm
    · exact Or.inl ⟨i, by omega, e⟩
  · rintro (⟨i, hi, e⟩ | rfl)
    · exact ⟨i, by omega, e⟩
    · exact ⟨k, by omega, rfl⟩
theorem SortS.upd {g : Nat → Int} {m : Nat} {v : Int} (h : SortS g m) (hv : ∀ z, inL g m z → z < v) : SortS (upd g m v) (m + 1) := by
  intro i j hij hj
  rw [upd_ne g v (by omega : i ≠ m)]
  by_cases e : j = m
  · subst e; rw [upd_at]; exact hv _ ⟨i, by omega, rfl⟩
  · rw [upd_ne g v e]; exact h i j hij (by omega)
def cntLt (f : Nat → Int) (n : Int) : Nat → Nat
  | 0 => 0
  | k + 1 => cntLt f n k + (if f k < n then 1 else 0)
def cntGt (f : Nat → Int) (n : Int) : Nat → Nat
  | 0 => 0
  | k + 1 => cntGt f n k + (if n < f k then 1 else 0)
theorem cnt_both (f : Nat → Int) (n : Int) : ∀ k, cntLt f n k + cntGt f n k ≤ k
  | 0 => by simp [cntLt, cntGt]
  | k + 1 => by
    have := cnt_both f n k
    simp only [cntLt, cntGt]
    split <;> split <;> omega
theorem cntLt_yes {f : Nat → Int} {n : Int} {k : Nat} (h : f k < n) : cntLt f n (k + 1) = cntLt f n k + 1 := by simp [cntLt, h]
theorem cntLt_no {f : Nat → Int} {n : Int} {k : Nat} (h : ¬ f k < n) : cntLt f n (k + 1) = cntLt f n k := by simp [cntLt, h]
theorem cntGt_yes {f : Nat → Int} {n : Int} {k : Nat} (h : n < f k) : cntGt f n (k + 1) = cntGt f n k + 1 := by simp [cntGt, h]
theorem cntGt_no {f : Nat → Int} {n : Int} {k : Nat} (h : ¬ n < f k) : cntGt f n (k + 1) = cntGt f n k := by simp [cntGt, h]
def inC (z : Int) : List Value := [.int .i64 z]
theorem ints_row {w : World} {base : Nat} {a : Option Addr} {k cap : Nat} {f : Nat → Int} (h : w.ownsRow base 3 1 (.slice a k cap) k (cellsL (fun i => inC (f i)) k)) (hw : ∀ i, i < k → -9223372036854775808 ≤ f i ∧ f i ≤ 9223372036854775807) : IsInts w a k cap f :=
  ⟨(ownL_le h).1, by have := (ownL_le h).2; omega, hw, fun h0 => by
    obtain ⟨b, rfl, _, hb, hc⟩ := ownL_at h (fun i => rfl) h0
    refine ⟨b, 0, rfl, hb, fun i hi => ?_⟩
    have e := hc i 0 hi (by omega)
    simp only [Nat.zero_add, Nat.mul_one, Nat.add_zero] at e ⊢
    exact e⟩
/-- A number appended to a list of the call's own. -/
theorem wpList_append_int {ops : Array Oper} {rest : List Oper} {o : Oper} {a : Act} {w : World} {Q : Exit → Act → World → Prop} (hgd : o.guard = none) (s x : Operand)
    (ho : o.op = .call { callee := .builtin .append, args := #[s, x], argTypes := #[22, 22] })
    (base : Nat) (ad : Option Addr) (k cap : Nat) (g : Nat → Int) (v : Int) (hs : a.eval s = .slice ad k cap) (hown : w.ownsRow base 3 1 (.slice ad k cap) k (cellsL (fun i => inC (g i)) k))
    (n c : Nat) (hx : a.eval x = .slice (some ⟨n, 0, none⟩) 1 c) (hn : Blk w n 3 #[.int .i64 v]) (hk : k ≤ 30000000) (hbase : base ≤ w.heap.size)
    (h : ∀ p cap' w', w'.ownsRow base 3 1 (.slice (some ⟨p, 0, none⟩) (k + 1) cap') (k + 1) (cellsL (fun i => inC (upd g k v i)) (k + 1)) → w.grownBy w' (blkOf ad) → (blkOf ad = some p ∨ p = w.heap.size) → p < w'.heap.size → wpList Tryd.prog ops Q rest (a.put o.dst (.slice (some ⟨p, 0, none⟩) (k + 1) cap')) w') : wpList Tryd.prog ops Q (o :: rest) a w := by
  obtain ⟨i, hi, hz, hsz, hb⟩ := info_parts int_parts
  refine wpList_append_lies w hgd s x 22 ho base 3 i _ 1 8 Tryd.underlying22 hi hz hsz hb rfl (by omega) (.slice ad k cap) k (cellsL (fun i => inC (g i)) k) hs hown ⟨n, 0, none⟩ 1 c (inC v) hx rfl (fun j u hu => ?_) (fun u hu => by { simp only [inC, List.mem_cons, List.not_mem_nil, or_false] at hu; rw [hu]; rfl }) (by omega) (by unfold maxLen; omega) (by omega) hbase w.heap.size rfl ?_
  · rw [Go.Addr.add_mid, Nat.zero_add, hn.cell]
    simpa [inC] using hu
  · intro p cap' w' h1 h2 h3 h4
    refine h p cap' w' (by rw [cellsL_upd]; exact h1) ?_ ?_ h4
    · cases ad <;> exact h2
    · cases ad
      · exact h3.imp (fun e => by simp [Value.ownBlock] at e) id
      · exact h3
/-- What holds while a list is filled: of the call's own, rising. -/
structure PutSt (w0 wr : World) (T : TypeId) (a : Option Addr) (m cap : Nat) (g : Nat → Int) : Prop where
  gr : Grows w0 wr
  own : wr.ownsRow w0.heap.size T 1 (.slice a m cap) m (cellsL (fun i => inC (g i)) m)
  sort : SortS g m
theorem PutSt.nil (w0 : World) (T : TypeId) (g : Nat → Int) : PutSt w0 w0 T none 0 0 g := ⟨Grows.refl _, ⟨rfl, .inl ⟨rfl, rfl⟩⟩, fun i j h1 h2 => by omega⟩
theorem PutSt.grows {w0 wr w' : World} {T : TypeId} {a : Option Addr} {m cap : Nat} {g : Nat → Int} (h : PutSt w0 wr T a m cap g) (gg : Grows wr w') : PutSt w0 w' T a m cap g := ⟨h.gr.trans gg, ownsRow_grows h.own gg, h.sort⟩

set_option maxRecDepth 100000 in
set_option maxHeartbeats 6400000 in
theorem ref04_put (a : Option Addr) (len cap : Nat) (f : Nat → Int) (n : Int) (w : World) (h : Hid (IsInts w a len cap f)) (hs : SortS f len) (hl : len ≤ 1000) (hn : -9223372036854775808 ≤ n ∧ n ≤ 9223372036854775807) :
    Calls Tryd.prog 71 #[.slice a len cap, .int .i64 n] w fun e w' => ∃ a' m cap' g, e = .returned (.slice a' m cap') ∧ Grows w w' ∧ Hid (IsInts w' a' m cap' g ∧ SortS g m ∧ (∀ z, inL g m z ↔ z = n ∨ inL f len z) ∧ m ≤ len + 1) := by
  have m1 := h.out.le
  have m2 := h.out.most
  have HS := Lib.hid hs
  have HW := Lib.hid h.out.wf
  clear hs
  go_enter Tryd.func71, Tryd.ntmps71
  go_wp2
  go_loopw [5, 6] (fun v i wr => ∃ (k m : Nat) (a' : Option Addr) (cap' : Nat) (g : Nat → Int), k ≤ len ∧ m ≤ k ∧ i = .int .i64 k ∧ v = .slice a' m cap' ∧ Hid (PutSt w wr 3 a' m cap' g ∧ (∀ z, inL g m z ↔ z < n ∧ inL f k z) ∧ m = cntLt f n k)) (fun _ i _ => len - (intOf i).toNat)
  case atStart => exact ⟨0, 0, none, 0, fun _ => 0, by omega, by omega, rfl, rfl, PutSt.nil w _ _, fun z => ⟨fun ⟨i, hi, _⟩ => absurd hi (by omega), fun ⟨_, i, hi, _⟩ => absurd hi (by omega)⟩, rfl⟩
  case round =>
    obtain ⟨k, m, a', cap', g, hk, hm, rfl, rfl, hh⟩ := hrel
    have hcap := ownL_le hh.out.1.own
    have SZ0 := hh.out.1.gr.below.size
    by_cases hlt : k < len
    · obtain ⟨b', off', rfl, hb', e0⟩ := (h.out.grows hh.out.1.gr).at hlt
      obtain ⟨fk, hfk⟩ : ∃ z, z = f k := ⟨_, rfl⟩
      rw [← hfk] at e0
      have HFK := Lib.hid hfk
      clear hfk
      by_cases hlv : fk < n
      · go_wp2_with (at_builtin; refine wpList_append_int rfl (.tmp 20) (.tmp 25) rfl w.heap.size a' m cap' g fk rfl (ownsRow_grows hh.out.1.own (by repeat (first | exact Grows.refl _ | apply Grows.grow | apply Grows.alloc | apply Grows.drew))) _ _ rfl (by unfold Blk; repeat (first | exact blk_at _ _ _ (by first | omega | (simp; done) | (simp; omega)) | refine (blk_past _ _ _ (by first | omega | (simp; done) | (simp; omega))).trans ?_ | refine (heap_grow _ _ _ (by first | omega | (simp; done) | (simp; omega))).trans ?_ | refine (blk_drew _ _).trans ?_)) (by omega) (by simp <;> omega) ?_; intro p' c1 w1 h1 h2 h3 h4; replace h1 := Lib.hid h1; replace h2 := Lib.hid h2)
        go_roundw
        case rel =>
          refine ⟨k + 1, m + 1, some ⟨p', 0, none⟩, c1, upd g m fk, by omega, by omega, by go_num, rfl, ⟨?_, h1.out, ?_⟩, fun z => ?_, by rw [cntLt_yes (HFK.out ▸ hlv), ← hh.out.2.2]⟩
          · exact (hh.out.1.gr.trans (by repeat (first | exact Grows.refl _ | apply Grows.grow | apply Grows.alloc | apply Grows.drew))).grown h2.out (fun j hj => (own_lt hh.out.1.own j hj).1)
          · refine hh.out.1.sort.upd fun z hz => ?_
            obtain ⟨_, i, hi, e⟩ := (hh.out.2.1 z).1 hz
            rw [HFK.out, ← e]
            exact HS.out i k hi hlt
          · rw [inL_upd, inL_succ, hh.out.2.1 z, ← HFK.out]
            constructor
            · rintro (⟨q1, q2⟩ | rfl)
              · exact ⟨q1, Or.inl q2⟩
              · exact ⟨hlv, Or.inr rfl⟩
            · rintro ⟨q1, q2 | q2⟩
              · exact Or.inl ⟨q1, q2⟩
              · exact Or.inr q2
        case measure => simp [intOf]; omega
      · go_wp2
        go_roundw
        case rel =>
          refine ⟨k + 1, m, a', cap', g, by omega, by omega, by go_num, rfl, hh.out.1.grows (by repeat (first | exact Grows.refl _ | apply Grows.grow | apply Grows.alloc | apply Grows.drew)), fun z => ?_, by rw [cntLt_no (HFK.out ▸ hlv), ← hh.out.2.2]⟩
          rw [inL_succ, hh.out.2.1 z, ← HFK.out]
          constructor
          · rintro ⟨q1, q2⟩
            exact ⟨q1, Or.inl q2⟩
          · rintro ⟨q1, q2 | q2⟩
            · exact ⟨q1, q2⟩
            · omega
        case measure => simp [intOf]; omega
    · obtain rfl : len = k := by omega
      go_wp2_with (at_builtin; refine wpList_append_int rfl (.tmp 27) (.tmp 29) rfl w.heap.size a' m cap' g n rfl (ownsRow_grows hh.out.1.own (by repeat (first | exact Grows.refl _ | apply Grows.grow | apply Grows.alloc | apply Grows.drew))) _ _ rfl (by unfold Blk; repeat (first | exact blk_at _ _ _ (by first | omega | (simp; done) | (simp; omega)) | refine (blk_past _ _ _ (by first | omega | (simp; done) | (simp; omega))).trans ?_ | refine (heap_grow _ _ _ (by first | omega | (simp; done) | (simp; omega))).trans ?_ | refine (blk_drew _ _).trans ?_)) (by omega) (by simp <;> omega) ?_; intro p' c1 w1 h1 h2 h3 h4; replace h1 := Lib.hid h1; replace h2 := Lib.hid h2)
      have H0 : Hid (PutSt w w1 3 (some ⟨p', 0, none⟩) (m + 1) c1 (upd g m n) ∧ (∀ z, inL (upd g m n) (m + 1) z ↔ (z = n ∨ (z < n ∧ inL f len z)) ∨ (z > n ∧ inL f 0 z)) ∧ m + 1 = cntLt f n len + 1 + cntGt f n 0) := by
        refine ⟨⟨?_, h1.out, ?_⟩, fun z => ?_, by have := hh.out.2.2; simp only [cntGt]; omega⟩
        · exact (hh.out.1.gr.trans (by repeat (first | exact Grows.refl _ | apply Grows.grow | apply Grows.alloc | apply Grows.drew))).grown h2.out (fun j hj => (own_lt hh.out.1.own j hj).1)
        · refine hh.out.1.sort.upd fun z hz => ?_
          exact ((hh.out.2.1 z).1 hz).1
        · rw [inL_upd, hh.out.2.1 z]
          constructor
          · rintro (q | q)
            · exact Or.inl (Or.inr q)
            · exact Or.inl (Or.inl q)
          · rintro ((q | q) | ⟨_, i, hi, _⟩)
            · exact Or.inr q
            · exact Or.inl q
            · omega
      clear hh h1 h2 h3 h4
      obtain ⟨wo, hwo⟩ : ∃ wo : World, wo = wr := ⟨_, rfl⟩
      clear hwo
      go_loopw [5, 7] (fun v i w2 => ∃ (k m : Nat) (a' : Option Addr) (cap' : Nat) (g : Nat → Int), k ≤ len ∧ 0 < m ∧ m ≤ len + 1 + k ∧ i = .int .i64 k ∧ v = .slice a' m cap' ∧ Hid (PutSt w w2 3 a' m cap' g ∧ (∀ z, inL g m z ↔ (z = n ∨ (z < n ∧ inL f len z)) ∨ (z > n ∧ inL f k z)) ∧ m = cntLt f n len + 1 + cntGt f n k)) (fun _ i _ => len - (intOf i).toNat)
      case atStart => exact ⟨0, m + 1, _, c1, _, by omega, by omega, by omega, rfl, rfl, H0.out⟩
      case round =>
        rename_i wB
        clear H0
        obtain ⟨k, m2, a2, cap2, g2, hk2, hm0, hm2, rfl, rfl, hh⟩ := hrel
        have hcap2 := ownL_le hh.out.1.own
        have SZ1 := hh.out.1.gr.below.size
        by_cases hlt : k < len
        · obtain ⟨b', off', rfl, hb', e0⟩ := (h.out.grows hh.out.1.gr).at hlt
          obtain ⟨fk, hfk⟩ : ∃ z, z = f k := ⟨_, rfl⟩
          rw [← hfk] at e0
          have HFK := Lib.hid hfk
          clear hfk
          by_cases hlv : n < fk
          · go_wp2_with (at_builtin; refine wpList_append_int rfl (.tmp 43) (.tmp 48) rfl w.heap.size a2 m2 cap2 g2 fk rfl (ownsRow_grows hh.out.1.own (by repeat (first | exact Grows.refl _ | apply Grows.grow | apply Grows.alloc | apply Grows.drew))) _ _ rfl (by unfold Blk; repeat (first | exact blk_at _ _ _ (by first | omega | (simp; done) | (simp; omega)) | refine (blk_past _ _ _ (by first | omega | (simp; done) | (simp; omega))).trans ?_ | refine (heap_grow _ _ _ (by first | omega | (simp; done) | (simp; omega))).trans ?_ | refine (blk_drew _ _).trans ?_)) (by omega) (by simp <;> omega) ?_; intro p3 c3 w3 h1 h2 h3 h4; replace h1 := Lib.hid h1; replace h2 := Lib.hid h2)
            go_roundw
            case rel =>
              refine ⟨k + 1, m2 + 1, some ⟨p3, 0, none⟩, c3, upd g2 m2 fk, by omega, by omega, by omega, by go_num, rfl, ⟨?_, h1.out, ?_⟩, fun z => ?_, by rw [cntGt_yes (HFK.out ▸ hlv)]; have := hh.out.2.2; omega⟩
              · exact (hh.out.1.gr.trans (by repeat (first | exact Grows.refl _ | apply Grows.grow | apply Grows.alloc | apply Grows.drew))).grown h2.out (fun j hj => (own_lt hh.out.1.own j hj).1)
              · refine hh.out.1.sort.upd fun z hz => ?_
                rcases (hh.out.2.1 z).1 hz with (q | q) | ⟨_, i, hi, e⟩
                · omega
                · omega
                · rw [HFK.out, ← e]
                  exact HS.out i k hi hlt
              · rw [inL_upd, inL_succ, hh.out.2.1 z, ← HFK.out]
                constructor
                · rintro ((q | ⟨q1, q2⟩) | rfl)
                  · exact Or.inl q
                  · exact Or.inr ⟨q1, Or.inl q2⟩
                  · exact Or.inr ⟨hlv, Or.inr rfl⟩
                · rintro (q | ⟨q1, q2 | q2⟩)
                  · exact Or.inl (Or.inl q)
                  · exact Or.inl (Or.inr ⟨q1, q2⟩)
                  · exact Or.inr q2
            case measure => simp [intOf]; omega
          · go_wp2
            go_roundw
            case rel =>
              refine ⟨k + 1, m2, a2, cap2, g2, by omega, by omega, by omega, by go_num, rfl, hh.out.1.grows (by repeat (first | exact Grows.refl _ | apply Grows.grow | apply Grows.alloc | apply Grows.drew)), fun z => ?_, by rw [cntGt_no (HFK.out ▸ hlv)]; exact hh.out.2.2⟩
              rw [inL_succ, hh.out.2.1 z, ← HFK.out]
              constructor
              · rintro (q | ⟨q1, q2⟩)
                · exact Or.inl q
                · exact Or.inr ⟨q1, Or.inl q2⟩
              · rintro (q | ⟨q1, q2 | q2⟩)
                · exact Or.inl q
                · exact Or.inr ⟨q1, q2⟩
                · omega
            case measure => simp [intOf]; omega
        · obtain rfl : len = k := by omega
          go_wp2
          have HM : ∀ z, inL g2 m2 z ↔ z = n ∨ inL f len z := fun z => by
            rw [hh.out.2.1 z]
            constructor
            · rintro ((q | q) | q)
              · exact Or.inl q
              · exact Or.inr q.2
              · exact Or.inr q.2
            · rintro (q | q)
              · exact Or.inl (Or.inl q)
              · by_cases e1 : z < n
                · exact Or.inl (Or.inr ⟨e1, q⟩)
                · by_cases e2 : z = n
                  · exact Or.inl (Or.inl e2)
                  · exact Or.inr ⟨by omega, q⟩
          go_ret
          refine ⟨a2, m2, cap2, g2, rfl, hh.out.1.gr.trans (by repeat (first | exact Grows.refl _ | apply Grows.grow | apply Grows.alloc | apply Grows.drew)), ?_, hh.out.1.sort, HM, ?_⟩
          · refine (ints_row hh.out.1.own fun i hi => ?_).grows (by repeat (first | exact Grows.refl _ | apply Grows.grow | apply Grows.alloc | apply Grows.drew))
            rcases (HM (g2 i)).1 ⟨i, hi, rfl⟩ with e | ⟨j, hj, e⟩
            · rw [e]; exact hn
            · rw [← e]; exact HW.out j hj
          · have q1 := hh.out.2.2
            have q2 := cnt_both f n len
            omega
end Go.Proofs.YtklcmlbkhjcaiaaDoor

/- Layer 4, the document's: lists of rectangles appended and written; the grid, plain. -/

namespace Go.Proofs.YtklcmlbkhjcaiaaDoor
open Go.RowKit
set_option linter.unusedVariables false

/-- One list behind another. -/
def appF {α : Type} (g : Nat → α) (k : Nat) (f : Nat → α) : Nat → α := fun i => if i < k then g i else f (i - k)
theorem appF_lt {α : Type} (g f : Nat → α) {k i : Nat} (h : i < k) : appF g k f i = g i := by simp [appF, h]
theorem appF_ge {α : Type} (g f : Nat → α) (k i : Nat) : appF g k f (k + i) = f i := by
  unfold appF
  rw [if_neg (by omega), Nat.add_sub_cancel_left]
theorem cellsL_app {α : Type} (c : α → List Value) (g f : Nat → α) (k : Nat) : ∀ m, cellsL (fun i => c (appF g k f i)) (k + m) = cellsL (fun i => c (g i)) k ++ cellsL (fun i => c (f i)) m
  | 0 => by
    rw [Nat.add_zero, cellsL_congr (c' := fun i => c (g i)) k fun i hi => by rw [appF_lt g f hi]]
    simp [cellsL]
  | m + 1 => by
    show cellsL (fun i => c (appF g k f i)) (k + m) ++ c (appF g k f (k + m)) = _
    rw [cellsL_app c g f k m, appF_ge]
    simp [cellsL]
theorem hasL_app (g f : Nat → R) (k : Nat) (x y : Int) : ∀ m, hasL (appF g k f) (k + m) x y = (hasL g k x y || hasL f m x y)
  | 0 => by
    rw [Nat.add_zero, hasL_congr (g := g) x y k fun i hi => appF_lt g f hi]
    simp [hasL]
  | m + 1 => by
    show (hasL (appF g k f) (k + m) x y || hasR (appF g k f (k + m)) x y) = _
    rw [hasL_app g f k x y m, appF_ge]
    simp [hasL, Bool.or_assoc]
theorem cellsL_one {c : Nat → List Value} (h : ∀ i, ∀ u ∈ c i, u.oneCell' = true) : ∀ k, ∀ u ∈ cellsL c k, u.oneCell' = true
  | 0, u, hu => by simp [cellsL] at hu
  | k + 1, u, hu => by
    simp only [cellsL, List.mem_append] at hu
    rcases hu with hu | hu
    · exact cellsL_one h k u hu
    · exact h k u hu
/-- A list of rectangles appended to one of the call's own. -/
theorem wpList_append_rects {ops : Array Oper} {rest : List Oper} {o : Oper} {a : Act} {w : World} {Q : Exit → Act → World → Prop} (hgd : o.guard = none) (s x : Operand) (T : TypeId) (hT : Tryd.prog.underlying T = some (.slice 27))
    (ho : o.op = .call { callee := .builtin .append, args := #[s, x], argTypes := #[T, T] })
    (base : Nat) (ad : Option Addr) (k cap : Nat) (g : Nat → R) (hs : a.eval s = .slice ad k cap) (hown : w.ownsRow base 27 4 (.slice ad k cap) k (cellsL (fun i => rcC (g i)) k))
    (ax : Option Addr) (m c : Nat) (f : Nat → R) (hx : a.eval x = .slice ax m c) (hp : IsRects w ax m c f) (hk : k ≤ 1000000) (hm : m ≤ 1000000) (hbase : base ≤ w.heap.size)
    (h : ∀ ad' cap' w', w'.ownsRow base 27 4 (.slice ad' (k + m) cap') (k + m) (cellsL (fun i => rcC (appF g k f i)) (k + m)) → w.grownBy w' (blkOf ad) → wpList Tryd.prog ops Q rest (a.put o.dst (.slice ad' (k + m) cap')) w') : wpList Tryd.prog ops Q (o :: rest) a w := by
  obtain ⟨i, hi, hz, hsz, hby⟩ := info_parts rect_parts
  refine wpList_plain hgd fun K hK => ?_
  cases ax with
  | none =>
    have h0 : m = 0 := by
      rcases Nat.eq_zero_or_pos m with h0 | h0
      · exact h0
      · obtain ⟨b, off, e, _⟩ := hp.cells h0; cases e
    subst h0
    have hrun := run_append_of_nil (P := Tryd.prog) w base T o.type 27 i 4 hT hi _ k _ hown c
    unfold Oper.wp execOp
    simp only [ho, resolve, invoke, builtin, Sem.run_bind, Sem.run_pure, Result.andThen_ok, List.map_toArray, List.map_cons, List.map_nil, hs, hx, hrun]
    refine hK _ _ (h ad cap w ?_ (World.grownBy.refl w _))
    rw [cellsL_app]
    simpa [cellsL] using hown
  | some ax =>
    obtain ⟨v', w', hrun, h2, h3, _, _⟩ := run_append_own_at (P := Tryd.prog) w base T o.type 27 i _ 4 32 hT hi hz hsz hby rfl (by omega) _ k _ hown ax m c (cellsL (fun i => rcC (f i)) m) (by rw [cellsL_length (fun i => rcC_length (f i))])
      (fun j u hu => by
        have hj : j < m * 4 := by
          have := (List.getElem?_eq_some_iff.1 hu).1
          rwa [cellsL_length (fun i => rcC_length (f i))] at this
        obtain ⟨b, off, e, _, hc⟩ := hp.cells (by omega)
        cases e
        rw [Go.Addr.add_mid]
        obtain ⟨c0, c1, c2, c3⟩ := hc (j / 4) (by omega)
        have e4 : j = j / 4 * 4 + j % 4 := by omega
        rw [e4, cellsL_at (fun i => rcC_length (f i)) m (j / 4) (j % 4) (by omega) (by omega)] at hu
        have h4 : j % 4 = 0 ∨ j % 4 = 1 ∨ j % 4 = 2 ∨ j % 4 = 3 := by omega
        rcases h4 with q | q | q | q <;> rw [q] at hu e4 <;> simp only [rcC, List.getElem?_cons_zero, List.getElem?_cons_succ, Option.some.injEq] at hu <;> subst hu
        · rwa [show off + j = off + j / 4 * 4 by omega]
        · rwa [show off + j = off + j / 4 * 4 + 1 by omega]
        · rwa [show off + j = off + j / 4 * 4 + 2 by omega]
        · rwa [show off + j = off + j / 4 * 4 + 3 by omega])
      (fun u hu => cellsL_one (fun i u hu => rcC_one hu) _ u hu) (by unfold maxLen; omega) (by omega) hbase
    obtain ⟨ad', cap', rfl⟩ := ownsRow_form h2
    unfold Oper.wp execOp
    simp only [ho, resolve, invoke, builtin, Sem.run_bind, Sem.run_pure, Result.andThen_ok, List.map_toArray, List.map_cons, List.map_nil, hs, hx, hrun]
    refine hK _ _ (h _ _ w' (by rw [cellsL_app]; exact h2) ?_)
    cases ad <;> exact h3

/-- Every edge of a rectangle that is not empty stands in the two lists. -/
def EdgeIn (xs : Nat → Int) (nx : Nat) (ys : Nat → Int) (ny : Nat) (r : R) : Prop := emptyR r = false → inL xs nx r.x0 ∧ inL xs nx r.x1 ∧ inL ys ny r.y0 ∧ inL ys ny r.y1
/-- Between two neighbours of a list that rises no number of it lies. -/
theorem sort_gap {xs : Nat → Int} {n i : Nat} (hs : SortS xs n) (hi : i + 1 < n) {z u : Int} (hz : inL xs n z) (h1 : xs i ≤ u) (h2 : u < xs (i + 1)) : (z ≤ u ↔ z ≤ xs i) := by
  obtain ⟨k, hk, rfl⟩ := hz
  constructor
  · intro h
    by_cases e : k ≤ i
    · rcases Nat.lt_or_eq_of_le e with e | e
      · have := hs k i e (by omega); omega
      · subst e; omega
    · rcases Nat.lt_or_eq_of_le (show i + 1 ≤ k by omega) with e | e
      · have := hs (i + 1) k e hk; omega
      · subst e; omega
  · intro h; omega
theorem grid_has {xs ys : Nat → Int} {nx ny i j : Nat} {r : R} (hx : SortS xs nx) (hy : SortS ys ny) (hi : i + 1 < nx) (hj : j + 1 < ny) (he : EdgeIn xs nx ys ny r) {u v : Int} (hu : xs i ≤ u ∧ u < xs (i + 1)) (hv : ys j ≤ v ∧ v < ys (j + 1)) : hasR r u v = hasR r (xs i) (ys j) := by
  cases c : emptyR r
  · obtain ⟨a0, a1, b0, b1⟩ := he c
    have p0 := sort_gap hx hi a0 hu.1 hu.2
    have p1 := sort_gap hx hi a1 hu.1 hu.2
    have q0 := sort_gap hy hj b0 hv.1 hv.2
    have q1 := sort_gap hy hj b1 hv.1 hv.2
    apply Bool.eq_iff_iff.2
    rw [hasR_iff, hasR_iff]
    omega
  · have e1 : ∀ p q, hasR r p q = false := fun p q => by
      cases d : hasR r p q
      · rfl
      · have := (hasR_iff _ _ _).1 d
        have h0 : emptyR r = false := (emptyR_not r).2 (by omega)
        rw [h0] at c
        cases c
    rw [e1, e1]
theorem grid_hasL {xs ys : Nat → Int} {nx ny i j : Nat} {f : Nat → R} (hx : SortS xs nx) (hy : SortS ys ny) (hi : i + 1 < nx) (hj : j + 1 < ny) {u v : Int} (hu : xs i ≤ u ∧ u < xs (i + 1)) (hv : ys j ≤ v ∧ v < ys (j + 1)) : ∀ n, (∀ k, k < n → EdgeIn xs nx ys ny (f k)) → hasL f n u v = hasL f n (xs i) (ys j)
  | 0, _ => rfl
  | n + 1, h => by
    show (hasL f n u v || hasR (f n) u v) = (hasL f n (xs i) (ys j) || hasR (f n) (xs i) (ys j))
    rw [grid_hasL hx hy hi hj hu hv n fun k hk => h k (by omega), grid_has hx hy hi hj (h n (by omega)) hu hv]
end Go.Proofs.YtklcmlbkhjcaiaaDoor

/- Layer 4, the document's, plain: the rows of the grid, and how they are joined. -/

namespace Go.Proofs.YtklcmlbkhjcaiaaDoor
open Go.RowKit
set_option linter.unusedVariables false

theorem hasL_push (row : Nat → R) (m : Nat) (r : R) (u v : Int) : hasL (upd row m r) (m + 1) u v = (hasL row m u v || hasR r u v) := by
  show (hasL (upd row m r) m u v || hasR (upd row m r m) u v) = _
  rw [upd_at, hasL_congr (g := row) u v m fun i hi => upd_ne row r (by omega)]
theorem hasL_set {row : Nat → R} {k : Nat} {r : R} {C : Int → Int → Bool} (u v : Int) (h : hasR r u v = (hasR (row k) u v || C u v)) : ∀ m, k < m → hasL (upd row k r) m u v = (hasL row m u v || C u v)
  | 0, hk => absurd hk (by omega)
  | m + 1, hk => by
    show (hasL (upd row k r) m u v || hasR (upd row k r m) u v) = ((hasL row m u v || hasR (row m) u v) || C u v)
    by_cases e : k = m
    · subst e
      rw [upd_at, h, hasL_congr (g := row) u v k fun i hi => upd_ne row r (by omega), Bool.or_assoc]
    · rw [upd_ne row r (by omega), hasL_set u v h m (by omega)]
      cases hasL row m u v <;> cases C u v <;> cases hasR (row m) u v <;> rfl
/-- A row of the grid, up to the i-th column. -/
structure RowOk (B : Int → Prop) (y0 y1 : Int) (P : Int → Bool) (x : Int) (row : Nat → R) (m : Nat) : Prop where
  ys_ : ∀ k, k < m → (row k).y0 = y0 ∧ (row k).y1 = y1
  xs_ : ∀ k, k < m → (row k).x0 < (row k).x1
  inb : ∀ k, k < m → B (row k).x0 ∧ B (row k).x1
  has : ∀ u v, hasL row m u v = true ↔ (y0 ≤ v ∧ v < y1) ∧ u < x ∧ P u = true
theorem RowOk.nil {B : Int → Prop} {y0 y1 : Int} {P : Int → Bool} {x : Int} (row : Nat → R) (h : ∀ u, u < x → P u = false) : RowOk B y0 y1 P x row 0 :=
  ⟨fun k hk => by omega, fun k hk => by omega, fun k hk => by omega, fun u v => ⟨fun e => (by cases e), fun ⟨_, h1, h2⟩ => by rw [h u h1] at h2; cases h2⟩⟩
theorem RowOk.skip {B : Int → Prop} {y0 y1 : Int} {P : Int → Bool} {x x' : Int} {row : Nat → R} {m : Nat} (h : RowOk B y0 y1 P x row m) (hx : x < x') (hp : ∀ u, x ≤ u → u < x' → P u = P x) (hn : P x = false) : RowOk B y0 y1 P x' row m :=
  ⟨h.ys_, h.xs_, h.inb, fun u v => by
    rw [h.has u v]
    constructor
    · rintro ⟨h1, h2, h3⟩; exact ⟨h1, by omega, h3⟩
    · rintro ⟨h1, h2, h3⟩
      refine ⟨h1, ?_, h3⟩
      by_cases e : u < x
      · exact e
      · rw [hp u (by omega) h2, hn] at h3; cases h3⟩
theorem cell_has {y0 y1 x x' u v : Int} : hasR ⟨x, y0, x', y1⟩ u v = true ↔ (x ≤ u ∧ u < x') ∧ (y0 ≤ v ∧ v < y1) := by
  rw [hasR_iff]
  constructor
  · rintro ⟨h1, h2, h3, h4⟩; exact ⟨⟨h1, h2⟩, h3, h4⟩
  · rintro ⟨⟨h1, h2⟩, h3, h4⟩; exact ⟨h1, h2, h3, h4⟩
theorem row_cell {P : Int → Bool} {y0 y1 x x' : Int} (hx : x < x') (hp : ∀ u, x ≤ u → u < x' → P u = P x) (hy : P x = true) {a : Bool} {u v : Int} (h : a = true ↔ (y0 ≤ v ∧ v < y1) ∧ u < x ∧ P u = true) : (a || hasR ⟨x, y0, x', y1⟩ u v) = true ↔ (y0 ≤ v ∧ v < y1) ∧ u < x' ∧ P u = true := by
  rw [Bool.or_eq_true, h, cell_has]
  constructor
  · rintro (⟨h1, h2, h3⟩ | ⟨h1, h2⟩)
    · exact ⟨h1, by omega, h3⟩
    · exact ⟨h2, h1.2, by rw [hp u h1.1 h1.2]; exact hy⟩
  · rintro ⟨h1, h2, h3⟩
    by_cases e : u < x
    · exact Or.inl ⟨h1, e, h3⟩
    · exact Or.inr ⟨⟨by omega, h2⟩, h1⟩
theorem RowOk.push {B : Int → Prop} {y0 y1 : Int} {P : Int → Bool} {x x' : Int} {row : Nat → R} {m : Nat} (h : RowOk B y0 y1 P x row m) (hx : x < x') (hp : ∀ u, x ≤ u → u < x' → P u = P x) (hy : P x = true) (b0 : B x) (b1 : B x') : RowOk B y0 y1 P x' (upd row m ⟨x, y0, x', y1⟩) (m + 1) := by
  refine ⟨fun k hk => ?_, fun k hk => ?_, fun k hk => ?_, fun u v => ?_⟩
  · by_cases e : k = m
    · subst e; rw [upd_at]; exact ⟨rfl, rfl⟩
    · rw [upd_ne row _ e]; exact h.ys_ k (by omega)
  · by_cases e : k = m
    · subst e; rw [upd_at]; exact hx
    · rw [upd_ne row _ e]; exact h.xs_ k (by omega)
  · by_cases e : k = m
    · subst e; rw [upd_at]; exact ⟨b0, b1⟩
    · rw [upd_ne row _ e]; exact h.inb k (by omega)
  · rw [hasL_push]
    exact row_cell hx hp hy (h.has u v)
theorem RowOk.grow {B : Int → Prop} {y0 y1 : Int} {P : Int → Bool} {x x' : Int} {row : Nat → R} {m : Nat} (h : RowOk B y0 y1 P x row (m + 1)) (hx : x < x') (hp : ∀ u, x ≤ u → u < x' → P u = P x) (hy : P x = true) (b1 : B x') (hl : (row m).x1 = x) : RowOk B y0 y1 P x' (upd row m ⟨(row m).x0, (row m).y0, x', (row m).y1⟩) (m + 1) := by
  have hy2 := h.ys_ m (by omega)
  have hx2 := h.xs_ m (by omega)
  refine ⟨fun k hk => ?_, fun k hk => ?_, fun k hk => ?_, fun u v => ?_⟩
  · by_cases e : k = m
    · subst e; rw [upd_at]; exact hy2
    · rw [upd_ne row _ e]; exact h.ys_ k hk
  · by_cases e : k = m
    · subst e; rw [upd_at]; show (row k).x0 < x'; omega
    · rw [upd_ne row _ e]; exact h.xs_ k hk
  · by_cases e : k = m
    · subst e; rw [upd_at]; exact ⟨(h.inb k (by omega)).1, b1⟩
    · rw [upd_ne row _ e]; exact h.inb k hk
  · rw [hasL_set (C := fun u v => hasR ⟨x, y0, x', y1⟩ u v) u v ?_ (m + 1) (by omega)]
    · exact row_cell hx hp hy (h.has u v)
    · apply Bool.eq_iff_iff.2
      rw [Bool.or_eq_true, hasR_iff, hasR_iff, hasR_iff]
      simp only
      omega
/-- What the grid's rows have made, up to a line. -/
structure OutOk (B C : Int → Prop) (P : Int → Int → Bool) (y : Int) (out : Nat → R) (n : Nat) : Prop where
  ne : ∀ k, k < n → (out k).x0 < (out k).x1 ∧ (out k).y0 < (out k).y1
  inb : ∀ k, k < n → B (out k).x0 ∧ B (out k).x1 ∧ C (out k).y0 ∧ C (out k).y1
  has : ∀ u v, hasL out n u v = true ↔ v < y ∧ P u v = true
theorem OutOk.app {B C : Int → Prop} {P : Int → Int → Bool} {y y' x : Int} {out row : Nat → R} {n m : Nat} (h : OutOk B C P y out n) (hr : RowOk B y y' (fun u => P u y) x row m) (hy : y < y') (c0 : C y) (c1 : C y') (hP : ∀ u v, y ≤ v → v < y' → P u v = P u y) (hx : ∀ u, P u y = true → u < x) : OutOk B C P y' (appF out n row) (n + m) := by
  refine ⟨fun k hk => ?_, fun k hk => ?_, fun u v => ?_⟩
  · by_cases e : k < n
    · rw [appF_lt _ _ e]; exact h.ne k e
    · obtain ⟨i, rfl⟩ : ∃ i, k = n + i := ⟨k - n, by omega⟩
      rw [appF_ge]
      have := hr.ys_ i (by omega)
      exact ⟨hr.xs_ i (by omega), by omega⟩
  · by_cases e : k < n
    · rw [appF_lt _ _ e]; exact h.inb k e
    · obtain ⟨i, rfl⟩ : ∃ i, k = n + i := ⟨k - n, by omega⟩
      rw [appF_ge]
      obtain ⟨q1, q2⟩ := hr.ys_ i (by omega)
      rw [q1, q2]
      exact ⟨(hr.inb i (by omega)).1, (hr.inb i (by omega)).2, c0, c1⟩
  · rw [hasL_app, Bool.or_eq_true, h.has u v, hr.has u v]
    constructor
    · rintro (⟨h1, h2⟩ | ⟨h1, h2, h3⟩)
      · exact ⟨by omega, h2⟩
      · exact ⟨h1.2, by rw [hP u v h1.1 h1.2]; exact h3⟩
    · rintro ⟨h1, h2⟩
      by_cases e : v < y
      · exact Or.inl ⟨e, h2⟩
      · rw [hP u v (by omega) h1] at h2
        exact Or.inr ⟨⟨by omega, h1⟩, hx u h2, h2⟩
/-- The rows from one on, drawn out to a new line. -/
def drawn (out : Nat → R) (last t : Nat) (y' : Int) : Nat → R := fun k => if last ≤ k ∧ k < t then ⟨(out k).x0, (out k).y0, (out k).x1, y'⟩ else out k
theorem drawn_has {out row : Nat → R} {last n : Nat} {y y' : Int} (u v : Int) (hy : y < y') (hn : ∀ k, k < n → (out k).y0 < (out k).y1) (h : ∀ i, last + i < n → (out (last + i)).x0 = (row i).x0 ∧ (out (last + i)).x1 = (row i).x1 ∧ (out (last + i)).y1 = y ∧ (row i).y0 = y ∧ (row i).y1 = y') : ∀ m, last + m ≤ n → hasL (drawn out last n y') (last + m) u v = (hasL out (last + m) u v || hasL row m u v)
  | 0, hm => by
    rw [Nat.add_zero, hasL_congr (g := out) u v last fun i hi => by unfold drawn; rw [if_neg (by omega)]]
    simp [hasL]
  | m + 1, hm => by
    show (hasL (drawn out last n y') (last + m) u v || hasR (drawn out last n y' (last + m)) u v) = ((hasL out (last + m) u v || hasR (out (last + m)) u v) || (hasL row m u v || hasR (row m) u v))
    rw [drawn_has u v hy hn h m (by omega)]
    obtain ⟨q0, q1, q2, q3, q4⟩ := h m (by omega)
    have q5 := hn (last + m) (by omega)
    have e : hasR (drawn out last n y' (last + m)) u v = (hasR (out (last + m)) u v || hasR (row m) u v) := by
      unfold drawn
      rw [if_pos (by omega)]
      apply Bool.eq_iff_iff.2
      rw [Bool.or_eq_true, hasR_iff, hasR_iff, hasR_iff]
      simp only
      omega
    rw [e]
    cases hasL out (last + m) u v <;> cases hasR (out (last + m)) u v <;> cases hasL row m u v <;> cases hasR (row m) u v <;> rfl
theorem OutOk.join {B C : Int → Prop} {P : Int → Int → Bool} {y y' x : Int} {out row : Nat → R} {n m last : Nat} (h : OutOk B C P y out n) (hr : RowOk B y y' (fun u => P u y) x row m) (hy : y < y') (c1 : C y') (hP : ∀ u v, y ≤ v → v < y' → P u v = P u y) (hx : ∀ u, P u y = true → u < x) (hl : last + m = n) (hs : ∀ i, i < m → (out (last + i)).x0 = (row i).x0 ∧ (out (last + i)).x1 = (row i).x1 ∧ (out (last + i)).y1 = y) : OutOk B C P y' (drawn out last n y') n := by
  refine ⟨fun k hk => ?_, fun k hk => ?_, fun u v => ?_⟩
  · have := h.ne k hk
    unfold drawn
    split
    · rename_i c
      obtain ⟨i, rfl⟩ : ∃ i, k = last + i := ⟨k - last, by omega⟩
      have q := hs i (by omega)
      exact ⟨this.1, by show (out (last + i)).y0 < y'; omega⟩
    · exact this
  · have := h.inb k hk
    unfold drawn
    split
    · exact ⟨this.1, this.2.1, this.2.2.1, c1⟩
    · exact this
  · have e := drawn_has (out := out) (row := row) (last := last) (n := n) u v hy (fun k hk => (h.ne k hk).2) (fun i hi => by
      have q := hs i (by omega)
      have q2 := hr.ys_ i (by omega)
      exact ⟨q.1, q.2.1, q.2.2, q2.1, q2.2⟩) m (by omega)
    rw [hl] at e
    rw [e, Bool.or_eq_true, h.has u v, hr.has u v]
    constructor
    · rintro (⟨h1, h2⟩ | ⟨h1, h2, h3⟩)
      · exact ⟨by omega, h2⟩
      · exact ⟨h1.2, by rw [hP u v h1.1 h1.2]; exact h3⟩
    · rintro ⟨h1, h2⟩
      by_cases e : v < y
      · exact Or.inl ⟨e, h2⟩
      · rw [hP u v (by omega) h1] at h2
        exact Or.inr ⟨⟨by omega, h1⟩, hx u h2, h2⟩
end Go.Proofs.YtklcmlbkhjcaiaaDoor

/- Layer 4, the document's: a store into a rectangle of a list of the call's own. -/

namespace Go.Proofs.YtklcmlbkhjcaiaaDoor
open Go.RowKit
set_option linter.unusedVariables false

theorem cellsL_set {c : Nat → List Value} {s : Nat} (h : ∀ i, (c i).length = s) (i j : Nat) (u : Value) (hj : j < s) : ∀ k, i < k → (cellsL c k).set (i * s + j) u = cellsL (upd c i ((c i).set j u)) k
  | 0, hi => absurd hi (by omega)
  | k + 1, hi => by
    have hl := cellsL_length h k
    show (cellsL c k ++ c k).set (i * s + j) u = cellsL (upd c i ((c i).set j u)) k ++ upd c i ((c i).set j u) k
    by_cases e : i = k
    · subst e
      rw [upd_at, List.set_append_right _ _ (by omega), hl, cellsL_congr (c' := c) i fun t ht => upd_ne c _ (by omega)]
      congr 2
      omega
    · have hm : i * s + s ≤ k * s := by
        have : (i + 1) * s ≤ k * s := Nat.mul_le_mul_right s (by omega)
        rw [Nat.succ_mul] at this
        exact this
      rw [upd_ne c _ (by omega : k ≠ i), List.set_append_left _ _ (by omega), cellsL_set h i j u hj k (by omega)]
theorem upd_rc (g : Nat → R) (i : Nat) (r : R) {l : List Value} (h : l = rcC r) : upd (fun t => rcC (g t)) i l = fun t => rcC (upd g i r t) := by
  funext t
  unfold upd
  split
  · exact h
  · rfl
theorem rects_set2 {w : World} {base p k cap : Nat} {T : TypeId} {g : Nat → R} (h : w.ownsRow base T 4 (.slice (some ⟨p, 0, none⟩) k cap) k (cellsL (fun i => rcC (g i)) k)) {i : Nat} (hi : i < k) (v : Int) :
    (w.setCell ⟨p, i * 4 + 2, none⟩ (.int .i64 v)).ownsRow base T 4 (.slice (some ⟨p, 0, none⟩) k cap) k (cellsL (fun t => rcC (upd g i ⟨(g i).x0, (g i).y0, v, (g i).y1⟩ t)) k) ∧ w.grownBy (w.setCell ⟨p, i * 4 + 2, none⟩ (.int .i64 v)) (some p) := by
  have e := h.stored (i * 4 + 2) (.int .i64 v)
  rw [cellsL_set (fun i => rcC_length (g i)) i 2 _ (by omega) k hi, upd_rc g i ⟨(g i).x0, (g i).y0, v, (g i).y1⟩ (l := (rcC (g i)).set 2 (.int .i64 v)) rfl] at e
  exact e
theorem rects_set3 {w : World} {base p k cap : Nat} {T : TypeId} {g : Nat → R} (h : w.ownsRow base T 4 (.slice (some ⟨p, 0, none⟩) k cap) k (cellsL (fun i => rcC (g i)) k)) {i : Nat} (hi : i < k) (v : Int) :
    (w.setCell ⟨p, i * 4 + 3, none⟩ (.int .i64 v)).ownsRow base T 4 (.slice (some ⟨p, 0, none⟩) k cap) k (cellsL (fun t => rcC (upd g i ⟨(g i).x0, (g i).y0, (g i).x1, v⟩ t)) k) ∧ w.grownBy (w.setCell ⟨p, i * 4 + 3, none⟩ (.int .i64 v)) (some p) := by
  have e := h.stored (i * 4 + 3) (.int .i64 v)
  rw [cellsL_set (fun i => rcC_length (g i)) i 3 _ (by omega) k hi, upd_rc g i ⟨(g i).x0, (g i).y0, (g i).x1, v⟩ (l := (rcC (g i)).set 3 (.int .i64 v)) rfl] at e
  exact e
/-- One row more is drawn out. -/
theorem drawn_step (out : Nat → R) (last t : Nat) (y' : Int) (h : last ≤ t) : upd (drawn out last t y') t ⟨(drawn out last t y' t).x0, (drawn out last t y' t).y0, (drawn out last t y' t).x1, y'⟩ = drawn out last (t + 1) y' := by
  funext k
  by_cases e : k = t
  · subst e
    rw [upd_at]
    have : drawn out last k y' k = out k := by unfold drawn; rw [if_neg (by omega)]
    rw [this]
    unfold drawn
    rw [if_pos (by omega)]
  · rw [upd_ne _ _ e]
    unfold drawn
    by_cases c : last ≤ k ∧ k < t
    · rw [if_pos c, if_pos (by omega)]
    · rw [if_neg c, if_neg (by omega)]
theorem drawn_none (out : Nat → R) (last : Nat) (y' : Int) : drawn out last last y' = out := by
  funext k
  unfold drawn
  rw [if_neg (by omega)]
/-- A list that rises, between its first and last: a number lies in one gap. -/
theorem sort_first {xs : Nat → Int} {n : Nat} (hs : SortS xs n) {z : Int} (hz : inL xs n z) : xs 0 ≤ z ∧ z ≤ xs (n - 1) := by
  obtain ⟨k, hk, rfl⟩ := hz
  constructor
  · rcases Nat.eq_zero_or_pos k with e | e
    · subst e; omega
    · have := hs 0 k e hk; omega
  · by_cases e : k = n - 1
    · subst e; omega
    · have := hs k (n - 1) (by omega) (by omega); omega
end Go.Proofs.YtklcmlbkhjcaiaaDoor

/- Layer 4, the document's, plain: the grid as one; a literal appended to a region. -/

namespace Go.Proofs.YtklcmlbkhjcaiaaDoor
open Go.RowKit
set_option linter.unusedVariables false

/-- The grid: the edges' lists rise, all points of a cell are alike, and outside of the grid nothing is wanted. -/
structure GridOk (B C : Int → Prop) (xs : Nat → Int) (nx : Nat) (ys : Nat → Int) (ny : Nat) (P : Int → Int → Bool) : Prop where
  sx : SortS xs nx
  sy : SortS ys ny
  bx : ∀ z, inL xs nx z → B z
  cy : ∀ z, inL ys ny z → C z
  cell : ∀ i j u v, i + 1 < nx → j + 1 < ny → xs i ≤ u → u < xs (i + 1) → ys j ≤ v → v < ys (j + 1) → P u v = P (xs i) (ys j)
  ins : ∀ u v, P u v = true → (0 < nx ∧ xs 0 ≤ u ∧ u < xs (nx - 1)) ∧ (0 < ny ∧ ys 0 ≤ v ∧ v < ys (ny - 1))
theorem gap_find {xs : Nat → Int} {u : Int} : ∀ n, xs 0 ≤ u → u < xs n → ∃ i, i < n ∧ xs i ≤ u ∧ u < xs (i + 1)
  | 0, h0, h1 => by omega
  | n + 1, h0, h1 => by
    by_cases e : u < xs n
    · obtain ⟨i, hi, h2⟩ := gap_find n h0 e
      exact ⟨i, by omega, h2⟩
    · exact ⟨n, by omega, by omega, h1⟩
theorem GridOk.line {B C : Int → Prop} {xs ys : Nat → Int} {nx ny : Nat} {P : Int → Int → Bool} (h : GridOk B C xs nx ys ny P) {j : Nat} (hj : j + 1 < ny) {u v : Int} (h1 : ys j ≤ v) (h2 : v < ys (j + 1)) : P u v = P u (ys j) := by
  by_cases e : 0 < nx ∧ xs 0 ≤ u ∧ u < xs (nx - 1)
  · obtain ⟨i, hi, h3, h4⟩ := gap_find (nx - 1) e.2.1 e.2.2
    have hs := h.sy j (j + 1) (by omega) hj
    rw [h.cell i j u v (by omega) hj h3 h4 h1 h2, h.cell i j u (ys j) (by omega) hj h3 h4 (by omega) hs]
  · have no : ∀ z, P u z = false := fun z => by
      cases c : P u z
      · rfl
      · exact absurd (h.ins u z c).1 e
    rw [no, no]
theorem GridOk.row {B C : Int → Prop} {xs ys : Nat → Int} {nx ny : Nat} {P : Int → Int → Bool} (h : GridOk B C xs nx ys ny P) {i j : Nat} (hi : i + 1 < nx) (hj : j + 1 < ny) : ∀ u, xs i ≤ u → u < xs (i + 1) → (fun u => P u (ys j)) u = (fun u => P u (ys j)) (xs i) := fun u h1 h2 =>
  h.cell i j u (ys j) hi hj h1 h2 (Int.le_refl _) (h.sy j (j + 1) (by omega) hj)
theorem GridOk.row0 {B C : Int → Prop} {xs ys : Nat → Int} {nx ny : Nat} {P : Int → Int → Bool} (h : GridOk B C xs nx ys ny P) (row : Nat → R) (y0 y1 v : Int) : RowOk B y0 y1 (fun u => P u v) (xs 0) row 0 := RowOk.nil row fun u hu => by
  cases c : P u v
  · rfl
  · have := (h.ins u v c).1; omega
theorem GridOk.last {B C : Int → Prop} {xs ys : Nat → Int} {nx ny : Nat} {P : Int → Int → Bool} (h : GridOk B C xs nx ys ny P) (v : Int) : ∀ u, P u v = true → u < xs (nx - 1) := fun u c => (h.ins u v c).1.2.2
theorem GridOk.out0 {B C : Int → Prop} {xs ys : Nat → Int} {nx ny : Nat} {P : Int → Int → Bool} (h : GridOk B C xs nx ys ny P) (out : Nat → R) : OutOk B C P (ys 0) out 0 :=
  ⟨fun k hk => by omega, fun k hk => by omega, fun u v => ⟨fun e => (by cases e), fun ⟨h1, h2⟩ => (by have := (h.ins u v h2).2; omega)⟩⟩
theorem GridOk.whole {B C : Int → Prop} {xs ys : Nat → Int} {nx ny : Nat} {P : Int → Int → Bool} (h : GridOk B C xs nx ys ny P) {out : Nat → R} {n : Nat} (ho : OutOk B C P (ys (ny - 1)) out n) (u v : Int) : hasL out n u v = P u v := by
  apply Bool.eq_iff_iff.2
  rw [ho.has u v]
  exact ⟨fun e => e.2, fun e => ⟨(h.ins u v e).2.2.2, e⟩⟩
theorem GridOk.inx {B C : Int → Prop} {xs ys : Nat → Int} {nx ny : Nat} {P : Int → Int → Bool} (h : GridOk B C xs nx ys ny P) {i : Nat} (hi : i < nx) : B (xs i) := h.bx _ ⟨i, hi, rfl⟩
theorem GridOk.iny {B C : Int → Prop} {xs ys : Nat → Int} {nx ny : Nat} {P : Int → Int → Bool} (h : GridOk B C xs nx ys ny P) {i : Nat} (hi : i < ny) : C (ys i) := h.cy _ ⟨i, hi, rfl⟩
/-- A rectangle's edges, if it is not empty. -/
def inBC (B C : Int → Prop) (r : R) : Prop := emptyR r = false → (B r.x0 ∧ B r.x1) ∧ C r.y0 ∧ C r.y1
theorem wantB_in {how : Int} {i t : Bool} (h : wantB how i t = true) : i = true ∨ t = true := by
  unfold wantB at h
  split at h
  · simpa using h
  split at h
  · simp at h; exact .inl h.1
  · simp at h; exact .inl h.1
theorem grid_ok {B C : Int → Prop} {xs ys : Nat → Int} {nx ny la lc : Nat} {f g : Nat → R} (how : Int) (hx : SortS xs nx) (hy : SortS ys ny) (bx : ∀ z, inL xs nx z → B z) (cy : ∀ z, inL ys ny z → C z)
    (m1 : ∀ i, i < la + lc → emptyR (appF f la g i) = false → inL xs nx (appF f la g i).x0 ∧ inL xs nx (appF f la g i).x1) (m2 : ∀ i, i < la + lc → emptyR (appF f la g i) = false → inL ys ny (appF f la g i).y0 ∧ inL ys ny (appF f la g i).y1) :
    GridOk B C xs nx ys ny (fun u v => wantB how (hasL f la u v) (hasL g lc u v)) := by
  have EF : ∀ k, k < la → EdgeIn xs nx ys ny (f k) := fun k hk he => by
    have a := m1 k (by omega)
    have b := m2 k (by omega)
    rw [appF_lt f g hk] at a b
    exact ⟨(a he).1, (a he).2, (b he).1, (b he).2⟩
  have EG : ∀ k, k < lc → EdgeIn xs nx ys ny (g k) := fun k hk he => by
    have a := m1 (la + k) (by omega)
    have b := m2 (la + k) (by omega)
    rw [appF_ge f g la k] at a b
    exact ⟨(a he).1, (a he).2, (b he).1, (b he).2⟩
  have ONE : ∀ r u v, EdgeIn xs nx ys ny r → hasR r u v = true → (0 < nx ∧ xs 0 ≤ u ∧ u < xs (nx - 1)) ∧ (0 < ny ∧ ys 0 ≤ v ∧ v < ys (ny - 1)) := fun r u v he hh => by
    have k := (hasR_iff _ _ _).1 hh
    have ne : emptyR r = false := (emptyR_not r).2 (by omega)
    obtain ⟨a0, a1, b0, b1⟩ := he ne
    have p0 := sort_first hx a0
    have p1 := sort_first hx a1
    have q0 := sort_first hy b0
    have q1 := sort_first hy b1
    obtain ⟨i, hi, -⟩ := a0
    obtain ⟨j, hj, -⟩ := b0
    omega
  refine ⟨hx, hy, bx, cy, fun i j u v hi hj h1 h2 h3 h4 => ?_, fun u v h => ?_⟩
  · show wantB how (hasL f la u v) (hasL g lc u v) = wantB how (hasL f la (xs i) (ys j)) (hasL g lc (xs i) (ys j))
    rw [grid_hasL hx hy hi hj ⟨h1, h2⟩ ⟨h3, h4⟩ la EF, grid_hasL hx hy hi hj ⟨h1, h2⟩ ⟨h3, h4⟩ lc EG]
  · rcases wantB_in h with h | h
    · obtain ⟨k, hk, e⟩ := (hasL_iff f u v la).1 h
      exact ONE _ u v (EF k hk) e
    · obtain ⟨k, hk, e⟩ := (hasL_iff g u v lc).1 h
      exact ONE _ u v (EG k hk) e
theorem ownsRow_upd {w : World} {base k m cap : Nat} {T : TypeId} {ad : Option Addr} {g : Nat → R} {b : R} (h : w.ownsRow base T 4 (.slice ad m cap) k (cellsL (fun i => rcC (g i)) k)) : w.ownsRow base T 4 (.slice ad m cap) k (cellsL (fun i => rcC (upd g k b i)) k) := by
  rw [cellsL_congr (c' := fun i => rcC (g i)) k fun i hi => by show rcC (upd g k b i) = rcC (g i); rw [upd_ne g b (by omega)]]
  exact h
theorem step_append_rectT {ops : Array Oper} {o : Oper} {a : Act} {w : World} {K : Act → World → Prop} {Q : Exit → Act → World → Prop} {E : Prop} (hgd : o.guard = none) (s x : Operand) (T : TypeId) (hT : Tryd.prog.underlying T = some (.slice 27))
    (ho : o.op = .call { callee := .builtin .append, args := #[s, x], argTypes := #[T, T] })
    (base : Nat) (ad : Option Addr) (k cap : Nat) (g : Nat → R) (b : R) (hs : a.eval s = .slice ad k cap) (hown : w.ownsRow base 27 4 (.slice ad k cap) k (cellsL (fun i => rcC (g i)) k))
    (n c : Nat) (hx : a.eval x = .slice (some ⟨n, 0, none⟩) 1 c) (hn : Blk w n 27 #[.int .i64 b.x0, .int .i64 b.y0, .int .i64 b.x1, .int .i64 b.y1]) (hk : k ≤ 30000000) (hbase : base ≤ w.heap.size)
    (h : ∀ p cap' w', w'.ownsRow base 27 4 (.slice (some ⟨p, 0, none⟩) (k + 1) cap') (k + 1) (cellsL (fun i => rcC (upd g k b i)) (k + 1)) → w.grownBy w' (blkOf ad) → (blkOf ad = some p ∨ p = w.heap.size) → p < w'.heap.size → K (a.put o.dst (.slice (some ⟨p, 0, none⟩) (k + 1) cap')) w') :
    if Region.wanted o (yielded ops a.tmps) = true then Oper.wp Tryd.prog o a w K Q else E := by
  obtain ⟨i, hi, hz, hsz, hb⟩ := info_parts rect_parts
  refine step_append_lies w hgd s x T ho base 27 i _ 4 32 hT hi hz hsz hb rfl (by omega) (.slice ad k cap) k (cellsL (fun i => rcC (g i)) k) hs hown ⟨n, 0, none⟩ 1 c (rcC b) hx rfl (fun j u hu => ?_) (fun u hu => rcC_one hu) (by omega) (by unfold maxLen; omega) (by omega) hbase w.heap.size rfl ?_
  · rw [Go.Addr.add_mid, Nat.zero_add, hn.cell]
    simpa [rcC] using hu
  · intro p cap' w' h1 h2 h3 h4
    refine h p cap' w' ?_ ?_ ?_ h4
    · rw [cellsL_upd]; exact h1
    · cases ad <;> exact h2
    · cases ad
      · exact h3.imp (fun e => by simp [Value.ownBlock] at e) id
      · exact h3
theorem wpList_append_rectT {ops : Array Oper} {rest : List Oper} {o : Oper} {a : Act} {w : World} {Q : Exit → Act → World → Prop} (hgd : o.guard = none) (s x : Operand) (T : TypeId) (hT : Tryd.prog.underlying T = some (.slice 27))
    (ho : o.op = .call { callee := .builtin .append, args := #[s, x], argTypes := #[T, T] })
    (base : Nat) (ad : Option Addr) (k cap : Nat) (g : Nat → R) (b : R) (hs : a.eval s = .slice ad k cap) (hown : w.ownsRow base 27 4 (.slice ad k cap) k (cellsL (fun i => rcC (g i)) k))
    (n c : Nat) (hx : a.eval x = .slice (some ⟨n, 0, none⟩) 1 c) (hn : Blk w n 27 #[.int .i64 b.x0, .int .i64 b.y0, .int .i64 b.x1, .int .i64 b.y1]) (hk : k ≤ 30000000) (hbase : base ≤ w.heap.size)
    (h : ∀ p cap' w', w'.ownsRow base 27 4 (.slice (some ⟨p, 0, none⟩) (k + 1) cap') (k + 1) (cellsL (fun i => rcC (upd g k b i)) (k + 1)) → w.grownBy w' (blkOf ad) → (blkOf ad = some p ∨ p = w.heap.size) → p < w'.heap.size → wpList Tryd.prog ops Q rest (a.put o.dst (.slice (some ⟨p, 0, none⟩) (k + 1) cap')) w') : wpList Tryd.prog ops Q (o :: rest) a w := by
  obtain ⟨i, hi, hz, hsz, hb⟩ := info_parts rect_parts
  refine wpList_append_lies w hgd s x T ho base 27 i _ 4 32 hT hi hz hsz hb rfl (by omega) (.slice ad k cap) k (cellsL (fun i => rcC (g i)) k) hs hown ⟨n, 0, none⟩ 1 c (rcC b) hx rfl (fun j u hu => ?_) (fun u hu => rcC_one hu) (by omega) (by unfold maxLen; omega) (by omega) hbase w.heap.size rfl ?_
  · rw [Go.Addr.add_mid, Nat.zero_add, hn.cell]
    simpa [rcC] using hu
  · intro p cap' w' h1 h2 h3 h4
    refine h p cap' w' ?_ ?_ ?_ h4
    · rw [cellsL_upd]; exact h1
    · cases ad <;> exact h2
    · cases ad
      · exact h3.imp (fun e => by simp [Value.ownBlock] at e) id
      · exact h3
end Go.Proofs.YtklcmlbkhjcaiaaDoor

/- Layer 4, the document's: the walk of Sets. -/

namespace Go.Proofs.YtklcmlbkhjcaiaaDoor
open Go.RowKit
set_option linter.unusedVariables false

/-- A coordinate that lies on the plane. -/
def onPl (z : Int) : Prop := -4398046511104 ≤ z ∧ z ≤ 4398046511104
def plR (r : R) : Prop := emptyR r = false → onPl r.x0 ∧ onPl r.x1 ∧ onPl r.y0 ∧ onPl r.y1
def cellR (r : R) : Prop := -9223372036854775808 ≤ r.x0 ∧ r.x0 ≤ 9223372036854775807
/-- The edges that are gathered. -/
structure EdgeSt (B : Int → Prop) (w : World) (a1 : Option Addr) (nx cx : Nat) (xs : Nat → Int) (f : Nat → R) (k : Nat) (p : R → Int) (q : R → Int) : Prop where
  ints : IsInts w a1 nx cx xs
  sort : SortS xs nx
  mem : ∀ i, i < k → emptyR (f i) = false → inL xs nx (p (f i)) ∧ inL xs nx (q (f i))
  pl : ∀ z, inL xs nx z → B z
  few : nx ≤ 2 * k
theorem EdgeSt.grows {B : Int → Prop} {w w' : World} {a1 : Option Addr} {nx cx : Nat} {xs : Nat → Int} {f : Nat → R} {k : Nat} {p q : R → Int} (h : EdgeSt B w a1 nx cx xs f k p q) (g : Grows w w') : EdgeSt B w' a1 nx cx xs f k p q := ⟨h.ints.grows g, h.sort, h.mem, h.pl, h.few⟩
theorem EdgeSt.nil (B : Int → Prop) (w : World) (xs : Nat → Int) (f : Nat → R) (p q : R → Int) : EdgeSt B w none 0 0 xs f 0 p q := ⟨IsInts.nil w xs, fun i j h1 h2 => by omega, fun i hi => by omega, fun z ⟨i, hi, _⟩ => by omega, by omega⟩
theorem EdgeSt.skip {B : Int → Prop} {w : World} {a1 : Option Addr} {nx cx : Nat} {xs : Nat → Int} {f : Nat → R} {k : Nat} {p q : R → Int} (h : EdgeSt B w a1 nx cx xs f k p q) (he : emptyR (f k) = true) : EdgeSt B w a1 nx cx xs f (k + 1) p q :=
  ⟨h.ints, h.sort, fun i hi hn => by
    by_cases e : i = k
    · subst e; rw [he] at hn; cases hn
    · exact h.mem i (by omega) hn, h.pl, by have := h.few; omega⟩
theorem EdgeSt.put2 {B : Int → Prop} {w w' : World} {a1 a2 : Option Addr} {nx cx n1 n2 c2 : Nat} {xs g1 g2 : Nat → Int} {f : Nat → R} {k : Nat} {p q : R → Int} (h : EdgeSt B w a1 nx cx xs f k p q) (i2 : IsInts w' a2 n2 c2 g2) (s2 : SortS g2 n2)
    (m1 : ∀ z, inL g1 n1 z ↔ z = p (f k) ∨ inL xs nx z) (m2 : ∀ z, inL g2 n2 z ↔ z = q (f k) ∨ inL g1 n1 z) (l1 : n1 ≤ nx + 1) (l2 : n2 ≤ n1 + 1) (b1 : B (p (f k))) (b2 : B (q (f k))) : EdgeSt B w' a2 n2 c2 g2 f (k + 1) p q := by
  have hm : ∀ z, inL g2 n2 z ↔ z = q (f k) ∨ z = p (f k) ∨ inL xs nx z := fun z => by rw [m2 z, m1 z]
  refine ⟨i2, s2, fun i hi hn => ?_, fun z hz => ?_, by have := h.few; omega⟩
  · by_cases e : i = k
    · subst e
      exact ⟨(hm _).2 (Or.inr (Or.inl rfl)), (hm _).2 (Or.inl rfl)⟩
    · obtain ⟨q1, q2⟩ := h.mem i (by omega) hn
      exact ⟨(hm _).2 (Or.inr (Or.inr q1)), (hm _).2 (Or.inr (Or.inr q2))⟩
  · rcases (hm z).1 hz with e | e | e
    · rw [e]; exact b2
    · rw [e]; exact b1
    · exact h.pl z e
/-- What the grid answers: rectangles that are not empty, with edges of the given ones, and few. -/
structure SetsOk (B C : Int → Prop) (na : Nat) (o : Nat → R) (n : Nat) : Prop where
  ne : ∀ k, k < n → emptyR (o k) = false
  inb : ∀ k, k < n → (B (o k).x0 ∧ B (o k).x1) ∧ C (o k).y0 ∧ C (o k).y1
  grid : ∃ (xs : Nat → Int) (nx : Nat) (ys : Nat → Int) (ny : Nat), SortS xs nx ∧ SortS ys ny ∧ (∀ z, inL xs nx z → B z) ∧ (∀ z, inL ys ny z → C z) ∧ nx ≤ 2 * na ∧ ny ≤ 2 * na ∧ n ≤ (ny - 1) * (nx - 1)
theorem GridOk.done {B C : Int → Prop} {xs ys : Nat → Int} {nx ny na : Nat} {P : Int → Int → Bool} (h : GridOk B C xs nx ys ny P) {y : Int} {o : Nat → R} {n : Nat} (ho : OutOk B C P y o n) (h1 : nx ≤ 2 * na) (h2 : ny ≤ 2 * na) (hn : n ≤ (ny - 1) * (nx - 1)) : SetsOk B C na o n :=
  ⟨fun k hk => (emptyR_not _).2 (by have := ho.ne k hk; omega), fun k hk => by have := ho.inb k hk; exact ⟨⟨this.1, this.2.1⟩, this.2.2⟩, xs, nx, ys, ny, h.sx, h.sy, h.bx, h.cy, h1, h2, hn⟩
theorem SetsOk.most {B C : Int → Prop} {na n : Nat} {o : Nat → R} (h : SetsOk B C na o n) : n ≤ (2 * na - 1) * (2 * na - 1) := by
  obtain ⟨xs, nx, ys, ny, -, -, -, -, h1, h2, h3⟩ := h.grid
  exact Nat.le_trans h3 (Nat.mul_le_mul (by omega) (by omega))
/-- A list that rises has at most two numbers of two. -/
theorem sort_two {xs : Nat → Int} {n : Nat} {p q : Int} (hs : SortS xs n) (h : ∀ z, inL xs n z → z = p ∨ z = q) : n ≤ 2 := by
  rcases Nat.lt_or_ge 2 n with e | e
  · have h0 := h _ ⟨0, by omega, rfl⟩
    have h1 := h _ ⟨1, by omega, rfl⟩
    have h2 := h _ ⟨2, by omega, rfl⟩
    have s1 := hs 0 1 (by omega) (by omega)
    have s2 := hs 1 2 (by omega) (by omega)
    omega
  · exact e
theorem SetsOk.two {p q p' q' : Int} {na n : Nat} {o : Nat → R} (h : SetsOk (fun z => z = p ∨ z = q) (fun z => z = p' ∨ z = q') na o n) : n ≤ 1 := by
  obtain ⟨xs, nx, ys, ny, h1, h2, h3, h4, -, -, h5⟩ := h.grid
  have e1 := sort_two h1 h3
  have e2 := sort_two h2 h4
  exact Nat.le_trans h5 (Nat.mul_le_mul (show ny - 1 ≤ 1 by omega) (show nx - 1 ≤ 1 by omega))
theorem SetsOk.none {B C : Int → Prop} {na : Nat} {o : Nat → R} : ∀ u v, hasL o 0 u v = false := fun u v => rfl
/-- A list of rectangles is answered: the points are H's. -/
def RetSets (W : World) (B C : Int → Prop) (na : Nat) (H : Int → Int → Bool) : Ending → World → Prop := fun e w' => ∃ (a' : Option Addr) (n cap' : Nat) (o : Nat → R), e = .returned (.slice a' n cap') ∧ Grows W w' ∧ Hid (IsRects w' a' n cap' o ∧ (∀ u v, hasL o n u v = H u v) ∧ SetsOk B C na o n)
/-- The rectangles of a list of the call's own, in memory. -/
theorem own_rects {w : World} {base k cap : Nat} {T : TypeId} {ad : Option Addr} {g : Nat → R} (h : w.ownsRow base T 4 (.slice ad k cap) k (cellsL (fun i => rcC (g i)) k)) (h0 : 0 < k) : ∃ b z, ad = some ⟨b, z, none⟩ ∧ Hid (z = 0) ∧ b < w.heap.size ∧ Hid (∀ i, i < k → w.cell? ⟨b, z + i * 4, none⟩ = some (.int .i64 (g i).x0) ∧ w.cell? ⟨b, z + i * 4 + 1, none⟩ = some (.int .i64 (g i).y0) ∧ w.cell? ⟨b, z + i * 4 + 2, none⟩ = some (.int .i64 (g i).x1) ∧ w.cell? ⟨b, z + i * 4 + 3, none⟩ = some (.int .i64 (g i).y1)) ∧ ∀ i, w.frozen? ⟨b, i, none⟩ = false := by
  obtain ⟨b, rfl, _, hb, hc⟩ := ownL_at h (fun i => rcC_length (g i)) h0
  refine ⟨b, 0, rfl, rfl, hb, fun i hi => ?_, fun i => ?_⟩
  · have c0 := hc i 0 hi (by omega)
    have c1 := hc i 1 hi (by omega)
    have c2 := hc i 2 hi (by omega)
    have c3 := hc i 3 hi (by omega)
    simp only [Nat.zero_add]
    exact ⟨c0, c1, c2, c3⟩
  · rcases h.2 with ⟨hv, _⟩ | ⟨g1, c1, cur, hv, _, hg, _⟩
    · injection hv with e1 e2 e3; cases e1
    · injection hv with e1 e2 e3
      injection e1 with e1
      injection e1 with e1
      subst e1
      unfold World.frozen?
      simp only [hg]
      simp
theorem rects_put2 {w : World} {base p z k cap : Nat} {T : TypeId} {g : Nat → R} (hz : z = 0) (h : w.ownsRow base T 4 (.slice (some ⟨p, z, none⟩) k cap) k (cellsL (fun i => rcC (g i)) k)) {i : Nat} (hi : i < k) (v : Int) :
    (w.setCell ⟨p, z + i * 4 + 2, none⟩ (.int .i64 v)).ownsRow base T 4 (.slice (some ⟨p, z, none⟩) k cap) k (cellsL (fun t => rcC (upd g i ⟨(g i).x0, (g i).y0, v, (g i).y1⟩ t)) k) ∧ w.grownBy (w.setCell ⟨p, z + i * 4 + 2, none⟩ (.int .i64 v)) (some p) := by
  subst hz
  rw [Nat.zero_add]
  exact rects_set2 h hi v
theorem rects_put3 {w : World} {base p z k cap : Nat} {T : TypeId} {g : Nat → R} (hz : z = 0) (h : w.ownsRow base T 4 (.slice (some ⟨p, z, none⟩) k cap) k (cellsL (fun i => rcC (g i)) k)) {i : Nat} (hi : i < k) (v : Int) :
    (w.setCell ⟨p, z + i * 4 + 3, none⟩ (.int .i64 v)).ownsRow base T 4 (.slice (some ⟨p, z, none⟩) k cap) k (cellsL (fun t => rcC (upd g i ⟨(g i).x0, (g i).y0, (g i).x1, v⟩ t)) k) ∧ w.grownBy (w.setCell ⟨p, z + i * 4 + 3, none⟩ (.int .i64 v)) (some p) := by
  subst hz
  rw [Nat.zero_add]
  exact rects_set3 h hi v
end Go.Proofs.YtklcmlbkhjcaiaaDoor
