/- The walk of chapter 7's law TintRows. -/
import Derived.Test.YtghcpjahieaepaaLawTint4
import Derived.Test.YtghcpjahieaepaaBlkA
import Derived.Deep.AppendLies
import Derived.Deep.RegionHeld3
import Derived.Laws.IdiomCopy
namespace Go.Proofs.Ytghcpjahieaepaa
open Go.RowKit
set_option linter.unusedVariables false

/-- Fifteen numbers of a matrix, and a row that keeps alpha full. -/
def fullM (m : Nat → Int) (i : Nat) : Int := if i < 15 then m i else if i = 19 then 256 else 0
theorem full_bd (m : Nat → Int) (h : ∀ i, i < 20 → -32768 ≤ m i ∧ m i ≤ 32767) : ∀ i, i < 20 → -32768 ≤ fullM m i ∧ fullM m i ≤ 32767 := fun i hi => by
  unfold fullM
  split
  · exact h i hi
  split
  · omega
  · omega
theorem full_alpha (m : Nat → Int) (r g b a : Int) (hr : 0 ≤ r ∧ r ≤ 255) (hg : 0 ≤ g ∧ g ≤ 255) (hb : 0 ≤ b ∧ b ≤ 255) (ha : 0 ≤ a ∧ a ≤ 255) : rowV (fullM m) 15 r g b a = 255 := by
  have e : rowV (fullM m) 15 r g b a = cutT ((255 * 256 + 128 + 0 * r + 0 * g + 0 * b + 0 * a) / 256) := rfl
  rw [e]
  have : (255 * 256 + 128 + 0 * r + 0 * g + 0 * b + 0 * a) / 256 = 255 := by omega
  rw [this]
  decide
theorem full_row (m m' : Nat → Int) (o : Nat) (ho : o ≤ 10) (h : ∀ j, j < 5 → m (o + j) = m' (o + j)) (r g b a : Int) : rowV (fullM m) o r g b a = rowV (fullM m') o r g b a := by
  have e : ∀ j, j < 5 → fullM m (o + j) = fullM m' (o + j) := fun j hj => by unfold fullM; rw [if_pos (by omega), if_pos (by omega)]; exact h j hj
  unfold rowV
  have e0 := e 0 (by omega)
  have e1 := e 1 (by omega)
  have e2 := e 2 (by omega)
  have e3 := e 3 (by omega)
  have e4 := e 4 (by omega)
  simp only [Nat.add_zero] at e0
  simp only [e0, e1, e2, e3, e4]

/-- Numbers as cells. -/
def intsL (f : Nat → Int) (n : Nat) : List Value := (List.range n).map fun i => .int .i64 (f i)
theorem intsL_length (f : Nat → Int) (n : Nat) : (intsL f n).length = n := by simp [intsL]
theorem intsL_at {f : Nat → Int} {n j : Nat} {u : Value} (h : (intsL f n)[j]? = some u) : j < n ∧ u = .int .i64 (f j) := by
  have hj : j < n := by have := (List.getElem?_eq_some_iff.1 h).1; rwa [intsL_length] at this
  refine ⟨hj, ?_⟩
  simp [intsL, hj] at h
  exact h.symm
theorem intsL_one {f : Nat → Int} {n : Nat} {u : Value} (h : u ∈ intsL f n) : u.oneCell' = true := by
  simp only [intsL, List.mem_map] at h
  obtain ⟨i, _, rfl⟩ := h
  rfl
theorem matL_ints (m : Nat → Int) : matL m = intsL m 20 := rfl
theorem addr_add (b o j : Nat) : (⟨b, o, none⟩ : Addr).add j = ⟨b, o + j, none⟩ := by unfold Addr.add; split <;> simp_all
theorem full_cells (m : Nat → Int) : intsL m 15 ++ [.int .i64 0, .int .i64 0, .int .i64 0, .int .i64 0, .int .i64 256] = matL (fullM m) := by
  have e : ∀ i, i < 15 → fullM m i = m i := fun i hi => by unfold fullM; rw [if_pos hi]
  have e5 : fullM m 15 = 0 ∧ fullM m 16 = 0 ∧ fullM m 17 = 0 ∧ fullM m 18 = 0 ∧ fullM m 19 = 256 := ⟨rfl, rfl, rfl, rfl, rfl⟩
  have r15 : List.range 15 = [0, 1, 2, 3, 4, 5, 6, 7, 8, 9, 10, 11, 12, 13, 14] := rfl
  have r20 : List.range 20 = [0, 1, 2, 3, 4, 5, 6, 7, 8, 9, 10, 11, 12, 13, 14, 15, 16, 17, 18, 19] := rfl
  simp only [intsL, matL, r15, r20, List.map_cons, List.map_nil, List.cons_append, List.nil_append]
  simp [e, e5]
/-- The numbers with one row out of the other's. -/
def rowM (m o : Nat → Int) (k : Nat) (i : Nat) : Int := if k ≤ i ∧ i < k + 5 then m i else o i
theorem ints_own {w : World} {B : Nat} {e : TypeId} {v : Value} {f : Nat → Int} {n : Nat} (h : w.ownsRow B e 1 v n (intsL f n)) (hn : 0 < n) :
    ∃ g c, v = .slice (some ⟨g, 0, none⟩) n c ∧ B ≤ g ∧ g < w.heap.size ∧ n ≤ c ∧ c ≤ 9223372036854775807 ∧ (∀ i, i < n → w.cell? ⟨g, i, none⟩ = some (.int .i64 (f i))) ∧ ∀ i, w.frozen? ⟨g, i, none⟩ = false := by
  rcases h.2 with ⟨_, h0⟩ | ⟨g, c, cur, rfl, hB, hg, hle, hc, hsz, htk⟩
  · omega
  · refine ⟨g, c, rfl, hB, (Array.getElem?_eq_some_iff.1 hg).1, hle, by unfold maxLen at hc; omega, fun i hi => ?_, fun i => by simp [World.frozen?, hg]⟩
    have h1 : (intsL f n)[i]? = some (.int .i64 (f i)) := by simp [intsL, hi]
    rw [← htk, List.getElem?_take_of_lt (by omega), Array.getElem?_toList] at h1
    simp [World.cell?, hg, h1]

theorem ref07_rightIs (a : Option Addr) (len cap : Nat) (zs : List Int) (w : World) (h : IsRow .i64 w a len cap zs) (b : Bool) (hb : matB zs len = b) :
    Calls Try.prog 38 #[.slice a len cap] w fun e w' => e = .returned (.bool b) ∧ w = w' := by
  have := ref07_right a len cap zs w h
  rwa [hb] at this

theorem heap_setCells' (b : Nat) : ∀ (vs : List Value) (o : Nat) (w : World) (k : Nat), k ≠ b → (w.setCells b o vs).heap[k]? = w.heap[k]?
  | [], _, _, _, _ => rfl
  | v :: l, o, w, k, h => by rw [World.setCells, heap_setCells' b l (o + 1) _ k h]; exact Below.heap_setCell w ⟨b, o, none⟩ v k h
theorem size_setCells' (b : Nat) : ∀ (vs : List Value) (o : Nat) (w : World), (w.setCells b o vs).heap.size = w.heap.size
  | [], _, _ => rfl
  | v :: l, o, w => by rw [World.setCells, size_setCells' b l (o + 1)]; simp [World.setCell]
theorem same_setCells' (b : Nat) : ∀ (vs : List Value) (o : Nat) (w : World), (w.setCells b o vs).os = w.os ∧ (w.setCells b o vs).tape = w.tape ∧ (w.setCells b o vs).output = w.output
  | [], _, _ => ⟨rfl, rfl, rfl⟩
  | v :: l, o, w => by rw [World.setCells]; exact same_setCells' b l (o + 1) _
theorem grownBy_setCells' (w : World) (b o : Nat) (vs : List Value) : w.grownBy (w.setCells b o vs) (some b) :=
  ⟨(same_setCells' b vs o w).1, (same_setCells' b vs o w).2.1, (same_setCells' b vs o w).2.2, by rw [size_setCells']; exact Nat.le_refl _, fun k _ hne => heap_setCells' b vs o w k fun e => hne (by rw [e])⟩
theorem Grows.grown {w w1 w2 : World} {row : Option Nat} (hg : Grows w w1) (h : w1.grownBy w2 row) (hr : ∀ k, row = some k → w.heap.size ≤ k) : Grows w w2 :=
  .of_below (hg.below.grown h hg.below.size hr)

/-! A slice of five numbers that is built: under another name, so that the walk does not lay it open. -/
def sSem (t : TypeId) (n : Nat) (parts : Array (Nat × Value)) : Sem Value := Instr.buildSlice t n parts
@[go_sem ↓] theorem slice_is_five (parts : Array (Nat × Value)) : Instr.buildSlice 40 5 parts = sSem 40 5 parts := rfl
@[simp, go_sem] theorem slice_five (w : World) (n0 n1 n2 n3 n4 : Int) : (sSem 40 5 #[(0, .int .i64 n0), (1, .int .i64 n1), (2, .int .i64 n2), (3, .int .i64 n3), (4, .int .i64 n4)]).run Try.prog w = .ok (.slice (some ⟨w.heap.size, 0, none⟩) 5 5) (w.alloc (.cells #[.int .i64 n0, .int .i64 n1, .int .i64 n2, .int .i64 n3, .int .i64 n4] 3)) := by kernel_rfl
theorem ownsRow_grows {w w' : World} {base : Nat} {e : TypeId} {size n : Nat} {v : Value} {xs : List Value} (h : w.ownsRow base e size v n xs) (g : Grows w w') : w'.ownsRow base e size v n xs := by
  refine ⟨h.1, ?_⟩
  rcases h.2 with h2 | ⟨b, c, cur, hv, hb, hg, h3⟩
  · exact .inl h2
  · exact .inr ⟨b, c, cur, hv, hb, (g.below.block b (Array.getElem?_eq_some_iff.1 hg).1).trans hg, h3⟩
theorem ownsRow_grown {w w' : World} {base : Nat} {e : TypeId} {size n g c : Nat} {xs : List Value} {row : Option Nat} (h : w.ownsRow base e size (.slice (some ⟨g, 0, none⟩) n c) n xs) (k : w.grownBy w' row) (hne : some g ≠ row) : w'.ownsRow base e size (.slice (some ⟨g, 0, none⟩) n c) n xs := by
  refine ⟨h.1, ?_⟩
  rcases h.2 with h2 | ⟨b, c', cur, hv, hb, hg, h3⟩
  · exact .inl h2
  · refine .inr ⟨b, c', cur, hv, hb, (k.block b (Array.getElem?_eq_some_iff.1 hg).1 ?_).trans hg, h3⟩
    injection hv with e1
    injection e1 with e1
    injection e1 with e1
    rw [← e1]
    exact hne
theorem ownsRow_base {w : World} {base base' : Nat} {e : TypeId} {size n : Nat} {v : Value} {xs : List Value} (h : w.ownsRow base e size v n xs) (hb : base' ≤ base) : w.ownsRow base' e size v n xs := by
  refine ⟨h.1, ?_⟩
  rcases h.2 with h2 | ⟨b, c', cur, hv, hB, h3⟩
  · exact .inl h2
  · exact .inr ⟨b, c', cur, hv, by omega, h3⟩
def fullC : List Value := [.int .i64 0, .int .i64 0, .int .i64 0, .int .i64 0, .int .i64 256]
theorem mat_of_full {w : World} {B : Nat} {e : TypeId} {g c : Nat} {m : Nat → Int} (h : w.ownsRow B e 1 (.slice (some ⟨g, 0, none⟩) (15 + 5) c) (15 + 5) (intsL m 15 ++ fullC)) (hbd : ∀ i, i < 20 → -32768 ≤ m i ∧ m i ≤ 32767) : Mat w g 0 c (fullM m) := by
  obtain ⟨g', c', hv, hm, _⟩ := mat_of_own (m := fullM m) (n := 20) rfl (full_cells m) h (full_bd m hbd)
  injection hv with e1 _ e3
  injection e1 with e1
  injection e1 with e1
  subst e1 e3
  exact hm
theorem rowM_bd (m o : Nat → Int) (k : Nat) (h1 : ∀ i, i < 20 → -32768 ≤ m i ∧ m i ≤ 32767) (h2 : ∀ i, i < 20 → -32768 ≤ o i ∧ o i ≤ 32767) : ∀ i, i < 20 → -32768 ≤ rowM m o k i ∧ rowM m o k i ≤ 32767 := fun i hi => by
  unfold rowM
  split
  · exact h1 i hi
  · exact h2 i hi
theorem full_same (m o : Nat → Int) (k : Nat) (hk : k ≤ 10) (r g b a : Int) : rowV (fullM m) k r g b a = rowV (fullM (rowM m o k)) k r g b a :=
  full_row m (rowM m o k) k hk (fun j hj => by unfold rowM; rw [if_pos (by omega)]) r g b a
theorem full_one {u : Value} (hu : u ∈ fullC) : u.oneCell' = true := by
  simp only [fullC, List.mem_cons, List.not_mem_nil, or_false] at hu
  rcases hu with rfl | rfl | rfl | rfl | rfl <;> rfl
/-- A world, named. -/
theorem wp_name7 {P : Program} {c : Code} {Q : Exit → Act → World → Prop} {a : Act} {w : World} (h : ∀ W, W = w → c.wp P Q a W) : c.wp P Q a w := h w rfl
theorem row_cells {w : World} {gl k : Nat} {m o : Nat → Int} (h : ∀ i, i < 20 → w.cell? ⟨gl, i, none⟩ = some (.int .i64 (o i))) (hk : k + 5 ≤ 20) (i : Nat) (hi : i < 20) :
    (w.setCells gl k [.int .i64 (m k), .int .i64 (m (k + 1)), .int .i64 (m (k + 2)), .int .i64 (m (k + 3)), .int .i64 (m (k + 4))]).cell? ⟨gl, i, none⟩ = some (.int .i64 (rowM m o k i)) := by
  unfold rowM
  by_cases hin : k ≤ i ∧ i < k + 5
  · rw [if_pos hin]
    have := World.cell?_setCells_in gl [.int .i64 (m k), .int .i64 (m (k + 1)), .int .i64 (m (k + 2)), .int .i64 (m (k + 3)), .int .i64 (m (k + 4))] k w (fun j hj => by rw [h _ (by simp at hj; omega)]; rfl) (i - k) (by simp; omega)
    rw [show k + (i - k) = i from by omega] at this
    rw [this]
    obtain ⟨q, rfl⟩ : ∃ q, i = k + q := ⟨i - k, by omega⟩
    have hq : q < 5 := by omega
    simp only [Nat.add_sub_cancel_left]
    rcases (by omega : q = 0 ∨ q = 1 ∨ q = 2 ∨ q = 3 ∨ q = 4) with rfl | rfl | rfl | rfl | rfl <;> rfl
  · rw [if_neg hin, World.cell?_setCells_out gl _ k w _ (fun _ _ => by show i < k ∨ k + 5 ≤ i; omega)]
    exact h i hi
/-- An append at a step of a region that draws, where a guard lets it run. -/
theorem step_append_if {P : Program} {w : World} {ops : Array Oper} {o : Oper} {a : Act} {K : Act → World → Prop} {Q : Exit → Act → World → Prop} {E : Prop} (hw : Region.wanted o (yielded ops a.tmps) = true) (s x : Operand) (t : TypeId)
    (ho : o.op = .call { callee := .builtin .append, args := #[s, x], argTypes := #[t, t] })
    (base : Nat) (e : TypeId) (i : TypeInfo) (z : Value) (size bytes : Nat) (ht : P.underlying t = some (.slice e)) (hi : P.info? e = some i) (hz : i.zero = some z)
    (hsize : i.size = size) (hby : i.bytes = bytes) (hzs : z.cells.size = size) (hsz : 0 < size)
    (v : Value) (n : Nat) (xs : List Value) (hs : a.eval s = v) (hown : w.ownsRow base e size v n xs)
    (ad : Addr) (m c : Nat) (news : List Value) (hx : a.eval x = .slice (some ad) m c) (hl : news.length = m * size) (hnews : ∀ j u, news[j]? = some u → w.cell? (ad.add j) = some u) (h1 : ∀ u ∈ news, u.oneCell' = true)
    (hm : 0 < m) (h63 : n + m ≤ maxLen) (hbytes : (n + m) * bytes ≤ 140737488355328) (hbase : base ≤ w.heap.size)
    (h : ∀ g cap w', w'.ownsRow base e size (.slice (some ⟨g, 0, none⟩) (n + m) cap) (n + m) (xs ++ news) → w.grownBy w' v.ownBlock → (v.ownBlock = some g ∨ g = w.heap.size) → g < w'.heap.size → K (a.put o.dst (.slice (some ⟨g, 0, none⟩) (n + m) cap)) w') :
    if Region.wanted o (yielded ops a.tmps) = true then Oper.wp P o a w K Q else E := by
  rw [if_pos hw]
  exact wp_append_lies w s x t ho base e i z size bytes ht hi hz hsize hby hzs hsz v n xs hs hown ad m c news hx hl hnews h1 hm h63 hbytes hbase w.heap.size rfl h
end Go.Proofs.Ytghcpjahieaepaa
