/- Layer 13, the document's: lists of one value; one appended. -/
import Derived.Test.YtklcmlbkhjcaiaaDoorSpreadL
import Derived.Test.YtklcmlbkhjcaiaaDoorSetO
import Derived.Test.YtklcmlbkhjcaiaaDoorNeedA




namespace Go.Proofs.YtklcmlbkhjcaiaaDoor
open Go.RowKit
set_option linter.unusedVariables false

/-- A list whose cells are all the same value. -/
structure IsOnes (w : World) (a : Option Addr) (len cap : Nat) (v : Value) : Prop where
  le : len ≤ cap
  most : cap ≤ 9223372036854775807
  cells : 0 < len → ∃ b off, a = some ⟨b, off, none⟩ ∧ b < w.heap.size ∧ ∀ i, i < len → w.cell? ⟨b, off + i, none⟩ = some v
theorem IsOnes.grows {w w' : World} {a : Option Addr} {len cap : Nat} {v : Value} (h : IsOnes w a len cap v) (g : Grows w w') : IsOnes w' a len cap v :=
  ⟨h.le, h.most, fun h0 => by
    obtain ⟨b, off, e, hb, hc⟩ := h.cells h0
    exact ⟨b, off, e, Nat.lt_of_lt_of_le hb g.below.size, fun i hi => (g.below.cell (p := ⟨b, off + i, none⟩) hb).trans (hc i hi)⟩⟩
theorem IsOnes.at {w : World} {a : Option Addr} {len cap : Nat} {v : Value} (h : IsOnes w a len cap v) {k : Nat} (hk : k < len) : ∃ b off, a = some ⟨b, off, none⟩ ∧ b < w.heap.size ∧ w.cell? ⟨b, off + k, none⟩ = some v := by
  obtain ⟨b, off, e, hb, hc⟩ := h.cells (by omega)
  exact ⟨b, off, e, hb, hc k hk⟩
theorem ones_own {w : World} {base k cap : Nat} {T : TypeId} {a : Option Addr} {v : Value} (h : w.ownsRow base T 1 (.slice a k cap) k (cellsL (fun _ => [v]) k)) : IsOnes w a k cap v :=
  ⟨(ownL_le h).1, (ownL_le h).2, fun h0 => by
    obtain ⟨b, rfl, _, hb, hc⟩ := ownL_at h (fun i => rfl) h0
    refine ⟨b, 0, rfl, hb, fun i hi => ?_⟩
    have e := hc i 0 hi (by omega)
    simp only [Nat.zero_add, Nat.mul_one, Nat.add_zero] at e ⊢
    exact e⟩
theorem reg_parts : (Tryd.prog.info? 43).map (fun i => (i.zero, i.size, i.bytes)) = some (some (.slice none 0 0), 1, 24) := by kernel_rfl
/-- A region appended to a list of the call's own. -/
theorem wpList_append_reg {ops : Array Oper} {rest : List Oper} {o : Oper} {a : Act} {w : World} {Q : Exit → Act → World → Prop} (hgd : o.guard = none) (s x : Operand)
    (ho : o.op = .call { callee := .builtin .append, args := #[s, x], argTypes := #[45, 45] })
    (base : Nat) (ad : Option Addr) (k cap : Nat) (v : Value) (h1 : v.oneCell' = true) (hs : a.eval s = .slice ad k cap) (hown : w.ownsRow base 43 1 (.slice ad k cap) k (cellsL (fun _ => [v]) k))
    (n c : Nat) (hx : a.eval x = .slice (some ⟨n, 0, none⟩) 1 c) (hn : Blk w n 43 #[v]) (hk : k ≤ 30000000) (hbase : base ≤ w.heap.size)
    (h : ∀ p cap' w', w'.ownsRow base 43 1 (.slice (some ⟨p, 0, none⟩) (k + 1) cap') (k + 1) (cellsL (fun _ => [v]) (k + 1)) → w.grownBy w' (blkOf ad) → (blkOf ad = some p ∨ p = w.heap.size) → p < w'.heap.size → wpList Tryd.prog ops Q rest (a.put o.dst (.slice (some ⟨p, 0, none⟩) (k + 1) cap')) w') : wpList Tryd.prog ops Q (o :: rest) a w := by
  obtain ⟨i, hi, hz, hsz, hb⟩ := info_parts reg_parts
  refine wpList_append_lies w hgd s x 45 ho base 43 i _ 1 24 Tryd.underlying45 hi hz hsz hb rfl (by omega) (.slice ad k cap) k (cellsL (fun _ => [v]) k) hs hown ⟨n, 0, none⟩ 1 c [v] hx rfl (fun j u hu => ?_) (fun u hu => by { simp only [List.mem_cons, List.not_mem_nil, or_false] at hu; rw [hu]; exact h1 }) (by omega) (by unfold maxLen; omega) (by omega) hbase w.heap.size rfl ?_
  · rw [Go.Addr.add_mid, Nat.zero_add, hn.cell]
    simpa using hu
  · intro p cap' w' h1 h2 h3 h4
    refine h p cap' w' h1 ?_ ?_ h4
    · cases ad <;> exact h2
    · cases ad
      · exact h3.imp (fun e => by simp [Value.ownBlock] at e) id
      · exact h3
theorem inBC_right {r : R} (h : rightR r = true) : inBC onPl onPl r := fun _ => by
  have := (rightR_iff r).1 h
  unfold onPl
  omega
theorem grow_rightS (r : R) (a b c d : Int) : rightR (growR r a b c d) = true := by
  unfold growR
  split
  · decide
  · unfold wholeR
    refine (rightR_iff _).2 (someR_fits _ ?_)
    simp only [cutN, mxI_eq, mnI_eq]
    omega
/-- The spread that is answered. -/
def RetSp (W : World) (op : Int) (p : Nat → Int) (r : R) : Ending → World → Prop := fun e w' => ∃ (a' : Option Addr) (m cap' : Nat) (o : Nat → R), e = .returned (.slice a' m cap') ∧ Grows W w' ∧ Hid (IsRects w' a' m cap' o ∧ SpreadOk op p r o m)
/-- A region of a single rectangle's points. -/
structure OneReg (f : Nat → R) (na : Nat) (r : R) : Prop where
  few : na ≤ 1
  has : ∀ u v, hasL f na u v = hasR r u v
  edge : ∀ i, i < na → inBC (fun z => z = r.x0 ∨ z = r.x1) (fun z => z = r.y0 ∨ z = r.y1) (f i)
  right : ∀ i, i < na → rightR (f i) = true
theorem SetsOk.few1 {B C : Int → Prop} {na n : Nat} {o : Nat → R} (h : SetsOk B C na o n) (h1 : na ≤ 1) : n ≤ 1 := Nat.le_trans h.most (Nat.mul_le_mul (show 2 * na - 1 ≤ 1 by omega) (show 2 * na - 1 ≤ 1 by omega))
theorem SetsOk.rights {na n : Nat} {o : Nat → R} (h : SetsOk onPl onPl na o n) : ∀ i, i < n → rightR (o i) = true := fun i hi => by
  have := h.inb i hi
  unfold onPl at this
  exact (rightR_iff _).2 (by omega)
theorem rects_one {w : World} {b c : Nat} {x : R} (h : Blk w b 27 #[.int .i64 x.x0, .int .i64 x.y0, .int .i64 x.x1, .int .i64 x.y1]) (hc : 1 ≤ c ∧ c ≤ 9223372036854775807) : IsRects w (some ⟨b, 0, none⟩) 1 c (fun _ => x) :=
  ⟨hc.1, hc.2, fun _ => ⟨b, 0, rfl, h.lt, fun i hi => by
    obtain rfl : i = 0 := by omega
    obtain ⟨c0, c1, c2, c3, -⟩ := h.c4
    simp only [Nat.zero_mul, Nat.zero_add, Nat.add_zero]
    exact ⟨c0, c1, c2, c3⟩⟩⟩
end Go.Proofs.YtklcmlbkhjcaiaaDoor
