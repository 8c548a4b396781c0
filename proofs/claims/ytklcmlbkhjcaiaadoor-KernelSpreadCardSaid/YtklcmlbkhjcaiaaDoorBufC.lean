/- Rows of pixels that are cleared or copied at once: 'clear' and 'copy' on slices of pixels, over any program; and what it makes of a buffer's image. -/
import Derived.Test.YtklcmlbkhjcaiaaDoorBuf
import Derived.Laws.IdiomCopy
import Derived.Laws.CopyOwn




namespace Go.Proofs.YtklcmlbkhjcaiaaDoor
open Go.RowKit
set_option linter.unusedVariables false

/-- What an image has in a row, from a point on. -/
def rowF (F G : Img) (x y : Int) (k : Nat) : Img := fun u v => if v = y ∧ x ≤ u ∧ u < x + k then G u v else F u v
/-- The cells of a row of pixels. -/
def cellsP (g : Nat → P4) : Nat → List Value
  | 0 => []
  | k + 1 => cellsP g k ++ pxC (g k)
theorem cellsP_length (g : Nat → P4) : ∀ k, (cellsP g k).length = k * 4
  | 0 => rfl
  | k + 1 => by rw [cellsP, List.length_append, cellsP_length g k, pxC_length]; omega
theorem cellsP_at (g : Nat → P4) : ∀ (k i c : Nat), i < k → c < 4 → (cellsP g k)[i * 4 + c]? = some (.int .u8 (chan (g i) c))
  | 0, i, c, h, _ => by omega
  | k + 1, i, c, h, hc => by
    rw [cellsP]
    by_cases hik : i < k
    · rw [List.getElem?_append_left (by rw [cellsP_length]; omega)]
      exact cellsP_at g k i c hik hc
    · obtain rfl : i = k := by omega
      rw [List.getElem?_append_right (by rw [cellsP_length]; omega), cellsP_length, show i * 4 + c - i * 4 = c from by omega]
      exact pxC_at _ hc
theorem cellsP_one (g : Nat → P4) : ∀ (k : Nat) (u : Value), u ∈ cellsP g k → u.oneCell' = true
  | 0, u, h => by cases h
  | k + 1, u, h => by
    rw [cellsP, List.mem_append] at h
    rcases h with h | h
    · exact cellsP_one g k u h
    · exact pxC_one h
theorem cellsP_no : ∀ k, cellsP (fun _ => noP) k = List.replicate (k * 4) (.int .u8 0)
  | 0 => rfl
  | k + 1 => by
    rw [cellsP, cellsP_no k, show (k + 1) * 4 = k * 4 + 4 from by omega, ← List.replicate_append_replicate]
    rfl
theorem cellsP_div {g : Nat → P4} {k j : Nat} {v : Value} (h : (cellsP g k)[j]? = some v) : j < k * 4 ∧ v = .int .u8 (chan (g (j / 4)) (j % 4)) := by
  have hj : j < k * 4 := by have := (List.getElem?_eq_some_iff.1 h).1; rwa [cellsP_length] at this
  have e := cellsP_at g k (j / 4) (j % 4) (by omega) (by omega)
  rw [show j / 4 * 4 + j % 4 = j from by omega, h] at e
  exact ⟨hj, by injection e⟩

theorem setCells_append (b : Nat) : ∀ (xs ys : List Value) (o : Nat) (w : World), w.setCells b o (xs ++ ys) = (w.setCells b o xs).setCells b (o + xs.length) ys
  | [], ys, o, w => rfl
  | v :: xs, ys, o, w => by
    rw [List.cons_append, World.setCells, World.setCells, setCells_append b xs ys (o + 1), List.length_cons, show o + 1 + xs.length = o + (xs.length + 1) from by omega]

/-- A row of pixels of a buffer is written at once. -/
theorem BufAt.setRow {w : World} {r : R} {b off len cap : Nat} {F G : Img} (h : BufAt w r (some ⟨b, off, none⟩) len cap F) {x y : Int} (h0 : hasR r x y = true) : ∀ (k : Nat), (∀ i : Nat, i < k → hasR r (x + i) y = true) → (∀ i : Nat, i < k → okP (G (x + i) y)) →
    BufAt (w.setCells b (off + (idxR r x y).toNat * 4) (cellsP (fun i => G (x + i) y) k)) r (some ⟨b, off, none⟩) len cap (rowF F G x y k)
  | 0, _, _ => by
    have e : rowF F G x y 0 = F := by
      funext u v
      unfold rowF
      rw [if_neg (by omega)]
    rw [e]
    exact h
  | k + 1, hk, hok => by
    have ih := BufAt.setRow h h0 k (fun i hi => hk i (by omega)) (fun i hi => hok i (by omega))
    have st := ih.setk rfl h0 (hk k (by omega)) (hok k (by omega))
    have e : putF r (rowF F G x y k) (x + k) y (G (x + k) y) = rowF F G x y (k + 1) := by
      funext u v
      unfold putF rowF
      by_cases c : u = x + k ∧ v = y
      · obtain ⟨rfl, rfl⟩ := c
        rw [if_pos ⟨hk k (by omega), rfl, rfl⟩, if_pos (by omega)]
      · rw [if_neg (fun q => c ⟨q.2.1, q.2.2⟩)]
        by_cases d : v = y ∧ x ≤ u ∧ u < x + k
        · rw [if_pos d, if_pos (by omega)]
        · rw [if_neg d, if_neg (by omega)]
    rw [e] at st
    rw [cellsP, setCells_append, cellsP_length]
    exact st

section
variable {P : Program}
theorem run_clear_px (w : World) (t e ty : TypeId) (ht : P.underlying t = some (.slice e)) (hv : ∀ w, (zeroValue e).run P w = .ok (.agg #[.int .u8 0, .int .u8 0, .int .u8 0, .int .u8 0]) w) (a : Option Addr) (b o n c : Nat)
    (ha : 0 < n → a = some ⟨b, o, none⟩) (hc : ∀ j, j < n * 4 → (w.cell? ⟨b, o + j, none⟩).isSome = true) (hf : ∀ j, j < n * 4 → w.frozen? ⟨b, o + j, none⟩ = false) :
    (Builtin.clear_ #[t] ty #[.slice a n c]).run P w = .ok (.tuple #[]) (w.setCells b o (cellsP (fun _ => noP) n)) := by
  rw [cellsP_no]
  by_cases h0 : n = 0
  · subst h0
    cases a <;> simp [Builtin.clear_, run_underlying ht, World.setCells]
  · obtain rfl := ha (by omega)
    have hzc : (Builtin.zeroCells #[.int .u8 0, .int .u8 0, .int .u8 0, .int .u8 0] n).toList = List.replicate (n * 4) (.int .u8 0) := by
      apply List.ext_getElem?
      intro j
      have := made_at (.int .u8 0) (n * 4) j
      by_cases hj : j < n * 4
      · have e := this hj
        rw [List.getElem?_replicate, if_pos hj]
        show (Builtin.zeroCells #[Value.int .u8 0, .int .u8 0, .int .u8 0, .int .u8 0] n).toList[j]? = _
        rw [← e, Array.getElem?_toList]
        rfl
      · rw [List.getElem?_eq_none (by simp [Builtin.zeroCells]; omega), List.getElem?_eq_none (by simp; omega)]
    have hst := run_storeCells_cells (P := P) b o (List.replicate (n * 4) (.int .u8 0)) 0 w (by simpa using hc) (by simpa using hf) (by intro v hv'; rw [List.eq_of_mem_replicate hv']; rfl)
    simp only [Nat.add_zero] at hst
    obtain ⟨m, rfl⟩ : ∃ m, n = m + 1 := ⟨n - 1, by omega⟩
    simp [Builtin.clear_, run_underlying ht, hv, hzc, hst, Value.cells]
theorem wpList_clear_px {w : World} {ops : Array Oper} {rest : List Oper} {o : Oper} {a : Act} {Q : Exit → Act → World → Prop} (hgd : o.guard = none) (s : Operand) (t : TypeId) (ho : o.op = .call { callee := .builtin .clear, args := #[s], argTypes := #[t] })
    (e : TypeId) (ht : P.underlying t = some (.slice e)) (hv : ∀ w, (zeroValue e).run P w = .ok (.agg #[.int .u8 0, .int .u8 0, .int .u8 0, .int .u8 0]) w) (ad : Option Addr) (n c : Nat) (hs : a.eval s = .slice ad n c) (b off : Nat)
    (ha : 0 < n → ad = some ⟨b, off, none⟩) (hc : ∀ j, j < n * 4 → (w.cell? ⟨b, off + j, none⟩).isSome = true) (hf : ∀ j, j < n * 4 → w.frozen? ⟨b, off + j, none⟩ = false)
    (h : wpList P ops Q rest (a.put o.dst (.tuple #[])) (w.setCells b off (cellsP (fun _ => noP) n))) : wpList P ops Q (o :: rest) a w := by
  refine wpList_plain hgd fun K hK => ?_
  have hrun := run_clear_px (P := P) w t e o.type ht hv ad b off n c ha hc hf
  unfold Oper.wp
  simp [execOp, ho, resolve, invoke, builtin, hs, hrun, Result.andThen]
  exact hK _ _ h

theorem run_copy_px (w : World) (dT sT ty elem : TypeId) (b o dLen dCap : Nat) (a : Addr) (sLen sCap n : Nat) (cs : List Value)
    (hu : P.underlying dT = some (.slice elem)) (hs : (P.info? elem).map (·.size) = some 4) (hn : n = Nat.min sLen dLen) (hl : cs.length = n * 4)
    (hsrc : ∀ j v, cs[j]? = some v → w.cell? (a.add j) = some v) (hc : ∀ j, j < cs.length → (w.cell? ⟨b, o + j, none⟩).isSome = true) (hf : ∀ j, j < cs.length → w.frozen? ⟨b, o + j, none⟩ = false) (h1 : ∀ v ∈ cs, v.oneCell' = true) :
    (Builtin.copy_ #[dT, sT] ty #[.slice (some ⟨b, o, none⟩) dLen dCap, .slice (some a) sLen sCap]).run P w = .ok (goInt n) (w.setCells b o cs) := by
  have hld := run_loadCells_list (P := P) w a cs hsrc
  have hst := run_storeCells_cells (P := P) b o cs 0 w (by simpa using hc) (by simpa using hf) h1
  rw [hl] at hld
  cases hq : P.info? elem with
  | none => simp [hq] at hs
  | some i =>
    have hi : i.size = 4 := by simpa [hq] using hs
    simp [Builtin.copy_, run_underlying hu, Builtin.lenOf, Builtin.firstCells, sizeOf, typeInfo, hq, hi, ← hn, hld, hst]
theorem wpList_copy_px {w : World} {ops : Array Oper} {rest : List Oper} {o : Oper} {a : Act} {Q : Exit → Act → World → Prop} (hgd : o.guard = none) (d s : Operand) (dT sT : TypeId) (ho : o.op = .call { callee := .builtin .copy, args := #[d, s], argTypes := #[dT, sT] })
    (elem : TypeId) (hu : P.underlying dT = some (.slice elem)) (hsz : (P.info? elem).map (·.size) = some 4) (b off dLen dCap : Nat) (ad : Addr) (sLen sCap n : Nat) (cs : List Value)
    (hd : a.eval d = .slice (some ⟨b, off, none⟩) dLen dCap) (hs : a.eval s = .slice (some ad) sLen sCap) (hdn : dLen = n) (hsn : sLen = n) (hl : cs.length = n * 4)
    (hsrc : ∀ j v, cs[j]? = some v → w.cell? (ad.add j) = some v) (hc : ∀ j, j < cs.length → (w.cell? ⟨b, off + j, none⟩).isSome = true) (hf : ∀ j, j < cs.length → w.frozen? ⟨b, off + j, none⟩ = false) (h1 : ∀ v ∈ cs, v.oneCell' = true)
    (h : wpList P ops Q rest (a.put o.dst (goInt n)) (w.setCells b off cs)) : wpList P ops Q (o :: rest) a w := by
  subst hdn hsn
  refine wpList_plain hgd fun K hK => ?_
  have hrun := run_copy_px (P := P) w dT sT o.type elem b off _ dCap ad _ sCap _ cs hu hsz (by show sLen = min sLen sLen; omega) hl hsrc hc hf h1
  unfold Oper.wp
  simp [execOp, ho, resolve, invoke, builtin, hd, hs, hrun, Result.andThen]
  exact hK _ _ h
end

/-- The cells of a row of a buffer are there. -/
theorem BufAt.there {w : World} {r : R} {b off len cap : Nat} {F : Img} (h : BufAt w r (some ⟨b, off, none⟩) len cap F) {x y : Int} {k : Nat} (h0 : hasR r x y = true) (hk : ∀ i : Nat, i < k → hasR r (x + i) y = true) :
    ∀ j, j < k * 4 → w.cell? ⟨b, off + (idxR r x y).toNat * 4 + j, none⟩ = some (.int .u8 (chan (F (x + ((j / 4 : Nat) : Int)) y) (j % 4))) := fun j hj => by
  have hb := (idxR_bd h0).2.1
  have hh := hk (j / 4) (by omega)
  have hi := h.good.idx hh
  rw [← h.count] at hi
  obtain ⟨b', off', e, hbl, hc⟩ := h.pix.cells (by omega)
  cases e
  have := hc _ (j % 4) hi (by omega)
  rw [ptX_idx hh, ptY_idx hh, show (idxR r (x + ((j / 4 : Nat) : Int)) y).toNat * 4 + j % 4 = (idxR r x y).toNat * 4 + j from by rw [idx_add]; omega, ← Nat.add_assoc] at this
  exact this

/-- .. from a place within the row on. -/
theorem BufAt.setRowD {w : World} {r : R} {b off len cap : Nat} {F G : Img} (h : BufAt w r (some ⟨b, off, none⟩) len cap F) {x y : Int} (h0 : hasR r x y = true) (d k : Nat) (hk : ∀ i : Nat, i < k → hasR r (x + d + i) y = true) (hok : ∀ i : Nat, i < k → okP (G (x + d + i) y)) :
    BufAt (w.setCells b (off + (idxR r x y).toNat * 4 + d * 4) (cellsP (fun i => G (x + d + i) y) k)) r (some ⟨b, off, none⟩) len cap (rowF F G (x + d) y k) := by
  by_cases hk0 : k = 0
  · subst hk0
    have e : rowF F G (x + d) y 0 = F := by
      funext u v
      unfold rowF
      rw [if_neg (by omega)]
    rw [e]
    exact h
  · have h1 : hasR r (x + d) y = true := by have := hk 0 (by omega); simpa using this
    have hb := (idxR_bd h0).2.1
    have e : off + (idxR r (x + d) y).toNat * 4 = off + (idxR r x y).toNat * 4 + d * 4 := by rw [idx_add]; omega
    have := h.setRow h1 k hk hok
    rw [e] at this
    exact this
theorem BufAt.thereD {w : World} {r : R} {b off len cap : Nat} {F : Img} (h : BufAt w r (some ⟨b, off, none⟩) len cap F) {x y : Int} {d k : Nat} (h0 : hasR r x y = true) (hk : ∀ i : Nat, i < k → hasR r (x + d + i) y = true) :
    ∀ j, j < k * 4 → (w.cell? ⟨b, off + (idxR r x y).toNat * 4 + d * 4 + j, none⟩).isSome = true := fun j hj => by
  have h1 : hasR r (x + d) y = true := by have := hk 0 (by omega); simpa using this
  have hb := (idxR_bd h0).2.1
  have e : off + (idxR r (x + d) y).toNat * 4 = off + (idxR r x y).toNat * 4 + d * 4 := by rw [idx_add]; omega
  have := h.there h1 hk j hj
  rw [e] at this
  rw [this]
  rfl

/-! What 'copy' makes, row by row. -/
def shiftF (dx dy : Int) (G : Img) : Img := fun u v => G (u - dx) (v - dy)
def rowsF (m : R) (H : Img) (y : Int) (F : Img) : Img := fun u v => if hasR m u v = true ∧ v < y then H u v else F u v
theorem rowsF_first (m : R) (H F : Img) : rowsF m H m.y0 F = F := by
  funext u v
  unfold rowsF
  rw [if_neg]
  rintro ⟨h, k⟩
  have := (hasR_iff m u v).1 h
  omega
theorem rowsF_last (r s : R) (dx dy : Int) (F G : Img) : rowsF (meetR s r) (shiftF dx dy G) (meetR s r).y1 F = copyF r s dx dy F G := by
  funext u v
  unfold rowsF copyF shiftF
  by_cases h : hasR s u v = true ∧ hasR r u v = true
  · have k : hasR (meetR s r) u v = true := by rw [has_meet, h.1, h.2]; rfl
    have := (hasR_iff _ u v).1 k
    rw [if_pos ⟨k, by omega⟩, if_pos ⟨h.2, h.1⟩]
  · rw [if_neg (fun k => h (by have := k.1; rw [has_meet] at this; simpa using this)), if_neg (fun k => h ⟨k.2, k.1⟩)]
theorem rowsF_next {m : R} {H F : Img} {y : Int} {n : Nat} (h0 : m.y0 ≤ y) (h1 : y < m.y1) (hn : (n : Int) = m.x1 - m.x0) : rowF (rowsF m H y F) H m.x0 y n = rowsF m H (y + 1) F := by
  funext u v
  unfold rowF rowsF
  by_cases c : v = y ∧ m.x0 ≤ u ∧ u < m.x0 + n
  · rw [if_pos c, if_pos ⟨(hasR_iff _ _ _).2 (by omega), by omega⟩]
  · rw [if_neg c]
    by_cases d : hasR m u v = true
    · have := (hasR_iff _ _ _).1 d
      by_cases e : v < y
      · rw [if_pos ⟨d, e⟩, if_pos ⟨d, by omega⟩]
      · rw [if_neg (fun k => e k.2), if_neg (fun k => by omega)]
    · rw [if_neg (fun k => d k.1), if_neg (fun k => d k.1)]
theorem rowF_no {X H : Img} {x y : Int} {n : Nat} (h : ∀ u, x ≤ u → u < x + n → H u y = noP) : rowF X noF x y n = rowF X H x y n := by
  funext u v
  unfold rowF
  by_cases c : v = y ∧ x ≤ u ∧ u < x + n
  · obtain ⟨rfl, c1, c2⟩ := c
    rw [if_pos ⟨rfl, c1, c2⟩, if_pos ⟨rfl, c1, c2⟩, h u c1 c2]
    rfl
  · rw [if_neg c, if_neg c]
/-- The left, the right, the middle: the whole row. -/
theorem rowF_three {X H : Img} {x y : Int} {k1 d k3 k2 n : Nat} (h1 : k1 + k2 = d) (h2 : d + k3 = n) (hl : ∀ u, x ≤ u → u < x + k1 → H u y = noP) (hr : ∀ u, x + d ≤ u → u < x + n → H u y = noP) :
    rowF (rowF (rowF X noF x y k1) noF (x + d) y k3) H (x + k1) y k2 = rowF X H x y n := by
  rw [rowF_no (X := X) hl, rowF_no (n := k3) (fun u a b => hr u a (by omega))]
  funext u v
  unfold rowF
  by_cases c : v = y ∧ x ≤ u ∧ u < x + n
  · rw [if_pos c]
    by_cases c2 : v = y ∧ x + k1 ≤ u ∧ u < x + k1 + k2
    · rw [if_pos c2]
    · rw [if_neg c2]
      by_cases c3 : v = y ∧ x + d ≤ u ∧ u < x + d + k3
      · rw [if_pos c3]
      · rw [if_neg c3, if_pos (by omega)]
  · rw [if_neg (by omega), if_neg (by omega), if_neg (by omega), if_neg c]
end Go.Proofs.YtklcmlbkhjcaiaaDoor
