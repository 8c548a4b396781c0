/- Rows of bytes, and the queue's items, in memory; what a call may change. -/
import Derived.Test.YtklcmlbkhjcaiaaDoorApp
import Derived.Test.YtklcmlbkhjcaiaaDoorK1



namespace Go.Proofs.YtklcmlbkhjcaiaaDoor
open Go.RowKit
set_option linter.unusedVariables false

/-- What a call may change: the blocks of S, and new ones. -/
structure Chg (S : Nat → Prop) (w w' : World) : Prop where
  os : w'.os = w.os
  tape : w'.tape = w.tape
  output : w'.output = w.output
  size : w.heap.size ≤ w'.heap.size
  block : ∀ k, k < w.heap.size → ¬ S k → w'.heap[k]? = w.heap[k]?
section
variable {w w1 w2 w' : World} {S T : Nat → Prop} {row : Option Nat}
theorem Chg.refl (S : Nat → Prop) (w : World) : Chg S w w := ⟨rfl, rfl, rfl, Nat.le_refl _, fun _ _ _ => rfl⟩
theorem Chg.then_ (h : Chg S w w1) (k : Chg T w1 w2) (hT : ∀ j, j < w.heap.size → T j → S j) : Chg S w w2 :=
  ⟨k.os.trans h.os, k.tape.trans h.tape, k.output.trans h.output, Nat.le_trans h.size k.size, fun i hi hne => (k.block i (Nat.lt_of_lt_of_le hi h.size) (fun e => hne (hT i hi e))).trans (h.block i hi hne)⟩
theorem Chg.trans (h : Chg S w w1) (k : Chg S w1 w2) : Chg S w w2 := h.then_ k fun _ _ e => e
theorem Chg.mono (h : Chg T w w1) (hT : ∀ j, j < w.heap.size → T j → S j) : Chg S w w1 := ⟨h.os, h.tape, h.output, h.size, fun i hi hne => h.block i hi fun e => hne (hT i hi e)⟩
theorem chg_grownBy (h : w.grownBy w1 row) (hr : ∀ k, row = some k → k < w.heap.size → S k) : Chg S w w1 := ⟨h.os, h.tape, h.output, h.size, fun i hi hne => h.block i hi fun e => hne (hr i e.symm hi)⟩
theorem chg_grows (h : Grows w w1) (S : Nat → Prop) : Chg S w w1 := chg_grownBy (row := none) (grownBy_of_grows h none) (fun k hk => by cases hk)
theorem Chg.grows (h : Chg S w w1) (g : Grows w1 w2) : Chg S w w2 := h.trans (chg_grows g S)
theorem Chg.setCell (h : Chg S w w1) {p : Addr} (hp : S p.block ∨ w.heap.size ≤ p.block) (u : Value) : Chg S w (w1.setCell p u) :=
  ⟨h.os, h.tape, h.output, by simpa [World.setCell] using h.size, fun k hk hne => (Below.heap_setCell w1 p u k (by
    rintro rfl
    rcases hp with hp | hp
    · exact hne hp
    · omega)).trans (h.block k hk hne)⟩
theorem Chg.grownBy (h : Chg S w w1) (hr : ∀ k, k < w.heap.size → S k → row = some k) : w.grownBy w1 row :=
  ⟨h.os, h.tape, h.output, h.size, fun i hi hne => h.block i hi fun e => hne (hr i hi e).symm⟩
theorem Chg.toGrows (h : Chg S w w1) (hr : ∀ k, k < w.heap.size → ¬ S k) : Grows w w1 :=
  (Grows.refl w).grown (h.grownBy (row := none) fun k hk e => absurd e (hr k hk)) (fun k hk => by cases hk)
theorem Blk.chg {n : Nat} {t : TypeId} {cs : Array Value} (h : Blk w n t cs) (g : Chg S w w') (hn : ¬ S n) : Blk w' n t cs := (g.block n h.lt hn).trans h
theorem IsPix.chg {a : Option Addr} {len cap : Nat} {f : Nat → P4} (h : IsPix w a len cap f) (g : Chg S w w') (hne : 0 < len → ∀ x, a = some x → ¬ S x.block) : IsPix w' a len cap f := h.keep g.size fun h0 x hx hl => g.block _ hl (hne h0 x hx)
theorem BufAt.chg {r : R} {a : Option Addr} {len cap : Nat} {F : Img} (h : BufAt w r a len cap F) (g : Chg S w w') (hne : 0 < len → ∀ x, a = some x → ¬ S x.block) : BufAt w' r a len cap F := ⟨h.good, h.count, h.fits, h.pix.chg g hne⟩
theorem Open.chg {a : Option Addr} (h : Open w a) (g : Chg S w w') (hne : ∀ x, a = some x → ¬ S x.block) : Open w' a := h.keep g.size fun x hx hl => g.block _ hl (hne x hx)
theorem ownsRow_chg {base : Nat} {e : TypeId} {size n : Nat} {a : Option Addr} {c : Nat} {xs : List Value} (h : w.ownsRow base e size (.slice a n c) n xs) (g : Chg S w w') (hne : ∀ k, blkOf a = some k → ¬ S k) : w'.ownsRow base e size (.slice a n c) n xs := by
  refine ⟨h.1, ?_⟩
  rcases h.2 with h2 | ⟨b, c', cur, hv, hb, hg, h3⟩
  · exact .inl h2
  · refine .inr ⟨b, c', cur, hv, hb, (g.block b (Array.getElem?_eq_some_iff.1 hg).1 (hne b ?_)).trans hg, h3⟩
    injection hv with hv
    subst hv
    rfl
end

/-- A row of bytes, in a block of its own. -/
structure U8Row (w : World) (b len : Nat) (f : Nat → Int) : Prop where
  few : len ≤ 9223372036854775807
  ok : ∀ i, i < len → 0 ≤ f i ∧ f i ≤ 255
  blk : ∃ cs, Blk w b 5 cs ∧ ∀ i, i < len → cs[i]? = some (.int .u8 (f i))
section
variable {w w' : World} {b len : Nat} {f g : Nat → Int} {S : Nat → Prop} {row : Option Nat}
theorem U8Row.lt (h : U8Row w b len f) : b < w.heap.size := by obtain ⟨cs, hb, -⟩ := h.blk; exact hb.lt
theorem U8Row.frozen (h : U8Row w b len f) (i : Nat) : w.frozen? ⟨b, i, none⟩ = false := by obtain ⟨cs, hb, -⟩ := h.blk; exact hb.frozen i
theorem U8Row.cell (h : U8Row w b len f) {i : Nat} (hi : i < len) : w.cell? ⟨b, i, none⟩ = some (.int .u8 (f i)) := by obtain ⟨cs, hb, hc⟩ := h.blk; rw [hb.cell]; exact hc i hi
theorem U8Row.chg (h : U8Row w b len f) (k : Chg S w w') (hn : ¬ S b) : U8Row w' b len f := ⟨h.few, h.ok, by obtain ⟨cs, hb, hc⟩ := h.blk; exact ⟨cs, hb.chg k hn, hc⟩⟩
theorem U8Row.grows (h : U8Row w b len f) (k : Grows w w') : U8Row w' b len f := h.chg (chg_grows k fun _ => False) (fun e => e)
theorem U8Row.grown (h : U8Row w b len f) (k : w.grownBy w' row) (hn : some b ≠ row) : U8Row w' b len f := ⟨h.few, h.ok, by obtain ⟨cs, hb, hc⟩ := h.blk; exact ⟨cs, hb.grown k hn, hc⟩⟩
theorem U8Row.congr (h : U8Row w b len f) (hfg : ∀ i, i < len → f i = g i) : U8Row w b len g :=
  ⟨h.few, fun i hi => by rw [← hfg i hi]; exact h.ok i hi, by obtain ⟨cs, hb, hc⟩ := h.blk; exact ⟨cs, hb, fun i hi => by rw [← hfg i hi]; exact hc i hi⟩⟩
theorem U8Row.set (h : U8Row w b len f) {i : Nat} {v : Int} (hv : 0 ≤ v ∧ v ≤ 255) : U8Row (w.setCell ⟨b, i, none⟩ (.int .u8 v)) b len (fun j => if j = i then v else f j) := by
  refine ⟨h.few, fun j hj => ?_, ?_⟩
  · split
    · exact hv
    · exact h.ok j hj
  · obtain ⟨cs, hb, hc⟩ := h.blk
    refine ⟨cs.setIfInBounds i (.int .u8 v), hb.set_ i _, fun j hj => ?_⟩
    have hs : j < cs.size := (Array.getElem?_eq_some_iff.1 (hc j hj)).1
    by_cases e : j = i
    · subst e; simp [hs]
    · rw [if_neg e, Array.getElem?_setIfInBounds_ne (fun k => e k.symm)]; exact hc j hj
end
theorem made_u8 (n j : Nat) (h : j < n) : (madeCells #[.int .u8 0] n)[j]? = some (.int .u8 0) := by
  unfold madeCells
  simp only [Array.getElem?_map, Array.getElem?_range, h, if_true, Option.map_some]
  show some ((#[Value.int IntKind.u8 0] : Array Value)[j % 1]!) = _
  rw [Nat.mod_one]
  rfl
theorem u8Row_made {w : World} {b n : Nat} (hn : n ≤ 9223372036854775807) (h : Blk w b 5 (madeCells #[.int .u8 0] n)) : U8Row w b n (fun _ => 0) :=
  ⟨hn, fun _ _ => by omega, _, h, fun i hi => made_u8 n i hi⟩
theorem u8_parts : (Tryd.prog.info? 5).map (fun i => (i.zero, i.size, i.bytes)) = some (some (.int .u8 0), 1, 1) := by kernel_rfl
theorem make_u8 (z : Int) (n : Nat) (hz : z = n) (hn : n ≤ 35184372088832) (w : World) :
    (Instr.makeSlice 103 (.int .i64 z) (.int .i64 z)).run Tryd.prog w = .ok (.slice (some ⟨w.heap.size, 0, none⟩) n n) (w.alloc (.cells (madeCells #[.int .u8 0] n) 5)) := by
  subst hz
  obtain ⟨i, hi, hz, hs, hb⟩ := info_parts u8_parts
  have hr := run_make (P := Tryd.prog) w 103 5 i _ Tryd.underlying103 hi hz .i64 .i64 n n (by omega) (by omega) (by rw [hb]; omega) (by omega)
  simp only [Int.toNat_natCast, hs, Nat.mul_one] at hr
  exact hr

/-! Items. -/
def itC (q : Nat × Int) : List Value := [.int .i64 (q.1 : Int), .int .u8 q.2]
def cellsI (q : Nat → Nat × Int) : Nat → List Value
  | 0 => []
  | k + 1 => cellsI q k ++ itC (q k)
theorem cellsI_length (q : Nat → Nat × Int) : ∀ k, (cellsI q k).length = k * 2
  | 0 => rfl
  | k + 1 => by rw [cellsI, List.length_append, cellsI_length q k]; show k * 2 + 2 = _; omega
theorem cellsI_at (q : Nat → Nat × Int) : ∀ (k i : Nat), i < k → (cellsI q k)[i * 2]? = some (.int .i64 ((q i).1 : Int)) ∧ (cellsI q k)[i * 2 + 1]? = some (.int .u8 (q i).2)
  | 0, i, h => by omega
  | k + 1, i, h => by
    rw [cellsI]
    by_cases hik : i < k
    · rw [List.getElem?_append_left (by rw [cellsI_length]; omega), List.getElem?_append_left (by rw [cellsI_length]; omega)]
      exact cellsI_at q k i hik
    · obtain rfl : i = k := by omega
      rw [List.getElem?_append_right (by rw [cellsI_length]; omega), List.getElem?_append_right (by rw [cellsI_length]; omega), cellsI_length, show i * 2 - i * 2 = 0 from by omega, show i * 2 + 1 - i * 2 = 1 from by omega]
      exact ⟨rfl, rfl⟩
theorem cellsI_congr {q r : Nat → Nat × Int} : ∀ k, (∀ i, i < k → q i = r i) → cellsI q k = cellsI r k
  | 0, _ => rfl
  | k + 1, h => by rw [cellsI, cellsI, cellsI_congr k (fun i hi => h i (by omega)), h k (by omega)]
theorem cellsI_put (q : Nat → Nat × Int) (k i : Nat) (v : Int) : cellsI (putQ q k i v) (k + 1) = cellsI q k ++ [.int .i64 (i : Int), .int .u8 v] := by
  rw [cellsI, cellsI_congr k (fun j hj => putQ_ne (by omega)), putQ_at]
  rfl
theorem ownsRow_less {w : World} {base : Nat} {e : TypeId} {a : Option Addr} {k c : Nat} {q : Nat → Nat × Int} (h : w.ownsRow base e 2 (.slice a (k + 1) c) (k + 1) (cellsI q (k + 1))) : w.ownsRow base e 2 (.slice a k c) k (cellsI q k) := by
  rcases h.2 with ⟨hv, h0⟩ | ⟨g, c', cur, hv, hB, hg, hn, hc, hsz, htk⟩
  · injection hv with _ e2 _
    omega
  · injection hv with e1 _ e3
    subst e1 e3
    refine ⟨cellsI_length q k, .inr ⟨g, c, cur, rfl, hB, hg, by omega, hc, hsz, ?_⟩⟩
    have e := congrArg (List.take (k * 2)) htk
    have e2 : List.take (k * 2) (cellsI q (k + 1)) = cellsI q k := by
      have hl := cellsI_length q k
      rw [cellsI, ← hl, List.take_left']
      rfl
    rw [List.take_take, Nat.min_eq_left (by omega), e2] at e
    exact e

/-- A queue in memory: its own block, and its items' row in a newer one. -/
structure QAt (w : World) (n : Nat) (q : Nat → Nat × Int) (a : Option Addr) (len cap h : Nat) : Prop where
  qb : Blk w n 123 #[.slice a len cap, .int .i64 (h : Int)]
  own : w.ownsRow (n + 1) 126 2 (.slice a len cap) len (cellsI q len)
section
variable {w w' : World} {n : Nat} {q : Nat → Nat × Int} {a : Option Addr} {len cap h : Nat}
theorem Blk.c2 {w : World} {n : Nat} {t : TypeId} {v0 v1 : Value} (h : Blk w n t #[v0, v1]) : w.cell? ⟨n, 0, none⟩ = some v0 ∧ w.cell? ⟨n, 1, none⟩ = some v1 ∧ ∀ i, w.frozen? ⟨n, i, none⟩ = false := ⟨h.cell 0, h.cell 1, h.frozen⟩
theorem QAt.grows (k : QAt w n q a len cap h) (g : Grows w w') : QAt w' n q a len cap h := ⟨k.qb.grows g, ownsRow_grows k.own g⟩
theorem QAt.most (k : QAt w n q a len cap h) : len ≤ cap ∧ cap ≤ 9223372036854775807 := by
  rcases k.own.2 with ⟨hv, h0⟩ | ⟨g, c', cur, hv, hB, hg, hn, hc, hsz, htk⟩
  · injection hv with _ e2 e3
    omega
  · injection hv with e1 _ e3
    subst e3
    unfold maxLen at hc
    omega
theorem QAt.item (k : QAt w n q a len cap h) {j : Nat} (hj : j < len) : ∃ b, a = some ⟨b, 0, none⟩ ∧ n < b ∧ b < w.heap.size ∧ w.cell? ⟨b, j * 2, none⟩ = some (.int .i64 ((q j).1 : Int)) ∧ w.cell? ⟨b, j * 2 + 1, none⟩ = some (.int .u8 (q j).2) := by
  rcases k.own.2 with ⟨hv, h0⟩ | ⟨g, c', cur, hv, hB, hg, hn, hc, hsz, htk⟩
  · injection hv with _ e2 e3
    omega
  · injection hv with e1 _ e3
    subst e1 e3
    obtain ⟨e0, e1⟩ := cellsI_at q len j hj
    rw [← htk, List.getElem?_take_of_lt (by omega), Array.getElem?_toList] at e0 e1
    exact ⟨g, rfl, hB, (Array.getElem?_eq_some_iff.1 hg).1, by rw [cell_of_row w g _ cur _ _ hg]; exact e0, by rw [cell_of_row w g _ cur _ _ hg]; exact e1⟩
/-- The last item goes. -/
theorem QAt.less (k : QAt w n q a (len + 1) cap h) : QAt (w.setCell ⟨n, 0, none⟩ (.slice a len cap)) n q a len cap h :=
  ⟨k.qb.set_ 0 _, ownsRow_far (ownsRow_less k.own) (fun e => by have := (own_lt k.own _ e).1; simp at this; omega) _⟩
/-- The first item goes. -/
theorem QAt.head (k : QAt w n q a len cap h) (h' : Nat) : QAt (w.setCell ⟨n, 1, none⟩ (.int .i64 (h' : Int))) n q a len cap h' :=
  ⟨k.qb.set_ 1 _, ownsRow_far k.own (fun e => by have := (own_lt k.own _ e).1; simp at this; omega) _⟩
end
theorem item_parts : (Tryd.prog.info? 126).map (fun i => (i.zero, i.size, i.bytes)) = some (some (.agg #[.int .i64 0, .int .u8 0]), 2, 16) := by kernel_rfl
/-- An item appended, as the walk meets it. -/
theorem wpList_append_item {ops : Array Oper} {rest : List Oper} {o : Oper} {a : Act} {w : World} {Q : Exit → Act → World → Prop} (hgd : o.guard = none) (s x : Operand)
    (ho : o.op = .call { callee := .builtin .append, args := #[s, x], argTypes := #[121, 121] })
    (base : Nat) (ad : Option Addr) (k cap : Nat) (q : Nat → Nat × Int) (i : Nat) (v : Int) (hs : a.eval s = .slice ad k cap) (hown : w.ownsRow base 126 2 (.slice ad k cap) k (cellsI q k))
    (n c : Nat) (hx : a.eval x = .slice (some ⟨n, 0, none⟩) 1 c) (hn : Blk w n 126 #[.int .i64 (i : Int), .int .u8 v]) (hk : k ≤ 1000000000) (hbase : base ≤ w.heap.size)
    (h : ∀ g cap' w', w'.ownsRow base 126 2 (.slice (some ⟨g, 0, none⟩) (k + 1) cap') (k + 1) (cellsI (putQ q k i v) (k + 1)) → w.grownBy w' (blkOf ad) → (blkOf ad = some g ∨ g = w.heap.size) → g < w'.heap.size → wpList Tryd.prog ops Q rest (a.put o.dst (.slice (some ⟨g, 0, none⟩) (k + 1) cap')) w') : wpList Tryd.prog ops Q (o :: rest) a w := by
  obtain ⟨inf, hi, hz, hsz, hb⟩ := info_parts item_parts
  refine wpList_append_lies w hgd s x 121 ho base 126 inf _ 2 16 Tryd.underlying121 hi hz hsz hb rfl (by omega) (.slice ad k cap) k (cellsI q k) hs hown ⟨n, 0, none⟩ 1 c [.int .i64 (i : Int), .int .u8 v] hx rfl (fun j u hu => ?_) (fun u hu => by simp only [List.mem_cons, List.not_mem_nil, or_false] at hu; rcases hu with rfl | rfl <;> rfl) (by omega) (by unfold maxLen; omega) (by omega) hbase w.heap.size rfl ?_
  · rw [Go.Addr.add_mid, Nat.zero_add, hn.cell]
    simpa using hu
  · intro g cap' w' h1 h2 h3 h4
    rw [← cellsI_put] at h1
    refine h g cap' w' h1 ?_ ?_ h4
    · cases ad <;> exact h2
    · cases ad
      · exact h3.imp (fun e => by simp [Value.ownBlock] at e) id
      · exact h3

theorem ownsRow_shape {w : World} {base : Nat} {e : TypeId} {size n : Nat} {v : Value} {xs : List Value} (h : w.ownsRow base e size v n xs) : ∃ ad cap, v = .slice ad n cap := by
  rcases h.2 with ⟨hv, h0⟩ | ⟨b, c, cur, hv, _⟩
  · subst h0; exact ⟨_, _, hv⟩
  · exact ⟨_, _, hv⟩
theorem chg_of {w wr w' w1 : World} {n : Nat} {row : Option Nat} (h : Chg (fun k => n ≤ k) w wr) (g : Grows wr w') (k : w'.grownBy w1 row) (hr : ∀ j, row = some j → n + 1 ≤ j) : Chg (fun k => n ≤ k) w w1 :=
  (h.grows g).trans (chg_grownBy k (fun j hj _ => by have := hr j hj; omega))
/-- An item appended at a step of a region that draws its order. -/
theorem step_append_item {ops : Array Oper} {o : Oper} {a : Act} {w : World} {K : Act → World → Prop} {Q : Exit → Act → World → Prop} {E : Prop} (hw : Region.wanted o (yielded ops a.tmps) = true) (s x : Operand)
    (ho : o.op = .call { callee := .builtin .append, args := #[s, x], argTypes := #[121, 121] })
    (base : Nat) (ad : Option Addr) (k cap : Nat) (q : Nat → Nat × Int) (i : Nat) (v : Int) (hs : a.eval s = .slice ad k cap) (hown : w.ownsRow base 126 2 (.slice ad k cap) k (cellsI q k))
    (n c : Nat) (hx : a.eval x = .slice (some ⟨n, 0, none⟩) 1 c) (hn : Blk w n 126 #[.int .i64 (i : Int), .int .u8 v]) (hk : k ≤ 1000000000) (hbase : base ≤ w.heap.size)
    (h : ∀ ad' cap' w', w'.ownsRow base 126 2 (.slice ad' (k + 1) cap') (k + 1) (cellsI (putQ q k i v) (k + 1)) → w.grownBy w' (blkOf ad) → K (a.put o.dst (.slice ad' (k + 1) cap')) w') :
    if Region.wanted o (yielded ops a.tmps) = true then Oper.wp Tryd.prog o a w K Q else E := by
  rw [if_pos hw]
  obtain ⟨inf, hi, hz, hsz, hby⟩ := info_parts item_parts
  obtain ⟨v', w', hrun, h2, h3, _, _⟩ := run_append_own_at (P := Tryd.prog) w base 121 o.type 126 inf _ 2 16 Tryd.underlying121 hi hz hsz hby rfl (by omega) (.slice ad k cap) k (cellsI q k) hown ⟨n, 0, none⟩ 1 c [.int .i64 (i : Int), .int .u8 v] rfl
    (fun j u hu => by
      rw [Go.Addr.add_mid, Nat.zero_add, hn.cell]
      simpa using hu)
    (fun u hu => by simp only [List.mem_cons, List.not_mem_nil, or_false] at hu; rcases hu with rfl | rfl <;> rfl) (by unfold maxLen; omega) (by omega) hbase
  rw [← cellsI_put] at h2
  obtain ⟨ad', cap', rfl⟩ := ownsRow_shape h2
  unfold Oper.wp execOp
  simp only [ho, resolve, invoke, builtin, Sem.run_bind, Sem.run_pure, Result.andThen_ok, List.map_toArray, List.map_cons, List.map_nil, hs, hx, hrun]
  refine h _ _ w' h2 ?_
  cases ad <;> exact h3

/-! Bytes turned over: an exclusive or under a name. -/
def flipB (k : Bool) : Int := if k = true then 0 else 255
def xSem (a b : Int) : Sem Value := Op.intBits .xor .u8 a b
@[go_sem ↓] theorem xor_is (a b : Int) : Op.intBits .xor .u8 a b = xSem a b := rfl
theorem xor_255 : ∀ v : Fin 256, IntKind.u8.wrap ((BitVec.ofInt 8 (v.val : Int) ^^^ BitVec.ofInt 8 255).toNat : Int) = 255 - (v.val : Int) := by decide +kernel
theorem xor_0 : ∀ v : Fin 256, IntKind.u8.wrap ((BitVec.ofInt 8 (v.val : Int) ^^^ BitVec.ofInt 8 0).toNat : Int) = (v.val : Int) := by decide +kernel
theorem xor_flip (k : Bool) (v : Int) (h0 : 0 ≤ v) (h1 : v ≤ 255) : xSem v (flipB k) = pure (.int .u8 (turnV k v)) := by
  obtain ⟨n, rfl⟩ : ∃ n : Nat, v = n := ⟨v.toNat, by omega⟩
  have hn : n < 256 := by omega
  unfold xSem Op.intBits
  cases k
  · have := xor_255 ⟨n, hn⟩
    simp only at this
    show pure (Value.int .u8 (IntKind.u8.wrap ((BitVec.ofInt 8 (n : Int) ^^^ BitVec.ofInt 8 255).toNat : Int))) = _
    rw [this]; rfl
  · have := xor_0 ⟨n, hn⟩
    simp only at this
    show pure (Value.int .u8 (IntKind.u8.wrap ((BitVec.ofInt 8 (n : Int) ^^^ BitVec.ofInt 8 0).toNat : Int))) = _
    rw [this]; rfl
@[simp, go_sem] theorem run_xor_flip (k : Bool) (v : Int) (w : World) (P : Program) (h0 : 0 ≤ v) (h1 : v ≤ 255) : (xSem v (flipB k)).run P w = .ok (.int .u8 (turnV k v)) w := by rw [xor_flip k v h0 h1]; rfl
theorem flipB_bd (k : Bool) : 0 ≤ flipB k ∧ flipB k ≤ 255 := by unfold flipB; split <;> omega
end Go.Proofs.YtklcmlbkhjcaiaaDoor
