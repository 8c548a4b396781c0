/- 'append([]api.Px{}, l...)': a row of pixels copied; and the law's own 'copied', 'right' of layer 5. -/
import Derived.Test.YtldgodpenigphaaRef5M
namespace Go.Proofs.Ytldgodpenigphaa
open Go.RowKit
set_option linter.unusedVariables false

theorem run_append_of_nil {P : Program} (w : World) (base : Nat) (t ty e : TypeId) (i : TypeInfo) (size : Nat) (ht : P.underlying t = some (.slice e)) (hi : P.info? e = some i)
    (v : Value) (n : Nat) (xs : List Value) (hown : w.ownsRow base e size v n xs) (c : Nat) : (Builtin.append_ #[t, t] ty #[v, .slice none 0 c]).run P w = .ok v w := by
  rcases hown.2 with ⟨rfl, rfl⟩ | ⟨g, cap, cur, rfl, _, _, hnc, _⟩
  · simp [Builtin.append_, run_underlying ht, sizeOf, typeInfo, hi, Builtin.lenOf, Builtin.firstCells]
  · simp [Builtin.append_, run_underlying ht, sizeOf, typeInfo, hi, Builtin.lenOf, Builtin.firstCells, hnc, storeCells]

theorem ownsRow_form {w : World} {base : Nat} {e : TypeId} {size n : Nat} {v : Value} {xs : List Value} (h : w.ownsRow base e size v n xs) : ∃ ad cap, v = .slice ad n cap := by
  rcases h.2 with ⟨rfl, rfl⟩ | ⟨g, cap, cur, rfl, _⟩
  · exact ⟨_, _, rfl⟩
  · exact ⟨_, _, rfl⟩

/-- A row of pixels appended to an empty slice: as the walk meets it. -/
theorem wpList_append_row {ops : Array Oper} {rest : List Oper} {o : Oper} {a : Act} {w : World} {Q : Exit → Act → World → Prop} (hgd : o.guard = none) (s x : Operand)
    (ho : o.op = .call { callee := .builtin .append, args := #[s, x], argTypes := #[24, 24] })
    (base n : Nat) (hs : a.eval s = .slice (some ⟨n, 0, none⟩) 0 0) (hn : Blk w n 28 #[]) (hb : base ≤ n)
    (ad : Option Addr) (len cap : Nat) (f : Nat → P4) (hx : a.eval x = .slice ad len cap) (hp : IsPix w ad len cap f) (hl : len ≤ 30000000000000)
    (h : ∀ ad' cap' w', w'.ownsRow base 28 4 (.slice ad' len cap') len (cellsP f len) → w.grownBy w' (some n) → wpList Try.prog ops Q rest (a.put o.dst (.slice ad' len cap')) w') : wpList Try.prog ops Q (o :: rest) a w := by
  obtain ⟨i, hi, hz, hsz, hby⟩ := info_parts px_parts
  have hown : w.ownsRow base 28 4 (.slice (some ⟨n, 0, none⟩) 0 0) 0 [] := ⟨rfl, .inr ⟨n, 0, #[], rfl, hb, hn, Nat.le_refl _, Nat.zero_le _, rfl, rfl⟩⟩
  refine wpList_plain hgd fun K hK => ?_
  cases ad with
  | none =>
    have h0 : len = 0 := by
      rcases Nat.eq_zero_or_pos len with h0 | h0
      · exact h0
      · obtain ⟨b, off, e, _⟩ := hp.cells h0; cases e
    subst h0
    have hrun := run_append_of_nil (P := Try.prog) w base 24 o.type 28 i 4 Try.underlying24 hi _ 0 [] hown cap
    unfold Oper.wp execOp
    simp only [ho, resolve, invoke, builtin, Sem.run_bind, Sem.run_pure, Result.andThen_ok, List.map_toArray, List.map_cons, List.map_nil, hs, hx, hrun]
    exact hK _ _ (h _ _ w hown (World.grownBy.refl w _))
  | some ad =>
    obtain ⟨v', w', hrun, h2, h3, _, _⟩ := run_append_own_at (P := Try.prog) w base 24 o.type 28 i _ 4 4 Try.underlying24 hi hz hsz hby rfl (by omega) _ 0 [] hown ad len cap (cellsP f len) (by rw [cellsP_length])
      (fun j u hu => by
        obtain ⟨hj, rfl⟩ := cellsP_div hu
        obtain ⟨b, off, e, _, hc⟩ := hp.cells (by omega)
        cases e
        rw [Go.Addr.add_mid]
        have := hc (j / 4) (j % 4) (by omega) (by omega)
        rwa [show j / 4 * 4 + j % 4 = j from by omega] at this)
      (fun u hu => cellsP_one _ _ u hu) (by unfold maxLen; omega) (by omega) (by have := hn.lt; omega)
    rw [Nat.zero_add] at h2
    obtain ⟨ad', cap', rfl⟩ := ownsRow_form h2
    unfold Oper.wp execOp
    simp only [ho, resolve, invoke, builtin, Sem.run_bind, Sem.run_pure, Result.andThen_ok, List.map_toArray, List.map_cons, List.map_nil, hs, hx, hrun]
    exact hK _ _ (h _ _ w' h2 h3)

set_option maxHeartbeats 1600000 in
theorem law05_copied (r : R) (a : Option Addr) (len cap : Nat) (F : Img) (w : World) (h : Hid (BufAt w r a len cap F)) (hs : len ≤ 30000000000000) :
    Calls Try.prog 15 #[.agg #[.int .i64 r.x0, .int .i64 r.y0, .int .i64 r.x1, .int .i64 r.y1, .slice a len cap]] w (RetBuf w r F) := by
  have hm := h.out.most
  have hcn := Lib.hid h.out.count
  go_enter Try.func15, Try.ntmps15
  go_wp2_with ((at_builtin; refine wpList_append_row rfl (.tmp 3) (.tmp 5) rfl (w.heap.size + 1 + 1) (w.heap.size + 1 + 1) rfl (by unfold Blk; repeat (first | exact blk_at _ _ _ (by first | omega | (simp; done) | (simp; omega)) | refine (blk_past _ _ _ (by first | omega | (simp; done) | (simp; omega))).trans ?_ | refine (heap_grow _ _ _ (by first | omega | (simp; done) | (simp; omega))).trans ?_ | refine (blk_drew _ _).trans ?_)) (Nat.le_refl _) a len cap _ rfl (h.out.pix.grows (by repeat (first | exact Grows.refl _ | apply Grows.grow | apply Grows.alloc | apply Grows.drew))) hs ?_; intro a' cap' w1 h1 h2; replace h1 := Lib.hid h1; replace h2 := Lib.hid h2; have B0 := Lib.hid (show Blk w1 w.heap.size 26 #[.int .i64 r.x0, .int .i64 r.y0, .int .i64 r.x1, .int .i64 r.y1, .slice a len cap] from by { refine Blk.grown ?_ h2.out (by intro e; injection e with e; omega); exact (by unfold Blk; repeat (first | exact blk_at _ _ _ (by first | omega | (simp; done) | (simp; omega)) | refine (blk_past _ _ _ (by first | omega | (simp; done) | (simp; omega))).trans ?_ | refine (heap_grow _ _ _ (by first | omega | (simp; done) | (simp; omega))).trans ?_ | refine (blk_drew _ _).trans ?_)) }); have B1 := Lib.hid (show Blk w1 (w.heap.size + 1) 26 #[.int .i64 0, .int .i64 0, .int .i64 0, .int .i64 0, .slice none 0 0] from by { refine Blk.grown ?_ h2.out (by intro e; injection e with e; omega); exact (by unfold Blk; repeat (first | exact blk_at _ _ _ (by first | omega | (simp; done) | (simp; omega)) | refine (blk_past _ _ _ (by first | omega | (simp; done) | (simp; omega))).trans ?_ | refine (heap_grow _ _ _ (by first | omega | (simp; done) | (simp; omega))).trans ?_ | refine (blk_drew _ _).trans ?_)) }); have GG := Lib.hid (show Grows w w1 from Grows.grown (w1 := _) (by repeat (first | exact Grows.refl _ | apply Grows.grow | apply Grows.alloc | apply Grows.drew)) h2.out (fun k hk => by { injection hk with hk; omega })); obtain ⟨b0, b1, b2, b3, b4, bf⟩ := B0.out.c5; obtain ⟨d0, d1, d2, d3, d4, df⟩ := B1.out.c5; have l0 := B0.out.lt; have l1 := B1.out.lt))
  have hl := own_lt h1.out
  have hn0 : blkOf a' ≠ some w.heap.size := fun e => by have := (hl _ e).1; omega
  have hn1 : blkOf a' ≠ some (w.heap.size + 1) := fun e => by have := (hl _ e).1; omega
  have hown : ((((((w1.setCell ⟨w.heap.size, 4, none⟩ (.slice a' len cap')).setCell ⟨w.heap.size + 1, 0, none⟩ (.int .i64 r.x0)).setCell ⟨w.heap.size + 1, 1, none⟩ (.int .i64 r.y0)).setCell ⟨w.heap.size + 1, 2, none⟩ (.int .i64 r.x1)).setCell ⟨w.heap.size + 1, 3, none⟩ (.int .i64 r.y1)).setCell ⟨w.heap.size + 1, 4, none⟩ (.slice a' len cap')).ownsRow (w.heap.size + 1 + 1) 28 4 (.slice a' len cap') len (cellsP (fun i => F (ptX r i) (ptY r i)) len) := by
    iterate 5 (refine ownsRow_far ?_ hn1 _)
    exact ownsRow_far h1.out hn0 _
  have hgr : Grows w ((((((w1.setCell ⟨w.heap.size, 4, none⟩ (.slice a' len cap')).setCell ⟨w.heap.size + 1, 0, none⟩ (.int .i64 r.x0)).setCell ⟨w.heap.size + 1, 1, none⟩ (.int .i64 r.y0)).setCell ⟨w.heap.size + 1, 2, none⟩ (.int .i64 r.x1)).setCell ⟨w.heap.size + 1, 3, none⟩ (.int .i64 r.y1)).setCell ⟨w.heap.size + 1, 4, none⟩ (.slice a' len cap')) := by
    iterate 5 (refine Grows.setCell ?_ (by show w.heap.size ≤ w.heap.size + 1; omega) _)
    exact GG.out.setCell (Nat.le_refl _) _
  have hcount := hcn.out
  subst hcount
  obtain ⟨q1, q2, q3⟩ := bufAt_own h.out.good (fun x y _ => h.out.fits.ok x y) hown
  rw [h.out.fits.cut_eq] at q1
  refine bodyPost_ret (results_cell_row rfl _ _ _ 26 #[.int .i64 r.x0, .int .i64 r.y0, .int .i64 r.x1, .int .i64 r.y1, .slice a' (cntR r) cap'] (0, 0) _ rfl ((B1.out.far (p := ⟨w.heap.size, 4, none⟩) (by show w.heap.size + 1 ≠ w.heap.size; omega) _).set5 _ _ _ _ _) Try.underlying26 rfl buf_info) rfl ⟨a', _, cap', rfl, hgr, q1, q2, fun x hx => by have := q3 x hx; omega⟩

set_option maxHeartbeats 1600000 in
theorem law05_right (r : R) (a : Option Addr) (len cap : Nat) (w : World) (hl : len ≤ cap) (hm : cap ≤ 9223372036854775807) :
    Calls Try.prog 12 #[.agg #[.int .i64 r.x0, .int .i64 r.y0, .int .i64 r.x1, .int .i64 r.y1, .slice a len cap]] w fun e w' => e = .returned (.bool (decide (len ≤ 2000) && bufB r len)) ∧ Grows w w' := by
  by_cases h : len ≤ 2000
  · have e : decide (len ≤ 2000) = true := by simpa using h
    rw [e]
    clear e
    go_enter Try.func12, Try.ntmps12
    go_wp2_with ((go_at_call 34; refine (ref05_Right _ _ _ _ _ (by omega)).mono ?_; rintro e w' ⟨rfl, hgw⟩; first | (obtain ⟨gw, rfl⟩ := grows_of_grow hgw) | (obtain ⟨gw, rfl⟩ := hgw)))
    go_ret
    exact ⟨ret_b (by simp), (by repeat (first | exact Grows.refl _ | apply Grows.grow | apply Grows.alloc | apply Grows.drew))⟩
  · have e : decide (len ≤ 2000) = false := by simpa using h
    rw [e]
    clear e
    go_enter Try.func12, Try.ntmps12
    go_wp2
    go_ret
    exact ⟨ret_b (by simp), (by repeat (first | exact Grows.refl _ | apply Grows.grow | apply Grows.alloc | apply Grows.drew))⟩
end Go.Proofs.Ytldgodpenigphaa
