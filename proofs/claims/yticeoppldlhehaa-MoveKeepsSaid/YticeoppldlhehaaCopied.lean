/- 'append([]api.Px{}, l...)': a row of pixels copied; and the law's own 'copied', 'right' of layer 5. -/
import Derived.Test.YticeoppldlhehaaRef5M
namespace Go.Proofs.Yticeoppldlhehaa
open Go.RowKit
set_option linter.unusedVariables false

theorem run_append_of_nil {P : Program} (w : World) (base : Nat) (t ty e : TypeId) (i : TypeInfo) (size : Nat) (ht : P.underlying t = some (.slice e)) (hi : P.info? e = some i)
    (v : Value) (n : Nat) (xs : List Value) (hown : w.ownsRow base e size v n xs) (c : Nat) : (Builtin.append_ #[t, t] ty #[v, .slice none 0 c]).run P w = .ok v w := by
  rcases hown.2 with ⟨rfl, rfl⟩ | ⟨g, cap, cur, rfl, _, _, hnc, _⟩
  · simp [Builtin.append_, run_underlying ht, sizeOf, typeInfo, hi, Builtin.lenOf, Builtin.firstCells]
  · simp [Builtin.append_, run_underlying ht, sizeOf, typeInfo, hi, Builtin.lenOf, Builtin.firstCells, hnc, storeCells]

theorem ownsRow_form {w : World} {base : Nat} {e : TypeId} {size n : Nat} {v : Value} {xs : List Value} (h : w.ownsRow base e size v n xs) : ∃ ad cap, v = .slice ad n cap := by
  rcases h.2 with ⟨rfl, rfl⟩ | ⟨g, cap, cur, rfl, _⟩
  · exact ⟨_, _, rfl⟩
  · exact ⟨_, _, rfl⟩

/-- A row of pixels appended to an empty slice: as the walk meets it. -/
theorem wpList_append_row {ops : Array Oper} {rest : List Oper} {o : Oper} {a : Act} {w : World} {Q : Exit → Act → World → Prop} (hgd : o.guard = none) (s x : Operand)
    (ho : o.op = .call { callee := .builtin .append, args := #[s, x], argTypes := #[24, 24] })
    (base n : Nat) (hs : a.eval s = .slice (some ⟨n, 0, none⟩) 0 0) (hn : Blk w n 32 #[]) (hb : base ≤ n)
    (ad : Option Addr) (len cap : Nat) (f : Nat → P4) (hx : a.eval x = .slice ad len cap) (hp : IsPix w ad len cap f) (hl : len ≤ 30000000000000)
    (h : ∀ ad' cap' w', w'.ownsRow base 32 4 (.slice ad' len cap') len (cellsP f len) → w.grownBy w' (some n) → wpList Try.prog ops Q rest (a.put o.dst (.slice ad' len cap')) w') : wpList Try.prog ops Q (o :: rest) a w := by
  obtain ⟨i, hi, hz, hsz, hby⟩ := info_parts px_parts
  have hown : w.ownsRow base 32 4 (.slice (some ⟨n, 0, none⟩) 0 0) 0 [] := ⟨rfl, .inr ⟨n, 0, #[], rfl, hb, hn, Nat.le_refl _, Nat.zero_le _, rfl, rfl⟩⟩
  refine wpList_plain hgd fun K hK => ?_
  cases ad with
  | none =>
    have h0 : len = 0 := by
      rcases Nat.eq_zero_or_pos len with h0 | h0
      · exact h0
      · obtain ⟨b, off, e, _⟩ := hp.cells h0; cases e
    subst h0
    have hrun := run_append_of_nil (P := Try.prog) w base 24 o.type 32 i 4 Try.underlying24 hi _ 0 [] hown cap
    unfold Oper.wp execOp
    simp only [ho, resolve, invoke, builtin, Sem.run_bind, Sem.run_pure, Result.andThen_ok, List.map_toArray, List.map_cons, List.map_nil, hs, hx, hrun]
    exact hK _ _ (h _ _ w hown (World.grownBy.refl w _))
  | some ad =>
    obtain ⟨v', w', hrun, h2, h3, _, _⟩ := run_append_own_at (P := Try.prog) w base 24 o.type 32 i _ 4 4 Try.underlying24 hi hz hsz hby rfl (by omega) _ 0 [] hown ad len cap (cellsP f len) (by rw [cellsP_length])
      (fun j u hu => by
        obtain ⟨hj, rfl⟩ := cellsP_div hu
        obtain ⟨b, off, e, _, hc⟩ := hp.cells (by omega)
        cases e
        rw [Go.Addr.add_mid]
        have := hc (j / 4) (j % 4) (by omega) (by omega)
        rwa [show j / 4 * 4 + j % 4 = j from by omega] at this)
      (fun u hu => cellsP_one _ _ u hu) (by unfold maxLen; omega) (by omega) (by have := hn.lt; omega)
    rw [Nat.zero_add] at h2
    obtain ⟨ad', cap', rfl⟩ := ownsRow_form h2
    unfold Oper.wp execOp
    simp only [ho, resolve, invoke, builtin, Sem.run_bind, Sem.run_pure, Result.andThen_ok, List.map_toArray, List.map_cons, List.map_nil, hs, hx, hrun]
    exact hK _ _ (h _ _ w' h2 h3)


end Go.Proofs.Yticeoppldlhehaa
