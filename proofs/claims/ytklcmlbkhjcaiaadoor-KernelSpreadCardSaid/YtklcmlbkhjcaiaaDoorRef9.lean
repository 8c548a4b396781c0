/- The walk of the reference of layer 9: the greatest (the least) around a point. -/
import Derived.Test.YtklcmlbkhjcaiaaDoorMoveT
import Derived.Test.YtklcmlbkhjcaiaaDoorK1
import Derived.Test.YtklcmlbkhjcaiaaDoorK5
import Derived.Test.YtklcmlbkhjcaiaaDoorApp





namespace Go.Proofs.YtklcmlbkhjcaiaaDoor
open Go.RowKit
set_option linter.unusedVariables false

/-- The greatest of a number and of n more. -/
def mxF (t : Int) (f : Int → Int) (s : Int) : Nat → Int
  | 0 => t
  | n + 1 => if mxF t f s n < f (s + (n : Int)) then f (s + (n : Int)) else mxF t f s n
theorem mxF_eq {t : Int} (ht : 0 ≤ t) (f : Int → Int) (s : Int) : ∀ n : Nat, mxF t f s n = if mxW f s n ≤ t then t else mxW f s n
  | 0 => by simp [mxF, mxW, ht]
  | n + 1 => by
    rw [mxF, mxW_succ, mxF_eq ht f s n]
    by_cases h1 : mxW f s n ≤ t
    · rw [if_pos h1]
      by_cases h2 : t < f (s + (n : Int))
      · rw [if_pos h2, if_pos (show mxW f s n ≤ f (s + (n : Int)) by omega), if_neg (by omega)]
      · rw [if_neg h2, if_pos]
        split <;> omega
    · rw [if_neg h1]
      by_cases h2 : mxW f s n < f (s + (n : Int))
      · rw [if_pos h2, if_pos (show mxW f s n ≤ f (s + (n : Int)) by omega), if_neg (by omega)]
      · rw [if_neg h2]
        by_cases h3 : mxW f s n ≤ f (s + (n : Int))
        · rw [if_pos h3, if_neg (by omega)]; omega
        · rw [if_neg h3, if_neg h1]
/-- .. of n rows. -/
def mxR (t : Int) (f : Int → Int → Int) (s u : Int) (m : Nat) : Nat → Int
  | 0 => t
  | n + 1 => mxF (mxR t f s u m n) (f (u + (n : Int))) s m
theorem mxR_eq {t : Int} (ht : 0 ≤ t) (f : Int → Int → Int) (s u : Int) (m : Nat) : ∀ n : Nat, 0 ≤ mxR t f s u m n ∧ mxR t f s u m n = if mxW (fun v => mxW (f v) s m) u n ≤ t then t else mxW (fun v => mxW (f v) s m) u n
  | 0 => by simp [mxR, mxW, ht]
  | n + 1 => by
    obtain ⟨h0, h1⟩ := mxR_eq ht f s u m n
    rw [mxR, mxW_succ, mxF_eq h0]
    generalize mxR t f s u m n = A at *
    show 0 ≤ (if mxW (f (u + (n : Int))) s m ≤ A then A else mxW (f (u + (n : Int))) s m) ∧ _
    generalize mxW (f (u + (n : Int))) s m = b at *
    generalize mxW (fun v => mxW (f v) s m) u n = c at *
    refine ⟨by split <;> omega, ?_⟩
    split at h1 <;> split <;> split <;> (try split) <;> omega
/-- What stands around a point: value by value the greatest, or the least. -/
def aroundP (k : Bool) (F : Img) (x y rx ry : Int) : P4 := turnP k (winP (fun v => winP (fun u => turnP k (F u v)) (x - rx) (winN rx)) (y - ry) (winN ry))
theorem aroundP_chan (k : Bool) (F : Img) (x y rx ry : Int) (c : Nat) : chan (aroundP k F x y rx ry) c = turnV k (mxW (fun v => mxW (fun u => turnV k (chan (F u v) c)) (x - rx) (winN rx)) (y - ry) (winN ry)) := by
  unfold aroundP
  rw [turnP_chan, winP_chan]
  simp only [winP_chan, turnP_chan]
theorem aroundP_ok {F : Img} (h : ∀ x y, okP (F x y)) (k : Bool) (x y rx ry : Int) : okP (aroundP k F x y rx ry) := turnP_ok k (winP_ok (fun v => winP_ok (fun u => turnP_ok k (h u v)) _ _) _ _)
/-- Beginning with the point's own value nothing else comes of it. -/
theorem around_chan {k : Bool} {F : Img} (h : ∀ x y, okP (F x y)) (x y : Int) {rx ry : Int} (hx : 0 ≤ rx) (hy : 0 ≤ ry) (c : Nat) : turnV k (mxR (turnV k (chan (F x y) c)) (fun v u => turnV k (chan (F u v) c)) (x - rx) (y - ry) (winN rx) (winN ry)) = chan (aroundP k F x y rx ry) c := by
  rw [aroundP_chan]
  congr 1
  have hb := fun u v => turnV_bd k (chan_bd (h u v) c)
  rw [(mxR_eq (hb x y).1 _ _ _ _ _).2]
  have wx := winN_eq hx
  have wy := winN_eq hy
  have h1 := mxW_ge (fun v => mxW (fun u => turnV k (chan (F u v) c)) (x - rx) (winN rx)) (y - ry) (winN ry) ry.toNat (by omega)
  have h2 := mxW_ge (fun u => turnV k (chan (F u y) c)) (x - rx) (winN rx) rx.toNat (by omega)
  rw [show y - ry + (ry.toNat : Int) = y from by omega] at h1
  rw [show x - rx + (rx.toNat : Int) = x from by omega] at h2
  have h3 : turnV k (chan (F x y) c) ≤ mxW (fun v => mxW (fun u => turnV k (chan (F u v) c)) (x - rx) (winN rx)) (y - ry) (winN ry) := Int.le_trans h2 h1
  split
  · omega
  · rfl

/-! A pixel's value at a place that is a letter. -/
def iSem (p0 p1 p2 p3 : Int) (c : Nat) : Sem Value := Instr.index 40 (.agg #[.int .u8 p0, .int .u8 p1, .int .u8 p2, .int .u8 p3]) (.int .i64 (c : Int))
@[go_sem high] theorem index_is (p0 p1 p2 p3 : Int) (c : Nat) : Instr.index 40 (.agg #[.int .u8 p0, .int .u8 p1, .int .u8 p2, .int .u8 p3]) (.int .i64 (c : Int)) = iSem p0 p1 p2 p3 c := rfl
theorem run_index0 (p0 p1 p2 p3 : Int) (w : World) : (iSem p0 p1 p2 p3 0).run Tryd.prog w = .ok (.int .u8 p0) w := by kernel_rfl
theorem run_index1 (p0 p1 p2 p3 : Int) (w : World) : (iSem p0 p1 p2 p3 1).run Tryd.prog w = .ok (.int .u8 p1) w := by kernel_rfl
theorem run_index2 (p0 p1 p2 p3 : Int) (w : World) : (iSem p0 p1 p2 p3 2).run Tryd.prog w = .ok (.int .u8 p2) w := by kernel_rfl
theorem run_index3 (p0 p1 p2 p3 : Int) (w : World) : (iSem p0 p1 p2 p3 3).run Tryd.prog w = .ok (.int .u8 p3) w := by kernel_rfl
@[simp, go_sem] theorem run_index (p0 p1 p2 p3 : Int) (c : Nat) (w : World) (hc : c < 4) : (iSem p0 p1 p2 p3 c).run Tryd.prog w = .ok (.int .u8 (chan ⟨p0, p1, p2, p3⟩ c)) w := by
  have h : c = 0 ∨ c = 1 ∨ c = 2 ∨ c = 3 := by omega
  rcases h with rfl | rfl | rfl | rfl
  · exact run_index0 p0 p1 p2 p3 w
  · exact run_index1 p0 p1 p2 p3 w
  · exact run_index2 p0 p1 p2 p3 w
  · exact run_index3 p0 p1 p2 p3 w
@[simp] theorem chan_eta (p : P4) (c : Nat) : chan ⟨p.r, p.g, p.b, p.a⟩ c = chan p c := rfl

theorem mxF_step {k : Bool} {T : Int} {f : Int → Int} {s : Int} {i : Nat} {a n : Int} (ha : a = turnV k (mxF T f s i)) (hn : turnV k n = f (s + (i : Int))) : (if (if k = true then a < n else n < a) then n else a) = turnV k (mxF T f s (i + 1)) := by
  rw [mxF, ← hn]
  cases k
  · simp only [turnV, Bool.false_eq_true, if_false] at ha ⊢
    split <;> split <;> omega
  · simp only [turnV, if_true] at ha ⊢
    split <;> split <;> omega

end Go.Proofs.YtklcmlbkhjcaiaaDoor
