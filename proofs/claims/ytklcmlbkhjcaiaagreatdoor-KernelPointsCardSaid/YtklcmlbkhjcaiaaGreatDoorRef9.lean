/- The walk of the reference of layer 9: the greatest (the least) around a point. -/
import Derived.Test.YtklcmlbkhjcaiaaGreatDoorMoveT
import Derived.Test.YtklcmlbkhjcaiaaGreatDoorK1
import Derived.Test.YtklcmlbkhjcaiaaGreatDoorK5
import Derived.Test.YtklcmlbkhjcaiaaGreatDoorApp





namespace Go.Proofs.YtklcmlbkhjcaiaaGreatDoor
open Go.RowKit
set_option linter.unusedVariables false

/-- The greatest of a number and of n more. -/
def mxF (t : Int) (f : Int → Int) (s : Int) : Nat → Int
  | 0 => t
  | n + 1 => if mxF t f s n < f (s + (n : Int)) then f (s + (n : Int)) else mxF t f s n
theorem mxF_eq {t : Int} (ht : 0 ≤ t) (f : Int → Int) (s : Int) : ∀ n : Nat, mxF t f s n = if mxW f s n ≤ t then t else mxW f s n
  | 0 => by simp [mxF, mxW, ht]
  | n + 1 => by
    rw [mxF, mxW_succ, mxF_eq ht f s n]
    by_cases h1 : mxW f s n ≤ t
    · rw [if_pos h1]
      by_cases h2 : t < f (s + (n : Int))
      · rw [if_pos h2, if_pos (show mxW f s n ≤ f (s + (n : Int)) by omega), if_neg (by omega)]
      · rw [if_neg h2, if_pos]
        split <;> omega
    · rw [if_neg h1]
      by_cases h2 : mxW f s n < f (s + (n : Int))
      · rw [if_pos h2, if_pos (show mxW f s n ≤ f (s + (n : Int)) by omega), if_neg (by omega)]
      · rw [if_neg h2]
        by_cases h3 : mxW f s n ≤ f (s + (n : Int))
        · rw [if_pos h3, if_neg (by omega)]; omega
        · rw [if_neg h3, if_neg h1]
/-- .. of n rows. -/
def mxR (t : Int) (f : Int → Int → Int) (s u : Int) (m : Nat) : Nat → Int
  | 0 => t
  | n + 1 => mxF (mxR t f s u m n) (f (u + (n : Int))) s m
theorem mxR_eq {t : Int} (ht : 0 ≤ t) (f : Int → Int → Int) (s u : Int) (m : Nat) : ∀ n : Nat, 0 ≤ mxR t f s u m n ∧ mxR t f s u m n = if mxW (fun v => mxW (f v) s m) u n ≤ t then t else mxW (fun v => mxW (f v) s m) u n
  | 0 => by simp [mxR, mxW, ht]
  | n + 1 => by
    obtain ⟨h0, h1⟩ := mxR_eq ht f s u m n
    rw [mxR, mxW_succ, mxF_eq h0]
    generalize mxR t f s u m n = A at *
    show 0 ≤ (if mxW (f (u + (n : Int))) s m ≤ A then A else mxW (f (u + (n : Int))) s m) ∧ _
    generalize mxW (f (u + (n : Int))) s m = b at *
    generalize mxW (fun v => mxW (f v) s m) u n = c at *
    refine ⟨by split <;> omega, ?_⟩
    split at h1 <;> split <;> split <;> (try split) <;> omega
/-- What stands around a point: value by value the greatest, or the least. -/
def aroundP (k : Bool) (F : Img) (x y rx ry : Int) : P4 := turnP k (winP (fun v => winP (fun u => turnP k (F u v)) (x - rx) (winN rx)) (y - ry) (winN ry))
theorem aroundP_chan (k : Bool) (F : Img) (x y rx ry : Int) (c : Nat) : chan (aroundP k F x y rx ry) c = turnV k (mxW (fun v => mxW (fun u => turnV k (chan (F u v) c)) (x - rx) (winN rx)) (y - ry) (winN ry)) := by
  unfold aroundP
  rw [turnP_chan, winP_chan]
  simp only [winP_chan, turnP_chan]
theorem aroundP_ok {F : Img} (h : ∀ x y, okP (F x y)) (k : Bool) (x y rx ry : Int) : okP (aroundP k F x y rx ry) := turnP_ok k (winP_ok (fun v => winP_ok (fun u => turnP_ok k (h u v)) _ _) _ _)
/-- Beginning with the point's own value nothing else comes of it. -/
theorem around_chan {k : Bool} {F : Img} (h : ∀ x y, okP (F x y)) (x y : Int) {rx ry : Int} (hx : 0 ≤ rx) (hy : 0 ≤ ry) (c : Nat) : turnV k (mxR (turnV k (chan (F x y) c)) (fun v u => turnV k (chan (F u v) c)) (x - rx) (y - ry) (winN rx) (winN ry)) = chan (aroundP k F x y rx ry) c := by
  rw [aroundP_chan]
  congr 1
  have hb := fun u v => turnV_bd k (chan_bd (h u v) c)
  rw [(mxR_eq (hb x y).1 _ _ _ _ _).2]
  have wx := winN_eq hx
  have wy := winN_eq hy
  have h1 := mxW_ge (fun v => mxW (fun u => turnV k (chan (F u v) c)) (x - rx) (winN rx)) (y - ry) (winN ry) ry.toNat (by omega)
  have h2 := mxW_ge (fun u => turnV k (chan (F u y) c)) (x - rx) (winN rx) rx.toNat (by omega)
  rw [show y - ry + (ry.toNat : Int) = y from by omega] at h1
  rw [show x - rx + (rx.toNat : Int) = x from by omega] at h2
  have h3 : turnV k (chan (F x y) c) ≤ mxW (fun v => mxW (fun u => turnV k (chan (F u v) c)) (x - rx) (winN rx)) (y - ry) (winN ry) := Int.le_trans h2 h1
  split
  · omega
  · rfl

/-! A pixel's value at a place that is a letter. -/
def iSem (p0 p1 p2 p3 : Int) (c : Nat) : Sem Value := Instr.index 37 (.agg #[.int .u8 p0, .int .u8 p1, .int .u8 p2, .int .u8 p3]) (.int .i64 (c : Int))
@[go_sem high] theorem index_is (p0 p1 p2 p3 : Int) (c : Nat) : Instr.index 37 (.agg #[.int .u8 p0, .int .u8 p1, .int .u8 p2, .int .u8 p3]) (.int .i64 (c : Int)) = iSem p0 p1 p2 p3 c := rfl
theorem run_index0 (p0 p1 p2 p3 : Int) (w : World) : (iSem p0 p1 p2 p3 0).run Tryz.prog w = .ok (.int .u8 p0) w := by kernel_rfl
theorem run_index1 (p0 p1 p2 p3 : Int) (w : World) : (iSem p0 p1 p2 p3 1).run Tryz.prog w = .ok (.int .u8 p1) w := by kernel_rfl
theorem run_index2 (p0 p1 p2 p3 : Int) (w : World) : (iSem p0 p1 p2 p3 2).run Tryz.prog w = .ok (.int .u8 p2) w := by kernel_rfl
theorem run_index3 (p0 p1 p2 p3 : Int) (w : World) : (iSem p0 p1 p2 p3 3).run Tryz.prog w = .ok (.int .u8 p3) w := by kernel_rfl
@[simp, go_sem] theorem run_index (p0 p1 p2 p3 : Int) (c : Nat) (w : World) (hc : c < 4) : (iSem p0 p1 p2 p3 c).run Tryz.prog w = .ok (.int .u8 (chan ⟨p0, p1, p2, p3⟩ c)) w := by
  have h : c = 0 ∨ c = 1 ∨ c = 2 ∨ c = 3 := by omega
  rcases h with rfl | rfl | rfl | rfl
  · exact run_index0 p0 p1 p2 p3 w
  · exact run_index1 p0 p1 p2 p3 w
  · exact run_index2 p0 p1 p2 p3 w
  · exact run_index3 p0 p1 p2 p3 w
@[simp] theorem chan_eta (p : P4) (c : Nat) : chan ⟨p.r, p.g, p.b, p.a⟩ c = chan p c := rfl

theorem mxF_step {k : Bool} {T : Int} {f : Int → Int} {s : Int} {i : Nat} {a n : Int} (ha : a = turnV k (mxF T f s i)) (hn : turnV k n = f (s + (i : Int))) : (if (if k = true then a < n else n < a) then n else a) = turnV k (mxF T f s (i + 1)) := by
  rw [mxF, ← hn]
  cases k
  · simp only [turnV, Bool.false_eq_true, if_false] at ha ⊢
    split <;> split <;> omega
  · simp only [turnV, if_true] at ha ⊢
    split <;> split <;> omega

set_option maxHeartbeats 3200000 in
theorem ref09_Around (k : Bool) (rf : R) (af : Option Addr) (lf cf : Nat) (F : Img) (x y rx ry : Int) (c : Nat) (w : World) (hf : Hid (BufAt w rf af lf cf F)) (hsf : cntR rf ≤ 140737488355328) (hx : -4398046511104 ≤ x ∧ x ≤ 4398046511104) (hy : -4398046511104 ≤ y ∧ y ≤ 4398046511104) (hrx : 0 ≤ rx ∧ rx ≤ 255) (hry : 0 ≤ ry ∧ ry ≤ 255) (hc : c < 4) :
    Calls Tryz.prog 64 #[.agg #[.int .i64 rf.x0, .int .i64 rf.y0, .int .i64 rf.x1, .int .i64 rf.y1, .slice af lf cf], .int .i64 x, .int .i64 y, .int .i64 rx, .int .i64 ry, .int .i64 (c : Int), .bool k] w fun e w' => e = .returned (.int .u8 (chan (aroundP k F x y rx ry) c)) ∧ Grows w w' := by
  have HSRC := hf
  have FOK : Hid (∀ u v, okP (F u v)) := hf.out.fits.ok
  obtain ⟨hx0, hx1⟩ := hx
  obtain ⟨hy0, hy1⟩ := hy
  obtain ⟨hrx0, hrx1⟩ := hrx
  obtain ⟨hry0, hry1⟩ := hry
  have hm := hf.out.most
  have HR : Hid (turnV k (mxR (turnV k (chan (F x y) c)) (fun v u => turnV k (chan (F u v) c)) (x - rx) (y - ry) (winN rx) (winN ry)) = chan (aroundP k F x y rx ry) c) := around_chan FOK.out x y hrx0 hry0 c
  obtain ⟨RES, hRES⟩ : ∃ a, a = chan (aroundP k F x y rx ry) c := ⟨_, rfl⟩
  rw [← hRES] at HR ⊢
  clear hRES
  obtain ⟨q0, hq0⟩ : ∃ q, q = F x y := ⟨_, rfl⟩
  have HQ1 : Hid (F x y = q0) := hq0.symm
  have hcb : 0 ≤ chan q0 c ∧ chan q0 c ≤ 255 := by rw [hq0]; exact chan_bd (FOK.out _ _) c
  have ST0 : Hid (chan q0 c = turnV k (mxR (turnV k (chan (F x y) c)) (fun v u => turnV k (chan (F u v) c)) (x - rx) (y - ry) (winN rx) 0)) := by
    show _ = turnV k (turnV k (chan (F x y) c))
    rw [turnV_turn, hq0]
  clear hq0
  go_enter Tryz.func64, Tryz.ntmps64
  go_wp2_with (go_at_call 12; (with_reducible refine Calls.mono (ref05_AtIs _ _ _ _ _ _ _ _ q0 ?_ (by omega) HQ1) ?_); (exact Lib.hid (BufAt.grows HSRC.out (by repeat (first | exact Grows.refl _ | apply Grows.grow | apply Grows.alloc | apply Grows.drew)))); rintro e w' ⟨rfl, hgw⟩; first | (obtain ⟨gw, rfl⟩ := grows_of_grow hgw) | (obtain ⟨gw, rfl⟩ := hgw))
  refine wp_name ?_
  intro W0 hW0
  have D0 : Hid (Blk W0 w.heap.size 32 #[.int .i64 rf.x0, .int .i64 rf.y0, .int .i64 rf.x1, .int .i64 rf.y1, .slice af lf cf]) := by rw [hW0]; exact (by unfold Blk; repeat (first | exact blk_at _ _ _ (by first | omega | (simp; done) | (simp; omega)) | refine (blk_past _ _ _ (by first | omega | (simp; done) | (simp; omega))).trans ?_ | refine (heap_grow _ _ _ (by first | omega | (simp; done) | (simp; omega))).trans ?_ | refine (blk_drew _ _).trans ?_))
  have GW : Hid (Grows w W0) := by rw [hW0]; exact (by repeat (first | exact Grows.refl _ | apply Grows.grow | apply Grows.alloc | apply Grows.drew))
  clear hW0
  go_loopw [15, 16] (fun o z wr => ∃ (j : Nat) (a : Int), (j : Int) ≤ 2 * ry + 1 ∧ z = .int .i64 (y - ry + j) ∧ o = .int .u8 a ∧ 0 ≤ a ∧ a ≤ 255 ∧ Hid (Grows W0 wr ∧ a = turnV k (mxR (turnV k (chan (F x y) c)) (fun v u => turnV k (chan (F u v) c)) (x - rx) (y - ry) (winN rx) j))) (fun _ z _ => (y + ry + 1 - intOf z).toNat)
  case atStart => exact ⟨0, _, by omega, by go_num, rfl, by omega, by omega, Grows.refl _, ST0.out⟩
  case round =>
    clear ST0
    obtain ⟨j, a, hj, rfl, rfl, ha0, ha1, hh⟩ := hrel
    by_cases hlt : (j : Int) < 2 * ry + 1
    · have hlt2 : y - ry + (j : Int) ≤ y + ry := by omega
      go_wp2
      obtain ⟨wo, hwo⟩ : ∃ wo : World, wo = wr := ⟨_, rfl⟩
      clear hwo
      go_loopw [15, 17] (fun o z wr => ∃ (i : Nat) (a : Int), (i : Int) ≤ 2 * rx + 1 ∧ z = .int .i64 (x - rx + i) ∧ o = .int .u8 a ∧ 0 ≤ a ∧ a ≤ 255 ∧ Hid (Grows W0 wr ∧ a = turnV k (mxF (mxR (turnV k (chan (F x y) c)) (fun v u => turnV k (chan (F u v) c)) (x - rx) (y - ry) (winN rx) j) (fun u => turnV k (chan (F u (y - ry + (j : Int))) c)) (x - rx) i))) (fun _ z _ => (x + rx + 1 - intOf z).toNat)
      case atStart => exact ⟨0, a, by omega, by go_num, rfl, by omega, by omega, hh.out⟩
      case round =>
        clear hh ha0 ha1
        obtain ⟨i, a, hi, rfl, rfl, ha0, ha1, h3⟩ := hrel
        by_cases hk3 : (i : Int) < 2 * rx + 1
        · have c0 := D0.out.grows h3.out.1
          obtain ⟨s0, s1, s2, s3, s4, sf⟩ := c0.c5
          have ls := c0.lt
          have HSRC := Lib.hid (hf.out.grows (GW.out.trans h3.out.1))
          obtain ⟨q, hq⟩ : ∃ q, q = F (x - rx + (i : Int)) (y - ry + (j : Int)) := ⟨_, rfl⟩
          have HQ0 : Hid (F (x - rx + (i : Int)) (y - ry + (j : Int)) = q) := hq.symm
          have HN : Hid (turnV k (chan q c) = (fun u => turnV k (chan (F u (y - ry + (j : Int))) c)) (x - rx + (i : Int))) := by rw [hq]; rfl
          have hn0 : 0 ≤ chan q c ∧ chan q c ≤ 255 := by rw [hq]; exact chan_bd (FOK.out _ _) c
          clear c0 hq
          cases k
          · by_cases hcmp : chan q c < a
            · go_wp2_with (go_at_call 12; (with_reducible refine (ref05_AtIs _ _ _ _ _ _ _ _ q HSRC (by omega) HQ0).mono ?_); rintro e w' ⟨rfl, hgw⟩; first | (obtain ⟨gw, rfl⟩ := grows_of_grow hgw) | (obtain ⟨gw, rfl⟩ := hgw))
              go_roundw
              case rel => exact ⟨i + 1, chan q c, by omega, by go_num, rfl, by omega, by omega, h3.out.1.trans (by repeat (first | exact Grows.refl _ | apply Grows.grow | apply Grows.alloc | apply Grows.drew)), by have e := mxF_step h3.out.2 HN.out; rw [if_pos (by simpa using hcmp)] at e; exact e⟩
              case measure => simp [intOf]; omega
            · have hcmp2 : a ≤ chan q c := by omega
              go_wp2_with (go_at_call 12; (with_reducible refine (ref05_AtIs _ _ _ _ _ _ _ _ q HSRC (by omega) HQ0).mono ?_); rintro e w' ⟨rfl, hgw⟩; first | (obtain ⟨gw, rfl⟩ := grows_of_grow hgw) | (obtain ⟨gw, rfl⟩ := hgw))
              go_roundw
              case rel => exact ⟨i + 1, a, by omega, by go_num, rfl, by omega, by omega, h3.out.1.trans (by repeat (first | exact Grows.refl _ | apply Grows.grow | apply Grows.alloc | apply Grows.drew)), by have e := mxF_step h3.out.2 HN.out; rw [if_neg (by simpa using hcmp)] at e; exact e⟩
              case measure => simp [intOf]; omega
          · by_cases hcmp : a < chan q c
            · go_wp2_with (go_at_call 12; (with_reducible refine (ref05_AtIs _ _ _ _ _ _ _ _ q HSRC (by omega) HQ0).mono ?_); rintro e w' ⟨rfl, hgw⟩; first | (obtain ⟨gw, rfl⟩ := grows_of_grow hgw) | (obtain ⟨gw, rfl⟩ := hgw))
              go_roundw
              case rel => exact ⟨i + 1, chan q c, by omega, by go_num, rfl, by omega, by omega, h3.out.1.trans (by repeat (first | exact Grows.refl _ | apply Grows.grow | apply Grows.alloc | apply Grows.drew)), by have e := mxF_step h3.out.2 HN.out; rw [if_pos (by simpa using hcmp)] at e; exact e⟩
              case measure => simp [intOf]; omega
            · have hcmp2 : chan q c ≤ a := by omega
              go_wp2_with (go_at_call 12; (with_reducible refine (ref05_AtIs _ _ _ _ _ _ _ _ q HSRC (by omega) HQ0).mono ?_); rintro e w' ⟨rfl, hgw⟩; first | (obtain ⟨gw, rfl⟩ := grows_of_grow hgw) | (obtain ⟨gw, rfl⟩ := hgw))
              go_roundw
              case rel => exact ⟨i + 1, a, by omega, by go_num, rfl, by omega, by omega, h3.out.1.trans (by repeat (first | exact Grows.refl _ | apply Grows.grow | apply Grows.alloc | apply Grows.drew)), by have e := mxF_step h3.out.2 HN.out; rw [if_neg (by simpa using hcmp)] at e; exact e⟩
              case measure => simp [intOf]; omega
        · obtain rfl : i = winN rx := by unfold winN; omega
          go_wp2
          go_roundw
          case rel => exact ⟨j + 1, a, by omega, by go_num, rfl, ha0, ha1, h3.out⟩
          case measure => simp [intOf]; omega
    · obtain rfl : j = winN ry := by unfold winN; omega
      go_wp2
      go_ret
      have e := hh.out.2
      rw [HR.out] at e
      exact ⟨by rw [e]; rfl, GW.out.trans hh.out.1⟩
end Go.Proofs.YtklcmlbkhjcaiaaGreatDoor
