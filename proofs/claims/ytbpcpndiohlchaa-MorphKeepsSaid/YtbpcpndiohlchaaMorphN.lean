/- What stands around points, once and twice: plain facts. -/
import Derived.Test.YtbpcpndiohlchaaLaw09A
namespace Go.Proofs.Ytbpcpndiohlchaa
open Go.RowKit
set_option linter.unusedVariables false

/-- No value around is beyond it. -/
theorem around_ge (k : Bool) (F : Img) (x y : Int) {rx ry : Int} (c : Nat) {u v : Int} (hu0 : x - rx ≤ u) (hu1 : u ≤ x + rx) (hv0 : y - ry ≤ v) (hv1 : v ≤ y + ry) : turnV k (chan (F u v) c) ≤ turnV k (chan (aroundP k F x y rx ry) c) := by
  rw [aroundP_chan, turnV_turn]
  have wx : ((winN rx : Nat) : Int) = 2 * rx + 1 := winN_eq (by omega)
  have wy : ((winN ry : Nat) : Int) = 2 * ry + 1 := winN_eq (by omega)
  have h1 := mxW_ge (fun v => mxW (fun u => turnV k (chan (F u v) c)) (x - rx) (winN rx)) (y - ry) (winN ry) (v - (y - ry)).toNat (by omega)
  have h2 := mxW_ge (fun u => turnV k (chan (F u v) c)) (x - rx) (winN rx) (u - (x - rx)).toNat (by omega)
  rw [show y - ry + ((v - (y - ry)).toNat : Int) = v from by omega] at h1
  rw [show x - rx + ((u - (x - rx)).toNat : Int) = u from by omega] at h2
  exact Int.le_trans h2 h1
/-- One is it. -/
theorem around_is {k : Bool} {F : Img} (h : ∀ x y, okP (F x y)) (x y : Int) {rx ry : Int} (hx : 0 ≤ rx) (hy : 0 ≤ ry) (c : Nat) : ∃ u v : Int, (x - rx ≤ u ∧ u ≤ x + rx) ∧ (y - ry ≤ v ∧ v ≤ y + ry) ∧ chan (aroundP k F x y rx ry) c = chan (F u v) c := by
  have wx := winN_eq hx
  have wy := winN_eq hy
  have h0 := fun u v => (turnV_bd k (chan_bd (h u v) c)).1
  have h1 : ∀ v, 0 ≤ mxW (fun u => turnV k (chan (F u v) c)) (x - rx) (winN rx) := fun v => by
    obtain ⟨i, hi, e⟩ := mxW_is (f := fun u => turnV k (chan (F u v) c)) (fun u => h0 u v) (x - rx) (winN rx) (by omega)
    rw [e]; exact h0 _ _
  obtain ⟨j, hj, e⟩ := mxW_is h1 (y - ry) (winN ry) (by omega)
  obtain ⟨i, hi, e2⟩ := mxW_is (f := fun u => turnV k (chan (F u (y - ry + (j : Int))) c)) (fun u => h0 u _) (x - rx) (winN rx) (by omega)
  refine ⟨x - rx + (i : Int), y - ry + (j : Int), by omega, by omega, ?_⟩
  rw [aroundP_chan, e]
  show turnV k (mxW (fun u => turnV k (chan (F u (y - ry + (j : Int))) c)) (x - rx) (winN rx)) = _
  rw [e2, turnV_turn]
theorem around_congr {k : Bool} {F G : Img} {x y : Int} {rx ry : Int} (h : ∀ u v, x - rx ≤ u → u ≤ x + rx → y - ry ≤ v → v ≤ y + ry → F u v = G u v) (hx : 0 ≤ rx) (hy : 0 ≤ ry) : aroundP k F x y rx ry = aroundP k G x y rx ry := by
  have wx := winN_eq hx
  have wy := winN_eq hy
  unfold aroundP
  congr 1
  refine winP_congr (fun j hj => winP_congr (fun i hi => ?_))
  rw [h _ _ (by omega) (by omega) (by omega) (by omega)]
/-- The greatest by some and by others is the greatest by the sums. -/
theorem around_two {F : Img} (h : ∀ x y, okP (F x y)) (x y : Int) {rx ry b : Int} (hx : 0 ≤ rx) (hy : 0 ≤ ry) (hb : 0 ≤ b) : aroundP true (fun u v => aroundP true F u v rx ry) x y b b = aroundP true F x y (rx + b) (ry + b) := by
  refine p4_ext (fun c hc => ?_)
  have ok1 : ∀ u v, okP (aroundP true F u v rx ry) := fun u v => aroundP_ok h true u v rx ry
  have e : ∀ v : Int, turnV true v = v := fun v => by simp [turnV]
  obtain ⟨u1, v1, hu1, hv1, e1⟩ := around_is (k := true) ok1 x y hb hb c
  obtain ⟨u2, v2, hu2, hv2, e2⟩ := around_is (k := true) h u1 v1 hx hy c
  obtain ⟨u3, v3, hu3, hv3, e3⟩ := around_is (k := true) h x y (rx := rx + b) (ry := ry + b) (by omega) (by omega) c
  have g1 := around_ge true F x y (rx := rx + b) (ry := ry + b) c (u := u2) (v := v2) (by omega) (by omega) (by omega) (by omega)
  -- a point between
  obtain ⟨p, hp0, hp1, hp2, hp3⟩ : ∃ p : Int, (x - b ≤ p ∧ p ≤ x + b) ∧ (p - rx ≤ u3 ∧ u3 ≤ p + rx) ∧ True ∧ True := by
    by_cases a : u3 < x - b
    · exact ⟨x - b, by omega, by omega, trivial, trivial⟩
    · by_cases a2 : x + b < u3
      · exact ⟨x + b, by omega, by omega, trivial, trivial⟩
      · exact ⟨u3, by omega, by omega, trivial, trivial⟩
  obtain ⟨q, hq0, hq1, -, -⟩ : ∃ q : Int, (y - b ≤ q ∧ q ≤ y + b) ∧ (q - ry ≤ v3 ∧ v3 ≤ q + ry) ∧ True ∧ True := by
    by_cases a : v3 < y - b
    · exact ⟨y - b, by omega, by omega, trivial, trivial⟩
    · by_cases a2 : y + b < v3
      · exact ⟨y + b, by omega, by omega, trivial, trivial⟩
      · exact ⟨v3, by omega, by omega, trivial, trivial⟩
  have g2 := around_ge true F p q (rx := rx) (ry := ry) c (u := u3) (v := v3) hp1.1 hp1.2 hq1.1 hq1.2
  have g3 := around_ge true (fun u v => aroundP true F u v rx ry) x y (rx := b) (ry := b) c (u := p) (v := q) hp0.1 hp0.2 hq0.1 hq0.2
  rw [e, e] at g1 g2 g3
  rw [e2] at e1

  omega
/-- Eroding what is dilated: no less; dilating what is eroded: no more. -/
theorem around_closes {F : Img} (h : ∀ x y, okP (F x y)) (x y : Int) {rx ry : Int} (hx : 0 ≤ rx) (hy : 0 ≤ ry) (c : Nat) : chan (F x y) c ≤ chan (aroundP false (fun u v => aroundP true F u v rx ry) x y rx ry) c ∧ chan (aroundP true (fun u v => aroundP false F u v rx ry) x y rx ry) c ≤ chan (F x y) c := by
  have e : ∀ v : Int, turnV true v = v := fun v => by simp [turnV]
  have e' : ∀ v : Int, turnV false v = 255 - v := fun v => by simp [turnV]
  constructor
  · obtain ⟨u, v, hu, hv, e1⟩ := around_is (k := false) (F := fun u v => aroundP true F u v rx ry) (fun u v => aroundP_ok h true u v rx ry) x y hx hy c
    rw [e1]
    have := around_ge true F u v (rx := rx) (ry := ry) c (u := x) (v := y) (by omega) (by omega) (by omega) (by omega)
    rwa [e, e] at this
  · obtain ⟨u, v, hu, hv, e1⟩ := around_is (k := true) (F := fun u v => aroundP false F u v rx ry) (fun u v => aroundP_ok h false u v rx ry) x y hx hy c
    rw [e1]
    have := around_ge false F u v (rx := rx) (ry := ry) c (u := x) (v := y) (by omega) (by omega) (by omega) (by omega)
    rw [e', e'] at this
    show chan (aroundP false F u v rx ry) c ≤ _
    omega

/-! A little box, grown. -/
def nearR (b : R) : Prop := (-1000000000 ≤ b.x0 ∧ b.x0 ≤ 1000000000) ∧ (-1000000000 ≤ b.y0 ∧ b.y0 ≤ 1000000000) ∧ (-1000000000 ≤ b.x1 ∧ b.x1 ≤ 1000000000) ∧ (-1000000000 ≤ b.y1 ∧ b.y1 ≤ 1000000000)
theorem grow_near {b : R} (hs : nearR b) (ne : emptyR b = false) {l u r d : Int} (hl : 0 ≤ l ∧ l ≤ 255) (hu : 0 ≤ u ∧ u ≤ 255) (hr : 0 ≤ r ∧ r ≤ 255) (hd : 0 ≤ d ∧ d ≤ 255) : growR b l u r d = ⟨b.x0 - l, b.y0 - u, b.x1 + r, b.y1 + d⟩ := by
  have k := (emptyR_not b).1 ne
  unfold nearR at hs
  have e : emptyR (⟨b.x0 - l, b.y0 - u, b.x1 + r, b.y1 + d⟩ : R) = false := (emptyR_not _).2 (by simp only; omega)
  unfold growR
  rw [if_neg (by simp [ne])]
  unfold wholeR
  rw [cutN_in _ (by simp only; omega), cutN_in _ (by simp only; omega), cutN_in _ (by simp only; omega), cutN_in _ (by simp only; omega)]
  unfold someR
  rw [if_neg (by simp [e])]
theorem boxM_near {b : R} {ry : Int} (hs : nearR b) (hy : 0 ≤ ry ∧ ry ≤ 255) (k : Bool) (rx : Int) (F : Img) {u v : Int} (h : hasR b u v = true) : boxM k b rx ry F u v = aroundP k F u v rx ry := by
  have kk := (hasR_iff b u v).1 h
  have ne := hasR_not_empty h
  have hw := winN_eq hy.1
  unfold boxM
  rw [cutF_in (by rw [hasR_some]; exact h)]
  unfold morphV aroundP
  congr 1
  refine winP_congr (fun j hj => ?_)
  rw [cutF_in, morphH, turnP_turn]
  rw [grow_near hs ne (by omega) hy (by omega) hy, hasR_iff]
  simp only
  omega
/-- What is wide enough: a box grown by radii, and how many points it has, grown again. -/
theorem wide_facts {b : R} {rx ry : Int} (hs : smallR b) (hx : 0 ≤ rx ∧ rx ≤ 8) (hy : 0 ≤ ry ∧ ry ≤ 8) {n : Nat} (hn : cntR (growR b rx ry rx ry) ≤ n) (hn2 : n ≤ 600) {q : Int} (hq : 0 ≤ q ∧ q ≤ 8) :
    rightR (growR b rx ry rx ry) = true ∧ cntR (growR (growR b rx ry rx ry) 0 q 0 q) ≤ 20000 ∧ cntR (someR (growR b rx ry rx ry)) ≤ 600 ∧ (emptyR b = false → growR b rx ry rx ry = ⟨b.x0 - rx, b.y0 - ry, b.x1 + rx, b.y1 + ry⟩ ∧ nearR (growR b rx ry rx ry)) := by
  have hg := good_grow b rx ry rx ry
  refine ⟨hg.near, ?_, by rw [hg.some_eq]; omega, fun ne => ?_⟩
  · cases he : emptyR b
    · have e := grow_small hs he (l := rx) (u := ry) (r := rx) (d := ry) (by omega) (by omega) (by omega) (by omega)
      have k := (emptyR_not b).1 he
      have ks := hs
      unfold smallR at ks
      have hc := hg.cnt
      rw [e] at hc hg ⊢
      have hnr : nearR ⟨b.x0 - rx, b.y0 - ry, b.x1 + rx, b.y1 + ry⟩ := by unfold nearR; simp only; omega
      have he2 : emptyR (⟨b.x0 - rx, b.y0 - ry, b.x1 + rx, b.y1 + ry⟩ : R) = false := (emptyR_not _).2 (by simp only; omega)
      have hg2 := good_grow ⟨b.x0 - rx, b.y0 - ry, b.x1 + rx, b.y1 + ry⟩ 0 q 0 q
      have hc2 := hg2.cnt
      rw [grow_near hnr he2 (by omega) (by omega) (by omega) (by omega)] at hc2 ⊢
      have hwd := (hg.width (n := 600) (by rw [e] at hn; omega)).1
      have hc3 : ((cntR _ : Nat) : Int) = (b.x1 + rx + 0 - (b.x0 - rx - 0)) * (b.y1 + ry + q - (b.y0 - ry - q)) := hc2
      clear hc2
      simp only at hc hwd
      rw [e] at hn
      have e3 : (b.x1 + rx + 0 - (b.x0 - rx - 0)) * (b.y1 + ry + q - (b.y0 - ry - q)) = (b.x1 + rx - (b.x0 - rx)) * (b.y1 + ry - (b.y0 - ry)) + (b.x1 + rx - (b.x0 - rx)) * (2 * q) := by
        rw [← Int.mul_add]; congr 1 <;> omega
      have m := Int.mul_le_mul_of_nonneg_left (show 2 * q ≤ 16 by omega) (show 0 ≤ b.x1 + rx - (b.x0 - rx) by omega)
      omega
    · have e1 : growR b rx ry rx ry = zeroR := by unfold growR; rw [if_pos he]
      rw [e1]
      have e2 : growR zeroR 0 q 0 q = zeroR := by unfold growR; rw [if_pos (by decide)]
      rw [e2, cnt_zero]; omega
  · have e := grow_small hs ne (l := rx) (u := ry) (r := rx) (d := ry) (by omega) (by omega) (by omega) (by omega)
    rw [e]
    unfold smallR at hs
    exact ⟨rfl, by unfold nearR; simp only; omega⟩
theorem fine09_more {len : Nat} {r box : R} {rx ry : Int} (h : fine09 len r box rx ry = true) : cntR (growR box rx ry rx ry) ≤ 600 := by
  unfold fine09 at h
  simp only [Bool.and_eq_true, decide_eq_true_eq] at h
  obtain ⟨h1, h2, h3, h4, h5⟩ := h
  obtain ⟨-, -, -, -, -, -, k⟩ := fine_cnt h5 (by omega)
  omega
theorem grow_mono {b : R} {rx ry q : Int} (hs : smallR b) (hx : 0 ≤ rx ∧ rx ≤ 255) (hy : 0 ≤ ry ∧ ry ≤ 255) (hq : 0 ≤ q) (h1 : q ≤ rx) (h2 : q ≤ ry) : cntR (growR b q q q q) ≤ cntR (growR b rx ry rx ry) := by
  cases he : emptyR b
  · have k := (emptyR_not b).1 he
    have c1 := (good_grow b q q q q).cnt
    have c2 := (good_grow b rx ry rx ry).cnt
    rw [grow_small hs he (by omega) (by omega) (by omega) (by omega)] at c1 ⊢
    rw [grow_small hs he (by omega) (by omega) (by omega) (by omega)] at c2 ⊢
    have c3 : ((cntR _ : Nat) : Int) = (b.x1 + q - (b.x0 - q)) * (b.y1 + q - (b.y0 - q)) := c1
    have c4 : ((cntR _ : Nat) : Int) = (b.x1 + rx - (b.x0 - rx)) * (b.y1 + ry - (b.y0 - ry)) := c2
    have m := Int.mul_le_mul (a := b.x1 + q - (b.x0 - q)) (b := b.y1 + q - (b.y0 - q)) (c := b.x1 + rx - (b.x0 - rx)) (d := b.y1 + ry - (b.y0 - ry)) (by omega) (by omega) (by omega) (by omega)
    clear c1 c2
    omega
  · have e : ∀ l u r d, growR b l u r d = zeroR := fun l u r d => by unfold growR; rw [if_pos he]
    rw [e, e]
    exact Nat.le_refl _
/-- Twice: the greatest by some, in a wide box, and by others. -/
theorem boxM_two {b : R} {F : Img} (h : ∀ x y, okP (F x y)) {rx ry q : Int} (hs : smallR b) (hx : 0 ≤ rx) (hy : 0 ≤ ry) (hq : 0 ≤ q) (h1 : rx + q ≤ 8) (h2 : ry + q ≤ 8) : boxM true b q q (boxM true (growR b q q q q) rx ry F) = boxM true b (rx + q) (ry + q) F := by
  funext u v
  cases hin : hasR b u v
  · unfold boxM
    rw [cutF_out (by rw [hasR_some]; exact hin), cutF_out (by rw [hasR_some]; exact hin)]
  · rw [boxM_in hs (by omega) true q _ hin, boxM_in hs (by omega) true (rx + q) _ hin, ← around_two h u v hx hy hq]
    have ne := hasR_not_empty hin
    have k := (hasR_iff b u v).1 hin
    have e := grow_small hs ne (l := q) (u := q) (r := q) (d := q) (by omega) (by omega) (by omega) (by omega)
    refine around_congr (fun x y a1 a2 a3 a4 => ?_) hq hq
    unfold smallR at hs
    rw [boxM_near (by rw [e]; unfold nearR; simp only; omega) (by omega)]
    rw [e, hasR_iff]
    simp only
    omega
/-- One way and back: in a little box. -/
theorem boxM_back {b : R} {F : Img} {rx ry : Int} (hs : smallR b) (hx : 0 ≤ rx ∧ rx ≤ 8) (hy : 0 ≤ ry ∧ ry ≤ 8) (k k' : Bool) {u v : Int} (hin : hasR b u v = true) : boxM k b rx ry (boxM k' (growR b rx ry rx ry) rx ry F) u v = aroundP k (fun x y => aroundP k' F x y rx ry) u v rx ry := by
  rw [boxM_in hs (by omega) k rx _ hin]
  have ne := hasR_not_empty hin
  have kk := (hasR_iff b u v).1 hin
  have e := grow_small hs ne (l := rx) (u := ry) (r := rx) (d := ry) (by omega) (by omega) (by omega) (by omega)
  refine around_congr (fun x y a1 a2 a3 a4 => ?_) hx.1 hy.1
  unfold smallR at hs
  rw [boxM_near (by rw [e]; unfold nearR; simp only; omega) (by omega)]
  rw [e, hasR_iff]
  simp only
  omega
theorem morph_MostI (b rf : R) (af : Option Addr) (lf cf : Nat) (F : Img) (rx ry : Int) (w : World) (hf : Hid (BufAt w rf af lf cf F)) (hsf : cntR rf ≤ 140737488355328) (hb : rightR b = true) (hsg : cntR (growR b 0 ry 0 ry) ≤ 40000) (hsb : cntR (someR b) ≤ 40000) (hx0 : 0 ≤ rx) (hx1 : rx ≤ 255) (hy0 : 0 ≤ ry) (hy1 : ry ≤ 255) :
    Calls Try.prog 14 #[.agg #[.int .i64 rf.x0, .int .i64 rf.y0, .int .i64 rf.x1, .int .i64 rf.y1, .slice af lf cf], .agg #[.int .i64 b.x0, .int .i64 b.y0, .int .i64 b.x1, .int .i64 b.y1], .int .i64 rx, .int .i64 ry] w (RetBuf w (someR b) (boxM true b rx ry F)) := by
  obtain ⟨rx, rfl⟩ : ∃ n : Nat, rx = n := ⟨rx.toNat, by omega⟩
  obtain ⟨ry, rfl⟩ : ∃ n : Nat, ry = n := ⟨ry.toNat, by omega⟩
  exact morph_Most b rf af lf cf F rx ry w hf hsf hb hsg hsb (by omega) (by omega)
theorem morph_LeastI (b rf : R) (af : Option Addr) (lf cf : Nat) (F : Img) (rx ry : Int) (w : World) (hf : Hid (BufAt w rf af lf cf F)) (hsf : cntR rf ≤ 140737488355328) (hb : rightR b = true) (hsg : cntR (growR b 0 ry 0 ry) ≤ 40000) (hsb : cntR (someR b) ≤ 40000) (hx0 : 0 ≤ rx) (hx1 : rx ≤ 255) (hy0 : 0 ≤ ry) (hy1 : ry ≤ 255) :
    Calls Try.prog 12 #[.agg #[.int .i64 rf.x0, .int .i64 rf.y0, .int .i64 rf.x1, .int .i64 rf.y1, .slice af lf cf], .agg #[.int .i64 b.x0, .int .i64 b.y0, .int .i64 b.x1, .int .i64 b.y1], .int .i64 rx, .int .i64 ry] w (RetBuf w (someR b) (boxM false b rx ry F)) := by
  obtain ⟨rx, rfl⟩ : ∃ n : Nat, rx = n := ⟨rx.toNat, by omega⟩
  obtain ⟨ry, rfl⟩ : ∃ n : Nat, ry = n := ⟨ry.toNat, by omega⟩
  exact morph_Least b rf af lf cf F rx ry w hf hsf hb hsg hsb (by omega) (by omega)
end Go.Proofs.Ytbpcpndiohlchaa
