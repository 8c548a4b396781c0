/- Layer 15, plain: what a node makes at a point, and in a box. -/
import Derived.Test.YtklcmlbkhjcaiaaDoorK11
import Derived.Test.YtklcmlbkhjcaiaaDoorMoveS
import Derived.Test.YtklcmlbkhjcaiaaDoorMerge
import Derived.Test.YtklcmlbkhjcaiaaDoorMorphM
import Derived.Test.YtklcmlbkhjcaiaaDoorK13
import Derived.Test.YtklcmlbkhjcaiaaDoorRef9






namespace Go.Proofs.YtklcmlbkhjcaiaaDoor
open Go.RowKit
set_option linter.unusedVariables false

def boxO (p : Nat → Int) (o : Nat) : R := ⟨p o, p (o + 1), p (o + 2), p (o + 3)⟩
def tintP (m : Nat → Int) (q : P4) : P4 := ⟨tint0 m q.r q.g q.b q.a, tint1 m q.r q.g q.b q.a, tint2 m q.r q.g q.b q.a, tint3 m q.r q.g q.b q.a⟩
/-- Pixels laid one on top of the other. -/
def foldP (q : Nat → P4) : Nat → P4
  | 0 => noP
  | k + 1 => compP 0 (q k) (foldP q k)
theorem foldP_ok (q : Nat → P4) : ∀ k, okP (foldP q k)
  | 0 => okP_no
  | k + 1 => compP_ok 0 _ _
theorem foldP_congr {q q' : Nat → P4} : ∀ k, (∀ i, i < k → q i = q' i) → foldP q k = foldP q' k
  | 0, _ => rfl
  | k + 1, h => by
    show compP 0 (q k) (foldP q k) = compP 0 (q' k) (foldP q' k)
    rw [h k (by omega), foldP_congr k fun i hi => h i (by omega)]
/-- What a node makes at a point. -/
def atK (op : Int) (p : Nat → Int) (n : Nat) (q : Nat → P4) (x y : Int) : P4 :=
  if op = 5 then tintP p (q 0)
  else if op = 6 then (if hasR (boxO p 4) x y = true then pxO p 0 else noP)
  else if op = 7 then blendP (p 0) (q 0) (q 1)
  else if op = 8 then compP (p 0) (q 0) (q 1)
  else if op = 9 then foldP q n
  else if op = 12 then (if hasR (boxO p 0) x y = true then q 0 else noP)
  else noP
/-- What a node makes in a box. -/
def doF (op : Int) (p : Nat → Int) (n : Nat) (F : Nat → Img) (s : R) : Img :=
  if op = 1 then moveF s (p 0) (p 1) (F 0)
  else if op = 2 then boxF s (p 0) (p 1) (F 0)
  else if op = 3 then boxM false s (p 0) (p 1) (F 0)
  else if op = 4 then boxM true s (p 0) (p 1) (F 0)
  else if op = 10 then tileF s (boxO p 0) (F 0)
  else if op = 11 then shadowF s (p 0) (p 1) (p 2) (p 3) (pxO p 4) (F 0)
  else cutF (someR s) (fun x y => atK op p n (fun i => F i x y) x y)
theorem tintP_ok (m : Nat → Int) (q : P4) : okP (tintP m q) := by
  have b0 := rowV_bd m 0 (divT q.r q.a) (divT q.g q.a) (divT q.b q.a) q.a
  have b1 := rowV_bd m 5 (divT q.r q.a) (divT q.g q.a) (divT q.b q.a) q.a
  have b2 := rowV_bd m 10 (divT q.r q.a) (divT q.g q.a) (divT q.b q.a) q.a
  have b3 := rowV_bd m 15 (divT q.r q.a) (divT q.g q.a) (divT q.b q.a) q.a
  exact ⟨mulT_bd _ _ b0.1 b0.2 b3.1 b3.2, mulT_bd _ _ b1.1 b1.2 b3.1 b3.2, mulT_bd _ _ b2.1 b2.2 b3.1 b3.2, b3⟩
theorem blendP_ok (m : Int) (p q : P4) : okP (blendP m p q) := blendP_bytes m p q
theorem atK_ok {op : Int} {p : Nat → Int} {n : Nat} {q : Nat → P4} (h6 : op = 6 → okP (pxO p 0)) (h12 : op = 12 → okP (q 0)) (x y : Int) : okP (atK op p n q x y) := by
  unfold atK
  split
  · exact tintP_ok _ _
  split
  · rename_i h; split
    · exact h6 h
    · exact okP_no
  split
  · exact blendP_ok _ _ _
  split
  · exact compP_ok _ _ _
  split
  · exact foldP_ok _ _
  split
  · rename_i h; split
    · exact h12 h
    · exact okP_no
  · exact okP_no
/-- Laid one on top of the other as images: the same as point by point. -/
theorem mergeF_fold (b : R) (F : Nat → Img) : ∀ n, mergeF b F n = cutF b (fun x y => foldP (fun i => F i x y) n)
  | 0 => by
    funext x y
    unfold cutF mergeF foldP noF
    split <;> rfl
  | k + 1 => by
    show cutF b (overF (F k) (mergeF b F k)) = _
    rw [mergeF_fold b F k]
    funext x y
    cases h : hasR b x y
    · rw [cutF_out h, cutF_out h]
    · rw [cutF_in h, cutF_in h]
      unfold overF
      rw [cutF_in h]
      rfl
theorem clipF_at (b c : R) (F : Img) : copyF (someR b) c 0 0 noF F = cutF (someR b) (fun x y => if hasR c x y = true then F x y else noP) := by
  funext x y
  unfold copyF cutF noF
  rw [Int.sub_zero, Int.sub_zero]
  cases hasR (someR b) x y <;> simp
theorem floodF_at (b c : R) (p : P4) : fillF (someR b) c p noF = cutF (someR b) (fun x y => if hasR c x y = true then p else noP) := by
  funext x y
  unfold fillF cutF noF
  cases hasR (someR b) x y <;> simp
end Go.Proofs.YtklcmlbkhjcaiaaDoor
/- What stands around points; Least and Most by radii that are numbers. -/


namespace Go.Proofs.YtklcmlbkhjcaiaaDoor
open Go.RowKit
set_option linter.unusedVariables false

theorem winP_congr {f g : Int → P4} {s : Int} {n : Nat} (h : ∀ k : Nat, k < n → f (s + (k : Int)) = g (s + (k : Int))) : winP f s n = winP g s n := by
  unfold winP
  rw [mxW_congr (f := fun x => (f x).r) (g := fun x => (g x).r) (t := s) n (fun k hk => by simp only [h k hk]), mxW_congr (f := fun x => (f x).g) (g := fun x => (g x).g) (t := s) n (fun k hk => by simp only [h k hk]), mxW_congr (f := fun x => (f x).b) (g := fun x => (g x).b) (t := s) n (fun k hk => by simp only [h k hk]), mxW_congr (f := fun x => (f x).a) (g := fun x => (g x).a) (t := s) n (fun k hk => by simp only [h k hk])]
/-- One is it. -/
theorem around_is {k : Bool} {F : Img} (h : ∀ x y, okP (F x y)) (x y : Int) {rx ry : Int} (hx : 0 ≤ rx) (hy : 0 ≤ ry) (c : Nat) : ∃ u v : Int, (x - rx ≤ u ∧ u ≤ x + rx) ∧ (y - ry ≤ v ∧ v ≤ y + ry) ∧ chan (aroundP k F x y rx ry) c = chan (F u v) c := by
  have wx := winN_eq hx
  have wy := winN_eq hy
  have h0 := fun u v => (turnV_bd k (chan_bd (h u v) c)).1
  have h1 : ∀ v, 0 ≤ mxW (fun u => turnV k (chan (F u v) c)) (x - rx) (winN rx) := fun v => by
    obtain ⟨i, hi, e⟩ := mxW_is (f := fun u => turnV k (chan (F u v) c)) (fun u => h0 u v) (x - rx) (winN rx) (by omega)
    rw [e]; exact h0 _ _
  obtain ⟨j, hj, e⟩ := mxW_is h1 (y - ry) (winN ry) (by omega)
  obtain ⟨i, hi, e2⟩ := mxW_is (f := fun u => turnV k (chan (F u (y - ry + (j : Int))) c)) (fun u => h0 u _) (x - rx) (winN rx) (by omega)
  refine ⟨x - rx + (i : Int), y - ry + (j : Int), by omega, by omega, ?_⟩
  rw [aroundP_chan, e]
  show turnV k (mxW (fun u => turnV k (chan (F u (y - ry + (j : Int))) c)) (x - rx) (winN rx)) = _
  rw [e2, turnV_turn]
theorem around_congr {k : Bool} {F G : Img} {x y : Int} {rx ry : Int} (h : ∀ u v, x - rx ≤ u → u ≤ x + rx → y - ry ≤ v → v ≤ y + ry → F u v = G u v) (hx : 0 ≤ rx) (hy : 0 ≤ ry) : aroundP k F x y rx ry = aroundP k G x y rx ry := by
  have wx := winN_eq hx
  have wy := winN_eq hy
  unfold aroundP
  congr 1
  refine winP_congr (fun j hj => winP_congr (fun i hi => ?_))
  rw [h _ _ (by omega) (by omega) (by omega) (by omega)]
def nearR (b : R) : Prop := (-1000000000 ≤ b.x0 ∧ b.x0 ≤ 1000000000) ∧ (-1000000000 ≤ b.y0 ∧ b.y0 ≤ 1000000000) ∧ (-1000000000 ≤ b.x1 ∧ b.x1 ≤ 1000000000) ∧ (-1000000000 ≤ b.y1 ∧ b.y1 ≤ 1000000000)
theorem grow_near {b : R} (hs : nearR b) (ne : emptyR b = false) {l u r d : Int} (hl : 0 ≤ l ∧ l ≤ 255) (hu : 0 ≤ u ∧ u ≤ 255) (hr : 0 ≤ r ∧ r ≤ 255) (hd : 0 ≤ d ∧ d ≤ 255) : growR b l u r d = ⟨b.x0 - l, b.y0 - u, b.x1 + r, b.y1 + d⟩ := by
  have k := (emptyR_not b).1 ne
  unfold nearR at hs
  have e : emptyR (⟨b.x0 - l, b.y0 - u, b.x1 + r, b.y1 + d⟩ : R) = false := (emptyR_not _).2 (by simp only; omega)
  unfold growR
  rw [if_neg (by simp [ne])]
  unfold wholeR
  rw [cutN_in _ (by simp only; omega), cutN_in _ (by simp only; omega), cutN_in _ (by simp only; omega), cutN_in _ (by simp only; omega)]
  unfold someR
  rw [if_neg (by simp [e])]
theorem boxM_near {b : R} {ry : Int} (hs : nearR b) (hy : 0 ≤ ry ∧ ry ≤ 255) (k : Bool) (rx : Int) (F : Img) {u v : Int} (h : hasR b u v = true) : boxM k b rx ry F u v = aroundP k F u v rx ry := by
  have kk := (hasR_iff b u v).1 h
  have ne := hasR_not_empty h
  have hw := winN_eq hy.1
  unfold boxM
  rw [cutF_in (by rw [hasR_some]; exact h)]
  unfold morphV aroundP
  congr 1
  refine winP_congr (fun j hj => ?_)
  rw [cutF_in, morphH, turnP_turn]
  rw [grow_near hs ne (by omega) hy (by omega) hy, hasR_iff]
  simp only
  omega
theorem morph_MostI (b rf : R) (af : Option Addr) (lf cf : Nat) (F : Img) (rx ry : Int) (w : World) (hf : Hid (BufAt w rf af lf cf F)) (hsf : cntR rf ≤ 140737488355328) (hb : rightR b = true) (hsg : cntR (growR b 0 ry 0 ry) ≤ 40000) (hsb : cntR (someR b) ≤ 40000) (hx0 : 0 ≤ rx) (hx1 : rx ≤ 255) (hy0 : 0 ≤ ry) (hy1 : ry ≤ 255) :
    Calls Tryd.prog 39 #[.agg #[.int .i64 rf.x0, .int .i64 rf.y0, .int .i64 rf.x1, .int .i64 rf.y1, .slice af lf cf], .agg #[.int .i64 b.x0, .int .i64 b.y0, .int .i64 b.x1, .int .i64 b.y1], .int .i64 rx, .int .i64 ry] w (RetBuf w (someR b) (boxM true b rx ry F)) := by
  obtain ⟨rx, rfl⟩ : ∃ n : Nat, rx = n := ⟨rx.toNat, by omega⟩
  obtain ⟨ry, rfl⟩ : ∃ n : Nat, ry = n := ⟨ry.toNat, by omega⟩
  exact morph_Most b rf af lf cf F rx ry w hf hsf hb hsg hsb (by omega) (by omega)
theorem morph_LeastI (b rf : R) (af : Option Addr) (lf cf : Nat) (F : Img) (rx ry : Int) (w : World) (hf : Hid (BufAt w rf af lf cf F)) (hsf : cntR rf ≤ 140737488355328) (hb : rightR b = true) (hsg : cntR (growR b 0 ry 0 ry) ≤ 40000) (hsb : cntR (someR b) ≤ 40000) (hx0 : 0 ≤ rx) (hx1 : rx ≤ 255) (hy0 : 0 ≤ ry) (hy1 : ry ≤ 255) :
    Calls Tryd.prog 38 #[.agg #[.int .i64 rf.x0, .int .i64 rf.y0, .int .i64 rf.x1, .int .i64 rf.y1, .slice af lf cf], .agg #[.int .i64 b.x0, .int .i64 b.y0, .int .i64 b.x1, .int .i64 b.y1], .int .i64 rx, .int .i64 ry] w (RetBuf w (someR b) (boxM false b rx ry F)) := by
  obtain ⟨rx, rfl⟩ : ∃ n : Nat, rx = n := ⟨rx.toNat, by omega⟩
  obtain ⟨ry, rfl⟩ : ∃ n : Nat, ry = n := ⟨ry.toNat, by omega⟩
  exact morph_Least b rf af lf cf F rx ry w hf hsf hb hsg hsb (by omega) (by omega)
end Go.Proofs.YtklcmlbkhjcaiaaDoor

/- Layer 15, plain: what a node's answer at a point depends on. -/


namespace Go.Proofs.YtklcmlbkhjcaiaaDoor
open Go.RowKit
set_option linter.unusedVariables false

/-- The points of the inputs that matter to a point. -/
def winW (op : Int) (p : Nat → Int) (x y u v : Int) : Prop :=
  if op = 1 then u = x - p 0 ∧ v = y - p 1
  else if op = 2 ∨ op = 3 ∨ op = 4 then (x - p 0 ≤ u ∧ u ≤ x + p 0) ∧ (y - p 1 ≤ v ∧ v ≤ y + p 1)
  else if op = 6 then False
  else if op = 10 then u = p 0 + (x - p 0) % (p 2 - p 0) ∧ v = p 1 + (y - p 1) % (p 3 - p 1)
  else if op = 11 then (u = x ∧ v = y) ∨ ((x - p 0 - p 2 ≤ u ∧ u ≤ x - p 0 + p 2) ∧ (y - p 1 - p 3 ≤ v ∧ v ≤ y - p 1 + p 3))
  else if op = 12 then (u = x ∧ v = y) ∧ hasR (boxO p 0) x y = true
  else u = x ∧ v = y
/-- What is known of the numbers of a node that is right. -/
structure NodeOk (op : Int) (p : Nat → Int) (n : Nat) : Prop where
  op_ : 1 ≤ op ∧ op ≤ 12
  one : op ≠ 6 → 1 ≤ n
  two : op = 7 ∨ op = 8 → n = 2
  few : n ≤ 8
  off : op = 1 → (-1048576 ≤ p 0 ∧ p 0 ≤ 1048576) ∧ (-1048576 ≤ p 1 ∧ p 1 ≤ 1048576)
  rad : op = 2 ∨ op = 3 ∨ op = 4 → (0 ≤ p 0 ∧ p 0 ≤ 255) ∧ (0 ≤ p 1 ∧ p 1 ≤ 255)
  mat : op = 5 → ∀ i, i < 20 → -32768 ≤ p i ∧ p i ≤ 32767
  px6 : op = 6 → okP (pxO p 0) ∧ rightP (pxO p 0)
  box6 : op = 6 → smallR (boxO p 4)
  mode : op = 7 → 0 ≤ p 0 ∧ p 0 ≤ 6
  oper : op = 8 → 0 ≤ p 0 ∧ p 0 ≤ 5
  box10 : op = 10 → smallR (boxO p 0) ∧ p 0 < p 2 ∧ p 1 < p 3 ∧ p 2 - p 0 ≤ 4096 ∧ p 3 - p 1 ≤ 4096
  off11 : op = 11 → ((-1048576 ≤ p 0 ∧ p 0 ≤ 1048576) ∧ (-1048576 ≤ p 1 ∧ p 1 ≤ 1048576)) ∧ ((0 ≤ p 2 ∧ p 2 ≤ 255) ∧ (0 ≤ p 3 ∧ p 3 ≤ 255))
  px11 : op = 11 → okP (pxO p 4) ∧ rightP (pxO p 4)
  box12 : op = 12 → smallR (boxO p 0)
theorem pixB_yes {p : Nat → Int} {o : Nat} (h : pixB p o = true) : okP (pxO p o) ∧ rightP (pxO p o) := by
  unfold pixB at h
  rw [Bool.and_eq_true] at h
  exact ⟨pxO_ok h.1, (rightP_iff _).1 h.2⟩
theorem nodeOk_of {op : Int} {n : Nat} {is : Nat → Int} {pl : Nat} {p : Nat → Int} {count : Int} (h : oneB op n is pl p count = true) (hn : n ≤ 8) : NodeOk op p n := by
  unfold oneB at h
  simp only [Bool.and_eq_true, decide_eq_true_eq] at h
  obtain ⟨hop, ⟨h1, h2, h3⟩, h4, hb⟩ := h
  have hc : op = 1 ∨ op = 2 ∨ op = 3 ∨ op = 4 ∨ op = 5 ∨ op = 6 ∨ op = 7 ∨ op = 8 ∨ op = 9 ∨ op = 10 ∨ op = 11 ∨ op = 12 := by omega
  have e : ∀ (f : Nat → Int) (lo n : Nat) (low high : Int), inB f lo n low high = true → ∀ i, i < n → low ≤ f (lo + i) ∧ f (lo + i) ≤ high := fun f lo n low high k => (inB_iff ..).1 k
  rcases hc with rfl | rfl | rfl | rfl | rfl | rfl | rfl | rfl | rfl | rfl | rfl | rfl
  all_goals
    simp only [show lstT.getD (Int.toNat 1) 0 = 1 from rfl, show lstT.getD (Int.toNat 2) 0 = 1 from rfl, show lstT.getD (Int.toNat 3) 0 = 1 from rfl, show lstT.getD (Int.toNat 4) 0 = 1 from rfl, show lstT.getD (Int.toNat 5) 0 = 1 from rfl, show lstT.getD (Int.toNat 6) 0 = 0 from rfl, show lstT.getD (Int.toNat 7) 0 = 2 from rfl, show lstT.getD (Int.toNat 8) 0 = 2 from rfl, show lstT.getD (Int.toNat 9) 0 = 1 from rfl, show lstT.getD (Int.toNat 10) 0 = 1 from rfl, show lstT.getD (Int.toNat 11) 0 = 1 from rfl, show lstT.getD (Int.toNat 12) 0 = 1 from rfl, show mstT.getD (Int.toNat 7) 0 = 2 from rfl, show mstT.getD (Int.toNat 8) 0 = 2 from rfl] at h1 h2
    clear h4
    simp [bndB] at hb
  case _ => 
    have k := e p 0 2 _ _ hb
    have k0 := k 0 (by omega); have k1 := k 1 (by omega)
    simp only [Nat.zero_add] at k0 k1
    exact ⟨by omega, fun _ => by omega, fun h => by omega, hn, fun _ => ⟨k0, k1⟩, fun h => by omega, fun h => by omega, fun h => by omega, fun h => by omega, fun h => by omega, fun h => by omega, fun h => by omega, fun h => by omega, fun h => by omega, fun h => by omega⟩
  case _ => 
    have k := e p 0 2 _ _ hb
    have k0 := k 0 (by omega); have k1 := k 1 (by omega)
    simp only [Nat.zero_add] at k0 k1
    exact ⟨by omega, fun _ => by omega, fun h => by omega, hn, fun h => by omega, fun _ => ⟨k0, k1⟩, fun h => by omega, fun h => by omega, fun h => by omega, fun h => by omega, fun h => by omega, fun h => by omega, fun h => by omega, fun h => by omega, fun h => by omega⟩
  case _ => 
    have k := e p 0 2 _ _ hb
    have k0 := k 0 (by omega); have k1 := k 1 (by omega)
    simp only [Nat.zero_add] at k0 k1
    exact ⟨by omega, fun _ => by omega, fun h => by omega, hn, fun h => by omega, fun _ => ⟨k0, k1⟩, fun h => by omega, fun h => by omega, fun h => by omega, fun h => by omega, fun h => by omega, fun h => by omega, fun h => by omega, fun h => by omega, fun h => by omega⟩
  case _ => 
    have k := e p 0 2 _ _ hb
    have k0 := k 0 (by omega); have k1 := k 1 (by omega)
    simp only [Nat.zero_add] at k0 k1
    exact ⟨by omega, fun _ => by omega, fun h => by omega, hn, fun h => by omega, fun _ => ⟨k0, k1⟩, fun h => by omega, fun h => by omega, fun h => by omega, fun h => by omega, fun h => by omega, fun h => by omega, fun h => by omega, fun h => by omega, fun h => by omega⟩
  case _ => 
    have k := e p 0 20 _ _ hb
    simp only [Nat.zero_add] at k
    exact ⟨by omega, fun _ => by omega, fun h => by omega, hn, fun h => by omega, fun h => by omega, fun _ => k, fun h => by omega, fun h => by omega, fun h => by omega, fun h => by omega, fun h => by omega, fun h => by omega, fun h => by omega, fun h => by omega⟩
  case _ => 
    have k := e p 4 4 _ _ hb.2
    have k0 := k 0 (by omega); have k1 := k 1 (by omega); have k2 := k 2 (by omega); have k3 := k 3 (by omega)
    simp only [Nat.add_zero, Nat.reduceAdd] at k0 k1 k2 k3
    exact ⟨by omega, fun h => by omega, fun h => by omega, hn, fun h => by omega, fun h => by omega, fun h => by omega, fun _ => pixB_yes hb.1, fun _ => by unfold smallR boxO; simp only [Nat.reduceAdd]; omega, fun h => by omega, fun h => by omega, fun h => by omega, fun h => by omega, fun h => by omega, fun h => by omega⟩
  case _ => 
    have k := e p 0 1 _ _ hb
    have k0 := k 0 (by omega)
    simp only [Nat.zero_add] at k0
    exact ⟨by omega, fun _ => by omega, fun h => by omega, hn, fun h => by omega, fun h => by omega, fun h => by omega, fun h => by omega, fun h => by omega, fun _ => k0, fun h => by omega, fun h => by omega, fun h => by omega, fun h => by omega, fun h => by omega⟩
  case _ => 
    have k := e p 0 1 _ _ hb
    have k0 := k 0 (by omega)
    simp only [Nat.zero_add] at k0
    exact ⟨by omega, fun _ => by omega, fun h => by omega, hn, fun h => by omega, fun h => by omega, fun h => by omega, fun h => by omega, fun h => by omega, fun h => by omega, fun _ => k0, fun h => by omega, fun h => by omega, fun h => by omega, fun h => by omega⟩
  case _ => 
    exact ⟨by omega, fun _ => by omega, fun h => by omega, hn, fun h => by omega, fun h => by omega, fun h => by omega, fun h => by omega, fun h => by omega, fun h => by omega, fun h => by omega, fun h => by omega, fun h => by omega, fun h => by omega, fun h => by omega⟩
  case _ => 
    obtain ⟨hb, q0, q1, q2, q3⟩ := hb
    have k := e p 0 4 _ _ hb
    have k0 := k 0 (by omega); have k1 := k 1 (by omega); have k2 := k 2 (by omega); have k3 := k 3 (by omega)
    simp only [Nat.zero_add] at k0 k1 k2 k3
    exact ⟨by omega, fun _ => by omega, fun h => by omega, hn, fun h => by omega, fun h => by omega, fun h => by omega, fun h => by omega, fun h => by omega, fun h => by omega, fun h => by omega, fun _ => ⟨by unfold smallR boxO; simp only [Nat.zero_add]; omega, q0, q1, q2, q3⟩, fun h => by omega, fun h => by omega, fun h => by omega⟩
  case _ => 
    obtain ⟨hb, hb2, hb3⟩ := hb
    have k := e p 0 2 _ _ hb
    have k0 := k 0 (by omega); have k1 := k 1 (by omega)
    have q := e p 2 2 _ _ hb2
    have q0 := q 0 (by omega); have q1 := q 1 (by omega)
    simp only [Nat.zero_add] at k0 k1
    exact ⟨by omega, fun _ => by omega, fun h => by omega, hn, fun h => by omega, fun h => by omega, fun h => by omega, fun h => by omega, fun h => by omega, fun h => by omega, fun h => by omega, fun h => by omega, fun _ => ⟨⟨k0, k1⟩, q0, q1⟩, fun _ => pixB_yes hb3, fun h => by omega⟩
  case _ => 
    have k := e p 0 4 _ _ hb
    have k0 := k 0 (by omega); have k1 := k 1 (by omega); have k2 := k 2 (by omega); have k3 := k 3 (by omega)
    simp only [Nat.zero_add] at k0 k1 k2 k3
    exact ⟨by omega, fun _ => by omega, fun h => by omega, hn, fun h => by omega, fun h => by omega, fun h => by omega, fun h => by omega, fun h => by omega, fun h => by omega, fun h => by omega, fun h => by omega, fun h => by omega, fun h => by omega, fun _ => by unfold smallR boxO; simp only [Nat.zero_add]; omega⟩

theorem boxF_congr {b : R} {rx ry : Int} {F G : Img} {x y : Int} (hx : 0 ≤ rx) (hy : 0 ≤ ry) (h : ∀ u v, (x - rx ≤ u ∧ u ≤ x + rx) ∧ (y - ry ≤ v ∧ v ≤ y + ry) → F u v = G u v) : boxF b rx ry F x y = boxF b rx ry G x y := by
  have wx := winN_eq hx
  have wy := winN_eq hy
  unfold boxF cutF
  split
  · unfold blurV
    congr 1
    refine sumP_congr _ _ (fun k hk => ?_)
    unfold midF cutF
    split
    · unfold blurH
      congr 1
      exact sumP_congr _ _ (fun j hj => h _ _ ⟨⟨by omega, by omega⟩, by omega, by omega⟩)
    · rfl
  · rfl
theorem boxF_no (b : R) {rx ry : Int} (hx : 0 ≤ rx) (hy : 0 ≤ ry) (x y : Int) : boxF b rx ry noF x y = noP := by
  have e1 : ∀ u v, blurH noF rx u v = noP := fun u v => blurH_out hx (fun _ => rfl) u
  have e2 : midF b rx ry noF = noF := by
    funext u v
    unfold midF cutF noF
    split
    · exact e1 u v
    · rfl
  unfold boxF cutF
  split
  · rw [e2]
    exact (meanP_same (p := noP) hy (y - ry))
  · rfl
theorem around_no (k : Bool) (x y : Int) {rx ry : Int} (hx : 0 ≤ rx) (hy : 0 ≤ ry) : aroundP k noF x y rx ry = noP := by
  refine p4_ext (fun c hc => ?_)
  obtain ⟨u, v, -, -, e⟩ := around_is (k := k) (F := noF) (fun _ _ => okP_no) x y hx hy c
  exact e
theorem near_of_small {b : R} (h : smallR b) : nearR b := by
  unfold smallR at h
  unfold nearR
  omega
theorem boxM_congr {k : Bool} {b : R} {rx ry : Int} {F G : Img} {x y : Int} (hs : smallR b) (hx : 0 ≤ rx) (hy : 0 ≤ ry ∧ ry ≤ 255) (h : ∀ u v, (x - rx ≤ u ∧ u ≤ x + rx) ∧ (y - ry ≤ v ∧ v ≤ y + ry) → F u v = G u v) : boxM k b rx ry F x y = boxM k b rx ry G x y := by
  cases c : hasR b x y
  · unfold boxM
    rw [cutF_out (by rw [hasR_some]; exact c), cutF_out (by rw [hasR_some]; exact c)]
  · rw [boxM_near (near_of_small hs) hy k rx F c, boxM_near (near_of_small hs) hy k rx G c]
    exact around_congr (fun u v h1 h2 h3 h4 => h u v ⟨⟨h1, h2⟩, h3, h4⟩) hx hy.1
theorem boxM_no {k : Bool} {b : R} {rx ry : Int} (hs : smallR b) (hx : 0 ≤ rx) (hy : 0 ≤ ry ∧ ry ≤ 255) (x y : Int) : boxM k b rx ry noF x y = noP := by
  cases c : hasR b x y
  · unfold boxM
    rw [cutF_out (by rw [hasR_some]; exact c)]
  · rw [boxM_near (near_of_small hs) hy k rx noF c]
    exact around_no k x y hx hy.1
theorem foldP_no : ∀ n, foldP (fun _ => noP) n = noP
  | 0 => rfl
  | k + 1 => by
    show compP 0 noP (foldP (fun _ => noP) k) = noP
    rw [foldP_no k]
    exact compP_none_top 0 noP (.inl rfl) okP_no

/-! doF, kind by kind. -/
section
variable (p : Nat → Int) (n : Nat) (F : Nat → Img) (s : R)
theorem doF_1 : doF 1 p n F s = moveF s (p 0) (p 1) (F 0) := by simp [doF]
theorem doF_2 : doF 2 p n F s = boxF s (p 0) (p 1) (F 0) := by simp [doF]
theorem doF_3 : doF 3 p n F s = boxM false s (p 0) (p 1) (F 0) := by simp [doF]
theorem doF_4 : doF 4 p n F s = boxM true s (p 0) (p 1) (F 0) := by simp [doF]
theorem doF_5 : doF 5 p n F s = cutF (someR s) (fun x y => tintP p (F 0 x y)) := by simp [doF, atK]
theorem doF_6 : doF 6 p n F s = cutF (someR s) (fun x y => if hasR (boxO p 4) x y = true then pxO p 0 else noP) := by simp [doF, atK]
theorem doF_7 : doF 7 p n F s = cutF (someR s) (fun x y => blendP (p 0) (F 0 x y) (F 1 x y)) := by simp [doF, atK]
theorem doF_8 : doF 8 p n F s = cutF (someR s) (fun x y => compP (p 0) (F 0 x y) (F 1 x y)) := by simp [doF, atK]
theorem doF_9 : doF 9 p n F s = cutF (someR s) (fun x y => foldP (fun i => F i x y) n) := by simp [doF, atK]
theorem doF_10 : doF 10 p n F s = tileF s (boxO p 0) (F 0) := by simp [doF]
theorem doF_11 : doF 11 p n F s = shadowF s (p 0) (p 1) (p 2) (p 3) (pxO p 4) (F 0) := by simp [doF]
theorem doF_12 : doF 12 p n F s = cutF (someR s) (fun x y => if hasR (boxO p 0) x y = true then F 0 x y else noP) := by simp [doF, atK]
end

/-- What a node makes at a point depends on the points that matter alone. -/
theorem doF_congr {op : Int} {p : Nat → Int} {n : Nat} {F G : Nat → Img} {s : R} {x y : Int} (hk : NodeOk op p n) (hs : smallR s) (h : ∀ i, i < n → ∀ u v, winW op p x y u v → F i u v = G i u v) : doF op p n F s x y = doF op p n G s x y := by
  have hop := hk.op_
  have hc : op = 1 ∨ op = 2 ∨ op = 3 ∨ op = 4 ∨ op = 5 ∨ op = 6 ∨ op = 7 ∨ op = 8 ∨ op = 9 ∨ op = 10 ∨ op = 11 ∨ op = 12 := by omega
  rcases hc with rfl | rfl | rfl | rfl | rfl | rfl | rfl | rfl | rfl | rfl | rfl | rfl
  · have n1 := hk.one (by omega)
    rw [doF_1, doF_1]
    unfold moveF copyF
    split
    · exact h 0 (by omega) _ _ (by simp [winW])
    · rfl
  · have n1 := hk.one (by omega)
    have r := hk.rad (by omega)
    rw [doF_2, doF_2]
    exact boxF_congr r.1.1 r.2.1 (fun u v k => h 0 (by omega) u v (by simp [winW]; exact k))
  · have n1 := hk.one (by omega)
    have r := hk.rad (by omega)
    rw [doF_3, doF_3]
    exact boxM_congr hs r.1.1 r.2 (fun u v k => h 0 (by omega) u v (by simp [winW]; exact k))
  · have n1 := hk.one (by omega)
    have r := hk.rad (by omega)
    rw [doF_4, doF_4]
    exact boxM_congr hs r.1.1 r.2 (fun u v k => h 0 (by omega) u v (by simp [winW]; exact k))
  · have n1 := hk.one (by omega)
    rw [doF_5, doF_5]
    unfold cutF
    split
    · show tintP p (F 0 x y) = tintP p (G 0 x y)
      rw [h 0 (by omega) x y (by simp [winW])]
    · rfl
  · rw [doF_6, doF_6]
  · have n1 := hk.two (by omega)
    rw [doF_7, doF_7]
    unfold cutF
    split
    · show blendP (p 0) (F 0 x y) (F 1 x y) = blendP (p 0) (G 0 x y) (G 1 x y)
      rw [h 0 (by omega) x y (by simp [winW]), h 1 (by omega) x y (by simp [winW])]
    · rfl
  · have n1 := hk.two (by omega)
    rw [doF_8, doF_8]
    unfold cutF
    split
    · show compP (p 0) (F 0 x y) (F 1 x y) = compP (p 0) (G 0 x y) (G 1 x y)
      rw [h 0 (by omega) x y (by simp [winW]), h 1 (by omega) x y (by simp [winW])]
    · rfl
  · rw [doF_9, doF_9]
    unfold cutF
    split
    · exact foldP_congr n (fun i hi => h i hi x y (by simp [winW]))
    · rfl
  · have n1 := hk.one (by omega)
    rw [doF_10, doF_10]
    unfold tileF cutF
    split
    · exact h 0 (by omega) _ _ (by simp [winW, boxO])
    · rfl
  · have n1 := hk.one (by omega)
    have r := hk.off11 rfl
    rw [doF_11, doF_11]
    unfold shadowF cutF
    split
    · unfold shadeP
      rw [h 0 (by omega) x y (by simp [winW])]
      rw [boxF_congr (F := F 0) (G := G 0) r.2.1.1 r.2.2.1 (fun u v k => h 0 (by omega) u v (by simp [winW]; right; exact k))]
    · rfl
  · have n1 := hk.one (by omega)
    rw [doF_12, doF_12]
    unfold cutF
    split
    · show (if hasR (boxO p 0) x y = true then F 0 x y else noP) = (if hasR (boxO p 0) x y = true then G 0 x y else noP)
      split
      · rename_i k; exact h 0 (by omega) x y (by simp [winW]; exact k)
      · rfl
    · rfl
/-- Of nothing: nothing. -/
theorem doF_no {op : Int} {p : Nat → Int} {n : Nat} {s : R} {x y : Int} (hk : NodeOk op p n) (hs : smallR s) (h5 : op = 5 → tintP p noP = noP) (h6 : op ≠ 6) : doF op p n (fun _ => noF) s x y = noP := by
  have hop := hk.op_
  have e : ∀ {P : Img} {q : P4}, P x y = noP → cutF (someR s) P x y = noP := fun {P q} k => by
    unfold cutF; split
    · exact k
    · rfl
  have hc : op = 1 ∨ op = 2 ∨ op = 3 ∨ op = 4 ∨ op = 5 ∨ op = 7 ∨ op = 8 ∨ op = 9 ∨ op = 10 ∨ op = 11 ∨ op = 12 := by omega
  rcases hc with rfl | rfl | rfl | rfl | rfl | rfl | rfl | rfl | rfl | rfl | rfl
  · rw [doF_1]; unfold moveF copyF noF; split <;> rfl
  · have r := hk.rad (by omega)
    rw [doF_2]; exact boxF_no s r.1.1 r.2.1 x y
  · have r := hk.rad (by omega)
    rw [doF_3]; exact boxM_no hs r.1.1 r.2 x y
  · have r := hk.rad (by omega)
    rw [doF_4]; exact boxM_no hs r.1.1 r.2 x y
  · rw [doF_5]; exact e (q := noP) (h5 rfl)
  · rw [doF_7]; exact e (q := noP) (blend_none_top _ noP okP_no rightP_no)
  · have r := hk.oper rfl
    rw [doF_8]
    refine e (q := noP) ?_
    show compP (p 0) noP noP = noP
    by_cases c : p 0 = 0 ∨ p 0 = 3 ∨ p 0 = 4
    · exact compP_none_top _ noP c okP_no
    · exact compP_none_gone _ noP (by omega)
  · rw [doF_9]; exact e (q := noP) (foldP_no n)
  · rw [doF_10]; exact e (q := noP) rfl
  · have r := hk.off11 rfl
    rw [doF_11]
    refine e (q := noP) ?_
    show compP 0 noP (scaleP (pxO p 4) (boxF _ (p 2) (p 3) noF _ _).a) = noP
    rw [boxF_no _ r.2.1.1 r.2.2.1]
    have : scaleP (pxO p 4) noP.a = noP := by unfold scaleP noP; simp only [mulT_0]
    rw [this]
    exact compP_none_top 0 noP (.inl rfl) okP_no
  · rw [doF_12]; refine e (q := noP) ?_; unfold noF; simp
end Go.Proofs.YtklcmlbkhjcaiaaDoor

/- Layers 13 and 14, plain: what a node reaches, what it needs. -/

namespace Go.Proofs.YtklcmlbkhjcaiaaDoor
open Go.RowKit
set_option linter.unusedVariables false

def farI (u : Int) : Prop := -1073741824 ≤ u ∧ u ≤ 1073741824
theorem cutN_le {n u : Int} (hu : -4398046511104 ≤ u ∧ u < 4398046511104) : cutN n ≤ u ↔ n ≤ u := by
  unfold cutN; rw [mxI_eq, mnI_eq]; omega
theorem lt_cutN {n u : Int} (hu : -4398046511104 ≤ u ∧ u < 4398046511104) : u < cutN n ↔ u < n := by
  unfold cutN; rw [mxI_eq, mnI_eq]; omega
theorem has_empty {r : R} (h : emptyR r = true) (x y : Int) : hasR r x y = false := by
  rw [Bool.eq_false_iff]
  intro k
  have k1 := (hasR_iff _ _ _).1 k
  have k2 := (emptyR_iff r).1 h
  omega
theorem has_nonempty {r : R} {x y : Int} (h : hasR r x y = true) : emptyR r = false := by
  rw [emptyR_not]
  have := (hasR_iff _ _ _).1 h
  omega
theorem has_moveR {r : R} (hr : rightR r = true) {dx dy x y : Int} (hdx : farI dx) (hdy : farI dy) (hx : farI x) (hy : farI y) : hasR (moveR r dx dy) x y = hasR r (x - dx) (y - dy) := by
  unfold farI at *
  obtain ⟨h0, h1, h2, h3⟩ := (rightR_iff r).1 hr
  unfold moveR
  cases he : emptyR r
  · rw [if_neg (by simp)]
    unfold wholeR
    rw [hasR_some, Bool.eq_iff_iff, hasR_iff, hasR_iff]
    simp only
    rw [cutN_le (by omega), lt_cutN (by omega), cutN_le (by omega), lt_cutN (by omega)]
    unfold movedN
    refine ⟨fun ⟨k0, k1, k2, k3⟩ => ⟨?_, ?_, ?_, ?_⟩, fun ⟨k0, k1, k2, k3⟩ => ⟨?_, ?_, ?_, ?_⟩⟩
    · split at k0 <;> omega
    · split at k1 <;> omega
    · split at k2 <;> omega
    · split at k3 <;> omega
    · split <;> omega
    · split <;> omega
    · split <;> omega
    · split <;> omega
  · rw [if_pos rfl, has_empty he]
    exact has_empty emptyR_zero _ _
theorem has_growR {r : R} {a b c d x y : Int} (hx : farI x) (hy : farI y) : hasR (growR r a b c d) x y = true ↔ emptyR r = false ∧ r.x0 - a ≤ x ∧ x < r.x1 + c ∧ r.y0 - b ≤ y ∧ y < r.y1 + d := by
  unfold farI at *
  unfold growR
  cases he : emptyR r
  · rw [if_neg (by simp)]
    unfold wholeR
    rw [hasR_some, hasR_iff]
    simp only
    rw [cutN_le (by omega), lt_cutN (by omega), cutN_le (by omega), lt_cutN (by omega)]
    simp
  · rw [if_pos rfl, has_empty emptyR_zero]
    simp
theorem has_joinR {a b : R} {x y : Int} (h : hasR a x y = true ∨ hasR b x y = true) : hasR (joinR a b) x y = true := by
  unfold joinR
  cases ha : emptyR a
  · cases hb : emptyR b
    · rw [if_neg (by simp), if_neg (by simp)]
      rw [hasR_iff, hasR_iff] at h
      rw [hasR_iff]
      simp only [mnI_eq, mxI_eq]
      omega
    · rw [if_neg (by simp), if_pos rfl]
      rcases h with h | h
      · exact h
      · rw [has_empty hb] at h; cases h
  · have h : hasR b x y = true := by
      rcases h with h | h
      · rw [has_empty ha] at h; cases h
      · exact h
    rw [if_pos rfl, if_neg (by rw [has_nonempty h]; simp)]
    exact h
theorem joinR_no {a b : R} {x y : Int} (h : hasR (joinR a b) x y = false) : hasR a x y = false ∧ hasR b x y = false := by
  constructor
  · cases c : hasR a x y
    · rfl
    · rw [has_joinR (.inl c)] at h; cases h
  · cases c : hasR b x y
    · rfl
    · rw [has_joinR (.inr c)] at h; cases h
def allR : R := ⟨-4398046511104, -4398046511104, 4398046511104, 4398046511104⟩
theorem has_allR {x y : Int} (hx : farI x) (hy : farI y) : hasR allR x y = true := by
  unfold farI at *
  rw [hasR_iff]
  simp only [allR]
  omega
def joinsR (r : Nat → R) : Nat → R
  | 0 => zeroR
  | k + 1 => joinR (joinsR r k) (r k)
theorem joinsR_no {r : Nat → R} {x y : Int} : ∀ {n : Nat}, hasR (joinsR r n) x y = false → ∀ i, i < n → hasR (r i) x y = false
  | 0, _, i, hi => by omega
  | k + 1, h, i, hi => by
    obtain ⟨h1, h2⟩ := joinR_no h
    by_cases e : i = k
    · subst e; exact h2
    · exact joinsR_no h1 i (by omega)
theorem joinR_right {a b : R} (ha : rightR a = true) (hb : rightR b = true) : rightR (joinR a b) = true := (rightR_iff _).2 (joinR_fits a b ha hb)
theorem joinsR_right {r : Nat → R} : ∀ {n : Nat}, (∀ i, i < n → rightR (r i) = true) → rightR (joinsR r n) = true
  | 0, _ => by show rightR zeroR = true; decide
  | k + 1, h => joinR_right (joinsR_right fun i hi => h i (by omega)) (h k (by omega))
/-- Where what a node makes may be something. -/
def reachR (op : Int) (p : Nat → Int) (n : Nat) (r : Nat → R) : R :=
  if op = 1 then moveR (r 0) (p 0) (p 1)
  else if op = 2 ∨ op = 4 then growR (r 0) (p 0) (p 1) (p 0) (p 1)
  else if op = 5 ∧ eqP (tintP p noP) noP = false then allR
  else if op = 6 then (if p 0 = 0 ∧ p 1 = 0 ∧ p 2 = 0 ∧ p 3 = 0 then zeroR else joinR (boxO p 4) zeroR)
  else if op = 12 then meetR (r 0) (boxO p 0)
  else if op = 10 then (if emptyR (meetR (r 0) (boxO p 0)) = true then zeroR else allR)
  else if op = 11 then joinR (r 0) (growR (moveR (r 0) (p 0) (p 1)) (p 2) (p 3) (p 2) (p 3))
  else joinsR r n
theorem small_far {s : R} (hs : smallR s) {x y : Int} (h : hasR s x y = true) : (-33554432 ≤ x ∧ x ≤ 33554432) ∧ (-33554432 ≤ y ∧ y ≤ 33554432) := by
  have k := (hasR_iff _ _ _).1 h
  unfold smallR at hs
  omega
theorem chan_le_no {p : P4} (h : okP p) (k : ∀ c, c < 4 → chan p c ≤ 0) : p = noP := by
  refine p4_ext (fun c hc => ?_)
  have := k c hc
  obtain ⟨⟨h0, h0'⟩, ⟨h1, h1'⟩, ⟨h2, h2'⟩, h3, h3'⟩ := h
  have e : chan noP c = 0 := chan_no c
  rw [e]
  unfold chan at this ⊢
  split at this <;> (try split at this) <;> (try split at this) <;> omega
theorem around_ge (k : Bool) (F : Img) (x y : Int) {rx ry : Int} (c : Nat) {u v : Int} (hu0 : x - rx ≤ u) (hu1 : u ≤ x + rx) (hv0 : y - ry ≤ v) (hv1 : v ≤ y + ry) : turnV k (chan (F u v) c) ≤ turnV k (chan (aroundP k F x y rx ry) c) := by
  rw [aroundP_chan, turnV_turn]
  have wx : ((winN rx : Nat) : Int) = 2 * rx + 1 := winN_eq (by omega)
  have wy : ((winN ry : Nat) : Int) = 2 * ry + 1 := winN_eq (by omega)
  have h1 := mxW_ge (fun v => mxW (fun u => turnV k (chan (F u v) c)) (x - rx) (winN rx)) (y - ry) (winN ry) (v - (y - ry)).toNat (by omega)
  have h2 := mxW_ge (fun u => turnV k (chan (F u v) c)) (x - rx) (winN rx) (u - (x - rx)).toNat (by omega)
  rw [show y - ry + ((v - (y - ry)).toNat : Int) = v from by omega] at h1
  rw [show x - rx + ((u - (x - rx)).toNat : Int) = u from by omega] at h2
  exact Int.le_trans h2 h1
theorem erode_no {F : Img} (hF : ∀ x y, okP (F x y)) {x y rx ry : Int} (hx : 0 ≤ rx) (hy : 0 ≤ ry) (h : F x y = noP) : aroundP false F x y rx ry = noP := by
  refine chan_le_no ?_ (fun c hc => ?_)
  · obtain ⟨⟨u0, v0, -, -, e0⟩, ⟨u1, v1, -, -, e1⟩, ⟨u2, v2, -, -, e2⟩, u3, v3, -, -, e3⟩ := And.intro (around_is (k := false) hF x y hx hy 0) (And.intro (around_is (k := false) hF x y hx hy 1) (And.intro (around_is (k := false) hF x y hx hy 2) (around_is (k := false) hF x y hx hy 3)))
    have e0' : (aroundP false F x y rx ry).r = (F u0 v0).r := e0
    have e1' : (aroundP false F x y rx ry).g = (F u1 v1).g := e1
    have e2' : (aroundP false F x y rx ry).b = (F u2 v2).b := e2
    have e3' : (aroundP false F x y rx ry).a = (F u3 v3).a := e3
    unfold okP
    rw [e0', e1', e2', e3']
    exact ⟨(hF _ _).1, (hF _ _).2.1, (hF _ _).2.2.1, (hF _ _).2.2.2⟩
  · have k := around_ge false F x y (rx := rx) (ry := ry) c (u := x) (v := y) (by omega) (by omega) (by omega) (by omega)
    rw [h, chan_no] at k
    unfold turnV at k
    simp at k
    omega
/-- What is nothing outside of rectangles makes what is nothing outside of its reach. -/
theorem reach_law {op : Int} {p : Nat → Int} {n : Nat} {F : Nat → Img} {r : Nat → R} {s : R} {x y : Int} (hk : NodeOk op p n) (hs : smallR s) (hok : ∀ i, i < n → ∀ x y, okP (F i x y)) (hF : ∀ i, i < n → ∀ x y, hasR (r i) x y = false → F i x y = noP) (hr : ∀ i, i < n → rightR (r i) = true)
    (hin : hasR s x y = true) (no : hasR (reachR op p n r) x y = false) : doF op p n F s x y = noP := by
  have hop := hk.op_
  have hsf := small_far hs hin
  have hc : op = 1 ∨ op = 2 ∨ op = 3 ∨ op = 4 ∨ op = 5 ∨ op = 6 ∨ op = 7 ∨ op = 8 ∨ op = 9 ∨ op = 10 ∨ op = 11 ∨ op = 12 := by omega
  rcases hc with rfl | rfl | rfl | rfl | rfl | rfl | rfl | rfl | rfl | rfl | rfl | rfl
  · have n1 := hk.one (by omega)
    have ho := hk.off rfl
    have no' : hasR (moveR (r 0) (p 0) (p 1)) x y = false := by simpa [reachR] using no
    rw [has_moveR (hr 0 (by omega)) (by unfold farI; omega) (by unfold farI; omega) (by unfold farI; omega) (by unfold farI; omega)] at no'
    rw [doF_1]
    unfold moveF copyF
    split
    · exact hF 0 (by omega) _ _ no'
    · rfl
  · have n1 := hk.one (by omega)
    have ho := hk.rad (by omega)
    have no' : ¬ hasR (growR (r 0) (p 0) (p 1) (p 0) (p 1)) x y = true := by rw [show growR (r 0) (p 0) (p 1) (p 0) (p 1) = reachR 2 p n r from by simp [reachR], no]; simp
    rw [has_growR (by unfold farI; omega) (by unfold farI; omega)] at no'
    rw [show doF 2 p n F s = doF 2 p n (fun _ => F 0) s from by rw [doF_2, doF_2], doF_congr (G := fun _ => noF) hk hs (fun i hi u v hw => ?_)]
    · exact doF_no hk hs (fun h => by omega) (by omega)
    · simp [winW] at hw
      refine hF 0 (by omega) u v ?_
      cases c : hasR (r 0) u v
      · rfl
      · have k := (hasR_iff _ _ _).1 c
        exact absurd ⟨has_nonempty c, by omega, by omega, by omega, by omega⟩ no'
  · have n1 := hk.one (by omega)
    have ho := hk.rad (by omega)
    have no' : hasR (joinsR r n) x y = false := by simpa [reachR] using no
    rw [doF_3, boxM_near (near_of_small hs) ho.2 false (p 0) (F 0) hin]
    exact erode_no (hok 0 (by omega)) ho.1.1 ho.2.1 (hF 0 (by omega) _ _ (joinsR_no no' 0 (by omega)))
  · have n1 := hk.one (by omega)
    have ho := hk.rad (by omega)
    have no' : ¬ hasR (growR (r 0) (p 0) (p 1) (p 0) (p 1)) x y = true := by rw [show growR (r 0) (p 0) (p 1) (p 0) (p 1) = reachR 4 p n r from by simp [reachR], no]; simp
    rw [has_growR (by unfold farI; omega) (by unfold farI; omega)] at no'
    rw [show doF 4 p n F s = doF 4 p n (fun _ => F 0) s from by rw [doF_4, doF_4], doF_congr (G := fun _ => noF) hk hs (fun i hi u v hw => ?_)]
    · exact doF_no hk hs (fun h => by omega) (by omega)
    · simp [winW] at hw
      refine hF 0 (by omega) u v ?_
      cases c : hasR (r 0) u v
      · rfl
      · have k := (hasR_iff _ _ _).1 c
        exact absurd ⟨has_nonempty c, by omega, by omega, by omega, by omega⟩ no'
  · have n1 := hk.one (by omega)
    cases e : eqP (tintP p noP) noP
    · have : hasR allR x y = false := by simpa [reachR, e] using no
      rw [has_allR (by unfold farI; omega) (by unfold farI; omega)] at this
      cases this
    · have no' : hasR (joinsR r n) x y = false := by simpa [reachR, e] using no
      rw [doF_5]
      unfold cutF
      split
      · show tintP p (F 0 x y) = noP
        rw [hF 0 (by omega) _ _ (joinsR_no no' 0 (by omega))]
        exact (eqP_iff _ _).1 e
      · rfl
  · rw [doF_6]
    unfold cutF
    split
    · show (if hasR (boxO p 4) x y = true then pxO p 0 else noP) = noP
      split
      · rename_i hb
        by_cases z : p 0 = 0 ∧ p 1 = 0 ∧ p 2 = 0 ∧ p 3 = 0
        · obtain ⟨z0, z1, z2, z3⟩ := z
          unfold pxO noP
          simp only [Nat.zero_add, z0, z1, z2, z3]
        · have no' : hasR (joinR (boxO p 4) zeroR) x y = false := by simpa [reachR, z] using no
          rw [has_joinR (.inl hb)] at no'
          cases no'
      · rfl
    · rfl
  · have n1 := hk.two (by omega)
    have no' : hasR (joinsR r n) x y = false := by simpa [reachR] using no
    rw [doF_congr (G := fun _ => noF) hk hs (fun i hi u v hw => ?_)]
    · exact doF_no hk hs (fun h => by omega) (by omega)
    · simp [winW] at hw
      obtain ⟨rfl, rfl⟩ := hw
      exact hF i hi _ _ (joinsR_no no' i hi)
  · have n1 := hk.two (by omega)
    have no' : hasR (joinsR r n) x y = false := by simpa [reachR] using no
    rw [doF_congr (G := fun _ => noF) hk hs (fun i hi u v hw => ?_)]
    · exact doF_no hk hs (fun h => by omega) (by omega)
    · simp [winW] at hw
      obtain ⟨rfl, rfl⟩ := hw
      exact hF i hi _ _ (joinsR_no no' i hi)
  · have no' : hasR (joinsR r n) x y = false := by simpa [reachR] using no
    rw [doF_congr (G := fun _ => noF) hk hs (fun i hi u v hw => ?_)]
    · exact doF_no hk hs (fun h => by omega) (by omega)
    · simp [winW] at hw
      obtain ⟨rfl, rfl⟩ := hw
      exact hF i hi _ _ (joinsR_no no' i hi)
  · have n1 := hk.one (by omega)
    have hb := hk.box10 rfl
    rw [doF_10]
    unfold tileF cutF
    split
    · refine hF 0 (by omega) _ _ ?_
      cases c : hasR (r 0) ((boxO p 0).x0 + (x - (boxO p 0).x0) % ((boxO p 0).x1 - (boxO p 0).x0)) ((boxO p 0).y0 + (y - (boxO p 0).y0) % ((boxO p 0).y1 - (boxO p 0).y0))
      · rfl
      · exfalso
        have q1 := Int.emod_nonneg (x - p 0) (show p 2 - p 0 ≠ 0 by omega)
        have q2 := Int.emod_lt_of_pos (x - p 0) (show 0 < p 2 - p 0 by omega)
        have q3 := Int.emod_nonneg (y - p 1) (show p 3 - p 1 ≠ 0 by omega)
        have q4 := Int.emod_lt_of_pos (y - p 1) (show 0 < p 3 - p 1 by omega)
        have hbx : hasR (boxO p 0) ((boxO p 0).x0 + (x - (boxO p 0).x0) % ((boxO p 0).x1 - (boxO p 0).x0)) ((boxO p 0).y0 + (y - (boxO p 0).y0) % ((boxO p 0).y1 - (boxO p 0).y0)) = true := by
          rw [hasR_iff]
          simp only [boxO, Nat.zero_add]
          omega
        have hm : hasR (meetR (r 0) (boxO p 0)) ((boxO p 0).x0 + (x - (boxO p 0).x0) % ((boxO p 0).x1 - (boxO p 0).x0)) ((boxO p 0).y0 + (y - (boxO p 0).y0) % ((boxO p 0).y1 - (boxO p 0).y0)) = true := by rw [has_meet, c, hbx]; rfl
        have no' : hasR allR x y = false := by
          have e := has_nonempty hm
          simpa [reachR, e] using no
        rw [has_allR (by unfold farI; omega) (by unfold farI; omega)] at no'
        cases no'
    · rfl
  · have n1 := hk.one (by omega)
    have ho := hk.off11 rfl
    have no' : hasR (joinR (r 0) (growR (moveR (r 0) (p 0) (p 1)) (p 2) (p 3) (p 2) (p 3))) x y = false := by simpa [reachR] using no
    obtain ⟨no1, no2⟩ := joinR_no no'
    have no3 : ¬ hasR (growR (moveR (r 0) (p 0) (p 1)) (p 2) (p 3) (p 2) (p 3)) x y = true := by rw [no2]; simp
    rw [has_growR (by unfold farI; omega) (by unfold farI; omega)] at no3
    rw [show doF 11 p n F s = doF 11 p n (fun _ => F 0) s from by rw [doF_11, doF_11], doF_congr (G := fun _ => noF) hk hs (fun i hi u v hw => ?_)]
    · exact doF_no hk hs (fun h => by omega) (by omega)
    · simp [winW] at hw
      refine hF 0 (by omega) u v ?_
      rcases hw with ⟨rfl, rfl⟩ | hw
      · exact no1
      · cases c : hasR (r 0) u v
        · rfl
        · have hm : hasR (moveR (r 0) (p 0) (p 1)) (u + p 0) (v + p 1) = true := by
            rw [has_moveR (hr 0 (by omega)) (by unfold farI; omega) (by unfold farI; omega) (by unfold farI; omega) (by unfold farI; omega), show u + p 0 - p 0 = u from by omega, show v + p 1 - p 1 = v from by omega]
            exact c
          have k := (hasR_iff _ _ _).1 hm
          exact absurd ⟨has_nonempty hm, by omega, by omega, by omega, by omega⟩ no3
  · have n1 := hk.one (by omega)
    have no' : hasR (meetR (r 0) (boxO p 0)) x y = false := by simpa [reachR] using no
    rw [doF_12]
    unfold cutF
    split
    · show (if hasR (boxO p 0) x y = true then F 0 x y else noP) = noP
      split
      · rename_i hb
        refine hF 0 (by omega) _ _ ?_
        rw [has_meet, hb] at no'
        simpa using no'
      · rfl
    · rfl
/-- What a node needs of its inputs. -/
def needR (op : Int) (p : Nat → Int) (s : R) : R :=
  if emptyR s = true then zeroR
  else if op = 1 then moveR s (-p 0) (-p 1)
  else if 2 ≤ op ∧ op ≤ 4 then growR s (p 0) (p 1) (p 0) (p 1)
  else if op = 12 then meetR s (boxO p 0)
  else if op = 10 ∧ withinR s (boxO p 0) = false then boxO p 0
  else if op = 11 then joinR s (growR (moveR s (-p 0) (-p 1)) (p 2) (p 3) (p 2) (p 3))
  else s
theorem need_win {op : Int} {p : Nat → Int} {n : Nat} {s : R} {x y u v : Int} (hk : NodeOk op p n) (hs : smallR s) (hin : hasR s x y = true) (hw : winW op p x y u v) : hasR (needR op p s) u v = true := by
  have hop := hk.op_
  have hsf := small_far hs hin
  have hne := has_nonempty hin
  have hxy := (hasR_iff _ _ _).1 hin
  have hsr := hs.right
  have hc : op = 1 ∨ op = 2 ∨ op = 3 ∨ op = 4 ∨ op = 5 ∨ op = 6 ∨ op = 7 ∨ op = 8 ∨ op = 9 ∨ op = 10 ∨ op = 11 ∨ op = 12 := by omega
  have grow : ∀ {a b c d : Int}, (0 ≤ a ∧ a ≤ 255) ∧ (0 ≤ b ∧ b ≤ 255) → (x - a ≤ u ∧ u ≤ x + a) ∧ (y - b ≤ v ∧ v ≤ y + b) → hasR (growR s a b a b) u v = true := fun h k => by
    rw [has_growR (by unfold farI; omega) (by unfold farI; omega)]
    exact ⟨hne, by omega, by omega, by omega, by omega⟩
  rcases hc with rfl | rfl | rfl | rfl | rfl | rfl | rfl | rfl | rfl | rfl | rfl | rfl
  · have ho := hk.off rfl
    simp [winW] at hw
    simp [needR, hne]
    rw [has_moveR hsr (by unfold farI; omega) (by unfold farI; omega) (by unfold farI; omega) (by unfold farI; omega), hw.1, hw.2, show x - p 0 - -p 0 = x from by omega, show y - p 1 - -p 1 = y from by omega]
    exact hin
  · simp [winW] at hw
    simp [needR, hne]
    exact grow (c := 0) (d := 0) (hk.rad (by omega)) hw
  · simp [winW] at hw
    simp [needR, hne]
    exact grow (c := 0) (d := 0) (hk.rad (by omega)) hw
  · simp [winW] at hw
    simp [needR, hne]
    exact grow (c := 0) (d := 0) (hk.rad (by omega)) hw
  · simp [winW] at hw
    simp [needR, hne]
    rw [hw.1, hw.2]; exact hin
  · simp [winW] at hw
  · simp [winW] at hw
    simp [needR, hne]
    rw [hw.1, hw.2]; exact hin
  · simp [winW] at hw
    simp [needR, hne]
    rw [hw.1, hw.2]; exact hin
  · simp [winW] at hw
    simp [needR, hne]
    rw [hw.1, hw.2]; exact hin
  · have hb := hk.box10 rfl
    simp [winW] at hw
    have q1 := Int.emod_nonneg (x - p 0) (show p 2 - p 0 ≠ 0 by omega)
    have q2 := Int.emod_lt_of_pos (x - p 0) (show 0 < p 2 - p 0 by omega)
    have q3 := Int.emod_nonneg (y - p 1) (show p 3 - p 1 ≠ 0 by omega)
    have q4 := Int.emod_lt_of_pos (y - p 1) (show 0 < p 3 - p 1 by omega)
    cases c : withinR s (boxO p 0)
    · simp [needR, hne, c]
      rw [hw.1, hw.2, hasR_iff]
      simp only [boxO, Nat.zero_add]
      omega
    · simp [needR, hne, c]
      unfold withinR at c
      rw [hne, Bool.false_or] at c
      simp only [Bool.and_eq_true, decide_eq_true_eq, boxO, Nat.zero_add] at c
      rw [hw.1, hw.2, Int.emod_eq_of_lt (by omega) (by omega), Int.emod_eq_of_lt (by omega) (by omega), show p 0 + (x - p 0) = x from by omega, show p 1 + (y - p 1) = y from by omega]
      exact hin
  · have ho := hk.off11 rfl
    simp [winW] at hw
    simp [needR, hne]
    refine has_joinR ?_
    rcases hw with ⟨rfl, rfl⟩ | hw
    · exact .inl hin
    · refine .inr ?_
      have hm : hasR (moveR s (-p 0) (-p 1)) (x - p 0) (y - p 1) = true := by
        rw [has_moveR hsr (by unfold farI; omega) (by unfold farI; omega) (by unfold farI; omega) (by unfold farI; omega), show x - p 0 - -p 0 = x from by omega, show y - p 1 - -p 1 = y from by omega]
        exact hin
      have k := (hasR_iff _ _ _).1 hm
      rw [has_growR (by unfold farI; omega) (by unfold farI; omega)]
      exact ⟨has_nonempty hm, by omega, by omega, by omega, by omega⟩
  · simp [winW] at hw
    simp [needR, hne]
    obtain ⟨⟨rfl, rfl⟩, hb⟩ := hw
    rw [has_meet, hin, hb]; rfl
theorem doF_out {op : Int} {p : Nat → Int} {n : Nat} {F : Nat → Img} {s : R} {x y : Int} (h : hasR s x y = false) : doF op p n F s x y = noP := by
  have e : ∀ {P : Img}, cutF (someR s) P x y = noP := cutF_out (by rw [hasR_some]; exact h)
  unfold doF
  split
  · unfold moveF copyF
    rw [if_neg (by rw [hasR_some, h]; simp)]
    rfl
  split
  · exact e
  split
  · exact e
  split
  · exact e
  split
  · exact e
  split
  · exact e
  · exact e
/-- What a node shows in a box is the same where its inputs are known only where it needs them. -/
theorem need_law {op : Int} {p : Nat → Int} {n : Nat} {F : Nat → Img} {s : R} (hk : NodeOk op p n) (hs : smallR s) : doF op p n (fun i => cutF (someR (needR op p s)) (F i)) s = doF op p n F s := by
  funext x y
  cases c : hasR s x y
  · rw [doF_out c, doF_out c]
  · refine doF_congr hk hs (fun i hi u v hw => ?_)
    exact cutF_in (by rw [hasR_some]; exact need_win hk hs c hw)
end Go.Proofs.YtklcmlbkhjcaiaaDoor
