/- Chapter 15's laws: what they ask. -/
import Derived.Test.YtklcmlbkhjcaiaaDoorK10
import Derived.Test.YtklcmlbkhjcaiaaDoorK11
import Derived.ArgAppend
import Derived.Test.YtklcmlbkhjcaiaaDoorK12




namespace Go.Proofs.YtklcmlbkhjcaiaaDoor
open Go.RowKit
set_option linter.unusedVariables false

def radB (op : Int) (p : Nat → Int) : Bool := decide ((op = 2 ∨ op = 3 ∨ op = 4 → p 0 ≤ 6 ∧ p 1 ≤ 6) ∧ (op = 11 → p 2 ≤ 6 ∧ p 3 ≤ 6))
def fine15 (op : Int) (il : Nat) (is : Nat → Int) (pl : Nat) (p : Nat → Int) (ll : Nat) (g : Nat → Bf) (box : R) : Bool :=
  decide (il ≤ 8 ∧ pl ≤ 40) && (oneB op il is pl p 9 && (decide (ll = il) && (fineB box 0 0 200 && (radB op p && decide (∀ i, i < ll → right10 (g i).len (g i).r (g i).f = true)))))
/-- What is known where it is so. -/
structure Fine15 (op : Int) (il pl : Nat) (p : Nat → Int) (ll : Nat) (g : Nat → Bf) (box : R) : Prop where
  few : il ≤ 8 ∧ pl ≤ 40
  len : ll = il
  plen : (pl : Int) = prmN op
  node : NodeOk op p ll
  small : smallR box
  right : rightR box = true
  cnt : cntR (someR box) ≤ 200
  rad : op = 2 ∨ op = 3 ∨ op = 4 → p 0 ≤ 6 ∧ p 1 ≤ 6
  rad11 : op = 11 → p 2 ≤ 6 ∧ p 3 ≤ 6
  bufs : ∀ i, i < ll → right10 (g i).len (g i).r (g i).f = true
theorem one_plen {op : Int} {n : Nat} {is : Nat → Int} {pl : Nat} {p : Nat → Int} {count : Int} (h : oneB op n is pl p count = true) : (pl : Int) = prmN op := by
  unfold oneB at h
  simp only [Bool.and_eq_true, decide_eq_true_eq] at h
  exact h.2.1.2.2
theorem fine15_yes {op : Int} {il : Nat} {is : Nat → Int} {pl : Nat} {p : Nat → Int} {ll : Nat} {g : Nat → Bf} {box : R} (h : fine15 op il is pl p ll g box = true) : Fine15 op il pl p ll g box := by
  unfold fine15 radB at h
  simp only [Bool.and_eq_true, decide_eq_true_eq] at h
  obtain ⟨h1, h2, h3, h4, h5, h6⟩ := h
  subst h3
  obtain ⟨k1, -, -, k2, -, k3, -⟩ := fine_cnt h4 (by omega)
  exact ⟨h1, rfl, one_plen h2, nodeOk_of h2 h1.1, k1, k2, by omega, h5.1, h5.2, h6⟩
theorem Fine15.bufAt {op : Int} {il pl : Nat} {p : Nat → Int} {ll : Nat} {g : Nat → Bf} {box : R} (h : Fine15 op il pl p ll g box) {w : World} {a : Option Addr} {cl : Nat} (hb : IsBufs w a ll cl g) {i : Nat} (hi : i < ll) : BufAt w (g i).r (g i).a (g i).len (g i).cap (imgOf (g i).r (g i).f) ∧ cntR (g i).r ≤ 300 := by
  obtain ⟨k1, g1, n1, -⟩ := right10_yes (h.bufs i hi)
  exact ⟨bufAt_of g1 n1 (hb.pix i hi), by omega⟩

set_option maxRecDepth 100000 in
set_option maxHeartbeats 25600000 in
theorem law15_fine (op : Int) (ia : Option Addr) (il ic : Nat) (is : Nat → Int) (pa : Option Addr) (pl pc : Nat) (p : Nat → Int) (al : Option Addr) (ll cl : Nat) (g5 : Nat → Bf) (s : R) (c : Bool) (w : World) (ht : Hid (Tabs w)) (hi : Hid (IsInts w ia il ic is)) (hp : Hid (IsInts w pa pl pc p)) (hb1 : Hid (IsBufs w al ll cl g5)) (hc : Hid (fine15 op il is pl p ll g5 s = c)) :
    Calls Tryd.prog 8 #[.agg #[.int .i64 op, .slice ia il ic, .slice pa pl pc], .slice al ll cl, .agg #[.int .i64 s.x0, .int .i64 s.y0, .int .i64 s.x1, .int .i64 s.y1]] w fun e w' => e = .returned (.bool c) ∧ Grows w w' := by
  have m1 := hi.out.le
  have m2 := hi.out.most
  have m3 := hp.out.le
  have m4 := hp.out.most
  have m5 := hb1.out.le
  have m6 := hb1.out.most
  have HONE : Hid (∀ W, Grows w W → Calls Tryd.prog 26 #[.agg #[.int .i64 op, .slice ia il ic, .slice pa pl pc], .int .i64 9] W fun e w' => ∃ k : Int, e = .returned (.int .i64 k) ∧ Grows W w' ∧ oneB op il is pl p 9 = decide (k = 0)) := fun W g => ref12_One op ia il ic is pa pl pc p 9 W (ht.out.grows g) (hi.out.grows g) (hp.out.grows g) (by omega)
  by_cases t1 : 8 < (il : Int)
  case pos =>
    obtain rfl : false = c := by rw [← hc.out]; symm; unfold fine15; rw [decide_eq_false (by omega), Bool.false_and]
    clear hc
    go_enter Tryd.func8, Tryd.ntmps8
    go_wp2
    go_ret
    exact ⟨rfl, (by repeat (first | exact Grows.refl _ | apply Grows.grow | apply Grows.alloc | apply Grows.drew))⟩
  by_cases t2 : 40 < (pl : Int)
  case pos =>
    obtain rfl : false = c := by rw [← hc.out]; symm; unfold fine15; rw [decide_eq_false (by omega), Bool.false_and]
    clear hc
    go_enter Tryd.func8, Tryd.ntmps8
    go_wp2
    go_ret
    exact ⟨rfl, (by repeat (first | exact Grows.refl _ | apply Grows.grow | apply Grows.alloc | apply Grows.drew))⟩
  cases C1' : oneB op il is pl p 9
  case false =>
    have C1 := Lib.hid C1'
    obtain rfl : false = c := by rw [← hc.out]; symm; unfold fine15; rw [C1', Bool.false_and, Bool.and_false]
    clear hc C1'
    go_enter Tryd.func8, Tryd.ntmps8
    go_wp2_with (first
      | (go_at_call 26; (with_reducible refine Calls.mono (HONE.out _ ?_) ?_); (exact (by repeat (first | exact Grows.refl _ | apply Grows.grow | apply Grows.alloc | apply Grows.drew))); rintro e w' ⟨ko, rfl, hgw, ho⟩; (have hko : ¬ (ko = 0) := by rw [C1.out] at ho; simpa using ho); clear ho; (first | (obtain ⟨gw, rfl⟩ := grows_of_grow hgw) | (obtain ⟨gw, rfl⟩ := hgw))))
    go_ret
    exact ⟨rfl, (by repeat (first | exact Grows.refl _ | apply Grows.grow | apply Grows.alloc | apply Grows.drew))⟩
  have C1 := Lib.hid C1'
  by_cases t3 : (ll : Int) = il
  case neg =>
    obtain rfl : false = c := by rw [← hc.out]; symm; unfold fine15; rw [show decide (ll = il) = false from decide_eq_false (by omega), Bool.false_and, Bool.and_false, Bool.and_false]
    clear hc C1'
    go_enter Tryd.func8, Tryd.ntmps8
    go_wp2_with (first
      | (go_at_call 26; (with_reducible refine Calls.mono (HONE.out _ ?_) ?_); (exact (by repeat (first | exact Grows.refl _ | apply Grows.grow | apply Grows.alloc | apply Grows.drew))); rintro e w' ⟨ko, rfl, hgw, ho⟩; (obtain rfl : ko = 0 := by rw [C1.out] at ho; simpa using ho); clear ho; (first | (obtain ⟨gw, rfl⟩ := grows_of_grow hgw) | (obtain ⟨gw, rfl⟩ := hgw))))
    go_ret
    exact ⟨rfl, (by repeat (first | exact Grows.refl _ | apply Grows.grow | apply Grows.alloc | apply Grows.drew))⟩
  obtain rfl : ll = il := by omega
  clear t3
  cases C4' : fineB s 0 0 200
  case false =>
    have C4 := Lib.hid C4'
    obtain rfl : false = c := by rw [← hc.out]; symm; unfold fine15; rw [C4', Bool.false_and, Bool.and_false, Bool.and_false, Bool.and_false]
    clear hc C4' C1'
    go_enter Tryd.func8, Tryd.ntmps8
    go_wp2_with (first
      | (go_at_call 26; (with_reducible refine Calls.mono (HONE.out _ ?_) ?_); (exact (by repeat (first | exact Grows.refl _ | apply Grows.grow | apply Grows.alloc | apply Grows.drew))); rintro e w' ⟨ko, rfl, hgw, ho⟩; (obtain rfl : ko = 0 := by rw [C1.out] at ho; simpa using ho); clear ho; (first | (obtain ⟨gw, rfl⟩ := grows_of_grow hgw) | (obtain ⟨gw, rfl⟩ := hgw)))
      | (go_at_call 14; (with_reducible refine Calls.mono (ref08_FineIs _ _ _ _ _ _ C4) ?_); rintro e w' ⟨rfl, hgw⟩; first | (obtain ⟨gx, rfl⟩ := grows_of_grow hgw) | (obtain ⟨gx, rfl⟩ := hgw)))
    go_ret
    exact ⟨rfl, (by repeat (first | exact Grows.refl _ | apply Grows.grow | apply Grows.alloc | apply Grows.drew))⟩
  have C4 := Lib.hid C4'
  have HR : Hid (c = (radB op p && decide (∀ i, i < ll → right10 (g5 i).len (g5 i).r (g5 i).f = true))) := Lib.hid (by rw [← hc.out]; unfold fine15; rw [C1', C4', decide_eq_true (by omega : ll ≤ 8 ∧ pl ≤ 40)]; simp)
  have HP := Lib.hid (one_plen C1')
  have hop : 1 ≤ op ∧ op ≤ 12 := (nodeOk_of C1' (by omega)).op_
  clear hc C4' C1' ht hi
  by_cases c24 : op = 2 ∨ op = 3 ∨ op = 4
  case pos =>
    have q1 : 2 ≤ op := by omega
    have q2 : op ≤ 4 := by omega
    have q3 : ¬ (op = 11) := by omega
    obtain rfl : pl = 2 := by have := HP.out; rcases c24 with rfl | rfl | rfl <;> (simp only [show prmN 2 = 2 from rfl, show prmN 3 = 2 from rfl, show prmN 4 = 2 from rfl] at this; omega)
    obtain ⟨bp, offp, rfl, hbp, f0⟩ := hp.out.at (k := 0) (by omega)
    obtain ⟨b2, off2, e, -, f1⟩ := hp.out.at (k := 1) (by omega)
    cases e
    simp only [Nat.add_zero] at f0
    have HRB0 : Hid (radB op p = decide (p 0 ≤ 6 ∧ p 1 ≤ 6)) := by
      have : ((op = 2 ∨ op = 3 ∨ op = 4 → p 0 ≤ 6 ∧ p 1 ≤ 6) ∧ (op = 11 → p 2 ≤ 6 ∧ p 3 ≤ 6)) ↔ (p 0 ≤ 6 ∧ p 1 ≤ 6) := ⟨fun h => h.1 c24, fun h => ⟨fun _ => h, fun e => absurd e q3⟩⟩
      show decide _ = _
      exact decide_eq_decide.2 this
    obtain ⟨v0, hv0⟩ : ∃ z, z = p 0 := ⟨_, rfl⟩
    obtain ⟨v1, hv1⟩ : ∃ z, z = p 1 := ⟨_, rfl⟩
    rw [← hv0, ← hv1] at HRB0
    rw [← hv0] at f0
    rw [← hv1] at f1
    clear hv0 hv1 c24 HP
    by_cases r0 : 6 < v0
    case pos =>
      have HRB : Hid (radB op p = false) := by rw [HRB0.out]; exact decide_eq_false (by omega)
      clear HRB0
      obtain rfl : false = c := by rw [HR.out, HRB.out, Bool.false_and]
      clear HR HRB
      go_enter Tryd.func8, Tryd.ntmps8
      go_wp2_with (first
        | (go_at_call 26; (with_reducible refine Calls.mono (HONE.out _ ?_) ?_); (exact (by repeat (first | exact Grows.refl _ | apply Grows.grow | apply Grows.alloc | apply Grows.drew))); rintro e w' ⟨ko, rfl, hgw, ho⟩; (obtain rfl : ko = 0 := by rw [C1.out] at ho; simpa using ho); clear ho; (first | (obtain ⟨gw, rfl⟩ := grows_of_grow hgw) | (obtain ⟨gw, rfl⟩ := hgw)))
        | (go_at_call 14; (with_reducible refine Calls.mono (ref08_FineIs _ _ _ _ _ _ C4) ?_); rintro e w' ⟨rfl, hgw⟩; first | (obtain ⟨gx, rfl⟩ := grows_of_grow hgw) | (obtain ⟨gx, rfl⟩ := hgw)))
      go_ret
      exact ⟨rfl, (by repeat (first | exact Grows.refl _ | apply Grows.grow | apply Grows.alloc | apply Grows.drew))⟩
    by_cases r1 : 6 < v1
    case pos =>
      have HRB : Hid (radB op p = false) := by rw [HRB0.out]; exact decide_eq_false (by omega)
      clear HRB0
      obtain rfl : false = c := by rw [HR.out, HRB.out, Bool.false_and]
      clear HR HRB
      go_enter Tryd.func8, Tryd.ntmps8
      go_wp2_with (first
        | (go_at_call 26; (with_reducible refine Calls.mono (HONE.out _ ?_) ?_); (exact (by repeat (first | exact Grows.refl _ | apply Grows.grow | apply Grows.alloc | apply Grows.drew))); rintro e w' ⟨ko, rfl, hgw, ho⟩; (obtain rfl : ko = 0 := by rw [C1.out] at ho; simpa using ho); clear ho; (first | (obtain ⟨gw, rfl⟩ := grows_of_grow hgw) | (obtain ⟨gw, rfl⟩ := hgw)))
        | (go_at_call 14; (with_reducible refine Calls.mono (ref08_FineIs _ _ _ _ _ _ C4) ?_); rintro e w' ⟨rfl, hgw⟩; first | (obtain ⟨gx, rfl⟩ := grows_of_grow hgw) | (obtain ⟨gx, rfl⟩ := hgw)))
      go_ret
      exact ⟨rfl, (by repeat (first | exact Grows.refl _ | apply Grows.grow | apply Grows.alloc | apply Grows.drew))⟩
    have HRB : Hid (radB op p = true) := by rw [HRB0.out]; exact decide_eq_true (by omega)
    clear HRB0
    go_enter Tryd.func8, Tryd.ntmps8
    go_wp2_with (first
      | (go_at_call 26; (with_reducible refine Calls.mono (HONE.out _ ?_) ?_); (exact (by repeat (first | exact Grows.refl _ | apply Grows.grow | apply Grows.alloc | apply Grows.drew))); rintro e w' ⟨ko, rfl, hgw, ho⟩; (obtain rfl : ko = 0 := by rw [C1.out] at ho; simpa using ho); clear ho; (first | (obtain ⟨gw, rfl⟩ := grows_of_grow hgw) | (obtain ⟨gw, rfl⟩ := hgw)))
      | (go_at_call 14; (with_reducible refine Calls.mono (ref08_FineIs _ _ _ _ _ _ C4) ?_); rintro e w' ⟨rfl, hgw⟩; first | (obtain ⟨gx, rfl⟩ := grows_of_grow hgw) | (obtain ⟨gx, rfl⟩ := hgw)))
    go_loopw [7] (fun i wr => ∃ k : Nat, k ≤ ll ∧ i = .int .i64 k ∧ Hid (Grows w wr ∧ ∀ i, i < k → right10 (g5 i).len (g5 i).r (g5 i).f = true)) (fun i _ => ll - (intOf i).toNat)
    case atStart => exact ⟨0, by omega, rfl, (by repeat (first | exact Grows.refl _ | apply Grows.grow | apply Grows.alloc | apply Grows.drew)), fun i hi => by omega⟩
    case round =>
      obtain ⟨k, hk, rfl, hh⟩ := hrel
      have GR : Hid (Grows w wr) := hh.out.1
      by_cases hlt : k < ll
      · obtain ⟨b', off', rfl, hb', e0, e1, e2, e3, e4⟩ := (hb1.out.grows GR.out).at hlt
        have PX := Lib.hid ((hb1.out.grows GR.out).pix k hlt)
        cases c_HRK : right10 (g5 k).len (g5 k).r (g5 k).f
        · obtain rfl : false = c := by
            rw [HR.out, show decide (∀ i, i < ll → right10 (g5 i).len (g5 i).r (g5 i).f = true) = false from decide_eq_false (fun h => by have := h k hlt; rw [c_HRK] at this; cases this), Bool.and_false]
          obtain ⟨rk, hrk⟩ : ∃ z, z = (g5 k).r := ⟨_, rfl⟩
          obtain ⟨ak, hak⟩ : ∃ z, z = (g5 k).a := ⟨_, rfl⟩
          obtain ⟨lk, hlk⟩ : ∃ z, z = (g5 k).len := ⟨_, rfl⟩
          obtain ⟨ck, hck⟩ : ∃ z, z = (g5 k).cap := ⟨_, rfl⟩
          obtain ⟨fk, hfk⟩ : ∃ z, z = (g5 k).f := ⟨_, rfl⟩
          have HRK := Lib.hid c_HRK
          rw [← hrk, ← hlk, ← hfk] at HRK
          rw [← hak, ← hlk, ← hck, ← hfk] at PX
          rw [← hrk] at e0 e1 e2 e3
          rw [← hak, ← hlk, ← hck] at e4
          clear hrk hak hlk hck hfk c_HRK HR
          go_wp2_with (go_at_call 27; refine (ref10_RightIs rk ak lk ck fk _ false (Lib.hid (PX.out.grows (by repeat (first | exact Grows.refl _ | apply Grows.grow | apply Grows.alloc | apply Grows.drew)))) HRK).mono ?_; rintro e w' ⟨rfl, hgw⟩; first | (obtain ⟨gw, rfl⟩ := grows_of_grow hgw) | (obtain ⟨gw, rfl⟩ := hgw))
          go_ret
          exact ⟨rfl, GR.out.trans (by repeat (first | exact Grows.refl _ | apply Grows.grow | apply Grows.alloc | apply Grows.drew))⟩
        · obtain ⟨rk, hrk⟩ : ∃ z, z = (g5 k).r := ⟨_, rfl⟩
          obtain ⟨ak, hak⟩ : ∃ z, z = (g5 k).a := ⟨_, rfl⟩
          obtain ⟨lk, hlk⟩ : ∃ z, z = (g5 k).len := ⟨_, rfl⟩
          obtain ⟨ck, hck⟩ : ∃ z, z = (g5 k).cap := ⟨_, rfl⟩
          obtain ⟨fk, hfk⟩ : ∃ z, z = (g5 k).f := ⟨_, rfl⟩
          have HRK := Lib.hid c_HRK
          have HRZ := Lib.hid c_HRK
          rw [← hrk, ← hlk, ← hfk] at HRK
          rw [← hak, ← hlk, ← hck, ← hfk] at PX
          rw [← hrk] at e0 e1 e2 e3
          rw [← hak, ← hlk, ← hck] at e4
          clear hrk hak hlk hck hfk c_HRK
          go_wp2_with (go_at_call 27; refine (ref10_RightIs rk ak lk ck fk _ true (Lib.hid (PX.out.grows (by repeat (first | exact Grows.refl _ | apply Grows.grow | apply Grows.alloc | apply Grows.drew)))) HRK).mono ?_; rintro e w' ⟨rfl, hgw⟩; first | (obtain ⟨gw, rfl⟩ := grows_of_grow hgw) | (obtain ⟨gw, rfl⟩ := hgw))
          go_roundw
          case rel =>
            refine ⟨k + 1, by omega, by go_num, hh.out.1.trans (by repeat (first | exact Grows.refl _ | apply Grows.grow | apply Grows.alloc | apply Grows.drew)), fun i hi => ?_⟩
            by_cases e : i = k
            · subst e; exact HRZ.out
            · exact hh.out.2 i (by omega)
          case measure => simp [intOf]; omega
      · obtain rfl : ll = k := by omega
        obtain rfl : true = c := by
          rw [HR.out, HRB.out, decide_eq_true hh.out.2]; rfl
        clear HR
        go_wp2
        go_ret
        exact ⟨rfl, GR.out.trans (by repeat (first | exact Grows.refl _ | apply Grows.grow | apply Grows.alloc | apply Grows.drew))⟩
  by_cases c11 : op = 11
  case pos =>
    subst c11
    obtain rfl : pl = 8 := by have := HP.out; have e : prmN 11 = 8 := (by decide); omega
    obtain ⟨bp, offp, rfl, hbp, f2⟩ := hp.out.at (k := 2) (by omega)
    obtain ⟨b2, off2, e, -, f3⟩ := hp.out.at (k := 3) (by omega)
    cases e
    have HRB0 : Hid (radB 11 p = decide (p 2 ≤ 6 ∧ p 3 ≤ 6)) := by
      have : (((11 : Int) = 2 ∨ (11 : Int) = 3 ∨ (11 : Int) = 4 → p 0 ≤ 6 ∧ p 1 ≤ 6) ∧ ((11 : Int) = 11 → p 2 ≤ 6 ∧ p 3 ≤ 6)) ↔ (p 2 ≤ 6 ∧ p 3 ≤ 6) := ⟨fun h => h.2 rfl, fun h => ⟨fun e => by omega, fun _ => h⟩⟩
      show decide _ = _
      exact decide_eq_decide.2 this
    obtain ⟨v0, hv0⟩ : ∃ z, z = p 2 := ⟨_, rfl⟩
    obtain ⟨v1, hv1⟩ : ∃ z, z = p 3 := ⟨_, rfl⟩
    rw [← hv0, ← hv1] at HRB0
    rw [← hv0] at f2
    rw [← hv1] at f3
    clear hv0 hv1 c24 HP hop
    by_cases r0 : 6 < v0
    case pos =>
      have HRB : Hid (radB 11 p = false) := by rw [HRB0.out]; exact decide_eq_false (by omega)
      clear HRB0
      obtain rfl : false = c := by rw [HR.out, HRB.out, Bool.false_and]
      clear HR HRB
      go_enter Tryd.func8, Tryd.ntmps8
      go_wp2_with (first
        | (go_at_call 26; (with_reducible refine Calls.mono (HONE.out _ ?_) ?_); (exact (by repeat (first | exact Grows.refl _ | apply Grows.grow | apply Grows.alloc | apply Grows.drew))); rintro e w' ⟨ko, rfl, hgw, ho⟩; (obtain rfl : ko = 0 := by rw [C1.out] at ho; simpa using ho); clear ho; (first | (obtain ⟨gw, rfl⟩ := grows_of_grow hgw) | (obtain ⟨gw, rfl⟩ := hgw)))
        | (go_at_call 14; (with_reducible refine Calls.mono (ref08_FineIs _ _ _ _ _ _ C4) ?_); rintro e w' ⟨rfl, hgw⟩; first | (obtain ⟨gx, rfl⟩ := grows_of_grow hgw) | (obtain ⟨gx, rfl⟩ := hgw)))
      go_ret
      exact ⟨rfl, (by repeat (first | exact Grows.refl _ | apply Grows.grow | apply Grows.alloc | apply Grows.drew))⟩
    by_cases r1 : 6 < v1
    case pos =>
      have HRB : Hid (radB 11 p = false) := by rw [HRB0.out]; exact decide_eq_false (by omega)
      clear HRB0
      obtain rfl : false = c := by rw [HR.out, HRB.out, Bool.false_and]
      clear HR HRB
      go_enter Tryd.func8, Tryd.ntmps8
      go_wp2_with (first
        | (go_at_call 26; (with_reducible refine Calls.mono (HONE.out _ ?_) ?_); (exact (by repeat (first | exact Grows.refl _ | apply Grows.grow | apply Grows.alloc | apply Grows.drew))); rintro e w' ⟨ko, rfl, hgw, ho⟩; (obtain rfl : ko = 0 := by rw [C1.out] at ho; simpa using ho); clear ho; (first | (obtain ⟨gw, rfl⟩ := grows_of_grow hgw) | (obtain ⟨gw, rfl⟩ := hgw)))
        | (go_at_call 14; (with_reducible refine Calls.mono (ref08_FineIs _ _ _ _ _ _ C4) ?_); rintro e w' ⟨rfl, hgw⟩; first | (obtain ⟨gx, rfl⟩ := grows_of_grow hgw) | (obtain ⟨gx, rfl⟩ := hgw)))
      go_ret
      exact ⟨rfl, (by repeat (first | exact Grows.refl _ | apply Grows.grow | apply Grows.alloc | apply Grows.drew))⟩
    have HRB : Hid (radB 11 p = true) := by rw [HRB0.out]; exact decide_eq_true (by omega)
    clear HRB0
    go_enter Tryd.func8, Tryd.ntmps8
    go_wp2_with (first
      | (go_at_call 26; (with_reducible refine Calls.mono (HONE.out _ ?_) ?_); (exact (by repeat (first | exact Grows.refl _ | apply Grows.grow | apply Grows.alloc | apply Grows.drew))); rintro e w' ⟨ko, rfl, hgw, ho⟩; (obtain rfl : ko = 0 := by rw [C1.out] at ho; simpa using ho); clear ho; (first | (obtain ⟨gw, rfl⟩ := grows_of_grow hgw) | (obtain ⟨gw, rfl⟩ := hgw)))
      | (go_at_call 14; (with_reducible refine Calls.mono (ref08_FineIs _ _ _ _ _ _ C4) ?_); rintro e w' ⟨rfl, hgw⟩; first | (obtain ⟨gx, rfl⟩ := grows_of_grow hgw) | (obtain ⟨gx, rfl⟩ := hgw)))
    go_loopw [7] (fun i wr => ∃ k : Nat, k ≤ ll ∧ i = .int .i64 k ∧ Hid (Grows w wr ∧ ∀ i, i < k → right10 (g5 i).len (g5 i).r (g5 i).f = true)) (fun i _ => ll - (intOf i).toNat)
    case atStart => exact ⟨0, by omega, rfl, (by repeat (first | exact Grows.refl _ | apply Grows.grow | apply Grows.alloc | apply Grows.drew)), fun i hi => by omega⟩
    case round =>
      obtain ⟨k, hk, rfl, hh⟩ := hrel
      have GR : Hid (Grows w wr) := hh.out.1
      by_cases hlt : k < ll
      · obtain ⟨b', off', rfl, hb', e0, e1, e2, e3, e4⟩ := (hb1.out.grows GR.out).at hlt
        have PX := Lib.hid ((hb1.out.grows GR.out).pix k hlt)
        cases c_HRK : right10 (g5 k).len (g5 k).r (g5 k).f
        · obtain rfl : false = c := by
            rw [HR.out, show decide (∀ i, i < ll → right10 (g5 i).len (g5 i).r (g5 i).f = true) = false from decide_eq_false (fun h => by have := h k hlt; rw [c_HRK] at this; cases this), Bool.and_false]
          obtain ⟨rk, hrk⟩ : ∃ z, z = (g5 k).r := ⟨_, rfl⟩
          obtain ⟨ak, hak⟩ : ∃ z, z = (g5 k).a := ⟨_, rfl⟩
          obtain ⟨lk, hlk⟩ : ∃ z, z = (g5 k).len := ⟨_, rfl⟩
          obtain ⟨ck, hck⟩ : ∃ z, z = (g5 k).cap := ⟨_, rfl⟩
          obtain ⟨fk, hfk⟩ : ∃ z, z = (g5 k).f := ⟨_, rfl⟩
          have HRK := Lib.hid c_HRK
          rw [← hrk, ← hlk, ← hfk] at HRK
          rw [← hak, ← hlk, ← hck, ← hfk] at PX
          rw [← hrk] at e0 e1 e2 e3
          rw [← hak, ← hlk, ← hck] at e4
          clear hrk hak hlk hck hfk c_HRK HR
          go_wp2_with (go_at_call 27; refine (ref10_RightIs rk ak lk ck fk _ false (Lib.hid (PX.out.grows (by repeat (first | exact Grows.refl _ | apply Grows.grow | apply Grows.alloc | apply Grows.drew)))) HRK).mono ?_; rintro e w' ⟨rfl, hgw⟩; first | (obtain ⟨gw, rfl⟩ := grows_of_grow hgw) | (obtain ⟨gw, rfl⟩ := hgw))
          go_ret
          exact ⟨rfl, GR.out.trans (by repeat (first | exact Grows.refl _ | apply Grows.grow | apply Grows.alloc | apply Grows.drew))⟩
        · obtain ⟨rk, hrk⟩ : ∃ z, z = (g5 k).r := ⟨_, rfl⟩
          obtain ⟨ak, hak⟩ : ∃ z, z = (g5 k).a := ⟨_, rfl⟩
          obtain ⟨lk, hlk⟩ : ∃ z, z = (g5 k).len := ⟨_, rfl⟩
          obtain ⟨ck, hck⟩ : ∃ z, z = (g5 k).cap := ⟨_, rfl⟩
          obtain ⟨fk, hfk⟩ : ∃ z, z = (g5 k).f := ⟨_, rfl⟩
          have HRK := Lib.hid c_HRK
          have HRZ := Lib.hid c_HRK
          rw [← hrk, ← hlk, ← hfk] at HRK
          rw [← hak, ← hlk, ← hck, ← hfk] at PX
          rw [← hrk] at e0 e1 e2 e3
          rw [← hak, ← hlk, ← hck] at e4
          clear hrk hak hlk hck hfk c_HRK
          go_wp2_with (go_at_call 27; refine (ref10_RightIs rk ak lk ck fk _ true (Lib.hid (PX.out.grows (by repeat (first | exact Grows.refl _ | apply Grows.grow | apply Grows.alloc | apply Grows.drew)))) HRK).mono ?_; rintro e w' ⟨rfl, hgw⟩; first | (obtain ⟨gw, rfl⟩ := grows_of_grow hgw) | (obtain ⟨gw, rfl⟩ := hgw))
          go_roundw
          case rel =>
            refine ⟨k + 1, by omega, by go_num, hh.out.1.trans (by repeat (first | exact Grows.refl _ | apply Grows.grow | apply Grows.alloc | apply Grows.drew)), fun i hi => ?_⟩
            by_cases e : i = k
            · subst e; exact HRZ.out
            · exact hh.out.2 i (by omega)
          case measure => simp [intOf]; omega
      · obtain rfl : ll = k := by omega
        obtain rfl : true = c := by
          rw [HR.out, HRB.out, decide_eq_true hh.out.2]; rfl
        clear HR
        go_wp2
        go_ret
        exact ⟨rfl, GR.out.trans (by repeat (first | exact Grows.refl _ | apply Grows.grow | apply Grows.alloc | apply Grows.drew))⟩
  have HRB : Hid (radB op p = true) := decide_eq_true ⟨fun h => absurd h c24, fun h => absurd h c11⟩
  by_cases c1 : op < 2
  case pos =>
    clear c24
    go_enter Tryd.func8, Tryd.ntmps8
    go_wp2_with (first
      | (go_at_call 26; (with_reducible refine Calls.mono (HONE.out _ ?_) ?_); (exact (by repeat (first | exact Grows.refl _ | apply Grows.grow | apply Grows.alloc | apply Grows.drew))); rintro e w' ⟨ko, rfl, hgw, ho⟩; (obtain rfl : ko = 0 := by rw [C1.out] at ho; simpa using ho); clear ho; (first | (obtain ⟨gw, rfl⟩ := grows_of_grow hgw) | (obtain ⟨gw, rfl⟩ := hgw)))
      | (go_at_call 14; (with_reducible refine Calls.mono (ref08_FineIs _ _ _ _ _ _ C4) ?_); rintro e w' ⟨rfl, hgw⟩; first | (obtain ⟨gx, rfl⟩ := grows_of_grow hgw) | (obtain ⟨gx, rfl⟩ := hgw)))
    go_loopw [7] (fun i wr => ∃ k : Nat, k ≤ ll ∧ i = .int .i64 k ∧ Hid (Grows w wr ∧ ∀ i, i < k → right10 (g5 i).len (g5 i).r (g5 i).f = true)) (fun i _ => ll - (intOf i).toNat)
    case atStart => exact ⟨0, by omega, rfl, (by repeat (first | exact Grows.refl _ | apply Grows.grow | apply Grows.alloc | apply Grows.drew)), fun i hi => by omega⟩
    case round =>
      obtain ⟨k, hk, rfl, hh⟩ := hrel
      have GR : Hid (Grows w wr) := hh.out.1
      by_cases hlt : k < ll
      · obtain ⟨b', off', rfl, hb', e0, e1, e2, e3, e4⟩ := (hb1.out.grows GR.out).at hlt
        have PX := Lib.hid ((hb1.out.grows GR.out).pix k hlt)
        cases c_HRK : right10 (g5 k).len (g5 k).r (g5 k).f
        · obtain rfl : false = c := by
            rw [HR.out, show decide (∀ i, i < ll → right10 (g5 i).len (g5 i).r (g5 i).f = true) = false from decide_eq_false (fun h => by have := h k hlt; rw [c_HRK] at this; cases this), Bool.and_false]
          obtain ⟨rk, hrk⟩ : ∃ z, z = (g5 k).r := ⟨_, rfl⟩
          obtain ⟨ak, hak⟩ : ∃ z, z = (g5 k).a := ⟨_, rfl⟩
          obtain ⟨lk, hlk⟩ : ∃ z, z = (g5 k).len := ⟨_, rfl⟩
          obtain ⟨ck, hck⟩ : ∃ z, z = (g5 k).cap := ⟨_, rfl⟩
          obtain ⟨fk, hfk⟩ : ∃ z, z = (g5 k).f := ⟨_, rfl⟩
          have HRK := Lib.hid c_HRK
          rw [← hrk, ← hlk, ← hfk] at HRK
          rw [← hak, ← hlk, ← hck, ← hfk] at PX
          rw [← hrk] at e0 e1 e2 e3
          rw [← hak, ← hlk, ← hck] at e4
          clear hrk hak hlk hck hfk c_HRK HR
          go_wp2_with (go_at_call 27; refine (ref10_RightIs rk ak lk ck fk _ false (Lib.hid (PX.out.grows (by repeat (first | exact Grows.refl _ | apply Grows.grow | apply Grows.alloc | apply Grows.drew)))) HRK).mono ?_; rintro e w' ⟨rfl, hgw⟩; first | (obtain ⟨gw, rfl⟩ := grows_of_grow hgw) | (obtain ⟨gw, rfl⟩ := hgw))
          go_ret
          exact ⟨rfl, GR.out.trans (by repeat (first | exact Grows.refl _ | apply Grows.grow | apply Grows.alloc | apply Grows.drew))⟩
        · obtain ⟨rk, hrk⟩ : ∃ z, z = (g5 k).r := ⟨_, rfl⟩
          obtain ⟨ak, hak⟩ : ∃ z, z = (g5 k).a := ⟨_, rfl⟩
          obtain ⟨lk, hlk⟩ : ∃ z, z = (g5 k).len := ⟨_, rfl⟩
          obtain ⟨ck, hck⟩ : ∃ z, z = (g5 k).cap := ⟨_, rfl⟩
          obtain ⟨fk, hfk⟩ : ∃ z, z = (g5 k).f := ⟨_, rfl⟩
          have HRK := Lib.hid c_HRK
          have HRZ := Lib.hid c_HRK
          rw [← hrk, ← hlk, ← hfk] at HRK
          rw [← hak, ← hlk, ← hck, ← hfk] at PX
          rw [← hrk] at e0 e1 e2 e3
          rw [← hak, ← hlk, ← hck] at e4
          clear hrk hak hlk hck hfk c_HRK
          go_wp2_with (go_at_call 27; refine (ref10_RightIs rk ak lk ck fk _ true (Lib.hid (PX.out.grows (by repeat (first | exact Grows.refl _ | apply Grows.grow | apply Grows.alloc | apply Grows.drew)))) HRK).mono ?_; rintro e w' ⟨rfl, hgw⟩; first | (obtain ⟨gw, rfl⟩ := grows_of_grow hgw) | (obtain ⟨gw, rfl⟩ := hgw))
          go_roundw
          case rel =>
            refine ⟨k + 1, by omega, by go_num, hh.out.1.trans (by repeat (first | exact Grows.refl _ | apply Grows.grow | apply Grows.alloc | apply Grows.drew)), fun i hi => ?_⟩
            by_cases e : i = k
            · subst e; exact HRZ.out
            · exact hh.out.2 i (by omega)
          case measure => simp [intOf]; omega
      · obtain rfl : ll = k := by omega
        obtain rfl : true = c := by
          rw [HR.out, HRB.out, decide_eq_true hh.out.2]; rfl
        clear HR
        go_wp2
        go_ret
        exact ⟨rfl, GR.out.trans (by repeat (first | exact Grows.refl _ | apply Grows.grow | apply Grows.alloc | apply Grows.drew))⟩
  have c5 : 4 < op := by omega
  have c2 : 2 ≤ op := by omega
  clear c24
  go_enter Tryd.func8, Tryd.ntmps8
  go_wp2_with (first
    | (go_at_call 26; (with_reducible refine Calls.mono (HONE.out _ ?_) ?_); (exact (by repeat (first | exact Grows.refl _ | apply Grows.grow | apply Grows.alloc | apply Grows.drew))); rintro e w' ⟨ko, rfl, hgw, ho⟩; (obtain rfl : ko = 0 := by rw [C1.out] at ho; simpa using ho); clear ho; (first | (obtain ⟨gw, rfl⟩ := grows_of_grow hgw) | (obtain ⟨gw, rfl⟩ := hgw)))
    | (go_at_call 14; (with_reducible refine Calls.mono (ref08_FineIs _ _ _ _ _ _ C4) ?_); rintro e w' ⟨rfl, hgw⟩; first | (obtain ⟨gx, rfl⟩ := grows_of_grow hgw) | (obtain ⟨gx, rfl⟩ := hgw)))
  go_loopw [7] (fun i wr => ∃ k : Nat, k ≤ ll ∧ i = .int .i64 k ∧ Hid (Grows w wr ∧ ∀ i, i < k → right10 (g5 i).len (g5 i).r (g5 i).f = true)) (fun i _ => ll - (intOf i).toNat)
  case atStart => exact ⟨0, by omega, rfl, (by repeat (first | exact Grows.refl _ | apply Grows.grow | apply Grows.alloc | apply Grows.drew)), fun i hi => by omega⟩
  case round =>
    obtain ⟨k, hk, rfl, hh⟩ := hrel
    have GR : Hid (Grows w wr) := hh.out.1
    by_cases hlt : k < ll
    · obtain ⟨b', off', rfl, hb', e0, e1, e2, e3, e4⟩ := (hb1.out.grows GR.out).at hlt
      have PX := Lib.hid ((hb1.out.grows GR.out).pix k hlt)
      cases c_HRK : right10 (g5 k).len (g5 k).r (g5 k).f
      · obtain rfl : false = c := by
          rw [HR.out, show decide (∀ i, i < ll → right10 (g5 i).len (g5 i).r (g5 i).f = true) = false from decide_eq_false (fun h => by have := h k hlt; rw [c_HRK] at this; cases this), Bool.and_false]
        obtain ⟨rk, hrk⟩ : ∃ z, z = (g5 k).r := ⟨_, rfl⟩
        obtain ⟨ak, hak⟩ : ∃ z, z = (g5 k).a := ⟨_, rfl⟩
        obtain ⟨lk, hlk⟩ : ∃ z, z = (g5 k).len := ⟨_, rfl⟩
        obtain ⟨ck, hck⟩ : ∃ z, z = (g5 k).cap := ⟨_, rfl⟩
        obtain ⟨fk, hfk⟩ : ∃ z, z = (g5 k).f := ⟨_, rfl⟩
        have HRK := Lib.hid c_HRK
        rw [← hrk, ← hlk, ← hfk] at HRK
        rw [← hak, ← hlk, ← hck, ← hfk] at PX
        rw [← hrk] at e0 e1 e2 e3
        rw [← hak, ← hlk, ← hck] at e4
        clear hrk hak hlk hck hfk c_HRK HR
        go_wp2_with (go_at_call 27; refine (ref10_RightIs rk ak lk ck fk _ false (Lib.hid (PX.out.grows (by repeat (first | exact Grows.refl _ | apply Grows.grow | apply Grows.alloc | apply Grows.drew)))) HRK).mono ?_; rintro e w' ⟨rfl, hgw⟩; first | (obtain ⟨gw, rfl⟩ := grows_of_grow hgw) | (obtain ⟨gw, rfl⟩ := hgw))
        go_ret
        exact ⟨rfl, GR.out.trans (by repeat (first | exact Grows.refl _ | apply Grows.grow | apply Grows.alloc | apply Grows.drew))⟩
      · obtain ⟨rk, hrk⟩ : ∃ z, z = (g5 k).r := ⟨_, rfl⟩
        obtain ⟨ak, hak⟩ : ∃ z, z = (g5 k).a := ⟨_, rfl⟩
        obtain ⟨lk, hlk⟩ : ∃ z, z = (g5 k).len := ⟨_, rfl⟩
        obtain ⟨ck, hck⟩ : ∃ z, z = (g5 k).cap := ⟨_, rfl⟩
        obtain ⟨fk, hfk⟩ : ∃ z, z = (g5 k).f := ⟨_, rfl⟩
        have HRK := Lib.hid c_HRK
        have HRZ := Lib.hid c_HRK
        rw [← hrk, ← hlk, ← hfk] at HRK
        rw [← hak, ← hlk, ← hck, ← hfk] at PX
        rw [← hrk] at e0 e1 e2 e3
        rw [← hak, ← hlk, ← hck] at e4
        clear hrk hak hlk hck hfk c_HRK
        go_wp2_with (go_at_call 27; refine (ref10_RightIs rk ak lk ck fk _ true (Lib.hid (PX.out.grows (by repeat (first | exact Grows.refl _ | apply Grows.grow | apply Grows.alloc | apply Grows.drew)))) HRK).mono ?_; rintro e w' ⟨rfl, hgw⟩; first | (obtain ⟨gw, rfl⟩ := grows_of_grow hgw) | (obtain ⟨gw, rfl⟩ := hgw))
        go_roundw
        case rel =>
          refine ⟨k + 1, by omega, by go_num, hh.out.1.trans (by repeat (first | exact Grows.refl _ | apply Grows.grow | apply Grows.alloc | apply Grows.drew)), fun i hi => ?_⟩
          by_cases e : i = k
          · subst e; exact HRZ.out
          · exact hh.out.2 i (by omega)
        case measure => simp [intOf]; omega
    · obtain rfl : ll = k := by omega
      obtain rfl : true = c := by
        rw [HR.out, HRB.out, decide_eq_true hh.out.2]; rfl
      clear HR
      go_wp2
      go_ret
      exact ⟨rfl, GR.out.trans (by repeat (first | exact Grows.refl _ | apply Grows.grow | apply Grows.alloc | apply Grows.drew))⟩
end Go.Proofs.YtklcmlbkhjcaiaaDoor
/- Chapter 15's laws: a node of a Flood. -/


namespace Go.Proofs.YtklcmlbkhjcaiaaDoor
open Go.RowKit
set_option linter.unusedVariables false

theorem int_parts : (Tryd.prog.info? 3).map (fun i => (i.zero, i.size, i.bytes)) = some (some (.int .i64 0), 1, 8) := by kernel_rfl
theorem node_info : (Tryd.prog.info? 24).map (·.size) = some 3 := by kernel_rfl
/-- A list of numbers of the call's own. -/
theorem ints_own {w : World} {base n : Nat} {v : Value} {xs : List Value} {f : Nat → Int} (h : w.ownsRow base 3 1 v n xs) (h0 : 0 < n) (hf : ∀ i, i < n → xs[i]? = some (.int .i64 (f i))) (hw : ∀ i, i < n → -9223372036854775808 ≤ f i ∧ f i ≤ 9223372036854775807) :
    ∃ g cap, v = .slice (some ⟨g, 0, none⟩) n cap ∧ base ≤ g ∧ IsInts w (some ⟨g, 0, none⟩) n cap f := by
  rcases h.2 with ⟨hv, hx⟩ | ⟨g, c', cur, hv, hB, hg, hn, hc, hsz, htk⟩
  · have := h.1
    rw [hx] at this
    simp at this
    omega
  · subst hv
    have hlt := (Array.getElem?_eq_some_iff.1 hg).1
    refine ⟨g, c', rfl, hB, hn, by unfold maxLen at hc; omega, hw, fun _ => ⟨g, 0, rfl, hlt, fun i hi => ?_⟩⟩
    have e := hf i hi
    have hl : xs.length = n := by have := h.1; omega
    rw [← htk, List.getElem?_take_of_lt (by omega), Array.getElem?_toList] at e
    rw [cell_of_row w g _ cur _ _ hg, Nat.zero_add]
    exact e
theorem IsInts.far {w : World} {g off len cap : Nat} {f : Nat → Int} (h : IsInts w (some ⟨g, off, none⟩) len cap f) {p : Addr} (hp : g ≠ p.block) (u : Value) : IsInts (w.setCell p u) (some ⟨g, off, none⟩) len cap f :=
  ⟨h.le, h.most, h.wf, fun h0 => by
    obtain ⟨b, o, e, hb, hc⟩ := h.cells h0
    cases e
    refine ⟨g, off, rfl, by simpa [World.setCell] using hb, fun i hi => ?_⟩
    exact (World.cell?_of_block (a := ⟨g, off + i, none⟩) (Below.heap_setCell w p u g hp)).trans (hc i hi)⟩
/-- A node of a Flood: its numbers. -/
def fl8 (v0 v1 v2 v3 : Int) : Nat → Int := fun i => ([v0, v1, v2, v3, 0, 0, 1, 1] : List Int).getD i 0
set_option maxRecDepth 100000 in
set_option maxHeartbeats 3200000 in
theorem law15_flood (n : Nat) (v0 v1 v2 v3 : Int) (w : World) (h : Hid (Blk w n 3 #[.int .i64 v0, .int .i64 v1, .int .i64 v2, .int .i64 v3])) (b0 : 0 ≤ v0 ∧ v0 ≤ 255) (b1 : 0 ≤ v1 ∧ v1 ≤ 255) (b2 : 0 ≤ v2 ∧ v2 ≤ 255) (b3 : 0 ≤ v3 ∧ v3 ≤ 255) :
    Calls Tryd.prog 24 #[.slice (some ⟨n, 0, none⟩) 4 4] w fun e w' => ∃ g cap, e = .returned (.agg #[.int .i64 6, .slice none 0 0, .slice (some ⟨g, 0, none⟩) 8 cap]) ∧ Grows w w' ∧ Hid (IsInts w' (some ⟨g, 0, none⟩) 8 cap (fl8 v0 v1 v2 v3)) := by
  have ln := h.out.lt
  obtain ⟨i, hi, hz, hsz, hby⟩ := info_parts int_parts
  have HI := Lib.hid hi
  have HF : Hid (∀ j, j < 8 → ([.int .i64 v0, .int .i64 v1, .int .i64 v2, .int .i64 v3] ++ [.int .i64 0, .int .i64 0, .int .i64 1, .int .i64 1] : List Value)[j]? = some (.int .i64 (fl8 v0 v1 v2 v3 j))) := fun j hj => by
    have : j = 0 ∨ j = 1 ∨ j = 2 ∨ j = 3 ∨ j = 4 ∨ j = 5 ∨ j = 6 ∨ j = 7 := by omega
    rcases this with rfl | rfl | rfl | rfl | rfl | rfl | rfl | rfl <;> rfl
  have HW : Hid (∀ j, j < 8 → -9223372036854775808 ≤ fl8 v0 v1 v2 v3 j ∧ fl8 v0 v1 v2 v3 j ≤ 9223372036854775807) := fun j hj => by
    have : j = 0 ∨ j = 1 ∨ j = 2 ∨ j = 3 ∨ j = 4 ∨ j = 5 ∨ j = 6 ∨ j = 7 := by omega
    rcases this with rfl | rfl | rfl | rfl | rfl | rfl | rfl | rfl <;> simp [fl8] <;> omega
  go_enter Tryd.func24, Tryd.ntmps24
  go_wp2_with ((at_builtin; refine wpList_append_grows _ rfl (.tmp 3) (.tmp 4) 22 rfl 3 i _ 1 8 Tryd.underlying22 hi hz hsz hby rfl (by omega) (some ⟨n, 0, none⟩) 4 4 [.int .i64 v0, .int .i64 v1, .int .i64 v2, .int .i64 v3] rfl (fun e => by cases e) rfl (fun b hb j u hu => by { injection hb with hb; subst hb; rw [Go.Addr.add_mid, Nat.zero_add, (Blk.grows h.out (by repeat (first | exact Grows.refl _ | apply Grows.grow | apply Grows.alloc | apply Grows.drew))).cell]; simpa using hu }) ⟨w.heap.size + 1, 0, none⟩ 4 4 [.int .i64 0, .int .i64 0, .int .i64 1, .int .i64 1] rfl rfl (fun j u hu => by { rw [Go.Addr.add_mid, Nat.zero_add]; refine ((Blk.cell (t := 3) (cs := #[.int .i64 0, .int .i64 0, .int .i64 1, .int .i64 1]) (by unfold Blk; repeat (first | exact blk_at _ _ _ (by first | omega | (simp; done) | (simp; omega)) | refine (blk_past _ _ _ (by first | omega | (simp; done) | (simp; omega))).trans ?_ | refine (heap_grow _ _ _ (by first | omega | (simp; done) | (simp; omega))).trans ?_ | refine (blk_drew _ _).trans ?_)) j).trans ?_); simpa using hu }) (fun u hu => by { simp at hu; rcases hu with rfl | rfl | rfl | rfl <;> rfl }) (by omega) (by unfold maxLen; omega) (by omega) ?_; intro v' w1 h1 h2; obtain ⟨g, cap, rfl, hg, hI⟩ := ints_own h1 (by omega) HF.out HW.out; have B : Blk w1 w.heap.size 24 #[.int .i64 0, .slice none 0 0, .slice none 0 0] := (by { refine Blk.grown ?_ h2 (fun e => by cases e); exact (by unfold Blk; repeat (first | exact blk_at _ _ _ (by first | omega | (simp; done) | (simp; omega)) | refine (blk_past _ _ _ (by first | omega | (simp; done) | (simp; omega))).trans ?_ | refine (heap_grow _ _ _ (by first | omega | (simp; done) | (simp; omega))).trans ?_ | refine (blk_drew _ _).trans ?_)) }); have GG := Lib.hid (show Grows w w1 from Grows.grown (w1 := _) (by repeat (first | exact Grows.refl _ | apply Grows.grow | apply Grows.alloc | apply Grows.drew)) h2 (fun k hk => by cases hk)); have lb := B.lt; have c0 := B.cell 0; have c1 := B.cell 1; have c2 := B.cell 2; have cf := B.frozen; simp at c0 c1 c2 hg; replace B := Lib.hid B; replace hI := Lib.hid hI; clear h1 h2))
  refine bodyPost_ret (results_cell_row rfl _ _ _ 24 #[.int .i64 6, .slice none 0 0, .slice (some ⟨g, 0, none⟩) 8 cap] (0, 0) _ rfl ?_ Tryd.underlying24 rfl node_info) rfl ⟨g, cap, rfl, ?_, ?_⟩
  · exact (((B.out.set_ 0 _).set_ 1 _).set_ 2 _)
  · exact Grows.setCell (Grows.setCell (Grows.setCell GG.out (Nat.le_refl _) _) (Nat.le_refl _) _) (Nat.le_refl _) _
  · exact Lib.hid (((hI.out.far (p := ⟨w.heap.size, 0, none⟩) (by show g ≠ w.heap.size; omega) _).far (p := ⟨w.heap.size, 1, none⟩) (by show g ≠ w.heap.size; omega) _).far (p := ⟨w.heap.size, 2, none⟩) (by show g ≠ w.heap.size; omega) _)
end Go.Proofs.YtklcmlbkhjcaiaaDoor
