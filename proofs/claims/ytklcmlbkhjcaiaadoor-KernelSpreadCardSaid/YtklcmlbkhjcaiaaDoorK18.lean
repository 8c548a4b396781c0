/- Arguments opened: rows of buffers. -/
import Derived.Test.YtklcmlbkhjcaiaaDoorK8
import Derived.Test.YtklcmlbkhjcaiaaDoorK12
import Derived.Test.YtklcmlbkhjcaiaaDoorK11
import Derived.LaidMore
import Derived.Stop.Joined
import Derived.Stop.LaidErr



namespace Go.Proofs.YtklcmlbkhjcaiaaDoor
open Go.ChangeShapes Go.WideShapes Go.ChangeAt Go.RowKit Go.Joins Go.Deep
set_option linter.unusedVariables false

section
variable {H : Type} {enc : TypeId × Value → H} {P : Program} {w : World} {base : Nat} {spare : Nat → Bool} {held : Bool}

/-- The cells of a buffer that reads. -/
theorem trod_buf {t : TypeId} {f0 f1 g0 g1 g2 g3 : Field} {tp e : TypeId} {fuel : Nat} {c0 c1 c2 c3 c4 : Value} {x : DataW H × List MemPlace} (ht : P.underlying t = some (.struct #[f0, f1])) (o0 : f0.offset = 0) (o1 : f1.offset = 4) (k0 : P.cellsOf f0.type = 4) (k1 : P.cellsOf f1.type = 1)
    (hr : P.underlying f0.type = some (.struct #[g0, g1, g2, g3])) (hone : oneCellFields P #[g0, g1, g2, g3] = true) (hk0 : P.underlying g0.type = some (.int .i64)) (hk1 : P.underlying g1.type = some (.int .i64)) (hk2 : P.underlying g2.type = some (.int .i64)) (hk3 : P.underlying g3.type = some (.int .i64))
    (hs : P.underlying f1.type = some (.slice tp)) (hp : P.underlying tp = some (.array 4 e)) (he : P.underlying e = some (.int .u8)) (hce : P.cellsOf e = 1) (hCp : P.cellsOf tp = 4)
    (h : DataW.trod enc P w base spare held fuel t [c0, c1, c2, c3, c4] = some x) :
    ∃ b : Bf, c0 = .int .i64 b.r.x0 ∧ c1 = .int .i64 b.r.y0 ∧ c2 = .int .i64 b.r.x1 ∧ c3 = .int .i64 b.r.y1 ∧ c4 = .slice b.a b.len b.cap ∧ IsPix w b.a b.len b.cap b.f := by
  obtain ⟨xs, n, _, hx, _, hlen, hg⟩ := DataW.trod_struct ht h
  match xs, hlen with
  | [y0, y1], _ =>
    have q0 : DataW.trod enc P w base spare held n f0.type [c0, c1, c2, c3] = some y0 := by simpa [o0, k0] using hg 0 f0 rfl
    have q1 : DataW.trod enc P w base spare held n f1.type [c4] = some y1 := by simpa [o1, k1] using hg 1 f1 rfl
    obtain ⟨x0, z0, x1, z1, rfl, rfl, rfl, rfl, w0, w1, w2, w3⟩ := trod_rect hr hone hk0 hk1 hk2 hk3 q0
    obtain ⟨a, len, cap, f, rfl, hpix⟩ := trod_pixs hs hp he hce hCp q1
    exact ⟨⟨⟨x0, z0, x1, z1⟩, a, len, cap, f⟩, rfl, rfl, rfl, rfl, rfl, hpix⟩

theorem open_bufs {r : Reach} {b0 : Nat} {s t : TypeId} {f0 f1 g0 g1 g2 g3 : Field} {tp e : TypeId} {v : Value} {d : DataW H} {p : List MemPlace} (hS : P.underlying s = some (.slice t)) (ht : P.underlying t = some (.struct #[f0, f1])) (o0 : f0.offset = 0) (o1 : f1.offset = 4) (k0 : P.cellsOf f0.type = 4) (k1 : P.cellsOf f1.type = 1) (hC : P.cellsOf t = 5)
    (hr : P.underlying f0.type = some (.struct #[g0, g1, g2, g3])) (hone : oneCellFields P #[g0, g1, g2, g3] = true) (hk0 : P.underlying g0.type = some (.int .i64)) (hk1 : P.underlying g1.type = some (.int .i64)) (hk2 : P.underlying g2.type = some (.int .i64)) (hk3 : P.underlying g3.type = some (.int .i64))
    (hs : P.underlying f1.type = some (.slice tp)) (hp : P.underlying tp = some (.array 4 e)) (he : P.underlying e = some (.int .u8)) (hce : P.cellsOf e = 1) (hCp : P.cellsOf tp = 4)
    (hv : Value.okWide P w r b0 s v) (h : DataW.Trod enc P w base spare held s v d p) :
    ∃ (a : Option Addr) (len cap : Nat) (g : Nat → Bf), v = .slice a len cap ∧ IsBufs w a len cap g := by
  obtain ⟨a', len', cap', rfl⟩ := okWide_slice hS hv
  obtain ⟨fuel, hf⟩ := h
  rcases open_slice hS hf with ⟨hv, _⟩ | ⟨a, len, cap, m, n, D, Pl, hv, _, hle, hm, hmm, _, hi⟩
  · simp [Value.cells] at hv
    obtain ⟨rfl, rfl, rfl⟩ := hv
    exact ⟨none, 0, 0, fun _ => ⟨zeroR, none, 0, 0, fun _ => noP⟩, rfl, IsBufs.nil w _⟩
  · simp [Value.cells] at hv
    obtain ⟨rfl, rfl, rfl⟩ := hv
    have hlm : len' ≤ m := by rw [hmm]; split <;> omega
    have hx : ∀ i, i < len' → ∃ b : Bf, w.cell? ((a.add (i * 5)).add 0) = some (.int .i64 b.r.x0) ∧ w.cell? ((a.add (i * 5)).add 1) = some (.int .i64 b.r.y0) ∧ w.cell? ((a.add (i * 5)).add 2) = some (.int .i64 b.r.x1) ∧ w.cell? ((a.add (i * 5)).add 3) = some (.int .i64 b.r.y1) ∧ w.cell? ((a.add (i * 5)).add 4) = some (.slice b.a b.len b.cap) ∧ IsPix w b.a b.len b.cap b.f := fun i hil => by
      obtain ⟨cs, hc, htr⟩ := hi i (by omega)
      rw [hC] at hc
      obtain ⟨_, hl, hat⟩ := World.cells?_some hc
      match cs, hl with
      | [c0, c1, c2, c3, c4], _ =>
        obtain ⟨b, e0, e1, e2, e3, e4, hpx⟩ := trod_buf ht o0 o1 k0 k1 hr hone hk0 hk1 hk2 hk3 hs hp he hce hCp htr
        exact ⟨b, by rw [hat 0 (by omega)]; simp [e0], by rw [hat 1 (by omega)]; simp [e1], by rw [hat 2 (by omega)]; simp [e2], by rw [hat 3 (by omega)]; simp [e3], by rw [hat 4 (by omega)]; simp [e4], hpx⟩
    obtain ⟨f, hf⟩ : ∃ f : Nat → Bf, ∀ i, i < len' → w.cell? ((a.add (i * 5)).add 0) = some (.int .i64 (f i).r.x0) ∧ w.cell? ((a.add (i * 5)).add 1) = some (.int .i64 (f i).r.y0) ∧ w.cell? ((a.add (i * 5)).add 2) = some (.int .i64 (f i).r.x1) ∧ w.cell? ((a.add (i * 5)).add 3) = some (.int .i64 (f i).r.y1) ∧ w.cell? ((a.add (i * 5)).add 4) = some (.slice (f i).a (f i).len (f i).cap) ∧ IsPix w (f i).a (f i).len (f i).cap (f i).f := by
      refine ⟨fun i => if hil : i < len' then Classical.choose (hx i hil) else ⟨zeroR, none, 0, 0, fun _ => noP⟩, fun i hil => ?_⟩
      simp only [hil, dif_pos]
      exact Classical.choose_spec (hx i hil)
    refine ⟨some a, len', cap', f, rfl, hle, by unfold maxLen at hm; omega, fun i hil => (hf i hil).2.2.2.2.2, fun h0 => ?_⟩
    have c0 := (hf 0 h0).1
    obtain ⟨b, off, sp⟩ := a
    have hsp : sp = none := by
      cases sp with
      | none => rfl
      | some j => simp [Addr.add, World.cell?] at c0; split at c0 <;> simp_all
    subst hsp
    refine ⟨b, off, rfl, ?_, fun i hil => ?_⟩
    · by_cases hb : b < w.heap.size
      · exact hb
      · simp [Addr.add, World.cell?, hb] at c0
    · have := hf i hil
      simp only [Go.Addr.add_mid, Nat.add_zero] at this
      exact ⟨this.1, this.2.1, this.2.2.1, this.2.2.2.1, this.2.2.2.2.1⟩
end
end Go.Proofs.YtklcmlbkhjcaiaaDoor
/- Arguments opened: nodes; the tables that the reference of layer 12 reads, out of what the program's text lays. -/





namespace Go.Proofs.YtklcmlbkhjcaiaaDoor
open Go.ChangeShapes Go.WideShapes Go.ChangeAt Go.RowKit Go.Joins Go.Deep
set_option linter.unusedVariables false

section
variable {H : Type} {enc : TypeId × Value → H} {P : Program} {w : World} {base : Nat} {spare : Nat → Bool} {held : Bool}
/-- A list of numbers that reads. -/
theorem trod_nums {t e : TypeId} {fuel : Nat} {v : Value} {x : DataW H × List MemPlace} (ht : P.underlying t = some (.slice e)) (he : P.underlying e = some (.int .i64)) (hc : P.cellsOf e = 1)
    (h : DataW.trod enc P w base spare held fuel t [v] = some x) : ∃ a len cap f, v = .slice a len cap ∧ IsInts w a len cap f := by
  rcases open_ints ht he hc h with ⟨hv, _⟩ | ⟨a, len, cap, zs, hv, _, hle, hm, hz, _, hcell, hwf⟩
  · exact ⟨none, 0, 0, fun _ => 0, by simpa using hv, IsInts.nil w _⟩
  · have hlz : len ≤ zs.length := by rw [hz]; split <;> omega
    refine ⟨some a, len, cap, fun i => zs.getD i 0, by simpa using hv, hle, by unfold maxLen at hm; omega, fun i hi => ?_, fun h0 => ?_⟩
    · have : zs.getD i 0 ∈ zs := by
        rw [List.getD_eq_getElem?_getD, List.getElem?_eq_getElem (by omega)]
        simp
      exact i64_wf (hwf _ this)
    · have c0 := hcell 0 (by omega)
      obtain ⟨b, off, sp⟩ := a
      have hsp : sp = none := by
        cases sp with
        | none => rfl
        | some j => simp [Addr.add, World.cell?] at c0; split at c0 <;> simp_all
      subst hsp
      refine ⟨b, off, rfl, ?_, fun i hi => ?_⟩
      · by_cases hb : b < w.heap.size
        · exact hb
        · simp [Addr.add, World.cell?, hb] at c0
      · have := hcell i (by omega)
        rw [Go.Addr.add_mid] at this
        exact this
theorem open_node {r : Reach} {b0 : Nat} {t : TypeId} {f0 f1 f2 : Field} {e : TypeId} {v : Value} {d : DataW H} {p : List MemPlace} (ht : P.underlying t = some (.struct #[f0, f1, f2])) (hone : oneCellFields P #[f0, f1, f2] = true) (hC : P.cellsOf t = 3)
    (hk0 : P.underlying f0.type = some (.int .i64)) (hk1 : P.underlying f1.type = some (.slice e)) (hk2 : P.underlying f2.type = some (.slice e)) (he : P.underlying e = some (.int .i64)) (hc : P.cellsOf e = 1)
    (hv : Value.okWide P w r b0 t v) (h : DataW.Trod enc P w base spare held t v d p) :
    ∃ (op : Int) (ia : Option Addr) (il ic : Nat) (is : Nat → Int) (pa : Option Addr) (pl pc : Nat) (ps : Nat → Int), v = .agg #[.int .i64 op, .slice ia il ic, .slice pa pl pc] ∧ (-9223372036854775808 ≤ op ∧ op ≤ 9223372036854775807) ∧ IsInts w ia il ic is ∧ IsInts w pa pl pc ps := by
  obtain ⟨v0, v1, v2, y0, y1, y2, n, rfl, _, _, h0, h1, h2⟩ := Go.Joins.open_agg3 ht hone hC hv h
  obtain ⟨op, e0, _, w0⟩ := DataW.trod_int hk0 h0
  obtain ⟨ia, il, ic, is, rfl, hi⟩ := trod_nums hk1 he hc h1
  obtain ⟨pa, pl, pc, ps, rfl, hp⟩ := trod_nums hk2 he hc h2
  simp at e0
  subst e0
  exact ⟨op, ia, il, ic, is, pa, pl, pc, ps, rfl, i64_wf w0, hi, hp⟩
end
/-- What a laid table of thirteen numbers holds. -/
theorem tab_of_laid {P : Program} {W : World} {name : String} {zs : List Int} {rest : List (String × DataW Unit)} {g : Nat} {t ti : TypeId} (h : laidMet P ((name, .agg (zs.map fun z => .lit (.int .i64 z))) :: rest) W)
    (hg : P.globalNamed name = some g) (ht : (P.globals[g]?).map (·.type) = some t) (hu : P.underlying t = some (.array 13 ti)) (hi : P.underlying ti = some (.int .i64)) (hc : P.cellsOf ti = 1) :
    g < W.heap.size ∧ ∀ i, i < 13 → W.cell? ⟨g, i, none⟩ = some (.int .i64 (zs.getD i 0)) := by
  obtain ⟨ps, ⟨g0, t0, cs, f0, p0, q0, hg0, ht0, hv, hd, _, _⟩, _, _⟩ := h
  obtain rfl := Option.some.inj (hg.symm.trans hg0)
  obtain rfl := Option.some.inj (ht.symm.trans ht0)
  obtain ⟨xs, m, rfl, hx, hlen, hn, hel⟩ := DataW.trod_array hu hd
  have hzs : xs.map (·.1) = zs.map fun z => (DataW.lit (.int .i64 z) : DataW Unit) := by
    have := congrArg Prod.fst hx
    simpa using this.symm
  have hcell : ∀ i, i < 13 → W.cell? ⟨g, i, none⟩ = some (.int .i64 (zs.getD i 0)) := fun i hi13 => by
    have k := hel i hi13
    have hxi : i < xs.length := by omega
    rw [List.getElem?_eq_getElem hxi] at k
    rw [hc] at k
    obtain ⟨z, e1, e2, _⟩ := DataW.trod_int hi k
    have hzi : xs[i].1 = DataW.lit (.int .i64 (zs.getD i 0)) := by
      have h1 : (xs.map (·.1))[i]? = some xs[i].1 := by rw [List.getElem?_map, List.getElem?_eq_getElem hxi]; rfl
      have hl : zs.length = xs.length := by have := congrArg List.length hzs; simpa using this.symm
      rw [hzs, List.getElem?_map, List.getElem?_eq_getElem (by omega)] at h1
      have h2 : zs.getD i 0 = zs[i]'(by omega) := by rw [List.getD_eq_getElem?_getD, List.getElem?_eq_getElem (by omega)]; rfl
      rw [h2]
      simpa using h1.symm
    have hz : z = zs.getD i 0 := by
      have : xs[i].1 = DataW.lit (.int .i64 z) := by rw [e2]
      rw [hzi] at this
      simpa using this.symm
    rw [World.var?_cell hg hv i, ← hz]
    have e3 : (cs.toList.drop (i * 1))[0]? = some (.int .i64 z) := by
      have := congrArg (fun l => l[0]?) e1
      simpa using this
    simpa using e3
  refine ⟨?_, hcell⟩
  have := hcell 0 (by omega)
  by_cases hb : g < W.heap.size
  · exact hb
  · simp [World.cell?, hb] at this
theorem tabs_of_laid {W : World} (h : laidMet Tryd.prog [("gouache/gouacheref12.least", .agg (lstT.map fun z => .lit (.int .i64 z))), ("gouache/gouacheref12.most", .agg (mstT.map fun z => .lit (.int .i64 z))), ("gouache/gouacheref12.params", .agg (prmT.map fun z => .lit (.int .i64 z)))] W) : Tabs W := by
  have k1 := tab_of_laid h (g := 0) (by kernel_rfl) (t := 94) (by kernel_rfl) Tryd.underlying94 Tryd.underlying3 (by kernel_rfl)
  have k2 := tab_of_laid h.tail (g := 1) (by kernel_rfl) (t := 94) (by kernel_rfl) Tryd.underlying94 Tryd.underlying3 (by kernel_rfl)
  have k3 := tab_of_laid h.tail.tail (g := 2) (by kernel_rfl) (t := 94) (by kernel_rfl) Tryd.underlying94 Tryd.underlying3 (by kernel_rfl)
  exact ⟨⟨k1.1, k2.1, k3.1⟩, k1.2, k2.2, k3.2⟩
end Go.Proofs.YtklcmlbkhjcaiaaDoor
