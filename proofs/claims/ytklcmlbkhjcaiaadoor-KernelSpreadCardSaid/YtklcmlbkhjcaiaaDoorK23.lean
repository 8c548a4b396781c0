/- Two lists of a call's own that grow beside each other: one of buffers, one of a single value. -/
import Derived.Test.YtklcmlbkhjcaiaaDoorK12
import Derived.Test.YtklcmlbkhjcaiaaDoorLaw15B
import Derived.Test.YtklcmlbkhjcaiaaDoorK22
import Derived.Test.YtklcmlbkhjcaiaaDoorK5
import Derived.Test.YtklcmlbkhjcaiaaDoorRas5


namespace Go.Proofs.YtklcmlbkhjcaiaaDoor
open Go.RowKit
set_option linter.unusedVariables false

theorem ownsRow_beside {w w' : World} {base : Nat} {e : TypeId} {size n : Nat} {a : Option Addr} {c : Nat} {xs : List Value} {row : Option Nat} (h : w.ownsRow base e size (.slice a n c) n xs) (g : w.grownBy w' row) (hne : ∀ k, blkOf a = some k → row ≠ some k) : w'.ownsRow base e size (.slice a n c) n xs := by
  refine ⟨h.1, ?_⟩
  rcases h.2 with h2 | ⟨b, c', cur, hv, hb, hg, h3⟩
  · exact .inl h2
  · refine .inr ⟨b, c', cur, hv, hb, (g.block b (Array.getElem?_eq_some_iff.1 hg).1 ?_).trans hg, h3⟩
    injection hv with hv
    subst hv
    exact fun e => hne b rfl e.symm
structure TwoSt (w wr : World) (a : Option Addr) (k cap : Nat) (g : Nat → Bf) (F : Nat → Img) (T : TypeId) (v : Value) (a2 : Option Addr) (k2 cap2 : Nat) : Prop where
  bs : BsSt w wr a k cap g F
  own : wr.ownsRow w.heap.size T 1 (.slice a2 k2 cap2) k2 (cellsL (fun _ => [v]) k2)
  ne : ∀ b, blkOf a2 = some b → blkOf a ≠ some b ∧ ∀ i, i < k → ∀ x, (g i).a = some x → x.block ≠ b
section
variable {w wr w' w1 : World} {a a2 : Option Addr} {k cap k2 cap2 : Nat} {g : Nat → Bf} {F : Nat → Img} {T : TypeId} {v : Value}
theorem TwoSt.nil (w : World) (g : Nat → Bf) (F : Nat → Img) (T : TypeId) (v : Value) : TwoSt w w none 0 0 g F T v none 0 0 :=
  ⟨BsSt.nil w g F, ⟨rfl, .inl ⟨rfl, rfl⟩⟩, fun b hb => by cases hb⟩
theorem TwoSt.grows (s : TwoSt w wr a k cap g F T v a2 k2 cap2) (h : Grows wr w') : TwoSt w w' a k cap g F T v a2 k2 cap2 :=
  ⟨s.bs.grows h, ownsRow_grows s.own h, s.ne⟩
theorem TwoSt.push1 (s : TwoSt w wr a k cap g F T v a2 k2 cap2) (h : Grows wr w') {b : Bf} {p c : Nat} (hb : BufAt w' b.r b.a b.len b.cap (F k)) (hf : ∀ x, b.a = some x → wr.heap.size ≤ x.block ∧ x.block < w'.heap.size)
    (h1 : w1.ownsRow w.heap.size 35 5 (.slice (some ⟨p, 0, none⟩) (k + 1) c) (k + 1) (cellsL (fun i => bfC (g i)) k ++ bfC b)) (h2 : w'.grownBy w1 (blkOf a)) (h3 : blkOf a = some p ∨ p = w'.heap.size) :
    TwoSt w w1 (some ⟨p, 0, none⟩) (k + 1) c (fun i => if i = k then b else g i) F T v a2 k2 cap2 := by
  have hsz := h.below.size
  refine ⟨s.bs.push h hb hf h1 h2 h3, ownsRow_beside (ownsRow_grows s.own h) h2 fun j hj => (s.ne j hj).1, fun j hj => ⟨fun e => ?_, fun i hi x hx => ?_⟩⟩
  · have e2 : p = j := by
      have : (some p : Option Nat) = some j := e
      injection this
    have hlt := (own_lt s.own j hj).2
    rcases h3 with h3 | h3
    · exact (s.ne j hj).1 (by rw [h3, e2])
    · omega
  · have hlt := (own_lt s.own j hj).2
    by_cases e : i = k
    · subst e
      simp only [if_pos] at hx
      have := (hf x hx).1
      omega
    · simp only [if_neg e] at hx
      exact (s.ne j hj).2 i (by omega) x hx
theorem TwoSt.push2 (s : TwoSt w wr a k cap g F T v a2 k2 cap2) (h : Grows wr w') {p c : Nat}
    (h1 : w1.ownsRow w.heap.size T 1 (.slice (some ⟨p, 0, none⟩) (k2 + 1) c) (k2 + 1) (cellsL (fun _ => [v]) (k2 + 1))) (h2 : w'.grownBy w1 (blkOf a2)) (h3 : blkOf a2 = some p ∨ p = w'.heap.size) :
    TwoSt w w1 a k cap g F T v (some ⟨p, 0, none⟩) (k2 + 1) c := by
  have hsz := h.below.size
  have hs2 := h2.size
  have hne : ∀ j, blkOf a = some j → blkOf a2 ≠ some j := fun j hj e => (s.ne j e).1 hj
  refine ⟨⟨(s.bs.gr.trans h).grown h2 (fun j hj => (own_lt s.own j hj).1), ownsRow_beside (ownsRow_grows s.bs.own h) h2 hne, fun i hi => ?_, fun i hi x hx => ?_⟩, h1, fun j hj => ?_⟩
  · exact ((s.bs.buf i hi).grows h).grown h2 (fun _ x hx e2 => (s.ne x.block e2.symm).2 i hi x hx rfl)
  · obtain ⟨f1, f2, f3⟩ := s.bs.far i hi x hx
    exact ⟨f1, by omega, f3⟩
  · have e2 : p = j := by
      have : (some p : Option Nat) = some j := hj
      injection this
    subst e2
    rcases h3 with h3 | h3
    · exact s.ne p h3
    · refine ⟨fun e => ?_, fun i hi x hx => ?_⟩
      · have := (own_lt s.bs.own p e).2
        omega
      · have := (s.bs.far i hi x hx).2.1
        omega
end
end Go.Proofs.YtklcmlbkhjcaiaaDoor
/- The walk of chapter 15's law KernelSpread. -/





namespace Go.Proofs.YtklcmlbkhjcaiaaDoor
open Go.RowKit
set_option linter.unusedVariables false

theorem oneReg_of {r : R} {o : Nat → R} {n na : Nat} (hr : rightR r = true) (h : ∀ u v, hasL o n u v = hasL (fun _ => r) 1 u v) (hs : SetsOk (fun z => z = r.x0 ∨ z = r.x1) (fun z => z = r.y0 ∨ z = r.y1) na o n) : OneReg o n r :=
  ⟨hs.two, fun u v => by rw [h]; simp [hasL], fun i hi _ => hs.inb i hi, fun i hi => by
    have k := (rightR_iff r).1 hr
    obtain ⟨⟨h0, h1⟩, h2, h3⟩ := hs.inb i hi
    refine (rightR_iff _).2 ?_
    rcases h0 with h0 | h0 <;> rcases h1 with h1 | h1 <;> rcases h2 with h2 | h2 <;> rcases h3 with h3 | h3 <;> omega⟩
theorem two_pl {r : R} (hr : rightR r = true) : (∀ z, (fun z => z = r.x0 ∨ z = r.x1) z → onPl z) ∧ (∀ z, (fun z => z = r.y0 ∨ z = r.y1) z → onPl z) := by
  have k := (rightR_iff r).1 hr
  constructor
  · intro z h
    unfold onPl
    rcases h with h | h <;> omega
  · intro z h
    unfold onPl
    rcases h with h | h <;> omega
/-- The input, widened and filled. -/
def wideF (rk r : R) (px : P4) (F : Img) : Img := fillF (someR (joinR rk r)) r px (cutF (someR (joinR rk r)) F)
theorem wide_same {rk r : R} {px : P4} {F : Img} (hF : ∀ u v, hasR rk u v = false → F u v = noP) {u v : Int} (h : hasR r u v = false) : F u v = wideF rk r px F u v := by
  have e : wideF rk r px F u v = cutF (someR (joinR rk r)) F u v := by
    unfold wideF fillF
    rw [h]
    simp
  rw [e]
  cases c : hasR (joinR rk r) u v
  · rw [cutF_out (by rw [hasR_some]; exact c)]
    exact hF u v (joinR_no c).1
  · rw [cutF_in (by rw [hasR_some]; exact c)]
set_option maxRecDepth 100000 in
set_option maxHeartbeats 51200000 in
theorem kernelSpread_walk (op : Int) (ia : Option Addr) (il ic : Nat) (is : Nat → Int) (pa : Option Addr) (pl pc : Nat) (ps : Nat → Int) (al : Option Addr) (ll cl : Nat) (g5 : Nat → Bf) (r : R) (px : P4) (s : R) (w : World) (hop : -9223372036854775808 ≤ op ∧ op ≤ 9223372036854775807) (ht : Tabs w) (hi : IsInts w ia il ic is) (hp : IsInts w pa pl pc ps) (hb : IsBufs w al ll cl g5) (hpx : okP px) :
    Calls Tryd.prog 4 #[.agg #[.int .i64 op, .slice ia il ic, .slice pa pl pc], .slice al ll cl, .agg #[.int .i64 r.x0, .int .i64 r.y0, .int .i64 r.x1, .int .i64 r.y1], .agg #[.int .u8 px.r, .int .u8 px.g, .int .u8 px.b, .int .u8 px.a], .agg #[.int .i64 s.x0, .int .i64 s.y0, .int .i64 s.x1, .int .i64 s.y1]] w fun e w' => e = .returned (.bool true) ∧ Grows w w' := by
  have m1 := hi.le
  have m2 := hi.most
  have m3 := hp.le
  have m4 := hp.most
  have m5 := hb.le
  have m6 := hb.most
  replace ht := Lib.hid ht
  replace hi := Lib.hid hi
  replace hp := Lib.hid hp
  replace hb := Lib.hid hb
  have HFI : Hid (∀ W c, Grows w W → fine15 op il is pl ps ll g5 s = c → Calls Tryd.prog 8 #[.agg #[.int .i64 op, .slice ia il ic, .slice pa pl pc], .slice al ll cl, .agg #[.int .i64 s.x0, .int .i64 s.y0, .int .i64 s.x1, .int .i64 s.y1]] W fun e w' => e = .returned (.bool c) ∧ Grows W w') := fun W c g hc => law15_fine op ia il ic is pa pl pc ps al ll cl g5 s c W (Lib.hid (ht.out.grows g)) (Lib.hid (hi.out.grows g)) (Lib.hid (hp.out.grows g)) (Lib.hid (hb.out.grows g)) (Lib.hid hc)
  cases c_F : fine15 op il is pl ps ll g5 s
  case false =>
    have CF := Lib.hid c_F
    clear c_F
    go_enter Tryd.func4, Tryd.ntmps4
    go_wp2_with (first | (first | (go_at_call 7; refine (awake15 _ ).mono ?_; rintro e w' ⟨rfl, hgw⟩; first | (obtain ⟨gw, rfl⟩ := grows_of_grow hgw) | (obtain ⟨gw, rfl⟩ := hgw))) | (go_at_call 8; (with_reducible refine Calls.mono (HFI.out _ false ?_ CF.out) ?_); (exact (by repeat (first | exact Grows.refl _ | apply Grows.grow | apply Grows.alloc | apply Grows.drew))); rintro e w' ⟨rfl, hgw⟩; first | (obtain ⟨gw, rfl⟩ := grows_of_grow hgw) | (obtain ⟨gw, rfl⟩ := hgw)))
    go_ret
    exact ⟨rfl, (by repeat (first | exact Grows.refl _ | apply Grows.grow | apply Grows.alloc | apply Grows.drew))⟩
  have CF := Lib.hid c_F
  have FI := fine15_yes c_F
  clear c_F
  obtain rfl := FI.len
  have h8 := FI.few.1
  obtain ⟨F, hF⟩ : ∃ F : Nat → Img, F = fun i => imgOf (g5 i).r (g5 i).f := ⟨_, rfl⟩
  have HBA : Hid (∀ i, i < ll → BufAt w (g5 i).r (g5 i).a (g5 i).len (g5 i).cap (F i) ∧ cntR (g5 i).r ≤ 300) := fun i hi => by rw [hF]; exact FI.bufAt hb.out hi
  have HDO : Hid (∀ W, Grows w W → Calls Tryd.prog 13 #[.agg #[.int .i64 op, .slice ia ll ic, .slice pa pl pc], .slice al ll cl, .agg #[.int .i64 s.x0, .int .i64 s.y0, .int .i64 s.x1, .int .i64 s.y1]] W (RetBuf W (someR s) (doF op ps ll F s))) := fun W g => kernel_Do op ia ll ic pa pl pc ps al ll cl g5 F s W (Lib.hid (hp.out.grows g)) FI.plen (Lib.hid (hb.out.grows g)) (Lib.hid (fun i hi => ⟨(HBA.out i hi).1.grows g, by have := (HBA.out i hi).2; omega⟩)) FI.node FI.small (by have := FI.cnt; omega) FI.rad FI.rad11
  have HPX := Lib.hid hpx
  clear hpx
  cases c_R : fineB r 0 0 400
  case false =>
    have CR := Lib.hid c_R
    clear c_R FI hF
    go_enter Tryd.func4, Tryd.ntmps4
    go_wp2_with (first | (first | (go_at_call 7; refine (awake15 _ ).mono ?_; rintro e w' ⟨rfl, hgw⟩; first | (obtain ⟨gw, rfl⟩ := grows_of_grow hgw) | (obtain ⟨gw, rfl⟩ := hgw))) | (go_at_call 8; (with_reducible refine Calls.mono (HFI.out _ true ?_ CF.out) ?_); (exact (by repeat (first | exact Grows.refl _ | apply Grows.grow | apply Grows.alloc | apply Grows.drew))); rintro e w' ⟨rfl, hgw⟩; first | (obtain ⟨gw, rfl⟩ := grows_of_grow hgw) | (obtain ⟨gw, rfl⟩ := hgw)) | (go_at_call 14; (with_reducible refine Calls.mono (ref08_FineIs _ _ _ _ _ false CR) ?_); rintro e w' ⟨rfl, hgw⟩; (first | (obtain ⟨gx, rfl⟩ := grows_of_grow hgw) | (obtain ⟨gx, rfl⟩ := hgw))))
    go_ret
    exact ⟨rfl, (by repeat (first | exact Grows.refl _ | apply Grows.grow | apply Grows.alloc | apply Grows.drew))⟩
  have CR := Lib.hid c_R
  have hrr := (fine_cnt c_R (by omega)).2.2.2.1
  clear c_R
  cases c_P : rightT px.r px.g px.b px.a
  case false =>
    have CP := Lib.hid c_P
    clear c_P FI hF
    go_enter Tryd.func4, Tryd.ntmps4
    go_wp2_with (first | (first | (go_at_call 7; refine (awake15 _ ).mono ?_; rintro e w' ⟨rfl, hgw⟩; first | (obtain ⟨gw, rfl⟩ := grows_of_grow hgw) | (obtain ⟨gw, rfl⟩ := hgw))) | (go_at_call 8; (with_reducible refine Calls.mono (HFI.out _ true ?_ CF.out) ?_); (exact (by repeat (first | exact Grows.refl _ | apply Grows.grow | apply Grows.alloc | apply Grows.drew))); rintro e w' ⟨rfl, hgw⟩; first | (obtain ⟨gw, rfl⟩ := grows_of_grow hgw) | (obtain ⟨gw, rfl⟩ := hgw)) | (go_at_call 14; (with_reducible refine Calls.mono (ref08_FineIs _ _ _ _ _ true CR) ?_); rintro e w' ⟨rfl, hgw⟩; (first | (obtain ⟨gx, rfl⟩ := grows_of_grow hgw) | (obtain ⟨gx, rfl⟩ := hgw))) | (go_at_call 15; (with_reducible refine Calls.mono (ref01_rightIs px _ false HPX.out CP.out) ?_); rintro e w' ⟨rfl, hgw⟩; (first | (obtain ⟨gp, rfl⟩ := grows_of_grow hgw) | (obtain ⟨gp, rfl⟩ := hgw))))
    go_ret
    exact ⟨rfl, (by repeat (first | exact Grows.refl _ | apply Grows.grow | apply Grows.alloc | apply Grows.drew))⟩
  have CP := Lib.hid c_P
  clear c_P
  have K4 : cntR (someR s) ≤ 200 := FI.cnt
  have hsm := FI.small
  obtain ⟨G, hG⟩ : ∃ G : Nat → Img, G = fun i => wideF (g5 i).r r px (F i) := ⟨_, rfl⟩
  have HRR := Lib.hid hrr
  have HOF : Hid (∀ W b c, Grows w W → Blk W b 27 #[.int .i64 r.x0, .int .i64 r.y0, .int .i64 r.x1, .int .i64 r.y1] → 1 ≤ c ∧ c ≤ 9223372036854775807 → Calls Tryd.prog 16 #[.slice (some ⟨b, 0, none⟩) 1 c] W (RetSets W (fun z => z = r.x0 ∨ z = r.x1) (fun z => z = r.y0 ∨ z = r.y1) 1 (fun u v => hasL (fun _ => r) 1 u v))) := fun W b c g hb hc => ref04_Of _ _ (two_pl HRR.out).1 (two_pl HRR.out).2 (some ⟨b, 0, none⟩) 1 c (fun _ => r) W (Lib.hid (rects_one hb hc)) (by omega) (fun i hi _ => ⟨⟨.inl rfl, .inr rfl⟩, .inl rfl, .inr rfl⟩)
  have HSP : Hid (∀ W a2 c2 ad na ca f, Grows w W → IsOnes W a2 ll c2 (.slice ad na ca) → IsRects W ad na ca f → OneReg f na r → Calls Tryd.prog 19 #[.agg #[.int .i64 op, .slice ia ll ic, .slice pa pl pc], .slice a2 ll c2] W (RetSp W op ps r)) := fun W a2 c2 ad na ca f g h1 h2 h3 => ref13_Spread op ia ll ic pa pl pc ps a2 ll c2 ad na ca f r W (Lib.hid (hp.out.grows g)) FI.plen (Lib.hid h1) (Lib.hid h2) (Lib.hid h3) HRR.out FI.node
  have HMR : Hid (∀ i, i < ll → rightR (joinR (g5 i).r r) = true) := fun i hi => joinR_right (HBA.out i hi).1.good.near HRR.out
  have HCM : Hid (∀ i, i < ll → areaR (joinR (g5 i).r r) ≤ 2000 → cntR (someR (joinR (g5 i).r r)) ≤ 2000) := fun i hi h => by
    have := (good_some (HMR.out i hi)).area (by rw [areaR_some]; omega)
    rw [areaR_some] at this
    omega
  have HWN : Hid (∀ i, i < ll → areaR (joinR (g5 i).r r) ≤ 2000 → ∀ W, Grows w W → Calls Tryd.prog 11 #[.agg #[.int .i64 (g5 i).r.x0, .int .i64 (g5 i).r.y0, .int .i64 (g5 i).r.x1, .int .i64 (g5 i).r.y1, .slice (g5 i).a (g5 i).len (g5 i).cap], .agg #[.int .i64 (joinR (g5 i).r r).x0, .int .i64 (joinR (g5 i).r r).y0, .int .i64 (joinR (g5 i).r r).x1, .int .i64 (joinR (g5 i).r r).y1]] W (RetBuf W (someR (joinR (g5 i).r r)) (cutF (someR (joinR (g5 i).r r)) (F i)))) := fun i hi h W g => ref05_Window (joinR (g5 i).r r) (g5 i).r (g5 i).a (g5 i).len (g5 i).cap (F i) W (Lib.hid ((HBA.out i hi).1.grows g)) (HMR.out i hi) (by have := HCM.out i hi h; omega) (by have := (HBA.out i hi).2; omega)
  have HFN : Hid (∀ i, i < ll → areaR (joinR (g5 i).r r) ≤ 2000 → ∀ W a l c, BufAt W (someR (joinR (g5 i).r r)) a l c (cutF (someR (joinR (g5 i).r r)) (F i)) → Calls Tryd.prog 18 #[.agg #[.int .i64 (someR (joinR (g5 i).r r)).x0, .int .i64 (someR (joinR (g5 i).r r)).y0, .int .i64 (someR (joinR (g5 i).r r)).x1, .int .i64 (someR (joinR (g5 i).r r)).y1, .slice a l c], .agg #[.int .i64 r.x0, .int .i64 r.y0, .int .i64 r.x1, .int .i64 r.y1], .agg #[.int .u8 px.r, .int .u8 px.g, .int .u8 px.b, .int .u8 px.a]] W (RetBuf W (someR (joinR (g5 i).r r)) (G i))) := fun i hi h W a l c hb => by
    rw [hG]
    exact ref05_Fill _ r a l c _ px W (Lib.hid hb) (by have := HCM.out i hi h; omega) HPX.out
  have HDP : Hid (∀ W a cap (g : Nat → Bf), Grows w W → IsBufs W a ll cap (bfOf g G) → (∀ i, i < ll → BufAt W (g i).r (g i).a (g i).len (g i).cap (G i) ∧ cntR (g i).r ≤ 2000) → Calls Tryd.prog 13 #[.agg #[.int .i64 op, .slice ia ll ic, .slice pa pl pc], .slice a ll cap, .agg #[.int .i64 s.x0, .int .i64 s.y0, .int .i64 s.x1, .int .i64 s.y1]] W (RetBuf W (someR s) (doF op ps ll G s))) := fun W a cap g gg hbs hbu => kernel_Do op ia ll ic pa pl pc ps a ll cap (bfOf g G) G s W (Lib.hid (hp.out.grows gg)) FI.plen (Lib.hid hbs) (Lib.hid (fun i hi => ⟨(hbu i hi).1, by have := (hbu i hi).2; show cntR (g i).r ≤ _; omega⟩)) FI.node FI.small (by have := FI.cnt; omega) FI.rad FI.rad11
  have HSL : Hid (∀ o m u v, SpreadOk op ps r o m → hasR s u v = true → hasL o m u v = false → doF op ps ll F s u v = doF op ps ll G s u v) := fun o m u v h1 h2 h3 => spread_law FI.node hsm h1 (fun i hi u v h => by rw [hG]; exact wide_same (HBA.out i hi).1.fits.out h) h2 h3
  obtain ⟨D, hD⟩ : ∃ z, z = doF op ps ll F s := ⟨_, rfl⟩
  obtain ⟨E, hE⟩ : ∃ z, z = doF op ps ll G s := ⟨_, rfl⟩
  obtain ⟨q, hq'⟩ : ∃ z, z = someR s := ⟨_, rfl⟩
  rw [← hD, ← hq'] at HDO
  rw [← hE, ← hq'] at HDP
  rw [← hD, ← hE] at HSL
  rw [← hq'] at K4
  unfold smallR at hsm
  obtain ⟨⟨y0a, y0b⟩, ⟨y1a, y1b⟩, ⟨y2a, y2b⟩, y3a, y3b⟩ := hsm
  clear hD hE hq' hF hG FI hi hp ht hrr
  go_enter Tryd.func4, Tryd.ntmps4
  go_wp2_with (first | (first | (go_at_call 7; refine (awake15 _ ).mono ?_; rintro e w' ⟨rfl, hgw⟩; first | (obtain ⟨gw, rfl⟩ := grows_of_grow hgw) | (obtain ⟨gw, rfl⟩ := hgw))) | (go_at_call 8; (with_reducible refine Calls.mono (HFI.out _ true ?_ CF.out) ?_); (exact (by repeat (first | exact Grows.refl _ | apply Grows.grow | apply Grows.alloc | apply Grows.drew))); rintro e w' ⟨rfl, hgw⟩; first | (obtain ⟨gw, rfl⟩ := grows_of_grow hgw) | (obtain ⟨gw, rfl⟩ := hgw)) | (go_at_call 14; (with_reducible refine Calls.mono (ref08_FineIs _ _ _ _ _ true CR) ?_); rintro e w' ⟨rfl, hgw⟩; (first | (obtain ⟨gx, rfl⟩ := grows_of_grow hgw) | (obtain ⟨gx, rfl⟩ := hgw))) | (go_at_call 15; (with_reducible refine Calls.mono (ref01_rightIs px _ true HPX.out CP.out) ?_); rintro e w' ⟨rfl, hgw⟩; (first | (obtain ⟨gp, rfl⟩ := grows_of_grow hgw) | (obtain ⟨gp, rfl⟩ := hgw))) | (go_at_call 16; (with_reducible refine Calls.mono (HOF.out _ _ _ ?_ ?_ ?_) ?_); (exact (by repeat (first | exact Grows.refl _ | apply Grows.grow | apply Grows.alloc | apply Grows.drew))); (exact (by unfold Blk; repeat (first | exact blk_at _ _ _ (by first | omega | (simp; done) | (simp; omega)) | refine (blk_past _ _ _ (by first | omega | (simp; done) | (simp; omega))).trans ?_ | refine (heap_grow _ _ _ (by first | omega | (simp; done) | (simp; omega))).trans ?_ | refine (blk_drew _ _).trans ?_))); (exact (by omega)); rintro e w' ⟨aa, na, ca, oa, rfl, hgw, Ha⟩; (first | (obtain ⟨go, rfl⟩ := grows_of_grow hgw) | (obtain ⟨go, rfl⟩ := hgw))))
  refine wp_name ?_
  intro W0 hW0
  have B0 : Hid (Blk W0 w.heap.size 24 #[.int .i64 op, .slice ia ll ic, .slice pa pl pc]) := by rw [hW0]; exact (by unfold Blk; repeat (first | exact blk_at _ _ _ (by first | omega | (simp; done) | (simp; omega)) | refine (blk_past _ _ _ (by first | omega | (simp; done) | (simp; omega))).trans ?_ | refine (heap_grow _ _ _ (by first | omega | (simp; done) | (simp; omega))).trans ?_ | refine (blk_drew _ _).trans ?_))
  have B1 : Hid (Blk W0 (w.heap.size + 1) 27 #[.int .i64 r.x0, .int .i64 r.y0, .int .i64 r.x1, .int .i64 r.y1]) := by rw [hW0]; exact (by unfold Blk; repeat (first | exact blk_at _ _ _ (by first | omega | (simp; done) | (simp; omega)) | refine (blk_past _ _ _ (by first | omega | (simp; done) | (simp; omega))).trans ?_ | refine (heap_grow _ _ _ (by first | omega | (simp; done) | (simp; omega))).trans ?_ | refine (blk_drew _ _).trans ?_))
  have B2 : Hid (Blk W0 (w.heap.size + 1 + 1) 40 #[.int .u8 px.r, .int .u8 px.g, .int .u8 px.b, .int .u8 px.a]) := by rw [hW0]; exact (by unfold Blk; repeat (first | exact blk_at _ _ _ (by first | omega | (simp; done) | (simp; omega)) | refine (blk_past _ _ _ (by first | omega | (simp; done) | (simp; omega))).trans ?_ | refine (heap_grow _ _ _ (by first | omega | (simp; done) | (simp; omega))).trans ?_ | refine (blk_drew _ _).trans ?_))
  have B3 : Hid (Blk W0 (w.heap.size + 1 + 1 + 1) 27 #[.int .i64 s.x0, .int .i64 s.y0, .int .i64 s.x1, .int .i64 s.y1]) := by rw [hW0]; exact (by unfold Blk; repeat (first | exact blk_at _ _ _ (by first | omega | (simp; done) | (simp; omega)) | refine (blk_past _ _ _ (by first | omega | (simp; done) | (simp; omega))).trans ?_ | refine (heap_grow _ _ _ (by first | omega | (simp; done) | (simp; omega))).trans ?_ | refine (blk_drew _ _).trans ?_))
  have G0 : Hid (Grows w W0) := by rw [hW0]; exact (by repeat (first | exact Grows.refl _ | apply Grows.grow | apply Grows.alloc | apply Grows.drew))
  have LA : Hid (IsRects W0 aa na ca oa) := by rw [hW0]; exact Ha.out.1.grows (by repeat (first | exact Grows.refl _ | apply Grows.grow | apply Grows.alloc | apply Grows.drew))
  have LO : Hid (OneReg oa na r) := oneReg_of HRR.out Ha.out.2.1 Ha.out.2.2
  have la1 := LA.out.le
  have la2 := LA.out.most
  have hz3 : w.heap.size + 1 + 1 + 1 < W0.heap.size := B3.out.lt
  clear hW0 HFI CF Ha HOF CR CP
  go_loopw [12, 13, 14] (fun v l i wr => ∃ (k : Nat) (a : Option Addr) (cap : Nat) (a2 : Option Addr) (cap2 : Nat) (g : Nat → Bf), k ≤ ll ∧ i = .int .i64 k ∧ v = .slice a k cap ∧ l = .slice a2 k cap2 ∧ Hid (TwoSt W0 wr a k cap g G 43 (.slice aa na ca) a2 k cap2 ∧ ∀ j, j < k → cntR (g j).r ≤ 2000)) (fun _ _ i _ => ll - (intOf i).toNat)
  case atStart => exact ⟨0, none, 0, none, 0, fun _ => ⟨zeroR, none, 0, 0, fun _ => noP⟩, by omega, rfl, rfl, rfl, TwoSt.nil W0 _ G _ _, fun j hj => by omega⟩
  case round =>
    obtain ⟨k, a, cap, a2, cap2, g, hk, rfl, rfl, rfl, hh⟩ := hrel
    have hcap := ownL_le hh.out.1.bs.own
    have hcap2 := ownL_le hh.out.1.own
    have GRW : Hid (Grows W0 wr) := hh.out.1.bs.gr
    have GR := Lib.hid (G0.out.trans GRW.out)
    have SZ0 := GRW.out.below.size
    by_cases hlt : k < ll
    · obtain ⟨b', off', rfl, hbw, f0, f1, f2, f3, f4⟩ := hb.out.at hlt
      have HWI' := HWN.out k hlt
      have HFL' := HFN.out k hlt
      have HCM' := HCM.out k hlt
      have HMR' := HMR.out k hlt
      obtain ⟨rk, hrk⟩ : ∃ z, z = (g5 k).r := ⟨_, rfl⟩
      obtain ⟨ak, hak⟩ : ∃ z, z = (g5 k).a := ⟨_, rfl⟩
      obtain ⟨lk, hlk⟩ : ∃ z, z = (g5 k).len := ⟨_, rfl⟩
      obtain ⟨ck, hck⟩ : ∃ z, z = (g5 k).cap := ⟨_, rfl⟩
      obtain ⟨Fk, hFk⟩ : ∃ z, z = F k := ⟨_, rfl⟩
      obtain ⟨M, hM⟩ : ∃ z, z = joinR (g5 k).r r := ⟨_, rfl⟩
      obtain ⟨t, ht'⟩ : ∃ z, z = someR M := ⟨_, rfl⟩
      obtain ⟨Gk, hGk⟩ : ∃ z, z = G k := ⟨_, rfl⟩
      have HJO : Hid (∀ W, Calls Tryd.prog 17 #[.agg #[.int .i64 rk.x0, .int .i64 rk.y0, .int .i64 rk.x1, .int .i64 rk.y1], .agg #[.int .i64 r.x0, .int .i64 r.y0, .int .i64 r.x1, .int .i64 r.y1]] W fun e w' => e = .returned (.agg #[.int .i64 M.x0, .int .i64 M.y0, .int .i64 M.x1, .int .i64 M.y1]) ∧ Grows W w') := fun W => by rw [hM, hrk]; exact ref03_joinR (g5 k).r r W
      rw [← hM, ← ht', ← hak, ← hlk, ← hck, ← hrk, ← hFk] at HWI'
      rw [← hM, ← ht', ← hFk, ← hGk] at HFL'
      rw [← hM, ← ht'] at HCM'
      rw [← hM] at HMR'
      rw [← hrk] at f0 f1 f2 f3
      rw [← hak, ← hlk, ← hck] at f4
      have HAR : Hid (∀ W, Calls Tryd.prog 10 #[.agg #[.int .i64 M.x0, .int .i64 M.y0, .int .i64 M.x1, .int .i64 M.y1]] W fun e w' => e = .returned (.int .i64 (areaR M)) ∧ Grows W w') := fun W => ref03_areaR M W HMR'
      have HGK : Hid (Gk = G k) := hGk
      obtain ⟨A, hA⟩ : ∃ z, z = areaR M := ⟨_, rfl⟩
      rw [← hA] at HAR HWI' HFL' HCM'
      have mlk := (HBA.out k hlt).1.most
      rw [← hlk, ← hck] at mlk
      have HWI1 := Lib.hid HWI'
      have HFL1 := Lib.hid HFL'
      have HCM1 := Lib.hid HCM'
      have GB := GR
      have D1 : Hid (Blk wr (w.heap.size + 1) 27 #[.int .i64 r.x0, .int .i64 r.y0, .int .i64 r.x1, .int .i64 r.y1]) := B1.out.grows GRW.out
      have D2 : Hid (Blk wr (w.heap.size + 1 + 1) 40 #[.int .u8 px.r, .int .u8 px.g, .int .u8 px.b, .int .u8 px.a]) := B2.out.grows GRW.out
      obtain ⟨r0, r1, r2, r3, rf⟩ := D1.out.c4
      have lr1 := D1.out.lt
      have e0 := gcell' GR.out hbw f0
      have e1 := gcell' GR.out hbw f1
      have e2 := gcell' GR.out hbw f2
      have e3 := gcell' GR.out hbw f3
      have hb' : b' < wr.heap.size := by have := GR.out.below.size; omega
      clear hM ht' hGk hA hrk hak hlk hck hFk HWI' HFL' HCM' HMR'
      go_wp2
      go_region_held3 (fun w' => w'.cell? ⟨b', off' + k * 5, none⟩ = some (.int .i64 rk.x0) ∧ w'.cell? ⟨b', off' + k * 5 + 1, none⟩ = some (.int .i64 rk.y0) ∧ w'.cell? ⟨b', off' + k * 5 + 2, none⟩ = some (.int .i64 rk.x1) ∧ w'.cell? ⟨b', off' + k * 5 + 3, none⟩ = some (.int .i64 rk.y1) ∧ w'.cell? ⟨w.heap.size + 1, 0, none⟩ = some (.int .i64 r.x0) ∧ w'.cell? ⟨w.heap.size + 1, 1, none⟩ = some (.int .i64 r.y0) ∧ w'.cell? ⟨w.heap.size + 1, 2, none⟩ = some (.int .i64 r.x1) ∧ w'.cell? ⟨w.heap.size + 1, 3, none⟩ = some (.int .i64 r.y1)) ((refine ⟨gcell' (GB.out.trans ?_) hbw f0, gcell' (GB.out.trans ?_) hbw f1, gcell' (GB.out.trans ?_) hbw f2, gcell' (GB.out.trans ?_) hbw f3, (D1.out.grows ?_).cell 0, (D1.out.grows ?_).cell 1, (D1.out.grows ?_).cell 2, (D1.out.grows ?_).cell 3⟩ <;> ((repeat (first | exact Grows.refl _ | apply Grows.grow | apply Grows.alloc | apply Grows.drew)); done))) (first
        | (go_at_call 17; (with_reducible refine Calls.mono (HJO.out _) ?_); rintro e w' ⟨rfl, hgw⟩; (first | (obtain ⟨gj, rfl⟩ := grows_of_grow hgw) | (obtain ⟨gj, rfl⟩ := hgw)))
        | fail)
      · by_cases hA : 2000 < A
        · go_wp2_with ((go_at_call 10; (with_reducible refine Calls.mono (HAR.out _) ?_); rintro e w' ⟨rfl, hgw⟩; (first | (obtain ⟨ga, rfl⟩ := grows_of_grow hgw) | (obtain ⟨ga, rfl⟩ := hgw))))
          go_ret
          exact ⟨rfl, GR.out.trans (by repeat (first | exact Grows.refl _ | apply Grows.grow | apply Grows.alloc | apply Grows.drew))⟩
        · have hA2 : A ≤ 2000 := by omega
          have HWI : Hid (∀ W, Grows w W → Calls Tryd.prog 11 #[.agg #[.int .i64 rk.x0, .int .i64 rk.y0, .int .i64 rk.x1, .int .i64 rk.y1, .slice ak lk ck], .agg #[.int .i64 M.x0, .int .i64 M.y0, .int .i64 M.x1, .int .i64 M.y1]] W (RetBuf W t (cutF t Fk))) := HWI1.out hA2
          have HFL : Hid (∀ W a l c, BufAt W t a l c (cutF t Fk) → Calls Tryd.prog 18 #[.agg #[.int .i64 t.x0, .int .i64 t.y0, .int .i64 t.x1, .int .i64 t.y1, .slice a l c], .agg #[.int .i64 r.x0, .int .i64 r.y0, .int .i64 r.x1, .int .i64 r.y1], .agg #[.int .u8 px.r, .int .u8 px.g, .int .u8 px.b, .int .u8 px.a]] W (RetBuf W t Gk)) := HFL1.out hA2
          have HCT : Hid (cntR t ≤ 2000) := HCM1.out hA2
          go_wp2_with ((go_at_call 10; (with_reducible refine Calls.mono (HAR.out _) ?_); rintro e w' ⟨rfl, hgw⟩; (first | (obtain ⟨ga, rfl⟩ := grows_of_grow hgw) | (obtain ⟨ga, rfl⟩ := hgw))))
          refine wp_name ?_
          intro W5 hW5
          have DM0 : Blk W5 (wr.heap.size + gj.news.size) 27 #[.int .i64 M.x0, .int .i64 M.y0, .int .i64 M.x1, .int .i64 M.y1] := by rw [hW5]; exact (by unfold Blk; repeat (first | exact blk_at _ _ _ (by first | omega | (simp; done) | (simp; omega)) | refine (blk_past _ _ _ (by first | omega | (simp; done) | (simp; omega))).trans ?_ | refine (heap_grow _ _ _ (by first | omega | (simp; done) | (simp; omega))).trans ?_ | refine (blk_drew _ _).trans ?_))
          obtain ⟨nm, hnm⟩ : ∃ n, n = wr.heap.size + gj.news.size := ⟨_, rfl⟩
          rw [← hnm] at DM0 ⊢
          have hnw : wr.heap.size ≤ nm := by omega
          have DM := Lib.hid DM0
          have GB5 : Hid (Grows w W5) := by rw [hW5]; exact GR.out.trans (by repeat (first | exact Grows.refl _ | apply Grows.grow | apply Grows.alloc | apply Grows.drew))
          have ST5 : Hid (TwoSt W0 W5 a k cap g G 43 (.slice aa na ca) a2 k cap2) := by rw [hW5]; exact hh.out.1.grows (by repeat (first | exact Grows.refl _ | apply Grows.grow | apply Grows.alloc | apply Grows.drew))
          have D15 : Hid (Blk W5 (w.heap.size + 1) 27 #[.int .i64 r.x0, .int .i64 r.y0, .int .i64 r.x1, .int .i64 r.y1]) := by rw [hW5]; exact D1.out.grows (by repeat (first | exact Grows.refl _ | apply Grows.grow | apply Grows.alloc | apply Grows.drew))
          have D25 : Hid (Blk W5 (w.heap.size + 1 + 1) 40 #[.int .u8 px.r, .int .u8 px.g, .int .u8 px.b, .int .u8 px.a]) := by rw [hW5]; exact D2.out.grows (by repeat (first | exact Grows.refl _ | apply Grows.grow | apply Grows.alloc | apply Grows.drew))
          have DMX : Hid (∀ {W w2}, Grows W5 W → W.grownBy w2 (blkOf a) → Blk w2 nm 27 #[.int .i64 M.x0, .int .i64 M.y0, .int .i64 M.x1, .int .i64 M.y1]) := fun {W w2} g h => (DM.out.grows g).grown h (fun e => by have := (own_lt hh.out.1.bs.own nm e.symm).2; omega)
          have HCJ : Hid (∀ j, j < k → cntR (g j).r ≤ 2000) := hh.out.2
          clear hW5 hnm DM0 D1 D2 e0 e1 e2 e3 r0 r1 r2 r3 rf lr1
          go_region_held3 (fun w' => w'.cell? ⟨b', off' + k * 5, none⟩ = some (.int .i64 rk.x0) ∧ w'.cell? ⟨b', off' + k * 5 + 1, none⟩ = some (.int .i64 rk.y0) ∧ w'.cell? ⟨b', off' + k * 5 + 2, none⟩ = some (.int .i64 rk.x1) ∧ w'.cell? ⟨b', off' + k * 5 + 3, none⟩ = some (.int .i64 rk.y1) ∧ w'.cell? ⟨b', off' + k * 5 + 4, none⟩ = some (.slice ak lk ck) ∧ w'.cell? ⟨nm, 0, none⟩ = some (.int .i64 M.x0) ∧ w'.cell? ⟨nm, 1, none⟩ = some (.int .i64 M.y0) ∧ w'.cell? ⟨nm, 2, none⟩ = some (.int .i64 M.x1) ∧ w'.cell? ⟨nm, 3, none⟩ = some (.int .i64 M.y1) ∧ w'.cell? ⟨w.heap.size + 1, 0, none⟩ = some (.int .i64 r.x0) ∧ w'.cell? ⟨w.heap.size + 1, 1, none⟩ = some (.int .i64 r.y0) ∧ w'.cell? ⟨w.heap.size + 1, 2, none⟩ = some (.int .i64 r.x1) ∧ w'.cell? ⟨w.heap.size + 1, 3, none⟩ = some (.int .i64 r.y1) ∧ w'.cell? ⟨w.heap.size + 1 + 1, 0, none⟩ = some (.int .u8 px.r) ∧ w'.cell? ⟨w.heap.size + 1 + 1, 1, none⟩ = some (.int .u8 px.g) ∧ w'.cell? ⟨w.heap.size + 1 + 1, 2, none⟩ = some (.int .u8 px.b) ∧ w'.cell? ⟨w.heap.size + 1 + 1, 3, none⟩ = some (.int .u8 px.a)) (first | (refine ⟨gcell' (GB5.out.trans ?_) hbw f0, gcell' (GB5.out.trans ?_) hbw f1, gcell' (GB5.out.trans ?_) hbw f2, gcell' (GB5.out.trans ?_) hbw f3, gcell' (GB5.out.trans ?_) hbw f4, (DM.out.grows ?_).cell 0, (DM.out.grows ?_).cell 1, (DM.out.grows ?_).cell 2, (DM.out.grows ?_).cell 3, (D15.out.grows ?_).cell 0, (D15.out.grows ?_).cell 1, (D15.out.grows ?_).cell 2, (D15.out.grows ?_).cell 3, (D25.out.grows ?_).cell 0, (D25.out.grows ?_).cell 1, (D25.out.grows ?_).cell 2, (D25.out.grows ?_).cell 3⟩ <;> ((repeat (first | exact Grows.refl _ | apply Grows.grow | apply Grows.alloc | apply Grows.drew)); done)) | (refine ⟨gcell' (GBA.out.trans ?_) hbw f0, gcell' (GBA.out.trans ?_) hbw f1, gcell' (GBA.out.trans ?_) hbw f2, gcell' (GBA.out.trans ?_) hbw f3, gcell' (GBA.out.trans ?_) hbw f4, (DMA.out.grows ?_).cell 0, (DMA.out.grows ?_).cell 1, (DMA.out.grows ?_).cell 2, (DMA.out.grows ?_).cell 3, (D1A.out.grows ?_).cell 0, (D1A.out.grows ?_).cell 1, (D1A.out.grows ?_).cell 2, (D1A.out.grows ?_).cell 3, (D2A.out.grows ?_).cell 0, (D2A.out.grows ?_).cell 1, (D2A.out.grows ?_).cell 2, (D2A.out.grows ?_).cell 3⟩ <;> ((repeat (first | exact Grows.refl _ | apply Grows.grow | apply Grows.alloc | apply Grows.drew)); done))) (first
            | (refine step_append_buf rfl (.tmp 60) (.tmp 70) (by rfl) W0.heap.size a k cap g ⟨t, av, lv, cv, fun _ => noP⟩ (by rfl) (ownsRow_grows ST5.out.bs.own (by repeat (first | exact Grows.refl _ | apply Grows.grow | apply Grows.alloc | apply Grows.drew))) _ _ (by rfl) (by unfold Blk; repeat (first | exact blk_at _ _ _ (by first | omega | (simp; done) | (simp; omega)) | refine (blk_past _ _ _ (by first | omega | (simp; done) | (simp; omega))).trans ?_ | refine (heap_grow _ _ _ (by first | omega | (simp; done) | (simp; omega))).trans ?_ | refine (blk_drew _ _).trans ?_)) (by omega) (by have := ST5.out.bs.gr.below.size; simp <;> omega) ?_; intro p' cap' w2 h3 h4 h5 h6; have ST := Lib.hid (ST5.out.push1 (b := ⟨t, av, lv, cv, fun _ => noP⟩) (by repeat (first | exact Grows.refl _ | apply Grows.grow | apply Grows.alloc | apply Grows.drew)) (by { have z := Hv.out.1; rw [HGK.out] at z; exact z.grows (by repeat (first | exact Grows.refl _ | apply Grows.grow | apply Grows.alloc | apply Grows.drew)) }) (fun x hx => by { have z1 := Hv.out.2.2 x hx; have z2 := (Hv.out.2.1 x hx).1; simp at z1 z2 ⊢; omega }) h3 h4 h5); have GBA : Hid (Grows w w2) := Lib.hid (G0.out.trans ST.out.bs.gr); have DMA : Hid (Blk w2 nm 27 #[.int .i64 M.x0, .int .i64 M.y0, .int .i64 M.x1, .int .i64 M.y1]) := DMX.out (by repeat (first | exact Grows.refl _ | apply Grows.grow | apply Grows.alloc | apply Grows.drew)) h4; have D1A : Hid (Blk w2 (w.heap.size + 1) 27 #[.int .i64 r.x0, .int .i64 r.y0, .int .i64 r.x1, .int .i64 r.y1]) := B1.out.grows ST.out.bs.gr; have D2A : Hid (Blk w2 (w.heap.size + 1 + 1) 40 #[.int .u8 px.r, .int .u8 px.g, .int .u8 px.b, .int .u8 px.a]) := B2.out.grows ST.out.bs.gr; clear h3 h4 h5 h6)
            | (go_at_call 18; (with_reducible refine Calls.mono (HFL.out _ aw lw cw ?_) ?_); (exact Hw.out.1.grows (by repeat (first | exact Grows.refl _ | apply Grows.grow | apply Grows.alloc | apply Grows.drew))); rintro e w' ⟨av, lv, cv, rfl, hgw, Hv⟩; (first | (obtain ⟨gu, rfl⟩ := grows_of_grow hgw) | (obtain ⟨gu, rfl⟩ := hgw)); (try simp only [grow_drew] at Hv))
            | (go_at_call 11; (with_reducible refine Calls.mono (HWI.out _ ?_) ?_); (exact GB5.out.trans (by repeat (first | exact Grows.refl _ | apply Grows.grow | apply Grows.alloc | apply Grows.drew))); rintro e w' ⟨aw, lw, cw, rfl, hgw, Hw⟩; (first | (obtain ⟨gv, rfl⟩ := grows_of_grow hgw) | (obtain ⟨gv, rfl⟩ := hgw)); (try simp only [grow_drew] at Hw))
            | fail)
          all_goals
            go_wp2_with ((at_builtin; refine wpList_append_reg rfl (.tmp 72) (.tmp 74) rfl W0.heap.size a2 k cap2 (.slice aa na ca) rfl rfl (ownsRow_grows ST.out.own (by repeat (first | exact Grows.refl _ | apply Grows.grow | apply Grows.alloc | apply Grows.drew))) _ _ rfl (by unfold Blk; repeat (first | exact blk_at _ _ _ (by first | omega | (simp; done) | (simp; omega)) | refine (blk_past _ _ _ (by first | omega | (simp; done) | (simp; omega))).trans ?_ | refine (heap_grow _ _ _ (by first | omega | (simp; done) | (simp; omega))).trans ?_ | refine (blk_drew _ _).trans ?_)) (by omega) (by have := ST.out.bs.gr.below.size; simp <;> omega) ?_; intro p3 cap3 w3 j1 j2 j3 j4; have SU := Lib.hid (ST.out.push2 (by repeat (first | exact Grows.refl _ | apply Grows.grow | apply Grows.alloc | apply Grows.drew)) j1 j2 j3); clear j1 j2 j3 j4))
            go_roundw
            case rel =>
              refine ⟨k + 1, some ⟨p', 0, none⟩, cap', some ⟨p3, 0, none⟩, cap3, _, by omega, by go_num, rfl, rfl, SU.out.grows (by repeat (first | exact Grows.refl _ | apply Grows.grow | apply Grows.alloc | apply Grows.drew)), fun j hj => ?_⟩
              by_cases e : j = k
              · subst e
                rw [if_pos rfl]
                exact HCT.out
              · rw [if_neg e]
                exact HCJ.out j (by omega)
            case measure => simp [intOf]; omega
      · by_cases hA : 2000 < A
        · go_wp2_with ((go_at_call 10; (with_reducible refine Calls.mono (HAR.out _) ?_); rintro e w' ⟨rfl, hgw⟩; (first | (obtain ⟨ga, rfl⟩ := grows_of_grow hgw) | (obtain ⟨ga, rfl⟩ := hgw))))
          go_ret
          exact ⟨rfl, GR.out.trans (by repeat (first | exact Grows.refl _ | apply Grows.grow | apply Grows.alloc | apply Grows.drew))⟩
        · have hA2 : A ≤ 2000 := by omega
          have HWI : Hid (∀ W, Grows w W → Calls Tryd.prog 11 #[.agg #[.int .i64 rk.x0, .int .i64 rk.y0, .int .i64 rk.x1, .int .i64 rk.y1, .slice ak lk ck], .agg #[.int .i64 M.x0, .int .i64 M.y0, .int .i64 M.x1, .int .i64 M.y1]] W (RetBuf W t (cutF t Fk))) := HWI1.out hA2
          have HFL : Hid (∀ W a l c, BufAt W t a l c (cutF t Fk) → Calls Tryd.prog 18 #[.agg #[.int .i64 t.x0, .int .i64 t.y0, .int .i64 t.x1, .int .i64 t.y1, .slice a l c], .agg #[.int .i64 r.x0, .int .i64 r.y0, .int .i64 r.x1, .int .i64 r.y1], .agg #[.int .u8 px.r, .int .u8 px.g, .int .u8 px.b, .int .u8 px.a]] W (RetBuf W t Gk)) := HFL1.out hA2
          have HCT : Hid (cntR t ≤ 2000) := HCM1.out hA2
          go_wp2_with ((go_at_call 10; (with_reducible refine Calls.mono (HAR.out _) ?_); rintro e w' ⟨rfl, hgw⟩; (first | (obtain ⟨ga, rfl⟩ := grows_of_grow hgw) | (obtain ⟨ga, rfl⟩ := hgw))))
          refine wp_name ?_
          intro W5 hW5
          have DM0 : Blk W5 (wr.heap.size) 27 #[.int .i64 M.x0, .int .i64 M.y0, .int .i64 M.x1, .int .i64 M.y1] := by rw [hW5]; exact (by unfold Blk; repeat (first | exact blk_at _ _ _ (by first | omega | (simp; done) | (simp; omega)) | refine (blk_past _ _ _ (by first | omega | (simp; done) | (simp; omega))).trans ?_ | refine (heap_grow _ _ _ (by first | omega | (simp; done) | (simp; omega))).trans ?_ | refine (blk_drew _ _).trans ?_))
          obtain ⟨nm, hnm⟩ : ∃ n, n = wr.heap.size := ⟨_, rfl⟩
          rw [← hnm] at DM0 ⊢
          have hnw : wr.heap.size ≤ nm := by omega
          have DM := Lib.hid DM0
          have GB5 : Hid (Grows w W5) := by rw [hW5]; exact GR.out.trans (by repeat (first | exact Grows.refl _ | apply Grows.grow | apply Grows.alloc | apply Grows.drew))
          have ST5 : Hid (TwoSt W0 W5 a k cap g G 43 (.slice aa na ca) a2 k cap2) := by rw [hW5]; exact hh.out.1.grows (by repeat (first | exact Grows.refl _ | apply Grows.grow | apply Grows.alloc | apply Grows.drew))
          have D15 : Hid (Blk W5 (w.heap.size + 1) 27 #[.int .i64 r.x0, .int .i64 r.y0, .int .i64 r.x1, .int .i64 r.y1]) := by rw [hW5]; exact D1.out.grows (by repeat (first | exact Grows.refl _ | apply Grows.grow | apply Grows.alloc | apply Grows.drew))
          have D25 : Hid (Blk W5 (w.heap.size + 1 + 1) 40 #[.int .u8 px.r, .int .u8 px.g, .int .u8 px.b, .int .u8 px.a]) := by rw [hW5]; exact D2.out.grows (by repeat (first | exact Grows.refl _ | apply Grows.grow | apply Grows.alloc | apply Grows.drew))
          have DMX : Hid (∀ {W w2}, Grows W5 W → W.grownBy w2 (blkOf a) → Blk w2 nm 27 #[.int .i64 M.x0, .int .i64 M.y0, .int .i64 M.x1, .int .i64 M.y1]) := fun {W w2} g h => (DM.out.grows g).grown h (fun e => by have := (own_lt hh.out.1.bs.own nm e.symm).2; omega)
          have HCJ : Hid (∀ j, j < k → cntR (g j).r ≤ 2000) := hh.out.2
          clear hW5 hnm DM0 D1 D2 e0 e1 e2 e3 r0 r1 r2 r3 rf lr1
          go_region_held3 (fun w' => w'.cell? ⟨b', off' + k * 5, none⟩ = some (.int .i64 rk.x0) ∧ w'.cell? ⟨b', off' + k * 5 + 1, none⟩ = some (.int .i64 rk.y0) ∧ w'.cell? ⟨b', off' + k * 5 + 2, none⟩ = some (.int .i64 rk.x1) ∧ w'.cell? ⟨b', off' + k * 5 + 3, none⟩ = some (.int .i64 rk.y1) ∧ w'.cell? ⟨b', off' + k * 5 + 4, none⟩ = some (.slice ak lk ck) ∧ w'.cell? ⟨nm, 0, none⟩ = some (.int .i64 M.x0) ∧ w'.cell? ⟨nm, 1, none⟩ = some (.int .i64 M.y0) ∧ w'.cell? ⟨nm, 2, none⟩ = some (.int .i64 M.x1) ∧ w'.cell? ⟨nm, 3, none⟩ = some (.int .i64 M.y1) ∧ w'.cell? ⟨w.heap.size + 1, 0, none⟩ = some (.int .i64 r.x0) ∧ w'.cell? ⟨w.heap.size + 1, 1, none⟩ = some (.int .i64 r.y0) ∧ w'.cell? ⟨w.heap.size + 1, 2, none⟩ = some (.int .i64 r.x1) ∧ w'.cell? ⟨w.heap.size + 1, 3, none⟩ = some (.int .i64 r.y1) ∧ w'.cell? ⟨w.heap.size + 1 + 1, 0, none⟩ = some (.int .u8 px.r) ∧ w'.cell? ⟨w.heap.size + 1 + 1, 1, none⟩ = some (.int .u8 px.g) ∧ w'.cell? ⟨w.heap.size + 1 + 1, 2, none⟩ = some (.int .u8 px.b) ∧ w'.cell? ⟨w.heap.size + 1 + 1, 3, none⟩ = some (.int .u8 px.a)) (first | (refine ⟨gcell' (GB5.out.trans ?_) hbw f0, gcell' (GB5.out.trans ?_) hbw f1, gcell' (GB5.out.trans ?_) hbw f2, gcell' (GB5.out.trans ?_) hbw f3, gcell' (GB5.out.trans ?_) hbw f4, (DM.out.grows ?_).cell 0, (DM.out.grows ?_).cell 1, (DM.out.grows ?_).cell 2, (DM.out.grows ?_).cell 3, (D15.out.grows ?_).cell 0, (D15.out.grows ?_).cell 1, (D15.out.grows ?_).cell 2, (D15.out.grows ?_).cell 3, (D25.out.grows ?_).cell 0, (D25.out.grows ?_).cell 1, (D25.out.grows ?_).cell 2, (D25.out.grows ?_).cell 3⟩ <;> ((repeat (first | exact Grows.refl _ | apply Grows.grow | apply Grows.alloc | apply Grows.drew)); done)) | (refine ⟨gcell' (GBA.out.trans ?_) hbw f0, gcell' (GBA.out.trans ?_) hbw f1, gcell' (GBA.out.trans ?_) hbw f2, gcell' (GBA.out.trans ?_) hbw f3, gcell' (GBA.out.trans ?_) hbw f4, (DMA.out.grows ?_).cell 0, (DMA.out.grows ?_).cell 1, (DMA.out.grows ?_).cell 2, (DMA.out.grows ?_).cell 3, (D1A.out.grows ?_).cell 0, (D1A.out.grows ?_).cell 1, (D1A.out.grows ?_).cell 2, (D1A.out.grows ?_).cell 3, (D2A.out.grows ?_).cell 0, (D2A.out.grows ?_).cell 1, (D2A.out.grows ?_).cell 2, (D2A.out.grows ?_).cell 3⟩ <;> ((repeat (first | exact Grows.refl _ | apply Grows.grow | apply Grows.alloc | apply Grows.drew)); done))) (first
            | (refine step_append_buf rfl (.tmp 60) (.tmp 70) (by rfl) W0.heap.size a k cap g ⟨t, av, lv, cv, fun _ => noP⟩ (by rfl) (ownsRow_grows ST5.out.bs.own (by repeat (first | exact Grows.refl _ | apply Grows.grow | apply Grows.alloc | apply Grows.drew))) _ _ (by rfl) (by unfold Blk; repeat (first | exact blk_at _ _ _ (by first | omega | (simp; done) | (simp; omega)) | refine (blk_past _ _ _ (by first | omega | (simp; done) | (simp; omega))).trans ?_ | refine (heap_grow _ _ _ (by first | omega | (simp; done) | (simp; omega))).trans ?_ | refine (blk_drew _ _).trans ?_)) (by omega) (by have := ST5.out.bs.gr.below.size; simp <;> omega) ?_; intro p' cap' w2 h3 h4 h5 h6; have ST := Lib.hid (ST5.out.push1 (b := ⟨t, av, lv, cv, fun _ => noP⟩) (by repeat (first | exact Grows.refl _ | apply Grows.grow | apply Grows.alloc | apply Grows.drew)) (by { have z := Hv.out.1; rw [HGK.out] at z; exact z.grows (by repeat (first | exact Grows.refl _ | apply Grows.grow | apply Grows.alloc | apply Grows.drew)) }) (fun x hx => by { have z1 := Hv.out.2.2 x hx; have z2 := (Hv.out.2.1 x hx).1; simp at z1 z2 ⊢; omega }) h3 h4 h5); have GBA : Hid (Grows w w2) := Lib.hid (G0.out.trans ST.out.bs.gr); have DMA : Hid (Blk w2 nm 27 #[.int .i64 M.x0, .int .i64 M.y0, .int .i64 M.x1, .int .i64 M.y1]) := DMX.out (by repeat (first | exact Grows.refl _ | apply Grows.grow | apply Grows.alloc | apply Grows.drew)) h4; have D1A : Hid (Blk w2 (w.heap.size + 1) 27 #[.int .i64 r.x0, .int .i64 r.y0, .int .i64 r.x1, .int .i64 r.y1]) := B1.out.grows ST.out.bs.gr; have D2A : Hid (Blk w2 (w.heap.size + 1 + 1) 40 #[.int .u8 px.r, .int .u8 px.g, .int .u8 px.b, .int .u8 px.a]) := B2.out.grows ST.out.bs.gr; clear h3 h4 h5 h6)
            | (go_at_call 18; (with_reducible refine Calls.mono (HFL.out _ aw lw cw ?_) ?_); (exact Hw.out.1.grows (by repeat (first | exact Grows.refl _ | apply Grows.grow | apply Grows.alloc | apply Grows.drew))); rintro e w' ⟨av, lv, cv, rfl, hgw, Hv⟩; (first | (obtain ⟨gu, rfl⟩ := grows_of_grow hgw) | (obtain ⟨gu, rfl⟩ := hgw)); (try simp only [grow_drew] at Hv))
            | (go_at_call 11; (with_reducible refine Calls.mono (HWI.out _ ?_) ?_); (exact GB5.out.trans (by repeat (first | exact Grows.refl _ | apply Grows.grow | apply Grows.alloc | apply Grows.drew))); rintro e w' ⟨aw, lw, cw, rfl, hgw, Hw⟩; (first | (obtain ⟨gv, rfl⟩ := grows_of_grow hgw) | (obtain ⟨gv, rfl⟩ := hgw)); (try simp only [grow_drew] at Hw))
            | fail)
          all_goals
            go_wp2_with ((at_builtin; refine wpList_append_reg rfl (.tmp 72) (.tmp 74) rfl W0.heap.size a2 k cap2 (.slice aa na ca) rfl rfl (ownsRow_grows ST.out.own (by repeat (first | exact Grows.refl _ | apply Grows.grow | apply Grows.alloc | apply Grows.drew))) _ _ rfl (by unfold Blk; repeat (first | exact blk_at _ _ _ (by first | omega | (simp; done) | (simp; omega)) | refine (blk_past _ _ _ (by first | omega | (simp; done) | (simp; omega))).trans ?_ | refine (heap_grow _ _ _ (by first | omega | (simp; done) | (simp; omega))).trans ?_ | refine (blk_drew _ _).trans ?_)) (by omega) (by have := ST.out.bs.gr.below.size; simp <;> omega) ?_; intro p3 cap3 w3 j1 j2 j3 j4; have SU := Lib.hid (ST.out.push2 (by repeat (first | exact Grows.refl _ | apply Grows.grow | apply Grows.alloc | apply Grows.drew)) j1 j2 j3); clear j1 j2 j3 j4))
            go_roundw
            case rel =>
              refine ⟨k + 1, some ⟨p', 0, none⟩, cap', some ⟨p3, 0, none⟩, cap3, _, by omega, by go_num, rfl, rfl, SU.out.grows (by repeat (first | exact Grows.refl _ | apply Grows.grow | apply Grows.alloc | apply Grows.drew)), fun j hj => ?_⟩
              by_cases e : j = k
              · subst e
                rw [if_pos rfl]
                exact HCT.out
              · rw [if_neg e]
                exact HCJ.out j (by omega)
            case measure => simp [intOf]; omega
    · obtain rfl : ll = k := by omega
      have LS := Lib.hid (ones_own hh.out.1.own)
      have HD2 : Hid (∀ W, Grows wr W → Calls Tryd.prog 13 #[.agg #[.int .i64 op, .slice ia ll ic, .slice pa pl pc], .slice a ll cap, .agg #[.int .i64 s.x0, .int .i64 s.y0, .int .i64 s.x1, .int .i64 s.y1]] W (RetBuf W q E)) := fun W gg => HDP.out W a cap g (GR.out.trans gg) (hh.out.1.bs.bufs.grows gg) (fun i hi => ⟨(hh.out.1.bs.buf i hi).grows gg, hh.out.2 i hi⟩)
      have HS2 : Hid (∀ W, Grows wr W → Calls Tryd.prog 19 #[.agg #[.int .i64 op, .slice ia ll ic, .slice pa pl pc], .slice a2 ll cap2] W (RetSp W op ps r)) := fun W gg => HSP.out W a2 cap2 aa na ca oa (GR.out.trans gg) (LS.out.grows gg) (LA.out.grows (GRW.out.trans gg)) LO.out
      have d0 := B0.out.grows GRW.out
      have d1 := B3.out.grows GRW.out
      obtain ⟨n0, n1, n2, nf⟩ := d0.c3
      obtain ⟨s0, s1, s2, s3, sf⟩ := d1.c4
      have l0 := d0.lt
      have l1 := d1.lt
      clear d0 d1 hh B0 B1 B2 HSP HDP HWN HFN LS
      go_wp2_with (first
        | (go_at_call 19; (with_reducible refine Calls.mono (HS2.out _ ?_) ?_); (exact (by repeat (first | exact Grows.refl _ | apply Grows.grow | apply Grows.alloc | apply Grows.drew))); rintro e w' ⟨asp, nsp, csp, osp, rfl, hgw, Hsp⟩; (first | (obtain ⟨gs, rfl⟩ := grows_of_grow hgw) | (obtain ⟨gs, rfl⟩ := hgw)))
        | (go_at_call 13; (with_reducible refine Calls.mono (HDO.out _ ?_) ?_); (exact GR.out.trans (by repeat (first | exact Grows.refl _ | apply Grows.grow | apply Grows.alloc | apply Grows.drew))); rintro e w' ⟨ax, lx, cx, rfl, hgw, Hx⟩; (first | (obtain ⟨gx, rfl⟩ := grows_of_grow hgw) | (obtain ⟨gx, rfl⟩ := hgw)); (try simp only [grow_drew] at Hx); (have HG1 := Lib.hid hgw))
        | (go_at_call 13; (with_reducible refine Calls.mono (HD2.out _ ?_) ?_); (exact (by repeat (first | exact Grows.refl _ | apply Grows.grow | apply Grows.alloc | apply Grows.drew))); rintro e w' ⟨ay, ly, cy, rfl, hgw, Hy⟩; (first | (obtain ⟨gy, rfl⟩ := grows_of_grow hgw) | (obtain ⟨gy, rfl⟩ := hgw)); (try simp only [grow_drew] at Hy); (have z0 : w.heap.size + 1 + 1 + 1 < wr.heap.size + gx.news.size := by omega); (have z1 : w.heap.size + 1 + 1 + 1 < wr.heap.size + gx.news.size + 1 := by omega); (have z2 : w.heap.size + 1 + 1 + 1 < wr.heap.size + gx.news.size + 1 + gy.news.size := by omega); (have z3 : w.heap.size + 1 + 1 + 1 < wr.heap.size + gx.news.size + 1 + gy.news.size + 1 := by omega)))
      refine wp_name ?_
      intro W1 hW1
      have E1 : Hid (Blk W1 (w.heap.size + 1 + 1 + 1) 27 #[.int .i64 s.x0, .int .i64 s.y0, .int .i64 s.x1, .int .i64 s.y1]) := by rw [hW1]; exact (B3.out.grows GRW.out).grows (by repeat (first | exact Grows.refl _ | apply Grows.grow | apply Grows.alloc | apply Grows.drew))
      have E2 : Hid (Blk W1 (wr.heap.size + gx.news.size) 35 #[.int .i64 q.x0, .int .i64 q.y0, .int .i64 q.x1, .int .i64 q.y1, .slice ax lx cx]) := by rw [hW1]; exact (by unfold Blk; repeat (first | exact blk_at _ _ _ (by first | omega | (simp; done) | (simp; omega)) | refine (blk_past _ _ _ (by first | omega | (simp; done) | (simp; omega))).trans ?_ | refine (heap_grow _ _ _ (by first | omega | (simp; done) | (simp; omega))).trans ?_ | refine (blk_drew _ _).trans ?_))
      have E3 : Hid (Blk W1 (wr.heap.size + gx.news.size + 1 + gy.news.size) 35 #[.int .i64 q.x0, .int .i64 q.y0, .int .i64 q.x1, .int .i64 q.y1, .slice ay ly cy]) := by rw [hW1]; exact (by unfold Blk; repeat (first | exact blk_at _ _ _ (by first | omega | (simp; done) | (simp; omega)) | refine (blk_past _ _ _ (by first | omega | (simp; done) | (simp; omega))).trans ?_ | refine (heap_grow _ _ _ (by first | omega | (simp; done) | (simp; omega))).trans ?_ | refine (blk_drew _ _).trans ?_))
      have YX : Hid (BufAt W1 q ax lx cx D) := by rw [hW1]; exact Hx.out.1.grows (by repeat (first | exact Grows.refl _ | apply Grows.grow | apply Grows.alloc | apply Grows.drew))
      have YY : Hid (BufAt W1 q ay ly cy E) := by rw [hW1]; exact Hy.out.1.grows (by repeat (first | exact Grows.refl _ | apply Grows.grow | apply Grows.alloc | apply Grows.drew))
      have LSP : Hid (IsRects W1 asp nsp csp osp) := by rw [hW1]; exact (Hsp.out.1.grows HG1.out).grows (by repeat (first | exact Grows.refl _ | apply Grows.grow | apply Grows.alloc | apply Grows.drew))
      have GW : Hid (Grows w W1) := by rw [hW1]; exact GR.out.trans (by repeat (first | exact Grows.refl _ | apply Grows.grow | apply Grows.alloc | apply Grows.drew))
      have HHS : Hid (∀ u v, hasR s u v = true → D u v = E u v ∨ hasL osp nsp u v = true) := fun u v h => by
        cases c : hasL osp nsp u v
        · exact .inl (HSL.out osp nsp u v Hsp.out.2 h c)
        · exact .inr rfl
      obtain ⟨nr, hnr⟩ : ∃ n, n = wr.heap.size + gx.news.size := ⟨_, rfl⟩
      rw [← hnr] at E2 E3 ⊢
      obtain ⟨nc, hnc⟩ : ∃ n, n = nr + 1 + gy.news.size := ⟨_, rfl⟩
      rw [← hnc] at E3 ⊢
      clear hW1 hnc hnr Hx Hy Hsp n0 n1 n2 nf s0 s1 s2 s3 sf l0 l1 HDO HD2 HS2 B3 HSL z0 z1 z2 z3 hcap hcap2
      go_loopw [19] (fun z w2 => ∃ v : Int, s.y0 ≤ v ∧ v ≤ 33554432 ∧ z = .int .i64 v ∧ Hid (Grows W1 w2)) (fun z _ => (s.y1 - intOf z).toNat)
      case atStart => exact ⟨s.y0, by omega, by omega, rfl, Grows.refl _⟩
      case round =>
        obtain ⟨v, hv1, hv2, rfl, hg2⟩ := hrel
        have d1 := E1.out.grows hg2.out
        obtain ⟨s0, s1, s2, s3, sf⟩ := d1.c4
        have ls := d1.lt
        clear d1
        by_cases hvl : v < s.y1
        · go_wp2
          clear s0 s1 s2 s3 sf ls
          go_loopw [20] (fun z w2 => ∃ u : Int, s.x0 ≤ u ∧ u ≤ 33554432 ∧ z = .int .i64 u ∧ Hid (Grows W1 w2)) (fun z _ => (s.x1 - intOf z).toNat)
          case atStart => exact ⟨s.x0, by omega, by omega, rfl, hg2.out⟩
          case round =>
            obtain ⟨u, hu1, hu2, rfl, hg3⟩ := hrel
            have d1 := E1.out.grows hg3.out
            obtain ⟨s0, s1, s2, s3, sf⟩ := d1.c4
            have ls := d1.lt
            have d2 := E2.out.grows hg3.out
            obtain ⟨t0, t1, t2, t3, t4, tf⟩ := d2.c5
            have lt := d2.lt
            have d3 := E3.out.grows hg3.out
            obtain ⟨x0, x1, x2, x3, x4, xf⟩ := d3.c5
            have lx2 := d3.lt
            clear d1 d2 d3
            by_cases hul : u < s.x1
            · have hin : hasR s u v = true := (hasR_iff _ _ _).2 ⟨hu1, hul, hv1, hvl⟩
              have HSRC := Lib.hid (YX.out.grows hg3.out)
              have HSRC2 := Lib.hid (YY.out.grows hg3.out)
              have hct : cntR q ≤ 140737488355328 := by omega
              cases c : eqP (D u v) (E u v)
              case true =>
                have HDE : Hid (D u v = E u v) := (eqP_iff _ _).1 c
                obtain ⟨p1, hp1⟩ : ∃ z, z = D u v := ⟨_, rfl⟩
                have HQ0 : Hid (D u v = p1) := hp1.symm
                have HQ1 : Hid (E u v = p1) := by rw [← HDE.out]; exact hp1.symm
                clear c hin hp1 HDE
                go_wp2
                first | refine region_grow2 (by kernel_rfl) (by kernel_rfl) ?_ | refine region_grow (by kernel_rfl) (by kernel_rfl) ?_
                repeat (go_big_quiet_step ((first | (go_at_call 20; exact grow_of (ref05_AtIs _ _ _ _ _ _ _ _ _ (Lib.hid (BufAt.grows HSRC.out (by repeat (first | exact Grows.refl _ | apply Grows.grow | apply Grows.alloc | apply Grows.drew)))) (by omega) HQ0)) | (go_at_call 20; exact grow_of (ref05_AtIs _ _ _ _ _ _ _ _ _ (Lib.hid (BufAt.grows HSRC2.out (by repeat (first | exact Grows.refl _ | apply Grows.grow | apply Grows.alloc | apply Grows.drew)))) (by omega) HQ1)))))
                refine wpQuiet_nil ?_
                rintro _ ⟨gd, rfl⟩
                go_wp2
                go_roundw
                case rel => exact ⟨u + 1, by omega, by omega, by go_num, hg3.out.trans (by repeat (first | exact Grows.refl _ | apply Grows.grow | apply Grows.alloc | apply Grows.drew))⟩
                case measure => simp [intOf]; omega
              case false =>
                have HHT : Hid (hasL osp nsp u v = true) := by
                  rcases HHS.out u v hin with e | e
                  · rw [(eqP_iff _ _).2 e] at c; cases c
                  · exact Lib.hid e
                have HHA : Hid (∀ W, Grows W1 W → Calls Tryd.prog 21 #[.slice asp nsp csp, .int .i64 u, .int .i64 v] W fun e w' => e = .returned (.bool true) ∧ Grows W w') := fun W g => ref04_Has asp nsp csp osp u v W true (Lib.hid (LSP.out.grows g)) HHT
                have HHB : Hid (∀ W, Grows wr W → Calls Tryd.prog 21 #[.slice asp nsp csp, .int .i64 u, .int .i64 v] W fun e w' => e = .returned (.bool true) ∧ Grows W w') := fun W g => HHA.out W (hg3.out.trans g)
                obtain ⟨p1, hp1⟩ : ∃ z, z = D u v := ⟨_, rfl⟩
                obtain ⟨p2, hp2⟩ : ∃ z, z = E u v := ⟨_, rfl⟩
                rw [← hp1, ← hp2] at c
                have HQ0 : Hid (D u v = p1) := hp1.symm
                have HQ1 : Hid (E u v = p2) := hp2.symm
                have hc : (p1.r == p2.r && (p1.g == p2.g && (p1.b == p2.b && p1.a == p2.a))) = false := c
                clear c hin hp1 hp2 HHT HHA
                go_wp2
                first | refine region_grow2 (by kernel_rfl) (by kernel_rfl) ?_ | refine region_grow (by kernel_rfl) (by kernel_rfl) ?_
                repeat (go_big_quiet_step ((first | (go_at_call 20; exact grow_of (ref05_AtIs _ _ _ _ _ _ _ _ _ (Lib.hid (BufAt.grows HSRC.out (by repeat (first | exact Grows.refl _ | apply Grows.grow | apply Grows.alloc | apply Grows.drew)))) (by omega) HQ0)) | (go_at_call 20; exact grow_of (ref05_AtIs _ _ _ _ _ _ _ _ _ (Lib.hid (BufAt.grows HSRC2.out (by repeat (first | exact Grows.refl _ | apply Grows.grow | apply Grows.alloc | apply Grows.drew)))) (by omega) HQ1)) | (go_at_call 21; exact grow_of (HHB.out _ (by repeat (first | exact Grows.refl _ | apply Grows.grow | apply Grows.alloc | apply Grows.drew)))))))
                refine wpQuiet_nil ?_
                rintro _ ⟨gd, rfl⟩
                go_wp2
                go_roundw
                case rel => exact ⟨u + 1, by omega, by omega, by go_num, hg3.out.trans (by repeat (first | exact Grows.refl _ | apply Grows.grow | apply Grows.alloc | apply Grows.drew))⟩
                case measure => simp [intOf]; omega
            · go_wp2
              go_roundw
              case rel => exact ⟨v + 1, by omega, by omega, by go_num, hg3.out.trans (by repeat (first | exact Grows.refl _ | apply Grows.grow | apply Grows.alloc | apply Grows.drew))⟩
              case measure => simp [intOf]; omega
        · go_wp2
          go_ret
          exact ⟨rfl, GW.out.trans (hg2.out.trans (by repeat (first | exact Grows.refl _ | apply Grows.grow | apply Grows.alloc | apply Grows.drew)))⟩
end Go.Proofs.YtklcmlbkhjcaiaaDoor
