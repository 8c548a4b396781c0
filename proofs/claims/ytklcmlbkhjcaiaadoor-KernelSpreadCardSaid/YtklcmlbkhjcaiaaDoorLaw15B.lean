/- Chapter 15's laws: awake. -/
import Derived.Test.YtklcmlbkhjcaiaaDoorK19
import Derived.Test.YtklcmlbkhjcaiaaDoorK9
import Derived.Deep.RegionHeld3




namespace Go.Proofs.YtklcmlbkhjcaiaaDoor
open Go.RowKit
set_option linter.unusedVariables false

theorem swap_block2 {w : World} (o o' q : Obj) (g : Growth) (k : Nat) (h : k ≠ w.heap.size) : (grow ((w.alloc o').alloc q) g).heap[k]? = (grow ((w.alloc o).alloc q) g).heap[k]? := by
  have e : ((w.alloc o').alloc q).heap[k]? = ((w.alloc o).alloc q).heap[k]? := by unfold World.alloc; simp [Array.getElem?_push, h]
  by_cases hk : k < w.heap.size + 1 + 1
  · rw [heap_grow _ _ _ (by simpa using hk), heap_grow _ _ _ (by simpa using hk)]
    exact e
  · unfold grow
    simp only [Array.getElem?_append]
    rw [if_neg (by simpa using hk), if_neg (by simpa using hk)]
    simp
theorem swap_ret2 {w : World} {o o' q : Obj} {g : Growth} {r : R} {a : Option Addr} {len cap B B0 : Nat} {F : Img} (h : BufAt (grow ((w.alloc o).alloc q) g) r a len cap F ∧ Open (grow ((w.alloc o).alloc q) g) a ∧ ∀ x, a = some x → B ≤ x.block) (hB : w.heap.size < B) (hB0 : B0 ≤ B) :
    Hid (BufAt (grow ((w.alloc o').alloc q) g) r a len cap F ∧ Open (grow ((w.alloc o').alloc q) g) a ∧ ∀ x, a = some x → B0 ≤ x.block) := by
  obtain ⟨h1, h2, h3⟩ := h
  have hs : (grow ((w.alloc o).alloc q) g).heap.size ≤ (grow ((w.alloc o').alloc q) g).heap.size := by simp
  exact ⟨⟨h1.good, h1.count, h1.fits, h1.pix.keep hs (fun _ x hx _ => swap_block2 o o' q g _ (by have := h3 x hx; omega))⟩, h2.keep hs (fun x hx _ => swap_block2 o o' q g _ (by have := h3 x hx; omega)), fun x hx => by have := h3 x hx; omega⟩
theorem bufs2 {w : World} {n : Nat} {t : R} {a b : Option Addr} {l c m d : Nat} {F G : Img} (h : Blk w n 35 #[.int .i64 t.x0, .int .i64 t.y0, .int .i64 t.x1, .int .i64 t.y1, .slice a l c, .int .i64 t.x0, .int .i64 t.y0, .int .i64 t.x1, .int .i64 t.y1, .slice b m d]) (h0 : BufAt w t a l c F) (h1 : BufAt w t b m d G) :
    IsBufs w (some ⟨n, 0, none⟩) 2 2 (fun i => if i = 0 then ⟨t, a, l, c, fun j => F (ptX t j) (ptY t j)⟩ else ⟨t, b, m, d, fun j => G (ptX t j) (ptY t j)⟩) := by
  refine ⟨Nat.le_refl _, by omega, fun i hi => ?_, fun _ => ⟨n, 0, rfl, h.lt, fun i hi => ?_⟩⟩
  · have : i = 0 ∨ i = 1 := by omega
    rcases this with rfl | rfl
    · exact h0.pix
    · exact h1.pix
  · have : i = 0 ∨ i = 1 := by omega
    rcases this with rfl | rfl
    · simp only [h.cell]; exact ⟨rfl, rfl, rfl, rfl, rfl⟩
    · simp only [h.cell]; exact ⟨rfl, rfl, rfl, rfl, rfl⟩
def unitR : R := ⟨0, 0, 1, 1⟩
theorem unitR_some : someR unitR = unitR := by simp [someR, emptyR, unitR]
theorem unitR_cnt : cntR unitR = 1 := by decide
theorem unitR_small : smallR unitR := by unfold smallR unitR; simp only; omega
def fldF (v0 v1 v2 v3 : Int) : Img := doF 6 (fl8 v0 v1 v2 v3) 0 (fun _ => noF) unitR
theorem fldF_at (v0 v1 v2 v3 : Int) : fldF v0 v1 v2 v3 0 0 = ⟨v0, v1, v2, v3⟩ := by
  unfold fldF
  rw [doF_6, cutF_in (by decide)]
  rfl
theorem node6 {v0 v1 v2 v3 : Int} (ok : okP ⟨v0, v1, v2, v3⟩) (rt : rightP ⟨v0, v1, v2, v3⟩) : NodeOk 6 (fl8 v0 v1 v2 v3) 0 :=
  ⟨by omega, fun h => absurd rfl h, fun h => by omega, by omega, fun h => by omega, fun h => by omega, fun h => by omega, fun _ => ⟨ok, rt⟩, fun _ => unitR_small, fun h => by omega, fun h => by omega, fun h => by omega, fun h => by omega, fun h => by omega, fun h => by omega⟩
theorem node7 : NodeOk 7 (fun _ => 1) 2 :=
  ⟨by omega, fun _ => by omega, fun _ => rfl, by omega, fun h => by omega, fun h => by omega, fun h => by omega, fun h => by omega, fun h => by omega, fun _ => by omega, fun h => by omega, fun h => by omega, fun h => by omega, fun h => by omega, fun h => by omega⟩
def sBuf1 (parts : Array (Nat × Value)) : Sem Value := Instr.buildSlice 25 1 parts
@[go_sem ↓] theorem slice_is_buf1 (parts : Array (Nat × Value)) : Instr.buildSlice 25 1 parts = sBuf1 parts := rfl
@[simp, go_sem] theorem slice_buf1 (w : World) (x0 y0 x1 y1 : Int) (a : Option Addr) (l c : Nat) : (sBuf1 #[(0, .agg #[.int .i64 x0, .int .i64 y0, .int .i64 x1, .int .i64 y1, .slice a l c])]).run Tryd.prog w = .ok (.slice (some ⟨w.heap.size, 0, none⟩) 1 1) (w.alloc (.cells #[.int .i64 x0, .int .i64 y0, .int .i64 x1, .int .i64 y1, .slice a l c] 35)) := by kernel_rfl
def sBuf2 (parts : Array (Nat × Value)) : Sem Value := Instr.buildSlice 25 2 parts
@[go_sem ↓] theorem slice_is_buf2 (parts : Array (Nat × Value)) : Instr.buildSlice 25 2 parts = sBuf2 parts := rfl
@[simp, go_sem] theorem slice_buf2 (w : World) (x0 y0 x1 y1 : Int) (a : Option Addr) (l c : Nat) (u0 v0 u1 v1 : Int) (b : Option Addr) (m d : Nat) : (sBuf2 #[(0, .agg #[.int .i64 x0, .int .i64 y0, .int .i64 x1, .int .i64 y1, .slice a l c]), (1, .agg #[.int .i64 u0, .int .i64 v0, .int .i64 u1, .int .i64 v1, .slice b m d])]).run Tryd.prog w = .ok (.slice (some ⟨w.heap.size, 0, none⟩) 2 2) (w.alloc (.cells #[.int .i64 x0, .int .i64 y0, .int .i64 x1, .int .i64 y1, .slice a l c, .int .i64 u0, .int .i64 v0, .int .i64 u1, .int .i64 v1, .slice b m d] 35)) := by kernel_rfl
theorem bd255 : okP ⟨255, 0, 0, 255⟩ ∧ rightP ⟨255, 0, 0, 255⟩ ∧ okP ⟨128, 128, 128, 255⟩ ∧ rightP ⟨128, 128, 128, 255⟩ := by
  unfold okP rightP; simp
theorem isInts1 {w : World} {n : Nat} {v : Int} (h : Blk w n 3 #[.int .i64 v]) (hv : -9223372036854775808 ≤ v ∧ v ≤ 9223372036854775807) : IsInts w (some ⟨n, 0, none⟩) 1 1 (fun _ => v) :=
  ⟨Nat.le_refl _, by omega, fun _ _ => hv, fun _ => ⟨n, 0, rfl, h.lt, fun i hi => by obtain rfl : i = 0 := by omega
                                                                                     exact h.cell 0⟩⟩

set_option maxRecDepth 100000 in
set_option maxHeartbeats 25600000 in
theorem awake15 (w : World) : Calls Tryd.prog 7 #[] w fun e w' => e = .returned (.bool true) ∧ Grows w w' := by
  obtain ⟨k1, k2, k3, k4⟩ := bd255
  have HFL : ∀ {v0 v1 v2 v3 : Int}, okP ⟨v0, v1, v2, v3⟩ → rightP ⟨v0, v1, v2, v3⟩ → Hid (∀ W g c, Grows w W → Hid (IsInts W (some ⟨g, 0, none⟩) 8 c (fl8 v0 v1 v2 v3)) → Calls Tryd.prog 13 #[.agg #[.int .i64 6, .slice none 0 0, .slice (some ⟨g, 0, none⟩) 8 c], .slice none 0 0, .agg #[.int .i64 0, .int .i64 0, .int .i64 1, .int .i64 1]] W (RetBuf W unitR (fldF v0 v1 v2 v3))) := fun ok rt W g c hg hi => by
    have := kernel_Do 6 none 0 0 (some ⟨g, 0, none⟩) 8 c (fl8 _ _ _ _) none 0 0 (fun _ => ⟨zeroR, none, 0, 0, fun _ => noP⟩) (fun _ => noF) unitR W hi (by decide) (Lib.hid (IsBufs.nil W _)) (Lib.hid (fun i hi => by omega)) (node6 ok rt) unitR_small (by rw [unitR_some, unitR_cnt]; omega) (by omega) (by omega)
    rw [unitR_some] at this
    exact this
  have HDA := HFL k1 k2
  have HDB := HFL k3 k4
  clear HFL k1 k2 k3 k4
  have PA := fldF_at 255 0 0 255
  have PB := fldF_at 128 128 128 255
  obtain ⟨FA, hFA⟩ : ∃ z, z = fldF 255 0 0 255 := ⟨_, rfl⟩
  obtain ⟨FB, hFB⟩ : ∃ z, z = fldF 128 128 128 255 := ⟨_, rfl⟩
  rw [← hFA] at HDA PA
  rw [← hFB] at HDB PB
  have HDC : Hid (∀ W n m i aA lA cA aB lB cB, Grows w W → Hid (Blk W n 35 #[.int .i64 0, .int .i64 0, .int .i64 1, .int .i64 1, .slice aA lA cA, .int .i64 0, .int .i64 0, .int .i64 1, .int .i64 1, .slice aB lB cB]) → Hid (Blk W m 3 #[.int .i64 1]) → Hid (BufAt W unitR aA lA cA FA) → Hid (BufAt W unitR aB lB cB FB) → Calls Tryd.prog 13 #[.agg #[.int .i64 7, .slice i 2 2, .slice (some ⟨m, 0, none⟩) 1 1], .slice (some ⟨n, 0, none⟩) 2 2, .agg #[.int .i64 0, .int .i64 0, .int .i64 1, .int .i64 1]] W (RetBuf W unitR (doF 7 (fun _ => 1) 2 (fun i => if i = 0 then FA else FB) unitR))) := fun W n m i aA lA cA aB lB cB hg hb hi h0 h1 => by
    have := kernel_Do 7 i 2 2 (some ⟨m, 0, none⟩) 1 1 (fun _ => 1) (some ⟨n, 0, none⟩) 2 2 _ (fun i => if i = 0 then FA else FB) unitR W (Lib.hid (isInts1 hi.out (by omega))) (by decide) (Lib.hid (bufs2 (t := unitR) hb.out h0.out h1.out)) (Lib.hid (fun i hi => by
      have : i = 0 ∨ i = 1 := by omega
      rcases this with rfl | rfl
      · exact ⟨h0.out, by show cntR unitR ≤ _; rw [unitR_cnt]; omega⟩
      · exact ⟨h1.out, by show cntR unitR ≤ _; rw [unitR_cnt]; omega⟩)) node7 unitR_small (by rw [unitR_some, unitR_cnt]; omega) (by omega) (by omega)
    rw [unitR_some] at this
    exact this
  have PC : doF 7 (fun _ => 1) 2 (fun i => if i = 0 then FA else FB) unitR 0 0 = ⟨128, 0, 0, 255⟩ := by
    rw [doF_7, cutF_in (by decide)]
    show blendP 1 (FA 0 0) (FB 0 0) = _
    rw [PA, PB]
    rfl
  obtain ⟨FC, hFC⟩ : ∃ z, z = doF 7 (fun _ => 1) 2 (fun i => if i = 0 then FA else FB) unitR := ⟨_, rfl⟩
  rw [← hFC] at HDC PC
  replace PC := Lib.hid PC
  clear hFA hFB hFC PA PB
  go_enter Tryd.func7, Tryd.ntmps7
  go_wp2
  rename_i K hK
  have TAIL : ∀ (na : Nat) (W1 : World) (aA : Option Addr) (lA cA : Nat) (u3 u4 u5 u6 u7 u8 u9 u10 u11 u12 u13 u14 u15 u16 u17 u18 u19 u20 u21 u22 u23 u24 u25 u26 u27 u28 u29 u30 u31 u32 u33 u34 u35 u36 u37 u38 u39 u40 : Value), w.heap.size < na → Hid (Grows w W1) → Hid (Blk W1 w.heap.size 27 #[.int .i64 0, .int .i64 0, .int .i64 1, .int .i64 1]) → Hid (Blk W1 na 35 #[.int .i64 0, .int .i64 0, .int .i64 1, .int .i64 1, .slice aA lA cA]) → Hid (BufAt W1 unitR aA lA cA FA) → K { tmps := #[.bool false, .pointer (some ⟨w.heap.size, 0, none⟩), .pointer (some ⟨na, 0, none⟩), u3, u4, u5, u6, u7, u8, u9, u10, u11, u12, u13, u14, u15, u16, u17, u18, u19, u20, u21, u22, u23, u24, u25, u26, u27, u28, u29, u30, u31, u32, u33, u34, u35, u36, u37, u38, u39, u40], defers := [] } W1 := by
    intro na W1 aA lA cA u3 u4 u5 u6 u7 u8 u9 u10 u11 u12 u13 u14 u15 u16 u17 u18 u19 u20 u21 u22 u23 u24 u25 u26 u27 u28 u29 u30 u31 u32 u33 u34 u35 u36 u37 u38 u39 u40 hna GW1 D0 DA XA
    refine hK _ _ ?_
    clear hK HDA
    obtain ⟨s0, s1, s2, s3, sf⟩ := D0.out.c4
    have l0 := D0.out.lt
    have la := DA.out.lt
    go_wp2
    rename_i K2 hK2
    have TAIL2 : ∀ (nb : Nat) (W2 : World) (aB : Option Addr) (lB cB : Nat) (u4 u5 u6 u7 u8 u9 u10 u11 u12 u13 u14 u15 u16 u17 u18 u19 u20 u21 u22 u23 u24 u25 u26 u27 u28 u29 u30 u31 u32 u33 u34 u35 u36 u37 u38 u39 u40 : Value), na < nb → Hid (Grows W1 W2) → Hid (Blk W2 nb 35 #[.int .i64 0, .int .i64 0, .int .i64 1, .int .i64 1, .slice aB lB cB]) → Hid (BufAt W2 unitR aB lB cB FB) → K2 { tmps := #[.bool false, .pointer (some ⟨w.heap.size, 0, none⟩), .pointer (some ⟨na, 0, none⟩), .pointer (some ⟨nb, 0, none⟩), u4, u5, u6, u7, u8, u9, u10, u11, u12, u13, u14, u15, u16, u17, u18, u19, u20, u21, u22, u23, u24, u25, u26, u27, u28, u29, u30, u31, u32, u33, u34, u35, u36, u37, u38, u39, u40], defers := [] } W2 := by
      intro nb W2 aB lB cB u4 u5 u6 u7 u8 u9 u10 u11 u12 u13 u14 u15 u16 u17 u18 u19 u20 u21 u22 u23 u24 u25 u26 u27 u28 u29 u30 u31 u32 u33 u34 u35 u36 u37 u38 u39 u40 hnb GW2 DB XB
      refine hK2 _ _ ?_
      clear hK2 HDB s0 s1 s2 s3 sf
      have GR := Lib.hid (GW1.out.trans GW2.out)
      have d0 := D0.out.grows GW2.out
      have da := DA.out.grows GW2.out
      obtain ⟨s0, s1, s2, s3, sf⟩ := d0.c4
      have ls := d0.lt
      obtain ⟨x0, x1, x2, x3, x4, xf⟩ := da.c5
      have lx := da.lt
      obtain ⟨y0, y1, y2, y3, y4, yf⟩ := DB.out.c5
      have ly := DB.out.lt
      have XA2 := Lib.hid (XA.out.grows GW2.out)
      clear d0 da
      go_wp2_with (first
        | (go_at_call 13; (with_reducible refine Calls.mono (HDC.out _ _ _ _ aA lA cA aB lB cB ?_ ?_ ?_ ?_ ?_) ?_); (exact GR.out.trans (by repeat (first | exact Grows.refl _ | apply Grows.grow | apply Grows.alloc | apply Grows.drew))); (exact Lib.hid (by unfold Blk; repeat (first | exact blk_at _ _ _ (by first | omega | (simp; done) | (simp; omega)) | refine (blk_past _ _ _ (by first | omega | (simp; done) | (simp; omega))).trans ?_ | refine (heap_grow _ _ _ (by first | omega | (simp; done) | (simp; omega))).trans ?_ | refine (blk_drew _ _).trans ?_))); (exact Lib.hid (by unfold Blk; repeat (first | exact blk_at _ _ _ (by first | omega | (simp; done) | (simp; omega)) | refine (blk_past _ _ _ (by first | omega | (simp; done) | (simp; omega))).trans ?_ | refine (heap_grow _ _ _ (by first | omega | (simp; done) | (simp; omega))).trans ?_ | refine (blk_drew _ _).trans ?_))); (exact Lib.hid (XA2.out.grows (by repeat (first | exact Grows.refl _ | apply Grows.grow | apply Grows.alloc | apply Grows.drew)))); (exact Lib.hid (XB.out.grows (by repeat (first | exact Grows.refl _ | apply Grows.grow | apply Grows.alloc | apply Grows.drew)))); rintro e w' ⟨aq, lq, cq, rfl, hgw, Hq⟩; (first | (obtain ⟨gd, rfl⟩ := grows_of_grow hgw) | (obtain ⟨gd, rfl⟩ := hgw)); (obtain rfl : lq = 1 := by have := Hq.out.1.count; rw [this]; exact unitR_cnt); (obtain ⟨bq, oq, hbq, lbq, -, q0, q1, q2, q3⟩ := Hq.out.1.px (x := 0) (y := 0) (by decide)); (obtain rfl : aq = some ⟨bq, oq, none⟩ := hbq); (rw [PC.out] at q0 q1 q2 q3); (simp only [show (idxR unitR 0 0).toNat = 0 from by decide, Nat.zero_mul, Nat.add_zero] at q0 q1 q2 q3); (have mq := Hq.out.1.most); (simp at lbq))
        | (go_at_call 25; refine (kernel_ByPoint _ _).mono ?_; rintro e w' ⟨rfl, hgw⟩; first | (obtain ⟨gw, rfl⟩ := grows_of_grow hgw) | (obtain ⟨gw, rfl⟩ := hgw)))
      go_ret
      exact ⟨rfl, GR.out.trans (by repeat (first | exact Grows.refl _ | apply Grows.grow | apply Grows.alloc | apply Grows.drew))⟩
    clear hK2
    go_region_held3 (fun w' => w'.cell? ⟨w.heap.size, 0, none⟩ = some (.int .i64 0) ∧ w'.cell? ⟨w.heap.size, 1, none⟩ = some (.int .i64 0) ∧ w'.cell? ⟨w.heap.size, 2, none⟩ = some (.int .i64 1) ∧ w'.cell? ⟨w.heap.size, 3, none⟩ = some (.int .i64 1)) (first | exact ⟨(D0.out.grows (by repeat (first | exact Grows.refl _ | apply Grows.grow | apply Grows.alloc | apply Grows.drew))).cell 0, (D0.out.grows (by repeat (first | exact Grows.refl _ | apply Grows.grow | apply Grows.alloc | apply Grows.drew))).cell 1, (D0.out.grows (by repeat (first | exact Grows.refl _ | apply Grows.grow | apply Grows.alloc | apply Grows.drew))).cell 2, (D0.out.grows (by repeat (first | exact Grows.refl _ | apply Grows.grow | apply Grows.alloc | apply Grows.drew))).cell 3⟩ | go_simp) (first
      | (go_at_call 24; (with_reducible refine Calls.mono (law15_flood _ 128 128 128 255 _ ?_ (by omega) (by omega) (by omega) (by omega)) ?_); (exact Lib.hid (by unfold Blk; repeat (first | exact blk_at _ _ _ (by first | omega | (simp; done) | (simp; omega)) | refine (blk_past _ _ _ (by first | omega | (simp; done) | (simp; omega))).trans ?_ | refine (heap_grow _ _ _ (by first | omega | (simp; done) | (simp; omega))).trans ?_ | refine (blk_drew _ _).trans ?_))); rintro e w' ⟨gn, gc, rfl, hgw, HF⟩; (first | (obtain ⟨gf, rfl⟩ := grows_of_grow hgw) | (obtain ⟨gf, rfl⟩ := hgw)); (try simp only [grow_drew] at HF))
      | (go_at_call 13; (with_reducible refine Calls.mono (HDB.out _ _ _ ?_ ?_) ?_); (exact GW1.out.trans (by repeat (first | exact Grows.refl _ | apply Grows.grow | apply Grows.alloc | apply Grows.drew))); (exact Lib.hid (IsInts.grows HF.out (by repeat (first | exact Grows.refl _ | apply Grows.grow | apply Grows.alloc | apply Grows.drew)))); rintro e w' ⟨aq, lq, cq, rfl, hgw, Hq⟩; (first | (obtain ⟨gd, rfl⟩ := grows_of_grow hgw) | (obtain ⟨gd, rfl⟩ := hgw)); (try simp only [grow_drew] at Hq)))
    all_goals exact TAIL2 _ _ _ _ _ _ _ _ _ _ _ _ _ _ _ _ _ _ _ _ _ _ _ _ _ _ _ _ _ _ _ _ _ _ _ _ _ _ _ _ _ _ (by first | omega | (simp; done) | (simp; omega)) (Lib.hid (by repeat (first | exact Grows.refl _ | apply Grows.grow | apply Grows.alloc | apply Grows.drew))) (Lib.hid (by unfold Blk; repeat (first | exact blk_at _ _ _ (by first | omega | (simp; done) | (simp; omega)) | refine (blk_past _ _ _ (by first | omega | (simp; done) | (simp; omega))).trans ?_ | refine (heap_grow _ _ _ (by first | omega | (simp; done) | (simp; omega))).trans ?_ | refine (blk_drew _ _).trans ?_))) (Lib.hid (by (first | (refine Hq.out.1.grows ?_; (repeat (first | exact Grows.refl _ | apply Grows.grow | apply Grows.alloc | apply Grows.drew)); done) | exact (swap_ret (B0 := 0) Hq.out (by first | omega | (simp; done) | (simp; omega)) (by omega)).out.1 | exact (swap_ret2 (B0 := 0) Hq.out (by first | omega | (simp; done) | (simp; omega)) (by omega)).out.1)))
  clear hK
  go_region_held3 (fun w' => w'.cell? ⟨w.heap.size, 0, none⟩ = some (.int .i64 0) ∧ w'.cell? ⟨w.heap.size, 1, none⟩ = some (.int .i64 0) ∧ w'.cell? ⟨w.heap.size, 2, none⟩ = some (.int .i64 1) ∧ w'.cell? ⟨w.heap.size, 3, none⟩ = some (.int .i64 1)) (go_simp) (first
    | (go_at_call 24; (with_reducible refine Calls.mono (law15_flood _ 255 0 0 255 _ ?_ (by omega) (by omega) (by omega) (by omega)) ?_); (exact Lib.hid (by unfold Blk; repeat (first | exact blk_at _ _ _ (by first | omega | (simp; done) | (simp; omega)) | refine (blk_past _ _ _ (by first | omega | (simp; done) | (simp; omega))).trans ?_ | refine (heap_grow _ _ _ (by first | omega | (simp; done) | (simp; omega))).trans ?_ | refine (blk_drew _ _).trans ?_))); rintro e w' ⟨gn, gc, rfl, hgw, HF⟩; (first | (obtain ⟨gf, rfl⟩ := grows_of_grow hgw) | (obtain ⟨gf, rfl⟩ := hgw)); (try simp only [grow_drew] at HF))
    | (go_at_call 13; (with_reducible refine Calls.mono (HDA.out _ _ _ ?_ ?_) ?_); (exact (by repeat (first | exact Grows.refl _ | apply Grows.grow | apply Grows.alloc | apply Grows.drew))); (exact Lib.hid (IsInts.grows HF.out (by repeat (first | exact Grows.refl _ | apply Grows.grow | apply Grows.alloc | apply Grows.drew)))); rintro e w' ⟨aq, lq, cq, rfl, hgw, Hq⟩; (first | (obtain ⟨gd, rfl⟩ := grows_of_grow hgw) | (obtain ⟨gd, rfl⟩ := hgw)); (try simp only [grow_drew] at Hq)))
  all_goals exact TAIL _ _ _ _ _ _ _ _ _ _ _ _ _ _ _ _ _ _ _ _ _ _ _ _ _ _ _ _ _ _ _ _ _ _ _ _ _ _ _ _ _ _ _ (by first | omega | (simp; done) | (simp; omega)) (Lib.hid (by repeat (first | exact Grows.refl _ | apply Grows.grow | apply Grows.alloc | apply Grows.drew))) (Lib.hid (by unfold Blk; repeat (first | exact blk_at _ _ _ (by first | omega | (simp; done) | (simp; omega)) | refine (blk_past _ _ _ (by first | omega | (simp; done) | (simp; omega))).trans ?_ | refine (heap_grow _ _ _ (by first | omega | (simp; done) | (simp; omega))).trans ?_ | refine (blk_drew _ _).trans ?_))) (Lib.hid (by unfold Blk; repeat (first | exact blk_at _ _ _ (by first | omega | (simp; done) | (simp; omega)) | refine (blk_past _ _ _ (by first | omega | (simp; done) | (simp; omega))).trans ?_ | refine (heap_grow _ _ _ (by first | omega | (simp; done) | (simp; omega))).trans ?_ | refine (blk_drew _ _).trans ?_))) (Lib.hid (by (first | (refine Hq.out.1.grows ?_; (repeat (first | exact Grows.refl _ | apply Grows.grow | apply Grows.alloc | apply Grows.drew)); done) | exact (swap_ret (B0 := 0) Hq.out (by first | omega | (simp; done) | (simp; omega)) (by omega)).out.1 | exact (swap_ret2 (B0 := 0) Hq.out (by first | omega | (simp; done) | (simp; omega)) (by omega)).out.1)))
end Go.Proofs.YtklcmlbkhjcaiaaDoor
