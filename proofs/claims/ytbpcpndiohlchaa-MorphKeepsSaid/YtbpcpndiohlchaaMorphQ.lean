/- The walks of layer 9: the queue, and the greatest along a line. -/
import Derived.Test.YtbpcpndiohlchaaItem
import Derived.Test.YtbpcpndiohlchaaRas
import Derived.WalkMore
import Derived.ScopeJumps
import Derived.Deep.RegionHeld3
import Derived.Deep.RegionLaw
namespace Go.Proofs.Ytbpcpndiohlchaa
open Go.RowKit
set_option linter.unusedVariables false

@[go_sem ↓] theorem build_is_item (parts : Array (Nat × Value)) : Instr.build 72 parts = bSem 72 parts := rfl
@[go_sem ↓] theorem build_is_queue (parts : Array (Nat × Value)) : Instr.build 69 parts = bSem 69 parts := rfl
@[go_sem ↓] theorem build_is_line (parts : Array (Nat × Value)) : Instr.build 54 parts = bSem 54 parts := rfl
@[simp, go_sem] theorem build_item (w : World) (k0 k1 : IntKind) (n0 n1 : Int) : (bSem 72 #[(0, .int k0 n0), (1, .int k1 n1)]).run Try.prog w = .ok (.agg #[.int k0 n0, .int k1 n1]) w := by kernel_rfl
@[simp, go_sem] theorem build_noqueue (w : World) : (bSem 69 #[]).run Try.prog w = .ok (.agg #[.slice none 0 0, .int .i64 0]) w := by kernel_rfl
@[simp, go_sem] theorem build_line (w : World) (a b : Option Addr) (l c m d : Nat) : (bSem 54 #[(0, .slice a l c), (1, .slice b m d)]).run Try.prog w = .ok (.agg #[.slice a l c, .slice b m d]) w := by kernel_rfl
def sSemI (parts : Array (Nat × Value)) : Sem Value := Instr.buildSlice 67 1 parts
@[go_sem ↓] theorem slice_is_item (parts : Array (Nat × Value)) : Instr.buildSlice 67 1 parts = sSemI parts := rfl
@[simp, go_sem] theorem slice_item (w : World) (n0 n1 : Int) : (sSemI #[(0, .agg #[.int .i64 n0, .int .u8 n1])]).run Try.prog w = .ok (.slice (some ⟨w.heap.size, 0, none⟩) 1 1) (w.alloc (.cells #[.int .i64 n0, .int .u8 n1] 72)) := by kernel_rfl

/-- What holds while lesser values go. -/
structure PushSt (w wr : World) (n : Nat) (q : Nat → Nat × Int) (a : Option Addr) (cap h i : Nat) (v : Int) (m len : Nat) : Prop where
  chg : Chg (fun k => n ≤ k) w wr
  qa : QAt wr n q a m cap h
  x : Blk wr w.heap.size 72 #[.int .i64 (i : Int), .int .u8 v]
  gone : ∀ j, m ≤ j → j < len → (q j).2 ≤ v
theorem PushSt.less {w wr : World} {n : Nat} {q : Nat → Nat × Int} {a : Option Addr} {cap h i : Nat} {v : Int} {m len : Nat} (s : PushSt w wr n q a cap h i v (m + 1) len) (hn : n < w.heap.size) (hv : (q m).2 ≤ v) : PushSt w (wr.setCell ⟨n, 0, none⟩ (.slice a m cap)) n q a cap h i v m len :=
  ⟨s.chg.setCell (.inl (Nat.le_refl n)) _, s.qa.less, s.x.far (by show w.heap.size ≠ n; omega) _, fun j hj hl => by
    by_cases e : j = m
    · rw [e]; exact hv
    · exact s.gone j (by omega) hl⟩

theorem PushSt.grows {w wr w' : World} {n : Nat} {q : Nat → Nat × Int} {a : Option Addr} {cap h i : Nat} {v : Int} {m len : Nat} (s : PushSt w wr n q a cap h i v m len) (g : Grows wr w') : PushSt w w' n q a cap h i v m len :=
  ⟨s.chg.grows g, s.qa.grows g, s.x.grows g, s.gone⟩
/-- How many items a queue in memory has. -/
def qLen (w : World) (n : Nat) : Nat := match w.cell? ⟨n, 0, none⟩ with | some (.slice _ l _) => l | _ => 0
theorem qLen_of {w : World} {n : Nat} {q : Nat → Nat × Int} {a : Option Addr} {len cap h : Nat} (k : QAt w n q a len cap h) : qLen w n = len := by
  unfold qLen
  rw [k.qb.c2.1]
theorem jump_normal {l : Nat} {J : Act → World → Prop} {Q : Exit → Act → World → Prop} {a : Act} {w : World} : Exit.jump l J Q .normal a w = Q .normal a w := rfl
theorem push_done {w wr w1 : World} {n : Nat} {q : Nat → Nat × Int} {a a1 : Option Addr} {cap cap1 h i : Nat} {v : Int} {M len : Nat} (HP : PushSt w wr n q a cap h i v M len) (hM1 : h ≤ M) (hM2 : M ≤ len) (hs : M = h ∨ v < (q (M - 1)).2) (GC : Chg (fun k => n ≤ k) w w1)
    (B0 : Blk w1 n 69 #[.slice a M cap, .int .i64 (h : Int)]) (h1 : w1.ownsRow (n + 1) 72 2 (.slice a1 (M + 1) cap1) (M + 1) (cellsI (putQ q M i v) (M + 1))) :
    Chg (fun k => n ≤ k) w (w1.setCell ⟨n, 0, none⟩ (.slice a1 (M + 1) cap1)) ∧ ∃ (m : Nat) (a' : Option Addr) (cap' : Nat), h ≤ m ∧ m ≤ len ∧ (∀ j, m ≤ j → j < len → (q j).2 ≤ v) ∧ (m = h ∨ v < (q (m - 1)).2) ∧ QAt (w1.setCell ⟨n, 0, none⟩ (.slice a1 (M + 1) cap1)) n (putQ q m i v) a' (m + 1) cap' h :=
  ⟨GC.setCell (.inl (Nat.le_refl n)) _, M, a1, cap1, hM1, hM2, HP.gone, hs, B0.set_ 0 _, ownsRow_far h1 (fun e => by have := (own_lt h1 _ e).1; simp at this; omega) _⟩

set_option maxHeartbeats 3200000 in
theorem morph_push (n : Nat) (q : Nat → Nat × Int) (a : Option Addr) (len cap h i : Nat) (v : Int) (w : World) (H : Hid (QAt w n q a len cap h)) (hh : h ≤ len) (hl : len ≤ 100000) (hi : i ≤ 100000) (hv0 : 0 ≤ v) (hv1 : v ≤ 255) :
    Calls Try.prog 49 #[.pointer (some ⟨n, 0, none⟩), .agg #[.int .i64 (i : Int), .int .u8 v]] w fun e w' => e = .returned (.tuple #[]) ∧ Chg (fun k => n ≤ k) w w' ∧ ∃ (m : Nat) (a' : Option Addr) (cap' : Nat), h ≤ m ∧ m ≤ len ∧ (∀ j, m ≤ j → j < len → (q j).2 ≤ v) ∧ (m = h ∨ v < (q (m - 1)).2) ∧ QAt w' n (putQ q m i v) a' (m + 1) cap' h := by
  have hn := H.out.qb.lt
  go_enter Try.func49, Try.ntmps49
  go_wp2
  have HP0 : Hid (PushSt w (w.alloc (.cells #[.int .i64 (i : Int), .int .u8 v] 72)) n q a cap h i v len len) := ⟨chg_grows (by repeat (first | exact Grows.refl _ | apply Grows.grow | apply Grows.alloc | apply Grows.drew)) _, H.out.grows (by repeat (first | exact Grows.refl _ | apply Grows.grow | apply Grows.alloc | apply Grows.drew)), (by unfold Blk; repeat (first | exact blk_at _ _ _ (by first | omega | (simp; done) | (simp; omega)) | refine (blk_past _ _ _ (by first | omega | (simp; done) | (simp; omega))).trans ?_ | refine (heap_grow _ _ _ (by first | omega | (simp; done) | (simp; omega))).trans ?_ | refine (blk_drew _ _).trans ?_)), fun j h1 h2 => by omega⟩
  have HA : Hid (∀ k, blkOf a = some k → k < w.heap.size) := fun k hk => (own_lt H.out.own k hk).2
  clear H
  refine wp_scope_jumps 0 (fun a' w' => ∃ (m : Nat) (u4 u5 u6 u7 u8 u9 u10 u11 u12 u13 u14 u15 u16 u17 u18 u19 u20 u21 u22 u23 u24 u25 u26 u27 u28 u29 u30 u31 u32 u33 u34 u35 u36 u37 u38 u39 u40 u41 u42 u43 u44 u45 u46 u47 u48 u49 : Value), a' = { tmps := #[.pointer (some ⟨n, 0, none⟩), .agg #[.int .i64 (i : Int), .int .u8 v], undef, .pointer (some ⟨w.heap.size, 0, none⟩), u4, u5, u6, u7, u8, u9, u10, u11, u12, u13, u14, u15, u16, u17, u18, u19, u20, u21, u22, u23, u24, u25, u26, u27, u28, u29, u30, u31, u32, u33, u34, u35, u36, u37, u38, u39, u40, u41, u42, u43, u44, u45, u46, u47, u48, u49], defers := [] } ∧ h ≤ m ∧ m ≤ len ∧ Hid (PushSt w w' n q a cap h i v m len)) (fun a' w' => qLen w' n) rfl ?_ ?_
  · obtain ⟨m, hm⟩ : ∃ m, m = len := ⟨_, rfl⟩
    have hm1 : h ≤ m := by omega
    have hm2 : m ≤ len := by omega
    refine wp_name ?_
    intro W hW
    have HP : Hid (PushSt w W n q a cap h i v m len) := by rw [hW, hm]; exact HP0.out
    clear HP0 hm hW
    go_wp2
    go_step3
    obtain ⟨b0, b1, bf⟩ := HP.out.qa.qb.c2
    have lb := HP.out.qa.qb.lt
    obtain ⟨x0, x1, xf⟩ := HP.out.x.c2
    have lx := HP.out.x.lt
    have hmost := HP.out.qa.most
    have hbase := HP.out.chg.size
    by_cases hm : h < m
    · obtain ⟨m, rfl⟩ : ∃ k, m = k + 1 := ⟨m - 1, by omega⟩
      have hg1 : (h : Int) < (m : Int) + 1 := by omega
      have hg2 : (m : Int) + 1 - 1 = m := by omega
      clear hm
      obtain ⟨bi, rfl, hbi, hbl, i0, i1⟩ := HP.out.qa.item (j := m) (by omega)
      by_cases hle : (q m).2 ≤ v
      · go_wp2
        first | refine region_grow2 (by kernel_rfl) (by kernel_rfl) ?_ | refine region_grow (by kernel_rfl) (by kernel_rfl) ?_
        repeat (go_big_quiet_step (fail))
        refine wpQuiet_nil ?_
        rintro _ ⟨ga, rfl⟩
        go_wp2
        go_step3
        exact ⟨rfl, m, _, _, _, _, _, _, _, _, _, _, _, _, _, _, _, _, _, _, _, _, _, _, _, _, _, _, _, _, _, _, _, _, _, _, _, _, _, _, _, _, _, _, _, _, _, _, rfl, by omega, by omega, (HP.out.less hn hle).grows (by repeat (first | exact Grows.refl _ | apply Grows.grow | apply Grows.alloc | apply Grows.drew))⟩
      · have hg3 : v < (q m).2 := by omega
        go_wp2
        first | refine region_grow2 (by kernel_rfl) (by kernel_rfl) ?_ | refine region_grow (by kernel_rfl) (by kernel_rfl) ?_
        repeat (go_big_quiet_step (fail))
        refine wpQuiet_nil ?_
        rintro _ ⟨ga, rfl⟩
        go_wp2
        go_region_law ((refine step_append_item (by rfl) (.tmp 44) (.tmp 46) (by rfl) (n + 1) (some ⟨bi, 0, none⟩) (m + 1) cap q i v (by rfl) (ownsRow_grows HP.out.qa.own (by repeat (first | exact Grows.refl _ | apply Grows.grow | apply Grows.alloc | apply Grows.drew))) _ 1 (by rfl) (by unfold Blk; repeat (first | exact blk_at _ _ _ (by first | omega | (simp; done) | (simp; omega)) | refine (blk_past _ _ _ (by first | omega | (simp; done) | (simp; omega))).trans ?_ | refine (heap_grow _ _ _ (by first | omega | (simp; done) | (simp; omega))).trans ?_ | refine (blk_drew _ _).trans ?_)) (by omega) (by simp; omega) ?_; intro a1 cap1 w1 h1 h2; have B0 : Blk w1 n 69 #[.slice (some ⟨bi, 0, none⟩) (m + 1) cap, .int .i64 (h : Int)] := (by { refine Blk.grown ?_ h2 (fun e => ?_); exact HP.out.qa.qb.grows (by repeat (first | exact Grows.refl _ | apply Grows.grow | apply Grows.alloc | apply Grows.drew)); have := own_lt HP.out.qa.own _ e.symm; omega }); obtain ⟨d0, d1, df⟩ := B0.c2; have ld := B0.lt; have GC := chg_of HP.out.chg (by exact (by repeat (first | exact Grows.refl _ | apply Grows.grow | apply Grows.alloc | apply Grows.drew))) h2 (fun k hk => (own_lt HP.out.qa.own k hk).1); have XB : Blk w1 w.heap.size 72 #[.int .i64 (i : Int), .int .u8 v] := (by { refine Blk.grown ?_ h2 (fun e => ?_); exact HP.out.x.grows (by repeat (first | exact Grows.refl _ | apply Grows.grow | apply Grows.alloc | apply Grows.drew)); have := HA.out _ e.symm; omega }); obtain ⟨y0, y1, yf⟩ := XB.c2; clear XB; replace h1 := Lib.hid h1; replace GC := Lib.hid GC; replace B0 := Lib.hid B0; clear h2))
        all_goals go_wp2
        all_goals rw [jump_normal]
        all_goals go_end0
        all_goals exact ⟨rfl, push_done HP.out (by omega) (by omega) (.inr hg3) GC.out B0.out h1.out⟩
    · obtain rfl : m = h := by omega
      go_wp2
      first | refine region_grow2 (by kernel_rfl) (by kernel_rfl) ?_ | refine region_grow (by kernel_rfl) (by kernel_rfl) ?_
      repeat (go_big_quiet_step (fail))
      refine wpQuiet_nil ?_
      rintro _ ⟨ga, rfl⟩
      go_wp2
      go_region_law ((refine step_append_item (by rfl) (.tmp 44) (.tmp 46) (by rfl) (n + 1) a m cap q i v (by rfl) (ownsRow_grows HP.out.qa.own (by repeat (first | exact Grows.refl _ | apply Grows.grow | apply Grows.alloc | apply Grows.drew))) _ 1 (by rfl) (by unfold Blk; repeat (first | exact blk_at _ _ _ (by first | omega | (simp; done) | (simp; omega)) | refine (blk_past _ _ _ (by first | omega | (simp; done) | (simp; omega))).trans ?_ | refine (heap_grow _ _ _ (by first | omega | (simp; done) | (simp; omega))).trans ?_ | refine (blk_drew _ _).trans ?_)) (by omega) (by simp; omega) ?_; intro a1 cap1 w1 h1 h2; have B0 : Blk w1 n 69 #[.slice a m cap, .int .i64 (m : Int)] := (by { refine Blk.grown ?_ h2 (fun e => ?_); exact HP.out.qa.qb.grows (by repeat (first | exact Grows.refl _ | apply Grows.grow | apply Grows.alloc | apply Grows.drew)); have := own_lt HP.out.qa.own _ e.symm; omega }); obtain ⟨d0, d1, df⟩ := B0.c2; have ld := B0.lt; have GC := chg_of HP.out.chg (by exact (by repeat (first | exact Grows.refl _ | apply Grows.grow | apply Grows.alloc | apply Grows.drew))) h2 (fun k hk => (own_lt HP.out.qa.own k hk).1); have XB : Blk w1 w.heap.size 72 #[.int .i64 (i : Int), .int .u8 v] := (by { refine Blk.grown ?_ h2 (fun e => ?_); exact HP.out.x.grows (by repeat (first | exact Grows.refl _ | apply Grows.grow | apply Grows.alloc | apply Grows.drew)); have := HA.out _ e.symm; omega }); obtain ⟨y0, y1, yf⟩ := XB.c2; clear XB; replace h1 := Lib.hid h1; replace GC := Lib.hid GC; replace B0 := Lib.hid B0; clear h2))
      all_goals go_wp2
      all_goals rw [jump_normal]
      all_goals go_end0
      all_goals exact ⟨rfl, push_done HP.out (by omega) (by omega) (.inl rfl) GC.out B0.out h1.out⟩
  · rintro a' W ⟨m, u4, u5, u6, u7, u8, u9, u10, u11, u12, u13, u14, u15, u16, u17, u18, u19, u20, u21, u22, u23, u24, u25, u26, u27, u28, u29, u30, u31, u32, u33, u34, u35, u36, u37, u38, u39, u40, u41, u42, u43, u44, u45, u46, u47, u48, u49, rfl, hm1, hm2, HP⟩
    clear HP0
    obtain ⟨b0, b1, bf⟩ := HP.out.qa.qb.c2
    have lb := HP.out.qa.qb.lt
    obtain ⟨x0, x1, xf⟩ := HP.out.x.c2
    have lx := HP.out.x.lt
    have hmost := HP.out.qa.most
    have hbase := HP.out.chg.size
    by_cases hm : h < m
    · obtain ⟨m, rfl⟩ : ∃ k, m = k + 1 := ⟨m - 1, by omega⟩
      have hg1 : (h : Int) < (m : Int) + 1 := by omega
      have hg2 : (m : Int) + 1 - 1 = m := by omega
      clear hm
      obtain ⟨bi, rfl, hbi, hbl, i0, i1⟩ := HP.out.qa.item (j := m) (by omega)
      by_cases hle : (q m).2 ≤ v
      · go_wp2
        first | refine region_grow2 (by kernel_rfl) (by kernel_rfl) ?_ | refine region_grow (by kernel_rfl) (by kernel_rfl) ?_
        repeat (go_big_quiet_step (fail))
        refine wpQuiet_nil ?_
        rintro _ ⟨ga, rfl⟩
        go_wp2
        go_step3
        exact ⟨rfl, ⟨m, _, _, _, _, _, _, _, _, _, _, _, _, _, _, _, _, _, _, _, _, _, _, _, _, _, _, _, _, _, _, _, _, _, _, _, _, _, _, _, _, _, _, _, _, _, _, rfl, by omega, by omega, (HP.out.less hn hle).grows (by repeat (first | exact Grows.refl _ | apply Grows.grow | apply Grows.alloc | apply Grows.drew))⟩, by rw [qLen_of ((HP.out.less hn hle).grows (by repeat (first | exact Grows.refl _ | apply Grows.grow | apply Grows.alloc | apply Grows.drew))).qa, qLen_of HP.out.qa]; omega⟩
      · have hg3 : v < (q m).2 := by omega
        go_wp2
        first | refine region_grow2 (by kernel_rfl) (by kernel_rfl) ?_ | refine region_grow (by kernel_rfl) (by kernel_rfl) ?_
        repeat (go_big_quiet_step (fail))
        refine wpQuiet_nil ?_
        rintro _ ⟨ga, rfl⟩
        go_wp2
        go_region_law ((refine step_append_item (by rfl) (.tmp 44) (.tmp 46) (by rfl) (n + 1) (some ⟨bi, 0, none⟩) (m + 1) cap q i v (by rfl) (ownsRow_grows HP.out.qa.own (by repeat (first | exact Grows.refl _ | apply Grows.grow | apply Grows.alloc | apply Grows.drew))) _ 1 (by rfl) (by unfold Blk; repeat (first | exact blk_at _ _ _ (by first | omega | (simp; done) | (simp; omega)) | refine (blk_past _ _ _ (by first | omega | (simp; done) | (simp; omega))).trans ?_ | refine (heap_grow _ _ _ (by first | omega | (simp; done) | (simp; omega))).trans ?_ | refine (blk_drew _ _).trans ?_)) (by omega) (by simp; omega) ?_; intro a1 cap1 w1 h1 h2; have B0 : Blk w1 n 69 #[.slice (some ⟨bi, 0, none⟩) (m + 1) cap, .int .i64 (h : Int)] := (by { refine Blk.grown ?_ h2 (fun e => ?_); exact HP.out.qa.qb.grows (by repeat (first | exact Grows.refl _ | apply Grows.grow | apply Grows.alloc | apply Grows.drew)); have := own_lt HP.out.qa.own _ e.symm; omega }); obtain ⟨d0, d1, df⟩ := B0.c2; have ld := B0.lt; have GC := chg_of HP.out.chg (by exact (by repeat (first | exact Grows.refl _ | apply Grows.grow | apply Grows.alloc | apply Grows.drew))) h2 (fun k hk => (own_lt HP.out.qa.own k hk).1); have XB : Blk w1 w.heap.size 72 #[.int .i64 (i : Int), .int .u8 v] := (by { refine Blk.grown ?_ h2 (fun e => ?_); exact HP.out.x.grows (by repeat (first | exact Grows.refl _ | apply Grows.grow | apply Grows.alloc | apply Grows.drew)); have := HA.out _ e.symm; omega }); obtain ⟨y0, y1, yf⟩ := XB.c2; clear XB; replace h1 := Lib.hid h1; replace GC := Lib.hid GC; replace B0 := Lib.hid B0; clear h2))
        all_goals go_wp2
        all_goals rw [jump_normal]
        all_goals go_end0
        all_goals exact ⟨rfl, push_done HP.out (by omega) (by omega) (.inr hg3) GC.out B0.out h1.out⟩
    · obtain rfl : m = h := by omega
      go_wp2
      first | refine region_grow2 (by kernel_rfl) (by kernel_rfl) ?_ | refine region_grow (by kernel_rfl) (by kernel_rfl) ?_
      repeat (go_big_quiet_step (fail))
      refine wpQuiet_nil ?_
      rintro _ ⟨ga, rfl⟩
      go_wp2
      go_region_law ((refine step_append_item (by rfl) (.tmp 44) (.tmp 46) (by rfl) (n + 1) a m cap q i v (by rfl) (ownsRow_grows HP.out.qa.own (by repeat (first | exact Grows.refl _ | apply Grows.grow | apply Grows.alloc | apply Grows.drew))) _ 1 (by rfl) (by unfold Blk; repeat (first | exact blk_at _ _ _ (by first | omega | (simp; done) | (simp; omega)) | refine (blk_past _ _ _ (by first | omega | (simp; done) | (simp; omega))).trans ?_ | refine (heap_grow _ _ _ (by first | omega | (simp; done) | (simp; omega))).trans ?_ | refine (blk_drew _ _).trans ?_)) (by omega) (by simp; omega) ?_; intro a1 cap1 w1 h1 h2; have B0 : Blk w1 n 69 #[.slice a m cap, .int .i64 (m : Int)] := (by { refine Blk.grown ?_ h2 (fun e => ?_); exact HP.out.qa.qb.grows (by repeat (first | exact Grows.refl _ | apply Grows.grow | apply Grows.alloc | apply Grows.drew)); have := own_lt HP.out.qa.own _ e.symm; omega }); obtain ⟨d0, d1, df⟩ := B0.c2; have ld := B0.lt; have GC := chg_of HP.out.chg (by exact (by repeat (first | exact Grows.refl _ | apply Grows.grow | apply Grows.alloc | apply Grows.drew))) h2 (fun k hk => (own_lt HP.out.qa.own k hk).1); have XB : Blk w1 w.heap.size 72 #[.int .i64 (i : Int), .int .u8 v] := (by { refine Blk.grown ?_ h2 (fun e => ?_); exact HP.out.x.grows (by repeat (first | exact Grows.refl _ | apply Grows.grow | apply Grows.alloc | apply Grows.drew)); have := HA.out _ e.symm; omega }); obtain ⟨y0, y1, yf⟩ := XB.c2; clear XB; replace h1 := Lib.hid h1; replace GC := Lib.hid GC; replace B0 := Lib.hid B0; clear h2))
      all_goals go_wp2
      all_goals rw [jump_normal]
      all_goals go_end0
      all_goals exact ⟨rfl, push_done HP.out (by omega) (by omega) (.inl rfl) GC.out B0.out h1.out⟩
end Go.Proofs.Ytbpcpndiohlchaa
