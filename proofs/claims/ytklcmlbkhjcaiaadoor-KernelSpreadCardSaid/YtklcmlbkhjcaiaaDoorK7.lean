/- The walks of layer 9: the queue, and the greatest along a line. -/
import Derived.Test.YtklcmlbkhjcaiaaDoorItem
import Derived.Test.YtklcmlbkhjcaiaaDoorRas
import Derived.WalkMore
import Derived.ScopeJumps
import Derived.Deep.RegionHeld3
import Derived.Deep.RegionLaw







namespace Go.Proofs.YtklcmlbkhjcaiaaDoor
open Go.RowKit
set_option linter.unusedVariables false

@[go_sem ↓] theorem build_is_item (parts : Array (Nat × Value)) : Instr.build 126 parts = bSem 126 parts := rfl
@[go_sem ↓] theorem build_is_queue (parts : Array (Nat × Value)) : Instr.build 123 parts = bSem 123 parts := rfl
@[go_sem ↓] theorem build_is_line (parts : Array (Nat × Value)) : Instr.build 105 parts = bSem 105 parts := rfl
@[simp, go_sem] theorem build_item (w : World) (k0 k1 : IntKind) (n0 n1 : Int) : (bSem 126 #[(0, .int k0 n0), (1, .int k1 n1)]).run Tryd.prog w = .ok (.agg #[.int k0 n0, .int k1 n1]) w := by kernel_rfl
@[simp, go_sem] theorem build_noqueue (w : World) : (bSem 123 #[]).run Tryd.prog w = .ok (.agg #[.slice none 0 0, .int .i64 0]) w := by kernel_rfl
@[simp, go_sem] theorem build_line (w : World) (a b : Option Addr) (l c m d : Nat) : (bSem 105 #[(0, .slice a l c), (1, .slice b m d)]).run Tryd.prog w = .ok (.agg #[.slice a l c, .slice b m d]) w := by kernel_rfl
def sSemI (parts : Array (Nat × Value)) : Sem Value := Instr.buildSlice 121 1 parts
@[go_sem ↓] theorem slice_is_item (parts : Array (Nat × Value)) : Instr.buildSlice 121 1 parts = sSemI parts := rfl
@[simp, go_sem] theorem slice_item (w : World) (n0 n1 : Int) : (sSemI #[(0, .agg #[.int .i64 n0, .int .u8 n1])]).run Tryd.prog w = .ok (.slice (some ⟨w.heap.size, 0, none⟩) 1 1) (w.alloc (.cells #[.int .i64 n0, .int .u8 n1] 126)) := by kernel_rfl

/-- What holds while lesser values go. -/
structure PushSt (w wr : World) (n : Nat) (q : Nat → Nat × Int) (a : Option Addr) (cap h i : Nat) (v : Int) (m len : Nat) : Prop where
  chg : Chg (fun k => n ≤ k) w wr
  qa : QAt wr n q a m cap h
  x : Blk wr w.heap.size 126 #[.int .i64 (i : Int), .int .u8 v]
  gone : ∀ j, m ≤ j → j < len → (q j).2 ≤ v
theorem PushSt.less {w wr : World} {n : Nat} {q : Nat → Nat × Int} {a : Option Addr} {cap h i : Nat} {v : Int} {m len : Nat} (s : PushSt w wr n q a cap h i v (m + 1) len) (hn : n < w.heap.size) (hv : (q m).2 ≤ v) : PushSt w (wr.setCell ⟨n, 0, none⟩ (.slice a m cap)) n q a cap h i v m len :=
  ⟨s.chg.setCell (.inl (Nat.le_refl n)) _, s.qa.less, s.x.far (by show w.heap.size ≠ n; omega) _, fun j hj hl => by
    by_cases e : j = m
    · rw [e]; exact hv
    · exact s.gone j (by omega) hl⟩

theorem PushSt.grows {w wr w' : World} {n : Nat} {q : Nat → Nat × Int} {a : Option Addr} {cap h i : Nat} {v : Int} {m len : Nat} (s : PushSt w wr n q a cap h i v m len) (g : Grows wr w') : PushSt w w' n q a cap h i v m len :=
  ⟨s.chg.grows g, s.qa.grows g, s.x.grows g, s.gone⟩
/-- How many items a queue in memory has. -/
def qLen (w : World) (n : Nat) : Nat := match w.cell? ⟨n, 0, none⟩ with | some (.slice _ l _) => l | _ => 0
theorem qLen_of {w : World} {n : Nat} {q : Nat → Nat × Int} {a : Option Addr} {len cap h : Nat} (k : QAt w n q a len cap h) : qLen w n = len := by
  unfold qLen
  rw [k.qb.c2.1]
theorem jump_normal {l : Nat} {J : Act → World → Prop} {Q : Exit → Act → World → Prop} {a : Act} {w : World} : Exit.jump l J Q .normal a w = Q .normal a w := rfl
theorem push_done {w wr w1 : World} {n : Nat} {q : Nat → Nat × Int} {a a1 : Option Addr} {cap cap1 h i : Nat} {v : Int} {M len : Nat} (HP : PushSt w wr n q a cap h i v M len) (hM1 : h ≤ M) (hM2 : M ≤ len) (hs : M = h ∨ v < (q (M - 1)).2) (GC : Chg (fun k => n ≤ k) w w1)
    (B0 : Blk w1 n 123 #[.slice a M cap, .int .i64 (h : Int)]) (h1 : w1.ownsRow (n + 1) 126 2 (.slice a1 (M + 1) cap1) (M + 1) (cellsI (putQ q M i v) (M + 1))) :
    Chg (fun k => n ≤ k) w (w1.setCell ⟨n, 0, none⟩ (.slice a1 (M + 1) cap1)) ∧ ∃ (m : Nat) (a' : Option Addr) (cap' : Nat), h ≤ m ∧ m ≤ len ∧ (∀ j, m ≤ j → j < len → (q j).2 ≤ v) ∧ (m = h ∨ v < (q (m - 1)).2) ∧ QAt (w1.setCell ⟨n, 0, none⟩ (.slice a1 (M + 1) cap1)) n (putQ q m i v) a' (m + 1) cap' h :=
  ⟨GC.setCell (.inl (Nat.le_refl n)) _, M, a1, cap1, hM1, hM2, HP.gone, hs, B0.set_ 0 _, ownsRow_far h1 (fun e => by have := (own_lt h1 _ e).1; simp at this; omega) _⟩

set_option maxHeartbeats 3200000 in
theorem morph_push (n : Nat) (q : Nat → Nat × Int) (a : Option Addr) (len cap h i : Nat) (v : Int) (w : World) (H : Hid (QAt w n q a len cap h)) (hh : h ≤ len) (hl : len ≤ 100000) (hi : i ≤ 100000) (hv0 : 0 ≤ v) (hv1 : v ≤ 255) :
    Calls Tryd.prog 108 #[.pointer (some ⟨n, 0, none⟩), .agg #[.int .i64 (i : Int), .int .u8 v]] w fun e w' => e = .returned (.tuple #[]) ∧ Chg (fun k => n ≤ k) w w' ∧ ∃ (m : Nat) (a' : Option Addr) (cap' : Nat), h ≤ m ∧ m ≤ len ∧ (∀ j, m ≤ j → j < len → (q j).2 ≤ v) ∧ (m = h ∨ v < (q (m - 1)).2) ∧ QAt w' n (putQ q m i v) a' (m + 1) cap' h := by
  have hn := H.out.qb.lt
  go_enter Tryd.func108, Tryd.ntmps108
  go_wp2
  have HP0 : Hid (PushSt w (w.alloc (.cells #[.int .i64 (i : Int), .int .u8 v] 126)) n q a cap h i v len len) := ⟨chg_grows (by repeat (first | exact Grows.refl _ | apply Grows.grow | apply Grows.alloc | apply Grows.drew)) _, H.out.grows (by repeat (first | exact Grows.refl _ | apply Grows.grow | apply Grows.alloc | apply Grows.drew)), (by unfold Blk; repeat (first | exact blk_at _ _ _ (by first | omega | (simp; done) | (simp; omega)) | refine (blk_past _ _ _ (by first | omega | (simp; done) | (simp; omega))).trans ?_ | refine (heap_grow _ _ _ (by first | omega | (simp; done) | (simp; omega))).trans ?_ | refine (blk_drew _ _).trans ?_)), fun j h1 h2 => by omega⟩
  have HA : Hid (∀ k, blkOf a = some k → k < w.heap.size) := fun k hk => (own_lt H.out.own k hk).2
  clear H
  refine wp_scope_jumps 0 (fun a' w' => ∃ (m : Nat) (u4 u5 u6 u7 u8 u9 u10 u11 u12 u13 u14 u15 u16 u17 u18 u19 u20 u21 u22 u23 u24 u25 u26 u27 u28 u29 u30 u31 u32 u33 u34 u35 u36 u37 u38 u39 u40 u41 u42 u43 u44 u45 u46 u47 u48 u49 : Value), a' = { tmps := #[.pointer (some ⟨n, 0, none⟩), .agg #[.int .i64 (i : Int), .int .u8 v], undef, .pointer (some ⟨w.heap.size, 0, none⟩), u4, u5, u6, u7, u8, u9, u10, u11, u12, u13, u14, u15, u16, u17, u18, u19, u20, u21, u22, u23, u24, u25, u26, u27, u28, u29, u30, u31, u32, u33, u34, u35, u36, u37, u38, u39, u40, u41, u42, u43, u44, u45, u46, u47, u48, u49], defers := [] } ∧ h ≤ m ∧ m ≤ len ∧ Hid (PushSt w w' n q a cap h i v m len)) (fun a' w' => qLen w' n) rfl ?_ ?_
  · obtain ⟨m, hm⟩ : ∃ m, m = len := ⟨_, rfl⟩
    have hm1 : h ≤ m := by omega
    have hm2 : m ≤ len := by omega
    refine wp_name ?_
    intro W hW
    have HP : Hid (PushSt w W n q a cap h i v m len) := by rw [hW, hm]; exact HP0.out
    clear HP0 hm hW
    go_wp2
    go_step3
    obtain ⟨b0, b1, bf⟩ := HP.out.qa.qb.c2
    have lb := HP.out.qa.qb.lt
    obtain ⟨x0, x1, xf⟩ := HP.out.x.c2
    have lx := HP.out.x.lt
    have hmost := HP.out.qa.most
    have hbase := HP.out.chg.size
    by_cases hm : h < m
    · obtain ⟨m, rfl⟩ : ∃ k, m = k + 1 := ⟨m - 1, by omega⟩
      have hg1 : (h : Int) < (m : Int) + 1 := by omega
      have hg2 : (m : Int) + 1 - 1 = m := by omega
      clear hm
      obtain ⟨bi, rfl, hbi, hbl, i0, i1⟩ := HP.out.qa.item (j := m) (by omega)
      by_cases hle : (q m).2 ≤ v
      · go_wp2
        first | refine region_grow2 (by kernel_rfl) (by kernel_rfl) ?_ | refine region_grow (by kernel_rfl) (by kernel_rfl) ?_
        repeat (go_big_quiet_step (fail))
        refine wpQuiet_nil ?_
        rintro _ ⟨ga, rfl⟩
        go_wp2
        go_step3
        exact ⟨rfl, m, _, _, _, _, _, _, _, _, _, _, _, _, _, _, _, _, _, _, _, _, _, _, _, _, _, _, _, _, _, _, _, _, _, _, _, _, _, _, _, _, _, _, _, _, _, _, rfl, by omega, by omega, (HP.out.less hn hle).grows (by repeat (first | exact Grows.refl _ | apply Grows.grow | apply Grows.alloc | apply Grows.drew))⟩
      · have hg3 : v < (q m).2 := by omega
        go_wp2
        first | refine region_grow2 (by kernel_rfl) (by kernel_rfl) ?_ | refine region_grow (by kernel_rfl) (by kernel_rfl) ?_
        repeat (go_big_quiet_step (fail))
        refine wpQuiet_nil ?_
        rintro _ ⟨ga, rfl⟩
        go_wp2
        go_region_law ((refine step_append_item (by rfl) (.tmp 44) (.tmp 46) (by rfl) (n + 1) (some ⟨bi, 0, none⟩) (m + 1) cap q i v (by rfl) (ownsRow_grows HP.out.qa.own (by repeat (first | exact Grows.refl _ | apply Grows.grow | apply Grows.alloc | apply Grows.drew))) _ 1 (by rfl) (by unfold Blk; repeat (first | exact blk_at _ _ _ (by first | omega | (simp; done) | (simp; omega)) | refine (blk_past _ _ _ (by first | omega | (simp; done) | (simp; omega))).trans ?_ | refine (heap_grow _ _ _ (by first | omega | (simp; done) | (simp; omega))).trans ?_ | refine (blk_drew _ _).trans ?_)) (by omega) (by simp; omega) ?_; intro a1 cap1 w1 h1 h2; have B0 : Blk w1 n 123 #[.slice (some ⟨bi, 0, none⟩) (m + 1) cap, .int .i64 (h : Int)] := (by { refine Blk.grown ?_ h2 (fun e => ?_); exact HP.out.qa.qb.grows (by repeat (first | exact Grows.refl _ | apply Grows.grow | apply Grows.alloc | apply Grows.drew)); have := own_lt HP.out.qa.own _ e.symm; omega }); obtain ⟨d0, d1, df⟩ := B0.c2; have ld := B0.lt; have GC := chg_of HP.out.chg (by exact (by repeat (first | exact Grows.refl _ | apply Grows.grow | apply Grows.alloc | apply Grows.drew))) h2 (fun k hk => (own_lt HP.out.qa.own k hk).1); have XB : Blk w1 w.heap.size 126 #[.int .i64 (i : Int), .int .u8 v] := (by { refine Blk.grown ?_ h2 (fun e => ?_); exact HP.out.x.grows (by repeat (first | exact Grows.refl _ | apply Grows.grow | apply Grows.alloc | apply Grows.drew)); have := HA.out _ e.symm; omega }); obtain ⟨y0, y1, yf⟩ := XB.c2; clear XB; replace h1 := Lib.hid h1; replace GC := Lib.hid GC; replace B0 := Lib.hid B0; clear h2))
        all_goals go_wp2
        all_goals rw [jump_normal]
        all_goals go_end0
        all_goals exact ⟨rfl, push_done HP.out (by omega) (by omega) (.inr hg3) GC.out B0.out h1.out⟩
    · obtain rfl : m = h := by omega
      go_wp2
      first | refine region_grow2 (by kernel_rfl) (by kernel_rfl) ?_ | refine region_grow (by kernel_rfl) (by kernel_rfl) ?_
      repeat (go_big_quiet_step (fail))
      refine wpQuiet_nil ?_
      rintro _ ⟨ga, rfl⟩
      go_wp2
      go_region_law ((refine step_append_item (by rfl) (.tmp 44) (.tmp 46) (by rfl) (n + 1) a m cap q i v (by rfl) (ownsRow_grows HP.out.qa.own (by repeat (first | exact Grows.refl _ | apply Grows.grow | apply Grows.alloc | apply Grows.drew))) _ 1 (by rfl) (by unfold Blk; repeat (first | exact blk_at _ _ _ (by first | omega | (simp; done) | (simp; omega)) | refine (blk_past _ _ _ (by first | omega | (simp; done) | (simp; omega))).trans ?_ | refine (heap_grow _ _ _ (by first | omega | (simp; done) | (simp; omega))).trans ?_ | refine (blk_drew _ _).trans ?_)) (by omega) (by simp; omega) ?_; intro a1 cap1 w1 h1 h2; have B0 : Blk w1 n 123 #[.slice a m cap, .int .i64 (m : Int)] := (by { refine Blk.grown ?_ h2 (fun e => ?_); exact HP.out.qa.qb.grows (by repeat (first | exact Grows.refl _ | apply Grows.grow | apply Grows.alloc | apply Grows.drew)); have := own_lt HP.out.qa.own _ e.symm; omega }); obtain ⟨d0, d1, df⟩ := B0.c2; have ld := B0.lt; have GC := chg_of HP.out.chg (by exact (by repeat (first | exact Grows.refl _ | apply Grows.grow | apply Grows.alloc | apply Grows.drew))) h2 (fun k hk => (own_lt HP.out.qa.own k hk).1); have XB : Blk w1 w.heap.size 126 #[.int .i64 (i : Int), .int .u8 v] := (by { refine Blk.grown ?_ h2 (fun e => ?_); exact HP.out.x.grows (by repeat (first | exact Grows.refl _ | apply Grows.grow | apply Grows.alloc | apply Grows.drew)); have := HA.out _ e.symm; omega }); obtain ⟨y0, y1, yf⟩ := XB.c2; clear XB; replace h1 := Lib.hid h1; replace GC := Lib.hid GC; replace B0 := Lib.hid B0; clear h2))
      all_goals go_wp2
      all_goals rw [jump_normal]
      all_goals go_end0
      all_goals exact ⟨rfl, push_done HP.out (by omega) (by omega) (.inl rfl) GC.out B0.out h1.out⟩
  · rintro a' W ⟨m, u4, u5, u6, u7, u8, u9, u10, u11, u12, u13, u14, u15, u16, u17, u18, u19, u20, u21, u22, u23, u24, u25, u26, u27, u28, u29, u30, u31, u32, u33, u34, u35, u36, u37, u38, u39, u40, u41, u42, u43, u44, u45, u46, u47, u48, u49, rfl, hm1, hm2, HP⟩
    clear HP0
    obtain ⟨b0, b1, bf⟩ := HP.out.qa.qb.c2
    have lb := HP.out.qa.qb.lt
    obtain ⟨x0, x1, xf⟩ := HP.out.x.c2
    have lx := HP.out.x.lt
    have hmost := HP.out.qa.most
    have hbase := HP.out.chg.size
    by_cases hm : h < m
    · obtain ⟨m, rfl⟩ : ∃ k, m = k + 1 := ⟨m - 1, by omega⟩
      have hg1 : (h : Int) < (m : Int) + 1 := by omega
      have hg2 : (m : Int) + 1 - 1 = m := by omega
      clear hm
      obtain ⟨bi, rfl, hbi, hbl, i0, i1⟩ := HP.out.qa.item (j := m) (by omega)
      by_cases hle : (q m).2 ≤ v
      · go_wp2
        first | refine region_grow2 (by kernel_rfl) (by kernel_rfl) ?_ | refine region_grow (by kernel_rfl) (by kernel_rfl) ?_
        repeat (go_big_quiet_step (fail))
        refine wpQuiet_nil ?_
        rintro _ ⟨ga, rfl⟩
        go_wp2
        go_step3
        exact ⟨rfl, ⟨m, _, _, _, _, _, _, _, _, _, _, _, _, _, _, _, _, _, _, _, _, _, _, _, _, _, _, _, _, _, _, _, _, _, _, _, _, _, _, _, _, _, _, _, _, _, _, rfl, by omega, by omega, (HP.out.less hn hle).grows (by repeat (first | exact Grows.refl _ | apply Grows.grow | apply Grows.alloc | apply Grows.drew))⟩, by rw [qLen_of ((HP.out.less hn hle).grows (by repeat (first | exact Grows.refl _ | apply Grows.grow | apply Grows.alloc | apply Grows.drew))).qa, qLen_of HP.out.qa]; omega⟩
      · have hg3 : v < (q m).2 := by omega
        go_wp2
        first | refine region_grow2 (by kernel_rfl) (by kernel_rfl) ?_ | refine region_grow (by kernel_rfl) (by kernel_rfl) ?_
        repeat (go_big_quiet_step (fail))
        refine wpQuiet_nil ?_
        rintro _ ⟨ga, rfl⟩
        go_wp2
        go_region_law ((refine step_append_item (by rfl) (.tmp 44) (.tmp 46) (by rfl) (n + 1) (some ⟨bi, 0, none⟩) (m + 1) cap q i v (by rfl) (ownsRow_grows HP.out.qa.own (by repeat (first | exact Grows.refl _ | apply Grows.grow | apply Grows.alloc | apply Grows.drew))) _ 1 (by rfl) (by unfold Blk; repeat (first | exact blk_at _ _ _ (by first | omega | (simp; done) | (simp; omega)) | refine (blk_past _ _ _ (by first | omega | (simp; done) | (simp; omega))).trans ?_ | refine (heap_grow _ _ _ (by first | omega | (simp; done) | (simp; omega))).trans ?_ | refine (blk_drew _ _).trans ?_)) (by omega) (by simp; omega) ?_; intro a1 cap1 w1 h1 h2; have B0 : Blk w1 n 123 #[.slice (some ⟨bi, 0, none⟩) (m + 1) cap, .int .i64 (h : Int)] := (by { refine Blk.grown ?_ h2 (fun e => ?_); exact HP.out.qa.qb.grows (by repeat (first | exact Grows.refl _ | apply Grows.grow | apply Grows.alloc | apply Grows.drew)); have := own_lt HP.out.qa.own _ e.symm; omega }); obtain ⟨d0, d1, df⟩ := B0.c2; have ld := B0.lt; have GC := chg_of HP.out.chg (by exact (by repeat (first | exact Grows.refl _ | apply Grows.grow | apply Grows.alloc | apply Grows.drew))) h2 (fun k hk => (own_lt HP.out.qa.own k hk).1); have XB : Blk w1 w.heap.size 126 #[.int .i64 (i : Int), .int .u8 v] := (by { refine Blk.grown ?_ h2 (fun e => ?_); exact HP.out.x.grows (by repeat (first | exact Grows.refl _ | apply Grows.grow | apply Grows.alloc | apply Grows.drew)); have := HA.out _ e.symm; omega }); obtain ⟨y0, y1, yf⟩ := XB.c2; clear XB; replace h1 := Lib.hid h1; replace GC := Lib.hid GC; replace B0 := Lib.hid B0; clear h2))
        all_goals go_wp2
        all_goals rw [jump_normal]
        all_goals go_end0
        all_goals exact ⟨rfl, push_done HP.out (by omega) (by omega) (.inr hg3) GC.out B0.out h1.out⟩
    · obtain rfl : m = h := by omega
      go_wp2
      first | refine region_grow2 (by kernel_rfl) (by kernel_rfl) ?_ | refine region_grow (by kernel_rfl) (by kernel_rfl) ?_
      repeat (go_big_quiet_step (fail))
      refine wpQuiet_nil ?_
      rintro _ ⟨ga, rfl⟩
      go_wp2
      go_region_law ((refine step_append_item (by rfl) (.tmp 44) (.tmp 46) (by rfl) (n + 1) a m cap q i v (by rfl) (ownsRow_grows HP.out.qa.own (by repeat (first | exact Grows.refl _ | apply Grows.grow | apply Grows.alloc | apply Grows.drew))) _ 1 (by rfl) (by unfold Blk; repeat (first | exact blk_at _ _ _ (by first | omega | (simp; done) | (simp; omega)) | refine (blk_past _ _ _ (by first | omega | (simp; done) | (simp; omega))).trans ?_ | refine (heap_grow _ _ _ (by first | omega | (simp; done) | (simp; omega))).trans ?_ | refine (blk_drew _ _).trans ?_)) (by omega) (by simp; omega) ?_; intro a1 cap1 w1 h1 h2; have B0 : Blk w1 n 123 #[.slice a m cap, .int .i64 (m : Int)] := (by { refine Blk.grown ?_ h2 (fun e => ?_); exact HP.out.qa.qb.grows (by repeat (first | exact Grows.refl _ | apply Grows.grow | apply Grows.alloc | apply Grows.drew)); have := own_lt HP.out.qa.own _ e.symm; omega }); obtain ⟨d0, d1, df⟩ := B0.c2; have ld := B0.lt; have GC := chg_of HP.out.chg (by exact (by repeat (first | exact Grows.refl _ | apply Grows.grow | apply Grows.alloc | apply Grows.drew))) h2 (fun k hk => (own_lt HP.out.qa.own k hk).1); have XB : Blk w1 w.heap.size 126 #[.int .i64 (i : Int), .int .u8 v] := (by { refine Blk.grown ?_ h2 (fun e => ?_); exact HP.out.x.grows (by repeat (first | exact Grows.refl _ | apply Grows.grow | apply Grows.alloc | apply Grows.drew)); have := HA.out _ e.symm; omega }); obtain ⟨y0, y1, yf⟩ := XB.c2; clear XB; replace h1 := Lib.hid h1; replace GC := Lib.hid GC; replace B0 := Lib.hid B0; clear h2))
      all_goals go_wp2
      all_goals rw [jump_normal]
      all_goals go_end0
      all_goals exact ⟨rfl, push_done HP.out (by omega) (by omega) (.inl rfl) GC.out B0.out h1.out⟩
end Go.Proofs.YtklcmlbkhjcaiaaDoor
/- The walks of layer 9: what stands ahead of a place leaves the queue; the greatest along a line. -/

namespace Go.Proofs.YtklcmlbkhjcaiaaDoor
open Go.RowKit
set_option linter.unusedVariables false

/-- What holds while items leave. -/
structure LeaveSt (w wr : World) (n : Nat) (q : Nat → Nat × Int) (a : Option Addr) (len cap h k h' : Nat) : Prop where
  chg : Chg (fun j => n ≤ j) w wr
  qa : QAt wr n q a len cap h'
  gone : ∀ j, h ≤ j → j < h' → (q j).1 < k
theorem LeaveSt.next {w wr w' : World} {n : Nat} {q : Nat → Nat × Int} {a : Option Addr} {len cap h k h' : Nat} (s : LeaveSt w wr n q a len cap h k h') (hv : (q h').1 < k) (g : Grows (wr.setCell ⟨n, 1, none⟩ (.int .i64 ((h' + 1 : Nat) : Int))) w') : LeaveSt w w' n q a len cap h k (h' + 1) :=
  ⟨(s.chg.setCell (.inl (Nat.le_refl n)) _).grows g, (s.qa.head _).grows g, fun j h1 h2 => by
    by_cases e : j = h'
    · rw [e]; exact hv
    · exact s.gone j h1 (by omega)⟩
def qHd (w : World) (n : Nat) : Nat := match w.cell? ⟨n, 1, none⟩ with | some (.int _ l) => l.toNat | _ => 0
theorem qHd_of {w : World} {n : Nat} {q : Nat → Nat × Int} {a : Option Addr} {len cap h : Nat} (k : QAt w n q a len cap h) : qHd w n = h := by
  unfold qHd
  rw [k.qb.c2.2.1]
  simp

set_option maxHeartbeats 3200000 in
theorem morph_leave (n : Nat) (q : Nat → Nat × Int) (a : Option Addr) (len cap h k : Nat) (w : World) (H : Hid (QAt w n q a len cap h)) (hh : h ≤ len) (hl : len ≤ 100000) (hk : k ≤ 100000) :
    Calls Tryd.prog 109 #[.pointer (some ⟨n, 0, none⟩), .int .i64 (k : Int)] w fun e w' => e = .returned (.tuple #[]) ∧ Chg (fun j => n ≤ j) w w' ∧ ∃ h' : Nat, h ≤ h' ∧ h' ≤ len ∧ (∀ j, h ≤ j → j < h' → (q j).1 < k) ∧ (h' = len ∨ k ≤ (q h').1) ∧ QAt w' n q a len cap h' := by
  have hmost := H.out.most
  have lb0 := H.out.qb.lt
  go_enter Tryd.func109, Tryd.ntmps109
  go_wp2
  go_loopw [] (fun wr => ∃ h' : Nat, h ≤ h' ∧ h' ≤ len ∧ Hid (LeaveSt w wr n q a len cap h k h')) (fun wr => len - qHd wr n)
  case atStart => exact ⟨h, by omega, by omega, chg_grows (by repeat (first | exact Grows.refl _ | apply Grows.grow | apply Grows.alloc | apply Grows.drew)) _, H.out.grows (by repeat (first | exact Grows.refl _ | apply Grows.grow | apply Grows.alloc | apply Grows.drew)), fun j h1 h2 => by omega⟩
  case round =>
    obtain ⟨h', h1, h2, HP⟩ := hrel
    obtain ⟨b0, b1, bf⟩ := HP.out.qa.qb.c2
    have lb := HP.out.qa.qb.lt
    by_cases hlt : h' < len
    · have hg1 : (h' : Int) < (len : Int) := by omega
      obtain ⟨bi, rfl, hbi, hbl, i0, i1⟩ := HP.out.qa.item (j := h') (by omega)
      by_cases hle : (q h').1 < k
      · have hg2 : ((q h').1 : Int) < (k : Int) := by omega
        go_wp2
        first | refine region_grow2 (by kernel_rfl) (by kernel_rfl) ?_ | refine region_grow (by kernel_rfl) (by kernel_rfl) ?_
        repeat (go_big_quiet_step (fail))
        refine wpQuiet_nil ?_
        rintro _ ⟨ga, rfl⟩
        go_wp2
        go_roundw
        case rel =>
          have e : ((h' : Int) + 1) = ((h' + 1 : Nat) : Int) := by omega
          rw [e]
          exact ⟨h' + 1, by omega, by omega, HP.out.next hle (by repeat (first | exact Grows.refl _ | apply Grows.grow | apply Grows.alloc | apply Grows.drew))⟩
        case measure =>
          have e : ((h' : Int) + 1) = ((h' + 1 : Nat) : Int) := by omega
          rw [e, qHd_of (HP.out.next hle (by repeat (first | exact Grows.refl _ | apply Grows.grow | apply Grows.alloc | apply Grows.drew))).qa, qHd_of HP.out.qa]
          omega
      · have hg2 : ¬ ((q h').1 : Int) < (k : Int) := by omega
        go_wp2
        first | refine region_grow2 (by kernel_rfl) (by kernel_rfl) ?_ | refine region_grow (by kernel_rfl) (by kernel_rfl) ?_
        repeat (go_big_quiet_step (fail))
        refine wpQuiet_nil ?_
        rintro _ ⟨ga, rfl⟩
        go_wp2
        go_end0
        exact ⟨rfl, HP.out.chg.grows (by repeat (first | exact Grows.refl _ | apply Grows.grow | apply Grows.alloc | apply Grows.drew)), h', h1, h2, HP.out.gone, .inr (by omega), HP.out.qa.grows (by repeat (first | exact Grows.refl _ | apply Grows.grow | apply Grows.alloc | apply Grows.drew))⟩
    · obtain rfl : h' = len := by omega
      go_wp2
      first | refine region_grow2 (by kernel_rfl) (by kernel_rfl) ?_ | refine region_grow (by kernel_rfl) (by kernel_rfl) ?_
      repeat (go_big_quiet_step (fail))
      refine wpQuiet_nil ?_
      rintro _ ⟨ga, rfl⟩
      go_wp2
      go_end0
      exact ⟨rfl, HP.out.chg.grows (by repeat (first | exact Grows.refl _ | apply Grows.grow | apply Grows.alloc | apply Grows.drew)), h', h1, h2, HP.out.gone, .inl rfl, HP.out.qa.grows (by repeat (first | exact Grows.refl _ | apply Grows.grow | apply Grows.alloc | apply Grows.drew))⟩
end Go.Proofs.YtklcmlbkhjcaiaaDoor

/- The walk of layer 9's along: the greatest along a line. -/

namespace Go.Proofs.YtklcmlbkhjcaiaaDoor
open Go.RowKit
set_option linter.unusedVariables false

/-- The greatest of the window from a place on. -/
def mxN (f : Nat → Int) (r k : Nat) : Int := mxW (fun t => f t.toNat) (k : Int) (2 * r + 1)
theorem mxN_bd {f : Nat → Int} (h : ∀ t, 0 ≤ f t ∧ f t ≤ 255) (r k : Nat) : 0 ≤ mxN f r k ∧ mxN f r k ≤ 255 := mxW_bd (fun _ => h _) _ _
/-- What holds while a line's greatest are told: io: how far they are written; kq, iq: the window in the queue. -/
structure AlongSt (w wr : World) (bi bo : Nat) (f g : Nat → Int) (li lo r io kq iq : Nat) : Prop where
  gb : w.grownBy wr (some bo)
  inp : U8Row wr bi li f
  out : U8Row wr bo lo (fun k => if k + 2 * r < io then mxN f r k else g k)
  que : ∃ q a len cap h, QAt wr w.heap.size q a len cap h ∧ QInv f kq iq q h len
section
variable {w wr w1 : World} {bi bo : Nat} {f g : Nat → Int} {li lo r io kq iq kq' iq' : Nat}
theorem AlongSt.grows (s : AlongSt w wr bi bo f g li lo r io kq iq) (k : Grows wr w1) : AlongSt w w1 bi bo f g li lo r io kq iq :=
  ⟨grownBy_grows s.gb k, s.inp.grows k, s.out.grows k, by obtain ⟨q, a, len, cap, h, h1, h2⟩ := s.que; exact ⟨q, a, len, cap, h, h1.grows k, h2⟩⟩
/-- The queue alone is written. -/
theorem AlongSt.turn (s : AlongSt w wr bi bo f g li lo r io kq iq) (hi : bi < w.heap.size) (ho : bo < w.heap.size) (c : Chg (fun j => w.heap.size ≤ j) wr w1) {q : Nat → Nat × Int} {a : Option Addr} {len cap h : Nat} (k : QAt w1 w.heap.size q a len cap h) (I : QInv f kq' iq' q h len) : AlongSt w w1 bi bo f g li lo r io kq' iq' :=
  ⟨⟨c.os.trans s.gb.os, c.tape.trans s.gb.tape, c.output.trans s.gb.output, Nat.le_trans s.gb.size c.size, fun j hj hne => (c.block j (Nat.lt_of_lt_of_le hj s.gb.size) (by omega)).trans (s.gb.block j hj hne)⟩,
    s.inp.chg c (by omega), s.out.chg c (by omega), q, a, len, cap, h, k, I⟩
/-- A greatest is written. -/
theorem AlongSt.put {k : Nat} (s : AlongSt w wr bi bo f g li lo r (k + 2 * r) k iq) (hf : ∀ t, 0 ≤ f t ∧ f t ≤ 255) (hne : bi ≠ bo) (ho : bo < w.heap.size) : AlongSt w (wr.setCell ⟨bo, k, none⟩ (.int .u8 (mxN f r k))) bi bo f g li lo r (k + 2 * r + 1) k iq := by
  refine ⟨grownBy_setCell s.gb (.inl rfl) _, ?_, (s.out.set (mxN_bd hf r k)).congr fun j hj => ?_, ?_⟩
  · obtain ⟨cs, hb, hc⟩ := s.inp.blk
    exact ⟨s.inp.few, s.inp.ok, cs, hb.far (by exact hne) _, hc⟩
  · by_cases e : j = k
    · subst e; rw [if_pos rfl, if_pos (by omega)]
    · rw [if_neg e]
      by_cases e2 : j + 2 * r < k + 2 * r
      · rw [if_pos e2, if_pos (by omega)]
      · rw [if_neg e2, if_neg (by omega)]
  · obtain ⟨q, a, len, cap, h, h1, h2⟩ := s.que
    exact ⟨q, a, len, cap, h, ⟨h1.qb.far (by show w.heap.size ≠ bo; omega) _, ownsRow_far h1.own (fun e => by have := (own_lt h1.own _ e).1; simp at this; omega) _⟩, h2⟩
theorem AlongSt.idle (s : AlongSt w wr bi bo f g li lo r io kq iq) {io' : Nat} (h : io' ≤ 2 * r) (h' : io ≤ 2 * r) : AlongSt w wr bi bo f g li lo r io' kq iq :=
  ⟨s.gb, s.inp, s.out.congr fun j hj => by rw [if_neg (by omega), if_neg (by omega)], s.que⟩
end

theorem mxN_cell {w : World} {a : Addr} {f : Nat → Int} {k r : Nat} (h : w.cell? a = some (.int .u8 (mxW (fun t => f t.toNat) (k : Int) (2 * r + 1)))) : w.cell? a = some (.int .u8 (mxN f r k)) := h

set_option maxHeartbeats 3200000 in
theorem morph_along (bi bo li lo r : Nat) (f g : Nat → Int) (w : World) (HI : Hid (U8Row w bi li f)) (HO : Hid (U8Row w bo lo g)) (HF : Hid (∀ t, 0 ≤ f t ∧ f t ≤ 255)) (hne : bi ≠ bo) (hl : li = lo + 2 * r) (hs : li ≤ 100000) :
    Calls Tryd.prog 102 #[.slice (some ⟨bi, 0, none⟩) li li, .slice (some ⟨bo, 0, none⟩) lo lo, .int .i64 (r : Int)] w fun e w' => e = .returned (.tuple #[]) ∧ w.grownBy w' (some bo) ∧ U8Row w' bi li f ∧ U8Row w' bo lo (mxN f r) := by
  have hbi := HI.out.lt
  have hbo := HO.out.lt
  have hl1 : li ≤ lo + 2 * r := by omega
  have hl2 : lo + 2 * r ≤ li := by omega
  clear hl
  go_enter Tryd.func102, Tryd.ntmps102
  go_wp2
  refine wp_name ?_
  intro W0 hW0
  have ST : Hid (AlongSt w W0 bi bo f g li lo r 0 0 0) := by
    have G : Grows w W0 := by rw [hW0]; exact (by repeat (first | exact Grows.refl _ | apply Grows.grow | apply Grows.alloc | apply Grows.drew))
    refine ⟨grownBy_of_grows G _, HI.out.grows G, (HO.out.grows G).congr (fun j _ => by rw [if_neg (by omega)]), fun _ => (0, 0), none, 0, 0, 0, ⟨?_, rfl, .inl ⟨rfl, rfl⟩⟩, qinv_start f _⟩
    rw [hW0]
    exact (by unfold Blk; repeat (first | exact blk_at _ _ _ (by first | omega | (simp; done) | (simp; omega)) | refine (blk_past _ _ _ (by first | omega | (simp; done) | (simp; omega))).trans ?_ | refine (heap_grow _ _ _ (by first | omega | (simp; done) | (simp; omega))).trans ?_ | refine (blk_drew _ _).trans ?_))
  clear hW0 HI HO
  go_loopw [14] (fun z wr => ∃ i : Nat, i ≤ li ∧ z = .int .i64 i ∧ Hid (AlongSt w wr bi bo f g li lo r i (i - (2 * r + 1)) i)) (fun z _ => li - (intOf z).toNat)
  case atStart => exact ⟨0, by omega, rfl, by have := ST.out; rwa [Nat.zero_sub]⟩
  case round =>
    clear ST
    obtain ⟨i, hi, rfl, HP⟩ := hrel
    by_cases hlt : i < li
    · have c0 := HP.out.inp.cell hlt
      have hb := HP.out.inp.lt
      obtain ⟨f0, f1⟩ := HF.out i
      obtain ⟨q, a, len, cap, h, QA, QI⟩ := HP.out.que
      have hh := QI.le
      have hfew := QI.few
      have QA := Lib.hid QA
      have QI := Lib.hid QI
      by_cases hk : 2 * r ≤ i
      · obtain ⟨k, rfl⟩ : ∃ k, i = k + 2 * r := ⟨i - 2 * r, by omega⟩
        have hk1 : (k : Int) + 2 * (r : Int) - 2 * (r : Int) = k := by omega
        go_wp2_with (first | (go_at_call 108; refine (morph_push w.heap.size q a len cap h (k + 2 * r) (f (k + 2 * r)) _ (Lib.hid (QA.out.grows (by repeat (first | exact Grows.refl _ | apply Grows.grow | apply Grows.alloc | apply Grows.drew)))) hh (by omega) (by omega) f0 f1).mono ?_; rintro e w1 ⟨rfl, GC, m, a1, cap1, p1, p2, p3, p4, p5⟩; have I1 := Lib.hid (QI.out.push p1 p2 p3 p4 (by omega)); have S1 := Lib.hid ((HP.out.grows (w1 := _) (by exact (by repeat (first | exact Grows.refl _ | apply Grows.grow | apply Grows.alloc | apply Grows.drew)))).turn hbi hbo GC p5 I1.out); have QA1 := Lib.hid p5; clear GC p3 p4 p5) | (go_at_call 109; refine (morph_leave w.heap.size (putQ q m (k + 2 * r) (f (k + 2 * r))) a1 (m + 1) cap1 h k _ (Lib.hid (QA1.out.grows (by repeat (first | exact Grows.refl _ | apply Grows.grow | apply Grows.alloc | apply Grows.drew)))) (by omega) (by omega) (by omega)).mono ?_; rintro e w2 ⟨rfl, GC, h2, r1, r2, r3, r4, r5⟩; have I2 := Lib.hid (I1.out.leave (k' := k) (by omega) r1 r2 r3 r4); have S2 := Lib.hid ((S1.out.grows (w1 := _) (by exact (by repeat (first | exact Grows.refl _ | apply Grows.grow | apply Grows.alloc | apply Grows.drew)))).turn hbi hbo GC r5 I2.out); obtain ⟨t1, t2⟩ := I2.out.first (fun t => (HF.out t).1) (by omega); obtain ⟨bi2, rfl, hq1, hq2, e0, e1⟩ := r5.item t1; obtain ⟨d0, d1, df⟩ := r5.qb.c2; have ld := r5.qb.lt; rw [t2, show k + 2 * r + 1 - k = 2 * r + 1 from by omega] at e1; replace e1 := mxN_cell e1; have o0 := S2.out.out.cell (i := k) (by omega); have of := S2.out.out.frozen; have lo2 := S2.out.out.lt; have hm2 := r5.most; clear GC r3 r4 r5 t2 I1 I2 QA1 S1))
        first | refine region_grow_tail2 14 (by kernel_rfl) (by kernel_rfl) ?_ | refine region_grow_tail 14 (by kernel_rfl) (by kernel_rfl) ?_
        simp only [List.take_succ_cons, List.take_zero, List.drop_succ_cons, List.drop_zero]
        repeat (go_big_quiet_step (fail))
        refine wpQuiet_nil ?_
        rintro _ ⟨gb, rfl⟩
        go_wp2
        go_roundw
        case rel =>
          refine ⟨k + 2 * r + 1, by omega, by go_num, ?_⟩
          rw [show k + 2 * r + 1 - (2 * r + 1) = k from by omega]
          exact ((S2.out.grows (by exact (by repeat (first | exact Grows.refl _ | apply Grows.grow | apply Grows.alloc | apply Grows.drew)))).put HF.out hne hbo).grows (by repeat (first | exact Grows.refl _ | apply Grows.grow | apply Grows.alloc | apply Grows.drew))
        case measure => simp [intOf]; omega
      · have hk2 : ¬ (2 * (r : Int) ≤ (i : Int)) := by omega
        have hk3 : (i : Int) - 2 * (r : Int) < 0 := by omega
        go_wp2_with (go_at_call 108; refine (morph_push w.heap.size q a len cap h (i) (f (i)) _ (Lib.hid (QA.out.grows (by repeat (first | exact Grows.refl _ | apply Grows.grow | apply Grows.alloc | apply Grows.drew)))) hh (by omega) (by omega) f0 f1).mono ?_; rintro e w1 ⟨rfl, GC, m, a1, cap1, p1, p2, p3, p4, p5⟩; have I1 := Lib.hid (QI.out.push p1 p2 p3 p4 (by omega)); have S1 := Lib.hid ((HP.out.grows (w1 := _) (by exact (by repeat (first | exact Grows.refl _ | apply Grows.grow | apply Grows.alloc | apply Grows.drew)))).turn hbi hbo GC p5 I1.out); have QA1 := Lib.hid p5; clear GC p3 p4 p5)
        go_roundw
        case rel =>
          refine ⟨i + 1, by omega, by go_num, ?_⟩
          have e1 : i + 1 - (2 * r + 1) = 0 := by omega
          have e2 : i - (2 * r + 1) = 0 := by omega
          rw [e1]
          rw [e2] at S1
          exact (S1.out.grows (by repeat (first | exact Grows.refl _ | apply Grows.grow | apply Grows.alloc | apply Grows.drew))).idle (by omega) (by omega)
        case measure => simp [intOf]; omega
    · obtain rfl : i = li := by omega
      go_wp2
      go_end0
      have S := HP.out
      exact ⟨rfl, S.gb, S.inp, S.out.congr fun j hj => by rw [if_pos (by omega)]⟩
end Go.Proofs.YtklcmlbkhjcaiaaDoor
