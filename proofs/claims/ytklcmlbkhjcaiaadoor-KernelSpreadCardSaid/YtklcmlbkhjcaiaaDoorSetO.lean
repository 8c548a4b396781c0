/- Layer 4, the document's: the walks of Of, Move, Grow. -/
import Derived.Test.YtklcmlbkhjcaiaaDoorSetV


namespace Go.Proofs.YtklcmlbkhjcaiaaDoor
open Go.RowKit
set_option linter.unusedVariables false

theorem IsRects.nil0 (w : World) (f : Nat → R) : IsRects w none 0 0 f := rects_own (base := 0) ⟨rfl, .inl ⟨rfl, rfl⟩⟩
set_option maxHeartbeats 1600000 in
theorem ref04_Of (B C : Int → Prop) (hB : ∀ z, B z → onPl z) (hC : ∀ z, C z → onPl z) (a : Option Addr) (la ca : Nat) (f : Nat → R) (w : World) (hf : Hid (IsRects w a la ca f)) (hla : la ≤ 40) (pf : ∀ i, i < la → inBC B C (f i)) :
    Calls Tryd.prog 16 #[.slice a la ca] w (RetSets w B C la (fun u v => hasL f la u v)) := by
  have m1 := hf.out.le
  have m2 := hf.out.most
  have HS : Hid (∀ W, Grows w W → Calls Tryd.prog 45 #[.slice a la ca, .slice none 0 0, .int .i64 0] W (RetSets W B C la (fun u v => hasL f la u v))) := fun W gg => by
    have := ref04_Sets B C hB hC a none la ca 0 0 f f 0 W (Lib.hid (hf.out.grows gg)) (Lib.hid (IsRects.nil0 W f)) (by omega) hla (by omega) pf (fun i hi => by omega)
    refine Calls.mono this ?_
    rintro e w' ⟨a', n, c', o, rfl, hg, H⟩
    exact ⟨a', n, c', o, rfl, hg, H.out.1, fun u v => by rw [H.out.2.1]; simp [wantB, hasL], H.out.2.2⟩
  clear hf pf hB hC

  go_enter Tryd.func16, Tryd.ntmps16
  go_wp2_with (go_at_call 45; (with_reducible refine Calls.mono (HS.out _ (by repeat (first | exact Grows.refl _ | apply Grows.grow | apply Grows.alloc | apply Grows.drew))) ?_); rintro e w' ⟨ay, ny, cy, oy, rfl, hgw, Hy⟩; (first | (obtain ⟨gs, rfl⟩ := grows_of_grow hgw) | (obtain ⟨gs, rfl⟩ := hgw)))
  go_ret
  exact ⟨_, _, _, _, rfl, (by repeat (first | exact Grows.refl _ | apply Grows.grow | apply Grows.alloc | apply Grows.drew)), Hy⟩
set_option maxRecDepth 100000 in
set_option maxHeartbeats 3200000 in
theorem ref04_Move (B C : Int → Prop) (hB : ∀ z, B z → onPl z) (hC : ∀ z, C z → onPl z) (a : Option Addr) (la ca : Nat) (f : Nat → R) (dx dy : Int) (w : World) (hf : Hid (IsRects w a la ca f)) (hla : la ≤ 40) (hd : (-4398046511104 ≤ dx ∧ dx ≤ 4398046511104) ∧ (-4398046511104 ≤ dy ∧ dy ≤ 4398046511104)) (pr : ∀ i, i < la → rightR (f i) = true) (pf : ∀ i, i < la → inBC B C (moveR (f i) dx dy)) :
    Calls Tryd.prog 49 #[.slice a la ca, .int .i64 dx, .int .i64 dy] w (RetSets w B C la (fun u v => hasL (fun i => moveR (f i) dx dy) la u v)) := by
  have m1 := hf.out.le
  have m2 := hf.out.most
  have PR := Lib.hid pr
  have HOF : Hid (∀ W a' cap', IsRects W a' la cap' (fun i => moveR (f i) dx dy) → Calls Tryd.prog 16 #[.slice a' la cap'] W (RetSets W B C la (fun u v => hasL (fun i => moveR (f i) dx dy) la u v))) := fun W a' cap' h => ref04_Of B C hB hC a' la cap' _ W (Lib.hid h) hla pf
  clear hB hC pf pr

  go_enter Tryd.func49, Tryd.ntmps49
  go_wp2
  go_loopw [7, 8] (fun v i wr => ∃ (k : Nat) (a' : Option Addr) (cap : Nat), k ≤ la ∧ i = .int .i64 k ∧ v = .slice a' k cap ∧ Hid (Grows w wr ∧ wr.ownsRow w.heap.size 27 4 (.slice a' k cap) k (cellsL (fun j => rcC (moveR (f j) dx dy)) k))) (fun _ i _ => la - (intOf i).toNat)
  case atStart => exact ⟨0, none, 0, by omega, rfl, rfl, (by repeat (first | exact Grows.refl _ | apply Grows.grow | apply Grows.alloc | apply Grows.drew)), rfl, .inl ⟨rfl, rfl⟩⟩
  case round =>
    obtain ⟨k, a2, cap, hk, rfl, rfl, hh⟩ := hrel
    have hcap := ownL_le hh.out.2
    have SZ0 := hh.out.1.below.size
    by_cases hlt : k < la
    · obtain ⟨b', off', rfl, hb', e0, e1, e2, e3⟩ := (hf.out.grows hh.out.1).at hlt
      have hrr := PR.out k hlt
      obtain ⟨rk, hrk⟩ : ∃ z, z = f k := ⟨_, rfl⟩
      rw [← hrk] at e0 e1 e2 e3 hrr
      have HMV : Hid (∀ W, Grows wr W → Calls Tryd.prog 29 #[.agg #[.int .i64 rk.x0, .int .i64 rk.y0, .int .i64 rk.x1, .int .i64 rk.y1], .int .i64 dx, .int .i64 dy] W fun e w' => e = .returned (.agg #[.int .i64 (moveR rk dx dy).x0, .int .i64 (moveR rk dx dy).y0, .int .i64 (moveR rk dx dy).x1, .int .i64 (moveR rk dx dy).y1]) ∧ Grows W w') := fun W g => ref03_moveR rk dx dy W hrr (by omega) (by omega)
      obtain ⟨x, hx⟩ : ∃ z, z = moveR rk dx dy := ⟨_, rfl⟩
      rw [← hx] at HMV
      have HX : Hid (moveR (f k) dx dy = x) := Lib.hid (by rw [hx, hrk])
      clear hx hrk hrr
      go_wp2_with (first
        | (go_at_call 29; (with_reducible refine Calls.mono (HMV.out _ (by repeat (first | exact Grows.refl _ | apply Grows.grow | apply Grows.alloc | apply Grows.drew))) ?_); rintro e w' ⟨rfl, hgw⟩; (first | (obtain ⟨gm, rfl⟩ := grows_of_grow hgw) | (obtain ⟨gm, rfl⟩ := hgw)))
        | (at_builtin; refine wpList_append_rect rfl (.tmp 15) (.tmp 23) rfl w.heap.size a2 k cap (fun j => moveR (f j) dx dy) x rfl (ownsRow_grows hh.out.2 (by repeat (first | exact Grows.refl _ | apply Grows.grow | apply Grows.alloc | apply Grows.drew))) _ _ rfl (by unfold Blk; repeat (first | exact blk_at _ _ _ (by first | omega | (simp; done) | (simp; omega)) | refine (blk_past _ _ _ (by first | omega | (simp; done) | (simp; omega))).trans ?_ | refine (heap_grow _ _ _ (by first | omega | (simp; done) | (simp; omega))).trans ?_ | refine (blk_drew _ _).trans ?_)) HX.out (by omega) (by simp <;> omega) ?_; intro p' cap' w1 h1 h2 h3 h4; replace h1 := Lib.hid h1; replace h2 := Lib.hid h2))
      go_roundw
      case rel =>
        refine ⟨k + 1, some ⟨p', 0, none⟩, cap', by omega, by go_num, rfl, ?_, h1.out⟩
        exact (hh.out.1.trans (by repeat (first | exact Grows.refl _ | apply Grows.grow | apply Grows.alloc | apply Grows.drew))).grown h2.out (fun j hj => (own_lt hh.out.2 j hj).1)
      case measure => simp [intOf]; omega
    · obtain rfl : la = k := by omega
      have LR := Lib.hid (rects_own (f := fun j => moveR (f j) dx dy) hh.out.2)
      go_wp2_with (go_at_call 16; (with_reducible refine Calls.mono (HOF.out _ _ _ ?_) ?_); (exact LR.out.grows (by repeat (first | exact Grows.refl _ | apply Grows.grow | apply Grows.alloc | apply Grows.drew))); rintro e w' ⟨ay, ny, cy, oy, rfl, hgw, Hy⟩; (first | (obtain ⟨gs, rfl⟩ := grows_of_grow hgw) | (obtain ⟨gs, rfl⟩ := hgw)))
      go_ret
      exact ⟨_, _, _, _, rfl, hh.out.1.trans (by repeat (first | exact Grows.refl _ | apply Grows.grow | apply Grows.alloc | apply Grows.drew)), Hy⟩
set_option maxRecDepth 100000 in
set_option maxHeartbeats 3200000 in
theorem ref04_Grow (B C : Int → Prop) (hB : ∀ z, B z → onPl z) (hC : ∀ z, C z → onPl z) (a : Option Addr) (la ca : Nat) (f : Nat → R) (p q p' q' : Int) (w : World) (hf : Hid (IsRects w a la ca f)) (hla : la ≤ 40) (hd : ((0 ≤ p ∧ p ≤ 1000000) ∧ (0 ≤ q ∧ q ≤ 1000000)) ∧ (0 ≤ p' ∧ p' ≤ 1000000) ∧ (0 ≤ q' ∧ q' ≤ 1000000)) (pr : ∀ i, i < la → rightR (f i) = true) (pf : ∀ i, i < la → inBC B C (growR (f i) p q p' q')) :
    Calls Tryd.prog 50 #[.slice a la ca, .int .i64 p, .int .i64 q, .int .i64 p', .int .i64 q'] w (RetSets w B C la (fun u v => hasL (fun i => growR (f i) p q p' q') la u v)) := by
  have m1 := hf.out.le
  have m2 := hf.out.most
  have PR := Lib.hid pr
  have HOF : Hid (∀ W a' cap', IsRects W a' la cap' (fun i => growR (f i) p q p' q') → Calls Tryd.prog 16 #[.slice a' la cap'] W (RetSets W B C la (fun u v => hasL (fun i => growR (f i) p q p' q') la u v))) := fun W a' cap' h => ref04_Of B C hB hC a' la cap' _ W (Lib.hid h) hla pf
  clear hB hC pf pr

  go_enter Tryd.func50, Tryd.ntmps50
  go_wp2
  go_loopw [11, 12] (fun v i wr => ∃ (k : Nat) (a' : Option Addr) (cap : Nat), k ≤ la ∧ i = .int .i64 k ∧ v = .slice a' k cap ∧ Hid (Grows w wr ∧ wr.ownsRow w.heap.size 27 4 (.slice a' k cap) k (cellsL (fun j => rcC (growR (f j) p q p' q')) k))) (fun _ i _ => la - (intOf i).toNat)
  case atStart => exact ⟨0, none, 0, by omega, rfl, rfl, (by repeat (first | exact Grows.refl _ | apply Grows.grow | apply Grows.alloc | apply Grows.drew)), rfl, .inl ⟨rfl, rfl⟩⟩
  case round =>
    obtain ⟨k, a2, cap, hk, rfl, rfl, hh⟩ := hrel
    have hcap := ownL_le hh.out.2
    have SZ0 := hh.out.1.below.size
    by_cases hlt : k < la
    · obtain ⟨b', off', rfl, hb', e0, e1, e2, e3⟩ := (hf.out.grows hh.out.1).at hlt
      have hrr := PR.out k hlt
      obtain ⟨rk, hrk⟩ : ∃ z, z = f k := ⟨_, rfl⟩
      rw [← hrk] at e0 e1 e2 e3 hrr
      have HMV : Hid (∀ W, Grows wr W → Calls Tryd.prog 30 #[.agg #[.int .i64 rk.x0, .int .i64 rk.y0, .int .i64 rk.x1, .int .i64 rk.y1], .int .i64 p, .int .i64 q, .int .i64 p', .int .i64 q'] W fun e w' => e = .returned (.agg #[.int .i64 (growR rk p q p' q').x0, .int .i64 (growR rk p q p' q').y0, .int .i64 (growR rk p q p' q').x1, .int .i64 (growR rk p q p' q').y1]) ∧ Grows W w') := fun W g => ref03_growR rk p q p' q' W hrr (by omega) (by omega) (by omega) (by omega)
      obtain ⟨x, hx⟩ : ∃ z, z = growR rk p q p' q' := ⟨_, rfl⟩
      rw [← hx] at HMV
      have HX : Hid (growR (f k) p q p' q' = x) := Lib.hid (by rw [hx, hrk])
      clear hx hrk hrr
      go_wp2_with (first
        | (go_at_call 30; (with_reducible refine Calls.mono (HMV.out _ (by repeat (first | exact Grows.refl _ | apply Grows.grow | apply Grows.alloc | apply Grows.drew))) ?_); rintro e w' ⟨rfl, hgw⟩; (first | (obtain ⟨gm, rfl⟩ := grows_of_grow hgw) | (obtain ⟨gm, rfl⟩ := hgw)))
        | (at_builtin; refine wpList_append_rect rfl (.tmp 19) (.tmp 29) rfl w.heap.size a2 k cap (fun j => growR (f j) p q p' q') x rfl (ownsRow_grows hh.out.2 (by repeat (first | exact Grows.refl _ | apply Grows.grow | apply Grows.alloc | apply Grows.drew))) _ _ rfl (by unfold Blk; repeat (first | exact blk_at _ _ _ (by first | omega | (simp; done) | (simp; omega)) | refine (blk_past _ _ _ (by first | omega | (simp; done) | (simp; omega))).trans ?_ | refine (heap_grow _ _ _ (by first | omega | (simp; done) | (simp; omega))).trans ?_ | refine (blk_drew _ _).trans ?_)) HX.out (by omega) (by simp <;> omega) ?_; intro p' cap' w1 h1 h2 h3 h4; replace h1 := Lib.hid h1; replace h2 := Lib.hid h2))
      go_roundw
      case rel =>
        refine ⟨k + 1, some ⟨p', 0, none⟩, cap', by omega, by go_num, rfl, ?_, h1.out⟩
        exact (hh.out.1.trans (by repeat (first | exact Grows.refl _ | apply Grows.grow | apply Grows.alloc | apply Grows.drew))).grown h2.out (fun j hj => (own_lt hh.out.2 j hj).1)
      case measure => simp [intOf]; omega
    · obtain rfl : la = k := by omega
      have LR := Lib.hid (rects_own (f := fun j => growR (f j) p q p' q') hh.out.2)
      go_wp2_with (go_at_call 16; (with_reducible refine Calls.mono (HOF.out _ _ _ ?_) ?_); (exact LR.out.grows (by repeat (first | exact Grows.refl _ | apply Grows.grow | apply Grows.alloc | apply Grows.drew))); rintro e w' ⟨ay, ny, cy, oy, rfl, hgw, Hy⟩; (first | (obtain ⟨gs, rfl⟩ := grows_of_grow hgw) | (obtain ⟨gs, rfl⟩ := hgw)))
      go_ret
      exact ⟨_, _, _, _, rfl, hh.out.1.trans (by repeat (first | exact Grows.refl _ | apply Grows.grow | apply Grows.alloc | apply Grows.drew)), Hy⟩
end Go.Proofs.YtklcmlbkhjcaiaaDoor
