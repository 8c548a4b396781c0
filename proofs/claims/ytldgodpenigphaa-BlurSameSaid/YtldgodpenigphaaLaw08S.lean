/- The walk of chapter 8's law BlurSame. -/
import Derived.Test.YtldgodpenigphaaLaw08P
namespace Go.Proofs.Ytldgodpenigphaa
open Go.RowKit
set_option linter.unusedVariables false

/-- The rectangle around the first point, by radii. -/
def arR (x y : Int) : R := ⟨-x, -y, x + 1, y + 1⟩
theorem arR_good {x y : Int} (hx : 0 ≤ x ∧ x ≤ 12) (hy : 0 ≤ y ∧ y ≤ 12) : GoodR (arR x y) := by
  refine ⟨(rightR_iff _).2 (by simp only [arR]; omega), fun h => ?_⟩
  have := (emptyR_iff _).1 h
  simp only [arR] at this
  omega
theorem arR_cnt {x y : Int} (hx : 0 ≤ x ∧ x ≤ 12) (hy : 0 ≤ y ∧ y ≤ 12) : (cntR (arR x y) : Int) = (2 * x + 1) * (2 * y + 1) := by
  rw [(arR_good hx hy).cnt]
  show (x + 1 - -x) * (y + 1 - -y) = _
  rw [show x + 1 - -x = 2 * x + 1 from by omega, show y + 1 - -y = 2 * y + 1 from by omega]
def oneB : R := ⟨0, 0, 1, 1⟩
/-- What is the same all around stays. -/
theorem box_same {x y : Int} (hx : 0 ≤ x ∧ x ≤ 12) (hy : 0 ≤ y ∧ y ≤ 12) (p : P4) : boxF oneB x y (cutF (arR x y) (fun _ _ => p)) 0 0 = p := by
  rw [boxF_full (by simp [smallR, oneB]) (by omega) (by decide)]
  have hwx := winN_eq hx.1
  have hwy := winN_eq hy.1
  unfold blurV
  rw [sumP_congr (g := fun _ => p) _ _ (fun k hk => ?_), meanP_same hy.1]
  show blurH _ x 0 (0 - y + (k : Int)) = p
  unfold blurH
  rw [sumP_congr (g := fun _ => p) _ _ (fun j hj => ?_), meanP_same hx.1]
  show cutF (arR x y) (fun _ _ => p) (0 - x + (j : Int)) (0 - y + (k : Int)) = p
  rw [cutF_in ((hasR_iff _ _ _).2 (by simp only [arR]; omega))]
theorem oneB_some : someR oneB = oneB := rfl
theorem oneB_cnt : cntR oneB = 1 := by decide
theorem oneB_pt : ptX oneB 0 = 0 ∧ ptY oneB 0 = 0 := ⟨rfl, rfl⟩

set_option maxHeartbeats 6400000 in
theorem blurSame_walk (p : P4) (a b : Int) (w : World) (hp : okP p) (ha : 0 ≤ a ∧ a ≤ 255) (hb : 0 ≤ b ∧ b ≤ 255) :
    Calls Try.prog 9 #[.agg #[.int .u8 p.r, .int .u8 p.g, .int .u8 p.b, .int .u8 p.a], .int .u8 a, .int .u8 b] w fun e w' => e = .returned (.bool true) ∧ Grows w w' := by
  obtain ⟨x, hx⟩ : ∃ x, x = a.tmod 13 := ⟨_, rfl⟩
  obtain ⟨y, hy⟩ : ∃ y, y = b.tmod 13 := ⟨_, rfl⟩
  have hx2 : 0 ≤ x ∧ x ≤ 12 := by rw [hx, Int.tmod_eq_emod_of_nonneg ha.1]; omega
  have hy2 : 0 ≤ y ∧ y ≤ 12 := by rw [hy, Int.tmod_eq_emod_of_nonneg hb.1]; omega
  obtain ⟨ha0, ha1⟩ := ha
  obtain ⟨hb0, hb1⟩ := hb
  have HG : Hid (GoodR (arR x y)) := arR_good hx2 hy2
  have hcn := arR_cnt hx2 hy2
  have HF : Hid (∀ u v, hasR (arR x y) u v = true → okP ((fun _ _ => p : Img) u v)) := fun _ _ _ => hp
  have hc1 : cntR (arR x y) ≤ 625 := by
    have m1 : (2 * x + 1) * (2 * y + 1) ≤ 25 * (2 * y + 1) := Int.mul_le_mul_of_nonneg_right (by omega) (by omega)
    omega
  have hP0 : 0 ≤ (2 * x + 1) * (2 * y + 1) := by omega
  have hP1 : (2 * x + 1) * (2 * y + 1) ≤ 625 := by omega
  have HBX : Hid (∀ W af cf, Hid (BufAt W (arR x y) af (cntR (arR x y)) cf (cutF (arR x y) (fun _ _ => p))) → Calls Try.prog 26 #[.agg #[.int .i64 (arR x y).x0, .int .i64 (arR x y).y0, .int .i64 (arR x y).x1, .int .i64 (arR x y).y1, .slice af (cntR (arR x y)) cf], .agg #[.int .i64 0, .int .i64 0, .int .i64 1, .int .i64 1], .int .i64 x, .int .i64 y] W (RetBuf W oneB (boxF oneB x y (cutF (arR x y) (fun _ _ => p))))) := fun W af cf h => by
    have := blur_Box oneB (arR x y) af _ cf _ x y W h (by omega) (by decide) (by
      have := (good_grow oneB 0 y 0 y).cnt
      have e : growR oneB 0 y 0 y = ⟨0 - 0, 0 - y, 1 + 0, 1 + y⟩ := grow_small (b := oneB) (by simp [smallR, oneB]) (by decide) (by omega) (by omega) (by omega) (by omega)
      rw [e] at this ⊢
      simp only at this
      omega) (by decide) (by omega) (by omega) (by omega) (by omega)
    rwa [oneB_some] at this
  have HQ : Hid (boxF oneB x y (cutF (arR x y) (fun _ _ => p)) (ptX oneB 0) (ptY oneB 0) = p) := by
    show _ = _
    rw [oneB_pt.1, oneB_pt.2]
    exact box_same hx2 hy2 p
  have HC1 : Hid (cntR oneB = 1) := oneB_cnt
  have HR : Hid ((arR x y).x0 = -x ∧ (arR x y).y0 = -y ∧ (arR x y).x1 = x + 1 ∧ (arR x y).y1 = y + 1) := ⟨rfl, rfl, rfl, rfl⟩
  obtain ⟨B, hB⟩ : ∃ B, B = boxF oneB x y (cutF (arR x y) (fun _ _ => p)) := ⟨_, rfl⟩
  rw [← hB] at HBX HQ
  obtain ⟨t, ht⟩ : ∃ t, t = oneB := ⟨_, rfl⟩
  rw [← ht] at HBX HQ HC1
  obtain ⟨r, hr⟩ : ∃ r, r = arR x y := ⟨_, rfl⟩
  rw [← hr] at HBX HG HF hcn hc1 HR
  have hlx := hx.symm
  have hly := hy.symm
  clear hB ht hr hx hy
  go_enter Try.func9, Try.ntmps9
  go_wp2
  refine wp_name ?_
  intro W0 hW0
  have D0 : Hid (Blk W0 w.heap.size 28 #[.int .u8 p.r, .int .u8 p.g, .int .u8 p.b, .int .u8 p.a]) := by rw [hW0]; exact (by unfold Blk; repeat (first | exact blk_at _ _ _ (by first | omega | (simp; done) | (simp; omega)) | refine (blk_past _ _ _ (by first | omega | (simp; done) | (simp; omega))).trans ?_ | refine (heap_grow _ _ _ (by first | omega | (simp; done) | (simp; omega))).trans ?_ | refine (blk_drew _ _).trans ?_))
  have D1 : Blk W0 (w.heap.size + 1) 26 #[.int .i64 r.x0, .int .i64 r.y0, .int .i64 r.x1, .int .i64 r.y1, .slice none 0 0] := by
    rw [hW0, HR.out.1, HR.out.2.1, HR.out.2.2.1, HR.out.2.2.2]
    exact (by unfold Blk; repeat (first | exact blk_at _ _ _ (by first | omega | (simp; done) | (simp; omega)) | refine (blk_past _ _ _ (by first | omega | (simp; done) | (simp; omega))).trans ?_ | refine (heap_grow _ _ _ (by first | omega | (simp; done) | (simp; omega))).trans ?_ | refine (blk_drew _ _).trans ?_))
  have GW : Hid (Grows w W0) := by rw [hW0]; exact (by repeat (first | exact Grows.refl _ | apply Grows.grow | apply Grows.alloc | apply Grows.drew))
  have ST : Hid (AppSt W0 W0 (w.heap.size + 1) r none 0 0 (fun _ => p)) := AppSt.start _ D1
  have hsz : w.heap.size + 1 < W0.heap.size := D1.lt
  clear hW0 D1 hlx hly
  go_loopw [10] (fun z wr => ∃ (k : Nat) (a' : Option Addr) (cap' : Nat), k ≤ cntR r ∧ z = .int .i64 k ∧ Hid (AppSt W0 wr (w.heap.size + 1) r a' k cap' (fun _ => p))) (fun z _ => (cntR r : Nat) - (intOf z).toNat)
  case atStart => exact ⟨0, none, 0, by omega, rfl, ST.out⟩
  case round =>
    clear ST
    obtain ⟨k, a', cap', hk, rfl, hh⟩ := hrel
    have bo := hh.out.ob
    obtain ⟨o0, o1, o2, o3, o4, of⟩ := bo.c5
    have lo := bo.lt
    have b0 := hh.out.blk D0.out (by omega)
    obtain ⟨d0, d1, d2, d3, df⟩ := b0.c4
    have l0 := b0.lt
    have hbase := hh.out.by_.size
    clear b0 bo
    by_cases hlt : (k : Int) < (2 * x + 1) * (2 * y + 1)
    · go_wp2_with (at_builtin; refine wpList_append_one rfl (.tmp 40) (.tmp 42) rfl W0.heap.size a' k cap' (fun _ => p) p rfl (ownsRow_grows hh.out.own (by repeat (first | exact Grows.refl _ | apply Grows.grow | apply Grows.alloc | apply Grows.drew))) _ 1 rfl (by unfold Blk; repeat (first | exact blk_at _ _ _ (by first | omega | (simp; done) | (simp; omega)) | refine (blk_past _ _ _ (by first | omega | (simp; done) | (simp; omega))).trans ?_ | refine (heap_grow _ _ _ (by first | omega | (simp; done) | (simp; omega))).trans ?_ | refine (blk_drew _ _).trans ?_)) rfl (by omega) (by simp; omega) ?_; intro g c1 w1 h1 h2 h3 h4; obtain ⟨PB, PST⟩ := hh.out.push (by repeat (first | exact Grows.refl _ | apply Grows.grow | apply Grows.alloc | apply Grows.drew)) h1 h2; obtain ⟨q0, q1, q2, q3, q4, qf⟩ := PB.c5; have ql := PB.lt; replace PST := Lib.hid PST; clear h1 h2 h3 h4 PB)
      go_roundw
      case rel => exact ⟨k + 1, _, _, by omega, by go_num, PST.out⟩
      case measure => simp [intOf]; omega
    · obtain rfl : k = cntR r := by omega
      have HBU : Hid (BufAt wr r a' (cntR r) cap' (cutF r (fun _ _ => p))) := (bufAt_own HG.out HF.out hh.out.own).1
      have GR : Hid (Grows w wr) := GW.out.grown hh.out.by_ (fun k hk => by injection hk with hk; omega)
      go_wp2_with (go_at_call 26; (with_reducible refine Calls.mono (HBX.out _ a' cap' ?_) ?_); (exact Lib.hid (HBU.out.grows (by repeat (first | exact Grows.refl _ | apply Grows.grow | apply Grows.alloc | apply Grows.drew)))); rintro e w' ⟨aq, lq, pq, rfl, hgw, HQ1⟩; (first | (obtain ⟨gq, rfl⟩ := grows_of_grow hgw) | (obtain ⟨gq, rfl⟩ := hgw)))
      refine wp_name ?_
      intro W1 hW1
      have E1 : Blk W1 (wr.heap.size + gq.news.size) 26 #[.int .i64 t.x0, .int .i64 t.y0, .int .i64 t.x1, .int .i64 t.y1, .slice aq lq pq] := by rw [hW1]; exact (by unfold Blk; repeat (first | exact blk_at _ _ _ (by first | omega | (simp; done) | (simp; omega)) | refine (blk_past _ _ _ (by first | omega | (simp; done) | (simp; omega))).trans ?_ | refine (heap_grow _ _ _ (by first | omega | (simp; done) | (simp; omega))).trans ?_ | refine (blk_drew _ _).trans ?_))
      have D3 : Blk W1 w.heap.size 28 #[.int .u8 p.r, .int .u8 p.g, .int .u8 p.b, .int .u8 p.a] := by rw [hW1]; exact (hh.out.blk D0.out (by omega)).grows (by repeat (first | exact Grows.refl _ | apply Grows.grow | apply Grows.alloc | apply Grows.drew))
      have Y1 : BufAt W1 t aq lq pq B := by rw [hW1]; exact HQ1.out.1.grows (by repeat (first | exact Grows.refl _ | apply Grows.grow | apply Grows.alloc | apply Grows.drew))
      have GR1 : Hid (Grows w W1) := by rw [hW1]; exact GR.out.trans (by repeat (first | exact Grows.refl _ | apply Grows.grow | apply Grows.alloc | apply Grows.drew))
      have hl1 : lq = 1 := Y1.count.trans HC1.out
      subst hl1
      have hmq := Y1.most
      obtain ⟨bq, oq, rfl, hbq, -, c0, c1, c2, c3⟩ := Y1.pix.px (k := 0) (by omega)
      simp only [HQ.out, Nat.zero_mul, Nat.add_zero] at c0 c1 c2 c3
      obtain ⟨nc, hnc⟩ : ∃ n, n = wr.heap.size + gq.news.size := ⟨_, rfl⟩
      rw [← hnc] at E1 ⊢
      obtain ⟨e0, e1, e2, e3, e4, ef⟩ := E1.c5
      have le := E1.lt
      obtain ⟨d0, d1, d2, d3, df⟩ := D3.c4
      have ld := D3.lt
      clear hW1 hnc E1 D3 Y1 HQ1 HBU o0 o1 o2 o3 o4 of hh GR HBX
      first | refine region_grow2 (by kernel_rfl) (by kernel_rfl) ?_ | refine region_grow (by kernel_rfl) (by kernel_rfl) ?_
      repeat (go_big_quiet_step ((first | (go_at_call 24; exact grow_of (awake08 _ )))))
      refine wpQuiet_nil ?_
      rintro _ ⟨gr, rfl⟩
      go_wp2
      go_ret
      exact ⟨rfl, GR1.out.trans (by repeat (first | exact Grows.refl _ | apply Grows.grow | apply Grows.alloc | apply Grows.drew))⟩
end Go.Proofs.Ytldgodpenigphaa
