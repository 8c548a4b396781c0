/- The walk of layer 9's both: rows, then columns; the least and the greatest. -/
import Derived.Test.YtklcmlbkhjcaiaaDoorK17
import Derived.Test.YtklcmlbkhjcaiaaDoorGen
import Derived.Test.YtklcmlbkhjcaiaaDoorK5





namespace Go.Proofs.YtklcmlbkhjcaiaaDoor
open Go.RowKit
set_option linter.unusedVariables false

/-- What both makes. -/
def boxM (k : Bool) (b : R) (rx ry : Int) (F : Img) : Img := cutF (someR b) (morphV k (cutF (growR b 0 ry 0 ry) (morphH k F rx)) ry)
theorem Grows.chg {w wr w' : World} {S : Nat → Prop} (h : Grows w wr) (c : Chg S wr w') (hS : ∀ k, S k → w.heap.size ≤ k) : Grows w w' :=
  ((chg_grows h (fun _ => False)).then_ c (fun j hj e => by have := hS j e; omega)).toGrows (fun _ _ e => e)
theorem morph_linesIs (z : Int) (n r : Nat) (w : World) (hz : z = n) (hn : n ≤ 100000) (hr : r ≤ 100000) : Calls Tryd.prog 87 #[.int .i64 z, .int .i64 (r : Int)] w (RetLine n r w) := by
  subst hz
  exact morph_lines n r w hn hr
/-- What holds while the rows are done: fb, bb, rb: the call's variables; ob: the buffer; lb: the line. -/
structure BothSt (w wr : World) (n0 n1 n2 nm nl : Nat) (b rf : R) (af : Option Addr) (lf cf : Nat) (g : R) (a : Option Addr) (len cap : Nat) (G : Img) (bi bo li lo : Nat) : Prop where
  fb : Blk wr n0 35 #[.int .i64 rf.x0, .int .i64 rf.y0, .int .i64 rf.x1, .int .i64 rf.y1, .slice af lf cf]
  bb : Blk wr n1 27 #[.int .i64 b.x0, .int .i64 b.y0, .int .i64 b.x1, .int .i64 b.y1]
  rb : Blk wr n2 35 #[.int .i64 0, .int .i64 0, .int .i64 0, .int .i64 0, .slice none 0 0]
  ob : Blk wr nm 35 #[.int .i64 g.x0, .int .i64 g.y0, .int .i64 g.x1, .int .i64 g.y1, .slice a len cap]
  lb : Blk wr nl 105 #[.slice (some ⟨bi, 0, none⟩) li li, .slice (some ⟨bo, 0, none⟩) lo lo]
  gr : Grows w wr
  buf : BufAt wr g a len cap G
  open_ : Open wr a
  rows : ∃ f0 g0, U8Row wr bi li f0 ∧ U8Row wr bo lo g0
/-- .. the columns. -/
structure Both2St (w wr : World) (n2 nm no nl : Nat) (g : R) (a : Option Addr) (len cap : Nat) (M : Img) (s : R) (a2 : Option Addr) (len2 cap2 : Nat) (G : Img) (bi bo li lo : Nat) : Prop where
  rb : Blk wr n2 35 #[.int .i64 0, .int .i64 0, .int .i64 0, .int .i64 0, .slice none 0 0]
  ob : Blk wr nm 35 #[.int .i64 g.x0, .int .i64 g.y0, .int .i64 g.x1, .int .i64 g.y1, .slice a len cap]
  o2b : Blk wr no 35 #[.int .i64 s.x0, .int .i64 s.y0, .int .i64 s.x1, .int .i64 s.y1, .slice a2 len2 cap2]
  lb : Blk wr nl 105 #[.slice (some ⟨bi, 0, none⟩) li li, .slice (some ⟨bo, 0, none⟩) lo lo]
  gr : Grows w wr
  mid : BufAt wr g a len cap M
  buf : BufAt wr s a2 len2 cap2 G
  open_ : Open wr a2
  rows : ∃ f0 g0, U8Row wr bi li f0 ∧ U8Row wr bo lo g0
section
variable {w wr w' : World} {n0 n1 n2 nm no nl : Nat} {b rf g s : R} {a af a2 : Option Addr} {len cap lf cf len2 cap2 bi bo li lo : Nat} {F G G' M : Img}
theorem BothSt.step (h : BothSt w wr n0 n1 n2 nm nl b rf af lf cf g a len cap G bi bo li lo) (c : Chg (fun j => blkOf a = some j ∨ j = bi ∨ j = bo) wr w') (ha : ∀ j, (blkOf a = some j ∨ j = bi ∨ j = bo) → w.heap.size ≤ j ∧ j ≠ n0 ∧ j ≠ n1 ∧ j ≠ n2 ∧ j ≠ nm ∧ j ≠ nl) (b1 : BufAt w' g a len cap G') (o1 : Open w' a) (hi : ∃ f0, U8Row w' bi li f0) (hq : ∃ g0, U8Row w' bo lo g0) : BothSt w w' n0 n1 n2 nm nl b rf af lf cf g a len cap G' bi bo li lo := by
  obtain ⟨f0, hi⟩ := hi
  obtain ⟨g0, hq⟩ := hq
  exact ⟨h.fb.chg c (fun e => (ha _ e).2.1 rfl), h.bb.chg c (fun e => (ha _ e).2.2.1 rfl), h.rb.chg c (fun e => (ha _ e).2.2.2.1 rfl), h.ob.chg c (fun e => (ha _ e).2.2.2.2.1 rfl), h.lb.chg c (fun e => (ha _ e).2.2.2.2.2 rfl), h.gr.chg c (fun j e => (ha j e).1), b1, o1, f0, g0, hi, hq⟩
theorem Both2St.step (h : Both2St w wr n2 nm no nl g a len cap M s a2 len2 cap2 G bi bo li lo) (c : Chg (fun j => blkOf a2 = some j ∨ j = bi ∨ j = bo) wr w') (ha : ∀ j, (blkOf a2 = some j ∨ j = bi ∨ j = bo) → w.heap.size ≤ j ∧ j ≠ n2 ∧ j ≠ nm ∧ j ≠ no ∧ j ≠ nl) (hd : 0 < len → ∀ x, a = some x → ¬ (blkOf a2 = some x.block ∨ x.block = bi ∨ x.block = bo)) (b1 : BufAt w' s a2 len2 cap2 G') (o1 : Open w' a2) (hi : ∃ f0, U8Row w' bi li f0) (hq : ∃ g0, U8Row w' bo lo g0) : Both2St w w' n2 nm no nl g a len cap M s a2 len2 cap2 G' bi bo li lo := by
  obtain ⟨f0, hi⟩ := hi
  obtain ⟨g0, hq⟩ := hq
  exact ⟨h.rb.chg c (fun e => (ha _ e).2.1 rfl), h.ob.chg c (fun e => (ha _ e).2.2.1 rfl), h.o2b.chg c (fun e => (ha _ e).2.2.2.1 rfl), h.lb.chg c (fun e => (ha _ e).2.2.2.2 rfl), h.gr.chg c (fun j e => (ha j e).1), h.mid.chg c hd, b1, o1, f0, g0, hi, hq⟩
end

set_option maxHeartbeats 6400000 in
theorem morph_both (kk : Bool) (b rf : R) (af : Option Addr) (lf cf : Nat) (F : Img) (rx ry : Nat) (w : World) (hf : Hid (BufAt w rf af lf cf F)) (hsf : cntR rf ≤ 140737488355328) (hb : rightR b = true) (hsg : cntR (growR b 0 ry 0 ry) ≤ 40000) (hsb : cntR (someR b) ≤ 40000) (hx1 : rx ≤ 255) (hy1 : ry ≤ 255) :
    Calls Tryd.prog 64 #[.agg #[.int .i64 rf.x0, .int .i64 rf.y0, .int .i64 rf.x1, .int .i64 rf.y1, .slice af lf cf], .agg #[.int .i64 b.x0, .int .i64 b.y0, .int .i64 b.x1, .int .i64 b.y1], .int .i64 (rx : Int), .int .i64 (ry : Int), .int .u8 (flipB kk)] w (RetBuf w (someR b) (boxM kk b rx ry F)) := by
  have HG : Hid (GoodR (growR b 0 ry 0 ry)) := good_grow _ _ _ _ _
  have HS : Hid (GoodR (someR b)) := good_some hb
  have hgb := HG.out.bd
  have hgl := HG.out.le
  have hsbd := HS.out.bd
  have hsl := HS.out.le
  obtain ⟨⟨gw0, gw1⟩, gh0, gh1⟩ := HG.out.width hsg
  obtain ⟨⟨sw0, sw1⟩, sh0, sh1⟩ := HS.out.width hsb
  have FOK : Hid (∀ u v, okP (F u v)) := hf.out.fits.ok
  have HM : Hid (boxM kk b rx ry F = cutF (someR b) (morphV kk (cutF (growR b 0 ry 0 ry) (morphH kk F rx)) ry)) := rfl
  obtain ⟨B, hB⟩ : ∃ B, B = boxM kk b rx ry F := ⟨_, rfl⟩
  rw [← hB] at HM ⊢
  have HGr : Hid (∀ w, Calls Tryd.prog 61 #[.agg #[.int .i64 b.x0, .int .i64 b.y0, .int .i64 b.x1, .int .i64 b.y1], .int .i64 0, .int .i64 (ry : Int), .int .i64 0, .int .i64 (ry : Int)] w fun e w' => e = .returned (.agg #[.int .i64 (growR b 0 ry 0 ry).x0, .int .i64 (growR b 0 ry 0 ry).y0, .int .i64 (growR b 0 ry 0 ry).x1, .int .i64 (growR b 0 ry 0 ry).y1]) ∧ Grows w w') := fun w => rect_growR b 0 ry 0 ry w hb (by omega) (by omega) (by omega) (by omega)
  have HN1 : Hid (∀ w, Calls Tryd.prog 59 #[.agg #[.int .i64 (growR b 0 ry 0 ry).x0, .int .i64 (growR b 0 ry 0 ry).y0, .int .i64 (growR b 0 ry 0 ry).x1, .int .i64 (growR b 0 ry 0 ry).y1]] w (RetBuf w (growR b 0 ry 0 ry) noF)) := fun w => by
    have := raster_New (growR b 0 ry 0 ry) w HG.out.near (by rw [HG.out.some_eq]; omega)
    rwa [HG.out.some_eq] at this
  have HN2 : Hid (∀ w, Calls Tryd.prog 59 #[.agg #[.int .i64 b.x0, .int .i64 b.y0, .int .i64 b.x1, .int .i64 b.y1]] w (RetBuf w (someR b) noF)) := fun w => raster_New b w hb (by omega)
  obtain ⟨g, hg⟩ : ∃ g, g = growR b 0 ry 0 ry := ⟨_, rfl⟩
  rw [← hg] at HGr HN1 HG HM hgb hgl hsg gw0 gw1 gh0 gh1
  obtain ⟨s, hs⟩ : ∃ s, s = someR b := ⟨_, rfl⟩
  rw [← hs] at HN2 HS HM hsbd hsl hsb sw0 sw1 sh0 sh1 ⊢
  obtain ⟨lo, hlo⟩ : ∃ n : Nat, n = (g.x1 - g.x0).toNat := ⟨_, rfl⟩
  obtain ⟨lo2, hlo2⟩ : ∃ n : Nat, n = (s.y1 - s.y0).toNat := ⟨_, rfl⟩
  have HL1 : Hid (g.x1 - g.x0 = (lo : Int)) := show _ = _ by omega
  have HL2 : Hid (s.y1 - s.y0 = (lo2 : Int)) := show _ = _ by omega
  have hq1 : lo ≤ 40000 := by omega
  have hq2 : lo2 ≤ 40000 := by omega
  have hla : (lo : Int) ≤ g.x1 - g.x0 := by omega
  have hlb : g.x1 - g.x0 ≤ (lo : Int) := by omega
  have hlc : (lo2 : Int) ≤ s.y1 - s.y0 := by omega
  have hld : s.y1 - s.y0 ≤ (lo2 : Int) := by omega
  clear hB hg hs hlo hlo2
  go_enter Tryd.func64, Tryd.ntmps64
  go_wp2_with (first
    | (go_at_call 61; refine (HGr.out _).mono ?_; rintro e w' ⟨rfl, hgw⟩; first | (obtain ⟨gw, rfl⟩ := grows_of_grow hgw) | (obtain ⟨gw, rfl⟩ := hgw))
    | (go_at_call 59
       refine (HN1.out _).mono ?_
       rintro e w1 ⟨a, len, cap, rfl, hg1, hb1⟩
       have C0 : Hid (Blk w1 w.heap.size 35 #[.int .i64 rf.x0, .int .i64 rf.y0, .int .i64 rf.x1, .int .i64 rf.y1, .slice af lf cf]) := by
         refine Blk.grows ?_ hg1
         exact (by unfold Blk; repeat (first | exact blk_at _ _ _ (by first | omega | (simp; done) | (simp; omega)) | refine (blk_past _ _ _ (by first | omega | (simp; done) | (simp; omega))).trans ?_ | refine (heap_grow _ _ _ (by first | omega | (simp; done) | (simp; omega))).trans ?_ | refine (blk_drew _ _).trans ?_))
       have C1 : Hid (Blk w1 (w.heap.size + 1) 27 #[.int .i64 b.x0, .int .i64 b.y0, .int .i64 b.x1, .int .i64 b.y1]) := by
         refine Blk.grows ?_ hg1
         exact (by unfold Blk; repeat (first | exact blk_at _ _ _ (by first | omega | (simp; done) | (simp; omega)) | refine (blk_past _ _ _ (by first | omega | (simp; done) | (simp; omega))).trans ?_ | refine (heap_grow _ _ _ (by first | omega | (simp; done) | (simp; omega))).trans ?_ | refine (blk_drew _ _).trans ?_))
       have C2 : Hid (Blk w1 (w.heap.size + 1 + 1) 35 #[.int .i64 0, .int .i64 0, .int .i64 0, .int .i64 0, .slice none 0 0]) := by
         refine Blk.grows ?_ hg1
         exact (by unfold Blk; repeat (first | exact blk_at _ _ _ (by first | omega | (simp; done) | (simp; omega)) | refine (blk_past _ _ _ (by first | omega | (simp; done) | (simp; omega))).trans ?_ | refine (heap_grow _ _ _ (by first | omega | (simp; done) | (simp; omega))).trans ?_ | refine (blk_drew _ _).trans ?_))
       have GR : Hid (Grows w w1) := by
         refine Grows.trans ?_ hg1
         exact (by repeat (first | exact Grows.refl _ | apply Grows.grow | apply Grows.alloc | apply Grows.drew))
       have hsz : w.heap.size + 3 ≤ w1.heap.size := by have := hg1.below.size; simp at this; omega
       have HA : Hid (∀ k, blkOf a = some k → w.heap.size + 3 ≤ k ∧ k < w1.heap.size) := fun k hk => by
         cases a with
         | none => cases hk
         | some x =>
           have h1 := hb1.out.2.2 x rfl
           have h2 := (hb1.out.2.1 x rfl).1
           simp at hk h1
           omega
       have BU := Lib.hid hb1.out.1
       have OP := Lib.hid hb1.out.2.1
       clear hg1 hb1)
    | (go_at_call 87
       refine (morph_linesIs _ lo rx _ HL1.out (by omega) (by omega)).mono ?_
       rintro e w2 ⟨bi, bo, rfl, hg2, HL⟩
       have CM : Hid (Blk w2 w1.heap.size 35 #[.int .i64 g.x0, .int .i64 g.y0, .int .i64 g.x1, .int .i64 g.y1, .slice a len cap]) := by
         refine Blk.grows ?_ hg2
         exact (by unfold Blk; repeat (first | exact blk_at _ _ _ (by first | omega | (simp; done) | (simp; omega)) | refine (blk_past _ _ _ (by first | omega | (simp; done) | (simp; omega))).trans ?_ | refine (heap_grow _ _ _ (by first | omega | (simp; done) | (simp; omega))).trans ?_ | refine (blk_drew _ _).trans ?_))
       have GR2 : Hid (Grows w1 w2) := by
         refine Grows.trans ?_ hg2
         exact (by repeat (first | exact Grows.refl _ | apply Grows.grow | apply Grows.alloc | apply Grows.drew))
       have HLS : w1.heap.size + 1 ≤ bi ∧ w1.heap.size + 1 ≤ bo ∧ bi < w2.heap.size ∧ bo < w2.heap.size := by
         have h1 := HL.out.1
         have h2 := HL.out.2.1
         have h3 := HL.out.2.2.2.1.lt
         have h4 := HL.out.2.2.2.2.lt
         simp at h1 h2
         omega
       have HLN := Lib.hid HL.out.2.2
       obtain ⟨m0, m1, m2, m3, m4, mf⟩ := CM.out.c5
       have lm := CM.out.lt
       clear hg2 HL))
  have HA2 : Hid (∀ j, (blkOf a = some j ∨ j = bi ∨ j = bo) → w.heap.size ≤ j ∧ j ≠ w.heap.size ∧ j ≠ w.heap.size + 1 ∧ j ≠ w.heap.size + 1 + 1 ∧ j ≠ w1.heap.size ∧ j ≠ w2.heap.size) := fun j hj => by
    rcases hj with e | e | e
    · have := HA.out j e; omega
    · omega
    · omega
  have HAF : Hid (0 < lf → ∀ x, af = some x → x.block < w.heap.size) := fun h0 x hx => by
    obtain ⟨b', off', e', hb', -⟩ := hf.out.pix.cells h0
    rw [hx] at e'; cases e'
    exact hb'
  have ST : Hid (BothSt w (w2.alloc (.cells #[.slice (some ⟨bi, 0, none⟩) (lo + 2 * rx) (lo + 2 * rx), .slice (some ⟨bo, 0, none⟩) lo lo] 105)) w.heap.size (w.heap.size + 1) (w.heap.size + 1 + 1) w1.heap.size w2.heap.size b rf af lf cf g a len cap (upTo g (morphH kk F rx) g.y0 g.x0 noF) bi bo (lo + 2 * rx) lo) := by
    rw [upTo_first]
    exact ⟨(C0.out.grows GR2.out).grows (by repeat (first | exact Grows.refl _ | apply Grows.grow | apply Grows.alloc | apply Grows.drew)), (C1.out.grows GR2.out).grows (by repeat (first | exact Grows.refl _ | apply Grows.grow | apply Grows.alloc | apply Grows.drew)), (C2.out.grows GR2.out).grows (by repeat (first | exact Grows.refl _ | apply Grows.grow | apply Grows.alloc | apply Grows.drew)), CM.out.grows (by repeat (first | exact Grows.refl _ | apply Grows.grow | apply Grows.alloc | apply Grows.drew)), (by unfold Blk; repeat (first | exact blk_at _ _ _ (by first | omega | (simp; done) | (simp; omega)) | refine (blk_past _ _ _ (by first | omega | (simp; done) | (simp; omega))).trans ?_ | refine (heap_grow _ _ _ (by first | omega | (simp; done) | (simp; omega))).trans ?_ | refine (blk_drew _ _).trans ?_)), (GR.out.trans GR2.out).trans (by repeat (first | exact Grows.refl _ | apply Grows.grow | apply Grows.alloc | apply Grows.drew)), (BU.out.grows GR2.out).grows (by repeat (first | exact Grows.refl _ | apply Grows.grow | apply Grows.alloc | apply Grows.drew)), (OP.out.grows GR2.out).grows (by repeat (first | exact Grows.refl _ | apply Grows.grow | apply Grows.alloc | apply Grows.drew)), _, _, HLN.out.2.1.grows (by repeat (first | exact Grows.refl _ | apply Grows.grow | apply Grows.alloc | apply Grows.drew)), HLN.out.2.2.grows (by repeat (first | exact Grows.refl _ | apply Grows.grow | apply Grows.alloc | apply Grows.drew))⟩
  have hne : bi ≠ bo := HLN.out.1
  have hsz2 : w1.heap.size + 1 ≤ w2.heap.size := by omega
  clear C0 C1 C2 CM GR GR2 BU OP HLN m0 m1 m2 m3 m4 mf lm
  go_loopw [13] (fun z wr => ∃ v : Int, g.y0 ≤ v ∧ v ≤ g.y1 ∧ z = .int .i64 v ∧ Hid (BothSt w wr w.heap.size (w.heap.size + 1) (w.heap.size + 1 + 1) w1.heap.size w2.heap.size b rf af lf cf g a len cap (upTo g (morphH kk F rx) v g.x0 noF) bi bo (lo + 2 * rx) lo)) (fun z _ => (g.y1 - intOf z).toNat)
  case atStart => exact ⟨_, by omega, by omega, rfl, ST.out⟩
  case round =>
    clear ST
    obtain ⟨v, hv1, hv2, rfl, hh⟩ := hrel
    obtain ⟨m0, m1, m2, m3, m4, mf⟩ := hh.out.ob.c5
    have lm := hh.out.ob.lt
    by_cases hlt : v < g.y1
    · obtain ⟨s0, s1, s2, s3, s4, sf⟩ := hh.out.fb.c5
      have ls := hh.out.fb.lt
      obtain ⟨l0, l1, lf'⟩ := hh.out.lb.c2
      have ll := hh.out.lb.lt
      obtain ⟨f0, g0, I0, Q0⟩ := hh.out.rows
      have AP : Hid (MorphAp wr w1.heap.size wr.heap.size (wr.heap.size + 1) (wr.heap.size + 1 + 1) a af lf bi bo) := by
        have hib := I0.lt
        have hob := Q0.lt
        refine ⟨lm, by omega, by omega, by omega, hib, hob, hne, by omega, by omega, fun j e => ?_, fun h0 x hx => ?_⟩
        · have := HA.out j e; omega
        · have h1 := HAF.out h0 x hx
          refine ⟨by omega, fun e => ?_, by omega, by omega⟩
          have := HA.out _ e; omega
      have HI := Lib.hid I0
      have HQ := Lib.hid Q0
      clear I0 Q0
      go_wp2_with (go_at_call 88; refine (morph_row kk w1.heap.size g rf a af len cap lf cf F v rx bi bo (lo + 2 * rx) lo f0 g0 _ (Lib.hid hh.out.ob) (Lib.hid hh.out.buf) (Lib.hid hh.out.open_) (Lib.hid (hf.out.grows hh.out.gr)) HI HQ AP (by omega) hsf hla hlb (by omega) (by omega) hx1 (by omega) hv1 hlt).mono ?_; rintro e w3 ⟨rfl, GC, hb1, ho1, hi1, hq1⟩; have ST1 := Lib.hid (hh.out.step GC HA2.out hb1 ho1 hi1 hq1); clear GC hb1 ho1 hi1 hq1)
      go_roundw
      case rel => exact ⟨v + 1, by omega, by omega, by go_num, ST1.out⟩
      case measure => simp [intOf]; omega
    · obtain rfl : v = g.y1 := by omega
      have MB : Hid (BufAt wr g a len cap (cutF g (morphH kk F rx))) := by have := hh.out.buf; rwa [upTo_last] at this
      obtain ⟨s0, s1, s2, s3, sf⟩ := hh.out.bb.c4
      have ls := hh.out.bb.lt
      obtain ⟨l0, l1, lf'⟩ := hh.out.lb.c2
      have ll := hh.out.lb.lt
      go_wp2_with (first
        | (go_at_call 59
           refine (HN2.out _).mono ?_
           rintro e w4 ⟨a2, len2, cap2, rfl, hg1, hb1⟩
           have C2 : Hid (Blk w4 (w.heap.size + 1 + 1) 35 #[.int .i64 0, .int .i64 0, .int .i64 0, .int .i64 0, .slice none 0 0]) := hh.out.rb.grows hg1
           have C3 : Hid (Blk w4 w1.heap.size 35 #[.int .i64 g.x0, .int .i64 g.y0, .int .i64 g.x1, .int .i64 g.y1, .slice a len cap]) := hh.out.ob.grows hg1
           have C4 : Hid (Blk w4 w2.heap.size 105 #[.slice (some ⟨bi, 0, none⟩) (lo + 2 * rx) (lo + 2 * rx), .slice (some ⟨bo, 0, none⟩) lo lo]) := hh.out.lb.grows hg1
           have GR : Hid (Grows w w4) := hh.out.gr.trans hg1
           have MB4 : Hid (BufAt w4 g a len cap (cutF g (morphH kk F rx))) := MB.out.grows hg1
           have HB : Hid (∀ k, blkOf a2 = some k → wr.heap.size ≤ k ∧ k < w4.heap.size) := fun k hk => by
             cases a2 with
             | none => cases hk
             | some x =>
               have h1 := hb1.out.2.2 x rfl
               have h2 := (hb1.out.2.1 x rfl).1
               simp at hk h1
               omega
           have BU := Lib.hid hb1.out.1
           have OP := Lib.hid hb1.out.2.1
           have hsz4 : wr.heap.size ≤ w4.heap.size := hg1.below.size
           clear hg1 hb1 m0 m1 m2 m3 m4 mf s0 s1 s2 s3 sf ls)
        | (go_at_call 87
           refine (morph_linesIs _ lo2 ry _ HL2.out (by omega) (by omega)).mono ?_
           rintro e w5 ⟨bi2, bo2, rfl, hg2, HL⟩
           have CN : Hid (Blk w5 w4.heap.size 35 #[.int .i64 s.x0, .int .i64 s.y0, .int .i64 s.x1, .int .i64 s.y1, .slice a2 len2 cap2]) := by
             refine Blk.grows ?_ hg2
             exact (by unfold Blk; repeat (first | exact blk_at _ _ _ (by first | omega | (simp; done) | (simp; omega)) | refine (blk_past _ _ _ (by first | omega | (simp; done) | (simp; omega))).trans ?_ | refine (heap_grow _ _ _ (by first | omega | (simp; done) | (simp; omega))).trans ?_ | refine (blk_drew _ _).trans ?_))
           have GR2 : Hid (Grows w4 w5) := by
             refine Grows.trans ?_ hg2
             exact (by repeat (first | exact Grows.refl _ | apply Grows.grow | apply Grows.alloc | apply Grows.drew))
           have HLS2 : w4.heap.size + 1 ≤ bi2 ∧ w4.heap.size + 1 ≤ bo2 ∧ bi2 < w5.heap.size ∧ bo2 < w5.heap.size := by
             have h1 := HL.out.1
             have h2 := HL.out.2.1
             have h3 := HL.out.2.2.2.1.lt
             have h4 := HL.out.2.2.2.2.lt
             simp at h1 h2
             omega
           have HLN := Lib.hid HL.out.2.2
           obtain ⟨n0, n1, n2, n3, n4, nf⟩ := CN.out.c5
           have ln := CN.out.lt
           have C4' := C4.out.grows GR2.out
           obtain ⟨l0, l1, lf'⟩ := C4'.c2
           have ll' := C4'.lt
           replace C4' := Lib.hid C4'
           clear hg2 HL))
      have HB2 : Hid (∀ j, (blkOf a2 = some j ∨ j = bi2 ∨ j = bo2) → w.heap.size ≤ j ∧ j ≠ w.heap.size + 1 + 1 ∧ j ≠ w1.heap.size ∧ j ≠ w4.heap.size ∧ j ≠ w2.heap.size) := fun j hj => by
        rcases hj with e | e | e
        · have := HB.out j e; omega
        · omega
        · omega
      have HD : Hid (0 < len → ∀ x, a = some x → x.block < wr.heap.size) := fun h0 x hx => (hh.out.open_ x hx).1
      have HD2 : Hid (0 < len → ∀ x, a = some x → ¬ (blkOf a2 = some x.block ∨ x.block = bi2 ∨ x.block = bo2)) := fun h0 x hx e => by
        have h1 := HD.out h0 x hx
        rcases e with e | e | e
        · have := HB.out _ e; omega
        · omega
        · omega
      obtain ⟨M, hM⟩ : ∃ M, M = cutF g (morphH kk F rx) := ⟨_, rfl⟩
      rw [← hM] at MB4 HM
      have ST2 : Hid (Both2St w ((w5.setCell ⟨w2.heap.size, 0, none⟩ (.slice (some ⟨bi2, 0, none⟩) (lo2 + 2 * ry) (lo2 + 2 * ry))).setCell ⟨w2.heap.size, 1, none⟩ (.slice (some ⟨bo2, 0, none⟩) lo2 lo2)) (w.heap.size + 1 + 1) w1.heap.size w4.heap.size w2.heap.size g a len cap M s a2 len2 cap2 (upToC s (morphV kk M ry) s.x0 s.y0 noF) bi2 bo2 (lo2 + 2 * ry) lo2) := by
        have c : Chg (fun j => j = w2.heap.size) w5 ((w5.setCell ⟨w2.heap.size, 0, none⟩ (.slice (some ⟨bi2, 0, none⟩) (lo2 + 2 * ry) (lo2 + 2 * ry))).setCell ⟨w2.heap.size, 1, none⟩ (.slice (some ⟨bo2, 0, none⟩) lo2 lo2)) :=
          Chg.setCell (S := fun j => j = w2.heap.size) (Chg.setCell (S := fun j => j = w2.heap.size) (Chg.refl _ w5) (p := ⟨w2.heap.size, 0, none⟩) (.inl rfl) _) (p := ⟨w2.heap.size, 1, none⟩) (.inl rfl) _
        have lbb := C4'.out.lt
        rw [upToC_first]
        refine ⟨(C2.out.grows GR2.out).chg c (by omega), (C3.out.grows GR2.out).chg c (by omega), CN.out.chg c (by omega), (C4'.out.set_ 0 _).set_ 1 _, (GR.out.trans GR2.out).chg c (fun k e => by omega), (MB4.out.grows GR2.out).chg c (fun h0 x hx e => ?_), (BU.out.grows GR2.out).chg c (fun _ x hx e => ?_), (OP.out.grows GR2.out).chg c (fun x hx e => ?_), _, _, HLN.out.2.1.chg c (by omega), HLN.out.2.2.chg c (by omega)⟩
        · have h1 := HA.out x.block (by rw [hx]; rfl); omega
        · have h1 := HB.out x.block (by rw [hx]; rfl); omega
        · have h1 := HB.out x.block (by rw [hx]; rfl); omega
      have hne2 : bi2 ≠ bo2 := HLN.out.1
      clear C2 C3 C4 C4' CN GR GR2 BU OP MB4 MB HLN n0 n1 n2 n3 n4 nf ln l0 l1 lf' ll ll' hh hM
      obtain ⟨wo, hwo⟩ : ∃ wo : World, wo = wr := ⟨_, rfl⟩
      clear hwo
      go_loopw [15] (fun z wr => ∃ v : Int, s.x0 ≤ v ∧ v ≤ s.x1 ∧ z = .int .i64 v ∧ Hid (Both2St w wr (w.heap.size + 1 + 1) w1.heap.size w4.heap.size w2.heap.size g a len cap M s a2 len2 cap2 (upToC s (morphV kk M ry) v s.y0 noF) bi2 bo2 (lo2 + 2 * ry) lo2)) (fun z _ => (s.x1 - intOf z).toNat)
      case atStart => exact ⟨_, by omega, by omega, rfl, ST2.out⟩
      case round =>
        clear ST2
        obtain ⟨v, hv1, hv2, rfl, hh⟩ := hrel
        obtain ⟨m0, m1, m2, m3, m4, mf⟩ := hh.out.o2b.c5
        have lm := hh.out.o2b.lt
        by_cases hlt : v < s.x1
        · obtain ⟨s0, s1, s2, s3, s4, sf⟩ := hh.out.ob.c5
          have ls := hh.out.ob.lt
          obtain ⟨l0, l1, lf'⟩ := hh.out.lb.c2
          have ll := hh.out.lb.lt
          obtain ⟨f0, g0, I0, Q0⟩ := hh.out.rows
          have AP : Hid (MorphAp wr w4.heap.size wr.heap.size (wr.heap.size + 1) (wr.heap.size + 1 + 1) a2 a len bi2 bo2) := by
            have hib := I0.lt
            have hob := Q0.lt
            refine ⟨lm, by omega, by omega, by omega, hib, hob, hne2, by omega, by omega, fun j e => ?_, fun h0 x hx => ?_⟩
            · have := HB.out j e; omega
            · have h1 := HD.out h0 x hx
              have h2 := HD2.out h0 x hx
              exact ⟨by omega, fun e => h2 (.inl e), fun e => h2 (.inr (.inl e)), fun e => h2 (.inr (.inr e))⟩
          have HI := Lib.hid I0
          have HQ := Lib.hid Q0
          clear I0 Q0
          go_wp2_with (go_at_call 89; refine (morph_col kk w4.heap.size s g a2 a len2 cap2 len cap M v ry bi2 bo2 (lo2 + 2 * ry) lo2 f0 g0 _ (Lib.hid hh.out.o2b) (Lib.hid hh.out.buf) (Lib.hid hh.out.open_) (Lib.hid hh.out.mid) HI HQ AP (by omega) (by omega) hlc hld (by omega) (by omega) hy1 (by omega) hv1 hlt).mono ?_; rintro e w3 ⟨rfl, GC, hb1, ho1, hi1, hq1⟩; have ST1 := Lib.hid (hh.out.step GC HB2.out HD2.out hb1 ho1 hi1 hq1); clear GC hb1 ho1 hi1 hq1)
          go_roundw
          case rel => exact ⟨v + 1, by omega, by omega, by go_num, ST1.out⟩
          case measure => simp [intOf]; omega
        · obtain rfl : v = s.x1 := by omega
          have MB2 : Hid (BufAt wr s a2 len2 cap2 B) := by
            have := hh.out.buf
            rw [upToC_last] at this
            rw [HM.out]; exact this
          obtain ⟨q0, q1, q2, q3, q4, qf⟩ := hh.out.rb.c5
          have lq := hh.out.rb.lt
          go_wp2
          obtain ⟨D1, D2⟩ := ret_cell MB2.out hh.out.open_ hh.out.gr (n := w.heap.size + 1 + 1) (by omega) (fun k hk => ⟨(HB2.out k (.inl hk)).1, (HB2.out k (.inl hk)).2.1⟩) (.int .i64 s.x0) (.int .i64 s.y0) (.int .i64 s.x1) (.int .i64 s.y1) (.slice a2 len2 cap2)
          refine bodyPost_ret (results_cell_row rfl _ _ _ 35 #[.int .i64 s.x0, .int .i64 s.y0, .int .i64 s.x1, .int .i64 s.y1, .slice a2 len2 cap2] (0, 0) _ rfl (hh.out.rb.set5 _ _ _ _ _) Tryd.underlying35 rfl buf_info) rfl ⟨_, _, _, rfl, D1, D2⟩
end Go.Proofs.YtklcmlbkhjcaiaaDoor
