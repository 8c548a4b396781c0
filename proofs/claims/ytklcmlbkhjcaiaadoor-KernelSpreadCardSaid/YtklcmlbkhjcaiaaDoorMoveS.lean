/- The walk of layer 10's Shadow. -/
import Derived.Test.YtklcmlbkhjcaiaaDoorMoveO
import Derived.Deep.RegionHeld3



namespace Go.Proofs.YtklcmlbkhjcaiaaDoor
open Go.RowKit
set_option linter.unusedVariables false

theorem then_name {K : Act → World → Prop} {Q : Exit → Act → World → Prop} {a : Act} {w : World} (h : ∀ W, W = w → Exit.then K Q .normal a W) : Exit.then K Q .normal a w := h w rfl
def thereR (b : R) (dx dy : Int) : R := ⟨b.x0 - dx, b.y0 - dy, b.x1 - dx, b.y1 - dy⟩
/-- A shadow below. -/
def shadeP (S F : Img) (dx dy : Int) (p : P4) : Img := fun x y => compP 0 (F x y) (scaleP p (S (x - dx) (y - dy)).a)
def shadowF (b : R) (dx dy rx ry : Int) (p : P4) (F : Img) : Img := cutF (someR b) (shadeP (boxF (thereR (someR b) dx dy) rx ry F) F dx dy p)
theorem shadeP_ok (S F : Img) (dx dy : Int) (p : P4) (x y : Int) : okP (shadeP S F dx dy p x y) := compP_ok 0 _ _
/-- What holds while a shadow is laid. -/
structure ShSt (w wr : World) (n0 n2 nr no ns : Nat) (rf : R) (p : P4) (af : Option Addr) (lf cf : Nat) (g : R) (a : Option Addr) (len cap : Nat) (G : Img) (h : R) (aq : Option Addr) (ls ps : Nat) (S : Img) : Prop where
  fb : Blk wr n0 35 #[.int .i64 rf.x0, .int .i64 rf.y0, .int .i64 rf.x1, .int .i64 rf.y1, .slice af lf cf]
  pb : Blk wr n2 40 #[.int .u8 p.r, .int .u8 p.g, .int .u8 p.b, .int .u8 p.a]
  rb : Blk wr nr 35 #[.int .i64 0, .int .i64 0, .int .i64 0, .int .i64 0, .slice none 0 0]
  ob : Blk wr no 35 #[.int .i64 g.x0, .int .i64 g.y0, .int .i64 g.x1, .int .i64 g.y1, .slice a len cap]
  sb : Blk wr ns 35 #[.int .i64 h.x0, .int .i64 h.y0, .int .i64 h.x1, .int .i64 h.y1, .slice aq ls ps]
  gr : Grows w wr
  buf : BufAt wr g a len cap G
  open_ : Open wr a
  soft : BufAt wr h aq ls ps S
section
variable {w wr w' : World} {n0 n2 nr no ns : Nat} {rf : R} {p : P4} {af : Option Addr} {lf cf : Nat} {g : R} {a : Option Addr} {len cap : Nat} {G G' : Img} {h : R} {aq : Option Addr} {ls ps : Nat} {S : Img}
theorem ShSt.grows (s : ShSt w wr n0 n2 nr no ns rf p af lf cf g a len cap G h aq ls ps S) (k : Grows wr w') : ShSt w w' n0 n2 nr no ns rf p af lf cf g a len cap G h aq ls ps S :=
  ⟨s.fb.grows k, s.pb.grows k, s.rb.grows k, s.ob.grows k, s.sb.grows k, s.gr.trans k, s.buf.grows k, s.open_.grows k, s.soft.grows k⟩
theorem ShSt.step (s : ShSt w wr n0 n2 nr no ns rf p af lf cf g a len cap G h aq ls ps S) (ha : ∀ k, blkOf a = some k → w.heap.size ≤ k ∧ k ≠ n0 ∧ k ≠ n2 ∧ k ≠ nr ∧ k ≠ no ∧ k ≠ ns) (hd : 0 < ls → ∀ x, aq = some x → some x.block ≠ blkOf a) (g1 : wr.grownBy w' (blkOf a)) (b1 : BufAt w' g a len cap G') (o1 : Open w' a) : ShSt w w' n0 n2 nr no ns rf p af lf cf g a len cap G' h aq ls ps S :=
  ⟨s.fb.grown g1 (fun e => (ha _ e.symm).2.1 rfl), s.pb.grown g1 (fun e => (ha _ e.symm).2.2.1 rfl), s.rb.grown g1 (fun e => (ha _ e.symm).2.2.2.1 rfl), s.ob.grown g1 (fun e => (ha _ e.symm).2.2.2.2.1 rfl), s.sb.grown g1 (fun e => (ha _ e.symm).2.2.2.2.2 rfl), s.gr.grown g1 (fun k hk => (ha k hk).1), b1, o1, s.soft.grown g1 hd⟩
end

set_option maxRecDepth 100000 in
set_option maxHeartbeats 12800000 in
theorem move_Shadow (b rf : R) (af : Option Addr) (lf cf : Nat) (F : Img) (dx dy rx ry : Int) (p : P4) (w : World) (hf : Hid (BufAt w rf af lf cf F)) (hsf : cntR rf ≤ 30000000000000) (hb : rightR b = true) (hs : cntR (someR b) ≤ 30000000000000) (hp : okP p)
    (hdx : -16777216 ≤ dx ∧ dx ≤ 16777216) (hdy : -16777216 ≤ dy ∧ dy ≤ 16777216) (hrx : 0 ≤ rx ∧ rx ≤ 255) (hry : 0 ≤ ry ∧ ry ≤ 255)
    (hth : rightR (thereR (someR b) dx dy) = true) (ht1 : cntR (growR (thereR (someR b) dx dy) 0 ry 0 ry) ≤ 30000000000000) (ht2 : cntR (someR (thereR (someR b) dx dy)) ≤ 30000000000000) :
    Calls Tryd.prog 42 #[.agg #[.int .i64 rf.x0, .int .i64 rf.y0, .int .i64 rf.x1, .int .i64 rf.y1, .slice af lf cf], .agg #[.int .i64 b.x0, .int .i64 b.y0, .int .i64 b.x1, .int .i64 b.y1], .int .i64 dx, .int .i64 dy, .int .i64 rx, .int .i64 ry, .agg #[.int .u8 p.r, .int .u8 p.g, .int .u8 p.b, .int .u8 p.a]] w (RetBuf w (someR b) (shadowF b dx dy rx ry p F)) := by
  unfold shadowF
  have HG : Hid (GoodR (someR b)) := good_some hb
  have hgb := HG.out.bd
  have hgl := HG.out.le
  obtain ⟨hdx0, hdx1⟩ := hdx
  obtain ⟨hdy0, hdy1⟩ := hdy
  have FOK : Hid (∀ u v, okP (F u v)) := hf.out.fits.ok
  have HN : Hid (∀ w, Calls Tryd.prog 59 #[.agg #[.int .i64 b.x0, .int .i64 b.y0, .int .i64 b.x1, .int .i64 b.y1]] w (RetBuf w (someR b) noF)) := fun w => raster_New b w hb (by omega)
  have HSO : Hid (∀ W, Grows w W → Calls Tryd.prog 37 #[.agg #[.int .i64 rf.x0, .int .i64 rf.y0, .int .i64 rf.x1, .int .i64 rf.y1, .slice af lf cf], .agg #[.int .i64 ((someR b).x0 - dx), .int .i64 ((someR b).y0 - dy), .int .i64 ((someR b).x1 - dx), .int .i64 ((someR b).y1 - dy)], .int .i64 rx, .int .i64 ry] W (RetBuf W (someR (thereR (someR b) dx dy)) (boxF (thereR (someR b) dx dy) rx ry F))) := fun W g =>
    blur_Box (thereR (someR b) dx dy) rf af lf cf F rx ry W (hf.out.grows g) (by omega) hth (by omega) (by omega) hrx.1 hrx.2 hry.1 hry.2
  obtain ⟨S, hS⟩ : ∃ S, S = boxF (thereR (someR b) dx dy) rx ry F := ⟨_, rfl⟩
  obtain ⟨h, hh⟩ : ∃ g, g = someR (thereR (someR b) dx dy) := ⟨_, rfl⟩
  obtain ⟨g, hg⟩ : ∃ g, g = someR b := ⟨_, rfl⟩
  rw [← hS] at HSO ⊢
  rw [← hh] at HSO ht2
  rw [← hg] at HN HG hgb hgl hs HSO ⊢
  clear hS hh hg hth ht1
  go_enter Tryd.func42, Tryd.ntmps42
  go_wp2_with (first
    | (go_at_call 59
       refine (HN.out _).mono ?_
       rintro e w1 ⟨a, len, cap, rfl, hg1, hb1⟩
       have C0 : Hid (Blk w1 w.heap.size 35 #[.int .i64 rf.x0, .int .i64 rf.y0, .int .i64 rf.x1, .int .i64 rf.y1, .slice af lf cf]) := by
         refine Blk.grows ?_ hg1
         exact (by unfold Blk; repeat (first | exact blk_at _ _ _ (by first | omega | (simp; done) | (simp; omega)) | refine (blk_past _ _ _ (by first | omega | (simp; done) | (simp; omega))).trans ?_ | refine (heap_grow _ _ _ (by first | omega | (simp; done) | (simp; omega))).trans ?_ | refine (blk_drew _ _).trans ?_))
       have C1 : Hid (Blk w1 (w.heap.size + 1 + 1) 40 #[.int .u8 p.r, .int .u8 p.g, .int .u8 p.b, .int .u8 p.a]) := by
         refine Blk.grows ?_ hg1
         exact (by unfold Blk; repeat (first | exact blk_at _ _ _ (by first | omega | (simp; done) | (simp; omega)) | refine (blk_past _ _ _ (by first | omega | (simp; done) | (simp; omega))).trans ?_ | refine (heap_grow _ _ _ (by first | omega | (simp; done) | (simp; omega))).trans ?_ | refine (blk_drew _ _).trans ?_))
       have C2 : Hid (Blk w1 (w.heap.size + 1 + 1 + 1) 35 #[.int .i64 0, .int .i64 0, .int .i64 0, .int .i64 0, .slice none 0 0]) := by
         refine Blk.grows ?_ hg1
         exact (by unfold Blk; repeat (first | exact blk_at _ _ _ (by first | omega | (simp; done) | (simp; omega)) | refine (blk_past _ _ _ (by first | omega | (simp; done) | (simp; omega))).trans ?_ | refine (heap_grow _ _ _ (by first | omega | (simp; done) | (simp; omega))).trans ?_ | refine (blk_drew _ _).trans ?_))
       have GR : Hid (Grows w w1) := by
         refine Grows.trans ?_ hg1
         exact (by repeat (first | exact Grows.refl _ | apply Grows.grow | apply Grows.alloc | apply Grows.drew))
       have hsz : w.heap.size + 4 ≤ w1.heap.size := by have := hg1.below.size; simp at this; omega
       have HA : Hid (∀ k, blkOf a = some k → w.heap.size + 4 ≤ k ∧ k < w1.heap.size) := fun k hk => by
         cases a with
         | none => cases hk
         | some x =>
           have h1 := hb1.out.2.2 x rfl
           have h2 := (hb1.out.2.1 x rfl).1
           simp at hk h1
           omega
       have BU := Lib.hid hb1.out.1
       have OP := Lib.hid hb1.out.2.1
       obtain ⟨s0, s1, s2, s3, s4, sf⟩ := C0.out.c5
       have ls' := C0.out.lt
       clear hg1 hb1)
    | (go_at_call 37
       with_reducible refine Calls.mono (HSO.out _ ?_) ?_
       · exact GR.out.trans (by repeat (first | exact Grows.refl _ | apply Grows.grow | apply Grows.alloc | apply Grows.drew))
       rintro e w5 ⟨aq, ls, ps, rfl, hg5, HS5⟩
       have CO : Hid (Blk w5 w1.heap.size 35 #[.int .i64 g.x0, .int .i64 g.y0, .int .i64 g.x1, .int .i64 g.y1, .slice a len cap]) := by
         refine Blk.grows ?_ hg5
         exact (by unfold Blk; repeat (first | exact blk_at _ _ _ (by first | omega | (simp; done) | (simp; omega)) | refine (blk_past _ _ _ (by first | omega | (simp; done) | (simp; omega))).trans ?_ | refine (heap_grow _ _ _ (by first | omega | (simp; done) | (simp; omega))).trans ?_ | refine (blk_drew _ _).trans ?_))
       have GR5 : Hid (Grows w1 w5) := by
         refine Grows.trans ?_ hg5
         exact (by repeat (first | exact Grows.refl _ | apply Grows.grow | apply Grows.alloc | apply Grows.drew))
       have hsz5 : w1.heap.size + 2 ≤ w5.heap.size := by have := hg5.below.size; simp at this; omega
       have HAS : Hid (∀ k, blkOf aq = some k → w1.heap.size + 2 ≤ k ∧ k < w5.heap.size) := fun k hk => by
         cases aq with
         | none => cases hk
         | some x =>
           have h1 := HS5.out.2.2 x rfl
           have h2 := (HS5.out.2.1 x rfl).1
           simp at hk h1
           omega
       have SO := Lib.hid HS5.out.1
       obtain ⟨m0, m1, m2, m3, m4, mf⟩ := CO.out.c5
       have lm := CO.out.lt
       clear hg5 HS5))
  have HA2 : Hid (∀ k, blkOf a = some k → w.heap.size ≤ k ∧ k ≠ w.heap.size ∧ k ≠ w.heap.size + 1 + 1 ∧ k ≠ w.heap.size + 1 + 1 + 1 ∧ k ≠ w1.heap.size ∧ k ≠ w5.heap.size) := fun k hk => by have := HA.out k hk; omega
  have HD : Hid (0 < ls → ∀ x, aq = some x → some x.block ≠ blkOf a) := fun _ x hx e => by
    have h1 := HA.out _ e.symm
    have h2 := HAS.out x.block (by rw [hx]; rfl)
    omega
  have SOK : Hid (∀ u v, okP (S u v)) := SO.out.fits.ok
  have hcs : cntR h ≤ 140737488355328 := by omega
  have ST : Hid (ShSt w w5 w.heap.size (w.heap.size + 1 + 1) (w.heap.size + 1 + 1 + 1) w1.heap.size w5.heap.size rf p af lf cf g a len cap noF h aq ls ps S → True) := fun _ => trivial
  clear ST
  go_loopw [18] (fun z wr => ∃ v : Int, g.y0 ≤ v ∧ v ≤ g.y1 ∧ z = .int .i64 v ∧ Hid (ShSt w wr w.heap.size (w.heap.size + 1 + 1) (w.heap.size + 1 + 1 + 1) w1.heap.size w5.heap.size rf p af lf cf g a len cap (upTo g (shadeP S F dx dy p) v g.x0 noF) h aq ls ps S)) (fun z _ => (g.y1 - intOf z).toNat)
  case atStart => exact ⟨_, by omega, by omega, rfl, (C0.out.grows GR5.out).grows (by repeat (first | exact Grows.refl _ | apply Grows.grow | apply Grows.alloc | apply Grows.drew)), (C1.out.grows GR5.out).grows (by repeat (first | exact Grows.refl _ | apply Grows.grow | apply Grows.alloc | apply Grows.drew)), (C2.out.grows GR5.out).grows (by repeat (first | exact Grows.refl _ | apply Grows.grow | apply Grows.alloc | apply Grows.drew)), CO.out.grows (by repeat (first | exact Grows.refl _ | apply Grows.grow | apply Grows.alloc | apply Grows.drew)), (by unfold Blk; repeat (first | exact blk_at _ _ _ (by first | omega | (simp; done) | (simp; omega)) | refine (blk_past _ _ _ (by first | omega | (simp; done) | (simp; omega))).trans ?_ | refine (heap_grow _ _ _ (by first | omega | (simp; done) | (simp; omega))).trans ?_ | refine (blk_drew _ _).trans ?_)), (GR.out.trans GR5.out).trans (by repeat (first | exact Grows.refl _ | apply Grows.grow | apply Grows.alloc | apply Grows.drew)), by rw [upTo_first]; exact (BU.out.grows GR5.out).grows (by repeat (first | exact Grows.refl _ | apply Grows.grow | apply Grows.alloc | apply Grows.drew)), (OP.out.grows GR5.out).grows (by repeat (first | exact Grows.refl _ | apply Grows.grow | apply Grows.alloc | apply Grows.drew)), SO.out.grows (by repeat (first | exact Grows.refl _ | apply Grows.grow | apply Grows.alloc | apply Grows.drew))⟩
  case round =>
    clear C0 C1 C2 CO GR GR5 BU OP SO HSO HN
    obtain ⟨v, hv1, hv2, rfl, hh⟩ := hrel
    obtain ⟨m0, m1, m2, m3, m4, mf⟩ := hh.out.ob.c5
    have lm := hh.out.ob.lt
    by_cases hlt : v < g.y1
    · go_wp2
      clear m0 m1 m2 m3 m4 mf lm
      obtain ⟨wo, hwo⟩ : ∃ wo : World, wo = wr := ⟨_, rfl⟩
      clear hwo
      go_loopw [19] (fun z wr => ∃ u : Int, g.x0 ≤ u ∧ u ≤ g.x1 ∧ z = .int .i64 u ∧ Hid (ShSt w wr w.heap.size (w.heap.size + 1 + 1) (w.heap.size + 1 + 1 + 1) w1.heap.size w5.heap.size rf p af lf cf g a len cap (upTo g (shadeP S F dx dy p) v u noF) h aq ls ps S)) (fun z _ => (g.x1 - intOf z).toNat)
      case atStart => exact ⟨_, by omega, by omega, rfl, hh.out⟩
      case round =>
        clear hh
        obtain ⟨u, hu1, hu2, rfl, hh⟩ := hrel
        obtain ⟨m0, m1, m2, m3, m4, mf⟩ := hh.out.ob.c5
        have lm := hh.out.ob.lt
        by_cases hltx : u < g.x1
        · have hhas : hasR g u v = true := (hasR_iff _ _ _).2 (by omega)
          obtain ⟨q, hq⟩ : ∃ q, q = S (u - dx) (v - dy) := ⟨_, rfl⟩
          obtain ⟨q2, hq2⟩ : ∃ q, q = F u v := ⟨_, rfl⟩
          obtain ⟨sc, hsc⟩ : ∃ z, z = scaleP p q.a := ⟨_, rfl⟩
          obtain ⟨PP, hPP⟩ : ∃ z, z = compP 0 q2 sc := ⟨_, rfl⟩
          have HQ0 : Hid (S (u - dx) (v - dy) = q) := hq.symm
          have HQ1 : Hid (F u v = q2) := hq2.symm
          have HSC : Hid (scaleP p q.a = sc) := hsc.symm
          have HOV : Hid (compP 0 q2 sc = PP) := hPP.symm
          have QO : okP q := by rw [hq]; exact SOK.out _ _
          have QA : 0 ≤ q.a ∧ q.a ≤ 255 := QO.2.2.2
          have QO2 : okP q2 := by rw [hq2]; exact FOK.out _ _
          have SCO : okP sc := by rw [hsc]; exact scaleP_ok hp QA
          have POK : okP PP := by rw [hPP]; exact compP_ok _ _ _
          have NX : Hid (putF g (upTo g (shadeP S F dx dy p) v u noF) u v PP = upTo g (shadeP S F dx dy p) v (u + 1) noF) := by
            rw [hPP, hsc, hq, hq2]; exact upTo_next (G := shadeP S F dx dy p) hhas
          obtain ⟨p0, p1, p2, p3, pf⟩ := hh.out.pb.c4
          have lp := hh.out.pb.lt
          obtain ⟨x0, x1, x2, x3, x4, xf⟩ := hh.out.sb.c5
          have lx := hh.out.sb.lt
          have HSS := Lib.hid hh.out.soft
          have hwr1 : IntKind.i64.wrap (u - dx) = u - dx := IntWalk.i64_in _ (by omega)
          have hwr2 : IntKind.i64.wrap (v - dy) = v - dy := IntWalk.i64_in _ (by omega)
          clear hq hq2 hsc hPP
          go_wp2
          go_region_held3 (fun w' => w'.cell? ⟨w.heap.size + 1 + 1, 0, none⟩ = some (.int .u8 p.r) ∧ w'.cell? ⟨w.heap.size + 1 + 1, 1, none⟩ = some (.int .u8 p.g) ∧ w'.cell? ⟨w.heap.size + 1 + 1, 2, none⟩ = some (.int .u8 p.b) ∧ w'.cell? ⟨w.heap.size + 1 + 1, 3, none⟩ = some (.int .u8 p.a) ∧ w'.cell? ⟨w5.heap.size, 0, none⟩ = some (.int .i64 h.x0) ∧ w'.cell? ⟨w5.heap.size, 1, none⟩ = some (.int .i64 h.y0) ∧ w'.cell? ⟨w5.heap.size, 2, none⟩ = some (.int .i64 h.x1) ∧ w'.cell? ⟨w5.heap.size, 3, none⟩ = some (.int .i64 h.y1) ∧ w'.cell? ⟨w5.heap.size, 4, none⟩ = some (.slice aq ls ps)) (go_simp) (first
            | (go_at_call 67; (with_reducible refine Calls.mono (raster_AtIs _ _ _ _ _ _ _ _ q ?_ hcs HQ0) ?_); (exact Lib.hid (BufAt.grows HSS.out (by repeat (first | exact Grows.refl _ | apply Grows.grow | apply Grows.alloc | apply Grows.drew)))); rintro e w' ⟨rfl, hgw⟩; first | (obtain ⟨ga, rfl⟩ := grows_of_grow hgw) | (obtain ⟨ga, rfl⟩ := hgw))
            | (go_at_call 68; (with_reducible refine Calls.mono (tone_scaleIs p sc q.a _ hp QA HSC) ?_); rintro e w' ⟨rfl, hgw⟩; first | (obtain ⟨gb, rfl⟩ := grows_of_grow hgw) | (obtain ⟨gb, rfl⟩ := hgw)))
          · refine then_name ?_
            intro W2 hW2
            have GQ : Hid (Grows wr W2) := by rw [hW2]; exact (by repeat (first | exact Grows.refl _ | apply Grows.grow | apply Grows.alloc | apply Grows.drew))
            have BP : Blk W2 (wr.heap.size + gb.news.size) 40 #[.int .u8 sc.r, .int .u8 sc.g, .int .u8 sc.b, .int .u8 sc.a] := by rw [hW2]; exact (by unfold Blk; repeat (first | exact blk_at _ _ _ (by first | omega | (simp; done) | (simp; omega)) | refine (blk_past _ _ _ (by first | omega | (simp; done) | (simp; omega))).trans ?_ | refine (heap_grow _ _ _ (by first | omega | (simp; done) | (simp; omega))).trans ?_ | refine (blk_drew _ _).trans ?_))
            obtain ⟨nb, hnb⟩ : ∃ n, n = wr.heap.size + gb.news.size := ⟨_, rfl⟩
            rw [← hnb] at BP ⊢
            have hh2 := Lib.hid (hh.out.grows GQ.out)
            have hnbs : w.heap.size ≤ nb := by have := hh.out.gr.below.size; omega
            clear hW2 hnb hh m0 m1 m2 m3 m4 mf lm p0 p1 p2 p3 pf lp x0 x1 x2 x3 x4 xf lx
            obtain ⟨c0, c1, c2, c3, cf⟩ := BP.c4
            have lc := BP.lt
            obtain ⟨s0, s1, s2, s3, s4, sf⟩ := hh2.out.fb.c5
            have ls' := hh2.out.fb.lt
            have HSRC := Lib.hid (hf.out.grows hh2.out.gr)
            have HQ0 := HQ1
            clear BP
            go_wp2
            first | refine region_grow_tail2 8 (by kernel_rfl) (by kernel_rfl) ?_ | refine region_grow_tail 8 (by kernel_rfl) (by kernel_rfl) ?_
            simp only [List.take_succ_cons, List.take_zero, List.drop_succ_cons, List.drop_zero]
            repeat (go_big_quiet_step ((first | (go_at_call 67; exact grow_of (raster_AtIs _ _ _ _ _ _ _ _ _ (Lib.hid (BufAt.grows HSRC.out (by repeat (first | exact Grows.refl _ | apply Grows.grow | apply Grows.alloc | apply Grows.drew)))) (by omega) HQ0)) | (go_at_call 69; exact grow_of (mix_overIs _ _ _ _ (by assumption) (by assumption) HOV)))))
            refine wpQuiet_nil ?_
            rintro _ ⟨gd, rfl⟩
            go_wp2_with (go_at_call 66; refine (raster_Put w1.heap.size g a len cap _ _ _ PP _ (Lib.hid (hh2.out.ob.grows (by repeat (first | exact Grows.refl _ | apply Grows.grow | apply Grows.alloc | apply Grows.drew)))) (Lib.hid (hh2.out.buf.grows (by repeat (first | exact Grows.refl _ | apply Grows.grow | apply Grows.alloc | apply Grows.drew)))) (Lib.hid (hh2.out.open_.grows (by repeat (first | exact Grows.refl _ | apply Grows.grow | apply Grows.alloc | apply Grows.drew)))) (by omega) POK).mono ?_; rintro e w2 ⟨rfl, hg1, hb1, hp1⟩; rw [NX.out] at hb1; have ST2 := Lib.hid ((hh2.out.grows (by exact (by repeat (first | exact Grows.refl _ | apply Grows.grow | apply Grows.alloc | apply Grows.drew)))).step HA2.out HD.out hg1 hb1 hp1); clear hg1 hb1 hp1)
            go_roundw
            case rel => exact ⟨u + 1, by omega, by omega, by go_num, ST2.out.grows (by repeat (first | exact Grows.refl _ | apply Grows.grow | apply Grows.alloc | apply Grows.drew))⟩
            case measure => simp [intOf]; omega
          · refine then_name ?_
            intro W2 hW2
            have GQ : Hid (Grows wr W2) := by rw [hW2]; exact (by repeat (first | exact Grows.refl _ | apply Grows.grow | apply Grows.alloc | apply Grows.drew))
            have BP : Blk W2 (wr.heap.size + ga.news.size) 40 #[.int .u8 sc.r, .int .u8 sc.g, .int .u8 sc.b, .int .u8 sc.a] := by rw [hW2]; exact (by unfold Blk; repeat (first | exact blk_at _ _ _ (by first | omega | (simp; done) | (simp; omega)) | refine (blk_past _ _ _ (by first | omega | (simp; done) | (simp; omega))).trans ?_ | refine (heap_grow _ _ _ (by first | omega | (simp; done) | (simp; omega))).trans ?_ | refine (blk_drew _ _).trans ?_))
            obtain ⟨nb, hnb⟩ : ∃ n, n = wr.heap.size + ga.news.size := ⟨_, rfl⟩
            rw [← hnb] at BP ⊢
            have hh2 := Lib.hid (hh.out.grows GQ.out)
            have hnbs : w.heap.size ≤ nb := by have := hh.out.gr.below.size; omega
            clear hW2 hnb hh m0 m1 m2 m3 m4 mf lm p0 p1 p2 p3 pf lp x0 x1 x2 x3 x4 xf lx
            obtain ⟨c0, c1, c2, c3, cf⟩ := BP.c4
            have lc := BP.lt
            obtain ⟨s0, s1, s2, s3, s4, sf⟩ := hh2.out.fb.c5
            have ls' := hh2.out.fb.lt
            have HSRC := Lib.hid (hf.out.grows hh2.out.gr)
            have HQ0 := HQ1
            clear BP
            go_wp2
            first | refine region_grow_tail2 8 (by kernel_rfl) (by kernel_rfl) ?_ | refine region_grow_tail 8 (by kernel_rfl) (by kernel_rfl) ?_
            simp only [List.take_succ_cons, List.take_zero, List.drop_succ_cons, List.drop_zero]
            repeat (go_big_quiet_step ((first | (go_at_call 67; exact grow_of (raster_AtIs _ _ _ _ _ _ _ _ _ (Lib.hid (BufAt.grows HSRC.out (by repeat (first | exact Grows.refl _ | apply Grows.grow | apply Grows.alloc | apply Grows.drew)))) (by omega) HQ0)) | (go_at_call 69; exact grow_of (mix_overIs _ _ _ _ (by assumption) (by assumption) HOV)))))
            refine wpQuiet_nil ?_
            rintro _ ⟨gd, rfl⟩
            go_wp2_with (go_at_call 66; refine (raster_Put w1.heap.size g a len cap _ _ _ PP _ (Lib.hid (hh2.out.ob.grows (by repeat (first | exact Grows.refl _ | apply Grows.grow | apply Grows.alloc | apply Grows.drew)))) (Lib.hid (hh2.out.buf.grows (by repeat (first | exact Grows.refl _ | apply Grows.grow | apply Grows.alloc | apply Grows.drew)))) (Lib.hid (hh2.out.open_.grows (by repeat (first | exact Grows.refl _ | apply Grows.grow | apply Grows.alloc | apply Grows.drew)))) (by omega) POK).mono ?_; rintro e w2 ⟨rfl, hg1, hb1, hp1⟩; rw [NX.out] at hb1; have ST2 := Lib.hid ((hh2.out.grows (by exact (by repeat (first | exact Grows.refl _ | apply Grows.grow | apply Grows.alloc | apply Grows.drew)))).step HA2.out HD.out hg1 hb1 hp1); clear hg1 hb1 hp1)
            go_roundw
            case rel => exact ⟨u + 1, by omega, by omega, by go_num, ST2.out.grows (by repeat (first | exact Grows.refl _ | apply Grows.grow | apply Grows.alloc | apply Grows.drew))⟩
            case measure => simp [intOf]; omega
          · refine then_name ?_
            intro W2 hW2
            have GQ : Hid (Grows wr W2) := by rw [hW2]; exact (by repeat (first | exact Grows.refl _ | apply Grows.grow | apply Grows.alloc | apply Grows.drew))
            have BP : Blk W2 (wr.heap.size + ga.news.size) 40 #[.int .u8 sc.r, .int .u8 sc.g, .int .u8 sc.b, .int .u8 sc.a] := by rw [hW2]; exact (by unfold Blk; repeat (first | exact blk_at _ _ _ (by first | omega | (simp; done) | (simp; omega)) | refine (blk_past _ _ _ (by first | omega | (simp; done) | (simp; omega))).trans ?_ | refine (heap_grow _ _ _ (by first | omega | (simp; done) | (simp; omega))).trans ?_ | refine (blk_drew _ _).trans ?_))
            obtain ⟨nb, hnb⟩ : ∃ n, n = wr.heap.size + ga.news.size := ⟨_, rfl⟩
            rw [← hnb] at BP ⊢
            have hh2 := Lib.hid (hh.out.grows GQ.out)
            have hnbs : w.heap.size ≤ nb := by have := hh.out.gr.below.size; omega
            clear hW2 hnb hh m0 m1 m2 m3 m4 mf lm p0 p1 p2 p3 pf lp x0 x1 x2 x3 x4 xf lx
            obtain ⟨c0, c1, c2, c3, cf⟩ := BP.c4
            have lc := BP.lt
            obtain ⟨s0, s1, s2, s3, s4, sf⟩ := hh2.out.fb.c5
            have ls' := hh2.out.fb.lt
            have HSRC := Lib.hid (hf.out.grows hh2.out.gr)
            have HQ0 := HQ1
            clear BP
            go_wp2
            first | refine region_grow_tail2 8 (by kernel_rfl) (by kernel_rfl) ?_ | refine region_grow_tail 8 (by kernel_rfl) (by kernel_rfl) ?_
            simp only [List.take_succ_cons, List.take_zero, List.drop_succ_cons, List.drop_zero]
            repeat (go_big_quiet_step ((first | (go_at_call 67; exact grow_of (raster_AtIs _ _ _ _ _ _ _ _ _ (Lib.hid (BufAt.grows HSRC.out (by repeat (first | exact Grows.refl _ | apply Grows.grow | apply Grows.alloc | apply Grows.drew)))) (by omega) HQ0)) | (go_at_call 69; exact grow_of (mix_overIs _ _ _ _ (by assumption) (by assumption) HOV)))))
            refine wpQuiet_nil ?_
            rintro _ ⟨gd, rfl⟩
            go_wp2_with (go_at_call 66; refine (raster_Put w1.heap.size g a len cap _ _ _ PP _ (Lib.hid (hh2.out.ob.grows (by repeat (first | exact Grows.refl _ | apply Grows.grow | apply Grows.alloc | apply Grows.drew)))) (Lib.hid (hh2.out.buf.grows (by repeat (first | exact Grows.refl _ | apply Grows.grow | apply Grows.alloc | apply Grows.drew)))) (Lib.hid (hh2.out.open_.grows (by repeat (first | exact Grows.refl _ | apply Grows.grow | apply Grows.alloc | apply Grows.drew)))) (by omega) POK).mono ?_; rintro e w2 ⟨rfl, hg1, hb1, hp1⟩; rw [NX.out] at hb1; have ST2 := Lib.hid ((hh2.out.grows (by exact (by repeat (first | exact Grows.refl _ | apply Grows.grow | apply Grows.alloc | apply Grows.drew)))).step HA2.out HD.out hg1 hb1 hp1); clear hg1 hb1 hp1)
            go_roundw
            case rel => exact ⟨u + 1, by omega, by omega, by go_num, ST2.out.grows (by repeat (first | exact Grows.refl _ | apply Grows.grow | apply Grows.alloc | apply Grows.drew))⟩
            case measure => simp [intOf]; omega
          · refine then_name ?_
            intro W2 hW2
            have GQ : Hid (Grows wr W2) := by rw [hW2]; exact (by repeat (first | exact Grows.refl _ | apply Grows.grow | apply Grows.alloc | apply Grows.drew))
            have BP : Blk W2 (wr.heap.size) 40 #[.int .u8 sc.r, .int .u8 sc.g, .int .u8 sc.b, .int .u8 sc.a] := by rw [hW2]; exact (by unfold Blk; repeat (first | exact blk_at _ _ _ (by first | omega | (simp; done) | (simp; omega)) | refine (blk_past _ _ _ (by first | omega | (simp; done) | (simp; omega))).trans ?_ | refine (heap_grow _ _ _ (by first | omega | (simp; done) | (simp; omega))).trans ?_ | refine (blk_drew _ _).trans ?_))
            obtain ⟨nb, hnb⟩ : ∃ n, n = wr.heap.size := ⟨_, rfl⟩
            rw [← hnb] at BP ⊢
            have hh2 := Lib.hid (hh.out.grows GQ.out)
            have hnbs : w.heap.size ≤ nb := by have := hh.out.gr.below.size; omega
            clear hW2 hnb hh m0 m1 m2 m3 m4 mf lm p0 p1 p2 p3 pf lp x0 x1 x2 x3 x4 xf lx
            obtain ⟨c0, c1, c2, c3, cf⟩ := BP.c4
            have lc := BP.lt
            obtain ⟨s0, s1, s2, s3, s4, sf⟩ := hh2.out.fb.c5
            have ls' := hh2.out.fb.lt
            have HSRC := Lib.hid (hf.out.grows hh2.out.gr)
            have HQ0 := HQ1
            clear BP
            go_wp2
            first | refine region_grow_tail2 8 (by kernel_rfl) (by kernel_rfl) ?_ | refine region_grow_tail 8 (by kernel_rfl) (by kernel_rfl) ?_
            simp only [List.take_succ_cons, List.take_zero, List.drop_succ_cons, List.drop_zero]
            repeat (go_big_quiet_step ((first | (go_at_call 67; exact grow_of (raster_AtIs _ _ _ _ _ _ _ _ _ (Lib.hid (BufAt.grows HSRC.out (by repeat (first | exact Grows.refl _ | apply Grows.grow | apply Grows.alloc | apply Grows.drew)))) (by omega) HQ0)) | (go_at_call 69; exact grow_of (mix_overIs _ _ _ _ (by assumption) (by assumption) HOV)))))
            refine wpQuiet_nil ?_
            rintro _ ⟨gd, rfl⟩
            go_wp2_with (go_at_call 66; refine (raster_Put w1.heap.size g a len cap _ _ _ PP _ (Lib.hid (hh2.out.ob.grows (by repeat (first | exact Grows.refl _ | apply Grows.grow | apply Grows.alloc | apply Grows.drew)))) (Lib.hid (hh2.out.buf.grows (by repeat (first | exact Grows.refl _ | apply Grows.grow | apply Grows.alloc | apply Grows.drew)))) (Lib.hid (hh2.out.open_.grows (by repeat (first | exact Grows.refl _ | apply Grows.grow | apply Grows.alloc | apply Grows.drew)))) (by omega) POK).mono ?_; rintro e w2 ⟨rfl, hg1, hb1, hp1⟩; rw [NX.out] at hb1; have ST2 := Lib.hid ((hh2.out.grows (by exact (by repeat (first | exact Grows.refl _ | apply Grows.grow | apply Grows.alloc | apply Grows.drew)))).step HA2.out HD.out hg1 hb1 hp1); clear hg1 hb1 hp1)
            go_roundw
            case rel => exact ⟨u + 1, by omega, by omega, by go_num, ST2.out.grows (by repeat (first | exact Grows.refl _ | apply Grows.grow | apply Grows.alloc | apply Grows.drew))⟩
            case measure => simp [intOf]; omega
        · obtain rfl : u = g.x1 := by omega
          go_wp2
          go_roundw
          case rel =>
            have st := hh.out
            rw [upTo_row] at st
            exact ⟨v + 1, by omega, by omega, by go_num, st⟩
          case measure => simp [intOf]; omega
    · obtain rfl : v = g.y1 := by omega
      have MB : Hid (BufAt wr g a len cap (cutF g (shadeP S F dx dy p))) := by have := hh.out.buf; rwa [upTo_last] at this
      obtain ⟨q0, q1, q2, q3, q4, qf⟩ := hh.out.rb.c5
      have lq := hh.out.rb.lt
      go_wp2
      obtain ⟨D1, D2⟩ := ret_cell MB.out hh.out.open_ hh.out.gr (n := w.heap.size + 1 + 1 + 1) (by omega) (fun k hk => ⟨(HA2.out k hk).1, (HA2.out k hk).2.2.2.1⟩) (.int .i64 g.x0) (.int .i64 g.y0) (.int .i64 g.x1) (.int .i64 g.y1) (.slice a len cap)
      refine bodyPost_ret (results_cell_row rfl _ _ _ 35 #[.int .i64 g.x0, .int .i64 g.y0, .int .i64 g.x1, .int .i64 g.y1, .slice a len cap] (0, 0) _ rfl (hh.out.rb.set5 _ _ _ _ _) Tryd.underlying35 rfl buf_info) rfl ⟨_, _, _, rfl, D1, D2⟩
end Go.Proofs.YtklcmlbkhjcaiaaDoor
