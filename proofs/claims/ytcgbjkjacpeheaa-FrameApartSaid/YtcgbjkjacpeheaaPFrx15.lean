-- Laid by a program of this session (wip/mkprint.py); checked by Lean alone
import Derived.Test.YtcgbjkjacpeheaaPFrx0
import Derived.Test.YtcgbjkjacpeheaaPFrx8
import Derived.Test.YtcgbjkjacpeheaaPFrx10
import Derived.Test.YtcgbjkjacpeheaaFrOwn
import Derived.Test.YtcgbjkjacpeheaaFrWrite
namespace Go.Proofs.Ytcgbjkjacpeheaa.Given
end Go.Proofs.Ytcgbjkjacpeheaa.Given
namespace Go.Proofs.Ytcgbjkjacpeheaa.PFr
open Go.Proofs.Ytcgbjkjacpeheaa.Given
open Go.RowKit Go.Proofs.YtcgbjkjacpeheaaW.PrintWords Go.Proofs.YtcgbjkjacpeheaaW.PrintLast Go.Proofs.YtcgbjkjacpeheaaW.PrintMore
attribute [local go_sem] max2_int min2_int max_two min_two max_three min_three max_four min_four   -- for this text's walks alone
set_option linter.unusedVariables false
set_option linter.unusedSimpArgs false

attribute [local go_sem] isSome_setCell_
/-! ### sheetpilelaw19_FrameApart: function 7 -/
mutual
def sheetpilelaw19_FrameApart.j0 : Nat → Bool → Int → List (S62) → Int → List (S62) → Option (Bool)
  | 0, _, _, _, _, _ => none
  | k + 1, x19, x311000, x311001, x312000, x312001 => if x19 = true then ((sheetpilelaw19_live.f k).bind fun t314 => (some t314)) else ((sheetpilelaw19_own.f x311000 x311001).bind fun t315 => ((frame_Write.f x311000 x311001).bind fun bt316 => ((sheetpilelaw19_own.f x312000 x312001).bind fun t318 => ((frame_Write.f x312000 x312001).bind fun bt319 => (if bt316.2 = 0 then (sheetpilelaw19_FrameApart.j1 k bt316.1 bt319.1 (bt319.2 != 0) x311000 x311001 x312000 x312001) else (sheetpilelaw19_FrameApart.j1 k bt316.1 bt319.1 true x311000 x311001 x312000 x312001))))))
def sheetpilelaw19_FrameApart.j1 : Nat → ByteArray → ByteArray → Bool → Int → List (S62) → Int → List (S62) → Option (Bool)
  | 0, _, _, _, _, _, _, _ => none
  | k + 1, x5, x7, x38, x311000, x311001, x312000, x312001 => if x38 = true then ((sheetpilelaw19_live.f k).bind fun t321 => (some t321)) else (if (x5.size : Int) ≤ (x7.size : Int) then (if 0 ≤ (x5.size : Int) then (if x311000 = x312000 then ((sheetpileref19_Changes.f k x311001 x312001).bind fun t322 => (if (((x7.extract 0 ((x5.size : Int) : Int).toNat).toList == x5.toList) == t322) = true then ((sheetpilelaw19_live.f k).bind fun t323 => (some t323)) else (some false))) else (if (((x7.extract 0 ((x5.size : Int) : Int).toNat).toList == x5.toList) == false) = true then ((sheetpilelaw19_live.f k).bind fun t324 => (some t324)) else (some false))) else (none)) else (if x311000 = x312000 then ((sheetpileref19_Changes.f k x311001 x312001).bind fun t325 => (if (false == t325) = true then ((sheetpilelaw19_live.f k).bind fun t326 => (some t326)) else (some false))) else (if (false == false) = true then ((sheetpilelaw19_live.f k).bind fun t327 => (some t327)) else (some false))))
end
def sheetpilelaw19_FrameApart.f (k : Nat) (a0_0 : Int) (l0_1 : List (S62)) (a1_0 : Int) (l1_1 : List (S62)) : Option (Bool) := (sheetpileref19_Few.f k l0_1).bind fun t312 => (if t312 = true then ((sheetpileref19_Few.f k l1_1).bind fun t313 => (sheetpilelaw19_FrameApart.j0 k (!t313) a0_0 l0_1 a1_0 l1_1)) else (sheetpilelaw19_FrameApart.j0 k true a0_0 l0_1 a1_0 l1_1))
theorem sheetpilelaw19_FrameApart.mono_l : ∀ k, (∀ y0 y1 y2 y3 y4, LeO (sheetpilelaw19_FrameApart.j0 k y0 y1 y2 y3 y4) (sheetpilelaw19_FrameApart.j0 (k + 1) y0 y1 y2 y3 y4)) ∧ (∀ y0 y1 y2 y3 y4 y5 y6, LeO (sheetpilelaw19_FrameApart.j1 k y0 y1 y2 y3 y4 y5 y6) (sheetpilelaw19_FrameApart.j1 (k + 1) y0 y1 y2 y3 y4 y5 y6))
  | 0 => ⟨fun _ _ _ _ _ r h => by simp [sheetpilelaw19_FrameApart.j0] at h, fun _ _ _ _ _ _ _ r h => by simp [sheetpilelaw19_FrameApart.j1] at h⟩
  | k + 1 => by
    obtain ⟨ih0, ih1⟩ := sheetpilelaw19_FrameApart.mono_l k
    refine ⟨?_, ?_⟩
    · intro y0 y1 y2 y3 y4
      unfold sheetpilelaw19_FrameApart.j0
      repeat' first
      | (with_reducible exact ih0 _ _ _ _ _)
      | (with_reducible exact ih1 _ _ _ _ _ _ _)
      | (with_reducible exact sheetpilelaw19_live.mono _)
      | (with_reducible exact sheetpileref19_Changes.mono _ _ _)
      | (with_reducible exact sheetpileref19_Few.mono _ _)
      | (with_reducible exact LeO.refl _)
      | (with_reducible exact LeO.none _)
      | (with_reducible refine LeO.ite ?_ ?_)
      | (with_reducible refine LeO.bind ?_ (fun _ => ?_))
      | exact ih0 _ _ _ _ _
      | exact ih1 _ _ _ _ _ _ _
      | exact sheetpilelaw19_live.mono _
      | exact sheetpileref19_Changes.mono _ _ _
      | exact sheetpileref19_Few.mono _ _
      | exact LeO.none _
      | refine LeO.ite ?_ ?_
      | refine LeO.bind ?_ (fun _ => ?_)
    · intro y0 y1 y2 y3 y4 y5 y6
      unfold sheetpilelaw19_FrameApart.j1
      repeat' first
      | (with_reducible exact ih0 _ _ _ _ _)
      | (with_reducible exact ih1 _ _ _ _ _ _ _)
      | (with_reducible exact sheetpilelaw19_live.mono _)
      | (with_reducible exact sheetpileref19_Changes.mono _ _ _)
      | (with_reducible exact sheetpileref19_Few.mono _ _)
      | (with_reducible exact LeO.refl _)
      | (with_reducible exact LeO.none _)
      | (with_reducible refine LeO.ite ?_ ?_)
      | (with_reducible refine LeO.bind ?_ (fun _ => ?_))
      | exact ih0 _ _ _ _ _
      | exact ih1 _ _ _ _ _ _ _
      | exact sheetpilelaw19_live.mono _
      | exact sheetpileref19_Changes.mono _ _ _
      | exact sheetpileref19_Few.mono _ _
      | exact LeO.none _
      | refine LeO.ite ?_ ?_
      | refine LeO.bind ?_ (fun _ => ?_)
theorem sheetpilelaw19_FrameApart.mono : ∀ a0 a1 a2 a3 k, LeO (sheetpilelaw19_FrameApart.f k a0 a1 a2 a3) (sheetpilelaw19_FrameApart.f (k + 1) a0 a1 a2 a3) := by
  intro a0 a1 a2 a3 k
  obtain ⟨ih0, ih1⟩ := sheetpilelaw19_FrameApart.mono_l k
  unfold sheetpilelaw19_FrameApart.f
  repeat' first
      | (with_reducible exact ih0 _ _ _ _ _)
      | (with_reducible exact ih1 _ _ _ _ _ _ _)
      | (with_reducible exact sheetpilelaw19_live.mono _)
      | (with_reducible exact sheetpileref19_Changes.mono _ _ _)
      | (with_reducible exact sheetpileref19_Few.mono _ _)
      | (with_reducible exact LeO.refl _)
      | (with_reducible exact LeO.none _)
      | (with_reducible refine LeO.ite ?_ ?_)
      | (with_reducible refine LeO.bind ?_ (fun _ => ?_))
      | exact ih0 _ _ _ _ _
      | exact ih1 _ _ _ _ _ _ _
      | exact sheetpilelaw19_live.mono _
      | exact sheetpileref19_Changes.mono _ _ _
      | exact sheetpileref19_Few.mono _ _
      | exact LeO.none _
      | refine LeO.ite ?_ ?_
      | refine LeO.bind ?_ (fun _ => ?_)
set_option maxHeartbeats 8000000 in
set_option maxRecDepth 100000 in
theorem sheetpilelaw19_FrameApart.calls (k : Nat) (a0_0 : Int) (A0_1 : Option Addr) (c0_1 : Nat) (l0_1 : List (S62)) (a1_0 : Int) (A1_1 : Option Addr) (c1_1 : Nat) (l1_1 : List (S62)) (r : Bool) (w : World) (hr0_1 : Kd.C k62 w A0_1 l0_1.length l0_1) (hc0_1 : l0_1.length ≤ c0_1) (hr1_1 : Kd.C k62 w A1_1 l1_1.length l1_1) (hc1_1 : l1_1.length ≤ c1_1) (h : sheetpilelaw19_FrameApart.f k a0_0 l0_1 a1_0 l1_1 = some r) :
    Calls Try.prog 7 #[.agg #[.int .i64 a0_0, .slice A0_1 l0_1.length c0_1], .agg #[.int .i64 a1_0, .slice A1_1 l1_1.length c1_1]] w fun e w' => e = .returned (.bool r) ∧ Below w.heap.size w w' := by
  have hu24 := Try.underlying24
  have HR0_1 := Aside0.mk hr0_1
  have HC0_1 := Aside0.mk hc0_1
  clear hr0_1 hc0_1
  have HR1_1 := Aside0.mk hr1_1
  have HC1_1 := Aside0.mk hc1_1
  clear hr1_1 hc1_1
  have HB := Aside0.mk (Below.refl w.heap.size w)
  have H : ((sheetpileref19_Few.f k l0_1).bind fun t312 => (if t312 = true then ((sheetpileref19_Few.f k l1_1).bind fun t313 => (sheetpilelaw19_FrameApart.j0 k (!t313) a0_0 l0_1 a1_0 l1_1)) else (sheetpilelaw19_FrameApart.j0 k true a0_0 l0_1 a1_0 l1_1))) = some r := h
  clear h
  have HC3 := Aside0.mk H
  clear H
  go_enter Try.func7, Try.ntmps7
  go_upto_region 1 with (first | ((with_reducible refine gate_dst (N := 2) rfl ?_); (try (refine gate_guard (by rfl) ?_; dsimp only)); refine box_event ?hg (N := 2) ?hd (cs := #[.int .i64 a0_0, .slice A0_1 l0_1.length c0_1]) (t := 24) ?hr ?_; (case hd => rfl); (case hg => rfl); (case hr => first | (go_simp; done) | (go_simp; rfl)); intro gb310 hg w4 hbox hb; have n0_ := Aside0.mk (below_step (by repeat (first | (with_reducible first | exact HB.out | apply below_alloc | apply pw_below_drewN | apply below_drew1) | exact HB.out)) hb); have n1_ := Aside0.mk (hbox); have n2_ := Aside0.mk ((by rw [hg]; exact (below_size (by repeat (first | (with_reducible first | exact HB.out | apply below_alloc | apply pw_below_drewN | apply below_drew1) | exact HB.out))) : w.heap.size ≤ gb310)); have n3_ := Aside0.mk ((by rw [hg]; exact (below_size (by repeat (first | (with_reducible first | exact HB.out | apply below_alloc | apply pw_below_drewN | apply below_drew1) | exact HB.out))) : w.heap.size ≤ gb310)); clear HB; have HB := n0_; have BK310 := n1_; have GW310 := n2_; have GE310 := n3_; clear n0_ n1_ n2_ n3_; clear hb hbox hg) | ((with_reducible refine gate_dst (N := 3) rfl ?_); (try (refine gate_guard (by rfl) ?_; dsimp only)); refine box_event ?hg (N := 3) ?hd (cs := #[.int .i64 a1_0, .slice A1_1 l1_1.length c1_1]) (t := 24) ?hr ?_; (case hd => rfl); (case hg => rfl); (case hr => first | (go_simp; done) | (go_simp; rfl)); intro gb311 hg w5 hbox hb; have n0_ := Aside0.mk (blk_below (g := gb310) (o := .cells #[.int .i64 a0_0, .slice A0_1 l0_1.length c0_1] 24 (0, 0)) (by (with_reducible repeat (first | refine blk_drewN ?_ _ | refine blk_drew ?_ | refine blk_alloc ?_ _)); exact BK310.out) hb); have n1_ := Aside0.mk (below_step (by repeat (first | (with_reducible first | exact HB.out | apply below_alloc | apply pw_below_drewN | apply below_drew1 | refine below_set ?_ GE310.out) | exact HB.out)) hb); have n2_ := Aside0.mk (hbox); have n3_ := Aside0.mk ((by rw [hg]; exact (below_size (by repeat (first | (with_reducible first | exact HB.out | apply below_alloc | apply pw_below_drewN | apply below_drew1 | refine below_set ?_ GE310.out) | exact HB.out))) : w.heap.size ≤ gb311)); have n4_ := Aside0.mk ((by rw [hg]; exact (below_size (by repeat (first | (with_reducible first | exact HB.out | apply below_alloc | apply pw_below_drewN | apply below_drew1 | refine below_set ?_ GE310.out) | exact HB.out))) : w.heap.size ≤ gb311)); have n5_ := Aside0.mk ((by rw [hg]; exact Nat.ne_of_lt (blk_lt (g := gb310) (o := .cells #[.int .i64 a0_0, .slice A0_1 l0_1.length c0_1] 24 (0, 0)) (by (with_reducible repeat (first | refine blk_drewN ?_ _ | refine blk_drew ?_ | refine blk_alloc ?_ _)); exact BK310.out)) : gb310 ≠ gb311)); have n6_ := Aside0.mk ((by rw [hg]; exact Nat.ne_of_gt (blk_lt (g := gb310) (o := .cells #[.int .i64 a0_0, .slice A0_1 l0_1.length c0_1] 24 (0, 0)) (by (with_reducible repeat (first | refine blk_drewN ?_ _ | refine blk_drew ?_ | refine blk_alloc ?_ _)); exact BK310.out)) : gb311 ≠ gb310)); clear BK310; clear HB; have BK310 := n0_; have HB := n1_; have BK311 := n2_; have GW311 := n3_; have GE311 := n4_; have NB310_311 := n5_; have NB311_310 := n6_; clear n0_ n1_ n2_ n3_ n4_ n5_ n6_; clear hb hbox hg))
  (try simp only [Act.put, List.setIfInBounds_toArray, List.set_cons_zero, List.set_cons_succ])
  go_cut [19] (fun v19 wc => ∃ (kq : Nat) (x19_2 : Bool), v19 = .bool x19_2 ∧ Aside0 (sheetpilelaw19_FrameApart.j0 kq x19_2 a0_0 l0_1 a1_0 l1_1 = some r) ∧ Aside0 (kq ≤ k) ∧ Aside0 (wc.heap[gb310]? = some (.cells #[.int .i64 a0_0, (.slice A0_1 l0_1.length c0_1)] 24 (0, 0))) ∧ Aside0 (wc.heap[gb311]? = some (.cells #[.int .i64 a1_0, (.slice A1_1 l1_1.length c1_1)] 24 (0, 0))) ∧ Aside0 (Below w.heap.size w wc))
  case first =>
    have H := HC3.out
    clear HC3
    replace H := Option.bind_eq_some_iff.mp H
    obtain ⟨t312, A60, H⟩ := H
    replace H : (if t312 = true then ((sheetpileref19_Few.f k l1_1).bind fun t313 => (sheetpilelaw19_FrameApart.j0 k (!t313) a0_0 l0_1 a1_0 l1_1)) else (sheetpilelaw19_FrameApart.j0 k true a0_0 l0_1 a1_0 l1_1)) = some r := H
    have A6 := Aside0.mk A60
    clear A60
    by_cases c7 : t312 = true
    · subst c7
      have H1 : ((sheetpileref19_Few.f k l1_1).bind fun t313 => (sheetpilelaw19_FrameApart.j0 k (!t313) a0_0 l0_1 a1_0 l1_1)) = some r := by rw [if_pos rfl] at H; exact H
      clear H
      have H := H1
      clear H1
      replace H := Option.bind_eq_some_iff.mp H
      obtain ⟨t313, A80, H⟩ := H
      replace H : (sheetpilelaw19_FrameApart.j0 k (!t313) a0_0 l0_1 a1_0 l1_1) = some r := H
      have A8 := Aside0.mk A80
      clear A80
      have H' := Aside0.mk H
      clear H
      have hnb9 := NB310_311.out
      have hnc9 := NB311_310.out
      have hcz10_0 : w5.cell? ⟨gb310, 0, none⟩ = some (.int .i64 a0_0) := (blk_cell BK310.out 0).trans rfl
      have hcz10_1 : w5.cell? ⟨gb310, 1, none⟩ = some (.slice A0_1 l0_1.length c0_1) := (blk_cell BK310.out 1).trans rfl
      have hfz10_0 := blk_frozen BK310.out 0
      have hfz10_1 := blk_frozen BK310.out 1
      go_wp2_with (first | ((with_reducible refine gate_callee (f := 15) rfl ?_); refine goesL_ (some 12) rfl rfl Try.func15 (by kernel_rfl) rfl #[.slice A0_1 l0_1.length c0_1] rfl (by (try simp only [List.map_toArray, List.map_cons, List.map_nil]); first | done | rfl | (simp only [List.length_drop, List.length_take]; rfl)) ?_; (with_reducible refine (sheetpileref19_Few.calls k _ _ l0_1 true _ ?side1 ?side2 A6.out).mono ?_); (case side1 => repeat (first | exact (Kd.C_below HR0_1.out HB.out) | (with_reducible refine Kd.C_alloc ?_ _) | (with_reducible refine Kd.C_drewN ?_ _) | (with_reducible refine Kd.C_drew ?_))); (case side2 => exact HC0_1.out); rintro e w' ⟨rfl, ⟨nd, rfl⟩⟩; refine ⟨_, rfl, ?_⟩; have hcz11_0 : w5.cell? ⟨gb311, 0, none⟩ = some (.int .i64 a1_0) := (blk_cell BK311.out 0).trans rfl; have hcz11_1 : w5.cell? ⟨gb311, 1, none⟩ = some (.slice A1_1 l1_1.length c1_1) := (blk_cell BK311.out 1).trans rfl; have hfz11_0 := blk_frozen BK311.out 0; have hfz11_1 := blk_frozen BK311.out 1) | (go_at_call 15; (with_reducible refine (sheetpileref19_Few.calls k _ _ l1_1 t313 _ ?side1 ?side2 A8.out).mono ?_); (case side1 => repeat (first | exact (Kd.C_below HR1_1.out (by repeat (first | (with_reducible first | exact HB.out | apply below_alloc | apply pw_below_drewN | apply below_drew1 | refine below_set ?_ GE310.out | refine below_set ?_ GE311.out) | exact HB.out))) | (with_reducible refine Kd.C_alloc ?_ _) | (with_reducible refine Kd.C_drewN ?_ _) | (with_reducible refine Kd.C_drew ?_))); (case side2 => exact HC1_1.out); rintro e w' ⟨rfl, ⟨nd, rfl⟩⟩))
      go_meet
      case rel => exact ⟨_, (!t313), (by first | rfl | (simp; done) | (simp [*]; done) | exact congrArg Value.bool (by cases ByteArray.toList a0 <;> rfl) | exact congrArg Value.bool (by cases ByteArray.toList a1 <;> rfl)), H', ⟨by first | omega | exact Nat.le_refl _⟩, ⟨by (with_reducible repeat (first | refine blk_drewN ?_ _ | refine blk_drew ?_ | refine blk_alloc ?_ _)); exact BK310.out⟩, ⟨by (with_reducible repeat (first | refine blk_drewN ?_ _ | refine blk_drew ?_ | refine blk_alloc ?_ _)); exact BK311.out⟩, ⟨by repeat (first | (with_reducible first | exact HB.out | apply below_alloc | apply pw_below_drewN | apply below_drew1 | refine below_set ?_ GE310.out | refine below_set ?_ GE311.out) | exact HB.out)⟩⟩
    · replace c7 := Bool.eq_false_iff.mpr c7
      subst c7
      have H1 : (sheetpilelaw19_FrameApart.j0 k true a0_0 l0_1 a1_0 l1_1) = some r := by rw [if_neg (show ¬ (false = true) by decide)] at H; exact H
      clear H
      have H := H1
      clear H1
      have H' := Aside0.mk H
      clear H
      have hnb12 := NB310_311.out
      have hnc12 := NB311_310.out
      have hcz13_0 : w5.cell? ⟨gb310, 0, none⟩ = some (.int .i64 a0_0) := (blk_cell BK310.out 0).trans rfl
      have hcz13_1 : w5.cell? ⟨gb310, 1, none⟩ = some (.slice A0_1 l0_1.length c0_1) := (blk_cell BK310.out 1).trans rfl
      have hfz13_0 := blk_frozen BK310.out 0
      have hfz13_1 := blk_frozen BK310.out 1
      go_wp2_with (first | ((with_reducible refine gate_callee (f := 15) rfl ?_); refine goesL_ (some 12) rfl rfl Try.func15 (by kernel_rfl) rfl #[.slice A0_1 l0_1.length c0_1] rfl (by (try simp only [List.map_toArray, List.map_cons, List.map_nil]); first | done | rfl | (simp only [List.length_drop, List.length_take]; rfl)) ?_; (with_reducible refine (sheetpileref19_Few.calls k _ _ l0_1 false _ ?side1 ?side2 A6.out).mono ?_); (case side1 => repeat (first | exact (Kd.C_below HR0_1.out HB.out) | (with_reducible refine Kd.C_alloc ?_ _) | (with_reducible refine Kd.C_drewN ?_ _) | (with_reducible refine Kd.C_drew ?_))); (case side2 => exact HC0_1.out); rintro e w' ⟨rfl, ⟨nd, rfl⟩⟩; refine ⟨_, rfl, ?_⟩))
      go_meet
      case rel => exact ⟨_, (true), (by first | rfl | (simp; done) | (simp [*]; done) | exact congrArg Value.bool (by cases ByteArray.toList a0 <;> rfl) | exact congrArg Value.bool (by cases ByteArray.toList a1 <;> rfl)), H', ⟨by first | omega | exact Nat.le_refl _⟩, ⟨by (with_reducible repeat (first | refine blk_drewN ?_ _ | refine blk_drew ?_ | refine blk_alloc ?_ _)); exact BK310.out⟩, ⟨by (with_reducible repeat (first | refine blk_drewN ?_ _ | refine blk_drew ?_ | refine blk_alloc ?_ _)); exact BK311.out⟩, ⟨by repeat (first | (with_reducible first | exact HB.out | apply below_alloc | apply pw_below_drewN | apply below_drew1 | refine below_set ?_ GE310.out | refine below_set ?_ GE311.out) | exact HB.out)⟩⟩
  case rest =>
    clear HC3
    try clear c1
    try clear p2
    try clear c7
    try clear c9
    try clear c12
    try clear hcz10_0
    try clear hcz10_1
    try clear hcz11_0
    try clear hcz11_1
    try clear hcz13_0
    try clear hcz13_1
    try clear hfz10_0
    try clear hfz10_1
    try clear hfz11_0
    try clear hfz11_1
    try clear hfz13_0
    try clear hfz13_1
    obtain ⟨kq, x19_2, rfl, HA, HJ2, BK310, BK311, HB⟩ := hcut
    cases kq with
    | zero => exact absurd HA.out (by simp [sheetpilelaw19_FrameApart.j0])
    | succ kj2 =>
      have H := HA.out
      clear HA
      simp only [sheetpilelaw19_FrameApart.j0] at H
      by_cases c14 : x19_2 = true
      · subst c14
        have H1 : ((sheetpilelaw19_live.f kj2).bind fun t314 => (some t314)) = some r := by rw [if_pos rfl] at H; exact H
        clear H
        have H := H1
        clear H1
        replace H := Option.bind_eq_some_iff.mp H
        obtain ⟨t314, A150, H⟩ := H
        replace H : (some t314) = some r := H
        have A15 := Aside0.mk A150
        clear A150
        obtain rfl := Option.some.inj H
        go_wp2_with (first | ((with_reducible refine gate_callee (f := 16) rfl ?_); refine goesL_ (some 20) rfl rfl Try.func16 (by kernel_rfl) rfl #[] rfl (by (try simp only [List.map_toArray, List.map_cons, List.map_nil]); first | done | rfl | (simp only [List.length_drop, List.length_take]; rfl)) ?_; (with_reducible refine (sheetpilelaw19_live.calls kj2  t314 _ A15.out).mono ?_); rintro e w16 ⟨rfl, hb⟩; refine ⟨_, rfl, ?_⟩; have n0_ := Aside0.mk (blk_below (g := gb310) (o := .cells #[.int .i64 a0_0, .slice A0_1 l0_1.length c0_1] 24 (0, 0)) (by (with_reducible repeat (first | refine blk_drewN ?_ _ | refine blk_drew ?_ | refine blk_alloc ?_ _)); exact BK310.out) hb); have n1_ := Aside0.mk (blk_below (g := gb311) (o := .cells #[.int .i64 a1_0, .slice A1_1 l1_1.length c1_1] 24 (0, 0)) (by (with_reducible repeat (first | refine blk_drewN ?_ _ | refine blk_drew ?_ | refine blk_alloc ?_ _)); exact BK311.out) hb); have n2_ := Aside0.mk (below_step (by repeat (first | (with_reducible first | exact HB.out | apply below_alloc | apply pw_below_drewN | apply below_drew1 | refine below_set ?_ GE310.out | refine below_set ?_ GE311.out) | exact HB.out)) hb); clear BK310; clear BK311; clear HB; have BK310 := n0_; have BK311 := n1_; have HB := n2_; clear n0_ n1_ n2_; (try clear hb); (try clear hb2); (try clear hk); (try clear hi)))
        go_ret
        exact ⟨by first | rfl | (simp [errW_none, errW_some] <;> rfl) | (simp [*, errW_none, errW_some] <;> rfl), by repeat (first | (with_reducible first | exact HB.out | apply below_alloc | apply pw_below_drewN | apply below_drew1 | refine below_set ?_ GE310.out | refine below_set ?_ GE311.out) | exact HB.out)⟩
      · replace c14 := Bool.eq_false_iff.mpr c14
        subst c14
        have H1 : ((sheetpilelaw19_own.f a0_0 l0_1).bind fun t315 => ((frame_Write.f a0_0 l0_1).bind fun bt316 => ((sheetpilelaw19_own.f a1_0 l1_1).bind fun t318 => ((frame_Write.f a1_0 l1_1).bind fun bt319 => (if bt316.2 = 0 then (sheetpilelaw19_FrameApart.j1 kj2 bt316.1 bt319.1 (bt319.2 != 0) a0_0 l0_1 a1_0 l1_1) else (sheetpilelaw19_FrameApart.j1 kj2 bt316.1 bt319.1 true a0_0 l0_1 a1_0 l1_1)))))) = some r := by rw [if_neg (show ¬ (false = true) by decide)] at H; exact H
        clear H
        have H := H1
        clear H1
        replace H := Option.bind_eq_some_iff.mp H
        obtain ⟨t315, A170, H⟩ := H
        replace H : ((frame_Write.f a0_0 l0_1).bind fun bt316 => ((sheetpilelaw19_own.f a1_0 l1_1).bind fun t318 => ((frame_Write.f a1_0 l1_1).bind fun bt319 => (if bt316.2 = 0 then (sheetpilelaw19_FrameApart.j1 kj2 bt316.1 bt319.1 (bt319.2 != 0) a0_0 l0_1 a1_0 l1_1) else (sheetpilelaw19_FrameApart.j1 kj2 bt316.1 bt319.1 true a0_0 l0_1 a1_0 l1_1))))) = some r := H
        have A17 := Aside0.mk A170
        clear A170
        replace H := Option.bind_eq_some_iff.mp H
        obtain ⟨⟨t316, t317⟩, A180, H⟩ := H
        replace H : ((sheetpilelaw19_own.f a1_0 l1_1).bind fun t318 => ((frame_Write.f a1_0 l1_1).bind fun bt319 => (if t317 = 0 then (sheetpilelaw19_FrameApart.j1 kj2 t316 bt319.1 (bt319.2 != 0) a0_0 l0_1 a1_0 l1_1) else (sheetpilelaw19_FrameApart.j1 kj2 t316 bt319.1 true a0_0 l0_1 a1_0 l1_1)))) = some r := H
        have A18 := Aside0.mk A180
        clear A180
        replace H := Option.bind_eq_some_iff.mp H
        obtain ⟨t318, A190, H⟩ := H
        replace H : ((frame_Write.f a1_0 l1_1).bind fun bt319 => (if t317 = 0 then (sheetpilelaw19_FrameApart.j1 kj2 t316 bt319.1 (bt319.2 != 0) a0_0 l0_1 a1_0 l1_1) else (sheetpilelaw19_FrameApart.j1 kj2 t316 bt319.1 true a0_0 l0_1 a1_0 l1_1))) = some r := H
        have A19 := Aside0.mk A190
        clear A190
        replace H := Option.bind_eq_some_iff.mp H
        obtain ⟨⟨t319, t320⟩, A200, H⟩ := H
        replace H : (if t317 = 0 then (sheetpilelaw19_FrameApart.j1 kj2 t316 t319 (t320 != 0) a0_0 l0_1 a1_0 l1_1) else (sheetpilelaw19_FrameApart.j1 kj2 t316 t319 true a0_0 l0_1 a1_0 l1_1)) = some r := H
        have A20 := Aside0.mk A200
        clear A200
        have HC21 := Aside0.mk H
        clear H
        have hnb22 := NB310_311.out
        have hnc22 := NB311_310.out
        have hcz23_0 : wc.cell? ⟨gb310, 0, none⟩ = some (.int .i64 a0_0) := (blk_cell BK310.out 0).trans rfl
        have hcz23_1 : wc.cell? ⟨gb310, 1, none⟩ = some (.slice A0_1 l0_1.length c0_1) := (blk_cell BK310.out 1).trans rfl
        have hfz23_0 := blk_frozen BK310.out 0
        have hfz23_1 := blk_frozen BK310.out 1
        go_upto_region 5 with (first | ((with_reducible refine gate_callee (f := 18) rfl ?_); refine goesL_ (some 23) rfl rfl Try.func18 (by kernel_rfl) rfl #[.agg #[.int .i64 a0_0, .slice A0_1 l0_1.length c0_1]] rfl (by (try simp only [List.map_toArray, List.map_cons, List.map_nil]); first | done | rfl | (simp only [List.length_drop, List.length_take]; rfl)) ?_; (with_reducible refine (sheetpilelaw19_own.calls a0_0 _ _ l0_1 t315 _ ?side1 ?side2 A17.out).mono ?_); (case side1 => repeat (first | exact (Kd.C_below HR0_1.out HB.out) | (with_reducible refine Kd.C_alloc ?_ _) | (with_reducible refine Kd.C_drewN ?_ _) | (with_reducible refine Kd.C_drew ?_))); (case side2 => exact HC0_1.out); rintro e w24 ⟨rfl, hb⟩; refine ⟨_, rfl, ?_⟩; have n0_ := Aside0.mk (blk_below (g := gb310) (o := .cells #[.int .i64 a0_0, .slice A0_1 l0_1.length c0_1] 24 (0, 0)) (by (with_reducible repeat (first | refine blk_drewN ?_ _ | refine blk_drew ?_ | refine blk_alloc ?_ _)); exact BK310.out) hb); have n1_ := Aside0.mk (blk_below (g := gb311) (o := .cells #[.int .i64 a1_0, .slice A1_1 l1_1.length c1_1] 24 (0, 0)) (by (with_reducible repeat (first | refine blk_drewN ?_ _ | refine blk_drew ?_ | refine blk_alloc ?_ _)); exact BK311.out) hb); have n2_ := Aside0.mk (below_step (by repeat (first | (with_reducible first | exact HB.out | apply below_alloc | apply pw_below_drewN | apply below_drew1 | refine below_set ?_ GE310.out | refine below_set ?_ GE311.out) | exact HB.out)) hb); clear BK310; clear BK311; clear HB; have BK310 := n0_; have BK311 := n1_; have HB := n2_; clear n0_ n1_ n2_; (try clear hb); (try clear hb2); (try clear hk); (try clear hi)) | ((with_reducible refine gate_callee (f := 17) rfl ?_); refine goesL_ (some 24) rfl rfl Try.func17 (by kernel_rfl) rfl #[.agg #[.int .i64 a0_0, .slice A0_1 l0_1.length c0_1]] rfl (by (try simp only [List.map_toArray, List.map_cons, List.map_nil]); first | done | rfl | (simp only [List.length_drop, List.length_take]; rfl)) ?_; (with_reducible refine (frame_Write.calls a0_0 _ _ l0_1 t316 t317 _ ?side1 ?side2 A18.out).mono ?_); (case side1 => repeat (first | exact (Kd.C_below HR0_1.out HB.out) | (with_reducible refine Kd.C_alloc ?_ _) | (with_reducible refine Kd.C_drewN ?_ _) | (with_reducible refine Kd.C_drew ?_))); (case side2 => exact HC0_1.out); rintro e w25 ⟨rfl, hb⟩; refine ⟨_, rfl, ?_⟩; have n0_ := Aside0.mk (blk_below (g := gb310) (o := .cells #[.int .i64 a0_0, .slice A0_1 l0_1.length c0_1] 24 (0, 0)) (by (with_reducible repeat (first | refine blk_drewN ?_ _ | refine blk_drew ?_ | refine blk_alloc ?_ _)); exact BK310.out) hb); have n1_ := Aside0.mk (blk_below (g := gb311) (o := .cells #[.int .i64 a1_0, .slice A1_1 l1_1.length c1_1] 24 (0, 0)) (by (with_reducible repeat (first | refine blk_drewN ?_ _ | refine blk_drew ?_ | refine blk_alloc ?_ _)); exact BK311.out) hb); have n2_ := Aside0.mk (below_step (by repeat (first | (with_reducible first | exact HB.out | apply below_alloc | apply pw_below_drewN | apply below_drew1 | refine below_set ?_ GE310.out | refine below_set ?_ GE311.out) | exact HB.out)) hb); clear BK310; clear BK311; clear HB; have BK310 := n0_; have BK311 := n1_; have HB := n2_; clear n0_ n1_ n2_; (try clear hb); (try clear hb2); (try clear hk); (try clear hi); have hcz26_0 : w25.cell? ⟨gb311, 0, none⟩ = some (.int .i64 a1_0) := (blk_cell BK311.out 0).trans rfl; have hcz26_1 : w25.cell? ⟨gb311, 1, none⟩ = some (.slice A1_1 l1_1.length c1_1) := (blk_cell BK311.out 1).trans rfl; have hfz26_0 := blk_frozen BK311.out 0; have hfz26_1 := blk_frozen BK311.out 1) | ((with_reducible refine gate_callee (f := 18) rfl ?_); refine goesL_ (some 29) rfl rfl Try.func18 (by kernel_rfl) rfl #[.agg #[.int .i64 a1_0, .slice A1_1 l1_1.length c1_1]] rfl (by (try simp only [List.map_toArray, List.map_cons, List.map_nil]); first | done | rfl | (simp only [List.length_drop, List.length_take]; rfl)) ?_; (with_reducible refine (sheetpilelaw19_own.calls a1_0 _ _ l1_1 t318 _ ?side1 ?side2 A19.out).mono ?_); (case side1 => repeat (first | exact (Kd.C_below HR1_1.out HB.out) | (with_reducible refine Kd.C_alloc ?_ _) | (with_reducible refine Kd.C_drewN ?_ _) | (with_reducible refine Kd.C_drew ?_))); (case side2 => exact HC1_1.out); rintro e w27 ⟨rfl, hb⟩; refine ⟨_, rfl, ?_⟩; have n0_ := Aside0.mk (blk_below (g := gb310) (o := .cells #[.int .i64 a0_0, .slice A0_1 l0_1.length c0_1] 24 (0, 0)) (by (with_reducible repeat (first | refine blk_drewN ?_ _ | refine blk_drew ?_ | refine blk_alloc ?_ _)); exact BK310.out) hb); have n1_ := Aside0.mk (blk_below (g := gb311) (o := .cells #[.int .i64 a1_0, .slice A1_1 l1_1.length c1_1] 24 (0, 0)) (by (with_reducible repeat (first | refine blk_drewN ?_ _ | refine blk_drew ?_ | refine blk_alloc ?_ _)); exact BK311.out) hb); have n2_ := Aside0.mk (below_step (by repeat (first | (with_reducible first | exact HB.out | apply below_alloc | apply pw_below_drewN | apply below_drew1 | refine below_set ?_ GE310.out | refine below_set ?_ GE311.out) | exact HB.out)) hb); clear BK310; clear BK311; clear HB; have BK310 := n0_; have BK311 := n1_; have HB := n2_; clear n0_ n1_ n2_; (try clear hb); (try clear hb2); (try clear hk); (try clear hi)) | ((with_reducible refine gate_callee (f := 17) rfl ?_); refine goesL_ (some 30) rfl rfl Try.func17 (by kernel_rfl) rfl #[.agg #[.int .i64 a1_0, .slice A1_1 l1_1.length c1_1]] rfl (by (try simp only [List.map_toArray, List.map_cons, List.map_nil]); first | done | rfl | (simp only [List.length_drop, List.length_take]; rfl)) ?_; (with_reducible refine (frame_Write.calls a1_0 _ _ l1_1 t319 t320 _ ?side1 ?side2 A20.out).mono ?_); (case side1 => repeat (first | exact (Kd.C_below HR1_1.out HB.out) | (with_reducible refine Kd.C_alloc ?_ _) | (with_reducible refine Kd.C_drewN ?_ _) | (with_reducible refine Kd.C_drew ?_))); (case side2 => exact HC1_1.out); rintro e w28 ⟨rfl, hb⟩; refine ⟨_, rfl, ?_⟩; have n0_ := Aside0.mk (blk_below (g := gb310) (o := .cells #[.int .i64 a0_0, .slice A0_1 l0_1.length c0_1] 24 (0, 0)) (by (with_reducible repeat (first | refine blk_drewN ?_ _ | refine blk_drew ?_ | refine blk_alloc ?_ _)); exact BK310.out) hb); have n1_ := Aside0.mk (blk_below (g := gb311) (o := .cells #[.int .i64 a1_0, .slice A1_1 l1_1.length c1_1] 24 (0, 0)) (by (with_reducible repeat (first | refine blk_drewN ?_ _ | refine blk_drew ?_ | refine blk_alloc ?_ _)); exact BK311.out) hb); have n2_ := Aside0.mk (below_step (by repeat (first | (with_reducible first | exact HB.out | apply below_alloc | apply pw_below_drewN | apply below_drew1 | refine below_set ?_ GE310.out | refine below_set ?_ GE311.out) | exact HB.out)) hb); clear BK310; clear BK311; clear HB; have BK310 := n0_; have BK311 := n1_; have HB := n2_; clear n0_ n1_ n2_; (try clear hb); (try clear hb2); (try clear hk); (try clear hi)))
        (try simp only [Act.put, List.setIfInBounds_toArray, List.set_cons_zero, List.set_cons_succ])
        go_cut [38] (fun v38 wc => ∃ (kq : Nat) (x38_20 : Bool), v38 = .bool x38_20 ∧ Aside0 (sheetpilelaw19_FrameApart.j1 kq t316 t319 x38_20 a0_0 l0_1 a1_0 l1_1 = some r) ∧ Aside0 (kq ≤ kj2) ∧ Aside0 (wc.heap[gb310]? = some (.cells #[.int .i64 a0_0, (.slice A0_1 l0_1.length c0_1)] 24 (0, 0))) ∧ Aside0 (wc.heap[gb311]? = some (.cells #[.int .i64 a1_0, (.slice A1_1 l1_1.length c1_1)] 24 (0, 0))) ∧ Aside0 (Below w.heap.size w wc))
        case first =>
          have H := HC21.out
          clear HC21
          by_cases c29 : t317 = 0
          · rw [if_pos c29] at H
            have c29b0 : (t317 == 0) = true := beq_iff_eq.mpr c29
            have c29b1 : (t317 != 0) = false := bne_eq_false_iff_eq.mpr c29
            clear c29
            (first | rw [c29b0] | (simp only [i64_w, i32_w]; rw [c29b0]) | skip)
            have H' := Aside0.mk H
            clear H
            go_wp2
            go_meet
            case rel => exact ⟨_, ((t320 != 0)), (by first | rfl | (simp; done) | (simp [*]; done) | exact congrArg Value.bool (by cases ByteArray.toList a0 <;> rfl) | exact congrArg Value.bool (by cases ByteArray.toList a1 <;> rfl)), H', ⟨by have := HJ2.out; first | omega | exact Nat.le_refl _⟩, ⟨by (with_reducible repeat (first | refine blk_drewN ?_ _ | refine blk_drew ?_ | refine blk_alloc ?_ _)); exact BK310.out⟩, ⟨by (with_reducible repeat (first | refine blk_drewN ?_ _ | refine blk_drew ?_ | refine blk_alloc ?_ _)); exact BK311.out⟩, ⟨by repeat (first | (with_reducible first | exact HB.out | apply below_alloc | apply pw_below_drewN | apply below_drew1 | refine below_set ?_ GE310.out | refine below_set ?_ GE311.out) | exact HB.out)⟩⟩
          · rw [if_neg c29] at H
            have c29b0 : (t317 == 0) = false := beq_eq_false_iff_ne.mpr c29
            have c29b1 : (t317 != 0) = true := bne_iff_ne.mpr c29
            (first | rw [c29b0] | (simp only [i64_w, i32_w]; rw [c29b0]) | skip)
            have H' := Aside0.mk H
            clear H
            go_wp2
            go_meet
            case rel => exact ⟨_, (true), (by first | rfl | (simp; done) | (simp [*]; done) | exact congrArg Value.bool (by cases ByteArray.toList a0 <;> rfl) | exact congrArg Value.bool (by cases ByteArray.toList a1 <;> rfl)), H', ⟨by have := HJ2.out; first | omega | exact Nat.le_refl _⟩, ⟨by (with_reducible repeat (first | refine blk_drewN ?_ _ | refine blk_drew ?_ | refine blk_alloc ?_ _)); exact BK310.out⟩, ⟨by (with_reducible repeat (first | refine blk_drewN ?_ _ | refine blk_drew ?_ | refine blk_alloc ?_ _)); exact BK311.out⟩, ⟨by repeat (first | (with_reducible first | exact HB.out | apply below_alloc | apply pw_below_drewN | apply below_drew1 | refine below_set ?_ GE310.out | refine below_set ?_ GE311.out) | exact HB.out)⟩⟩
        case rest =>
          clear HC21
          try clear c1
          try clear c2
          try clear p2
          try clear c7
          try clear c9
          try clear c12
          try clear c14
          try clear c15
          try clear c16
          try clear c17
          try clear c18
          try clear c22
          try clear c29
          try clear c29b0
          try clear c29b1
          try clear hcz10_0
          try clear hcz10_1
          try clear hcz11_0
          try clear hcz11_1
          try clear hcz13_0
          try clear hcz13_1
          try clear hcz23_0
          try clear hcz23_1
          try clear hcz26_0
          try clear hcz26_1
          try clear hfz10_0
          try clear hfz10_1
          try clear hfz11_0
          try clear hfz11_1
          try clear hfz13_0
          try clear hfz13_1
          try clear hfz23_0
          try clear hfz23_1
          try clear hfz26_0
          try clear hfz26_1
          try clear p2
          obtain ⟨kq, x38_20, rfl, HA, HJ20, BK310, BK311, HB⟩ := hcut
          cases kq with
          | zero => exact absurd HA.out (by simp [sheetpilelaw19_FrameApart.j1])
          | succ kj20 =>
            have H := HA.out
            clear HA
            simp only [sheetpilelaw19_FrameApart.j1] at H
            by_cases c30 : x38_20 = true
            · subst c30
              have H1 : ((sheetpilelaw19_live.f kj20).bind fun t321 => (some t321)) = some r := by rw [if_pos rfl] at H; exact H
              clear H
              have H := H1
              clear H1
              replace H := Option.bind_eq_some_iff.mp H
              obtain ⟨t321, A310, H⟩ := H
              replace H : (some t321) = some r := H
              have A31 := Aside0.mk A310
              clear A310
              obtain rfl := Option.some.inj H
              go_wp2_with (first | ((with_reducible refine gate_callee (f := 16) rfl ?_); refine goesL_ (some 39) rfl rfl Try.func16 (by kernel_rfl) rfl #[] rfl (by (try simp only [List.map_toArray, List.map_cons, List.map_nil]); first | done | rfl | (simp only [List.length_drop, List.length_take]; rfl)) ?_; (with_reducible refine (sheetpilelaw19_live.calls kj20  t321 _ A31.out).mono ?_); rintro e w32 ⟨rfl, hb⟩; refine ⟨_, rfl, ?_⟩; have n0_ := Aside0.mk (blk_below (g := gb310) (o := .cells #[.int .i64 a0_0, .slice A0_1 l0_1.length c0_1] 24 (0, 0)) (by (with_reducible repeat (first | refine blk_drewN ?_ _ | refine blk_drew ?_ | refine blk_alloc ?_ _)); exact BK310.out) hb); have n1_ := Aside0.mk (blk_below (g := gb311) (o := .cells #[.int .i64 a1_0, .slice A1_1 l1_1.length c1_1] 24 (0, 0)) (by (with_reducible repeat (first | refine blk_drewN ?_ _ | refine blk_drew ?_ | refine blk_alloc ?_ _)); exact BK311.out) hb); have n2_ := Aside0.mk (below_step (by repeat (first | (with_reducible first | exact HB.out | apply below_alloc | apply pw_below_drewN | apply below_drew1 | refine below_set ?_ GE310.out | refine below_set ?_ GE311.out) | exact HB.out)) hb); clear BK310; clear BK311; clear HB; have BK310 := n0_; have BK311 := n1_; have HB := n2_; clear n0_ n1_ n2_; (try clear hb); (try clear hb2); (try clear hk); (try clear hi)))
              go_ret
              exact ⟨by first | rfl | (simp [errW_none, errW_some] <;> rfl) | (simp [*, errW_none, errW_some] <;> rfl), by repeat (first | (with_reducible first | exact HB.out | apply below_alloc | apply pw_below_drewN | apply below_drew1 | refine below_set ?_ GE310.out | refine below_set ?_ GE311.out) | exact HB.out)⟩
            · replace c30 := Bool.eq_false_iff.mpr c30
              subst c30
              have H1 : (if (t316.size : Int) ≤ (t319.size : Int) then (if 0 ≤ (t316.size : Int) then (if a0_0 = a1_0 then ((sheetpileref19_Changes.f kj20 l0_1 l1_1).bind fun t322 => (if (((t319.extract 0 ((t316.size : Int) : Int).toNat).toList == t316.toList) == t322) = true then ((sheetpilelaw19_live.f kj20).bind fun t323 => (some t323)) else (some false))) else (if (((t319.extract 0 ((t316.size : Int) : Int).toNat).toList == t316.toList) == false) = true then ((sheetpilelaw19_live.f kj20).bind fun t324 => (some t324)) else (some false))) else (none)) else (if a0_0 = a1_0 then ((sheetpileref19_Changes.f kj20 l0_1 l1_1).bind fun t325 => (if (false == t325) = true then ((sheetpilelaw19_live.f kj20).bind fun t326 => (some t326)) else (some false))) else (if (false == false) = true then ((sheetpilelaw19_live.f kj20).bind fun t327 => (some t327)) else (some false)))) = some r := by rw [if_neg (show ¬ (false = true) by decide)] at H; exact H
              clear H
              have H := H1
              clear H1
              by_cases c33 : (t316.size : Int) ≤ (t319.size : Int)
              · rw [if_pos c33] at H
                have c33b0 : decide ((t316.size : Int) ≤ (t319.size : Int)) = true := decide_eq_true c33
                have c33b1 : decide (t316.size ≤ t319.size) = true := decide_eq_true (Int.ofNat_le.mp c33)
                clear c33
                by_cases c34 : 0 ≤ (t316.size : Int)
                · rw [if_pos c34] at H
                  have c34b0 := eq_true c34
                  have c34b1 : decide (0 ≤ (t316.size : Int)) = true := decide_eq_true c34
                  clear c34
                  have c35b0 := eq_true (of_decide_eq_true (by first | (with_reducible assumption) | assumption) : (t316.size : Int) ≤ (t319.size : Int))
                  by_cases c36 : a0_0 = a1_0
                  · rw [if_pos c36] at H
                    have c36b0 : (a0_0 == a1_0) = true := beq_iff_eq.mpr c36
                    have c36b1 : (a0_0 != a1_0) = false := bne_eq_false_iff_eq.mpr c36
                    clear c36
                    replace H := Option.bind_eq_some_iff.mp H
                    obtain ⟨t322, A370, H⟩ := H
                    replace H : (if (((t319.extract 0 ((t316.size : Int) : Int).toNat).toList == t316.toList) == t322) = true then ((sheetpilelaw19_live.f kj20).bind fun t323 => (some t323)) else (some false)) = some r := H
                    have A37 := Aside0.mk A370
                    clear A370
                    by_cases c38 : (((t319.extract 0 ((t316.size : Int) : Int).toNat).toList == t316.toList) == t322) = true
                    · rw [if_pos c38] at H
                      have c38b0 : (((t319.extract 0 ((t316.size : Int) : Int).toNat).toList == t316.toList) == t322) = true := c38
                      (try simp only [Int.toNat_natCast] at c38b0)
                      (try (have c38b1 : decide (((t319.extract 0 ((t316.size : Int) : Int).toNat).toList == t316.toList) = t322) = true := by simpa using c38))
                      (try simp only [Int.toNat_natCast] at c38b1)
                      (try (have c38b2 : (((t319.extract 0 ((t316.size : Int) : Int).toNat).toList == t316.toList) == t322) = true := by simpa using c38))
                      (try simp only [Int.toNat_natCast] at c38b2)
                      clear c38
                      replace H := Option.bind_eq_some_iff.mp H
                      obtain ⟨t323, A390, H⟩ := H
                      replace H : (some t323) = some r := H
                      have A39 := Aside0.mk A390
                      clear A390
                      obtain rfl := Option.some.inj H
                      have hnb40 := NB310_311.out
                      have hnc40 := NB311_310.out
                      have hcz41_0 : wc.cell? ⟨gb310, 0, none⟩ = some (.int .i64 a0_0) := (blk_cell BK310.out 0).trans rfl
                      have hcz41_1 : wc.cell? ⟨gb310, 1, none⟩ = some (.slice A0_1 l0_1.length c0_1) := (blk_cell BK310.out 1).trans rfl
                      have hfz41_0 := blk_frozen BK310.out 0
                      have hfz41_1 := blk_frozen BK310.out 1
                      have hcz42_0 : wc.cell? ⟨gb311, 0, none⟩ = some (.int .i64 a1_0) := (blk_cell BK311.out 0).trans rfl
                      have hcz42_1 : wc.cell? ⟨gb311, 1, none⟩ = some (.slice A1_1 l1_1.length c1_1) := (blk_cell BK311.out 1).trans rfl
                      have hfz42_0 := blk_frozen BK311.out 0
                      have hfz42_1 := blk_frozen BK311.out 1
                      go_wp2_with (first | (go_at_call 24; (with_reducible refine (sheetpileref19_Changes.calls kj20 _ _ l0_1 _ _ l1_1 t322 _ ?side1 ?side2 ?side3 ?side4 A37.out).mono ?_); (case side1 => repeat (first | exact (Kd.C_below HR0_1.out HB.out) | (with_reducible refine Kd.C_alloc ?_ _) | (with_reducible refine Kd.C_drewN ?_ _) | (with_reducible refine Kd.C_drew ?_))); (case side2 => exact HC0_1.out); (case side3 => repeat (first | exact (Kd.C_below HR1_1.out HB.out) | (with_reducible refine Kd.C_alloc ?_ _) | (with_reducible refine Kd.C_drewN ?_ _) | (with_reducible refine Kd.C_drew ?_))); (case side4 => exact HC1_1.out); rintro e w' ⟨rfl, ⟨nd, rfl⟩⟩) | (go_at_call 16; (with_reducible refine (sheetpilelaw19_live.calls kj20  t323 _ A39.out).mono ?_); rintro e w43 ⟨rfl, hb⟩; have n0_ := Aside0.mk (blk_below (g := gb310) (o := .cells #[.int .i64 a0_0, .slice A0_1 l0_1.length c0_1] 24 (0, 0)) (by (with_reducible repeat (first | refine blk_drewN ?_ _ | refine blk_drew ?_ | refine blk_alloc ?_ _)); exact BK310.out) hb); have n1_ := Aside0.mk (blk_below (g := gb311) (o := .cells #[.int .i64 a1_0, .slice A1_1 l1_1.length c1_1] 24 (0, 0)) (by (with_reducible repeat (first | refine blk_drewN ?_ _ | refine blk_drew ?_ | refine blk_alloc ?_ _)); exact BK311.out) hb); have n2_ := Aside0.mk (below_step (by repeat (first | (with_reducible first | exact HB.out | apply below_alloc | apply pw_below_drewN | apply below_drew1 | refine below_set ?_ GE310.out | refine below_set ?_ GE311.out) | exact HB.out)) hb); clear BK310; clear BK311; clear HB; have BK310 := n0_; have BK311 := n1_; have HB := n2_; clear n0_ n1_ n2_; (try clear hb); (try clear hb2); (try clear hk); (try clear hi)))
                      go_ret
                      exact ⟨by first | rfl | (simp [errW_none, errW_some] <;> rfl) | (simp [*, errW_none, errW_some] <;> rfl), by repeat (first | (with_reducible first | exact HB.out | apply below_alloc | apply pw_below_drewN | apply below_drew1 | refine below_set ?_ GE310.out | refine below_set ?_ GE311.out) | exact HB.out)⟩
                    · rw [if_neg c38] at H
                      have c38b0 : (((t319.extract 0 ((t316.size : Int) : Int).toNat).toList == t316.toList) == t322) = false := by simpa using c38
                      (try simp only [Int.toNat_natCast] at c38b0)
                      (try (have c38b1 : decide (((t319.extract 0 ((t316.size : Int) : Int).toNat).toList == t316.toList) = t322) = false := by simpa using c38))
                      (try simp only [Int.toNat_natCast] at c38b1)
                      (try (have c38b2 : (((t319.extract 0 ((t316.size : Int) : Int).toNat).toList == t316.toList) == t322) = false := by simpa using c38))
                      (try simp only [Int.toNat_natCast] at c38b2)
                      (try (have c38b3 : ¬ (((t319.extract 0 ((t316.size : Int) : Int).toNat).toList == t316.toList) = t322) := by simpa using c38))
                      (try simp only [Int.toNat_natCast] at c38b3)
                      clear c38
                      obtain rfl := Option.some.inj H
                      have hnb44 := NB310_311.out
                      have hnc44 := NB311_310.out
                      have hcz45_0 : wc.cell? ⟨gb310, 0, none⟩ = some (.int .i64 a0_0) := (blk_cell BK310.out 0).trans rfl
                      have hcz45_1 : wc.cell? ⟨gb310, 1, none⟩ = some (.slice A0_1 l0_1.length c0_1) := (blk_cell BK310.out 1).trans rfl
                      have hfz45_0 := blk_frozen BK310.out 0
                      have hfz45_1 := blk_frozen BK310.out 1
                      have hcz46_0 : wc.cell? ⟨gb311, 0, none⟩ = some (.int .i64 a1_0) := (blk_cell BK311.out 0).trans rfl
                      have hcz46_1 : wc.cell? ⟨gb311, 1, none⟩ = some (.slice A1_1 l1_1.length c1_1) := (blk_cell BK311.out 1).trans rfl
                      have hfz46_0 := blk_frozen BK311.out 0
                      have hfz46_1 := blk_frozen BK311.out 1
                      go_wp2_with (first | (go_at_call 24; (with_reducible refine (sheetpileref19_Changes.calls kj20 _ _ l0_1 _ _ l1_1 t322 _ ?side1 ?side2 ?side3 ?side4 A37.out).mono ?_); (case side1 => repeat (first | exact (Kd.C_below HR0_1.out HB.out) | (with_reducible refine Kd.C_alloc ?_ _) | (with_reducible refine Kd.C_drewN ?_ _) | (with_reducible refine Kd.C_drew ?_))); (case side2 => exact HC0_1.out); (case side3 => repeat (first | exact (Kd.C_below HR1_1.out HB.out) | (with_reducible refine Kd.C_alloc ?_ _) | (with_reducible refine Kd.C_drewN ?_ _) | (with_reducible refine Kd.C_drew ?_))); (case side4 => exact HC1_1.out); rintro e w' ⟨rfl, ⟨nd, rfl⟩⟩))
                      go_ret
                      exact ⟨by first | rfl | (simp [errW_none, errW_some] <;> rfl) | (simp [*, errW_none, errW_some] <;> rfl), by repeat (first | (with_reducible first | exact HB.out | apply below_alloc | apply pw_below_drewN | apply below_drew1 | refine below_set ?_ GE310.out | refine below_set ?_ GE311.out) | exact HB.out)⟩
                  · rw [if_neg c36] at H
                    have c36b0 : (a0_0 == a1_0) = false := beq_eq_false_iff_ne.mpr c36
                    have c36b1 : (a0_0 != a1_0) = true := bne_iff_ne.mpr c36
                    by_cases c47 : (((t319.extract 0 ((t316.size : Int) : Int).toNat).toList == t316.toList) == false) = true
                    · rw [if_pos c47] at H
                      have c47b0 : (((t319.extract 0 ((t316.size : Int) : Int).toNat).toList == t316.toList) == false) = true := c47
                      (try simp only [Int.toNat_natCast] at c47b0)
                      (try (have c47b1 : decide (((t319.extract 0 ((t316.size : Int) : Int).toNat).toList == t316.toList) = false) = true := by simpa using c47))
                      (try simp only [Int.toNat_natCast] at c47b1)
                      (try (have c47b2 : (((t319.extract 0 ((t316.size : Int) : Int).toNat).toList == t316.toList) == false) = true := by simpa using c47))
                      (try simp only [Int.toNat_natCast] at c47b2)
                      clear c47
                      replace H := Option.bind_eq_some_iff.mp H
                      obtain ⟨t324, A480, H⟩ := H
                      replace H : (some t324) = some r := H
                      have A48 := Aside0.mk A480
                      clear A480
                      obtain rfl := Option.some.inj H
                      have hnb49 := NB310_311.out
                      have hnc49 := NB311_310.out
                      have hcz50_0 : wc.cell? ⟨gb310, 0, none⟩ = some (.int .i64 a0_0) := (blk_cell BK310.out 0).trans rfl
                      have hcz50_1 : wc.cell? ⟨gb310, 1, none⟩ = some (.slice A0_1 l0_1.length c0_1) := (blk_cell BK310.out 1).trans rfl
                      have hfz50_0 := blk_frozen BK310.out 0
                      have hfz50_1 := blk_frozen BK310.out 1
                      have hcz51_0 : wc.cell? ⟨gb311, 0, none⟩ = some (.int .i64 a1_0) := (blk_cell BK311.out 0).trans rfl
                      have hcz51_1 : wc.cell? ⟨gb311, 1, none⟩ = some (.slice A1_1 l1_1.length c1_1) := (blk_cell BK311.out 1).trans rfl
                      have hfz51_0 := blk_frozen BK311.out 0
                      have hfz51_1 := blk_frozen BK311.out 1
                      go_wp2_with (first | (go_at_call 16; (with_reducible refine (sheetpilelaw19_live.calls kj20  t324 _ A48.out).mono ?_); rintro e w52 ⟨rfl, hb⟩; have n0_ := Aside0.mk (blk_below (g := gb310) (o := .cells #[.int .i64 a0_0, .slice A0_1 l0_1.length c0_1] 24 (0, 0)) (by (with_reducible repeat (first | refine blk_drewN ?_ _ | refine blk_drew ?_ | refine blk_alloc ?_ _)); exact BK310.out) hb); have n1_ := Aside0.mk (blk_below (g := gb311) (o := .cells #[.int .i64 a1_0, .slice A1_1 l1_1.length c1_1] 24 (0, 0)) (by (with_reducible repeat (first | refine blk_drewN ?_ _ | refine blk_drew ?_ | refine blk_alloc ?_ _)); exact BK311.out) hb); have n2_ := Aside0.mk (below_step (by repeat (first | (with_reducible first | exact HB.out | apply below_alloc | apply pw_below_drewN | apply below_drew1 | refine below_set ?_ GE310.out | refine below_set ?_ GE311.out) | exact HB.out)) hb); clear BK310; clear BK311; clear HB; have BK310 := n0_; have BK311 := n1_; have HB := n2_; clear n0_ n1_ n2_; (try clear hb); (try clear hb2); (try clear hk); (try clear hi)))
                      go_ret
                      exact ⟨by first | rfl | (simp [errW_none, errW_some] <;> rfl) | (simp [*, errW_none, errW_some] <;> rfl), by repeat (first | (with_reducible first | exact HB.out | apply below_alloc | apply pw_below_drewN | apply below_drew1 | refine below_set ?_ GE310.out | refine below_set ?_ GE311.out) | exact HB.out)⟩
                    · rw [if_neg c47] at H
                      have c47b0 : (((t319.extract 0 ((t316.size : Int) : Int).toNat).toList == t316.toList) == false) = false := by simpa using c47
                      (try simp only [Int.toNat_natCast] at c47b0)
                      (try (have c47b1 : decide (((t319.extract 0 ((t316.size : Int) : Int).toNat).toList == t316.toList) = false) = false := by simpa using c47))
                      (try simp only [Int.toNat_natCast] at c47b1)
                      (try (have c47b2 : (((t319.extract 0 ((t316.size : Int) : Int).toNat).toList == t316.toList) == false) = false := by simpa using c47))
                      (try simp only [Int.toNat_natCast] at c47b2)
                      (try (have c47b3 : ¬ (((t319.extract 0 ((t316.size : Int) : Int).toNat).toList == t316.toList) = false) := by simpa using c47))
                      (try simp only [Int.toNat_natCast] at c47b3)
                      clear c47
                      obtain rfl := Option.some.inj H
                      have hnb53 := NB310_311.out
                      have hnc53 := NB311_310.out
                      have hcz54_0 : wc.cell? ⟨gb310, 0, none⟩ = some (.int .i64 a0_0) := (blk_cell BK310.out 0).trans rfl
                      have hcz54_1 : wc.cell? ⟨gb310, 1, none⟩ = some (.slice A0_1 l0_1.length c0_1) := (blk_cell BK310.out 1).trans rfl
                      have hfz54_0 := blk_frozen BK310.out 0
                      have hfz54_1 := blk_frozen BK310.out 1
                      have hcz55_0 : wc.cell? ⟨gb311, 0, none⟩ = some (.int .i64 a1_0) := (blk_cell BK311.out 0).trans rfl
                      have hcz55_1 : wc.cell? ⟨gb311, 1, none⟩ = some (.slice A1_1 l1_1.length c1_1) := (blk_cell BK311.out 1).trans rfl
                      have hfz55_0 := blk_frozen BK311.out 0
                      have hfz55_1 := blk_frozen BK311.out 1
                      go_wp2
                      go_ret
                      exact ⟨by first | rfl | (simp [errW_none, errW_some] <;> rfl) | (simp [*, errW_none, errW_some] <;> rfl), by repeat (first | (with_reducible first | exact HB.out | apply below_alloc | apply pw_below_drewN | apply below_drew1 | refine below_set ?_ GE310.out | refine below_set ?_ GE311.out) | exact HB.out)⟩
                · rw [if_neg c34] at H
                  exact absurd H (by simp)
              · rw [if_neg c33] at H
                have c33b0 : decide ((t316.size : Int) ≤ (t319.size : Int)) = false := decide_eq_false c33
                have c33b1 : decide (t316.size ≤ t319.size) = false := decide_eq_false (fun h => c33 (Int.ofNat_le.mpr h))
                clear c33
                by_cases c56 : a0_0 = a1_0
                · rw [if_pos c56] at H
                  have c56b0 : (a0_0 == a1_0) = true := beq_iff_eq.mpr c56
                  have c56b1 : (a0_0 != a1_0) = false := bne_eq_false_iff_eq.mpr c56
                  clear c56
                  replace H := Option.bind_eq_some_iff.mp H
                  obtain ⟨t325, A570, H⟩ := H
                  replace H : (if (false == t325) = true then ((sheetpilelaw19_live.f kj20).bind fun t326 => (some t326)) else (some false)) = some r := H
                  have A57 := Aside0.mk A570
                  clear A570
                  by_cases c58 : (false == t325) = true
                  · rw [if_pos c58] at H
                    have c58b0 : (false == t325) = true := c58
                    (try (have c58b1 : decide (false = t325) = true := by simpa using c58))
                    (try (have c58b2 : (false == t325) = true := by simpa using c58))
                    clear c58
                    replace H := Option.bind_eq_some_iff.mp H
                    obtain ⟨t326, A590, H⟩ := H
                    replace H : (some t326) = some r := H
                    have A59 := Aside0.mk A590
                    clear A590
                    obtain rfl := Option.some.inj H
                    have hnb60 := NB310_311.out
                    have hnc60 := NB311_310.out
                    have hcz61_0 : wc.cell? ⟨gb310, 0, none⟩ = some (.int .i64 a0_0) := (blk_cell BK310.out 0).trans rfl
                    have hcz61_1 : wc.cell? ⟨gb310, 1, none⟩ = some (.slice A0_1 l0_1.length c0_1) := (blk_cell BK310.out 1).trans rfl
                    have hfz61_0 := blk_frozen BK310.out 0
                    have hfz61_1 := blk_frozen BK310.out 1
                    have hcz62_0 : wc.cell? ⟨gb311, 0, none⟩ = some (.int .i64 a1_0) := (blk_cell BK311.out 0).trans rfl
                    have hcz62_1 : wc.cell? ⟨gb311, 1, none⟩ = some (.slice A1_1 l1_1.length c1_1) := (blk_cell BK311.out 1).trans rfl
                    have hfz62_0 := blk_frozen BK311.out 0
                    have hfz62_1 := blk_frozen BK311.out 1
                    go_wp2_with (first | (go_at_call 24; (with_reducible refine (sheetpileref19_Changes.calls kj20 _ _ l0_1 _ _ l1_1 t325 _ ?side1 ?side2 ?side3 ?side4 A57.out).mono ?_); (case side1 => repeat (first | exact (Kd.C_below HR0_1.out HB.out) | (with_reducible refine Kd.C_alloc ?_ _) | (with_reducible refine Kd.C_drewN ?_ _) | (with_reducible refine Kd.C_drew ?_))); (case side2 => exact HC0_1.out); (case side3 => repeat (first | exact (Kd.C_below HR1_1.out HB.out) | (with_reducible refine Kd.C_alloc ?_ _) | (with_reducible refine Kd.C_drewN ?_ _) | (with_reducible refine Kd.C_drew ?_))); (case side4 => exact HC1_1.out); rintro e w' ⟨rfl, ⟨nd, rfl⟩⟩) | (go_at_call 16; (with_reducible refine (sheetpilelaw19_live.calls kj20  t326 _ A59.out).mono ?_); rintro e w63 ⟨rfl, hb⟩; have n0_ := Aside0.mk (blk_below (g := gb310) (o := .cells #[.int .i64 a0_0, .slice A0_1 l0_1.length c0_1] 24 (0, 0)) (by (with_reducible repeat (first | refine blk_drewN ?_ _ | refine blk_drew ?_ | refine blk_alloc ?_ _)); exact BK310.out) hb); have n1_ := Aside0.mk (blk_below (g := gb311) (o := .cells #[.int .i64 a1_0, .slice A1_1 l1_1.length c1_1] 24 (0, 0)) (by (with_reducible repeat (first | refine blk_drewN ?_ _ | refine blk_drew ?_ | refine blk_alloc ?_ _)); exact BK311.out) hb); have n2_ := Aside0.mk (below_step (by repeat (first | (with_reducible first | exact HB.out | apply below_alloc | apply pw_below_drewN | apply below_drew1 | refine below_set ?_ GE310.out | refine below_set ?_ GE311.out) | exact HB.out)) hb); clear BK310; clear BK311; clear HB; have BK310 := n0_; have BK311 := n1_; have HB := n2_; clear n0_ n1_ n2_; (try clear hb); (try clear hb2); (try clear hk); (try clear hi)))
                    go_ret
                    exact ⟨by first | rfl | (simp [errW_none, errW_some] <;> rfl) | (simp [*, errW_none, errW_some] <;> rfl), by repeat (first | (with_reducible first | exact HB.out | apply below_alloc | apply pw_below_drewN | apply below_drew1 | refine below_set ?_ GE310.out | refine below_set ?_ GE311.out) | exact HB.out)⟩
                  · rw [if_neg c58] at H
                    have c58b0 : (false == t325) = false := by simpa using c58
                    (try (have c58b1 : decide (false = t325) = false := by simpa using c58))
                    (try (have c58b2 : (false == t325) = false := by simpa using c58))
                    (try (have c58b3 : ¬ (false = t325) := by simpa using c58))
                    clear c58
                    obtain rfl := Option.some.inj H
                    have hnb64 := NB310_311.out
                    have hnc64 := NB311_310.out
                    have hcz65_0 : wc.cell? ⟨gb310, 0, none⟩ = some (.int .i64 a0_0) := (blk_cell BK310.out 0).trans rfl
                    have hcz65_1 : wc.cell? ⟨gb310, 1, none⟩ = some (.slice A0_1 l0_1.length c0_1) := (blk_cell BK310.out 1).trans rfl
                    have hfz65_0 := blk_frozen BK310.out 0
                    have hfz65_1 := blk_frozen BK310.out 1
                    have hcz66_0 : wc.cell? ⟨gb311, 0, none⟩ = some (.int .i64 a1_0) := (blk_cell BK311.out 0).trans rfl
                    have hcz66_1 : wc.cell? ⟨gb311, 1, none⟩ = some (.slice A1_1 l1_1.length c1_1) := (blk_cell BK311.out 1).trans rfl
                    have hfz66_0 := blk_frozen BK311.out 0
                    have hfz66_1 := blk_frozen BK311.out 1
                    go_wp2_with (first | (go_at_call 24; (with_reducible refine (sheetpileref19_Changes.calls kj20 _ _ l0_1 _ _ l1_1 t325 _ ?side1 ?side2 ?side3 ?side4 A57.out).mono ?_); (case side1 => repeat (first | exact (Kd.C_below HR0_1.out HB.out) | (with_reducible refine Kd.C_alloc ?_ _) | (with_reducible refine Kd.C_drewN ?_ _) | (with_reducible refine Kd.C_drew ?_))); (case side2 => exact HC0_1.out); (case side3 => repeat (first | exact (Kd.C_below HR1_1.out HB.out) | (with_reducible refine Kd.C_alloc ?_ _) | (with_reducible refine Kd.C_drewN ?_ _) | (with_reducible refine Kd.C_drew ?_))); (case side4 => exact HC1_1.out); rintro e w' ⟨rfl, ⟨nd, rfl⟩⟩))
                    go_ret
                    exact ⟨by first | rfl | (simp [errW_none, errW_some] <;> rfl) | (simp [*, errW_none, errW_some] <;> rfl), by repeat (first | (with_reducible first | exact HB.out | apply below_alloc | apply pw_below_drewN | apply below_drew1 | refine below_set ?_ GE310.out | refine below_set ?_ GE311.out) | exact HB.out)⟩
                · rw [if_neg c56] at H
                  have c56b0 : (a0_0 == a1_0) = false := beq_eq_false_iff_ne.mpr c56
                  have c56b1 : (a0_0 != a1_0) = true := bne_iff_ne.mpr c56
                  by_cases c67 : (false == false) = true
                  · rw [if_pos c67] at H
                    have c67b0 : (false == false) = true := c67
                    (try (have c67b1 : decide (false = false) = true := by decide))
                    (try (have c67b2 : (false == false) = true := by decide))
                    clear c67
                    replace H := Option.bind_eq_some_iff.mp H
                    obtain ⟨t327, A680, H⟩ := H
                    replace H : (some t327) = some r := H
                    have A68 := Aside0.mk A680
                    clear A680
                    obtain rfl := Option.some.inj H
                    have hnb69 := NB310_311.out
                    have hnc69 := NB311_310.out
                    have hcz70_0 : wc.cell? ⟨gb310, 0, none⟩ = some (.int .i64 a0_0) := (blk_cell BK310.out 0).trans rfl
                    have hcz70_1 : wc.cell? ⟨gb310, 1, none⟩ = some (.slice A0_1 l0_1.length c0_1) := (blk_cell BK310.out 1).trans rfl
                    have hfz70_0 := blk_frozen BK310.out 0
                    have hfz70_1 := blk_frozen BK310.out 1
                    have hcz71_0 : wc.cell? ⟨gb311, 0, none⟩ = some (.int .i64 a1_0) := (blk_cell BK311.out 0).trans rfl
                    have hcz71_1 : wc.cell? ⟨gb311, 1, none⟩ = some (.slice A1_1 l1_1.length c1_1) := (blk_cell BK311.out 1).trans rfl
                    have hfz71_0 := blk_frozen BK311.out 0
                    have hfz71_1 := blk_frozen BK311.out 1
                    go_wp2_with (first | (go_at_call 16; (with_reducible refine (sheetpilelaw19_live.calls kj20  t327 _ A68.out).mono ?_); rintro e w72 ⟨rfl, hb⟩; have n0_ := Aside0.mk (blk_below (g := gb310) (o := .cells #[.int .i64 a0_0, .slice A0_1 l0_1.length c0_1] 24 (0, 0)) (by (with_reducible repeat (first | refine blk_drewN ?_ _ | refine blk_drew ?_ | refine blk_alloc ?_ _)); exact BK310.out) hb); have n1_ := Aside0.mk (blk_below (g := gb311) (o := .cells #[.int .i64 a1_0, .slice A1_1 l1_1.length c1_1] 24 (0, 0)) (by (with_reducible repeat (first | refine blk_drewN ?_ _ | refine blk_drew ?_ | refine blk_alloc ?_ _)); exact BK311.out) hb); have n2_ := Aside0.mk (below_step (by repeat (first | (with_reducible first | exact HB.out | apply below_alloc | apply pw_below_drewN | apply below_drew1 | refine below_set ?_ GE310.out | refine below_set ?_ GE311.out) | exact HB.out)) hb); clear BK310; clear BK311; clear HB; have BK310 := n0_; have BK311 := n1_; have HB := n2_; clear n0_ n1_ n2_; (try clear hb); (try clear hb2); (try clear hk); (try clear hi)))
                    go_ret
                    exact ⟨by first | rfl | (simp [errW_none, errW_some] <;> rfl) | (simp [*, errW_none, errW_some] <;> rfl), by repeat (first | (with_reducible first | exact HB.out | apply below_alloc | apply pw_below_drewN | apply below_drew1 | refine below_set ?_ GE310.out | refine below_set ?_ GE311.out) | exact HB.out)⟩
                  · exact absurd rfl c67
end Go.Proofs.Ytcgbjkjacpeheaa.PFr
