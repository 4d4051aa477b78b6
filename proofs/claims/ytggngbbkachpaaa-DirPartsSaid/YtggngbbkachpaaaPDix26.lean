-- Laid by a program of this session (wip/mkprint.py); checked by Lean alone
import Derived.Test.YtggngbbkachpaaaPDix0
import Derived.Test.YtggngbbkachpaaaMendCut
import Derived.Test.YtggngbbkachpaaaPDix9
import Derived.Test.YtggngbbkachpaaaPDix10
import Derived.Test.YtggngbbkachpaaaPDix14
import Derived.Test.YtggngbbkachpaaaPDix15
import Derived.Test.YtggngbbkachpaaaDirApply
import Derived.Test.YtggngbbkachpaaaDirGet
namespace Go.Proofs.Ytggngbbkachpaaa.Given
end Go.Proofs.Ytggngbbkachpaaa.Given
namespace Go.Proofs.Ytggngbbkachpaaa.PDi
open Go.Proofs.Ytggngbbkachpaaa.Given
open Go.RowKit Go.Proofs.YtggngbbkachpaaaW.PrintWords Go.Proofs.YtggngbbkachpaaaW.PrintLast Go.Proofs.YtggngbbkachpaaaW.PrintMore
attribute [local go_sem] max2_int min2_int max_two min_two max_three min_three max_four min_four   -- for this text's walks alone
set_option linter.unusedVariables false
set_option linter.unusedSimpArgs false

attribute [local go_sem] isSome_setCell_ binOp_geq_ binOp_leq_ binOp_gtr_
/-! ### sheetpilelaw21_DirParts: function 7 -/
def sheetpilelaw21_DirParts.j0 : Nat → List (S75) → List (S42) → Int → Bool → Option (Bool)
  | 0, _, _, _, _ => none
  | k + 1, x0, x1, x2, x34 => if x34 = true then ((sheetpilelaw21_live.f k).bind fun t368 => (some t368)) else ((dir_Apply.f x0 x1).bind fun t369 => (if 0 ≤ x2 then (if x2 ≤ (x1.length : Int) then ((dir_Apply.f x0 (x1.take (x2 : Int).toNat)).bind fun t376 => ((dir_Apply.f t376 (x1.drop (x2 : Int).toNat)).bind fun t383 => ((sheetpileref21_Same.f k t369 t383).bind fun t386 => (if t386 = true then (if (x1.length : Int) = 0 then ((sheetpilelaw21_live.f k).bind fun t387 => (some t387)) else (if 0 ≤ (wrap64 ((x1.length : Int) - 1)) then (if (wrap64 ((x1.length : Int) - 1)) < (x1.length : Int) then ((sheetpileref19_Check.f k (([(⟨(rd_T42 x1 (wrap64 ((x1.length : Int) - 1))).f0, (rd_T42 x1 (wrap64 ((x1.length : Int) - 1))).f1, (rd_T42 x1 (wrap64 ((x1.length : Int) - 1))).f2⟩ : S42)] : List (S42)))).bind fun t393 => (if t393 = 0 then ((dir_Get.f t369 ((rd_T42 x1 (wrap64 ((x1.length : Int) - 1))).f0)).bind fun bt394 => (if (bt394.2 == (!((rd_T42 x1 (wrap64 ((x1.length : Int) - 1))).f2))) = true then (if (rd_T42 x1 (wrap64 ((x1.length : Int) - 1))).f2 = true then ((sheetpilelaw21_live.f k).bind fun t396 => (some t396)) else (if bt394.1.toList = ((rd_T42 x1 (wrap64 ((x1.length : Int) - 1))).f1).toList then ((sheetpilelaw21_live.f k).bind fun t397 => (some t397)) else (some false))) else (some false))) else ((sheetpilelaw21_live.f k).bind fun t398 => (some t398)))) else (none)) else (none))) else (some false))))) else (none)) else (none)))
def sheetpilelaw21_DirParts.f (k : Nat) (l0 : List (S75)) (l1 : List (S42)) (a2 : Int) : Option (Bool) := (sheetpileref21_Few.f k l0).bind fun t365 => (if t365 = true then ((dir_May.f k l0).bind fun t366 => (if t366 = true then ((sheetpileref19_Few.f k l1).bind fun t367 => (if t367 = true then (if a2 < 0 then (sheetpilelaw21_DirParts.j0 k l0 l1 a2 true) else (sheetpilelaw21_DirParts.j0 k l0 l1 a2 (decide (a2 > (l1.length : Int))))) else (sheetpilelaw21_DirParts.j0 k l0 l1 a2 true))) else (sheetpilelaw21_DirParts.j0 k l0 l1 a2 true))) else (sheetpilelaw21_DirParts.j0 k l0 l1 a2 true))
theorem sheetpilelaw21_DirParts.mono_l : ∀ k, (∀ y0 y1 y2 y3, LeO (sheetpilelaw21_DirParts.j0 k y0 y1 y2 y3) (sheetpilelaw21_DirParts.j0 (k + 1) y0 y1 y2 y3))
  | 0 => fun _ _ _ _ r h => by simp [sheetpilelaw21_DirParts.j0] at h
  | k + 1 => by
    have ih0 := sheetpilelaw21_DirParts.mono_l k
    · intro y0 y1 y2 y3
      unfold sheetpilelaw21_DirParts.j0
      repeat' first
      | (with_reducible exact ih0 _ _ _ _)
      | (with_reducible exact dir_May.mono _ _)
      | (with_reducible exact sheetpilelaw21_live.mono _)
      | (with_reducible exact sheetpileref19_Check.mono _ _)
      | (with_reducible exact sheetpileref19_Few.mono _ _)
      | (with_reducible exact sheetpileref21_Few.mono _ _)
      | (with_reducible exact sheetpileref21_Same.mono _ _ _)
      | (with_reducible exact LeO.refl _)
      | (with_reducible exact LeO.none _)
      | (with_reducible refine LeO.ite ?_ ?_)
      | (with_reducible refine LeO.bind ?_ (fun _ => ?_))
      | exact ih0 _ _ _ _
      | exact dir_May.mono _ _
      | exact sheetpilelaw21_live.mono _
      | exact sheetpileref19_Check.mono _ _
      | exact sheetpileref19_Few.mono _ _
      | exact sheetpileref21_Few.mono _ _
      | exact sheetpileref21_Same.mono _ _ _
      | exact LeO.none _
      | refine LeO.ite ?_ ?_
      | refine LeO.bind ?_ (fun _ => ?_)
theorem sheetpilelaw21_DirParts.mono : ∀ a0 a1 a2 k, LeO (sheetpilelaw21_DirParts.f k a0 a1 a2) (sheetpilelaw21_DirParts.f (k + 1) a0 a1 a2) := by
  intro a0 a1 a2 k
  have ih0 := sheetpilelaw21_DirParts.mono_l k
  unfold sheetpilelaw21_DirParts.f
  repeat' first
      | (with_reducible exact ih0 _ _ _ _)
      | (with_reducible exact dir_May.mono _ _)
      | (with_reducible exact sheetpilelaw21_live.mono _)
      | (with_reducible exact sheetpileref19_Check.mono _ _)
      | (with_reducible exact sheetpileref19_Few.mono _ _)
      | (with_reducible exact sheetpileref21_Few.mono _ _)
      | (with_reducible exact sheetpileref21_Same.mono _ _ _)
      | (with_reducible exact LeO.refl _)
      | (with_reducible exact LeO.none _)
      | (with_reducible refine LeO.ite ?_ ?_)
      | (with_reducible refine LeO.bind ?_ (fun _ => ?_))
      | exact ih0 _ _ _ _
      | exact dir_May.mono _ _
      | exact sheetpilelaw21_live.mono _
      | exact sheetpileref19_Check.mono _ _
      | exact sheetpileref19_Few.mono _ _
      | exact sheetpileref21_Few.mono _ _
      | exact sheetpileref21_Same.mono _ _ _
      | exact LeO.none _
      | refine LeO.ite ?_ ?_
      | refine LeO.bind ?_ (fun _ => ?_)
def sheetpilelaw21_DirParts.T4 : Bool × List (List Nat × List Nat) := (true, [([], []), ([], []), ([], []), ([1, 2], [1, 2]), ([0, 3], [0, 3]), ([], []), ([], []), ([5, 6], [5, 6]), ([4, 7, 4], [4, 7]), ([8, 8, 0, 1, 2, 3, 4, 5, 6, 7, 8], [8])])
def sheetpilelaw21_DirParts.B4 : List Nat := [0, 0, 0, 6, 15, 0, 0, 96, 255, 511]
theorem sheetpilelaw21_DirParts.tab4 : rtab .any (opsOf Try.f7 4) = sheetpilelaw21_DirParts.T4 := by kernel_rfl
theorem sheetpilelaw21_DirParts.bits4 : waitsOk sheetpilelaw21_DirParts.T4.2 sheetpilelaw21_DirParts.B4 = true := by kernel_rfl
set_option maxHeartbeats 8000000 in
set_option maxRecDepth 100000 in
theorem sheetpilelaw21_DirParts.calls (k : Nat) (A0 : Option Addr) (c0 : Nat) (l0 : List (S75)) (A1 : Option Addr) (c1 : Nat) (l1 : List (S42)) (a2 : Int) (r : Bool) (w : World) (hr0 : Kd.C k75 w A0 l0.length l0) (hc0 : l0.length ≤ c0) (hr1 : Kd.C k42 w A1 l1.length l1) (hc1 : l1.length ≤ c1) (h : sheetpilelaw21_DirParts.f k l0 l1 a2 = some r) :
    Calls Try.prog 7 #[.slice A0 l0.length c0, .slice A1 l1.length c1, .int .i64 a2] w fun e w' => e = .returned (.bool r) ∧ Below w.heap.size w w' := by
  have hu42 := Try.underlying42
  have HR0 := Aside0.mk hr0
  have HC0 := Aside0.mk hc0
  clear hr0 hc0
  have HR1 := Aside0.mk hr1
  have HC1 := Aside0.mk hc1
  clear hr1 hc1
  have HB := Aside0.mk (Below.refl w.heap.size w)
  have H : ((sheetpileref21_Few.f k l0).bind fun t365 => (if t365 = true then ((dir_May.f k l0).bind fun t366 => (if t366 = true then ((sheetpileref19_Few.f k l1).bind fun t367 => (if t367 = true then (if a2 < 0 then (sheetpilelaw21_DirParts.j0 k l0 l1 a2 true) else (sheetpilelaw21_DirParts.j0 k l0 l1 a2 (decide (a2 > (l1.length : Int))))) else (sheetpilelaw21_DirParts.j0 k l0 l1 a2 true))) else (sheetpilelaw21_DirParts.j0 k l0 l1 a2 true))) else (sheetpilelaw21_DirParts.j0 k l0 l1 a2 true))) = some r := h
  clear h
  have HC4 := Aside0.mk H
  clear H
  go_enter Try.func7, Try.ntmps7
  go_upto_region 1 with (fail)
  go_cut [34] (fun v34 wc => ∃ (kq : Nat) (x34_3 : Bool), v34 = .bool x34_3 ∧ Aside0 (sheetpilelaw21_DirParts.j0 kq l0 l1 a2 x34_3 = some r) ∧ Aside0 (kq ≤ k) ∧ Aside0 (Below w.heap.size w wc))
  case first =>
    have H := HC4.out
    clear HC4
    replace H := Option.bind_eq_some_iff.mp H
    obtain ⟨t365, A50, H⟩ := H
    replace H : (if t365 = true then ((dir_May.f k l0).bind fun t366 => (if t366 = true then ((sheetpileref19_Few.f k l1).bind fun t367 => (if t367 = true then (if a2 < 0 then (sheetpilelaw21_DirParts.j0 k l0 l1 a2 true) else (sheetpilelaw21_DirParts.j0 k l0 l1 a2 (decide (a2 > (l1.length : Int))))) else (sheetpilelaw21_DirParts.j0 k l0 l1 a2 true))) else (sheetpilelaw21_DirParts.j0 k l0 l1 a2 true))) else (sheetpilelaw21_DirParts.j0 k l0 l1 a2 true)) = some r := H
    have A5 := Aside0.mk A50
    clear A50
    by_cases c6 : t365 = true
    · subst c6
      have H1 : ((dir_May.f k l0).bind fun t366 => (if t366 = true then ((sheetpileref19_Few.f k l1).bind fun t367 => (if t367 = true then (if a2 < 0 then (sheetpilelaw21_DirParts.j0 k l0 l1 a2 true) else (sheetpilelaw21_DirParts.j0 k l0 l1 a2 (decide (a2 > (l1.length : Int))))) else (sheetpilelaw21_DirParts.j0 k l0 l1 a2 true))) else (sheetpilelaw21_DirParts.j0 k l0 l1 a2 true))) = some r := by rw [if_pos rfl] at H; exact H
      clear H
      have H := H1
      clear H1
      replace H := Option.bind_eq_some_iff.mp H
      obtain ⟨t366, A70, H⟩ := H
      replace H : (if t366 = true then ((sheetpileref19_Few.f k l1).bind fun t367 => (if t367 = true then (if a2 < 0 then (sheetpilelaw21_DirParts.j0 k l0 l1 a2 true) else (sheetpilelaw21_DirParts.j0 k l0 l1 a2 (decide (a2 > (l1.length : Int))))) else (sheetpilelaw21_DirParts.j0 k l0 l1 a2 true))) else (sheetpilelaw21_DirParts.j0 k l0 l1 a2 true)) = some r := H
      have A7 := Aside0.mk A70
      clear A70
      by_cases c8 : t366 = true
      · subst c8
        have H1 : ((sheetpileref19_Few.f k l1).bind fun t367 => (if t367 = true then (if a2 < 0 then (sheetpilelaw21_DirParts.j0 k l0 l1 a2 true) else (sheetpilelaw21_DirParts.j0 k l0 l1 a2 (decide (a2 > (l1.length : Int))))) else (sheetpilelaw21_DirParts.j0 k l0 l1 a2 true))) = some r := by rw [if_pos rfl] at H; exact H
        clear H
        have H := H1
        clear H1
        replace H := Option.bind_eq_some_iff.mp H
        obtain ⟨t367, A90, H⟩ := H
        replace H : (if t367 = true then (if a2 < 0 then (sheetpilelaw21_DirParts.j0 k l0 l1 a2 true) else (sheetpilelaw21_DirParts.j0 k l0 l1 a2 (decide (a2 > (l1.length : Int))))) else (sheetpilelaw21_DirParts.j0 k l0 l1 a2 true)) = some r := H
        have A9 := Aside0.mk A90
        clear A90
        by_cases c10 : t367 = true
        · subst c10
          have H1 : (if a2 < 0 then (sheetpilelaw21_DirParts.j0 k l0 l1 a2 true) else (sheetpilelaw21_DirParts.j0 k l0 l1 a2 (decide (a2 > (l1.length : Int))))) = some r := by rw [if_pos rfl] at H; exact H
          clear H
          have H := H1
          clear H1
          by_cases c11 : a2 < 0
          · rw [if_pos c11] at H
            have c11b0 : decide (a2 < 0) = true := decide_eq_true c11
            clear c11
            (first | rw [c11b0] | (simp only [i64_w, i32_w]; rw [c11b0]) | skip)
            have H' := Aside0.mk H
            clear H
            go_wp2_with (first | ((with_reducible refine gate_callee (f := 15) rfl ?_); refine goesL_ (some 13) rfl rfl Try.func15 (by kernel_rfl) rfl #[.slice A0 l0.length c0] rfl (by (try simp only [List.map_toArray, List.map_cons, List.map_nil]); first | done | rfl | (simp only [List.length_drop, List.length_take]; rfl)) ?_; (with_reducible refine (sheetpileref21_Few.calls k _ _ l0 true _ ?side1 ?side2 A5.out).mono ?_); (case side1 => repeat (first | exact (Kd.C_below HR0.out HB.out) | (with_reducible refine Kd.C_alloc ?_ _) | (with_reducible refine Kd.C_drewN ?_ _) | (with_reducible refine Kd.C_drew ?_))); (case side2 => exact HC0.out); rintro e w' ⟨rfl, ⟨nd, rfl⟩⟩; refine ⟨_, rfl, ?_⟩) | (go_at_call 23; (with_reducible refine (dir_May.calls k _ _ l0 true _ ?side1 ?side2 A7.out).mono ?_); (case side1 => repeat (first | exact (Kd.C_below HR0.out (by repeat (first | (with_reducible first | exact HB.out | apply below_alloc | apply pw_below_drewN | apply below_drew1) | exact HB.out))) | (with_reducible refine Kd.C_alloc ?_ _) | (with_reducible refine Kd.C_drewN ?_ _) | (with_reducible refine Kd.C_drew ?_))); (case side2 => exact HC0.out); rintro e w12 ⟨rfl, hb⟩; have n0_ := Aside0.mk (below_step (by repeat (first | (with_reducible first | exact HB.out | apply below_alloc | apply pw_below_drewN | apply below_drew1) | exact HB.out)) hb); clear HB; have HB := n0_; clear n0_; (try clear hb); (try clear hb2); (try clear hk); (try clear hi)) | (go_at_call 16; (with_reducible refine (sheetpileref19_Few.calls k _ _ l1 true _ ?side1 ?side2 A9.out).mono ?_); (case side1 => repeat (first | exact (Kd.C_below HR1.out HB.out) | (with_reducible refine Kd.C_alloc ?_ _) | (with_reducible refine Kd.C_drewN ?_ _) | (with_reducible refine Kd.C_drew ?_))); (case side2 => exact HC1.out); rintro e w' ⟨rfl, ⟨nd, rfl⟩⟩))
            go_meet
            case rel => exact ⟨_, (true), (by first | rfl | (simp; done) | (simp [*]; done) | exact congrArg Value.bool (by cases ByteArray.toList a0 <;> rfl) | exact congrArg Value.bool (by cases ByteArray.toList a1 <;> rfl)), H', ⟨by first | omega | exact Nat.le_refl _⟩, ⟨by repeat (first | (with_reducible first | exact HB.out | apply below_alloc | apply pw_below_drewN | apply below_drew1) | exact HB.out)⟩⟩
          · rw [if_neg c11] at H
            have c11b0 : decide (a2 < 0) = false := decide_eq_false c11
            clear c11
            (first | rw [c11b0] | (simp only [i64_w, i32_w]; rw [c11b0]) | skip)
            have H' := Aside0.mk H
            clear H
            go_wp2_with (first | ((with_reducible refine gate_callee (f := 15) rfl ?_); refine goesL_ (some 13) rfl rfl Try.func15 (by kernel_rfl) rfl #[.slice A0 l0.length c0] rfl (by (try simp only [List.map_toArray, List.map_cons, List.map_nil]); first | done | rfl | (simp only [List.length_drop, List.length_take]; rfl)) ?_; (with_reducible refine (sheetpileref21_Few.calls k _ _ l0 true _ ?side1 ?side2 A5.out).mono ?_); (case side1 => repeat (first | exact (Kd.C_below HR0.out HB.out) | (with_reducible refine Kd.C_alloc ?_ _) | (with_reducible refine Kd.C_drewN ?_ _) | (with_reducible refine Kd.C_drew ?_))); (case side2 => exact HC0.out); rintro e w' ⟨rfl, ⟨nd, rfl⟩⟩; refine ⟨_, rfl, ?_⟩) | (go_at_call 23; (with_reducible refine (dir_May.calls k _ _ l0 true _ ?side1 ?side2 A7.out).mono ?_); (case side1 => repeat (first | exact (Kd.C_below HR0.out (by repeat (first | (with_reducible first | exact HB.out | apply below_alloc | apply pw_below_drewN | apply below_drew1) | exact HB.out))) | (with_reducible refine Kd.C_alloc ?_ _) | (with_reducible refine Kd.C_drewN ?_ _) | (with_reducible refine Kd.C_drew ?_))); (case side2 => exact HC0.out); rintro e w13 ⟨rfl, hb⟩; have n0_ := Aside0.mk (below_step (by repeat (first | (with_reducible first | exact HB.out | apply below_alloc | apply pw_below_drewN | apply below_drew1) | exact HB.out)) hb); clear HB; have HB := n0_; clear n0_; (try clear hb); (try clear hb2); (try clear hk); (try clear hi)) | (go_at_call 16; (with_reducible refine (sheetpileref19_Few.calls k _ _ l1 true _ ?side1 ?side2 A9.out).mono ?_); (case side1 => repeat (first | exact (Kd.C_below HR1.out HB.out) | (with_reducible refine Kd.C_alloc ?_ _) | (with_reducible refine Kd.C_drewN ?_ _) | (with_reducible refine Kd.C_drew ?_))); (case side2 => exact HC1.out); rintro e w' ⟨rfl, ⟨nd, rfl⟩⟩))
            go_meet
            case rel => exact ⟨_, (decide (a2 > (l1.length : Int))), (by first | rfl | (simp; done) | (simp [*]; done) | exact congrArg Value.bool (by cases ByteArray.toList a0 <;> rfl) | exact congrArg Value.bool (by cases ByteArray.toList a1 <;> rfl)), H', ⟨by first | omega | exact Nat.le_refl _⟩, ⟨by repeat (first | (with_reducible first | exact HB.out | apply below_alloc | apply pw_below_drewN | apply below_drew1) | exact HB.out)⟩⟩
        · replace c10 := Bool.eq_false_iff.mpr c10
          subst c10
          have H1 : (sheetpilelaw21_DirParts.j0 k l0 l1 a2 true) = some r := by rw [if_neg (show ¬ (false = true) by decide)] at H; exact H
          clear H
          have H := H1
          clear H1
          have H' := Aside0.mk H
          clear H
          go_wp2_with (first | ((with_reducible refine gate_callee (f := 15) rfl ?_); refine goesL_ (some 13) rfl rfl Try.func15 (by kernel_rfl) rfl #[.slice A0 l0.length c0] rfl (by (try simp only [List.map_toArray, List.map_cons, List.map_nil]); first | done | rfl | (simp only [List.length_drop, List.length_take]; rfl)) ?_; (with_reducible refine (sheetpileref21_Few.calls k _ _ l0 true _ ?side1 ?side2 A5.out).mono ?_); (case side1 => repeat (first | exact (Kd.C_below HR0.out HB.out) | (with_reducible refine Kd.C_alloc ?_ _) | (with_reducible refine Kd.C_drewN ?_ _) | (with_reducible refine Kd.C_drew ?_))); (case side2 => exact HC0.out); rintro e w' ⟨rfl, ⟨nd, rfl⟩⟩; refine ⟨_, rfl, ?_⟩) | (go_at_call 23; (with_reducible refine (dir_May.calls k _ _ l0 true _ ?side1 ?side2 A7.out).mono ?_); (case side1 => repeat (first | exact (Kd.C_below HR0.out (by repeat (first | (with_reducible first | exact HB.out | apply below_alloc | apply pw_below_drewN | apply below_drew1) | exact HB.out))) | (with_reducible refine Kd.C_alloc ?_ _) | (with_reducible refine Kd.C_drewN ?_ _) | (with_reducible refine Kd.C_drew ?_))); (case side2 => exact HC0.out); rintro e w14 ⟨rfl, hb⟩; have n0_ := Aside0.mk (below_step (by repeat (first | (with_reducible first | exact HB.out | apply below_alloc | apply pw_below_drewN | apply below_drew1) | exact HB.out)) hb); clear HB; have HB := n0_; clear n0_; (try clear hb); (try clear hb2); (try clear hk); (try clear hi)) | (go_at_call 16; (with_reducible refine (sheetpileref19_Few.calls k _ _ l1 false _ ?side1 ?side2 A9.out).mono ?_); (case side1 => repeat (first | exact (Kd.C_below HR1.out HB.out) | (with_reducible refine Kd.C_alloc ?_ _) | (with_reducible refine Kd.C_drewN ?_ _) | (with_reducible refine Kd.C_drew ?_))); (case side2 => exact HC1.out); rintro e w' ⟨rfl, ⟨nd, rfl⟩⟩))
          go_meet
          case rel => exact ⟨_, (true), (by first | rfl | (simp; done) | (simp [*]; done) | exact congrArg Value.bool (by cases ByteArray.toList a0 <;> rfl) | exact congrArg Value.bool (by cases ByteArray.toList a1 <;> rfl)), H', ⟨by first | omega | exact Nat.le_refl _⟩, ⟨by repeat (first | (with_reducible first | exact HB.out | apply below_alloc | apply pw_below_drewN | apply below_drew1) | exact HB.out)⟩⟩
      · replace c8 := Bool.eq_false_iff.mpr c8
        subst c8
        have H1 : (sheetpilelaw21_DirParts.j0 k l0 l1 a2 true) = some r := by rw [if_neg (show ¬ (false = true) by decide)] at H; exact H
        clear H
        have H := H1
        clear H1
        have H' := Aside0.mk H
        clear H
        go_wp2_with (first | ((with_reducible refine gate_callee (f := 15) rfl ?_); refine goesL_ (some 13) rfl rfl Try.func15 (by kernel_rfl) rfl #[.slice A0 l0.length c0] rfl (by (try simp only [List.map_toArray, List.map_cons, List.map_nil]); first | done | rfl | (simp only [List.length_drop, List.length_take]; rfl)) ?_; (with_reducible refine (sheetpileref21_Few.calls k _ _ l0 true _ ?side1 ?side2 A5.out).mono ?_); (case side1 => repeat (first | exact (Kd.C_below HR0.out HB.out) | (with_reducible refine Kd.C_alloc ?_ _) | (with_reducible refine Kd.C_drewN ?_ _) | (with_reducible refine Kd.C_drew ?_))); (case side2 => exact HC0.out); rintro e w' ⟨rfl, ⟨nd, rfl⟩⟩; refine ⟨_, rfl, ?_⟩) | (go_at_call 23; (with_reducible refine (dir_May.calls k _ _ l0 false _ ?side1 ?side2 A7.out).mono ?_); (case side1 => repeat (first | exact (Kd.C_below HR0.out (by repeat (first | (with_reducible first | exact HB.out | apply below_alloc | apply pw_below_drewN | apply below_drew1) | exact HB.out))) | (with_reducible refine Kd.C_alloc ?_ _) | (with_reducible refine Kd.C_drewN ?_ _) | (with_reducible refine Kd.C_drew ?_))); (case side2 => exact HC0.out); rintro e w15 ⟨rfl, hb⟩; have n0_ := Aside0.mk (below_step (by repeat (first | (with_reducible first | exact HB.out | apply below_alloc | apply pw_below_drewN | apply below_drew1) | exact HB.out)) hb); clear HB; have HB := n0_; clear n0_; (try clear hb); (try clear hb2); (try clear hk); (try clear hi)))
        go_meet
        case rel => exact ⟨_, (true), (by first | rfl | (simp; done) | (simp [*]; done) | exact congrArg Value.bool (by cases ByteArray.toList a0 <;> rfl) | exact congrArg Value.bool (by cases ByteArray.toList a1 <;> rfl)), H', ⟨by first | omega | exact Nat.le_refl _⟩, ⟨by repeat (first | (with_reducible first | exact HB.out | apply below_alloc | apply pw_below_drewN | apply below_drew1) | exact HB.out)⟩⟩
    · replace c6 := Bool.eq_false_iff.mpr c6
      subst c6
      have H1 : (sheetpilelaw21_DirParts.j0 k l0 l1 a2 true) = some r := by rw [if_neg (show ¬ (false = true) by decide)] at H; exact H
      clear H
      have H := H1
      clear H1
      have H' := Aside0.mk H
      clear H
      go_wp2_with (first | ((with_reducible refine gate_callee (f := 15) rfl ?_); refine goesL_ (some 13) rfl rfl Try.func15 (by kernel_rfl) rfl #[.slice A0 l0.length c0] rfl (by (try simp only [List.map_toArray, List.map_cons, List.map_nil]); first | done | rfl | (simp only [List.length_drop, List.length_take]; rfl)) ?_; (with_reducible refine (sheetpileref21_Few.calls k _ _ l0 false _ ?side1 ?side2 A5.out).mono ?_); (case side1 => repeat (first | exact (Kd.C_below HR0.out HB.out) | (with_reducible refine Kd.C_alloc ?_ _) | (with_reducible refine Kd.C_drewN ?_ _) | (with_reducible refine Kd.C_drew ?_))); (case side2 => exact HC0.out); rintro e w' ⟨rfl, ⟨nd, rfl⟩⟩; refine ⟨_, rfl, ?_⟩))
      go_meet
      case rel => exact ⟨_, (true), (by first | rfl | (simp; done) | (simp [*]; done) | exact congrArg Value.bool (by cases ByteArray.toList a0 <;> rfl) | exact congrArg Value.bool (by cases ByteArray.toList a1 <;> rfl)), H', ⟨by first | omega | exact Nat.le_refl _⟩, ⟨by repeat (first | (with_reducible first | exact HB.out | apply below_alloc | apply pw_below_drewN | apply below_drew1) | exact HB.out)⟩⟩
  case rest =>
    clear HC4
    try clear c1
    try clear p2
    try clear c6
    try clear c7
    try clear c8
    try clear c10
    try clear c11
    try clear c11b0
    try clear c15
    obtain ⟨kq, x34_3, rfl, HA, HJ3, HB⟩ := hcut
    cases kq with
    | zero => exact absurd HA.out (by simp [sheetpilelaw21_DirParts.j0])
    | succ kj3 =>
      have H := HA.out
      clear HA
      simp only [sheetpilelaw21_DirParts.j0] at H
      by_cases c16 : x34_3 = true
      · subst c16
        have H1 : ((sheetpilelaw21_live.f kj3).bind fun t368 => (some t368)) = some r := by rw [if_pos rfl] at H; exact H
        clear H
        have H := H1
        clear H1
        replace H := Option.bind_eq_some_iff.mp H
        obtain ⟨t368, A170, H⟩ := H
        replace H : (some t368) = some r := H
        have A17 := Aside0.mk A170
        clear A170
        obtain rfl := Option.some.inj H
        go_wp2_with (first | ((with_reducible refine gate_callee (f := 17) rfl ?_); refine goesL_ (some 35) rfl rfl Try.func17 (by kernel_rfl) rfl #[] rfl (by (try simp only [List.map_toArray, List.map_cons, List.map_nil]); first | done | rfl | (simp only [List.length_drop, List.length_take]; rfl)) ?_; (with_reducible refine (sheetpilelaw21_live.calls kj3  t368 _ A17.out).mono ?_); rintro e w18 ⟨rfl, hb⟩; refine ⟨_, rfl, ?_⟩; have n0_ := Aside0.mk (below_step (by repeat (first | (with_reducible first | exact HB.out | apply below_alloc | apply pw_below_drewN | apply below_drew1) | exact HB.out)) hb); clear HB; have HB := n0_; clear n0_; (try clear hb); (try clear hb2); (try clear hk); (try clear hi)))
        go_ret
        exact ⟨by first | rfl | (simp [errW_none, errW_some] <;> rfl) | (simp [*, errW_none, errW_some] <;> rfl), by repeat (first | (with_reducible first | exact HB.out | apply below_alloc | apply pw_below_drewN | apply below_drew1) | exact HB.out)⟩
      · replace c16 := Bool.eq_false_iff.mpr c16
        subst c16
        have H1 : ((dir_Apply.f l0 l1).bind fun t369 => (if 0 ≤ a2 then (if a2 ≤ (l1.length : Int) then ((dir_Apply.f l0 (l1.take (a2 : Int).toNat)).bind fun t376 => ((dir_Apply.f t376 (l1.drop (a2 : Int).toNat)).bind fun t383 => ((sheetpileref21_Same.f kj3 t369 t383).bind fun t386 => (if t386 = true then (if (l1.length : Int) = 0 then ((sheetpilelaw21_live.f kj3).bind fun t387 => (some t387)) else (if 0 ≤ (wrap64 ((l1.length : Int) - 1)) then (if (wrap64 ((l1.length : Int) - 1)) < (l1.length : Int) then ((sheetpileref19_Check.f kj3 (([(⟨(rd_T42 l1 (wrap64 ((l1.length : Int) - 1))).f0, (rd_T42 l1 (wrap64 ((l1.length : Int) - 1))).f1, (rd_T42 l1 (wrap64 ((l1.length : Int) - 1))).f2⟩ : S42)] : List (S42)))).bind fun t393 => (if t393 = 0 then ((dir_Get.f t369 ((rd_T42 l1 (wrap64 ((l1.length : Int) - 1))).f0)).bind fun bt394 => (if (bt394.2 == (!((rd_T42 l1 (wrap64 ((l1.length : Int) - 1))).f2))) = true then (if (rd_T42 l1 (wrap64 ((l1.length : Int) - 1))).f2 = true then ((sheetpilelaw21_live.f kj3).bind fun t396 => (some t396)) else (if bt394.1.toList = ((rd_T42 l1 (wrap64 ((l1.length : Int) - 1))).f1).toList then ((sheetpilelaw21_live.f kj3).bind fun t397 => (some t397)) else (some false))) else (some false))) else ((sheetpilelaw21_live.f kj3).bind fun t398 => (some t398)))) else (none)) else (none))) else (some false))))) else (none)) else (none))) = some r := by rw [if_neg (show ¬ (false = true) by decide)] at H; exact H
        clear H
        have H := H1
        clear H1
        replace H := Option.bind_eq_some_iff.mp H
        obtain ⟨t369, A190, H⟩ := H
        replace H : (if 0 ≤ a2 then (if a2 ≤ (l1.length : Int) then ((dir_Apply.f l0 (l1.take (a2 : Int).toNat)).bind fun t376 => ((dir_Apply.f t376 (l1.drop (a2 : Int).toNat)).bind fun t383 => ((sheetpileref21_Same.f kj3 t369 t383).bind fun t386 => (if t386 = true then (if (l1.length : Int) = 0 then ((sheetpilelaw21_live.f kj3).bind fun t387 => (some t387)) else (if 0 ≤ (wrap64 ((l1.length : Int) - 1)) then (if (wrap64 ((l1.length : Int) - 1)) < (l1.length : Int) then ((sheetpileref19_Check.f kj3 (([(⟨(rd_T42 l1 (wrap64 ((l1.length : Int) - 1))).f0, (rd_T42 l1 (wrap64 ((l1.length : Int) - 1))).f1, (rd_T42 l1 (wrap64 ((l1.length : Int) - 1))).f2⟩ : S42)] : List (S42)))).bind fun t393 => (if t393 = 0 then ((dir_Get.f t369 ((rd_T42 l1 (wrap64 ((l1.length : Int) - 1))).f0)).bind fun bt394 => (if (bt394.2 == (!((rd_T42 l1 (wrap64 ((l1.length : Int) - 1))).f2))) = true then (if (rd_T42 l1 (wrap64 ((l1.length : Int) - 1))).f2 = true then ((sheetpilelaw21_live.f kj3).bind fun t396 => (some t396)) else (if bt394.1.toList = ((rd_T42 l1 (wrap64 ((l1.length : Int) - 1))).f1).toList then ((sheetpilelaw21_live.f kj3).bind fun t397 => (some t397)) else (some false))) else (some false))) else ((sheetpilelaw21_live.f kj3).bind fun t398 => (some t398)))) else (none)) else (none))) else (some false))))) else (none)) else (none)) = some r := H
        have A19 := Aside0.mk A190
        clear A190
        by_cases c20 : 0 ≤ a2
        · rw [if_pos c20] at H
          have c20b0 := eq_true c20
          have c20b1 : decide (0 ≤ a2) = true := decide_eq_true c20
          clear c20
          by_cases c21 : a2 ≤ (l1.length : Int)
          · rw [if_pos c21] at H
            have c21b0 := eq_true c21
            have c21b1 : decide (a2 ≤ (l1.length : Int)) = true := decide_eq_true c21
            clear c21
            obtain ⟨y372, hy372⟩ : ∃ y_ : List (S42), y_ = (l1.take (a2 : Int).toNat) := ⟨_, rfl⟩
            replace H : ((dir_Apply.f l0 y372).bind fun t376 => ((dir_Apply.f t376 (l1.drop (a2 : Int).toNat)).bind fun t383 => ((sheetpileref21_Same.f kj3 t369 t383).bind fun t386 => (if t386 = true then (if (l1.length : Int) = 0 then ((sheetpilelaw21_live.f kj3).bind fun t387 => (some t387)) else (if 0 ≤ (wrap64 ((l1.length : Int) - 1)) then (if (wrap64 ((l1.length : Int) - 1)) < (l1.length : Int) then ((sheetpileref19_Check.f kj3 (([(⟨(rd_T42 l1 (wrap64 ((l1.length : Int) - 1))).f0, (rd_T42 l1 (wrap64 ((l1.length : Int) - 1))).f1, (rd_T42 l1 (wrap64 ((l1.length : Int) - 1))).f2⟩ : S42)] : List (S42)))).bind fun t393 => (if t393 = 0 then ((dir_Get.f t369 ((rd_T42 l1 (wrap64 ((l1.length : Int) - 1))).f0)).bind fun bt394 => (if (bt394.2 == (!((rd_T42 l1 (wrap64 ((l1.length : Int) - 1))).f2))) = true then (if (rd_T42 l1 (wrap64 ((l1.length : Int) - 1))).f2 = true then ((sheetpilelaw21_live.f kj3).bind fun t396 => (some t396)) else (if bt394.1.toList = ((rd_T42 l1 (wrap64 ((l1.length : Int) - 1))).f1).toList then ((sheetpilelaw21_live.f kj3).bind fun t397 => (some t397)) else (some false))) else (some false))) else ((sheetpilelaw21_live.f kj3).bind fun t398 => (some t398)))) else (none)) else (none))) else (some false))))) = some r := by first | (rw [hy372]; with_reducible exact H) | (have H2_ := (Option.bind_some _ _).symm.trans H; rw [hy372]; with_reducible exact H2_) | (have H2_ := (Option.bind_some _ _).symm.trans H; with_reducible exact H2_) | with_reducible exact H | (rw [hy372]; exact H) | exact H
            have Ny372 := Aside0.mk hy372
            clear hy372
            replace H := Option.bind_eq_some_iff.mp H
            obtain ⟨t376, A220, H⟩ := H
            replace H : ((dir_Apply.f t376 (l1.drop (a2 : Int).toNat)).bind fun t383 => ((sheetpileref21_Same.f kj3 t369 t383).bind fun t386 => (if t386 = true then (if (l1.length : Int) = 0 then ((sheetpilelaw21_live.f kj3).bind fun t387 => (some t387)) else (if 0 ≤ (wrap64 ((l1.length : Int) - 1)) then (if (wrap64 ((l1.length : Int) - 1)) < (l1.length : Int) then ((sheetpileref19_Check.f kj3 (([(⟨(rd_T42 l1 (wrap64 ((l1.length : Int) - 1))).f0, (rd_T42 l1 (wrap64 ((l1.length : Int) - 1))).f1, (rd_T42 l1 (wrap64 ((l1.length : Int) - 1))).f2⟩ : S42)] : List (S42)))).bind fun t393 => (if t393 = 0 then ((dir_Get.f t369 ((rd_T42 l1 (wrap64 ((l1.length : Int) - 1))).f0)).bind fun bt394 => (if (bt394.2 == (!((rd_T42 l1 (wrap64 ((l1.length : Int) - 1))).f2))) = true then (if (rd_T42 l1 (wrap64 ((l1.length : Int) - 1))).f2 = true then ((sheetpilelaw21_live.f kj3).bind fun t396 => (some t396)) else (if bt394.1.toList = ((rd_T42 l1 (wrap64 ((l1.length : Int) - 1))).f1).toList then ((sheetpilelaw21_live.f kj3).bind fun t397 => (some t397)) else (some false))) else (some false))) else ((sheetpilelaw21_live.f kj3).bind fun t398 => (some t398)))) else (none)) else (none))) else (some false)))) = some r := H
            have A22 := Aside0.mk A220
            clear A220
            have c23b0 := eq_true (of_decide_eq_true (by first | (with_reducible assumption) | assumption) : 0 ≤ a2)
            have c24b0 := eq_true (of_decide_eq_true (by first | (with_reducible assumption) | assumption) : a2 ≤ (l1.length : Int))
            obtain ⟨y379, hy379⟩ : ∃ y_ : List (S42), y_ = (l1.drop (a2 : Int).toNat) := ⟨_, rfl⟩
            replace H : ((dir_Apply.f t376 y379).bind fun t383 => ((sheetpileref21_Same.f kj3 t369 t383).bind fun t386 => (if t386 = true then (if (l1.length : Int) = 0 then ((sheetpilelaw21_live.f kj3).bind fun t387 => (some t387)) else (if 0 ≤ (wrap64 ((l1.length : Int) - 1)) then (if (wrap64 ((l1.length : Int) - 1)) < (l1.length : Int) then ((sheetpileref19_Check.f kj3 (([(⟨(rd_T42 l1 (wrap64 ((l1.length : Int) - 1))).f0, (rd_T42 l1 (wrap64 ((l1.length : Int) - 1))).f1, (rd_T42 l1 (wrap64 ((l1.length : Int) - 1))).f2⟩ : S42)] : List (S42)))).bind fun t393 => (if t393 = 0 then ((dir_Get.f t369 ((rd_T42 l1 (wrap64 ((l1.length : Int) - 1))).f0)).bind fun bt394 => (if (bt394.2 == (!((rd_T42 l1 (wrap64 ((l1.length : Int) - 1))).f2))) = true then (if (rd_T42 l1 (wrap64 ((l1.length : Int) - 1))).f2 = true then ((sheetpilelaw21_live.f kj3).bind fun t396 => (some t396)) else (if bt394.1.toList = ((rd_T42 l1 (wrap64 ((l1.length : Int) - 1))).f1).toList then ((sheetpilelaw21_live.f kj3).bind fun t397 => (some t397)) else (some false))) else (some false))) else ((sheetpilelaw21_live.f kj3).bind fun t398 => (some t398)))) else (none)) else (none))) else (some false)))) = some r := by first | (rw [hy379]; with_reducible exact H) | (have H2_ := (Option.bind_some _ _).symm.trans H; rw [hy379]; with_reducible exact H2_) | (have H2_ := (Option.bind_some _ _).symm.trans H; with_reducible exact H2_) | with_reducible exact H | (rw [hy379]; exact H) | exact H
            have Ny379 := Aside0.mk hy379
            clear hy379
            replace H := Option.bind_eq_some_iff.mp H
            obtain ⟨t383, A250, H⟩ := H
            replace H : ((sheetpileref21_Same.f kj3 t369 t383).bind fun t386 => (if t386 = true then (if (l1.length : Int) = 0 then ((sheetpilelaw21_live.f kj3).bind fun t387 => (some t387)) else (if 0 ≤ (wrap64 ((l1.length : Int) - 1)) then (if (wrap64 ((l1.length : Int) - 1)) < (l1.length : Int) then ((sheetpileref19_Check.f kj3 (([(⟨(rd_T42 l1 (wrap64 ((l1.length : Int) - 1))).f0, (rd_T42 l1 (wrap64 ((l1.length : Int) - 1))).f1, (rd_T42 l1 (wrap64 ((l1.length : Int) - 1))).f2⟩ : S42)] : List (S42)))).bind fun t393 => (if t393 = 0 then ((dir_Get.f t369 ((rd_T42 l1 (wrap64 ((l1.length : Int) - 1))).f0)).bind fun bt394 => (if (bt394.2 == (!((rd_T42 l1 (wrap64 ((l1.length : Int) - 1))).f2))) = true then (if (rd_T42 l1 (wrap64 ((l1.length : Int) - 1))).f2 = true then ((sheetpilelaw21_live.f kj3).bind fun t396 => (some t396)) else (if bt394.1.toList = ((rd_T42 l1 (wrap64 ((l1.length : Int) - 1))).f1).toList then ((sheetpilelaw21_live.f kj3).bind fun t397 => (some t397)) else (some false))) else (some false))) else ((sheetpilelaw21_live.f kj3).bind fun t398 => (some t398)))) else (none)) else (none))) else (some false))) = some r := H
            have A25 := Aside0.mk A250
            clear A250
            replace H := Option.bind_eq_some_iff.mp H
            obtain ⟨t386, A260, H⟩ := H
            replace H : (if t386 = true then (if (l1.length : Int) = 0 then ((sheetpilelaw21_live.f kj3).bind fun t387 => (some t387)) else (if 0 ≤ (wrap64 ((l1.length : Int) - 1)) then (if (wrap64 ((l1.length : Int) - 1)) < (l1.length : Int) then ((sheetpileref19_Check.f kj3 (([(⟨(rd_T42 l1 (wrap64 ((l1.length : Int) - 1))).f0, (rd_T42 l1 (wrap64 ((l1.length : Int) - 1))).f1, (rd_T42 l1 (wrap64 ((l1.length : Int) - 1))).f2⟩ : S42)] : List (S42)))).bind fun t393 => (if t393 = 0 then ((dir_Get.f t369 ((rd_T42 l1 (wrap64 ((l1.length : Int) - 1))).f0)).bind fun bt394 => (if (bt394.2 == (!((rd_T42 l1 (wrap64 ((l1.length : Int) - 1))).f2))) = true then (if (rd_T42 l1 (wrap64 ((l1.length : Int) - 1))).f2 = true then ((sheetpilelaw21_live.f kj3).bind fun t396 => (some t396)) else (if bt394.1.toList = ((rd_T42 l1 (wrap64 ((l1.length : Int) - 1))).f1).toList then ((sheetpilelaw21_live.f kj3).bind fun t397 => (some t397)) else (some false))) else (some false))) else ((sheetpilelaw21_live.f kj3).bind fun t398 => (some t398)))) else (none)) else (none))) else (some false)) = some r := H
            have A26 := Aside0.mk A260
            clear A260
            by_cases c27 : t386 = true
            · subst c27
              have H1 : (if (l1.length : Int) = 0 then ((sheetpilelaw21_live.f kj3).bind fun t387 => (some t387)) else (if 0 ≤ (wrap64 ((l1.length : Int) - 1)) then (if (wrap64 ((l1.length : Int) - 1)) < (l1.length : Int) then ((sheetpileref19_Check.f kj3 (([(⟨(rd_T42 l1 (wrap64 ((l1.length : Int) - 1))).f0, (rd_T42 l1 (wrap64 ((l1.length : Int) - 1))).f1, (rd_T42 l1 (wrap64 ((l1.length : Int) - 1))).f2⟩ : S42)] : List (S42)))).bind fun t393 => (if t393 = 0 then ((dir_Get.f t369 ((rd_T42 l1 (wrap64 ((l1.length : Int) - 1))).f0)).bind fun bt394 => (if (bt394.2 == (!((rd_T42 l1 (wrap64 ((l1.length : Int) - 1))).f2))) = true then (if (rd_T42 l1 (wrap64 ((l1.length : Int) - 1))).f2 = true then ((sheetpilelaw21_live.f kj3).bind fun t396 => (some t396)) else (if bt394.1.toList = ((rd_T42 l1 (wrap64 ((l1.length : Int) - 1))).f1).toList then ((sheetpilelaw21_live.f kj3).bind fun t397 => (some t397)) else (some false))) else (some false))) else ((sheetpilelaw21_live.f kj3).bind fun t398 => (some t398)))) else (none)) else (none))) = some r := by rw [if_pos rfl] at H; exact H
              clear H
              have H := H1
              clear H1
              by_cases c28 : (l1.length : Int) = 0
              · rw [if_pos c28] at H
                have c28b0 : ((l1.length : Int) == 0) = true := beq_iff_eq.mpr c28
                have c28b1 : ((l1.length : Int) != 0) = false := bne_eq_false_iff_eq.mpr c28
                clear c28
                replace H := Option.bind_eq_some_iff.mp H
                obtain ⟨t387, A290, H⟩ := H
                replace H : (some t387) = some r := H
                have A29 := Aside0.mk A290
                clear A290
                obtain rfl := Option.some.inj H
                try go_wp2_with (first | ((with_reducible refine gate_callee (f := 18) rfl ?_); refine goesL_ (some 38) rfl rfl Try.func18 (by kernel_rfl) rfl #[.slice A0 l0.length c0, .slice A1 l1.length c1] rfl (by (try simp only [List.map_toArray, List.map_cons, List.map_nil]); first | done | rfl | (simp only [List.length_drop, List.length_take]; rfl)) ?_; (with_reducible refine (dir_Apply.calls _ _ l0 _ _ l1 t369 _ ?side1 ?side2 ?side3 ?side4 A19.out).mono ?_); (case side1 => repeat (first | exact (Kd.C_below HR0.out HB.out) | (with_reducible refine Kd.C_alloc ?_ _) | (with_reducible refine Kd.C_drewN ?_ _) | (with_reducible refine Kd.C_drew ?_))); (case side2 => exact HC0.out); (case side3 => repeat (first | exact (Kd.C_below HR1.out HB.out) | (with_reducible refine Kd.C_alloc ?_ _) | (with_reducible refine Kd.C_drewN ?_ _) | (with_reducible refine Kd.C_drew ?_))); (case side4 => exact HC1.out); rintro e w30 ⟨v370, rfl, ho0, hb⟩; refine ⟨_, rfl, ?_⟩; have n0_ := Aside0.mk (Kd.R_lower ho0 (below_size (by repeat (first | (with_reducible first | exact HB.out | apply below_alloc | apply pw_below_drewN | apply below_drew1) | exact HB.out)))); have n1_ := Aside0.mk (below_step (by repeat (first | (with_reducible first | exact HB.out | apply below_alloc | apply pw_below_drewN | apply below_drew1) | exact HB.out)) hb); clear HB; have HO371 := n0_; have HB := n1_; clear n0_ n1_; (try clear hb); (try clear hb2); (try clear hk); (try clear hi); (try clear ho0)))
                have n0_ := Aside0.mk (Kd.R_drew HO371.out)
                have n1_ := Aside0.mk (below_drew1 HB.out)
                clear HO371
                clear HB
                have HO371 := n0_
                have HB := n1_
                clear n0_ n1_
                have q32 : (a2 : Int) ≤ ((l1.length : Int) : Int) := of_decide_eq_true (by first | (with_reducible assumption) | assumption)
                obtain ⟨i032, hi032, _, hsz32, _⟩ := info_parts info42
                have hroom32 : l1.length ≤ c1 := HC1.out
                have hC32 : Kd.C k42 _ A1 l1.length l1 := HR1.out
                have hcut32 := cut_to (P := Try.prog) 23 42 .i64 Try.underlying23 hi032 A1 l1.length c1 a2 (of_decide_eq_true (by first | (with_reducible assumption) | assumption)) q32 hroom32
                have hr32 := Kd.C_take (m := (a2 : Int).toNat) hC32 (by omega)
                have hy32 : y372.length = (a2 : Int).toNat := (by rw [Ny372.out, List.length_take]; omega)
                rw [← Ny372.out] at hr32
                rw [← hy32] at hcut32
                have HR375 := Aside0.mk hr32
                have HC375 := Aside0.mk (show y372.length ≤ c1 from by omega)
                clear hr32 hC32 hroom32 hi032 hsz32
                have KY32 := Aside0.mk hy32
                clear hy32
                replace q32 := eq_true q32
                have q33 : (a2 : Int) ≤ ((l1.length : Int) : Int) := of_decide_eq_true (by first | (with_reducible assumption) | assumption)
                obtain ⟨i033, hi033, _, hsz33, _⟩ := info_parts info42
                have hroom33 : l1.length ≤ c1 := HC1.out
                have hC33 : Kd.C k42 _ A1 l1.length l1 := HR1.out
                have q033 : (0 : Int) ≤ (a2 : Int) := of_decide_eq_true (by first | (with_reducible assumption) | assumption)
                have hcut33 := cut_from (P := Try.prog) 23 42 .i64 Try.underlying23 hi033 3 hsz33 A1 l1.length c1 a2 q033 q33
                have hr33 := Kd.C_drop (m := (a2 : Int).toNat) (c := c1) hC33 (by omega) hroom33
                obtain ⟨A33, hA33⟩ : ∃ Ab_, Ab_ = (if c1 = (a2 : Int).toNat then A1 else (A1 : Option Addr).map (·.add ((a2 : Int).toNat * 3))) := ⟨_, rfl⟩
                obtain ⟨c33, hc33⟩ : ∃ cb_, cb_ = c1 - (a2 : Int).toNat := ⟨_, rfl⟩
                have hy33 : y379.length = l1.length - (a2 : Int).toNat := (by rw [Ny379.out, List.length_drop] <;> omega)
                rw [show (l1).drop (a2 : Int).toNat = y379 from Ny379.out.symm] at hr33
                replace hr33 : Kd.C k42 _ A33 y379.length y379 := (by rw [hA33]; exact hr33)
                rw [← hy33, ← hA33, ← hc33] at hcut33
                have HR382 := Aside0.mk hr33
                have HC382 := Aside0.mk (show y379.length ≤ c33 from by rw [hy33, hc33]; exact Nat.sub_le_sub_right hroom33 _)
                clear hr33 hC33 hroom33 hi033 hsz33 hc33
                have KY33 := Aside0.mk hy33
                have KA33 := Aside0.mk hA33
                clear hy33 hA33
                replace q33 := eq_true q33
                refine start_ (n := 10) (S := fun w' => True) (ds := []) #[false, false, false, false, false, false, false, false, false, false] (by kernel_rfl) rfl rfl trivial (fun hHeld => ?_); refine with_tabW sheetpilelaw21_DirParts.tab4 sheetpilelaw21_DirParts.bits4 (fun HT_ HW_ => ?_)
                generalize w30.drew = w31 at HO371 HB HR375 HR382 hHeld ⊢
                refine pure_ (i := 0) (N := some 39) (v := ?_) (a' := ?_) #[true, false, false, false, false, false, false, false, false, false] rfl rfl (any_of HT_.out (by kernel_rfl)) (fun _ _ _ h => h) (Or.inl ⟨by rfl, ?_⟩) ?_ ?_
                rotate_left
                · intro w'
                  go_simp
                  with_reducible rfl
                rotate_left
                · simp only [Act.put, List.setIfInBounds_toArray, List.set_cons_zero, List.set_cons_succ, i64_w, i32_w]
                  rfl
                refine pure_ (i := 1) (N := some 40) (v := ?_) (a' := ?_) #[true, true, false, false, false, false, false, false, false, false] rfl rfl (any_of HT_.out (by kernel_rfl)) (fun _ _ _ h => h) (Or.inl ⟨by rfl, ?_⟩) ?_ ?_
                rotate_left
                · intro w'
                  go_simp
                  with_reducible rfl
                rotate_left
                · simp only [Act.put, List.setIfInBounds_toArray, List.set_cons_zero, List.set_cons_succ, i64_w, i32_w]
                  rfl
                refine pure_ (i := 2) (N := some 41) (v := ?_) (a' := ?_) #[true, true, true, false, false, false, false, false, false, false] rfl rfl (any_of HT_.out (by kernel_rfl)) (fun _ _ _ h => h) (Or.inl ⟨by rfl, ?_⟩) ?_ ?_
                rotate_left
                · intro w'
                  go_simp
                  with_reducible rfl
                rotate_left
                · simp only [Act.put, List.setIfInBounds_toArray, List.set_cons_zero, List.set_cons_succ, i64_w, i32_w]
                  rfl
                refine pure_ (i := 3) (N := some 42) (v := ?_) (a' := ?_) #[true, true, true, true, false, false, false, false, false, false] rfl rfl (any_of HT_.out (by kernel_rfl)) (fun _ _ _ h => h) (Or.inl ⟨by rfl, ?_⟩) ?_ ?_
                rotate_left
                · intro w'
                  go_simp
                  with_reducible rfl
                rotate_left
                · simp only [Act.put, List.setIfInBounds_toArray, List.set_cons_zero, List.set_cons_succ, i64_w, i32_w]
                  rfl
                refine pure_ (i := 5) (N := some 44) (v := ?_) (a' := ?_) #[true, true, true, true, false, true, false, false, false, false] rfl rfl (any_of HT_.out (by kernel_rfl)) (fun _ _ _ h => h) (Or.inl ⟨by rfl, ?_⟩) ?_ ?_
                rotate_left
                · intro w'
                  go_simp
                  with_reducible rfl
                rotate_left
                · simp only [Act.put, List.setIfInBounds_toArray, List.set_cons_zero, List.set_cons_succ, i64_w, i32_w]
                  rfl
                refine pure_ (i := 6) (N := some 45) (v := ?_) (a' := ?_) #[true, true, true, true, false, true, true, false, false, false] rfl rfl (any_of HT_.out (by kernel_rfl)) (fun _ _ _ h => h) (Or.inl ⟨by rfl, ?_⟩) ?_ ?_
                rotate_left
                · intro w'
                  go_simp
                  with_reducible rfl
                rotate_left
                · simp only [Act.put, List.setIfInBounds_toArray, List.set_cons_zero, List.set_cons_succ, i64_w, i32_w]
                  rfl
                refine pure_ (i := 7) (N := some 46) (v := ?_) (a' := ?_) #[true, true, true, true, false, true, true, true, false, false] rfl rfl (any_of HT_.out (by kernel_rfl)) (fun _ _ _ h => h) (Or.inl ⟨by rfl, ?_⟩) ?_ ?_
                rotate_left
                · intro w'
                  go_simp
                  with_reducible rfl
                rotate_left
                · simp only [Act.put, List.setIfInBounds_toArray, List.set_cons_zero, List.set_cons_succ, i64_w, i32_w]
                  rfl
                refine one_ (i := 4) (N := some 43) #[true, true, true, true, true, true, true, true, false, false] rfl rfl (one_of HT_.out (by kernel_rfl)) (by decide) (fun K hK => ?_)
                refine goes_ Try.func18 (by kernel_rfl) rfl #[.slice A0 l0.length c0, .slice A1 y372.length c1] (by rfl) rfl rfl (by (try simp only [List.map_toArray, List.map_cons, List.map_nil]); first | done | rfl | (simp only [List.length_drop, List.length_take]; rfl)) ?_
                with_reducible refine (dir_Apply.calls _ _ l0 _ _ y372 t376 _ ?side1 ?side2 ?side3 ?side4 A22.out).mono ?_
                (case side1 => repeat (first | exact (Kd.C_below HR0.out HB.out) | (with_reducible refine Kd.C_alloc ?_ _) | (with_reducible refine Kd.C_drewN ?_ _) | (with_reducible refine Kd.C_drew ?_)))
                (case side2 => exact HC0.out)
                (case side3 => repeat (first | exact (Kd.C_below HR375.out HB.out) | (with_reducible refine Kd.C_alloc ?_ _) | (with_reducible refine Kd.C_drewN ?_ _) | (with_reducible refine Kd.C_drew ?_)))
                (case side4 => exact HC375.out)
                rintro e w34 ⟨v377, rfl, ho0, hb⟩
                refine ⟨_, rfl, ?_⟩
                have n0_ := Aside0.mk (Kd.R_elder' (by (with_reducible repeat (first | apply Kd.R_alloc | apply Kd.R_drewN | apply Kd.R_drew)); exact HO371.out) (Kd.R_base ho0) hb)
                have n1_ := Aside0.mk (Kd.R_lower (Kd.R_new' ho0 (Kd.R_lt (by (with_reducible repeat (first | apply Kd.R_alloc | apply Kd.R_drewN | apply Kd.R_drew)); exact HO371.out))) (below_size (by repeat (first | (with_reducible first | exact HB.out | apply below_alloc | apply pw_below_drewN | apply below_drew1) | exact HB.out))))
                have n2_ := Aside0.mk (below_step (by repeat (first | (with_reducible first | exact HB.out | apply below_alloc | apply pw_below_drewN | apply below_drew1) | exact HB.out)) hb)
                clear HO371
                clear HB
                have HO371 := n0_
                have HO378 := n1_
                have HB := n2_
                clear n0_ n1_ n2_
                (try clear hb)
                (try clear hb2)
                (try clear hk)
                (try clear hi)
                (try clear ho0)
                obtain ⟨Ao35, co35, eo35⟩ := Kd.R_slice HO378.out
                (first | subst eo35 | (injection eo35 with f1_ f2_ f3_; have f4_ := f1_.symm; have f5_ := f3_.symm; clear f1_ f2_ f3_; subst f4_; subst f5_))
                refine hK.out _ _ trivial (fun hHeld => ?_)
                clear hK K
                refine norm_ (a' := ?_) ?_ ?_
                rotate_left
                · show Act.put _ (some 43) _ = _
                  simp only [Act.put, List.setIfInBounds_toArray, List.set_cons_zero, List.set_cons_succ, i64_w, i32_w]
                  rfl
                refine one_ (i := 8) (N := some 47) #[true, true, true, true, true, true, true, true, true, false] rfl rfl (one_of HT_.out (by kernel_rfl)) (by decide) (fun K hK => ?_)
                refine goes_ Try.func18 (by kernel_rfl) rfl #[.slice Ao35 t376.length co35, .slice A33 y379.length c33] (by rfl) rfl rfl (by (try simp only [List.map_toArray, List.map_cons, List.map_nil]); first | done | rfl | (simp only [List.length_drop, List.length_take]; rfl)) ?_
                with_reducible refine (dir_Apply.calls _ _ t376 _ _ y379 t383 _ ?side1 ?side2 ?side3 ?side4 A25.out).mono ?_
                (case side1 => repeat (first | exact (Kd.R_reads' HO378.out).2.2 | (with_reducible refine Kd.C_alloc ?_ _) | (with_reducible refine Kd.C_drewN ?_ _) | (with_reducible refine Kd.C_drew ?_)))
                (case side2 => exact (Kd.R_reads' HO378.out).2.1)
                (case side3 => repeat (first | exact (Kd.C_below HR382.out HB.out) | (with_reducible refine Kd.C_alloc ?_ _) | (with_reducible refine Kd.C_drewN ?_ _) | (with_reducible refine Kd.C_drew ?_)))
                (case side4 => exact HC382.out)
                rintro e w36 ⟨v384, rfl, ho0, hb⟩
                refine ⟨_, rfl, ?_⟩
                have n0_ := Aside0.mk (Kd.R_elder' (by (with_reducible repeat (first | apply Kd.R_alloc | apply Kd.R_drewN | apply Kd.R_drew)); exact HO371.out) (Kd.R_base ho0) hb)
                have n1_ := Aside0.mk (Kd.R_elder' (by (with_reducible repeat (first | apply Kd.R_alloc | apply Kd.R_drewN | apply Kd.R_drew)); exact HO378.out) (Kd.R_base ho0) hb)
                have n2_ := Aside0.mk (Kd.R_lower (Kd.R_new' (Kd.R_new' ho0 (Kd.R_lt (by (with_reducible repeat (first | apply Kd.R_alloc | apply Kd.R_drewN | apply Kd.R_drew)); exact HO371.out))) (Kd.R_lt (by (with_reducible repeat (first | apply Kd.R_alloc | apply Kd.R_drewN | apply Kd.R_drew)); exact HO378.out))) (below_size (by repeat (first | (with_reducible first | exact HB.out | apply below_alloc | apply pw_below_drewN | apply below_drew1) | exact HB.out))))
                have n3_ := Aside0.mk (below_step (by repeat (first | (with_reducible first | exact HB.out | apply below_alloc | apply pw_below_drewN | apply below_drew1) | exact HB.out)) hb)
                clear HO371
                clear HO378
                clear HB
                have HO371 := n0_
                have HO378 := n1_
                have HO385 := n2_
                have HB := n3_
                clear n0_ n1_ n2_ n3_
                (try clear hb)
                (try clear hb2)
                (try clear hk)
                (try clear hi)
                (try clear ho0)
                refine hK.out _ _ trivial (fun hHeld => ?_)
                clear hK K
                refine norm_ (a' := ?_) ?_ ?_
                rotate_left
                · show Act.put _ (some 47) _ = _
                  simp only [Act.put, List.setIfInBounds_toArray, List.set_cons_zero, List.set_cons_succ, i64_w, i32_w]
                  rfl
                refine pure_ (i := 9) (N := some 8) (v := ?_) (a' := ?_) #[true, true, true, true, true, true, true, true, true, true] rfl rfl (any_of HT_.out (by kernel_rfl)) (fun _ _ _ h => h) (Or.inl ⟨by rfl, ?_⟩) ?_ ?_
                rotate_left
                · intro w'
                  go_simp
                  with_reducible rfl
                rotate_left
                · simp only [Act.put, List.setIfInBounds_toArray, List.set_cons_zero, List.set_cons_succ, i64_w, i32_w]
                  rfl
                refine done_ (done_of HT_.out (by kernel_rfl)) ?_
                obtain ⟨Ao37, co37, eo37⟩ := Kd.R_slice HO371.out
                subst eo37
                obtain ⟨Ao38, co38, eo38⟩ := Kd.R_slice HO385.out
                subst eo38
                try go_wp2_with (first | ((with_reducible refine gate_callee (f := 21) rfl ?_); refine goesL_ (some 50) rfl rfl Try.func21 (by kernel_rfl) rfl #[.slice Ao37 t369.length co37, .slice Ao38 t383.length co38] rfl (by (try simp only [List.map_toArray, List.map_cons, List.map_nil]); first | done | rfl | (simp only [List.length_drop, List.length_take]; rfl)) ?_; (with_reducible refine (sheetpileref21_Same.calls kj3 _ _ t369 _ _ t383 true _ ?side1 ?side2 ?side3 ?side4 A26.out).mono ?_); (case side1 => repeat (first | exact (Kd.R_reads' HO371.out).2.2 | (with_reducible refine Kd.C_alloc ?_ _) | (with_reducible refine Kd.C_drewN ?_ _) | (with_reducible refine Kd.C_drew ?_))); (case side2 => exact (Kd.R_reads' HO371.out).2.1); (case side3 => repeat (first | exact (Kd.R_reads' HO385.out).2.2 | (with_reducible refine Kd.C_alloc ?_ _) | (with_reducible refine Kd.C_drewN ?_ _) | (with_reducible refine Kd.C_drew ?_))); (case side4 => exact (Kd.R_reads' HO385.out).2.1); rintro e w' ⟨rfl, ⟨nd, rfl⟩⟩; refine ⟨_, rfl, ?_⟩) | ((with_reducible refine gate_callee (f := 17) rfl ?_); refine goesL_ (some 55) rfl rfl Try.func17 (by kernel_rfl) rfl #[] rfl (by (try simp only [List.map_toArray, List.map_cons, List.map_nil]); first | done | rfl | (simp only [List.length_drop, List.length_take]; rfl)) ?_; (with_reducible refine (sheetpilelaw21_live.calls kj3  t387 _ A29.out).mono ?_); rintro e w39 ⟨rfl, hb⟩; refine ⟨_, rfl, ?_⟩; have n0_ := Aside0.mk (Kd.R_below (by (with_reducible repeat (first | apply Kd.R_alloc | apply Kd.R_drewN | apply Kd.R_drew)); exact HO371.out) hb); have n1_ := Aside0.mk (Kd.R_below (by (with_reducible repeat (first | apply Kd.R_alloc | apply Kd.R_drewN | apply Kd.R_drew)); exact HO378.out) hb); have n2_ := Aside0.mk (Kd.R_below (by (with_reducible repeat (first | apply Kd.R_alloc | apply Kd.R_drewN | apply Kd.R_drew)); exact HO385.out) hb); have n3_ := Aside0.mk (below_step (by repeat (first | (with_reducible first | exact HB.out | apply below_alloc | apply pw_below_drewN | apply below_drew1) | exact HB.out)) hb); clear HO371; clear HO378; clear HO385; clear HB; have HO371 := n0_; have HO378 := n1_; have HO385 := n2_; have HB := n3_; clear n0_ n1_ n2_ n3_; (try clear hb); (try clear hb2); (try clear hk); (try clear hi)))
                go_ret
                exact ⟨by first | rfl | (simp [errW_none, errW_some] <;> rfl) | (simp [*, errW_none, errW_some] <;> rfl), by repeat (first | (with_reducible first | exact HB.out | apply below_alloc | apply pw_below_drewN | apply below_drew1) | exact HB.out)⟩
              · rw [if_neg c28] at H
                have c28b0 : ((l1.length : Int) == 0) = false := beq_eq_false_iff_ne.mpr c28
                have c28b1 : ((l1.length : Int) != 0) = true := bne_iff_ne.mpr c28
                have c28b2 : ¬ (l1 = []) := fun h_ => c28 (by rw [h_]; rfl)
                obtain ⟨ji40, hji40⟩ : ∃ j_ : Int, (wrap64 ((l1.length : Int) - 1)) = j_ := ⟨_, rfl⟩
                replace H : (if 0 ≤ (ji40) then (if (ji40) < (l1.length : Int) then ((sheetpileref19_Check.f kj3 (([(⟨(rd_T42 l1 (ji40)).f0, (rd_T42 l1 (ji40)).f1, (rd_T42 l1 (ji40)).f2⟩ : S42)] : List (S42)))).bind fun t393 => (if t393 = 0 then ((dir_Get.f t369 ((rd_T42 l1 (ji40)).f0)).bind fun bt394 => (if (bt394.2 == (!((rd_T42 l1 (ji40)).f2))) = true then (if (rd_T42 l1 (ji40)).f2 = true then ((sheetpilelaw21_live.f kj3).bind fun t396 => (some t396)) else (if bt394.1.toList = ((rd_T42 l1 (ji40)).f1).toList then ((sheetpilelaw21_live.f kj3).bind fun t397 => (some t397)) else (some false))) else (some false))) else ((sheetpilelaw21_live.f kj3).bind fun t398 => (some t398)))) else (none)) else (none)) = some r := by first | (rw [hji40] at H; exact H) | (simp only [hji40] at H ⊢; exact H)
                (try rw [hji40] at A19)
                (try rw [hji40] at A22)
                (try rw [hji40] at A25)
                (try rw [hji40] at A26)
                have hji40w : (IntKind.i64.wrap ((l1.length : Int) - 1)) = ji40 := (i64_w _).trans hji40
                by_cases c41 : 0 ≤ (ji40)
                · rw [if_pos c41] at H
                  have c41b0 : decide (0 ≤ (ji40)) = true := decide_eq_true c41
                  clear c41
                  by_cases c42 : (ji40) < (l1.length : Int)
                  · rw [if_pos c42] at H
                    have c42b0 : decide ((ji40) < (l1.length : Int)) = true := decide_eq_true c42
                    clear c42
                    obtain ⟨y390, hy390⟩ : ∃ y_ : List (S42), y_ = (([(⟨(rd_T42 l1 (ji40)).f0, (rd_T42 l1 (ji40)).f1, (rd_T42 l1 (ji40)).f2⟩ : S42)] : List (S42))) := ⟨_, rfl⟩
                    replace H : ((sheetpileref19_Check.f kj3 y390).bind fun t393 => (if t393 = 0 then ((dir_Get.f t369 ((rd_T42 l1 (ji40)).f0)).bind fun bt394 => (if (bt394.2 == (!((rd_T42 l1 (ji40)).f2))) = true then (if (rd_T42 l1 (ji40)).f2 = true then ((sheetpilelaw21_live.f kj3).bind fun t396 => (some t396)) else (if bt394.1.toList = ((rd_T42 l1 (ji40)).f1).toList then ((sheetpilelaw21_live.f kj3).bind fun t397 => (some t397)) else (some false))) else (some false))) else ((sheetpilelaw21_live.f kj3).bind fun t398 => (some t398)))) = some r := by first | (rw [hy390]; with_reducible exact H) | (have H2_ := (Option.bind_some _ _).symm.trans H; rw [hy390]; with_reducible exact H2_) | (have H2_ := (Option.bind_some _ _).symm.trans H; with_reducible exact H2_) | with_reducible exact H | (rw [hy390]; exact H) | exact H
                    have Ny390 := Aside0.mk hy390
                    clear hy390
                    replace H := Option.bind_eq_some_iff.mp H
                    obtain ⟨t393, A430, H⟩ := H
                    replace H : (if t393 = 0 then ((dir_Get.f t369 ((rd_T42 l1 (ji40)).f0)).bind fun bt394 => (if (bt394.2 == (!((rd_T42 l1 (ji40)).f2))) = true then (if (rd_T42 l1 (ji40)).f2 = true then ((sheetpilelaw21_live.f kj3).bind fun t396 => (some t396)) else (if bt394.1.toList = ((rd_T42 l1 (ji40)).f1).toList then ((sheetpilelaw21_live.f kj3).bind fun t397 => (some t397)) else (some false))) else (some false))) else ((sheetpilelaw21_live.f kj3).bind fun t398 => (some t398))) = some r := H
                    have A43 := Aside0.mk A430
                    clear A430
                    by_cases c44 : t393 = 0
                    · rw [if_pos c44] at H
                      have c44b0 : (t393 == 0) = true := beq_iff_eq.mpr c44
                      have c44b1 : (t393 != 0) = false := bne_eq_false_iff_eq.mpr c44
                      clear c44
                      replace H := Option.bind_eq_some_iff.mp H
                      obtain ⟨⟨t394, t395⟩, A450, H⟩ := H
                      replace H : (if (t395 == (!((rd_T42 l1 (ji40)).f2))) = true then (if (rd_T42 l1 (ji40)).f2 = true then ((sheetpilelaw21_live.f kj3).bind fun t396 => (some t396)) else (if t394.toList = ((rd_T42 l1 (ji40)).f1).toList then ((sheetpilelaw21_live.f kj3).bind fun t397 => (some t397)) else (some false))) else (some false)) = some r := H
                      have A45 := Aside0.mk A450
                      clear A450
                      by_cases c46 : (t395 == (!((rd_T42 l1 (ji40)).f2))) = true
                      · rw [if_pos c46] at H
                        have c46b0 : (t395 == (!((rd_T42 l1 (ji40)).f2))) = true := c46
                        (try (have c46b1 : decide (t395 = (!((rd_T42 l1 (ji40)).f2))) = true := by simpa using c46))
                        (try (have c46b2 : (t395 == (!((rd_T42 l1 (ji40)).f2))) = true := by simpa using c46))
                        clear c46
                        obtain ⟨bq47, hbq47⟩ : ∃ b_ : Bool, b_ = ((rd_T42 l1 (ji40)).f2) := ⟨_, rfl⟩
                        replace H : (if bq47 = true then ((sheetpilelaw21_live.f kj3).bind fun t396 => (some t396)) else (if t394.toList = ((rd_T42 l1 (ji40)).f1).toList then ((sheetpilelaw21_live.f kj3).bind fun t397 => (some t397)) else (some false))) = some r := by rw [← hbq47] at H; exact H
                        have Nbq47 := Aside0.mk hbq47
                        clear hbq47
                        by_cases c48 : bq47 = true
                        · subst c48
                          have H1 : ((sheetpilelaw21_live.f kj3).bind fun t396 => (some t396)) = some r := by rw [if_pos rfl] at H; exact H
                          clear H
                          have H := H1
                          clear H1
                          replace H := Option.bind_eq_some_iff.mp H
                          obtain ⟨t396, A490, H⟩ := H
                          replace H : (some t396) = some r := H
                          have A49 := Aside0.mk A490
                          clear A490
                          obtain rfl := Option.some.inj H
                          try go_wp2_with (first | ((with_reducible refine gate_callee (f := 18) rfl ?_); refine goesL_ (some 38) rfl rfl Try.func18 (by kernel_rfl) rfl #[.slice A0 l0.length c0, .slice A1 l1.length c1] rfl (by (try simp only [List.map_toArray, List.map_cons, List.map_nil]); first | done | rfl | (simp only [List.length_drop, List.length_take]; rfl)) ?_; (with_reducible refine (dir_Apply.calls _ _ l0 _ _ l1 t369 _ ?side1 ?side2 ?side3 ?side4 A19.out).mono ?_); (case side1 => repeat (first | exact (Kd.C_below HR0.out HB.out) | (with_reducible refine Kd.C_alloc ?_ _) | (with_reducible refine Kd.C_drewN ?_ _) | (with_reducible refine Kd.C_drew ?_))); (case side2 => exact HC0.out); (case side3 => repeat (first | exact (Kd.C_below HR1.out HB.out) | (with_reducible refine Kd.C_alloc ?_ _) | (with_reducible refine Kd.C_drewN ?_ _) | (with_reducible refine Kd.C_drew ?_))); (case side4 => exact HC1.out); rintro e w50 ⟨v370, rfl, ho0, hb⟩; refine ⟨_, rfl, ?_⟩; have n0_ := Aside0.mk (Kd.R_lower ho0 (below_size (by repeat (first | (with_reducible first | exact HB.out | apply below_alloc | apply pw_below_drewN | apply below_drew1) | exact HB.out)))); have n1_ := Aside0.mk (below_step (by repeat (first | (with_reducible first | exact HB.out | apply below_alloc | apply pw_below_drewN | apply below_drew1) | exact HB.out)) hb); clear HB; have HO371 := n0_; have HB := n1_; clear n0_ n1_; (try clear hb); (try clear hb2); (try clear hk); (try clear hi); (try clear ho0)))
                          have n0_ := Aside0.mk (Kd.R_drew HO371.out)
                          have n1_ := Aside0.mk (below_drew1 HB.out)
                          clear HO371
                          clear HB
                          have HO371 := n0_
                          have HB := n1_
                          clear n0_ n1_
                          have q52 : (a2 : Int) ≤ ((l1.length : Int) : Int) := of_decide_eq_true (by first | (with_reducible assumption) | assumption)
                          obtain ⟨i052, hi052, _, hsz52, _⟩ := info_parts info42
                          have hroom52 : l1.length ≤ c1 := HC1.out
                          have hC52 : Kd.C k42 _ A1 l1.length l1 := HR1.out
                          have hcut52 := cut_to (P := Try.prog) 23 42 .i64 Try.underlying23 hi052 A1 l1.length c1 a2 (of_decide_eq_true (by first | (with_reducible assumption) | assumption)) q52 hroom52
                          have hr52 := Kd.C_take (m := (a2 : Int).toNat) hC52 (by omega)
                          have hy52 : y372.length = (a2 : Int).toNat := (by rw [Ny372.out, List.length_take]; omega)
                          rw [← Ny372.out] at hr52
                          rw [← hy52] at hcut52
                          have HR375 := Aside0.mk hr52
                          have HC375 := Aside0.mk (show y372.length ≤ c1 from by omega)
                          clear hr52 hC52 hroom52 hi052 hsz52
                          have KY52 := Aside0.mk hy52
                          clear hy52
                          replace q52 := eq_true q52
                          have q53 : (a2 : Int) ≤ ((l1.length : Int) : Int) := of_decide_eq_true (by first | (with_reducible assumption) | assumption)
                          obtain ⟨i053, hi053, _, hsz53, _⟩ := info_parts info42
                          have hroom53 : l1.length ≤ c1 := HC1.out
                          have hC53 : Kd.C k42 _ A1 l1.length l1 := HR1.out
                          have q053 : (0 : Int) ≤ (a2 : Int) := of_decide_eq_true (by first | (with_reducible assumption) | assumption)
                          have hcut53 := cut_from (P := Try.prog) 23 42 .i64 Try.underlying23 hi053 3 hsz53 A1 l1.length c1 a2 q053 q53
                          have hr53 := Kd.C_drop (m := (a2 : Int).toNat) (c := c1) hC53 (by omega) hroom53
                          obtain ⟨A53, hA53⟩ : ∃ Ab_, Ab_ = (if c1 = (a2 : Int).toNat then A1 else (A1 : Option Addr).map (·.add ((a2 : Int).toNat * 3))) := ⟨_, rfl⟩
                          obtain ⟨c53, hc53⟩ : ∃ cb_, cb_ = c1 - (a2 : Int).toNat := ⟨_, rfl⟩
                          have hy53 : y379.length = l1.length - (a2 : Int).toNat := (by rw [Ny379.out, List.length_drop] <;> omega)
                          rw [show (l1).drop (a2 : Int).toNat = y379 from Ny379.out.symm] at hr53
                          replace hr53 : Kd.C k42 _ A53 y379.length y379 := (by rw [hA53]; exact hr53)
                          rw [← hy53, ← hA53, ← hc53] at hcut53
                          have HR382 := Aside0.mk hr53
                          have HC382 := Aside0.mk (show y379.length ≤ c53 from by rw [hy53, hc53]; exact Nat.sub_le_sub_right hroom53 _)
                          clear hr53 hC53 hroom53 hi053 hsz53 hc53
                          have KY53 := Aside0.mk hy53
                          have KA53 := Aside0.mk hA53
                          clear hy53 hA53
                          replace q53 := eq_true q53
                          refine start_ (n := 10) (S := fun w' => True) (ds := []) #[false, false, false, false, false, false, false, false, false, false] (by kernel_rfl) rfl rfl trivial (fun hHeld => ?_); refine with_tabW sheetpilelaw21_DirParts.tab4 sheetpilelaw21_DirParts.bits4 (fun HT_ HW_ => ?_)
                          generalize w50.drew = w51 at HO371 HB HR375 HR382 hHeld ⊢
                          refine pure_ (i := 0) (N := some 39) (v := ?_) (a' := ?_) #[true, false, false, false, false, false, false, false, false, false] rfl rfl (any_of HT_.out (by kernel_rfl)) (fun _ _ _ h => h) (Or.inl ⟨by rfl, ?_⟩) ?_ ?_
                          rotate_left
                          · intro w'
                            go_simp
                            with_reducible rfl
                          rotate_left
                          · simp only [Act.put, List.setIfInBounds_toArray, List.set_cons_zero, List.set_cons_succ, i64_w, i32_w]
                            rfl
                          refine pure_ (i := 1) (N := some 40) (v := ?_) (a' := ?_) #[true, true, false, false, false, false, false, false, false, false] rfl rfl (any_of HT_.out (by kernel_rfl)) (fun _ _ _ h => h) (Or.inl ⟨by rfl, ?_⟩) ?_ ?_
                          rotate_left
                          · intro w'
                            go_simp
                            with_reducible rfl
                          rotate_left
                          · simp only [Act.put, List.setIfInBounds_toArray, List.set_cons_zero, List.set_cons_succ, i64_w, i32_w]
                            rfl
                          refine pure_ (i := 2) (N := some 41) (v := ?_) (a' := ?_) #[true, true, true, false, false, false, false, false, false, false] rfl rfl (any_of HT_.out (by kernel_rfl)) (fun _ _ _ h => h) (Or.inl ⟨by rfl, ?_⟩) ?_ ?_
                          rotate_left
                          · intro w'
                            go_simp
                            with_reducible rfl
                          rotate_left
                          · simp only [Act.put, List.setIfInBounds_toArray, List.set_cons_zero, List.set_cons_succ, i64_w, i32_w]
                            rfl
                          refine pure_ (i := 3) (N := some 42) (v := ?_) (a' := ?_) #[true, true, true, true, false, false, false, false, false, false] rfl rfl (any_of HT_.out (by kernel_rfl)) (fun _ _ _ h => h) (Or.inl ⟨by rfl, ?_⟩) ?_ ?_
                          rotate_left
                          · intro w'
                            go_simp
                            with_reducible rfl
                          rotate_left
                          · simp only [Act.put, List.setIfInBounds_toArray, List.set_cons_zero, List.set_cons_succ, i64_w, i32_w]
                            rfl
                          refine pure_ (i := 5) (N := some 44) (v := ?_) (a' := ?_) #[true, true, true, true, false, true, false, false, false, false] rfl rfl (any_of HT_.out (by kernel_rfl)) (fun _ _ _ h => h) (Or.inl ⟨by rfl, ?_⟩) ?_ ?_
                          rotate_left
                          · intro w'
                            go_simp
                            with_reducible rfl
                          rotate_left
                          · simp only [Act.put, List.setIfInBounds_toArray, List.set_cons_zero, List.set_cons_succ, i64_w, i32_w]
                            rfl
                          refine pure_ (i := 6) (N := some 45) (v := ?_) (a' := ?_) #[true, true, true, true, false, true, true, false, false, false] rfl rfl (any_of HT_.out (by kernel_rfl)) (fun _ _ _ h => h) (Or.inl ⟨by rfl, ?_⟩) ?_ ?_
                          rotate_left
                          · intro w'
                            go_simp
                            with_reducible rfl
                          rotate_left
                          · simp only [Act.put, List.setIfInBounds_toArray, List.set_cons_zero, List.set_cons_succ, i64_w, i32_w]
                            rfl
                          refine pure_ (i := 7) (N := some 46) (v := ?_) (a' := ?_) #[true, true, true, true, false, true, true, true, false, false] rfl rfl (any_of HT_.out (by kernel_rfl)) (fun _ _ _ h => h) (Or.inl ⟨by rfl, ?_⟩) ?_ ?_
                          rotate_left
                          · intro w'
                            go_simp
                            with_reducible rfl
                          rotate_left
                          · simp only [Act.put, List.setIfInBounds_toArray, List.set_cons_zero, List.set_cons_succ, i64_w, i32_w]
                            rfl
                          refine one_ (i := 4) (N := some 43) #[true, true, true, true, true, true, true, true, false, false] rfl rfl (one_of HT_.out (by kernel_rfl)) (by decide) (fun K hK => ?_)
                          refine goes_ Try.func18 (by kernel_rfl) rfl #[.slice A0 l0.length c0, .slice A1 y372.length c1] (by rfl) rfl rfl (by (try simp only [List.map_toArray, List.map_cons, List.map_nil]); first | done | rfl | (simp only [List.length_drop, List.length_take]; rfl)) ?_
                          with_reducible refine (dir_Apply.calls _ _ l0 _ _ y372 t376 _ ?side1 ?side2 ?side3 ?side4 A22.out).mono ?_
                          (case side1 => repeat (first | exact (Kd.C_below HR0.out HB.out) | (with_reducible refine Kd.C_alloc ?_ _) | (with_reducible refine Kd.C_drewN ?_ _) | (with_reducible refine Kd.C_drew ?_)))
                          (case side2 => exact HC0.out)
                          (case side3 => repeat (first | exact (Kd.C_below HR375.out HB.out) | (with_reducible refine Kd.C_alloc ?_ _) | (with_reducible refine Kd.C_drewN ?_ _) | (with_reducible refine Kd.C_drew ?_)))
                          (case side4 => exact HC375.out)
                          rintro e w54 ⟨v377, rfl, ho0, hb⟩
                          refine ⟨_, rfl, ?_⟩
                          have n0_ := Aside0.mk (Kd.R_elder' (by (with_reducible repeat (first | apply Kd.R_alloc | apply Kd.R_drewN | apply Kd.R_drew)); exact HO371.out) (Kd.R_base ho0) hb)
                          have n1_ := Aside0.mk (Kd.R_lower (Kd.R_new' ho0 (Kd.R_lt (by (with_reducible repeat (first | apply Kd.R_alloc | apply Kd.R_drewN | apply Kd.R_drew)); exact HO371.out))) (below_size (by repeat (first | (with_reducible first | exact HB.out | apply below_alloc | apply pw_below_drewN | apply below_drew1) | exact HB.out))))
                          have n2_ := Aside0.mk (below_step (by repeat (first | (with_reducible first | exact HB.out | apply below_alloc | apply pw_below_drewN | apply below_drew1) | exact HB.out)) hb)
                          clear HO371
                          clear HB
                          have HO371 := n0_
                          have HO378 := n1_
                          have HB := n2_
                          clear n0_ n1_ n2_
                          (try clear hb)
                          (try clear hb2)
                          (try clear hk)
                          (try clear hi)
                          (try clear ho0)
                          obtain ⟨Ao55, co55, eo55⟩ := Kd.R_slice HO378.out
                          (first | subst eo55 | (injection eo55 with f1_ f2_ f3_; have f4_ := f1_.symm; have f5_ := f3_.symm; clear f1_ f2_ f3_; subst f4_; subst f5_))
                          refine hK.out _ _ trivial (fun hHeld => ?_)
                          clear hK K
                          refine norm_ (a' := ?_) ?_ ?_
                          rotate_left
                          · show Act.put _ (some 43) _ = _
                            simp only [Act.put, List.setIfInBounds_toArray, List.set_cons_zero, List.set_cons_succ, i64_w, i32_w]
                            rfl
                          refine one_ (i := 8) (N := some 47) #[true, true, true, true, true, true, true, true, true, false] rfl rfl (one_of HT_.out (by kernel_rfl)) (by decide) (fun K hK => ?_)
                          refine goes_ Try.func18 (by kernel_rfl) rfl #[.slice Ao55 t376.length co55, .slice A53 y379.length c53] (by rfl) rfl rfl (by (try simp only [List.map_toArray, List.map_cons, List.map_nil]); first | done | rfl | (simp only [List.length_drop, List.length_take]; rfl)) ?_
                          with_reducible refine (dir_Apply.calls _ _ t376 _ _ y379 t383 _ ?side1 ?side2 ?side3 ?side4 A25.out).mono ?_
                          (case side1 => repeat (first | exact (Kd.R_reads' HO378.out).2.2 | (with_reducible refine Kd.C_alloc ?_ _) | (with_reducible refine Kd.C_drewN ?_ _) | (with_reducible refine Kd.C_drew ?_)))
                          (case side2 => exact (Kd.R_reads' HO378.out).2.1)
                          (case side3 => repeat (first | exact (Kd.C_below HR382.out HB.out) | (with_reducible refine Kd.C_alloc ?_ _) | (with_reducible refine Kd.C_drewN ?_ _) | (with_reducible refine Kd.C_drew ?_)))
                          (case side4 => exact HC382.out)
                          rintro e w56 ⟨v384, rfl, ho0, hb⟩
                          refine ⟨_, rfl, ?_⟩
                          have n0_ := Aside0.mk (Kd.R_elder' (by (with_reducible repeat (first | apply Kd.R_alloc | apply Kd.R_drewN | apply Kd.R_drew)); exact HO371.out) (Kd.R_base ho0) hb)
                          have n1_ := Aside0.mk (Kd.R_elder' (by (with_reducible repeat (first | apply Kd.R_alloc | apply Kd.R_drewN | apply Kd.R_drew)); exact HO378.out) (Kd.R_base ho0) hb)
                          have n2_ := Aside0.mk (Kd.R_lower (Kd.R_new' (Kd.R_new' ho0 (Kd.R_lt (by (with_reducible repeat (first | apply Kd.R_alloc | apply Kd.R_drewN | apply Kd.R_drew)); exact HO371.out))) (Kd.R_lt (by (with_reducible repeat (first | apply Kd.R_alloc | apply Kd.R_drewN | apply Kd.R_drew)); exact HO378.out))) (below_size (by repeat (first | (with_reducible first | exact HB.out | apply below_alloc | apply pw_below_drewN | apply below_drew1) | exact HB.out))))
                          have n3_ := Aside0.mk (below_step (by repeat (first | (with_reducible first | exact HB.out | apply below_alloc | apply pw_below_drewN | apply below_drew1) | exact HB.out)) hb)
                          clear HO371
                          clear HO378
                          clear HB
                          have HO371 := n0_
                          have HO378 := n1_
                          have HO385 := n2_
                          have HB := n3_
                          clear n0_ n1_ n2_ n3_
                          (try clear hb)
                          (try clear hb2)
                          (try clear hk)
                          (try clear hi)
                          (try clear ho0)
                          refine hK.out _ _ trivial (fun hHeld => ?_)
                          clear hK K
                          refine norm_ (a' := ?_) ?_ ?_
                          rotate_left
                          · show Act.put _ (some 47) _ = _
                            simp only [Act.put, List.setIfInBounds_toArray, List.set_cons_zero, List.set_cons_succ, i64_w, i32_w]
                            rfl
                          refine pure_ (i := 9) (N := some 8) (v := ?_) (a' := ?_) #[true, true, true, true, true, true, true, true, true, true] rfl rfl (any_of HT_.out (by kernel_rfl)) (fun _ _ _ h => h) (Or.inl ⟨by rfl, ?_⟩) ?_ ?_
                          rotate_left
                          · intro w'
                            go_simp
                            with_reducible rfl
                          rotate_left
                          · simp only [Act.put, List.setIfInBounds_toArray, List.set_cons_zero, List.set_cons_succ, i64_w, i32_w]
                            rfl
                          refine done_ (done_of HT_.out (by kernel_rfl)) ?_
                          obtain ⟨Ao57, co57, eo57⟩ := Kd.R_slice HO371.out
                          subst eo57
                          obtain ⟨Ao58, co58, eo58⟩ := Kd.R_slice HO385.out
                          subst eo58
                          have Ny390b := Ny390.out
                          rw [← Nbq47.out] at Ny390b c46b0
                          clear Ny390
                          have Ny390 := Aside0.mk Ny390b
                          clear Ny390b
                          have t395e : t395 = false := by simpa using c46b0
                          have t395a : (t395 == false) = true := by rw [t395e]; rfl
                          have t395b : (!t395) = true := by rw [t395e]; rfl
                          try go_wp2_with (first | ((with_reducible refine gate_callee (f := 21) rfl ?_); refine goesL_ (some 50) rfl rfl Try.func21 (by kernel_rfl) rfl #[.slice Ao57 t369.length co57, .slice Ao58 t383.length co58] rfl (by (try simp only [List.map_toArray, List.map_cons, List.map_nil]); first | done | rfl | (simp only [List.length_drop, List.length_take]; rfl)) ?_; (with_reducible refine (sheetpileref21_Same.calls kj3 _ _ t369 _ _ t383 true _ ?side1 ?side2 ?side3 ?side4 A26.out).mono ?_); (case side1 => repeat (first | exact (Kd.R_reads' HO371.out).2.2 | (with_reducible refine Kd.C_alloc ?_ _) | (with_reducible refine Kd.C_drewN ?_ _) | (with_reducible refine Kd.C_drew ?_))); (case side2 => exact (Kd.R_reads' HO371.out).2.1); (case side3 => repeat (first | exact (Kd.R_reads' HO385.out).2.2 | (with_reducible refine Kd.C_alloc ?_ _) | (with_reducible refine Kd.C_drewN ?_ _) | (with_reducible refine Kd.C_drew ?_))); (case side4 => exact (Kd.R_reads' HO385.out).2.1); rintro e w' ⟨rfl, ⟨nd, rfl⟩⟩; refine ⟨_, rfl, ?_⟩; (try (rw [drewN_self w56]; generalize hq_ : World.drewN w56 _ = w56; have n0_ : Aside0 (Kd.R k75 75 w56 w.heap.size (fun k_ => some k_ ≠ (.slice Ao55 t376.length co55 : Value).ownBlock ∧ some k_ ≠ (.slice Ao58 t383.length co58 : Value).ownBlock) (.slice Ao57 t369.length co57) t369) := ⟨by rw [← hq_]; exact (by (with_reducible repeat (first | apply Kd.R_alloc | apply Kd.R_drewN | apply Kd.R_drew)); exact Kd.R_mono HO371.out (fun _ hk => ⟨hk.1.2, hk.2⟩))⟩; have n1_ : Aside0 (Kd.R k75 75 w56 w.heap.size (fun k_ => some k_ ≠ (.slice Ao57 t369.length co57 : Value).ownBlock ∧ some k_ ≠ (.slice Ao58 t383.length co58 : Value).ownBlock) (.slice Ao55 t376.length co55) t376) := ⟨by rw [← hq_]; exact (by (with_reducible repeat (first | apply Kd.R_alloc | apply Kd.R_drewN | apply Kd.R_drew)); exact Kd.R_mono HO378.out (fun _ hk => ⟨hk.1.2, hk.2⟩))⟩; have n2_ : Aside0 (Kd.R k75 75 w56 w.heap.size (fun k_ => some k_ ≠ (.slice Ao57 t369.length co57 : Value).ownBlock ∧ some k_ ≠ (.slice Ao55 t376.length co55 : Value).ownBlock) (.slice Ao58 t383.length co58) t383) := ⟨by rw [← hq_]; exact (by (with_reducible repeat (first | apply Kd.R_alloc | apply Kd.R_drewN | apply Kd.R_drew)); exact Kd.R_mono HO385.out (fun _ hk => ⟨hk.1.2, hk.2⟩))⟩; have n3_ : Aside0 (Below w.heap.size w w56) := ⟨by rw [← hq_]; exact (by repeat (first | (with_reducible first | exact HB.out | apply below_alloc | apply pw_below_drewN | apply below_drew1) | exact HB.out))⟩; clear HO371 HO378 HO385 HB hq_; have HO371 := n0_; have HO378 := n1_; have HO385 := n2_; have HB := n3_; clear n0_ n1_ n2_ n3_)); have p388 : 0 ≤ ((ji40) : Int) := of_decide_eq_true (by first | (with_reducible assumption) | assumption); have q388 : (ji40) < (l1.length : Int) := of_decide_eq_true (by first | (with_reducible assumption) | assumption); obtain ⟨ad388, e388, hx388_0, hx388_1, hx388_2⟩ := at_T42 HR1.out (ji40) p388 q388; (try rw [← Nbq47.out] at hx388_2); cases e388; replace hx388_0 := (HB.out.cell (World.block_lt_of_cell? w _ hx388_0)).trans hx388_0; replace hx388_1 := (HB.out.cell (World.block_lt_of_cell? w _ hx388_1)).trans hx388_1; replace hx388_2 := (HB.out.cell (World.block_lt_of_cell? w _ hx388_2)).trans hx388_2; replace p388 := eq_true p388; replace q388 := eq_true q388) | ((with_reducible refine gate_dst (N := 9) rfl ?_); (try (refine gate_guard (by rfl) ?_; dsimp only)); refine box_event ?hg (N := 9) ?hd (cs := #[.string (⟨#[]⟩ : ByteArray), .string (⟨#[]⟩ : ByteArray), .bool false]) (t := 42) ?hr ?_; (case hd => rfl); (case hg => rfl); (case hr => first | (go_simp; done) | (go_simp; rfl)); intro gb389 hg w59 hbox hb; have n0_ := Aside0.mk (Kd.R_below (by (with_reducible repeat (first | apply Kd.R_alloc | apply Kd.R_drewN | apply Kd.R_drew)); exact HO371.out) hb); have n1_ := Aside0.mk (Kd.R_below (by (with_reducible repeat (first | apply Kd.R_alloc | apply Kd.R_drewN | apply Kd.R_drew)); exact HO378.out) hb); have n2_ := Aside0.mk (Kd.R_below (by (with_reducible repeat (first | apply Kd.R_alloc | apply Kd.R_drewN | apply Kd.R_drew)); exact HO385.out) hb); have n3_ := Aside0.mk (below_step (by repeat (first | (with_reducible first | exact HB.out | apply below_alloc | apply pw_below_drewN | apply below_drew1) | exact HB.out)) hb); have n4_ := Aside0.mk (hbox); have n5_ := Aside0.mk ((by rw [hg]; exact (below_size (by repeat (first | (with_reducible first | exact HB.out | apply below_alloc | apply pw_below_drewN | apply below_drew1) | exact HB.out))) : w.heap.size ≤ gb389)); have n6_ := Aside0.mk ((by rw [hg]; exact (below_size (by repeat (first | (with_reducible first | exact HB.out | apply below_alloc | apply pw_below_drewN | apply below_drew1) | exact HB.out))) : w.heap.size ≤ gb389)); clear HO371; clear HO378; clear HO385; clear HB; have HO371 := n0_; have HO378 := n1_; have HO385 := n2_; have HB := n3_; have BK389 := n4_; have GW389 := n5_; have GE389 := n6_; clear n0_ n1_ n2_ n3_ n4_ n5_ n6_; clear hb hbox hg; have hcz60_0 : w59.cell? ⟨gb389, 0, none⟩ = some (.string (⟨#[]⟩ : ByteArray)) := (blk_cell BK389.out 0).trans rfl; have hcz60_1 : w59.cell? ⟨gb389, 1, none⟩ = some (.string (⟨#[]⟩ : ByteArray)) := (blk_cell BK389.out 1).trans rfl; have hcz60_2 : w59.cell? ⟨gb389, 2, none⟩ = some (.bool false) := (blk_cell BK389.out 2).trans rfl; have hfz60_0 := blk_frozen BK389.out 0; have hfz60_1 := blk_frozen BK389.out 1; have hfz60_2 := blk_frozen BK389.out 2) | ((with_reducible refine gate_dst (N := 63) rfl ?_); (try (refine gate_guard (by rfl) ?_; dsimp only)); refine Kd.R_lit k42 _ 42 ?hg (N := 63) ?hd (xs := ([(⟨(rd_T42 l1 (ji40)).f0, (rd_T42 l1 (ji40)).f1, true⟩ : S42)] : List (S42))) (inner := [.string ((rd_T42 l1 (ji40)).f0), .string ((rd_T42 l1 (ji40)).f1), .bool true]) (ok := fun _ => True) (okp := fun _ => True) ?hr ?hp (fun _ hk => hk) trivial (Below.refl _ _) (Nat.le_refl _) (by simp) ?_; (case hd => rfl); (case hg => rfl); (case hr => first | (go_simp; done) | (go_simp; rfl)); (case hp => exact (Reps.c3 (show Kd.M k42 _ _ _ (⟨(rd_T42 l1 (ji40)).f0, (rd_T42 l1 (ji40)).f1, true⟩ : S42) [.string ((rd_T42 l1 (ji40)).f0), .string ((rd_T42 l1 (ji40)).f1), .bool true] from (k42_mkM _ _ _ (⟨(rd_T42 l1 (ji40)).f0, (rd_T42 l1 (ji40)).f1, true⟩ : S42) )) (Reps.none _ _))); intro v391 w61 ho62 hb hg_ hnew_; clear hg_ hnew_; (first | rw [← Ny390.out] at ho62 | (simp only [Int.reduceToNat] at ho62; rw [← Ny390.out] at ho62)); have n0_ := Aside0.mk (Kd.R_below (by (with_reducible repeat (first | apply Kd.R_alloc | apply Kd.R_drewN | apply Kd.R_drew)); exact (Kd.R_mono (Kd.R_far (p := ⟨gb389, 2, none⟩) (Kd.R_far (p := ⟨gb389, 1, none⟩) (Kd.R_far (p := ⟨gb389, 0, none⟩) (Kd.R_types HO371.out BK389.out (by decide)) (fun _ hk => hk.2) (.string ((rd_T42 l1 (ji40)).f0))) (fun _ hk => hk.2) (.string ((rd_T42 l1 (ji40)).f1))) (fun _ hk => hk.2) (.bool true)) (fun _ h_ => h_.1))) hb); have n1_ := Aside0.mk (Kd.R_below (by (with_reducible repeat (first | apply Kd.R_alloc | apply Kd.R_drewN | apply Kd.R_drew)); exact (Kd.R_mono (Kd.R_far (p := ⟨gb389, 2, none⟩) (Kd.R_far (p := ⟨gb389, 1, none⟩) (Kd.R_far (p := ⟨gb389, 0, none⟩) (Kd.R_types HO378.out BK389.out (by decide)) (fun _ hk => hk.2) (.string ((rd_T42 l1 (ji40)).f0))) (fun _ hk => hk.2) (.string ((rd_T42 l1 (ji40)).f1))) (fun _ hk => hk.2) (.bool true)) (fun _ h_ => h_.1))) hb); have n2_ := Aside0.mk (Kd.R_below (by (with_reducible repeat (first | apply Kd.R_alloc | apply Kd.R_drewN | apply Kd.R_drew)); exact (Kd.R_mono (Kd.R_far (p := ⟨gb389, 2, none⟩) (Kd.R_far (p := ⟨gb389, 1, none⟩) (Kd.R_far (p := ⟨gb389, 0, none⟩) (Kd.R_types HO385.out BK389.out (by decide)) (fun _ hk => hk.2) (.string ((rd_T42 l1 (ji40)).f0))) (fun _ hk => hk.2) (.string ((rd_T42 l1 (ji40)).f1))) (fun _ hk => hk.2) (.bool true)) (fun _ h_ => h_.1))) hb); have n3_ := Aside0.mk (Kd.R_lower (Kd.R_newB ho62 (g := gb389) (o := .cells #[.string ((rd_T42 l1 (ji40)).f0), .string ((rd_T42 l1 (ji40)).f1), .bool true] 42 (0, 0)) (by (with_reducible repeat (first | refine blk_drewN ?_ _ | refine blk_drew ?_ | refine blk_alloc ?_ _)); refine blk_put (cs := #[.string ((rd_T42 l1 (ji40)).f0), .string ((rd_T42 l1 (ji40)).f1), .bool false]) ?_ 2 _ rfl; (with_reducible repeat (first | refine blk_drewN ?_ _ | refine blk_drew ?_ | refine blk_alloc ?_ _)); refine blk_put (cs := #[.string ((rd_T42 l1 (ji40)).f0), .string (⟨#[]⟩ : ByteArray), .bool false]) ?_ 1 _ rfl; (with_reducible repeat (first | refine blk_drewN ?_ _ | refine blk_drew ?_ | refine blk_alloc ?_ _)); refine blk_put (cs := #[.string (⟨#[]⟩ : ByteArray), .string (⟨#[]⟩ : ByteArray), .bool false]) ?_ 0 _ rfl; (with_reducible repeat (first | refine blk_drewN ?_ _ | refine blk_drew ?_ | refine blk_alloc ?_ _)); exact BK389.out)) (below_size (by repeat (first | (with_reducible first | exact HB.out | apply below_alloc | apply pw_below_drewN | apply below_drew1 | refine below_set ?_ GE389.out) | exact HB.out)))); have n4_ := Aside0.mk (blk_below (g := gb389) (o := .cells #[.string ((rd_T42 l1 (ji40)).f0), .string ((rd_T42 l1 (ji40)).f1), .bool true] 42 (0, 0)) (by (with_reducible repeat (first | refine blk_drewN ?_ _ | refine blk_drew ?_ | refine blk_alloc ?_ _)); refine blk_put (cs := #[.string ((rd_T42 l1 (ji40)).f0), .string ((rd_T42 l1 (ji40)).f1), .bool false]) ?_ 2 _ rfl; (with_reducible repeat (first | refine blk_drewN ?_ _ | refine blk_drew ?_ | refine blk_alloc ?_ _)); refine blk_put (cs := #[.string ((rd_T42 l1 (ji40)).f0), .string (⟨#[]⟩ : ByteArray), .bool false]) ?_ 1 _ rfl; (with_reducible repeat (first | refine blk_drewN ?_ _ | refine blk_drew ?_ | refine blk_alloc ?_ _)); refine blk_put (cs := #[.string (⟨#[]⟩ : ByteArray), .string (⟨#[]⟩ : ByteArray), .bool false]) ?_ 0 _ rfl; (with_reducible repeat (first | refine blk_drewN ?_ _ | refine blk_drew ?_ | refine blk_alloc ?_ _)); exact BK389.out) hb); have n5_ := Aside0.mk (below_step (by repeat (first | (with_reducible first | exact HB.out | apply below_alloc | apply pw_below_drewN | apply below_drew1 | refine below_set ?_ GE389.out) | exact HB.out)) hb); clear HO371; clear HO378; clear HO385; clear BK389; clear HB; have HO371 := n0_; have HO378 := n1_; have HO385 := n2_; have HO392 := n3_; have BK389 := n4_; have HB := n5_; clear n0_ n1_ n2_ n3_ n4_ n5_; clear hb ho62; obtain ⟨Ao63, co63, eo63⟩ := Kd.R_slice HO392.out; subst eo63) | ((with_reducible refine gate_callee (f := 32) rfl ?_); refine goesL_ (some 64) rfl rfl Try.func32 (by kernel_rfl) rfl #[.slice Ao63 y390.length co63] rfl (by (try simp only [List.map_toArray, List.map_cons, List.map_nil]); first | done | rfl | (simp only [List.length_drop, List.length_take]; rfl)) ?_; (with_reducible refine (sheetpileref19_Check.calls kj3 _ _ y390 t393 _ ?side1 ?side2 A43.out).mono ?_); (case side1 => repeat (first | exact (Kd.R_reads' HO392.out).2.2 | (with_reducible refine Kd.C_alloc ?_ _) | (with_reducible refine Kd.C_drewN ?_ _) | (with_reducible refine Kd.C_drew ?_))); (case side2 => exact (Kd.R_reads' HO392.out).2.1); rintro e w64 ⟨rfl, hb⟩; refine ⟨_, rfl, ?_⟩; have n0_ := Aside0.mk (Kd.R_below (by (with_reducible repeat (first | apply Kd.R_alloc | apply Kd.R_drewN | apply Kd.R_drew)); exact HO371.out) hb); have n1_ := Aside0.mk (Kd.R_below (by (with_reducible repeat (first | apply Kd.R_alloc | apply Kd.R_drewN | apply Kd.R_drew)); exact HO378.out) hb); have n2_ := Aside0.mk (Kd.R_below (by (with_reducible repeat (first | apply Kd.R_alloc | apply Kd.R_drewN | apply Kd.R_drew)); exact HO385.out) hb); have n3_ := Aside0.mk (Kd.R_below (by (with_reducible repeat (first | apply Kd.R_alloc | apply Kd.R_drewN | apply Kd.R_drew)); exact HO392.out) hb); have n4_ := Aside0.mk (blk_below (g := gb389) (o := .cells #[.string ((rd_T42 l1 (ji40)).f0), .string ((rd_T42 l1 (ji40)).f1), .bool true] 42 (0, 0)) (by (with_reducible repeat (first | refine blk_drewN ?_ _ | refine blk_drew ?_ | refine blk_alloc ?_ _)); exact BK389.out) hb); have n5_ := Aside0.mk (below_step (by repeat (first | (with_reducible first | exact HB.out | apply below_alloc | apply pw_below_drewN | apply below_drew1 | refine below_set ?_ GE389.out) | exact HB.out)) hb); clear HO371; clear HO378; clear HO385; clear HO392; clear BK389; clear HB; have HO371 := n0_; have HO378 := n1_; have HO385 := n2_; have HO392 := n3_; have BK389 := n4_; have HB := n5_; clear n0_ n1_ n2_ n3_ n4_ n5_; (try clear hb); (try clear hb2); (try clear hk); (try clear hi); have hcz65_0 : w64.cell? ⟨gb389, 0, none⟩ = some (.string ((rd_T42 l1 (ji40)).f0)) := (blk_cell BK389.out 0).trans rfl; have hcz65_1 : w64.cell? ⟨gb389, 1, none⟩ = some (.string ((rd_T42 l1 (ji40)).f1)) := (blk_cell BK389.out 1).trans rfl; have hcz65_2 : w64.cell? ⟨gb389, 2, none⟩ = some (.bool true) := (blk_cell BK389.out 2).trans rfl; have hfz65_0 := blk_frozen BK389.out 0; have hfz65_1 := blk_frozen BK389.out 1; have hfz65_2 := blk_frozen BK389.out 2) | ((with_reducible refine gate_callee (f := 19) rfl ?_); refine goesL_ (some 71) rfl rfl Try.func19 (by kernel_rfl) rfl #[.slice Ao57 t369.length co57, .string ((rd_T42 l1 (ji40)).f0)] rfl (by (try simp only [List.map_toArray, List.map_cons, List.map_nil]); first | done | (simp only [hji40]; rfl) | rfl | (simp only [List.length_drop, List.length_take]; rfl)) ?_; (with_reducible refine (dir_Get.calls _ _ t369 ((rd_T42 l1 (ji40)).f0) t394 t395 _ ?side1 ?side2 A45.out).mono ?_); (case side1 => repeat (first | exact (Kd.R_reads' HO371.out).2.2 | (with_reducible refine Kd.C_alloc ?_ _) | (with_reducible refine Kd.C_drewN ?_ _) | (with_reducible refine Kd.C_drew ?_))); (case side2 => exact (Kd.R_reads' HO371.out).2.1); rintro e w66 ⟨rfl, hb⟩; refine ⟨_, rfl, ?_⟩; have n0_ := Aside0.mk (Kd.R_below (by (with_reducible repeat (first | apply Kd.R_alloc | apply Kd.R_drewN | apply Kd.R_drew)); exact HO371.out) hb); have n1_ := Aside0.mk (Kd.R_below (by (with_reducible repeat (first | apply Kd.R_alloc | apply Kd.R_drewN | apply Kd.R_drew)); exact HO378.out) hb); have n2_ := Aside0.mk (Kd.R_below (by (with_reducible repeat (first | apply Kd.R_alloc | apply Kd.R_drewN | apply Kd.R_drew)); exact HO385.out) hb); have n3_ := Aside0.mk (Kd.R_below (by (with_reducible repeat (first | apply Kd.R_alloc | apply Kd.R_drewN | apply Kd.R_drew)); exact HO392.out) hb); have n4_ := Aside0.mk (blk_below (g := gb389) (o := .cells #[.string ((rd_T42 l1 (ji40)).f0), .string ((rd_T42 l1 (ji40)).f1), .bool true] 42 (0, 0)) (by (with_reducible repeat (first | refine blk_drewN ?_ _ | refine blk_drew ?_ | refine blk_alloc ?_ _)); exact BK389.out) hb); have n5_ := Aside0.mk (below_step (by repeat (first | (with_reducible first | exact HB.out | apply below_alloc | apply pw_below_drewN | apply below_drew1 | refine below_set ?_ GE389.out) | exact HB.out)) hb); clear HO371; clear HO378; clear HO385; clear HO392; clear BK389; clear HB; have HO371 := n0_; have HO378 := n1_; have HO385 := n2_; have HO392 := n3_; have BK389 := n4_; have HB := n5_; clear n0_ n1_ n2_ n3_ n4_ n5_; (try clear hb); (try clear hb2); (try clear hk); (try clear hi); have hcz67_0 : w66.cell? ⟨gb389, 0, none⟩ = some (.string ((rd_T42 l1 (ji40)).f0)) := (blk_cell BK389.out 0).trans rfl; have hcz67_1 : w66.cell? ⟨gb389, 1, none⟩ = some (.string ((rd_T42 l1 (ji40)).f1)) := (blk_cell BK389.out 1).trans rfl; have hcz67_2 : w66.cell? ⟨gb389, 2, none⟩ = some (.bool true) := (blk_cell BK389.out 2).trans rfl; have hfz67_0 := blk_frozen BK389.out 0; have hfz67_1 := blk_frozen BK389.out 1; have hfz67_2 := blk_frozen BK389.out 2) | (go_at_call 17; (with_reducible refine (sheetpilelaw21_live.calls kj3  t396 _ A49.out).mono ?_); rintro e w68 ⟨rfl, hb⟩; have n0_ := Aside0.mk (Kd.R_below (by (with_reducible repeat (first | apply Kd.R_alloc | apply Kd.R_drewN | apply Kd.R_drew)); exact HO371.out) hb); have n1_ := Aside0.mk (Kd.R_below (by (with_reducible repeat (first | apply Kd.R_alloc | apply Kd.R_drewN | apply Kd.R_drew)); exact HO378.out) hb); have n2_ := Aside0.mk (Kd.R_below (by (with_reducible repeat (first | apply Kd.R_alloc | apply Kd.R_drewN | apply Kd.R_drew)); exact HO385.out) hb); have n3_ := Aside0.mk (Kd.R_below (by (with_reducible repeat (first | apply Kd.R_alloc | apply Kd.R_drewN | apply Kd.R_drew)); exact HO392.out) hb); have n4_ := Aside0.mk (blk_below (g := gb389) (o := .cells #[.string ((rd_T42 l1 (ji40)).f0), .string ((rd_T42 l1 (ji40)).f1), .bool true] 42 (0, 0)) (by (with_reducible repeat (first | refine blk_drewN ?_ _ | refine blk_drew ?_ | refine blk_alloc ?_ _)); exact BK389.out) hb); have n5_ := Aside0.mk (below_step (by repeat (first | (with_reducible first | exact HB.out | apply below_alloc | apply pw_below_drewN | apply below_drew1 | refine below_set ?_ GE389.out) | exact HB.out)) hb); clear HO371; clear HO378; clear HO385; clear HO392; clear BK389; clear HB; have HO371 := n0_; have HO378 := n1_; have HO385 := n2_; have HO392 := n3_; have BK389 := n4_; have HB := n5_; clear n0_ n1_ n2_ n3_ n4_ n5_; (try clear hb); (try clear hb2); (try clear hk); (try clear hi)))
                          go_ret
                          exact ⟨by first | rfl | (simp [errW_none, errW_some] <;> rfl) | (simp only [← hji40]; first | rfl | (simp [errW_none, errW_some] <;> rfl)) | (simp [*, errW_none, errW_some] <;> rfl), by repeat (first | (with_reducible first | exact HB.out | apply below_alloc | apply pw_below_drewN | apply below_drew1 | refine below_set ?_ GE389.out) | exact HB.out)⟩
                        · replace c48 := Bool.eq_false_iff.mpr c48
                          subst c48
                          have H1 : (if t394.toList = ((rd_T42 l1 (ji40)).f1).toList then ((sheetpilelaw21_live.f kj3).bind fun t397 => (some t397)) else (some false)) = some r := by rw [if_neg (show ¬ (false = true) by decide)] at H; exact H
                          clear H
                          have H := H1
                          clear H1
                          by_cases c69 : t394.toList = ((rd_T42 l1 (ji40)).f1).toList
                          · rw [if_pos c69] at H
                            have c69b0 : (t394.toList == ((rd_T42 l1 (ji40)).f1).toList) = true := beq_iff_eq.mpr c69
                            have c69b1 : (t394.toList != ((rd_T42 l1 (ji40)).f1).toList) = false := bne_eq_false_iff_eq.mpr c69
                            clear c69
                            replace H := Option.bind_eq_some_iff.mp H
                            obtain ⟨t397, A700, H⟩ := H
                            replace H : (some t397) = some r := H
                            have A70 := Aside0.mk A700
                            clear A700
                            obtain rfl := Option.some.inj H
                            try go_wp2_with (first | ((with_reducible refine gate_callee (f := 18) rfl ?_); refine goesL_ (some 38) rfl rfl Try.func18 (by kernel_rfl) rfl #[.slice A0 l0.length c0, .slice A1 l1.length c1] rfl (by (try simp only [List.map_toArray, List.map_cons, List.map_nil]); first | done | rfl | (simp only [List.length_drop, List.length_take]; rfl)) ?_; (with_reducible refine (dir_Apply.calls _ _ l0 _ _ l1 t369 _ ?side1 ?side2 ?side3 ?side4 A19.out).mono ?_); (case side1 => repeat (first | exact (Kd.C_below HR0.out HB.out) | (with_reducible refine Kd.C_alloc ?_ _) | (with_reducible refine Kd.C_drewN ?_ _) | (with_reducible refine Kd.C_drew ?_))); (case side2 => exact HC0.out); (case side3 => repeat (first | exact (Kd.C_below HR1.out HB.out) | (with_reducible refine Kd.C_alloc ?_ _) | (with_reducible refine Kd.C_drewN ?_ _) | (with_reducible refine Kd.C_drew ?_))); (case side4 => exact HC1.out); rintro e w71 ⟨v370, rfl, ho0, hb⟩; refine ⟨_, rfl, ?_⟩; have n0_ := Aside0.mk (Kd.R_lower ho0 (below_size (by repeat (first | (with_reducible first | exact HB.out | apply below_alloc | apply pw_below_drewN | apply below_drew1) | exact HB.out)))); have n1_ := Aside0.mk (below_step (by repeat (first | (with_reducible first | exact HB.out | apply below_alloc | apply pw_below_drewN | apply below_drew1) | exact HB.out)) hb); clear HB; have HO371 := n0_; have HB := n1_; clear n0_ n1_; (try clear hb); (try clear hb2); (try clear hk); (try clear hi); (try clear ho0)))
                            have n0_ := Aside0.mk (Kd.R_drew HO371.out)
                            have n1_ := Aside0.mk (below_drew1 HB.out)
                            clear HO371
                            clear HB
                            have HO371 := n0_
                            have HB := n1_
                            clear n0_ n1_
                            have q73 : (a2 : Int) ≤ ((l1.length : Int) : Int) := of_decide_eq_true (by first | (with_reducible assumption) | assumption)
                            obtain ⟨i073, hi073, _, hsz73, _⟩ := info_parts info42
                            have hroom73 : l1.length ≤ c1 := HC1.out
                            have hC73 : Kd.C k42 _ A1 l1.length l1 := HR1.out
                            have hcut73 := cut_to (P := Try.prog) 23 42 .i64 Try.underlying23 hi073 A1 l1.length c1 a2 (of_decide_eq_true (by first | (with_reducible assumption) | assumption)) q73 hroom73
                            have hr73 := Kd.C_take (m := (a2 : Int).toNat) hC73 (by omega)
                            have hy73 : y372.length = (a2 : Int).toNat := (by rw [Ny372.out, List.length_take]; omega)
                            rw [← Ny372.out] at hr73
                            rw [← hy73] at hcut73
                            have HR375 := Aside0.mk hr73
                            have HC375 := Aside0.mk (show y372.length ≤ c1 from by omega)
                            clear hr73 hC73 hroom73 hi073 hsz73
                            have KY73 := Aside0.mk hy73
                            clear hy73
                            replace q73 := eq_true q73
                            have q74 : (a2 : Int) ≤ ((l1.length : Int) : Int) := of_decide_eq_true (by first | (with_reducible assumption) | assumption)
                            obtain ⟨i074, hi074, _, hsz74, _⟩ := info_parts info42
                            have hroom74 : l1.length ≤ c1 := HC1.out
                            have hC74 : Kd.C k42 _ A1 l1.length l1 := HR1.out
                            have q074 : (0 : Int) ≤ (a2 : Int) := of_decide_eq_true (by first | (with_reducible assumption) | assumption)
                            have hcut74 := cut_from (P := Try.prog) 23 42 .i64 Try.underlying23 hi074 3 hsz74 A1 l1.length c1 a2 q074 q74
                            have hr74 := Kd.C_drop (m := (a2 : Int).toNat) (c := c1) hC74 (by omega) hroom74
                            obtain ⟨A74, hA74⟩ : ∃ Ab_, Ab_ = (if c1 = (a2 : Int).toNat then A1 else (A1 : Option Addr).map (·.add ((a2 : Int).toNat * 3))) := ⟨_, rfl⟩
                            obtain ⟨c74, hc74⟩ : ∃ cb_, cb_ = c1 - (a2 : Int).toNat := ⟨_, rfl⟩
                            have hy74 : y379.length = l1.length - (a2 : Int).toNat := (by rw [Ny379.out, List.length_drop] <;> omega)
                            rw [show (l1).drop (a2 : Int).toNat = y379 from Ny379.out.symm] at hr74
                            replace hr74 : Kd.C k42 _ A74 y379.length y379 := (by rw [hA74]; exact hr74)
                            rw [← hy74, ← hA74, ← hc74] at hcut74
                            have HR382 := Aside0.mk hr74
                            have HC382 := Aside0.mk (show y379.length ≤ c74 from by rw [hy74, hc74]; exact Nat.sub_le_sub_right hroom74 _)
                            clear hr74 hC74 hroom74 hi074 hsz74 hc74
                            have KY74 := Aside0.mk hy74
                            have KA74 := Aside0.mk hA74
                            clear hy74 hA74
                            replace q74 := eq_true q74
                            refine start_ (n := 10) (S := fun w' => True) (ds := []) #[false, false, false, false, false, false, false, false, false, false] (by kernel_rfl) rfl rfl trivial (fun hHeld => ?_); refine with_tabW sheetpilelaw21_DirParts.tab4 sheetpilelaw21_DirParts.bits4 (fun HT_ HW_ => ?_)
                            generalize w71.drew = w72 at HO371 HB HR375 HR382 hHeld ⊢
                            refine pure_ (i := 0) (N := some 39) (v := ?_) (a' := ?_) #[true, false, false, false, false, false, false, false, false, false] rfl rfl (any_of HT_.out (by kernel_rfl)) (fun _ _ _ h => h) (Or.inl ⟨by rfl, ?_⟩) ?_ ?_
                            rotate_left
                            · intro w'
                              go_simp
                              with_reducible rfl
                            rotate_left
                            · simp only [Act.put, List.setIfInBounds_toArray, List.set_cons_zero, List.set_cons_succ, i64_w, i32_w]
                              rfl
                            refine pure_ (i := 1) (N := some 40) (v := ?_) (a' := ?_) #[true, true, false, false, false, false, false, false, false, false] rfl rfl (any_of HT_.out (by kernel_rfl)) (fun _ _ _ h => h) (Or.inl ⟨by rfl, ?_⟩) ?_ ?_
                            rotate_left
                            · intro w'
                              go_simp
                              with_reducible rfl
                            rotate_left
                            · simp only [Act.put, List.setIfInBounds_toArray, List.set_cons_zero, List.set_cons_succ, i64_w, i32_w]
                              rfl
                            refine pure_ (i := 2) (N := some 41) (v := ?_) (a' := ?_) #[true, true, true, false, false, false, false, false, false, false] rfl rfl (any_of HT_.out (by kernel_rfl)) (fun _ _ _ h => h) (Or.inl ⟨by rfl, ?_⟩) ?_ ?_
                            rotate_left
                            · intro w'
                              go_simp
                              with_reducible rfl
                            rotate_left
                            · simp only [Act.put, List.setIfInBounds_toArray, List.set_cons_zero, List.set_cons_succ, i64_w, i32_w]
                              rfl
                            refine pure_ (i := 3) (N := some 42) (v := ?_) (a' := ?_) #[true, true, true, true, false, false, false, false, false, false] rfl rfl (any_of HT_.out (by kernel_rfl)) (fun _ _ _ h => h) (Or.inl ⟨by rfl, ?_⟩) ?_ ?_
                            rotate_left
                            · intro w'
                              go_simp
                              with_reducible rfl
                            rotate_left
                            · simp only [Act.put, List.setIfInBounds_toArray, List.set_cons_zero, List.set_cons_succ, i64_w, i32_w]
                              rfl
                            refine pure_ (i := 5) (N := some 44) (v := ?_) (a' := ?_) #[true, true, true, true, false, true, false, false, false, false] rfl rfl (any_of HT_.out (by kernel_rfl)) (fun _ _ _ h => h) (Or.inl ⟨by rfl, ?_⟩) ?_ ?_
                            rotate_left
                            · intro w'
                              go_simp
                              with_reducible rfl
                            rotate_left
                            · simp only [Act.put, List.setIfInBounds_toArray, List.set_cons_zero, List.set_cons_succ, i64_w, i32_w]
                              rfl
                            refine pure_ (i := 6) (N := some 45) (v := ?_) (a' := ?_) #[true, true, true, true, false, true, true, false, false, false] rfl rfl (any_of HT_.out (by kernel_rfl)) (fun _ _ _ h => h) (Or.inl ⟨by rfl, ?_⟩) ?_ ?_
                            rotate_left
                            · intro w'
                              go_simp
                              with_reducible rfl
                            rotate_left
                            · simp only [Act.put, List.setIfInBounds_toArray, List.set_cons_zero, List.set_cons_succ, i64_w, i32_w]
                              rfl
                            refine pure_ (i := 7) (N := some 46) (v := ?_) (a' := ?_) #[true, true, true, true, false, true, true, true, false, false] rfl rfl (any_of HT_.out (by kernel_rfl)) (fun _ _ _ h => h) (Or.inl ⟨by rfl, ?_⟩) ?_ ?_
                            rotate_left
                            · intro w'
                              go_simp
                              with_reducible rfl
                            rotate_left
                            · simp only [Act.put, List.setIfInBounds_toArray, List.set_cons_zero, List.set_cons_succ, i64_w, i32_w]
                              rfl
                            refine one_ (i := 4) (N := some 43) #[true, true, true, true, true, true, true, true, false, false] rfl rfl (one_of HT_.out (by kernel_rfl)) (by decide) (fun K hK => ?_)
                            refine goes_ Try.func18 (by kernel_rfl) rfl #[.slice A0 l0.length c0, .slice A1 y372.length c1] (by rfl) rfl rfl (by (try simp only [List.map_toArray, List.map_cons, List.map_nil]); first | done | rfl | (simp only [List.length_drop, List.length_take]; rfl)) ?_
                            with_reducible refine (dir_Apply.calls _ _ l0 _ _ y372 t376 _ ?side1 ?side2 ?side3 ?side4 A22.out).mono ?_
                            (case side1 => repeat (first | exact (Kd.C_below HR0.out HB.out) | (with_reducible refine Kd.C_alloc ?_ _) | (with_reducible refine Kd.C_drewN ?_ _) | (with_reducible refine Kd.C_drew ?_)))
                            (case side2 => exact HC0.out)
                            (case side3 => repeat (first | exact (Kd.C_below HR375.out HB.out) | (with_reducible refine Kd.C_alloc ?_ _) | (with_reducible refine Kd.C_drewN ?_ _) | (with_reducible refine Kd.C_drew ?_)))
                            (case side4 => exact HC375.out)
                            rintro e w75 ⟨v377, rfl, ho0, hb⟩
                            refine ⟨_, rfl, ?_⟩
                            have n0_ := Aside0.mk (Kd.R_elder' (by (with_reducible repeat (first | apply Kd.R_alloc | apply Kd.R_drewN | apply Kd.R_drew)); exact HO371.out) (Kd.R_base ho0) hb)
                            have n1_ := Aside0.mk (Kd.R_lower (Kd.R_new' ho0 (Kd.R_lt (by (with_reducible repeat (first | apply Kd.R_alloc | apply Kd.R_drewN | apply Kd.R_drew)); exact HO371.out))) (below_size (by repeat (first | (with_reducible first | exact HB.out | apply below_alloc | apply pw_below_drewN | apply below_drew1) | exact HB.out))))
                            have n2_ := Aside0.mk (below_step (by repeat (first | (with_reducible first | exact HB.out | apply below_alloc | apply pw_below_drewN | apply below_drew1) | exact HB.out)) hb)
                            clear HO371
                            clear HB
                            have HO371 := n0_
                            have HO378 := n1_
                            have HB := n2_
                            clear n0_ n1_ n2_
                            (try clear hb)
                            (try clear hb2)
                            (try clear hk)
                            (try clear hi)
                            (try clear ho0)
                            obtain ⟨Ao76, co76, eo76⟩ := Kd.R_slice HO378.out
                            (first | subst eo76 | (injection eo76 with f1_ f2_ f3_; have f4_ := f1_.symm; have f5_ := f3_.symm; clear f1_ f2_ f3_; subst f4_; subst f5_))
                            refine hK.out _ _ trivial (fun hHeld => ?_)
                            clear hK K
                            refine norm_ (a' := ?_) ?_ ?_
                            rotate_left
                            · show Act.put _ (some 43) _ = _
                              simp only [Act.put, List.setIfInBounds_toArray, List.set_cons_zero, List.set_cons_succ, i64_w, i32_w]
                              rfl
                            refine one_ (i := 8) (N := some 47) #[true, true, true, true, true, true, true, true, true, false] rfl rfl (one_of HT_.out (by kernel_rfl)) (by decide) (fun K hK => ?_)
                            refine goes_ Try.func18 (by kernel_rfl) rfl #[.slice Ao76 t376.length co76, .slice A74 y379.length c74] (by rfl) rfl rfl (by (try simp only [List.map_toArray, List.map_cons, List.map_nil]); first | done | rfl | (simp only [List.length_drop, List.length_take]; rfl)) ?_
                            with_reducible refine (dir_Apply.calls _ _ t376 _ _ y379 t383 _ ?side1 ?side2 ?side3 ?side4 A25.out).mono ?_
                            (case side1 => repeat (first | exact (Kd.R_reads' HO378.out).2.2 | (with_reducible refine Kd.C_alloc ?_ _) | (with_reducible refine Kd.C_drewN ?_ _) | (with_reducible refine Kd.C_drew ?_)))
                            (case side2 => exact (Kd.R_reads' HO378.out).2.1)
                            (case side3 => repeat (first | exact (Kd.C_below HR382.out HB.out) | (with_reducible refine Kd.C_alloc ?_ _) | (with_reducible refine Kd.C_drewN ?_ _) | (with_reducible refine Kd.C_drew ?_)))
                            (case side4 => exact HC382.out)
                            rintro e w77 ⟨v384, rfl, ho0, hb⟩
                            refine ⟨_, rfl, ?_⟩
                            have n0_ := Aside0.mk (Kd.R_elder' (by (with_reducible repeat (first | apply Kd.R_alloc | apply Kd.R_drewN | apply Kd.R_drew)); exact HO371.out) (Kd.R_base ho0) hb)
                            have n1_ := Aside0.mk (Kd.R_elder' (by (with_reducible repeat (first | apply Kd.R_alloc | apply Kd.R_drewN | apply Kd.R_drew)); exact HO378.out) (Kd.R_base ho0) hb)
                            have n2_ := Aside0.mk (Kd.R_lower (Kd.R_new' (Kd.R_new' ho0 (Kd.R_lt (by (with_reducible repeat (first | apply Kd.R_alloc | apply Kd.R_drewN | apply Kd.R_drew)); exact HO371.out))) (Kd.R_lt (by (with_reducible repeat (first | apply Kd.R_alloc | apply Kd.R_drewN | apply Kd.R_drew)); exact HO378.out))) (below_size (by repeat (first | (with_reducible first | exact HB.out | apply below_alloc | apply pw_below_drewN | apply below_drew1) | exact HB.out))))
                            have n3_ := Aside0.mk (below_step (by repeat (first | (with_reducible first | exact HB.out | apply below_alloc | apply pw_below_drewN | apply below_drew1) | exact HB.out)) hb)
                            clear HO371
                            clear HO378
                            clear HB
                            have HO371 := n0_
                            have HO378 := n1_
                            have HO385 := n2_
                            have HB := n3_
                            clear n0_ n1_ n2_ n3_
                            (try clear hb)
                            (try clear hb2)
                            (try clear hk)
                            (try clear hi)
                            (try clear ho0)
                            refine hK.out _ _ trivial (fun hHeld => ?_)
                            clear hK K
                            refine norm_ (a' := ?_) ?_ ?_
                            rotate_left
                            · show Act.put _ (some 47) _ = _
                              simp only [Act.put, List.setIfInBounds_toArray, List.set_cons_zero, List.set_cons_succ, i64_w, i32_w]
                              rfl
                            refine pure_ (i := 9) (N := some 8) (v := ?_) (a' := ?_) #[true, true, true, true, true, true, true, true, true, true] rfl rfl (any_of HT_.out (by kernel_rfl)) (fun _ _ _ h => h) (Or.inl ⟨by rfl, ?_⟩) ?_ ?_
                            rotate_left
                            · intro w'
                              go_simp
                              with_reducible rfl
                            rotate_left
                            · simp only [Act.put, List.setIfInBounds_toArray, List.set_cons_zero, List.set_cons_succ, i64_w, i32_w]
                              rfl
                            refine done_ (done_of HT_.out (by kernel_rfl)) ?_
                            obtain ⟨Ao78, co78, eo78⟩ := Kd.R_slice HO371.out
                            subst eo78
                            obtain ⟨Ao79, co79, eo79⟩ := Kd.R_slice HO385.out
                            subst eo79
                            have Ny390b := Ny390.out
                            rw [← Nbq47.out] at Ny390b c46b0
                            clear Ny390
                            have Ny390 := Aside0.mk Ny390b
                            clear Ny390b
                            have t395e : t395 = true := by simpa using c46b0
                            have t395a : (t395 == true) = true := by rw [t395e]; rfl
                            try go_wp2_with (first | ((with_reducible refine gate_callee (f := 21) rfl ?_); refine goesL_ (some 50) rfl rfl Try.func21 (by kernel_rfl) rfl #[.slice Ao78 t369.length co78, .slice Ao79 t383.length co79] rfl (by (try simp only [List.map_toArray, List.map_cons, List.map_nil]); first | done | rfl | (simp only [List.length_drop, List.length_take]; rfl)) ?_; (with_reducible refine (sheetpileref21_Same.calls kj3 _ _ t369 _ _ t383 true _ ?side1 ?side2 ?side3 ?side4 A26.out).mono ?_); (case side1 => repeat (first | exact (Kd.R_reads' HO371.out).2.2 | (with_reducible refine Kd.C_alloc ?_ _) | (with_reducible refine Kd.C_drewN ?_ _) | (with_reducible refine Kd.C_drew ?_))); (case side2 => exact (Kd.R_reads' HO371.out).2.1); (case side3 => repeat (first | exact (Kd.R_reads' HO385.out).2.2 | (with_reducible refine Kd.C_alloc ?_ _) | (with_reducible refine Kd.C_drewN ?_ _) | (with_reducible refine Kd.C_drew ?_))); (case side4 => exact (Kd.R_reads' HO385.out).2.1); rintro e w' ⟨rfl, ⟨nd, rfl⟩⟩; refine ⟨_, rfl, ?_⟩; (try (rw [drewN_self w77]; generalize hq_ : World.drewN w77 _ = w77; have n0_ : Aside0 (Kd.R k75 75 w77 w.heap.size (fun k_ => some k_ ≠ (.slice Ao76 t376.length co76 : Value).ownBlock ∧ some k_ ≠ (.slice Ao79 t383.length co79 : Value).ownBlock) (.slice Ao78 t369.length co78) t369) := ⟨by rw [← hq_]; exact (by (with_reducible repeat (first | apply Kd.R_alloc | apply Kd.R_drewN | apply Kd.R_drew)); exact Kd.R_mono HO371.out (fun _ hk => ⟨hk.1.2, hk.2⟩))⟩; have n1_ : Aside0 (Kd.R k75 75 w77 w.heap.size (fun k_ => some k_ ≠ (.slice Ao78 t369.length co78 : Value).ownBlock ∧ some k_ ≠ (.slice Ao79 t383.length co79 : Value).ownBlock) (.slice Ao76 t376.length co76) t376) := ⟨by rw [← hq_]; exact (by (with_reducible repeat (first | apply Kd.R_alloc | apply Kd.R_drewN | apply Kd.R_drew)); exact Kd.R_mono HO378.out (fun _ hk => ⟨hk.1.2, hk.2⟩))⟩; have n2_ : Aside0 (Kd.R k75 75 w77 w.heap.size (fun k_ => some k_ ≠ (.slice Ao78 t369.length co78 : Value).ownBlock ∧ some k_ ≠ (.slice Ao76 t376.length co76 : Value).ownBlock) (.slice Ao79 t383.length co79) t383) := ⟨by rw [← hq_]; exact (by (with_reducible repeat (first | apply Kd.R_alloc | apply Kd.R_drewN | apply Kd.R_drew)); exact Kd.R_mono HO385.out (fun _ hk => ⟨hk.1.2, hk.2⟩))⟩; have n3_ : Aside0 (Below w.heap.size w w77) := ⟨by rw [← hq_]; exact (by repeat (first | (with_reducible first | exact HB.out | apply below_alloc | apply pw_below_drewN | apply below_drew1) | exact HB.out))⟩; clear HO371 HO378 HO385 HB hq_; have HO371 := n0_; have HO378 := n1_; have HO385 := n2_; have HB := n3_; clear n0_ n1_ n2_ n3_)); have p388 : 0 ≤ ((ji40) : Int) := of_decide_eq_true (by first | (with_reducible assumption) | assumption); have q388 : (ji40) < (l1.length : Int) := of_decide_eq_true (by first | (with_reducible assumption) | assumption); obtain ⟨ad388, e388, hx388_0, hx388_1, hx388_2⟩ := at_T42 HR1.out (ji40) p388 q388; (try rw [← Nbq47.out] at hx388_2); cases e388; replace hx388_0 := (HB.out.cell (World.block_lt_of_cell? w _ hx388_0)).trans hx388_0; replace hx388_1 := (HB.out.cell (World.block_lt_of_cell? w _ hx388_1)).trans hx388_1; replace hx388_2 := (HB.out.cell (World.block_lt_of_cell? w _ hx388_2)).trans hx388_2; replace p388 := eq_true p388; replace q388 := eq_true q388) | ((with_reducible refine gate_dst (N := 9) rfl ?_); (try (refine gate_guard (by rfl) ?_; dsimp only)); refine box_event ?hg (N := 9) ?hd (cs := #[.string (⟨#[]⟩ : ByteArray), .string (⟨#[]⟩ : ByteArray), .bool false]) (t := 42) ?hr ?_; (case hd => rfl); (case hg => rfl); (case hr => first | (go_simp; done) | (go_simp; rfl)); intro gb389 hg w80 hbox hb; have n0_ := Aside0.mk (Kd.R_below (by (with_reducible repeat (first | apply Kd.R_alloc | apply Kd.R_drewN | apply Kd.R_drew)); exact HO371.out) hb); have n1_ := Aside0.mk (Kd.R_below (by (with_reducible repeat (first | apply Kd.R_alloc | apply Kd.R_drewN | apply Kd.R_drew)); exact HO378.out) hb); have n2_ := Aside0.mk (Kd.R_below (by (with_reducible repeat (first | apply Kd.R_alloc | apply Kd.R_drewN | apply Kd.R_drew)); exact HO385.out) hb); have n3_ := Aside0.mk (below_step (by repeat (first | (with_reducible first | exact HB.out | apply below_alloc | apply pw_below_drewN | apply below_drew1) | exact HB.out)) hb); have n4_ := Aside0.mk (hbox); have n5_ := Aside0.mk ((by rw [hg]; exact (below_size (by repeat (first | (with_reducible first | exact HB.out | apply below_alloc | apply pw_below_drewN | apply below_drew1) | exact HB.out))) : w.heap.size ≤ gb389)); have n6_ := Aside0.mk ((by rw [hg]; exact (below_size (by repeat (first | (with_reducible first | exact HB.out | apply below_alloc | apply pw_below_drewN | apply below_drew1) | exact HB.out))) : w.heap.size ≤ gb389)); clear HO371; clear HO378; clear HO385; clear HB; have HO371 := n0_; have HO378 := n1_; have HO385 := n2_; have HB := n3_; have BK389 := n4_; have GW389 := n5_; have GE389 := n6_; clear n0_ n1_ n2_ n3_ n4_ n5_ n6_; clear hb hbox hg; have hcz81_0 : w80.cell? ⟨gb389, 0, none⟩ = some (.string (⟨#[]⟩ : ByteArray)) := (blk_cell BK389.out 0).trans rfl; have hcz81_1 : w80.cell? ⟨gb389, 1, none⟩ = some (.string (⟨#[]⟩ : ByteArray)) := (blk_cell BK389.out 1).trans rfl; have hcz81_2 : w80.cell? ⟨gb389, 2, none⟩ = some (.bool false) := (blk_cell BK389.out 2).trans rfl; have hfz81_0 := blk_frozen BK389.out 0; have hfz81_1 := blk_frozen BK389.out 1; have hfz81_2 := blk_frozen BK389.out 2) | ((with_reducible refine gate_dst (N := 63) rfl ?_); (try (refine gate_guard (by rfl) ?_; dsimp only)); refine Kd.R_lit k42 _ 42 ?hg (N := 63) ?hd (xs := ([(⟨(rd_T42 l1 (ji40)).f0, (rd_T42 l1 (ji40)).f1, false⟩ : S42)] : List (S42))) (inner := [.string ((rd_T42 l1 (ji40)).f0), .string ((rd_T42 l1 (ji40)).f1), .bool false]) (ok := fun _ => True) (okp := fun _ => True) ?hr ?hp (fun _ hk => hk) trivial (Below.refl _ _) (Nat.le_refl _) (by simp) ?_; (case hd => rfl); (case hg => rfl); (case hr => first | (go_simp; done) | (go_simp; rfl)); (case hp => exact (Reps.c3 (show Kd.M k42 _ _ _ (⟨(rd_T42 l1 (ji40)).f0, (rd_T42 l1 (ji40)).f1, false⟩ : S42) [.string ((rd_T42 l1 (ji40)).f0), .string ((rd_T42 l1 (ji40)).f1), .bool false] from (k42_mkM _ _ _ (⟨(rd_T42 l1 (ji40)).f0, (rd_T42 l1 (ji40)).f1, false⟩ : S42) )) (Reps.none _ _))); intro v391 w82 ho83 hb hg_ hnew_; clear hg_ hnew_; (first | rw [← Ny390.out] at ho83 | (simp only [Int.reduceToNat] at ho83; rw [← Ny390.out] at ho83)); have n0_ := Aside0.mk (Kd.R_below (by (with_reducible repeat (first | apply Kd.R_alloc | apply Kd.R_drewN | apply Kd.R_drew)); exact (Kd.R_mono (Kd.R_far (p := ⟨gb389, 2, none⟩) (Kd.R_far (p := ⟨gb389, 1, none⟩) (Kd.R_far (p := ⟨gb389, 0, none⟩) (Kd.R_types HO371.out BK389.out (by decide)) (fun _ hk => hk.2) (.string ((rd_T42 l1 (ji40)).f0))) (fun _ hk => hk.2) (.string ((rd_T42 l1 (ji40)).f1))) (fun _ hk => hk.2) (.bool false)) (fun _ h_ => h_.1))) hb); have n1_ := Aside0.mk (Kd.R_below (by (with_reducible repeat (first | apply Kd.R_alloc | apply Kd.R_drewN | apply Kd.R_drew)); exact (Kd.R_mono (Kd.R_far (p := ⟨gb389, 2, none⟩) (Kd.R_far (p := ⟨gb389, 1, none⟩) (Kd.R_far (p := ⟨gb389, 0, none⟩) (Kd.R_types HO378.out BK389.out (by decide)) (fun _ hk => hk.2) (.string ((rd_T42 l1 (ji40)).f0))) (fun _ hk => hk.2) (.string ((rd_T42 l1 (ji40)).f1))) (fun _ hk => hk.2) (.bool false)) (fun _ h_ => h_.1))) hb); have n2_ := Aside0.mk (Kd.R_below (by (with_reducible repeat (first | apply Kd.R_alloc | apply Kd.R_drewN | apply Kd.R_drew)); exact (Kd.R_mono (Kd.R_far (p := ⟨gb389, 2, none⟩) (Kd.R_far (p := ⟨gb389, 1, none⟩) (Kd.R_far (p := ⟨gb389, 0, none⟩) (Kd.R_types HO385.out BK389.out (by decide)) (fun _ hk => hk.2) (.string ((rd_T42 l1 (ji40)).f0))) (fun _ hk => hk.2) (.string ((rd_T42 l1 (ji40)).f1))) (fun _ hk => hk.2) (.bool false)) (fun _ h_ => h_.1))) hb); have n3_ := Aside0.mk (Kd.R_lower (Kd.R_newB ho83 (g := gb389) (o := .cells #[.string ((rd_T42 l1 (ji40)).f0), .string ((rd_T42 l1 (ji40)).f1), .bool false] 42 (0, 0)) (by (with_reducible repeat (first | refine blk_drewN ?_ _ | refine blk_drew ?_ | refine blk_alloc ?_ _)); refine blk_put (cs := #[.string ((rd_T42 l1 (ji40)).f0), .string ((rd_T42 l1 (ji40)).f1), .bool false]) ?_ 2 _ rfl; (with_reducible repeat (first | refine blk_drewN ?_ _ | refine blk_drew ?_ | refine blk_alloc ?_ _)); refine blk_put (cs := #[.string ((rd_T42 l1 (ji40)).f0), .string (⟨#[]⟩ : ByteArray), .bool false]) ?_ 1 _ rfl; (with_reducible repeat (first | refine blk_drewN ?_ _ | refine blk_drew ?_ | refine blk_alloc ?_ _)); refine blk_put (cs := #[.string (⟨#[]⟩ : ByteArray), .string (⟨#[]⟩ : ByteArray), .bool false]) ?_ 0 _ rfl; (with_reducible repeat (first | refine blk_drewN ?_ _ | refine blk_drew ?_ | refine blk_alloc ?_ _)); exact BK389.out)) (below_size (by repeat (first | (with_reducible first | exact HB.out | apply below_alloc | apply pw_below_drewN | apply below_drew1 | refine below_set ?_ GE389.out) | exact HB.out)))); have n4_ := Aside0.mk (blk_below (g := gb389) (o := .cells #[.string ((rd_T42 l1 (ji40)).f0), .string ((rd_T42 l1 (ji40)).f1), .bool false] 42 (0, 0)) (by (with_reducible repeat (first | refine blk_drewN ?_ _ | refine blk_drew ?_ | refine blk_alloc ?_ _)); refine blk_put (cs := #[.string ((rd_T42 l1 (ji40)).f0), .string ((rd_T42 l1 (ji40)).f1), .bool false]) ?_ 2 _ rfl; (with_reducible repeat (first | refine blk_drewN ?_ _ | refine blk_drew ?_ | refine blk_alloc ?_ _)); refine blk_put (cs := #[.string ((rd_T42 l1 (ji40)).f0), .string (⟨#[]⟩ : ByteArray), .bool false]) ?_ 1 _ rfl; (with_reducible repeat (first | refine blk_drewN ?_ _ | refine blk_drew ?_ | refine blk_alloc ?_ _)); refine blk_put (cs := #[.string (⟨#[]⟩ : ByteArray), .string (⟨#[]⟩ : ByteArray), .bool false]) ?_ 0 _ rfl; (with_reducible repeat (first | refine blk_drewN ?_ _ | refine blk_drew ?_ | refine blk_alloc ?_ _)); exact BK389.out) hb); have n5_ := Aside0.mk (below_step (by repeat (first | (with_reducible first | exact HB.out | apply below_alloc | apply pw_below_drewN | apply below_drew1 | refine below_set ?_ GE389.out) | exact HB.out)) hb); clear HO371; clear HO378; clear HO385; clear BK389; clear HB; have HO371 := n0_; have HO378 := n1_; have HO385 := n2_; have HO392 := n3_; have BK389 := n4_; have HB := n5_; clear n0_ n1_ n2_ n3_ n4_ n5_; clear hb ho83; obtain ⟨Ao84, co84, eo84⟩ := Kd.R_slice HO392.out; subst eo84) | ((with_reducible refine gate_callee (f := 32) rfl ?_); refine goesL_ (some 64) rfl rfl Try.func32 (by kernel_rfl) rfl #[.slice Ao84 y390.length co84] rfl (by (try simp only [List.map_toArray, List.map_cons, List.map_nil]); first | done | rfl | (simp only [List.length_drop, List.length_take]; rfl)) ?_; (with_reducible refine (sheetpileref19_Check.calls kj3 _ _ y390 t393 _ ?side1 ?side2 A43.out).mono ?_); (case side1 => repeat (first | exact (Kd.R_reads' HO392.out).2.2 | (with_reducible refine Kd.C_alloc ?_ _) | (with_reducible refine Kd.C_drewN ?_ _) | (with_reducible refine Kd.C_drew ?_))); (case side2 => exact (Kd.R_reads' HO392.out).2.1); rintro e w85 ⟨rfl, hb⟩; refine ⟨_, rfl, ?_⟩; have n0_ := Aside0.mk (Kd.R_below (by (with_reducible repeat (first | apply Kd.R_alloc | apply Kd.R_drewN | apply Kd.R_drew)); exact HO371.out) hb); have n1_ := Aside0.mk (Kd.R_below (by (with_reducible repeat (first | apply Kd.R_alloc | apply Kd.R_drewN | apply Kd.R_drew)); exact HO378.out) hb); have n2_ := Aside0.mk (Kd.R_below (by (with_reducible repeat (first | apply Kd.R_alloc | apply Kd.R_drewN | apply Kd.R_drew)); exact HO385.out) hb); have n3_ := Aside0.mk (Kd.R_below (by (with_reducible repeat (first | apply Kd.R_alloc | apply Kd.R_drewN | apply Kd.R_drew)); exact HO392.out) hb); have n4_ := Aside0.mk (blk_below (g := gb389) (o := .cells #[.string ((rd_T42 l1 (ji40)).f0), .string ((rd_T42 l1 (ji40)).f1), .bool false] 42 (0, 0)) (by (with_reducible repeat (first | refine blk_drewN ?_ _ | refine blk_drew ?_ | refine blk_alloc ?_ _)); exact BK389.out) hb); have n5_ := Aside0.mk (below_step (by repeat (first | (with_reducible first | exact HB.out | apply below_alloc | apply pw_below_drewN | apply below_drew1 | refine below_set ?_ GE389.out) | exact HB.out)) hb); clear HO371; clear HO378; clear HO385; clear HO392; clear BK389; clear HB; have HO371 := n0_; have HO378 := n1_; have HO385 := n2_; have HO392 := n3_; have BK389 := n4_; have HB := n5_; clear n0_ n1_ n2_ n3_ n4_ n5_; (try clear hb); (try clear hb2); (try clear hk); (try clear hi); have hcz86_0 : w85.cell? ⟨gb389, 0, none⟩ = some (.string ((rd_T42 l1 (ji40)).f0)) := (blk_cell BK389.out 0).trans rfl; have hcz86_1 : w85.cell? ⟨gb389, 1, none⟩ = some (.string ((rd_T42 l1 (ji40)).f1)) := (blk_cell BK389.out 1).trans rfl; have hcz86_2 : w85.cell? ⟨gb389, 2, none⟩ = some (.bool false) := (blk_cell BK389.out 2).trans rfl; have hfz86_0 := blk_frozen BK389.out 0; have hfz86_1 := blk_frozen BK389.out 1; have hfz86_2 := blk_frozen BK389.out 2) | ((with_reducible refine gate_callee (f := 19) rfl ?_); refine goesL_ (some 71) rfl rfl Try.func19 (by kernel_rfl) rfl #[.slice Ao78 t369.length co78, .string ((rd_T42 l1 (ji40)).f0)] rfl (by (try simp only [List.map_toArray, List.map_cons, List.map_nil]); first | done | (simp only [hji40]; rfl) | rfl | (simp only [List.length_drop, List.length_take]; rfl)) ?_; (with_reducible refine (dir_Get.calls _ _ t369 ((rd_T42 l1 (ji40)).f0) t394 t395 _ ?side1 ?side2 A45.out).mono ?_); (case side1 => repeat (first | exact (Kd.R_reads' HO371.out).2.2 | (with_reducible refine Kd.C_alloc ?_ _) | (with_reducible refine Kd.C_drewN ?_ _) | (with_reducible refine Kd.C_drew ?_))); (case side2 => exact (Kd.R_reads' HO371.out).2.1); rintro e w87 ⟨rfl, hb⟩; refine ⟨_, rfl, ?_⟩; have n0_ := Aside0.mk (Kd.R_below (by (with_reducible repeat (first | apply Kd.R_alloc | apply Kd.R_drewN | apply Kd.R_drew)); exact HO371.out) hb); have n1_ := Aside0.mk (Kd.R_below (by (with_reducible repeat (first | apply Kd.R_alloc | apply Kd.R_drewN | apply Kd.R_drew)); exact HO378.out) hb); have n2_ := Aside0.mk (Kd.R_below (by (with_reducible repeat (first | apply Kd.R_alloc | apply Kd.R_drewN | apply Kd.R_drew)); exact HO385.out) hb); have n3_ := Aside0.mk (Kd.R_below (by (with_reducible repeat (first | apply Kd.R_alloc | apply Kd.R_drewN | apply Kd.R_drew)); exact HO392.out) hb); have n4_ := Aside0.mk (blk_below (g := gb389) (o := .cells #[.string ((rd_T42 l1 (ji40)).f0), .string ((rd_T42 l1 (ji40)).f1), .bool false] 42 (0, 0)) (by (with_reducible repeat (first | refine blk_drewN ?_ _ | refine blk_drew ?_ | refine blk_alloc ?_ _)); exact BK389.out) hb); have n5_ := Aside0.mk (below_step (by repeat (first | (with_reducible first | exact HB.out | apply below_alloc | apply pw_below_drewN | apply below_drew1 | refine below_set ?_ GE389.out) | exact HB.out)) hb); clear HO371; clear HO378; clear HO385; clear HO392; clear BK389; clear HB; have HO371 := n0_; have HO378 := n1_; have HO385 := n2_; have HO392 := n3_; have BK389 := n4_; have HB := n5_; clear n0_ n1_ n2_ n3_ n4_ n5_; (try clear hb); (try clear hb2); (try clear hk); (try clear hi); have hcz88_0 : w87.cell? ⟨gb389, 0, none⟩ = some (.string ((rd_T42 l1 (ji40)).f0)) := (blk_cell BK389.out 0).trans rfl; have hcz88_1 : w87.cell? ⟨gb389, 1, none⟩ = some (.string ((rd_T42 l1 (ji40)).f1)) := (blk_cell BK389.out 1).trans rfl; have hcz88_2 : w87.cell? ⟨gb389, 2, none⟩ = some (.bool false) := (blk_cell BK389.out 2).trans rfl; have hfz88_0 := blk_frozen BK389.out 0; have hfz88_1 := blk_frozen BK389.out 1; have hfz88_2 := blk_frozen BK389.out 2) | (go_at_call 17; (with_reducible refine (sheetpilelaw21_live.calls kj3  t397 _ A70.out).mono ?_); rintro e w89 ⟨rfl, hb⟩; have n0_ := Aside0.mk (Kd.R_below (by (with_reducible repeat (first | apply Kd.R_alloc | apply Kd.R_drewN | apply Kd.R_drew)); exact HO371.out) hb); have n1_ := Aside0.mk (Kd.R_below (by (with_reducible repeat (first | apply Kd.R_alloc | apply Kd.R_drewN | apply Kd.R_drew)); exact HO378.out) hb); have n2_ := Aside0.mk (Kd.R_below (by (with_reducible repeat (first | apply Kd.R_alloc | apply Kd.R_drewN | apply Kd.R_drew)); exact HO385.out) hb); have n3_ := Aside0.mk (Kd.R_below (by (with_reducible repeat (first | apply Kd.R_alloc | apply Kd.R_drewN | apply Kd.R_drew)); exact HO392.out) hb); have n4_ := Aside0.mk (blk_below (g := gb389) (o := .cells #[.string ((rd_T42 l1 (ji40)).f0), .string ((rd_T42 l1 (ji40)).f1), .bool false] 42 (0, 0)) (by (with_reducible repeat (first | refine blk_drewN ?_ _ | refine blk_drew ?_ | refine blk_alloc ?_ _)); exact BK389.out) hb); have n5_ := Aside0.mk (below_step (by repeat (first | (with_reducible first | exact HB.out | apply below_alloc | apply pw_below_drewN | apply below_drew1 | refine below_set ?_ GE389.out) | exact HB.out)) hb); clear HO371; clear HO378; clear HO385; clear HO392; clear BK389; clear HB; have HO371 := n0_; have HO378 := n1_; have HO385 := n2_; have HO392 := n3_; have BK389 := n4_; have HB := n5_; clear n0_ n1_ n2_ n3_ n4_ n5_; (try clear hb); (try clear hb2); (try clear hk); (try clear hi)))
                            go_ret
                            exact ⟨by first | rfl | (simp [errW_none, errW_some] <;> rfl) | (simp only [← hji40]; first | rfl | (simp [errW_none, errW_some] <;> rfl)) | (simp [*, errW_none, errW_some] <;> rfl), by repeat (first | (with_reducible first | exact HB.out | apply below_alloc | apply pw_below_drewN | apply below_drew1 | refine below_set ?_ GE389.out) | exact HB.out)⟩
                          · rw [if_neg c69] at H
                            have c69b0 : (t394.toList == ((rd_T42 l1 (ji40)).f1).toList) = false := beq_eq_false_iff_ne.mpr c69
                            have c69b1 : (t394.toList != ((rd_T42 l1 (ji40)).f1).toList) = true := bne_iff_ne.mpr c69
                            obtain rfl := Option.some.inj H
                            try go_wp2_with (first | ((with_reducible refine gate_callee (f := 18) rfl ?_); refine goesL_ (some 38) rfl rfl Try.func18 (by kernel_rfl) rfl #[.slice A0 l0.length c0, .slice A1 l1.length c1] rfl (by (try simp only [List.map_toArray, List.map_cons, List.map_nil]); first | done | rfl | (simp only [List.length_drop, List.length_take]; rfl)) ?_; (with_reducible refine (dir_Apply.calls _ _ l0 _ _ l1 t369 _ ?side1 ?side2 ?side3 ?side4 A19.out).mono ?_); (case side1 => repeat (first | exact (Kd.C_below HR0.out HB.out) | (with_reducible refine Kd.C_alloc ?_ _) | (with_reducible refine Kd.C_drewN ?_ _) | (with_reducible refine Kd.C_drew ?_))); (case side2 => exact HC0.out); (case side3 => repeat (first | exact (Kd.C_below HR1.out HB.out) | (with_reducible refine Kd.C_alloc ?_ _) | (with_reducible refine Kd.C_drewN ?_ _) | (with_reducible refine Kd.C_drew ?_))); (case side4 => exact HC1.out); rintro e w90 ⟨v370, rfl, ho0, hb⟩; refine ⟨_, rfl, ?_⟩; have n0_ := Aside0.mk (Kd.R_lower ho0 (below_size (by repeat (first | (with_reducible first | exact HB.out | apply below_alloc | apply pw_below_drewN | apply below_drew1) | exact HB.out)))); have n1_ := Aside0.mk (below_step (by repeat (first | (with_reducible first | exact HB.out | apply below_alloc | apply pw_below_drewN | apply below_drew1) | exact HB.out)) hb); clear HB; have HO371 := n0_; have HB := n1_; clear n0_ n1_; (try clear hb); (try clear hb2); (try clear hk); (try clear hi); (try clear ho0)))
                            have n0_ := Aside0.mk (Kd.R_drew HO371.out)
                            have n1_ := Aside0.mk (below_drew1 HB.out)
                            clear HO371
                            clear HB
                            have HO371 := n0_
                            have HB := n1_
                            clear n0_ n1_
                            have q92 : (a2 : Int) ≤ ((l1.length : Int) : Int) := of_decide_eq_true (by first | (with_reducible assumption) | assumption)
                            obtain ⟨i092, hi092, _, hsz92, _⟩ := info_parts info42
                            have hroom92 : l1.length ≤ c1 := HC1.out
                            have hC92 : Kd.C k42 _ A1 l1.length l1 := HR1.out
                            have hcut92 := cut_to (P := Try.prog) 23 42 .i64 Try.underlying23 hi092 A1 l1.length c1 a2 (of_decide_eq_true (by first | (with_reducible assumption) | assumption)) q92 hroom92
                            have hr92 := Kd.C_take (m := (a2 : Int).toNat) hC92 (by omega)
                            have hy92 : y372.length = (a2 : Int).toNat := (by rw [Ny372.out, List.length_take]; omega)
                            rw [← Ny372.out] at hr92
                            rw [← hy92] at hcut92
                            have HR375 := Aside0.mk hr92
                            have HC375 := Aside0.mk (show y372.length ≤ c1 from by omega)
                            clear hr92 hC92 hroom92 hi092 hsz92
                            have KY92 := Aside0.mk hy92
                            clear hy92
                            replace q92 := eq_true q92
                            have q93 : (a2 : Int) ≤ ((l1.length : Int) : Int) := of_decide_eq_true (by first | (with_reducible assumption) | assumption)
                            obtain ⟨i093, hi093, _, hsz93, _⟩ := info_parts info42
                            have hroom93 : l1.length ≤ c1 := HC1.out
                            have hC93 : Kd.C k42 _ A1 l1.length l1 := HR1.out
                            have q093 : (0 : Int) ≤ (a2 : Int) := of_decide_eq_true (by first | (with_reducible assumption) | assumption)
                            have hcut93 := cut_from (P := Try.prog) 23 42 .i64 Try.underlying23 hi093 3 hsz93 A1 l1.length c1 a2 q093 q93
                            have hr93 := Kd.C_drop (m := (a2 : Int).toNat) (c := c1) hC93 (by omega) hroom93
                            obtain ⟨A93, hA93⟩ : ∃ Ab_, Ab_ = (if c1 = (a2 : Int).toNat then A1 else (A1 : Option Addr).map (·.add ((a2 : Int).toNat * 3))) := ⟨_, rfl⟩
                            obtain ⟨c93, hc93⟩ : ∃ cb_, cb_ = c1 - (a2 : Int).toNat := ⟨_, rfl⟩
                            have hy93 : y379.length = l1.length - (a2 : Int).toNat := (by rw [Ny379.out, List.length_drop] <;> omega)
                            rw [show (l1).drop (a2 : Int).toNat = y379 from Ny379.out.symm] at hr93
                            replace hr93 : Kd.C k42 _ A93 y379.length y379 := (by rw [hA93]; exact hr93)
                            rw [← hy93, ← hA93, ← hc93] at hcut93
                            have HR382 := Aside0.mk hr93
                            have HC382 := Aside0.mk (show y379.length ≤ c93 from by rw [hy93, hc93]; exact Nat.sub_le_sub_right hroom93 _)
                            clear hr93 hC93 hroom93 hi093 hsz93 hc93
                            have KY93 := Aside0.mk hy93
                            have KA93 := Aside0.mk hA93
                            clear hy93 hA93
                            replace q93 := eq_true q93
                            refine start_ (n := 10) (S := fun w' => True) (ds := []) #[false, false, false, false, false, false, false, false, false, false] (by kernel_rfl) rfl rfl trivial (fun hHeld => ?_); refine with_tabW sheetpilelaw21_DirParts.tab4 sheetpilelaw21_DirParts.bits4 (fun HT_ HW_ => ?_)
                            generalize w90.drew = w91 at HO371 HB HR375 HR382 hHeld ⊢
                            refine pure_ (i := 0) (N := some 39) (v := ?_) (a' := ?_) #[true, false, false, false, false, false, false, false, false, false] rfl rfl (any_of HT_.out (by kernel_rfl)) (fun _ _ _ h => h) (Or.inl ⟨by rfl, ?_⟩) ?_ ?_
                            rotate_left
                            · intro w'
                              go_simp
                              with_reducible rfl
                            rotate_left
                            · simp only [Act.put, List.setIfInBounds_toArray, List.set_cons_zero, List.set_cons_succ, i64_w, i32_w]
                              rfl
                            refine pure_ (i := 1) (N := some 40) (v := ?_) (a' := ?_) #[true, true, false, false, false, false, false, false, false, false] rfl rfl (any_of HT_.out (by kernel_rfl)) (fun _ _ _ h => h) (Or.inl ⟨by rfl, ?_⟩) ?_ ?_
                            rotate_left
                            · intro w'
                              go_simp
                              with_reducible rfl
                            rotate_left
                            · simp only [Act.put, List.setIfInBounds_toArray, List.set_cons_zero, List.set_cons_succ, i64_w, i32_w]
                              rfl
                            refine pure_ (i := 2) (N := some 41) (v := ?_) (a' := ?_) #[true, true, true, false, false, false, false, false, false, false] rfl rfl (any_of HT_.out (by kernel_rfl)) (fun _ _ _ h => h) (Or.inl ⟨by rfl, ?_⟩) ?_ ?_
                            rotate_left
                            · intro w'
                              go_simp
                              with_reducible rfl
                            rotate_left
                            · simp only [Act.put, List.setIfInBounds_toArray, List.set_cons_zero, List.set_cons_succ, i64_w, i32_w]
                              rfl
                            refine pure_ (i := 3) (N := some 42) (v := ?_) (a' := ?_) #[true, true, true, true, false, false, false, false, false, false] rfl rfl (any_of HT_.out (by kernel_rfl)) (fun _ _ _ h => h) (Or.inl ⟨by rfl, ?_⟩) ?_ ?_
                            rotate_left
                            · intro w'
                              go_simp
                              with_reducible rfl
                            rotate_left
                            · simp only [Act.put, List.setIfInBounds_toArray, List.set_cons_zero, List.set_cons_succ, i64_w, i32_w]
                              rfl
                            refine pure_ (i := 5) (N := some 44) (v := ?_) (a' := ?_) #[true, true, true, true, false, true, false, false, false, false] rfl rfl (any_of HT_.out (by kernel_rfl)) (fun _ _ _ h => h) (Or.inl ⟨by rfl, ?_⟩) ?_ ?_
                            rotate_left
                            · intro w'
                              go_simp
                              with_reducible rfl
                            rotate_left
                            · simp only [Act.put, List.setIfInBounds_toArray, List.set_cons_zero, List.set_cons_succ, i64_w, i32_w]
                              rfl
                            refine pure_ (i := 6) (N := some 45) (v := ?_) (a' := ?_) #[true, true, true, true, false, true, true, false, false, false] rfl rfl (any_of HT_.out (by kernel_rfl)) (fun _ _ _ h => h) (Or.inl ⟨by rfl, ?_⟩) ?_ ?_
                            rotate_left
                            · intro w'
                              go_simp
                              with_reducible rfl
                            rotate_left
                            · simp only [Act.put, List.setIfInBounds_toArray, List.set_cons_zero, List.set_cons_succ, i64_w, i32_w]
                              rfl
                            refine pure_ (i := 7) (N := some 46) (v := ?_) (a' := ?_) #[true, true, true, true, false, true, true, true, false, false] rfl rfl (any_of HT_.out (by kernel_rfl)) (fun _ _ _ h => h) (Or.inl ⟨by rfl, ?_⟩) ?_ ?_
                            rotate_left
                            · intro w'
                              go_simp
                              with_reducible rfl
                            rotate_left
                            · simp only [Act.put, List.setIfInBounds_toArray, List.set_cons_zero, List.set_cons_succ, i64_w, i32_w]
                              rfl
                            refine one_ (i := 4) (N := some 43) #[true, true, true, true, true, true, true, true, false, false] rfl rfl (one_of HT_.out (by kernel_rfl)) (by decide) (fun K hK => ?_)
                            refine goes_ Try.func18 (by kernel_rfl) rfl #[.slice A0 l0.length c0, .slice A1 y372.length c1] (by rfl) rfl rfl (by (try simp only [List.map_toArray, List.map_cons, List.map_nil]); first | done | rfl | (simp only [List.length_drop, List.length_take]; rfl)) ?_
                            with_reducible refine (dir_Apply.calls _ _ l0 _ _ y372 t376 _ ?side1 ?side2 ?side3 ?side4 A22.out).mono ?_
                            (case side1 => repeat (first | exact (Kd.C_below HR0.out HB.out) | (with_reducible refine Kd.C_alloc ?_ _) | (with_reducible refine Kd.C_drewN ?_ _) | (with_reducible refine Kd.C_drew ?_)))
                            (case side2 => exact HC0.out)
                            (case side3 => repeat (first | exact (Kd.C_below HR375.out HB.out) | (with_reducible refine Kd.C_alloc ?_ _) | (with_reducible refine Kd.C_drewN ?_ _) | (with_reducible refine Kd.C_drew ?_)))
                            (case side4 => exact HC375.out)
                            rintro e w94 ⟨v377, rfl, ho0, hb⟩
                            refine ⟨_, rfl, ?_⟩
                            have n0_ := Aside0.mk (Kd.R_elder' (by (with_reducible repeat (first | apply Kd.R_alloc | apply Kd.R_drewN | apply Kd.R_drew)); exact HO371.out) (Kd.R_base ho0) hb)
                            have n1_ := Aside0.mk (Kd.R_lower (Kd.R_new' ho0 (Kd.R_lt (by (with_reducible repeat (first | apply Kd.R_alloc | apply Kd.R_drewN | apply Kd.R_drew)); exact HO371.out))) (below_size (by repeat (first | (with_reducible first | exact HB.out | apply below_alloc | apply pw_below_drewN | apply below_drew1) | exact HB.out))))
                            have n2_ := Aside0.mk (below_step (by repeat (first | (with_reducible first | exact HB.out | apply below_alloc | apply pw_below_drewN | apply below_drew1) | exact HB.out)) hb)
                            clear HO371
                            clear HB
                            have HO371 := n0_
                            have HO378 := n1_
                            have HB := n2_
                            clear n0_ n1_ n2_
                            (try clear hb)
                            (try clear hb2)
                            (try clear hk)
                            (try clear hi)
                            (try clear ho0)
                            obtain ⟨Ao95, co95, eo95⟩ := Kd.R_slice HO378.out
                            (first | subst eo95 | (injection eo95 with f1_ f2_ f3_; have f4_ := f1_.symm; have f5_ := f3_.symm; clear f1_ f2_ f3_; subst f4_; subst f5_))
                            refine hK.out _ _ trivial (fun hHeld => ?_)
                            clear hK K
                            refine norm_ (a' := ?_) ?_ ?_
                            rotate_left
                            · show Act.put _ (some 43) _ = _
                              simp only [Act.put, List.setIfInBounds_toArray, List.set_cons_zero, List.set_cons_succ, i64_w, i32_w]
                              rfl
                            refine one_ (i := 8) (N := some 47) #[true, true, true, true, true, true, true, true, true, false] rfl rfl (one_of HT_.out (by kernel_rfl)) (by decide) (fun K hK => ?_)
                            refine goes_ Try.func18 (by kernel_rfl) rfl #[.slice Ao95 t376.length co95, .slice A93 y379.length c93] (by rfl) rfl rfl (by (try simp only [List.map_toArray, List.map_cons, List.map_nil]); first | done | rfl | (simp only [List.length_drop, List.length_take]; rfl)) ?_
                            with_reducible refine (dir_Apply.calls _ _ t376 _ _ y379 t383 _ ?side1 ?side2 ?side3 ?side4 A25.out).mono ?_
                            (case side1 => repeat (first | exact (Kd.R_reads' HO378.out).2.2 | (with_reducible refine Kd.C_alloc ?_ _) | (with_reducible refine Kd.C_drewN ?_ _) | (with_reducible refine Kd.C_drew ?_)))
                            (case side2 => exact (Kd.R_reads' HO378.out).2.1)
                            (case side3 => repeat (first | exact (Kd.C_below HR382.out HB.out) | (with_reducible refine Kd.C_alloc ?_ _) | (with_reducible refine Kd.C_drewN ?_ _) | (with_reducible refine Kd.C_drew ?_)))
                            (case side4 => exact HC382.out)
                            rintro e w96 ⟨v384, rfl, ho0, hb⟩
                            refine ⟨_, rfl, ?_⟩
                            have n0_ := Aside0.mk (Kd.R_elder' (by (with_reducible repeat (first | apply Kd.R_alloc | apply Kd.R_drewN | apply Kd.R_drew)); exact HO371.out) (Kd.R_base ho0) hb)
                            have n1_ := Aside0.mk (Kd.R_elder' (by (with_reducible repeat (first | apply Kd.R_alloc | apply Kd.R_drewN | apply Kd.R_drew)); exact HO378.out) (Kd.R_base ho0) hb)
                            have n2_ := Aside0.mk (Kd.R_lower (Kd.R_new' (Kd.R_new' ho0 (Kd.R_lt (by (with_reducible repeat (first | apply Kd.R_alloc | apply Kd.R_drewN | apply Kd.R_drew)); exact HO371.out))) (Kd.R_lt (by (with_reducible repeat (first | apply Kd.R_alloc | apply Kd.R_drewN | apply Kd.R_drew)); exact HO378.out))) (below_size (by repeat (first | (with_reducible first | exact HB.out | apply below_alloc | apply pw_below_drewN | apply below_drew1) | exact HB.out))))
                            have n3_ := Aside0.mk (below_step (by repeat (first | (with_reducible first | exact HB.out | apply below_alloc | apply pw_below_drewN | apply below_drew1) | exact HB.out)) hb)
                            clear HO371
                            clear HO378
                            clear HB
                            have HO371 := n0_
                            have HO378 := n1_
                            have HO385 := n2_
                            have HB := n3_
                            clear n0_ n1_ n2_ n3_
                            (try clear hb)
                            (try clear hb2)
                            (try clear hk)
                            (try clear hi)
                            (try clear ho0)
                            refine hK.out _ _ trivial (fun hHeld => ?_)
                            clear hK K
                            refine norm_ (a' := ?_) ?_ ?_
                            rotate_left
                            · show Act.put _ (some 47) _ = _
                              simp only [Act.put, List.setIfInBounds_toArray, List.set_cons_zero, List.set_cons_succ, i64_w, i32_w]
                              rfl
                            refine pure_ (i := 9) (N := some 8) (v := ?_) (a' := ?_) #[true, true, true, true, true, true, true, true, true, true] rfl rfl (any_of HT_.out (by kernel_rfl)) (fun _ _ _ h => h) (Or.inl ⟨by rfl, ?_⟩) ?_ ?_
                            rotate_left
                            · intro w'
                              go_simp
                              with_reducible rfl
                            rotate_left
                            · simp only [Act.put, List.setIfInBounds_toArray, List.set_cons_zero, List.set_cons_succ, i64_w, i32_w]
                              rfl
                            refine done_ (done_of HT_.out (by kernel_rfl)) ?_
                            obtain ⟨Ao97, co97, eo97⟩ := Kd.R_slice HO371.out
                            subst eo97
                            obtain ⟨Ao98, co98, eo98⟩ := Kd.R_slice HO385.out
                            subst eo98
                            have Ny390b := Ny390.out
                            rw [← Nbq47.out] at Ny390b c46b0
                            clear Ny390
                            have Ny390 := Aside0.mk Ny390b
                            clear Ny390b
                            have t395e : t395 = true := by simpa using c46b0
                            have t395a : (t395 == true) = true := by rw [t395e]; rfl
                            try go_wp2_with (first | ((with_reducible refine gate_callee (f := 21) rfl ?_); refine goesL_ (some 50) rfl rfl Try.func21 (by kernel_rfl) rfl #[.slice Ao97 t369.length co97, .slice Ao98 t383.length co98] rfl (by (try simp only [List.map_toArray, List.map_cons, List.map_nil]); first | done | rfl | (simp only [List.length_drop, List.length_take]; rfl)) ?_; (with_reducible refine (sheetpileref21_Same.calls kj3 _ _ t369 _ _ t383 true _ ?side1 ?side2 ?side3 ?side4 A26.out).mono ?_); (case side1 => repeat (first | exact (Kd.R_reads' HO371.out).2.2 | (with_reducible refine Kd.C_alloc ?_ _) | (with_reducible refine Kd.C_drewN ?_ _) | (with_reducible refine Kd.C_drew ?_))); (case side2 => exact (Kd.R_reads' HO371.out).2.1); (case side3 => repeat (first | exact (Kd.R_reads' HO385.out).2.2 | (with_reducible refine Kd.C_alloc ?_ _) | (with_reducible refine Kd.C_drewN ?_ _) | (with_reducible refine Kd.C_drew ?_))); (case side4 => exact (Kd.R_reads' HO385.out).2.1); rintro e w' ⟨rfl, ⟨nd, rfl⟩⟩; refine ⟨_, rfl, ?_⟩; (try (rw [drewN_self w96]; generalize hq_ : World.drewN w96 _ = w96; have n0_ : Aside0 (Kd.R k75 75 w96 w.heap.size (fun k_ => some k_ ≠ (.slice Ao95 t376.length co95 : Value).ownBlock ∧ some k_ ≠ (.slice Ao98 t383.length co98 : Value).ownBlock) (.slice Ao97 t369.length co97) t369) := ⟨by rw [← hq_]; exact (by (with_reducible repeat (first | apply Kd.R_alloc | apply Kd.R_drewN | apply Kd.R_drew)); exact Kd.R_mono HO371.out (fun _ hk => ⟨hk.1.2, hk.2⟩))⟩; have n1_ : Aside0 (Kd.R k75 75 w96 w.heap.size (fun k_ => some k_ ≠ (.slice Ao97 t369.length co97 : Value).ownBlock ∧ some k_ ≠ (.slice Ao98 t383.length co98 : Value).ownBlock) (.slice Ao95 t376.length co95) t376) := ⟨by rw [← hq_]; exact (by (with_reducible repeat (first | apply Kd.R_alloc | apply Kd.R_drewN | apply Kd.R_drew)); exact Kd.R_mono HO378.out (fun _ hk => ⟨hk.1.2, hk.2⟩))⟩; have n2_ : Aside0 (Kd.R k75 75 w96 w.heap.size (fun k_ => some k_ ≠ (.slice Ao97 t369.length co97 : Value).ownBlock ∧ some k_ ≠ (.slice Ao95 t376.length co95 : Value).ownBlock) (.slice Ao98 t383.length co98) t383) := ⟨by rw [← hq_]; exact (by (with_reducible repeat (first | apply Kd.R_alloc | apply Kd.R_drewN | apply Kd.R_drew)); exact Kd.R_mono HO385.out (fun _ hk => ⟨hk.1.2, hk.2⟩))⟩; have n3_ : Aside0 (Below w.heap.size w w96) := ⟨by rw [← hq_]; exact (by repeat (first | (with_reducible first | exact HB.out | apply below_alloc | apply pw_below_drewN | apply below_drew1) | exact HB.out))⟩; clear HO371 HO378 HO385 HB hq_; have HO371 := n0_; have HO378 := n1_; have HO385 := n2_; have HB := n3_; clear n0_ n1_ n2_ n3_)); have p388 : 0 ≤ ((ji40) : Int) := of_decide_eq_true (by first | (with_reducible assumption) | assumption); have q388 : (ji40) < (l1.length : Int) := of_decide_eq_true (by first | (with_reducible assumption) | assumption); obtain ⟨ad388, e388, hx388_0, hx388_1, hx388_2⟩ := at_T42 HR1.out (ji40) p388 q388; (try rw [← Nbq47.out] at hx388_2); cases e388; replace hx388_0 := (HB.out.cell (World.block_lt_of_cell? w _ hx388_0)).trans hx388_0; replace hx388_1 := (HB.out.cell (World.block_lt_of_cell? w _ hx388_1)).trans hx388_1; replace hx388_2 := (HB.out.cell (World.block_lt_of_cell? w _ hx388_2)).trans hx388_2; replace p388 := eq_true p388; replace q388 := eq_true q388) | ((with_reducible refine gate_dst (N := 9) rfl ?_); (try (refine gate_guard (by rfl) ?_; dsimp only)); refine box_event ?hg (N := 9) ?hd (cs := #[.string (⟨#[]⟩ : ByteArray), .string (⟨#[]⟩ : ByteArray), .bool false]) (t := 42) ?hr ?_; (case hd => rfl); (case hg => rfl); (case hr => first | (go_simp; done) | (go_simp; rfl)); intro gb389 hg w99 hbox hb; have n0_ := Aside0.mk (Kd.R_below (by (with_reducible repeat (first | apply Kd.R_alloc | apply Kd.R_drewN | apply Kd.R_drew)); exact HO371.out) hb); have n1_ := Aside0.mk (Kd.R_below (by (with_reducible repeat (first | apply Kd.R_alloc | apply Kd.R_drewN | apply Kd.R_drew)); exact HO378.out) hb); have n2_ := Aside0.mk (Kd.R_below (by (with_reducible repeat (first | apply Kd.R_alloc | apply Kd.R_drewN | apply Kd.R_drew)); exact HO385.out) hb); have n3_ := Aside0.mk (below_step (by repeat (first | (with_reducible first | exact HB.out | apply below_alloc | apply pw_below_drewN | apply below_drew1) | exact HB.out)) hb); have n4_ := Aside0.mk (hbox); have n5_ := Aside0.mk ((by rw [hg]; exact (below_size (by repeat (first | (with_reducible first | exact HB.out | apply below_alloc | apply pw_below_drewN | apply below_drew1) | exact HB.out))) : w.heap.size ≤ gb389)); have n6_ := Aside0.mk ((by rw [hg]; exact (below_size (by repeat (first | (with_reducible first | exact HB.out | apply below_alloc | apply pw_below_drewN | apply below_drew1) | exact HB.out))) : w.heap.size ≤ gb389)); clear HO371; clear HO378; clear HO385; clear HB; have HO371 := n0_; have HO378 := n1_; have HO385 := n2_; have HB := n3_; have BK389 := n4_; have GW389 := n5_; have GE389 := n6_; clear n0_ n1_ n2_ n3_ n4_ n5_ n6_; clear hb hbox hg; have hcz100_0 : w99.cell? ⟨gb389, 0, none⟩ = some (.string (⟨#[]⟩ : ByteArray)) := (blk_cell BK389.out 0).trans rfl; have hcz100_1 : w99.cell? ⟨gb389, 1, none⟩ = some (.string (⟨#[]⟩ : ByteArray)) := (blk_cell BK389.out 1).trans rfl; have hcz100_2 : w99.cell? ⟨gb389, 2, none⟩ = some (.bool false) := (blk_cell BK389.out 2).trans rfl; have hfz100_0 := blk_frozen BK389.out 0; have hfz100_1 := blk_frozen BK389.out 1; have hfz100_2 := blk_frozen BK389.out 2) | ((with_reducible refine gate_dst (N := 63) rfl ?_); (try (refine gate_guard (by rfl) ?_; dsimp only)); refine Kd.R_lit k42 _ 42 ?hg (N := 63) ?hd (xs := ([(⟨(rd_T42 l1 (ji40)).f0, (rd_T42 l1 (ji40)).f1, false⟩ : S42)] : List (S42))) (inner := [.string ((rd_T42 l1 (ji40)).f0), .string ((rd_T42 l1 (ji40)).f1), .bool false]) (ok := fun _ => True) (okp := fun _ => True) ?hr ?hp (fun _ hk => hk) trivial (Below.refl _ _) (Nat.le_refl _) (by simp) ?_; (case hd => rfl); (case hg => rfl); (case hr => first | (go_simp; done) | (go_simp; rfl)); (case hp => exact (Reps.c3 (show Kd.M k42 _ _ _ (⟨(rd_T42 l1 (ji40)).f0, (rd_T42 l1 (ji40)).f1, false⟩ : S42) [.string ((rd_T42 l1 (ji40)).f0), .string ((rd_T42 l1 (ji40)).f1), .bool false] from (k42_mkM _ _ _ (⟨(rd_T42 l1 (ji40)).f0, (rd_T42 l1 (ji40)).f1, false⟩ : S42) )) (Reps.none _ _))); intro v391 w101 ho102 hb hg_ hnew_; clear hg_ hnew_; (first | rw [← Ny390.out] at ho102 | (simp only [Int.reduceToNat] at ho102; rw [← Ny390.out] at ho102)); have n0_ := Aside0.mk (Kd.R_below (by (with_reducible repeat (first | apply Kd.R_alloc | apply Kd.R_drewN | apply Kd.R_drew)); exact (Kd.R_mono (Kd.R_far (p := ⟨gb389, 2, none⟩) (Kd.R_far (p := ⟨gb389, 1, none⟩) (Kd.R_far (p := ⟨gb389, 0, none⟩) (Kd.R_types HO371.out BK389.out (by decide)) (fun _ hk => hk.2) (.string ((rd_T42 l1 (ji40)).f0))) (fun _ hk => hk.2) (.string ((rd_T42 l1 (ji40)).f1))) (fun _ hk => hk.2) (.bool false)) (fun _ h_ => h_.1))) hb); have n1_ := Aside0.mk (Kd.R_below (by (with_reducible repeat (first | apply Kd.R_alloc | apply Kd.R_drewN | apply Kd.R_drew)); exact (Kd.R_mono (Kd.R_far (p := ⟨gb389, 2, none⟩) (Kd.R_far (p := ⟨gb389, 1, none⟩) (Kd.R_far (p := ⟨gb389, 0, none⟩) (Kd.R_types HO378.out BK389.out (by decide)) (fun _ hk => hk.2) (.string ((rd_T42 l1 (ji40)).f0))) (fun _ hk => hk.2) (.string ((rd_T42 l1 (ji40)).f1))) (fun _ hk => hk.2) (.bool false)) (fun _ h_ => h_.1))) hb); have n2_ := Aside0.mk (Kd.R_below (by (with_reducible repeat (first | apply Kd.R_alloc | apply Kd.R_drewN | apply Kd.R_drew)); exact (Kd.R_mono (Kd.R_far (p := ⟨gb389, 2, none⟩) (Kd.R_far (p := ⟨gb389, 1, none⟩) (Kd.R_far (p := ⟨gb389, 0, none⟩) (Kd.R_types HO385.out BK389.out (by decide)) (fun _ hk => hk.2) (.string ((rd_T42 l1 (ji40)).f0))) (fun _ hk => hk.2) (.string ((rd_T42 l1 (ji40)).f1))) (fun _ hk => hk.2) (.bool false)) (fun _ h_ => h_.1))) hb); have n3_ := Aside0.mk (Kd.R_lower (Kd.R_newB ho102 (g := gb389) (o := .cells #[.string ((rd_T42 l1 (ji40)).f0), .string ((rd_T42 l1 (ji40)).f1), .bool false] 42 (0, 0)) (by (with_reducible repeat (first | refine blk_drewN ?_ _ | refine blk_drew ?_ | refine blk_alloc ?_ _)); refine blk_put (cs := #[.string ((rd_T42 l1 (ji40)).f0), .string ((rd_T42 l1 (ji40)).f1), .bool false]) ?_ 2 _ rfl; (with_reducible repeat (first | refine blk_drewN ?_ _ | refine blk_drew ?_ | refine blk_alloc ?_ _)); refine blk_put (cs := #[.string ((rd_T42 l1 (ji40)).f0), .string (⟨#[]⟩ : ByteArray), .bool false]) ?_ 1 _ rfl; (with_reducible repeat (first | refine blk_drewN ?_ _ | refine blk_drew ?_ | refine blk_alloc ?_ _)); refine blk_put (cs := #[.string (⟨#[]⟩ : ByteArray), .string (⟨#[]⟩ : ByteArray), .bool false]) ?_ 0 _ rfl; (with_reducible repeat (first | refine blk_drewN ?_ _ | refine blk_drew ?_ | refine blk_alloc ?_ _)); exact BK389.out)) (below_size (by repeat (first | (with_reducible first | exact HB.out | apply below_alloc | apply pw_below_drewN | apply below_drew1 | refine below_set ?_ GE389.out) | exact HB.out)))); have n4_ := Aside0.mk (blk_below (g := gb389) (o := .cells #[.string ((rd_T42 l1 (ji40)).f0), .string ((rd_T42 l1 (ji40)).f1), .bool false] 42 (0, 0)) (by (with_reducible repeat (first | refine blk_drewN ?_ _ | refine blk_drew ?_ | refine blk_alloc ?_ _)); refine blk_put (cs := #[.string ((rd_T42 l1 (ji40)).f0), .string ((rd_T42 l1 (ji40)).f1), .bool false]) ?_ 2 _ rfl; (with_reducible repeat (first | refine blk_drewN ?_ _ | refine blk_drew ?_ | refine blk_alloc ?_ _)); refine blk_put (cs := #[.string ((rd_T42 l1 (ji40)).f0), .string (⟨#[]⟩ : ByteArray), .bool false]) ?_ 1 _ rfl; (with_reducible repeat (first | refine blk_drewN ?_ _ | refine blk_drew ?_ | refine blk_alloc ?_ _)); refine blk_put (cs := #[.string (⟨#[]⟩ : ByteArray), .string (⟨#[]⟩ : ByteArray), .bool false]) ?_ 0 _ rfl; (with_reducible repeat (first | refine blk_drewN ?_ _ | refine blk_drew ?_ | refine blk_alloc ?_ _)); exact BK389.out) hb); have n5_ := Aside0.mk (below_step (by repeat (first | (with_reducible first | exact HB.out | apply below_alloc | apply pw_below_drewN | apply below_drew1 | refine below_set ?_ GE389.out) | exact HB.out)) hb); clear HO371; clear HO378; clear HO385; clear BK389; clear HB; have HO371 := n0_; have HO378 := n1_; have HO385 := n2_; have HO392 := n3_; have BK389 := n4_; have HB := n5_; clear n0_ n1_ n2_ n3_ n4_ n5_; clear hb ho102; obtain ⟨Ao103, co103, eo103⟩ := Kd.R_slice HO392.out; subst eo103) | ((with_reducible refine gate_callee (f := 32) rfl ?_); refine goesL_ (some 64) rfl rfl Try.func32 (by kernel_rfl) rfl #[.slice Ao103 y390.length co103] rfl (by (try simp only [List.map_toArray, List.map_cons, List.map_nil]); first | done | rfl | (simp only [List.length_drop, List.length_take]; rfl)) ?_; (with_reducible refine (sheetpileref19_Check.calls kj3 _ _ y390 t393 _ ?side1 ?side2 A43.out).mono ?_); (case side1 => repeat (first | exact (Kd.R_reads' HO392.out).2.2 | (with_reducible refine Kd.C_alloc ?_ _) | (with_reducible refine Kd.C_drewN ?_ _) | (with_reducible refine Kd.C_drew ?_))); (case side2 => exact (Kd.R_reads' HO392.out).2.1); rintro e w104 ⟨rfl, hb⟩; refine ⟨_, rfl, ?_⟩; have n0_ := Aside0.mk (Kd.R_below (by (with_reducible repeat (first | apply Kd.R_alloc | apply Kd.R_drewN | apply Kd.R_drew)); exact HO371.out) hb); have n1_ := Aside0.mk (Kd.R_below (by (with_reducible repeat (first | apply Kd.R_alloc | apply Kd.R_drewN | apply Kd.R_drew)); exact HO378.out) hb); have n2_ := Aside0.mk (Kd.R_below (by (with_reducible repeat (first | apply Kd.R_alloc | apply Kd.R_drewN | apply Kd.R_drew)); exact HO385.out) hb); have n3_ := Aside0.mk (Kd.R_below (by (with_reducible repeat (first | apply Kd.R_alloc | apply Kd.R_drewN | apply Kd.R_drew)); exact HO392.out) hb); have n4_ := Aside0.mk (blk_below (g := gb389) (o := .cells #[.string ((rd_T42 l1 (ji40)).f0), .string ((rd_T42 l1 (ji40)).f1), .bool false] 42 (0, 0)) (by (with_reducible repeat (first | refine blk_drewN ?_ _ | refine blk_drew ?_ | refine blk_alloc ?_ _)); exact BK389.out) hb); have n5_ := Aside0.mk (below_step (by repeat (first | (with_reducible first | exact HB.out | apply below_alloc | apply pw_below_drewN | apply below_drew1 | refine below_set ?_ GE389.out) | exact HB.out)) hb); clear HO371; clear HO378; clear HO385; clear HO392; clear BK389; clear HB; have HO371 := n0_; have HO378 := n1_; have HO385 := n2_; have HO392 := n3_; have BK389 := n4_; have HB := n5_; clear n0_ n1_ n2_ n3_ n4_ n5_; (try clear hb); (try clear hb2); (try clear hk); (try clear hi); have hcz105_0 : w104.cell? ⟨gb389, 0, none⟩ = some (.string ((rd_T42 l1 (ji40)).f0)) := (blk_cell BK389.out 0).trans rfl; have hcz105_1 : w104.cell? ⟨gb389, 1, none⟩ = some (.string ((rd_T42 l1 (ji40)).f1)) := (blk_cell BK389.out 1).trans rfl; have hcz105_2 : w104.cell? ⟨gb389, 2, none⟩ = some (.bool false) := (blk_cell BK389.out 2).trans rfl; have hfz105_0 := blk_frozen BK389.out 0; have hfz105_1 := blk_frozen BK389.out 1; have hfz105_2 := blk_frozen BK389.out 2) | ((with_reducible refine gate_callee (f := 19) rfl ?_); refine goesL_ (some 71) rfl rfl Try.func19 (by kernel_rfl) rfl #[.slice Ao97 t369.length co97, .string ((rd_T42 l1 (ji40)).f0)] rfl (by (try simp only [List.map_toArray, List.map_cons, List.map_nil]); first | done | (simp only [hji40]; rfl) | rfl | (simp only [List.length_drop, List.length_take]; rfl)) ?_; (with_reducible refine (dir_Get.calls _ _ t369 ((rd_T42 l1 (ji40)).f0) t394 t395 _ ?side1 ?side2 A45.out).mono ?_); (case side1 => repeat (first | exact (Kd.R_reads' HO371.out).2.2 | (with_reducible refine Kd.C_alloc ?_ _) | (with_reducible refine Kd.C_drewN ?_ _) | (with_reducible refine Kd.C_drew ?_))); (case side2 => exact (Kd.R_reads' HO371.out).2.1); rintro e w106 ⟨rfl, hb⟩; refine ⟨_, rfl, ?_⟩; have n0_ := Aside0.mk (Kd.R_below (by (with_reducible repeat (first | apply Kd.R_alloc | apply Kd.R_drewN | apply Kd.R_drew)); exact HO371.out) hb); have n1_ := Aside0.mk (Kd.R_below (by (with_reducible repeat (first | apply Kd.R_alloc | apply Kd.R_drewN | apply Kd.R_drew)); exact HO378.out) hb); have n2_ := Aside0.mk (Kd.R_below (by (with_reducible repeat (first | apply Kd.R_alloc | apply Kd.R_drewN | apply Kd.R_drew)); exact HO385.out) hb); have n3_ := Aside0.mk (Kd.R_below (by (with_reducible repeat (first | apply Kd.R_alloc | apply Kd.R_drewN | apply Kd.R_drew)); exact HO392.out) hb); have n4_ := Aside0.mk (blk_below (g := gb389) (o := .cells #[.string ((rd_T42 l1 (ji40)).f0), .string ((rd_T42 l1 (ji40)).f1), .bool false] 42 (0, 0)) (by (with_reducible repeat (first | refine blk_drewN ?_ _ | refine blk_drew ?_ | refine blk_alloc ?_ _)); exact BK389.out) hb); have n5_ := Aside0.mk (below_step (by repeat (first | (with_reducible first | exact HB.out | apply below_alloc | apply pw_below_drewN | apply below_drew1 | refine below_set ?_ GE389.out) | exact HB.out)) hb); clear HO371; clear HO378; clear HO385; clear HO392; clear BK389; clear HB; have HO371 := n0_; have HO378 := n1_; have HO385 := n2_; have HO392 := n3_; have BK389 := n4_; have HB := n5_; clear n0_ n1_ n2_ n3_ n4_ n5_; (try clear hb); (try clear hb2); (try clear hk); (try clear hi); have hcz107_0 : w106.cell? ⟨gb389, 0, none⟩ = some (.string ((rd_T42 l1 (ji40)).f0)) := (blk_cell BK389.out 0).trans rfl; have hcz107_1 : w106.cell? ⟨gb389, 1, none⟩ = some (.string ((rd_T42 l1 (ji40)).f1)) := (blk_cell BK389.out 1).trans rfl; have hcz107_2 : w106.cell? ⟨gb389, 2, none⟩ = some (.bool false) := (blk_cell BK389.out 2).trans rfl; have hfz107_0 := blk_frozen BK389.out 0; have hfz107_1 := blk_frozen BK389.out 1; have hfz107_2 := blk_frozen BK389.out 2))
                            go_ret
                            exact ⟨by first | rfl | (simp [errW_none, errW_some] <;> rfl) | (simp only [← hji40]; first | rfl | (simp [errW_none, errW_some] <;> rfl)) | (simp [*, errW_none, errW_some] <;> rfl), by repeat (first | (with_reducible first | exact HB.out | apply below_alloc | apply pw_below_drewN | apply below_drew1 | refine below_set ?_ GE389.out) | exact HB.out)⟩
                      · rw [if_neg c46] at H
                        have c46b0 : (t395 == (!((rd_T42 l1 (ji40)).f2))) = false := by simpa using c46
                        (try (have c46b1 : decide (t395 = (!((rd_T42 l1 (ji40)).f2))) = false := by simpa using c46))
                        (try (have c46b2 : (t395 == (!((rd_T42 l1 (ji40)).f2))) = false := by simpa using c46))
                        (try (have c46b3 : ¬ (t395 = (!((rd_T42 l1 (ji40)).f2))) := by simpa using c46))
                        clear c46
                        obtain rfl := Option.some.inj H
                        try go_wp2_with (first | ((with_reducible refine gate_callee (f := 18) rfl ?_); refine goesL_ (some 38) rfl rfl Try.func18 (by kernel_rfl) rfl #[.slice A0 l0.length c0, .slice A1 l1.length c1] rfl (by (try simp only [List.map_toArray, List.map_cons, List.map_nil]); first | done | rfl | (simp only [List.length_drop, List.length_take]; rfl)) ?_; (with_reducible refine (dir_Apply.calls _ _ l0 _ _ l1 t369 _ ?side1 ?side2 ?side3 ?side4 A19.out).mono ?_); (case side1 => repeat (first | exact (Kd.C_below HR0.out HB.out) | (with_reducible refine Kd.C_alloc ?_ _) | (with_reducible refine Kd.C_drewN ?_ _) | (with_reducible refine Kd.C_drew ?_))); (case side2 => exact HC0.out); (case side3 => repeat (first | exact (Kd.C_below HR1.out HB.out) | (with_reducible refine Kd.C_alloc ?_ _) | (with_reducible refine Kd.C_drewN ?_ _) | (with_reducible refine Kd.C_drew ?_))); (case side4 => exact HC1.out); rintro e w108 ⟨v370, rfl, ho0, hb⟩; refine ⟨_, rfl, ?_⟩; have n0_ := Aside0.mk (Kd.R_lower ho0 (below_size (by repeat (first | (with_reducible first | exact HB.out | apply below_alloc | apply pw_below_drewN | apply below_drew1) | exact HB.out)))); have n1_ := Aside0.mk (below_step (by repeat (first | (with_reducible first | exact HB.out | apply below_alloc | apply pw_below_drewN | apply below_drew1) | exact HB.out)) hb); clear HB; have HO371 := n0_; have HB := n1_; clear n0_ n1_; (try clear hb); (try clear hb2); (try clear hk); (try clear hi); (try clear ho0)))
                        have n0_ := Aside0.mk (Kd.R_drew HO371.out)
                        have n1_ := Aside0.mk (below_drew1 HB.out)
                        clear HO371
                        clear HB
                        have HO371 := n0_
                        have HB := n1_
                        clear n0_ n1_
                        have q110 : (a2 : Int) ≤ ((l1.length : Int) : Int) := of_decide_eq_true (by first | (with_reducible assumption) | assumption)
                        obtain ⟨i0110, hi0110, _, hsz110, _⟩ := info_parts info42
                        have hroom110 : l1.length ≤ c1 := HC1.out
                        have hC110 : Kd.C k42 _ A1 l1.length l1 := HR1.out
                        have hcut110 := cut_to (P := Try.prog) 23 42 .i64 Try.underlying23 hi0110 A1 l1.length c1 a2 (of_decide_eq_true (by first | (with_reducible assumption) | assumption)) q110 hroom110
                        have hr110 := Kd.C_take (m := (a2 : Int).toNat) hC110 (by omega)
                        have hy110 : y372.length = (a2 : Int).toNat := (by rw [Ny372.out, List.length_take]; omega)
                        rw [← Ny372.out] at hr110
                        rw [← hy110] at hcut110
                        have HR375 := Aside0.mk hr110
                        have HC375 := Aside0.mk (show y372.length ≤ c1 from by omega)
                        clear hr110 hC110 hroom110 hi0110 hsz110
                        have KY110 := Aside0.mk hy110
                        clear hy110
                        replace q110 := eq_true q110
                        have q111 : (a2 : Int) ≤ ((l1.length : Int) : Int) := of_decide_eq_true (by first | (with_reducible assumption) | assumption)
                        obtain ⟨i0111, hi0111, _, hsz111, _⟩ := info_parts info42
                        have hroom111 : l1.length ≤ c1 := HC1.out
                        have hC111 : Kd.C k42 _ A1 l1.length l1 := HR1.out
                        have q0111 : (0 : Int) ≤ (a2 : Int) := of_decide_eq_true (by first | (with_reducible assumption) | assumption)
                        have hcut111 := cut_from (P := Try.prog) 23 42 .i64 Try.underlying23 hi0111 3 hsz111 A1 l1.length c1 a2 q0111 q111
                        have hr111 := Kd.C_drop (m := (a2 : Int).toNat) (c := c1) hC111 (by omega) hroom111
                        obtain ⟨A111, hA111⟩ : ∃ Ab_, Ab_ = (if c1 = (a2 : Int).toNat then A1 else (A1 : Option Addr).map (·.add ((a2 : Int).toNat * 3))) := ⟨_, rfl⟩
                        obtain ⟨c111, hc111⟩ : ∃ cb_, cb_ = c1 - (a2 : Int).toNat := ⟨_, rfl⟩
                        have hy111 : y379.length = l1.length - (a2 : Int).toNat := (by rw [Ny379.out, List.length_drop] <;> omega)
                        rw [show (l1).drop (a2 : Int).toNat = y379 from Ny379.out.symm] at hr111
                        replace hr111 : Kd.C k42 _ A111 y379.length y379 := (by rw [hA111]; exact hr111)
                        rw [← hy111, ← hA111, ← hc111] at hcut111
                        have HR382 := Aside0.mk hr111
                        have HC382 := Aside0.mk (show y379.length ≤ c111 from by rw [hy111, hc111]; exact Nat.sub_le_sub_right hroom111 _)
                        clear hr111 hC111 hroom111 hi0111 hsz111 hc111
                        have KY111 := Aside0.mk hy111
                        have KA111 := Aside0.mk hA111
                        clear hy111 hA111
                        replace q111 := eq_true q111
                        refine start_ (n := 10) (S := fun w' => True) (ds := []) #[false, false, false, false, false, false, false, false, false, false] (by kernel_rfl) rfl rfl trivial (fun hHeld => ?_); refine with_tabW sheetpilelaw21_DirParts.tab4 sheetpilelaw21_DirParts.bits4 (fun HT_ HW_ => ?_)
                        generalize w108.drew = w109 at HO371 HB HR375 HR382 hHeld ⊢
                        refine pure_ (i := 0) (N := some 39) (v := ?_) (a' := ?_) #[true, false, false, false, false, false, false, false, false, false] rfl rfl (any_of HT_.out (by kernel_rfl)) (fun _ _ _ h => h) (Or.inl ⟨by rfl, ?_⟩) ?_ ?_
                        rotate_left
                        · intro w'
                          go_simp
                          with_reducible rfl
                        rotate_left
                        · simp only [Act.put, List.setIfInBounds_toArray, List.set_cons_zero, List.set_cons_succ, i64_w, i32_w]
                          rfl
                        refine pure_ (i := 1) (N := some 40) (v := ?_) (a' := ?_) #[true, true, false, false, false, false, false, false, false, false] rfl rfl (any_of HT_.out (by kernel_rfl)) (fun _ _ _ h => h) (Or.inl ⟨by rfl, ?_⟩) ?_ ?_
                        rotate_left
                        · intro w'
                          go_simp
                          with_reducible rfl
                        rotate_left
                        · simp only [Act.put, List.setIfInBounds_toArray, List.set_cons_zero, List.set_cons_succ, i64_w, i32_w]
                          rfl
                        refine pure_ (i := 2) (N := some 41) (v := ?_) (a' := ?_) #[true, true, true, false, false, false, false, false, false, false] rfl rfl (any_of HT_.out (by kernel_rfl)) (fun _ _ _ h => h) (Or.inl ⟨by rfl, ?_⟩) ?_ ?_
                        rotate_left
                        · intro w'
                          go_simp
                          with_reducible rfl
                        rotate_left
                        · simp only [Act.put, List.setIfInBounds_toArray, List.set_cons_zero, List.set_cons_succ, i64_w, i32_w]
                          rfl
                        refine pure_ (i := 3) (N := some 42) (v := ?_) (a' := ?_) #[true, true, true, true, false, false, false, false, false, false] rfl rfl (any_of HT_.out (by kernel_rfl)) (fun _ _ _ h => h) (Or.inl ⟨by rfl, ?_⟩) ?_ ?_
                        rotate_left
                        · intro w'
                          go_simp
                          with_reducible rfl
                        rotate_left
                        · simp only [Act.put, List.setIfInBounds_toArray, List.set_cons_zero, List.set_cons_succ, i64_w, i32_w]
                          rfl
                        refine pure_ (i := 5) (N := some 44) (v := ?_) (a' := ?_) #[true, true, true, true, false, true, false, false, false, false] rfl rfl (any_of HT_.out (by kernel_rfl)) (fun _ _ _ h => h) (Or.inl ⟨by rfl, ?_⟩) ?_ ?_
                        rotate_left
                        · intro w'
                          go_simp
                          with_reducible rfl
                        rotate_left
                        · simp only [Act.put, List.setIfInBounds_toArray, List.set_cons_zero, List.set_cons_succ, i64_w, i32_w]
                          rfl
                        refine pure_ (i := 6) (N := some 45) (v := ?_) (a' := ?_) #[true, true, true, true, false, true, true, false, false, false] rfl rfl (any_of HT_.out (by kernel_rfl)) (fun _ _ _ h => h) (Or.inl ⟨by rfl, ?_⟩) ?_ ?_
                        rotate_left
                        · intro w'
                          go_simp
                          with_reducible rfl
                        rotate_left
                        · simp only [Act.put, List.setIfInBounds_toArray, List.set_cons_zero, List.set_cons_succ, i64_w, i32_w]
                          rfl
                        refine pure_ (i := 7) (N := some 46) (v := ?_) (a' := ?_) #[true, true, true, true, false, true, true, true, false, false] rfl rfl (any_of HT_.out (by kernel_rfl)) (fun _ _ _ h => h) (Or.inl ⟨by rfl, ?_⟩) ?_ ?_
                        rotate_left
                        · intro w'
                          go_simp
                          with_reducible rfl
                        rotate_left
                        · simp only [Act.put, List.setIfInBounds_toArray, List.set_cons_zero, List.set_cons_succ, i64_w, i32_w]
                          rfl
                        refine one_ (i := 4) (N := some 43) #[true, true, true, true, true, true, true, true, false, false] rfl rfl (one_of HT_.out (by kernel_rfl)) (by decide) (fun K hK => ?_)
                        refine goes_ Try.func18 (by kernel_rfl) rfl #[.slice A0 l0.length c0, .slice A1 y372.length c1] (by rfl) rfl rfl (by (try simp only [List.map_toArray, List.map_cons, List.map_nil]); first | done | rfl | (simp only [List.length_drop, List.length_take]; rfl)) ?_
                        with_reducible refine (dir_Apply.calls _ _ l0 _ _ y372 t376 _ ?side1 ?side2 ?side3 ?side4 A22.out).mono ?_
                        (case side1 => repeat (first | exact (Kd.C_below HR0.out HB.out) | (with_reducible refine Kd.C_alloc ?_ _) | (with_reducible refine Kd.C_drewN ?_ _) | (with_reducible refine Kd.C_drew ?_)))
                        (case side2 => exact HC0.out)
                        (case side3 => repeat (first | exact (Kd.C_below HR375.out HB.out) | (with_reducible refine Kd.C_alloc ?_ _) | (with_reducible refine Kd.C_drewN ?_ _) | (with_reducible refine Kd.C_drew ?_)))
                        (case side4 => exact HC375.out)
                        rintro e w112 ⟨v377, rfl, ho0, hb⟩
                        refine ⟨_, rfl, ?_⟩
                        have n0_ := Aside0.mk (Kd.R_elder' (by (with_reducible repeat (first | apply Kd.R_alloc | apply Kd.R_drewN | apply Kd.R_drew)); exact HO371.out) (Kd.R_base ho0) hb)
                        have n1_ := Aside0.mk (Kd.R_lower (Kd.R_new' ho0 (Kd.R_lt (by (with_reducible repeat (first | apply Kd.R_alloc | apply Kd.R_drewN | apply Kd.R_drew)); exact HO371.out))) (below_size (by repeat (first | (with_reducible first | exact HB.out | apply below_alloc | apply pw_below_drewN | apply below_drew1) | exact HB.out))))
                        have n2_ := Aside0.mk (below_step (by repeat (first | (with_reducible first | exact HB.out | apply below_alloc | apply pw_below_drewN | apply below_drew1) | exact HB.out)) hb)
                        clear HO371
                        clear HB
                        have HO371 := n0_
                        have HO378 := n1_
                        have HB := n2_
                        clear n0_ n1_ n2_
                        (try clear hb)
                        (try clear hb2)
                        (try clear hk)
                        (try clear hi)
                        (try clear ho0)
                        obtain ⟨Ao113, co113, eo113⟩ := Kd.R_slice HO378.out
                        (first | subst eo113 | (injection eo113 with f1_ f2_ f3_; have f4_ := f1_.symm; have f5_ := f3_.symm; clear f1_ f2_ f3_; subst f4_; subst f5_))
                        refine hK.out _ _ trivial (fun hHeld => ?_)
                        clear hK K
                        refine norm_ (a' := ?_) ?_ ?_
                        rotate_left
                        · show Act.put _ (some 43) _ = _
                          simp only [Act.put, List.setIfInBounds_toArray, List.set_cons_zero, List.set_cons_succ, i64_w, i32_w]
                          rfl
                        refine one_ (i := 8) (N := some 47) #[true, true, true, true, true, true, true, true, true, false] rfl rfl (one_of HT_.out (by kernel_rfl)) (by decide) (fun K hK => ?_)
                        refine goes_ Try.func18 (by kernel_rfl) rfl #[.slice Ao113 t376.length co113, .slice A111 y379.length c111] (by rfl) rfl rfl (by (try simp only [List.map_toArray, List.map_cons, List.map_nil]); first | done | rfl | (simp only [List.length_drop, List.length_take]; rfl)) ?_
                        with_reducible refine (dir_Apply.calls _ _ t376 _ _ y379 t383 _ ?side1 ?side2 ?side3 ?side4 A25.out).mono ?_
                        (case side1 => repeat (first | exact (Kd.R_reads' HO378.out).2.2 | (with_reducible refine Kd.C_alloc ?_ _) | (with_reducible refine Kd.C_drewN ?_ _) | (with_reducible refine Kd.C_drew ?_)))
                        (case side2 => exact (Kd.R_reads' HO378.out).2.1)
                        (case side3 => repeat (first | exact (Kd.C_below HR382.out HB.out) | (with_reducible refine Kd.C_alloc ?_ _) | (with_reducible refine Kd.C_drewN ?_ _) | (with_reducible refine Kd.C_drew ?_)))
                        (case side4 => exact HC382.out)
                        rintro e w114 ⟨v384, rfl, ho0, hb⟩
                        refine ⟨_, rfl, ?_⟩
                        have n0_ := Aside0.mk (Kd.R_elder' (by (with_reducible repeat (first | apply Kd.R_alloc | apply Kd.R_drewN | apply Kd.R_drew)); exact HO371.out) (Kd.R_base ho0) hb)
                        have n1_ := Aside0.mk (Kd.R_elder' (by (with_reducible repeat (first | apply Kd.R_alloc | apply Kd.R_drewN | apply Kd.R_drew)); exact HO378.out) (Kd.R_base ho0) hb)
                        have n2_ := Aside0.mk (Kd.R_lower (Kd.R_new' (Kd.R_new' ho0 (Kd.R_lt (by (with_reducible repeat (first | apply Kd.R_alloc | apply Kd.R_drewN | apply Kd.R_drew)); exact HO371.out))) (Kd.R_lt (by (with_reducible repeat (first | apply Kd.R_alloc | apply Kd.R_drewN | apply Kd.R_drew)); exact HO378.out))) (below_size (by repeat (first | (with_reducible first | exact HB.out | apply below_alloc | apply pw_below_drewN | apply below_drew1) | exact HB.out))))
                        have n3_ := Aside0.mk (below_step (by repeat (first | (with_reducible first | exact HB.out | apply below_alloc | apply pw_below_drewN | apply below_drew1) | exact HB.out)) hb)
                        clear HO371
                        clear HO378
                        clear HB
                        have HO371 := n0_
                        have HO378 := n1_
                        have HO385 := n2_
                        have HB := n3_
                        clear n0_ n1_ n2_ n3_
                        (try clear hb)
                        (try clear hb2)
                        (try clear hk)
                        (try clear hi)
                        (try clear ho0)
                        refine hK.out _ _ trivial (fun hHeld => ?_)
                        clear hK K
                        refine norm_ (a' := ?_) ?_ ?_
                        rotate_left
                        · show Act.put _ (some 47) _ = _
                          simp only [Act.put, List.setIfInBounds_toArray, List.set_cons_zero, List.set_cons_succ, i64_w, i32_w]
                          rfl
                        refine pure_ (i := 9) (N := some 8) (v := ?_) (a' := ?_) #[true, true, true, true, true, true, true, true, true, true] rfl rfl (any_of HT_.out (by kernel_rfl)) (fun _ _ _ h => h) (Or.inl ⟨by rfl, ?_⟩) ?_ ?_
                        rotate_left
                        · intro w'
                          go_simp
                          with_reducible rfl
                        rotate_left
                        · simp only [Act.put, List.setIfInBounds_toArray, List.set_cons_zero, List.set_cons_succ, i64_w, i32_w]
                          rfl
                        refine done_ (done_of HT_.out (by kernel_rfl)) ?_
                        obtain ⟨Ao115, co115, eo115⟩ := Kd.R_slice HO371.out
                        subst eo115
                        obtain ⟨Ao116, co116, eo116⟩ := Kd.R_slice HO385.out
                        subst eo116
                        try go_wp2_with (first | ((with_reducible refine gate_callee (f := 21) rfl ?_); refine goesL_ (some 50) rfl rfl Try.func21 (by kernel_rfl) rfl #[.slice Ao115 t369.length co115, .slice Ao116 t383.length co116] rfl (by (try simp only [List.map_toArray, List.map_cons, List.map_nil]); first | done | rfl | (simp only [List.length_drop, List.length_take]; rfl)) ?_; (with_reducible refine (sheetpileref21_Same.calls kj3 _ _ t369 _ _ t383 true _ ?side1 ?side2 ?side3 ?side4 A26.out).mono ?_); (case side1 => repeat (first | exact (Kd.R_reads' HO371.out).2.2 | (with_reducible refine Kd.C_alloc ?_ _) | (with_reducible refine Kd.C_drewN ?_ _) | (with_reducible refine Kd.C_drew ?_))); (case side2 => exact (Kd.R_reads' HO371.out).2.1); (case side3 => repeat (first | exact (Kd.R_reads' HO385.out).2.2 | (with_reducible refine Kd.C_alloc ?_ _) | (with_reducible refine Kd.C_drewN ?_ _) | (with_reducible refine Kd.C_drew ?_))); (case side4 => exact (Kd.R_reads' HO385.out).2.1); rintro e w' ⟨rfl, ⟨nd, rfl⟩⟩; refine ⟨_, rfl, ?_⟩; (try (rw [drewN_self w114]; generalize hq_ : World.drewN w114 _ = w114; have n0_ : Aside0 (Kd.R k75 75 w114 w.heap.size (fun k_ => some k_ ≠ (.slice Ao113 t376.length co113 : Value).ownBlock ∧ some k_ ≠ (.slice Ao116 t383.length co116 : Value).ownBlock) (.slice Ao115 t369.length co115) t369) := ⟨by rw [← hq_]; exact (by (with_reducible repeat (first | apply Kd.R_alloc | apply Kd.R_drewN | apply Kd.R_drew)); exact Kd.R_mono HO371.out (fun _ hk => ⟨hk.1.2, hk.2⟩))⟩; have n1_ : Aside0 (Kd.R k75 75 w114 w.heap.size (fun k_ => some k_ ≠ (.slice Ao115 t369.length co115 : Value).ownBlock ∧ some k_ ≠ (.slice Ao116 t383.length co116 : Value).ownBlock) (.slice Ao113 t376.length co113) t376) := ⟨by rw [← hq_]; exact (by (with_reducible repeat (first | apply Kd.R_alloc | apply Kd.R_drewN | apply Kd.R_drew)); exact Kd.R_mono HO378.out (fun _ hk => ⟨hk.1.2, hk.2⟩))⟩; have n2_ : Aside0 (Kd.R k75 75 w114 w.heap.size (fun k_ => some k_ ≠ (.slice Ao115 t369.length co115 : Value).ownBlock ∧ some k_ ≠ (.slice Ao113 t376.length co113 : Value).ownBlock) (.slice Ao116 t383.length co116) t383) := ⟨by rw [← hq_]; exact (by (with_reducible repeat (first | apply Kd.R_alloc | apply Kd.R_drewN | apply Kd.R_drew)); exact Kd.R_mono HO385.out (fun _ hk => ⟨hk.1.2, hk.2⟩))⟩; have n3_ : Aside0 (Below w.heap.size w w114) := ⟨by rw [← hq_]; exact (by repeat (first | (with_reducible first | exact HB.out | apply below_alloc | apply pw_below_drewN | apply below_drew1) | exact HB.out))⟩; clear HO371 HO378 HO385 HB hq_; have HO371 := n0_; have HO378 := n1_; have HO385 := n2_; have HB := n3_; clear n0_ n1_ n2_ n3_)); have p388 : 0 ≤ ((ji40) : Int) := of_decide_eq_true (by first | (with_reducible assumption) | assumption); have q388 : (ji40) < (l1.length : Int) := of_decide_eq_true (by first | (with_reducible assumption) | assumption); obtain ⟨ad388, e388, hx388_0, hx388_1, hx388_2⟩ := at_T42 HR1.out (ji40) p388 q388; cases e388; replace hx388_0 := (HB.out.cell (World.block_lt_of_cell? w _ hx388_0)).trans hx388_0; replace hx388_1 := (HB.out.cell (World.block_lt_of_cell? w _ hx388_1)).trans hx388_1; replace hx388_2 := (HB.out.cell (World.block_lt_of_cell? w _ hx388_2)).trans hx388_2; replace p388 := eq_true p388; replace q388 := eq_true q388) | ((with_reducible refine gate_dst (N := 9) rfl ?_); (try (refine gate_guard (by rfl) ?_; dsimp only)); refine box_event ?hg (N := 9) ?hd (cs := #[.string (⟨#[]⟩ : ByteArray), .string (⟨#[]⟩ : ByteArray), .bool false]) (t := 42) ?hr ?_; (case hd => rfl); (case hg => rfl); (case hr => first | (go_simp; done) | (go_simp; rfl)); intro gb389 hg w117 hbox hb; have n0_ := Aside0.mk (Kd.R_below (by (with_reducible repeat (first | apply Kd.R_alloc | apply Kd.R_drewN | apply Kd.R_drew)); exact HO371.out) hb); have n1_ := Aside0.mk (Kd.R_below (by (with_reducible repeat (first | apply Kd.R_alloc | apply Kd.R_drewN | apply Kd.R_drew)); exact HO378.out) hb); have n2_ := Aside0.mk (Kd.R_below (by (with_reducible repeat (first | apply Kd.R_alloc | apply Kd.R_drewN | apply Kd.R_drew)); exact HO385.out) hb); have n3_ := Aside0.mk (below_step (by repeat (first | (with_reducible first | exact HB.out | apply below_alloc | apply pw_below_drewN | apply below_drew1) | exact HB.out)) hb); have n4_ := Aside0.mk (hbox); have n5_ := Aside0.mk ((by rw [hg]; exact (below_size (by repeat (first | (with_reducible first | exact HB.out | apply below_alloc | apply pw_below_drewN | apply below_drew1) | exact HB.out))) : w.heap.size ≤ gb389)); have n6_ := Aside0.mk ((by rw [hg]; exact (below_size (by repeat (first | (with_reducible first | exact HB.out | apply below_alloc | apply pw_below_drewN | apply below_drew1) | exact HB.out))) : w.heap.size ≤ gb389)); clear HO371; clear HO378; clear HO385; clear HB; have HO371 := n0_; have HO378 := n1_; have HO385 := n2_; have HB := n3_; have BK389 := n4_; have GW389 := n5_; have GE389 := n6_; clear n0_ n1_ n2_ n3_ n4_ n5_ n6_; clear hb hbox hg; have hcz118_0 : w117.cell? ⟨gb389, 0, none⟩ = some (.string (⟨#[]⟩ : ByteArray)) := (blk_cell BK389.out 0).trans rfl; have hcz118_1 : w117.cell? ⟨gb389, 1, none⟩ = some (.string (⟨#[]⟩ : ByteArray)) := (blk_cell BK389.out 1).trans rfl; have hcz118_2 : w117.cell? ⟨gb389, 2, none⟩ = some (.bool false) := (blk_cell BK389.out 2).trans rfl; have hfz118_0 := blk_frozen BK389.out 0; have hfz118_1 := blk_frozen BK389.out 1; have hfz118_2 := blk_frozen BK389.out 2) | ((with_reducible refine gate_dst (N := 63) rfl ?_); (try (refine gate_guard (by rfl) ?_; dsimp only)); refine Kd.R_lit k42 _ 42 ?hg (N := 63) ?hd (xs := ([(⟨(rd_T42 l1 (ji40)).f0, (rd_T42 l1 (ji40)).f1, (rd_T42 l1 (ji40)).f2⟩ : S42)] : List (S42))) (inner := [.string ((rd_T42 l1 (ji40)).f0), .string ((rd_T42 l1 (ji40)).f1), .bool ((rd_T42 l1 (ji40)).f2)]) (ok := fun _ => True) (okp := fun _ => True) ?hr ?hp (fun _ hk => hk) trivial (Below.refl _ _) (Nat.le_refl _) (by simp) ?_; (case hd => rfl); (case hg => rfl); (case hr => first | (go_simp; done) | (go_simp; rfl)); (case hp => exact (Reps.c3 (show Kd.M k42 _ _ _ (⟨(rd_T42 l1 (ji40)).f0, (rd_T42 l1 (ji40)).f1, (rd_T42 l1 (ji40)).f2⟩ : S42) [.string ((rd_T42 l1 (ji40)).f0), .string ((rd_T42 l1 (ji40)).f1), .bool ((rd_T42 l1 (ji40)).f2)] from (k42_mkM _ _ _ (⟨(rd_T42 l1 (ji40)).f0, (rd_T42 l1 (ji40)).f1, (rd_T42 l1 (ji40)).f2⟩ : S42) )) (Reps.none _ _))); intro v391 w119 ho120 hb hg_ hnew_; clear hg_ hnew_; (first | rw [← Ny390.out] at ho120 | (simp only [Int.reduceToNat] at ho120; rw [← Ny390.out] at ho120)); have n0_ := Aside0.mk (Kd.R_below (by (with_reducible repeat (first | apply Kd.R_alloc | apply Kd.R_drewN | apply Kd.R_drew)); exact (Kd.R_mono (Kd.R_far (p := ⟨gb389, 2, none⟩) (Kd.R_far (p := ⟨gb389, 1, none⟩) (Kd.R_far (p := ⟨gb389, 0, none⟩) (Kd.R_types HO371.out BK389.out (by decide)) (fun _ hk => hk.2) (.string ((rd_T42 l1 (ji40)).f0))) (fun _ hk => hk.2) (.string ((rd_T42 l1 (ji40)).f1))) (fun _ hk => hk.2) (.bool ((rd_T42 l1 (ji40)).f2))) (fun _ h_ => h_.1))) hb); have n1_ := Aside0.mk (Kd.R_below (by (with_reducible repeat (first | apply Kd.R_alloc | apply Kd.R_drewN | apply Kd.R_drew)); exact (Kd.R_mono (Kd.R_far (p := ⟨gb389, 2, none⟩) (Kd.R_far (p := ⟨gb389, 1, none⟩) (Kd.R_far (p := ⟨gb389, 0, none⟩) (Kd.R_types HO378.out BK389.out (by decide)) (fun _ hk => hk.2) (.string ((rd_T42 l1 (ji40)).f0))) (fun _ hk => hk.2) (.string ((rd_T42 l1 (ji40)).f1))) (fun _ hk => hk.2) (.bool ((rd_T42 l1 (ji40)).f2))) (fun _ h_ => h_.1))) hb); have n2_ := Aside0.mk (Kd.R_below (by (with_reducible repeat (first | apply Kd.R_alloc | apply Kd.R_drewN | apply Kd.R_drew)); exact (Kd.R_mono (Kd.R_far (p := ⟨gb389, 2, none⟩) (Kd.R_far (p := ⟨gb389, 1, none⟩) (Kd.R_far (p := ⟨gb389, 0, none⟩) (Kd.R_types HO385.out BK389.out (by decide)) (fun _ hk => hk.2) (.string ((rd_T42 l1 (ji40)).f0))) (fun _ hk => hk.2) (.string ((rd_T42 l1 (ji40)).f1))) (fun _ hk => hk.2) (.bool ((rd_T42 l1 (ji40)).f2))) (fun _ h_ => h_.1))) hb); have n3_ := Aside0.mk (Kd.R_lower (Kd.R_newB ho120 (g := gb389) (o := .cells #[.string ((rd_T42 l1 (ji40)).f0), .string ((rd_T42 l1 (ji40)).f1), .bool ((rd_T42 l1 (ji40)).f2)] 42 (0, 0)) (by (with_reducible repeat (first | refine blk_drewN ?_ _ | refine blk_drew ?_ | refine blk_alloc ?_ _)); refine blk_put (cs := #[.string ((rd_T42 l1 (ji40)).f0), .string ((rd_T42 l1 (ji40)).f1), .bool false]) ?_ 2 _ rfl; (with_reducible repeat (first | refine blk_drewN ?_ _ | refine blk_drew ?_ | refine blk_alloc ?_ _)); refine blk_put (cs := #[.string ((rd_T42 l1 (ji40)).f0), .string (⟨#[]⟩ : ByteArray), .bool false]) ?_ 1 _ rfl; (with_reducible repeat (first | refine blk_drewN ?_ _ | refine blk_drew ?_ | refine blk_alloc ?_ _)); refine blk_put (cs := #[.string (⟨#[]⟩ : ByteArray), .string (⟨#[]⟩ : ByteArray), .bool false]) ?_ 0 _ rfl; (with_reducible repeat (first | refine blk_drewN ?_ _ | refine blk_drew ?_ | refine blk_alloc ?_ _)); exact BK389.out)) (below_size (by repeat (first | (with_reducible first | exact HB.out | apply below_alloc | apply pw_below_drewN | apply below_drew1 | refine below_set ?_ GE389.out) | exact HB.out)))); have n4_ := Aside0.mk (blk_below (g := gb389) (o := .cells #[.string ((rd_T42 l1 (ji40)).f0), .string ((rd_T42 l1 (ji40)).f1), .bool ((rd_T42 l1 (ji40)).f2)] 42 (0, 0)) (by (with_reducible repeat (first | refine blk_drewN ?_ _ | refine blk_drew ?_ | refine blk_alloc ?_ _)); refine blk_put (cs := #[.string ((rd_T42 l1 (ji40)).f0), .string ((rd_T42 l1 (ji40)).f1), .bool false]) ?_ 2 _ rfl; (with_reducible repeat (first | refine blk_drewN ?_ _ | refine blk_drew ?_ | refine blk_alloc ?_ _)); refine blk_put (cs := #[.string ((rd_T42 l1 (ji40)).f0), .string (⟨#[]⟩ : ByteArray), .bool false]) ?_ 1 _ rfl; (with_reducible repeat (first | refine blk_drewN ?_ _ | refine blk_drew ?_ | refine blk_alloc ?_ _)); refine blk_put (cs := #[.string (⟨#[]⟩ : ByteArray), .string (⟨#[]⟩ : ByteArray), .bool false]) ?_ 0 _ rfl; (with_reducible repeat (first | refine blk_drewN ?_ _ | refine blk_drew ?_ | refine blk_alloc ?_ _)); exact BK389.out) hb); have n5_ := Aside0.mk (below_step (by repeat (first | (with_reducible first | exact HB.out | apply below_alloc | apply pw_below_drewN | apply below_drew1 | refine below_set ?_ GE389.out) | exact HB.out)) hb); clear HO371; clear HO378; clear HO385; clear BK389; clear HB; have HO371 := n0_; have HO378 := n1_; have HO385 := n2_; have HO392 := n3_; have BK389 := n4_; have HB := n5_; clear n0_ n1_ n2_ n3_ n4_ n5_; clear hb ho120; obtain ⟨Ao121, co121, eo121⟩ := Kd.R_slice HO392.out; subst eo121) | ((with_reducible refine gate_callee (f := 32) rfl ?_); refine goesL_ (some 64) rfl rfl Try.func32 (by kernel_rfl) rfl #[.slice Ao121 y390.length co121] rfl (by (try simp only [List.map_toArray, List.map_cons, List.map_nil]); first | done | rfl | (simp only [List.length_drop, List.length_take]; rfl)) ?_; (with_reducible refine (sheetpileref19_Check.calls kj3 _ _ y390 t393 _ ?side1 ?side2 A43.out).mono ?_); (case side1 => repeat (first | exact (Kd.R_reads' HO392.out).2.2 | (with_reducible refine Kd.C_alloc ?_ _) | (with_reducible refine Kd.C_drewN ?_ _) | (with_reducible refine Kd.C_drew ?_))); (case side2 => exact (Kd.R_reads' HO392.out).2.1); rintro e w122 ⟨rfl, hb⟩; refine ⟨_, rfl, ?_⟩; have n0_ := Aside0.mk (Kd.R_below (by (with_reducible repeat (first | apply Kd.R_alloc | apply Kd.R_drewN | apply Kd.R_drew)); exact HO371.out) hb); have n1_ := Aside0.mk (Kd.R_below (by (with_reducible repeat (first | apply Kd.R_alloc | apply Kd.R_drewN | apply Kd.R_drew)); exact HO378.out) hb); have n2_ := Aside0.mk (Kd.R_below (by (with_reducible repeat (first | apply Kd.R_alloc | apply Kd.R_drewN | apply Kd.R_drew)); exact HO385.out) hb); have n3_ := Aside0.mk (Kd.R_below (by (with_reducible repeat (first | apply Kd.R_alloc | apply Kd.R_drewN | apply Kd.R_drew)); exact HO392.out) hb); have n4_ := Aside0.mk (blk_below (g := gb389) (o := .cells #[.string ((rd_T42 l1 (ji40)).f0), .string ((rd_T42 l1 (ji40)).f1), .bool ((rd_T42 l1 (ji40)).f2)] 42 (0, 0)) (by (with_reducible repeat (first | refine blk_drewN ?_ _ | refine blk_drew ?_ | refine blk_alloc ?_ _)); exact BK389.out) hb); have n5_ := Aside0.mk (below_step (by repeat (first | (with_reducible first | exact HB.out | apply below_alloc | apply pw_below_drewN | apply below_drew1 | refine below_set ?_ GE389.out) | exact HB.out)) hb); clear HO371; clear HO378; clear HO385; clear HO392; clear BK389; clear HB; have HO371 := n0_; have HO378 := n1_; have HO385 := n2_; have HO392 := n3_; have BK389 := n4_; have HB := n5_; clear n0_ n1_ n2_ n3_ n4_ n5_; (try clear hb); (try clear hb2); (try clear hk); (try clear hi); have hcz123_0 : w122.cell? ⟨gb389, 0, none⟩ = some (.string ((rd_T42 l1 (ji40)).f0)) := (blk_cell BK389.out 0).trans rfl; have hcz123_1 : w122.cell? ⟨gb389, 1, none⟩ = some (.string ((rd_T42 l1 (ji40)).f1)) := (blk_cell BK389.out 1).trans rfl; have hcz123_2 : w122.cell? ⟨gb389, 2, none⟩ = some (.bool ((rd_T42 l1 (ji40)).f2)) := (blk_cell BK389.out 2).trans rfl; have hfz123_0 := blk_frozen BK389.out 0; have hfz123_1 := blk_frozen BK389.out 1; have hfz123_2 := blk_frozen BK389.out 2) | ((with_reducible refine gate_callee (f := 19) rfl ?_); refine goesL_ (some 71) rfl rfl Try.func19 (by kernel_rfl) rfl #[.slice Ao115 t369.length co115, .string ((rd_T42 l1 (ji40)).f0)] rfl (by (try simp only [List.map_toArray, List.map_cons, List.map_nil]); first | done | (simp only [hji40]; rfl) | rfl | (simp only [List.length_drop, List.length_take]; rfl)) ?_; (with_reducible refine (dir_Get.calls _ _ t369 ((rd_T42 l1 (ji40)).f0) t394 t395 _ ?side1 ?side2 A45.out).mono ?_); (case side1 => repeat (first | exact (Kd.R_reads' HO371.out).2.2 | (with_reducible refine Kd.C_alloc ?_ _) | (with_reducible refine Kd.C_drewN ?_ _) | (with_reducible refine Kd.C_drew ?_))); (case side2 => exact (Kd.R_reads' HO371.out).2.1); rintro e w124 ⟨rfl, hb⟩; refine ⟨_, rfl, ?_⟩; have n0_ := Aside0.mk (Kd.R_below (by (with_reducible repeat (first | apply Kd.R_alloc | apply Kd.R_drewN | apply Kd.R_drew)); exact HO371.out) hb); have n1_ := Aside0.mk (Kd.R_below (by (with_reducible repeat (first | apply Kd.R_alloc | apply Kd.R_drewN | apply Kd.R_drew)); exact HO378.out) hb); have n2_ := Aside0.mk (Kd.R_below (by (with_reducible repeat (first | apply Kd.R_alloc | apply Kd.R_drewN | apply Kd.R_drew)); exact HO385.out) hb); have n3_ := Aside0.mk (Kd.R_below (by (with_reducible repeat (first | apply Kd.R_alloc | apply Kd.R_drewN | apply Kd.R_drew)); exact HO392.out) hb); have n4_ := Aside0.mk (blk_below (g := gb389) (o := .cells #[.string ((rd_T42 l1 (ji40)).f0), .string ((rd_T42 l1 (ji40)).f1), .bool ((rd_T42 l1 (ji40)).f2)] 42 (0, 0)) (by (with_reducible repeat (first | refine blk_drewN ?_ _ | refine blk_drew ?_ | refine blk_alloc ?_ _)); exact BK389.out) hb); have n5_ := Aside0.mk (below_step (by repeat (first | (with_reducible first | exact HB.out | apply below_alloc | apply pw_below_drewN | apply below_drew1 | refine below_set ?_ GE389.out) | exact HB.out)) hb); clear HO371; clear HO378; clear HO385; clear HO392; clear BK389; clear HB; have HO371 := n0_; have HO378 := n1_; have HO385 := n2_; have HO392 := n3_; have BK389 := n4_; have HB := n5_; clear n0_ n1_ n2_ n3_ n4_ n5_; (try clear hb); (try clear hb2); (try clear hk); (try clear hi); have hcz125_0 : w124.cell? ⟨gb389, 0, none⟩ = some (.string ((rd_T42 l1 (ji40)).f0)) := (blk_cell BK389.out 0).trans rfl; have hcz125_1 : w124.cell? ⟨gb389, 1, none⟩ = some (.string ((rd_T42 l1 (ji40)).f1)) := (blk_cell BK389.out 1).trans rfl; have hcz125_2 : w124.cell? ⟨gb389, 2, none⟩ = some (.bool ((rd_T42 l1 (ji40)).f2)) := (blk_cell BK389.out 2).trans rfl; have hfz125_0 := blk_frozen BK389.out 0; have hfz125_1 := blk_frozen BK389.out 1; have hfz125_2 := blk_frozen BK389.out 2))
                        go_ret
                        exact ⟨by first | rfl | (simp [errW_none, errW_some] <;> rfl) | (simp only [← hji40]; first | rfl | (simp [errW_none, errW_some] <;> rfl)) | (simp [*, errW_none, errW_some] <;> rfl), by repeat (first | (with_reducible first | exact HB.out | apply below_alloc | apply pw_below_drewN | apply below_drew1 | refine below_set ?_ GE389.out) | exact HB.out)⟩
                    · rw [if_neg c44] at H
                      have c44b0 : (t393 == 0) = false := beq_eq_false_iff_ne.mpr c44
                      have c44b1 : (t393 != 0) = true := bne_iff_ne.mpr c44
                      replace H := Option.bind_eq_some_iff.mp H
                      obtain ⟨t398, A1260, H⟩ := H
                      replace H : (some t398) = some r := H
                      have A126 := Aside0.mk A1260
                      clear A1260
                      obtain rfl := Option.some.inj H
                      try go_wp2_with (first | ((with_reducible refine gate_callee (f := 18) rfl ?_); refine goesL_ (some 38) rfl rfl Try.func18 (by kernel_rfl) rfl #[.slice A0 l0.length c0, .slice A1 l1.length c1] rfl (by (try simp only [List.map_toArray, List.map_cons, List.map_nil]); first | done | rfl | (simp only [List.length_drop, List.length_take]; rfl)) ?_; (with_reducible refine (dir_Apply.calls _ _ l0 _ _ l1 t369 _ ?side1 ?side2 ?side3 ?side4 A19.out).mono ?_); (case side1 => repeat (first | exact (Kd.C_below HR0.out HB.out) | (with_reducible refine Kd.C_alloc ?_ _) | (with_reducible refine Kd.C_drewN ?_ _) | (with_reducible refine Kd.C_drew ?_))); (case side2 => exact HC0.out); (case side3 => repeat (first | exact (Kd.C_below HR1.out HB.out) | (with_reducible refine Kd.C_alloc ?_ _) | (with_reducible refine Kd.C_drewN ?_ _) | (with_reducible refine Kd.C_drew ?_))); (case side4 => exact HC1.out); rintro e w127 ⟨v370, rfl, ho0, hb⟩; refine ⟨_, rfl, ?_⟩; have n0_ := Aside0.mk (Kd.R_lower ho0 (below_size (by repeat (first | (with_reducible first | exact HB.out | apply below_alloc | apply pw_below_drewN | apply below_drew1) | exact HB.out)))); have n1_ := Aside0.mk (below_step (by repeat (first | (with_reducible first | exact HB.out | apply below_alloc | apply pw_below_drewN | apply below_drew1) | exact HB.out)) hb); clear HB; have HO371 := n0_; have HB := n1_; clear n0_ n1_; (try clear hb); (try clear hb2); (try clear hk); (try clear hi); (try clear ho0)))
                      have n0_ := Aside0.mk (Kd.R_drew HO371.out)
                      have n1_ := Aside0.mk (below_drew1 HB.out)
                      clear HO371
                      clear HB
                      have HO371 := n0_
                      have HB := n1_
                      clear n0_ n1_
                      have q129 : (a2 : Int) ≤ ((l1.length : Int) : Int) := of_decide_eq_true (by first | (with_reducible assumption) | assumption)
                      obtain ⟨i0129, hi0129, _, hsz129, _⟩ := info_parts info42
                      have hroom129 : l1.length ≤ c1 := HC1.out
                      have hC129 : Kd.C k42 _ A1 l1.length l1 := HR1.out
                      have hcut129 := cut_to (P := Try.prog) 23 42 .i64 Try.underlying23 hi0129 A1 l1.length c1 a2 (of_decide_eq_true (by first | (with_reducible assumption) | assumption)) q129 hroom129
                      have hr129 := Kd.C_take (m := (a2 : Int).toNat) hC129 (by omega)
                      have hy129 : y372.length = (a2 : Int).toNat := (by rw [Ny372.out, List.length_take]; omega)
                      rw [← Ny372.out] at hr129
                      rw [← hy129] at hcut129
                      have HR375 := Aside0.mk hr129
                      have HC375 := Aside0.mk (show y372.length ≤ c1 from by omega)
                      clear hr129 hC129 hroom129 hi0129 hsz129
                      have KY129 := Aside0.mk hy129
                      clear hy129
                      replace q129 := eq_true q129
                      have q130 : (a2 : Int) ≤ ((l1.length : Int) : Int) := of_decide_eq_true (by first | (with_reducible assumption) | assumption)
                      obtain ⟨i0130, hi0130, _, hsz130, _⟩ := info_parts info42
                      have hroom130 : l1.length ≤ c1 := HC1.out
                      have hC130 : Kd.C k42 _ A1 l1.length l1 := HR1.out
                      have q0130 : (0 : Int) ≤ (a2 : Int) := of_decide_eq_true (by first | (with_reducible assumption) | assumption)
                      have hcut130 := cut_from (P := Try.prog) 23 42 .i64 Try.underlying23 hi0130 3 hsz130 A1 l1.length c1 a2 q0130 q130
                      have hr130 := Kd.C_drop (m := (a2 : Int).toNat) (c := c1) hC130 (by omega) hroom130
                      obtain ⟨A130, hA130⟩ : ∃ Ab_, Ab_ = (if c1 = (a2 : Int).toNat then A1 else (A1 : Option Addr).map (·.add ((a2 : Int).toNat * 3))) := ⟨_, rfl⟩
                      obtain ⟨c130, hc130⟩ : ∃ cb_, cb_ = c1 - (a2 : Int).toNat := ⟨_, rfl⟩
                      have hy130 : y379.length = l1.length - (a2 : Int).toNat := (by rw [Ny379.out, List.length_drop] <;> omega)
                      rw [show (l1).drop (a2 : Int).toNat = y379 from Ny379.out.symm] at hr130
                      replace hr130 : Kd.C k42 _ A130 y379.length y379 := (by rw [hA130]; exact hr130)
                      rw [← hy130, ← hA130, ← hc130] at hcut130
                      have HR382 := Aside0.mk hr130
                      have HC382 := Aside0.mk (show y379.length ≤ c130 from by rw [hy130, hc130]; exact Nat.sub_le_sub_right hroom130 _)
                      clear hr130 hC130 hroom130 hi0130 hsz130 hc130
                      have KY130 := Aside0.mk hy130
                      have KA130 := Aside0.mk hA130
                      clear hy130 hA130
                      replace q130 := eq_true q130
                      refine start_ (n := 10) (S := fun w' => True) (ds := []) #[false, false, false, false, false, false, false, false, false, false] (by kernel_rfl) rfl rfl trivial (fun hHeld => ?_); refine with_tabW sheetpilelaw21_DirParts.tab4 sheetpilelaw21_DirParts.bits4 (fun HT_ HW_ => ?_)
                      generalize w127.drew = w128 at HO371 HB HR375 HR382 hHeld ⊢
                      refine pure_ (i := 0) (N := some 39) (v := ?_) (a' := ?_) #[true, false, false, false, false, false, false, false, false, false] rfl rfl (any_of HT_.out (by kernel_rfl)) (fun _ _ _ h => h) (Or.inl ⟨by rfl, ?_⟩) ?_ ?_
                      rotate_left
                      · intro w'
                        go_simp
                        with_reducible rfl
                      rotate_left
                      · simp only [Act.put, List.setIfInBounds_toArray, List.set_cons_zero, List.set_cons_succ, i64_w, i32_w]
                        rfl
                      refine pure_ (i := 1) (N := some 40) (v := ?_) (a' := ?_) #[true, true, false, false, false, false, false, false, false, false] rfl rfl (any_of HT_.out (by kernel_rfl)) (fun _ _ _ h => h) (Or.inl ⟨by rfl, ?_⟩) ?_ ?_
                      rotate_left
                      · intro w'
                        go_simp
                        with_reducible rfl
                      rotate_left
                      · simp only [Act.put, List.setIfInBounds_toArray, List.set_cons_zero, List.set_cons_succ, i64_w, i32_w]
                        rfl
                      refine pure_ (i := 2) (N := some 41) (v := ?_) (a' := ?_) #[true, true, true, false, false, false, false, false, false, false] rfl rfl (any_of HT_.out (by kernel_rfl)) (fun _ _ _ h => h) (Or.inl ⟨by rfl, ?_⟩) ?_ ?_
                      rotate_left
                      · intro w'
                        go_simp
                        with_reducible rfl
                      rotate_left
                      · simp only [Act.put, List.setIfInBounds_toArray, List.set_cons_zero, List.set_cons_succ, i64_w, i32_w]
                        rfl
                      refine pure_ (i := 3) (N := some 42) (v := ?_) (a' := ?_) #[true, true, true, true, false, false, false, false, false, false] rfl rfl (any_of HT_.out (by kernel_rfl)) (fun _ _ _ h => h) (Or.inl ⟨by rfl, ?_⟩) ?_ ?_
                      rotate_left
                      · intro w'
                        go_simp
                        with_reducible rfl
                      rotate_left
                      · simp only [Act.put, List.setIfInBounds_toArray, List.set_cons_zero, List.set_cons_succ, i64_w, i32_w]
                        rfl
                      refine pure_ (i := 5) (N := some 44) (v := ?_) (a' := ?_) #[true, true, true, true, false, true, false, false, false, false] rfl rfl (any_of HT_.out (by kernel_rfl)) (fun _ _ _ h => h) (Or.inl ⟨by rfl, ?_⟩) ?_ ?_
                      rotate_left
                      · intro w'
                        go_simp
                        with_reducible rfl
                      rotate_left
                      · simp only [Act.put, List.setIfInBounds_toArray, List.set_cons_zero, List.set_cons_succ, i64_w, i32_w]
                        rfl
                      refine pure_ (i := 6) (N := some 45) (v := ?_) (a' := ?_) #[true, true, true, true, false, true, true, false, false, false] rfl rfl (any_of HT_.out (by kernel_rfl)) (fun _ _ _ h => h) (Or.inl ⟨by rfl, ?_⟩) ?_ ?_
                      rotate_left
                      · intro w'
                        go_simp
                        with_reducible rfl
                      rotate_left
                      · simp only [Act.put, List.setIfInBounds_toArray, List.set_cons_zero, List.set_cons_succ, i64_w, i32_w]
                        rfl
                      refine pure_ (i := 7) (N := some 46) (v := ?_) (a' := ?_) #[true, true, true, true, false, true, true, true, false, false] rfl rfl (any_of HT_.out (by kernel_rfl)) (fun _ _ _ h => h) (Or.inl ⟨by rfl, ?_⟩) ?_ ?_
                      rotate_left
                      · intro w'
                        go_simp
                        with_reducible rfl
                      rotate_left
                      · simp only [Act.put, List.setIfInBounds_toArray, List.set_cons_zero, List.set_cons_succ, i64_w, i32_w]
                        rfl
                      refine one_ (i := 4) (N := some 43) #[true, true, true, true, true, true, true, true, false, false] rfl rfl (one_of HT_.out (by kernel_rfl)) (by decide) (fun K hK => ?_)
                      refine goes_ Try.func18 (by kernel_rfl) rfl #[.slice A0 l0.length c0, .slice A1 y372.length c1] (by rfl) rfl rfl (by (try simp only [List.map_toArray, List.map_cons, List.map_nil]); first | done | rfl | (simp only [List.length_drop, List.length_take]; rfl)) ?_
                      with_reducible refine (dir_Apply.calls _ _ l0 _ _ y372 t376 _ ?side1 ?side2 ?side3 ?side4 A22.out).mono ?_
                      (case side1 => repeat (first | exact (Kd.C_below HR0.out HB.out) | (with_reducible refine Kd.C_alloc ?_ _) | (with_reducible refine Kd.C_drewN ?_ _) | (with_reducible refine Kd.C_drew ?_)))
                      (case side2 => exact HC0.out)
                      (case side3 => repeat (first | exact (Kd.C_below HR375.out HB.out) | (with_reducible refine Kd.C_alloc ?_ _) | (with_reducible refine Kd.C_drewN ?_ _) | (with_reducible refine Kd.C_drew ?_)))
                      (case side4 => exact HC375.out)
                      rintro e w131 ⟨v377, rfl, ho0, hb⟩
                      refine ⟨_, rfl, ?_⟩
                      have n0_ := Aside0.mk (Kd.R_elder' (by (with_reducible repeat (first | apply Kd.R_alloc | apply Kd.R_drewN | apply Kd.R_drew)); exact HO371.out) (Kd.R_base ho0) hb)
                      have n1_ := Aside0.mk (Kd.R_lower (Kd.R_new' ho0 (Kd.R_lt (by (with_reducible repeat (first | apply Kd.R_alloc | apply Kd.R_drewN | apply Kd.R_drew)); exact HO371.out))) (below_size (by repeat (first | (with_reducible first | exact HB.out | apply below_alloc | apply pw_below_drewN | apply below_drew1) | exact HB.out))))
                      have n2_ := Aside0.mk (below_step (by repeat (first | (with_reducible first | exact HB.out | apply below_alloc | apply pw_below_drewN | apply below_drew1) | exact HB.out)) hb)
                      clear HO371
                      clear HB
                      have HO371 := n0_
                      have HO378 := n1_
                      have HB := n2_
                      clear n0_ n1_ n2_
                      (try clear hb)
                      (try clear hb2)
                      (try clear hk)
                      (try clear hi)
                      (try clear ho0)
                      obtain ⟨Ao132, co132, eo132⟩ := Kd.R_slice HO378.out
                      (first | subst eo132 | (injection eo132 with f1_ f2_ f3_; have f4_ := f1_.symm; have f5_ := f3_.symm; clear f1_ f2_ f3_; subst f4_; subst f5_))
                      refine hK.out _ _ trivial (fun hHeld => ?_)
                      clear hK K
                      refine norm_ (a' := ?_) ?_ ?_
                      rotate_left
                      · show Act.put _ (some 43) _ = _
                        simp only [Act.put, List.setIfInBounds_toArray, List.set_cons_zero, List.set_cons_succ, i64_w, i32_w]
                        rfl
                      refine one_ (i := 8) (N := some 47) #[true, true, true, true, true, true, true, true, true, false] rfl rfl (one_of HT_.out (by kernel_rfl)) (by decide) (fun K hK => ?_)
                      refine goes_ Try.func18 (by kernel_rfl) rfl #[.slice Ao132 t376.length co132, .slice A130 y379.length c130] (by rfl) rfl rfl (by (try simp only [List.map_toArray, List.map_cons, List.map_nil]); first | done | rfl | (simp only [List.length_drop, List.length_take]; rfl)) ?_
                      with_reducible refine (dir_Apply.calls _ _ t376 _ _ y379 t383 _ ?side1 ?side2 ?side3 ?side4 A25.out).mono ?_
                      (case side1 => repeat (first | exact (Kd.R_reads' HO378.out).2.2 | (with_reducible refine Kd.C_alloc ?_ _) | (with_reducible refine Kd.C_drewN ?_ _) | (with_reducible refine Kd.C_drew ?_)))
                      (case side2 => exact (Kd.R_reads' HO378.out).2.1)
                      (case side3 => repeat (first | exact (Kd.C_below HR382.out HB.out) | (with_reducible refine Kd.C_alloc ?_ _) | (with_reducible refine Kd.C_drewN ?_ _) | (with_reducible refine Kd.C_drew ?_)))
                      (case side4 => exact HC382.out)
                      rintro e w133 ⟨v384, rfl, ho0, hb⟩
                      refine ⟨_, rfl, ?_⟩
                      have n0_ := Aside0.mk (Kd.R_elder' (by (with_reducible repeat (first | apply Kd.R_alloc | apply Kd.R_drewN | apply Kd.R_drew)); exact HO371.out) (Kd.R_base ho0) hb)
                      have n1_ := Aside0.mk (Kd.R_elder' (by (with_reducible repeat (first | apply Kd.R_alloc | apply Kd.R_drewN | apply Kd.R_drew)); exact HO378.out) (Kd.R_base ho0) hb)
                      have n2_ := Aside0.mk (Kd.R_lower (Kd.R_new' (Kd.R_new' ho0 (Kd.R_lt (by (with_reducible repeat (first | apply Kd.R_alloc | apply Kd.R_drewN | apply Kd.R_drew)); exact HO371.out))) (Kd.R_lt (by (with_reducible repeat (first | apply Kd.R_alloc | apply Kd.R_drewN | apply Kd.R_drew)); exact HO378.out))) (below_size (by repeat (first | (with_reducible first | exact HB.out | apply below_alloc | apply pw_below_drewN | apply below_drew1) | exact HB.out))))
                      have n3_ := Aside0.mk (below_step (by repeat (first | (with_reducible first | exact HB.out | apply below_alloc | apply pw_below_drewN | apply below_drew1) | exact HB.out)) hb)
                      clear HO371
                      clear HO378
                      clear HB
                      have HO371 := n0_
                      have HO378 := n1_
                      have HO385 := n2_
                      have HB := n3_
                      clear n0_ n1_ n2_ n3_
                      (try clear hb)
                      (try clear hb2)
                      (try clear hk)
                      (try clear hi)
                      (try clear ho0)
                      refine hK.out _ _ trivial (fun hHeld => ?_)
                      clear hK K
                      refine norm_ (a' := ?_) ?_ ?_
                      rotate_left
                      · show Act.put _ (some 47) _ = _
                        simp only [Act.put, List.setIfInBounds_toArray, List.set_cons_zero, List.set_cons_succ, i64_w, i32_w]
                        rfl
                      refine pure_ (i := 9) (N := some 8) (v := ?_) (a' := ?_) #[true, true, true, true, true, true, true, true, true, true] rfl rfl (any_of HT_.out (by kernel_rfl)) (fun _ _ _ h => h) (Or.inl ⟨by rfl, ?_⟩) ?_ ?_
                      rotate_left
                      · intro w'
                        go_simp
                        with_reducible rfl
                      rotate_left
                      · simp only [Act.put, List.setIfInBounds_toArray, List.set_cons_zero, List.set_cons_succ, i64_w, i32_w]
                        rfl
                      refine done_ (done_of HT_.out (by kernel_rfl)) ?_
                      obtain ⟨Ao134, co134, eo134⟩ := Kd.R_slice HO371.out
                      subst eo134
                      obtain ⟨Ao135, co135, eo135⟩ := Kd.R_slice HO385.out
                      subst eo135
                      try go_wp2_with (first | ((with_reducible refine gate_callee (f := 21) rfl ?_); refine goesL_ (some 50) rfl rfl Try.func21 (by kernel_rfl) rfl #[.slice Ao134 t369.length co134, .slice Ao135 t383.length co135] rfl (by (try simp only [List.map_toArray, List.map_cons, List.map_nil]); first | done | rfl | (simp only [List.length_drop, List.length_take]; rfl)) ?_; (with_reducible refine (sheetpileref21_Same.calls kj3 _ _ t369 _ _ t383 true _ ?side1 ?side2 ?side3 ?side4 A26.out).mono ?_); (case side1 => repeat (first | exact (Kd.R_reads' HO371.out).2.2 | (with_reducible refine Kd.C_alloc ?_ _) | (with_reducible refine Kd.C_drewN ?_ _) | (with_reducible refine Kd.C_drew ?_))); (case side2 => exact (Kd.R_reads' HO371.out).2.1); (case side3 => repeat (first | exact (Kd.R_reads' HO385.out).2.2 | (with_reducible refine Kd.C_alloc ?_ _) | (with_reducible refine Kd.C_drewN ?_ _) | (with_reducible refine Kd.C_drew ?_))); (case side4 => exact (Kd.R_reads' HO385.out).2.1); rintro e w' ⟨rfl, ⟨nd, rfl⟩⟩; refine ⟨_, rfl, ?_⟩; (try (rw [drewN_self w133]; generalize hq_ : World.drewN w133 _ = w133; have n0_ : Aside0 (Kd.R k75 75 w133 w.heap.size (fun k_ => some k_ ≠ (.slice Ao132 t376.length co132 : Value).ownBlock ∧ some k_ ≠ (.slice Ao135 t383.length co135 : Value).ownBlock) (.slice Ao134 t369.length co134) t369) := ⟨by rw [← hq_]; exact (by (with_reducible repeat (first | apply Kd.R_alloc | apply Kd.R_drewN | apply Kd.R_drew)); exact Kd.R_mono HO371.out (fun _ hk => ⟨hk.1.2, hk.2⟩))⟩; have n1_ : Aside0 (Kd.R k75 75 w133 w.heap.size (fun k_ => some k_ ≠ (.slice Ao134 t369.length co134 : Value).ownBlock ∧ some k_ ≠ (.slice Ao135 t383.length co135 : Value).ownBlock) (.slice Ao132 t376.length co132) t376) := ⟨by rw [← hq_]; exact (by (with_reducible repeat (first | apply Kd.R_alloc | apply Kd.R_drewN | apply Kd.R_drew)); exact Kd.R_mono HO378.out (fun _ hk => ⟨hk.1.2, hk.2⟩))⟩; have n2_ : Aside0 (Kd.R k75 75 w133 w.heap.size (fun k_ => some k_ ≠ (.slice Ao134 t369.length co134 : Value).ownBlock ∧ some k_ ≠ (.slice Ao132 t376.length co132 : Value).ownBlock) (.slice Ao135 t383.length co135) t383) := ⟨by rw [← hq_]; exact (by (with_reducible repeat (first | apply Kd.R_alloc | apply Kd.R_drewN | apply Kd.R_drew)); exact Kd.R_mono HO385.out (fun _ hk => ⟨hk.1.2, hk.2⟩))⟩; have n3_ : Aside0 (Below w.heap.size w w133) := ⟨by rw [← hq_]; exact (by repeat (first | (with_reducible first | exact HB.out | apply below_alloc | apply pw_below_drewN | apply below_drew1) | exact HB.out))⟩; clear HO371 HO378 HO385 HB hq_; have HO371 := n0_; have HO378 := n1_; have HO385 := n2_; have HB := n3_; clear n0_ n1_ n2_ n3_)); have p388 : 0 ≤ ((ji40) : Int) := of_decide_eq_true (by first | (with_reducible assumption) | assumption); have q388 : (ji40) < (l1.length : Int) := of_decide_eq_true (by first | (with_reducible assumption) | assumption); obtain ⟨ad388, e388, hx388_0, hx388_1, hx388_2⟩ := at_T42 HR1.out (ji40) p388 q388; cases e388; replace hx388_0 := (HB.out.cell (World.block_lt_of_cell? w _ hx388_0)).trans hx388_0; replace hx388_1 := (HB.out.cell (World.block_lt_of_cell? w _ hx388_1)).trans hx388_1; replace hx388_2 := (HB.out.cell (World.block_lt_of_cell? w _ hx388_2)).trans hx388_2; replace p388 := eq_true p388; replace q388 := eq_true q388) | ((with_reducible refine gate_dst (N := 9) rfl ?_); (try (refine gate_guard (by rfl) ?_; dsimp only)); refine box_event ?hg (N := 9) ?hd (cs := #[.string (⟨#[]⟩ : ByteArray), .string (⟨#[]⟩ : ByteArray), .bool false]) (t := 42) ?hr ?_; (case hd => rfl); (case hg => rfl); (case hr => first | (go_simp; done) | (go_simp; rfl)); intro gb389 hg w136 hbox hb; have n0_ := Aside0.mk (Kd.R_below (by (with_reducible repeat (first | apply Kd.R_alloc | apply Kd.R_drewN | apply Kd.R_drew)); exact HO371.out) hb); have n1_ := Aside0.mk (Kd.R_below (by (with_reducible repeat (first | apply Kd.R_alloc | apply Kd.R_drewN | apply Kd.R_drew)); exact HO378.out) hb); have n2_ := Aside0.mk (Kd.R_below (by (with_reducible repeat (first | apply Kd.R_alloc | apply Kd.R_drewN | apply Kd.R_drew)); exact HO385.out) hb); have n3_ := Aside0.mk (below_step (by repeat (first | (with_reducible first | exact HB.out | apply below_alloc | apply pw_below_drewN | apply below_drew1) | exact HB.out)) hb); have n4_ := Aside0.mk (hbox); have n5_ := Aside0.mk ((by rw [hg]; exact (below_size (by repeat (first | (with_reducible first | exact HB.out | apply below_alloc | apply pw_below_drewN | apply below_drew1) | exact HB.out))) : w.heap.size ≤ gb389)); have n6_ := Aside0.mk ((by rw [hg]; exact (below_size (by repeat (first | (with_reducible first | exact HB.out | apply below_alloc | apply pw_below_drewN | apply below_drew1) | exact HB.out))) : w.heap.size ≤ gb389)); clear HO371; clear HO378; clear HO385; clear HB; have HO371 := n0_; have HO378 := n1_; have HO385 := n2_; have HB := n3_; have BK389 := n4_; have GW389 := n5_; have GE389 := n6_; clear n0_ n1_ n2_ n3_ n4_ n5_ n6_; clear hb hbox hg; have hcz137_0 : w136.cell? ⟨gb389, 0, none⟩ = some (.string (⟨#[]⟩ : ByteArray)) := (blk_cell BK389.out 0).trans rfl; have hcz137_1 : w136.cell? ⟨gb389, 1, none⟩ = some (.string (⟨#[]⟩ : ByteArray)) := (blk_cell BK389.out 1).trans rfl; have hcz137_2 : w136.cell? ⟨gb389, 2, none⟩ = some (.bool false) := (blk_cell BK389.out 2).trans rfl; have hfz137_0 := blk_frozen BK389.out 0; have hfz137_1 := blk_frozen BK389.out 1; have hfz137_2 := blk_frozen BK389.out 2) | ((with_reducible refine gate_dst (N := 63) rfl ?_); (try (refine gate_guard (by rfl) ?_; dsimp only)); refine Kd.R_lit k42 _ 42 ?hg (N := 63) ?hd (xs := ([(⟨(rd_T42 l1 (ji40)).f0, (rd_T42 l1 (ji40)).f1, (rd_T42 l1 (ji40)).f2⟩ : S42)] : List (S42))) (inner := [.string ((rd_T42 l1 (ji40)).f0), .string ((rd_T42 l1 (ji40)).f1), .bool ((rd_T42 l1 (ji40)).f2)]) (ok := fun _ => True) (okp := fun _ => True) ?hr ?hp (fun _ hk => hk) trivial (Below.refl _ _) (Nat.le_refl _) (by simp) ?_; (case hd => rfl); (case hg => rfl); (case hr => first | (go_simp; done) | (go_simp; rfl)); (case hp => exact (Reps.c3 (show Kd.M k42 _ _ _ (⟨(rd_T42 l1 (ji40)).f0, (rd_T42 l1 (ji40)).f1, (rd_T42 l1 (ji40)).f2⟩ : S42) [.string ((rd_T42 l1 (ji40)).f0), .string ((rd_T42 l1 (ji40)).f1), .bool ((rd_T42 l1 (ji40)).f2)] from (k42_mkM _ _ _ (⟨(rd_T42 l1 (ji40)).f0, (rd_T42 l1 (ji40)).f1, (rd_T42 l1 (ji40)).f2⟩ : S42) )) (Reps.none _ _))); intro v391 w138 ho139 hb hg_ hnew_; clear hg_ hnew_; (first | rw [← Ny390.out] at ho139 | (simp only [Int.reduceToNat] at ho139; rw [← Ny390.out] at ho139)); have n0_ := Aside0.mk (Kd.R_below (by (with_reducible repeat (first | apply Kd.R_alloc | apply Kd.R_drewN | apply Kd.R_drew)); exact (Kd.R_mono (Kd.R_far (p := ⟨gb389, 2, none⟩) (Kd.R_far (p := ⟨gb389, 1, none⟩) (Kd.R_far (p := ⟨gb389, 0, none⟩) (Kd.R_types HO371.out BK389.out (by decide)) (fun _ hk => hk.2) (.string ((rd_T42 l1 (ji40)).f0))) (fun _ hk => hk.2) (.string ((rd_T42 l1 (ji40)).f1))) (fun _ hk => hk.2) (.bool ((rd_T42 l1 (ji40)).f2))) (fun _ h_ => h_.1))) hb); have n1_ := Aside0.mk (Kd.R_below (by (with_reducible repeat (first | apply Kd.R_alloc | apply Kd.R_drewN | apply Kd.R_drew)); exact (Kd.R_mono (Kd.R_far (p := ⟨gb389, 2, none⟩) (Kd.R_far (p := ⟨gb389, 1, none⟩) (Kd.R_far (p := ⟨gb389, 0, none⟩) (Kd.R_types HO378.out BK389.out (by decide)) (fun _ hk => hk.2) (.string ((rd_T42 l1 (ji40)).f0))) (fun _ hk => hk.2) (.string ((rd_T42 l1 (ji40)).f1))) (fun _ hk => hk.2) (.bool ((rd_T42 l1 (ji40)).f2))) (fun _ h_ => h_.1))) hb); have n2_ := Aside0.mk (Kd.R_below (by (with_reducible repeat (first | apply Kd.R_alloc | apply Kd.R_drewN | apply Kd.R_drew)); exact (Kd.R_mono (Kd.R_far (p := ⟨gb389, 2, none⟩) (Kd.R_far (p := ⟨gb389, 1, none⟩) (Kd.R_far (p := ⟨gb389, 0, none⟩) (Kd.R_types HO385.out BK389.out (by decide)) (fun _ hk => hk.2) (.string ((rd_T42 l1 (ji40)).f0))) (fun _ hk => hk.2) (.string ((rd_T42 l1 (ji40)).f1))) (fun _ hk => hk.2) (.bool ((rd_T42 l1 (ji40)).f2))) (fun _ h_ => h_.1))) hb); have n3_ := Aside0.mk (Kd.R_lower (Kd.R_newB ho139 (g := gb389) (o := .cells #[.string ((rd_T42 l1 (ji40)).f0), .string ((rd_T42 l1 (ji40)).f1), .bool ((rd_T42 l1 (ji40)).f2)] 42 (0, 0)) (by (with_reducible repeat (first | refine blk_drewN ?_ _ | refine blk_drew ?_ | refine blk_alloc ?_ _)); refine blk_put (cs := #[.string ((rd_T42 l1 (ji40)).f0), .string ((rd_T42 l1 (ji40)).f1), .bool false]) ?_ 2 _ rfl; (with_reducible repeat (first | refine blk_drewN ?_ _ | refine blk_drew ?_ | refine blk_alloc ?_ _)); refine blk_put (cs := #[.string ((rd_T42 l1 (ji40)).f0), .string (⟨#[]⟩ : ByteArray), .bool false]) ?_ 1 _ rfl; (with_reducible repeat (first | refine blk_drewN ?_ _ | refine blk_drew ?_ | refine blk_alloc ?_ _)); refine blk_put (cs := #[.string (⟨#[]⟩ : ByteArray), .string (⟨#[]⟩ : ByteArray), .bool false]) ?_ 0 _ rfl; (with_reducible repeat (first | refine blk_drewN ?_ _ | refine blk_drew ?_ | refine blk_alloc ?_ _)); exact BK389.out)) (below_size (by repeat (first | (with_reducible first | exact HB.out | apply below_alloc | apply pw_below_drewN | apply below_drew1 | refine below_set ?_ GE389.out) | exact HB.out)))); have n4_ := Aside0.mk (blk_below (g := gb389) (o := .cells #[.string ((rd_T42 l1 (ji40)).f0), .string ((rd_T42 l1 (ji40)).f1), .bool ((rd_T42 l1 (ji40)).f2)] 42 (0, 0)) (by (with_reducible repeat (first | refine blk_drewN ?_ _ | refine blk_drew ?_ | refine blk_alloc ?_ _)); refine blk_put (cs := #[.string ((rd_T42 l1 (ji40)).f0), .string ((rd_T42 l1 (ji40)).f1), .bool false]) ?_ 2 _ rfl; (with_reducible repeat (first | refine blk_drewN ?_ _ | refine blk_drew ?_ | refine blk_alloc ?_ _)); refine blk_put (cs := #[.string ((rd_T42 l1 (ji40)).f0), .string (⟨#[]⟩ : ByteArray), .bool false]) ?_ 1 _ rfl; (with_reducible repeat (first | refine blk_drewN ?_ _ | refine blk_drew ?_ | refine blk_alloc ?_ _)); refine blk_put (cs := #[.string (⟨#[]⟩ : ByteArray), .string (⟨#[]⟩ : ByteArray), .bool false]) ?_ 0 _ rfl; (with_reducible repeat (first | refine blk_drewN ?_ _ | refine blk_drew ?_ | refine blk_alloc ?_ _)); exact BK389.out) hb); have n5_ := Aside0.mk (below_step (by repeat (first | (with_reducible first | exact HB.out | apply below_alloc | apply pw_below_drewN | apply below_drew1 | refine below_set ?_ GE389.out) | exact HB.out)) hb); clear HO371; clear HO378; clear HO385; clear BK389; clear HB; have HO371 := n0_; have HO378 := n1_; have HO385 := n2_; have HO392 := n3_; have BK389 := n4_; have HB := n5_; clear n0_ n1_ n2_ n3_ n4_ n5_; clear hb ho139; obtain ⟨Ao140, co140, eo140⟩ := Kd.R_slice HO392.out; subst eo140) | ((with_reducible refine gate_callee (f := 32) rfl ?_); refine goesL_ (some 64) rfl rfl Try.func32 (by kernel_rfl) rfl #[.slice Ao140 y390.length co140] rfl (by (try simp only [List.map_toArray, List.map_cons, List.map_nil]); first | done | rfl | (simp only [List.length_drop, List.length_take]; rfl)) ?_; (with_reducible refine (sheetpileref19_Check.calls kj3 _ _ y390 t393 _ ?side1 ?side2 A43.out).mono ?_); (case side1 => repeat (first | exact (Kd.R_reads' HO392.out).2.2 | (with_reducible refine Kd.C_alloc ?_ _) | (with_reducible refine Kd.C_drewN ?_ _) | (with_reducible refine Kd.C_drew ?_))); (case side2 => exact (Kd.R_reads' HO392.out).2.1); rintro e w141 ⟨rfl, hb⟩; refine ⟨_, rfl, ?_⟩; have n0_ := Aside0.mk (Kd.R_below (by (with_reducible repeat (first | apply Kd.R_alloc | apply Kd.R_drewN | apply Kd.R_drew)); exact HO371.out) hb); have n1_ := Aside0.mk (Kd.R_below (by (with_reducible repeat (first | apply Kd.R_alloc | apply Kd.R_drewN | apply Kd.R_drew)); exact HO378.out) hb); have n2_ := Aside0.mk (Kd.R_below (by (with_reducible repeat (first | apply Kd.R_alloc | apply Kd.R_drewN | apply Kd.R_drew)); exact HO385.out) hb); have n3_ := Aside0.mk (Kd.R_below (by (with_reducible repeat (first | apply Kd.R_alloc | apply Kd.R_drewN | apply Kd.R_drew)); exact HO392.out) hb); have n4_ := Aside0.mk (blk_below (g := gb389) (o := .cells #[.string ((rd_T42 l1 (ji40)).f0), .string ((rd_T42 l1 (ji40)).f1), .bool ((rd_T42 l1 (ji40)).f2)] 42 (0, 0)) (by (with_reducible repeat (first | refine blk_drewN ?_ _ | refine blk_drew ?_ | refine blk_alloc ?_ _)); exact BK389.out) hb); have n5_ := Aside0.mk (below_step (by repeat (first | (with_reducible first | exact HB.out | apply below_alloc | apply pw_below_drewN | apply below_drew1 | refine below_set ?_ GE389.out) | exact HB.out)) hb); clear HO371; clear HO378; clear HO385; clear HO392; clear BK389; clear HB; have HO371 := n0_; have HO378 := n1_; have HO385 := n2_; have HO392 := n3_; have BK389 := n4_; have HB := n5_; clear n0_ n1_ n2_ n3_ n4_ n5_; (try clear hb); (try clear hb2); (try clear hk); (try clear hi)) | ((with_reducible refine gate_callee (f := 17) rfl ?_); refine goesL_ (some 66) rfl rfl Try.func17 (by kernel_rfl) rfl #[] rfl (by (try simp only [List.map_toArray, List.map_cons, List.map_nil]); first | done | rfl | (simp only [List.length_drop, List.length_take]; rfl)) ?_; (with_reducible refine (sheetpilelaw21_live.calls kj3  t398 _ A126.out).mono ?_); rintro e w142 ⟨rfl, hb⟩; refine ⟨_, rfl, ?_⟩; have n0_ := Aside0.mk (Kd.R_below (by (with_reducible repeat (first | apply Kd.R_alloc | apply Kd.R_drewN | apply Kd.R_drew)); exact HO371.out) hb); have n1_ := Aside0.mk (Kd.R_below (by (with_reducible repeat (first | apply Kd.R_alloc | apply Kd.R_drewN | apply Kd.R_drew)); exact HO378.out) hb); have n2_ := Aside0.mk (Kd.R_below (by (with_reducible repeat (first | apply Kd.R_alloc | apply Kd.R_drewN | apply Kd.R_drew)); exact HO385.out) hb); have n3_ := Aside0.mk (Kd.R_below (by (with_reducible repeat (first | apply Kd.R_alloc | apply Kd.R_drewN | apply Kd.R_drew)); exact HO392.out) hb); have n4_ := Aside0.mk (blk_below (g := gb389) (o := .cells #[.string ((rd_T42 l1 (ji40)).f0), .string ((rd_T42 l1 (ji40)).f1), .bool ((rd_T42 l1 (ji40)).f2)] 42 (0, 0)) (by (with_reducible repeat (first | refine blk_drewN ?_ _ | refine blk_drew ?_ | refine blk_alloc ?_ _)); exact BK389.out) hb); have n5_ := Aside0.mk (below_step (by repeat (first | (with_reducible first | exact HB.out | apply below_alloc | apply pw_below_drewN | apply below_drew1 | refine below_set ?_ GE389.out) | exact HB.out)) hb); clear HO371; clear HO378; clear HO385; clear HO392; clear BK389; clear HB; have HO371 := n0_; have HO378 := n1_; have HO385 := n2_; have HO392 := n3_; have BK389 := n4_; have HB := n5_; clear n0_ n1_ n2_ n3_ n4_ n5_; (try clear hb); (try clear hb2); (try clear hk); (try clear hi)))
                      go_ret
                      exact ⟨by first | rfl | (simp [errW_none, errW_some] <;> rfl) | (simp only [← hji40]; first | rfl | (simp [errW_none, errW_some] <;> rfl)) | (simp [*, errW_none, errW_some] <;> rfl), by repeat (first | (with_reducible first | exact HB.out | apply below_alloc | apply pw_below_drewN | apply below_drew1 | refine below_set ?_ GE389.out) | exact HB.out)⟩
                  · rw [if_neg c42] at H
                    exact absurd H (by simp)
                · rw [if_neg c41] at H
                  exact absurd H (by simp)
            · replace c27 := Bool.eq_false_iff.mpr c27
              subst c27
              have H1 : (some false) = some r := by rw [if_neg (show ¬ (false = true) by decide)] at H; exact H
              clear H
              have H := H1
              clear H1
              obtain rfl := Option.some.inj H
              try go_wp2_with (first | ((with_reducible refine gate_callee (f := 18) rfl ?_); refine goesL_ (some 38) rfl rfl Try.func18 (by kernel_rfl) rfl #[.slice A0 l0.length c0, .slice A1 l1.length c1] rfl (by (try simp only [List.map_toArray, List.map_cons, List.map_nil]); first | done | rfl | (simp only [List.length_drop, List.length_take]; rfl)) ?_; (with_reducible refine (dir_Apply.calls _ _ l0 _ _ l1 t369 _ ?side1 ?side2 ?side3 ?side4 A19.out).mono ?_); (case side1 => repeat (first | exact (Kd.C_below HR0.out HB.out) | (with_reducible refine Kd.C_alloc ?_ _) | (with_reducible refine Kd.C_drewN ?_ _) | (with_reducible refine Kd.C_drew ?_))); (case side2 => exact HC0.out); (case side3 => repeat (first | exact (Kd.C_below HR1.out HB.out) | (with_reducible refine Kd.C_alloc ?_ _) | (with_reducible refine Kd.C_drewN ?_ _) | (with_reducible refine Kd.C_drew ?_))); (case side4 => exact HC1.out); rintro e w143 ⟨v370, rfl, ho0, hb⟩; refine ⟨_, rfl, ?_⟩; have n0_ := Aside0.mk (Kd.R_lower ho0 (below_size (by repeat (first | (with_reducible first | exact HB.out | apply below_alloc | apply pw_below_drewN | apply below_drew1) | exact HB.out)))); have n1_ := Aside0.mk (below_step (by repeat (first | (with_reducible first | exact HB.out | apply below_alloc | apply pw_below_drewN | apply below_drew1) | exact HB.out)) hb); clear HB; have HO371 := n0_; have HB := n1_; clear n0_ n1_; (try clear hb); (try clear hb2); (try clear hk); (try clear hi); (try clear ho0)))
              have n0_ := Aside0.mk (Kd.R_drew HO371.out)
              have n1_ := Aside0.mk (below_drew1 HB.out)
              clear HO371
              clear HB
              have HO371 := n0_
              have HB := n1_
              clear n0_ n1_
              have q145 : (a2 : Int) ≤ ((l1.length : Int) : Int) := of_decide_eq_true (by first | (with_reducible assumption) | assumption)
              obtain ⟨i0145, hi0145, _, hsz145, _⟩ := info_parts info42
              have hroom145 : l1.length ≤ c1 := HC1.out
              have hC145 : Kd.C k42 _ A1 l1.length l1 := HR1.out
              have hcut145 := cut_to (P := Try.prog) 23 42 .i64 Try.underlying23 hi0145 A1 l1.length c1 a2 (of_decide_eq_true (by first | (with_reducible assumption) | assumption)) q145 hroom145
              have hr145 := Kd.C_take (m := (a2 : Int).toNat) hC145 (by omega)
              have hy145 : y372.length = (a2 : Int).toNat := (by rw [Ny372.out, List.length_take]; omega)
              rw [← Ny372.out] at hr145
              rw [← hy145] at hcut145
              have HR375 := Aside0.mk hr145
              have HC375 := Aside0.mk (show y372.length ≤ c1 from by omega)
              clear hr145 hC145 hroom145 hi0145 hsz145
              have KY145 := Aside0.mk hy145
              clear hy145
              replace q145 := eq_true q145
              have q146 : (a2 : Int) ≤ ((l1.length : Int) : Int) := of_decide_eq_true (by first | (with_reducible assumption) | assumption)
              obtain ⟨i0146, hi0146, _, hsz146, _⟩ := info_parts info42
              have hroom146 : l1.length ≤ c1 := HC1.out
              have hC146 : Kd.C k42 _ A1 l1.length l1 := HR1.out
              have q0146 : (0 : Int) ≤ (a2 : Int) := of_decide_eq_true (by first | (with_reducible assumption) | assumption)
              have hcut146 := cut_from (P := Try.prog) 23 42 .i64 Try.underlying23 hi0146 3 hsz146 A1 l1.length c1 a2 q0146 q146
              have hr146 := Kd.C_drop (m := (a2 : Int).toNat) (c := c1) hC146 (by omega) hroom146
              obtain ⟨A146, hA146⟩ : ∃ Ab_, Ab_ = (if c1 = (a2 : Int).toNat then A1 else (A1 : Option Addr).map (·.add ((a2 : Int).toNat * 3))) := ⟨_, rfl⟩
              obtain ⟨c146, hc146⟩ : ∃ cb_, cb_ = c1 - (a2 : Int).toNat := ⟨_, rfl⟩
              have hy146 : y379.length = l1.length - (a2 : Int).toNat := (by rw [Ny379.out, List.length_drop] <;> omega)
              rw [show (l1).drop (a2 : Int).toNat = y379 from Ny379.out.symm] at hr146
              replace hr146 : Kd.C k42 _ A146 y379.length y379 := (by rw [hA146]; exact hr146)
              rw [← hy146, ← hA146, ← hc146] at hcut146
              have HR382 := Aside0.mk hr146
              have HC382 := Aside0.mk (show y379.length ≤ c146 from by rw [hy146, hc146]; exact Nat.sub_le_sub_right hroom146 _)
              clear hr146 hC146 hroom146 hi0146 hsz146 hc146
              have KY146 := Aside0.mk hy146
              have KA146 := Aside0.mk hA146
              clear hy146 hA146
              replace q146 := eq_true q146
              refine start_ (n := 10) (S := fun w' => True) (ds := []) #[false, false, false, false, false, false, false, false, false, false] (by kernel_rfl) rfl rfl trivial (fun hHeld => ?_); refine with_tabW sheetpilelaw21_DirParts.tab4 sheetpilelaw21_DirParts.bits4 (fun HT_ HW_ => ?_)
              generalize w143.drew = w144 at HO371 HB HR375 HR382 hHeld ⊢
              refine pure_ (i := 0) (N := some 39) (v := ?_) (a' := ?_) #[true, false, false, false, false, false, false, false, false, false] rfl rfl (any_of HT_.out (by kernel_rfl)) (fun _ _ _ h => h) (Or.inl ⟨by rfl, ?_⟩) ?_ ?_
              rotate_left
              · intro w'
                go_simp
                with_reducible rfl
              rotate_left
              · simp only [Act.put, List.setIfInBounds_toArray, List.set_cons_zero, List.set_cons_succ, i64_w, i32_w]
                rfl
              refine pure_ (i := 1) (N := some 40) (v := ?_) (a' := ?_) #[true, true, false, false, false, false, false, false, false, false] rfl rfl (any_of HT_.out (by kernel_rfl)) (fun _ _ _ h => h) (Or.inl ⟨by rfl, ?_⟩) ?_ ?_
              rotate_left
              · intro w'
                go_simp
                with_reducible rfl
              rotate_left
              · simp only [Act.put, List.setIfInBounds_toArray, List.set_cons_zero, List.set_cons_succ, i64_w, i32_w]
                rfl
              refine pure_ (i := 2) (N := some 41) (v := ?_) (a' := ?_) #[true, true, true, false, false, false, false, false, false, false] rfl rfl (any_of HT_.out (by kernel_rfl)) (fun _ _ _ h => h) (Or.inl ⟨by rfl, ?_⟩) ?_ ?_
              rotate_left
              · intro w'
                go_simp
                with_reducible rfl
              rotate_left
              · simp only [Act.put, List.setIfInBounds_toArray, List.set_cons_zero, List.set_cons_succ, i64_w, i32_w]
                rfl
              refine pure_ (i := 3) (N := some 42) (v := ?_) (a' := ?_) #[true, true, true, true, false, false, false, false, false, false] rfl rfl (any_of HT_.out (by kernel_rfl)) (fun _ _ _ h => h) (Or.inl ⟨by rfl, ?_⟩) ?_ ?_
              rotate_left
              · intro w'
                go_simp
                with_reducible rfl
              rotate_left
              · simp only [Act.put, List.setIfInBounds_toArray, List.set_cons_zero, List.set_cons_succ, i64_w, i32_w]
                rfl
              refine pure_ (i := 5) (N := some 44) (v := ?_) (a' := ?_) #[true, true, true, true, false, true, false, false, false, false] rfl rfl (any_of HT_.out (by kernel_rfl)) (fun _ _ _ h => h) (Or.inl ⟨by rfl, ?_⟩) ?_ ?_
              rotate_left
              · intro w'
                go_simp
                with_reducible rfl
              rotate_left
              · simp only [Act.put, List.setIfInBounds_toArray, List.set_cons_zero, List.set_cons_succ, i64_w, i32_w]
                rfl
              refine pure_ (i := 6) (N := some 45) (v := ?_) (a' := ?_) #[true, true, true, true, false, true, true, false, false, false] rfl rfl (any_of HT_.out (by kernel_rfl)) (fun _ _ _ h => h) (Or.inl ⟨by rfl, ?_⟩) ?_ ?_
              rotate_left
              · intro w'
                go_simp
                with_reducible rfl
              rotate_left
              · simp only [Act.put, List.setIfInBounds_toArray, List.set_cons_zero, List.set_cons_succ, i64_w, i32_w]
                rfl
              refine pure_ (i := 7) (N := some 46) (v := ?_) (a' := ?_) #[true, true, true, true, false, true, true, true, false, false] rfl rfl (any_of HT_.out (by kernel_rfl)) (fun _ _ _ h => h) (Or.inl ⟨by rfl, ?_⟩) ?_ ?_
              rotate_left
              · intro w'
                go_simp
                with_reducible rfl
              rotate_left
              · simp only [Act.put, List.setIfInBounds_toArray, List.set_cons_zero, List.set_cons_succ, i64_w, i32_w]
                rfl
              refine one_ (i := 4) (N := some 43) #[true, true, true, true, true, true, true, true, false, false] rfl rfl (one_of HT_.out (by kernel_rfl)) (by decide) (fun K hK => ?_)
              refine goes_ Try.func18 (by kernel_rfl) rfl #[.slice A0 l0.length c0, .slice A1 y372.length c1] (by rfl) rfl rfl (by (try simp only [List.map_toArray, List.map_cons, List.map_nil]); first | done | rfl | (simp only [List.length_drop, List.length_take]; rfl)) ?_
              with_reducible refine (dir_Apply.calls _ _ l0 _ _ y372 t376 _ ?side1 ?side2 ?side3 ?side4 A22.out).mono ?_
              (case side1 => repeat (first | exact (Kd.C_below HR0.out HB.out) | (with_reducible refine Kd.C_alloc ?_ _) | (with_reducible refine Kd.C_drewN ?_ _) | (with_reducible refine Kd.C_drew ?_)))
              (case side2 => exact HC0.out)
              (case side3 => repeat (first | exact (Kd.C_below HR375.out HB.out) | (with_reducible refine Kd.C_alloc ?_ _) | (with_reducible refine Kd.C_drewN ?_ _) | (with_reducible refine Kd.C_drew ?_)))
              (case side4 => exact HC375.out)
              rintro e w147 ⟨v377, rfl, ho0, hb⟩
              refine ⟨_, rfl, ?_⟩
              have n0_ := Aside0.mk (Kd.R_elder' (by (with_reducible repeat (first | apply Kd.R_alloc | apply Kd.R_drewN | apply Kd.R_drew)); exact HO371.out) (Kd.R_base ho0) hb)
              have n1_ := Aside0.mk (Kd.R_lower (Kd.R_new' ho0 (Kd.R_lt (by (with_reducible repeat (first | apply Kd.R_alloc | apply Kd.R_drewN | apply Kd.R_drew)); exact HO371.out))) (below_size (by repeat (first | (with_reducible first | exact HB.out | apply below_alloc | apply pw_below_drewN | apply below_drew1) | exact HB.out))))
              have n2_ := Aside0.mk (below_step (by repeat (first | (with_reducible first | exact HB.out | apply below_alloc | apply pw_below_drewN | apply below_drew1) | exact HB.out)) hb)
              clear HO371
              clear HB
              have HO371 := n0_
              have HO378 := n1_
              have HB := n2_
              clear n0_ n1_ n2_
              (try clear hb)
              (try clear hb2)
              (try clear hk)
              (try clear hi)
              (try clear ho0)
              obtain ⟨Ao148, co148, eo148⟩ := Kd.R_slice HO378.out
              (first | subst eo148 | (injection eo148 with f1_ f2_ f3_; have f4_ := f1_.symm; have f5_ := f3_.symm; clear f1_ f2_ f3_; subst f4_; subst f5_))
              refine hK.out _ _ trivial (fun hHeld => ?_)
              clear hK K
              refine norm_ (a' := ?_) ?_ ?_
              rotate_left
              · show Act.put _ (some 43) _ = _
                simp only [Act.put, List.setIfInBounds_toArray, List.set_cons_zero, List.set_cons_succ, i64_w, i32_w]
                rfl
              refine one_ (i := 8) (N := some 47) #[true, true, true, true, true, true, true, true, true, false] rfl rfl (one_of HT_.out (by kernel_rfl)) (by decide) (fun K hK => ?_)
              refine goes_ Try.func18 (by kernel_rfl) rfl #[.slice Ao148 t376.length co148, .slice A146 y379.length c146] (by rfl) rfl rfl (by (try simp only [List.map_toArray, List.map_cons, List.map_nil]); first | done | rfl | (simp only [List.length_drop, List.length_take]; rfl)) ?_
              with_reducible refine (dir_Apply.calls _ _ t376 _ _ y379 t383 _ ?side1 ?side2 ?side3 ?side4 A25.out).mono ?_
              (case side1 => repeat (first | exact (Kd.R_reads' HO378.out).2.2 | (with_reducible refine Kd.C_alloc ?_ _) | (with_reducible refine Kd.C_drewN ?_ _) | (with_reducible refine Kd.C_drew ?_)))
              (case side2 => exact (Kd.R_reads' HO378.out).2.1)
              (case side3 => repeat (first | exact (Kd.C_below HR382.out HB.out) | (with_reducible refine Kd.C_alloc ?_ _) | (with_reducible refine Kd.C_drewN ?_ _) | (with_reducible refine Kd.C_drew ?_)))
              (case side4 => exact HC382.out)
              rintro e w149 ⟨v384, rfl, ho0, hb⟩
              refine ⟨_, rfl, ?_⟩
              have n0_ := Aside0.mk (Kd.R_elder' (by (with_reducible repeat (first | apply Kd.R_alloc | apply Kd.R_drewN | apply Kd.R_drew)); exact HO371.out) (Kd.R_base ho0) hb)
              have n1_ := Aside0.mk (Kd.R_elder' (by (with_reducible repeat (first | apply Kd.R_alloc | apply Kd.R_drewN | apply Kd.R_drew)); exact HO378.out) (Kd.R_base ho0) hb)
              have n2_ := Aside0.mk (Kd.R_lower (Kd.R_new' (Kd.R_new' ho0 (Kd.R_lt (by (with_reducible repeat (first | apply Kd.R_alloc | apply Kd.R_drewN | apply Kd.R_drew)); exact HO371.out))) (Kd.R_lt (by (with_reducible repeat (first | apply Kd.R_alloc | apply Kd.R_drewN | apply Kd.R_drew)); exact HO378.out))) (below_size (by repeat (first | (with_reducible first | exact HB.out | apply below_alloc | apply pw_below_drewN | apply below_drew1) | exact HB.out))))
              have n3_ := Aside0.mk (below_step (by repeat (first | (with_reducible first | exact HB.out | apply below_alloc | apply pw_below_drewN | apply below_drew1) | exact HB.out)) hb)
              clear HO371
              clear HO378
              clear HB
              have HO371 := n0_
              have HO378 := n1_
              have HO385 := n2_
              have HB := n3_
              clear n0_ n1_ n2_ n3_
              (try clear hb)
              (try clear hb2)
              (try clear hk)
              (try clear hi)
              (try clear ho0)
              refine hK.out _ _ trivial (fun hHeld => ?_)
              clear hK K
              refine norm_ (a' := ?_) ?_ ?_
              rotate_left
              · show Act.put _ (some 47) _ = _
                simp only [Act.put, List.setIfInBounds_toArray, List.set_cons_zero, List.set_cons_succ, i64_w, i32_w]
                rfl
              refine pure_ (i := 9) (N := some 8) (v := ?_) (a' := ?_) #[true, true, true, true, true, true, true, true, true, true] rfl rfl (any_of HT_.out (by kernel_rfl)) (fun _ _ _ h => h) (Or.inl ⟨by rfl, ?_⟩) ?_ ?_
              rotate_left
              · intro w'
                go_simp
                with_reducible rfl
              rotate_left
              · simp only [Act.put, List.setIfInBounds_toArray, List.set_cons_zero, List.set_cons_succ, i64_w, i32_w]
                rfl
              refine done_ (done_of HT_.out (by kernel_rfl)) ?_
              obtain ⟨Ao150, co150, eo150⟩ := Kd.R_slice HO371.out
              subst eo150
              obtain ⟨Ao151, co151, eo151⟩ := Kd.R_slice HO385.out
              subst eo151
              try go_wp2_with (first | ((with_reducible refine gate_callee (f := 21) rfl ?_); refine goesL_ (some 50) rfl rfl Try.func21 (by kernel_rfl) rfl #[.slice Ao150 t369.length co150, .slice Ao151 t383.length co151] rfl (by (try simp only [List.map_toArray, List.map_cons, List.map_nil]); first | done | rfl | (simp only [List.length_drop, List.length_take]; rfl)) ?_; (with_reducible refine (sheetpileref21_Same.calls kj3 _ _ t369 _ _ t383 false _ ?side1 ?side2 ?side3 ?side4 A26.out).mono ?_); (case side1 => repeat (first | exact (Kd.R_reads' HO371.out).2.2 | (with_reducible refine Kd.C_alloc ?_ _) | (with_reducible refine Kd.C_drewN ?_ _) | (with_reducible refine Kd.C_drew ?_))); (case side2 => exact (Kd.R_reads' HO371.out).2.1); (case side3 => repeat (first | exact (Kd.R_reads' HO385.out).2.2 | (with_reducible refine Kd.C_alloc ?_ _) | (with_reducible refine Kd.C_drewN ?_ _) | (with_reducible refine Kd.C_drew ?_))); (case side4 => exact (Kd.R_reads' HO385.out).2.1); rintro e w' ⟨rfl, ⟨nd, rfl⟩⟩; refine ⟨_, rfl, ?_⟩))
              go_ret
              exact ⟨by first | rfl | (simp [errW_none, errW_some] <;> rfl) | (simp [*, errW_none, errW_some] <;> rfl), by repeat (first | (with_reducible first | exact HB.out | apply below_alloc | apply pw_below_drewN | apply below_drew1) | exact HB.out)⟩
          · rw [if_neg c21] at H
            exact absurd H (by simp)
        · rw [if_neg c20] at H
          exact absurd H (by simp)

end Go.Proofs.Ytggngbbkachpaaa.PDi
