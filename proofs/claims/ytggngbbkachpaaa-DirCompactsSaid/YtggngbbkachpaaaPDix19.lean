-- Laid by a program of this session (wip/mkprint.py); checked by Lean alone
import Derived.Test.YtggngbbkachpaaaPDix0
import Derived.Test.YtggngbbkachpaaaPDix17
namespace Go.Proofs.Ytggngbbkachpaaa.Given
end Go.Proofs.Ytggngbbkachpaaa.Given
namespace Go.Proofs.Ytggngbbkachpaaa.PDi
open Go.Proofs.Ytggngbbkachpaaa.Given
open Go.RowKit Go.Proofs.YtggngbbkachpaaaW.PrintWords Go.Proofs.YtggngbbkachpaaaW.PrintLast Go.Proofs.YtggngbbkachpaaaW.PrintMore
attribute [local go_sem] max2_int min2_int max_two min_two max_three min_three max_four min_four   -- for this text's walks alone
set_option linter.unusedVariables false
set_option linter.unusedSimpArgs false

attribute [local go_sem] isSome_setCell_ binOp_geq_ binOp_leq_ binOp_gtr_
/-! ### sheetpileref07_Cut: function 66 -/
mutual
def sheetpileref07_Cut.j0 : Nat → ByteArray → Int → Bool → Option (Int × ByteArray × Int)
  | 0, _, _, _ => none
  | k + 1, x0, x1, x14 => if x14 = true then (some (0, (⟨#[]⟩ : ByteArray), 1)) else (if (x0.size : Int) < x1 then (some (0, (⟨#[]⟩ : ByteArray), 4)) else (sheetpileref07_Cut.l0 k x0 x1 0 (wrap64 (x1 - 1))))
def sheetpileref07_Cut.l0 : Nat → ByteArray → Int → Int → Int → Option (Int × ByteArray × Int)
  | 0, _, _, _, _ => none
  | k + 1, x0, x1, x7, x8 => if x8 ≥ 0 then (if 0 ≤ x8 then (if x8 < (x0.size : Int) then (sheetpileref07_Cut.l0 k x0 x1 (wrap64 ((wrap64 (256 * x7)) + (wrap64 (bt x0 x8)))) (wrap64 (x8 - 1))) else (none)) else (none)) else (if 0 ≤ x1 then (if x1 ≤ (x0.size : Int) then (some (x7, x0.extract (x1 : Int).toNat x0.size, 0)) else (none)) else (none))
end
def sheetpileref07_Cut.f (k : Nat) (a0 : ByteArray) (a1 : Int) : Option (Int × ByteArray × Int) := if a1 < 1 then (sheetpileref07_Cut.j0 k a0 a1 true) else (sheetpileref07_Cut.j0 k a0 a1 (decide (a1 > 7)))
theorem sheetpileref07_Cut.mono_l : ∀ k, (∀ y0 y1 y2, LeO (sheetpileref07_Cut.j0 k y0 y1 y2) (sheetpileref07_Cut.j0 (k + 1) y0 y1 y2)) ∧ (∀ y0 y1 y2 y3, LeO (sheetpileref07_Cut.l0 k y0 y1 y2 y3) (sheetpileref07_Cut.l0 (k + 1) y0 y1 y2 y3))
  | 0 => ⟨fun _ _ _ r h => by simp [sheetpileref07_Cut.j0] at h, fun _ _ _ _ r h => by simp [sheetpileref07_Cut.l0] at h⟩
  | k + 1 => by
    obtain ⟨ih0, ih1⟩ := sheetpileref07_Cut.mono_l k
    refine ⟨?_, ?_⟩
    · intro y0 y1 y2
      unfold sheetpileref07_Cut.j0
      repeat' first
      | (with_reducible exact ih0 _ _ _)
      | (with_reducible exact ih1 _ _ _ _)
      | (with_reducible exact LeO.refl _)
      | (with_reducible exact LeO.none _)
      | (with_reducible refine LeO.ite ?_ ?_)
      | (with_reducible refine LeO.bind ?_ (fun _ => ?_))
      | exact ih0 _ _ _
      | exact ih1 _ _ _ _
      | exact LeO.none _
      | refine LeO.ite ?_ ?_
      | refine LeO.bind ?_ (fun _ => ?_)
    · intro y0 y1 y2 y3
      unfold sheetpileref07_Cut.l0
      repeat' first
      | (with_reducible exact ih0 _ _ _)
      | (with_reducible exact ih1 _ _ _ _)
      | (with_reducible exact LeO.refl _)
      | (with_reducible exact LeO.none _)
      | (with_reducible refine LeO.ite ?_ ?_)
      | (with_reducible refine LeO.bind ?_ (fun _ => ?_))
      | exact ih0 _ _ _
      | exact ih1 _ _ _ _
      | exact LeO.none _
      | refine LeO.ite ?_ ?_
      | refine LeO.bind ?_ (fun _ => ?_)
theorem sheetpileref07_Cut.mono : ∀ a0 a1 k, LeO (sheetpileref07_Cut.f k a0 a1) (sheetpileref07_Cut.f (k + 1) a0 a1) := by
  intro a0 a1 k
  obtain ⟨ih0, ih1⟩ := sheetpileref07_Cut.mono_l k
  unfold sheetpileref07_Cut.f
  repeat' first
      | (with_reducible exact ih0 _ _ _)
      | (with_reducible exact ih1 _ _ _ _)
      | (with_reducible exact LeO.refl _)
      | (with_reducible exact LeO.none _)
      | (with_reducible refine LeO.ite ?_ ?_)
      | (with_reducible refine LeO.bind ?_ (fun _ => ?_))
      | exact ih0 _ _ _
      | exact ih1 _ _ _ _
      | exact LeO.none _
      | refine LeO.ite ?_ ?_
      | refine LeO.bind ?_ (fun _ => ?_)
set_option maxHeartbeats 8000000 in
set_option maxRecDepth 100000 in
theorem sheetpileref07_Cut.calls (k : Nat) (a0 : ByteArray) (a1 : Int) (r1 : Int) (r2 : ByteArray) (r3 : Int) (w : World) (h : sheetpileref07_Cut.f k a0 a1 = some (r1, r2, r3)) :
    Calls Try.prog 66 #[.string a0, .int .i64 a1] w fun e w' => e = .returned (.tuple #[.int .i64 r1, .string r2, .int .i64 r3]) ∧ Drawn0 w w' := by
  have H : (if a1 < 1 then (sheetpileref07_Cut.j0 k a0 a1 true) else (sheetpileref07_Cut.j0 k a0 a1 (decide (a1 > 7)))) = some (r1, r2, r3) := h
  clear h
  have HC3 := Aside0.mk H
  clear H
  go_enter Try.func66, Try.ntmps66
  go_upto_region 1 with (fail)
  repeat (go_quiet (fail); go_upto_region 1 with (fail))
  go_cut [14] (fun v14 wc => ∃ (kq : Nat) (x14_2 : Bool), v14 = .bool x14_2 ∧ Aside0 (sheetpileref07_Cut.j0 kq a0 a1 x14_2 = some (r1, r2, r3)) ∧ Aside0 (kq ≤ k) ∧ Drawn0 w wc)
  case first =>
    have H := HC3.out
    clear HC3
    by_cases c4 : a1 < 1
    · rw [if_pos c4] at H
      have c4b0 : decide (a1 < 1) = true := decide_eq_true c4
      clear c4
      (first | rw [c4b0] | (simp only [i64_w, i32_w]; rw [c4b0]) | skip)
      have H' := Aside0.mk H
      clear H
      go_wp2
      repeat (go_quiet (fail); try go_wp2)
      go_meet
      case rel => exact ⟨_, (true), (by first | rfl | (simp; done) | (simp [*]; done) | exact congrArg Value.bool (by cases ByteArray.toList a0 <;> rfl) | exact congrArg Value.bool (by cases ByteArray.toList a1 <;> rfl)), H', ⟨by first | omega | exact Nat.le_refl _⟩, by repeat (first | exact Drawn0.refl _ | apply Drawn0.step)⟩
    · rw [if_neg c4] at H
      have c4b0 : decide (a1 < 1) = false := decide_eq_false c4
      clear c4
      (first | rw [c4b0] | (simp only [i64_w, i32_w]; rw [c4b0]) | skip)
      have H' := Aside0.mk H
      clear H
      go_wp2
      repeat (go_quiet (fail); try go_wp2)
      go_meet
      case rel => exact ⟨_, (decide (a1 > 7)), (by first | rfl | (simp; done) | (simp [*]; done) | exact congrArg Value.bool (by cases ByteArray.toList a0 <;> rfl) | exact congrArg Value.bool (by cases ByteArray.toList a1 <;> rfl)), H', ⟨by first | omega | exact Nat.le_refl _⟩, by repeat (first | exact Drawn0.refl _ | apply Drawn0.step)⟩
  case rest =>
    clear HC3
    try clear p2
    try clear c4
    try clear c4b0
    obtain ⟨kq, x14_2, rfl, HA, HJ2, ⟨mc2, rfl⟩⟩ := hcut
    cases kq with
    | zero => exact absurd HA.out (by simp [sheetpileref07_Cut.j0])
    | succ kj2 =>
      have H := HA.out
      clear HA
      simp only [sheetpileref07_Cut.j0] at H
      by_cases c5 : x14_2 = true
      · subst c5
        have H1 : (some (0, (⟨#[]⟩ : ByteArray), 1)) = some (r1, r2, r3) := by rw [if_pos rfl] at H; exact H
        clear H
        have H := H1
        clear H1
        simp only [Option.some.injEq, Prod.mk.injEq] at H
        obtain ⟨rfl, rfl, rfl⟩ := H
        go_wp2
        repeat (go_quiet (fail); try go_wp2)
        go_ret3
        exact ⟨by first | rfl | (simp; done) | (simp [*]; done), by repeat (first | exact Drawn0.refl _ | apply Drawn0.step)⟩
      · replace c5 := Bool.eq_false_iff.mpr c5
        subst c5
        have H1 : (if (a0.size : Int) < a1 then (some (0, (⟨#[]⟩ : ByteArray), 4)) else (sheetpileref07_Cut.l0 kj2 a0 a1 0 (wrap64 (a1 - 1)))) = some (r1, r2, r3) := by rw [if_neg (show ¬ (false = true) by decide)] at H; exact H
        clear H
        have H := H1
        clear H1
        by_cases c6 : (a0.size : Int) < a1
        · rw [if_pos c6] at H
          have c6b0 : decide ((a0.size : Int) < a1) = true := decide_eq_true c6
          clear c6
          simp only [Option.some.injEq, Prod.mk.injEq] at H
          obtain ⟨rfl, rfl, rfl⟩ := H
          go_wp2
          repeat (go_quiet (fail); try go_wp2)
          go_ret3
          exact ⟨by first | rfl | (simp; done) | (simp [*]; done), by repeat (first | exact Drawn0.refl _ | apply Drawn0.step)⟩
        · rw [if_neg c6] at H
          have c6b0 : decide ((a0.size : Int) < a1) = false := decide_eq_false c6
          clear c6
          have H' := Aside0.mk H
          clear H
          go_wp2
          repeat (go_quiet (fail); try go_wp2)
          go_loopg [7, 8] kj2 (fun kq v7 v8 w' => ∃ (x7_2 : Int) (x8_2 : Int), v7 = .int .i64 x7_2 ∧ v8 = .int .i64 x8_2 ∧ Aside0 (sheetpileref07_Cut.l0 kq a0 a1 x7_2 x8_2 = some (r1, r2, r3)) ∧ Aside0 (kq ≤ kj2) ∧ Drawn0 w w')
          case atStart => exact ⟨(0), (wrap64 (a1 - 1)), (by first | rfl | (simp; done) | (simp [*]; done) | exact congrArg Value.bool (by cases ByteArray.toList a0 <;> rfl) | exact congrArg Value.bool (by cases ByteArray.toList a1 <;> rfl)), (by first | rfl | (simp; done) | (simp [*]; done) | exact congrArg Value.bool (by cases ByteArray.toList a0 <;> rfl) | exact congrArg Value.bool (by cases ByteArray.toList a1 <;> rfl)), H', ⟨Nat.le_refl _⟩, by repeat (first | exact Drawn0.refl _ | apply Drawn0.step)⟩
          case round =>
            clear H'
            try clear c2
            try clear p2
            try clear c4
            try clear c4b0
            try clear c5
            try clear c6
            try clear c6b0
            try clear p6
            try clear p2
            obtain ⟨x7_2, x8_2, rfl, rfl, HA, HK2, ⟨m2, rfl⟩⟩ := hrel
            cases gk with
            | zero => exact absurd HA.out (by simp [sheetpileref07_Cut.l0])
            | succ k2 =>
              have H := HA.out
              clear HA
              simp only [sheetpileref07_Cut.l0] at H
              by_cases c7 : x8_2 ≥ 0
              · rw [if_pos c7] at H
                have c7b0 : decide (0 ≤ x8_2) = true := decide_eq_true c7
                clear c7
                by_cases c8 : 0 ≤ x8_2
                · rw [if_pos c8] at H
                  have c8b0 : decide (0 ≤ x8_2) = true := decide_eq_true c8
                  clear c8
                  by_cases c9 : x8_2 < (a0.size : Int)
                  · rw [if_pos c9] at H
                    have c9b0 : decide (x8_2 < (a0.size : Int)) = true := decide_eq_true c9
                    clear c9
                    have H' := Aside0.mk H
                    clear H
                    have p10 : 0 ≤ (x8_2 : Int) := of_decide_eq_true (by first | (with_reducible assumption) | assumption)
                    have q10 : x8_2 < (a0.size : Int) := of_decide_eq_true (by first | (with_reducible assumption) | assumption)
                    have hx10 := bt_at a0 x8_2
                    replace p10 := eq_true p10
                    replace q10 := eq_true q10
                    go_wp2
                    repeat (go_quiet (fail); try go_wp2)
                    go_roundg k2
                    case measure => have := HJ2.out; have := HK2.out; omega
                    case rel => exact ⟨(wrap64 ((wrap64 (256 * x7_2)) + (wrap64 (bt a0 x8_2)))), (wrap64 (x8_2 - 1)), (by first | rfl | (simp; done) | (simp [*]; done) | exact congrArg Value.bool (by cases ByteArray.toList a0 <;> rfl) | exact congrArg Value.bool (by cases ByteArray.toList a1 <;> rfl)), (by first | rfl | (simp; done) | (simp [*]; done) | exact congrArg Value.bool (by cases ByteArray.toList a0 <;> rfl) | exact congrArg Value.bool (by cases ByteArray.toList a1 <;> rfl)), H', ⟨by have := HJ2.out; have := HK2.out; omega⟩, by repeat (first | exact Drawn0.refl _ | apply Drawn0.step)⟩
                  · rw [if_neg c9] at H
                    exact absurd H (by simp)
                · rw [if_neg c8] at H
                  exact absurd H (by simp)
              · rw [if_neg c7] at H
                have c7b0 : decide (0 ≤ x8_2) = false := decide_eq_false c7
                clear c7
                by_cases c11 : 0 ≤ a1
                · rw [if_pos c11] at H
                  have c11b0 := eq_true c11
                  have c11b1 : decide (0 ≤ a1) = true := decide_eq_true c11
                  clear c11
                  by_cases c12 : a1 ≤ (a0.size : Int)
                  · rw [if_pos c12] at H
                    have c12b0 := eq_true c12
                    have c12b1 : decide (a1 ≤ (a0.size : Int)) = true := decide_eq_true c12
                    clear c12
                    simp only [Option.some.injEq, Prod.mk.injEq] at H
                    obtain ⟨rfl, rfl, rfl⟩ := H
                    go_wp2
                    repeat (go_quiet (fail); try go_wp2)
                    go_ret3
                    exact ⟨by first | rfl | (simp; done) | (simp [*]; done), by repeat (first | exact Drawn0.refl _ | apply Drawn0.step)⟩
                  · rw [if_neg c12] at H
                    exact absurd H (by simp)
                · rw [if_neg c11] at H
                  exact absurd H (by simp)

/-! ### sheetpileref07_Take: function 67 -/
def sheetpileref07_Take.f (k : Nat) (a0 : ByteArray) : Option (ByteArray × ByteArray × Int) := (sheetpileref07_Cut.f k a0 2).bind fun bt241 => (if bt241.2.2 = 0 then (if bt241.1 > (bt241.2.1.size : Int) then (some ((⟨#[]⟩ : ByteArray), (⟨#[]⟩ : ByteArray), 4)) else (if 0 ≤ bt241.1 then (if bt241.1 ≤ (bt241.2.1.size : Int) then (some (bt241.2.1.extract 0 (bt241.1 : Int).toNat, bt241.2.1.extract (bt241.1 : Int).toNat bt241.2.1.size, 0)) else (none)) else (none))) else (some ((⟨#[]⟩ : ByteArray), (⟨#[]⟩ : ByteArray), 4)))
theorem sheetpileref07_Take.mono : ∀ a0 k, LeO (sheetpileref07_Take.f k a0) (sheetpileref07_Take.f (k + 1) a0) := by
  intro a0 k
  unfold sheetpileref07_Take.f
  repeat' first
      | (with_reducible exact sheetpileref07_Cut.mono _ _ _)
      | (with_reducible exact LeO.refl _)
      | (with_reducible exact LeO.none _)
      | (with_reducible refine LeO.ite ?_ ?_)
      | (with_reducible refine LeO.bind ?_ (fun _ => ?_))
      | exact sheetpileref07_Cut.mono _ _ _
      | exact LeO.none _
      | refine LeO.ite ?_ ?_
      | refine LeO.bind ?_ (fun _ => ?_)
set_option maxHeartbeats 8000000 in
set_option maxRecDepth 100000 in
theorem sheetpileref07_Take.calls (k : Nat) (a0 : ByteArray) (r1 : ByteArray) (r2 : ByteArray) (r3 : Int) (w : World) (h : sheetpileref07_Take.f k a0 = some (r1, r2, r3)) :
    Calls Try.prog 67 #[.string a0] w fun e w' => e = .returned (.tuple #[.string r1, .string r2, .int .i64 r3]) ∧ Drawn0 w w' := by
  have H : ((sheetpileref07_Cut.f k a0 2).bind fun bt241 => (if bt241.2.2 = 0 then (if bt241.1 > (bt241.2.1.size : Int) then (some ((⟨#[]⟩ : ByteArray), (⟨#[]⟩ : ByteArray), 4)) else (if 0 ≤ bt241.1 then (if bt241.1 ≤ (bt241.2.1.size : Int) then (some (bt241.2.1.extract 0 (bt241.1 : Int).toNat, bt241.2.1.extract (bt241.1 : Int).toNat bt241.2.1.size, 0)) else (none)) else (none))) else (some ((⟨#[]⟩ : ByteArray), (⟨#[]⟩ : ByteArray), 4)))) = some (r1, r2, r3) := h
  clear h
  replace H := Option.bind_eq_some_iff.mp H
  obtain ⟨⟨t241, t242, t243⟩, A20, H⟩ := H
  replace H : (if t243 = 0 then (if t241 > (t242.size : Int) then (some ((⟨#[]⟩ : ByteArray), (⟨#[]⟩ : ByteArray), 4)) else (if 0 ≤ t241 then (if t241 ≤ (t242.size : Int) then (some (t242.extract 0 (t241 : Int).toNat, t242.extract (t241 : Int).toNat t242.size, 0)) else (none)) else (none))) else (some ((⟨#[]⟩ : ByteArray), (⟨#[]⟩ : ByteArray), 4))) = some (r1, r2, r3) := H
  have A2 := Aside0.mk A20
  clear A20
  by_cases c3 : t243 = 0
  · rw [if_pos c3] at H
    have c3b0 : (t243 == 0) = true := beq_iff_eq.mpr c3
    have c3b1 : (t243 != 0) = false := bne_eq_false_iff_eq.mpr c3
    clear c3
    by_cases c4 : t241 > (t242.size : Int)
    · rw [if_pos c4] at H
      have c4b0 : decide ((t242.size : Int) < t241) = true := decide_eq_true c4
      clear c4
      simp only [Option.some.injEq, Prod.mk.injEq] at H
      obtain ⟨rfl, rfl, rfl⟩ := H
      go_enter Try.func67, Try.ntmps67
      go_wp2_with (first | (go_at_call 66; (with_reducible refine (sheetpileref07_Cut.calls k a0 2 t241 t242 t243 _ A2.out).mono ?_); rintro e w' ⟨rfl, ⟨nd, rfl⟩⟩; (try first | exact ⟨rfl, _, World.drewN_drewN _ _ _⟩ | exact ⟨rfl, _, Eq.trans (World.drewN_drewN _ _ _) (congrArg (World.drewN _) (Nat.add_assoc _ _ _))⟩)))
      repeat (go_quiet (first | (go_at_call 66; (with_reducible refine (sheetpileref07_Cut.calls k a0 2 t241 t242 t243 _ A2.out).mono ?_); rintro e w' ⟨rfl, ⟨nd, rfl⟩⟩; (try first | exact ⟨rfl, _, World.drewN_drewN _ _ _⟩ | exact ⟨rfl, _, Eq.trans (World.drewN_drewN _ _ _) (congrArg (World.drewN _) (Nat.add_assoc _ _ _))⟩))); try go_wp2_with (first | (go_at_call 66; (with_reducible refine (sheetpileref07_Cut.calls k a0 2 t241 t242 t243 _ A2.out).mono ?_); rintro e w' ⟨rfl, ⟨nd, rfl⟩⟩; (try first | exact ⟨rfl, _, World.drewN_drewN _ _ _⟩ | exact ⟨rfl, _, Eq.trans (World.drewN_drewN _ _ _) (congrArg (World.drewN _) (Nat.add_assoc _ _ _))⟩))))
      go_ret3
      exact ⟨by first | rfl | (simp; done) | (simp [*]; done), by repeat (first | exact Drawn0.refl _ | apply Drawn0.step)⟩
    · rw [if_neg c4] at H
      have c4b0 : decide ((t242.size : Int) < t241) = false := decide_eq_false c4
      clear c4
      by_cases c5 : 0 ≤ t241
      · rw [if_pos c5] at H
        have c5b0 := eq_true c5
        have c5b1 : decide (0 ≤ t241) = true := decide_eq_true c5
        clear c5
        by_cases c6 : t241 ≤ (t242.size : Int)
        · rw [if_pos c6] at H
          have c6b0 := eq_true c6
          have c6b1 : decide (t241 ≤ (t242.size : Int)) = true := decide_eq_true c6
          clear c6
          have c7b0 := eq_true (of_decide_eq_true (by first | (with_reducible assumption) | assumption) : 0 ≤ t241)
          have c8b0 := eq_true (of_decide_eq_true (by first | (with_reducible assumption) | assumption) : t241 ≤ (t242.size : Int))
          simp only [Option.some.injEq, Prod.mk.injEq] at H
          obtain ⟨rfl, rfl, rfl⟩ := H
          go_enter Try.func67, Try.ntmps67
          go_wp2_with (first | (go_at_call 66; (with_reducible refine (sheetpileref07_Cut.calls k a0 2 t241 t242 t243 _ A2.out).mono ?_); rintro e w' ⟨rfl, ⟨nd, rfl⟩⟩; (try first | exact ⟨rfl, _, World.drewN_drewN _ _ _⟩ | exact ⟨rfl, _, Eq.trans (World.drewN_drewN _ _ _) (congrArg (World.drewN _) (Nat.add_assoc _ _ _))⟩)))
          repeat (go_quiet (first | (go_at_call 66; (with_reducible refine (sheetpileref07_Cut.calls k a0 2 t241 t242 t243 _ A2.out).mono ?_); rintro e w' ⟨rfl, ⟨nd, rfl⟩⟩; (try first | exact ⟨rfl, _, World.drewN_drewN _ _ _⟩ | exact ⟨rfl, _, Eq.trans (World.drewN_drewN _ _ _) (congrArg (World.drewN _) (Nat.add_assoc _ _ _))⟩))); try go_wp2_with (first | (go_at_call 66; (with_reducible refine (sheetpileref07_Cut.calls k a0 2 t241 t242 t243 _ A2.out).mono ?_); rintro e w' ⟨rfl, ⟨nd, rfl⟩⟩; (try first | exact ⟨rfl, _, World.drewN_drewN _ _ _⟩ | exact ⟨rfl, _, Eq.trans (World.drewN_drewN _ _ _) (congrArg (World.drewN _) (Nat.add_assoc _ _ _))⟩))))
          go_ret3
          exact ⟨by first | rfl | (simp; done) | (simp [*]; done), by repeat (first | exact Drawn0.refl _ | apply Drawn0.step)⟩
        · rw [if_neg c6] at H
          exact absurd H (by simp)
      · rw [if_neg c5] at H
        exact absurd H (by simp)
  · rw [if_neg c3] at H
    have c3b0 : (t243 == 0) = false := beq_eq_false_iff_ne.mpr c3
    have c3b1 : (t243 != 0) = true := bne_iff_ne.mpr c3
    simp only [Option.some.injEq, Prod.mk.injEq] at H
    obtain ⟨rfl, rfl, rfl⟩ := H
    go_enter Try.func67, Try.ntmps67
    go_wp2_with (first | (go_at_call 66; (with_reducible refine (sheetpileref07_Cut.calls k a0 2 t241 t242 t243 _ A2.out).mono ?_); rintro e w' ⟨rfl, ⟨nd, rfl⟩⟩; (try first | exact ⟨rfl, _, World.drewN_drewN _ _ _⟩ | exact ⟨rfl, _, Eq.trans (World.drewN_drewN _ _ _) (congrArg (World.drewN _) (Nat.add_assoc _ _ _))⟩)))
    repeat (go_quiet (first | (go_at_call 66; (with_reducible refine (sheetpileref07_Cut.calls k a0 2 t241 t242 t243 _ A2.out).mono ?_); rintro e w' ⟨rfl, ⟨nd, rfl⟩⟩; (try first | exact ⟨rfl, _, World.drewN_drewN _ _ _⟩ | exact ⟨rfl, _, Eq.trans (World.drewN_drewN _ _ _) (congrArg (World.drewN _) (Nat.add_assoc _ _ _))⟩))); try go_wp2_with (first | (go_at_call 66; (with_reducible refine (sheetpileref07_Cut.calls k a0 2 t241 t242 t243 _ A2.out).mono ?_); rintro e w' ⟨rfl, ⟨nd, rfl⟩⟩; (try first | exact ⟨rfl, _, World.drewN_drewN _ _ _⟩ | exact ⟨rfl, _, Eq.trans (World.drewN_drewN _ _ _) (congrArg (World.drewN _) (Nat.add_assoc _ _ _))⟩))))
    go_ret3
    exact ⟨by first | rfl | (simp; done) | (simp [*]; done), by repeat (first | exact Drawn0.refl _ | apply Drawn0.step)⟩

/-! ### sheetpileref06_More: function 96 -/
mutual
def sheetpileref06_More.l0 : Nat → ByteArray → Int → Int → Option (Int)
  | 0, _, _, _ => none
  | k + 1, x1, x5, x6 => if x6 < (x1.size : Int) then (if 0 ≤ x6 then (sheetpileref06_More.l1 k x1 (Go.bits .xor .u32 x5 ((bt x1 x6) % 4294967296)) x6 0) else (none)) else (some (Go.bits .xor .u32 x5 4294967295))
def sheetpileref06_More.l1 : Nat → ByteArray → Int → Int → Int → Option (Int)
  | 0, _, _, _, _ => none
  | k + 1, x1, x5, x6, x7 => if x7 < 8 then (if (Int.tmod x5 2) = 1 then (sheetpileref06_More.l1 k x1 (Go.bits .xor .u32 ((Int.tdiv x5 2) % 4294967296) 2197175160) x6 (wrap64 (x7 + 1))) else (sheetpileref06_More.l1 k x1 ((Int.tdiv x5 2) % 4294967296) x6 (wrap64 (x7 + 1)))) else (sheetpileref06_More.l0 k x1 x5 (wrap64 (x6 + 1)))
end
def sheetpileref06_More.f (k : Nat) (a0 : Int) (a1 : ByteArray) : Option (Int) := sheetpileref06_More.l0 k a1 (Go.bits .xor .u32 a0 4294967295) 0
theorem sheetpileref06_More.mono_l : ∀ k, (∀ y0 y1 y2, LeO (sheetpileref06_More.l0 k y0 y1 y2) (sheetpileref06_More.l0 (k + 1) y0 y1 y2)) ∧ (∀ y0 y1 y2 y3, LeO (sheetpileref06_More.l1 k y0 y1 y2 y3) (sheetpileref06_More.l1 (k + 1) y0 y1 y2 y3))
  | 0 => ⟨fun _ _ _ r h => by simp [sheetpileref06_More.l0] at h, fun _ _ _ _ r h => by simp [sheetpileref06_More.l1] at h⟩
  | k + 1 => by
    obtain ⟨ih0, ih1⟩ := sheetpileref06_More.mono_l k
    refine ⟨?_, ?_⟩
    · intro y0 y1 y2
      unfold sheetpileref06_More.l0
      repeat' first
      | (with_reducible exact ih0 _ _ _)
      | (with_reducible exact ih1 _ _ _ _)
      | (with_reducible exact LeO.refl _)
      | (with_reducible exact LeO.none _)
      | (with_reducible refine LeO.ite ?_ ?_)
      | (with_reducible refine LeO.bind ?_ (fun _ => ?_))
      | exact ih0 _ _ _
      | exact ih1 _ _ _ _
      | exact LeO.none _
      | refine LeO.ite ?_ ?_
      | refine LeO.bind ?_ (fun _ => ?_)
    · intro y0 y1 y2 y3
      unfold sheetpileref06_More.l1
      repeat' first
      | (with_reducible exact ih0 _ _ _)
      | (with_reducible exact ih1 _ _ _ _)
      | (with_reducible exact LeO.refl _)
      | (with_reducible exact LeO.none _)
      | (with_reducible refine LeO.ite ?_ ?_)
      | (with_reducible refine LeO.bind ?_ (fun _ => ?_))
      | exact ih0 _ _ _
      | exact ih1 _ _ _ _
      | exact LeO.none _
      | refine LeO.ite ?_ ?_
      | refine LeO.bind ?_ (fun _ => ?_)
theorem sheetpileref06_More.mono : ∀ a0 a1 k, LeO (sheetpileref06_More.f k a0 a1) (sheetpileref06_More.f (k + 1) a0 a1) := by
  intro a0 a1 k
  obtain ⟨ih0, ih1⟩ := sheetpileref06_More.mono_l k
  unfold sheetpileref06_More.f
  repeat' first
      | (with_reducible exact ih0 _ _ _)
      | (with_reducible exact ih1 _ _ _ _)
      | (with_reducible exact LeO.refl _)
      | (with_reducible exact LeO.none _)
      | (with_reducible refine LeO.ite ?_ ?_)
      | (with_reducible refine LeO.bind ?_ (fun _ => ?_))
      | exact ih0 _ _ _
      | exact ih1 _ _ _ _
      | exact LeO.none _
      | refine LeO.ite ?_ ?_
      | refine LeO.bind ?_ (fun _ => ?_)
set_option maxHeartbeats 8000000 in
set_option maxRecDepth 100000 in
theorem sheetpileref06_More.calls (k : Nat) (a0 : Int) (a1 : ByteArray) (r : Int) (w : World) (h : sheetpileref06_More.f k a0 a1 = some r) :
    Calls Try.prog 96 #[.int .u32 a0, .string a1] w fun e w' => e = .returned (.int .u32 r) ∧ Drawn0 w w' := by
  have H : (sheetpileref06_More.l0 k a1 (Go.bits .xor .u32 a0 4294967295) 0) = some r := h
  clear h
  have H' := Aside0.mk H
  clear H
  go_enter Try.func96, Try.ntmps96
  go_wp2
  go_loopg [5, 6] k (fun kq v5 v6 w' => ∃ (x5_1 : Int) (x6_1 : Int), v5 = .int .u32 x5_1 ∧ v6 = .int .i64 x6_1 ∧ Aside0 (sheetpileref06_More.l0 kq a1 x5_1 x6_1 = some r) ∧ Aside0 (kq ≤ k) ∧ Drawn0 w w')
  case atStart => exact ⟨(Go.bits .xor .u32 a0 4294967295), (0), (by first | rfl | (simp; done) | (simp [*]; done) | exact congrArg Value.bool (by cases ByteArray.toList a0 <;> rfl) | exact congrArg Value.bool (by cases ByteArray.toList a1 <;> rfl)), (by first | rfl | (simp; done) | (simp [*]; done) | exact congrArg Value.bool (by cases ByteArray.toList a0 <;> rfl) | exact congrArg Value.bool (by cases ByteArray.toList a1 <;> rfl)), H', ⟨Nat.le_refl _⟩, by repeat (first | exact Drawn0.refl _ | apply Drawn0.step)⟩
  case round =>
    clear H'
    try clear p2
    obtain ⟨x5_1, x6_1, rfl, rfl, HA, HK1, ⟨m1, rfl⟩⟩ := hrel
    cases gk with
    | zero => exact absurd HA.out (by simp [sheetpileref06_More.l0])
    | succ k1 =>
      have H := HA.out
      clear HA
      simp only [sheetpileref06_More.l0] at H
      by_cases c3 : x6_1 < (a1.size : Int)
      · rw [if_pos c3] at H
        have c3b0 : decide (x6_1 < (a1.size : Int)) = true := decide_eq_true c3
        clear c3
        by_cases c4 : 0 ≤ x6_1
        · rw [if_pos c4] at H
          have c4b0 : decide (0 ≤ x6_1) = true := decide_eq_true c4
          clear c4
          have H' := Aside0.mk H
          clear H
          have p5 : 0 ≤ (x6_1 : Int) := of_decide_eq_true (by first | (with_reducible assumption) | assumption)
          have q5 : x6_1 < (a1.size : Int) := of_decide_eq_true (by first | (with_reducible assumption) | assumption)
          have hx5 := bt_at a1 x6_1
          replace p5 := eq_true p5
          replace q5 := eq_true q5
          go_wp2
          go_loopg [5, 7] k1 (fun kq v5 v7 w' => ∃ (x5_2 : Int) (x7_2 : Int), v5 = .int .u32 x5_2 ∧ v7 = .int .i64 x7_2 ∧ Aside0 (sheetpileref06_More.l1 kq a1 x5_2 x6_1 x7_2 = some r) ∧ Aside0 (kq ≤ k1) ∧ Drawn0 w w')
          case atStart => exact ⟨(Go.bits .xor .u32 x5_1 ((bt a1 x6_1) % 4294967296)), (0), (by first | rfl | (simp; done) | (simp [*]; done) | exact congrArg Value.bool (by cases ByteArray.toList a0 <;> rfl) | exact congrArg Value.bool (by cases ByteArray.toList a1 <;> rfl)), (by first | rfl | (simp; done) | (simp [*]; done) | exact congrArg Value.bool (by cases ByteArray.toList a0 <;> rfl) | exact congrArg Value.bool (by cases ByteArray.toList a1 <;> rfl)), H', ⟨Nat.le_refl _⟩, by repeat (first | exact Drawn0.refl _ | apply Drawn0.step)⟩
          case round =>
            clear H'
            try clear p2
            try clear c3
            try clear c3b0
            try clear c4
            try clear c4b0
            try clear p5
            try clear q5
            try clear hx5
            try clear p2
            try clear p5
            try clear q5
            obtain ⟨x5_2, x7_2, rfl, rfl, HA, HK2, ⟨m2, rfl⟩⟩ := hrel
            cases gk with
            | zero => exact absurd HA.out (by simp [sheetpileref06_More.l1])
            | succ k2 =>
              have H := HA.out
              clear HA
              simp only [sheetpileref06_More.l1] at H
              by_cases c6 : x7_2 < 8
              · rw [if_pos c6] at H
                have c6b0 : decide (x7_2 < 8) = true := decide_eq_true c6
                clear c6
                by_cases c7 : (Int.tmod x5_2 2) = 1
                · rw [if_pos c7] at H
                  have c7b0 : ((Int.tmod x5_2 2) == 1) = true := beq_iff_eq.mpr c7
                  have c7b1 : ((Int.tmod x5_2 2) != 1) = false := bne_eq_false_iff_eq.mpr c7
                  clear c7
                  have H' := Aside0.mk H
                  clear H
                  go_wp2
                  go_roundg k2
                  case measure => have := HK1.out; have := HK2.out; omega
                  case rel => exact ⟨(Go.bits .xor .u32 ((Int.tdiv x5_2 2) % 4294967296) 2197175160), (wrap64 (x7_2 + 1)), (by first | rfl | (simp; done) | (simp [*]; done) | exact congrArg Value.bool (by cases ByteArray.toList a0 <;> rfl) | exact congrArg Value.bool (by cases ByteArray.toList a1 <;> rfl)), (by first | rfl | (simp; done) | (simp [*]; done) | exact congrArg Value.bool (by cases ByteArray.toList a0 <;> rfl) | exact congrArg Value.bool (by cases ByteArray.toList a1 <;> rfl)), H', ⟨by have := HK1.out; have := HK2.out; omega⟩, by repeat (first | exact Drawn0.refl _ | apply Drawn0.step)⟩
                · rw [if_neg c7] at H
                  have c7b0 : ((Int.tmod x5_2 2) == 1) = false := beq_eq_false_iff_ne.mpr c7
                  have c7b1 : ((Int.tmod x5_2 2) != 1) = true := bne_iff_ne.mpr c7
                  have H' := Aside0.mk H
                  clear H
                  go_wp2
                  go_roundg k2
                  case measure => have := HK1.out; have := HK2.out; omega
                  case rel => exact ⟨((Int.tdiv x5_2 2) % 4294967296), (wrap64 (x7_2 + 1)), (by first | rfl | (simp; done) | (simp [*]; done) | exact congrArg Value.bool (by cases ByteArray.toList a0 <;> rfl) | exact congrArg Value.bool (by cases ByteArray.toList a1 <;> rfl)), (by first | rfl | (simp; done) | (simp [*]; done) | exact congrArg Value.bool (by cases ByteArray.toList a0 <;> rfl) | exact congrArg Value.bool (by cases ByteArray.toList a1 <;> rfl)), H', ⟨by have := HK1.out; have := HK2.out; omega⟩, by repeat (first | exact Drawn0.refl _ | apply Drawn0.step)⟩
              · rw [if_neg c6] at H
                have c6b0 : decide (x7_2 < 8) = false := decide_eq_false c6
                clear c6
                have H' := Aside0.mk H
                clear H
                go_wp2
                go_roundg k2
                case measure => have := HK1.out; have := HK2.out; omega
                case rel => exact ⟨(x5_2), (wrap64 (x6_1 + 1)), (by first | rfl | (simp; done) | (simp [*]; done) | exact congrArg Value.bool (by cases ByteArray.toList a0 <;> rfl) | exact congrArg Value.bool (by cases ByteArray.toList a1 <;> rfl)), (by first | rfl | (simp; done) | (simp [*]; done) | exact congrArg Value.bool (by cases ByteArray.toList a0 <;> rfl) | exact congrArg Value.bool (by cases ByteArray.toList a1 <;> rfl)), H', ⟨by have := HK1.out; have := HK2.out; omega⟩, by repeat (first | exact Drawn0.refl _ | apply Drawn0.step)⟩
        · rw [if_neg c4] at H
          exact absurd H (by simp)
      · rw [if_neg c3] at H
        have c3b0 : decide (x6_1 < (a1.size : Int)) = false := decide_eq_false c3
        clear c3
        obtain rfl := Option.some.inj H
        go_wp2
        go_ret
        exact ⟨by first | rfl | (simp; done) | (simp [*]; done), by repeat (first | exact Drawn0.refl _ | apply Drawn0.step)⟩

/-! ### sheetpileref06_Sum: function 62 -/
def sheetpileref06_Sum.f (k : Nat) (a0 : ByteArray) : Option (Int) := (sheetpileref06_More.f k 0 a0).bind fun t244 => (some t244)
theorem sheetpileref06_Sum.mono : ∀ a0 k, LeO (sheetpileref06_Sum.f k a0) (sheetpileref06_Sum.f (k + 1) a0) := by
  intro a0 k
  unfold sheetpileref06_Sum.f
  repeat' first
      | (with_reducible exact sheetpileref06_More.mono _ _ _)
      | (with_reducible exact LeO.refl _)
      | (with_reducible exact LeO.none _)
      | (with_reducible refine LeO.ite ?_ ?_)
      | (with_reducible refine LeO.bind ?_ (fun _ => ?_))
      | exact sheetpileref06_More.mono _ _ _
      | exact LeO.none _
      | refine LeO.ite ?_ ?_
      | refine LeO.bind ?_ (fun _ => ?_)
set_option maxHeartbeats 8000000 in
set_option maxRecDepth 100000 in
theorem sheetpileref06_Sum.calls (k : Nat) (a0 : ByteArray) (r : Int) (w : World) (h : sheetpileref06_Sum.f k a0 = some r) :
    Calls Try.prog 62 #[.string a0] w fun e w' => e = .returned (.int .u32 r) ∧ Drawn0 w w' := by
  have H : ((sheetpileref06_More.f k 0 a0).bind fun t244 => (some t244)) = some r := h
  clear h
  replace H := Option.bind_eq_some_iff.mp H
  obtain ⟨t244, A20, H⟩ := H
  replace H : (some t244) = some r := H
  have A2 := Aside0.mk A20
  clear A20
  obtain rfl := Option.some.inj H
  go_enter Try.func62, Try.ntmps62
  go_wp2_with (first | ((with_reducible refine gate_callee (f := 96) rfl ?_); refine goesL_ (some 4) rfl rfl Try.func96 (by kernel_rfl) rfl #[.int .u32 0, .string a0] rfl (by (try simp only [List.map_toArray, List.map_cons, List.map_nil]); first | done | rfl | (simp only [List.length_drop, List.length_take]; rfl)) ?_; (with_reducible refine (sheetpileref06_More.calls k 0 a0 t244 _ A2.out).mono ?_); rintro e w' ⟨rfl, ⟨nd, rfl⟩⟩; refine ⟨_, rfl, ?_⟩))
  go_ret
  exact ⟨by first | rfl | (simp; done) | (simp [*]; done), by repeat (first | exact Drawn0.refl _ | apply Drawn0.step)⟩

/-! ### sheetpileref21_Read: function 31 -/
mutual
def sheetpileref21_Read.j0 : Nat → ByteArray → Bool → Option ((List (S75)) × Int)
  | 0, _, _ => none
  | k + 1, x0, x23 => if x23 = true then (some (([] : List (S75)), 5)) else (if 0 ≤ (wrap64 ((x0.size : Int) - 4)) then (if (wrap64 ((x0.size : Int) - 4)) ≤ (x0.size : Int) then ((sheetpileref07_Cut.f k (x0.extract ((wrap64 ((x0.size : Int) - 4)) : Int).toNat x0.size) 4).bind fun bt245 => ((sheetpileref06_Sum.f k (x0.extract 0 ((wrap64 ((x0.size : Int) - 4)) : Int).toNat)).bind fun t248 => (if bt245.1 = (wrap64 (t248)) then (if 4 ≤ (wrap64 ((x0.size : Int) - 4)) then (sheetpileref21_Read.l0 k ([] : List (S75)) (x0.extract 4 ((wrap64 ((x0.size : Int) - 4)) : Int).toNat)) else (none)) else (some (([] : List (S75)), 6))))) else (none)) else (none))
def sheetpileref21_Read.l0 : Nat → List (S75) → ByteArray → Option ((List (S75)) × Int)
  | 0, _, _ => none
  | k + 1, x8, x9 => if x9.toList = ([] : List UInt8) then ((sheetpileref21_May.f k x8).bind fun t249 => (if t249 = true then (some (x8, 0)) else (some (([] : List (S75)), 5)))) else ((sheetpileref07_Take.f k x9).bind fun bt250 => ((sheetpileref07_Take.f k bt250.2.1).bind fun bt253 => (if bt250.2.2 = 0 then (if bt253.2.2 = 0 then (if x8.length < 4398046511104 then (sheetpileref21_Read.l0 k (x8 ++ [(⟨bt250.1, bt253.1⟩ : S75)]) bt253.2.1) else (none)) else (some (([] : List (S75)), 5))) else (some (([] : List (S75)), 5)))))
end
def sheetpileref21_Read.f (k : Nat) (a0 : ByteArray) : Option ((List (S75)) × Int) := if (a0.size : Int) < 8 then (sheetpileref21_Read.j0 k a0 true) else (if 0 ≤ 4 then (if 4 ≤ (a0.size : Int) then (sheetpileref21_Read.j0 k a0 ((a0.extract 0 4).toList != ([72, 73, 78, 84] : List UInt8))) else (none)) else (none))
theorem sheetpileref21_Read.mono_l : ∀ k, (∀ y0 y1, LeO (sheetpileref21_Read.j0 k y0 y1) (sheetpileref21_Read.j0 (k + 1) y0 y1)) ∧ (∀ y0 y1, LeO (sheetpileref21_Read.l0 k y0 y1) (sheetpileref21_Read.l0 (k + 1) y0 y1))
  | 0 => ⟨fun _ _ r h => by simp [sheetpileref21_Read.j0] at h, fun _ _ r h => by simp [sheetpileref21_Read.l0] at h⟩
  | k + 1 => by
    obtain ⟨ih0, ih1⟩ := sheetpileref21_Read.mono_l k
    refine ⟨?_, ?_⟩
    · intro y0 y1
      unfold sheetpileref21_Read.j0
      repeat' first
      | (with_reducible exact ih0 _ _)
      | (with_reducible exact ih1 _ _)
      | (with_reducible exact sheetpileref06_Sum.mono _ _)
      | (with_reducible exact sheetpileref07_Cut.mono _ _ _)
      | (with_reducible exact sheetpileref07_Take.mono _ _)
      | (with_reducible exact sheetpileref21_May.mono _ _)
      | (with_reducible exact LeO.refl _)
      | (with_reducible exact LeO.none _)
      | (with_reducible refine LeO.ite ?_ ?_)
      | (with_reducible refine LeO.bind ?_ (fun _ => ?_))
      | exact ih0 _ _
      | exact ih1 _ _
      | exact sheetpileref06_Sum.mono _ _
      | exact sheetpileref07_Cut.mono _ _ _
      | exact sheetpileref07_Take.mono _ _
      | exact sheetpileref21_May.mono _ _
      | exact LeO.none _
      | refine LeO.ite ?_ ?_
      | refine LeO.bind ?_ (fun _ => ?_)
    · intro y0 y1
      unfold sheetpileref21_Read.l0
      repeat' first
      | (with_reducible exact ih0 _ _)
      | (with_reducible exact ih1 _ _)
      | (with_reducible exact sheetpileref06_Sum.mono _ _)
      | (with_reducible exact sheetpileref07_Cut.mono _ _ _)
      | (with_reducible exact sheetpileref07_Take.mono _ _)
      | (with_reducible exact sheetpileref21_May.mono _ _)
      | (with_reducible exact LeO.refl _)
      | (with_reducible exact LeO.none _)
      | (with_reducible refine LeO.ite ?_ ?_)
      | (with_reducible refine LeO.bind ?_ (fun _ => ?_))
      | exact ih0 _ _
      | exact ih1 _ _
      | exact sheetpileref06_Sum.mono _ _
      | exact sheetpileref07_Cut.mono _ _ _
      | exact sheetpileref07_Take.mono _ _
      | exact sheetpileref21_May.mono _ _
      | exact LeO.none _
      | refine LeO.ite ?_ ?_
      | refine LeO.bind ?_ (fun _ => ?_)
theorem sheetpileref21_Read.mono : ∀ a0 k, LeO (sheetpileref21_Read.f k a0) (sheetpileref21_Read.f (k + 1) a0) := by
  intro a0 k
  obtain ⟨ih0, ih1⟩ := sheetpileref21_Read.mono_l k
  unfold sheetpileref21_Read.f
  repeat' first
      | (with_reducible exact ih0 _ _)
      | (with_reducible exact ih1 _ _)
      | (with_reducible exact sheetpileref06_Sum.mono _ _)
      | (with_reducible exact sheetpileref07_Cut.mono _ _ _)
      | (with_reducible exact sheetpileref07_Take.mono _ _)
      | (with_reducible exact sheetpileref21_May.mono _ _)
      | (with_reducible exact LeO.refl _)
      | (with_reducible exact LeO.none _)
      | (with_reducible refine LeO.ite ?_ ?_)
      | (with_reducible refine LeO.bind ?_ (fun _ => ?_))
      | exact ih0 _ _
      | exact ih1 _ _
      | exact sheetpileref06_Sum.mono _ _
      | exact sheetpileref07_Cut.mono _ _ _
      | exact sheetpileref07_Take.mono _ _
      | exact sheetpileref21_May.mono _ _
      | exact LeO.none _
      | refine LeO.ite ?_ ?_
      | refine LeO.bind ?_ (fun _ => ?_)
set_option maxHeartbeats 8000000 in
set_option maxRecDepth 100000 in
theorem sheetpileref21_Read.calls (k : Nat) (a0 : ByteArray) (r1 : List (S75)) (r2 : Int) (w : World) (h : sheetpileref21_Read.f k a0 = some (r1, r2)) :
    Calls Try.prog 31 #[.string a0] w fun e w' => ∃ v0_ : Value, e = .returned (.tuple #[v0_, .int .i64 r2]) ∧ Kd.R k75 75 w' w.heap.size (fun _ => True) v0_ r1 ∧ Below w.heap.size w w' := by
  have hu75 := Try.underlying75
  have HB := Aside0.mk (Below.refl w.heap.size w)
  have H : (if (a0.size : Int) < 8 then (sheetpileref21_Read.j0 k a0 true) else (if 0 ≤ 4 then (if 4 ≤ (a0.size : Int) then (sheetpileref21_Read.j0 k a0 ((a0.extract 0 4).toList != ([72, 73, 78, 84] : List UInt8))) else (none)) else (none))) = some (r1, r2) := h
  clear h
  have HC2 := Aside0.mk H
  clear H
  go_enter Try.func31, Try.ntmps31
  go_upto_region 1 with (fail)
  go_cut [23] (fun v23 wc => ∃ (kq : Nat) (x23_1 : Bool), v23 = .bool x23_1 ∧ Aside0 (sheetpileref21_Read.j0 kq a0 x23_1 = some (r1, r2)) ∧ Aside0 (kq ≤ k) ∧ Aside0 (Below w.heap.size w wc))
  case first =>
    have H := HC2.out
    clear HC2
    by_cases c3 : (a0.size : Int) < 8
    · rw [if_pos c3] at H
      have c3b0 : decide ((a0.size : Int) < 8) = true := decide_eq_true c3
      have c3b1 : decide (a0.size < 8) = true := decide_eq_true (by omega)
      clear c3
      (first | rw [c3b0] | (simp only [i64_w, i32_w]; rw [c3b0]) | skip)
      have H' := Aside0.mk H
      clear H
      go_wp2
      go_meet
      case rel => exact ⟨_, (true), (by first | rfl | (simp; done) | (simp [*]; done) | exact congrArg Value.bool (by cases ByteArray.toList a0 <;> rfl) | exact congrArg Value.bool (by cases ByteArray.toList a1 <;> rfl)), H', ⟨by first | omega | exact Nat.le_refl _⟩, ⟨by repeat (first | (with_reducible first | exact HB.out | apply below_alloc | apply pw_below_drewN | apply below_drew1) | exact HB.out)⟩⟩
    · rw [if_neg c3] at H
      have c3b0 : decide ((a0.size : Int) < 8) = false := decide_eq_false c3
      have c3b1 : decide (a0.size < 8) = false := decide_eq_false (by omega)
      clear c3
      (first | rw [c3b0] | (simp only [i64_w, i32_w]; rw [c3b0]) | skip)
      by_cases c4 : 0 ≤ 4
      · rw [if_pos c4] at H
        have c4b0 := eq_true c4
        have c4b1 : decide (0 ≤ 4) = true := decide_eq_true c4
        clear c4
        by_cases c5 : 4 ≤ (a0.size : Int)
        · rw [if_pos c5] at H
          have c5b0 := eq_true c5
          have c5b1 : decide (4 ≤ (a0.size : Int)) = true := decide_eq_true c5
          clear c5
          have H' := Aside0.mk H
          clear H
          go_wp2
          go_meet
          case rel => exact ⟨_, (((a0.extract 0 4).toList != ([72, 73, 78, 84] : List UInt8))), (by first | rfl | (simp; done) | (simp [*]; done) | exact congrArg Value.bool (by cases ByteArray.toList a0 <;> rfl) | exact congrArg Value.bool (by cases ByteArray.toList a1 <;> rfl)), H', ⟨by first | omega | exact Nat.le_refl _⟩, ⟨by repeat (first | (with_reducible first | exact HB.out | apply below_alloc | apply pw_below_drewN | apply below_drew1) | exact HB.out)⟩⟩
        · rw [if_neg c5] at H
          exact absurd H (by simp)
      · rw [if_neg c4] at H
        exact absurd H (by simp)
  case rest =>
    clear HC2
    try clear p2
    try clear c3
    try clear c3b0
    try clear c3b1
    try clear c4
    try clear c4b0
    try clear c4b1
    try clear c5
    try clear c5b0
    try clear c5b1
    obtain ⟨kq, x23_1, rfl, HA, HJ1, HB⟩ := hcut
    cases kq with
    | zero => exact absurd HA.out (by simp [sheetpileref21_Read.j0])
    | succ kj1 =>
      have H := HA.out
      clear HA
      simp only [sheetpileref21_Read.j0] at H
      by_cases c6 : x23_1 = true
      · subst c6
        have H1 : (some (([] : List (S75)), 5)) = some (r1, r2) := by rw [if_pos rfl] at H; exact H
        clear H
        have H := H1
        clear H1
        simp only [Option.some.injEq, Prod.mk.injEq] at H
        obtain ⟨rfl, rfl⟩ := H
        go_wp2
        go_ret2
        exact ⟨_, by first | rfl | (simp [errW_none, errW_some] <;> rfl) | (simp [*, errW_none, errW_some] <;> rfl), by first | exact Kd.R_nil _ _ _ _ _ | exact Kd.N_nil _ _ _ _ _ | exact Kd.V_nil _ _ _ _ _ | exact Kd.Q_nil _ _ _ _ _ | exact Kd.S_nil _ _ _ _ _, by repeat (first | (with_reducible first | exact HB.out | apply below_alloc | apply pw_below_drewN | apply below_drew1) | exact HB.out)⟩
      · replace c6 := Bool.eq_false_iff.mpr c6
        subst c6
        have H1 : (if 0 ≤ (wrap64 ((a0.size : Int) - 4)) then (if (wrap64 ((a0.size : Int) - 4)) ≤ (a0.size : Int) then ((sheetpileref07_Cut.f kj1 (a0.extract ((wrap64 ((a0.size : Int) - 4)) : Int).toNat a0.size) 4).bind fun bt245 => ((sheetpileref06_Sum.f kj1 (a0.extract 0 ((wrap64 ((a0.size : Int) - 4)) : Int).toNat)).bind fun t248 => (if bt245.1 = (wrap64 (t248)) then (if 4 ≤ (wrap64 ((a0.size : Int) - 4)) then (sheetpileref21_Read.l0 kj1 ([] : List (S75)) (a0.extract 4 ((wrap64 ((a0.size : Int) - 4)) : Int).toNat)) else (none)) else (some (([] : List (S75)), 6))))) else (none)) else (none)) = some (r1, r2) := by rw [if_neg (show ¬ (false = true) by decide)] at H; exact H
        clear H
        have H := H1
        clear H1
        obtain ⟨ji7, hji7⟩ : ∃ j_ : Int, (wrap64 ((a0.size : Int) - 4)) = j_ := ⟨_, rfl⟩
        replace H : (if 0 ≤ (ji7) then (if (ji7) ≤ (a0.size : Int) then ((sheetpileref07_Cut.f kj1 (a0.extract ((ji7) : Int).toNat a0.size) 4).bind fun bt245 => ((sheetpileref06_Sum.f kj1 (a0.extract 0 ((ji7) : Int).toNat)).bind fun t248 => (if bt245.1 = (wrap64 (t248)) then (if 4 ≤ (ji7) then (sheetpileref21_Read.l0 kj1 ([] : List (S75)) (a0.extract 4 ((ji7) : Int).toNat)) else (none)) else (some (([] : List (S75)), 6))))) else (none)) else (none)) = some (r1, r2) := by first | (rw [hji7] at H; exact H) | (simp only [hji7] at H ⊢; exact H)
        have hji7w : (IntKind.i64.wrap ((a0.size : Int) - 4)) = ji7 := (i64_w _).trans hji7
        by_cases c8 : 0 ≤ (ji7)
        · rw [if_pos c8] at H
          have c8b0 := eq_true c8
          have c8b1 : decide (0 ≤ (ji7)) = true := decide_eq_true c8
          clear c8
          by_cases c9 : (ji7) ≤ (a0.size : Int)
          · rw [if_pos c9] at H
            have c9b0 := eq_true c9
            have c9b1 : decide ((ji7) ≤ (a0.size : Int)) = true := decide_eq_true c9
            clear c9
            replace H := Option.bind_eq_some_iff.mp H
            obtain ⟨⟨t245, t246, t247⟩, A100, H⟩ := H
            replace H : ((sheetpileref06_Sum.f kj1 (a0.extract 0 ((ji7) : Int).toNat)).bind fun t248 => (if t245 = (wrap64 (t248)) then (if 4 ≤ (ji7) then (sheetpileref21_Read.l0 kj1 ([] : List (S75)) (a0.extract 4 ((ji7) : Int).toNat)) else (none)) else (some (([] : List (S75)), 6)))) = some (r1, r2) := H
            have A10 := Aside0.mk A100
            clear A100
            have c11b0 := eq_true (of_decide_eq_true (by first | (with_reducible assumption) | assumption) : 0 ≤ (ji7))
            have c12b0 := eq_true (of_decide_eq_true (by first | (with_reducible assumption) | assumption) : (ji7) ≤ (a0.size : Int))
            replace H := Option.bind_eq_some_iff.mp H
            obtain ⟨t248, A130, H⟩ := H
            replace H : (if t245 = (wrap64 (t248)) then (if 4 ≤ (ji7) then (sheetpileref21_Read.l0 kj1 ([] : List (S75)) (a0.extract 4 ((ji7) : Int).toNat)) else (none)) else (some (([] : List (S75)), 6))) = some (r1, r2) := H
            have A13 := Aside0.mk A130
            clear A130
            by_cases c14 : t245 = (wrap64 (t248))
            · rw [if_pos c14] at H
              have c14b0 : (t245 == (wrap64 (t248))) = true := beq_iff_eq.mpr c14
              have c14b1 : (t245 != (wrap64 (t248))) = false := bne_eq_false_iff_eq.mpr c14
              clear c14
              by_cases c15 : 4 ≤ (ji7)
              · rw [if_pos c15] at H
                have c15b0 := eq_true c15
                have c15b1 : decide (4 ≤ (ji7)) = true := decide_eq_true c15
                clear c15
                have c16b0 := eq_true (of_decide_eq_true (by first | (with_reducible assumption) | assumption) : (ji7) ≤ (a0.size : Int))
                have H' := Aside0.mk H
                clear H
                go_wp2_with (first | ((with_reducible refine gate_callee (f := 66) rfl ?_); refine goesL_ (some 31) rfl rfl Try.func66 (by kernel_rfl) rfl #[.string (a0.extract ((ji7) : Int).toNat a0.size), .int .i64 4] rfl (by (try simp only [List.map_toArray, List.map_cons, List.map_nil]); first | done | (simp only [hji7]; rfl) | rfl | (simp only [List.length_drop, List.length_take]; rfl)) ?_; (with_reducible refine (sheetpileref07_Cut.calls kj1 (a0.extract ((ji7) : Int).toNat a0.size) 4 t245 t246 t247 _ A10.out).mono ?_); rintro e w' ⟨rfl, ⟨nd, rfl⟩⟩; refine ⟨_, rfl, ?_⟩) | ((with_reducible refine gate_callee (f := 62) rfl ?_); refine goesL_ (some 39) rfl rfl Try.func62 (by kernel_rfl) rfl #[.string (a0.extract 0 ((ji7) : Int).toNat)] rfl (by (try simp only [List.map_toArray, List.map_cons, List.map_nil]); first | done | (simp only [hji7]; rfl) | rfl | (simp only [List.length_drop, List.length_take]; rfl)) ?_; (with_reducible refine (sheetpileref06_Sum.calls kj1 (a0.extract 0 ((ji7) : Int).toNat) t248 _ A13.out).mono ?_); rintro e w' ⟨rfl, ⟨nd, rfl⟩⟩; refine ⟨_, rfl, ?_⟩))
                go_loopg [8, 9] kj1 (fun kq v8 v9 w' => ∃ (x8_2 : List (S75)) (x9_2 : ByteArray), v9 = .string x9_2 ∧ Aside0 (sheetpileref21_Read.l0 kq x8_2 x9_2 = some (r1, r2)) ∧ Aside0 (kq ≤ kj1) ∧ Aside0 (Kd.R k75 75 w' w.heap.size (fun _ => True) v8 x8_2) ∧ Aside0 (Below w.heap.size w w'))
                case atStart => exact ⟨(([] : List (S75))), (a0.extract 4 ((ji7) : Int).toNat), (by first | rfl | (simp; done) | (simp only [← hji7] <;> (first | rfl | simp)) | (simp [*]; done)), H', ⟨Nat.le_refl _⟩, ⟨by first | exact Kd.R_nil _ _ _ _ _ | exact Kd.N_nil _ _ _ _ _ | exact Kd.V_nil _ _ _ _ _ | exact Kd.Q_nil _ _ _ _ _ | exact Kd.S_nil _ _ _ _ _⟩, ⟨by repeat (first | (with_reducible first | exact HB.out | apply below_alloc | apply pw_below_drewN | apply below_drew1) | exact HB.out)⟩⟩
                case round =>
                  clear H'
                  try clear c1
                  try clear p2
                  try clear c3
                  try clear c3b0
                  try clear c3b1
                  try clear c4
                  try clear c4b0
                  try clear c4b1
                  try clear c5
                  try clear c5b0
                  try clear c5b1
                  try clear c6
                  try clear p6
                  try clear c8
                  try clear c8b0
                  try clear c8b1
                  try clear c9
                  try clear c9b0
                  try clear c9b1
                  try clear c11
                  try clear c11b0
                  try clear c12
                  try clear c12b0
                  try clear c14
                  try clear c14b0
                  try clear c14b1
                  try clear c15
                  try clear c15b0
                  try clear c15b1
                  try clear c16
                  try clear c16b0
                  try clear p2
                  obtain ⟨x8_2, x9_2, rfl, HA, HK2, HO_8, HB⟩ := hrel
                  cases gk with
                  | zero => exact absurd HA.out (by simp [sheetpileref21_Read.l0])
                  | succ k2 =>
                    have H := HA.out
                    clear HA
                    simp only [sheetpileref21_Read.l0] at H
                    by_cases c17 : x9_2.toList = ([] : List UInt8)
                    · rw [if_pos c17] at H
                      have c17b0 : (x9_2.toList == ([] : List UInt8)) = true := beq_iff_eq.mpr c17
                      have c17b1 : (x9_2.toList != ([] : List UInt8)) = false := bne_eq_false_iff_eq.mpr c17
                      clear c17
                      replace H := Option.bind_eq_some_iff.mp H
                      obtain ⟨t249, A180, H⟩ := H
                      replace H : (if t249 = true then (some (x8_2, 0)) else (some (([] : List (S75)), 5))) = some (r1, r2) := H
                      have A18 := Aside0.mk A180
                      clear A180
                      by_cases c19 : t249 = true
                      · subst c19
                        have H1 : (some (x8_2, 0)) = some (r1, r2) := by rw [if_pos rfl] at H; exact H
                        clear H
                        have H := H1
                        clear H1
                        simp only [Option.some.injEq, Prod.mk.injEq] at H
                        obtain ⟨rfl, rfl⟩ := H
                        obtain ⟨Ao20, co20, eo20⟩ := Kd.R_slice HO_8.out
                        subst eo20
                        go_wp2_with (first | ((with_reducible refine gate_callee (f := 24) rfl ?_); refine goesL_ (some 73) rfl rfl Try.func24 (by kernel_rfl) rfl #[.slice Ao20 x8_2.length co20] rfl (by (try simp only [List.map_toArray, List.map_cons, List.map_nil]); first | done | rfl | (simp only [List.length_drop, List.length_take]; rfl)) ?_; (with_reducible refine (sheetpileref21_May.calls k2 _ _ x8_2 true _ ?side1 ?side2 A18.out).mono ?_); (case side1 => repeat (first | exact (Kd.R_reads' HO_8.out).2.2 | (with_reducible refine Kd.C_alloc ?_ _) | (with_reducible refine Kd.C_drewN ?_ _) | (with_reducible refine Kd.C_drew ?_))); (case side2 => exact (Kd.R_reads' HO_8.out).2.1); rintro e w21 ⟨rfl, hb⟩; refine ⟨_, rfl, ?_⟩; have n0_ := Aside0.mk (Kd.R_below (by (with_reducible repeat (first | apply Kd.R_alloc | apply Kd.R_drewN | apply Kd.R_drew)); exact HO_8.out) hb); have n1_ := Aside0.mk (below_step (by repeat (first | (with_reducible first | exact HB.out | apply below_alloc | apply pw_below_drewN | apply below_drew1) | exact HB.out)) hb); clear HO_8; clear HB; have HO_8 := n0_; have HB := n1_; clear n0_ n1_; (try clear hb); (try clear hb2); (try clear hk); (try clear hi)))
                        go_ret2
                        exact ⟨_, by first | rfl | (simp [errW_none, errW_some] <;> rfl) | (simp only [← hji7]; first | rfl | (simp [errW_none, errW_some] <;> rfl)) | (simp [*, errW_none, errW_some] <;> rfl), by (with_reducible repeat (first | apply Kd.R_alloc | apply Kd.R_drewN | apply Kd.R_drew)); exact HO_8.out, by repeat (first | (with_reducible first | exact HB.out | apply below_alloc | apply pw_below_drewN | apply below_drew1) | exact HB.out)⟩
                      · replace c19 := Bool.eq_false_iff.mpr c19
                        subst c19
                        have H1 : (some (([] : List (S75)), 5)) = some (r1, r2) := by rw [if_neg (show ¬ (false = true) by decide)] at H; exact H
                        clear H
                        have H := H1
                        clear H1
                        simp only [Option.some.injEq, Prod.mk.injEq] at H
                        obtain ⟨rfl, rfl⟩ := H
                        obtain ⟨Ao22, co22, eo22⟩ := Kd.R_slice HO_8.out
                        subst eo22
                        go_wp2_with (first | ((with_reducible refine gate_callee (f := 24) rfl ?_); refine goesL_ (some 73) rfl rfl Try.func24 (by kernel_rfl) rfl #[.slice Ao22 x8_2.length co22] rfl (by (try simp only [List.map_toArray, List.map_cons, List.map_nil]); first | done | rfl | (simp only [List.length_drop, List.length_take]; rfl)) ?_; (with_reducible refine (sheetpileref21_May.calls k2 _ _ x8_2 false _ ?side1 ?side2 A18.out).mono ?_); (case side1 => repeat (first | exact (Kd.R_reads' HO_8.out).2.2 | (with_reducible refine Kd.C_alloc ?_ _) | (with_reducible refine Kd.C_drewN ?_ _) | (with_reducible refine Kd.C_drew ?_))); (case side2 => exact (Kd.R_reads' HO_8.out).2.1); rintro e w23 ⟨rfl, hb⟩; refine ⟨_, rfl, ?_⟩; have n0_ := Aside0.mk (Kd.R_below (by (with_reducible repeat (first | apply Kd.R_alloc | apply Kd.R_drewN | apply Kd.R_drew)); exact HO_8.out) hb); have n1_ := Aside0.mk (below_step (by repeat (first | (with_reducible first | exact HB.out | apply below_alloc | apply pw_below_drewN | apply below_drew1) | exact HB.out)) hb); clear HO_8; clear HB; have HO_8 := n0_; have HB := n1_; clear n0_ n1_; (try clear hb); (try clear hb2); (try clear hk); (try clear hi)))
                        go_ret2
                        exact ⟨_, by first | rfl | (simp [errW_none, errW_some] <;> rfl) | (simp only [← hji7]; first | rfl | (simp [errW_none, errW_some] <;> rfl)) | (simp [*, errW_none, errW_some] <;> rfl), by first | exact Kd.R_nil _ _ _ _ _ | exact Kd.N_nil _ _ _ _ _ | exact Kd.V_nil _ _ _ _ _ | exact Kd.Q_nil _ _ _ _ _ | exact Kd.S_nil _ _ _ _ _, by repeat (first | (with_reducible first | exact HB.out | apply below_alloc | apply pw_below_drewN | apply below_drew1) | exact HB.out)⟩
                    · rw [if_neg c17] at H
                      have c17b0 : (x9_2.toList == ([] : List UInt8)) = false := beq_eq_false_iff_ne.mpr c17
                      have c17b1 : (x9_2.toList != ([] : List UInt8)) = true := bne_iff_ne.mpr c17
                      replace H := Option.bind_eq_some_iff.mp H
                      obtain ⟨⟨t250, t251, t252⟩, A240, H⟩ := H
                      replace H : ((sheetpileref07_Take.f k2 t251).bind fun bt253 => (if t252 = 0 then (if bt253.2.2 = 0 then (if x8_2.length < 4398046511104 then (sheetpileref21_Read.l0 k2 (x8_2 ++ [(⟨t250, bt253.1⟩ : S75)]) bt253.2.1) else (none)) else (some (([] : List (S75)), 5))) else (some (([] : List (S75)), 5)))) = some (r1, r2) := H
                      have A24 := Aside0.mk A240
                      clear A240
                      replace H := Option.bind_eq_some_iff.mp H
                      obtain ⟨⟨t253, t254, t255⟩, A250, H⟩ := H
                      replace H : (if t252 = 0 then (if t255 = 0 then (if x8_2.length < 4398046511104 then (sheetpileref21_Read.l0 k2 (x8_2 ++ [(⟨t250, t253⟩ : S75)]) t254) else (none)) else (some (([] : List (S75)), 5))) else (some (([] : List (S75)), 5))) = some (r1, r2) := H
                      have A25 := Aside0.mk A250
                      clear A250
                      by_cases c26 : t252 = 0
                      · rw [if_pos c26] at H
                        have c26b0 : (t252 == 0) = true := beq_iff_eq.mpr c26
                        have c26b1 : (t252 != 0) = false := bne_eq_false_iff_eq.mpr c26
                        clear c26
                        by_cases c27 : t255 = 0
                        · rw [if_pos c27] at H
                          have c27b0 : (t255 == 0) = true := beq_iff_eq.mpr c27
                          have c27b1 : (t255 != 0) = false := bne_eq_false_iff_eq.mpr c27
                          clear c27
                          by_cases c28 : x8_2.length < 4398046511104
                          · rw [if_pos c28] at H
                            have LMc28 := Aside0.mk c28
                            clear c28
                            obtain ⟨y256, hy256⟩ : ∃ y_ : List (S75), y_ = (x8_2 ++ [(⟨t250, t253⟩ : S75)]) := ⟨_, rfl⟩
                            replace H : (sheetpileref21_Read.l0 k2 y256 t254) = some (r1, r2) := by first | (rw [hy256]; with_reducible exact H) | (have H2_ := (Option.bind_some _ _).symm.trans H; rw [hy256]; with_reducible exact H2_) | (have H2_ := (Option.bind_some _ _).symm.trans H; with_reducible exact H2_) | with_reducible exact H | (rw [hy256]; exact H) | exact H
                            have Ny256 := Aside0.mk hy256
                            clear hy256
                            have H' := Aside0.mk H
                            clear H
                            go_wp2_with (first | ((with_reducible refine gate_callee (f := 67) rfl ?_); refine goesL_ (some 49) rfl rfl Try.func67 (by kernel_rfl) rfl #[.string x9_2] rfl (by (try simp only [List.map_toArray, List.map_cons, List.map_nil]); first | done | rfl | (simp only [List.length_drop, List.length_take]; rfl)) ?_; (with_reducible refine (sheetpileref07_Take.calls k2 x9_2 t250 t251 t252 _ A24.out).mono ?_); rintro e w' ⟨rfl, ⟨nd, rfl⟩⟩; refine ⟨_, rfl, ?_⟩) | ((with_reducible refine gate_callee (f := 67) rfl ?_); refine goesL_ (some 55) rfl rfl Try.func67 (by kernel_rfl) rfl #[.string t251] rfl (by (try simp only [List.map_toArray, List.map_cons, List.map_nil]); first | done | rfl | (simp only [List.length_drop, List.length_take]; rfl)) ?_; (with_reducible refine (sheetpileref07_Take.calls k2 t251 t253 t254 t255 _ A25.out).mono ?_); rintro e w' ⟨rfl, ⟨nd, rfl⟩⟩; refine ⟨_, rfl, ?_⟩) | ((with_reducible refine gate_builtin (b := .append) (xs := #[.tmp 65, .tmp 69]) rfl ?_); at_builtin; refine Kd.R_append k75 (w0 := w) w.heap.size rfl (.tmp 65) (.tmp 69) 22 75 (.agg #[(.string ⟨#[]⟩), (.string ⟨#[]⟩)]) 32 rfl Try.underlying22 info75 rfl (by decide) (by omega) u8 x8_2 (⟨t250, t253⟩ : S75) [.string t250, .string t253] (fun _ => True) (fun _ => False) rfl rfl ?aP (fun _ hk => hk.elim) ?aF ?aO ?aB ?aS ?aL ?_; (case aP => exact k75_mkM _ _ _ (⟨t250, t253⟩ : S75)); (case aB => exact (by repeat (first | (with_reducible first | exact HB.out | apply below_alloc | apply pw_below_drewN | apply below_drew1) | exact HB.out))); (case aF => exact (fun _ _ => trivial)); (case aO => exact (by (with_reducible repeat (first | apply Kd.R_alloc | apply Kd.R_drewN | apply Kd.R_drew)); exact HO_8.out)); (case aS => exact (below_size (by repeat (first | (with_reducible first | exact HB.out | apply below_alloc | apply pw_below_drewN | apply below_drew1) | exact HB.out)))); (case aL => have := LMc28.out; omega); intro v257 w29 ho hb hg hat; rw [← Ny256.out] at ho; have n0_ := Aside0.mk (hb); have n1_ := Aside0.mk (ho); clear HB; clear HO_8; have HB := n0_; have HO258 := n1_; clear n0_ n1_; clear ho hb hg hat))
                            go_roundg k2
                            case measure => have := HJ1.out; have := HK2.out; omega
                            case rel => exact ⟨(y256), (t254), (by first | rfl | (simp; done) | (simp [*]; done) | exact congrArg Value.bool (by cases ByteArray.toList a0 <;> rfl) | exact congrArg Value.bool (by cases ByteArray.toList a1 <;> rfl)), H', ⟨by have := HJ1.out; have := HK2.out; omega⟩, ⟨by (with_reducible repeat (first | apply Kd.R_alloc | apply Kd.R_drewN | apply Kd.R_drew)); exact HO258.out⟩, ⟨by repeat (first | (with_reducible first | exact HB.out | apply below_alloc | apply pw_below_drewN | apply below_drew1) | exact HB.out)⟩⟩
                          · rw [if_neg c28] at H
                            exact absurd H (by simp)
                        · rw [if_neg c27] at H
                          have c27b0 : (t255 == 0) = false := beq_eq_false_iff_ne.mpr c27
                          have c27b1 : (t255 != 0) = true := bne_iff_ne.mpr c27
                          simp only [Option.some.injEq, Prod.mk.injEq] at H
                          obtain ⟨rfl, rfl⟩ := H
                          go_wp2_with (first | ((with_reducible refine gate_callee (f := 67) rfl ?_); refine goesL_ (some 49) rfl rfl Try.func67 (by kernel_rfl) rfl #[.string x9_2] rfl (by (try simp only [List.map_toArray, List.map_cons, List.map_nil]); first | done | rfl | (simp only [List.length_drop, List.length_take]; rfl)) ?_; (with_reducible refine (sheetpileref07_Take.calls k2 x9_2 t250 t251 t252 _ A24.out).mono ?_); rintro e w' ⟨rfl, ⟨nd, rfl⟩⟩; refine ⟨_, rfl, ?_⟩) | ((with_reducible refine gate_callee (f := 67) rfl ?_); refine goesL_ (some 55) rfl rfl Try.func67 (by kernel_rfl) rfl #[.string t251] rfl (by (try simp only [List.map_toArray, List.map_cons, List.map_nil]); first | done | rfl | (simp only [List.length_drop, List.length_take]; rfl)) ?_; (with_reducible refine (sheetpileref07_Take.calls k2 t251 t253 t254 t255 _ A25.out).mono ?_); rintro e w' ⟨rfl, ⟨nd, rfl⟩⟩; refine ⟨_, rfl, ?_⟩))
                          go_ret2
                          exact ⟨_, by first | rfl | (simp [errW_none, errW_some] <;> rfl) | (simp only [← hji7]; first | rfl | (simp [errW_none, errW_some] <;> rfl)) | (simp [*, errW_none, errW_some] <;> rfl), by first | exact Kd.R_nil _ _ _ _ _ | exact Kd.N_nil _ _ _ _ _ | exact Kd.V_nil _ _ _ _ _ | exact Kd.Q_nil _ _ _ _ _ | exact Kd.S_nil _ _ _ _ _, by repeat (first | (with_reducible first | exact HB.out | apply below_alloc | apply pw_below_drewN | apply below_drew1) | exact HB.out)⟩
                      · rw [if_neg c26] at H
                        have c26b0 : (t252 == 0) = false := beq_eq_false_iff_ne.mpr c26
                        have c26b1 : (t252 != 0) = true := bne_iff_ne.mpr c26
                        simp only [Option.some.injEq, Prod.mk.injEq] at H
                        obtain ⟨rfl, rfl⟩ := H
                        go_wp2_with (first | ((with_reducible refine gate_callee (f := 67) rfl ?_); refine goesL_ (some 49) rfl rfl Try.func67 (by kernel_rfl) rfl #[.string x9_2] rfl (by (try simp only [List.map_toArray, List.map_cons, List.map_nil]); first | done | rfl | (simp only [List.length_drop, List.length_take]; rfl)) ?_; (with_reducible refine (sheetpileref07_Take.calls k2 x9_2 t250 t251 t252 _ A24.out).mono ?_); rintro e w' ⟨rfl, ⟨nd, rfl⟩⟩; refine ⟨_, rfl, ?_⟩) | ((with_reducible refine gate_callee (f := 67) rfl ?_); refine goesL_ (some 55) rfl rfl Try.func67 (by kernel_rfl) rfl #[.string t251] rfl (by (try simp only [List.map_toArray, List.map_cons, List.map_nil]); first | done | rfl | (simp only [List.length_drop, List.length_take]; rfl)) ?_; (with_reducible refine (sheetpileref07_Take.calls k2 t251 t253 t254 t255 _ A25.out).mono ?_); rintro e w' ⟨rfl, ⟨nd, rfl⟩⟩; refine ⟨_, rfl, ?_⟩))
                        go_ret2
                        exact ⟨_, by first | rfl | (simp [errW_none, errW_some] <;> rfl) | (simp only [← hji7]; first | rfl | (simp [errW_none, errW_some] <;> rfl)) | (simp [*, errW_none, errW_some] <;> rfl), by first | exact Kd.R_nil _ _ _ _ _ | exact Kd.N_nil _ _ _ _ _ | exact Kd.V_nil _ _ _ _ _ | exact Kd.Q_nil _ _ _ _ _ | exact Kd.S_nil _ _ _ _ _, by repeat (first | (with_reducible first | exact HB.out | apply below_alloc | apply pw_below_drewN | apply below_drew1) | exact HB.out)⟩
              · rw [if_neg c15] at H
                exact absurd H (by simp)
            · rw [if_neg c14] at H
              have c14b0 : (t245 == (wrap64 (t248))) = false := beq_eq_false_iff_ne.mpr c14
              have c14b1 : (t245 != (wrap64 (t248))) = true := bne_iff_ne.mpr c14
              simp only [Option.some.injEq, Prod.mk.injEq] at H
              obtain ⟨rfl, rfl⟩ := H
              go_wp2_with (first | ((with_reducible refine gate_callee (f := 66) rfl ?_); refine goesL_ (some 31) rfl rfl Try.func66 (by kernel_rfl) rfl #[.string (a0.extract ((ji7) : Int).toNat a0.size), .int .i64 4] rfl (by (try simp only [List.map_toArray, List.map_cons, List.map_nil]); first | done | (simp only [hji7]; rfl) | rfl | (simp only [List.length_drop, List.length_take]; rfl)) ?_; (with_reducible refine (sheetpileref07_Cut.calls kj1 (a0.extract ((ji7) : Int).toNat a0.size) 4 t245 t246 t247 _ A10.out).mono ?_); rintro e w' ⟨rfl, ⟨nd, rfl⟩⟩; refine ⟨_, rfl, ?_⟩) | ((with_reducible refine gate_callee (f := 62) rfl ?_); refine goesL_ (some 39) rfl rfl Try.func62 (by kernel_rfl) rfl #[.string (a0.extract 0 ((ji7) : Int).toNat)] rfl (by (try simp only [List.map_toArray, List.map_cons, List.map_nil]); first | done | (simp only [hji7]; rfl) | rfl | (simp only [List.length_drop, List.length_take]; rfl)) ?_; (with_reducible refine (sheetpileref06_Sum.calls kj1 (a0.extract 0 ((ji7) : Int).toNat) t248 _ A13.out).mono ?_); rintro e w' ⟨rfl, ⟨nd, rfl⟩⟩; refine ⟨_, rfl, ?_⟩))
              go_ret2
              exact ⟨_, by first | rfl | (simp [errW_none, errW_some] <;> rfl) | (simp only [← hji7]; first | rfl | (simp [errW_none, errW_some] <;> rfl)) | (simp [*, errW_none, errW_some] <;> rfl), by first | exact Kd.R_nil _ _ _ _ _ | exact Kd.N_nil _ _ _ _ _ | exact Kd.V_nil _ _ _ _ _ | exact Kd.Q_nil _ _ _ _ _ | exact Kd.S_nil _ _ _ _ _, by repeat (first | (with_reducible first | exact HB.out | apply below_alloc | apply pw_below_drewN | apply below_drew1) | exact HB.out)⟩
          · rw [if_neg c9] at H
            exact absurd H (by simp)
        · rw [if_neg c8] at H
          exact absurd H (by simp)

end Go.Proofs.Ytggngbbkachpaaa.PDi
