-- Laid by a program of this session (wip/mkprint.py); checked by Lean alone
import Derived.Test.YtcgbjkjacpeheaaPFrx0
import Derived.Test.YtcgbjkjacpeheaaCrc
namespace Go.Proofs.Ytcgbjkjacpeheaa.Given
end Go.Proofs.Ytcgbjkjacpeheaa.Given
namespace Go.Proofs.Ytcgbjkjacpeheaa.PFr
open Go.Proofs.Ytcgbjkjacpeheaa.Given
open Go.RowKit Go.Proofs.YtcgbjkjacpeheaaW.PrintWords Go.Proofs.YtcgbjkjacpeheaaW.PrintLast Go.Proofs.YtcgbjkjacpeheaaW.PrintMore
attribute [local go_sem] max2_int min2_int max_two min_two max_three min_three max_four min_four   -- for this text's walks alone
set_option linter.unusedVariables false
set_option linter.unusedSimpArgs false

attribute [local go_sem] isSome_setCell_
-- given: function 53 (crc_More)

/-! ### crc_Sum: function 39 -/
def crc_Sum.f (a0 : ByteArray) : Option (Int) := (crc_More.f 0 a0).bind fun t120 => (some t120)
set_option maxHeartbeats 8000000 in
set_option maxRecDepth 100000 in
theorem crc_Sum.calls (a0 : ByteArray) (r : Int) (w : World) (h : crc_Sum.f a0 = some r) :
    Calls Try.prog 39 #[.string a0] w fun e w' => e = .returned (.int .u32 r) ∧ Below w.heap.size w w' := by
  have HB := Aside0.mk (Below.refl w.heap.size w)
  have H : ((crc_More.f 0 a0).bind fun t120 => (some t120)) = some r := h
  clear h
  replace H := Option.bind_eq_some_iff.mp H
  obtain ⟨t120, A20, H⟩ := H
  replace H : (some t120) = some r := H
  have A2 := Aside0.mk A20
  clear A20
  obtain rfl := Option.some.inj H
  go_enter Try.func39, Try.ntmps39
  go_wp2_with (first | ((with_reducible refine gate_callee (f := 53) rfl ?_); refine goesL_ (some 4) rfl rfl Try.func53 (by kernel_rfl) rfl #[.int .u32 0, .string a0] rfl (by (try simp only [List.map_toArray, List.map_cons, List.map_nil]); first | done | rfl | (simp only [List.length_drop, List.length_take]; rfl)) ?_; (with_reducible refine (crc_More.calls 0 a0 t120 _ A2.out).mono ?_); rintro e w3 ⟨rfl, hb⟩; refine ⟨_, rfl, ?_⟩; have n0_ := Aside0.mk (below_step (by repeat (first | (with_reducible first | exact HB.out | apply below_alloc | apply pw_below_drewN | apply below_drew1) | exact HB.out)) hb); clear HB; have HB := n0_; clear n0_; (try clear hb); (try clear hb2); (try clear hk); (try clear hi)))
  go_ret
  exact ⟨by first | rfl | (simp [errW_none, errW_some] <;> rfl) | (simp [*, errW_none, errW_some] <;> rfl), by repeat (first | (with_reducible first | exact HB.out | apply below_alloc | apply pw_below_drewN | apply below_drew1) | exact HB.out)⟩

/-! ### sheetpileref08_more: function 69 -/
mutual
def sheetpileref08_more.j0 : Nat → Int → Bool → Option (Int)
  | 0, _, _ => none
  | k + 1, x0, x6 => if x6 = true then (some 1) else (if x0 ≥ 224 then (sheetpileref08_more.j1 k x0 (decide (x0 < 240))) else (sheetpileref08_more.j1 k x0 false))
def sheetpileref08_more.j1 : Nat → Int → Bool → Option (Int)
  | 0, _, _ => none
  | k + 1, x0, x13 => if x13 = true then (some 2) else (if x0 ≥ 240 then (if x0 < 248 then (some 3) else (some (-1))) else (some (-1)))
end
def sheetpileref08_more.f (k : Nat) (a0 : Int) : Option (Int) := if a0 < 128 then (some 0) else (if a0 ≥ 192 then (sheetpileref08_more.j0 k a0 (decide (a0 < 224))) else (sheetpileref08_more.j0 k a0 false))
theorem sheetpileref08_more.mono_l : ∀ k, (∀ y0 y1, LeO (sheetpileref08_more.j0 k y0 y1) (sheetpileref08_more.j0 (k + 1) y0 y1)) ∧ (∀ y0 y1, LeO (sheetpileref08_more.j1 k y0 y1) (sheetpileref08_more.j1 (k + 1) y0 y1))
  | 0 => ⟨fun _ _ r h => by simp [sheetpileref08_more.j0] at h, fun _ _ r h => by simp [sheetpileref08_more.j1] at h⟩
  | k + 1 => by
    obtain ⟨ih0, ih1⟩ := sheetpileref08_more.mono_l k
    refine ⟨?_, ?_⟩
    · intro y0 y1
      unfold sheetpileref08_more.j0
      repeat' first
      | (with_reducible exact ih0 _ _)
      | (with_reducible exact ih1 _ _)
      | (with_reducible exact LeO.refl _)
      | (with_reducible exact LeO.none _)
      | (with_reducible refine LeO.ite ?_ ?_)
      | (with_reducible refine LeO.bind ?_ (fun _ => ?_))
      | exact ih0 _ _
      | exact ih1 _ _
      | exact LeO.none _
      | refine LeO.ite ?_ ?_
      | refine LeO.bind ?_ (fun _ => ?_)
    · intro y0 y1
      unfold sheetpileref08_more.j1
      repeat' first
      | (with_reducible exact ih0 _ _)
      | (with_reducible exact ih1 _ _)
      | (with_reducible exact LeO.refl _)
      | (with_reducible exact LeO.none _)
      | (with_reducible refine LeO.ite ?_ ?_)
      | (with_reducible refine LeO.bind ?_ (fun _ => ?_))
      | exact ih0 _ _
      | exact ih1 _ _
      | exact LeO.none _
      | refine LeO.ite ?_ ?_
      | refine LeO.bind ?_ (fun _ => ?_)
theorem sheetpileref08_more.mono : ∀ a0 k, LeO (sheetpileref08_more.f k a0) (sheetpileref08_more.f (k + 1) a0) := by
  intro a0 k
  obtain ⟨ih0, ih1⟩ := sheetpileref08_more.mono_l k
  unfold sheetpileref08_more.f
  repeat' first
      | (with_reducible exact ih0 _ _)
      | (with_reducible exact ih1 _ _)
      | (with_reducible exact LeO.refl _)
      | (with_reducible exact LeO.none _)
      | (with_reducible refine LeO.ite ?_ ?_)
      | (with_reducible refine LeO.bind ?_ (fun _ => ?_))
      | exact ih0 _ _
      | exact ih1 _ _
      | exact LeO.none _
      | refine LeO.ite ?_ ?_
      | refine LeO.bind ?_ (fun _ => ?_)
set_option maxHeartbeats 8000000 in
set_option maxRecDepth 100000 in
theorem sheetpileref08_more.calls (k : Nat) (a0 : Int) (r : Int) (w : World) (h : sheetpileref08_more.f k a0 = some r) :
    Calls Try.prog 69 #[.int .u8 a0] w fun e w' => e = .returned (.int .i64 r) ∧ Drawn0 w w' := by
  have H : (if a0 < 128 then (some 0) else (if a0 ≥ 192 then (sheetpileref08_more.j0 k a0 (decide (a0 < 224))) else (sheetpileref08_more.j0 k a0 false))) = some r := h
  clear h
  by_cases c2 : a0 < 128
  · rw [if_pos c2] at H
    have c2b0 : decide (a0 < 128) = true := decide_eq_true c2
    clear c2
    obtain rfl := Option.some.inj H
    go_enter Try.func69, Try.ntmps69
    go_wp2
    go_ret
    exact ⟨by first | rfl | (simp; done) | (simp [*]; done), by repeat (first | exact Drawn0.refl _ | apply Drawn0.step)⟩
  · rw [if_neg c2] at H
    have c2b0 : decide (a0 < 128) = false := decide_eq_false c2
    clear c2
    have HC3 := Aside0.mk H
    clear H
    go_enter Try.func69, Try.ntmps69
    go_upto_region 3 with (fail)
    go_cut [6] (fun v6 wc => ∃ (kq : Nat) (x6_2 : Bool), v6 = .bool x6_2 ∧ Aside0 (sheetpileref08_more.j0 kq a0 x6_2 = some r) ∧ Aside0 (kq ≤ k) ∧ Drawn0 w wc)
    case first =>
      have H := HC3.out
      clear HC3
      by_cases c4 : a0 ≥ 192
      · rw [if_pos c4] at H
        have c4b0 : decide (192 ≤ a0) = true := decide_eq_true c4
        clear c4
        (first | rw [c4b0] | (simp only [i64_w, i32_w]; rw [c4b0]) | skip)
        have H' := Aside0.mk H
        clear H
        go_wp2
        go_meet
        case rel => exact ⟨_, (decide (a0 < 224)), (by first | rfl | (simp; done) | (simp [*]; done) | exact congrArg Value.bool (by cases ByteArray.toList a0 <;> rfl) | exact congrArg Value.bool (by cases ByteArray.toList a1 <;> rfl)), H', ⟨by first | omega | exact Nat.le_refl _⟩, by repeat (first | exact Drawn0.refl _ | apply Drawn0.step)⟩
      · rw [if_neg c4] at H
        have c4b0 : decide (192 ≤ a0) = false := decide_eq_false c4
        clear c4
        (first | rw [c4b0] | (simp only [i64_w, i32_w]; rw [c4b0]) | skip)
        have H' := Aside0.mk H
        clear H
        go_wp2
        go_meet
        case rel => exact ⟨_, (false), (by first | rfl | (simp; done) | (simp [*]; done) | exact congrArg Value.bool (by cases ByteArray.toList a0 <;> rfl) | exact congrArg Value.bool (by cases ByteArray.toList a1 <;> rfl)), H', ⟨by first | omega | exact Nat.le_refl _⟩, by repeat (first | exact Drawn0.refl _ | apply Drawn0.step)⟩
    case rest =>
      clear HC3
      try clear c2
      try clear c2b0
      try clear p2
      try clear c4
      try clear c4b0
      obtain ⟨kq, x6_2, rfl, HA, HJ2, ⟨mc2, rfl⟩⟩ := hcut
      cases kq with
      | zero => exact absurd HA.out (by simp [sheetpileref08_more.j0])
      | succ kj2 =>
        have H := HA.out
        clear HA
        simp only [sheetpileref08_more.j0] at H
        by_cases c5 : x6_2 = true
        · subst c5
          have H1 : (some 1) = some r := by rw [if_pos rfl] at H; exact H
          clear H
          have H := H1
          clear H1
          obtain rfl := Option.some.inj H
          go_wp2
          go_ret
          exact ⟨by first | rfl | (simp; done) | (simp [*]; done), by repeat (first | exact Drawn0.refl _ | apply Drawn0.step)⟩
        · replace c5 := Bool.eq_false_iff.mpr c5
          subst c5
          have H1 : (if a0 ≥ 224 then (sheetpileref08_more.j1 kj2 a0 (decide (a0 < 240))) else (sheetpileref08_more.j1 kj2 a0 false)) = some r := by rw [if_neg (show ¬ (false = true) by decide)] at H; exact H
          clear H
          have H := H1
          clear H1
          have HC6 := Aside0.mk H
          clear H
          go_upto_region 5 with (fail)
          go_cut [13] (fun v13 wc => ∃ (kq : Nat) (x13_5 : Bool), v13 = .bool x13_5 ∧ Aside0 (sheetpileref08_more.j1 kq a0 x13_5 = some r) ∧ Aside0 (kq ≤ kj2) ∧ Drawn0 w wc)
          case first =>
            have H := HC6.out
            clear HC6
            by_cases c7 : a0 ≥ 224
            · rw [if_pos c7] at H
              have c7b0 : decide (224 ≤ a0) = true := decide_eq_true c7
              clear c7
              (first | rw [c7b0] | (simp only [i64_w, i32_w]; rw [c7b0]) | skip)
              have H' := Aside0.mk H
              clear H
              go_wp2
              go_meet
              case rel => exact ⟨_, (decide (a0 < 240)), (by first | rfl | (simp; done) | (simp [*]; done) | exact congrArg Value.bool (by cases ByteArray.toList a0 <;> rfl) | exact congrArg Value.bool (by cases ByteArray.toList a1 <;> rfl)), H', ⟨by have := HJ2.out; first | omega | exact Nat.le_refl _⟩, by repeat (first | exact Drawn0.refl _ | apply Drawn0.step)⟩
            · rw [if_neg c7] at H
              have c7b0 : decide (224 ≤ a0) = false := decide_eq_false c7
              clear c7
              (first | rw [c7b0] | (simp only [i64_w, i32_w]; rw [c7b0]) | skip)
              have H' := Aside0.mk H
              clear H
              go_wp2
              go_meet
              case rel => exact ⟨_, (false), (by first | rfl | (simp; done) | (simp [*]; done) | exact congrArg Value.bool (by cases ByteArray.toList a0 <;> rfl) | exact congrArg Value.bool (by cases ByteArray.toList a1 <;> rfl)), H', ⟨by have := HJ2.out; first | omega | exact Nat.le_refl _⟩, by repeat (first | exact Drawn0.refl _ | apply Drawn0.step)⟩
          case rest =>
            clear HC6
            try clear c2
            try clear c2b0
            try clear p2
            try clear c4
            try clear c4b0
            try clear c5
            try clear c6
            try clear c7
            try clear c7b0
            try clear p2
            obtain ⟨kq, x13_5, rfl, HA, HJ5, ⟨mc5, rfl⟩⟩ := hcut
            cases kq with
            | zero => exact absurd HA.out (by simp [sheetpileref08_more.j1])
            | succ kj5 =>
              have H := HA.out
              clear HA
              simp only [sheetpileref08_more.j1] at H
              by_cases c8 : x13_5 = true
              · subst c8
                have H1 : (some 2) = some r := by rw [if_pos rfl] at H; exact H
                clear H
                have H := H1
                clear H1
                obtain rfl := Option.some.inj H
                go_wp2
                go_ret
                exact ⟨by first | rfl | (simp; done) | (simp [*]; done), by repeat (first | exact Drawn0.refl _ | apply Drawn0.step)⟩
              · replace c8 := Bool.eq_false_iff.mpr c8
                subst c8
                have H1 : (if a0 ≥ 240 then (if a0 < 248 then (some 3) else (some (-1))) else (some (-1))) = some r := by rw [if_neg (show ¬ (false = true) by decide)] at H; exact H
                clear H
                have H := H1
                clear H1
                by_cases c9 : a0 ≥ 240
                · rw [if_pos c9] at H
                  have c9b0 : decide (240 ≤ a0) = true := decide_eq_true c9
                  clear c9
                  by_cases c10 : a0 < 248
                  · rw [if_pos c10] at H
                    have c10b0 : decide (a0 < 248) = true := decide_eq_true c10
                    clear c10
                    obtain rfl := Option.some.inj H
                    go_wp2
                    go_ret
                    exact ⟨by first | rfl | (simp; done) | (simp [*]; done), by repeat (first | exact Drawn0.refl _ | apply Drawn0.step)⟩
                  · rw [if_neg c10] at H
                    have c10b0 : decide (a0 < 248) = false := decide_eq_false c10
                    clear c10
                    obtain rfl := Option.some.inj H
                    go_wp2
                    go_ret
                    exact ⟨by first | rfl | (simp; done) | (simp [*]; done), by repeat (first | exact Drawn0.refl _ | apply Drawn0.step)⟩
                · rw [if_neg c9] at H
                  have c9b0 : decide (240 ≤ a0) = false := decide_eq_false c9
                  clear c9
                  obtain rfl := Option.some.inj H
                  go_wp2
                  go_ret
                  exact ⟨by first | rfl | (simp; done) | (simp [*]; done), by repeat (first | exact Drawn0.refl _ | apply Drawn0.step)⟩

/-! ### sheetpileref08_first: function 70 -/
def sheetpileref08_first.f (a0 : Int) (a1 : Int) : Option (Int) := if a1 = 0 then (some (wrap64 (a0))) else (if a1 = 1 then (some (Int.tmod (wrap64 (a0)) 32)) else (if a1 = 2 then (some (Int.tmod (wrap64 (a0)) 16)) else (some (Int.tmod (wrap64 (a0)) 8))))
set_option maxHeartbeats 8000000 in
set_option maxRecDepth 100000 in
theorem sheetpileref08_first.calls (a0 : Int) (a1 : Int) (r : Int) (w : World) (h : sheetpileref08_first.f a0 a1 = some r) :
    Calls Try.prog 70 #[.int .u8 a0, .int .i64 a1] w fun e w' => e = .returned (.int .i64 r) ∧ Drawn0 w w' := by
  have H : (if a1 = 0 then (some (wrap64 (a0))) else (if a1 = 1 then (some (Int.tmod (wrap64 (a0)) 32)) else (if a1 = 2 then (some (Int.tmod (wrap64 (a0)) 16)) else (some (Int.tmod (wrap64 (a0)) 8))))) = some r := h
  clear h
  by_cases c3 : a1 = 0
  · rw [if_pos c3] at H
    have c3b0 : (a1 == 0) = true := beq_iff_eq.mpr c3
    have c3b1 : (a1 != 0) = false := bne_eq_false_iff_eq.mpr c3
    clear c3
    obtain rfl := Option.some.inj H
    go_enter Try.func70, Try.ntmps70
    go_wp2
    go_ret
    exact ⟨by first | rfl | (simp; done) | (simp [*]; done), by repeat (first | exact Drawn0.refl _ | apply Drawn0.step)⟩
  · rw [if_neg c3] at H
    have c3b0 : (a1 == 0) = false := beq_eq_false_iff_ne.mpr c3
    have c3b1 : (a1 != 0) = true := bne_iff_ne.mpr c3
    by_cases c4 : a1 = 1
    · rw [if_pos c4] at H
      have c4b0 : (a1 == 1) = true := beq_iff_eq.mpr c4
      have c4b1 : (a1 != 1) = false := bne_eq_false_iff_eq.mpr c4
      clear c4
      obtain rfl := Option.some.inj H
      go_enter Try.func70, Try.ntmps70
      go_wp2
      go_ret
      exact ⟨by first | rfl | (simp; done) | (simp [*]; done), by repeat (first | exact Drawn0.refl _ | apply Drawn0.step)⟩
    · rw [if_neg c4] at H
      have c4b0 : (a1 == 1) = false := beq_eq_false_iff_ne.mpr c4
      have c4b1 : (a1 != 1) = true := bne_iff_ne.mpr c4
      by_cases c5 : a1 = 2
      · rw [if_pos c5] at H
        have c5b0 : (a1 == 2) = true := beq_iff_eq.mpr c5
        have c5b1 : (a1 != 2) = false := bne_eq_false_iff_eq.mpr c5
        clear c5
        obtain rfl := Option.some.inj H
        go_enter Try.func70, Try.ntmps70
        go_wp2
        go_ret
        exact ⟨by first | rfl | (simp; done) | (simp [*]; done), by repeat (first | exact Drawn0.refl _ | apply Drawn0.step)⟩
      · rw [if_neg c5] at H
        have c5b0 : (a1 == 2) = false := beq_eq_false_iff_ne.mpr c5
        have c5b1 : (a1 != 2) = true := bne_iff_ne.mpr c5
        obtain rfl := Option.some.inj H
        go_enter Try.func70, Try.ntmps70
        go_wp2
        go_ret
        exact ⟨by first | rfl | (simp; done) | (simp [*]; done), by repeat (first | exact Drawn0.refl _ | apply Drawn0.step)⟩

/-! ### sheetpileref08_fits: function 71 -/
def sheetpileref08_fits.f (a0 : Int) (a1 : Int) : Option (Bool) := if a1 = 0 then (some true) else (if a1 = 1 then (some (decide (a0 ≥ 128))) else (if a1 = 2 then (if a0 ≥ 2048 then (if a0 < 55296 then (some true) else (some (decide (a0 > 57343)))) else (some false)) else (if a0 ≥ 65536 then (some (decide (a0 ≤ 1114111))) else (some false))))
set_option maxHeartbeats 8000000 in
set_option maxRecDepth 100000 in
theorem sheetpileref08_fits.calls (a0 : Int) (a1 : Int) (r : Bool) (w : World) (h : sheetpileref08_fits.f a0 a1 = some r) :
    Calls Try.prog 71 #[.int .i64 a0, .int .i64 a1] w fun e w' => e = .returned (.bool r) ∧ Drawn0 w w' := by
  have H : (if a1 = 0 then (some true) else (if a1 = 1 then (some (decide (a0 ≥ 128))) else (if a1 = 2 then (if a0 ≥ 2048 then (if a0 < 55296 then (some true) else (some (decide (a0 > 57343)))) else (some false)) else (if a0 ≥ 65536 then (some (decide (a0 ≤ 1114111))) else (some false))))) = some r := h
  clear h
  by_cases c3 : a1 = 0
  · rw [if_pos c3] at H
    have c3b0 : (a1 == 0) = true := beq_iff_eq.mpr c3
    have c3b1 : (a1 != 0) = false := bne_eq_false_iff_eq.mpr c3
    clear c3
    obtain rfl := Option.some.inj H
    go_enter Try.func71, Try.ntmps71
    go_wp2
    go_ret
    exact ⟨by first | rfl | (simp; done) | (simp [*]; done), by repeat (first | exact Drawn0.refl _ | apply Drawn0.step)⟩
  · rw [if_neg c3] at H
    have c3b0 : (a1 == 0) = false := beq_eq_false_iff_ne.mpr c3
    have c3b1 : (a1 != 0) = true := bne_iff_ne.mpr c3
    by_cases c4 : a1 = 1
    · rw [if_pos c4] at H
      have c4b0 : (a1 == 1) = true := beq_iff_eq.mpr c4
      have c4b1 : (a1 != 1) = false := bne_eq_false_iff_eq.mpr c4
      clear c4
      obtain rfl := Option.some.inj H
      go_enter Try.func71, Try.ntmps71
      go_wp2
      go_ret
      exact ⟨by first | rfl | (simp; done) | (simp [*]; done), by repeat (first | exact Drawn0.refl _ | apply Drawn0.step)⟩
    · rw [if_neg c4] at H
      have c4b0 : (a1 == 1) = false := beq_eq_false_iff_ne.mpr c4
      have c4b1 : (a1 != 1) = true := bne_iff_ne.mpr c4
      by_cases c5 : a1 = 2
      · rw [if_pos c5] at H
        have c5b0 : (a1 == 2) = true := beq_iff_eq.mpr c5
        have c5b1 : (a1 != 2) = false := bne_eq_false_iff_eq.mpr c5
        clear c5
        by_cases c6 : a0 ≥ 2048
        · rw [if_pos c6] at H
          have c6b0 : decide (2048 ≤ a0) = true := decide_eq_true c6
          clear c6
          by_cases c7 : a0 < 55296
          · rw [if_pos c7] at H
            have c7b0 : decide (a0 < 55296) = true := decide_eq_true c7
            clear c7
            obtain rfl := Option.some.inj H
            go_enter Try.func71, Try.ntmps71
            go_wp2
            go_ret
            exact ⟨by first | rfl | (simp; done) | (simp [*]; done), by repeat (first | exact Drawn0.refl _ | apply Drawn0.step)⟩
          · rw [if_neg c7] at H
            have c7b0 : decide (a0 < 55296) = false := decide_eq_false c7
            clear c7
            obtain rfl := Option.some.inj H
            go_enter Try.func71, Try.ntmps71
            go_wp2
            go_ret
            exact ⟨by first | rfl | (simp; done) | (simp [*]; done), by repeat (first | exact Drawn0.refl _ | apply Drawn0.step)⟩
        · rw [if_neg c6] at H
          have c6b0 : decide (2048 ≤ a0) = false := decide_eq_false c6
          clear c6
          obtain rfl := Option.some.inj H
          go_enter Try.func71, Try.ntmps71
          go_wp2
          go_ret
          exact ⟨by first | rfl | (simp; done) | (simp [*]; done), by repeat (first | exact Drawn0.refl _ | apply Drawn0.step)⟩
      · rw [if_neg c5] at H
        have c5b0 : (a1 == 2) = false := beq_eq_false_iff_ne.mpr c5
        have c5b1 : (a1 != 2) = true := bne_iff_ne.mpr c5
        by_cases c8 : a0 ≥ 65536
        · rw [if_pos c8] at H
          have c8b0 : decide (65536 ≤ a0) = true := decide_eq_true c8
          clear c8
          obtain rfl := Option.some.inj H
          go_enter Try.func71, Try.ntmps71
          go_wp2
          go_ret
          exact ⟨by first | rfl | (simp; done) | (simp [*]; done), by repeat (first | exact Drawn0.refl _ | apply Drawn0.step)⟩
        · rw [if_neg c8] at H
          have c8b0 : decide (65536 ≤ a0) = false := decide_eq_false c8
          clear c8
          obtain rfl := Option.some.inj H
          go_enter Try.func71, Try.ntmps71
          go_wp2
          go_ret
          exact ⟨by first | rfl | (simp; done) | (simp [*]; done), by repeat (first | exact Drawn0.refl _ | apply Drawn0.step)⟩

/-! ### sheetpileref08_Runes: function 58 -/
mutual
def sheetpileref08_Runes.l0 : Nat → ByteArray → List Int → Int → Option (List Int × Bool)
  | 0, _, _, _ => none
  | k + 1, x0, x4, x5 => if x5 < (x0.size : Int) then (if 0 ≤ x5 then ((sheetpileref08_more.f k (bt x0 x5)).bind fun t121 => (if t121 < 0 then (sheetpileref08_Runes.j1 k x0 x4 x5 t121 true) else (sheetpileref08_Runes.j1 k x0 x4 x5 t121 (decide ((wrap64 (x5 + t121)) ≥ (x0.size : Int)))))) else (none)) else (some (x4, true))
def sheetpileref08_Runes.j1 : Nat → ByteArray → List Int → Int → Int → Bool → Option (List Int × Bool)
  | 0, _, _, _, _, _ => none
  | k + 1, x0, x4, x5, x6, x27 => if x27 = true then (some (([] : List Int), false)) else (if 0 ≤ x5 then (if x5 < (x0.size : Int) then ((sheetpileref08_first.f (bt x0 x5) x6).bind fun t122 => (sheetpileref08_Runes.l1 k x0 x4 x5 x6 t122 1)) else (none)) else (none))
def sheetpileref08_Runes.l1 : Nat → ByteArray → List Int → Int → Int → Int → Int → Option (List Int × Bool)
  | 0, _, _, _, _, _, _ => none
  | k + 1, x0, x4, x5, x6, x7, x8 => if x8 ≤ x6 then (if 0 ≤ (wrap64 (x5 + x8)) then (if (wrap64 (x5 + x8)) < (x0.size : Int) then (if (bt x0 (wrap64 (x5 + x8))) < 128 then (some (([] : List Int), false)) else (if (bt x0 (wrap64 (x5 + x8))) > 191 then (some (([] : List Int), false)) else (sheetpileref08_Runes.l1 k x0 x4 x5 x6 (wrap64 ((wrap64 (64 * x7)) + (Int.tmod (wrap64 (bt x0 (wrap64 (x5 + x8)))) 64))) (wrap64 (x8 + 1))))) else (none)) else (none)) else ((sheetpileref08_fits.f x7 x6).bind fun t123 => (if t123 = true then (if x4.length < 17592186044416 then (sheetpileref08_Runes.l0 k x0 (x4 ++ [x7]) (wrap64 ((wrap64 (x5 + x6)) + 1))) else (none)) else (some (([] : List Int), false))))
end
def sheetpileref08_Runes.f (k : Nat) (a0 : ByteArray) : Option (List Int × Bool) := sheetpileref08_Runes.l0 k a0 ([] : List Int) 0
theorem sheetpileref08_Runes.mono_l : ∀ k, (∀ y0 y1 y2, LeO (sheetpileref08_Runes.l0 k y0 y1 y2) (sheetpileref08_Runes.l0 (k + 1) y0 y1 y2)) ∧ (∀ y0 y1 y2 y3 y4, LeO (sheetpileref08_Runes.j1 k y0 y1 y2 y3 y4) (sheetpileref08_Runes.j1 (k + 1) y0 y1 y2 y3 y4)) ∧ (∀ y0 y1 y2 y3 y4 y5, LeO (sheetpileref08_Runes.l1 k y0 y1 y2 y3 y4 y5) (sheetpileref08_Runes.l1 (k + 1) y0 y1 y2 y3 y4 y5))
  | 0 => ⟨fun _ _ _ r h => by simp [sheetpileref08_Runes.l0] at h, fun _ _ _ _ _ r h => by simp [sheetpileref08_Runes.j1] at h, fun _ _ _ _ _ _ r h => by simp [sheetpileref08_Runes.l1] at h⟩
  | k + 1 => by
    obtain ⟨ih0, ih1, ih2⟩ := sheetpileref08_Runes.mono_l k
    refine ⟨?_, ?_, ?_⟩
    · intro y0 y1 y2
      unfold sheetpileref08_Runes.l0
      repeat' first
      | (with_reducible exact ih0 _ _ _)
      | (with_reducible exact ih1 _ _ _ _ _)
      | (with_reducible exact ih2 _ _ _ _ _ _)
      | (with_reducible exact sheetpileref08_more.mono _ _)
      | (with_reducible exact LeO.refl _)
      | (with_reducible exact LeO.none _)
      | (with_reducible refine LeO.ite ?_ ?_)
      | (with_reducible refine LeO.bind ?_ (fun _ => ?_))
      | exact ih0 _ _ _
      | exact ih1 _ _ _ _ _
      | exact ih2 _ _ _ _ _ _
      | exact sheetpileref08_more.mono _ _
      | exact LeO.none _
      | refine LeO.ite ?_ ?_
      | refine LeO.bind ?_ (fun _ => ?_)
    · intro y0 y1 y2 y3 y4
      unfold sheetpileref08_Runes.j1
      repeat' first
      | (with_reducible exact ih0 _ _ _)
      | (with_reducible exact ih1 _ _ _ _ _)
      | (with_reducible exact ih2 _ _ _ _ _ _)
      | (with_reducible exact sheetpileref08_more.mono _ _)
      | (with_reducible exact LeO.refl _)
      | (with_reducible exact LeO.none _)
      | (with_reducible refine LeO.ite ?_ ?_)
      | (with_reducible refine LeO.bind ?_ (fun _ => ?_))
      | exact ih0 _ _ _
      | exact ih1 _ _ _ _ _
      | exact ih2 _ _ _ _ _ _
      | exact sheetpileref08_more.mono _ _
      | exact LeO.none _
      | refine LeO.ite ?_ ?_
      | refine LeO.bind ?_ (fun _ => ?_)
    · intro y0 y1 y2 y3 y4 y5
      unfold sheetpileref08_Runes.l1
      repeat' first
      | (with_reducible exact ih0 _ _ _)
      | (with_reducible exact ih1 _ _ _ _ _)
      | (with_reducible exact ih2 _ _ _ _ _ _)
      | (with_reducible exact sheetpileref08_more.mono _ _)
      | (with_reducible exact LeO.refl _)
      | (with_reducible exact LeO.none _)
      | (with_reducible refine LeO.ite ?_ ?_)
      | (with_reducible refine LeO.bind ?_ (fun _ => ?_))
      | exact ih0 _ _ _
      | exact ih1 _ _ _ _ _
      | exact ih2 _ _ _ _ _ _
      | exact sheetpileref08_more.mono _ _
      | exact LeO.none _
      | refine LeO.ite ?_ ?_
      | refine LeO.bind ?_ (fun _ => ?_)
theorem sheetpileref08_Runes.mono : ∀ a0 k, LeO (sheetpileref08_Runes.f k a0) (sheetpileref08_Runes.f (k + 1) a0) := by
  intro a0 k
  obtain ⟨ih0, ih1, ih2⟩ := sheetpileref08_Runes.mono_l k
  unfold sheetpileref08_Runes.f
  repeat' first
      | (with_reducible exact ih0 _ _ _)
      | (with_reducible exact ih1 _ _ _ _ _)
      | (with_reducible exact ih2 _ _ _ _ _ _)
      | (with_reducible exact sheetpileref08_more.mono _ _)
      | (with_reducible exact LeO.refl _)
      | (with_reducible exact LeO.none _)
      | (with_reducible refine LeO.ite ?_ ?_)
      | (with_reducible refine LeO.bind ?_ (fun _ => ?_))
      | exact ih0 _ _ _
      | exact ih1 _ _ _ _ _
      | exact ih2 _ _ _ _ _ _
      | exact sheetpileref08_more.mono _ _
      | exact LeO.none _
      | refine LeO.ite ?_ ?_
      | refine LeO.bind ?_ (fun _ => ?_)
set_option maxHeartbeats 8000000 in
set_option maxRecDepth 100000 in
theorem sheetpileref08_Runes.calls (k : Nat) (a0 : ByteArray) (r1 : List Int) (r2 : Bool) (w : World) (h : sheetpileref08_Runes.f k a0 = some (r1, r2)) :
    Calls Try.prog 58 #[.string a0] w fun e w' => ∃ v0_ : Value, e = .returned (.tuple #[v0_, .bool r2]) ∧ Kd.R (Kd.int .i64) 3 w' w.heap.size (fun _ => True) v0_ r1 ∧ Below w.heap.size w w' := by
  have HB := Aside0.mk (Below.refl w.heap.size w)
  have H : (sheetpileref08_Runes.l0 k a0 ([] : List Int) 0) = some (r1, r2) := h
  clear h
  have H' := Aside0.mk H
  clear H
  go_enter Try.func58, Try.ntmps58
  go_wp2
  go_loopg [4, 5] k (fun kq v4 v5 w' => ∃ (x4_1 : List Int) (x5_1 : Int), v5 = .int .i64 x5_1 ∧ Aside0 (sheetpileref08_Runes.l0 kq a0 x4_1 x5_1 = some (r1, r2)) ∧ Aside0 (kq ≤ k) ∧ Aside0 (Kd.R (Kd.int .i64) 3 w' w.heap.size (fun _ => True) v4 x4_1) ∧ Aside0 (Below w.heap.size w w'))
  case atStart => exact ⟨(([] : List Int)), (0), (by first | rfl | (simp; done) | (simp [*]; done) | exact congrArg Value.bool (by cases ByteArray.toList a0 <;> rfl) | exact congrArg Value.bool (by cases ByteArray.toList a1 <;> rfl)), H', ⟨Nat.le_refl _⟩, ⟨by first | exact Kd.R_nil _ _ _ _ _ | exact Kd.N_nil _ _ _ _ _ | exact Kd.V_nil _ _ _ _ _ | exact Kd.Q_nil _ _ _ _ _ | exact Kd.S_nil _ _ _ _ _⟩, ⟨by repeat (first | (with_reducible first | exact HB.out | apply below_alloc | apply pw_below_drewN | apply below_drew1) | exact HB.out)⟩⟩
  case round =>
    clear H'
    obtain ⟨x4_1, x5_1, rfl, HA, HK1, HO_4, HB⟩ := hrel
    cases gk with
    | zero => exact absurd HA.out (by simp [sheetpileref08_Runes.l0])
    | succ k1 =>
      have H := HA.out
      clear HA
      simp only [sheetpileref08_Runes.l0] at H
      by_cases c2 : x5_1 < (a0.size : Int)
      · rw [if_pos c2] at H
        have c2b0 : decide (x5_1 < (a0.size : Int)) = true := decide_eq_true c2
        clear c2
        by_cases c3 : 0 ≤ x5_1
        · rw [if_pos c3] at H
          have c3b0 : decide (0 ≤ x5_1) = true := decide_eq_true c3
          clear c3
          replace H := Option.bind_eq_some_iff.mp H
          obtain ⟨t121, A50, H⟩ := H
          replace H : (if t121 < 0 then (sheetpileref08_Runes.j1 k1 a0 x4_1 x5_1 t121 true) else (sheetpileref08_Runes.j1 k1 a0 x4_1 x5_1 t121 (decide ((wrap64 (x5_1 + t121)) ≥ (a0.size : Int))))) = some (r1, r2) := H
          have A5 := Aside0.mk A50
          clear A50
          have HC6 := Aside0.mk H
          clear H
          have p4 : 0 ≤ (x5_1 : Int) := of_decide_eq_true (by first | (with_reducible assumption) | assumption)
          have q4 : x5_1 < (a0.size : Int) := of_decide_eq_true (by first | (with_reducible assumption) | assumption)
          have hx4 := bt_at a0 x5_1
          replace p4 := eq_true p4
          replace q4 := eq_true q4
          go_upto_region 5 with (first | ((with_reducible refine gate_callee (f := 69) rfl ?_); refine goesL_ (some 17) rfl rfl Try.func69 (by kernel_rfl) rfl #[.int .u8 (bt a0 x5_1)] rfl (by (try simp only [List.map_toArray, List.map_cons, List.map_nil]); first | done | rfl | (simp only [List.length_drop, List.length_take]; rfl)) ?_; (with_reducible refine (sheetpileref08_more.calls k1 (bt a0 x5_1) t121 _ A5.out).mono ?_); rintro e w' ⟨rfl, ⟨nd, rfl⟩⟩; refine ⟨_, rfl, ?_⟩))
          (try simp only [Act.put, List.setIfInBounds_toArray, List.set_cons_zero, List.set_cons_succ])
          go_cut [27] (fun v27 wc => ∃ (kq : Nat) (x27_5 : Bool), v27 = .bool x27_5 ∧ Aside0 (sheetpileref08_Runes.j1 kq a0 x4_1 x5_1 t121 x27_5 = some (r1, r2)) ∧ Aside0 (kq ≤ k1) ∧ Aside0 (Kd.R (Kd.int .i64) 3 wc w.heap.size (fun _ => True) u4 x4_1) ∧ Aside0 (Below w.heap.size w wc))
          case first =>
            have H := HC6.out
            clear HC6
            by_cases c7 : t121 < 0
            · rw [if_pos c7] at H
              have c7b0 : decide (t121 < 0) = true := decide_eq_true c7
              clear c7
              (first | rw [c7b0] | (simp only [i64_w, i32_w]; rw [c7b0]) | skip)
              have H' := Aside0.mk H
              clear H
              go_wp2
              go_meet
              case rel => exact ⟨_, (true), (by first | rfl | (simp; done) | (simp [*]; done) | exact congrArg Value.bool (by cases ByteArray.toList a0 <;> rfl) | exact congrArg Value.bool (by cases ByteArray.toList a1 <;> rfl)), H', ⟨by have := HK1.out; first | omega | exact Nat.le_refl _⟩, ⟨by (with_reducible repeat (first | apply Kd.R_alloc | apply Kd.R_drewN | apply Kd.R_drew)); exact HO_4.out⟩, ⟨by repeat (first | (with_reducible first | exact HB.out | apply below_alloc | apply pw_below_drewN | apply below_drew1) | exact HB.out)⟩⟩
            · rw [if_neg c7] at H
              have c7b0 : decide (t121 < 0) = false := decide_eq_false c7
              clear c7
              (first | rw [c7b0] | (simp only [i64_w, i32_w]; rw [c7b0]) | skip)
              have H' := Aside0.mk H
              clear H
              go_wp2
              go_meet
              case rel => exact ⟨_, (decide ((wrap64 (x5_1 + t121)) ≥ (a0.size : Int))), (by first | rfl | (simp; done) | (simp [*]; done) | exact congrArg Value.bool (by cases ByteArray.toList a0 <;> rfl) | exact congrArg Value.bool (by cases ByteArray.toList a1 <;> rfl)), H', ⟨by have := HK1.out; first | omega | exact Nat.le_refl _⟩, ⟨by (with_reducible repeat (first | apply Kd.R_alloc | apply Kd.R_drewN | apply Kd.R_drew)); exact HO_4.out⟩, ⟨by repeat (first | (with_reducible first | exact HB.out | apply below_alloc | apply pw_below_drewN | apply below_drew1) | exact HB.out)⟩⟩
          case rest =>
            clear HC6
            try clear c2
            try clear c2b0
            try clear p2
            try clear c3
            try clear c3b0
            try clear p4
            try clear q4
            try clear hx4
            try clear c5
            try clear c6
            try clear p6
            try clear c7
            try clear c7b0
            try clear p4
            try clear q4
            obtain ⟨kq, x27_5, rfl, HA, HJ5, HO_4, HB⟩ := hcut
            cases kq with
            | zero => exact absurd HA.out (by simp [sheetpileref08_Runes.j1])
            | succ kj5 =>
              have H := HA.out
              clear HA
              simp only [sheetpileref08_Runes.j1] at H
              by_cases c8 : x27_5 = true
              · subst c8
                have H1 : (some (([] : List Int), false)) = some (r1, r2) := by rw [if_pos rfl] at H; exact H
                clear H
                have H := H1
                clear H1
                simp only [Option.some.injEq, Prod.mk.injEq] at H
                obtain ⟨rfl, rfl⟩ := H
                go_wp2
                go_ret2
                exact ⟨_, by first | rfl | (simp [errW_none, errW_some] <;> rfl) | (simp [*, errW_none, errW_some] <;> rfl), by first | exact Kd.R_nil _ _ _ _ _ | exact Kd.N_nil _ _ _ _ _ | exact Kd.V_nil _ _ _ _ _ | exact Kd.Q_nil _ _ _ _ _ | exact Kd.S_nil _ _ _ _ _, by repeat (first | (with_reducible first | exact HB.out | apply below_alloc | apply pw_below_drewN | apply below_drew1) | exact HB.out)⟩
              · replace c8 := Bool.eq_false_iff.mpr c8
                subst c8
                have H1 : (if 0 ≤ x5_1 then (if x5_1 < (a0.size : Int) then ((sheetpileref08_first.f (bt a0 x5_1) t121).bind fun t122 => (sheetpileref08_Runes.l1 kj5 a0 x4_1 x5_1 t121 t122 1)) else (none)) else (none)) = some (r1, r2) := by rw [if_neg (show ¬ (false = true) by decide)] at H; exact H
                clear H
                have H := H1
                clear H1
                by_cases c9 : 0 ≤ x5_1
                · rw [if_pos c9] at H
                  have c9b0 : decide (0 ≤ x5_1) = true := decide_eq_true c9
                  clear c9
                  by_cases c10 : x5_1 < (a0.size : Int)
                  · rw [if_pos c10] at H
                    have c10b0 : decide (x5_1 < (a0.size : Int)) = true := decide_eq_true c10
                    clear c10
                    replace H := Option.bind_eq_some_iff.mp H
                    obtain ⟨t122, A120, H⟩ := H
                    replace H : (sheetpileref08_Runes.l1 kj5 a0 x4_1 x5_1 t121 t122 1) = some (r1, r2) := H
                    have A12 := Aside0.mk A120
                    clear A120
                    have H' := Aside0.mk H
                    clear H
                    have p11 : 0 ≤ (x5_1 : Int) := of_decide_eq_true (by first | (with_reducible assumption) | assumption)
                    have q11 : x5_1 < (a0.size : Int) := of_decide_eq_true (by first | (with_reducible assumption) | assumption)
                    have hx11 := bt_at a0 x5_1
                    replace p11 := eq_true p11
                    replace q11 := eq_true q11
                    go_wp2_with (first | ((with_reducible refine gate_callee (f := 70) rfl ?_); refine goesL_ (some 32) rfl rfl Try.func70 (by kernel_rfl) rfl #[.int .u8 (bt a0 x5_1), .int .i64 t121] rfl (by (try simp only [List.map_toArray, List.map_cons, List.map_nil]); first | done | rfl | (simp only [List.length_drop, List.length_take]; rfl)) ?_; (with_reducible refine (sheetpileref08_first.calls (bt a0 x5_1) t121 t122 _ A12.out).mono ?_); rintro e w' ⟨rfl, ⟨nd, rfl⟩⟩; refine ⟨_, rfl, ?_⟩))
                    go_loopg [7, 8] kj5 (fun kq v7 v8 w' => ∃ (x7_3 : Int) (x8_3 : Int), v7 = .int .i64 x7_3 ∧ v8 = .int .i64 x8_3 ∧ Aside0 (sheetpileref08_Runes.l1 kq a0 x4_1 x5_1 t121 x7_3 x8_3 = some (r1, r2)) ∧ Aside0 (kq ≤ kj5) ∧ Aside0 (Kd.R (Kd.int .i64) 3 w' w.heap.size (fun _ => True) u4 x4_1) ∧ Aside0 (Below w.heap.size w w'))
                    case atStart => exact ⟨(t122), (1), (by first | rfl | (simp; done) | (simp [*]; done) | exact congrArg Value.bool (by cases ByteArray.toList a0 <;> rfl) | exact congrArg Value.bool (by cases ByteArray.toList a1 <;> rfl)), (by first | rfl | (simp; done) | (simp [*]; done) | exact congrArg Value.bool (by cases ByteArray.toList a0 <;> rfl) | exact congrArg Value.bool (by cases ByteArray.toList a1 <;> rfl)), H', ⟨Nat.le_refl _⟩, ⟨by (with_reducible repeat (first | apply Kd.R_alloc | apply Kd.R_drewN | apply Kd.R_drew)); exact HO_4.out⟩, ⟨by repeat (first | (with_reducible first | exact HB.out | apply below_alloc | apply pw_below_drewN | apply below_drew1) | exact HB.out)⟩⟩
                    case round =>
                      clear H'
                      try clear c1
                      try clear p1
                      try clear q1
                      try clear hx1
                      try clear c2
                      try clear c2b0
                      try clear p2
                      try clear c3
                      try clear c3b0
                      try clear p4
                      try clear q4
                      try clear hx4
                      try clear c5
                      try clear c6
                      try clear p6
                      try clear c7
                      try clear c7b0
                      try clear c8
                      try clear c9
                      try clear c9b0
                      try clear c10
                      try clear c10b0
                      try clear p11
                      try clear q11
                      try clear hx11
                      try clear p11
                      try clear p2
                      try clear p4
                      try clear p6
                      try clear q11
                      try clear q4
                      obtain ⟨x7_3, x8_3, rfl, rfl, HA, HK3, HO_4, HB⟩ := hrel
                      cases gk with
                      | zero => exact absurd HA.out (by simp [sheetpileref08_Runes.l1])
                      | succ k3 =>
                        have H := HA.out
                        clear HA
                        simp only [sheetpileref08_Runes.l1] at H
                        by_cases c13 : x8_3 ≤ t121
                        · rw [if_pos c13] at H
                          have c13b0 : decide (x8_3 ≤ t121) = true := decide_eq_true c13
                          clear c13
                          obtain ⟨ji14, hji14⟩ : ∃ j_ : Int, (wrap64 (x5_1 + x8_3)) = j_ := ⟨_, rfl⟩
                          replace H : (if 0 ≤ (ji14) then (if (ji14) < (a0.size : Int) then (if (bt a0 (ji14)) < 128 then (some (([] : List Int), false)) else (if (bt a0 (ji14)) > 191 then (some (([] : List Int), false)) else (sheetpileref08_Runes.l1 k3 a0 x4_1 x5_1 t121 (wrap64 ((wrap64 (64 * x7_3)) + (Int.tmod (wrap64 (bt a0 (ji14))) 64))) (wrap64 (x8_3 + 1))))) else (none)) else (none)) = some (r1, r2) := by first | (rw [hji14] at H; exact H) | (simp only [hji14] at H ⊢; exact H)
                          have hji14w : (IntKind.i64.wrap (x5_1 + x8_3)) = ji14 := (i64_w _).trans hji14
                          by_cases c15 : 0 ≤ (ji14)
                          · rw [if_pos c15] at H
                            have c15b0 : decide (0 ≤ (ji14)) = true := decide_eq_true c15
                            clear c15
                            by_cases c16 : (ji14) < (a0.size : Int)
                            · rw [if_pos c16] at H
                              have c16b0 : decide ((ji14) < (a0.size : Int)) = true := decide_eq_true c16
                              clear c16
                              by_cases c18 : (bt a0 (ji14)) < 128
                              · rw [if_pos c18] at H
                                have c18b0 : decide ((bt a0 (ji14)) < 128) = true := decide_eq_true c18
                                clear c18
                                simp only [Option.some.injEq, Prod.mk.injEq] at H
                                obtain ⟨rfl, rfl⟩ := H
                                have p17 : 0 ≤ ((ji14) : Int) := of_decide_eq_true (by first | (with_reducible assumption) | assumption)
                                have q17 : (ji14) < (a0.size : Int) := of_decide_eq_true (by first | (with_reducible assumption) | assumption)
                                have hx17 := bt_at a0 (ji14)
                                replace p17 := eq_true p17
                                replace q17 := eq_true q17
                                go_wp2
                                go_ret2
                                exact ⟨_, by first | rfl | (simp [errW_none, errW_some] <;> rfl) | (simp only [← hji14]; first | rfl | (simp [errW_none, errW_some] <;> rfl)) | (simp [*, errW_none, errW_some] <;> rfl), by first | exact Kd.R_nil _ _ _ _ _ | exact Kd.N_nil _ _ _ _ _ | exact Kd.V_nil _ _ _ _ _ | exact Kd.Q_nil _ _ _ _ _ | exact Kd.S_nil _ _ _ _ _, by repeat (first | (with_reducible first | exact HB.out | apply below_alloc | apply pw_below_drewN | apply below_drew1) | exact HB.out)⟩
                              · rw [if_neg c18] at H
                                have c18b0 : decide ((bt a0 (ji14)) < 128) = false := decide_eq_false c18
                                clear c18
                                by_cases c19 : (bt a0 (ji14)) > 191
                                · rw [if_pos c19] at H
                                  have c19b0 : decide (191 < (bt a0 (ji14))) = true := decide_eq_true c19
                                  clear c19
                                  simp only [Option.some.injEq, Prod.mk.injEq] at H
                                  obtain ⟨rfl, rfl⟩ := H
                                  have p17 : 0 ≤ ((ji14) : Int) := of_decide_eq_true (by first | (with_reducible assumption) | assumption)
                                  have q17 : (ji14) < (a0.size : Int) := of_decide_eq_true (by first | (with_reducible assumption) | assumption)
                                  have hx17 := bt_at a0 (ji14)
                                  replace p17 := eq_true p17
                                  replace q17 := eq_true q17
                                  go_wp2
                                  go_ret2
                                  exact ⟨_, by first | rfl | (simp [errW_none, errW_some] <;> rfl) | (simp only [← hji14]; first | rfl | (simp [errW_none, errW_some] <;> rfl)) | (simp [*, errW_none, errW_some] <;> rfl), by first | exact Kd.R_nil _ _ _ _ _ | exact Kd.N_nil _ _ _ _ _ | exact Kd.V_nil _ _ _ _ _ | exact Kd.Q_nil _ _ _ _ _ | exact Kd.S_nil _ _ _ _ _, by repeat (first | (with_reducible first | exact HB.out | apply below_alloc | apply pw_below_drewN | apply below_drew1) | exact HB.out)⟩
                                · rw [if_neg c19] at H
                                  have c19b0 : decide (191 < (bt a0 (ji14))) = false := decide_eq_false c19
                                  clear c19
                                  have H' := Aside0.mk H
                                  clear H
                                  have p17 : 0 ≤ ((ji14) : Int) := of_decide_eq_true (by first | (with_reducible assumption) | assumption)
                                  have q17 : (ji14) < (a0.size : Int) := of_decide_eq_true (by first | (with_reducible assumption) | assumption)
                                  have hx17 := bt_at a0 (ji14)
                                  replace p17 := eq_true p17
                                  replace q17 := eq_true q17
                                  go_wp2
                                  go_roundg k3
                                  case measure => have := HK1.out; have := HJ5.out; have := HK3.out; omega
                                  case rel => exact ⟨(wrap64 ((wrap64 (64 * x7_3)) + (Int.tmod (wrap64 (bt a0 (ji14))) 64))), (wrap64 (x8_3 + 1)), (by first | rfl | (simp; done) | (simp only [← hji14] <;> (first | rfl | simp)) | (simp [*]; done)), (by first | rfl | (simp; done) | (simp [*]; done) | exact congrArg Value.bool (by cases ByteArray.toList a0 <;> rfl) | exact congrArg Value.bool (by cases ByteArray.toList a1 <;> rfl)), H', ⟨by have := HK1.out; have := HJ5.out; have := HK3.out; omega⟩, ⟨by (with_reducible repeat (first | apply Kd.R_alloc | apply Kd.R_drewN | apply Kd.R_drew)); exact HO_4.out⟩, ⟨by repeat (first | (with_reducible first | exact HB.out | apply below_alloc | apply pw_below_drewN | apply below_drew1) | exact HB.out)⟩⟩
                            · rw [if_neg c16] at H
                              exact absurd H (by simp)
                          · rw [if_neg c15] at H
                            exact absurd H (by simp)
                        · rw [if_neg c13] at H
                          have c13b0 : decide (x8_3 ≤ t121) = false := decide_eq_false c13
                          clear c13
                          replace H := Option.bind_eq_some_iff.mp H
                          obtain ⟨t123, A200, H⟩ := H
                          replace H : (if t123 = true then (if x4_1.length < 17592186044416 then (sheetpileref08_Runes.l0 k3 a0 (x4_1 ++ [x7_3]) (wrap64 ((wrap64 (x5_1 + t121)) + 1))) else (none)) else (some (([] : List Int), false))) = some (r1, r2) := H
                          have A20 := Aside0.mk A200
                          clear A200
                          by_cases c21 : t123 = true
                          · subst c21
                            have H1 : (if x4_1.length < 17592186044416 then (sheetpileref08_Runes.l0 k3 a0 (x4_1 ++ [x7_3]) (wrap64 ((wrap64 (x5_1 + t121)) + 1))) else (none)) = some (r1, r2) := by rw [if_pos rfl] at H; exact H
                            clear H
                            have H := H1
                            clear H1
                            by_cases c22 : x4_1.length < 17592186044416
                            · rw [if_pos c22] at H
                              have LMc22 := Aside0.mk c22
                              clear c22
                              obtain ⟨y124, hy124⟩ : ∃ y_ : List Int, y_ = (x4_1 ++ [x7_3]) := ⟨_, rfl⟩
                              replace H : (sheetpileref08_Runes.l0 k3 a0 y124 (wrap64 ((wrap64 (x5_1 + t121)) + 1))) = some (r1, r2) := by first | (rw [hy124]; with_reducible exact H) | (have H2_ := (Option.bind_some _ _).symm.trans H; rw [hy124]; with_reducible exact H2_) | (have H2_ := (Option.bind_some _ _).symm.trans H; with_reducible exact H2_) | with_reducible exact H | (rw [hy124]; exact H) | exact H
                              have Ny124 := Aside0.mk hy124
                              clear hy124
                              have H' := Aside0.mk H
                              clear H
                              go_wp2_with (first | ((with_reducible refine gate_callee (f := 71) rfl ?_); refine goesL_ (some 57) rfl rfl Try.func71 (by kernel_rfl) rfl #[.int .i64 x7_3, .int .i64 t121] rfl (by (try simp only [List.map_toArray, List.map_cons, List.map_nil]); first | done | rfl | (simp only [List.length_drop, List.length_take]; rfl)) ?_; (with_reducible refine (sheetpileref08_fits.calls x7_3 t121 true _ A20.out).mono ?_); rintro e w' ⟨rfl, ⟨nd, rfl⟩⟩; refine ⟨_, rfl, ?_⟩) | ((with_reducible refine gate_builtin (b := .append) (xs := #[.tmp 59, .tmp 61]) rfl ?_); (try (refine gate_guard (by rfl) ?_; dsimp only)); at_builtin; refine Kd.R_append (Kd.int .i64) (w0 := w) w.heap.size rfl (.tmp 59) (.tmp 61) 94 3 (.int .i64 0) 8 rfl Try.underlying94 info3 rfl (by decide) (by omega) u4 x4_1 x7_3 [.int .i64 x7_3] (fun _ => True) (fun _ => False) rfl rfl ?aP (fun _ hk => hk.elim) ?aF ?aO ?aB ?aS ?aL ?_; (case aP => exact rfl); (case aB => exact (by repeat (first | (with_reducible first | exact HB.out | apply below_alloc | apply pw_below_drewN | apply below_drew1) | exact HB.out))); (case aF => exact (fun _ _ => trivial)); (case aO => exact (by (with_reducible repeat (first | apply Kd.R_alloc | apply Kd.R_drewN | apply Kd.R_drew)); exact HO_4.out)); (case aS => exact (below_size (by repeat (first | (with_reducible first | exact HB.out | apply below_alloc | apply pw_below_drewN | apply below_drew1) | exact HB.out)))); (case aL => have := LMc22.out; omega); intro v125 w23 ho hb hg hat; rw [← Ny124.out] at ho; have n0_ := Aside0.mk (hb); have n1_ := Aside0.mk (ho); clear HB; clear HO_4; have HB := n0_; have HO126 := n1_; clear n0_ n1_; clear ho hb hg hat))
                              go_roundg k3
                              case measure => have := HK1.out; have := HJ5.out; have := HK3.out; omega
                              case rel => exact ⟨(y124), (wrap64 ((wrap64 (x5_1 + t121)) + 1)), (by first | rfl | (simp; done) | (simp [*]; done) | exact congrArg Value.bool (by cases ByteArray.toList a0 <;> rfl) | exact congrArg Value.bool (by cases ByteArray.toList a1 <;> rfl)), H', ⟨by have := HK1.out; have := HJ5.out; have := HK3.out; omega⟩, ⟨by (with_reducible repeat (first | apply Kd.R_alloc | apply Kd.R_drewN | apply Kd.R_drew)); exact HO126.out⟩, ⟨by repeat (first | (with_reducible first | exact HB.out | apply below_alloc | apply pw_below_drewN | apply below_drew1) | exact HB.out)⟩⟩
                            · rw [if_neg c22] at H
                              exact absurd H (by simp)
                          · replace c21 := Bool.eq_false_iff.mpr c21
                            subst c21
                            have H1 : (some (([] : List Int), false)) = some (r1, r2) := by rw [if_neg (show ¬ (false = true) by decide)] at H; exact H
                            clear H
                            have H := H1
                            clear H1
                            simp only [Option.some.injEq, Prod.mk.injEq] at H
                            obtain ⟨rfl, rfl⟩ := H
                            go_wp2_with (first | ((with_reducible refine gate_callee (f := 71) rfl ?_); refine goesL_ (some 57) rfl rfl Try.func71 (by kernel_rfl) rfl #[.int .i64 x7_3, .int .i64 t121] rfl (by (try simp only [List.map_toArray, List.map_cons, List.map_nil]); first | done | rfl | (simp only [List.length_drop, List.length_take]; rfl)) ?_; (with_reducible refine (sheetpileref08_fits.calls x7_3 t121 false _ A20.out).mono ?_); rintro e w' ⟨rfl, ⟨nd, rfl⟩⟩; refine ⟨_, rfl, ?_⟩))
                            go_ret2
                            exact ⟨_, by first | rfl | (simp [errW_none, errW_some] <;> rfl) | (simp [*, errW_none, errW_some] <;> rfl), by first | exact Kd.R_nil _ _ _ _ _ | exact Kd.N_nil _ _ _ _ _ | exact Kd.V_nil _ _ _ _ _ | exact Kd.Q_nil _ _ _ _ _ | exact Kd.S_nil _ _ _ _ _, by repeat (first | (with_reducible first | exact HB.out | apply below_alloc | apply pw_below_drewN | apply below_drew1) | exact HB.out)⟩
                  · rw [if_neg c10] at H
                    exact absurd H (by simp)
                · rw [if_neg c9] at H
                  exact absurd H (by simp)
        · rw [if_neg c3] at H
          exact absurd H (by simp)
      · rw [if_neg c2] at H
        have c2b0 : decide (x5_1 < (a0.size : Int)) = false := decide_eq_false c2
        clear c2
        simp only [Option.some.injEq, Prod.mk.injEq] at H
        obtain ⟨rfl, rfl⟩ := H
        go_wp2
        go_ret2
        exact ⟨_, by first | rfl | (simp [errW_none, errW_some] <;> rfl) | (simp [*, errW_none, errW_some] <;> rfl), by (with_reducible repeat (first | apply Kd.R_alloc | apply Kd.R_drewN | apply Kd.R_drew)); exact HO_4.out, by repeat (first | (with_reducible first | exact HB.out | apply below_alloc | apply pw_below_drewN | apply below_drew1) | exact HB.out)⟩

end Go.Proofs.Ytcgbjkjacpeheaa.PFr
