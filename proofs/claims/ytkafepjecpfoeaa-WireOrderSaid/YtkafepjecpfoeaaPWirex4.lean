-- Laid by a program of this session (wip/mkprint.py); checked by Lean alone
import Derived.Test.YtkafepjecpfoeaaPWirex0
import Derived.Test.YtkafepjecpfoeaaPWirex1
namespace Go.Proofs.Ytkafepjecpfoeaa.PWire
open Go.Proofs.Ytkafepjecpfoeaa.Given
open Go.RowKit Go.Proofs.YtkafepjecpfoeaaW.PrintWords Go.Proofs.YtkafepjecpfoeaaW.PrintLast Go.Proofs.YtkafepjecpfoeaaW.PrintMore
attribute [local go_sem] max2_int min2_int max_two min_two max_three min_three max_four min_four   -- for this text's walks alone
set_option linter.unusedVariables false
set_option linter.unusedSimpArgs false

/-! ### sheetpilelaw07_WireShort: function 13 -/
mutual
def sheetpilelaw07_WireShort.j0 : Nat → ByteArray → Int → Int → Bool → Option (Bool)
  | 0, _, _, _, _ => none
  | k + 1, x0, x1, x2, x21 => if x21 = true then ((sheetpilelaw07_live.f k).bind fun t184 => (some t184)) else ((wire_Text.f k x0).bind fun bt185 => (if bt185.2 = 0 then (sheetpilelaw07_WireShort.j1 k x1 x2 bt185.1 (decide (x2 ≥ (bt185.1.size : Int)))) else (sheetpilelaw07_WireShort.j1 k x1 x2 bt185.1 true)))
def sheetpilelaw07_WireShort.j1 : Nat → Int → Int → ByteArray → Bool → Option (Bool)
  | 0, _, _, _, _ => none
  | k + 1, x1, x2, x7, x35 => if x35 = true then ((sheetpilelaw07_live.f k).bind fun t187 => (some t187)) else (if 0 ≤ x2 then (if x2 ≤ (x7.size : Int) then ((wire_Take.f (x7.extract 0 (x2 : Int).toNat)).bind fun bt188 => ((wire_Cut.f (x7.extract 0 (x2 : Int).toNat) x1).bind fun bt191 => (if x1 < 1 then (sheetpilelaw07_WireShort.j2 k x1 x2 bt188.2.2 bt191.1 bt191.2.1 bt191.2.2 true) else (sheetpilelaw07_WireShort.j2 k x1 x2 bt188.2.2 bt191.1 bt191.2.1 bt191.2.2 (decide (x1 > 7)))))) else (none)) else (none))
def sheetpilelaw07_WireShort.j2 : Nat → Int → Int → Int → Int → ByteArray → Int → Bool → Option (Bool)
  | 0, _, _, _, _, _, _, _ => none
  | k + 1, x1, x2, x11, x12, x13, x14, x59 => if x59 = true then (if x11 = 4 then (if x14 = 1 then (if x12 = 0 then (if x13.toList = ([] : List UInt8) then ((sheetpilelaw07_live.f k).bind fun t194 => (some t194)) else (some false)) else (some false)) else (some false)) else (some false)) else (if x11 = 4 then (if ((x14 == 0) == (decide (x2 ≥ x1))) = true then (if (x13.size : Int) = (mx (wrap64 (x2 - x1)) 0) then ((sheetpilelaw07_live.f k).bind fun t195 => (some t195)) else (some false)) else (some false)) else (some false))
end
def sheetpilelaw07_WireShort.f (k : Nat) (a0 : ByteArray) (a1 : Int) (a2 : Int) : Option (Bool) := if (a0.size : Int) > 1000 then (sheetpilelaw07_WireShort.j0 k a0 a1 a2 true) else (sheetpilelaw07_WireShort.j0 k a0 a1 a2 (decide (a2 < 0)))
theorem sheetpilelaw07_WireShort.mono_l : ∀ k, (∀ y0 y1 y2 y3, LeO (sheetpilelaw07_WireShort.j0 k y0 y1 y2 y3) (sheetpilelaw07_WireShort.j0 (k + 1) y0 y1 y2 y3)) ∧ (∀ y0 y1 y2 y3, LeO (sheetpilelaw07_WireShort.j1 k y0 y1 y2 y3) (sheetpilelaw07_WireShort.j1 (k + 1) y0 y1 y2 y3)) ∧ (∀ y0 y1 y2 y3 y4 y5 y6, LeO (sheetpilelaw07_WireShort.j2 k y0 y1 y2 y3 y4 y5 y6) (sheetpilelaw07_WireShort.j2 (k + 1) y0 y1 y2 y3 y4 y5 y6))
  | 0 => ⟨fun _ _ _ _ r h => by simp [sheetpilelaw07_WireShort.j0] at h, fun _ _ _ _ r h => by simp [sheetpilelaw07_WireShort.j1] at h, fun _ _ _ _ _ _ _ r h => by simp [sheetpilelaw07_WireShort.j2] at h⟩
  | k + 1 => by
    obtain ⟨ih0, ih1, ih2⟩ := sheetpilelaw07_WireShort.mono_l k
    refine ⟨?_, ?_, ?_⟩
    · intro y0 y1 y2 y3
      unfold sheetpilelaw07_WireShort.j0
      repeat' first
      | (with_reducible exact ih0 _ _ _ _)
      | (with_reducible exact ih1 _ _ _ _)
      | (with_reducible exact ih2 _ _ _ _ _ _ _)
      | (with_reducible exact sheetpilelaw07_live.mono _)
      | (with_reducible exact wire_Text.mono _ _)
      | (with_reducible exact LeO.refl _)
      | (with_reducible exact LeO.none _)
      | (with_reducible refine LeO.ite ?_ ?_)
      | (with_reducible refine LeO.bind ?_ (fun _ => ?_))
      | exact ih0 _ _ _ _
      | exact ih1 _ _ _ _
      | exact ih2 _ _ _ _ _ _ _
      | exact sheetpilelaw07_live.mono _
      | exact wire_Text.mono _ _
      | exact LeO.none _
      | refine LeO.ite ?_ ?_
      | refine LeO.bind ?_ (fun _ => ?_)
    · intro y0 y1 y2 y3
      unfold sheetpilelaw07_WireShort.j1
      repeat' first
      | (with_reducible exact ih0 _ _ _ _)
      | (with_reducible exact ih1 _ _ _ _)
      | (with_reducible exact ih2 _ _ _ _ _ _ _)
      | (with_reducible exact sheetpilelaw07_live.mono _)
      | (with_reducible exact wire_Text.mono _ _)
      | (with_reducible exact LeO.refl _)
      | (with_reducible exact LeO.none _)
      | (with_reducible refine LeO.ite ?_ ?_)
      | (with_reducible refine LeO.bind ?_ (fun _ => ?_))
      | exact ih0 _ _ _ _
      | exact ih1 _ _ _ _
      | exact ih2 _ _ _ _ _ _ _
      | exact sheetpilelaw07_live.mono _
      | exact wire_Text.mono _ _
      | exact LeO.none _
      | refine LeO.ite ?_ ?_
      | refine LeO.bind ?_ (fun _ => ?_)
    · intro y0 y1 y2 y3 y4 y5 y6
      unfold sheetpilelaw07_WireShort.j2
      repeat' first
      | (with_reducible exact ih0 _ _ _ _)
      | (with_reducible exact ih1 _ _ _ _)
      | (with_reducible exact ih2 _ _ _ _ _ _ _)
      | (with_reducible exact sheetpilelaw07_live.mono _)
      | (with_reducible exact wire_Text.mono _ _)
      | (with_reducible exact LeO.refl _)
      | (with_reducible exact LeO.none _)
      | (with_reducible refine LeO.ite ?_ ?_)
      | (with_reducible refine LeO.bind ?_ (fun _ => ?_))
      | exact ih0 _ _ _ _
      | exact ih1 _ _ _ _
      | exact ih2 _ _ _ _ _ _ _
      | exact sheetpilelaw07_live.mono _
      | exact wire_Text.mono _ _
      | exact LeO.none _
      | refine LeO.ite ?_ ?_
      | refine LeO.bind ?_ (fun _ => ?_)
theorem sheetpilelaw07_WireShort.mono : ∀ a0 a1 a2 k, LeO (sheetpilelaw07_WireShort.f k a0 a1 a2) (sheetpilelaw07_WireShort.f (k + 1) a0 a1 a2) := by
  intro a0 a1 a2 k
  obtain ⟨ih0, ih1, ih2⟩ := sheetpilelaw07_WireShort.mono_l k
  unfold sheetpilelaw07_WireShort.f
  repeat' first
      | (with_reducible exact ih0 _ _ _ _)
      | (with_reducible exact ih1 _ _ _ _)
      | (with_reducible exact ih2 _ _ _ _ _ _ _)
      | (with_reducible exact sheetpilelaw07_live.mono _)
      | (with_reducible exact wire_Text.mono _ _)
      | (with_reducible exact LeO.refl _)
      | (with_reducible exact LeO.none _)
      | (with_reducible refine LeO.ite ?_ ?_)
      | (with_reducible refine LeO.bind ?_ (fun _ => ?_))
      | exact ih0 _ _ _ _
      | exact ih1 _ _ _ _
      | exact ih2 _ _ _ _ _ _ _
      | exact sheetpilelaw07_live.mono _
      | exact wire_Text.mono _ _
      | exact LeO.none _
      | refine LeO.ite ?_ ?_
      | refine LeO.bind ?_ (fun _ => ?_)
set_option maxHeartbeats 8000000 in
set_option maxRecDepth 100000 in
theorem sheetpilelaw07_WireShort.calls (k : Nat) (a0 : ByteArray) (a1 : Int) (a2 : Int) (r : Bool) (w : World) (h : sheetpilelaw07_WireShort.f k a0 a1 a2 = some r) :
    Calls Try.prog 13 #[.string a0, .int .i64 a1, .int .i64 a2] w fun e w' => e = .returned (.bool r) ∧ Below w.heap.size w w' := by
  have HB := Aside0.mk (Below.refl w.heap.size w)
  have H : (if (a0.size : Int) > 1000 then (sheetpilelaw07_WireShort.j0 k a0 a1 a2 true) else (sheetpilelaw07_WireShort.j0 k a0 a1 a2 (decide (a2 < 0)))) = some r := h
  clear h
  have HC4 := Aside0.mk H
  clear H
  go_enter Try.func13, Try.ntmps13
  go_upto_region 1 with (fail)
  go_cut [21] (fun v21 wc => ∃ (kq : Nat) (x21_3 : Bool), v21 = .bool x21_3 ∧ Aside0 (sheetpilelaw07_WireShort.j0 kq a0 a1 a2 x21_3 = some r) ∧ Aside0 (kq ≤ k) ∧ Aside0 (Below w.heap.size w wc))
  case first =>
    have H := HC4.out
    clear HC4
    by_cases c5 : (a0.size : Int) > 1000
    · rw [if_pos c5] at H
      have c5b0 : decide (1000 < (a0.size : Int)) = true := decide_eq_true c5
      have c5b1 : decide (1000 < a0.size) = true := decide_eq_true (by omega)
      clear c5
      (first | rw [c5b0] | (simp only [i64_w, i32_w]; rw [c5b0]) | skip)
      have H' := Aside0.mk H
      clear H
      go_wp2
      go_meet
      case rel => exact ⟨_, (true), (by first | rfl | (simp; done) | (simp [*]; done)), H', ⟨by first | omega | exact Nat.le_refl _⟩, ⟨by repeat (first | (with_reducible first | exact HB.out | apply below_alloc | apply pw_below_drewN | apply below_drew1) | exact HB.out)⟩⟩
    · rw [if_neg c5] at H
      have c5b0 : decide (1000 < (a0.size : Int)) = false := decide_eq_false c5
      have c5b1 : decide (1000 < a0.size) = false := decide_eq_false (by omega)
      clear c5
      (first | rw [c5b0] | (simp only [i64_w, i32_w]; rw [c5b0]) | skip)
      have H' := Aside0.mk H
      clear H
      go_wp2
      go_meet
      case rel => exact ⟨_, (decide (a2 < 0)), (by first | rfl | (simp; done) | (simp [*]; done)), H', ⟨by first | omega | exact Nat.le_refl _⟩, ⟨by repeat (first | (with_reducible first | exact HB.out | apply below_alloc | apply pw_below_drewN | apply below_drew1) | exact HB.out)⟩⟩
  case rest =>
    clear HC4
    try clear c1
    try clear p2
    try clear c5
    try clear c5b0
    try clear c5b1
    obtain ⟨kq, x21_3, rfl, HA, HJ3, HB⟩ := hcut
    cases kq with
    | zero => exact absurd HA.out (by simp [sheetpilelaw07_WireShort.j0])
    | succ kj3 =>
      have H := HA.out
      clear HA
      simp only [sheetpilelaw07_WireShort.j0] at H
      by_cases c6 : x21_3 = true
      · subst c6
        have H1 : ((sheetpilelaw07_live.f kj3).bind fun t184 => (some t184)) = some r := by rw [if_pos rfl] at H; exact H
        clear H
        have H := H1
        clear H1
        replace H := Option.bind_eq_some_iff.mp H
        obtain ⟨t184, A70, H⟩ := H
        replace H : (some t184) = some r := H
        have A7 := Aside0.mk A70
        clear A70
        obtain rfl := Option.some.inj H
        go_wp2_with (first | ((with_reducible refine gate_callee (f := 20) rfl ?_); refine goesL_ (some 22) rfl rfl Try.func20 (by kernel_rfl) rfl #[] rfl (by (try simp only [List.map_toArray, List.map_cons, List.map_nil]); first | done | rfl | (simp only [List.length_drop, List.length_take]; rfl)) ?_; (with_reducible refine (sheetpilelaw07_live.calls kj3  t184 _ A7.out).mono ?_); rintro e w8 ⟨rfl, hb⟩; refine ⟨_, rfl, ?_⟩; have n0_ := Aside0.mk (below_step (by repeat (first | (with_reducible first | exact HB.out | apply below_alloc | apply pw_below_drewN | apply below_drew1) | exact HB.out)) hb); clear HB; have HB := n0_; clear n0_; (try clear hb); (try clear hb2); (try clear hk); (try clear hi)))
        go_ret
        exact ⟨by first | rfl | (simp [errW_none, errW_some] <;> rfl) | (simp [*, errW_none, errW_some] <;> rfl), by repeat (first | (with_reducible first | exact HB.out | apply below_alloc | apply pw_below_drewN | apply below_drew1) | exact HB.out)⟩
      · replace c6 := Bool.eq_false_iff.mpr c6
        subst c6
        have H1 : ((wire_Text.f kj3 a0).bind fun bt185 => (if bt185.2 = 0 then (sheetpilelaw07_WireShort.j1 kj3 a1 a2 bt185.1 (decide (a2 ≥ (bt185.1.size : Int)))) else (sheetpilelaw07_WireShort.j1 kj3 a1 a2 bt185.1 true))) = some r := by rw [if_neg (show ¬ (false = true) by decide)] at H; exact H
        clear H
        have H := H1
        clear H1
        replace H := Option.bind_eq_some_iff.mp H
        obtain ⟨⟨t185, t186⟩, A90, H⟩ := H
        replace H : (if t186 = 0 then (sheetpilelaw07_WireShort.j1 kj3 a1 a2 t185 (decide (a2 ≥ (t185.size : Int)))) else (sheetpilelaw07_WireShort.j1 kj3 a1 a2 t185 true)) = some r := H
        have A9 := Aside0.mk A90
        clear A90
        have HC10 := Aside0.mk H
        clear H
        go_upto_region 4 with (first | ((with_reducible refine gate_callee (f := 25) rfl ?_); refine goesL_ (some 25) rfl rfl Try.func25 (by kernel_rfl) rfl #[.string a0] rfl (by (try simp only [List.map_toArray, List.map_cons, List.map_nil]); first | done | rfl | (simp only [List.length_drop, List.length_take]; rfl)) ?_; (with_reducible refine (wire_Text.calls kj3 a0 t185 t186 _ A9.out).mono ?_); rintro e w11 ⟨rfl, hb⟩; refine ⟨_, rfl, ?_⟩; have n0_ := Aside0.mk (below_step (by repeat (first | (with_reducible first | exact HB.out | apply below_alloc | apply pw_below_drewN | apply below_drew1) | exact HB.out)) hb); clear HB; have HB := n0_; clear n0_; (try clear hb); (try clear hb2); (try clear hk); (try clear hi)))
        (try simp only [Act.put, List.setIfInBounds_toArray, List.set_cons_zero, List.set_cons_succ])
        go_cut [35] (fun v35 wc => ∃ (kq : Nat) (x35_9 : Bool), v35 = .bool x35_9 ∧ Aside0 (sheetpilelaw07_WireShort.j1 kq a1 a2 t185 x35_9 = some r) ∧ Aside0 (kq ≤ kj3) ∧ Aside0 (Below w.heap.size w wc))
        case first =>
          have H := HC10.out
          clear HC10
          by_cases c12 : t186 = 0
          · rw [if_pos c12] at H
            have c12b0 : (t186 == 0) = true := beq_iff_eq.mpr c12
            have c12b1 : (t186 != 0) = false := bne_eq_false_iff_eq.mpr c12
            clear c12
            (first | rw [c12b0] | (simp only [i64_w, i32_w]; rw [c12b0]) | skip)
            have H' := Aside0.mk H
            clear H
            go_wp2
            go_meet
            case rel => exact ⟨_, (decide (a2 ≥ (t185.size : Int))), (by first | rfl | (simp; done) | (simp [*]; done)), H', ⟨by have := HJ3.out; first | omega | exact Nat.le_refl _⟩, ⟨by repeat (first | (with_reducible first | exact HB.out | apply below_alloc | apply pw_below_drewN | apply below_drew1) | exact HB.out)⟩⟩
          · rw [if_neg c12] at H
            have c12b0 : (t186 == 0) = false := beq_eq_false_iff_ne.mpr c12
            have c12b1 : (t186 != 0) = true := bne_iff_ne.mpr c12
            (first | rw [c12b0] | (simp only [i64_w, i32_w]; rw [c12b0]) | skip)
            have H' := Aside0.mk H
            clear H
            go_wp2
            go_meet
            case rel => exact ⟨_, (true), (by first | rfl | (simp; done) | (simp [*]; done)), H', ⟨by have := HJ3.out; first | omega | exact Nat.le_refl _⟩, ⟨by repeat (first | (with_reducible first | exact HB.out | apply below_alloc | apply pw_below_drewN | apply below_drew1) | exact HB.out)⟩⟩
        case rest =>
          clear HC10
          try clear c1
          try clear c2
          try clear p2
          try clear c5
          try clear c5b0
          try clear c5b1
          try clear c6
          try clear c12
          try clear c12b0
          try clear c12b1
          try clear p2
          obtain ⟨kq, x35_9, rfl, HA, HJ9, HB⟩ := hcut
          cases kq with
          | zero => exact absurd HA.out (by simp [sheetpilelaw07_WireShort.j1])
          | succ kj9 =>
            have H := HA.out
            clear HA
            simp only [sheetpilelaw07_WireShort.j1] at H
            by_cases c13 : x35_9 = true
            · subst c13
              have H1 : ((sheetpilelaw07_live.f kj9).bind fun t187 => (some t187)) = some r := by rw [if_pos rfl] at H; exact H
              clear H
              have H := H1
              clear H1
              replace H := Option.bind_eq_some_iff.mp H
              obtain ⟨t187, A140, H⟩ := H
              replace H : (some t187) = some r := H
              have A14 := Aside0.mk A140
              clear A140
              obtain rfl := Option.some.inj H
              go_wp2_with (first | ((with_reducible refine gate_callee (f := 20) rfl ?_); refine goesL_ (some 36) rfl rfl Try.func20 (by kernel_rfl) rfl #[] rfl (by (try simp only [List.map_toArray, List.map_cons, List.map_nil]); first | done | rfl | (simp only [List.length_drop, List.length_take]; rfl)) ?_; (with_reducible refine (sheetpilelaw07_live.calls kj9  t187 _ A14.out).mono ?_); rintro e w15 ⟨rfl, hb⟩; refine ⟨_, rfl, ?_⟩; have n0_ := Aside0.mk (below_step (by repeat (first | (with_reducible first | exact HB.out | apply below_alloc | apply pw_below_drewN | apply below_drew1) | exact HB.out)) hb); clear HB; have HB := n0_; clear n0_; (try clear hb); (try clear hb2); (try clear hk); (try clear hi)))
              go_ret
              exact ⟨by first | rfl | (simp [errW_none, errW_some] <;> rfl) | (simp [*, errW_none, errW_some] <;> rfl), by repeat (first | (with_reducible first | exact HB.out | apply below_alloc | apply pw_below_drewN | apply below_drew1) | exact HB.out)⟩
            · replace c13 := Bool.eq_false_iff.mpr c13
              subst c13
              have H1 : (if 0 ≤ a2 then (if a2 ≤ (t185.size : Int) then ((wire_Take.f (t185.extract 0 (a2 : Int).toNat)).bind fun bt188 => ((wire_Cut.f (t185.extract 0 (a2 : Int).toNat) a1).bind fun bt191 => (if a1 < 1 then (sheetpilelaw07_WireShort.j2 kj9 a1 a2 bt188.2.2 bt191.1 bt191.2.1 bt191.2.2 true) else (sheetpilelaw07_WireShort.j2 kj9 a1 a2 bt188.2.2 bt191.1 bt191.2.1 bt191.2.2 (decide (a1 > 7)))))) else (none)) else (none)) = some r := by rw [if_neg (show ¬ (false = true) by decide)] at H; exact H
              clear H
              have H := H1
              clear H1
              by_cases c16 : 0 ≤ a2
              · rw [if_pos c16] at H
                have c16b0 := eq_true c16
                have c16b1 : decide (0 ≤ a2) = true := decide_eq_true c16
                clear c16
                by_cases c17 : a2 ≤ (t185.size : Int)
                · rw [if_pos c17] at H
                  have c17b0 := eq_true c17
                  have c17b1 : decide (a2 ≤ (t185.size : Int)) = true := decide_eq_true c17
                  clear c17
                  replace H := Option.bind_eq_some_iff.mp H
                  obtain ⟨⟨t188, t189, t190⟩, A180, H⟩ := H
                  replace H : ((wire_Cut.f (t185.extract 0 (a2 : Int).toNat) a1).bind fun bt191 => (if a1 < 1 then (sheetpilelaw07_WireShort.j2 kj9 a1 a2 t190 bt191.1 bt191.2.1 bt191.2.2 true) else (sheetpilelaw07_WireShort.j2 kj9 a1 a2 t190 bt191.1 bt191.2.1 bt191.2.2 (decide (a1 > 7))))) = some r := H
                  have A18 := Aside0.mk A180
                  clear A180
                  have c19b0 := eq_true (of_decide_eq_true (by first | (with_reducible assumption) | assumption) : 0 ≤ a2)
                  have c20b0 := eq_true (of_decide_eq_true (by first | (with_reducible assumption) | assumption) : a2 ≤ (t185.size : Int))
                  replace H := Option.bind_eq_some_iff.mp H
                  obtain ⟨⟨t191, t192, t193⟩, A210, H⟩ := H
                  replace H : (if a1 < 1 then (sheetpilelaw07_WireShort.j2 kj9 a1 a2 t190 t191 t192 t193 true) else (sheetpilelaw07_WireShort.j2 kj9 a1 a2 t190 t191 t192 t193 (decide (a1 > 7)))) = some r := H
                  have A21 := Aside0.mk A210
                  clear A210
                  have HC22 := Aside0.mk H
                  clear H
                  go_upto_region 8 with (first | ((with_reducible refine gate_callee (f := 27) rfl ?_); refine goesL_ (some 41) rfl rfl Try.func27 (by kernel_rfl) rfl #[.string (t185.extract 0 (a2 : Int).toNat)] rfl (by (try simp only [List.map_toArray, List.map_cons, List.map_nil]); first | done | rfl | (simp only [List.length_drop, List.length_take]; rfl)) ?_; (with_reducible refine (wire_Take.calls (t185.extract 0 (a2 : Int).toNat) t188 t189 t190 _ A18.out).mono ?_); rintro e w23 ⟨rfl, hb⟩; refine ⟨_, rfl, ?_⟩; have n0_ := Aside0.mk (below_step (by repeat (first | (with_reducible first | exact HB.out | apply below_alloc | apply pw_below_drewN | apply below_drew1) | exact HB.out)) hb); clear HB; have HB := n0_; clear n0_; (try clear hb); (try clear hb2); (try clear hk); (try clear hi)) | ((with_reducible refine gate_callee (f := 23) rfl ?_); refine goesL_ (some 50) rfl rfl Try.func23 (by kernel_rfl) rfl #[.string (t185.extract 0 (a2 : Int).toNat), .int .i64 a1] rfl (by (try simp only [List.map_toArray, List.map_cons, List.map_nil]); first | done | rfl | (simp only [List.length_drop, List.length_take]; rfl)) ?_; (with_reducible refine (wire_Cut.calls (t185.extract 0 (a2 : Int).toNat) a1 t191 t192 t193 _ A21.out).mono ?_); rintro e w24 ⟨rfl, hb⟩; refine ⟨_, rfl, ?_⟩; have n0_ := Aside0.mk (below_step (by repeat (first | (with_reducible first | exact HB.out | apply below_alloc | apply pw_below_drewN | apply below_drew1) | exact HB.out)) hb); clear HB; have HB := n0_; clear n0_; (try clear hb); (try clear hb2); (try clear hk); (try clear hi)))
                  (try simp only [Act.put, List.setIfInBounds_toArray, List.set_cons_zero, List.set_cons_succ])
                  go_cut [59] (fun v59 wc => ∃ (kq : Nat) (x59_21 : Bool), v59 = .bool x59_21 ∧ Aside0 (sheetpilelaw07_WireShort.j2 kq a1 a2 t190 t191 t192 t193 x59_21 = some r) ∧ Aside0 (kq ≤ kj9) ∧ Aside0 (Below w.heap.size w wc))
                  case first =>
                    have H := HC22.out
                    clear HC22
                    by_cases c25 : a1 < 1
                    · rw [if_pos c25] at H
                      have c25b0 : decide (a1 < 1) = true := decide_eq_true c25
                      clear c25
                      (first | rw [c25b0] | (simp only [i64_w, i32_w]; rw [c25b0]) | skip)
                      have H' := Aside0.mk H
                      clear H
                      go_wp2
                      go_meet
                      case rel => exact ⟨_, (true), (by first | rfl | (simp; done) | (simp [*]; done)), H', ⟨by have := HJ3.out; have := HJ9.out; first | omega | exact Nat.le_refl _⟩, ⟨by repeat (first | (with_reducible first | exact HB.out | apply below_alloc | apply pw_below_drewN | apply below_drew1) | exact HB.out)⟩⟩
                    · rw [if_neg c25] at H
                      have c25b0 : decide (a1 < 1) = false := decide_eq_false c25
                      clear c25
                      (first | rw [c25b0] | (simp only [i64_w, i32_w]; rw [c25b0]) | skip)
                      have H' := Aside0.mk H
                      clear H
                      go_wp2
                      go_meet
                      case rel => exact ⟨_, (decide (a1 > 7)), (by first | rfl | (simp; done) | (simp [*]; done)), H', ⟨by have := HJ3.out; have := HJ9.out; first | omega | exact Nat.le_refl _⟩, ⟨by repeat (first | (with_reducible first | exact HB.out | apply below_alloc | apply pw_below_drewN | apply below_drew1) | exact HB.out)⟩⟩
                  case rest =>
                    clear HC22
                    try clear c1
                    try clear c2
                    try clear p2
                    try clear c5
                    try clear c5b0
                    try clear c5b1
                    try clear c6
                    try clear c12
                    try clear c12b0
                    try clear c12b1
                    try clear c13
                    try clear c16
                    try clear c16b0
                    try clear c16b1
                    try clear c17
                    try clear c17b0
                    try clear c17b1
                    try clear c19
                    try clear c19b0
                    try clear c20
                    try clear c20b0
                    try clear c23
                    try clear c25
                    try clear c25b0
                    try clear p2
                    obtain ⟨kq, x59_21, rfl, HA, HJ21, HB⟩ := hcut
                    cases kq with
                    | zero => exact absurd HA.out (by simp [sheetpilelaw07_WireShort.j2])
                    | succ kj21 =>
                      have H := HA.out
                      clear HA
                      simp only [sheetpilelaw07_WireShort.j2] at H
                      by_cases c26 : x59_21 = true
                      · subst c26
                        have H1 : (if t190 = 4 then (if t193 = 1 then (if t191 = 0 then (if t192.toList = ([] : List UInt8) then ((sheetpilelaw07_live.f kj21).bind fun t194 => (some t194)) else (some false)) else (some false)) else (some false)) else (some false)) = some r := by rw [if_pos rfl] at H; exact H
                        clear H
                        have H := H1
                        clear H1
                        by_cases c27 : t190 = 4
                        · rw [if_pos c27] at H
                          have c27b0 : (t190 == 4) = true := beq_iff_eq.mpr c27
                          have c27b1 : (t190 != 4) = false := bne_eq_false_iff_eq.mpr c27
                          clear c27
                          by_cases c28 : t193 = 1
                          · rw [if_pos c28] at H
                            have c28b0 : (t193 == 1) = true := beq_iff_eq.mpr c28
                            have c28b1 : (t193 != 1) = false := bne_eq_false_iff_eq.mpr c28
                            clear c28
                            by_cases c29 : t191 = 0
                            · rw [if_pos c29] at H
                              have c29b0 : (t191 == 0) = true := beq_iff_eq.mpr c29
                              have c29b1 : (t191 != 0) = false := bne_eq_false_iff_eq.mpr c29
                              clear c29
                              by_cases c30 : t192.toList = ([] : List UInt8)
                              · rw [if_pos c30] at H
                                have c30b0 : (t192.toList == ([] : List UInt8)) = true := beq_iff_eq.mpr c30
                                have c30b1 : (t192.toList != ([] : List UInt8)) = false := bne_eq_false_iff_eq.mpr c30
                                clear c30
                                replace H := Option.bind_eq_some_iff.mp H
                                obtain ⟨t194, A310, H⟩ := H
                                replace H : (some t194) = some r := H
                                have A31 := Aside0.mk A310
                                clear A310
                                obtain rfl := Option.some.inj H
                                go_wp2_with (first | (go_at_call 20; (with_reducible refine (sheetpilelaw07_live.calls kj21  t194 _ A31.out).mono ?_); rintro e w32 ⟨rfl, hb⟩; have n0_ := Aside0.mk (below_step (by repeat (first | (with_reducible first | exact HB.out | apply below_alloc | apply pw_below_drewN | apply below_drew1) | exact HB.out)) hb); clear HB; have HB := n0_; clear n0_; (try clear hb); (try clear hb2); (try clear hk); (try clear hi)))
                                go_ret
                                exact ⟨by first | rfl | (simp [errW_none, errW_some] <;> rfl) | (simp [*, errW_none, errW_some] <;> rfl), by repeat (first | (with_reducible first | exact HB.out | apply below_alloc | apply pw_below_drewN | apply below_drew1) | exact HB.out)⟩
                              · rw [if_neg c30] at H
                                have c30b0 : (t192.toList == ([] : List UInt8)) = false := beq_eq_false_iff_ne.mpr c30
                                have c30b1 : (t192.toList != ([] : List UInt8)) = true := bne_iff_ne.mpr c30
                                obtain rfl := Option.some.inj H
                                go_wp2
                                go_ret
                                exact ⟨by first | rfl | (simp [errW_none, errW_some] <;> rfl) | (simp [*, errW_none, errW_some] <;> rfl), by repeat (first | (with_reducible first | exact HB.out | apply below_alloc | apply pw_below_drewN | apply below_drew1) | exact HB.out)⟩
                            · rw [if_neg c29] at H
                              have c29b0 : (t191 == 0) = false := beq_eq_false_iff_ne.mpr c29
                              have c29b1 : (t191 != 0) = true := bne_iff_ne.mpr c29
                              obtain rfl := Option.some.inj H
                              go_wp2
                              go_ret
                              exact ⟨by first | rfl | (simp [errW_none, errW_some] <;> rfl) | (simp [*, errW_none, errW_some] <;> rfl), by repeat (first | (with_reducible first | exact HB.out | apply below_alloc | apply pw_below_drewN | apply below_drew1) | exact HB.out)⟩
                          · rw [if_neg c28] at H
                            have c28b0 : (t193 == 1) = false := beq_eq_false_iff_ne.mpr c28
                            have c28b1 : (t193 != 1) = true := bne_iff_ne.mpr c28
                            obtain rfl := Option.some.inj H
                            go_wp2
                            go_ret
                            exact ⟨by first | rfl | (simp [errW_none, errW_some] <;> rfl) | (simp [*, errW_none, errW_some] <;> rfl), by repeat (first | (with_reducible first | exact HB.out | apply below_alloc | apply pw_below_drewN | apply below_drew1) | exact HB.out)⟩
                        · rw [if_neg c27] at H
                          have c27b0 : (t190 == 4) = false := beq_eq_false_iff_ne.mpr c27
                          have c27b1 : (t190 != 4) = true := bne_iff_ne.mpr c27
                          obtain rfl := Option.some.inj H
                          go_wp2
                          go_ret
                          exact ⟨by first | rfl | (simp [errW_none, errW_some] <;> rfl) | (simp [*, errW_none, errW_some] <;> rfl), by repeat (first | (with_reducible first | exact HB.out | apply below_alloc | apply pw_below_drewN | apply below_drew1) | exact HB.out)⟩
                      · replace c26 := Bool.eq_false_iff.mpr c26
                        subst c26
                        have H1 : (if t190 = 4 then (if ((t193 == 0) == (decide (a2 ≥ a1))) = true then (if (t192.size : Int) = (mx (wrap64 (a2 - a1)) 0) then ((sheetpilelaw07_live.f kj21).bind fun t195 => (some t195)) else (some false)) else (some false)) else (some false)) = some r := by rw [if_neg (show ¬ (false = true) by decide)] at H; exact H
                        clear H
                        have H := H1
                        clear H1
                        by_cases c33 : t190 = 4
                        · rw [if_pos c33] at H
                          have c33b0 : (t190 == 4) = true := beq_iff_eq.mpr c33
                          have c33b1 : (t190 != 4) = false := bne_eq_false_iff_eq.mpr c33
                          clear c33
                          by_cases c34 : ((t193 == 0) == (decide (a2 ≥ a1))) = true
                          · rw [if_pos c34] at H
                            have c34b0 : ((t193 == 0) == (decide (a2 ≥ a1))) = true := c34
                            (try (have c34b1 : decide ((t193 == 0) = (decide (a2 ≥ a1))) = true := by simpa using c34))
                            (try (have c34b2 : ((t193 == 0) == (decide (a2 ≥ a1))) = true := by simpa using c34))
                            clear c34
                            obtain ⟨ji35, hji35⟩ : ∃ j_ : Int, (mx (wrap64 (a2 - a1)) 0) = j_ := ⟨_, rfl⟩
                            replace H : (if (t192.size : Int) = (ji35) then ((sheetpilelaw07_live.f kj21).bind fun t195 => (some t195)) else (some false)) = some r := by first | (rw [hji35] at H; exact H) | (simp only [hji35] at H ⊢; exact H)
                            have hji35_ : (if (wrap64 (a2 - a1)) < 0 then 0 else (wrap64 (a2 - a1))) = ji35 := hji35
                            by_cases c36 : (t192.size : Int) = (ji35)
                            · rw [if_pos c36] at H
                              have c36b0 : ((t192.size : Int) == (ji35)) = true := beq_iff_eq.mpr c36
                              have c36b1 : ((t192.size : Int) != (ji35)) = false := bne_eq_false_iff_eq.mpr c36
                              clear c36
                              replace H := Option.bind_eq_some_iff.mp H
                              obtain ⟨t195, A370, H⟩ := H
                              replace H : (some t195) = some r := H
                              have A37 := Aside0.mk A370
                              clear A370
                              obtain rfl := Option.some.inj H
                              go_wp2_with (first | (go_at_call 20; (with_reducible refine (sheetpilelaw07_live.calls kj21  t195 _ A37.out).mono ?_); rintro e w38 ⟨rfl, hb⟩; have n0_ := Aside0.mk (below_step (by repeat (first | (with_reducible first | exact HB.out | apply below_alloc | apply pw_below_drewN | apply below_drew1) | exact HB.out)) hb); clear HB; have HB := n0_; clear n0_; (try clear hb); (try clear hb2); (try clear hk); (try clear hi)))
                              go_ret
                              exact ⟨by first | rfl | (simp [errW_none, errW_some] <;> rfl) | (simp only [← hji35]; first | rfl | (simp [errW_none, errW_some] <;> rfl)) | (simp [*, errW_none, errW_some] <;> rfl), by repeat (first | (with_reducible first | exact HB.out | apply below_alloc | apply pw_below_drewN | apply below_drew1) | exact HB.out)⟩
                            · rw [if_neg c36] at H
                              have c36b0 : ((t192.size : Int) == (ji35)) = false := beq_eq_false_iff_ne.mpr c36
                              have c36b1 : ((t192.size : Int) != (ji35)) = true := bne_iff_ne.mpr c36
                              obtain rfl := Option.some.inj H
                              go_wp2
                              go_ret
                              exact ⟨by first | rfl | (simp [errW_none, errW_some] <;> rfl) | (simp only [← hji35]; first | rfl | (simp [errW_none, errW_some] <;> rfl)) | (simp [*, errW_none, errW_some] <;> rfl), by repeat (first | (with_reducible first | exact HB.out | apply below_alloc | apply pw_below_drewN | apply below_drew1) | exact HB.out)⟩
                          · rw [if_neg c34] at H
                            have c34b0 : ((t193 == 0) == (decide (a2 ≥ a1))) = false := by simpa using c34
                            (try (have c34b1 : decide ((t193 == 0) = (decide (a2 ≥ a1))) = false := by simpa using c34))
                            (try (have c34b2 : ((t193 == 0) == (decide (a2 ≥ a1))) = false := by simpa using c34))
                            (try (have c34b3 : ¬ ((t193 == 0) = (decide (a2 ≥ a1))) := by simpa using c34))
                            clear c34
                            obtain rfl := Option.some.inj H
                            go_wp2
                            go_ret
                            exact ⟨by first | rfl | (simp [errW_none, errW_some] <;> rfl) | (simp [*, errW_none, errW_some] <;> rfl), by repeat (first | (with_reducible first | exact HB.out | apply below_alloc | apply pw_below_drewN | apply below_drew1) | exact HB.out)⟩
                        · rw [if_neg c33] at H
                          have c33b0 : (t190 == 4) = false := beq_eq_false_iff_ne.mpr c33
                          have c33b1 : (t190 != 4) = true := bne_iff_ne.mpr c33
                          obtain rfl := Option.some.inj H
                          go_wp2
                          go_ret
                          exact ⟨by first | rfl | (simp [errW_none, errW_some] <;> rfl) | (simp [*, errW_none, errW_some] <;> rfl), by repeat (first | (with_reducible first | exact HB.out | apply below_alloc | apply pw_below_drewN | apply below_drew1) | exact HB.out)⟩
                · rw [if_neg c17] at H
                  exact absurd H (by simp)
              · rw [if_neg c16] at H
                exact absurd H (by simp)

/-- THE ONE PURE STATEMENT of sheetpilelaw07_WireShort: yours. -/
def sheetpilelaw07_WireShort.Pure : Prop := ∀ (a0 : ByteArray) (a1 : Int) (a2 : Int), a0.size ≤ 140737488351232 → (Lit.int .i64 a1).wf = true → (Lit.int .i64 a2).wf = true → ∃ k, sheetpilelaw07_WireShort.f k a0 a1 a2 = some true
theorem sheetpilelaw07_WireShort.walk (P : sheetpilelaw07_WireShort.Pure) (a0 : ByteArray) (a1 : Int) (a2 : Int) (w : World) (w0 : a0.size ≤ 140737488351232) (w1 : (Lit.int .i64 a1).wf = true) (w2 : (Lit.int .i64 a2).wf = true) :
    Calls Try.prog 13 #[.string a0, .int .i64 a1, .int .i64 a2] w fun e w' => e = .returned (.bool true) ∧ Below w.heap.size w w' := by
  obtain ⟨k, h⟩ := P a0 a1 a2 w0 w1 w2
  refine (sheetpilelaw07_WireShort.calls k a0 a1 a2 true w h).mono ?_
  rintro e w' ⟨rfl, hd⟩
  exact ⟨rfl, hd⟩

/-! ### sheetpilelaw07_WireOrder: function 14 -/
def sheetpilelaw07_WireOrder.j0 : Nat → Int → Int → ByteArray → ByteArray → Bool → Option (Bool)
  | 0, _, _, _, _, _ => none
  | k + 1, x0, x1, x7, x9, x28 => if x28 = true then ((sheetpilelaw07_live.f k).bind fun t200 => (some t200)) else (if ((x7.toList == x9.toList) == (x0 == x1)) = true then (if (x7.size : Int) = (x9.size : Int) then ((sheetpilelaw07_live.f k).bind fun t201 => (some t201)) else (some false)) else (some false))
def sheetpilelaw07_WireOrder.f (k : Nat) (a0 : Int) (a1 : Int) (a2 : Int) : Option (Bool) := (wire_Put.f k a0 a2).bind fun bt196 => ((wire_Put.f k a1 a2).bind fun bt198 => (if bt196.2 = 0 then (sheetpilelaw07_WireOrder.j0 k a0 a1 bt196.1 bt198.1 (bt198.2 != 0)) else (sheetpilelaw07_WireOrder.j0 k a0 a1 bt196.1 bt198.1 true)))
theorem sheetpilelaw07_WireOrder.mono_l : ∀ k, (∀ y0 y1 y2 y3 y4, LeO (sheetpilelaw07_WireOrder.j0 k y0 y1 y2 y3 y4) (sheetpilelaw07_WireOrder.j0 (k + 1) y0 y1 y2 y3 y4))
  | 0 => fun _ _ _ _ _ r h => by simp [sheetpilelaw07_WireOrder.j0] at h
  | k + 1 => by
    have ih0 := sheetpilelaw07_WireOrder.mono_l k
    · intro y0 y1 y2 y3 y4
      unfold sheetpilelaw07_WireOrder.j0
      repeat' first
      | (with_reducible exact ih0 _ _ _ _ _)
      | (with_reducible exact sheetpilelaw07_live.mono _)
      | (with_reducible exact wire_Put.mono _ _ _)
      | (with_reducible exact LeO.refl _)
      | (with_reducible exact LeO.none _)
      | (with_reducible refine LeO.ite ?_ ?_)
      | (with_reducible refine LeO.bind ?_ (fun _ => ?_))
      | exact ih0 _ _ _ _ _
      | exact sheetpilelaw07_live.mono _
      | exact wire_Put.mono _ _ _
      | exact LeO.none _
      | refine LeO.ite ?_ ?_
      | refine LeO.bind ?_ (fun _ => ?_)
theorem sheetpilelaw07_WireOrder.mono : ∀ a0 a1 a2 k, LeO (sheetpilelaw07_WireOrder.f k a0 a1 a2) (sheetpilelaw07_WireOrder.f (k + 1) a0 a1 a2) := by
  intro a0 a1 a2 k
  have ih0 := sheetpilelaw07_WireOrder.mono_l k
  unfold sheetpilelaw07_WireOrder.f
  repeat' first
      | (with_reducible exact ih0 _ _ _ _ _)
      | (with_reducible exact sheetpilelaw07_live.mono _)
      | (with_reducible exact wire_Put.mono _ _ _)
      | (with_reducible exact LeO.refl _)
      | (with_reducible exact LeO.none _)
      | (with_reducible refine LeO.ite ?_ ?_)
      | (with_reducible refine LeO.bind ?_ (fun _ => ?_))
      | exact ih0 _ _ _ _ _
      | exact sheetpilelaw07_live.mono _
      | exact wire_Put.mono _ _ _
      | exact LeO.none _
      | refine LeO.ite ?_ ?_
      | refine LeO.bind ?_ (fun _ => ?_)
set_option maxHeartbeats 8000000 in
set_option maxRecDepth 100000 in
theorem sheetpilelaw07_WireOrder.calls (k : Nat) (a0 : Int) (a1 : Int) (a2 : Int) (r : Bool) (w : World) (h : sheetpilelaw07_WireOrder.f k a0 a1 a2 = some r) :
    Calls Try.prog 14 #[.int .i64 a0, .int .i64 a1, .int .i64 a2] w fun e w' => e = .returned (.bool r) ∧ Below w.heap.size w w' := by
  have HB := Aside0.mk (Below.refl w.heap.size w)
  have H : ((wire_Put.f k a0 a2).bind fun bt196 => ((wire_Put.f k a1 a2).bind fun bt198 => (if bt196.2 = 0 then (sheetpilelaw07_WireOrder.j0 k a0 a1 bt196.1 bt198.1 (bt198.2 != 0)) else (sheetpilelaw07_WireOrder.j0 k a0 a1 bt196.1 bt198.1 true)))) = some r := h
  clear h
  replace H := Option.bind_eq_some_iff.mp H
  obtain ⟨⟨t196, t197⟩, A40, H⟩ := H
  replace H : ((wire_Put.f k a1 a2).bind fun bt198 => (if t197 = 0 then (sheetpilelaw07_WireOrder.j0 k a0 a1 t196 bt198.1 (bt198.2 != 0)) else (sheetpilelaw07_WireOrder.j0 k a0 a1 t196 bt198.1 true))) = some r := H
  have A4 := Aside0.mk A40
  clear A40
  replace H := Option.bind_eq_some_iff.mp H
  obtain ⟨⟨t198, t199⟩, A50, H⟩ := H
  replace H : (if t197 = 0 then (sheetpilelaw07_WireOrder.j0 k a0 a1 t196 t198 (t199 != 0)) else (sheetpilelaw07_WireOrder.j0 k a0 a1 t196 t198 true)) = some r := H
  have A5 := Aside0.mk A50
  clear A50
  have HC6 := Aside0.mk H
  clear H
  go_enter Try.func14, Try.ntmps14
  go_upto_region 3 with (first | ((with_reducible refine gate_callee (f := 21) rfl ?_); refine goesL_ (some 14) rfl rfl Try.func21 (by kernel_rfl) rfl #[.int .i64 a0, .int .i64 a2] rfl (by (try simp only [List.map_toArray, List.map_cons, List.map_nil]); first | done | rfl | (simp only [List.length_drop, List.length_take]; rfl)) ?_; (with_reducible refine (wire_Put.calls k a0 a2 t196 t197 _ A4.out).mono ?_); rintro e w7 ⟨rfl, hb⟩; refine ⟨_, rfl, ?_⟩; have n0_ := Aside0.mk (below_step (by repeat (first | (with_reducible first | exact HB.out | apply below_alloc | apply pw_below_drewN | apply below_drew1) | exact HB.out)) hb); clear HB; have HB := n0_; clear n0_; (try clear hb); (try clear hb2); (try clear hk); (try clear hi)) | ((with_reducible refine gate_callee (f := 21) rfl ?_); refine goesL_ (some 20) rfl rfl Try.func21 (by kernel_rfl) rfl #[.int .i64 a1, .int .i64 a2] rfl (by (try simp only [List.map_toArray, List.map_cons, List.map_nil]); first | done | rfl | (simp only [List.length_drop, List.length_take]; rfl)) ?_; (with_reducible refine (wire_Put.calls k a1 a2 t198 t199 _ A5.out).mono ?_); rintro e w8 ⟨rfl, hb⟩; refine ⟨_, rfl, ?_⟩; have n0_ := Aside0.mk (below_step (by repeat (first | (with_reducible first | exact HB.out | apply below_alloc | apply pw_below_drewN | apply below_drew1) | exact HB.out)) hb); clear HB; have HB := n0_; clear n0_; (try clear hb); (try clear hb2); (try clear hk); (try clear hi)))
  (try simp only [Act.put, List.setIfInBounds_toArray, List.set_cons_zero, List.set_cons_succ])
  go_cut [28] (fun v28 wc => ∃ (kq : Nat) (x28_5 : Bool), v28 = .bool x28_5 ∧ Aside0 (sheetpilelaw07_WireOrder.j0 kq a0 a1 t196 t198 x28_5 = some r) ∧ Aside0 (kq ≤ k) ∧ Aside0 (Below w.heap.size w wc))
  case first =>
    have H := HC6.out
    clear HC6
    by_cases c9 : t197 = 0
    · rw [if_pos c9] at H
      have c9b0 : (t197 == 0) = true := beq_iff_eq.mpr c9
      have c9b1 : (t197 != 0) = false := bne_eq_false_iff_eq.mpr c9
      clear c9
      (first | rw [c9b0] | (simp only [i64_w, i32_w]; rw [c9b0]) | skip)
      have H' := Aside0.mk H
      clear H
      go_wp2
      go_meet
      case rel => exact ⟨_, ((t199 != 0)), (by first | rfl | (simp; done) | (simp [*]; done)), H', ⟨by first | omega | exact Nat.le_refl _⟩, ⟨by repeat (first | (with_reducible first | exact HB.out | apply below_alloc | apply pw_below_drewN | apply below_drew1) | exact HB.out)⟩⟩
    · rw [if_neg c9] at H
      have c9b0 : (t197 == 0) = false := beq_eq_false_iff_ne.mpr c9
      have c9b1 : (t197 != 0) = true := bne_iff_ne.mpr c9
      (first | rw [c9b0] | (simp only [i64_w, i32_w]; rw [c9b0]) | skip)
      have H' := Aside0.mk H
      clear H
      go_wp2
      go_meet
      case rel => exact ⟨_, (true), (by first | rfl | (simp; done) | (simp [*]; done)), H', ⟨by first | omega | exact Nat.le_refl _⟩, ⟨by repeat (first | (with_reducible first | exact HB.out | apply below_alloc | apply pw_below_drewN | apply below_drew1) | exact HB.out)⟩⟩
  case rest =>
    clear HC6
    try clear c1
    try clear c2
    try clear p2
    try clear c9
    try clear c9b0
    try clear c9b1
    obtain ⟨kq, x28_5, rfl, HA, HJ5, HB⟩ := hcut
    cases kq with
    | zero => exact absurd HA.out (by simp [sheetpilelaw07_WireOrder.j0])
    | succ kj5 =>
      have H := HA.out
      clear HA
      simp only [sheetpilelaw07_WireOrder.j0] at H
      by_cases c10 : x28_5 = true
      · subst c10
        have H1 : ((sheetpilelaw07_live.f kj5).bind fun t200 => (some t200)) = some r := by rw [if_pos rfl] at H; exact H
        clear H
        have H := H1
        clear H1
        replace H := Option.bind_eq_some_iff.mp H
        obtain ⟨t200, A110, H⟩ := H
        replace H : (some t200) = some r := H
        have A11 := Aside0.mk A110
        clear A110
        obtain rfl := Option.some.inj H
        go_wp2_with (first | ((with_reducible refine gate_callee (f := 20) rfl ?_); refine goesL_ (some 29) rfl rfl Try.func20 (by kernel_rfl) rfl #[] rfl (by (try simp only [List.map_toArray, List.map_cons, List.map_nil]); first | done | rfl | (simp only [List.length_drop, List.length_take]; rfl)) ?_; (with_reducible refine (sheetpilelaw07_live.calls kj5  t200 _ A11.out).mono ?_); rintro e w12 ⟨rfl, hb⟩; refine ⟨_, rfl, ?_⟩; have n0_ := Aside0.mk (below_step (by repeat (first | (with_reducible first | exact HB.out | apply below_alloc | apply pw_below_drewN | apply below_drew1) | exact HB.out)) hb); clear HB; have HB := n0_; clear n0_; (try clear hb); (try clear hb2); (try clear hk); (try clear hi)))
        go_ret
        exact ⟨by first | rfl | (simp [errW_none, errW_some] <;> rfl) | (simp [*, errW_none, errW_some] <;> rfl), by repeat (first | (with_reducible first | exact HB.out | apply below_alloc | apply pw_below_drewN | apply below_drew1) | exact HB.out)⟩
      · replace c10 := Bool.eq_false_iff.mpr c10
        subst c10
        have H1 : (if ((t196.toList == t198.toList) == (a0 == a1)) = true then (if (t196.size : Int) = (t198.size : Int) then ((sheetpilelaw07_live.f kj5).bind fun t201 => (some t201)) else (some false)) else (some false)) = some r := by rw [if_neg (show ¬ (false = true) by decide)] at H; exact H
        clear H
        have H := H1
        clear H1
        by_cases c13 : ((t196.toList == t198.toList) == (a0 == a1)) = true
        · rw [if_pos c13] at H
          have c13b0 : ((t196.toList == t198.toList) == (a0 == a1)) = true := c13
          (try (have c13b1 : decide ((t196.toList == t198.toList) = (a0 == a1)) = true := by simpa using c13))
          (try (have c13b2 : ((t196.toList == t198.toList) == (a0 == a1)) = true := by simpa using c13))
          clear c13
          by_cases c14 : (t196.size : Int) = (t198.size : Int)
          · rw [if_pos c14] at H
            have c14b0 : ((t196.size : Int) == (t198.size : Int)) = true := beq_iff_eq.mpr c14
            have c14b1 : ((t196.size : Int) != (t198.size : Int)) = false := bne_eq_false_iff_eq.mpr c14
            have c14b2 : (t196.size == t198.size) = true := by first | simpa using c14 | (simp at c14 ⊢; omega)
            clear c14
            replace H := Option.bind_eq_some_iff.mp H
            obtain ⟨t201, A150, H⟩ := H
            replace H : (some t201) = some r := H
            have A15 := Aside0.mk A150
            clear A150
            obtain rfl := Option.some.inj H
            go_wp2_with (first | (go_at_call 20; (with_reducible refine (sheetpilelaw07_live.calls kj5  t201 _ A15.out).mono ?_); rintro e w16 ⟨rfl, hb⟩; have n0_ := Aside0.mk (below_step (by repeat (first | (with_reducible first | exact HB.out | apply below_alloc | apply pw_below_drewN | apply below_drew1) | exact HB.out)) hb); clear HB; have HB := n0_; clear n0_; (try clear hb); (try clear hb2); (try clear hk); (try clear hi)))
            go_ret
            exact ⟨by first | rfl | (simp [errW_none, errW_some] <;> rfl) | (simp [*, errW_none, errW_some] <;> rfl), by repeat (first | (with_reducible first | exact HB.out | apply below_alloc | apply pw_below_drewN | apply below_drew1) | exact HB.out)⟩
          · rw [if_neg c14] at H
            have c14b0 : ((t196.size : Int) == (t198.size : Int)) = false := beq_eq_false_iff_ne.mpr c14
            have c14b1 : ((t196.size : Int) != (t198.size : Int)) = true := bne_iff_ne.mpr c14
            have c14b2 : (t196.size == t198.size) = false := by first | simpa using c14 | (simp at c14 ⊢; omega)
            obtain rfl := Option.some.inj H
            go_wp2
            go_ret
            exact ⟨by first | rfl | (simp [errW_none, errW_some] <;> rfl) | (simp [*, errW_none, errW_some] <;> rfl), by repeat (first | (with_reducible first | exact HB.out | apply below_alloc | apply pw_below_drewN | apply below_drew1) | exact HB.out)⟩
        · rw [if_neg c13] at H
          have c13b0 : ((t196.toList == t198.toList) == (a0 == a1)) = false := by simpa using c13
          (try (have c13b1 : decide ((t196.toList == t198.toList) = (a0 == a1)) = false := by simpa using c13))
          (try (have c13b2 : ((t196.toList == t198.toList) == (a0 == a1)) = false := by simpa using c13))
          (try (have c13b3 : ¬ ((t196.toList == t198.toList) = (a0 == a1)) := by simpa using c13))
          clear c13
          obtain rfl := Option.some.inj H
          go_wp2
          go_ret
          exact ⟨by first | rfl | (simp [errW_none, errW_some] <;> rfl) | (simp [*, errW_none, errW_some] <;> rfl), by repeat (first | (with_reducible first | exact HB.out | apply below_alloc | apply pw_below_drewN | apply below_drew1) | exact HB.out)⟩

/-- THE ONE PURE STATEMENT of sheetpilelaw07_WireOrder: yours. -/
def sheetpilelaw07_WireOrder.Pure : Prop := ∀ (a0 : Int) (a1 : Int) (a2 : Int), (Lit.int .i64 a0).wf = true → (Lit.int .i64 a1).wf = true → (Lit.int .i64 a2).wf = true → ∃ k, sheetpilelaw07_WireOrder.f k a0 a1 a2 = some true
theorem sheetpilelaw07_WireOrder.walk (P : sheetpilelaw07_WireOrder.Pure) (a0 : Int) (a1 : Int) (a2 : Int) (w : World) (w0 : (Lit.int .i64 a0).wf = true) (w1 : (Lit.int .i64 a1).wf = true) (w2 : (Lit.int .i64 a2).wf = true) :
    Calls Try.prog 14 #[.int .i64 a0, .int .i64 a1, .int .i64 a2] w fun e w' => e = .returned (.bool true) ∧ Below w.heap.size w w' := by
  obtain ⟨k, h⟩ := P a0 a1 a2 w0 w1 w2
  refine (sheetpilelaw07_WireOrder.calls k a0 a1 a2 true w h).mono ?_
  rintro e w' ⟨rfl, hd⟩
  exact ⟨rfl, hd⟩

end Go.Proofs.Ytkafepjecpfoeaa.PWire
