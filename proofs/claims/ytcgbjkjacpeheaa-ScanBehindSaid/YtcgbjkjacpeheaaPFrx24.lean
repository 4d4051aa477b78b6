-- Laid by a program of this session (wip/mkprint.py); checked by Lean alone
import Derived.Test.YtcgbjkjacpeheaaPFrx0
import Derived.Test.YtcgbjkjacpeheaaPFrx18
import Derived.Test.YtcgbjkjacpeheaaScan20
namespace Go.Proofs.Ytcgbjkjacpeheaa.Given
end Go.Proofs.Ytcgbjkjacpeheaa.Given
namespace Go.Proofs.Ytcgbjkjacpeheaa.PFr
open Go.Proofs.Ytcgbjkjacpeheaa.Given
open Go.RowKit Go.Proofs.YtcgbjkjacpeheaaW.PrintWords Go.Proofs.YtcgbjkjacpeheaaW.PrintLast Go.Proofs.YtcgbjkjacpeheaaW.PrintMore
attribute [local go_sem] max2_int min2_int max_two min_two max_three min_three max_four min_four   -- for this text's walks alone
set_option linter.unusedVariables false
set_option linter.unusedSimpArgs false

attribute [local go_sem] isSome_setCell_
/-! ### sheetpilelaw20_ScanBehind: function 14 -/
def sheetpilelaw20_ScanBehind.j0 : Nat → ByteArray → List (S30) → Int → Bool → Option (Bool)
  | 0, _, _, _, _ => none
  | k + 1, x0, x3, x4, x23 => if x23 = true then (some false) else (if 0 ≤ x4 then (if x4 ≤ (x0.size : Int) then ((scan_All.f (x0.extract (x4 : Int).toNat x0.size)).bind fun bt499 => (if (x3.length : Int) > 0 then (if (bt499.1.length : Int) > 0 then (if 0 < (bt499.1.length : Int) then (if 0 ≤ (wrap64 ((x3.length : Int) - 1)) then (if (wrap64 ((x3.length : Int) - 1)) < (x3.length : Int) then (if ((rd_T30 bt499.1 0).f0) = (wrap64 (((rd_T30 x3 (wrap64 ((x3.length : Int) - 1))).f0) + 1)) then (some false) else ((sheetpilelaw20_live.f).bind fun t505 => (some t505))) else (none)) else (none)) else (none)) else ((sheetpilelaw20_live.f).bind fun t506 => (some t506))) else (if (bt499.1.length : Int) = 0 then (if bt499.2 = 0 then ((sheetpilelaw20_live.f).bind fun t507 => (some t507)) else (some false)) else (some false)))) else (none)) else (none))
def sheetpilelaw20_ScanBehind.f (k : Nat) (a0 : ByteArray) : Option (Bool) := if (a0.size : Int) > 5000 then ((sheetpilelaw20_live.f).bind fun t494 => (some t494)) else ((scan_All.f a0).bind fun bt495 => (if bt495.2 < 0 then (sheetpilelaw20_ScanBehind.j0 k a0 bt495.1 bt495.2 true) else (sheetpilelaw20_ScanBehind.j0 k a0 bt495.1 bt495.2 (decide (bt495.2 > (a0.size : Int))))))
theorem sheetpilelaw20_ScanBehind.mono_l : ∀ k, (∀ y0 y1 y2 y3, LeO (sheetpilelaw20_ScanBehind.j0 k y0 y1 y2 y3) (sheetpilelaw20_ScanBehind.j0 (k + 1) y0 y1 y2 y3))
  | 0 => fun _ _ _ _ r h => by simp [sheetpilelaw20_ScanBehind.j0] at h
  | k + 1 => by
    have ih0 := sheetpilelaw20_ScanBehind.mono_l k
    · intro y0 y1 y2 y3
      unfold sheetpilelaw20_ScanBehind.j0
      repeat' first
      | (with_reducible exact ih0 _ _ _ _)
      | (with_reducible exact LeO.refl _)
      | (with_reducible exact LeO.none _)
      | (with_reducible refine LeO.ite ?_ ?_)
      | (with_reducible refine LeO.bind ?_ (fun _ => ?_))
      | exact ih0 _ _ _ _
      | exact LeO.none _
      | refine LeO.ite ?_ ?_
      | refine LeO.bind ?_ (fun _ => ?_)
theorem sheetpilelaw20_ScanBehind.mono : ∀ a0 k, LeO (sheetpilelaw20_ScanBehind.f k a0) (sheetpilelaw20_ScanBehind.f (k + 1) a0) := by
  intro a0 k
  have ih0 := sheetpilelaw20_ScanBehind.mono_l k
  unfold sheetpilelaw20_ScanBehind.f
  repeat' first
      | (with_reducible exact ih0 _ _ _ _)
      | (with_reducible exact LeO.refl _)
      | (with_reducible exact LeO.none _)
      | (with_reducible refine LeO.ite ?_ ?_)
      | (with_reducible refine LeO.bind ?_ (fun _ => ?_))
      | exact ih0 _ _ _ _
      | exact LeO.none _
      | refine LeO.ite ?_ ?_
      | refine LeO.bind ?_ (fun _ => ?_)
set_option maxHeartbeats 8000000 in
set_option maxRecDepth 100000 in
theorem sheetpilelaw20_ScanBehind.calls (k : Nat) (a0 : ByteArray) (r : Bool) (w : World) (h : sheetpilelaw20_ScanBehind.f k a0 = some r) :
    Calls Try.prog 14 #[.string a0] w fun e w' => e = .returned (.bool r) ∧ Below w.heap.size w w' := by
  have HB := Aside0.mk (Below.refl w.heap.size w)
  have H : (if (a0.size : Int) > 5000 then ((sheetpilelaw20_live.f).bind fun t494 => (some t494)) else ((scan_All.f a0).bind fun bt495 => (if bt495.2 < 0 then (sheetpilelaw20_ScanBehind.j0 k a0 bt495.1 bt495.2 true) else (sheetpilelaw20_ScanBehind.j0 k a0 bt495.1 bt495.2 (decide (bt495.2 > (a0.size : Int))))))) = some r := h
  clear h
  by_cases c2 : (a0.size : Int) > 5000
  · rw [if_pos c2] at H
    have c2b0 : decide (5000 < (a0.size : Int)) = true := decide_eq_true c2
    have c2b1 : decide (5000 < a0.size) = true := decide_eq_true (by omega)
    clear c2
    replace H := Option.bind_eq_some_iff.mp H
    obtain ⟨t494, A30, H⟩ := H
    replace H : (some t494) = some r := H
    have A3 := Aside0.mk A30
    clear A30
    obtain rfl := Option.some.inj H
    go_enter Try.func14, Try.ntmps14
    go_wp2_with ((go_at_call 25; (with_reducible refine (sheetpilelaw20_live.calls  t494 _ A3.out).mono ?_); rintro e w4 ⟨rfl, hb⟩; have n0_ := Aside0.mk (below_step (by repeat (first | (with_reducible first | exact HB.out | apply below_alloc | apply pw_below_drewN | apply below_drew1) | exact HB.out)) hb); clear HB; have HB := n0_; clear n0_; (try clear hb); (try clear hb2); (try clear hk); (try clear hi)))
    repeat (go_quiet (fail); try go_wp2)
    go_ret
    exact ⟨by first | rfl | (simp [errW_none, errW_some] <;> rfl) | (simp [*, errW_none, errW_some] <;> rfl), by repeat (first | (with_reducible first | exact HB.out | apply below_alloc | apply pw_below_drewN | apply below_drew1) | exact HB.out)⟩
  · rw [if_neg c2] at H
    have c2b0 : decide (5000 < (a0.size : Int)) = false := decide_eq_false c2
    have c2b1 : decide (5000 < a0.size) = false := decide_eq_false (by omega)
    clear c2
    replace H := Option.bind_eq_some_iff.mp H
    obtain ⟨⟨t495, t496⟩, A50, H⟩ := H
    replace H : (if t496 < 0 then (sheetpilelaw20_ScanBehind.j0 k a0 t495 t496 true) else (sheetpilelaw20_ScanBehind.j0 k a0 t495 t496 (decide (t496 > (a0.size : Int))))) = some r := H
    have A5 := Aside0.mk A50
    clear A50
    have HC6 := Aside0.mk H
    clear H
    go_enter Try.func14, Try.ntmps14
    go_upto_region 4 with (first | (go_at_call 26; (with_reducible refine (scan_All.calls a0 t495 t496 _ A5.out).mono ?_); rintro e w7 ⟨v497, rfl, ho0, hb⟩; have n0_ := Aside0.mk (Kd.S_lower ho0 (below_size (by repeat (first | (with_reducible first | exact HB.out | apply below_alloc | apply pw_below_drewN | apply below_drew1) | exact HB.out)))); have n1_ := Aside0.mk (below_step (by repeat (first | (with_reducible first | exact HB.out | apply below_alloc | apply pw_below_drewN | apply below_drew1) | exact HB.out)) hb); clear HB; have HO498 := n0_; have HB := n1_; clear n0_ n1_; (try clear hb); (try clear hb2); (try clear hk); (try clear hi); (try clear ho0)))
    repeat (go_quiet (fail); go_upto_region 4 with (first | (go_at_call 26; (with_reducible refine (scan_All.calls a0 t495 t496 _ A5.out).mono ?_); rintro e w7 ⟨v497, rfl, ho0, hb⟩; have n0_ := Aside0.mk (Kd.S_lower ho0 (below_size (by repeat (first | (with_reducible first | exact HB.out | apply below_alloc | apply pw_below_drewN | apply below_drew1) | exact HB.out)))); have n1_ := Aside0.mk (below_step (by repeat (first | (with_reducible first | exact HB.out | apply below_alloc | apply pw_below_drewN | apply below_drew1) | exact HB.out)) hb); clear HB; have HO498 := n0_; have HB := n1_; clear n0_ n1_; (try clear hb); (try clear hb2); (try clear hk); (try clear hi); (try clear ho0))))
    (try simp only [Act.put, List.setIfInBounds_toArray, List.set_cons_zero, List.set_cons_succ])
    go_cut [23] (fun v23 wc => ∃ (kq : Nat) (x23_5 : Bool), v23 = .bool x23_5 ∧ Aside0 (sheetpilelaw20_ScanBehind.j0 kq a0 t495 t496 x23_5 = some r) ∧ Aside0 (kq ≤ k) ∧ Aside0 (Kd.S k30 30 wc w.heap.size (fun _ => True) v497 t495) ∧ Aside0 (Below w.heap.size w wc))
    case first =>
      have H := HC6.out
      clear HC6
      by_cases c8 : t496 < 0
      · rw [if_pos c8] at H
        have c8b0 : decide (t496 < 0) = true := decide_eq_true c8
        clear c8
        (first | rw [c8b0] | (simp only [i64_w, i32_w]; rw [c8b0]) | skip)
        have H' := Aside0.mk H
        clear H
        go_wp2
        repeat (go_quiet (fail); try go_wp2)
        go_meet
        case rel => exact ⟨_, (true), (by first | rfl | (simp; done) | (simp [*]; done) | exact congrArg Value.bool (by cases ByteArray.toList a0 <;> rfl) | exact congrArg Value.bool (by cases ByteArray.toList a1 <;> rfl)), H', ⟨by first | omega | exact Nat.le_refl _⟩, ⟨by (with_reducible repeat (first | apply Kd.S_alloc | apply Kd.S_drewN | apply Kd.S_drew)); exact HO498.out⟩, ⟨by repeat (first | (with_reducible first | exact HB.out | apply below_alloc | apply pw_below_drewN | apply below_drew1) | exact HB.out)⟩⟩
      · rw [if_neg c8] at H
        have c8b0 : decide (t496 < 0) = false := decide_eq_false c8
        clear c8
        (first | rw [c8b0] | (simp only [i64_w, i32_w]; rw [c8b0]) | skip)
        have H' := Aside0.mk H
        clear H
        go_wp2
        repeat (go_quiet (fail); try go_wp2)
        go_meet
        case rel => exact ⟨_, (decide (t496 > (a0.size : Int))), (by first | rfl | (simp; done) | (simp [*]; done) | exact congrArg Value.bool (by cases ByteArray.toList a0 <;> rfl) | exact congrArg Value.bool (by cases ByteArray.toList a1 <;> rfl)), H', ⟨by first | omega | exact Nat.le_refl _⟩, ⟨by (with_reducible repeat (first | apply Kd.S_alloc | apply Kd.S_drewN | apply Kd.S_drew)); exact HO498.out⟩, ⟨by repeat (first | (with_reducible first | exact HB.out | apply below_alloc | apply pw_below_drewN | apply below_drew1) | exact HB.out)⟩⟩
    case rest =>
      clear HC6
      try clear c1
      try clear c2
      try clear c2b0
      try clear c2b1
      try clear p2
      try clear c8
      try clear c8b0
      obtain ⟨kq, x23_5, rfl, HA, HJ5, HO_3, HB⟩ := hcut
      cases kq with
      | zero => exact absurd HA.out (by simp [sheetpilelaw20_ScanBehind.j0])
      | succ kj5 =>
        have H := HA.out
        clear HA
        simp only [sheetpilelaw20_ScanBehind.j0] at H
        by_cases c9 : x23_5 = true
        · subst c9
          have H1 : (some false) = some r := by rw [if_pos rfl] at H; exact H
          clear H
          have H := H1
          clear H1
          obtain rfl := Option.some.inj H
          go_wp2
          repeat (go_quiet (fail); try go_wp2)
          go_ret
          exact ⟨by first | rfl | (simp [errW_none, errW_some] <;> rfl) | (simp [*, errW_none, errW_some] <;> rfl), by repeat (first | (with_reducible first | exact HB.out | apply below_alloc | apply pw_below_drewN | apply below_drew1) | exact HB.out)⟩
        · replace c9 := Bool.eq_false_iff.mpr c9
          subst c9
          have H1 : (if 0 ≤ t496 then (if t496 ≤ (a0.size : Int) then ((scan_All.f (a0.extract (t496 : Int).toNat a0.size)).bind fun bt499 => (if (t495.length : Int) > 0 then (if (bt499.1.length : Int) > 0 then (if 0 < (bt499.1.length : Int) then (if 0 ≤ (wrap64 ((t495.length : Int) - 1)) then (if (wrap64 ((t495.length : Int) - 1)) < (t495.length : Int) then (if ((rd_T30 bt499.1 0).f0) = (wrap64 (((rd_T30 t495 (wrap64 ((t495.length : Int) - 1))).f0) + 1)) then (some false) else ((sheetpilelaw20_live.f).bind fun t505 => (some t505))) else (none)) else (none)) else (none)) else ((sheetpilelaw20_live.f).bind fun t506 => (some t506))) else (if (bt499.1.length : Int) = 0 then (if bt499.2 = 0 then ((sheetpilelaw20_live.f).bind fun t507 => (some t507)) else (some false)) else (some false)))) else (none)) else (none)) = some r := by rw [if_neg (show ¬ (false = true) by decide)] at H; exact H
          clear H
          have H := H1
          clear H1
          by_cases c10 : 0 ≤ t496
          · rw [if_pos c10] at H
            have c10b0 := eq_true c10
            have c10b1 : decide (0 ≤ t496) = true := decide_eq_true c10
            clear c10
            by_cases c11 : t496 ≤ (a0.size : Int)
            · rw [if_pos c11] at H
              have c11b0 := eq_true c11
              have c11b1 : decide (t496 ≤ (a0.size : Int)) = true := decide_eq_true c11
              clear c11
              replace H := Option.bind_eq_some_iff.mp H
              obtain ⟨⟨t499, t500⟩, A120, H⟩ := H
              replace H : (if (t495.length : Int) > 0 then (if (t499.length : Int) > 0 then (if 0 < (t499.length : Int) then (if 0 ≤ (wrap64 ((t495.length : Int) - 1)) then (if (wrap64 ((t495.length : Int) - 1)) < (t495.length : Int) then (if ((rd_T30 t499 0).f0) = (wrap64 (((rd_T30 t495 (wrap64 ((t495.length : Int) - 1))).f0) + 1)) then (some false) else ((sheetpilelaw20_live.f).bind fun t505 => (some t505))) else (none)) else (none)) else (none)) else ((sheetpilelaw20_live.f).bind fun t506 => (some t506))) else (if (t499.length : Int) = 0 then (if t500 = 0 then ((sheetpilelaw20_live.f).bind fun t507 => (some t507)) else (some false)) else (some false))) = some r := H
              have A12 := Aside0.mk A120
              clear A120
              by_cases c13 : (t495.length : Int) > 0
              · rw [if_pos c13] at H
                have c13b0 : decide (0 < (t495.length : Int)) = true := decide_eq_true c13
                have c13b1 : decide (0 < t495.length) = true := decide_eq_true (by omega)
                clear c13
                by_cases c14 : (t499.length : Int) > 0
                · rw [if_pos c14] at H
                  have c14b0 : decide (0 < (t499.length : Int)) = true := decide_eq_true c14
                  have c14b1 : decide (0 < t499.length) = true := decide_eq_true (by omega)
                  clear c14
                  by_cases c15 : 0 < (t499.length : Int)
                  · rw [if_pos c15] at H
                    have c15b0 : decide (0 < (t499.length : Int)) = true := decide_eq_true c15
                    have c15b1 : decide (0 < t499.length) = true := decide_eq_true (by omega)
                    clear c15
                    obtain ⟨ji16, hji16⟩ : ∃ j_ : Int, (wrap64 ((t495.length : Int) - 1)) = j_ := ⟨_, rfl⟩
                    replace H : (if 0 ≤ (ji16) then (if (ji16) < (t495.length : Int) then (if ((rd_T30 t499 0).f0) = (wrap64 (((rd_T30 t495 (ji16)).f0) + 1)) then (some false) else ((sheetpilelaw20_live.f).bind fun t505 => (some t505))) else (none)) else (none)) = some r := by first | (rw [hji16] at H; exact H) | (simp only [hji16] at H ⊢; exact H)
                    (try rw [hji16] at A12)
                    have hji16w : (IntKind.i64.wrap ((t495.length : Int) - 1)) = ji16 := (i64_w _).trans hji16
                    by_cases c17 : 0 ≤ (ji16)
                    · rw [if_pos c17] at H
                      have c17b0 : decide (0 ≤ (ji16)) = true := decide_eq_true c17
                      clear c17
                      by_cases c18 : (ji16) < (t495.length : Int)
                      · rw [if_pos c18] at H
                        have c18b0 : decide ((ji16) < (t495.length : Int)) = true := decide_eq_true c18
                        clear c18
                        by_cases c19 : ((rd_T30 t499 0).f0) = (wrap64 (((rd_T30 t495 (ji16)).f0) + 1))
                        · rw [if_pos c19] at H
                          have c19b0 : (((rd_T30 t499 0).f0) == (wrap64 (((rd_T30 t495 (ji16)).f0) + 1))) = true := beq_iff_eq.mpr c19
                          have c19b1 : (((rd_T30 t499 0).f0) != (wrap64 (((rd_T30 t495 (ji16)).f0) + 1))) = false := bne_eq_false_iff_eq.mpr c19
                          clear c19
                          obtain rfl := Option.some.inj H
                          go_wp2_with ((go_at_call 26; (with_reducible refine (scan_All.calls (a0.extract (t496 : Int).toNat a0.size) t499 t500 _ A12.out).mono ?_); rintro e w20 ⟨v501, rfl, ho0, hb⟩; have n0_ := Aside0.mk (Kd.S_elder' (by (with_reducible repeat (first | apply Kd.S_alloc | apply Kd.S_drewN | apply Kd.S_drew)); exact HO_3.out) (Kd.S_base ho0) hb); have n1_ := Aside0.mk (Kd.S_lower (Kd.S_new' ho0 (Kd.S_lt (by (with_reducible repeat (first | apply Kd.S_alloc | apply Kd.S_drewN | apply Kd.S_drew)); exact HO_3.out))) (below_size (by repeat (first | (with_reducible first | exact HB.out | apply below_alloc | apply pw_below_drewN | apply below_drew1) | exact HB.out)))); have n2_ := Aside0.mk (below_step (by repeat (first | (with_reducible first | exact HB.out | apply below_alloc | apply pw_below_drewN | apply below_drew1) | exact HB.out)) hb); clear HO_3; clear HB; have HO_3 := n0_; have HO502 := n1_; have HB := n2_; clear n0_ n1_ n2_; (try clear hb); (try clear hb2); (try clear hk); (try clear hi); (try clear ho0); obtain ⟨Ao21, co21, eo21⟩ := Kd.S_slice HO_3.out; subst eo21; obtain ⟨Ao22, co22, eo22⟩ := Kd.S_slice HO502.out; subst eo22; have p503 : 0 ≤ (0 : Int) := (by omega); have q503 : 0 < (t499.length : Int) := of_decide_eq_true (by first | (with_reducible assumption) | assumption); obtain ⟨ad503, A503_1, c503_1, e503, hx503_0, hx503_1, hl503_1, hi503_1⟩ := at_T30 (Kd.S_reads' HO502.out).2.2 0 p503 q503; cases e503; obtain ⟨ce503, hce503, hMe503, hcc503⟩ := Kd.S_get HO502.out z30 0 p503 (by first | exact q503 | exact of_decide_eq_true (by first | (with_reducible assumption) | assumption) | (have e_ := (Kd.S_reads' HO502.out).1; omega)); obtain ⟨ve503_1, rfl, ge503_1⟩ := k30_openM hMe503; have hv503_1 := hcc503 1 _ rfl; rw [add_field _ _ 1 (by omega)] at hv503_1; replace hv503_1 := Option.some.inj (hv503_1.symm.trans hx503_1); rw [hv503_1] at ge503_1; have HL503_1 := Aside0.mk (show Kd.R k62 62 _ _ _ _ ((rd_T30 t499 0).f1) from ge503_1); clear hv503_1 ge503_1; clear hcc503 hce503; have qi503 : (0 < t499.length) = True := eq_true (by omega); (try rw [show ((0 : Int)).toNat = 0 from rfl] at hx503_0); (try rw [show 0 * 2 = 0 from rfl] at hx503_0); (try rw [Addr.add_zero'] at hx503_0); (try rw [show ((0 : Int)).toNat = 0 from rfl] at hx503_1); (try rw [show 0 * 2 = 0 from rfl] at hx503_1); (try rw [Addr.add_zero'] at hx503_1); have HR503_1 := Aside0.mk hi503_1; have HC503_1 := Aside0.mk hl503_1; clear hi503_1 hl503_1; replace p503 := eq_true p503; replace q503 := eq_true q503; have p504 : 0 ≤ ((ji16) : Int) := of_decide_eq_true (by first | (with_reducible assumption) | assumption); have q504 : (ji16) < (t495.length : Int) := of_decide_eq_true (by first | (with_reducible assumption) | assumption); obtain ⟨ad504, A504_1, c504_1, e504, hx504_0, hx504_1, hl504_1, hi504_1⟩ := at_T30 (Kd.S_reads' HO_3.out).2.2 (ji16) p504 q504; cases e504; obtain ⟨ce504, hce504, hMe504, hcc504⟩ := Kd.S_get HO_3.out z30 (ji16) p504 (by first | exact q504 | exact of_decide_eq_true (by first | (with_reducible assumption) | assumption) | (have e_ := (Kd.S_reads' HO_3.out).1; omega)); obtain ⟨ve504_1, rfl, ge504_1⟩ := k30_openM hMe504; have hv504_1 := hcc504 1 _ rfl; rw [add_field _ _ 1 (by omega)] at hv504_1; replace hv504_1 := Option.some.inj (hv504_1.symm.trans hx504_1); rw [hv504_1] at ge504_1; have HL504_1 := Aside0.mk (show Kd.R k62 62 _ _ _ _ ((rd_T30 t495 (ji16)).f1) from ge504_1); clear hv504_1 ge504_1; clear hcc504 hce504; have HR504_1 := Aside0.mk hi504_1; have HC504_1 := Aside0.mk hl504_1; clear hi504_1 hl504_1; replace p504 := eq_true p504; replace q504 := eq_true q504))
                          repeat (go_quiet (fail); try go_wp2)
                          go_ret
                          exact ⟨by first | rfl | (simp [errW_none, errW_some] <;> rfl) | (simp only [← hji16]; first | rfl | (simp [errW_none, errW_some] <;> rfl)) | (simp [*, errW_none, errW_some] <;> rfl), by repeat (first | (with_reducible first | exact HB.out | apply below_alloc | apply pw_below_drewN | apply below_drew1) | exact HB.out)⟩
                        · rw [if_neg c19] at H
                          have c19b0 : (((rd_T30 t499 0).f0) == (wrap64 (((rd_T30 t495 (ji16)).f0) + 1))) = false := beq_eq_false_iff_ne.mpr c19
                          have c19b1 : (((rd_T30 t499 0).f0) != (wrap64 (((rd_T30 t495 (ji16)).f0) + 1))) = true := bne_iff_ne.mpr c19
                          replace H := Option.bind_eq_some_iff.mp H
                          obtain ⟨t505, A230, H⟩ := H
                          replace H : (some t505) = some r := H
                          have A23 := Aside0.mk A230
                          clear A230
                          obtain rfl := Option.some.inj H
                          go_wp2_with ((go_at_call 26; (with_reducible refine (scan_All.calls (a0.extract (t496 : Int).toNat a0.size) t499 t500 _ A12.out).mono ?_); rintro e w24 ⟨v501, rfl, ho0, hb⟩; have n0_ := Aside0.mk (Kd.S_elder' (by (with_reducible repeat (first | apply Kd.S_alloc | apply Kd.S_drewN | apply Kd.S_drew)); exact HO_3.out) (Kd.S_base ho0) hb); have n1_ := Aside0.mk (Kd.S_lower (Kd.S_new' ho0 (Kd.S_lt (by (with_reducible repeat (first | apply Kd.S_alloc | apply Kd.S_drewN | apply Kd.S_drew)); exact HO_3.out))) (below_size (by repeat (first | (with_reducible first | exact HB.out | apply below_alloc | apply pw_below_drewN | apply below_drew1) | exact HB.out)))); have n2_ := Aside0.mk (below_step (by repeat (first | (with_reducible first | exact HB.out | apply below_alloc | apply pw_below_drewN | apply below_drew1) | exact HB.out)) hb); clear HO_3; clear HB; have HO_3 := n0_; have HO502 := n1_; have HB := n2_; clear n0_ n1_ n2_; (try clear hb); (try clear hb2); (try clear hk); (try clear hi); (try clear ho0); obtain ⟨Ao25, co25, eo25⟩ := Kd.S_slice HO_3.out; subst eo25; obtain ⟨Ao26, co26, eo26⟩ := Kd.S_slice HO502.out; subst eo26; have p503 : 0 ≤ (0 : Int) := (by omega); have q503 : 0 < (t499.length : Int) := of_decide_eq_true (by first | (with_reducible assumption) | assumption); obtain ⟨ad503, A503_1, c503_1, e503, hx503_0, hx503_1, hl503_1, hi503_1⟩ := at_T30 (Kd.S_reads' HO502.out).2.2 0 p503 q503; cases e503; obtain ⟨ce503, hce503, hMe503, hcc503⟩ := Kd.S_get HO502.out z30 0 p503 (by first | exact q503 | exact of_decide_eq_true (by first | (with_reducible assumption) | assumption) | (have e_ := (Kd.S_reads' HO502.out).1; omega)); obtain ⟨ve503_1, rfl, ge503_1⟩ := k30_openM hMe503; have hv503_1 := hcc503 1 _ rfl; rw [add_field _ _ 1 (by omega)] at hv503_1; replace hv503_1 := Option.some.inj (hv503_1.symm.trans hx503_1); rw [hv503_1] at ge503_1; have HL503_1 := Aside0.mk (show Kd.R k62 62 _ _ _ _ ((rd_T30 t499 0).f1) from ge503_1); clear hv503_1 ge503_1; clear hcc503 hce503; have qi503 : (0 < t499.length) = True := eq_true (by omega); (try rw [show ((0 : Int)).toNat = 0 from rfl] at hx503_0); (try rw [show 0 * 2 = 0 from rfl] at hx503_0); (try rw [Addr.add_zero'] at hx503_0); (try rw [show ((0 : Int)).toNat = 0 from rfl] at hx503_1); (try rw [show 0 * 2 = 0 from rfl] at hx503_1); (try rw [Addr.add_zero'] at hx503_1); have HR503_1 := Aside0.mk hi503_1; have HC503_1 := Aside0.mk hl503_1; clear hi503_1 hl503_1; replace p503 := eq_true p503; replace q503 := eq_true q503; have p504 : 0 ≤ ((ji16) : Int) := of_decide_eq_true (by first | (with_reducible assumption) | assumption); have q504 : (ji16) < (t495.length : Int) := of_decide_eq_true (by first | (with_reducible assumption) | assumption); obtain ⟨ad504, A504_1, c504_1, e504, hx504_0, hx504_1, hl504_1, hi504_1⟩ := at_T30 (Kd.S_reads' HO_3.out).2.2 (ji16) p504 q504; cases e504; obtain ⟨ce504, hce504, hMe504, hcc504⟩ := Kd.S_get HO_3.out z30 (ji16) p504 (by first | exact q504 | exact of_decide_eq_true (by first | (with_reducible assumption) | assumption) | (have e_ := (Kd.S_reads' HO_3.out).1; omega)); obtain ⟨ve504_1, rfl, ge504_1⟩ := k30_openM hMe504; have hv504_1 := hcc504 1 _ rfl; rw [add_field _ _ 1 (by omega)] at hv504_1; replace hv504_1 := Option.some.inj (hv504_1.symm.trans hx504_1); rw [hv504_1] at ge504_1; have HL504_1 := Aside0.mk (show Kd.R k62 62 _ _ _ _ ((rd_T30 t495 (ji16)).f1) from ge504_1); clear hv504_1 ge504_1; clear hcc504 hce504; have HR504_1 := Aside0.mk hi504_1; have HC504_1 := Aside0.mk hl504_1; clear hi504_1 hl504_1; replace p504 := eq_true p504; replace q504 := eq_true q504))
                          repeat (go_quiet (fail); try go_wp2_with ((go_at_call 25; (with_reducible refine (sheetpilelaw20_live.calls  t505 _ A23.out).mono ?_); rintro e w27 ⟨rfl, hb⟩; have n0_ := Aside0.mk (Kd.S_below (by (with_reducible repeat (first | apply Kd.S_alloc | apply Kd.S_drewN | apply Kd.S_drew)); exact HO_3.out) hb); have n1_ := Aside0.mk (Kd.S_below (by (with_reducible repeat (first | apply Kd.S_alloc | apply Kd.S_drewN | apply Kd.S_drew)); exact HO502.out) hb); have n2_ := Aside0.mk (Kd.R_below (by (with_reducible repeat (first | apply Kd.R_alloc | apply Kd.R_drewN | apply Kd.R_drew)); exact HL503_1.out) hb); have n3_ := Aside0.mk (Kd.R_below (by (with_reducible repeat (first | apply Kd.R_alloc | apply Kd.R_drewN | apply Kd.R_drew)); exact HL504_1.out) hb); have n4_ := Aside0.mk (Kd.C_below (by repeat (first | (with_reducible exact HR503_1.out) | (with_reducible refine Kd.C_alloc ?_ _) | (with_reducible refine Kd.C_drewN ?_ _) | (with_reducible refine Kd.C_drew ?_) | exact HR503_1.out)) hb); have n5_ := Aside0.mk (Kd.C_below (by repeat (first | (with_reducible exact HR504_1.out) | (with_reducible refine Kd.C_alloc ?_ _) | (with_reducible refine Kd.C_drewN ?_ _) | (with_reducible refine Kd.C_drew ?_) | exact HR504_1.out)) hb); have n6_ := Aside0.mk (below_step (by repeat (first | (with_reducible first | exact HB.out | apply below_alloc | apply pw_below_drewN | apply below_drew1) | exact HB.out)) hb); clear HO_3; clear HO502; clear HL503_1; clear HL504_1; clear HR503_1; clear HR504_1; clear HB; have HO_3 := n0_; have HO502 := n1_; have HL503_1 := n2_; have HL504_1 := n3_; have HR503_1 := n4_; have HR504_1 := n5_; have HB := n6_; clear n0_ n1_ n2_ n3_ n4_ n5_ n6_; (try clear hb); (try clear hb2); (try clear hk); (try clear hi))))
                          go_ret
                          exact ⟨by first | rfl | (simp [errW_none, errW_some] <;> rfl) | (simp only [← hji16]; first | rfl | (simp [errW_none, errW_some] <;> rfl)) | (simp [*, errW_none, errW_some] <;> rfl), by repeat (first | (with_reducible first | exact HB.out | apply below_alloc | apply pw_below_drewN | apply below_drew1) | exact HB.out)⟩
                      · rw [if_neg c18] at H
                        exact absurd H (by simp)
                    · rw [if_neg c17] at H
                      exact absurd H (by simp)
                  · rw [if_neg c15] at H
                    exact absurd H (by simp)
                · rw [if_neg c14] at H
                  have c14b0 : decide (0 < (t499.length : Int)) = false := decide_eq_false c14
                  have c14b1 : decide (0 < t499.length) = false := decide_eq_false (by omega)
                  clear c14
                  replace H := Option.bind_eq_some_iff.mp H
                  obtain ⟨t506, A280, H⟩ := H
                  replace H : (some t506) = some r := H
                  have A28 := Aside0.mk A280
                  clear A280
                  obtain rfl := Option.some.inj H
                  go_wp2_with ((go_at_call 26; (with_reducible refine (scan_All.calls (a0.extract (t496 : Int).toNat a0.size) t499 t500 _ A12.out).mono ?_); rintro e w29 ⟨v501, rfl, ho0, hb⟩; have n0_ := Aside0.mk (Kd.S_elder' (by (with_reducible repeat (first | apply Kd.S_alloc | apply Kd.S_drewN | apply Kd.S_drew)); exact HO_3.out) (Kd.S_base ho0) hb); have n1_ := Aside0.mk (Kd.S_lower (Kd.S_new' ho0 (Kd.S_lt (by (with_reducible repeat (first | apply Kd.S_alloc | apply Kd.S_drewN | apply Kd.S_drew)); exact HO_3.out))) (below_size (by repeat (first | (with_reducible first | exact HB.out | apply below_alloc | apply pw_below_drewN | apply below_drew1) | exact HB.out)))); have n2_ := Aside0.mk (below_step (by repeat (first | (with_reducible first | exact HB.out | apply below_alloc | apply pw_below_drewN | apply below_drew1) | exact HB.out)) hb); clear HO_3; clear HB; have HO_3 := n0_; have HO502 := n1_; have HB := n2_; clear n0_ n1_ n2_; (try clear hb); (try clear hb2); (try clear hk); (try clear hi); (try clear ho0); obtain ⟨Ao30, co30, eo30⟩ := Kd.S_slice HO_3.out; subst eo30; obtain ⟨Ao31, co31, eo31⟩ := Kd.S_slice HO502.out; subst eo31))
                  repeat (go_quiet (fail); try go_wp2_with ((go_at_call 25; (with_reducible refine (sheetpilelaw20_live.calls  t506 _ A28.out).mono ?_); rintro e w32 ⟨rfl, hb⟩; have n0_ := Aside0.mk (Kd.S_below (by (with_reducible repeat (first | apply Kd.S_alloc | apply Kd.S_drewN | apply Kd.S_drew)); exact HO_3.out) hb); have n1_ := Aside0.mk (Kd.S_below (by (with_reducible repeat (first | apply Kd.S_alloc | apply Kd.S_drewN | apply Kd.S_drew)); exact HO502.out) hb); have n2_ := Aside0.mk (below_step (by repeat (first | (with_reducible first | exact HB.out | apply below_alloc | apply pw_below_drewN | apply below_drew1) | exact HB.out)) hb); clear HO_3; clear HO502; clear HB; have HO_3 := n0_; have HO502 := n1_; have HB := n2_; clear n0_ n1_ n2_; (try clear hb); (try clear hb2); (try clear hk); (try clear hi))))
                  go_ret
                  exact ⟨by first | rfl | (simp [errW_none, errW_some] <;> rfl) | (simp [*, errW_none, errW_some] <;> rfl), by repeat (first | (with_reducible first | exact HB.out | apply below_alloc | apply pw_below_drewN | apply below_drew1) | exact HB.out)⟩
              · rw [if_neg c13] at H
                have c13b0 : decide (0 < (t495.length : Int)) = false := decide_eq_false c13
                have c13b1 : decide (0 < t495.length) = false := decide_eq_false (by omega)
                clear c13
                by_cases c33 : (t499.length : Int) = 0
                · rw [if_pos c33] at H
                  have c33b0 : ((t499.length : Int) == 0) = true := beq_iff_eq.mpr c33
                  have c33b1 : ((t499.length : Int) != 0) = false := bne_eq_false_iff_eq.mpr c33
                  clear c33
                  by_cases c34 : t500 = 0
                  · rw [if_pos c34] at H
                    have c34b0 : (t500 == 0) = true := beq_iff_eq.mpr c34
                    have c34b1 : (t500 != 0) = false := bne_eq_false_iff_eq.mpr c34
                    clear c34
                    replace H := Option.bind_eq_some_iff.mp H
                    obtain ⟨t507, A350, H⟩ := H
                    replace H : (some t507) = some r := H
                    have A35 := Aside0.mk A350
                    clear A350
                    obtain rfl := Option.some.inj H
                    go_wp2_with ((go_at_call 26; (with_reducible refine (scan_All.calls (a0.extract (t496 : Int).toNat a0.size) t499 t500 _ A12.out).mono ?_); rintro e w36 ⟨v501, rfl, ho0, hb⟩; have n0_ := Aside0.mk (Kd.S_elder' (by (with_reducible repeat (first | apply Kd.S_alloc | apply Kd.S_drewN | apply Kd.S_drew)); exact HO_3.out) (Kd.S_base ho0) hb); have n1_ := Aside0.mk (Kd.S_lower (Kd.S_new' ho0 (Kd.S_lt (by (with_reducible repeat (first | apply Kd.S_alloc | apply Kd.S_drewN | apply Kd.S_drew)); exact HO_3.out))) (below_size (by repeat (first | (with_reducible first | exact HB.out | apply below_alloc | apply pw_below_drewN | apply below_drew1) | exact HB.out)))); have n2_ := Aside0.mk (below_step (by repeat (first | (with_reducible first | exact HB.out | apply below_alloc | apply pw_below_drewN | apply below_drew1) | exact HB.out)) hb); clear HO_3; clear HB; have HO_3 := n0_; have HO502 := n1_; have HB := n2_; clear n0_ n1_ n2_; (try clear hb); (try clear hb2); (try clear hk); (try clear hi); (try clear ho0); obtain ⟨Ao37, co37, eo37⟩ := Kd.S_slice HO_3.out; subst eo37; obtain ⟨Ao38, co38, eo38⟩ := Kd.S_slice HO502.out; subst eo38))
                    repeat (go_quiet (fail); try go_wp2_with ((go_at_call 25; (with_reducible refine (sheetpilelaw20_live.calls  t507 _ A35.out).mono ?_); rintro e w39 ⟨rfl, hb⟩; have n0_ := Aside0.mk (Kd.S_below (by (with_reducible repeat (first | apply Kd.S_alloc | apply Kd.S_drewN | apply Kd.S_drew)); exact HO_3.out) hb); have n1_ := Aside0.mk (Kd.S_below (by (with_reducible repeat (first | apply Kd.S_alloc | apply Kd.S_drewN | apply Kd.S_drew)); exact HO502.out) hb); have n2_ := Aside0.mk (below_step (by repeat (first | (with_reducible first | exact HB.out | apply below_alloc | apply pw_below_drewN | apply below_drew1) | exact HB.out)) hb); clear HO_3; clear HO502; clear HB; have HO_3 := n0_; have HO502 := n1_; have HB := n2_; clear n0_ n1_ n2_; (try clear hb); (try clear hb2); (try clear hk); (try clear hi))))
                    go_ret
                    exact ⟨by first | rfl | (simp [errW_none, errW_some] <;> rfl) | (simp [*, errW_none, errW_some] <;> rfl), by repeat (first | (with_reducible first | exact HB.out | apply below_alloc | apply pw_below_drewN | apply below_drew1) | exact HB.out)⟩
                  · rw [if_neg c34] at H
                    have c34b0 : (t500 == 0) = false := beq_eq_false_iff_ne.mpr c34
                    have c34b1 : (t500 != 0) = true := bne_iff_ne.mpr c34
                    obtain rfl := Option.some.inj H
                    go_wp2_with ((go_at_call 26; (with_reducible refine (scan_All.calls (a0.extract (t496 : Int).toNat a0.size) t499 t500 _ A12.out).mono ?_); rintro e w40 ⟨v501, rfl, ho0, hb⟩; have n0_ := Aside0.mk (Kd.S_elder' (by (with_reducible repeat (first | apply Kd.S_alloc | apply Kd.S_drewN | apply Kd.S_drew)); exact HO_3.out) (Kd.S_base ho0) hb); have n1_ := Aside0.mk (Kd.S_lower (Kd.S_new' ho0 (Kd.S_lt (by (with_reducible repeat (first | apply Kd.S_alloc | apply Kd.S_drewN | apply Kd.S_drew)); exact HO_3.out))) (below_size (by repeat (first | (with_reducible first | exact HB.out | apply below_alloc | apply pw_below_drewN | apply below_drew1) | exact HB.out)))); have n2_ := Aside0.mk (below_step (by repeat (first | (with_reducible first | exact HB.out | apply below_alloc | apply pw_below_drewN | apply below_drew1) | exact HB.out)) hb); clear HO_3; clear HB; have HO_3 := n0_; have HO502 := n1_; have HB := n2_; clear n0_ n1_ n2_; (try clear hb); (try clear hb2); (try clear hk); (try clear hi); (try clear ho0); obtain ⟨Ao41, co41, eo41⟩ := Kd.S_slice HO_3.out; subst eo41; obtain ⟨Ao42, co42, eo42⟩ := Kd.S_slice HO502.out; subst eo42))
                    repeat (go_quiet (fail); try go_wp2)
                    go_ret
                    exact ⟨by first | rfl | (simp [errW_none, errW_some] <;> rfl) | (simp [*, errW_none, errW_some] <;> rfl), by repeat (first | (with_reducible first | exact HB.out | apply below_alloc | apply pw_below_drewN | apply below_drew1) | exact HB.out)⟩
                · rw [if_neg c33] at H
                  have c33b0 : ((t499.length : Int) == 0) = false := beq_eq_false_iff_ne.mpr c33
                  have c33b1 : ((t499.length : Int) != 0) = true := bne_iff_ne.mpr c33
                  have c33b2 : ¬ (t499 = []) := fun h_ => c33 (by rw [h_]; rfl)
                  obtain rfl := Option.some.inj H
                  go_wp2_with ((go_at_call 26; (with_reducible refine (scan_All.calls (a0.extract (t496 : Int).toNat a0.size) t499 t500 _ A12.out).mono ?_); rintro e w43 ⟨v501, rfl, ho0, hb⟩; have n0_ := Aside0.mk (Kd.S_elder' (by (with_reducible repeat (first | apply Kd.S_alloc | apply Kd.S_drewN | apply Kd.S_drew)); exact HO_3.out) (Kd.S_base ho0) hb); have n1_ := Aside0.mk (Kd.S_lower (Kd.S_new' ho0 (Kd.S_lt (by (with_reducible repeat (first | apply Kd.S_alloc | apply Kd.S_drewN | apply Kd.S_drew)); exact HO_3.out))) (below_size (by repeat (first | (with_reducible first | exact HB.out | apply below_alloc | apply pw_below_drewN | apply below_drew1) | exact HB.out)))); have n2_ := Aside0.mk (below_step (by repeat (first | (with_reducible first | exact HB.out | apply below_alloc | apply pw_below_drewN | apply below_drew1) | exact HB.out)) hb); clear HO_3; clear HB; have HO_3 := n0_; have HO502 := n1_; have HB := n2_; clear n0_ n1_ n2_; (try clear hb); (try clear hb2); (try clear hk); (try clear hi); (try clear ho0); obtain ⟨Ao44, co44, eo44⟩ := Kd.S_slice HO_3.out; subst eo44; obtain ⟨Ao45, co45, eo45⟩ := Kd.S_slice HO502.out; subst eo45))
                  repeat (go_quiet (fail); try go_wp2)
                  go_ret
                  exact ⟨by first | rfl | (simp [errW_none, errW_some] <;> rfl) | (simp [*, errW_none, errW_some] <;> rfl), by repeat (first | (with_reducible first | exact HB.out | apply below_alloc | apply pw_below_drewN | apply below_drew1) | exact HB.out)⟩
            · rw [if_neg c11] at H
              exact absurd H (by simp)
          · rw [if_neg c10] at H
            exact absurd H (by simp)

/-- THE ONE PURE STATEMENT of sheetpilelaw20_ScanBehind: yours. -/
def sheetpilelaw20_ScanBehind.Pure : Prop := ∀ (a0 : ByteArray), a0.size ≤ 140737488351232 → ∃ k, sheetpilelaw20_ScanBehind.f k a0 = some true
theorem sheetpilelaw20_ScanBehind.walk (P : sheetpilelaw20_ScanBehind.Pure) (a0 : ByteArray) (w : World) (w0 : a0.size ≤ 140737488351232) :
    Calls Try.prog 14 #[.string a0] w fun e w' => e = .returned (.bool true) ∧ Below w.heap.size w w' := by
  obtain ⟨k, h⟩ := P a0 w0
  refine (sheetpilelaw20_ScanBehind.calls k a0 true w h).mono ?_
  rintro e w' ⟨rfl, hd⟩
  exact ⟨rfl, hd⟩

end Go.Proofs.Ytcgbjkjacpeheaa.PFr
