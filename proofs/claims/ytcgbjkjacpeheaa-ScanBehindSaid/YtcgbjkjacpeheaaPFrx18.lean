-- Laid by a program of this session (wip/mkprint.py); checked by Lean alone
import Derived.Test.YtcgbjkjacpeheaaPFrx0
import Derived.Test.YtcgbjkjacpeheaaPFrx7
import Derived.Test.YtcgbjkjacpeheaaPFrx10
import Derived.Test.YtcgbjkjacpeheaaScan20
import Derived.Test.YtcgbjkjacpeheaaScanWrite
namespace Go.Proofs.Ytcgbjkjacpeheaa.Given
end Go.Proofs.Ytcgbjkjacpeheaa.Given
namespace Go.Proofs.Ytcgbjkjacpeheaa.PFr
open Go.Proofs.Ytcgbjkjacpeheaa.Given
open Go.RowKit Go.Proofs.YtcgbjkjacpeheaaW.PrintWords Go.Proofs.YtcgbjkjacpeheaaW.PrintLast Go.Proofs.YtcgbjkjacpeheaaW.PrintMore
attribute [local go_sem] max2_int min2_int max_two min_two max_three min_three max_four min_four   -- for this text's walks alone
set_option linter.unusedVariables false
set_option linter.unusedSimpArgs false

attribute [local go_sem] isSome_setCell_
-- given: function 31 (scan_Write)

/-! ### sheetpilelaw20_live0: function 25 -/
def sheetpilelaw20_live0.f  : Option (Bool) := (scan_Write.f 5 (([(([(⟨(⟨#[97]⟩ : ByteArray), (⟨#[49]⟩ : ByteArray), false⟩ : S62)] : List (S62))), (([(⟨(⟨#[97]⟩ : ByteArray), (⟨#[]⟩ : ByteArray), true⟩ : S62)] : List (S62)))] : List (List (S62))))).bind fun bt349 => (if bt349.1.size + 4 ≤ 9223372036854775807 then ((scan_All.f (bt349.1 ++ (⟨#[106, 117, 110, 107]⟩ : ByteArray))).bind fun bt351 => ((scan_Write.f 0 (([[]] : List (List (S62))))).bind fun bt358 => ((scan_All.f (⟨#[]⟩ : ByteArray)).bind fun bt360 => (if bt349.2 = 0 then (if (bt351.1.length : Int) = 2 then (if 1 < (bt351.1.length : Int) then (if ((rd_T30 bt351.1 1).f0) = 6 then (if bt351.2 = (bt349.1.size : Int) then (if bt351.2 > 0 then (if bt358.2 = 1 then (if (bt360.1.length : Int) = 0 then (some (bt360.2 == 0)) else (some false)) else (some false)) else (some false)) else (some false)) else (some false)) else (none)) else (some false)) else (some false))))) else (none))
set_option maxHeartbeats 8000000 in
set_option maxRecDepth 100000 in
theorem sheetpilelaw20_live0.calls  (w : World) (h : sheetpilelaw20_live0.f  = some true) :
    Calls Try.prog 25 #[] w fun e w' => e = .returned (.bool true) ∧ Below w.heap.size w w' := by
  have hu62 := Try.underlying62
  have HB := Aside0.mk (Below.refl w.heap.size w)
  have H : ((scan_Write.f 5 (([(([(⟨(⟨#[97]⟩ : ByteArray), (⟨#[49]⟩ : ByteArray), false⟩ : S62)] : List (S62))), (([(⟨(⟨#[97]⟩ : ByteArray), (⟨#[]⟩ : ByteArray), true⟩ : S62)] : List (S62)))] : List (List (S62))))).bind fun bt349 => (if bt349.1.size + 4 ≤ 9223372036854775807 then ((scan_All.f (bt349.1 ++ (⟨#[106, 117, 110, 107]⟩ : ByteArray))).bind fun bt351 => ((scan_Write.f 0 (([[]] : List (List (S62))))).bind fun bt358 => ((scan_All.f (⟨#[]⟩ : ByteArray)).bind fun bt360 => (if bt349.2 = 0 then (if (bt351.1.length : Int) = 2 then (if 1 < (bt351.1.length : Int) then (if ((rd_T30 bt351.1 1).f0) = 6 then (if bt351.2 = (bt349.1.size : Int) then (if bt351.2 > 0 then (if bt358.2 = 1 then (if (bt360.1.length : Int) = 0 then (some (bt360.2 == 0)) else (some false)) else (some false)) else (some false)) else (some false)) else (some false)) else (none)) else (some false)) else (some false))))) else (none))) = some true := h
  clear h
  obtain ⟨y340, hy340⟩ : ∃ y_ : List (S62), y_ = (([(⟨(⟨#[97]⟩ : ByteArray), (⟨#[49]⟩ : ByteArray), false⟩ : S62)] : List (S62))) := ⟨_, rfl⟩
  replace H : ((scan_Write.f 5 (([y340, (([(⟨(⟨#[97]⟩ : ByteArray), (⟨#[]⟩ : ByteArray), true⟩ : S62)] : List (S62)))] : List (List (S62))))).bind fun bt349 => (if bt349.1.size + 4 ≤ 9223372036854775807 then ((scan_All.f (bt349.1 ++ (⟨#[106, 117, 110, 107]⟩ : ByteArray))).bind fun bt351 => ((scan_Write.f 0 (([[]] : List (List (S62))))).bind fun bt358 => ((scan_All.f (⟨#[]⟩ : ByteArray)).bind fun bt360 => (if bt349.2 = 0 then (if (bt351.1.length : Int) = 2 then (if 1 < (bt351.1.length : Int) then (if ((rd_T30 bt351.1 1).f0) = 6 then (if bt351.2 = (bt349.1.size : Int) then (if bt351.2 > 0 then (if bt358.2 = 1 then (if (bt360.1.length : Int) = 0 then (some (bt360.2 == 0)) else (some false)) else (some false)) else (some false)) else (some false)) else (some false)) else (none)) else (some false)) else (some false))))) else (none))) = some true := by first | (rw [hy340]; with_reducible exact H) | (have H2_ := (Option.bind_some _ _).symm.trans H; rw [hy340]; with_reducible exact H2_) | (have H2_ := (Option.bind_some _ _).symm.trans H; with_reducible exact H2_) | with_reducible exact H | (rw [hy340]; exact H) | exact H
  have Ny340 := Aside0.mk hy340
  clear hy340
  obtain ⟨y343, hy343⟩ : ∃ y_ : List (S62), y_ = (([(⟨(⟨#[97]⟩ : ByteArray), (⟨#[]⟩ : ByteArray), true⟩ : S62)] : List (S62))) := ⟨_, rfl⟩
  replace H : ((scan_Write.f 5 (([y340, y343] : List (List (S62))))).bind fun bt349 => (if bt349.1.size + 4 ≤ 9223372036854775807 then ((scan_All.f (bt349.1 ++ (⟨#[106, 117, 110, 107]⟩ : ByteArray))).bind fun bt351 => ((scan_Write.f 0 (([[]] : List (List (S62))))).bind fun bt358 => ((scan_All.f (⟨#[]⟩ : ByteArray)).bind fun bt360 => (if bt349.2 = 0 then (if (bt351.1.length : Int) = 2 then (if 1 < (bt351.1.length : Int) then (if ((rd_T30 bt351.1 1).f0) = 6 then (if bt351.2 = (bt349.1.size : Int) then (if bt351.2 > 0 then (if bt358.2 = 1 then (if (bt360.1.length : Int) = 0 then (some (bt360.2 == 0)) else (some false)) else (some false)) else (some false)) else (some false)) else (some false)) else (none)) else (some false)) else (some false))))) else (none))) = some true := by first | (rw [hy343]; with_reducible exact H) | (have H2_ := (Option.bind_some _ _).symm.trans H; rw [hy343]; with_reducible exact H2_) | (have H2_ := (Option.bind_some _ _).symm.trans H; with_reducible exact H2_) | with_reducible exact H | (rw [hy343]; exact H) | exact H
  have Ny343 := Aside0.mk hy343
  clear hy343
  obtain ⟨y346, hy346⟩ : ∃ y_ : List (List (S62)), y_ = (([y340, y343] : List (List (S62)))) := ⟨_, rfl⟩
  replace H : ((scan_Write.f 5 y346).bind fun bt349 => (if bt349.1.size + 4 ≤ 9223372036854775807 then ((scan_All.f (bt349.1 ++ (⟨#[106, 117, 110, 107]⟩ : ByteArray))).bind fun bt351 => ((scan_Write.f 0 (([[]] : List (List (S62))))).bind fun bt358 => ((scan_All.f (⟨#[]⟩ : ByteArray)).bind fun bt360 => (if bt349.2 = 0 then (if (bt351.1.length : Int) = 2 then (if 1 < (bt351.1.length : Int) then (if ((rd_T30 bt351.1 1).f0) = 6 then (if bt351.2 = (bt349.1.size : Int) then (if bt351.2 > 0 then (if bt358.2 = 1 then (if (bt360.1.length : Int) = 0 then (some (bt360.2 == 0)) else (some false)) else (some false)) else (some false)) else (some false)) else (some false)) else (none)) else (some false)) else (some false))))) else (none))) = some true := by first | (rw [hy346]; with_reducible exact H) | (have H2_ := (Option.bind_some _ _).symm.trans H; rw [hy346]; with_reducible exact H2_) | (have H2_ := (Option.bind_some _ _).symm.trans H; with_reducible exact H2_) | with_reducible exact H | (rw [hy346]; exact H) | exact H
  have Ny346 := Aside0.mk hy346
  clear hy346
  replace H := Option.bind_eq_some_iff.mp H
  obtain ⟨⟨t349, t350⟩, A10, H⟩ := H
  replace H : (if t349.size + 4 ≤ 9223372036854775807 then ((scan_All.f (t349 ++ (⟨#[106, 117, 110, 107]⟩ : ByteArray))).bind fun bt351 => ((scan_Write.f 0 (([[]] : List (List (S62))))).bind fun bt358 => ((scan_All.f (⟨#[]⟩ : ByteArray)).bind fun bt360 => (if t350 = 0 then (if (bt351.1.length : Int) = 2 then (if 1 < (bt351.1.length : Int) then (if ((rd_T30 bt351.1 1).f0) = 6 then (if bt351.2 = (t349.size : Int) then (if bt351.2 > 0 then (if bt358.2 = 1 then (if (bt360.1.length : Int) = 0 then (some (bt360.2 == 0)) else (some false)) else (some false)) else (some false)) else (some false)) else (some false)) else (none)) else (some false)) else (some false))))) else (none)) = some true := H
  have A1 := Aside0.mk A10
  clear A10
  by_cases c2 : t349.size + 4 ≤ 9223372036854775807
  · rw [if_pos c2] at H
    have c2b0 := eq_true c2
    have c2b1 : decide (t349.size + 4 ≤ 9223372036854775807) = true := decide_eq_true c2
    try have c2b2 : (9223372036854775807 < t349.size + 4) = False := eq_false (Nat.not_lt.2 c2)
    replace H := Option.bind_eq_some_iff.mp H
    obtain ⟨⟨t351, t352⟩, A30, H⟩ := H
    replace H : ((scan_Write.f 0 (([[]] : List (List (S62))))).bind fun bt358 => ((scan_All.f (⟨#[]⟩ : ByteArray)).bind fun bt360 => (if t350 = 0 then (if (t351.length : Int) = 2 then (if 1 < (t351.length : Int) then (if ((rd_T30 t351 1).f0) = 6 then (if t352 = (t349.size : Int) then (if t352 > 0 then (if bt358.2 = 1 then (if (bt360.1.length : Int) = 0 then (some (bt360.2 == 0)) else (some false)) else (some false)) else (some false)) else (some false)) else (some false)) else (none)) else (some false)) else (some false)))) = some true := H
    have A3 := Aside0.mk A30
    clear A30
    obtain ⟨y355, hy355⟩ : ∃ y_ : List (List (S62)), y_ = (([[]] : List (List (S62)))) := ⟨_, rfl⟩
    replace H : ((scan_Write.f 0 y355).bind fun bt358 => ((scan_All.f (⟨#[]⟩ : ByteArray)).bind fun bt360 => (if t350 = 0 then (if (t351.length : Int) = 2 then (if 1 < (t351.length : Int) then (if ((rd_T30 t351 1).f0) = 6 then (if t352 = (t349.size : Int) then (if t352 > 0 then (if bt358.2 = 1 then (if (bt360.1.length : Int) = 0 then (some (bt360.2 == 0)) else (some false)) else (some false)) else (some false)) else (some false)) else (some false)) else (none)) else (some false)) else (some false)))) = some true := by first | (rw [hy355]; with_reducible exact H) | (have H2_ := (Option.bind_some _ _).symm.trans H; rw [hy355]; with_reducible exact H2_) | (have H2_ := (Option.bind_some _ _).symm.trans H; with_reducible exact H2_) | with_reducible exact H | (rw [hy355]; exact H) | exact H
    have Ny355 := Aside0.mk hy355
    clear hy355
    replace H := Option.bind_eq_some_iff.mp H
    obtain ⟨⟨t358, t359⟩, A40, H⟩ := H
    replace H : ((scan_All.f (⟨#[]⟩ : ByteArray)).bind fun bt360 => (if t350 = 0 then (if (t351.length : Int) = 2 then (if 1 < (t351.length : Int) then (if ((rd_T30 t351 1).f0) = 6 then (if t352 = (t349.size : Int) then (if t352 > 0 then (if t359 = 1 then (if (bt360.1.length : Int) = 0 then (some (bt360.2 == 0)) else (some false)) else (some false)) else (some false)) else (some false)) else (some false)) else (none)) else (some false)) else (some false))) = some true := H
    have A4 := Aside0.mk A40
    clear A40
    replace H := Option.bind_eq_some_iff.mp H
    obtain ⟨⟨t360, t361⟩, A50, H⟩ := H
    replace H : (if t350 = 0 then (if (t351.length : Int) = 2 then (if 1 < (t351.length : Int) then (if ((rd_T30 t351 1).f0) = 6 then (if t352 = (t349.size : Int) then (if t352 > 0 then (if t359 = 1 then (if (t360.length : Int) = 0 then (some (t361 == 0)) else (some false)) else (some false)) else (some false)) else (some false)) else (some false)) else (none)) else (some false)) else (some false)) = some true := H
    have A5 := Aside0.mk A50
    clear A50
    by_cases c6 : t350 = 0
    · rw [if_pos c6] at H
      have c6b0 : (t350 == 0) = true := beq_iff_eq.mpr c6
      have c6b1 : (t350 != 0) = false := bne_eq_false_iff_eq.mpr c6
      clear c6
      by_cases c7 : (t351.length : Int) = 2
      · rw [if_pos c7] at H
        have c7b0 : ((t351.length : Int) == 2) = true := beq_iff_eq.mpr c7
        have c7b1 : ((t351.length : Int) != 2) = false := bne_eq_false_iff_eq.mpr c7
        clear c7
        by_cases c8 : 1 < (t351.length : Int)
        · rw [if_pos c8] at H
          have c8b0 : decide (1 < (t351.length : Int)) = true := decide_eq_true c8
          have c8b1 : decide (1 < t351.length) = true := decide_eq_true (by omega)
          clear c8
          by_cases c9 : ((rd_T30 t351 1).f0) = 6
          · rw [if_pos c9] at H
            have c9b0 : (((rd_T30 t351 1).f0) == 6) = true := beq_iff_eq.mpr c9
            have c9b1 : (((rd_T30 t351 1).f0) != 6) = false := bne_eq_false_iff_eq.mpr c9
            clear c9
            by_cases c10 : t352 = (t349.size : Int)
            · rw [if_pos c10] at H
              have c10b0 : (t352 == (t349.size : Int)) = true := beq_iff_eq.mpr c10
              have c10b1 : (t352 != (t349.size : Int)) = false := bne_eq_false_iff_eq.mpr c10
              clear c10
              by_cases c11 : t352 > 0
              · rw [if_pos c11] at H
                have c11b0 : decide (0 < t352) = true := decide_eq_true c11
                clear c11
                by_cases c12 : t359 = 1
                · rw [if_pos c12] at H
                  have c12b0 : (t359 == 1) = true := beq_iff_eq.mpr c12
                  have c12b1 : (t359 != 1) = false := bne_eq_false_iff_eq.mpr c12
                  clear c12
                  by_cases c13 : (t360.length : Int) = 0
                  · rw [if_pos c13] at H
                    have c13b0 : ((t360.length : Int) == 0) = true := beq_iff_eq.mpr c13
                    have c13b1 : ((t360.length : Int) != 0) = false := bne_eq_false_iff_eq.mpr c13
                    clear c13
                    have HF_ := Option.some.inj H
                    go_enter Try.func25, Try.ntmps25
                    go_wp2_with (first | ((with_reducible refine gate_dst (N := 11) rfl ?_); (try (refine gate_guard (by rfl) ?_; dsimp only)); refine Kd.R_lit k62 _ 62 ?hg (N := 11) ?hd (xs := ([(⟨(⟨#[97]⟩ : ByteArray), (⟨#[49]⟩ : ByteArray), false⟩ : S62)] : List (S62))) (inner := [.string (⟨#[97]⟩ : ByteArray), .string (⟨#[49]⟩ : ByteArray), .bool false]) (ok := fun _ => True) (okp := fun _ => True) ?hr ?hp (fun _ hk => hk) trivial (Below.refl _ _) (Nat.le_refl _) (by simp) ?_; (case hd => rfl); (case hg => rfl); (case hr => first | (go_simp; done) | (go_simp; rfl)); (case hp => exact (Reps.c3 (show Kd.M k62 _ _ _ (⟨(⟨#[97]⟩ : ByteArray), (⟨#[49]⟩ : ByteArray), false⟩ : S62) [.string (⟨#[97]⟩ : ByteArray), .string (⟨#[49]⟩ : ByteArray), .bool false] from (k62_mkM _ _ _ (⟨(⟨#[97]⟩ : ByteArray), (⟨#[49]⟩ : ByteArray), false⟩ : S62) )) (Reps.none _ _))); intro v341 w14 ho15 hb hg_ hnew_; clear hg_ hnew_; (first | rw [← Ny340.out] at ho15 | (simp only [Int.reduceToNat] at ho15; rw [← Ny340.out] at ho15)); have n0_ := Aside0.mk (Kd.R_lower ho15 (below_size (by repeat (first | (with_reducible first | exact HB.out | apply below_alloc | apply pw_below_drewN | apply below_drew1) | exact HB.out)))); have n1_ := Aside0.mk (below_step (by repeat (first | (with_reducible first | exact HB.out | apply below_alloc | apply pw_below_drewN | apply below_drew1) | exact HB.out)) hb); clear HB; have HO342 := n0_; have HB := n1_; clear n0_ n1_; clear hb ho15) | ((with_reducible refine gate_dst (N := 13) rfl ?_); (try (refine gate_guard (by rfl) ?_; dsimp only)); refine Kd.R_lit k62 _ 62 ?hg (N := 13) ?hd (xs := ([(⟨(⟨#[97]⟩ : ByteArray), (⟨#[]⟩ : ByteArray), true⟩ : S62)] : List (S62))) (inner := [.string (⟨#[97]⟩ : ByteArray), .string (⟨#[]⟩ : ByteArray), .bool true]) (ok := fun _ => True) (okp := fun _ => True) ?hr ?hp (fun _ hk => hk) trivial (Below.refl _ _) (Nat.le_refl _) (by simp) ?_; (case hd => rfl); (case hg => rfl); (case hr => first | (go_simp; done) | (go_simp; rfl)); (case hp => exact (Reps.c3 (show Kd.M k62 _ _ _ (⟨(⟨#[97]⟩ : ByteArray), (⟨#[]⟩ : ByteArray), true⟩ : S62) [.string (⟨#[97]⟩ : ByteArray), .string (⟨#[]⟩ : ByteArray), .bool true] from (k62_mkM _ _ _ (⟨(⟨#[97]⟩ : ByteArray), (⟨#[]⟩ : ByteArray), true⟩ : S62) )) (Reps.none _ _))); intro v344 w16 ho17 hb hg_ hnew_; clear hg_ hnew_; (first | rw [← Ny343.out] at ho17 | (simp only [Int.reduceToNat] at ho17; rw [← Ny343.out] at ho17)); have n0_ := Aside0.mk (Kd.R_elder' (by (with_reducible repeat (first | apply Kd.R_alloc | apply Kd.R_drewN | apply Kd.R_drew)); exact HO342.out) (Kd.R_base ho17) hb); have n1_ := Aside0.mk (Kd.R_lower (Kd.R_new' ho17 (Kd.R_lt (by (with_reducible repeat (first | apply Kd.R_alloc | apply Kd.R_drewN | apply Kd.R_drew)); exact HO342.out))) (below_size (by repeat (first | (with_reducible first | exact HB.out | apply below_alloc | apply pw_below_drewN | apply below_drew1) | exact HB.out)))); have n2_ := Aside0.mk (below_step (by repeat (first | (with_reducible first | exact HB.out | apply below_alloc | apply pw_below_drewN | apply below_drew1) | exact HB.out)) hb); clear HO342; clear HB; have HO342 := n0_; have HO345 := n1_; have HB := n2_; clear n0_ n1_ n2_; clear hb ho17; obtain ⟨Ao18, co18, eo18⟩ := Kd.R_slice HO342.out; subst eo18; obtain ⟨Ao19, co19, eo19⟩ := Kd.R_slice HO345.out; subst eo19) | ((with_reducible refine gate_dst (N := 14) rfl ?_); (try (refine gate_guard (by rfl) ?_; dsimp only)); refine Kd.N_lit (Kd.slice 62 k62) _ 22 ?hg (N' := 14) ?hd (xs := ([y340, y343] : List (List (S62)))) (inner := [.slice Ao18 y340.length co18, .slice Ao19 y343.length co19]) (ok := (fun _ => True)) (okp := (fun _ => True)) ?hr ?hp (fun _ hk => hk) ((show ∀ k_, w16.heap.size ≤ k_ → (fun _ => True) k_ from fun k_ hk => trivial) _ (Nat.le_refl _)) (Below.refl _ _) (Nat.le_refl _) (by simp) ?_; (case hd => rfl); (case hg => rfl); (case hr => first | (go_simp; done) | (go_simp; rfl)); (case hp => exact (Reps.one (show Kd.FK (Kd.slice 62 k62) _ _ y340 [.slice Ao18 y340.length co18] from (Kd.FK_slice_mk (Kd.R_reads' (Kd.R_mono (ok' := (fun _ => True)) (HO342.out) (fun k_ hk => trivial))).2.1 (Kd.R_F (Kd.R_mono (ok' := (fun _ => True)) (HO342.out) (fun k_ hk => trivial))))) (Reps.one (show Kd.FK (Kd.slice 62 k62) _ _ y343 [.slice Ao19 y343.length co19] from (Kd.FK_slice_mk (Kd.R_reads' (Kd.R_mono (ok' := (fun _ => True)) (HO345.out) (fun k_ hk => trivial))).2.1 (Kd.R_F (Kd.R_mono (ok' := (fun _ => True)) (HO345.out) (fun k_ hk => trivial))))) (Reps.none _ _)))); intro v347 w20 ho21 hb hg_ hnew_; clear hg_ hnew_; (first | rw [← Ny346.out] at ho21 | (simp only [Int.reduceToNat] at ho21; rw [← Ny346.out] at ho21)); have n0_ := Aside0.mk (Kd.N_lower ho21 (below_size (by repeat (first | (with_reducible first | exact HB.out | apply below_alloc | apply pw_below_drewN | apply below_drew1) | exact HB.out)))); have n1_ := Aside0.mk (below_step (by repeat (first | (with_reducible first | exact HB.out | apply below_alloc | apply pw_below_drewN | apply below_drew1) | exact HB.out)) hb); clear HB; clear HO342; clear HO345; have HO348 := n0_; have HB := n1_; clear n0_ n1_; clear hb ho21; obtain ⟨Ao22, co22, eo22⟩ := Kd.N_slice HO348.out; subst eo22) | ((with_reducible refine gate_callee (f := 31) rfl ?_); refine goesL_ (some 17) rfl rfl Try.func31 (by kernel_rfl) rfl #[.int .i64 5, .slice Ao22 y346.length co22] rfl (by (try simp only [List.map_toArray, List.map_cons, List.map_nil]); first | done | rfl | (simp only [List.length_drop, List.length_take]; rfl)) ?_; (with_reducible refine (scan_Write.calls 5 _ _ y346 t349 t350 _ ?side1 ?side2 A1.out).mono ?_); (case side1 => repeat (first | exact (Kd.N_reads' HO348.out).2.2 | (with_reducible refine Kd.C_alloc ?_ _) | (with_reducible refine Kd.C_drewN ?_ _) | (with_reducible refine Kd.C_drew ?_))); (case side2 => exact (Kd.N_reads' HO348.out).2.1); rintro e w23 ⟨rfl, hb⟩; refine ⟨_, rfl, ?_⟩; have n0_ := Aside0.mk (Kd.N_below (by (with_reducible repeat (first | apply Kd.N_alloc | apply Kd.N_drewN | apply Kd.N_drew)); exact HO348.out) hb); have n1_ := Aside0.mk (below_step (by repeat (first | (with_reducible first | exact HB.out | apply below_alloc | apply pw_below_drewN | apply below_drew1) | exact HB.out)) hb); clear HO348; clear HB; have HO348 := n0_; have HB := n1_; clear n0_ n1_; (try clear hb); (try clear hb2); (try clear hk); (try clear hi)) | ((with_reducible refine gate_callee (f := 26) rfl ?_); refine goesL_ (some 23) rfl rfl Try.func26 (by kernel_rfl) rfl #[.string (t349 ++ (⟨#[106, 117, 110, 107]⟩ : ByteArray))] rfl (by (try simp only [List.map_toArray, List.map_cons, List.map_nil]); first | done | rfl | (simp only [List.length_drop, List.length_take]; rfl)) ?_; (with_reducible refine (scan_All.calls (t349 ++ (⟨#[106, 117, 110, 107]⟩ : ByteArray)) t351 t352 _ A3.out).mono ?_); rintro e w24 ⟨v353, rfl, ho0, hb⟩; refine ⟨_, rfl, ?_⟩; have n0_ := Aside0.mk (Kd.N_elder' (by (with_reducible repeat (first | apply Kd.N_alloc | apply Kd.N_drewN | apply Kd.N_drew)); exact HO348.out) (by first | exact Kd.N_base ho0 | exact Kd.S_base ho0) hb); have n1_ := Aside0.mk (Kd.N_lower (Kd.N_mono (ok' := fun k_ => some k_ ≠ (.slice Ao22 y346.length co22 : Value).ownBlock) (Kd.S_N (Kd.S_bound ho0)) (fun k_ hk_ => (Kd.fresh' (Kd.N_lt (by (with_reducible repeat (first | apply Kd.N_alloc | apply Kd.N_drewN | apply Kd.N_drew)); exact HO348.out)) k_ hk_.2.1))) (below_size (by repeat (first | (with_reducible first | exact HB.out | apply below_alloc | apply pw_below_drewN | apply below_drew1) | exact HB.out)))); have n2_ := Aside0.mk (below_step (by repeat (first | (with_reducible first | exact HB.out | apply below_alloc | apply pw_below_drewN | apply below_drew1) | exact HB.out)) hb); clear HO348; clear HB; have HO348 := n0_; have HO354 := n1_; have HB := n2_; clear n0_ n1_ n2_; (try clear hb); (try clear hb2); (try clear hk); (try clear hi); (try clear ho0)) | ((with_reducible refine gate_dst (N := 27) rfl ?_); (try (refine gate_guard (by rfl) ?_; dsimp only)); refine Kd.N_lit (Kd.slice 62 k62) _ 22 ?hg (N' := 27) ?hd (xs := ([[]] : List (List (S62)))) (inner := [.slice none 0 0]) (ok := (fun k_ => some k_ ≠ (.slice Ao22 y346.length co22 : Value).ownBlock ∧ some k_ ≠ (v353 : Value).ownBlock)) (okp := (fun k_ => some k_ ≠ (.slice Ao22 y346.length co22 : Value).ownBlock ∧ some k_ ≠ (v353 : Value).ownBlock)) ?hr ?hp (fun _ hk => hk) ((show ∀ k_, w24.heap.size ≤ k_ → (fun k_ => some k_ ≠ (.slice Ao22 y346.length co22 : Value).ownBlock ∧ some k_ ≠ (v353 : Value).ownBlock) k_ from fun k_ hk => ⟨Kd.fresh' (Kd.N_lt (by (with_reducible repeat (first | apply Kd.N_alloc | apply Kd.N_drewN | apply Kd.N_drew)); exact HO348.out)) k_ hk, Kd.fresh' (Kd.N_lt (by (with_reducible repeat (first | apply Kd.N_alloc | apply Kd.N_drewN | apply Kd.N_drew)); exact HO354.out)) k_ hk⟩) _ (Nat.le_refl _)) (Below.refl _ _) (Nat.le_refl _) (by simp) ?_; (case hd => rfl); (case hg => rfl); (case hr => first | (go_simp; done) | (go_simp; rfl)); (case hp => exact (Reps.one (show Kd.FK (Kd.slice 62 k62) _ _ [] [.slice none 0 0] from (Kd.FK_slice_mk (Nat.le_refl _) (Kd.F_nil _ _ _))) (Reps.none _ _))); intro v356 w25 ho26 hb hg_ hnew_; clear hg_ hnew_; (first | rw [← Ny355.out] at ho26 | (simp only [Int.reduceToNat] at ho26; rw [← Ny355.out] at ho26)); have n0_ := Aside0.mk (Kd.N_elder' (by (with_reducible repeat (first | apply Kd.N_alloc | apply Kd.N_drewN | apply Kd.N_drew)); exact HO348.out) (Kd.N_base ho26) hb); have n1_ := Aside0.mk (Kd.N_elder' (by (with_reducible repeat (first | apply Kd.N_alloc | apply Kd.N_drewN | apply Kd.N_drew)); exact HO354.out) (Kd.N_base ho26) hb); have n2_ := Aside0.mk (Kd.N_lower ho26 (below_size (by repeat (first | (with_reducible first | exact HB.out | apply below_alloc | apply pw_below_drewN | apply below_drew1) | exact HB.out)))); have n3_ := Aside0.mk (below_step (by repeat (first | (with_reducible first | exact HB.out | apply below_alloc | apply pw_below_drewN | apply below_drew1) | exact HB.out)) hb); clear HO348; clear HO354; clear HB; have HO348 := n0_; have HO354 := n1_; have HO357 := n2_; have HB := n3_; clear n0_ n1_ n2_ n3_; clear hb ho26; obtain ⟨Ao27, co27, eo27⟩ := Kd.N_slice HO357.out; subst eo27) | ((with_reducible refine gate_callee (f := 31) rfl ?_); refine goesL_ (some 28) rfl rfl Try.func31 (by kernel_rfl) rfl #[.int .i64 0, .slice Ao27 y355.length co27] rfl (by (try simp only [List.map_toArray, List.map_cons, List.map_nil]); first | done | rfl | (simp only [List.length_drop, List.length_take]; rfl)) ?_; (with_reducible refine (scan_Write.calls 0 _ _ y355 t358 t359 _ ?side1 ?side2 A4.out).mono ?_); (case side1 => repeat (first | exact (Kd.N_reads' HO357.out).2.2 | (with_reducible refine Kd.C_alloc ?_ _) | (with_reducible refine Kd.C_drewN ?_ _) | (with_reducible refine Kd.C_drew ?_))); (case side2 => exact (Kd.N_reads' HO357.out).2.1); rintro e w28 ⟨rfl, hb⟩; refine ⟨_, rfl, ?_⟩; have n0_ := Aside0.mk (Kd.N_below (by (with_reducible repeat (first | apply Kd.N_alloc | apply Kd.N_drewN | apply Kd.N_drew)); exact HO348.out) hb); have n1_ := Aside0.mk (Kd.N_below (by (with_reducible repeat (first | apply Kd.N_alloc | apply Kd.N_drewN | apply Kd.N_drew)); exact HO354.out) hb); have n2_ := Aside0.mk (Kd.N_below (by (with_reducible repeat (first | apply Kd.N_alloc | apply Kd.N_drewN | apply Kd.N_drew)); exact HO357.out) hb); have n3_ := Aside0.mk (below_step (by repeat (first | (with_reducible first | exact HB.out | apply below_alloc | apply pw_below_drewN | apply below_drew1) | exact HB.out)) hb); clear HO348; clear HO354; clear HO357; clear HB; have HO348 := n0_; have HO354 := n1_; have HO357 := n2_; have HB := n3_; clear n0_ n1_ n2_ n3_; (try clear hb); (try clear hb2); (try clear hk); (try clear hi)) | ((with_reducible refine gate_callee (f := 26) rfl ?_); refine goesL_ (some 32) rfl rfl Try.func26 (by kernel_rfl) rfl #[.string (⟨#[]⟩ : ByteArray)] rfl (by (try simp only [List.map_toArray, List.map_cons, List.map_nil]); first | done | rfl | (simp only [List.length_drop, List.length_take]; rfl)) ?_; (with_reducible refine (scan_All.calls (⟨#[]⟩ : ByteArray) t360 t361 _ A5.out).mono ?_); rintro e w29 ⟨v362, rfl, ho0, hb⟩; refine ⟨_, rfl, ?_⟩; have n0_ := Aside0.mk (Kd.N_elder' (by (with_reducible repeat (first | apply Kd.N_alloc | apply Kd.N_drewN | apply Kd.N_drew)); exact HO348.out) (by first | exact Kd.N_base ho0 | exact Kd.S_base ho0) hb); have n1_ := Aside0.mk (Kd.N_elder' (by (with_reducible repeat (first | apply Kd.N_alloc | apply Kd.N_drewN | apply Kd.N_drew)); exact HO354.out) (by first | exact Kd.N_base ho0 | exact Kd.S_base ho0) hb); have n2_ := Aside0.mk (Kd.N_elder' (by (with_reducible repeat (first | apply Kd.N_alloc | apply Kd.N_drewN | apply Kd.N_drew)); exact HO357.out) (by first | exact Kd.N_base ho0 | exact Kd.S_base ho0) hb); have n3_ := Aside0.mk (Kd.N_lower (Kd.N_mono (ok' := fun k_ => some k_ ≠ (.slice Ao22 y346.length co22 : Value).ownBlock ∧ some k_ ≠ (v353 : Value).ownBlock ∧ some k_ ≠ (.slice Ao27 y355.length co27 : Value).ownBlock) (Kd.S_N (Kd.S_bound ho0)) (fun k_ hk_ => ⟨(Kd.fresh' (Kd.N_lt (by (with_reducible repeat (first | apply Kd.N_alloc | apply Kd.N_drewN | apply Kd.N_drew)); exact HO348.out)) k_ hk_.2.1), (Kd.fresh' (Kd.N_lt (by (with_reducible repeat (first | apply Kd.N_alloc | apply Kd.N_drewN | apply Kd.N_drew)); exact HO354.out)) k_ hk_.2.1), (Kd.fresh' (Kd.N_lt (by (with_reducible repeat (first | apply Kd.N_alloc | apply Kd.N_drewN | apply Kd.N_drew)); exact HO357.out)) k_ hk_.2.1)⟩)) (below_size (by repeat (first | (with_reducible first | exact HB.out | apply below_alloc | apply pw_below_drewN | apply below_drew1) | exact HB.out)))); have n4_ := Aside0.mk (below_step (by repeat (first | (with_reducible first | exact HB.out | apply below_alloc | apply pw_below_drewN | apply below_drew1) | exact HB.out)) hb); clear HO348; clear HO354; clear HO357; clear HB; have HO348 := n0_; have HO354 := n1_; have HO357 := n2_; have HO363 := n3_; have HB := n4_; clear n0_ n1_ n2_ n3_ n4_; (try clear hb); (try clear hb2); (try clear hk); (try clear hi); (try clear ho0); obtain ⟨Ao30, co30, eo30⟩ := Kd.N_slice HO354.out; subst eo30; have p364 : 0 ≤ (1 : Int) := (by omega); have q364 : 1 < (t351.length : Int) := of_decide_eq_true (by first | (with_reducible assumption) | assumption); obtain ⟨ad364, A364_1, c364_1, e364, hx364_0, hx364_1, hl364_1, hi364_1⟩ := at_T30 (Kd.N_reads' HO354.out).2.2 1 p364 q364; cases e364; obtain ⟨ce364, hce364, hMe364, hcc364⟩ := Kd.N_get HO354.out z30 1 p364 (by first | exact q364 | exact of_decide_eq_true (by first | (with_reducible assumption) | assumption) | (have e_ := (Kd.N_reads' HO354.out).1; omega)); obtain ⟨ua364_1, uc364_1, rfl, ul364_1, ge364_1⟩ := k30_openF hMe364; have hv364_1 := hcc364 1 _ rfl; rw [add_field _ _ 1 (by omega)] at hv364_1; replace hv364_1 := Option.some.inj (hv364_1.symm.trans hx364_1); injection hv364_1 with hva_ hvn_ hvc_; rw [hva_] at ge364_1; rw [hvc_] at ul364_1; have HL364_1 := Aside0.mk (show Kd.V k62 62 _ w.heap.size _ _ ((rd_T30 t351 1).f1) from Kd.V_mk ul364_1 ge364_1); clear hva_ hvn_ hvc_ ge364_1 ul364_1; clear hcc364 hce364; (try simp only [show (1 : Int).toNat = 1 from rfl, Nat.reduceMul, Nat.reduceEqDiff, Go.Addr.add, ↓reduceIte] at hx364_0); (try simp only [show (1 : Int).toNat = 1 from rfl, Nat.reduceMul, Nat.reduceEqDiff, Go.Addr.add, ↓reduceIte] at hx364_1); have qi364 : (1 < t351.length) = True := eq_true (by omega); (try rw [show ((1 : Int)).toNat = 1 from rfl] at hx364_0); (try rw [show 1 * 2 = 2 from rfl] at hx364_0); (try rw [show ((1 : Int)).toNat = 1 from rfl] at hx364_1); (try rw [show 1 * 2 = 2 from rfl] at hx364_1); have HR364_1 := Aside0.mk hi364_1; have HC364_1 := Aside0.mk hl364_1; clear hi364_1 hl364_1; replace p364 := eq_true p364; replace q364 := eq_true q364; obtain ⟨Ao31, co31, eo31⟩ := Kd.N_slice HO363.out; subst eo31))
                    go_ret
                    exact ⟨by first | rfl | (simp [errW_none, errW_some] <;> rfl) | (simp [*, errW_none, errW_some] <;> rfl), by repeat (first | (with_reducible first | exact HB.out | apply below_alloc | apply pw_below_drewN | apply below_drew1) | exact HB.out)⟩
                  · rw [if_neg c13] at H
                    exact absurd H (by simp)
                · rw [if_neg c12] at H
                  exact absurd H (by simp)
              · rw [if_neg c11] at H
                exact absurd H (by simp)
            · rw [if_neg c10] at H
              exact absurd H (by simp)
          · rw [if_neg c9] at H
            exact absurd H (by simp)
        · rw [if_neg c8] at H
          exact absurd H (by simp)
      · rw [if_neg c7] at H
        exact absurd H (by simp)
    · rw [if_neg c6] at H
      exact absurd H (by simp)
  · rw [if_neg c2] at H
    exact absurd H (by simp)
def sheetpilelaw20_live.f : Option Bool := if sheetpilelaw20_live0.f = some true then some true else none
theorem sheetpilelaw20_live.calls (r : Bool) (w : World) (h : sheetpilelaw20_live.f = some r) :
    Calls Try.prog 25 #[] w fun e w' => e = .returned (.bool r) ∧ Below w.heap.size w w' := by
  unfold sheetpilelaw20_live.f at h
  by_cases c : sheetpilelaw20_live0.f = some true
  · rw [if_pos c] at h
    obtain rfl := Option.some.inj h
    exact sheetpilelaw20_live0.calls w c
  · rw [if_neg c] at h; cases h


/-! ### sheetpileref20_All: function 27 -/
def sheetpileref20_All.l0 : Nat → ByteArray → List (S24) → ByteArray → Option ((List (S24)) × Int)
  | 0, _, _, _ => none
  | k + 1, x0, x4, x5 => (sheetpileref19_Read.f k x5).bind fun bt365 => (if bt365.2.2.2 = 0 then (if (x4.length : Int) > 0 then (if 0 ≤ (wrap64 ((x4.length : Int) - 1)) then (if (wrap64 ((x4.length : Int) - 1)) < (x4.length : Int) then (if bt365.1 = (wrap64 (((rd_T24 x4 (wrap64 ((x4.length : Int) - 1))).f0) + 1)) then (if x4.length < 4398046511104 then (sheetpileref20_All.l0 k x0 (x4 ++ [(⟨bt365.1, bt365.2.1⟩ : S24)]) bt365.2.2.1) else (none)) else (some (x4, wrap64 ((x0.size : Int) - (x5.size : Int))))) else (none)) else (none)) else (if x4.length < 4398046511104 then (sheetpileref20_All.l0 k x0 (x4 ++ [(⟨bt365.1, bt365.2.1⟩ : S24)]) bt365.2.2.1) else (none))) else (some (x4, wrap64 ((x0.size : Int) - (x5.size : Int)))))
def sheetpileref20_All.f (k : Nat) (a0 : ByteArray) : Option ((List (S24)) × Int) := sheetpileref20_All.l0 k a0 ([] : List (S24)) a0
theorem sheetpileref20_All.mono_l : ∀ k, (∀ y0 y1 y2, LeO (sheetpileref20_All.l0 k y0 y1 y2) (sheetpileref20_All.l0 (k + 1) y0 y1 y2))
  | 0 => fun _ _ _ r h => by simp [sheetpileref20_All.l0] at h
  | k + 1 => by
    have ih0 := sheetpileref20_All.mono_l k
    · intro y0 y1 y2
      unfold sheetpileref20_All.l0
      repeat' first
      | (with_reducible exact ih0 _ _ _)
      | (with_reducible exact sheetpileref19_Read.mono _ _)
      | (with_reducible exact LeO.refl _)
      | (with_reducible exact LeO.none _)
      | (with_reducible refine LeO.ite ?_ ?_)
      | (with_reducible refine LeO.bind ?_ (fun _ => ?_))
      | exact ih0 _ _ _
      | exact sheetpileref19_Read.mono _ _
      | exact LeO.none _
      | refine LeO.ite ?_ ?_
      | refine LeO.bind ?_ (fun _ => ?_)
theorem sheetpileref20_All.mono : ∀ a0 k, LeO (sheetpileref20_All.f k a0) (sheetpileref20_All.f (k + 1) a0) := by
  intro a0 k
  have ih0 := sheetpileref20_All.mono_l k
  unfold sheetpileref20_All.f
  repeat' first
      | (with_reducible exact ih0 _ _ _)
      | (with_reducible exact sheetpileref19_Read.mono _ _)
      | (with_reducible exact LeO.refl _)
      | (with_reducible exact LeO.none _)
      | (with_reducible refine LeO.ite ?_ ?_)
      | (with_reducible refine LeO.bind ?_ (fun _ => ?_))
      | exact ih0 _ _ _
      | exact sheetpileref19_Read.mono _ _
      | exact LeO.none _
      | refine LeO.ite ?_ ?_
      | refine LeO.bind ?_ (fun _ => ?_)
set_option maxHeartbeats 8000000 in
set_option maxRecDepth 100000 in
theorem sheetpileref20_All.calls (k : Nat) (a0 : ByteArray) (r1 : List (S24)) (r2 : Int) (w : World) (h : sheetpileref20_All.f k a0 = some (r1, r2)) :
    Calls Try.prog 27 #[.string a0] w fun e w' => ∃ v0_ : Value, e = .returned (.tuple #[v0_, .int .i64 r2]) ∧ Kd.S k24 24 w' w.heap.size (fun _ => True) v0_ r1 ∧ Below w.heap.size w w' := by
  have hu24 := Try.underlying24
  have HB := Aside0.mk (Below.refl w.heap.size w)
  have H : (sheetpileref20_All.l0 k a0 ([] : List (S24)) a0) = some (r1, r2) := h
  clear h
  have H' := Aside0.mk H
  clear H
  go_enter Try.func27, Try.ntmps27
  go_wp2
  repeat (go_quiet (fail); try go_wp2)
  go_loopg [4, 5] k (fun kq v4 v5 w' => ∃ (x4_1 : List (S24)) (x5_1 : ByteArray), v5 = .string x5_1 ∧ Aside0 (sheetpileref20_All.l0 kq a0 x4_1 x5_1 = some (r1, r2)) ∧ Aside0 (kq ≤ k) ∧ Aside0 (Kd.S k24 24 w' w.heap.size (fun _ => True) v4 x4_1) ∧ Aside0 (Below w.heap.size w w'))
  case atStart => exact ⟨(([] : List (S24))), (a0), (by first | rfl | (simp; done) | (simp [*]; done) | exact congrArg Value.bool (by cases ByteArray.toList a0 <;> rfl) | exact congrArg Value.bool (by cases ByteArray.toList a1 <;> rfl)), H', ⟨Nat.le_refl _⟩, ⟨by first | exact Kd.S_nil _ _ _ _ _ | exact Kd.N_nil _ _ _ _ _ | exact Kd.V_nil _ _ _ _ _ | exact Kd.Q_nil _ _ _ _ _ | exact Kd.R_nil _ _ _ _ _⟩, ⟨by repeat (first | (with_reducible first | exact HB.out | apply below_alloc | apply pw_below_drewN | apply below_drew1) | exact HB.out)⟩⟩
  case round =>
    clear H'
    obtain ⟨x4_1, x5_1, rfl, HA, HK1, HO_4, HB⟩ := hrel
    cases gk with
    | zero => exact absurd HA.out (by simp [sheetpileref20_All.l0])
    | succ k1 =>
      have H := HA.out
      clear HA
      simp only [sheetpileref20_All.l0] at H
      replace H := Option.bind_eq_some_iff.mp H
      obtain ⟨⟨t365, t366, t369, t370⟩, A20, H⟩ := H
      replace H : (if t370 = 0 then (if (x4_1.length : Int) > 0 then (if 0 ≤ (wrap64 ((x4_1.length : Int) - 1)) then (if (wrap64 ((x4_1.length : Int) - 1)) < (x4_1.length : Int) then (if t365 = (wrap64 (((rd_T24 x4_1 (wrap64 ((x4_1.length : Int) - 1))).f0) + 1)) then (if x4_1.length < 4398046511104 then (sheetpileref20_All.l0 k1 a0 (x4_1 ++ [(⟨t365, t366⟩ : S24)]) t369) else (none)) else (some (x4_1, wrap64 ((a0.size : Int) - (x5_1.size : Int))))) else (none)) else (none)) else (if x4_1.length < 4398046511104 then (sheetpileref20_All.l0 k1 a0 (x4_1 ++ [(⟨t365, t366⟩ : S24)]) t369) else (none))) else (some (x4_1, wrap64 ((a0.size : Int) - (x5_1.size : Int))))) = some (r1, r2) := H
      have A2 := Aside0.mk A20
      clear A20
      by_cases c3 : t370 = 0
      · rw [if_pos c3] at H
        have c3b0 : (t370 == 0) = true := beq_iff_eq.mpr c3
        have c3b1 : (t370 != 0) = false := bne_eq_false_iff_eq.mpr c3
        clear c3
        by_cases c4 : (x4_1.length : Int) > 0
        · rw [if_pos c4] at H
          have c4b0 : decide (0 < (x4_1.length : Int)) = true := decide_eq_true c4
          have c4b1 : decide (0 < x4_1.length) = true := decide_eq_true (by omega)
          clear c4
          obtain ⟨ji5, hji5⟩ : ∃ j_ : Int, (wrap64 ((x4_1.length : Int) - 1)) = j_ := ⟨_, rfl⟩
          replace H : (if 0 ≤ (ji5) then (if (ji5) < (x4_1.length : Int) then (if t365 = (wrap64 (((rd_T24 x4_1 (ji5)).f0) + 1)) then (if x4_1.length < 4398046511104 then (sheetpileref20_All.l0 k1 a0 (x4_1 ++ [(⟨t365, t366⟩ : S24)]) t369) else (none)) else (some (x4_1, wrap64 ((a0.size : Int) - (x5_1.size : Int))))) else (none)) else (none)) = some (r1, r2) := by first | (rw [hji5] at H; exact H) | (simp only [hji5] at H ⊢; exact H)
          (try rw [hji5] at A2)
          have hji5w : (IntKind.i64.wrap ((x4_1.length : Int) - 1)) = ji5 := (i64_w _).trans hji5
          by_cases c6 : 0 ≤ (ji5)
          · rw [if_pos c6] at H
            have c6b0 : decide (0 ≤ (ji5)) = true := decide_eq_true c6
            clear c6
            by_cases c7 : (ji5) < (x4_1.length : Int)
            · rw [if_pos c7] at H
              have c7b0 : decide ((ji5) < (x4_1.length : Int)) = true := decide_eq_true c7
              clear c7
              by_cases c8 : t365 = (wrap64 (((rd_T24 x4_1 (ji5)).f0) + 1))
              · rw [if_pos c8] at H
                have c8b0 : (t365 == (wrap64 (((rd_T24 x4_1 (ji5)).f0) + 1))) = true := beq_iff_eq.mpr c8
                have c8b1 : (t365 != (wrap64 (((rd_T24 x4_1 (ji5)).f0) + 1))) = false := bne_eq_false_iff_eq.mpr c8
                clear c8
                by_cases c9 : x4_1.length < 4398046511104
                · rw [if_pos c9] at H
                  have LMc9 := Aside0.mk c9
                  clear c9
                  obtain ⟨y373, hy373⟩ : ∃ y_ : List (S24), y_ = (x4_1 ++ [(⟨t365, t366⟩ : S24)]) := ⟨_, rfl⟩
                  replace H : (sheetpileref20_All.l0 k1 a0 y373 t369) = some (r1, r2) := by first | (rw [hy373]; with_reducible exact H) | (have H2_ := (Option.bind_some _ _).symm.trans H; rw [hy373]; with_reducible exact H2_) | (have H2_ := (Option.bind_some _ _).symm.trans H; with_reducible exact H2_) | with_reducible exact H | (rw [hy373]; exact H) | exact H
                  have Ny373 := Aside0.mk hy373
                  clear hy373
                  have H' := Aside0.mk H
                  clear H
                  go_wp2_with (first | (go_at_call 23; (with_reducible refine (sheetpileref19_Read.calls k1 x5_1 t365 t366 t369 t370 _ A2.out).mono ?_); rintro e w10 ⟨v367, rfl, ho0, hb⟩; have n0_ := Aside0.mk (Kd.S_elder' (by (with_reducible repeat (first | apply Kd.S_alloc | apply Kd.S_drewN | apply Kd.S_drew)); exact HO_4.out) (Kd.R_base ho0) hb); have n1_ := Aside0.mk (Kd.R_lower ho0 (below_size (by repeat (first | (with_reducible first | exact HB.out | apply below_alloc | apply pw_below_drewN | apply below_drew1) | exact HB.out)))); have n2_ := Aside0.mk (below_step (by repeat (first | (with_reducible first | exact HB.out | apply below_alloc | apply pw_below_drewN | apply below_drew1) | exact HB.out)) hb); clear HO_4; clear HB; have HO_4 := n0_; have HO368 := n1_; have HB := n2_; clear n0_ n1_ n2_; (try clear hb); (try clear hb2); (try clear hk); (try clear hi); (try clear ho0)) | ((with_reducible refine gate_dst (N := 6) rfl ?_); (try (refine gate_guard (by rfl) ?_; dsimp only)); refine box_event ?hg (N := 6) ?hd (cs := #[.int .i64 0, .slice none 0 0]) (t := 24) ?hr ?_; (case hd => rfl); (case hg => rfl); (case hr => first | (go_simp; done) | (go_simp; rfl)); intro gb371 hg w11 hbox hb; have n0_ := Aside0.mk (Kd.S_below (Kd.S_elderB (by (with_reducible repeat (first | apply Kd.S_alloc | apply Kd.S_drewN | apply Kd.S_drew)); exact HO_4.out) gb371 (Nat.le_of_eq hg.symm)) hb); have n1_ := Aside0.mk (Kd.R_below (by (with_reducible repeat (first | apply Kd.R_alloc | apply Kd.R_drewN | apply Kd.R_drew)); exact HO368.out) hb); have n2_ := Aside0.mk (below_step (by repeat (first | (with_reducible first | exact HB.out | apply below_alloc | apply pw_below_drewN | apply below_drew1) | exact HB.out)) hb); have n3_ := Aside0.mk (hbox); have n4_ := Aside0.mk ((by rw [hg]; exact (below_size (by repeat (first | (with_reducible first | exact HB.out | apply below_alloc | apply pw_below_drewN | apply below_drew1) | exact HB.out))) : w.heap.size ≤ gb371)); have n5_ := Aside0.mk ((by rw [hg]; exact (below_size (by repeat (first | (with_reducible first | exact HB.out | apply below_alloc | apply pw_below_drewN | apply below_drew1) | exact HB.out))) : w.heap.size ≤ gb371)); clear HO_4; clear HO368; clear HB; have HO_4 := n0_; have HO368 := n1_; have HB := n2_; have BK371 := n3_; have GW371 := n4_; have GE371 := n5_; clear n0_ n1_ n2_ n3_ n4_ n5_; clear hb hbox hg; have hcz12_0 : w11.cell? ⟨gb371, 0, none⟩ = some (.int .i64 0) := (blk_cell BK371.out 0).trans rfl; have hcz12_1 : w11.cell? ⟨gb371, 1, none⟩ = some (.slice none 0 0) := (blk_cell BK371.out 1).trans rfl; have hfz12_0 := blk_frozen BK371.out 0; have hfz12_1 := blk_frozen BK371.out 1; obtain ⟨Ao13, co13, eo13⟩ := Kd.R_slice HO368.out; subst eo13) | ((with_reducible refine gate_store (t := 24) (p := 6) rfl ?_); (try (rw [drewN_self w11]; generalize hq_ : World.drewN w11 _ = w11; have n0_ := Aside0.mk (Kd.S_at hq_ HO_4.out); have n1_ := Aside0.mk (Kd.R_at hq_ HO368.out); have n2_ := Aside0.mk (blk_at hq_ BK371.out); have n3_ := Aside0.mk (below_at hq_ HB.out); clear hq_ HO_4 HO368 BK371 HB; have HO_4 := n0_; have HO368 := n1_; have BK371 := n2_; have HB := n3_; clear n0_ n1_ n2_ n3_)); refine store_event (t := 24) (p := 6) (v := ?vo_w14) (w1 := ((w11.setCell ⟨gb371, 0, none⟩ (.int .i64 t365)).setCell ⟨gb371, 1, none⟩ (.slice Ao13 t366.length co13))) ?hg ?ho ?hn ?hr ?_; (case ho => rfl); (case hg => rfl); (case hn => rfl); (case hr => first | (go_simp; done) | (go_simp; rfl)); intro w14 hw; have n0_ : Aside0 (Kd.S k24 24 w14 w.heap.size (fun k_ => some k_ ≠ (.slice Ao13 t366.length co13 : Value).ownBlock ∧ k_ ≠ gb371) u4 x4_1) := ⟨(by rw [hw]; exact (by (with_reducible repeat (first | apply Kd.S_alloc | apply Kd.S_drewN | apply Kd.S_drew)); exact Kd.S_mono (Kd.S_far (p := ⟨gb371, 1, none⟩) (Kd.S_far (p := ⟨gb371, 0, none⟩) (Kd.S_mono HO_4.out (fun k_ hk => (⟨hk, hk.2⟩ : _ ∧ k_ ≠ gb371))) (fun _ hk => hk.2) (.int .i64 t365)) (fun _ hk => hk.2) (.slice Ao13 t366.length co13)) (fun _ hk => ⟨hk.1.1.2, hk.1.2⟩)))⟩; have n1_ : Aside0 (Kd.R k62 62 w14 w.heap.size (fun _ => True) (.slice Ao13 t366.length co13) t366) := ⟨(by rw [hw]; exact (by (with_reducible repeat (first | apply Kd.R_alloc | apply Kd.R_drewN | apply Kd.R_drew)); exact Kd.R_mono (Kd.R_far (p := ⟨gb371, 1, none⟩) (Kd.R_far (p := ⟨gb371, 0, none⟩) (Kd.R_types HO368.out BK371.out (by decide)) (fun _ hk => hk.2) (.int .i64 t365)) (fun _ hk => hk.2) (.slice Ao13 t366.length co13)) (fun _ hk => trivial)))⟩; have n2_ : Aside0 (w14.heap[gb371]? = some (.cells #[.int .i64 t365, .slice Ao13 t366.length co13] 24 (0, 0))) := ⟨(by rw [hw]; exact (by (with_reducible repeat (first | refine blk_drewN ?_ _ | refine blk_drew ?_ | refine blk_alloc ?_ _)); refine blk_put (cs := #[.int .i64 t365, .slice none 0 0]) ?_ 1 _ rfl; (with_reducible repeat (first | refine blk_drewN ?_ _ | refine blk_drew ?_ | refine blk_alloc ?_ _)); refine blk_put (cs := #[.int .i64 0, .slice none 0 0]) ?_ 0 _ rfl; (with_reducible repeat (first | refine blk_drewN ?_ _ | refine blk_drew ?_ | refine blk_alloc ?_ _)); exact BK371.out))⟩; have n3_ : Aside0 (Below w.heap.size w w14) := ⟨(by rw [hw]; exact (by repeat (first | (with_reducible first | exact HB.out | apply below_alloc | apply pw_below_drewN | apply below_drew1 | refine below_set ?_ GE371.out) | exact HB.out)))⟩; clear hw; clear HO_4; clear HO368; clear BK371; clear HB; have HO_4 := n0_; have HO368 := n1_; have BK371 := n2_; have HB := n3_; clear n0_ n1_ n2_ n3_; obtain ⟨Ao15, co15, eo15⟩ := Kd.S_slice HO_4.out; subst eo15; have hcz16_0 : w14.cell? ⟨gb371, 0, none⟩ = some (.int .i64 t365) := (blk_cell BK371.out 0).trans rfl; have hcz16_1 : w14.cell? ⟨gb371, 1, none⟩ = some (.slice Ao13 t366.length co13) := (blk_cell BK371.out 1).trans rfl; have hfz16_0 := blk_frozen BK371.out 0; have hfz16_1 := blk_frozen BK371.out 1; have p372 : 0 ≤ ((ji5) : Int) := of_decide_eq_true (by first | (with_reducible assumption) | assumption); have q372 : (ji5) < (x4_1.length : Int) := of_decide_eq_true (by first | (with_reducible assumption) | assumption); obtain ⟨ad372, A372_1, c372_1, e372, hx372_0, hx372_1, hl372_1, hi372_1⟩ := at_T24 (Kd.S_reads' HO_4.out).2.2 (ji5) p372 q372; cases e372; obtain ⟨ce372, hce372, hMe372, hcc372⟩ := Kd.S_get HO_4.out z24 (ji5) p372 (by first | exact q372 | exact of_decide_eq_true (by first | (with_reducible assumption) | assumption) | (have e_ := (Kd.S_reads' HO_4.out).1; omega)); obtain ⟨ve372_1, rfl, ge372_1⟩ := k24_openM hMe372; have hv372_1 := hcc372 1 _ rfl; rw [add_field _ _ 1 (by omega)] at hv372_1; replace hv372_1 := Option.some.inj (hv372_1.symm.trans hx372_1); rw [hv372_1] at ge372_1; have HL372_1 := Aside0.mk (show Kd.R k62 62 _ _ _ _ ((rd_T24 x4_1 (ji5)).f1) from ge372_1); clear hv372_1 ge372_1; clear hcc372 hce372; have HR372_1 := Aside0.mk hi372_1; have HC372_1 := Aside0.mk hl372_1; clear hi372_1 hl372_1; replace p372 := eq_true p372; replace q372 := eq_true q372))
                  repeat (go_quiet (fail); try go_wp2_with (((with_reducible refine gate_builtin (b := .append) (xs := #[.tmp 42, .tmp 44]) rfl ?_); (try (refine gate_guard (by rfl) ?_; dsimp only)); at_builtin; refine Kd.S_append k24 (w0 := w) w.heap.size rfl (.tmp 42) (.tmp 44) 50 24 (.agg #[(.int .i64 0), (.slice none 0 0)]) 32 rfl Try.underlying50 info24 rfl (by decide) (by omega) (.slice (some ad372) x4_1.length co15) x4_1 (⟨t365, t366⟩ : S24) [.int .i64 t365, .slice Ao13 t366.length co13] (fun k_ => k_ ≠ gb371) (fun k_ => some k_ = (.slice Ao13 t366.length co13 : Value).ownBlock) rfl rfl ?aP (fun k_ hk_ => ((Kd.R_mono (ok' := fun k_ => ((fun k_ => k_ ≠ gb371)) k_ ∧ some k_ ≠ (.slice (some ad372) x4_1.length co15 : Value).ownBlock) (Kd.R_types (Kd.R_apart' (HO368.out) (Kd.S_typed HO_4.out) (by decide)) BK371.out (by decide)) (fun k_ hk => ⟨hk.2, hk.1.2⟩))).1 k_ hk_.symm) ?aF ?aO ?aB ?aS ?aL ?_; (case aP => exact k24_mkM _ _ _ (⟨t365, t366⟩ : S24) (Kd.R_mono (Kd.R_tight rfl (Kd.R_mono (ok' := fun k_ => ((fun k_ => k_ ≠ gb371)) k_ ∧ some k_ ≠ (.slice (some ad372) x4_1.length co15 : Value).ownBlock) (Kd.R_types (Kd.R_apart' (HO368.out) (Kd.S_typed HO_4.out) (by decide)) BK371.out (by decide)) (fun k_ hk => ⟨hk.2, hk.1.2⟩))) (fun _ h_ => h_))); (case aB => exact (by repeat (first | (with_reducible first | exact HB.out | apply below_alloc | apply pw_below_drewN | apply below_drew1 | refine below_set ?_ GE371.out) | exact HB.out))); (case aF => exact (fun k_ hk => Kd.freshB (g := gb371) (o := .cells #[.int .i64 t365, .slice Ao13 t366.length co13] 24 (0, 0)) (by (with_reducible repeat (first | refine blk_drewN ?_ _ | refine blk_drew ?_ | refine blk_alloc ?_ _)); exact BK371.out) k_ hk)); (case aO => exact (by (with_reducible repeat (first | apply Kd.S_alloc | apply Kd.S_drewN | apply Kd.S_drew)); exact Kd.S_mono HO_4.out (fun k_ hk => ⟨hk.2, fun e_ => hk.1 e_⟩))); (case aS => exact (below_size (by repeat (first | (with_reducible first | exact HB.out | apply below_alloc | apply pw_below_drewN | apply below_drew1 | refine below_set ?_ GE371.out) | exact HB.out)))); (case aL => have := LMc9.out; omega); intro v374 w17 ho hb hg hat; rw [← Ny373.out] at ho; have n0_ := Aside0.mk (blk_grown (g := gb371) (o := .cells #[.int .i64 t365, .slice Ao13 t366.length co13] 24 (0, 0)) (by (with_reducible repeat (first | refine blk_drewN ?_ _ | refine blk_drew ?_ | refine blk_alloc ?_ _)); exact BK371.out) hg (Kd.S_away HO_4.out (fun _ hk => hk.2))); have n1_ := Aside0.mk (Kd.R_after (ok := (fun k_ => some k_ ≠ (.slice Ao13 t366.length co13 : Value).ownBlock ∧ k_ ≠ gb371)) (by (with_reducible repeat (first | apply Kd.R_alloc | apply Kd.R_drewN | apply Kd.R_drew)); exact HL372_1.out) hg hat); have n2_ := Aside0.mk (hb); have n3_ := Aside0.mk (ho); clear BK371; clear HL372_1; clear HB; clear HO_4; clear HO368; have BK371 := n0_; have HL372_1 := n1_; have HB := n2_; have HO375 := n3_; clear n0_ n1_ n2_ n3_; clear ho hb hg hat)))
                  go_roundg k1
                  case measure => have := HK1.out; omega
                  case rel => exact ⟨(y373), (t369), (by first | rfl | (simp; done) | (simp [*]; done) | exact congrArg Value.bool (by cases ByteArray.toList a0 <;> rfl) | exact congrArg Value.bool (by cases ByteArray.toList a1 <;> rfl)), H', ⟨by have := HK1.out; omega⟩, ⟨by (with_reducible repeat (first | apply Kd.S_alloc | apply Kd.S_drewN | apply Kd.S_drew)); exact Kd.S_mono HO375.out (fun _ hk => trivial)⟩, ⟨by repeat (first | (with_reducible first | exact HB.out | apply below_alloc | apply pw_below_drewN | apply below_drew1 | refine below_set ?_ GE371.out) | exact HB.out)⟩⟩
                · rw [if_neg c9] at H
                  exact absurd H (by simp)
              · rw [if_neg c8] at H
                have c8b0 : (t365 == (wrap64 (((rd_T24 x4_1 (ji5)).f0) + 1))) = false := beq_eq_false_iff_ne.mpr c8
                have c8b1 : (t365 != (wrap64 (((rd_T24 x4_1 (ji5)).f0) + 1))) = true := bne_iff_ne.mpr c8
                simp only [Option.some.injEq, Prod.mk.injEq] at H
                obtain ⟨rfl, rfl⟩ := H
                go_wp2_with (first | (go_at_call 23; (with_reducible refine (sheetpileref19_Read.calls k1 x5_1 t365 t366 t369 t370 _ A2.out).mono ?_); rintro e w18 ⟨v367, rfl, ho0, hb⟩; have n0_ := Aside0.mk (Kd.S_elder' (by (with_reducible repeat (first | apply Kd.S_alloc | apply Kd.S_drewN | apply Kd.S_drew)); exact HO_4.out) (Kd.R_base ho0) hb); have n1_ := Aside0.mk (Kd.R_lower ho0 (below_size (by repeat (first | (with_reducible first | exact HB.out | apply below_alloc | apply pw_below_drewN | apply below_drew1) | exact HB.out)))); have n2_ := Aside0.mk (below_step (by repeat (first | (with_reducible first | exact HB.out | apply below_alloc | apply pw_below_drewN | apply below_drew1) | exact HB.out)) hb); clear HO_4; clear HB; have HO_4 := n0_; have HO368 := n1_; have HB := n2_; clear n0_ n1_ n2_; (try clear hb); (try clear hb2); (try clear hk); (try clear hi); (try clear ho0)) | ((with_reducible refine gate_dst (N := 6) rfl ?_); (try (refine gate_guard (by rfl) ?_; dsimp only)); refine box_event ?hg (N := 6) ?hd (cs := #[.int .i64 0, .slice none 0 0]) (t := 24) ?hr ?_; (case hd => rfl); (case hg => rfl); (case hr => first | (go_simp; done) | (go_simp; rfl)); intro gb371 hg w19 hbox hb; have n0_ := Aside0.mk (Kd.S_below (Kd.S_elderB (by (with_reducible repeat (first | apply Kd.S_alloc | apply Kd.S_drewN | apply Kd.S_drew)); exact HO_4.out) gb371 (Nat.le_of_eq hg.symm)) hb); have n1_ := Aside0.mk (Kd.R_below (by (with_reducible repeat (first | apply Kd.R_alloc | apply Kd.R_drewN | apply Kd.R_drew)); exact HO368.out) hb); have n2_ := Aside0.mk (below_step (by repeat (first | (with_reducible first | exact HB.out | apply below_alloc | apply pw_below_drewN | apply below_drew1) | exact HB.out)) hb); have n3_ := Aside0.mk (hbox); have n4_ := Aside0.mk ((by rw [hg]; exact (below_size (by repeat (first | (with_reducible first | exact HB.out | apply below_alloc | apply pw_below_drewN | apply below_drew1) | exact HB.out))) : w.heap.size ≤ gb371)); have n5_ := Aside0.mk ((by rw [hg]; exact (below_size (by repeat (first | (with_reducible first | exact HB.out | apply below_alloc | apply pw_below_drewN | apply below_drew1) | exact HB.out))) : w.heap.size ≤ gb371)); clear HO_4; clear HO368; clear HB; have HO_4 := n0_; have HO368 := n1_; have HB := n2_; have BK371 := n3_; have GW371 := n4_; have GE371 := n5_; clear n0_ n1_ n2_ n3_ n4_ n5_; clear hb hbox hg; have hcz20_0 : w19.cell? ⟨gb371, 0, none⟩ = some (.int .i64 0) := (blk_cell BK371.out 0).trans rfl; have hcz20_1 : w19.cell? ⟨gb371, 1, none⟩ = some (.slice none 0 0) := (blk_cell BK371.out 1).trans rfl; have hfz20_0 := blk_frozen BK371.out 0; have hfz20_1 := blk_frozen BK371.out 1; obtain ⟨Ao21, co21, eo21⟩ := Kd.R_slice HO368.out; subst eo21) | ((with_reducible refine gate_store (t := 24) (p := 6) rfl ?_); (try (rw [drewN_self w19]; generalize hq_ : World.drewN w19 _ = w19; have n0_ := Aside0.mk (Kd.S_at hq_ HO_4.out); have n1_ := Aside0.mk (Kd.R_at hq_ HO368.out); have n2_ := Aside0.mk (blk_at hq_ BK371.out); have n3_ := Aside0.mk (below_at hq_ HB.out); clear hq_ HO_4 HO368 BK371 HB; have HO_4 := n0_; have HO368 := n1_; have BK371 := n2_; have HB := n3_; clear n0_ n1_ n2_ n3_)); refine store_event (t := 24) (p := 6) (v := ?vo_w22) (w1 := ((w19.setCell ⟨gb371, 0, none⟩ (.int .i64 t365)).setCell ⟨gb371, 1, none⟩ (.slice Ao21 t366.length co21))) ?hg ?ho ?hn ?hr ?_; (case ho => rfl); (case hg => rfl); (case hn => rfl); (case hr => first | (go_simp; done) | (go_simp; rfl)); intro w22 hw; have n0_ : Aside0 (Kd.S k24 24 w22 w.heap.size (fun k_ => some k_ ≠ (.slice Ao21 t366.length co21 : Value).ownBlock ∧ k_ ≠ gb371) u4 x4_1) := ⟨(by rw [hw]; exact (by (with_reducible repeat (first | apply Kd.S_alloc | apply Kd.S_drewN | apply Kd.S_drew)); exact Kd.S_mono (Kd.S_far (p := ⟨gb371, 1, none⟩) (Kd.S_far (p := ⟨gb371, 0, none⟩) (Kd.S_mono HO_4.out (fun k_ hk => (⟨hk, hk.2⟩ : _ ∧ k_ ≠ gb371))) (fun _ hk => hk.2) (.int .i64 t365)) (fun _ hk => hk.2) (.slice Ao21 t366.length co21)) (fun _ hk => ⟨hk.1.1.2, hk.1.2⟩)))⟩; have n1_ : Aside0 (Kd.R k62 62 w22 w.heap.size (fun _ => True) (.slice Ao21 t366.length co21) t366) := ⟨(by rw [hw]; exact (by (with_reducible repeat (first | apply Kd.R_alloc | apply Kd.R_drewN | apply Kd.R_drew)); exact Kd.R_mono (Kd.R_far (p := ⟨gb371, 1, none⟩) (Kd.R_far (p := ⟨gb371, 0, none⟩) (Kd.R_types HO368.out BK371.out (by decide)) (fun _ hk => hk.2) (.int .i64 t365)) (fun _ hk => hk.2) (.slice Ao21 t366.length co21)) (fun _ hk => trivial)))⟩; have n2_ : Aside0 (w22.heap[gb371]? = some (.cells #[.int .i64 t365, .slice Ao21 t366.length co21] 24 (0, 0))) := ⟨(by rw [hw]; exact (by (with_reducible repeat (first | refine blk_drewN ?_ _ | refine blk_drew ?_ | refine blk_alloc ?_ _)); refine blk_put (cs := #[.int .i64 t365, .slice none 0 0]) ?_ 1 _ rfl; (with_reducible repeat (first | refine blk_drewN ?_ _ | refine blk_drew ?_ | refine blk_alloc ?_ _)); refine blk_put (cs := #[.int .i64 0, .slice none 0 0]) ?_ 0 _ rfl; (with_reducible repeat (first | refine blk_drewN ?_ _ | refine blk_drew ?_ | refine blk_alloc ?_ _)); exact BK371.out))⟩; have n3_ : Aside0 (Below w.heap.size w w22) := ⟨(by rw [hw]; exact (by repeat (first | (with_reducible first | exact HB.out | apply below_alloc | apply pw_below_drewN | apply below_drew1 | refine below_set ?_ GE371.out) | exact HB.out)))⟩; clear hw; clear HO_4; clear HO368; clear BK371; clear HB; have HO_4 := n0_; have HO368 := n1_; have BK371 := n2_; have HB := n3_; clear n0_ n1_ n2_ n3_; obtain ⟨Ao23, co23, eo23⟩ := Kd.S_slice HO_4.out; subst eo23; have hcz24_0 : w22.cell? ⟨gb371, 0, none⟩ = some (.int .i64 t365) := (blk_cell BK371.out 0).trans rfl; have hcz24_1 : w22.cell? ⟨gb371, 1, none⟩ = some (.slice Ao21 t366.length co21) := (blk_cell BK371.out 1).trans rfl; have hfz24_0 := blk_frozen BK371.out 0; have hfz24_1 := blk_frozen BK371.out 1; have p372 : 0 ≤ ((ji5) : Int) := of_decide_eq_true (by first | (with_reducible assumption) | assumption); have q372 : (ji5) < (x4_1.length : Int) := of_decide_eq_true (by first | (with_reducible assumption) | assumption); obtain ⟨ad372, A372_1, c372_1, e372, hx372_0, hx372_1, hl372_1, hi372_1⟩ := at_T24 (Kd.S_reads' HO_4.out).2.2 (ji5) p372 q372; cases e372; obtain ⟨ce372, hce372, hMe372, hcc372⟩ := Kd.S_get HO_4.out z24 (ji5) p372 (by first | exact q372 | exact of_decide_eq_true (by first | (with_reducible assumption) | assumption) | (have e_ := (Kd.S_reads' HO_4.out).1; omega)); obtain ⟨ve372_1, rfl, ge372_1⟩ := k24_openM hMe372; have hv372_1 := hcc372 1 _ rfl; rw [add_field _ _ 1 (by omega)] at hv372_1; replace hv372_1 := Option.some.inj (hv372_1.symm.trans hx372_1); rw [hv372_1] at ge372_1; have HL372_1 := Aside0.mk (show Kd.R k62 62 _ _ _ _ ((rd_T24 x4_1 (ji5)).f1) from ge372_1); clear hv372_1 ge372_1; clear hcc372 hce372; have HR372_1 := Aside0.mk hi372_1; have HC372_1 := Aside0.mk hl372_1; clear hi372_1 hl372_1; replace p372 := eq_true p372; replace q372 := eq_true q372))
                repeat (go_quiet (fail); try go_wp2)
                go_ret2
                exact ⟨_, by first | rfl | (simp [errW_none, errW_some] <;> rfl) | (simp only [← hji5]; first | rfl | (simp [errW_none, errW_some] <;> rfl)) | (simp [*, errW_none, errW_some] <;> rfl), by (with_reducible repeat (first | apply Kd.S_alloc | apply Kd.S_drewN | apply Kd.S_drew)); exact Kd.S_mono HO_4.out (fun _ hk => trivial), by repeat (first | (with_reducible first | exact HB.out | apply below_alloc | apply pw_below_drewN | apply below_drew1 | refine below_set ?_ GE371.out) | exact HB.out)⟩
            · rw [if_neg c7] at H
              exact absurd H (by simp)
          · rw [if_neg c6] at H
            exact absurd H (by simp)
        · rw [if_neg c4] at H
          have c4b0 : decide (0 < (x4_1.length : Int)) = false := decide_eq_false c4
          have c4b1 : decide (0 < x4_1.length) = false := decide_eq_false (by omega)
          clear c4
          by_cases c25 : x4_1.length < 4398046511104
          · rw [if_pos c25] at H
            have LMc25 := Aside0.mk c25
            clear c25
            obtain ⟨y376, hy376⟩ : ∃ y_ : List (S24), y_ = (x4_1 ++ [(⟨t365, t366⟩ : S24)]) := ⟨_, rfl⟩
            replace H : (sheetpileref20_All.l0 k1 a0 y376 t369) = some (r1, r2) := by first | (rw [hy376]; with_reducible exact H) | (have H2_ := (Option.bind_some _ _).symm.trans H; rw [hy376]; with_reducible exact H2_) | (have H2_ := (Option.bind_some _ _).symm.trans H; with_reducible exact H2_) | with_reducible exact H | (rw [hy376]; exact H) | exact H
            have Ny376 := Aside0.mk hy376
            clear hy376
            have H' := Aside0.mk H
            clear H
            go_wp2_with (first | (go_at_call 23; (with_reducible refine (sheetpileref19_Read.calls k1 x5_1 t365 t366 t369 t370 _ A2.out).mono ?_); rintro e w26 ⟨v367, rfl, ho0, hb⟩; have n0_ := Aside0.mk (Kd.S_elder' (by (with_reducible repeat (first | apply Kd.S_alloc | apply Kd.S_drewN | apply Kd.S_drew)); exact HO_4.out) (Kd.R_base ho0) hb); have n1_ := Aside0.mk (Kd.R_lower ho0 (below_size (by repeat (first | (with_reducible first | exact HB.out | apply below_alloc | apply pw_below_drewN | apply below_drew1) | exact HB.out)))); have n2_ := Aside0.mk (below_step (by repeat (first | (with_reducible first | exact HB.out | apply below_alloc | apply pw_below_drewN | apply below_drew1) | exact HB.out)) hb); clear HO_4; clear HB; have HO_4 := n0_; have HO368 := n1_; have HB := n2_; clear n0_ n1_ n2_; (try clear hb); (try clear hb2); (try clear hk); (try clear hi); (try clear ho0)) | ((with_reducible refine gate_dst (N := 6) rfl ?_); (try (refine gate_guard (by rfl) ?_; dsimp only)); refine box_event ?hg (N := 6) ?hd (cs := #[.int .i64 0, .slice none 0 0]) (t := 24) ?hr ?_; (case hd => rfl); (case hg => rfl); (case hr => first | (go_simp; done) | (go_simp; rfl)); intro gb371 hg w27 hbox hb; have n0_ := Aside0.mk (Kd.S_below (Kd.S_elderB (by (with_reducible repeat (first | apply Kd.S_alloc | apply Kd.S_drewN | apply Kd.S_drew)); exact HO_4.out) gb371 (Nat.le_of_eq hg.symm)) hb); have n1_ := Aside0.mk (Kd.R_below (by (with_reducible repeat (first | apply Kd.R_alloc | apply Kd.R_drewN | apply Kd.R_drew)); exact HO368.out) hb); have n2_ := Aside0.mk (below_step (by repeat (first | (with_reducible first | exact HB.out | apply below_alloc | apply pw_below_drewN | apply below_drew1) | exact HB.out)) hb); have n3_ := Aside0.mk (hbox); have n4_ := Aside0.mk ((by rw [hg]; exact (below_size (by repeat (first | (with_reducible first | exact HB.out | apply below_alloc | apply pw_below_drewN | apply below_drew1) | exact HB.out))) : w.heap.size ≤ gb371)); have n5_ := Aside0.mk ((by rw [hg]; exact (below_size (by repeat (first | (with_reducible first | exact HB.out | apply below_alloc | apply pw_below_drewN | apply below_drew1) | exact HB.out))) : w.heap.size ≤ gb371)); clear HO_4; clear HO368; clear HB; have HO_4 := n0_; have HO368 := n1_; have HB := n2_; have BK371 := n3_; have GW371 := n4_; have GE371 := n5_; clear n0_ n1_ n2_ n3_ n4_ n5_; clear hb hbox hg; have hcz28_0 : w27.cell? ⟨gb371, 0, none⟩ = some (.int .i64 0) := (blk_cell BK371.out 0).trans rfl; have hcz28_1 : w27.cell? ⟨gb371, 1, none⟩ = some (.slice none 0 0) := (blk_cell BK371.out 1).trans rfl; have hfz28_0 := blk_frozen BK371.out 0; have hfz28_1 := blk_frozen BK371.out 1; obtain ⟨Ao29, co29, eo29⟩ := Kd.R_slice HO368.out; subst eo29) | ((with_reducible refine gate_store (t := 24) (p := 6) rfl ?_); (try (rw [drewN_self w27]; generalize hq_ : World.drewN w27 _ = w27; have n0_ := Aside0.mk (Kd.S_at hq_ HO_4.out); have n1_ := Aside0.mk (Kd.R_at hq_ HO368.out); have n2_ := Aside0.mk (blk_at hq_ BK371.out); have n3_ := Aside0.mk (below_at hq_ HB.out); clear hq_ HO_4 HO368 BK371 HB; have HO_4 := n0_; have HO368 := n1_; have BK371 := n2_; have HB := n3_; clear n0_ n1_ n2_ n3_)); refine store_event (t := 24) (p := 6) (v := ?vo_w30) (w1 := ((w27.setCell ⟨gb371, 0, none⟩ (.int .i64 t365)).setCell ⟨gb371, 1, none⟩ (.slice Ao29 t366.length co29))) ?hg ?ho ?hn ?hr ?_; (case ho => rfl); (case hg => rfl); (case hn => rfl); (case hr => first | (go_simp; done) | (go_simp; rfl)); intro w30 hw; have n0_ : Aside0 (Kd.S k24 24 w30 w.heap.size (fun k_ => some k_ ≠ (.slice Ao29 t366.length co29 : Value).ownBlock ∧ k_ ≠ gb371) u4 x4_1) := ⟨(by rw [hw]; exact (by (with_reducible repeat (first | apply Kd.S_alloc | apply Kd.S_drewN | apply Kd.S_drew)); exact Kd.S_mono (Kd.S_far (p := ⟨gb371, 1, none⟩) (Kd.S_far (p := ⟨gb371, 0, none⟩) (Kd.S_mono HO_4.out (fun k_ hk => (⟨hk, hk.2⟩ : _ ∧ k_ ≠ gb371))) (fun _ hk => hk.2) (.int .i64 t365)) (fun _ hk => hk.2) (.slice Ao29 t366.length co29)) (fun _ hk => ⟨hk.1.1.2, hk.1.2⟩)))⟩; have n1_ : Aside0 (Kd.R k62 62 w30 w.heap.size (fun _ => True) (.slice Ao29 t366.length co29) t366) := ⟨(by rw [hw]; exact (by (with_reducible repeat (first | apply Kd.R_alloc | apply Kd.R_drewN | apply Kd.R_drew)); exact Kd.R_mono (Kd.R_far (p := ⟨gb371, 1, none⟩) (Kd.R_far (p := ⟨gb371, 0, none⟩) (Kd.R_types HO368.out BK371.out (by decide)) (fun _ hk => hk.2) (.int .i64 t365)) (fun _ hk => hk.2) (.slice Ao29 t366.length co29)) (fun _ hk => trivial)))⟩; have n2_ : Aside0 (w30.heap[gb371]? = some (.cells #[.int .i64 t365, .slice Ao29 t366.length co29] 24 (0, 0))) := ⟨(by rw [hw]; exact (by (with_reducible repeat (first | refine blk_drewN ?_ _ | refine blk_drew ?_ | refine blk_alloc ?_ _)); refine blk_put (cs := #[.int .i64 t365, .slice none 0 0]) ?_ 1 _ rfl; (with_reducible repeat (first | refine blk_drewN ?_ _ | refine blk_drew ?_ | refine blk_alloc ?_ _)); refine blk_put (cs := #[.int .i64 0, .slice none 0 0]) ?_ 0 _ rfl; (with_reducible repeat (first | refine blk_drewN ?_ _ | refine blk_drew ?_ | refine blk_alloc ?_ _)); exact BK371.out))⟩; have n3_ : Aside0 (Below w.heap.size w w30) := ⟨(by rw [hw]; exact (by repeat (first | (with_reducible first | exact HB.out | apply below_alloc | apply pw_below_drewN | apply below_drew1 | refine below_set ?_ GE371.out) | exact HB.out)))⟩; clear hw; clear HO_4; clear HO368; clear BK371; clear HB; have HO_4 := n0_; have HO368 := n1_; have BK371 := n2_; have HB := n3_; clear n0_ n1_ n2_ n3_; obtain ⟨Ao31, co31, eo31⟩ := Kd.S_slice HO_4.out; subst eo31; have hcz32_0 : w30.cell? ⟨gb371, 0, none⟩ = some (.int .i64 t365) := (blk_cell BK371.out 0).trans rfl; have hcz32_1 : w30.cell? ⟨gb371, 1, none⟩ = some (.slice Ao29 t366.length co29) := (blk_cell BK371.out 1).trans rfl; have hfz32_0 := blk_frozen BK371.out 0; have hfz32_1 := blk_frozen BK371.out 1))
            repeat (go_quiet (fail); try go_wp2_with (((with_reducible refine gate_builtin (b := .append) (xs := #[.tmp 42, .tmp 44]) rfl ?_); (try (refine gate_guard (by rfl) ?_; dsimp only)); at_builtin; refine Kd.S_append k24 (w0 := w) w.heap.size rfl (.tmp 42) (.tmp 44) 50 24 (.agg #[(.int .i64 0), (.slice none 0 0)]) 32 rfl Try.underlying50 info24 rfl (by decide) (by omega) (.slice Ao31 x4_1.length co31) x4_1 (⟨t365, t366⟩ : S24) [.int .i64 t365, .slice Ao29 t366.length co29] (fun k_ => k_ ≠ gb371) (fun k_ => some k_ = (.slice Ao29 t366.length co29 : Value).ownBlock) rfl rfl ?aP (fun k_ hk_ => ((Kd.R_mono (ok' := fun k_ => ((fun k_ => k_ ≠ gb371)) k_ ∧ some k_ ≠ (.slice Ao31 x4_1.length co31 : Value).ownBlock) (Kd.R_types (Kd.R_apart' (HO368.out) (Kd.S_typed HO_4.out) (by decide)) BK371.out (by decide)) (fun k_ hk => ⟨hk.2, hk.1.2⟩))).1 k_ hk_.symm) ?aF ?aO ?aB ?aS ?aL ?_; (case aP => exact k24_mkM _ _ _ (⟨t365, t366⟩ : S24) (Kd.R_mono (Kd.R_tight rfl (Kd.R_mono (ok' := fun k_ => ((fun k_ => k_ ≠ gb371)) k_ ∧ some k_ ≠ (.slice Ao31 x4_1.length co31 : Value).ownBlock) (Kd.R_types (Kd.R_apart' (HO368.out) (Kd.S_typed HO_4.out) (by decide)) BK371.out (by decide)) (fun k_ hk => ⟨hk.2, hk.1.2⟩))) (fun _ h_ => h_))); (case aB => exact (by repeat (first | (with_reducible first | exact HB.out | apply below_alloc | apply pw_below_drewN | apply below_drew1 | refine below_set ?_ GE371.out) | exact HB.out))); (case aF => exact (fun k_ hk => Kd.freshB (g := gb371) (o := .cells #[.int .i64 t365, .slice Ao29 t366.length co29] 24 (0, 0)) (by (with_reducible repeat (first | refine blk_drewN ?_ _ | refine blk_drew ?_ | refine blk_alloc ?_ _)); exact BK371.out) k_ hk)); (case aO => exact (by (with_reducible repeat (first | apply Kd.S_alloc | apply Kd.S_drewN | apply Kd.S_drew)); exact Kd.S_mono HO_4.out (fun k_ hk => ⟨hk.2, fun e_ => hk.1 e_⟩))); (case aS => exact (below_size (by repeat (first | (with_reducible first | exact HB.out | apply below_alloc | apply pw_below_drewN | apply below_drew1 | refine below_set ?_ GE371.out) | exact HB.out)))); (case aL => have := LMc25.out; omega); intro v377 w33 ho hb hg hat; rw [← Ny376.out] at ho; have n0_ := Aside0.mk (blk_grown (g := gb371) (o := .cells #[.int .i64 t365, .slice Ao29 t366.length co29] 24 (0, 0)) (by (with_reducible repeat (first | refine blk_drewN ?_ _ | refine blk_drew ?_ | refine blk_alloc ?_ _)); exact BK371.out) hg (Kd.S_away HO_4.out (fun _ hk => hk.2))); have n1_ := Aside0.mk (hb); have n2_ := Aside0.mk (ho); clear BK371; clear HB; clear HO_4; clear HO368; have BK371 := n0_; have HB := n1_; have HO378 := n2_; clear n0_ n1_ n2_; clear ho hb hg hat)))
            go_roundg k1
            case measure => have := HK1.out; omega
            case rel => exact ⟨(y376), (t369), (by first | rfl | (simp; done) | (simp [*]; done) | exact congrArg Value.bool (by cases ByteArray.toList a0 <;> rfl) | exact congrArg Value.bool (by cases ByteArray.toList a1 <;> rfl)), H', ⟨by have := HK1.out; omega⟩, ⟨by (with_reducible repeat (first | apply Kd.S_alloc | apply Kd.S_drewN | apply Kd.S_drew)); exact Kd.S_mono HO378.out (fun _ hk => trivial)⟩, ⟨by repeat (first | (with_reducible first | exact HB.out | apply below_alloc | apply pw_below_drewN | apply below_drew1 | refine below_set ?_ GE371.out) | exact HB.out)⟩⟩
          · rw [if_neg c25] at H
            exact absurd H (by simp)
      · rw [if_neg c3] at H
        have c3b0 : (t370 == 0) = false := beq_eq_false_iff_ne.mpr c3
        have c3b1 : (t370 != 0) = true := bne_iff_ne.mpr c3
        simp only [Option.some.injEq, Prod.mk.injEq] at H
        obtain ⟨rfl, rfl⟩ := H
        go_wp2_with (first | (go_at_call 23; (with_reducible refine (sheetpileref19_Read.calls k1 x5_1 t365 t366 t369 t370 _ A2.out).mono ?_); rintro e w34 ⟨v367, rfl, ho0, hb⟩; have n0_ := Aside0.mk (Kd.S_elder' (by (with_reducible repeat (first | apply Kd.S_alloc | apply Kd.S_drewN | apply Kd.S_drew)); exact HO_4.out) (Kd.R_base ho0) hb); have n1_ := Aside0.mk (Kd.R_lower ho0 (below_size (by repeat (first | (with_reducible first | exact HB.out | apply below_alloc | apply pw_below_drewN | apply below_drew1) | exact HB.out)))); have n2_ := Aside0.mk (below_step (by repeat (first | (with_reducible first | exact HB.out | apply below_alloc | apply pw_below_drewN | apply below_drew1) | exact HB.out)) hb); clear HO_4; clear HB; have HO_4 := n0_; have HO368 := n1_; have HB := n2_; clear n0_ n1_ n2_; (try clear hb); (try clear hb2); (try clear hk); (try clear hi); (try clear ho0)) | ((with_reducible refine gate_dst (N := 6) rfl ?_); (try (refine gate_guard (by rfl) ?_; dsimp only)); refine box_event ?hg (N := 6) ?hd (cs := #[.int .i64 0, .slice none 0 0]) (t := 24) ?hr ?_; (case hd => rfl); (case hg => rfl); (case hr => first | (go_simp; done) | (go_simp; rfl)); intro gb371 hg w35 hbox hb; have n0_ := Aside0.mk (Kd.S_below (Kd.S_elderB (by (with_reducible repeat (first | apply Kd.S_alloc | apply Kd.S_drewN | apply Kd.S_drew)); exact HO_4.out) gb371 (Nat.le_of_eq hg.symm)) hb); have n1_ := Aside0.mk (Kd.R_below (by (with_reducible repeat (first | apply Kd.R_alloc | apply Kd.R_drewN | apply Kd.R_drew)); exact HO368.out) hb); have n2_ := Aside0.mk (below_step (by repeat (first | (with_reducible first | exact HB.out | apply below_alloc | apply pw_below_drewN | apply below_drew1) | exact HB.out)) hb); have n3_ := Aside0.mk (hbox); have n4_ := Aside0.mk ((by rw [hg]; exact (below_size (by repeat (first | (with_reducible first | exact HB.out | apply below_alloc | apply pw_below_drewN | apply below_drew1) | exact HB.out))) : w.heap.size ≤ gb371)); have n5_ := Aside0.mk ((by rw [hg]; exact (below_size (by repeat (first | (with_reducible first | exact HB.out | apply below_alloc | apply pw_below_drewN | apply below_drew1) | exact HB.out))) : w.heap.size ≤ gb371)); clear HO_4; clear HO368; clear HB; have HO_4 := n0_; have HO368 := n1_; have HB := n2_; have BK371 := n3_; have GW371 := n4_; have GE371 := n5_; clear n0_ n1_ n2_ n3_ n4_ n5_; clear hb hbox hg; have hcz36_0 : w35.cell? ⟨gb371, 0, none⟩ = some (.int .i64 0) := (blk_cell BK371.out 0).trans rfl; have hcz36_1 : w35.cell? ⟨gb371, 1, none⟩ = some (.slice none 0 0) := (blk_cell BK371.out 1).trans rfl; have hfz36_0 := blk_frozen BK371.out 0; have hfz36_1 := blk_frozen BK371.out 1; obtain ⟨Ao37, co37, eo37⟩ := Kd.R_slice HO368.out; subst eo37))
        repeat (go_quiet (fail); try go_wp2)
        go_ret2
        exact ⟨_, by first | rfl | (simp [errW_none, errW_some] <;> rfl) | (simp [*, errW_none, errW_some] <;> rfl), by (with_reducible repeat (first | apply Kd.S_alloc | apply Kd.S_drewN | apply Kd.S_drew)); exact Kd.S_mono (Kd.S_far (p := ⟨gb371, 1, none⟩) (Kd.S_far (p := ⟨gb371, 0, none⟩) (Kd.S_mono HO_4.out (fun k_ hk => (⟨hk, hk.2⟩ : _ ∧ k_ ≠ gb371))) (fun _ hk => hk.2) (.int .i64 t365)) (fun _ hk => hk.2) (.slice Ao37 t366.length co37)) (fun _ hk => trivial), by repeat (first | (with_reducible first | exact HB.out | apply below_alloc | apply pw_below_drewN | apply below_drew1 | refine below_set ?_ GE371.out) | exact HB.out)⟩

/-! ### sheetpileref19_Same: function 28 -/
def sheetpileref19_Same.l0 : Nat → List (S24) → List (S24) → Int → Option (Bool)
  | 0, _, _, _ => none
  | k + 1, x0, x1, x5 => if x5 < (x0.length : Int) then (if 0 ≤ x5 then (if x5 < (x1.length : Int) then (if ((rd_T24 x0 x5).f0) = ((rd_T24 x1 x5).f0) then ((sheetpileref19_Changes.f k ((rd_T24 x0 x5).f1) ((rd_T24 x1 x5).f1)).bind fun t383 => (if t383 = true then (sheetpileref19_Same.l0 k x0 x1 (wrap64 (x5 + 1))) else (some false))) else (some false)) else (none)) else (none)) else (some true)
def sheetpileref19_Same.f (k : Nat) (l0 : List (S24)) (l1 : List (S24)) : Option (Bool) := if (l0.length : Int) = (l1.length : Int) then (sheetpileref19_Same.l0 k l0 l1 0) else (some false)
theorem sheetpileref19_Same.mono_l : ∀ k, (∀ y0 y1 y2, LeO (sheetpileref19_Same.l0 k y0 y1 y2) (sheetpileref19_Same.l0 (k + 1) y0 y1 y2))
  | 0 => fun _ _ _ r h => by simp [sheetpileref19_Same.l0] at h
  | k + 1 => by
    have ih0 := sheetpileref19_Same.mono_l k
    · intro y0 y1 y2
      unfold sheetpileref19_Same.l0
      repeat' first
      | (with_reducible exact ih0 _ _ _)
      | (with_reducible exact sheetpileref19_Changes.mono _ _ _)
      | (with_reducible exact LeO.refl _)
      | (with_reducible exact LeO.none _)
      | (with_reducible refine LeO.ite ?_ ?_)
      | (with_reducible refine LeO.bind ?_ (fun _ => ?_))
      | exact ih0 _ _ _
      | exact sheetpileref19_Changes.mono _ _ _
      | exact LeO.none _
      | refine LeO.ite ?_ ?_
      | refine LeO.bind ?_ (fun _ => ?_)
theorem sheetpileref19_Same.mono : ∀ a0 a1 k, LeO (sheetpileref19_Same.f k a0 a1) (sheetpileref19_Same.f (k + 1) a0 a1) := by
  intro a0 a1 k
  have ih0 := sheetpileref19_Same.mono_l k
  unfold sheetpileref19_Same.f
  repeat' first
      | (with_reducible exact ih0 _ _ _)
      | (with_reducible exact sheetpileref19_Changes.mono _ _ _)
      | (with_reducible exact LeO.refl _)
      | (with_reducible exact LeO.none _)
      | (with_reducible refine LeO.ite ?_ ?_)
      | (with_reducible refine LeO.bind ?_ (fun _ => ?_))
      | exact ih0 _ _ _
      | exact sheetpileref19_Changes.mono _ _ _
      | exact LeO.none _
      | refine LeO.ite ?_ ?_
      | refine LeO.bind ?_ (fun _ => ?_)
set_option maxHeartbeats 8000000 in
set_option maxRecDepth 100000 in
theorem sheetpileref19_Same.calls (k : Nat) (A0 : Option Addr) (c0 : Nat) (l0 : List (S24)) (A1 : Option Addr) (c1 : Nat) (l1 : List (S24)) (r : Bool) (w : World) (hr0 : Kd.C k24 w A0 l0.length l0) (hc0 : l0.length ≤ c0) (hr1 : Kd.C k24 w A1 l1.length l1) (hc1 : l1.length ≤ c1) (h : sheetpileref19_Same.f k l0 l1 = some r) :
    Calls Try.prog 28 #[.slice A0 l0.length c0, .slice A1 l1.length c1] w fun e w' => e = .returned (.bool r) ∧ Drawn0 w w' := by
  have HR0 := Aside0.mk hr0
  have HC0 := Aside0.mk hc0
  clear hr0 hc0
  have HR1 := Aside0.mk hr1
  have HC1 := Aside0.mk hc1
  clear hr1 hc1
  have H : (if (l0.length : Int) = (l1.length : Int) then (sheetpileref19_Same.l0 k l0 l1 0) else (some false)) = some r := h
  clear h
  by_cases c3 : (l0.length : Int) = (l1.length : Int)
  · rw [if_pos c3] at H
    have c3b0 : ((l0.length : Int) == (l1.length : Int)) = true := beq_iff_eq.mpr c3
    have c3b1 : ((l0.length : Int) != (l1.length : Int)) = false := bne_eq_false_iff_eq.mpr c3
    have c3b2 : (l0.length == l1.length) = true := by first | simpa using c3 | (simp at c3 ⊢; omega)
    clear c3
    have H' := Aside0.mk H
    clear H
    go_enter Try.func28, Try.ntmps28
    go_wp2
    repeat (go_quiet (fail); try go_wp2)
    go_loopg [5] k (fun kq v5 w' => ∃ (x5_1 : Int), v5 = .int .i64 x5_1 ∧ Aside0 (sheetpileref19_Same.l0 kq l0 l1 x5_1 = some r) ∧ Aside0 (kq ≤ k) ∧ Drawn0 w w')
    case atStart => exact ⟨(0), (by first | rfl | (simp; done) | (simp [*]; done) | exact congrArg Value.bool (by cases ByteArray.toList a0 <;> rfl) | exact congrArg Value.bool (by cases ByteArray.toList a1 <;> rfl)), H', ⟨Nat.le_refl _⟩, by repeat (first | exact Drawn0.refl _ | apply Drawn0.step)⟩
    case round =>
      clear H'
      try clear c1
      try clear c2
      try clear p2
      try clear c3
      try clear c3b0
      try clear c3b1
      try clear c3b2
      obtain ⟨x5_1, rfl, HA, HK1, ⟨m1, rfl⟩⟩ := hrel
      cases gk with
      | zero => exact absurd HA.out (by simp [sheetpileref19_Same.l0])
      | succ k1 =>
        have H := HA.out
        clear HA
        simp only [sheetpileref19_Same.l0] at H
        by_cases c4 : x5_1 < (l0.length : Int)
        · rw [if_pos c4] at H
          have c4b0 : decide (x5_1 < (l0.length : Int)) = true := decide_eq_true c4
          clear c4
          by_cases c5 : 0 ≤ x5_1
          · rw [if_pos c5] at H
            have c5b0 : decide (0 ≤ x5_1) = true := decide_eq_true c5
            clear c5
            by_cases c6 : x5_1 < (l1.length : Int)
            · rw [if_pos c6] at H
              have c6b0 : decide (x5_1 < (l1.length : Int)) = true := decide_eq_true c6
              clear c6
              by_cases c7 : ((rd_T24 l0 x5_1).f0) = ((rd_T24 l1 x5_1).f0)
              · rw [if_pos c7] at H
                have c7b0 : (((rd_T24 l0 x5_1).f0) == ((rd_T24 l1 x5_1).f0)) = true := beq_iff_eq.mpr c7
                have c7b1 : (((rd_T24 l0 x5_1).f0) != ((rd_T24 l1 x5_1).f0)) = false := bne_eq_false_iff_eq.mpr c7
                clear c7
                replace H := Option.bind_eq_some_iff.mp H
                obtain ⟨t383, A80, H⟩ := H
                replace H : (if t383 = true then (sheetpileref19_Same.l0 k1 l0 l1 (wrap64 (x5_1 + 1))) else (some false)) = some r := H
                have A8 := Aside0.mk A80
                clear A80
                by_cases c9 : t383 = true
                · subst c9
                  have H1 : (sheetpileref19_Same.l0 k1 l0 l1 (wrap64 (x5_1 + 1))) = some r := by rw [if_pos rfl] at H; exact H
                  clear H
                  have H := H1
                  clear H1
                  have H' := Aside0.mk H
                  clear H
                  have p379 : 0 ≤ (x5_1 : Int) := of_decide_eq_true (by first | (with_reducible assumption) | assumption)
                  have q379 : x5_1 < (l0.length : Int) := of_decide_eq_true (by first | (with_reducible assumption) | assumption)
                  obtain ⟨ad379, A379_1, c379_1, e379, hx379_0, hx379_1, hl379_1, hi379_1⟩ := at_T24 HR0.out x5_1 p379 q379
                  cases e379
                  have HR379_1 := Aside0.mk hi379_1
                  have HC379_1 := Aside0.mk hl379_1
                  clear hi379_1 hl379_1
                  replace p379 := eq_true p379
                  replace q379 := eq_true q379
                  have p380 : 0 ≤ (x5_1 : Int) := of_decide_eq_true (by first | (with_reducible assumption) | assumption)
                  have q380 : x5_1 < (l1.length : Int) := of_decide_eq_true (by first | (with_reducible assumption) | assumption)
                  obtain ⟨ad380, A380_1, c380_1, e380, hx380_0, hx380_1, hl380_1, hi380_1⟩ := at_T24 HR1.out x5_1 p380 q380
                  cases e380
                  have HR380_1 := Aside0.mk hi380_1
                  have HC380_1 := Aside0.mk hl380_1
                  clear hi380_1 hl380_1
                  replace p380 := eq_true p380
                  replace q380 := eq_true q380
                  have p381 : 0 ≤ (x5_1 : Int) := of_decide_eq_true (by first | (with_reducible assumption) | assumption)
                  have q381 : x5_1 < (l0.length : Int) := of_decide_eq_true (by first | (with_reducible assumption) | assumption)
                  obtain ⟨ad381, A381_1, c381_1, e381, hx381_0, hx381_1, hl381_1, hi381_1⟩ := at_T24 HR0.out x5_1 p381 q381
                  obtain rfl : ad379 = ad381 := (by injection e381)
                  have HR381_1 := Aside0.mk hi381_1
                  have HC381_1 := Aside0.mk hl381_1
                  clear hi381_1 hl381_1
                  replace p381 := eq_true p381
                  replace q381 := eq_true q381
                  have ea_ := Option.some.inj (hx379_1.symm.trans hx381_1)
                  injection ea_ with ea_ en_ ec_
                  subst ea_
                  subst ec_
                  clear en_
                  have p382 : 0 ≤ (x5_1 : Int) := of_decide_eq_true (by first | (with_reducible assumption) | assumption)
                  have q382 : x5_1 < (l1.length : Int) := of_decide_eq_true (by first | (with_reducible assumption) | assumption)
                  obtain ⟨ad382, A382_1, c382_1, e382, hx382_0, hx382_1, hl382_1, hi382_1⟩ := at_T24 HR1.out x5_1 p382 q382
                  obtain rfl : ad380 = ad382 := (by injection e382)
                  have HR382_1 := Aside0.mk hi382_1
                  have HC382_1 := Aside0.mk hl382_1
                  clear hi382_1 hl382_1
                  replace p382 := eq_true p382
                  replace q382 := eq_true q382
                  have ea_ := Option.some.inj (hx380_1.symm.trans hx382_1)
                  injection ea_ with ea_ en_ ec_
                  subst ea_
                  subst ec_
                  clear en_
                  go_wp2
                  repeat (go_quiet ((go_at_call 24; (with_reducible refine (sheetpileref19_Changes.calls k1 _ _ ((rd_T24 l0 x5_1).f1) _ _ ((rd_T24 l1 x5_1).f1) true _ ?side1 ?side2 ?side3 ?side4 A8.out).mono ?_); (case side1 => repeat (first | exact HR381_1.out | (with_reducible refine Kd.C_alloc ?_ _) | (with_reducible refine Kd.C_drewN ?_ _) | (with_reducible refine Kd.C_drew ?_))); (case side2 => exact HC381_1.out); (case side3 => repeat (first | exact HR382_1.out | (with_reducible refine Kd.C_alloc ?_ _) | (with_reducible refine Kd.C_drewN ?_ _) | (with_reducible refine Kd.C_drew ?_))); (case side4 => exact HC382_1.out); rintro e w' ⟨rfl, ⟨nd, rfl⟩⟩; (try first | exact ⟨rfl, _, World.drewN_drewN _ _ _⟩ | exact ⟨rfl, _, Eq.trans (World.drewN_drewN _ _ _) (congrArg (World.drewN _) (Nat.add_assoc _ _ _))⟩))); try go_wp2)
                  go_roundg k1
                  case measure => have := HK1.out; omega
                  case rel => exact ⟨(wrap64 (x5_1 + 1)), (by first | rfl | (simp; done) | (simp [*]; done) | exact congrArg Value.bool (by cases ByteArray.toList a0 <;> rfl) | exact congrArg Value.bool (by cases ByteArray.toList a1 <;> rfl)), H', ⟨by have := HK1.out; omega⟩, by repeat (first | exact Drawn0.refl _ | apply Drawn0.step)⟩
                · replace c9 := Bool.eq_false_iff.mpr c9
                  subst c9
                  have H1 : (some false) = some r := by rw [if_neg (show ¬ (false = true) by decide)] at H; exact H
                  clear H
                  have H := H1
                  clear H1
                  obtain rfl := Option.some.inj H
                  have p379 : 0 ≤ (x5_1 : Int) := of_decide_eq_true (by first | (with_reducible assumption) | assumption)
                  have q379 : x5_1 < (l0.length : Int) := of_decide_eq_true (by first | (with_reducible assumption) | assumption)
                  obtain ⟨ad379, A379_1, c379_1, e379, hx379_0, hx379_1, hl379_1, hi379_1⟩ := at_T24 HR0.out x5_1 p379 q379
                  cases e379
                  have HR379_1 := Aside0.mk hi379_1
                  have HC379_1 := Aside0.mk hl379_1
                  clear hi379_1 hl379_1
                  replace p379 := eq_true p379
                  replace q379 := eq_true q379
                  have p380 : 0 ≤ (x5_1 : Int) := of_decide_eq_true (by first | (with_reducible assumption) | assumption)
                  have q380 : x5_1 < (l1.length : Int) := of_decide_eq_true (by first | (with_reducible assumption) | assumption)
                  obtain ⟨ad380, A380_1, c380_1, e380, hx380_0, hx380_1, hl380_1, hi380_1⟩ := at_T24 HR1.out x5_1 p380 q380
                  cases e380
                  have HR380_1 := Aside0.mk hi380_1
                  have HC380_1 := Aside0.mk hl380_1
                  clear hi380_1 hl380_1
                  replace p380 := eq_true p380
                  replace q380 := eq_true q380
                  have p381 : 0 ≤ (x5_1 : Int) := of_decide_eq_true (by first | (with_reducible assumption) | assumption)
                  have q381 : x5_1 < (l0.length : Int) := of_decide_eq_true (by first | (with_reducible assumption) | assumption)
                  obtain ⟨ad381, A381_1, c381_1, e381, hx381_0, hx381_1, hl381_1, hi381_1⟩ := at_T24 HR0.out x5_1 p381 q381
                  obtain rfl : ad379 = ad381 := (by injection e381)
                  have HR381_1 := Aside0.mk hi381_1
                  have HC381_1 := Aside0.mk hl381_1
                  clear hi381_1 hl381_1
                  replace p381 := eq_true p381
                  replace q381 := eq_true q381
                  have ea_ := Option.some.inj (hx379_1.symm.trans hx381_1)
                  injection ea_ with ea_ en_ ec_
                  subst ea_
                  subst ec_
                  clear en_
                  have p382 : 0 ≤ (x5_1 : Int) := of_decide_eq_true (by first | (with_reducible assumption) | assumption)
                  have q382 : x5_1 < (l1.length : Int) := of_decide_eq_true (by first | (with_reducible assumption) | assumption)
                  obtain ⟨ad382, A382_1, c382_1, e382, hx382_0, hx382_1, hl382_1, hi382_1⟩ := at_T24 HR1.out x5_1 p382 q382
                  obtain rfl : ad380 = ad382 := (by injection e382)
                  have HR382_1 := Aside0.mk hi382_1
                  have HC382_1 := Aside0.mk hl382_1
                  clear hi382_1 hl382_1
                  replace p382 := eq_true p382
                  replace q382 := eq_true q382
                  have ea_ := Option.some.inj (hx380_1.symm.trans hx382_1)
                  injection ea_ with ea_ en_ ec_
                  subst ea_
                  subst ec_
                  clear en_
                  go_wp2
                  repeat (go_quiet ((go_at_call 24; (with_reducible refine (sheetpileref19_Changes.calls k1 _ _ ((rd_T24 l0 x5_1).f1) _ _ ((rd_T24 l1 x5_1).f1) false _ ?side1 ?side2 ?side3 ?side4 A8.out).mono ?_); (case side1 => repeat (first | exact HR381_1.out | (with_reducible refine Kd.C_alloc ?_ _) | (with_reducible refine Kd.C_drewN ?_ _) | (with_reducible refine Kd.C_drew ?_))); (case side2 => exact HC381_1.out); (case side3 => repeat (first | exact HR382_1.out | (with_reducible refine Kd.C_alloc ?_ _) | (with_reducible refine Kd.C_drewN ?_ _) | (with_reducible refine Kd.C_drew ?_))); (case side4 => exact HC382_1.out); rintro e w' ⟨rfl, ⟨nd, rfl⟩⟩; (try first | exact ⟨rfl, _, World.drewN_drewN _ _ _⟩ | exact ⟨rfl, _, Eq.trans (World.drewN_drewN _ _ _) (congrArg (World.drewN _) (Nat.add_assoc _ _ _))⟩))); try go_wp2)
                  go_ret
                  exact ⟨by first | rfl | (simp; done) | (simp [*]; done), by repeat (first | exact Drawn0.refl _ | apply Drawn0.step)⟩
              · rw [if_neg c7] at H
                have c7b0 : (((rd_T24 l0 x5_1).f0) == ((rd_T24 l1 x5_1).f0)) = false := beq_eq_false_iff_ne.mpr c7
                have c7b1 : (((rd_T24 l0 x5_1).f0) != ((rd_T24 l1 x5_1).f0)) = true := bne_iff_ne.mpr c7
                obtain rfl := Option.some.inj H
                have p379 : 0 ≤ (x5_1 : Int) := of_decide_eq_true (by first | (with_reducible assumption) | assumption)
                have q379 : x5_1 < (l0.length : Int) := of_decide_eq_true (by first | (with_reducible assumption) | assumption)
                obtain ⟨ad379, A379_1, c379_1, e379, hx379_0, hx379_1, hl379_1, hi379_1⟩ := at_T24 HR0.out x5_1 p379 q379
                cases e379
                have HR379_1 := Aside0.mk hi379_1
                have HC379_1 := Aside0.mk hl379_1
                clear hi379_1 hl379_1
                replace p379 := eq_true p379
                replace q379 := eq_true q379
                have p380 : 0 ≤ (x5_1 : Int) := of_decide_eq_true (by first | (with_reducible assumption) | assumption)
                have q380 : x5_1 < (l1.length : Int) := of_decide_eq_true (by first | (with_reducible assumption) | assumption)
                obtain ⟨ad380, A380_1, c380_1, e380, hx380_0, hx380_1, hl380_1, hi380_1⟩ := at_T24 HR1.out x5_1 p380 q380
                cases e380
                have HR380_1 := Aside0.mk hi380_1
                have HC380_1 := Aside0.mk hl380_1
                clear hi380_1 hl380_1
                replace p380 := eq_true p380
                replace q380 := eq_true q380
                go_wp2
                repeat (go_quiet (fail); try go_wp2)
                go_ret
                exact ⟨by first | rfl | (simp; done) | (simp [*]; done), by repeat (first | exact Drawn0.refl _ | apply Drawn0.step)⟩
            · rw [if_neg c6] at H
              exact absurd H (by simp)
          · rw [if_neg c5] at H
            exact absurd H (by simp)
        · rw [if_neg c4] at H
          have c4b0 : decide (x5_1 < (l0.length : Int)) = false := decide_eq_false c4
          clear c4
          obtain rfl := Option.some.inj H
          go_wp2
          repeat (go_quiet (fail); try go_wp2)
          go_ret
          exact ⟨by first | rfl | (simp; done) | (simp [*]; done), by repeat (first | exact Drawn0.refl _ | apply Drawn0.step)⟩
  · rw [if_neg c3] at H
    have c3b0 : ((l0.length : Int) == (l1.length : Int)) = false := beq_eq_false_iff_ne.mpr c3
    have c3b1 : ((l0.length : Int) != (l1.length : Int)) = true := bne_iff_ne.mpr c3
    have c3b2 : (l0.length == l1.length) = false := by first | simpa using c3 | (simp at c3 ⊢; omega)
    obtain rfl := Option.some.inj H
    go_enter Try.func28, Try.ntmps28
    go_wp2
    repeat (go_quiet (fail); try go_wp2)
    go_ret
    exact ⟨by first | rfl | (simp; done) | (simp [*]; done), by repeat (first | exact Drawn0.refl _ | apply Drawn0.step)⟩

/-! ### sheetpilelaw20_told: function 29 -/
def sheetpilelaw20_told.l0 : Nat → List (S30) → List (S24) → Int → Option ((List (S24)))
  | 0, _, _, _ => none
  | k + 1, x0, x3, x4 => if x4 < (x0.length : Int) then (if 0 ≤ x4 then (if x3.length < 4398046511104 then (sheetpilelaw20_told.l0 k x0 (x3 ++ [(⟨(rd_T30 x0 x4).f0, (rd_T30 x0 x4).f1⟩ : S24)]) (wrap64 (x4 + 1))) else (none)) else (none)) else (some x3)
def sheetpilelaw20_told.f (k : Nat) (l0 : List (S30)) : Option ((List (S24))) := sheetpilelaw20_told.l0 k l0 ([] : List (S24)) 0
theorem sheetpilelaw20_told.mono_l : ∀ k, (∀ y0 y1 y2, LeO (sheetpilelaw20_told.l0 k y0 y1 y2) (sheetpilelaw20_told.l0 (k + 1) y0 y1 y2))
  | 0 => fun _ _ _ r h => by simp [sheetpilelaw20_told.l0] at h
  | k + 1 => by
    have ih0 := sheetpilelaw20_told.mono_l k
    · intro y0 y1 y2
      unfold sheetpilelaw20_told.l0
      repeat' first
      | (with_reducible exact ih0 _ _ _)
      | (with_reducible exact LeO.refl _)
      | (with_reducible exact LeO.none _)
      | (with_reducible refine LeO.ite ?_ ?_)
      | (with_reducible refine LeO.bind ?_ (fun _ => ?_))
      | exact ih0 _ _ _
      | exact LeO.none _
      | refine LeO.ite ?_ ?_
      | refine LeO.bind ?_ (fun _ => ?_)
theorem sheetpilelaw20_told.mono : ∀ a0 k, LeO (sheetpilelaw20_told.f k a0) (sheetpilelaw20_told.f (k + 1) a0) := by
  intro a0 k
  have ih0 := sheetpilelaw20_told.mono_l k
  unfold sheetpilelaw20_told.f
  repeat' first
      | (with_reducible exact ih0 _ _ _)
      | (with_reducible exact LeO.refl _)
      | (with_reducible exact LeO.none _)
      | (with_reducible refine LeO.ite ?_ ?_)
      | (with_reducible refine LeO.bind ?_ (fun _ => ?_))
      | exact ih0 _ _ _
      | exact LeO.none _
      | refine LeO.ite ?_ ?_
      | refine LeO.bind ?_ (fun _ => ?_)
def sheetpilelaw20_told.T5 : Bool × List (List Nat × List Nat) := (true, [([], []), ([], []), ([], []), ([1, 2], [1, 2]), ([3], [3]), ([4], [4]), ([], []), ([], []), ([6, 7], [6, 7]), ([8], [8]), ([9], [9]), ([5, 10], [5, 10]), ([11], [11]), ([0, 12], [0, 12]), ([13, 13, 0, 1, 2, 3, 4, 5, 6, 7, 8, 9, 10, 11, 12, 13], [0, 13])])
def sheetpilelaw20_told.B5 : List Nat := [0, 0, 0, 6, 14, 30, 0, 0, 192, 448, 960, 2046, 4094, 8191, 16383]
theorem sheetpilelaw20_told.tab5 : rtab .any (opsOf Try.f29 5) = sheetpilelaw20_told.T5 := by kernel_rfl
theorem sheetpilelaw20_told.bits5 : waitsOk sheetpilelaw20_told.T5.2 sheetpilelaw20_told.B5 = true := by kernel_rfl
set_option maxHeartbeats 8000000 in
set_option maxRecDepth 100000 in
theorem sheetpilelaw20_told.calls (k : Nat) (P0_ : Nat → Prop) (A0 : Option Addr) (c0 : Nat) (l0 : List (S30)) (r : List (S24)) (w : World) (hs0 : Kd.V k30 30 w w.heap.size (fun k_ => P0_ k_) (.slice A0 l0.length c0) l0) (h : sheetpilelaw20_told.f k l0 = some r) :
    Calls Try.prog 29 #[.slice A0 l0.length c0] w fun e w' => ∃ v0_ : Value, e = .returned (v0_) ∧ Kd.N k24 24 w' w.heap.size (fun k_ => (P0_ k_ ∨ w.heap.size ≤ k_)) v0_ r ∧ Below w.heap.size w w' := by
  have hu24 := Try.underlying24
  have HO0 := Aside0.mk (show Kd.V k30 30 w w.heap.size (fun k_ => (P0_ k_ ∨ w.heap.size ≤ k_)) (.slice A0 l0.length c0) l0 from Kd.V_mono hs0 (fun k_ hk => .inl hk))
  have HB := Aside0.mk (Below.refl w.heap.size w)
  have H : (sheetpilelaw20_told.l0 k l0 ([] : List (S24)) 0) = some r := h
  clear h
  have H' := Aside0.mk H
  clear H
  go_enter Try.func29, Try.ntmps29
  go_wp2
  go_loopg [3, 4] k (fun kq v3 v4 w' => ∃ (x3_1 : List (S24)) (x4_1 : Int), v4 = .int .i64 x4_1 ∧ Aside0 (sheetpilelaw20_told.l0 kq l0 x3_1 x4_1 = some r) ∧ Aside0 (kq ≤ k) ∧ Aside0 (Kd.V k30 30 w' w.heap.size (fun k_ => (P0_ k_ ∨ w.heap.size ≤ k_) ∧ some k_ ≠ (v3 : Value).ownBlock) (.slice A0 l0.length c0) l0) ∧ Aside0 (Kd.N k24 24 w' w.heap.size (fun k_ => (P0_ k_ ∨ w.heap.size ≤ k_)) v3 x3_1) ∧ Aside0 (Below w.heap.size w w'))
  case atStart => exact ⟨(([] : List (S24))), (0), (by first | rfl | (simp; done) | (simp [*]; done) | exact congrArg Value.bool (by cases ByteArray.toList a0 <;> rfl) | exact congrArg Value.bool (by cases ByteArray.toList a1 <;> rfl)), H', ⟨Nat.le_refl _⟩, ⟨by (with_reducible repeat (first | apply Kd.V_alloc | apply Kd.V_drewN | apply Kd.V_drew)); exact Kd.V_mono HO0.out (fun _ hk => ⟨hk, (by simp [Value.ownBlock])⟩)⟩, ⟨by first | exact Kd.S_nil _ _ _ _ _ | exact Kd.N_nil _ _ _ _ _ | exact Kd.V_nil _ _ _ _ _ | exact Kd.Q_nil _ _ _ _ _ | exact Kd.R_nil _ _ _ _ _⟩, ⟨by repeat (first | (with_reducible first | exact HB.out | apply below_alloc | apply pw_below_drewN | apply below_drew1) | exact HB.out)⟩⟩
  case round =>
    clear H'
    obtain ⟨x3_1, x4_1, rfl, HA, HK1, HO_0, HO_3, HB⟩ := hrel
    cases gk with
    | zero => exact absurd HA.out (by simp [sheetpilelaw20_told.l0])
    | succ k1 =>
      have H := HA.out
      clear HA
      simp only [sheetpilelaw20_told.l0] at H
      by_cases c2 : x4_1 < (l0.length : Int)
      · rw [if_pos c2] at H
        have c2b0 : decide (x4_1 < (l0.length : Int)) = true := decide_eq_true c2
        clear c2
        by_cases c3 : 0 ≤ x4_1
        · rw [if_pos c3] at H
          have c3b0 : decide (0 ≤ x4_1) = true := decide_eq_true c3
          clear c3
          by_cases c4 : x3_1.length < 4398046511104
          · rw [if_pos c4] at H
            have LMc4 := Aside0.mk c4
            clear c4
            obtain ⟨y386, hy386⟩ : ∃ y_ : List (S24), y_ = (x3_1 ++ [(⟨(rd_T30 l0 x4_1).f0, (rd_T30 l0 x4_1).f1⟩ : S24)]) := ⟨_, rfl⟩
            replace H : (sheetpilelaw20_told.l0 k1 l0 y386 (wrap64 (x4_1 + 1))) = some r := by first | (rw [hy386]; with_reducible exact H) | (have H2_ := (Option.bind_some _ _).symm.trans H; rw [hy386]; with_reducible exact H2_) | (have H2_ := (Option.bind_some _ _).symm.trans H; with_reducible exact H2_) | with_reducible exact H | (rw [hy386]; exact H) | exact H
            have Ny386 := Aside0.mk hy386
            clear hy386
            have H' := Aside0.mk H
            clear H
            try go_wp2
            have n0_ := Aside0.mk (Kd.V_drew HO_0.out)
            have n1_ := Aside0.mk (Kd.N_drew HO_3.out)
            have n2_ := Aside0.mk (below_drew1 HB.out)
            clear HO_0
            clear HO_3
            clear HB
            have HO_0 := n0_
            have HO_3 := n1_
            have HB := n2_
            clear n0_ n1_ n2_
            have p384 : 0 ≤ (x4_1 : Int) := of_decide_eq_true (by first | (with_reducible assumption) | assumption)
            have q384 : x4_1 < (l0.length : Int) := of_decide_eq_true (by first | (with_reducible assumption) | assumption)
            obtain ⟨ad384, A384_1, c384_1, e384, hx384_0, hx384_1, hl384_1, hi384_1⟩ := at_T30 (Kd.V_reads' HO_0.out).2.2 x4_1 p384 q384
            cases e384
            obtain ⟨ce384, hce384, hMe384, hcc384⟩ := Kd.V_get HO_0.out z30 x4_1 p384 (by first | exact q384 | exact of_decide_eq_true (by first | (with_reducible assumption) | assumption) | (have e_ := (Kd.V_reads' HO_0.out).1; omega))
            obtain ⟨ua384_1, uc384_1, rfl, ul384_1, ge384_1⟩ := k30_openF hMe384
            have hv384_1 := hcc384 1 _ rfl
            rw [add_field _ _ 1 (by omega)] at hv384_1
            replace hv384_1 := Option.some.inj (hv384_1.symm.trans hx384_1)
            injection hv384_1 with hva_ hvn_ hvc_
            rw [hva_] at ge384_1
            rw [hvc_] at ul384_1
            have HL384_1 := Aside0.mk (show Kd.V k62 62 _ w.heap.size _ _ ((rd_T30 l0 x4_1).f1) from Kd.V_mk ul384_1 ge384_1)
            clear hva_ hvn_ hvc_ ge384_1 ul384_1
            clear hcc384 hce384
            have HR384_1 := Aside0.mk hi384_1
            have HC384_1 := Aside0.mk hl384_1
            clear hi384_1 hl384_1
            replace p384 := eq_true p384
            replace q384 := eq_true q384
            have p385 : 0 ≤ (x4_1 : Int) := of_decide_eq_true (by first | (with_reducible assumption) | assumption)
            have q385 : x4_1 < (l0.length : Int) := of_decide_eq_true (by first | (with_reducible assumption) | assumption)
            obtain ⟨ad385, A385_1, c385_1, e385, hx385_0, hx385_1, hl385_1, hi385_1⟩ := at_T30 (Kd.V_reads' HO_0.out).2.2 x4_1 p385 q385
            obtain rfl : ad384 = ad385 := (by injection e385)
            obtain ⟨ce385, hce385, hMe385, hcc385⟩ := Kd.V_get HO_0.out z30 x4_1 p385 (by first | exact q385 | exact of_decide_eq_true (by first | (with_reducible assumption) | assumption) | (have e_ := (Kd.V_reads' HO_0.out).1; omega))
            obtain ⟨ua385_1, uc385_1, rfl, ul385_1, ge385_1⟩ := k30_openF hMe385
            have hv385_1 := hcc385 1 _ rfl
            rw [add_field _ _ 1 (by omega)] at hv385_1
            replace hv385_1 := Option.some.inj (hv385_1.symm.trans hx385_1)
            injection hv385_1 with hva_ hvn_ hvc_
            rw [hva_] at ge385_1
            rw [hvc_] at ul385_1
            have HL385_1 := Aside0.mk (show Kd.V k62 62 _ w.heap.size _ _ ((rd_T30 l0 x4_1).f1) from Kd.V_mk ul385_1 ge385_1)
            clear hva_ hvn_ hvc_ ge385_1 ul385_1
            clear hcc385 hce385
            have HR385_1 := Aside0.mk hi385_1
            have HC385_1 := Aside0.mk hl385_1
            clear hi385_1 hl385_1
            replace p385 := eq_true p385
            replace q385 := eq_true q385
            have ea_ := Option.some.inj (hx384_1.symm.trans hx385_1)
            injection ea_ with ea_ en_ ec_
            subst ea_
            subst ec_
            clear en_
            refine start_ (n := 15) (S := fun w' => w'.cell? (ad384.add ((x4_1).toNat * 2)) = some (.int .i64 ((rd_T30 l0 x4_1).f0)) ∧ w'.cell? ⟨(ad384.add ((x4_1).toNat * 2)).block, (ad384.add ((x4_1).toNat * 2)).off + 1, none⟩ = some (.slice A384_1 ((rd_T30 l0 x4_1).f1).length c384_1) ∧ w'.cell? (ad384.add ((x4_1).toNat * 2)) = some (.int .i64 ((rd_T30 l0 x4_1).f0)) ∧ w'.cell? ⟨(ad384.add ((x4_1).toNat * 2)).block, (ad384.add ((x4_1).toNat * 2)).off + 1, none⟩ = some (.slice A384_1 ((rd_T30 l0 x4_1).f1).length c384_1)) (ds := [12, 13]) #[false, false, false, false, false, false, false, false, false, false, false, false, false, false, false] (by kernel_rfl) rfl rfl ⟨hx384_0, hx384_1, hx385_0, hx385_1⟩ (fun hHeld => ?_); refine with_tabW sheetpilelaw20_told.tab5 sheetpilelaw20_told.bits5 (fun HT_ HW_ => ?_)
            generalize wr.drew = w5 at HO_0 HO_3 HB HL384_1 HL385_1 HR384_1 HR385_1 hx384_0 hx384_1 hx385_0 hx385_1 hHeld ⊢
            refine pure_ (i := 0) (N := some 11) (v := ?_) (a' := ?_) #[true, false, false, false, false, false, false, false, false, false, false, false, false, false, false] rfl rfl (any_of HT_.out (by kernel_rfl)) (fun _ _ _ h => h) (Or.inl ⟨by rfl, ?_⟩) ?_ ?_
            rotate_left
            · intro w'
              go_simp
              with_reducible rfl
            rotate_left
            · simp only [Act.put, List.setIfInBounds_toArray, List.set_cons_zero, List.set_cons_succ, i64_w, i32_w]
              rfl
            refine pure_ (i := 1) (N := some 12) (v := ?_) (a' := ?_) #[true, true, false, false, false, false, false, false, false, false, false, false, false, false, false] rfl rfl (any_of HT_.out (by kernel_rfl)) (fun _ _ _ h => h) (Or.inl ⟨by rfl, ?_⟩) ?_ ?_
            rotate_left
            · intro w'
              go_simp
              with_reducible rfl
            rotate_left
            · simp only [Act.put, List.setIfInBounds_toArray, List.set_cons_zero, List.set_cons_succ, i64_w, i32_w]
              rfl
            refine pure_ (i := 2) (N := some 13) (v := ?_) (a' := ?_) #[true, true, true, false, false, false, false, false, false, false, false, false, false, false, false] rfl rfl (any_of HT_.out (by kernel_rfl)) (fun _ _ _ h => h) (Or.inl ⟨by rfl, ?_⟩) ?_ ?_
            rotate_left
            · intro w'
              go_simp
              with_reducible rfl
            rotate_left
            · simp only [Act.put, List.setIfInBounds_toArray, List.set_cons_zero, List.set_cons_succ, i64_w, i32_w]
              rfl
            refine pure_ (i := 3) (N := some 14) (v := ?_) (a' := ?_) #[true, true, true, true, false, false, false, false, false, false, false, false, false, false, false] rfl rfl (any_of HT_.out (by kernel_rfl)) (fun _ _ _ h => h) (Or.inl ⟨by rfl, ?_⟩) ?_ ?_
            rotate_left
            · intro w'
              go_simp
              with_reducible rfl
            rotate_left
            · simp only [Act.put, List.setIfInBounds_toArray, List.set_cons_zero, List.set_cons_succ, i64_w, i32_w]
              rfl
            refine pure_ (i := 4) (N := some 15) (v := ?_) (a' := ?_) #[true, true, true, true, true, false, false, false, false, false, false, false, false, false, false] rfl rfl (any_of HT_.out (by kernel_rfl)) (fun _ _ _ h => h) (Or.inl ⟨by rfl, ?_⟩) ?_ ?_
            rotate_left
            · intro w'
              go_simp
              with_reducible rfl
            rotate_left
            · simp only [Act.put, List.setIfInBounds_toArray, List.set_cons_zero, List.set_cons_succ, i64_w, i32_w]
              rfl
            refine pure_ (i := 6) (N := some 17) (v := ?_) (a' := ?_) #[true, true, true, true, true, false, true, false, false, false, false, false, false, false, false] rfl rfl (any_of HT_.out (by kernel_rfl)) (fun _ _ _ h => h) (Or.inl ⟨by rfl, ?_⟩) ?_ ?_
            rotate_left
            · intro w'
              go_simp
              with_reducible rfl
            rotate_left
            · simp only [Act.put, List.setIfInBounds_toArray, List.set_cons_zero, List.set_cons_succ, i64_w, i32_w]
              rfl
            refine pure_ (i := 7) (N := some 18) (v := ?_) (a' := ?_) #[true, true, true, true, true, false, true, true, false, false, false, false, false, false, false] rfl rfl (any_of HT_.out (by kernel_rfl)) (fun _ _ _ h => h) (Or.inl ⟨by rfl, ?_⟩) ?_ ?_
            rotate_left
            · intro w'
              go_simp
              with_reducible rfl
            rotate_left
            · simp only [Act.put, List.setIfInBounds_toArray, List.set_cons_zero, List.set_cons_succ, i64_w, i32_w]
              rfl
            refine pure_ (i := 8) (N := some 19) (v := ?_) (a' := ?_) #[true, true, true, true, true, false, true, true, true, false, false, false, false, false, false] rfl rfl (any_of HT_.out (by kernel_rfl)) (fun _ _ _ h => h) (Or.inl ⟨by rfl, ?_⟩) ?_ ?_
            rotate_left
            · intro w'
              go_simp
              with_reducible rfl
            rotate_left
            · simp only [Act.put, List.setIfInBounds_toArray, List.set_cons_zero, List.set_cons_succ, i64_w, i32_w]
              rfl
            refine pure_ (i := 9) (N := some 20) (v := ?_) (a' := ?_) #[true, true, true, true, true, false, true, true, true, true, false, false, false, false, false] rfl rfl (any_of HT_.out (by kernel_rfl)) (fun _ _ _ h => h) (Or.inl ⟨by rfl, ?_⟩) ?_ ?_
            rotate_left
            · intro w'
              go_simp
              with_reducible rfl
            rotate_left
            · simp only [Act.put, List.setIfInBounds_toArray, List.set_cons_zero, List.set_cons_succ, i64_w, i32_w]
              rfl
            refine take_ (i := 5) (N := some 16) (v := ?_) (a' := ?_) #[true, true, true, true, true, true, true, true, true, true, false, false, false, false, false] rfl rfl (take_ofW HT_.out HW_.out (by kernel_rfl)) (fun _ _ _ h => h) (Or.inl ⟨by rfl, ?_⟩) hHeld ?_ ?_
            rotate_left
            · rintro w' ⟨s0, s1, s2, s3⟩
              go_simp
              with_reducible rfl
            rotate_left
            · simp only [Act.put, List.setIfInBounds_toArray, List.set_cons_zero, List.set_cons_succ, i64_w, i32_w]
              rfl
            refine take_ (i := 10) (N := some 21) (v := ?_) (a' := ?_) #[true, true, true, true, true, true, true, true, true, true, true, false, false, false, false] rfl rfl (take_ofW HT_.out HW_.out (by kernel_rfl)) (fun _ _ _ h => h) (Or.inl ⟨by rfl, ?_⟩) hHeld ?_ ?_
            rotate_left
            · rintro w' ⟨s0, s1, s2, s3⟩
              go_simp
              with_reducible rfl
            rotate_left
            · simp only [Act.put, List.setIfInBounds_toArray, List.set_cons_zero, List.set_cons_succ, i64_w, i32_w]
              rfl
            refine pure_ (i := 11) (N := some 22) (v := ?_) (a' := ?_) #[true, true, true, true, true, true, true, true, true, true, true, true, false, false, false] rfl rfl (any_of HT_.out (by kernel_rfl)) (fun _ _ _ h => h) (Or.inl ⟨by rfl, ?_⟩) ?_ ?_
            rotate_left
            · intro w'
              go_simp
              with_reducible rfl
            rotate_left
            · simp only [Act.put, List.setIfInBounds_toArray, List.set_cons_zero, List.set_cons_succ, i64_w, i32_w]
              rfl
            refine last_ (i := 12) (N := some 23) #[true, true, true, true, true, true, true, true, true, true, true, true, true, false, false] rfl rfl (one_of HT_.out (by kernel_rfl)) (by decide) (fun K hK => ?_)
            refine value_ (w1 := ?_) (v := ?_) (by rfl) rfl ?_ ?_
            rotate_left 2
            · go_simp
              constructor
              · rfl
              · rfl
            refine hK.out _ _ ?_
            clear hK K
            refine norm_ (a' := ?_) ?_ ?_
            rotate_left
            · show Act.put _ (some 23) _ = _
              simp only [Act.put, List.setIfInBounds_toArray, List.set_cons_zero, List.set_cons_succ, i64_w, i32_w]
              rfl
            refine last_ (i := 13) (N := some 24) #[true, true, true, true, true, true, true, true, true, true, true, true, true, true, false] rfl rfl (one_of HT_.out (by kernel_rfl)) (by decide) (fun K hK => ?_)
            refine Kd.N_append_step k24 (w0 := w) w.heap.size (by rfl) (.tmp 11) (.tmp 23) 50 24 (.agg #[(.int .i64 0), (.slice none 0 0)]) 32 rfl Try.underlying50 info24 rfl (by decide) (by omega) u3 x3_1 (⟨(rd_T30 l0 x4_1).f0, (rd_T30 l0 x4_1).f1⟩ : S24) [.int .i64 ((rd_T30 l0 x4_1).f0), .slice A384_1 ((rd_T30 l0 x4_1).f1).length c384_1] (fun k_ => (P0_ k_ ∨ w.heap.size ≤ k_)) (fun k_ => ((fun k_ => (P0_ k_ ∨ w.heap.size ≤ k_))) k_ ∧ some k_ ≠ (u3 : Value).ownBlock) rfl rfl ?aP (fun _ hk => hk) ?aF ?aO ?aB ?aS ?aL ?_
            (case aP => exact (k24_mkF _ _ (⟨(rd_T30 l0 x4_1).f0, (rd_T30 l0 x4_1).f1⟩ : S24) (Kd.V_reads' (Kd.V_mono (ok' := (fun k_ => ((fun k_ => (P0_ k_ ∨ w.heap.size ≤ k_))) k_ ∧ some k_ ≠ (u3 : Value).ownBlock)) (HL385_1.out) (fun k_ hk => ⟨hk.1, hk.2⟩))).2.1 (Kd.V_F (Kd.V_mono (ok' := (fun k_ => ((fun k_ => (P0_ k_ ∨ w.heap.size ≤ k_))) k_ ∧ some k_ ≠ (u3 : Value).ownBlock)) (HL385_1.out) (fun k_ hk => ⟨hk.1, hk.2⟩)))))
            (case aB => exact (by repeat (first | (with_reducible first | exact HB.out | apply below_alloc | apply pw_below_drewN | apply below_drew1) | exact HB.out)))
            (case aF => exact (fun k_ hk => (.inr (Nat.le_trans (below_size (by repeat (first | (with_reducible first | exact HB.out | apply below_alloc | apply pw_below_drewN | apply below_drew1) | exact HB.out))) hk))))
            (case aO => exact (by (with_reducible repeat (first | apply Kd.N_alloc | apply Kd.N_drewN | apply Kd.N_drew)); exact HO_3.out))
            (case aS => exact (below_size (by repeat (first | (with_reducible first | exact HB.out | apply below_alloc | apply pw_below_drewN | apply below_drew1) | exact HB.out))))
            (case aL => have := LMc4.out; omega)
            intro v387 w6 ho hb hg hat
            rw [← Ny386.out] at ho
            have n0_ := Aside0.mk (Kd.V_afterv (ok := (fun k_ => (P0_ k_ ∨ w.heap.size ≤ k_))) (by (with_reducible repeat (first | apply Kd.V_alloc | apply Kd.V_drewN | apply Kd.V_drew)); exact HO_0.out) hg hat)
            have n1_ := Aside0.mk (Kd.V_afterv (ok := (fun k_ => (P0_ k_ ∨ w.heap.size ≤ k_))) (by (with_reducible repeat (first | apply Kd.V_alloc | apply Kd.V_drewN | apply Kd.V_drew)); exact HL384_1.out) hg hat)
            have n2_ := Aside0.mk (Kd.V_afterv (ok := (fun k_ => (P0_ k_ ∨ w.heap.size ≤ k_))) (by (with_reducible repeat (first | apply Kd.V_alloc | apply Kd.V_drewN | apply Kd.V_drew)); exact HL385_1.out) hg hat)
            have n3_ := Aside0.mk (hb)
            have n4_ := Aside0.mk (ho)
            clear HO_0
            clear HL384_1
            clear HL385_1
            clear HB
            clear HO_3
            have HO_0 := n0_
            have HL384_1 := n1_
            have HL385_1 := n2_
            have HB := n3_
            have HO388 := n4_
            clear n0_ n1_ n2_ n3_ n4_
            clear ho hb hg hat
            refine hK.out _ _ ?_
            clear hK K
            refine norm_ (a' := ?_) ?_ ?_
            rotate_left
            · show Act.put _ (some 24) _ = _
              simp only [Act.put, List.setIfInBounds_toArray, List.set_cons_zero, List.set_cons_succ, i64_w, i32_w]
              rfl
            refine pure_ (i := 14) (N := some 3) (v := ?_) (a' := ?_) #[true, true, true, true, true, true, true, true, true, true, true, true, true, true, true] rfl rfl (any_of HT_.out (by kernel_rfl)) (fun _ _ _ h => h) (Or.inl ⟨by rfl, ?_⟩) ?_ ?_
            rotate_left
            · intro w'
              go_simp
              with_reducible rfl
            rotate_left
            · simp only [Act.put, List.setIfInBounds_toArray, List.set_cons_zero, List.set_cons_succ, i64_w, i32_w]
              rfl
            refine done_ (done_of HT_.out (by kernel_rfl)) ?_
            try go_wp2
            go_roundg k1
            case measure => have := HK1.out; omega
            case rel => exact ⟨(y386), (wrap64 (x4_1 + 1)), (by first | rfl | (simp; done) | (simp [*]; done) | exact congrArg Value.bool (by cases ByteArray.toList a0 <;> rfl) | exact congrArg Value.bool (by cases ByteArray.toList a1 <;> rfl)), H', ⟨by have := HK1.out; omega⟩, ⟨by (with_reducible repeat (first | apply Kd.V_alloc | apply Kd.V_drewN | apply Kd.V_drew)); exact HO_0.out⟩, ⟨by (with_reducible repeat (first | apply Kd.N_alloc | apply Kd.N_drewN | apply Kd.N_drew)); exact HO388.out⟩, ⟨by repeat (first | (with_reducible first | exact HB.out | apply below_alloc | apply pw_below_drewN | apply below_drew1) | exact HB.out)⟩⟩
          · rw [if_neg c4] at H
            exact absurd H (by simp)
        · rw [if_neg c3] at H
          exact absurd H (by simp)
      · rw [if_neg c2] at H
        have c2b0 : decide (x4_1 < (l0.length : Int)) = false := decide_eq_false c2
        clear c2
        obtain rfl := Option.some.inj H
        go_wp2
        go_ret
        exact ⟨_, by first | rfl | (simp [errW_none, errW_some] <;> rfl) | (simp [*, errW_none, errW_some] <;> rfl), by (with_reducible repeat (first | apply Kd.N_alloc | apply Kd.N_drewN | apply Kd.N_drew)); exact HO_3.out, by repeat (first | (with_reducible first | exact HB.out | apply below_alloc | apply pw_below_drewN | apply below_drew1) | exact HB.out)⟩

end Go.Proofs.Ytcgbjkjacpeheaa.PFr
