-- Laid by a program of this session (wip/mkprint.py); checked by Lean alone
import Derived.Test.YtcgbjkjacpeheaaPFrx0
import Derived.Test.YtcgbjkjacpeheaaPFrx18
import Derived.Test.YtcgbjkjacpeheaaPFrx19
import Derived.Test.YtcgbjkjacpeheaaScan20
import Derived.Test.YtcgbjkjacpeheaaScanWrite
namespace Go.Proofs.Ytcgbjkjacpeheaa.Given
end Go.Proofs.Ytcgbjkjacpeheaa.Given
namespace Go.Proofs.Ytcgbjkjacpeheaa.PFr
open Go.Proofs.Ytcgbjkjacpeheaa.Given
open Go.RowKit Go.Proofs.YtcgbjkjacpeheaaW.PrintWords Go.Proofs.YtcgbjkjacpeheaaW.PrintLast Go.Proofs.YtcgbjkjacpeheaaW.PrintMore
attribute [local go_sem] max2_int min2_int max_two min_two max_three min_three max_four min_four   -- for this text's walks alone
set_option linter.unusedVariables false
set_option linter.unusedSimpArgs false

attribute [local go_sem] isSome_setCell_
/-! ### sheetpilelaw20_ScanOn: function 13 -/
mutual
def sheetpilelaw20_ScanOn.j0 : Nat → Int → List (List (S62)) → List (List (S62)) → Bool → Option (Bool)
  | 0, _, _, _, _ => none
  | k + 1, x0, x1, x2, x28 => if x28 = true then ((sheetpilelaw20_live.f).bind fun t451 => (some t451)) else ((scan_Write.f x0 x1).bind fun bt452 => ((scan_Write.f (wrap64 (x0 + (x1.length : Int))) x2).bind fun bt454 => (if bt452.2 = 0 then (sheetpilelaw20_ScanOn.j1 k bt452.1 bt454.1 (bt454.2 != 0)) else (sheetpilelaw20_ScanOn.j1 k bt452.1 bt454.1 true))))
def sheetpilelaw20_ScanOn.j1 : Nat → ByteArray → ByteArray → Bool → Option (Bool)
  | 0, _, _, _ => none
  | k + 1, x7, x9, x50 => if x50 = true then ((sheetpilelaw20_live.f).bind fun t456 => (some t456)) else ((scan_All.f x7).bind fun bt457 => ((scan_All.f x9).bind fun bt461 => (if x7.size + x9.size ≤ 9223372036854775807 then ((scan_All.f (x7 ++ x9)).bind fun bt465 => (if (bt465.1.length : Int) = (wrap64 ((bt457.1.length : Int) + (bt461.1.length : Int))) then (sheetpilelaw20_ScanOn.j2 k bt457.1 bt461.1 bt465.1 (bt465.2 != (wrap64 (bt457.2 + bt461.2)))) else (sheetpilelaw20_ScanOn.j2 k bt457.1 bt461.1 bt465.1 true))) else (none))))
def sheetpilelaw20_ScanOn.j2 : Nat → List (S30) → List (S30) → List (S30) → Bool → Option (Bool)
  | 0, _, _, _, _ => none
  | k + 1, x11, x13, x15, x83 => if x83 = true then (some false) else (if 0 ≤ (x11.length : Int) then (if (x11.length : Int) ≤ (x15.length : Int) then ((sheetpilelaw20_told.f k (x15.take ((x11.length : Int) : Int).toNat)).bind fun t474 => ((sheetpilelaw20_told.f k x11).bind fun t477 => ((sheetpileref19_Same.f k t474 t477).bind fun t480 => (if t480 = true then ((sheetpilelaw20_told.f k (x15.drop ((x11.length : Int) : Int).toNat)).bind fun t486 => ((sheetpilelaw20_told.f k x13).bind fun t489 => ((sheetpileref19_Same.f k t486 t489).bind fun t492 => (if t492 = true then ((sheetpilelaw20_live.f).bind fun t493 => (some t493)) else (some false))))) else (some false))))) else (none)) else (none))
end
def sheetpilelaw20_ScanOn.f (k : Nat) (a0 : Int) (l1 : List (List (S62))) (l2 : List (List (S62))) : Option (Bool) := (sheetpileref20_Few.f k l1).bind fun t449 => (if t449 = true then ((sheetpileref20_Few.f k l2).bind fun t450 => (if t450 = true then (sheetpilelaw20_ScanOn.j0 k a0 l1 l2 (decide (a0 > 1152921504606846976))) else (sheetpilelaw20_ScanOn.j0 k a0 l1 l2 true))) else (sheetpilelaw20_ScanOn.j0 k a0 l1 l2 true))
theorem sheetpilelaw20_ScanOn.mono_l : ∀ k, (∀ y0 y1 y2 y3, LeO (sheetpilelaw20_ScanOn.j0 k y0 y1 y2 y3) (sheetpilelaw20_ScanOn.j0 (k + 1) y0 y1 y2 y3)) ∧ (∀ y0 y1 y2, LeO (sheetpilelaw20_ScanOn.j1 k y0 y1 y2) (sheetpilelaw20_ScanOn.j1 (k + 1) y0 y1 y2)) ∧ (∀ y0 y1 y2 y3, LeO (sheetpilelaw20_ScanOn.j2 k y0 y1 y2 y3) (sheetpilelaw20_ScanOn.j2 (k + 1) y0 y1 y2 y3))
  | 0 => ⟨fun _ _ _ _ r h => by simp [sheetpilelaw20_ScanOn.j0] at h, fun _ _ _ r h => by simp [sheetpilelaw20_ScanOn.j1] at h, fun _ _ _ _ r h => by simp [sheetpilelaw20_ScanOn.j2] at h⟩
  | k + 1 => by
    obtain ⟨ih0, ih1, ih2⟩ := sheetpilelaw20_ScanOn.mono_l k
    refine ⟨?_, ?_, ?_⟩
    · intro y0 y1 y2 y3
      unfold sheetpilelaw20_ScanOn.j0
      repeat' first
      | (with_reducible exact ih0 _ _ _ _)
      | (with_reducible exact ih1 _ _ _)
      | (with_reducible exact ih2 _ _ _ _)
      | (with_reducible exact sheetpilelaw20_told.mono _ _)
      | (with_reducible exact sheetpileref19_Same.mono _ _ _)
      | (with_reducible exact sheetpileref20_Few.mono _ _)
      | (with_reducible exact LeO.refl _)
      | (with_reducible exact LeO.none _)
      | (with_reducible refine LeO.ite ?_ ?_)
      | (with_reducible refine LeO.bind ?_ (fun _ => ?_))
      | exact ih0 _ _ _ _
      | exact ih1 _ _ _
      | exact ih2 _ _ _ _
      | exact sheetpilelaw20_told.mono _ _
      | exact sheetpileref19_Same.mono _ _ _
      | exact sheetpileref20_Few.mono _ _
      | exact LeO.none _
      | refine LeO.ite ?_ ?_
      | refine LeO.bind ?_ (fun _ => ?_)
    · intro y0 y1 y2
      unfold sheetpilelaw20_ScanOn.j1
      repeat' first
      | (with_reducible exact ih0 _ _ _ _)
      | (with_reducible exact ih1 _ _ _)
      | (with_reducible exact ih2 _ _ _ _)
      | (with_reducible exact sheetpilelaw20_told.mono _ _)
      | (with_reducible exact sheetpileref19_Same.mono _ _ _)
      | (with_reducible exact sheetpileref20_Few.mono _ _)
      | (with_reducible exact LeO.refl _)
      | (with_reducible exact LeO.none _)
      | (with_reducible refine LeO.ite ?_ ?_)
      | (with_reducible refine LeO.bind ?_ (fun _ => ?_))
      | exact ih0 _ _ _ _
      | exact ih1 _ _ _
      | exact ih2 _ _ _ _
      | exact sheetpilelaw20_told.mono _ _
      | exact sheetpileref19_Same.mono _ _ _
      | exact sheetpileref20_Few.mono _ _
      | exact LeO.none _
      | refine LeO.ite ?_ ?_
      | refine LeO.bind ?_ (fun _ => ?_)
    · intro y0 y1 y2 y3
      unfold sheetpilelaw20_ScanOn.j2
      repeat' first
      | (with_reducible exact ih0 _ _ _ _)
      | (with_reducible exact ih1 _ _ _)
      | (with_reducible exact ih2 _ _ _ _)
      | (with_reducible exact sheetpilelaw20_told.mono _ _)
      | (with_reducible exact sheetpileref19_Same.mono _ _ _)
      | (with_reducible exact sheetpileref20_Few.mono _ _)
      | (with_reducible exact LeO.refl _)
      | (with_reducible exact LeO.none _)
      | (with_reducible refine LeO.ite ?_ ?_)
      | (with_reducible refine LeO.bind ?_ (fun _ => ?_))
      | exact ih0 _ _ _ _
      | exact ih1 _ _ _
      | exact ih2 _ _ _ _
      | exact sheetpilelaw20_told.mono _ _
      | exact sheetpileref19_Same.mono _ _ _
      | exact sheetpileref20_Few.mono _ _
      | exact LeO.none _
      | refine LeO.ite ?_ ?_
      | refine LeO.bind ?_ (fun _ => ?_)
theorem sheetpilelaw20_ScanOn.mono : ∀ a0 a1 a2 k, LeO (sheetpilelaw20_ScanOn.f k a0 a1 a2) (sheetpilelaw20_ScanOn.f (k + 1) a0 a1 a2) := by
  intro a0 a1 a2 k
  obtain ⟨ih0, ih1, ih2⟩ := sheetpilelaw20_ScanOn.mono_l k
  unfold sheetpilelaw20_ScanOn.f
  repeat' first
      | (with_reducible exact ih0 _ _ _ _)
      | (with_reducible exact ih1 _ _ _)
      | (with_reducible exact ih2 _ _ _ _)
      | (with_reducible exact sheetpilelaw20_told.mono _ _)
      | (with_reducible exact sheetpileref19_Same.mono _ _ _)
      | (with_reducible exact sheetpileref20_Few.mono _ _)
      | (with_reducible exact LeO.refl _)
      | (with_reducible exact LeO.none _)
      | (with_reducible refine LeO.ite ?_ ?_)
      | (with_reducible refine LeO.bind ?_ (fun _ => ?_))
      | exact ih0 _ _ _ _
      | exact ih1 _ _ _
      | exact ih2 _ _ _ _
      | exact sheetpilelaw20_told.mono _ _
      | exact sheetpileref19_Same.mono _ _ _
      | exact sheetpileref20_Few.mono _ _
      | exact LeO.none _
      | refine LeO.ite ?_ ?_
      | refine LeO.bind ?_ (fun _ => ?_)
set_option maxHeartbeats 8000000 in
set_option maxRecDepth 100000 in
theorem sheetpilelaw20_ScanOn.calls (k : Nat) (a0 : Int) (A1 : Option Addr) (c1 : Nat) (l1 : List (List (S62))) (A2 : Option Addr) (c2 : Nat) (l2 : List (List (S62))) (r : Bool) (w : World) (hr1 : Kd.C (Kd.slice 62 k62) w A1 l1.length l1) (hc1 : l1.length ≤ c1) (hr2 : Kd.C (Kd.slice 62 k62) w A2 l2.length l2) (hc2 : l2.length ≤ c2) (h : sheetpilelaw20_ScanOn.f k a0 l1 l2 = some r) :
    Calls Try.prog 13 #[.int .i64 a0, .slice A1 l1.length c1, .slice A2 l2.length c2] w fun e w' => e = .returned (.bool r) ∧ Below w.heap.size w w' := by
  have HR1 := Aside0.mk hr1
  have HC1 := Aside0.mk hc1
  clear hr1 hc1
  have HR2 := Aside0.mk hr2
  have HC2 := Aside0.mk hc2
  clear hr2 hc2
  have HB := Aside0.mk (Below.refl w.heap.size w)
  have H : ((sheetpileref20_Few.f k l1).bind fun t449 => (if t449 = true then ((sheetpileref20_Few.f k l2).bind fun t450 => (if t450 = true then (sheetpilelaw20_ScanOn.j0 k a0 l1 l2 (decide (a0 > 1152921504606846976))) else (sheetpilelaw20_ScanOn.j0 k a0 l1 l2 true))) else (sheetpilelaw20_ScanOn.j0 k a0 l1 l2 true))) = some r := h
  clear h
  have HC4 := Aside0.mk H
  clear H
  go_enter Try.func13, Try.ntmps13
  go_upto_region 1 with (fail)
  go_cut [28] (fun v28 wc => ∃ (kq : Nat) (x28_3 : Bool), v28 = .bool x28_3 ∧ Aside0 (sheetpilelaw20_ScanOn.j0 kq a0 l1 l2 x28_3 = some r) ∧ Aside0 (kq ≤ k) ∧ Aside0 (Below w.heap.size w wc))
  case first =>
    have H := HC4.out
    clear HC4
    replace H := Option.bind_eq_some_iff.mp H
    obtain ⟨t449, A50, H⟩ := H
    replace H : (if t449 = true then ((sheetpileref20_Few.f k l2).bind fun t450 => (if t450 = true then (sheetpilelaw20_ScanOn.j0 k a0 l1 l2 (decide (a0 > 1152921504606846976))) else (sheetpilelaw20_ScanOn.j0 k a0 l1 l2 true))) else (sheetpilelaw20_ScanOn.j0 k a0 l1 l2 true)) = some r := H
    have A5 := Aside0.mk A50
    clear A50
    by_cases c6 : t449 = true
    · subst c6
      have H1 : ((sheetpileref20_Few.f k l2).bind fun t450 => (if t450 = true then (sheetpilelaw20_ScanOn.j0 k a0 l1 l2 (decide (a0 > 1152921504606846976))) else (sheetpilelaw20_ScanOn.j0 k a0 l1 l2 true))) = some r := by rw [if_pos rfl] at H; exact H
      clear H
      have H := H1
      clear H1
      replace H := Option.bind_eq_some_iff.mp H
      obtain ⟨t450, A70, H⟩ := H
      replace H : (if t450 = true then (sheetpilelaw20_ScanOn.j0 k a0 l1 l2 (decide (a0 > 1152921504606846976))) else (sheetpilelaw20_ScanOn.j0 k a0 l1 l2 true)) = some r := H
      have A7 := Aside0.mk A70
      clear A70
      by_cases c8 : t450 = true
      · subst c8
        have H1 : (sheetpilelaw20_ScanOn.j0 k a0 l1 l2 (decide (a0 > 1152921504606846976))) = some r := by rw [if_pos rfl] at H; exact H
        clear H
        have H := H1
        clear H1
        have H' := Aside0.mk H
        clear H
        go_wp2_with (first | ((with_reducible refine gate_callee (f := 30) rfl ?_); refine goesL_ (some 18) rfl rfl Try.func30 (by kernel_rfl) rfl #[.slice A1 l1.length c1] rfl (by (try simp only [List.map_toArray, List.map_cons, List.map_nil]); first | done | rfl | (simp only [List.length_drop, List.length_take]; rfl)) ?_; (with_reducible refine (sheetpileref20_Few.calls k _ _ l1 true _ ?side1 ?side2 A5.out).mono ?_); (case side1 => repeat (first | exact (Kd.C_below HR1.out HB.out) | (with_reducible refine Kd.C_alloc ?_ _) | (with_reducible refine Kd.C_drewN ?_ _) | (with_reducible refine Kd.C_drew ?_))); (case side2 => exact HC1.out); rintro e w' ⟨rfl, ⟨nd, rfl⟩⟩; refine ⟨_, rfl, ?_⟩) | (go_at_call 30; (with_reducible refine (sheetpileref20_Few.calls k _ _ l2 true _ ?side1 ?side2 A7.out).mono ?_); (case side1 => repeat (first | exact (Kd.C_below HR2.out (by repeat (first | (with_reducible first | exact HB.out | apply below_alloc | apply pw_below_drewN | apply below_drew1) | exact HB.out))) | (with_reducible refine Kd.C_alloc ?_ _) | (with_reducible refine Kd.C_drewN ?_ _) | (with_reducible refine Kd.C_drew ?_))); (case side2 => exact HC2.out); rintro e w' ⟨rfl, ⟨nd, rfl⟩⟩))
        go_meet
        case rel => exact ⟨_, (decide (a0 > 1152921504606846976)), (by first | rfl | (simp; done) | (simp [*]; done) | exact congrArg Value.bool (by cases ByteArray.toList a0 <;> rfl) | exact congrArg Value.bool (by cases ByteArray.toList a1 <;> rfl)), H', ⟨by first | omega | exact Nat.le_refl _⟩, ⟨by repeat (first | (with_reducible first | exact HB.out | apply below_alloc | apply pw_below_drewN | apply below_drew1) | exact HB.out)⟩⟩
      · replace c8 := Bool.eq_false_iff.mpr c8
        subst c8
        have H1 : (sheetpilelaw20_ScanOn.j0 k a0 l1 l2 true) = some r := by rw [if_neg (show ¬ (false = true) by decide)] at H; exact H
        clear H
        have H := H1
        clear H1
        have H' := Aside0.mk H
        clear H
        go_wp2_with (first | ((with_reducible refine gate_callee (f := 30) rfl ?_); refine goesL_ (some 18) rfl rfl Try.func30 (by kernel_rfl) rfl #[.slice A1 l1.length c1] rfl (by (try simp only [List.map_toArray, List.map_cons, List.map_nil]); first | done | rfl | (simp only [List.length_drop, List.length_take]; rfl)) ?_; (with_reducible refine (sheetpileref20_Few.calls k _ _ l1 true _ ?side1 ?side2 A5.out).mono ?_); (case side1 => repeat (first | exact (Kd.C_below HR1.out HB.out) | (with_reducible refine Kd.C_alloc ?_ _) | (with_reducible refine Kd.C_drewN ?_ _) | (with_reducible refine Kd.C_drew ?_))); (case side2 => exact HC1.out); rintro e w' ⟨rfl, ⟨nd, rfl⟩⟩; refine ⟨_, rfl, ?_⟩) | (go_at_call 30; (with_reducible refine (sheetpileref20_Few.calls k _ _ l2 false _ ?side1 ?side2 A7.out).mono ?_); (case side1 => repeat (first | exact (Kd.C_below HR2.out (by repeat (first | (with_reducible first | exact HB.out | apply below_alloc | apply pw_below_drewN | apply below_drew1) | exact HB.out))) | (with_reducible refine Kd.C_alloc ?_ _) | (with_reducible refine Kd.C_drewN ?_ _) | (with_reducible refine Kd.C_drew ?_))); (case side2 => exact HC2.out); rintro e w' ⟨rfl, ⟨nd, rfl⟩⟩))
        go_meet
        case rel => exact ⟨_, (true), (by first | rfl | (simp; done) | (simp [*]; done) | exact congrArg Value.bool (by cases ByteArray.toList a0 <;> rfl) | exact congrArg Value.bool (by cases ByteArray.toList a1 <;> rfl)), H', ⟨by first | omega | exact Nat.le_refl _⟩, ⟨by repeat (first | (with_reducible first | exact HB.out | apply below_alloc | apply pw_below_drewN | apply below_drew1) | exact HB.out)⟩⟩
    · replace c6 := Bool.eq_false_iff.mpr c6
      subst c6
      have H1 : (sheetpilelaw20_ScanOn.j0 k a0 l1 l2 true) = some r := by rw [if_neg (show ¬ (false = true) by decide)] at H; exact H
      clear H
      have H := H1
      clear H1
      have H' := Aside0.mk H
      clear H
      go_wp2_with (((with_reducible refine gate_callee (f := 30) rfl ?_); refine goesL_ (some 18) rfl rfl Try.func30 (by kernel_rfl) rfl #[.slice A1 l1.length c1] rfl (by (try simp only [List.map_toArray, List.map_cons, List.map_nil]); first | done | rfl | (simp only [List.length_drop, List.length_take]; rfl)) ?_; (with_reducible refine (sheetpileref20_Few.calls k _ _ l1 false _ ?side1 ?side2 A5.out).mono ?_); (case side1 => repeat (first | exact (Kd.C_below HR1.out HB.out) | (with_reducible refine Kd.C_alloc ?_ _) | (with_reducible refine Kd.C_drewN ?_ _) | (with_reducible refine Kd.C_drew ?_))); (case side2 => exact HC1.out); rintro e w' ⟨rfl, ⟨nd, rfl⟩⟩; refine ⟨_, rfl, ?_⟩))
      go_meet
      case rel => exact ⟨_, (true), (by first | rfl | (simp; done) | (simp [*]; done) | exact congrArg Value.bool (by cases ByteArray.toList a0 <;> rfl) | exact congrArg Value.bool (by cases ByteArray.toList a1 <;> rfl)), H', ⟨by first | omega | exact Nat.le_refl _⟩, ⟨by repeat (first | (with_reducible first | exact HB.out | apply below_alloc | apply pw_below_drewN | apply below_drew1) | exact HB.out)⟩⟩
  case rest =>
    clear HC4
    try clear c1
    try clear c2
    try clear p2
    try clear c3
    try clear c6
    try clear c8
    obtain ⟨kq, x28_3, rfl, HA, HJ3, HB⟩ := hcut
    cases kq with
    | zero => exact absurd HA.out (by simp [sheetpilelaw20_ScanOn.j0])
    | succ kj3 =>
      have H := HA.out
      clear HA
      simp only [sheetpilelaw20_ScanOn.j0] at H
      by_cases c9 : x28_3 = true
      · subst c9
        have H1 : ((sheetpilelaw20_live.f).bind fun t451 => (some t451)) = some r := by rw [if_pos rfl] at H; exact H
        clear H
        have H := H1
        clear H1
        replace H := Option.bind_eq_some_iff.mp H
        obtain ⟨t451, A100, H⟩ := H
        replace H : (some t451) = some r := H
        have A10 := Aside0.mk A100
        clear A100
        obtain rfl := Option.some.inj H
        go_wp2_with (((with_reducible refine gate_callee (f := 25) rfl ?_); refine goesL_ (some 29) rfl rfl Try.func25 (by kernel_rfl) rfl #[] rfl (by (try simp only [List.map_toArray, List.map_cons, List.map_nil]); first | done | rfl | (simp only [List.length_drop, List.length_take]; rfl)) ?_; (with_reducible refine (sheetpilelaw20_live.calls  t451 _ A10.out).mono ?_); rintro e w11 ⟨rfl, hb⟩; refine ⟨_, rfl, ?_⟩; have n0_ := Aside0.mk (below_step (by repeat (first | (with_reducible first | exact HB.out | apply below_alloc | apply pw_below_drewN | apply below_drew1) | exact HB.out)) hb); clear HB; have HB := n0_; clear n0_; (try clear hb); (try clear hb2); (try clear hk); (try clear hi)))
        go_ret
        exact ⟨by first | rfl | (simp [errW_none, errW_some] <;> rfl) | (simp [*, errW_none, errW_some] <;> rfl), by repeat (first | (with_reducible first | exact HB.out | apply below_alloc | apply pw_below_drewN | apply below_drew1) | exact HB.out)⟩
      · replace c9 := Bool.eq_false_iff.mpr c9
        subst c9
        have H1 : ((scan_Write.f a0 l1).bind fun bt452 => ((scan_Write.f (wrap64 (a0 + (l1.length : Int))) l2).bind fun bt454 => (if bt452.2 = 0 then (sheetpilelaw20_ScanOn.j1 kj3 bt452.1 bt454.1 (bt454.2 != 0)) else (sheetpilelaw20_ScanOn.j1 kj3 bt452.1 bt454.1 true)))) = some r := by rw [if_neg (show ¬ (false = true) by decide)] at H; exact H
        clear H
        have H := H1
        clear H1
        replace H := Option.bind_eq_some_iff.mp H
        obtain ⟨⟨t452, t453⟩, A120, H⟩ := H
        replace H : ((scan_Write.f (wrap64 (a0 + (l1.length : Int))) l2).bind fun bt454 => (if t453 = 0 then (sheetpilelaw20_ScanOn.j1 kj3 t452 bt454.1 (bt454.2 != 0)) else (sheetpilelaw20_ScanOn.j1 kj3 t452 bt454.1 true))) = some r := H
        have A12 := Aside0.mk A120
        clear A120
        replace H := Option.bind_eq_some_iff.mp H
        obtain ⟨⟨t454, t455⟩, A130, H⟩ := H
        replace H : (if t453 = 0 then (sheetpilelaw20_ScanOn.j1 kj3 t452 t454 (t455 != 0)) else (sheetpilelaw20_ScanOn.j1 kj3 t452 t454 true)) = some r := H
        have A13 := Aside0.mk A130
        clear A130
        have HC14 := Aside0.mk H
        clear H
        go_upto_region 5 with (first | ((with_reducible refine gate_callee (f := 31) rfl ?_); refine goesL_ (some 33) rfl rfl Try.func31 (by kernel_rfl) rfl #[.int .i64 a0, .slice A1 l1.length c1] rfl (by (try simp only [List.map_toArray, List.map_cons, List.map_nil]); first | done | rfl | (simp only [List.length_drop, List.length_take]; rfl)) ?_; (with_reducible refine (scan_Write.calls a0 _ _ l1 t452 t453 _ ?side1 ?side2 A12.out).mono ?_); (case side1 => repeat (first | exact (Kd.C_below HR1.out HB.out) | (with_reducible refine Kd.C_alloc ?_ _) | (with_reducible refine Kd.C_drewN ?_ _) | (with_reducible refine Kd.C_drew ?_))); (case side2 => exact HC1.out); rintro e w15 ⟨rfl, hb⟩; refine ⟨_, rfl, ?_⟩; have n0_ := Aside0.mk (below_step (by repeat (first | (with_reducible first | exact HB.out | apply below_alloc | apply pw_below_drewN | apply below_drew1) | exact HB.out)) hb); clear HB; have HB := n0_; clear n0_; (try clear hb); (try clear hb2); (try clear hk); (try clear hi)) | ((with_reducible refine gate_callee (f := 31) rfl ?_); refine goesL_ (some 42) rfl rfl Try.func31 (by kernel_rfl) rfl #[.int .i64 (wrap64 (a0 + (l1.length : Int))), .slice A2 l2.length c2] rfl (by (try simp only [List.map_toArray, List.map_cons, List.map_nil]); first | done | rfl | (simp only [List.length_drop, List.length_take]; rfl)) ?_; (with_reducible refine (scan_Write.calls (wrap64 (a0 + (l1.length : Int))) _ _ l2 t454 t455 _ ?side1 ?side2 A13.out).mono ?_); (case side1 => repeat (first | exact (Kd.C_below HR2.out HB.out) | (with_reducible refine Kd.C_alloc ?_ _) | (with_reducible refine Kd.C_drewN ?_ _) | (with_reducible refine Kd.C_drew ?_))); (case side2 => exact HC2.out); rintro e w16 ⟨rfl, hb⟩; refine ⟨_, rfl, ?_⟩; have n0_ := Aside0.mk (below_step (by repeat (first | (with_reducible first | exact HB.out | apply below_alloc | apply pw_below_drewN | apply below_drew1) | exact HB.out)) hb); clear HB; have HB := n0_; clear n0_; (try clear hb); (try clear hb2); (try clear hk); (try clear hi)))
        (try simp only [Act.put, List.setIfInBounds_toArray, List.set_cons_zero, List.set_cons_succ])
        go_cut [50] (fun v50 wc => ∃ (kq : Nat) (x50_13 : Bool), v50 = .bool x50_13 ∧ Aside0 (sheetpilelaw20_ScanOn.j1 kq t452 t454 x50_13 = some r) ∧ Aside0 (kq ≤ kj3) ∧ Aside0 (Below w.heap.size w wc))
        case first =>
          have H := HC14.out
          clear HC14
          by_cases c17 : t453 = 0
          · rw [if_pos c17] at H
            have c17b0 : (t453 == 0) = true := beq_iff_eq.mpr c17
            have c17b1 : (t453 != 0) = false := bne_eq_false_iff_eq.mpr c17
            clear c17
            (first | rw [c17b0] | (simp only [i64_w, i32_w]; rw [c17b0]) | skip)
            have H' := Aside0.mk H
            clear H
            go_wp2
            go_meet
            case rel => exact ⟨_, ((t455 != 0)), (by first | rfl | (simp; done) | (simp [*]; done) | exact congrArg Value.bool (by cases ByteArray.toList a0 <;> rfl) | exact congrArg Value.bool (by cases ByteArray.toList a1 <;> rfl)), H', ⟨by have := HJ3.out; first | omega | exact Nat.le_refl _⟩, ⟨by repeat (first | (with_reducible first | exact HB.out | apply below_alloc | apply pw_below_drewN | apply below_drew1) | exact HB.out)⟩⟩
          · rw [if_neg c17] at H
            have c17b0 : (t453 == 0) = false := beq_eq_false_iff_ne.mpr c17
            have c17b1 : (t453 != 0) = true := bne_iff_ne.mpr c17
            (first | rw [c17b0] | (simp only [i64_w, i32_w]; rw [c17b0]) | skip)
            have H' := Aside0.mk H
            clear H
            go_wp2
            go_meet
            case rel => exact ⟨_, (true), (by first | rfl | (simp; done) | (simp [*]; done) | exact congrArg Value.bool (by cases ByteArray.toList a0 <;> rfl) | exact congrArg Value.bool (by cases ByteArray.toList a1 <;> rfl)), H', ⟨by have := HJ3.out; first | omega | exact Nat.le_refl _⟩, ⟨by repeat (first | (with_reducible first | exact HB.out | apply below_alloc | apply pw_below_drewN | apply below_drew1) | exact HB.out)⟩⟩
        case rest =>
          clear HC14
          try clear c1
          try clear c2
          try clear p2
          try clear c3
          try clear c6
          try clear p6
          try clear c8
          try clear c9
          try clear c13
          try clear c17
          try clear c17b0
          try clear c17b1
          try clear p2
          obtain ⟨kq, x50_13, rfl, HA, HJ13, HB⟩ := hcut
          cases kq with
          | zero => exact absurd HA.out (by simp [sheetpilelaw20_ScanOn.j1])
          | succ kj13 =>
            have H := HA.out
            clear HA
            simp only [sheetpilelaw20_ScanOn.j1] at H
            by_cases c18 : x50_13 = true
            · subst c18
              have H1 : ((sheetpilelaw20_live.f).bind fun t456 => (some t456)) = some r := by rw [if_pos rfl] at H; exact H
              clear H
              have H := H1
              clear H1
              replace H := Option.bind_eq_some_iff.mp H
              obtain ⟨t456, A190, H⟩ := H
              replace H : (some t456) = some r := H
              have A19 := Aside0.mk A190
              clear A190
              obtain rfl := Option.some.inj H
              go_wp2_with (((with_reducible refine gate_callee (f := 25) rfl ?_); refine goesL_ (some 51) rfl rfl Try.func25 (by kernel_rfl) rfl #[] rfl (by (try simp only [List.map_toArray, List.map_cons, List.map_nil]); first | done | rfl | (simp only [List.length_drop, List.length_take]; rfl)) ?_; (with_reducible refine (sheetpilelaw20_live.calls  t456 _ A19.out).mono ?_); rintro e w20 ⟨rfl, hb⟩; refine ⟨_, rfl, ?_⟩; have n0_ := Aside0.mk (below_step (by repeat (first | (with_reducible first | exact HB.out | apply below_alloc | apply pw_below_drewN | apply below_drew1) | exact HB.out)) hb); clear HB; have HB := n0_; clear n0_; (try clear hb); (try clear hb2); (try clear hk); (try clear hi)))
              go_ret
              exact ⟨by first | rfl | (simp [errW_none, errW_some] <;> rfl) | (simp [*, errW_none, errW_some] <;> rfl), by repeat (first | (with_reducible first | exact HB.out | apply below_alloc | apply pw_below_drewN | apply below_drew1) | exact HB.out)⟩
            · replace c18 := Bool.eq_false_iff.mpr c18
              subst c18
              have H1 : ((scan_All.f t452).bind fun bt457 => ((scan_All.f t454).bind fun bt461 => (if t452.size + t454.size ≤ 9223372036854775807 then ((scan_All.f (t452 ++ t454)).bind fun bt465 => (if (bt465.1.length : Int) = (wrap64 ((bt457.1.length : Int) + (bt461.1.length : Int))) then (sheetpilelaw20_ScanOn.j2 kj13 bt457.1 bt461.1 bt465.1 (bt465.2 != (wrap64 (bt457.2 + bt461.2)))) else (sheetpilelaw20_ScanOn.j2 kj13 bt457.1 bt461.1 bt465.1 true))) else (none)))) = some r := by rw [if_neg (show ¬ (false = true) by decide)] at H; exact H
              clear H
              have H := H1
              clear H1
              replace H := Option.bind_eq_some_iff.mp H
              obtain ⟨⟨t457, t458⟩, A210, H⟩ := H
              replace H : ((scan_All.f t454).bind fun bt461 => (if t452.size + t454.size ≤ 9223372036854775807 then ((scan_All.f (t452 ++ t454)).bind fun bt465 => (if (bt465.1.length : Int) = (wrap64 ((t457.length : Int) + (bt461.1.length : Int))) then (sheetpilelaw20_ScanOn.j2 kj13 t457 bt461.1 bt465.1 (bt465.2 != (wrap64 (t458 + bt461.2)))) else (sheetpilelaw20_ScanOn.j2 kj13 t457 bt461.1 bt465.1 true))) else (none))) = some r := H
              have A21 := Aside0.mk A210
              clear A210
              replace H := Option.bind_eq_some_iff.mp H
              obtain ⟨⟨t461, t462⟩, A220, H⟩ := H
              replace H : (if t452.size + t454.size ≤ 9223372036854775807 then ((scan_All.f (t452 ++ t454)).bind fun bt465 => (if (bt465.1.length : Int) = (wrap64 ((t457.length : Int) + (t461.length : Int))) then (sheetpilelaw20_ScanOn.j2 kj13 t457 t461 bt465.1 (bt465.2 != (wrap64 (t458 + t462)))) else (sheetpilelaw20_ScanOn.j2 kj13 t457 t461 bt465.1 true))) else (none)) = some r := H
              have A22 := Aside0.mk A220
              clear A220
              by_cases c23 : t452.size + t454.size ≤ 9223372036854775807
              · rw [if_pos c23] at H
                have c23b0 := eq_true c23
                have c23b1 : decide (t452.size + t454.size ≤ 9223372036854775807) = true := decide_eq_true c23
                try have c23b2 : (9223372036854775807 < t452.size + t454.size) = False := eq_false (Nat.not_lt.2 c23)
                replace H := Option.bind_eq_some_iff.mp H
                obtain ⟨⟨t465, t466⟩, A240, H⟩ := H
                replace H : (if (t465.length : Int) = (wrap64 ((t457.length : Int) + (t461.length : Int))) then (sheetpilelaw20_ScanOn.j2 kj13 t457 t461 t465 (t466 != (wrap64 (t458 + t462)))) else (sheetpilelaw20_ScanOn.j2 kj13 t457 t461 t465 true)) = some r := H
                have A24 := Aside0.mk A240
                clear A240
                have HC25 := Aside0.mk H
                clear H
                go_upto_region 10 with (first | ((with_reducible refine gate_callee (f := 26) rfl ?_); refine goesL_ (some 54) rfl rfl Try.func26 (by kernel_rfl) rfl #[.string t452] rfl (by (try simp only [List.map_toArray, List.map_cons, List.map_nil]); first | done | rfl | (simp only [List.length_drop, List.length_take]; rfl)) ?_; (with_reducible refine (scan_All.calls t452 t457 t458 _ A21.out).mono ?_); rintro e w26 ⟨v459, rfl, ho0, hb⟩; refine ⟨_, rfl, ?_⟩; have n0_ := Aside0.mk (Kd.N_lower (Kd.N_mono (ok' := fun k_ => True) (Kd.S_N (Kd.S_bound ho0)) (fun k_ hk_ => trivial)) (below_size (by repeat (first | (with_reducible first | exact HB.out | apply below_alloc | apply pw_below_drewN | apply below_drew1) | exact HB.out)))); have n1_ := Aside0.mk (below_step (by repeat (first | (with_reducible first | exact HB.out | apply below_alloc | apply pw_below_drewN | apply below_drew1) | exact HB.out)) hb); clear HB; have HO460 := n0_; have HB := n1_; clear n0_ n1_; (try clear hb); (try clear hb2); (try clear hk); (try clear hi); (try clear ho0)) | ((with_reducible refine gate_callee (f := 26) rfl ?_); refine goesL_ (some 59) rfl rfl Try.func26 (by kernel_rfl) rfl #[.string t454] rfl (by (try simp only [List.map_toArray, List.map_cons, List.map_nil]); first | done | rfl | (simp only [List.length_drop, List.length_take]; rfl)) ?_; (with_reducible refine (scan_All.calls t454 t461 t462 _ A22.out).mono ?_); rintro e w27 ⟨v463, rfl, ho0, hb⟩; refine ⟨_, rfl, ?_⟩; have n0_ := Aside0.mk (Kd.N_elder' (by (with_reducible repeat (first | apply Kd.N_alloc | apply Kd.N_drewN | apply Kd.N_drew)); exact HO460.out) (by first | exact Kd.N_base ho0 | exact Kd.S_base ho0) hb); have n1_ := Aside0.mk (Kd.N_lower (Kd.N_mono (ok' := fun k_ => some k_ ≠ (v459 : Value).ownBlock) (Kd.S_N (Kd.S_bound ho0)) (fun k_ hk_ => (Kd.fresh' (Kd.N_lt (by (with_reducible repeat (first | apply Kd.N_alloc | apply Kd.N_drewN | apply Kd.N_drew)); exact HO460.out)) k_ hk_.2.1))) (below_size (by repeat (first | (with_reducible first | exact HB.out | apply below_alloc | apply pw_below_drewN | apply below_drew1) | exact HB.out)))); have n2_ := Aside0.mk (below_step (by repeat (first | (with_reducible first | exact HB.out | apply below_alloc | apply pw_below_drewN | apply below_drew1) | exact HB.out)) hb); clear HO460; clear HB; have HO460 := n0_; have HO464 := n1_; have HB := n2_; clear n0_ n1_ n2_; (try clear hb); (try clear hb2); (try clear hk); (try clear hi); (try clear ho0)) | ((with_reducible refine gate_callee (f := 26) rfl ?_); refine goesL_ (some 66) rfl rfl Try.func26 (by kernel_rfl) rfl #[.string (t452 ++ t454)] rfl (by (try simp only [List.map_toArray, List.map_cons, List.map_nil]); first | done | rfl | (simp only [List.length_drop, List.length_take]; rfl)) ?_; (with_reducible refine (scan_All.calls (t452 ++ t454) t465 t466 _ A24.out).mono ?_); rintro e w28 ⟨v467, rfl, ho0, hb⟩; refine ⟨_, rfl, ?_⟩; have n0_ := Aside0.mk (Kd.N_elder' (by (with_reducible repeat (first | apply Kd.N_alloc | apply Kd.N_drewN | apply Kd.N_drew)); exact HO460.out) (by first | exact Kd.N_base ho0 | exact Kd.S_base ho0) hb); have n1_ := Aside0.mk (Kd.N_elder' (by (with_reducible repeat (first | apply Kd.N_alloc | apply Kd.N_drewN | apply Kd.N_drew)); exact HO464.out) (by first | exact Kd.N_base ho0 | exact Kd.S_base ho0) hb); have n2_ := Aside0.mk (Kd.N_lower (Kd.N_mono (ok' := fun k_ => some k_ ≠ (v459 : Value).ownBlock ∧ some k_ ≠ (v463 : Value).ownBlock) (Kd.S_N (Kd.S_bound ho0)) (fun k_ hk_ => ⟨(Kd.fresh' (Kd.N_lt (by (with_reducible repeat (first | apply Kd.N_alloc | apply Kd.N_drewN | apply Kd.N_drew)); exact HO460.out)) k_ hk_.2.1), (Kd.fresh' (Kd.N_lt (by (with_reducible repeat (first | apply Kd.N_alloc | apply Kd.N_drewN | apply Kd.N_drew)); exact HO464.out)) k_ hk_.2.1)⟩)) (below_size (by repeat (first | (with_reducible first | exact HB.out | apply below_alloc | apply pw_below_drewN | apply below_drew1) | exact HB.out)))); have n3_ := Aside0.mk (below_step (by repeat (first | (with_reducible first | exact HB.out | apply below_alloc | apply pw_below_drewN | apply below_drew1) | exact HB.out)) hb); clear HO460; clear HO464; clear HB; have HO460 := n0_; have HO464 := n1_; have HO468 := n2_; have HB := n3_; clear n0_ n1_ n2_ n3_; (try clear hb); (try clear hb2); (try clear hk); (try clear hi); (try clear ho0)))
                (try simp only [Act.put, List.setIfInBounds_toArray, List.set_cons_zero, List.set_cons_succ])
                go_cut [83] (fun v83 wc => ∃ (kq : Nat) (x83_24 : Bool), v83 = .bool x83_24 ∧ Aside0 (sheetpilelaw20_ScanOn.j2 kq t457 t461 t465 x83_24 = some r) ∧ Aside0 (kq ≤ kj13) ∧ Aside0 (Kd.N k30 30 wc w.heap.size (fun k_ => some k_ ≠ (v463 : Value).ownBlock ∧ some k_ ≠ (v467 : Value).ownBlock) v459 t457) ∧ Aside0 (Kd.N k30 30 wc w.heap.size (fun k_ => some k_ ≠ (v459 : Value).ownBlock ∧ some k_ ≠ (v467 : Value).ownBlock) v463 t461) ∧ Aside0 (Kd.N k30 30 wc w.heap.size (fun k_ => some k_ ≠ (v459 : Value).ownBlock ∧ some k_ ≠ (v463 : Value).ownBlock) v467 t465) ∧ Aside0 (Below w.heap.size w wc))
                case first =>
                  have H := HC25.out
                  clear HC25
                  by_cases c29 : (t465.length : Int) = (wrap64 ((t457.length : Int) + (t461.length : Int)))
                  · rw [if_pos c29] at H
                    have c29b0 : ((t465.length : Int) == (wrap64 ((t457.length : Int) + (t461.length : Int)))) = true := beq_iff_eq.mpr c29
                    have c29b1 : ((t465.length : Int) != (wrap64 ((t457.length : Int) + (t461.length : Int)))) = false := bne_eq_false_iff_eq.mpr c29
                    clear c29
                    (first | rw [c29b0] | (simp only [i64_w, i32_w]; rw [c29b0]) | skip)
                    have H' := Aside0.mk H
                    clear H
                    obtain ⟨Ao30, co30, eo30⟩ := Kd.N_slice HO468.out
                    subst eo30
                    obtain ⟨Ao31, co31, eo31⟩ := Kd.N_slice HO460.out
                    subst eo31
                    obtain ⟨Ao32, co32, eo32⟩ := Kd.N_slice HO464.out
                    subst eo32
                    go_wp2
                    go_meet
                    case rel => exact ⟨_, ((t466 != (wrap64 (t458 + t462)))), (by first | rfl | (simp; done) | (simp [*]; done) | exact congrArg Value.bool (by cases ByteArray.toList a0 <;> rfl) | exact congrArg Value.bool (by cases ByteArray.toList a1 <;> rfl)), H', ⟨by have := HJ3.out; have := HJ13.out; first | omega | exact Nat.le_refl _⟩, ⟨by (with_reducible repeat (first | apply Kd.N_alloc | apply Kd.N_drewN | apply Kd.N_drew)); exact Kd.N_mono HO460.out (fun _ hk => ⟨hk.1.2, hk.2⟩)⟩, ⟨by (with_reducible repeat (first | apply Kd.N_alloc | apply Kd.N_drewN | apply Kd.N_drew)); exact HO464.out⟩, ⟨by (with_reducible repeat (first | apply Kd.N_alloc | apply Kd.N_drewN | apply Kd.N_drew)); exact HO468.out⟩, ⟨by repeat (first | (with_reducible first | exact HB.out | apply below_alloc | apply pw_below_drewN | apply below_drew1) | exact HB.out)⟩⟩
                  · rw [if_neg c29] at H
                    have c29b0 : ((t465.length : Int) == (wrap64 ((t457.length : Int) + (t461.length : Int)))) = false := beq_eq_false_iff_ne.mpr c29
                    have c29b1 : ((t465.length : Int) != (wrap64 ((t457.length : Int) + (t461.length : Int)))) = true := bne_iff_ne.mpr c29
                    (first | rw [c29b0] | (simp only [i64_w, i32_w]; rw [c29b0]) | skip)
                    have H' := Aside0.mk H
                    clear H
                    obtain ⟨Ao33, co33, eo33⟩ := Kd.N_slice HO468.out
                    subst eo33
                    obtain ⟨Ao34, co34, eo34⟩ := Kd.N_slice HO460.out
                    subst eo34
                    obtain ⟨Ao35, co35, eo35⟩ := Kd.N_slice HO464.out
                    subst eo35
                    go_wp2
                    go_meet
                    case rel => exact ⟨_, (true), (by first | rfl | (simp; done) | (simp [*]; done) | exact congrArg Value.bool (by cases ByteArray.toList a0 <;> rfl) | exact congrArg Value.bool (by cases ByteArray.toList a1 <;> rfl)), H', ⟨by have := HJ3.out; have := HJ13.out; first | omega | exact Nat.le_refl _⟩, ⟨by (with_reducible repeat (first | apply Kd.N_alloc | apply Kd.N_drewN | apply Kd.N_drew)); exact Kd.N_mono HO460.out (fun _ hk => ⟨hk.1.2, hk.2⟩)⟩, ⟨by (with_reducible repeat (first | apply Kd.N_alloc | apply Kd.N_drewN | apply Kd.N_drew)); exact HO464.out⟩, ⟨by (with_reducible repeat (first | apply Kd.N_alloc | apply Kd.N_drewN | apply Kd.N_drew)); exact HO468.out⟩, ⟨by repeat (first | (with_reducible first | exact HB.out | apply below_alloc | apply pw_below_drewN | apply below_drew1) | exact HB.out)⟩⟩
                case rest =>
                  clear HC25
                  try clear c1
                  try clear c2
                  try clear p2
                  try clear c3
                  try clear c6
                  try clear p6
                  try clear c8
                  try clear c9
                  try clear c13
                  try clear c17
                  try clear c17b0
                  try clear c17b1
                  try clear c18
                  try clear c23
                  try clear c23b0
                  try clear c23b1
                  try clear c23b2
                  try clear c25
                  try clear c26
                  try clear c29
                  try clear c29b0
                  try clear c29b1
                  try clear c30
                  try clear c31
                  try clear p2
                  try clear p6
                  obtain ⟨kq, x83_24, rfl, HA, HJ24, HO_11, HO_13, HO_15, HB⟩ := hcut
                  cases kq with
                  | zero => exact absurd HA.out (by simp [sheetpilelaw20_ScanOn.j2])
                  | succ kj24 =>
                    have H := HA.out
                    clear HA
                    simp only [sheetpilelaw20_ScanOn.j2] at H
                    by_cases c36 : x83_24 = true
                    · subst c36
                      have H1 : (some false) = some r := by rw [if_pos rfl] at H; exact H
                      clear H
                      have H := H1
                      clear H1
                      obtain rfl := Option.some.inj H
                      go_wp2
                      go_ret
                      exact ⟨by first | rfl | (simp [errW_none, errW_some] <;> rfl) | (simp [*, errW_none, errW_some] <;> rfl), by repeat (first | (with_reducible first | exact HB.out | apply below_alloc | apply pw_below_drewN | apply below_drew1) | exact HB.out)⟩
                    · replace c36 := Bool.eq_false_iff.mpr c36
                      subst c36
                      have H1 : (if 0 ≤ (t457.length : Int) then (if (t457.length : Int) ≤ (t465.length : Int) then ((sheetpilelaw20_told.f kj24 (t465.take ((t457.length : Int) : Int).toNat)).bind fun t474 => ((sheetpilelaw20_told.f kj24 t457).bind fun t477 => ((sheetpileref19_Same.f kj24 t474 t477).bind fun t480 => (if t480 = true then ((sheetpilelaw20_told.f kj24 (t465.drop ((t457.length : Int) : Int).toNat)).bind fun t486 => ((sheetpilelaw20_told.f kj24 t461).bind fun t489 => ((sheetpileref19_Same.f kj24 t486 t489).bind fun t492 => (if t492 = true then ((sheetpilelaw20_live.f).bind fun t493 => (some t493)) else (some false))))) else (some false))))) else (none)) else (none)) = some r := by rw [if_neg (show ¬ (false = true) by decide)] at H; exact H
                      clear H
                      have H := H1
                      clear H1
                      by_cases c37 : 0 ≤ (t457.length : Int)
                      · rw [if_pos c37] at H
                        have c37b0 := eq_true c37
                        have c37b1 : decide (0 ≤ (t457.length : Int)) = true := decide_eq_true c37
                        clear c37
                        by_cases c38 : (t457.length : Int) ≤ (t465.length : Int)
                        · rw [if_pos c38] at H
                          have c38b0 := eq_true c38
                          have c38b1 : decide ((t457.length : Int) ≤ (t465.length : Int)) = true := decide_eq_true c38
                          clear c38
                          obtain ⟨y469, hy469⟩ : ∃ y_ : List (S30), y_ = (t465.take ((t457.length : Int) : Int).toNat) := ⟨_, rfl⟩
                          replace H : ((sheetpilelaw20_told.f kj24 y469).bind fun t474 => ((sheetpilelaw20_told.f kj24 t457).bind fun t477 => ((sheetpileref19_Same.f kj24 t474 t477).bind fun t480 => (if t480 = true then ((sheetpilelaw20_told.f kj24 (t465.drop ((t457.length : Int) : Int).toNat)).bind fun t486 => ((sheetpilelaw20_told.f kj24 t461).bind fun t489 => ((sheetpileref19_Same.f kj24 t486 t489).bind fun t492 => (if t492 = true then ((sheetpilelaw20_live.f).bind fun t493 => (some t493)) else (some false))))) else (some false))))) = some r := by first | (rw [hy469]; with_reducible exact H) | (have H2_ := (Option.bind_some _ _).symm.trans H; rw [hy469]; with_reducible exact H2_) | (have H2_ := (Option.bind_some _ _).symm.trans H; with_reducible exact H2_) | with_reducible exact H | (rw [hy469]; exact H) | exact H
                          have Ny469 := Aside0.mk hy469
                          clear hy469
                          replace H := Option.bind_eq_some_iff.mp H
                          obtain ⟨t474, A390, H⟩ := H
                          replace H : ((sheetpilelaw20_told.f kj24 t457).bind fun t477 => ((sheetpileref19_Same.f kj24 t474 t477).bind fun t480 => (if t480 = true then ((sheetpilelaw20_told.f kj24 (t465.drop ((t457.length : Int) : Int).toNat)).bind fun t486 => ((sheetpilelaw20_told.f kj24 t461).bind fun t489 => ((sheetpileref19_Same.f kj24 t486 t489).bind fun t492 => (if t492 = true then ((sheetpilelaw20_live.f).bind fun t493 => (some t493)) else (some false))))) else (some false)))) = some r := H
                          have A39 := Aside0.mk A390
                          clear A390
                          replace H := Option.bind_eq_some_iff.mp H
                          obtain ⟨t477, A400, H⟩ := H
                          replace H : ((sheetpileref19_Same.f kj24 t474 t477).bind fun t480 => (if t480 = true then ((sheetpilelaw20_told.f kj24 (t465.drop ((t457.length : Int) : Int).toNat)).bind fun t486 => ((sheetpilelaw20_told.f kj24 t461).bind fun t489 => ((sheetpileref19_Same.f kj24 t486 t489).bind fun t492 => (if t492 = true then ((sheetpilelaw20_live.f).bind fun t493 => (some t493)) else (some false))))) else (some false))) = some r := H
                          have A40 := Aside0.mk A400
                          clear A400
                          replace H := Option.bind_eq_some_iff.mp H
                          obtain ⟨t480, A410, H⟩ := H
                          replace H : (if t480 = true then ((sheetpilelaw20_told.f kj24 (t465.drop ((t457.length : Int) : Int).toNat)).bind fun t486 => ((sheetpilelaw20_told.f kj24 t461).bind fun t489 => ((sheetpileref19_Same.f kj24 t486 t489).bind fun t492 => (if t492 = true then ((sheetpilelaw20_live.f).bind fun t493 => (some t493)) else (some false))))) else (some false)) = some r := H
                          have A41 := Aside0.mk A410
                          clear A410
                          by_cases c42 : t480 = true
                          · subst c42
                            have H1 : ((sheetpilelaw20_told.f kj24 (t465.drop ((t457.length : Int) : Int).toNat)).bind fun t486 => ((sheetpilelaw20_told.f kj24 t461).bind fun t489 => ((sheetpileref19_Same.f kj24 t486 t489).bind fun t492 => (if t492 = true then ((sheetpilelaw20_live.f).bind fun t493 => (some t493)) else (some false))))) = some r := by rw [if_pos rfl] at H; exact H
                            clear H
                            have H := H1
                            clear H1
                            have c43b0 := eq_true (of_decide_eq_true (by first | (with_reducible assumption) | assumption) : 0 ≤ (t457.length : Int))
                            have c44b0 := eq_true (of_decide_eq_true (by first | (with_reducible assumption) | assumption) : (t457.length : Int) ≤ (t465.length : Int))
                            obtain ⟨y481, hy481⟩ : ∃ y_ : List (S30), y_ = (t465.drop ((t457.length : Int) : Int).toNat) := ⟨_, rfl⟩
                            replace H : ((sheetpilelaw20_told.f kj24 y481).bind fun t486 => ((sheetpilelaw20_told.f kj24 t461).bind fun t489 => ((sheetpileref19_Same.f kj24 t486 t489).bind fun t492 => (if t492 = true then ((sheetpilelaw20_live.f).bind fun t493 => (some t493)) else (some false))))) = some r := by first | (rw [hy481]; with_reducible exact H) | (have H2_ := (Option.bind_some _ _).symm.trans H; rw [hy481]; with_reducible exact H2_) | (have H2_ := (Option.bind_some _ _).symm.trans H; with_reducible exact H2_) | with_reducible exact H | (rw [hy481]; exact H) | exact H
                            have Ny481 := Aside0.mk hy481
                            clear hy481
                            replace H := Option.bind_eq_some_iff.mp H
                            obtain ⟨t486, A450, H⟩ := H
                            replace H : ((sheetpilelaw20_told.f kj24 t461).bind fun t489 => ((sheetpileref19_Same.f kj24 t486 t489).bind fun t492 => (if t492 = true then ((sheetpilelaw20_live.f).bind fun t493 => (some t493)) else (some false)))) = some r := H
                            have A45 := Aside0.mk A450
                            clear A450
                            replace H := Option.bind_eq_some_iff.mp H
                            obtain ⟨t489, A460, H⟩ := H
                            replace H : ((sheetpileref19_Same.f kj24 t486 t489).bind fun t492 => (if t492 = true then ((sheetpilelaw20_live.f).bind fun t493 => (some t493)) else (some false))) = some r := H
                            have A46 := Aside0.mk A460
                            clear A460
                            replace H := Option.bind_eq_some_iff.mp H
                            obtain ⟨t492, A470, H⟩ := H
                            replace H : (if t492 = true then ((sheetpilelaw20_live.f).bind fun t493 => (some t493)) else (some false)) = some r := H
                            have A47 := Aside0.mk A470
                            clear A470
                            by_cases c48 : t492 = true
                            · subst c48
                              have H1 : ((sheetpilelaw20_live.f).bind fun t493 => (some t493)) = some r := by rw [if_pos rfl] at H; exact H
                              clear H
                              have H := H1
                              clear H1
                              replace H := Option.bind_eq_some_iff.mp H
                              obtain ⟨t493, A490, H⟩ := H
                              replace H : (some t493) = some r := H
                              have A49 := Aside0.mk A490
                              clear A490
                              obtain rfl := Option.some.inj H
                              obtain ⟨Ao50, co50, eo50⟩ := Kd.N_slice HO_11.out
                              subst eo50
                              obtain ⟨Ao52, co52, eo52⟩ := Kd.N_slice HO_15.out
                              subst eo52
                              have q51 : ((t457.length : Int) : Int) ≤ ((t465.length : Int) : Int) := of_decide_eq_true (by first | (with_reducible assumption) | assumption)
                              obtain ⟨i051, hi051, _, hsz51, _⟩ := info_parts info30
                              have hroom51 : t465.length ≤ co52 := (Kd.N_reads' HO_15.out).2.1
                              have hC51 : Kd.F k30 _ _ Ao52 t465.length t465 := (Kd.V_at (base := w.heap.size) (Kd.N_V HO_15.out)).2.2
                              have hcut51 := cut_to (P := Try.prog) 47 30 .i64 Try.underlying47 hi051 Ao52 t465.length co52 (t457.length : Int) (of_decide_eq_true (by first | (with_reducible assumption) | assumption)) q51 hroom51
                              have hr51 := Kd.F_take (m := ((t457.length : Int) : Int).toNat) hC51 (by omega)
                              have hy51 : y469.length = ((t457.length : Int) : Int).toNat := (by rw [Ny469.out, List.length_take]; omega)
                              rw [← Ny469.out] at hr51
                              rw [← hy51] at hcut51
                              have HO473 := Aside0.mk (show Kd.V k30 30 _ w.heap.size _ (.slice Ao52 y469.length co52) y469 from Kd.V_mk (by omega) hr51)
                              have HC473 := Aside0.mk (show y469.length ≤ co52 from by omega)
                              clear hr51 hC51 hroom51 hi051 hsz51
                              have KY51 := Aside0.mk hy51
                              clear hy51
                              replace q51 := eq_true q51
                              go_wp2_with (first | ((with_reducible refine gate_callee (f := 29) rfl ?_); refine goesL_ (some 88) rfl rfl Try.func29 (by kernel_rfl) rfl #[.slice Ao52 y469.length co52] rfl (by (try simp only [List.map_toArray, List.map_cons, List.map_nil]); first | done | rfl | (simp only [List.length_drop, List.length_take]; rfl)) ?_; (with_reducible refine (sheetpilelaw20_told.calls kj24 (fun k_ => (some k_ ≠ (.slice Ao50 t457.length co50 : Value).ownBlock ∧ some k_ ≠ (v463 : Value).ownBlock)) _ _ y469 t474 _ ?side1 A39.out).mono ?_); (case side1 => exact HO473.out); rintro e w53 ⟨v475, rfl, ho0, hb⟩; refine ⟨_, rfl, ?_⟩; have n0_ := Aside0.mk (Kd.N_elder' (by (with_reducible repeat (first | apply Kd.N_alloc | apply Kd.N_drewN | apply Kd.N_drew)); exact HO_11.out) (by first | exact Kd.N_base ho0 | exact Kd.S_base ho0) hb); have n1_ := Aside0.mk (Kd.N_elder' (by (with_reducible repeat (first | apply Kd.N_alloc | apply Kd.N_drewN | apply Kd.N_drew)); exact HO_13.out) (by first | exact Kd.N_base ho0 | exact Kd.S_base ho0) hb); have n2_ := Aside0.mk (Kd.N_elder' (by (with_reducible repeat (first | apply Kd.N_alloc | apply Kd.N_drewN | apply Kd.N_drew)); exact HO_15.out) (by first | exact Kd.N_base ho0 | exact Kd.S_base ho0) hb); have n3_ := Aside0.mk (Kd.V_elder' (by (with_reducible repeat (first | apply Kd.V_alloc | apply Kd.V_drewN | apply Kd.V_drew)); exact HO473.out) (by first | exact Kd.N_base ho0 | exact Kd.S_base ho0) hb); have n4_ := Aside0.mk (Kd.N_lower (Kd.N_mono (ok' := fun k_ => some k_ ≠ (.slice Ao50 t457.length co50 : Value).ownBlock ∧ some k_ ≠ (v463 : Value).ownBlock) ho0 (fun k_ hk_ => ⟨Or.elim hk_ (fun hs_ => hs_.1) (fun hn_ => (Kd.fresh' (Kd.N_lt (by (with_reducible repeat (first | apply Kd.N_alloc | apply Kd.N_drewN | apply Kd.N_drew)); exact HO_11.out)) k_ hn_)), Or.elim hk_ (fun hs_ => hs_.2) (fun hn_ => (Kd.fresh' (Kd.N_lt (by (with_reducible repeat (first | apply Kd.N_alloc | apply Kd.N_drewN | apply Kd.N_drew)); exact HO_13.out)) k_ hn_))⟩)) (below_size (by repeat (first | (with_reducible first | exact HB.out | apply below_alloc | apply pw_below_drewN | apply below_drew1) | exact HB.out)))); have n5_ := Aside0.mk (below_step (by repeat (first | (with_reducible first | exact HB.out | apply below_alloc | apply pw_below_drewN | apply below_drew1) | exact HB.out)) hb); clear HO_11; clear HO_13; clear HO_15; clear HO473; clear HB; have HO_11 := n0_; have HO_13 := n1_; have HO_15 := n2_; have HO473 := n3_; have HO476 := n4_; have HB := n5_; clear n0_ n1_ n2_ n3_ n4_ n5_; (try clear hb); (try clear hb2); (try clear hk); (try clear hi); (try clear ho0)) | ((with_reducible refine gate_callee (f := 29) rfl ?_); refine goesL_ (some 90) rfl rfl Try.func29 (by kernel_rfl) rfl #[.slice Ao50 t457.length co50] rfl (by (try simp only [List.map_toArray, List.map_cons, List.map_nil]); first | done | rfl | (simp only [List.length_drop, List.length_take]; rfl)) ?_; (with_reducible refine (sheetpilelaw20_told.calls kj24 (fun k_ => ((some k_ ≠ (v463 : Value).ownBlock ∧ some k_ ≠ (.slice Ao52 t465.length co52 : Value).ownBlock) ∧ some k_ ≠ (v475 : Value).ownBlock)) _ _ t457 t477 _ ?side1 A40.out).mono ?_); (case side1 => exact Kd.N_V (HO_11.out)); rintro e w54 ⟨v478, rfl, ho0, hb⟩; refine ⟨_, rfl, ?_⟩; have n0_ := Aside0.mk (Kd.N_elder' (by (with_reducible repeat (first | apply Kd.N_alloc | apply Kd.N_drewN | apply Kd.N_drew)); exact HO_11.out) (by first | exact Kd.N_base ho0 | exact Kd.S_base ho0) hb); have n1_ := Aside0.mk (Kd.N_elder' (by (with_reducible repeat (first | apply Kd.N_alloc | apply Kd.N_drewN | apply Kd.N_drew)); exact HO_13.out) (by first | exact Kd.N_base ho0 | exact Kd.S_base ho0) hb); have n2_ := Aside0.mk (Kd.N_elder' (by (with_reducible repeat (first | apply Kd.N_alloc | apply Kd.N_drewN | apply Kd.N_drew)); exact HO_15.out) (by first | exact Kd.N_base ho0 | exact Kd.S_base ho0) hb); have n3_ := Aside0.mk (Kd.V_elder' (by (with_reducible repeat (first | apply Kd.V_alloc | apply Kd.V_drewN | apply Kd.V_drew)); exact HO473.out) (by first | exact Kd.N_base ho0 | exact Kd.S_base ho0) hb); have n4_ := Aside0.mk (Kd.N_elder' (by (with_reducible repeat (first | apply Kd.N_alloc | apply Kd.N_drewN | apply Kd.N_drew)); exact HO476.out) (by first | exact Kd.N_base ho0 | exact Kd.S_base ho0) hb); have n5_ := Aside0.mk (Kd.N_lower (Kd.N_mono (ok' := fun k_ => some k_ ≠ (v463 : Value).ownBlock ∧ some k_ ≠ (.slice Ao52 t465.length co52 : Value).ownBlock ∧ some k_ ≠ (v475 : Value).ownBlock) ho0 (fun k_ hk_ => ⟨Or.elim hk_ (fun hs_ => hs_.1.1) (fun hn_ => (Kd.fresh' (Kd.N_lt (by (with_reducible repeat (first | apply Kd.N_alloc | apply Kd.N_drewN | apply Kd.N_drew)); exact HO_13.out)) k_ hn_)), Or.elim hk_ (fun hs_ => hs_.1.2) (fun hn_ => (Kd.fresh' (Kd.N_lt (by (with_reducible repeat (first | apply Kd.N_alloc | apply Kd.N_drewN | apply Kd.N_drew)); exact HO_15.out)) k_ hn_)), Or.elim hk_ (fun hs_ => hs_.2) (fun hn_ => (Kd.fresh' (Kd.N_lt (by (with_reducible repeat (first | apply Kd.N_alloc | apply Kd.N_drewN | apply Kd.N_drew)); exact HO476.out)) k_ hn_))⟩)) (below_size (by repeat (first | (with_reducible first | exact HB.out | apply below_alloc | apply pw_below_drewN | apply below_drew1) | exact HB.out)))); have n6_ := Aside0.mk (below_step (by repeat (first | (with_reducible first | exact HB.out | apply below_alloc | apply pw_below_drewN | apply below_drew1) | exact HB.out)) hb); clear HO_11; clear HO_13; clear HO_15; clear HO473; clear HO476; clear HB; have HO_11 := n0_; have HO_13 := n1_; have HO_15 := n2_; have HO473 := n3_; have HO476 := n4_; have HO479 := n5_; have HB := n6_; clear n0_ n1_ n2_ n3_ n4_ n5_ n6_; (try clear hb); (try clear hb2); (try clear hk); (try clear hi); (try clear ho0); obtain ⟨Ao55, co55, eo55⟩ := Kd.N_slice HO476.out; subst eo55; obtain ⟨Ao56, co56, eo56⟩ := Kd.N_slice HO479.out; subst eo56) | ((with_reducible refine gate_callee (f := 28) rfl ?_); refine goesL_ (some 91) rfl rfl Try.func28 (by kernel_rfl) rfl #[.slice Ao55 t474.length co55, .slice Ao56 t477.length co56] rfl (by (try simp only [List.map_toArray, List.map_cons, List.map_nil]); first | done | rfl | (simp only [List.length_drop, List.length_take]; rfl)) ?_; (with_reducible refine (sheetpileref19_Same.calls kj24 _ _ t474 _ _ t477 true _ ?side1 ?side2 ?side3 ?side4 A41.out).mono ?_); (case side1 => repeat (first | exact (Kd.N_reads' HO476.out).2.2 | (with_reducible refine Kd.C_alloc ?_ _) | (with_reducible refine Kd.C_drewN ?_ _) | (with_reducible refine Kd.C_drew ?_))); (case side2 => exact (Kd.N_reads' HO476.out).2.1); (case side3 => repeat (first | exact (Kd.N_reads' HO479.out).2.2 | (with_reducible refine Kd.C_alloc ?_ _) | (with_reducible refine Kd.C_drewN ?_ _) | (with_reducible refine Kd.C_drew ?_))); (case side4 => exact (Kd.N_reads' HO479.out).2.1); rintro e w' ⟨rfl, ⟨nd, rfl⟩⟩; refine ⟨_, rfl, ?_⟩; have q57 : ((t457.length : Int) : Int) ≤ ((t465.length : Int) : Int) := of_decide_eq_true (by first | (with_reducible assumption) | assumption); obtain ⟨i057, hi057, _, hsz57, _⟩ := info_parts info30; have hroom57 : t465.length ≤ co52 := (Kd.N_reads' HO_15.out).2.1; have hC57 : Kd.F k30 _ _ Ao52 t465.length t465 := (Kd.V_at (base := w.heap.size) (Kd.N_V HO_15.out)).2.2; have q057 : (0 : Int) ≤ ((t457.length : Int) : Int) := of_decide_eq_true (by first | (with_reducible assumption) | assumption); have hcut57 := cut_from (P := Try.prog) 47 30 .i64 Try.underlying47 hi057 2 hsz57 Ao52 t465.length co52 (t457.length : Int) q057 q57; have hr57 := Kd.F_cut (m := ((t457.length : Int) : Int).toNat) (c := co52) hC57 (by omega) hroom57; obtain ⟨A57, hA57⟩ : ∃ Ab_, Ab_ = (if co52 = ((t457.length : Int) : Int).toNat then Ao52 else (Ao52 : Option Addr).map (·.add (((t457.length : Int) : Int).toNat * 2))) := ⟨_, rfl⟩; obtain ⟨c57, hc57⟩ : ∃ cb_, cb_ = co52 - ((t457.length : Int) : Int).toNat := ⟨_, rfl⟩; have hy57 : y481.length = t465.length - ((t457.length : Int) : Int).toNat := (by rw [Ny481.out, List.length_drop] <;> omega); rw [show (t465).drop ((t457.length : Int) : Int).toNat = y481 from Ny481.out.symm] at hr57; replace hr57 : Kd.F k30 _ _ A57 y481.length y481 := (by rw [hA57]; exact hr57); rw [← hy57, ← hA57, ← hc57] at hcut57; have HO485 := Aside0.mk (show Kd.V k30 30 _ w.heap.size _ (.slice A57 y481.length c57) y481 from Kd.V_mk (by rw [hy57, hc57]; exact Nat.sub_le_sub_right hroom57 _) hr57); have HC485 := Aside0.mk (show y481.length ≤ c57 from by rw [hy57, hc57]; exact Nat.sub_le_sub_right hroom57 _); clear hr57 hC57 hroom57 hi057 hsz57 hc57; have KY57 := Aside0.mk hy57; have KA57 := Aside0.mk hA57; clear hy57 hA57; replace q57 := eq_true q57) | (go_at_call 29; (with_reducible refine (sheetpilelaw20_told.calls kj24 (fun k_ => (((some k_ ≠ (.slice Ao50 t457.length co50 : Value).ownBlock ∧ some k_ ≠ (v463 : Value).ownBlock) ∧ some k_ ≠ (.slice Ao55 t474.length co55 : Value).ownBlock) ∧ some k_ ≠ (.slice Ao56 t477.length co56 : Value).ownBlock)) _ _ y481 t486 _ ?side1 A45.out).mono ?_); (case side1 => exact HO485.out); rintro e w58 ⟨v487, rfl, ho0, hb⟩; have n0_ := Aside0.mk (Kd.N_elder' (by (with_reducible repeat (first | apply Kd.N_alloc | apply Kd.N_drewN | apply Kd.N_drew)); exact HO_11.out) (by first | exact Kd.N_base ho0 | exact Kd.S_base ho0) hb); have n1_ := Aside0.mk (Kd.N_elder' (by (with_reducible repeat (first | apply Kd.N_alloc | apply Kd.N_drewN | apply Kd.N_drew)); exact HO_13.out) (by first | exact Kd.N_base ho0 | exact Kd.S_base ho0) hb); have n2_ := Aside0.mk (Kd.N_elder' (by (with_reducible repeat (first | apply Kd.N_alloc | apply Kd.N_drewN | apply Kd.N_drew)); exact HO_15.out) (by first | exact Kd.N_base ho0 | exact Kd.S_base ho0) hb); have n3_ := Aside0.mk (Kd.V_elder' (by (with_reducible repeat (first | apply Kd.V_alloc | apply Kd.V_drewN | apply Kd.V_drew)); exact HO473.out) (by first | exact Kd.N_base ho0 | exact Kd.S_base ho0) hb); have n4_ := Aside0.mk (Kd.N_elder' (by (with_reducible repeat (first | apply Kd.N_alloc | apply Kd.N_drewN | apply Kd.N_drew)); exact HO476.out) (by first | exact Kd.N_base ho0 | exact Kd.S_base ho0) hb); have n5_ := Aside0.mk (Kd.N_elder' (by (with_reducible repeat (first | apply Kd.N_alloc | apply Kd.N_drewN | apply Kd.N_drew)); exact HO479.out) (by first | exact Kd.N_base ho0 | exact Kd.S_base ho0) hb); have n6_ := Aside0.mk (Kd.V_elder' (by (with_reducible repeat (first | apply Kd.V_alloc | apply Kd.V_drewN | apply Kd.V_drew)); exact HO485.out) (by first | exact Kd.N_base ho0 | exact Kd.S_base ho0) hb); have n7_ := Aside0.mk (Kd.N_lower (Kd.N_mono (ok' := fun k_ => some k_ ≠ (.slice Ao50 t457.length co50 : Value).ownBlock ∧ some k_ ≠ (v463 : Value).ownBlock ∧ some k_ ≠ (.slice Ao55 t474.length co55 : Value).ownBlock ∧ some k_ ≠ (.slice Ao56 t477.length co56 : Value).ownBlock) ho0 (fun k_ hk_ => ⟨Or.elim hk_ (fun hs_ => hs_.1.1.1) (fun hn_ => (Kd.fresh' (Kd.N_lt (by (with_reducible repeat (first | apply Kd.N_alloc | apply Kd.N_drewN | apply Kd.N_drew)); exact HO_11.out)) k_ hn_)), Or.elim hk_ (fun hs_ => hs_.1.1.2) (fun hn_ => (Kd.fresh' (Kd.N_lt (by (with_reducible repeat (first | apply Kd.N_alloc | apply Kd.N_drewN | apply Kd.N_drew)); exact HO_13.out)) k_ hn_)), Or.elim hk_ (fun hs_ => hs_.1.2) (fun hn_ => (Kd.fresh' (Kd.N_lt (by (with_reducible repeat (first | apply Kd.N_alloc | apply Kd.N_drewN | apply Kd.N_drew)); exact HO476.out)) k_ hn_)), Or.elim hk_ (fun hs_ => hs_.2) (fun hn_ => (Kd.fresh' (Kd.N_lt (by (with_reducible repeat (first | apply Kd.N_alloc | apply Kd.N_drewN | apply Kd.N_drew)); exact HO479.out)) k_ hn_))⟩)) (below_size (by repeat (first | (with_reducible first | exact HB.out | apply below_alloc | apply pw_below_drewN | apply below_drew1) | exact HB.out)))); have n8_ := Aside0.mk (below_step (by repeat (first | (with_reducible first | exact HB.out | apply below_alloc | apply pw_below_drewN | apply below_drew1) | exact HB.out)) hb); clear HO_11; clear HO_13; clear HO_15; clear HO473; clear HO476; clear HO479; clear HO485; clear HB; have HO_11 := n0_; have HO_13 := n1_; have HO_15 := n2_; have HO473 := n3_; have HO476 := n4_; have HO479 := n5_; have HO485 := n6_; have HO488 := n7_; have HB := n8_; clear n0_ n1_ n2_ n3_ n4_ n5_ n6_ n7_ n8_; (try clear hb); (try clear hb2); (try clear hk); (try clear hi); (try clear ho0); obtain ⟨Ao59, co59, eo59⟩ := Kd.N_slice HO_13.out; subst eo59) | (go_at_call 29; (with_reducible refine (sheetpilelaw20_told.calls kj24 (fun k_ => ((((some k_ ≠ (.slice Ao50 t457.length co50 : Value).ownBlock ∧ some k_ ≠ (.slice Ao52 t465.length co52 : Value).ownBlock) ∧ some k_ ≠ (.slice Ao55 t474.length co55 : Value).ownBlock) ∧ some k_ ≠ (.slice Ao56 t477.length co56 : Value).ownBlock) ∧ some k_ ≠ (v487 : Value).ownBlock)) _ _ t461 t489 _ ?side1 A46.out).mono ?_); (case side1 => exact Kd.N_V (HO_13.out)); rintro e w60 ⟨v490, rfl, ho0, hb⟩; have n0_ := Aside0.mk (Kd.N_elder' (by (with_reducible repeat (first | apply Kd.N_alloc | apply Kd.N_drewN | apply Kd.N_drew)); exact HO_11.out) (by first | exact Kd.N_base ho0 | exact Kd.S_base ho0) hb); have n1_ := Aside0.mk (Kd.N_elder' (by (with_reducible repeat (first | apply Kd.N_alloc | apply Kd.N_drewN | apply Kd.N_drew)); exact HO_13.out) (by first | exact Kd.N_base ho0 | exact Kd.S_base ho0) hb); have n2_ := Aside0.mk (Kd.N_elder' (by (with_reducible repeat (first | apply Kd.N_alloc | apply Kd.N_drewN | apply Kd.N_drew)); exact HO_15.out) (by first | exact Kd.N_base ho0 | exact Kd.S_base ho0) hb); have n3_ := Aside0.mk (Kd.V_elder' (by (with_reducible repeat (first | apply Kd.V_alloc | apply Kd.V_drewN | apply Kd.V_drew)); exact HO473.out) (by first | exact Kd.N_base ho0 | exact Kd.S_base ho0) hb); have n4_ := Aside0.mk (Kd.N_elder' (by (with_reducible repeat (first | apply Kd.N_alloc | apply Kd.N_drewN | apply Kd.N_drew)); exact HO476.out) (by first | exact Kd.N_base ho0 | exact Kd.S_base ho0) hb); have n5_ := Aside0.mk (Kd.N_elder' (by (with_reducible repeat (first | apply Kd.N_alloc | apply Kd.N_drewN | apply Kd.N_drew)); exact HO479.out) (by first | exact Kd.N_base ho0 | exact Kd.S_base ho0) hb); have n6_ := Aside0.mk (Kd.V_elder' (by (with_reducible repeat (first | apply Kd.V_alloc | apply Kd.V_drewN | apply Kd.V_drew)); exact HO485.out) (by first | exact Kd.N_base ho0 | exact Kd.S_base ho0) hb); have n7_ := Aside0.mk (Kd.N_elder' (by (with_reducible repeat (first | apply Kd.N_alloc | apply Kd.N_drewN | apply Kd.N_drew)); exact HO488.out) (by first | exact Kd.N_base ho0 | exact Kd.S_base ho0) hb); have n8_ := Aside0.mk (Kd.N_lower (Kd.N_mono (ok' := fun k_ => some k_ ≠ (.slice Ao50 t457.length co50 : Value).ownBlock ∧ some k_ ≠ (.slice Ao52 t465.length co52 : Value).ownBlock ∧ some k_ ≠ (.slice Ao55 t474.length co55 : Value).ownBlock ∧ some k_ ≠ (.slice Ao56 t477.length co56 : Value).ownBlock ∧ some k_ ≠ (v487 : Value).ownBlock) ho0 (fun k_ hk_ => ⟨Or.elim hk_ (fun hs_ => hs_.1.1.1.1) (fun hn_ => (Kd.fresh' (Kd.N_lt (by (with_reducible repeat (first | apply Kd.N_alloc | apply Kd.N_drewN | apply Kd.N_drew)); exact HO_11.out)) k_ hn_)), Or.elim hk_ (fun hs_ => hs_.1.1.1.2) (fun hn_ => (Kd.fresh' (Kd.N_lt (by (with_reducible repeat (first | apply Kd.N_alloc | apply Kd.N_drewN | apply Kd.N_drew)); exact HO_15.out)) k_ hn_)), Or.elim hk_ (fun hs_ => hs_.1.1.2) (fun hn_ => (Kd.fresh' (Kd.N_lt (by (with_reducible repeat (first | apply Kd.N_alloc | apply Kd.N_drewN | apply Kd.N_drew)); exact HO476.out)) k_ hn_)), Or.elim hk_ (fun hs_ => hs_.1.2) (fun hn_ => (Kd.fresh' (Kd.N_lt (by (with_reducible repeat (first | apply Kd.N_alloc | apply Kd.N_drewN | apply Kd.N_drew)); exact HO479.out)) k_ hn_)), Or.elim hk_ (fun hs_ => hs_.2) (fun hn_ => (Kd.fresh' (Kd.N_lt (by (with_reducible repeat (first | apply Kd.N_alloc | apply Kd.N_drewN | apply Kd.N_drew)); exact HO488.out)) k_ hn_))⟩)) (below_size (by repeat (first | (with_reducible first | exact HB.out | apply below_alloc | apply pw_below_drewN | apply below_drew1) | exact HB.out)))); have n9_ := Aside0.mk (below_step (by repeat (first | (with_reducible first | exact HB.out | apply below_alloc | apply pw_below_drewN | apply below_drew1) | exact HB.out)) hb); clear HO_11; clear HO_13; clear HO_15; clear HO473; clear HO476; clear HO479; clear HO485; clear HO488; clear HB; have HO_11 := n0_; have HO_13 := n1_; have HO_15 := n2_; have HO473 := n3_; have HO476 := n4_; have HO479 := n5_; have HO485 := n6_; have HO488 := n7_; have HO491 := n8_; have HB := n9_; clear n0_ n1_ n2_ n3_ n4_ n5_ n6_ n7_ n8_ n9_; (try clear hb); (try clear hb2); (try clear hk); (try clear hi); (try clear ho0); obtain ⟨Ao61, co61, eo61⟩ := Kd.N_slice HO488.out; subst eo61; obtain ⟨Ao62, co62, eo62⟩ := Kd.N_slice HO491.out; subst eo62) | (go_at_call 28; (with_reducible refine (sheetpileref19_Same.calls kj24 _ _ t486 _ _ t489 true _ ?side1 ?side2 ?side3 ?side4 A47.out).mono ?_); (case side1 => repeat (first | exact (Kd.N_reads' HO488.out).2.2 | (with_reducible refine Kd.C_alloc ?_ _) | (with_reducible refine Kd.C_drewN ?_ _) | (with_reducible refine Kd.C_drew ?_))); (case side2 => exact (Kd.N_reads' HO488.out).2.1); (case side3 => repeat (first | exact (Kd.N_reads' HO491.out).2.2 | (with_reducible refine Kd.C_alloc ?_ _) | (with_reducible refine Kd.C_drewN ?_ _) | (with_reducible refine Kd.C_drew ?_))); (case side4 => exact (Kd.N_reads' HO491.out).2.1); rintro e w' ⟨rfl, ⟨nd, rfl⟩⟩) | (go_at_call 25; (with_reducible refine (sheetpilelaw20_live.calls  t493 _ A49.out).mono ?_); rintro e w63 ⟨rfl, hb⟩; have n0_ := Aside0.mk (Kd.N_below (by (with_reducible repeat (first | apply Kd.N_alloc | apply Kd.N_drewN | apply Kd.N_drew)); exact HO_11.out) hb); have n1_ := Aside0.mk (Kd.N_below (by (with_reducible repeat (first | apply Kd.N_alloc | apply Kd.N_drewN | apply Kd.N_drew)); exact HO_13.out) hb); have n2_ := Aside0.mk (Kd.N_below (by (with_reducible repeat (first | apply Kd.N_alloc | apply Kd.N_drewN | apply Kd.N_drew)); exact HO_15.out) hb); have n3_ := Aside0.mk (Kd.V_below (by (with_reducible repeat (first | apply Kd.V_alloc | apply Kd.V_drewN | apply Kd.V_drew)); exact HO473.out) hb); have n4_ := Aside0.mk (Kd.N_below (by (with_reducible repeat (first | apply Kd.N_alloc | apply Kd.N_drewN | apply Kd.N_drew)); exact HO476.out) hb); have n5_ := Aside0.mk (Kd.N_below (by (with_reducible repeat (first | apply Kd.N_alloc | apply Kd.N_drewN | apply Kd.N_drew)); exact HO479.out) hb); have n6_ := Aside0.mk (Kd.V_below (by (with_reducible repeat (first | apply Kd.V_alloc | apply Kd.V_drewN | apply Kd.V_drew)); exact HO485.out) hb); have n7_ := Aside0.mk (Kd.N_below (by (with_reducible repeat (first | apply Kd.N_alloc | apply Kd.N_drewN | apply Kd.N_drew)); exact HO488.out) hb); have n8_ := Aside0.mk (Kd.N_below (by (with_reducible repeat (first | apply Kd.N_alloc | apply Kd.N_drewN | apply Kd.N_drew)); exact HO491.out) hb); have n9_ := Aside0.mk (below_step (by repeat (first | (with_reducible first | exact HB.out | apply below_alloc | apply pw_below_drewN | apply below_drew1) | exact HB.out)) hb); clear HO_11; clear HO_13; clear HO_15; clear HO473; clear HO476; clear HO479; clear HO485; clear HO488; clear HO491; clear HB; have HO_11 := n0_; have HO_13 := n1_; have HO_15 := n2_; have HO473 := n3_; have HO476 := n4_; have HO479 := n5_; have HO485 := n6_; have HO488 := n7_; have HO491 := n8_; have HB := n9_; clear n0_ n1_ n2_ n3_ n4_ n5_ n6_ n7_ n8_ n9_; (try clear hb); (try clear hb2); (try clear hk); (try clear hi)))
                              go_ret
                              exact ⟨by first | rfl | (simp [errW_none, errW_some] <;> rfl) | (simp [*, errW_none, errW_some] <;> rfl), by repeat (first | (with_reducible first | exact HB.out | apply below_alloc | apply pw_below_drewN | apply below_drew1) | exact HB.out)⟩
                            · replace c48 := Bool.eq_false_iff.mpr c48
                              subst c48
                              have H1 : (some false) = some r := by rw [if_neg (show ¬ (false = true) by decide)] at H; exact H
                              clear H
                              have H := H1
                              clear H1
                              obtain rfl := Option.some.inj H
                              obtain ⟨Ao64, co64, eo64⟩ := Kd.N_slice HO_11.out
                              subst eo64
                              obtain ⟨Ao66, co66, eo66⟩ := Kd.N_slice HO_15.out
                              subst eo66
                              have q65 : ((t457.length : Int) : Int) ≤ ((t465.length : Int) : Int) := of_decide_eq_true (by first | (with_reducible assumption) | assumption)
                              obtain ⟨i065, hi065, _, hsz65, _⟩ := info_parts info30
                              have hroom65 : t465.length ≤ co66 := (Kd.N_reads' HO_15.out).2.1
                              have hC65 : Kd.F k30 _ _ Ao66 t465.length t465 := (Kd.V_at (base := w.heap.size) (Kd.N_V HO_15.out)).2.2
                              have hcut65 := cut_to (P := Try.prog) 47 30 .i64 Try.underlying47 hi065 Ao66 t465.length co66 (t457.length : Int) (of_decide_eq_true (by first | (with_reducible assumption) | assumption)) q65 hroom65
                              have hr65 := Kd.F_take (m := ((t457.length : Int) : Int).toNat) hC65 (by omega)
                              have hy65 : y469.length = ((t457.length : Int) : Int).toNat := (by rw [Ny469.out, List.length_take]; omega)
                              rw [← Ny469.out] at hr65
                              rw [← hy65] at hcut65
                              have HO473 := Aside0.mk (show Kd.V k30 30 _ w.heap.size _ (.slice Ao66 y469.length co66) y469 from Kd.V_mk (by omega) hr65)
                              have HC473 := Aside0.mk (show y469.length ≤ co66 from by omega)
                              clear hr65 hC65 hroom65 hi065 hsz65
                              have KY65 := Aside0.mk hy65
                              clear hy65
                              replace q65 := eq_true q65
                              go_wp2_with (first | ((with_reducible refine gate_callee (f := 29) rfl ?_); refine goesL_ (some 88) rfl rfl Try.func29 (by kernel_rfl) rfl #[.slice Ao66 y469.length co66] rfl (by (try simp only [List.map_toArray, List.map_cons, List.map_nil]); first | done | rfl | (simp only [List.length_drop, List.length_take]; rfl)) ?_; (with_reducible refine (sheetpilelaw20_told.calls kj24 (fun k_ => (some k_ ≠ (.slice Ao64 t457.length co64 : Value).ownBlock ∧ some k_ ≠ (v463 : Value).ownBlock)) _ _ y469 t474 _ ?side1 A39.out).mono ?_); (case side1 => exact HO473.out); rintro e w67 ⟨v475, rfl, ho0, hb⟩; refine ⟨_, rfl, ?_⟩; have n0_ := Aside0.mk (Kd.N_elder' (by (with_reducible repeat (first | apply Kd.N_alloc | apply Kd.N_drewN | apply Kd.N_drew)); exact HO_11.out) (by first | exact Kd.N_base ho0 | exact Kd.S_base ho0) hb); have n1_ := Aside0.mk (Kd.N_elder' (by (with_reducible repeat (first | apply Kd.N_alloc | apply Kd.N_drewN | apply Kd.N_drew)); exact HO_13.out) (by first | exact Kd.N_base ho0 | exact Kd.S_base ho0) hb); have n2_ := Aside0.mk (Kd.N_elder' (by (with_reducible repeat (first | apply Kd.N_alloc | apply Kd.N_drewN | apply Kd.N_drew)); exact HO_15.out) (by first | exact Kd.N_base ho0 | exact Kd.S_base ho0) hb); have n3_ := Aside0.mk (Kd.V_elder' (by (with_reducible repeat (first | apply Kd.V_alloc | apply Kd.V_drewN | apply Kd.V_drew)); exact HO473.out) (by first | exact Kd.N_base ho0 | exact Kd.S_base ho0) hb); have n4_ := Aside0.mk (Kd.N_lower (Kd.N_mono (ok' := fun k_ => some k_ ≠ (.slice Ao64 t457.length co64 : Value).ownBlock ∧ some k_ ≠ (v463 : Value).ownBlock) ho0 (fun k_ hk_ => ⟨Or.elim hk_ (fun hs_ => hs_.1) (fun hn_ => (Kd.fresh' (Kd.N_lt (by (with_reducible repeat (first | apply Kd.N_alloc | apply Kd.N_drewN | apply Kd.N_drew)); exact HO_11.out)) k_ hn_)), Or.elim hk_ (fun hs_ => hs_.2) (fun hn_ => (Kd.fresh' (Kd.N_lt (by (with_reducible repeat (first | apply Kd.N_alloc | apply Kd.N_drewN | apply Kd.N_drew)); exact HO_13.out)) k_ hn_))⟩)) (below_size (by repeat (first | (with_reducible first | exact HB.out | apply below_alloc | apply pw_below_drewN | apply below_drew1) | exact HB.out)))); have n5_ := Aside0.mk (below_step (by repeat (first | (with_reducible first | exact HB.out | apply below_alloc | apply pw_below_drewN | apply below_drew1) | exact HB.out)) hb); clear HO_11; clear HO_13; clear HO_15; clear HO473; clear HB; have HO_11 := n0_; have HO_13 := n1_; have HO_15 := n2_; have HO473 := n3_; have HO476 := n4_; have HB := n5_; clear n0_ n1_ n2_ n3_ n4_ n5_; (try clear hb); (try clear hb2); (try clear hk); (try clear hi); (try clear ho0)) | ((with_reducible refine gate_callee (f := 29) rfl ?_); refine goesL_ (some 90) rfl rfl Try.func29 (by kernel_rfl) rfl #[.slice Ao64 t457.length co64] rfl (by (try simp only [List.map_toArray, List.map_cons, List.map_nil]); first | done | rfl | (simp only [List.length_drop, List.length_take]; rfl)) ?_; (with_reducible refine (sheetpilelaw20_told.calls kj24 (fun k_ => ((some k_ ≠ (v463 : Value).ownBlock ∧ some k_ ≠ (.slice Ao66 t465.length co66 : Value).ownBlock) ∧ some k_ ≠ (v475 : Value).ownBlock)) _ _ t457 t477 _ ?side1 A40.out).mono ?_); (case side1 => exact Kd.N_V (HO_11.out)); rintro e w68 ⟨v478, rfl, ho0, hb⟩; refine ⟨_, rfl, ?_⟩; have n0_ := Aside0.mk (Kd.N_elder' (by (with_reducible repeat (first | apply Kd.N_alloc | apply Kd.N_drewN | apply Kd.N_drew)); exact HO_11.out) (by first | exact Kd.N_base ho0 | exact Kd.S_base ho0) hb); have n1_ := Aside0.mk (Kd.N_elder' (by (with_reducible repeat (first | apply Kd.N_alloc | apply Kd.N_drewN | apply Kd.N_drew)); exact HO_13.out) (by first | exact Kd.N_base ho0 | exact Kd.S_base ho0) hb); have n2_ := Aside0.mk (Kd.N_elder' (by (with_reducible repeat (first | apply Kd.N_alloc | apply Kd.N_drewN | apply Kd.N_drew)); exact HO_15.out) (by first | exact Kd.N_base ho0 | exact Kd.S_base ho0) hb); have n3_ := Aside0.mk (Kd.V_elder' (by (with_reducible repeat (first | apply Kd.V_alloc | apply Kd.V_drewN | apply Kd.V_drew)); exact HO473.out) (by first | exact Kd.N_base ho0 | exact Kd.S_base ho0) hb); have n4_ := Aside0.mk (Kd.N_elder' (by (with_reducible repeat (first | apply Kd.N_alloc | apply Kd.N_drewN | apply Kd.N_drew)); exact HO476.out) (by first | exact Kd.N_base ho0 | exact Kd.S_base ho0) hb); have n5_ := Aside0.mk (Kd.N_lower (Kd.N_mono (ok' := fun k_ => some k_ ≠ (v463 : Value).ownBlock ∧ some k_ ≠ (.slice Ao66 t465.length co66 : Value).ownBlock ∧ some k_ ≠ (v475 : Value).ownBlock) ho0 (fun k_ hk_ => ⟨Or.elim hk_ (fun hs_ => hs_.1.1) (fun hn_ => (Kd.fresh' (Kd.N_lt (by (with_reducible repeat (first | apply Kd.N_alloc | apply Kd.N_drewN | apply Kd.N_drew)); exact HO_13.out)) k_ hn_)), Or.elim hk_ (fun hs_ => hs_.1.2) (fun hn_ => (Kd.fresh' (Kd.N_lt (by (with_reducible repeat (first | apply Kd.N_alloc | apply Kd.N_drewN | apply Kd.N_drew)); exact HO_15.out)) k_ hn_)), Or.elim hk_ (fun hs_ => hs_.2) (fun hn_ => (Kd.fresh' (Kd.N_lt (by (with_reducible repeat (first | apply Kd.N_alloc | apply Kd.N_drewN | apply Kd.N_drew)); exact HO476.out)) k_ hn_))⟩)) (below_size (by repeat (first | (with_reducible first | exact HB.out | apply below_alloc | apply pw_below_drewN | apply below_drew1) | exact HB.out)))); have n6_ := Aside0.mk (below_step (by repeat (first | (with_reducible first | exact HB.out | apply below_alloc | apply pw_below_drewN | apply below_drew1) | exact HB.out)) hb); clear HO_11; clear HO_13; clear HO_15; clear HO473; clear HO476; clear HB; have HO_11 := n0_; have HO_13 := n1_; have HO_15 := n2_; have HO473 := n3_; have HO476 := n4_; have HO479 := n5_; have HB := n6_; clear n0_ n1_ n2_ n3_ n4_ n5_ n6_; (try clear hb); (try clear hb2); (try clear hk); (try clear hi); (try clear ho0); obtain ⟨Ao69, co69, eo69⟩ := Kd.N_slice HO476.out; subst eo69; obtain ⟨Ao70, co70, eo70⟩ := Kd.N_slice HO479.out; subst eo70) | ((with_reducible refine gate_callee (f := 28) rfl ?_); refine goesL_ (some 91) rfl rfl Try.func28 (by kernel_rfl) rfl #[.slice Ao69 t474.length co69, .slice Ao70 t477.length co70] rfl (by (try simp only [List.map_toArray, List.map_cons, List.map_nil]); first | done | rfl | (simp only [List.length_drop, List.length_take]; rfl)) ?_; (with_reducible refine (sheetpileref19_Same.calls kj24 _ _ t474 _ _ t477 true _ ?side1 ?side2 ?side3 ?side4 A41.out).mono ?_); (case side1 => repeat (first | exact (Kd.N_reads' HO476.out).2.2 | (with_reducible refine Kd.C_alloc ?_ _) | (with_reducible refine Kd.C_drewN ?_ _) | (with_reducible refine Kd.C_drew ?_))); (case side2 => exact (Kd.N_reads' HO476.out).2.1); (case side3 => repeat (first | exact (Kd.N_reads' HO479.out).2.2 | (with_reducible refine Kd.C_alloc ?_ _) | (with_reducible refine Kd.C_drewN ?_ _) | (with_reducible refine Kd.C_drew ?_))); (case side4 => exact (Kd.N_reads' HO479.out).2.1); rintro e w' ⟨rfl, ⟨nd, rfl⟩⟩; refine ⟨_, rfl, ?_⟩; have q71 : ((t457.length : Int) : Int) ≤ ((t465.length : Int) : Int) := of_decide_eq_true (by first | (with_reducible assumption) | assumption); obtain ⟨i071, hi071, _, hsz71, _⟩ := info_parts info30; have hroom71 : t465.length ≤ co66 := (Kd.N_reads' HO_15.out).2.1; have hC71 : Kd.F k30 _ _ Ao66 t465.length t465 := (Kd.V_at (base := w.heap.size) (Kd.N_V HO_15.out)).2.2; have q071 : (0 : Int) ≤ ((t457.length : Int) : Int) := of_decide_eq_true (by first | (with_reducible assumption) | assumption); have hcut71 := cut_from (P := Try.prog) 47 30 .i64 Try.underlying47 hi071 2 hsz71 Ao66 t465.length co66 (t457.length : Int) q071 q71; have hr71 := Kd.F_cut (m := ((t457.length : Int) : Int).toNat) (c := co66) hC71 (by omega) hroom71; obtain ⟨A71, hA71⟩ : ∃ Ab_, Ab_ = (if co66 = ((t457.length : Int) : Int).toNat then Ao66 else (Ao66 : Option Addr).map (·.add (((t457.length : Int) : Int).toNat * 2))) := ⟨_, rfl⟩; obtain ⟨c71, hc71⟩ : ∃ cb_, cb_ = co66 - ((t457.length : Int) : Int).toNat := ⟨_, rfl⟩; have hy71 : y481.length = t465.length - ((t457.length : Int) : Int).toNat := (by rw [Ny481.out, List.length_drop] <;> omega); rw [show (t465).drop ((t457.length : Int) : Int).toNat = y481 from Ny481.out.symm] at hr71; replace hr71 : Kd.F k30 _ _ A71 y481.length y481 := (by rw [hA71]; exact hr71); rw [← hy71, ← hA71, ← hc71] at hcut71; have HO485 := Aside0.mk (show Kd.V k30 30 _ w.heap.size _ (.slice A71 y481.length c71) y481 from Kd.V_mk (by rw [hy71, hc71]; exact Nat.sub_le_sub_right hroom71 _) hr71); have HC485 := Aside0.mk (show y481.length ≤ c71 from by rw [hy71, hc71]; exact Nat.sub_le_sub_right hroom71 _); clear hr71 hC71 hroom71 hi071 hsz71 hc71; have KY71 := Aside0.mk hy71; have KA71 := Aside0.mk hA71; clear hy71 hA71; replace q71 := eq_true q71) | (go_at_call 29; (with_reducible refine (sheetpilelaw20_told.calls kj24 (fun k_ => (((some k_ ≠ (.slice Ao64 t457.length co64 : Value).ownBlock ∧ some k_ ≠ (v463 : Value).ownBlock) ∧ some k_ ≠ (.slice Ao69 t474.length co69 : Value).ownBlock) ∧ some k_ ≠ (.slice Ao70 t477.length co70 : Value).ownBlock)) _ _ y481 t486 _ ?side1 A45.out).mono ?_); (case side1 => exact HO485.out); rintro e w72 ⟨v487, rfl, ho0, hb⟩; have n0_ := Aside0.mk (Kd.N_elder' (by (with_reducible repeat (first | apply Kd.N_alloc | apply Kd.N_drewN | apply Kd.N_drew)); exact HO_11.out) (by first | exact Kd.N_base ho0 | exact Kd.S_base ho0) hb); have n1_ := Aside0.mk (Kd.N_elder' (by (with_reducible repeat (first | apply Kd.N_alloc | apply Kd.N_drewN | apply Kd.N_drew)); exact HO_13.out) (by first | exact Kd.N_base ho0 | exact Kd.S_base ho0) hb); have n2_ := Aside0.mk (Kd.N_elder' (by (with_reducible repeat (first | apply Kd.N_alloc | apply Kd.N_drewN | apply Kd.N_drew)); exact HO_15.out) (by first | exact Kd.N_base ho0 | exact Kd.S_base ho0) hb); have n3_ := Aside0.mk (Kd.V_elder' (by (with_reducible repeat (first | apply Kd.V_alloc | apply Kd.V_drewN | apply Kd.V_drew)); exact HO473.out) (by first | exact Kd.N_base ho0 | exact Kd.S_base ho0) hb); have n4_ := Aside0.mk (Kd.N_elder' (by (with_reducible repeat (first | apply Kd.N_alloc | apply Kd.N_drewN | apply Kd.N_drew)); exact HO476.out) (by first | exact Kd.N_base ho0 | exact Kd.S_base ho0) hb); have n5_ := Aside0.mk (Kd.N_elder' (by (with_reducible repeat (first | apply Kd.N_alloc | apply Kd.N_drewN | apply Kd.N_drew)); exact HO479.out) (by first | exact Kd.N_base ho0 | exact Kd.S_base ho0) hb); have n6_ := Aside0.mk (Kd.V_elder' (by (with_reducible repeat (first | apply Kd.V_alloc | apply Kd.V_drewN | apply Kd.V_drew)); exact HO485.out) (by first | exact Kd.N_base ho0 | exact Kd.S_base ho0) hb); have n7_ := Aside0.mk (Kd.N_lower (Kd.N_mono (ok' := fun k_ => some k_ ≠ (.slice Ao64 t457.length co64 : Value).ownBlock ∧ some k_ ≠ (v463 : Value).ownBlock ∧ some k_ ≠ (.slice Ao69 t474.length co69 : Value).ownBlock ∧ some k_ ≠ (.slice Ao70 t477.length co70 : Value).ownBlock) ho0 (fun k_ hk_ => ⟨Or.elim hk_ (fun hs_ => hs_.1.1.1) (fun hn_ => (Kd.fresh' (Kd.N_lt (by (with_reducible repeat (first | apply Kd.N_alloc | apply Kd.N_drewN | apply Kd.N_drew)); exact HO_11.out)) k_ hn_)), Or.elim hk_ (fun hs_ => hs_.1.1.2) (fun hn_ => (Kd.fresh' (Kd.N_lt (by (with_reducible repeat (first | apply Kd.N_alloc | apply Kd.N_drewN | apply Kd.N_drew)); exact HO_13.out)) k_ hn_)), Or.elim hk_ (fun hs_ => hs_.1.2) (fun hn_ => (Kd.fresh' (Kd.N_lt (by (with_reducible repeat (first | apply Kd.N_alloc | apply Kd.N_drewN | apply Kd.N_drew)); exact HO476.out)) k_ hn_)), Or.elim hk_ (fun hs_ => hs_.2) (fun hn_ => (Kd.fresh' (Kd.N_lt (by (with_reducible repeat (first | apply Kd.N_alloc | apply Kd.N_drewN | apply Kd.N_drew)); exact HO479.out)) k_ hn_))⟩)) (below_size (by repeat (first | (with_reducible first | exact HB.out | apply below_alloc | apply pw_below_drewN | apply below_drew1) | exact HB.out)))); have n8_ := Aside0.mk (below_step (by repeat (first | (with_reducible first | exact HB.out | apply below_alloc | apply pw_below_drewN | apply below_drew1) | exact HB.out)) hb); clear HO_11; clear HO_13; clear HO_15; clear HO473; clear HO476; clear HO479; clear HO485; clear HB; have HO_11 := n0_; have HO_13 := n1_; have HO_15 := n2_; have HO473 := n3_; have HO476 := n4_; have HO479 := n5_; have HO485 := n6_; have HO488 := n7_; have HB := n8_; clear n0_ n1_ n2_ n3_ n4_ n5_ n6_ n7_ n8_; (try clear hb); (try clear hb2); (try clear hk); (try clear hi); (try clear ho0); obtain ⟨Ao73, co73, eo73⟩ := Kd.N_slice HO_13.out; subst eo73) | (go_at_call 29; (with_reducible refine (sheetpilelaw20_told.calls kj24 (fun k_ => ((((some k_ ≠ (.slice Ao64 t457.length co64 : Value).ownBlock ∧ some k_ ≠ (.slice Ao66 t465.length co66 : Value).ownBlock) ∧ some k_ ≠ (.slice Ao69 t474.length co69 : Value).ownBlock) ∧ some k_ ≠ (.slice Ao70 t477.length co70 : Value).ownBlock) ∧ some k_ ≠ (v487 : Value).ownBlock)) _ _ t461 t489 _ ?side1 A46.out).mono ?_); (case side1 => exact Kd.N_V (HO_13.out)); rintro e w74 ⟨v490, rfl, ho0, hb⟩; have n0_ := Aside0.mk (Kd.N_elder' (by (with_reducible repeat (first | apply Kd.N_alloc | apply Kd.N_drewN | apply Kd.N_drew)); exact HO_11.out) (by first | exact Kd.N_base ho0 | exact Kd.S_base ho0) hb); have n1_ := Aside0.mk (Kd.N_elder' (by (with_reducible repeat (first | apply Kd.N_alloc | apply Kd.N_drewN | apply Kd.N_drew)); exact HO_13.out) (by first | exact Kd.N_base ho0 | exact Kd.S_base ho0) hb); have n2_ := Aside0.mk (Kd.N_elder' (by (with_reducible repeat (first | apply Kd.N_alloc | apply Kd.N_drewN | apply Kd.N_drew)); exact HO_15.out) (by first | exact Kd.N_base ho0 | exact Kd.S_base ho0) hb); have n3_ := Aside0.mk (Kd.V_elder' (by (with_reducible repeat (first | apply Kd.V_alloc | apply Kd.V_drewN | apply Kd.V_drew)); exact HO473.out) (by first | exact Kd.N_base ho0 | exact Kd.S_base ho0) hb); have n4_ := Aside0.mk (Kd.N_elder' (by (with_reducible repeat (first | apply Kd.N_alloc | apply Kd.N_drewN | apply Kd.N_drew)); exact HO476.out) (by first | exact Kd.N_base ho0 | exact Kd.S_base ho0) hb); have n5_ := Aside0.mk (Kd.N_elder' (by (with_reducible repeat (first | apply Kd.N_alloc | apply Kd.N_drewN | apply Kd.N_drew)); exact HO479.out) (by first | exact Kd.N_base ho0 | exact Kd.S_base ho0) hb); have n6_ := Aside0.mk (Kd.V_elder' (by (with_reducible repeat (first | apply Kd.V_alloc | apply Kd.V_drewN | apply Kd.V_drew)); exact HO485.out) (by first | exact Kd.N_base ho0 | exact Kd.S_base ho0) hb); have n7_ := Aside0.mk (Kd.N_elder' (by (with_reducible repeat (first | apply Kd.N_alloc | apply Kd.N_drewN | apply Kd.N_drew)); exact HO488.out) (by first | exact Kd.N_base ho0 | exact Kd.S_base ho0) hb); have n8_ := Aside0.mk (Kd.N_lower (Kd.N_mono (ok' := fun k_ => some k_ ≠ (.slice Ao64 t457.length co64 : Value).ownBlock ∧ some k_ ≠ (.slice Ao66 t465.length co66 : Value).ownBlock ∧ some k_ ≠ (.slice Ao69 t474.length co69 : Value).ownBlock ∧ some k_ ≠ (.slice Ao70 t477.length co70 : Value).ownBlock ∧ some k_ ≠ (v487 : Value).ownBlock) ho0 (fun k_ hk_ => ⟨Or.elim hk_ (fun hs_ => hs_.1.1.1.1) (fun hn_ => (Kd.fresh' (Kd.N_lt (by (with_reducible repeat (first | apply Kd.N_alloc | apply Kd.N_drewN | apply Kd.N_drew)); exact HO_11.out)) k_ hn_)), Or.elim hk_ (fun hs_ => hs_.1.1.1.2) (fun hn_ => (Kd.fresh' (Kd.N_lt (by (with_reducible repeat (first | apply Kd.N_alloc | apply Kd.N_drewN | apply Kd.N_drew)); exact HO_15.out)) k_ hn_)), Or.elim hk_ (fun hs_ => hs_.1.1.2) (fun hn_ => (Kd.fresh' (Kd.N_lt (by (with_reducible repeat (first | apply Kd.N_alloc | apply Kd.N_drewN | apply Kd.N_drew)); exact HO476.out)) k_ hn_)), Or.elim hk_ (fun hs_ => hs_.1.2) (fun hn_ => (Kd.fresh' (Kd.N_lt (by (with_reducible repeat (first | apply Kd.N_alloc | apply Kd.N_drewN | apply Kd.N_drew)); exact HO479.out)) k_ hn_)), Or.elim hk_ (fun hs_ => hs_.2) (fun hn_ => (Kd.fresh' (Kd.N_lt (by (with_reducible repeat (first | apply Kd.N_alloc | apply Kd.N_drewN | apply Kd.N_drew)); exact HO488.out)) k_ hn_))⟩)) (below_size (by repeat (first | (with_reducible first | exact HB.out | apply below_alloc | apply pw_below_drewN | apply below_drew1) | exact HB.out)))); have n9_ := Aside0.mk (below_step (by repeat (first | (with_reducible first | exact HB.out | apply below_alloc | apply pw_below_drewN | apply below_drew1) | exact HB.out)) hb); clear HO_11; clear HO_13; clear HO_15; clear HO473; clear HO476; clear HO479; clear HO485; clear HO488; clear HB; have HO_11 := n0_; have HO_13 := n1_; have HO_15 := n2_; have HO473 := n3_; have HO476 := n4_; have HO479 := n5_; have HO485 := n6_; have HO488 := n7_; have HO491 := n8_; have HB := n9_; clear n0_ n1_ n2_ n3_ n4_ n5_ n6_ n7_ n8_ n9_; (try clear hb); (try clear hb2); (try clear hk); (try clear hi); (try clear ho0); obtain ⟨Ao75, co75, eo75⟩ := Kd.N_slice HO488.out; subst eo75; obtain ⟨Ao76, co76, eo76⟩ := Kd.N_slice HO491.out; subst eo76) | (go_at_call 28; (with_reducible refine (sheetpileref19_Same.calls kj24 _ _ t486 _ _ t489 false _ ?side1 ?side2 ?side3 ?side4 A47.out).mono ?_); (case side1 => repeat (first | exact (Kd.N_reads' HO488.out).2.2 | (with_reducible refine Kd.C_alloc ?_ _) | (with_reducible refine Kd.C_drewN ?_ _) | (with_reducible refine Kd.C_drew ?_))); (case side2 => exact (Kd.N_reads' HO488.out).2.1); (case side3 => repeat (first | exact (Kd.N_reads' HO491.out).2.2 | (with_reducible refine Kd.C_alloc ?_ _) | (with_reducible refine Kd.C_drewN ?_ _) | (with_reducible refine Kd.C_drew ?_))); (case side4 => exact (Kd.N_reads' HO491.out).2.1); rintro e w' ⟨rfl, ⟨nd, rfl⟩⟩))
                              go_ret
                              exact ⟨by first | rfl | (simp [errW_none, errW_some] <;> rfl) | (simp [*, errW_none, errW_some] <;> rfl), by repeat (first | (with_reducible first | exact HB.out | apply below_alloc | apply pw_below_drewN | apply below_drew1) | exact HB.out)⟩
                          · replace c42 := Bool.eq_false_iff.mpr c42
                            subst c42
                            have H1 : (some false) = some r := by rw [if_neg (show ¬ (false = true) by decide)] at H; exact H
                            clear H
                            have H := H1
                            clear H1
                            obtain rfl := Option.some.inj H
                            obtain ⟨Ao77, co77, eo77⟩ := Kd.N_slice HO_11.out
                            subst eo77
                            obtain ⟨Ao79, co79, eo79⟩ := Kd.N_slice HO_15.out
                            subst eo79
                            have q78 : ((t457.length : Int) : Int) ≤ ((t465.length : Int) : Int) := of_decide_eq_true (by first | (with_reducible assumption) | assumption)
                            obtain ⟨i078, hi078, _, hsz78, _⟩ := info_parts info30
                            have hroom78 : t465.length ≤ co79 := (Kd.N_reads' HO_15.out).2.1
                            have hC78 : Kd.F k30 _ _ Ao79 t465.length t465 := (Kd.V_at (base := w.heap.size) (Kd.N_V HO_15.out)).2.2
                            have hcut78 := cut_to (P := Try.prog) 47 30 .i64 Try.underlying47 hi078 Ao79 t465.length co79 (t457.length : Int) (of_decide_eq_true (by first | (with_reducible assumption) | assumption)) q78 hroom78
                            have hr78 := Kd.F_take (m := ((t457.length : Int) : Int).toNat) hC78 (by omega)
                            have hy78 : y469.length = ((t457.length : Int) : Int).toNat := (by rw [Ny469.out, List.length_take]; omega)
                            rw [← Ny469.out] at hr78
                            rw [← hy78] at hcut78
                            have HO473 := Aside0.mk (show Kd.V k30 30 _ w.heap.size _ (.slice Ao79 y469.length co79) y469 from Kd.V_mk (by omega) hr78)
                            have HC473 := Aside0.mk (show y469.length ≤ co79 from by omega)
                            clear hr78 hC78 hroom78 hi078 hsz78
                            have KY78 := Aside0.mk hy78
                            clear hy78
                            replace q78 := eq_true q78
                            go_wp2_with (first | ((with_reducible refine gate_callee (f := 29) rfl ?_); refine goesL_ (some 88) rfl rfl Try.func29 (by kernel_rfl) rfl #[.slice Ao79 y469.length co79] rfl (by (try simp only [List.map_toArray, List.map_cons, List.map_nil]); first | done | rfl | (simp only [List.length_drop, List.length_take]; rfl)) ?_; (with_reducible refine (sheetpilelaw20_told.calls kj24 (fun k_ => (some k_ ≠ (.slice Ao77 t457.length co77 : Value).ownBlock ∧ some k_ ≠ (v463 : Value).ownBlock)) _ _ y469 t474 _ ?side1 A39.out).mono ?_); (case side1 => exact HO473.out); rintro e w80 ⟨v475, rfl, ho0, hb⟩; refine ⟨_, rfl, ?_⟩; have n0_ := Aside0.mk (Kd.N_elder' (by (with_reducible repeat (first | apply Kd.N_alloc | apply Kd.N_drewN | apply Kd.N_drew)); exact HO_11.out) (by first | exact Kd.N_base ho0 | exact Kd.S_base ho0) hb); have n1_ := Aside0.mk (Kd.N_elder' (by (with_reducible repeat (first | apply Kd.N_alloc | apply Kd.N_drewN | apply Kd.N_drew)); exact HO_13.out) (by first | exact Kd.N_base ho0 | exact Kd.S_base ho0) hb); have n2_ := Aside0.mk (Kd.N_elder' (by (with_reducible repeat (first | apply Kd.N_alloc | apply Kd.N_drewN | apply Kd.N_drew)); exact HO_15.out) (by first | exact Kd.N_base ho0 | exact Kd.S_base ho0) hb); have n3_ := Aside0.mk (Kd.V_elder' (by (with_reducible repeat (first | apply Kd.V_alloc | apply Kd.V_drewN | apply Kd.V_drew)); exact HO473.out) (by first | exact Kd.N_base ho0 | exact Kd.S_base ho0) hb); have n4_ := Aside0.mk (Kd.N_lower (Kd.N_mono (ok' := fun k_ => some k_ ≠ (.slice Ao77 t457.length co77 : Value).ownBlock ∧ some k_ ≠ (v463 : Value).ownBlock) ho0 (fun k_ hk_ => ⟨Or.elim hk_ (fun hs_ => hs_.1) (fun hn_ => (Kd.fresh' (Kd.N_lt (by (with_reducible repeat (first | apply Kd.N_alloc | apply Kd.N_drewN | apply Kd.N_drew)); exact HO_11.out)) k_ hn_)), Or.elim hk_ (fun hs_ => hs_.2) (fun hn_ => (Kd.fresh' (Kd.N_lt (by (with_reducible repeat (first | apply Kd.N_alloc | apply Kd.N_drewN | apply Kd.N_drew)); exact HO_13.out)) k_ hn_))⟩)) (below_size (by repeat (first | (with_reducible first | exact HB.out | apply below_alloc | apply pw_below_drewN | apply below_drew1) | exact HB.out)))); have n5_ := Aside0.mk (below_step (by repeat (first | (with_reducible first | exact HB.out | apply below_alloc | apply pw_below_drewN | apply below_drew1) | exact HB.out)) hb); clear HO_11; clear HO_13; clear HO_15; clear HO473; clear HB; have HO_11 := n0_; have HO_13 := n1_; have HO_15 := n2_; have HO473 := n3_; have HO476 := n4_; have HB := n5_; clear n0_ n1_ n2_ n3_ n4_ n5_; (try clear hb); (try clear hb2); (try clear hk); (try clear hi); (try clear ho0)) | ((with_reducible refine gate_callee (f := 29) rfl ?_); refine goesL_ (some 90) rfl rfl Try.func29 (by kernel_rfl) rfl #[.slice Ao77 t457.length co77] rfl (by (try simp only [List.map_toArray, List.map_cons, List.map_nil]); first | done | rfl | (simp only [List.length_drop, List.length_take]; rfl)) ?_; (with_reducible refine (sheetpilelaw20_told.calls kj24 (fun k_ => ((some k_ ≠ (v463 : Value).ownBlock ∧ some k_ ≠ (.slice Ao79 t465.length co79 : Value).ownBlock) ∧ some k_ ≠ (v475 : Value).ownBlock)) _ _ t457 t477 _ ?side1 A40.out).mono ?_); (case side1 => exact Kd.N_V (HO_11.out)); rintro e w81 ⟨v478, rfl, ho0, hb⟩; refine ⟨_, rfl, ?_⟩; have n0_ := Aside0.mk (Kd.N_elder' (by (with_reducible repeat (first | apply Kd.N_alloc | apply Kd.N_drewN | apply Kd.N_drew)); exact HO_11.out) (by first | exact Kd.N_base ho0 | exact Kd.S_base ho0) hb); have n1_ := Aside0.mk (Kd.N_elder' (by (with_reducible repeat (first | apply Kd.N_alloc | apply Kd.N_drewN | apply Kd.N_drew)); exact HO_13.out) (by first | exact Kd.N_base ho0 | exact Kd.S_base ho0) hb); have n2_ := Aside0.mk (Kd.N_elder' (by (with_reducible repeat (first | apply Kd.N_alloc | apply Kd.N_drewN | apply Kd.N_drew)); exact HO_15.out) (by first | exact Kd.N_base ho0 | exact Kd.S_base ho0) hb); have n3_ := Aside0.mk (Kd.V_elder' (by (with_reducible repeat (first | apply Kd.V_alloc | apply Kd.V_drewN | apply Kd.V_drew)); exact HO473.out) (by first | exact Kd.N_base ho0 | exact Kd.S_base ho0) hb); have n4_ := Aside0.mk (Kd.N_elder' (by (with_reducible repeat (first | apply Kd.N_alloc | apply Kd.N_drewN | apply Kd.N_drew)); exact HO476.out) (by first | exact Kd.N_base ho0 | exact Kd.S_base ho0) hb); have n5_ := Aside0.mk (Kd.N_lower (Kd.N_mono (ok' := fun k_ => some k_ ≠ (v463 : Value).ownBlock ∧ some k_ ≠ (.slice Ao79 t465.length co79 : Value).ownBlock ∧ some k_ ≠ (v475 : Value).ownBlock) ho0 (fun k_ hk_ => ⟨Or.elim hk_ (fun hs_ => hs_.1.1) (fun hn_ => (Kd.fresh' (Kd.N_lt (by (with_reducible repeat (first | apply Kd.N_alloc | apply Kd.N_drewN | apply Kd.N_drew)); exact HO_13.out)) k_ hn_)), Or.elim hk_ (fun hs_ => hs_.1.2) (fun hn_ => (Kd.fresh' (Kd.N_lt (by (with_reducible repeat (first | apply Kd.N_alloc | apply Kd.N_drewN | apply Kd.N_drew)); exact HO_15.out)) k_ hn_)), Or.elim hk_ (fun hs_ => hs_.2) (fun hn_ => (Kd.fresh' (Kd.N_lt (by (with_reducible repeat (first | apply Kd.N_alloc | apply Kd.N_drewN | apply Kd.N_drew)); exact HO476.out)) k_ hn_))⟩)) (below_size (by repeat (first | (with_reducible first | exact HB.out | apply below_alloc | apply pw_below_drewN | apply below_drew1) | exact HB.out)))); have n6_ := Aside0.mk (below_step (by repeat (first | (with_reducible first | exact HB.out | apply below_alloc | apply pw_below_drewN | apply below_drew1) | exact HB.out)) hb); clear HO_11; clear HO_13; clear HO_15; clear HO473; clear HO476; clear HB; have HO_11 := n0_; have HO_13 := n1_; have HO_15 := n2_; have HO473 := n3_; have HO476 := n4_; have HO479 := n5_; have HB := n6_; clear n0_ n1_ n2_ n3_ n4_ n5_ n6_; (try clear hb); (try clear hb2); (try clear hk); (try clear hi); (try clear ho0); obtain ⟨Ao82, co82, eo82⟩ := Kd.N_slice HO476.out; subst eo82; obtain ⟨Ao83, co83, eo83⟩ := Kd.N_slice HO479.out; subst eo83) | ((with_reducible refine gate_callee (f := 28) rfl ?_); refine goesL_ (some 91) rfl rfl Try.func28 (by kernel_rfl) rfl #[.slice Ao82 t474.length co82, .slice Ao83 t477.length co83] rfl (by (try simp only [List.map_toArray, List.map_cons, List.map_nil]); first | done | rfl | (simp only [List.length_drop, List.length_take]; rfl)) ?_; (with_reducible refine (sheetpileref19_Same.calls kj24 _ _ t474 _ _ t477 false _ ?side1 ?side2 ?side3 ?side4 A41.out).mono ?_); (case side1 => repeat (first | exact (Kd.N_reads' HO476.out).2.2 | (with_reducible refine Kd.C_alloc ?_ _) | (with_reducible refine Kd.C_drewN ?_ _) | (with_reducible refine Kd.C_drew ?_))); (case side2 => exact (Kd.N_reads' HO476.out).2.1); (case side3 => repeat (first | exact (Kd.N_reads' HO479.out).2.2 | (with_reducible refine Kd.C_alloc ?_ _) | (with_reducible refine Kd.C_drewN ?_ _) | (with_reducible refine Kd.C_drew ?_))); (case side4 => exact (Kd.N_reads' HO479.out).2.1); rintro e w' ⟨rfl, ⟨nd, rfl⟩⟩; refine ⟨_, rfl, ?_⟩))
                            go_ret
                            exact ⟨by first | rfl | (simp [errW_none, errW_some] <;> rfl) | (simp [*, errW_none, errW_some] <;> rfl), by repeat (first | (with_reducible first | exact HB.out | apply below_alloc | apply pw_below_drewN | apply below_drew1) | exact HB.out)⟩
                        · rw [if_neg c38] at H
                          exact absurd H (by simp)
                      · rw [if_neg c37] at H
                        exact absurd H (by simp)
              · rw [if_neg c23] at H
                exact absurd H (by simp)

end Go.Proofs.Ytcgbjkjacpeheaa.PFr
