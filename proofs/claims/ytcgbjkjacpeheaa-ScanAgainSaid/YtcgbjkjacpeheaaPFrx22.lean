-- Laid by a program of this session (wip/mkprint.py); checked by Lean alone
import Derived.Test.YtcgbjkjacpeheaaPFrx0
import Derived.Test.YtcgbjkjacpeheaaPFrx18
import Derived.Test.YtcgbjkjacpeheaaScan20
import Derived.Test.YtcgbjkjacpeheaaScanWrite
namespace Go.Proofs.Ytcgbjkjacpeheaa.Given
end Go.Proofs.Ytcgbjkjacpeheaa.Given
namespace Go.Proofs.Ytcgbjkjacpeheaa.PFr
open Go.Proofs.Ytcgbjkjacpeheaa.Given
open Go.RowKit Go.Proofs.YtcgbjkjacpeheaaW.PrintWords Go.Proofs.YtcgbjkjacpeheaaW.PrintLast Go.Proofs.YtcgbjkjacpeheaaW.PrintMore
attribute [local go_sem] max2_int min2_int max_two min_two max_three min_three max_four min_four   -- for this text's walks alone
set_option linter.unusedVariables false
set_option linter.unusedSimpArgs false

attribute [local go_sem] isSome_setCell_
/-! ### sheetpilelaw20_ScanAgain: function 12 -/
mutual
def sheetpilelaw20_ScanAgain.j0 : Nat → ByteArray → List (S30) → Int → Bool → Option (Bool)
  | 0, _, _, _, _ => none
  | k + 1, x0, x3, x4, x33 => if x33 = true then (some false) else (if (x3.length : Int) = 0 then ((sheetpilelaw20_live.f).bind fun t440 => (some t440)) else (sheetpilelaw20_ScanAgain.l0 k x0 x3 x4 ([] : List (List (S62))) 0))
def sheetpilelaw20_ScanAgain.l0 : Nat → ByteArray → List (S30) → Int → List (List (S62)) → Int → Option (Bool)
  | 0, _, _, _, _, _ => none
  | k + 1, x0, x3, x4, x5, x6 => if x6 < (x3.length : Int) then (if 0 ≤ x6 then (if x5.length < 5864062014805 then (sheetpilelaw20_ScanAgain.l0 k x0 x3 x4 (x5 ++ [(rd_T30 x3 x6).f1]) (wrap64 (x6 + 1))) else (none)) else (none)) else (if 0 < (x3.length : Int) then ((scan_Write.f ((rd_T30 x3 0).f0) x5).bind fun bt446 => (if 0 ≤ x4 then (if x4 ≤ (x0.size : Int) then (if bt446.1.toList = (x0.extract 0 (x4 : Int).toNat).toList then (if bt446.2 = 0 then ((sheetpilelaw20_live.f).bind fun t448 => (some t448)) else (some false)) else (some false)) else (none)) else (none))) else (none))
end
def sheetpilelaw20_ScanAgain.f (k : Nat) (a0 : ByteArray) : Option (Bool) := if (a0.size : Int) > 5000 then ((sheetpilelaw20_live.f).bind fun t435 => (some t435)) else ((scan_All.f a0).bind fun bt436 => (if bt436.2 < 0 then (sheetpilelaw20_ScanAgain.j0 k a0 bt436.1 bt436.2 true) else (if bt436.2 > (a0.size : Int) then (sheetpilelaw20_ScanAgain.j0 k a0 bt436.1 bt436.2 true) else (sheetpilelaw20_ScanAgain.j0 k a0 bt436.1 bt436.2 (((bt436.1.length : Int) == 0) != (bt436.2 == 0))))))
theorem sheetpilelaw20_ScanAgain.mono_l : ∀ k, (∀ y0 y1 y2 y3, LeO (sheetpilelaw20_ScanAgain.j0 k y0 y1 y2 y3) (sheetpilelaw20_ScanAgain.j0 (k + 1) y0 y1 y2 y3)) ∧ (∀ y0 y1 y2 y3 y4, LeO (sheetpilelaw20_ScanAgain.l0 k y0 y1 y2 y3 y4) (sheetpilelaw20_ScanAgain.l0 (k + 1) y0 y1 y2 y3 y4))
  | 0 => ⟨fun _ _ _ _ r h => by simp [sheetpilelaw20_ScanAgain.j0] at h, fun _ _ _ _ _ r h => by simp [sheetpilelaw20_ScanAgain.l0] at h⟩
  | k + 1 => by
    obtain ⟨ih0, ih1⟩ := sheetpilelaw20_ScanAgain.mono_l k
    refine ⟨?_, ?_⟩
    · intro y0 y1 y2 y3
      unfold sheetpilelaw20_ScanAgain.j0
      repeat' first
      | (with_reducible exact ih0 _ _ _ _)
      | (with_reducible exact ih1 _ _ _ _ _)
      | (with_reducible exact LeO.refl _)
      | (with_reducible exact LeO.none _)
      | (with_reducible refine LeO.ite ?_ ?_)
      | (with_reducible refine LeO.bind ?_ (fun _ => ?_))
      | exact ih0 _ _ _ _
      | exact ih1 _ _ _ _ _
      | exact LeO.none _
      | refine LeO.ite ?_ ?_
      | refine LeO.bind ?_ (fun _ => ?_)
    · intro y0 y1 y2 y3 y4
      unfold sheetpilelaw20_ScanAgain.l0
      repeat' first
      | (with_reducible exact ih0 _ _ _ _)
      | (with_reducible exact ih1 _ _ _ _ _)
      | (with_reducible exact LeO.refl _)
      | (with_reducible exact LeO.none _)
      | (with_reducible refine LeO.ite ?_ ?_)
      | (with_reducible refine LeO.bind ?_ (fun _ => ?_))
      | exact ih0 _ _ _ _
      | exact ih1 _ _ _ _ _
      | exact LeO.none _
      | refine LeO.ite ?_ ?_
      | refine LeO.bind ?_ (fun _ => ?_)
theorem sheetpilelaw20_ScanAgain.mono : ∀ a0 k, LeO (sheetpilelaw20_ScanAgain.f k a0) (sheetpilelaw20_ScanAgain.f (k + 1) a0) := by
  intro a0 k
  obtain ⟨ih0, ih1⟩ := sheetpilelaw20_ScanAgain.mono_l k
  unfold sheetpilelaw20_ScanAgain.f
  repeat' first
      | (with_reducible exact ih0 _ _ _ _)
      | (with_reducible exact ih1 _ _ _ _ _)
      | (with_reducible exact LeO.refl _)
      | (with_reducible exact LeO.none _)
      | (with_reducible refine LeO.ite ?_ ?_)
      | (with_reducible refine LeO.bind ?_ (fun _ => ?_))
      | exact ih0 _ _ _ _
      | exact ih1 _ _ _ _ _
      | exact LeO.none _
      | refine LeO.ite ?_ ?_
      | refine LeO.bind ?_ (fun _ => ?_)
set_option maxHeartbeats 8000000 in
set_option maxRecDepth 100000 in
theorem sheetpilelaw20_ScanAgain.calls (k : Nat) (a0 : ByteArray) (r : Bool) (w : World) (h : sheetpilelaw20_ScanAgain.f k a0 = some r) :
    Calls Try.prog 12 #[.string a0] w fun e w' => e = .returned (.bool r) ∧ Below w.heap.size w w' := by
  have HB := Aside0.mk (Below.refl w.heap.size w)
  have H : (if (a0.size : Int) > 5000 then ((sheetpilelaw20_live.f).bind fun t435 => (some t435)) else ((scan_All.f a0).bind fun bt436 => (if bt436.2 < 0 then (sheetpilelaw20_ScanAgain.j0 k a0 bt436.1 bt436.2 true) else (if bt436.2 > (a0.size : Int) then (sheetpilelaw20_ScanAgain.j0 k a0 bt436.1 bt436.2 true) else (sheetpilelaw20_ScanAgain.j0 k a0 bt436.1 bt436.2 (((bt436.1.length : Int) == 0) != (bt436.2 == 0))))))) = some r := h
  clear h
  by_cases c2 : (a0.size : Int) > 5000
  · rw [if_pos c2] at H
    have c2b0 : decide (5000 < (a0.size : Int)) = true := decide_eq_true c2
    have c2b1 : decide (5000 < a0.size) = true := decide_eq_true (by omega)
    clear c2
    replace H := Option.bind_eq_some_iff.mp H
    obtain ⟨t435, A30, H⟩ := H
    replace H : (some t435) = some r := H
    have A3 := Aside0.mk A30
    clear A30
    obtain rfl := Option.some.inj H
    go_enter Try.func12, Try.ntmps12
    go_wp2_with (((with_reducible refine gate_callee (f := 25) rfl ?_); refine goesL_ (some 12) rfl rfl Try.func25 (by kernel_rfl) rfl #[] rfl (by (try simp only [List.map_toArray, List.map_cons, List.map_nil]); first | done | rfl | (simp only [List.length_drop, List.length_take]; rfl)) ?_; (with_reducible refine (sheetpilelaw20_live.calls  t435 _ A3.out).mono ?_); rintro e w4 ⟨rfl, hb⟩; refine ⟨_, rfl, ?_⟩; have n0_ := Aside0.mk (below_step (by repeat (first | (with_reducible first | exact HB.out | apply below_alloc | apply pw_below_drewN | apply below_drew1) | exact HB.out)) hb); clear HB; have HB := n0_; clear n0_; (try clear hb); (try clear hb2); (try clear hk); (try clear hi)))
    go_ret
    exact ⟨by first | rfl | (simp [errW_none, errW_some] <;> rfl) | (simp [*, errW_none, errW_some] <;> rfl), by repeat (first | (with_reducible first | exact HB.out | apply below_alloc | apply pw_below_drewN | apply below_drew1) | exact HB.out)⟩
  · rw [if_neg c2] at H
    have c2b0 : decide (5000 < (a0.size : Int)) = false := decide_eq_false c2
    have c2b1 : decide (5000 < a0.size) = false := decide_eq_false (by omega)
    clear c2
    replace H := Option.bind_eq_some_iff.mp H
    obtain ⟨⟨t436, t437⟩, A50, H⟩ := H
    replace H : (if t437 < 0 then (sheetpilelaw20_ScanAgain.j0 k a0 t436 t437 true) else (if t437 > (a0.size : Int) then (sheetpilelaw20_ScanAgain.j0 k a0 t436 t437 true) else (sheetpilelaw20_ScanAgain.j0 k a0 t436 t437 (((t436.length : Int) == 0) != (t437 == 0))))) = some r := H
    have A5 := Aside0.mk A50
    clear A50
    have HC6 := Aside0.mk H
    clear H
    go_enter Try.func12, Try.ntmps12
    go_upto_region 4 with (first | ((with_reducible refine gate_callee (f := 26) rfl ?_); refine goesL_ (some 15) rfl rfl Try.func26 (by kernel_rfl) rfl #[.string a0] rfl (by (try simp only [List.map_toArray, List.map_cons, List.map_nil]); first | done | rfl | (simp only [List.length_drop, List.length_take]; rfl)) ?_; (with_reducible refine (scan_All.calls a0 t436 t437 _ A5.out).mono ?_); rintro e w7 ⟨v438, rfl, ho0, hb⟩; refine ⟨_, rfl, ?_⟩; have n0_ := Aside0.mk (Kd.N_lower (Kd.N_mono (ok' := fun k_ => True) (Kd.S_N (Kd.S_bound ho0)) (fun k_ hk_ => trivial)) (below_size (by repeat (first | (with_reducible first | exact HB.out | apply below_alloc | apply pw_below_drewN | apply below_drew1) | exact HB.out)))); have n1_ := Aside0.mk (below_step (by repeat (first | (with_reducible first | exact HB.out | apply below_alloc | apply pw_below_drewN | apply below_drew1) | exact HB.out)) hb); clear HB; have HO439 := n0_; have HB := n1_; clear n0_ n1_; (try clear hb); (try clear hb2); (try clear hk); (try clear hi); (try clear ho0)))
    (try simp only [Act.put, List.setIfInBounds_toArray, List.set_cons_zero, List.set_cons_succ])
    go_cut [33] (fun v33 wc => ∃ (kq : Nat) (x33_5 : Bool), v33 = .bool x33_5 ∧ Aside0 (sheetpilelaw20_ScanAgain.j0 kq a0 t436 t437 x33_5 = some r) ∧ Aside0 (kq ≤ k) ∧ Aside0 (Kd.N k30 30 wc w.heap.size (fun _ => True) v438 t436) ∧ Aside0 (Below w.heap.size w wc))
    case first =>
      have H := HC6.out
      clear HC6
      by_cases c8 : t437 < 0
      · rw [if_pos c8] at H
        have c8b0 : decide (t437 < 0) = true := decide_eq_true c8
        clear c8
        (first | rw [c8b0] | (simp only [i64_w, i32_w]; rw [c8b0]) | skip)
        have H' := Aside0.mk H
        clear H
        go_wp2
        go_meet
        case rel => exact ⟨_, (true), (by first | rfl | (simp; done) | (simp [*]; done) | exact congrArg Value.bool (by cases ByteArray.toList a0 <;> rfl) | exact congrArg Value.bool (by cases ByteArray.toList a1 <;> rfl)), H', ⟨by first | omega | exact Nat.le_refl _⟩, ⟨by (with_reducible repeat (first | apply Kd.N_alloc | apply Kd.N_drewN | apply Kd.N_drew)); exact HO439.out⟩, ⟨by repeat (first | (with_reducible first | exact HB.out | apply below_alloc | apply pw_below_drewN | apply below_drew1) | exact HB.out)⟩⟩
      · rw [if_neg c8] at H
        have c8b0 : decide (t437 < 0) = false := decide_eq_false c8
        clear c8
        (first | rw [c8b0] | (simp only [i64_w, i32_w]; rw [c8b0]) | skip)
        by_cases c9 : t437 > (a0.size : Int)
        · rw [if_pos c9] at H
          have c9b0 : decide ((a0.size : Int) < t437) = true := decide_eq_true c9
          clear c9
          have H' := Aside0.mk H
          clear H
          go_wp2
          go_meet
          case rel => exact ⟨_, (true), (by first | rfl | (simp; done) | (simp [*]; done) | exact congrArg Value.bool (by cases ByteArray.toList a0 <;> rfl) | exact congrArg Value.bool (by cases ByteArray.toList a1 <;> rfl)), H', ⟨by first | omega | exact Nat.le_refl _⟩, ⟨by (with_reducible repeat (first | apply Kd.N_alloc | apply Kd.N_drewN | apply Kd.N_drew)); exact HO439.out⟩, ⟨by repeat (first | (with_reducible first | exact HB.out | apply below_alloc | apply pw_below_drewN | apply below_drew1) | exact HB.out)⟩⟩
        · rw [if_neg c9] at H
          have c9b0 : decide ((a0.size : Int) < t437) = false := decide_eq_false c9
          clear c9
          have H' := Aside0.mk H
          clear H
          obtain ⟨Ao10, co10, eo10⟩ := Kd.N_slice HO439.out
          subst eo10
          go_wp2
          go_meet
          case rel => exact ⟨_, ((((t436.length : Int) == 0) != (t437 == 0))), (by first | rfl | (simp; done) | (simp [*]; done) | exact congrArg Value.bool (by cases ByteArray.toList a0 <;> rfl) | exact congrArg Value.bool (by cases ByteArray.toList a1 <;> rfl)), H', ⟨by first | omega | exact Nat.le_refl _⟩, ⟨by (with_reducible repeat (first | apply Kd.N_alloc | apply Kd.N_drewN | apply Kd.N_drew)); exact HO439.out⟩, ⟨by repeat (first | (with_reducible first | exact HB.out | apply below_alloc | apply pw_below_drewN | apply below_drew1) | exact HB.out)⟩⟩
    case rest =>
      clear HC6
      try clear c1
      try clear c2
      try clear c2b0
      try clear c2b1
      try clear p2
      try clear c8
      try clear c8b0
      try clear c9
      try clear c9b0
      obtain ⟨kq, x33_5, rfl, HA, HJ5, HO_3, HB⟩ := hcut
      cases kq with
      | zero => exact absurd HA.out (by simp [sheetpilelaw20_ScanAgain.j0])
      | succ kj5 =>
        have H := HA.out
        clear HA
        simp only [sheetpilelaw20_ScanAgain.j0] at H
        by_cases c11 : x33_5 = true
        · subst c11
          have H1 : (some false) = some r := by rw [if_pos rfl] at H; exact H
          clear H
          have H := H1
          clear H1
          obtain rfl := Option.some.inj H
          go_wp2
          go_ret
          exact ⟨by first | rfl | (simp [errW_none, errW_some] <;> rfl) | (simp [*, errW_none, errW_some] <;> rfl), by repeat (first | (with_reducible first | exact HB.out | apply below_alloc | apply pw_below_drewN | apply below_drew1) | exact HB.out)⟩
        · replace c11 := Bool.eq_false_iff.mpr c11
          subst c11
          have H1 : (if (t436.length : Int) = 0 then ((sheetpilelaw20_live.f).bind fun t440 => (some t440)) else (sheetpilelaw20_ScanAgain.l0 kj5 a0 t436 t437 ([] : List (List (S62))) 0)) = some r := by rw [if_neg (show ¬ (false = true) by decide)] at H; exact H
          clear H
          have H := H1
          clear H1
          by_cases c12 : (t436.length : Int) = 0
          · rw [if_pos c12] at H
            have c12b0 : ((t436.length : Int) == 0) = true := beq_iff_eq.mpr c12
            have c12b1 : ((t436.length : Int) != 0) = false := bne_eq_false_iff_eq.mpr c12
            clear c12
            replace H := Option.bind_eq_some_iff.mp H
            obtain ⟨t440, A130, H⟩ := H
            replace H : (some t440) = some r := H
            have A13 := Aside0.mk A130
            clear A130
            obtain rfl := Option.some.inj H
            obtain ⟨Ao14, co14, eo14⟩ := Kd.N_slice HO_3.out
            subst eo14
            go_wp2_with (((with_reducible refine gate_callee (f := 25) rfl ?_); refine goesL_ (some 37) rfl rfl Try.func25 (by kernel_rfl) rfl #[] rfl (by (try simp only [List.map_toArray, List.map_cons, List.map_nil]); first | done | rfl | (simp only [List.length_drop, List.length_take]; rfl)) ?_; (with_reducible refine (sheetpilelaw20_live.calls  t440 _ A13.out).mono ?_); rintro e w15 ⟨rfl, hb⟩; refine ⟨_, rfl, ?_⟩; have n0_ := Aside0.mk (Kd.N_below (by (with_reducible repeat (first | apply Kd.N_alloc | apply Kd.N_drewN | apply Kd.N_drew)); exact HO_3.out) hb); have n1_ := Aside0.mk (below_step (by repeat (first | (with_reducible first | exact HB.out | apply below_alloc | apply pw_below_drewN | apply below_drew1) | exact HB.out)) hb); clear HO_3; clear HB; have HO_3 := n0_; have HB := n1_; clear n0_ n1_; (try clear hb); (try clear hb2); (try clear hk); (try clear hi)))
            go_ret
            exact ⟨by first | rfl | (simp [errW_none, errW_some] <;> rfl) | (simp [*, errW_none, errW_some] <;> rfl), by repeat (first | (with_reducible first | exact HB.out | apply below_alloc | apply pw_below_drewN | apply below_drew1) | exact HB.out)⟩
          · rw [if_neg c12] at H
            have c12b0 : ((t436.length : Int) == 0) = false := beq_eq_false_iff_ne.mpr c12
            have c12b1 : ((t436.length : Int) != 0) = true := bne_iff_ne.mpr c12
            have c12b2 : ¬ (t436 = []) := fun h_ => c12 (by rw [h_]; rfl)
            have H' := Aside0.mk H
            clear H
            obtain ⟨Ao16, co16, eo16⟩ := Kd.N_slice HO_3.out
            subst eo16
            go_wp2
            go_loopg [5, 6] kj5 (fun kq v5 v6 w' => ∃ (x5_2 : List (List (S62))) (x6_2 : Int), v6 = .int .i64 x6_2 ∧ Aside0 (sheetpilelaw20_ScanAgain.l0 kq a0 t436 t437 x5_2 x6_2 = some r) ∧ Aside0 (kq ≤ kj5) ∧ Aside0 (Kd.N k30 30 w' w.heap.size (fun k_ => some k_ ≠ (v5 : Value).ownBlock) (.slice Ao16 t436.length co16) t436) ∧ Aside0 (Kd.N (Kd.slice 62 k62) 22 w' w.heap.size (fun k_ => some k_ ≠ ((.slice Ao16 t436.length co16) : Value).ownBlock) v5 x5_2) ∧ Aside0 (Below w.heap.size w w'))
            case atStart => exact ⟨(([] : List (List (S62)))), (0), (by first | rfl | (simp; done) | (simp [*]; done) | exact congrArg Value.bool (by cases ByteArray.toList a0 <;> rfl) | exact congrArg Value.bool (by cases ByteArray.toList a1 <;> rfl)), H', ⟨Nat.le_refl _⟩, ⟨by (with_reducible repeat (first | apply Kd.N_alloc | apply Kd.N_drewN | apply Kd.N_drew)); exact Kd.N_mono HO_3.out (fun _ hk => (by simp [Value.ownBlock]))⟩, ⟨by first | exact Kd.S_nil _ _ _ _ _ | exact Kd.N_nil _ _ _ _ _ | exact Kd.V_nil _ _ _ _ _ | exact Kd.Q_nil _ _ _ _ _ | exact Kd.R_nil _ _ _ _ _⟩, ⟨by repeat (first | (with_reducible first | exact HB.out | apply below_alloc | apply pw_below_drewN | apply below_drew1) | exact HB.out)⟩⟩
            case round =>
              clear H'
              try clear c1
              try clear c2
              try clear c2b0
              try clear c2b1
              try clear p2
              try clear c8
              try clear c8b0
              try clear c9
              try clear c9b0
              try clear c11
              try clear c12
              try clear c12b0
              try clear c12b1
              try clear c12b2
              try clear p2
              obtain ⟨x5_2, x6_2, rfl, HA, HK2, HO_3, HO_5, HB⟩ := hrel
              cases gk with
              | zero => exact absurd HA.out (by simp [sheetpilelaw20_ScanAgain.l0])
              | succ k2 =>
                have H := HA.out
                clear HA
                simp only [sheetpilelaw20_ScanAgain.l0] at H
                by_cases c17 : x6_2 < (t436.length : Int)
                · rw [if_pos c17] at H
                  have c17b0 : decide (x6_2 < (t436.length : Int)) = true := decide_eq_true c17
                  clear c17
                  by_cases c18 : 0 ≤ x6_2
                  · rw [if_pos c18] at H
                    have c18b0 : decide (0 ≤ x6_2) = true := decide_eq_true c18
                    clear c18
                    by_cases c19 : x5_2.length < 5864062014805
                    · rw [if_pos c19] at H
                      have LMc19 := Aside0.mk c19
                      clear c19
                      obtain ⟨y442, hy442⟩ : ∃ y_ : List (List (S62)), y_ = (x5_2 ++ [(rd_T30 t436 x6_2).f1]) := ⟨_, rfl⟩
                      replace H : (sheetpilelaw20_ScanAgain.l0 k2 a0 t436 t437 y442 (wrap64 (x6_2 + 1))) = some r := by first | (rw [hy442]; with_reducible exact H) | (have H2_ := (Option.bind_some _ _).symm.trans H; rw [hy442]; with_reducible exact H2_) | (have H2_ := (Option.bind_some _ _).symm.trans H; with_reducible exact H2_) | with_reducible exact H | (rw [hy442]; exact H) | exact H
                      have Ny442 := Aside0.mk hy442
                      clear hy442
                      have H' := Aside0.mk H
                      clear H
                      have p441 : 0 ≤ (x6_2 : Int) := of_decide_eq_true (by first | (with_reducible assumption) | assumption)
                      have q441 : x6_2 < (t436.length : Int) := of_decide_eq_true (by first | (with_reducible assumption) | assumption)
                      obtain ⟨ad441, A441_1, c441_1, e441, hx441_0, hx441_1, hl441_1, hi441_1⟩ := at_T30 (Kd.N_reads' HO_3.out).2.2 x6_2 p441 q441
                      cases e441
                      obtain ⟨ce441, hce441, hMe441, hcc441⟩ := Kd.N_get HO_3.out z30 x6_2 p441 (by first | exact q441 | exact of_decide_eq_true (by first | (with_reducible assumption) | assumption) | (have e_ := (Kd.N_reads' HO_3.out).1; omega))
                      obtain ⟨ua441_1, uc441_1, rfl, ul441_1, ge441_1⟩ := k30_openF hMe441
                      have hv441_1 := hcc441 1 _ rfl
                      rw [add_field _ _ 1 (by omega)] at hv441_1
                      replace hv441_1 := Option.some.inj (hv441_1.symm.trans hx441_1)
                      injection hv441_1 with hva_ hvn_ hvc_
                      rw [hva_] at ge441_1
                      rw [hvc_] at ul441_1
                      have HL441_1 := Aside0.mk (show Kd.V k62 62 _ w.heap.size _ _ ((rd_T30 t436 x6_2).f1) from Kd.V_mk ul441_1 ge441_1)
                      clear hva_ hvn_ hvc_ ge441_1 ul441_1
                      clear hcc441 hce441
                      have HR441_1 := Aside0.mk hi441_1
                      have HC441_1 := Aside0.mk hl441_1
                      clear hi441_1 hl441_1
                      replace p441 := eq_true p441
                      replace q441 := eq_true q441
                      go_wp2_with (((with_reducible refine gate_builtin (b := .append) (xs := #[.tmp 44, .tmp 50]) rfl ?_); (try (refine gate_guard (by rfl) ?_; dsimp only)); at_builtin; refine Kd.N_append (Kd.slice 62 k62) (w0 := w) w.heap.size rfl (.tmp 44) (.tmp 50) 55 22 (.slice none 0 0) 24 rfl Try.underlying55 info22 rfl (by decide) (by omega) u5 x5_2 ((rd_T30 t436 x6_2).f1) [.slice A441_1 ((rd_T30 t436 x6_2).f1).length c441_1] (fun k_ => some k_ ≠ (.slice (some ad441) t436.length co16 : Value).ownBlock) (fun k_ => ((fun k_ => some k_ ≠ (.slice (some ad441) t436.length co16 : Value).ownBlock)) k_ ∧ some k_ ≠ (u5 : Value).ownBlock) rfl rfl ?aP (fun _ hk => hk) ?aF ?aO ?aB ?aS ?aL ?_; (case aP => exact (Kd.FK_slice_mk (Kd.V_reads' (Kd.V_mono (ok' := (fun k_ => ((fun k_ => some k_ ≠ (.slice (some ad441) t436.length co16 : Value).ownBlock)) k_ ∧ some k_ ≠ (u5 : Value).ownBlock)) (HL441_1.out) (fun k_ hk => ⟨hk.2, hk.1⟩))).2.1 (Kd.V_F (Kd.V_mono (ok' := (fun k_ => ((fun k_ => some k_ ≠ (.slice (some ad441) t436.length co16 : Value).ownBlock)) k_ ∧ some k_ ≠ (u5 : Value).ownBlock)) (HL441_1.out) (fun k_ hk => ⟨hk.2, hk.1⟩))))); (case aB => exact (by repeat (first | (with_reducible first | exact HB.out | apply below_alloc | apply pw_below_drewN | apply below_drew1) | exact HB.out))); (case aF => exact (fun k_ hk => Kd.fresh' (Kd.N_lt (by (with_reducible repeat (first | apply Kd.N_alloc | apply Kd.N_drewN | apply Kd.N_drew)); exact HO_3.out)) k_ hk)); (case aO => exact (by (with_reducible repeat (first | apply Kd.N_alloc | apply Kd.N_drewN | apply Kd.N_drew)); exact HO_5.out)); (case aS => exact (below_size (by repeat (first | (with_reducible first | exact HB.out | apply below_alloc | apply pw_below_drewN | apply below_drew1) | exact HB.out)))); (case aL => have := LMc19.out; omega); intro v443 w20 ho hb hg hat; rw [← Ny442.out] at ho; have n0_ := Aside0.mk (Kd.N_afterv (ok := (fun _ => True)) (by (with_reducible repeat (first | apply Kd.N_alloc | apply Kd.N_drewN | apply Kd.N_drew)); exact Kd.N_mono HO_3.out (fun _ hk => ⟨trivial, hk⟩)) hg hat); have n1_ := Aside0.mk (Kd.V_afterv (ok := (fun k_ => some k_ ≠ (.slice (some ad441) t436.length co16 : Value).ownBlock)) (by (with_reducible repeat (first | apply Kd.V_alloc | apply Kd.V_drewN | apply Kd.V_drew)); exact Kd.V_mono HL441_1.out (fun _ hk => ⟨hk.2, hk.1⟩)) hg hat); have n2_ := Aside0.mk (hb); have n3_ := Aside0.mk (ho); clear HO_3; clear HL441_1; clear HB; clear HO_5; have HO_3 := n0_; have HL441_1 := n1_; have HB := n2_; have HO444 := n3_; clear n0_ n1_ n2_ n3_; clear ho hb hg hat))
                      go_roundg k2
                      case measure => have := HJ5.out; have := HK2.out; omega
                      case rel => exact ⟨(y442), (wrap64 (x6_2 + 1)), (by first | rfl | (simp; done) | (simp [*]; done) | exact congrArg Value.bool (by cases ByteArray.toList a0 <;> rfl) | exact congrArg Value.bool (by cases ByteArray.toList a1 <;> rfl)), H', ⟨by have := HJ5.out; have := HK2.out; omega⟩, ⟨by (with_reducible repeat (first | apply Kd.N_alloc | apply Kd.N_drewN | apply Kd.N_drew)); exact Kd.N_mono HO_3.out (fun _ hk => hk.2)⟩, ⟨by (with_reducible repeat (first | apply Kd.N_alloc | apply Kd.N_drewN | apply Kd.N_drew)); exact HO444.out⟩, ⟨by repeat (first | (with_reducible first | exact HB.out | apply below_alloc | apply pw_below_drewN | apply below_drew1) | exact HB.out)⟩⟩
                    · rw [if_neg c19] at H
                      exact absurd H (by simp)
                  · rw [if_neg c18] at H
                    exact absurd H (by simp)
                · rw [if_neg c17] at H
                  have c17b0 : decide (x6_2 < (t436.length : Int)) = false := decide_eq_false c17
                  clear c17
                  by_cases c21 : 0 < (t436.length : Int)
                  · rw [if_pos c21] at H
                    have c21b0 : decide (0 < (t436.length : Int)) = true := decide_eq_true c21
                    have c21b1 : decide (0 < t436.length) = true := decide_eq_true (by omega)
                    clear c21
                    replace H := Option.bind_eq_some_iff.mp H
                    obtain ⟨⟨t446, t447⟩, A220, H⟩ := H
                    replace H : (if 0 ≤ t437 then (if t437 ≤ (a0.size : Int) then (if t446.toList = (a0.extract 0 (t437 : Int).toNat).toList then (if t447 = 0 then ((sheetpilelaw20_live.f).bind fun t448 => (some t448)) else (some false)) else (some false)) else (none)) else (none)) = some r := H
                    have A22 := Aside0.mk A220
                    clear A220
                    by_cases c23 : 0 ≤ t437
                    · rw [if_pos c23] at H
                      have c23b0 := eq_true c23
                      have c23b1 : decide (0 ≤ t437) = true := decide_eq_true c23
                      clear c23
                      by_cases c24 : t437 ≤ (a0.size : Int)
                      · rw [if_pos c24] at H
                        have c24b0 := eq_true c24
                        have c24b1 : decide (t437 ≤ (a0.size : Int)) = true := decide_eq_true c24
                        clear c24
                        by_cases c25 : t446.toList = (a0.extract 0 (t437 : Int).toNat).toList
                        · rw [if_pos c25] at H
                          have c25b0 : (t446.toList == (a0.extract 0 (t437 : Int).toNat).toList) = true := beq_iff_eq.mpr c25
                          (try simp only [Int.toNat_natCast] at c25b0)
                          have c25b1 : (t446.toList != (a0.extract 0 (t437 : Int).toNat).toList) = false := bne_eq_false_iff_eq.mpr c25
                          (try simp only [Int.toNat_natCast] at c25b1)
                          clear c25
                          by_cases c26 : t447 = 0
                          · rw [if_pos c26] at H
                            have c26b0 : (t447 == 0) = true := beq_iff_eq.mpr c26
                            have c26b1 : (t447 != 0) = false := bne_eq_false_iff_eq.mpr c26
                            clear c26
                            replace H := Option.bind_eq_some_iff.mp H
                            obtain ⟨t448, A270, H⟩ := H
                            replace H : (some t448) = some r := H
                            have A27 := Aside0.mk A270
                            clear A270
                            obtain rfl := Option.some.inj H
                            have p445 : 0 ≤ (0 : Int) := (by omega)
                            have q445 : 0 < (t436.length : Int) := of_decide_eq_true (by first | (with_reducible assumption) | assumption)
                            obtain ⟨ad445, A445_1, c445_1, e445, hx445_0, hx445_1, hl445_1, hi445_1⟩ := at_T30 (Kd.N_reads' HO_3.out).2.2 0 p445 q445
                            cases e445
                            obtain ⟨ce445, hce445, hMe445, hcc445⟩ := Kd.N_get HO_3.out z30 0 p445 (by first | exact q445 | exact of_decide_eq_true (by first | (with_reducible assumption) | assumption) | (have e_ := (Kd.N_reads' HO_3.out).1; omega))
                            obtain ⟨ua445_1, uc445_1, rfl, ul445_1, ge445_1⟩ := k30_openF hMe445
                            have hv445_1 := hcc445 1 _ rfl
                            rw [add_field _ _ 1 (by omega)] at hv445_1
                            replace hv445_1 := Option.some.inj (hv445_1.symm.trans hx445_1)
                            injection hv445_1 with hva_ hvn_ hvc_
                            rw [hva_] at ge445_1
                            rw [hvc_] at ul445_1
                            have HL445_1 := Aside0.mk (show Kd.V k62 62 _ w.heap.size _ _ ((rd_T30 t436 0).f1) from Kd.V_mk ul445_1 ge445_1)
                            clear hva_ hvn_ hvc_ ge445_1 ul445_1
                            clear hcc445 hce445
                            have qi445 : (0 < t436.length) = True := eq_true (by omega)
                            (try rw [show ((0 : Int)).toNat = 0 from rfl] at hx445_0)
                            (try rw [show 0 * 2 = 0 from rfl] at hx445_0)
                            (try rw [Addr.add_zero'] at hx445_0)
                            (try rw [show ((0 : Int)).toNat = 0 from rfl] at hx445_1)
                            (try rw [show 0 * 2 = 0 from rfl] at hx445_1)
                            (try rw [Addr.add_zero'] at hx445_1)
                            have HR445_1 := Aside0.mk hi445_1
                            have HC445_1 := Aside0.mk hl445_1
                            clear hi445_1 hl445_1
                            replace p445 := eq_true p445
                            replace q445 := eq_true q445
                            obtain ⟨Ao28, co28, eo28⟩ := Kd.N_slice HO_5.out
                            subst eo28
                            go_wp2_with (first | ((with_reducible refine gate_callee (f := 31) rfl ?_); refine goesL_ (some 58) rfl rfl Try.func31 (by kernel_rfl) rfl #[.int .i64 ((rd_T30 t436 0).f0), .slice Ao28 x5_2.length co28] rfl (by (try simp only [List.map_toArray, List.map_cons, List.map_nil]); first | done | rfl | (simp only [List.length_drop, List.length_take]; rfl)) ?_; (with_reducible refine (scan_Write.calls ((rd_T30 t436 0).f0) _ _ x5_2 t446 t447 _ ?side1 ?side2 A22.out).mono ?_); (case side1 => repeat (first | exact (Kd.N_reads' HO_5.out).2.2 | (with_reducible refine Kd.C_alloc ?_ _) | (with_reducible refine Kd.C_drewN ?_ _) | (with_reducible refine Kd.C_drew ?_))); (case side2 => exact (Kd.N_reads' HO_5.out).2.1); rintro e w29 ⟨rfl, hb⟩; refine ⟨_, rfl, ?_⟩; have n0_ := Aside0.mk (Kd.N_below (by (with_reducible repeat (first | apply Kd.N_alloc | apply Kd.N_drewN | apply Kd.N_drew)); exact HO_3.out) hb); have n1_ := Aside0.mk (Kd.N_below (by (with_reducible repeat (first | apply Kd.N_alloc | apply Kd.N_drewN | apply Kd.N_drew)); exact HO_5.out) hb); have n2_ := Aside0.mk (Kd.V_below (by (with_reducible repeat (first | apply Kd.V_alloc | apply Kd.V_drewN | apply Kd.V_drew)); exact HL445_1.out) hb); have n3_ := Aside0.mk (Kd.C_below (by repeat (first | (with_reducible exact HR445_1.out) | (with_reducible refine Kd.C_alloc ?_ _) | (with_reducible refine Kd.C_drewN ?_ _) | (with_reducible refine Kd.C_drew ?_) | exact HR445_1.out)) hb); have n4_ := Aside0.mk (below_step (by repeat (first | (with_reducible first | exact HB.out | apply below_alloc | apply pw_below_drewN | apply below_drew1) | exact HB.out)) hb); clear HO_3; clear HO_5; clear HL445_1; clear HR445_1; clear HB; have HO_3 := n0_; have HO_5 := n1_; have HL445_1 := n2_; have HR445_1 := n3_; have HB := n4_; clear n0_ n1_ n2_ n3_ n4_; (try clear hb); (try clear hb2); (try clear hk); (try clear hi)) | (go_at_call 25; (with_reducible refine (sheetpilelaw20_live.calls  t448 _ A27.out).mono ?_); rintro e w30 ⟨rfl, hb⟩; have n0_ := Aside0.mk (Kd.N_below (by (with_reducible repeat (first | apply Kd.N_alloc | apply Kd.N_drewN | apply Kd.N_drew)); exact HO_3.out) hb); have n1_ := Aside0.mk (Kd.N_below (by (with_reducible repeat (first | apply Kd.N_alloc | apply Kd.N_drewN | apply Kd.N_drew)); exact HO_5.out) hb); have n2_ := Aside0.mk (Kd.V_below (by (with_reducible repeat (first | apply Kd.V_alloc | apply Kd.V_drewN | apply Kd.V_drew)); exact HL445_1.out) hb); have n3_ := Aside0.mk (Kd.C_below (by repeat (first | (with_reducible exact HR445_1.out) | (with_reducible refine Kd.C_alloc ?_ _) | (with_reducible refine Kd.C_drewN ?_ _) | (with_reducible refine Kd.C_drew ?_) | exact HR445_1.out)) hb); have n4_ := Aside0.mk (below_step (by repeat (first | (with_reducible first | exact HB.out | apply below_alloc | apply pw_below_drewN | apply below_drew1) | exact HB.out)) hb); clear HO_3; clear HO_5; clear HL445_1; clear HR445_1; clear HB; have HO_3 := n0_; have HO_5 := n1_; have HL445_1 := n2_; have HR445_1 := n3_; have HB := n4_; clear n0_ n1_ n2_ n3_ n4_; (try clear hb); (try clear hb2); (try clear hk); (try clear hi)))
                            go_ret
                            exact ⟨by first | rfl | (simp [errW_none, errW_some] <;> rfl) | (simp [*, errW_none, errW_some] <;> rfl), by repeat (first | (with_reducible first | exact HB.out | apply below_alloc | apply pw_below_drewN | apply below_drew1) | exact HB.out)⟩
                          · rw [if_neg c26] at H
                            have c26b0 : (t447 == 0) = false := beq_eq_false_iff_ne.mpr c26
                            have c26b1 : (t447 != 0) = true := bne_iff_ne.mpr c26
                            obtain rfl := Option.some.inj H
                            have p445 : 0 ≤ (0 : Int) := (by omega)
                            have q445 : 0 < (t436.length : Int) := of_decide_eq_true (by first | (with_reducible assumption) | assumption)
                            obtain ⟨ad445, A445_1, c445_1, e445, hx445_0, hx445_1, hl445_1, hi445_1⟩ := at_T30 (Kd.N_reads' HO_3.out).2.2 0 p445 q445
                            cases e445
                            obtain ⟨ce445, hce445, hMe445, hcc445⟩ := Kd.N_get HO_3.out z30 0 p445 (by first | exact q445 | exact of_decide_eq_true (by first | (with_reducible assumption) | assumption) | (have e_ := (Kd.N_reads' HO_3.out).1; omega))
                            obtain ⟨ua445_1, uc445_1, rfl, ul445_1, ge445_1⟩ := k30_openF hMe445
                            have hv445_1 := hcc445 1 _ rfl
                            rw [add_field _ _ 1 (by omega)] at hv445_1
                            replace hv445_1 := Option.some.inj (hv445_1.symm.trans hx445_1)
                            injection hv445_1 with hva_ hvn_ hvc_
                            rw [hva_] at ge445_1
                            rw [hvc_] at ul445_1
                            have HL445_1 := Aside0.mk (show Kd.V k62 62 _ w.heap.size _ _ ((rd_T30 t436 0).f1) from Kd.V_mk ul445_1 ge445_1)
                            clear hva_ hvn_ hvc_ ge445_1 ul445_1
                            clear hcc445 hce445
                            have qi445 : (0 < t436.length) = True := eq_true (by omega)
                            (try rw [show ((0 : Int)).toNat = 0 from rfl] at hx445_0)
                            (try rw [show 0 * 2 = 0 from rfl] at hx445_0)
                            (try rw [Addr.add_zero'] at hx445_0)
                            (try rw [show ((0 : Int)).toNat = 0 from rfl] at hx445_1)
                            (try rw [show 0 * 2 = 0 from rfl] at hx445_1)
                            (try rw [Addr.add_zero'] at hx445_1)
                            have HR445_1 := Aside0.mk hi445_1
                            have HC445_1 := Aside0.mk hl445_1
                            clear hi445_1 hl445_1
                            replace p445 := eq_true p445
                            replace q445 := eq_true q445
                            obtain ⟨Ao31, co31, eo31⟩ := Kd.N_slice HO_5.out
                            subst eo31
                            go_wp2_with (((with_reducible refine gate_callee (f := 31) rfl ?_); refine goesL_ (some 58) rfl rfl Try.func31 (by kernel_rfl) rfl #[.int .i64 ((rd_T30 t436 0).f0), .slice Ao31 x5_2.length co31] rfl (by (try simp only [List.map_toArray, List.map_cons, List.map_nil]); first | done | rfl | (simp only [List.length_drop, List.length_take]; rfl)) ?_; (with_reducible refine (scan_Write.calls ((rd_T30 t436 0).f0) _ _ x5_2 t446 t447 _ ?side1 ?side2 A22.out).mono ?_); (case side1 => repeat (first | exact (Kd.N_reads' HO_5.out).2.2 | (with_reducible refine Kd.C_alloc ?_ _) | (with_reducible refine Kd.C_drewN ?_ _) | (with_reducible refine Kd.C_drew ?_))); (case side2 => exact (Kd.N_reads' HO_5.out).2.1); rintro e w32 ⟨rfl, hb⟩; refine ⟨_, rfl, ?_⟩; have n0_ := Aside0.mk (Kd.N_below (by (with_reducible repeat (first | apply Kd.N_alloc | apply Kd.N_drewN | apply Kd.N_drew)); exact HO_3.out) hb); have n1_ := Aside0.mk (Kd.N_below (by (with_reducible repeat (first | apply Kd.N_alloc | apply Kd.N_drewN | apply Kd.N_drew)); exact HO_5.out) hb); have n2_ := Aside0.mk (Kd.V_below (by (with_reducible repeat (first | apply Kd.V_alloc | apply Kd.V_drewN | apply Kd.V_drew)); exact HL445_1.out) hb); have n3_ := Aside0.mk (Kd.C_below (by repeat (first | (with_reducible exact HR445_1.out) | (with_reducible refine Kd.C_alloc ?_ _) | (with_reducible refine Kd.C_drewN ?_ _) | (with_reducible refine Kd.C_drew ?_) | exact HR445_1.out)) hb); have n4_ := Aside0.mk (below_step (by repeat (first | (with_reducible first | exact HB.out | apply below_alloc | apply pw_below_drewN | apply below_drew1) | exact HB.out)) hb); clear HO_3; clear HO_5; clear HL445_1; clear HR445_1; clear HB; have HO_3 := n0_; have HO_5 := n1_; have HL445_1 := n2_; have HR445_1 := n3_; have HB := n4_; clear n0_ n1_ n2_ n3_ n4_; (try clear hb); (try clear hb2); (try clear hk); (try clear hi)))
                            go_ret
                            exact ⟨by first | rfl | (simp [errW_none, errW_some] <;> rfl) | (simp [*, errW_none, errW_some] <;> rfl), by repeat (first | (with_reducible first | exact HB.out | apply below_alloc | apply pw_below_drewN | apply below_drew1) | exact HB.out)⟩
                        · rw [if_neg c25] at H
                          have c25b0 : (t446.toList == (a0.extract 0 (t437 : Int).toNat).toList) = false := beq_eq_false_iff_ne.mpr c25
                          (try simp only [Int.toNat_natCast] at c25b0)
                          have c25b1 : (t446.toList != (a0.extract 0 (t437 : Int).toNat).toList) = true := bne_iff_ne.mpr c25
                          (try simp only [Int.toNat_natCast] at c25b1)
                          obtain rfl := Option.some.inj H
                          have p445 : 0 ≤ (0 : Int) := (by omega)
                          have q445 : 0 < (t436.length : Int) := of_decide_eq_true (by first | (with_reducible assumption) | assumption)
                          obtain ⟨ad445, A445_1, c445_1, e445, hx445_0, hx445_1, hl445_1, hi445_1⟩ := at_T30 (Kd.N_reads' HO_3.out).2.2 0 p445 q445
                          cases e445
                          obtain ⟨ce445, hce445, hMe445, hcc445⟩ := Kd.N_get HO_3.out z30 0 p445 (by first | exact q445 | exact of_decide_eq_true (by first | (with_reducible assumption) | assumption) | (have e_ := (Kd.N_reads' HO_3.out).1; omega))
                          obtain ⟨ua445_1, uc445_1, rfl, ul445_1, ge445_1⟩ := k30_openF hMe445
                          have hv445_1 := hcc445 1 _ rfl
                          rw [add_field _ _ 1 (by omega)] at hv445_1
                          replace hv445_1 := Option.some.inj (hv445_1.symm.trans hx445_1)
                          injection hv445_1 with hva_ hvn_ hvc_
                          rw [hva_] at ge445_1
                          rw [hvc_] at ul445_1
                          have HL445_1 := Aside0.mk (show Kd.V k62 62 _ w.heap.size _ _ ((rd_T30 t436 0).f1) from Kd.V_mk ul445_1 ge445_1)
                          clear hva_ hvn_ hvc_ ge445_1 ul445_1
                          clear hcc445 hce445
                          have qi445 : (0 < t436.length) = True := eq_true (by omega)
                          (try rw [show ((0 : Int)).toNat = 0 from rfl] at hx445_0)
                          (try rw [show 0 * 2 = 0 from rfl] at hx445_0)
                          (try rw [Addr.add_zero'] at hx445_0)
                          (try rw [show ((0 : Int)).toNat = 0 from rfl] at hx445_1)
                          (try rw [show 0 * 2 = 0 from rfl] at hx445_1)
                          (try rw [Addr.add_zero'] at hx445_1)
                          have HR445_1 := Aside0.mk hi445_1
                          have HC445_1 := Aside0.mk hl445_1
                          clear hi445_1 hl445_1
                          replace p445 := eq_true p445
                          replace q445 := eq_true q445
                          obtain ⟨Ao33, co33, eo33⟩ := Kd.N_slice HO_5.out
                          subst eo33
                          go_wp2_with (((with_reducible refine gate_callee (f := 31) rfl ?_); refine goesL_ (some 58) rfl rfl Try.func31 (by kernel_rfl) rfl #[.int .i64 ((rd_T30 t436 0).f0), .slice Ao33 x5_2.length co33] rfl (by (try simp only [List.map_toArray, List.map_cons, List.map_nil]); first | done | rfl | (simp only [List.length_drop, List.length_take]; rfl)) ?_; (with_reducible refine (scan_Write.calls ((rd_T30 t436 0).f0) _ _ x5_2 t446 t447 _ ?side1 ?side2 A22.out).mono ?_); (case side1 => repeat (first | exact (Kd.N_reads' HO_5.out).2.2 | (with_reducible refine Kd.C_alloc ?_ _) | (with_reducible refine Kd.C_drewN ?_ _) | (with_reducible refine Kd.C_drew ?_))); (case side2 => exact (Kd.N_reads' HO_5.out).2.1); rintro e w34 ⟨rfl, hb⟩; refine ⟨_, rfl, ?_⟩; have n0_ := Aside0.mk (Kd.N_below (by (with_reducible repeat (first | apply Kd.N_alloc | apply Kd.N_drewN | apply Kd.N_drew)); exact HO_3.out) hb); have n1_ := Aside0.mk (Kd.N_below (by (with_reducible repeat (first | apply Kd.N_alloc | apply Kd.N_drewN | apply Kd.N_drew)); exact HO_5.out) hb); have n2_ := Aside0.mk (Kd.V_below (by (with_reducible repeat (first | apply Kd.V_alloc | apply Kd.V_drewN | apply Kd.V_drew)); exact HL445_1.out) hb); have n3_ := Aside0.mk (Kd.C_below (by repeat (first | (with_reducible exact HR445_1.out) | (with_reducible refine Kd.C_alloc ?_ _) | (with_reducible refine Kd.C_drewN ?_ _) | (with_reducible refine Kd.C_drew ?_) | exact HR445_1.out)) hb); have n4_ := Aside0.mk (below_step (by repeat (first | (with_reducible first | exact HB.out | apply below_alloc | apply pw_below_drewN | apply below_drew1) | exact HB.out)) hb); clear HO_3; clear HO_5; clear HL445_1; clear HR445_1; clear HB; have HO_3 := n0_; have HO_5 := n1_; have HL445_1 := n2_; have HR445_1 := n3_; have HB := n4_; clear n0_ n1_ n2_ n3_ n4_; (try clear hb); (try clear hb2); (try clear hk); (try clear hi)))
                          go_ret
                          exact ⟨by first | rfl | (simp [errW_none, errW_some] <;> rfl) | (simp [*, errW_none, errW_some] <;> rfl), by repeat (first | (with_reducible first | exact HB.out | apply below_alloc | apply pw_below_drewN | apply below_drew1) | exact HB.out)⟩
                      · rw [if_neg c24] at H
                        exact absurd H (by simp)
                    · rw [if_neg c23] at H
                      exact absurd H (by simp)
                  · rw [if_neg c21] at H
                    exact absurd H (by simp)

/-- THE ONE PURE STATEMENT of sheetpilelaw20_ScanAgain: yours. -/
def sheetpilelaw20_ScanAgain.Pure : Prop := ∀ (a0 : ByteArray), a0.size ≤ 140737488351232 → ∃ k, sheetpilelaw20_ScanAgain.f k a0 = some true
theorem sheetpilelaw20_ScanAgain.walk (P : sheetpilelaw20_ScanAgain.Pure) (a0 : ByteArray) (w : World) (w0 : a0.size ≤ 140737488351232) :
    Calls Try.prog 12 #[.string a0] w fun e w' => e = .returned (.bool true) ∧ Below w.heap.size w w' := by
  obtain ⟨k, h⟩ := P a0 w0
  refine (sheetpilelaw20_ScanAgain.calls k a0 true w h).mono ?_
  rintro e w' ⟨rfl, hd⟩
  exact ⟨rfl, hd⟩

end Go.Proofs.Ytcgbjkjacpeheaa.PFr
