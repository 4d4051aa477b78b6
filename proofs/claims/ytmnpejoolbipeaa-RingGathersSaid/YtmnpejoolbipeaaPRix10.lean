-- Laid by a program of this session (wip/mkprint.py); checked by Lean alone
import Derived.Test.YtmnpejoolbipeaaPRix0
import Derived.Test.YtmnpejoolbipeaaPRix2
import Derived.Test.YtmnpejoolbipeaaPRix8
import Derived.Test.YtmnpejoolbipeaaRingNewest
import Derived.Test.YtmnpejoolbipeaaRingNext
namespace Go.Proofs.Ytmnpejoolbipeaa.Given
end Go.Proofs.Ytmnpejoolbipeaa.Given
namespace Go.Proofs.Ytmnpejoolbipeaa.PRi
open Go.Proofs.Ytmnpejoolbipeaa.Given
open Go.RowKit Go.Proofs.YtmnpejoolbipeaaW.PrintWords Go.Proofs.YtmnpejoolbipeaaW.PrintLast Go.Proofs.YtmnpejoolbipeaaW.PrintMore
attribute [local go_sem] max2_int min2_int max_two min_two max_three min_three max_four min_four   -- for this text's walks alone
set_option linter.unusedVariables false
set_option linter.unusedSimpArgs false

attribute [local go_sem] isSome_setCell_ binOp_geq_ binOp_leq_ binOp_gtr_
attribute [local go_sem high] eqA44
-- given: function 14 (ring_Next)

/-! ### sheetpilelaw15_live0: function 8 -/
def sheetpilelaw15_live0.f (k : Nat)  : Option (Bool) := (some (([(⟨5, 1, (⟨#[97]⟩ : ByteArray)⟩ : S44), (⟨2, 0, (⟨#[]⟩ : ByteArray)⟩ : S44), (⟨7, 1, (⟨#[98]⟩ : ByteArray)⟩ : S44), (⟨7, 1, (⟨#[99]⟩ : ByteArray)⟩ : S44)] : List (S44)) : List (S44))).bind fun y198 => ((ring_Newest.f y198).bind fun t201 => (if (t201.length : Int) = 2 then (if 0 < (t201.length : Int) then (if 1 < (y198.length : Int) then (if (((rd_T44 t201 0).f0) == ((rd_T44 y198 1).f0) && (((rd_T44 t201 0).f1) == ((rd_T44 y198 1).f1) && ((((rd_T44 t201 0).f2).toList) == (((rd_T44 y198 1).f2).toList)))) = true then (if 1 < (t201.length : Int) then (if 2 < (y198.length : Int) then (if (((rd_T44 t201 1).f0) == ((rd_T44 y198 2).f0) && (((rd_T44 t201 1).f1) == ((rd_T44 y198 2).f1) && ((((rd_T44 t201 1).f2).toList) == (((rd_T44 y198 2).f2).toList)))) = true then ((ring_Next.f y198).bind fun t208 => (if t208 = 8 then ((ring_Next.f ([] : List (S44))).bind fun t209 => (if t209 = 0 then ((ring_Gather.f k 0 0 0 0 0 0 0 ([] : List ByteArray)).bind fun t210 => (some ((t210.length : Int) == 0))) else (some false))) else (some false))) else (some false)) else (none)) else (none)) else (some false)) else (none)) else (none)) else (some false)))
theorem sheetpilelaw15_live0.mono : ∀ k, LeO (sheetpilelaw15_live0.f k ) (sheetpilelaw15_live0.f (k + 1) ) := by
  intro  k
  unfold sheetpilelaw15_live0.f
  repeat' first
      | (with_reducible exact ring_Gather.mono _ _ _ _ _ _ _ _ _)
      | (with_reducible exact LeO.refl _)
      | (with_reducible exact LeO.none _)
      | (with_reducible refine LeO.ite ?_ ?_)
      | (with_reducible refine LeO.bind ?_ (fun _ => ?_))
      | exact ring_Gather.mono _ _ _ _ _ _ _ _ _
      | exact LeO.none _
      | refine LeO.ite ?_ ?_
      | refine LeO.bind ?_ (fun _ => ?_)
def sheetpilelaw15_live0.T3 : Bool × List (List Nat × List Nat) := (true, [([], []), ([0], [0]), ([1], [1]), ([2], [2]), ([3], [3]), ([4, 3], [3, 4]), ([5, 3], [3, 5]), ([3], [3]), ([7, 3], [3, 7]), ([8, 3], [3, 8]), ([6, 9, 3], [3, 6, 9]), ([3, 10], [3, 10]), ([11, 3], [11]), ([12], [12]), ([13, 12], [12, 13]), ([14, 12], [12, 14]), ([12], [12]), ([16, 12], [12, 16]), ([17, 12], [12, 17]), ([15, 18, 12], [12, 15, 18]), ([12, 19], [12, 19]), ([20, 12], [20]), ([21], [21]), ([22, 21, 21], [21, 22]), ([23, 21], [21, 23]), ([21, 24], [21, 24]), ([25, 23], [25]), ([26, 26], [26]), ([27, 26], [26, 27]), ([26, 28], [26, 28]), ([29, 27], [29]), ([30], [30]), ([31, 30, 30], [30, 31]), ([32, 30], [30, 32]), ([33, 30], [30, 33]), ([30, 34], [30, 34]), ([35, 32, 0, 1, 2, 3, 4, 5, 6, 7, 8, 9, 10, 11, 12, 13, 14, 15, 16, 17, 18, 19, 20, 21, 22, 23, 24, 25, 26, 27, 28, 29, 30, 31, 32, 33, 34, 35], [35])])
def sheetpilelaw15_live0.B3 : List Nat := [0, 1, 3, 7, 15, 31, 63, 15, 143, 399, 1023, 2047, 4095, 8191, 16383, 32767, 8191, 73727, 204799, 524287, 1048575, 2097151, 4194303, 8388607, 16777215, 33554431, 67108863, 134217727, 268435455, 536870911, 1073741823, 2147483647, 4294967295, 8589934591, 17179869183, 34359738367, 68719476735]
theorem sheetpilelaw15_live0.tab3 : rtab .any (opsOf Try.f8 3) = sheetpilelaw15_live0.T3 := by kernel_rfl
theorem sheetpilelaw15_live0.bits3 : waitsOk sheetpilelaw15_live0.T3.2 sheetpilelaw15_live0.B3 = true := by kernel_rfl
set_option maxHeartbeats 8000000 in
set_option maxRecDepth 100000 in
theorem sheetpilelaw15_live0.calls (k : Nat)  (w : World) (h : sheetpilelaw15_live0.f k  = some true) :
    Calls Try.prog 8 #[] w fun e w' => e = .returned (.bool true) ∧ Below w.heap.size w w' := by
  have hu44 := Try.underlying44
  have hu36 := Try.underlying36
  have HB := Aside0.mk (Below.refl w.heap.size w)
  have H : ((some (([(⟨5, 1, (⟨#[97]⟩ : ByteArray)⟩ : S44), (⟨2, 0, (⟨#[]⟩ : ByteArray)⟩ : S44), (⟨7, 1, (⟨#[98]⟩ : ByteArray)⟩ : S44), (⟨7, 1, (⟨#[99]⟩ : ByteArray)⟩ : S44)] : List (S44)) : List (S44))).bind fun y198 => ((ring_Newest.f y198).bind fun t201 => (if (t201.length : Int) = 2 then (if 0 < (t201.length : Int) then (if 1 < (y198.length : Int) then (if (((rd_T44 t201 0).f0) == ((rd_T44 y198 1).f0) && (((rd_T44 t201 0).f1) == ((rd_T44 y198 1).f1) && ((((rd_T44 t201 0).f2).toList) == (((rd_T44 y198 1).f2).toList)))) = true then (if 1 < (t201.length : Int) then (if 2 < (y198.length : Int) then (if (((rd_T44 t201 1).f0) == ((rd_T44 y198 2).f0) && (((rd_T44 t201 1).f1) == ((rd_T44 y198 2).f1) && ((((rd_T44 t201 1).f2).toList) == (((rd_T44 y198 2).f2).toList)))) = true then ((ring_Next.f y198).bind fun t208 => (if t208 = 8 then ((ring_Next.f ([] : List (S44))).bind fun t209 => (if t209 = 0 then ((ring_Gather.f k 0 0 0 0 0 0 0 ([] : List ByteArray)).bind fun t210 => (some ((t210.length : Int) == 0))) else (some false))) else (some false))) else (some false)) else (none)) else (none)) else (some false)) else (none)) else (none)) else (some false)))) = some true := h
  clear h
  obtain ⟨y198, hy198⟩ : ∃ y_ : List (S44), y_ = (([(⟨5, 1, (⟨#[97]⟩ : ByteArray)⟩ : S44), (⟨2, 0, (⟨#[]⟩ : ByteArray)⟩ : S44), (⟨7, 1, (⟨#[98]⟩ : ByteArray)⟩ : S44), (⟨7, 1, (⟨#[99]⟩ : ByteArray)⟩ : S44)] : List (S44))) := ⟨_, rfl⟩
  replace H : ((ring_Newest.f y198).bind fun t201 => (if (t201.length : Int) = 2 then (if 0 < (t201.length : Int) then (if 1 < (y198.length : Int) then (if (((rd_T44 t201 0).f0) == ((rd_T44 y198 1).f0) && (((rd_T44 t201 0).f1) == ((rd_T44 y198 1).f1) && ((((rd_T44 t201 0).f2).toList) == (((rd_T44 y198 1).f2).toList)))) = true then (if 1 < (t201.length : Int) then (if 2 < (y198.length : Int) then (if (((rd_T44 t201 1).f0) == ((rd_T44 y198 2).f0) && (((rd_T44 t201 1).f1) == ((rd_T44 y198 2).f1) && ((((rd_T44 t201 1).f2).toList) == (((rd_T44 y198 2).f2).toList)))) = true then ((ring_Next.f y198).bind fun t208 => (if t208 = 8 then ((ring_Next.f ([] : List (S44))).bind fun t209 => (if t209 = 0 then ((ring_Gather.f k 0 0 0 0 0 0 0 ([] : List ByteArray)).bind fun t210 => (some ((t210.length : Int) == 0))) else (some false))) else (some false))) else (some false)) else (none)) else (none)) else (some false)) else (none)) else (none)) else (some false))) = some true := by first | (rw [hy198]; with_reducible exact H) | (have H2_ := (Option.bind_some _ _).symm.trans H; rw [hy198]; with_reducible exact H2_) | (have H2_ := (Option.bind_some _ _).symm.trans H; with_reducible exact H2_) | with_reducible exact H | (rw [hy198]; exact H) | exact H
  have Ny198 := Aside0.mk hy198
  clear hy198
  replace H := Option.bind_eq_some_iff.mp H
  obtain ⟨t201, A10, H⟩ := H
  replace H : (if (t201.length : Int) = 2 then (if 0 < (t201.length : Int) then (if 1 < (y198.length : Int) then (if (((rd_T44 t201 0).f0) == ((rd_T44 y198 1).f0) && (((rd_T44 t201 0).f1) == ((rd_T44 y198 1).f1) && ((((rd_T44 t201 0).f2).toList) == (((rd_T44 y198 1).f2).toList)))) = true then (if 1 < (t201.length : Int) then (if 2 < (y198.length : Int) then (if (((rd_T44 t201 1).f0) == ((rd_T44 y198 2).f0) && (((rd_T44 t201 1).f1) == ((rd_T44 y198 2).f1) && ((((rd_T44 t201 1).f2).toList) == (((rd_T44 y198 2).f2).toList)))) = true then ((ring_Next.f y198).bind fun t208 => (if t208 = 8 then ((ring_Next.f ([] : List (S44))).bind fun t209 => (if t209 = 0 then ((ring_Gather.f k 0 0 0 0 0 0 0 ([] : List ByteArray)).bind fun t210 => (some ((t210.length : Int) == 0))) else (some false))) else (some false))) else (some false)) else (none)) else (none)) else (some false)) else (none)) else (none)) else (some false)) = some true := H
  have A1 := Aside0.mk A10
  clear A10
  by_cases c2 : (t201.length : Int) = 2
  · rw [if_pos c2] at H
    have c2b0 : ((t201.length : Int) == 2) = true := beq_iff_eq.mpr c2
    have c2b1 : ((t201.length : Int) != 2) = false := bne_eq_false_iff_eq.mpr c2
    clear c2
    by_cases c3 : 0 < (t201.length : Int)
    · rw [if_pos c3] at H
      have c3b0 : decide (0 < (t201.length : Int)) = true := decide_eq_true c3
      have c3b1 : decide (0 < t201.length) = true := decide_eq_true (by omega)
      clear c3
      by_cases c4 : 1 < (y198.length : Int)
      · rw [if_pos c4] at H
        have c4b0 : decide (1 < (y198.length : Int)) = true := decide_eq_true c4
        have c4b1 : decide (1 < y198.length) = true := decide_eq_true (by omega)
        clear c4
        by_cases c5 : (((rd_T44 t201 0).f0) == ((rd_T44 y198 1).f0) && (((rd_T44 t201 0).f1) == ((rd_T44 y198 1).f1) && ((((rd_T44 t201 0).f2).toList) == (((rd_T44 y198 1).f2).toList)))) = true
        · rw [if_pos c5] at H
          have c5b0 : (((rd_T44 t201 0).f0) == ((rd_T44 y198 1).f0) && (((rd_T44 t201 0).f1) == ((rd_T44 y198 1).f1) && ((((rd_T44 t201 0).f2).toList) == (((rd_T44 y198 1).f2).toList)))) = true := c5
          (try (have c5b7 : (((rd_T44 t201 0).f0) = ((rd_T44 y198 1).f0) ∧ (((rd_T44 t201 0).f1) = ((rd_T44 y198 1).f1) ∧ ((((rd_T44 t201 0).f2).toList) = (((rd_T44 y198 1).f2).toList)))) = True := eq_true (by first | (have z_ := c5b0; simp at z_ ⊢; exact z_) | simp)))
          (try (have c5b1 : decide (((rd_T44 t201 0).f0) = ((rd_T44 y198 1).f0) && (((rd_T44 t201 0).f1) == ((rd_T44 y198 1).f1) && ((((rd_T44 t201 0).f2).toList) == (((rd_T44 y198 1).f2).toList)))) = true := by simpa using c5))
          (try (have c5b2 : (((rd_T44 t201 0).f0) == ((rd_T44 y198 1).f0) && (((rd_T44 t201 0).f1) == ((rd_T44 y198 1).f1) && ((((rd_T44 t201 0).f2).toList) == (((rd_T44 y198 1).f2).toList)))) = true := by simpa using c5))
          clear c5
          by_cases c6 : 1 < (t201.length : Int)
          · rw [if_pos c6] at H
            have c6b0 : decide (1 < (t201.length : Int)) = true := decide_eq_true c6
            have c6b1 : decide (1 < t201.length) = true := decide_eq_true (by omega)
            clear c6
            by_cases c7 : 2 < (y198.length : Int)
            · rw [if_pos c7] at H
              have c7b0 : decide (2 < (y198.length : Int)) = true := decide_eq_true c7
              have c7b1 : decide (2 < y198.length) = true := decide_eq_true (by omega)
              clear c7
              by_cases c8 : (((rd_T44 t201 1).f0) == ((rd_T44 y198 2).f0) && (((rd_T44 t201 1).f1) == ((rd_T44 y198 2).f1) && ((((rd_T44 t201 1).f2).toList) == (((rd_T44 y198 2).f2).toList)))) = true
              · rw [if_pos c8] at H
                have c8b0 : (((rd_T44 t201 1).f0) == ((rd_T44 y198 2).f0) && (((rd_T44 t201 1).f1) == ((rd_T44 y198 2).f1) && ((((rd_T44 t201 1).f2).toList) == (((rd_T44 y198 2).f2).toList)))) = true := c8
                (try (have c8b7 : (((rd_T44 t201 1).f0) = ((rd_T44 y198 2).f0) ∧ (((rd_T44 t201 1).f1) = ((rd_T44 y198 2).f1) ∧ ((((rd_T44 t201 1).f2).toList) = (((rd_T44 y198 2).f2).toList)))) = True := eq_true (by first | (have z_ := c8b0; simp at z_ ⊢; exact z_) | simp)))
                (try (have c8b1 : decide (((rd_T44 t201 1).f0) = ((rd_T44 y198 2).f0) && (((rd_T44 t201 1).f1) == ((rd_T44 y198 2).f1) && ((((rd_T44 t201 1).f2).toList) == (((rd_T44 y198 2).f2).toList)))) = true := by simpa using c8))
                (try (have c8b2 : (((rd_T44 t201 1).f0) == ((rd_T44 y198 2).f0) && (((rd_T44 t201 1).f1) == ((rd_T44 y198 2).f1) && ((((rd_T44 t201 1).f2).toList) == (((rd_T44 y198 2).f2).toList)))) = true := by simpa using c8))
                clear c8
                replace H := Option.bind_eq_some_iff.mp H
                obtain ⟨t208, A90, H⟩ := H
                replace H : (if t208 = 8 then ((ring_Next.f ([] : List (S44))).bind fun t209 => (if t209 = 0 then ((ring_Gather.f k 0 0 0 0 0 0 0 ([] : List ByteArray)).bind fun t210 => (some ((t210.length : Int) == 0))) else (some false))) else (some false)) = some true := H
                have A9 := Aside0.mk A90
                clear A90
                by_cases c10 : t208 = 8
                · rw [if_pos c10] at H
                  have c10b0 : (t208 == 8) = true := beq_iff_eq.mpr c10
                  have c10b1 : (t208 != 8) = false := bne_eq_false_iff_eq.mpr c10
                  clear c10
                  replace H := Option.bind_eq_some_iff.mp H
                  obtain ⟨t209, A110, H⟩ := H
                  replace H : (if t209 = 0 then ((ring_Gather.f k 0 0 0 0 0 0 0 ([] : List ByteArray)).bind fun t210 => (some ((t210.length : Int) == 0))) else (some false)) = some true := H
                  have A11 := Aside0.mk A110
                  clear A110
                  by_cases c12 : t209 = 0
                  · rw [if_pos c12] at H
                    have c12b0 : (t209 == 0) = true := beq_iff_eq.mpr c12
                    have c12b1 : (t209 != 0) = false := bne_eq_false_iff_eq.mpr c12
                    clear c12
                    replace H := Option.bind_eq_some_iff.mp H
                    obtain ⟨t210, A130, H⟩ := H
                    replace H : (some ((t210.length : Int) == 0)) = some true := H
                    have A13 := Aside0.mk A130
                    clear A130
                    have HF_ := Option.some.inj H
                    go_enter Try.func8, Try.ntmps8
                    try go_wp2_with (first | ((with_reducible refine gate_dst (N := 7) rfl ?_); (try (refine gate_guard (by rfl) ?_; dsimp only)); refine Kd.R_lit k44 _ 44 ?hg (N := 7) ?hd (xs := ([(⟨5, 1, (⟨#[97]⟩ : ByteArray)⟩ : S44), (⟨2, 0, (⟨#[]⟩ : ByteArray)⟩ : S44), (⟨7, 1, (⟨#[98]⟩ : ByteArray)⟩ : S44), (⟨7, 1, (⟨#[99]⟩ : ByteArray)⟩ : S44)] : List (S44))) (inner := [.int .i64 5, .int .i64 1, .string (⟨#[97]⟩ : ByteArray), .int .i64 2, .int .i64 0, .string (⟨#[]⟩ : ByteArray), .int .i64 7, .int .i64 1, .string (⟨#[98]⟩ : ByteArray), .int .i64 7, .int .i64 1, .string (⟨#[99]⟩ : ByteArray)]) (ok := fun _ => True) (okp := fun _ => True) ?hr ?hp (fun _ hk => hk) trivial (Below.refl _ _) (Nat.le_refl _) (by simp) ?_; (case hd => rfl); (case hg => rfl); (case hr => first | (go_simp; done) | (go_simp; rfl)); (case hp => exact (Reps.c3 (show Kd.M k44 _ _ _ (⟨5, 1, (⟨#[97]⟩ : ByteArray)⟩ : S44) [.int .i64 5, .int .i64 1, .string (⟨#[97]⟩ : ByteArray)] from (k44_mkM _ _ _ (⟨5, 1, (⟨#[97]⟩ : ByteArray)⟩ : S44) )) (Reps.c3 (show Kd.M k44 _ _ _ (⟨2, 0, (⟨#[]⟩ : ByteArray)⟩ : S44) [.int .i64 2, .int .i64 0, .string (⟨#[]⟩ : ByteArray)] from (k44_mkM _ _ _ (⟨2, 0, (⟨#[]⟩ : ByteArray)⟩ : S44) )) (Reps.c3 (show Kd.M k44 _ _ _ (⟨7, 1, (⟨#[98]⟩ : ByteArray)⟩ : S44) [.int .i64 7, .int .i64 1, .string (⟨#[98]⟩ : ByteArray)] from (k44_mkM _ _ _ (⟨7, 1, (⟨#[98]⟩ : ByteArray)⟩ : S44) )) (Reps.c3 (show Kd.M k44 _ _ _ (⟨7, 1, (⟨#[99]⟩ : ByteArray)⟩ : S44) [.int .i64 7, .int .i64 1, .string (⟨#[99]⟩ : ByteArray)] from (k44_mkM _ _ _ (⟨7, 1, (⟨#[99]⟩ : ByteArray)⟩ : S44) )) (Reps.none _ _)))))); intro v199 w14 ho15 hb hg_ hnew_; clear hg_ hnew_; (first | rw [← Ny198.out] at ho15 | (simp only [Int.reduceToNat] at ho15; rw [← Ny198.out] at ho15)); have n0_ := Aside0.mk (Kd.R_lower ho15 (below_size (by repeat (first | (with_reducible first | exact HB.out | apply below_alloc | apply pw_below_drewN | apply below_drew1) | exact HB.out)))); have n1_ := Aside0.mk (below_step (by repeat (first | (with_reducible first | exact HB.out | apply below_alloc | apply pw_below_drewN | apply below_drew1) | exact HB.out)) hb); clear HB; have HO200 := n0_; have HB := n1_; clear n0_ n1_; clear hb ho15; obtain ⟨Ao16, co16, eo16⟩ := Kd.R_slice HO200.out; subst eo16) | ((with_reducible refine gate_callee (f := 11) rfl ?_); refine goesL_ (some 9) rfl rfl Try.func11 (by kernel_rfl) rfl #[.slice Ao16 y198.length co16] rfl (by (try simp only [List.map_toArray, List.map_cons, List.map_nil]); first | done | rfl | (simp only [List.length_drop, List.length_take]; rfl)) ?_; (with_reducible refine (ring_Newest.calls _ _ y198 t201 _ ?side1 ?side2 A1.out).mono ?_); (case side1 => repeat (first | exact (Kd.R_reads' HO200.out).2.2 | (with_reducible refine Kd.C_alloc ?_ _) | (with_reducible refine Kd.C_drewN ?_ _) | (with_reducible refine Kd.C_drew ?_))); (case side2 => exact (Kd.R_reads' HO200.out).2.1); rintro e w17 ⟨v202, rfl, ho0, hb⟩; refine ⟨_, rfl, ?_⟩; have n0_ := Aside0.mk (Kd.R_elder' (by (with_reducible repeat (first | apply Kd.R_alloc | apply Kd.R_drewN | apply Kd.R_drew)); exact HO200.out) (Kd.R_base ho0) hb); have n1_ := Aside0.mk (Kd.R_lower (Kd.R_new' ho0 (Kd.R_lt (by (with_reducible repeat (first | apply Kd.R_alloc | apply Kd.R_drewN | apply Kd.R_drew)); exact HO200.out))) (below_size (by repeat (first | (with_reducible first | exact HB.out | apply below_alloc | apply pw_below_drewN | apply below_drew1) | exact HB.out)))); have n2_ := Aside0.mk (below_step (by repeat (first | (with_reducible first | exact HB.out | apply below_alloc | apply pw_below_drewN | apply below_drew1) | exact HB.out)) hb); clear HO200; clear HB; have HO200 := n0_; have HO203 := n1_; have HB := n2_; clear n0_ n1_ n2_; (try clear hb); (try clear hb2); (try clear hk); (try clear hi); (try clear ho0)))
                    have n0_ := Aside0.mk (Kd.R_drew HO200.out)
                    have n1_ := Aside0.mk (Kd.R_drew HO203.out)
                    have n2_ := Aside0.mk (below_drew1 HB.out)
                    clear HO200
                    clear HO203
                    clear HB
                    have HO200 := n0_
                    have HO203 := n1_
                    have HB := n2_
                    clear n0_ n1_ n2_
                    obtain ⟨Ao19, co19, eo19⟩ := Kd.R_slice HO203.out
                    (first | subst eo19 | (injection eo19 with f1_ f2_ f3_; have f4_ := f1_.symm; have f5_ := f3_.symm; clear f1_ f2_ f3_; subst f4_; subst f5_))
                    have p204 : 0 ≤ (0 : Int) := (by omega)
                    have q204 : 0 < (t201.length : Int) := of_decide_eq_true (by first | (with_reducible assumption) | assumption)
                    obtain ⟨ad204, e204, hx204_0, hx204_1, hx204_2⟩ := at_T44 (Kd.R_reads' HO203.out).2.2 0 p204 q204
                    cases e204
                    have qi204 : (0 < t201.length) = True := eq_true (by omega)
                    (try rw [show ((0 : Int)).toNat = 0 from rfl] at hx204_0)
                    (try rw [show 0 * 3 = 0 from rfl] at hx204_0)
                    (try rw [Addr.add_zero'] at hx204_0)
                    (try rw [show ((0 : Int)).toNat = 0 from rfl] at hx204_1)
                    (try rw [show 0 * 3 = 0 from rfl] at hx204_1)
                    (try rw [Addr.add_zero'] at hx204_1)
                    (try rw [show ((0 : Int)).toNat = 0 from rfl] at hx204_2)
                    (try rw [show 0 * 3 = 0 from rfl] at hx204_2)
                    (try rw [Addr.add_zero'] at hx204_2)
                    replace p204 := eq_true p204
                    replace q204 := eq_true q204
                    have p205 : 0 ≤ (1 : Int) := (by omega)
                    have q205 : 1 < (y198.length : Int) := of_decide_eq_true (by first | (with_reducible assumption) | assumption)
                    obtain ⟨ad205, e205, hx205_0, hx205_1, hx205_2⟩ := at_T44 (Kd.R_reads' HO200.out).2.2 1 p205 q205
                    cases e205
                    (try simp only [show (1 : Int).toNat = 1 from rfl, Nat.reduceMul, Nat.reduceEqDiff, Go.Addr.add, ↓reduceIte] at hx205_0)
                    (try simp only [show (1 : Int).toNat = 1 from rfl, Nat.reduceMul, Nat.reduceEqDiff, Go.Addr.add, ↓reduceIte] at hx205_1)
                    (try simp only [show (1 : Int).toNat = 1 from rfl, Nat.reduceMul, Nat.reduceEqDiff, Go.Addr.add, ↓reduceIte] at hx205_2)
                    have qi205 : (1 < y198.length) = True := eq_true (by omega)
                    (try rw [show ((1 : Int)).toNat = 1 from rfl] at hx205_0)
                    (try rw [show 1 * 3 = 3 from rfl] at hx205_0)
                    (try rw [show ((1 : Int)).toNat = 1 from rfl] at hx205_1)
                    (try rw [show 1 * 3 = 3 from rfl] at hx205_1)
                    (try rw [show ((1 : Int)).toNat = 1 from rfl] at hx205_2)
                    (try rw [show 1 * 3 = 3 from rfl] at hx205_2)
                    replace p205 := eq_true p205
                    replace q205 := eq_true q205
                    have p206 : 0 ≤ (1 : Int) := (by omega)
                    have q206 : 1 < (t201.length : Int) := of_decide_eq_true (by first | (with_reducible assumption) | assumption)
                    obtain ⟨ad206, e206, hx206_0, hx206_1, hx206_2⟩ := at_T44 (Kd.R_reads' HO203.out).2.2 1 p206 q206
                    obtain rfl : ad204 = ad206 := (by injection e206)
                    (try simp only [show (1 : Int).toNat = 1 from rfl, Nat.reduceMul, Nat.reduceEqDiff, Go.Addr.add, ↓reduceIte] at hx206_0)
                    (try simp only [show (1 : Int).toNat = 1 from rfl, Nat.reduceMul, Nat.reduceEqDiff, Go.Addr.add, ↓reduceIte] at hx206_1)
                    (try simp only [show (1 : Int).toNat = 1 from rfl, Nat.reduceMul, Nat.reduceEqDiff, Go.Addr.add, ↓reduceIte] at hx206_2)
                    have qi206 : (1 < t201.length) = True := eq_true (by omega)
                    (try rw [show ((1 : Int)).toNat = 1 from rfl] at hx206_0)
                    (try rw [show 1 * 3 = 3 from rfl] at hx206_0)
                    (try rw [show ((1 : Int)).toNat = 1 from rfl] at hx206_1)
                    (try rw [show 1 * 3 = 3 from rfl] at hx206_1)
                    (try rw [show ((1 : Int)).toNat = 1 from rfl] at hx206_2)
                    (try rw [show 1 * 3 = 3 from rfl] at hx206_2)
                    replace p206 := eq_true p206
                    replace q206 := eq_true q206
                    have p207 : 0 ≤ (2 : Int) := (by omega)
                    have q207 : 2 < (y198.length : Int) := of_decide_eq_true (by first | (with_reducible assumption) | assumption)
                    obtain ⟨ad207, e207, hx207_0, hx207_1, hx207_2⟩ := at_T44 (Kd.R_reads' HO200.out).2.2 2 p207 q207
                    obtain rfl : ad205 = ad207 := (by injection e207)
                    (try simp only [show (2 : Int).toNat = 2 from rfl, Nat.reduceMul, Nat.reduceEqDiff, Go.Addr.add, ↓reduceIte] at hx207_0)
                    (try simp only [show (2 : Int).toNat = 2 from rfl, Nat.reduceMul, Nat.reduceEqDiff, Go.Addr.add, ↓reduceIte] at hx207_1)
                    (try simp only [show (2 : Int).toNat = 2 from rfl, Nat.reduceMul, Nat.reduceEqDiff, Go.Addr.add, ↓reduceIte] at hx207_2)
                    have qi207 : (2 < y198.length) = True := eq_true (by omega)
                    (try rw [show ((2 : Int)).toNat = 2 from rfl] at hx207_0)
                    (try rw [show 2 * 3 = 6 from rfl] at hx207_0)
                    (try rw [show ((2 : Int)).toNat = 2 from rfl] at hx207_1)
                    (try rw [show 2 * 3 = 6 from rfl] at hx207_1)
                    (try rw [show ((2 : Int)).toNat = 2 from rfl] at hx207_2)
                    (try rw [show 2 * 3 = 6 from rfl] at hx207_2)
                    replace p207 := eq_true p207
                    replace q207 := eq_true q207
                    refine start_ (n := 37) (S := fun w' => w'.cell? ad204 = some (.int .i64 ((rd_T44 t201 0).f0)) ∧ w'.cell? ⟨ad204.block, ad204.off + 1, none⟩ = some (.int .i64 ((rd_T44 t201 0).f1)) ∧ w'.cell? ⟨ad204.block, ad204.off + 2, none⟩ = some (.string ((rd_T44 t201 0).f2)) ∧ w'.cell? ⟨ad205.block, ad205.off + 3, none⟩ = some (.int .i64 ((rd_T44 y198 1).f0)) ∧ w'.cell? ⟨ad205.block, ad205.off + 3 + 1, none⟩ = some (.int .i64 ((rd_T44 y198 1).f1)) ∧ w'.cell? ⟨ad205.block, ad205.off + 3 + 2, none⟩ = some (.string ((rd_T44 y198 1).f2)) ∧ w'.cell? ⟨ad204.block, ad204.off + 3, none⟩ = some (.int .i64 ((rd_T44 t201 1).f0)) ∧ w'.cell? ⟨ad204.block, ad204.off + 3 + 1, none⟩ = some (.int .i64 ((rd_T44 t201 1).f1)) ∧ w'.cell? ⟨ad204.block, ad204.off + 3 + 2, none⟩ = some (.string ((rd_T44 t201 1).f2)) ∧ w'.cell? ⟨ad205.block, ad205.off + 6, none⟩ = some (.int .i64 ((rd_T44 y198 2).f0)) ∧ w'.cell? ⟨ad205.block, ad205.off + 6 + 1, none⟩ = some (.int .i64 ((rd_T44 y198 2).f1)) ∧ w'.cell? ⟨ad205.block, ad205.off + 6 + 2, none⟩ = some (.string ((rd_T44 y198 2).f2))) (ds := []) #[false, false, false, false, false, false, false, false, false, false, false, false, false, false, false, false, false, false, false, false, false, false, false, false, false, false, false, false, false, false, false, false, false, false, false, false, false] (by kernel_rfl) rfl rfl ⟨hx204_0, hx204_1, hx204_2, hx205_0, hx205_1, hx205_2, hx206_0, hx206_1, hx206_2, hx207_0, hx207_1, hx207_2⟩ (fun hHeld => ?_); refine with_tabW sheetpilelaw15_live0.tab3 sheetpilelaw15_live0.bits3 (fun HT_ HW_ => ?_)
                    generalize w17.drew = w18 at HO200 HO203 HB hx204_0 hx204_1 hx204_2 hx205_0 hx205_1 hx205_2 hx206_0 hx206_1 hx206_2 hx207_0 hx207_1 hx207_2 hHeld ⊢
                    refine pure_ (i := 0) (N := some 10) (v := ?_) (a' := ?_) #[true, false, false, false, false, false, false, false, false, false, false, false, false, false, false, false, false, false, false, false, false, false, false, false, false, false, false, false, false, false, false, false, false, false, false, false, false] rfl rfl (any_of HT_.out (by kernel_rfl)) (fun _ _ _ h => h) (Or.inl ⟨by rfl, ?_⟩) ?_ ?_
                    rotate_left
                    · intro w'
                      go_simp
                      with_reducible rfl
                    rotate_left
                    · simp only [Act.put, List.setIfInBounds_toArray, List.set_cons_zero, List.set_cons_succ, i64_w, i32_w]
                      rfl
                    refine pure_ (i := 1) (N := some 11) (v := ?_) (a' := ?_) #[true, true, false, false, false, false, false, false, false, false, false, false, false, false, false, false, false, false, false, false, false, false, false, false, false, false, false, false, false, false, false, false, false, false, false, false, false] rfl rfl (any_of HT_.out (by kernel_rfl)) (fun _ _ _ h => h) (Or.inl ⟨by rfl, ?_⟩) ?_ ?_
                    rotate_left
                    · intro w'
                      go_simp
                      with_reducible rfl
                    rotate_left
                    · simp only [Act.put, List.setIfInBounds_toArray, List.set_cons_zero, List.set_cons_succ, i64_w, i32_w]
                      rfl
                    refine pure_ (i := 2) (N := some 12) (v := ?_) (a' := ?_) #[true, true, true, false, false, false, false, false, false, false, false, false, false, false, false, false, false, false, false, false, false, false, false, false, false, false, false, false, false, false, false, false, false, false, false, false, false] rfl rfl (any_of HT_.out (by kernel_rfl)) (fun _ _ _ h => h) (Or.inl ⟨by rfl, ?_⟩) ?_ ?_
                    rotate_left
                    · intro w'
                      go_simp
                      with_reducible rfl
                    rotate_left
                    · simp only [Act.put, List.setIfInBounds_toArray, List.set_cons_zero, List.set_cons_succ, i64_w, i32_w]
                      rfl
                    refine pure_ (i := 3) (N := some 13) (v := ?_) (a' := ?_) #[true, true, true, true, false, false, false, false, false, false, false, false, false, false, false, false, false, false, false, false, false, false, false, false, false, false, false, false, false, false, false, false, false, false, false, false, false] rfl rfl (any_of HT_.out (by kernel_rfl)) (fun _ _ _ h => h) (Or.inl ⟨by rfl, ?_⟩) ?_ ?_
                    rotate_left
                    · intro w'
                      go_simp
                      with_reducible rfl
                    rotate_left
                    · simp only [Act.put, List.setIfInBounds_toArray, List.set_cons_zero, List.set_cons_succ, i64_w, i32_w]
                      rfl
                    refine pure_ (i := 4) (N := some 14) (v := ?_) (a' := ?_) #[true, true, true, true, true, false, false, false, false, false, false, false, false, false, false, false, false, false, false, false, false, false, false, false, false, false, false, false, false, false, false, false, false, false, false, false, false] rfl rfl (any_of HT_.out (by kernel_rfl)) (fun _ _ _ h => h) (Or.inl ⟨by rfl, ?_⟩) ?_ ?_
                    rotate_left
                    · intro w'
                      go_simp
                      with_reducible rfl
                    rotate_left
                    · simp only [Act.put, List.setIfInBounds_toArray, List.set_cons_zero, List.set_cons_succ, i64_w, i32_w]
                      rfl
                    refine pure_ (i := 5) (N := some 15) (v := ?_) (a' := ?_) #[true, true, true, true, true, true, false, false, false, false, false, false, false, false, false, false, false, false, false, false, false, false, false, false, false, false, false, false, false, false, false, false, false, false, false, false, false] rfl rfl (any_of HT_.out (by kernel_rfl)) (fun _ _ _ h => h) (Or.inl ⟨by rfl, ?_⟩) ?_ ?_
                    rotate_left
                    · intro w'
                      go_simp
                      with_reducible rfl
                    rotate_left
                    · simp only [Act.put, List.setIfInBounds_toArray, List.set_cons_zero, List.set_cons_succ, i64_w, i32_w]
                      rfl
                    refine pure_ (i := 7) (N := some 17) (v := ?_) (a' := ?_) #[true, true, true, true, true, true, false, true, false, false, false, false, false, false, false, false, false, false, false, false, false, false, false, false, false, false, false, false, false, false, false, false, false, false, false, false, false] rfl rfl (any_of HT_.out (by kernel_rfl)) (fun _ _ _ h => h) (Or.inl ⟨by rfl, ?_⟩) ?_ ?_
                    rotate_left
                    · intro w'
                      go_simp
                      with_reducible rfl
                    rotate_left
                    · simp only [Act.put, List.setIfInBounds_toArray, List.set_cons_zero, List.set_cons_succ, i64_w, i32_w]
                      rfl
                    refine pure_ (i := 8) (N := some 18) (v := ?_) (a' := ?_) #[true, true, true, true, true, true, false, true, true, false, false, false, false, false, false, false, false, false, false, false, false, false, false, false, false, false, false, false, false, false, false, false, false, false, false, false, false] rfl rfl (any_of HT_.out (by kernel_rfl)) (fun _ _ _ h => h) (Or.inl ⟨by rfl, ?_⟩) ?_ ?_
                    rotate_left
                    · intro w'
                      go_simp
                      with_reducible rfl
                    rotate_left
                    · simp only [Act.put, List.setIfInBounds_toArray, List.set_cons_zero, List.set_cons_succ, i64_w, i32_w]
                      rfl
                    refine take_ (i := 6) (N := some 16) (v := ?_) (a' := ?_) #[true, true, true, true, true, true, true, true, true, false, false, false, false, false, false, false, false, false, false, false, false, false, false, false, false, false, false, false, false, false, false, false, false, false, false, false, false] rfl rfl (take_ofW HT_.out HW_.out (by kernel_rfl)) (fun _ _ _ h => h) (Or.inl ⟨by rfl, ?_⟩) hHeld ?_ ?_
                    rotate_left
                    · rintro w' ⟨s0, s1, s2, s3, s4, s5, s6, s7, s8, s9, s10, s11⟩
                      go_simp
                      with_reducible rfl
                    rotate_left
                    · simp only [Act.put, List.setIfInBounds_toArray, List.set_cons_zero, List.set_cons_succ, i64_w, i32_w]
                      rfl
                    refine take_ (i := 9) (N := some 19) (v := ?_) (a' := ?_) #[true, true, true, true, true, true, true, true, true, true, false, false, false, false, false, false, false, false, false, false, false, false, false, false, false, false, false, false, false, false, false, false, false, false, false, false, false] rfl rfl (take_ofW HT_.out HW_.out (by kernel_rfl)) (fun _ _ _ h => h) (Or.inl ⟨by rfl, ?_⟩) hHeld ?_ ?_
                    rotate_left
                    · rintro w' ⟨s0, s1, s2, s3, s4, s5, s6, s7, s8, s9, s10, s11⟩
                      go_simp
                      with_reducible rfl
                    rotate_left
                    · simp only [Act.put, List.setIfInBounds_toArray, List.set_cons_zero, List.set_cons_succ, i64_w, i32_w]
                      rfl
                    refine pure_ (i := 10) (N := some 20) (v := ?_) (a' := ?_) #[true, true, true, true, true, true, true, true, true, true, true, false, false, false, false, false, false, false, false, false, false, false, false, false, false, false, false, false, false, false, false, false, false, false, false, false, false] rfl rfl (any_of HT_.out (by kernel_rfl)) (fun _ _ _ h => h) (Or.inl ⟨by rfl, ?_⟩) ?_ ?_
                    rotate_left
                    · intro w'
                      go_simp
                      with_reducible rfl
                    rotate_left
                    · simp only [Act.put, List.setIfInBounds_toArray, List.set_cons_zero, List.set_cons_succ, i64_w, i32_w]
                      rfl
                    refine pure_ (i := 11) (N := some 21) (v := ?_) (a' := ?_) #[true, true, true, true, true, true, true, true, true, true, true, true, false, false, false, false, false, false, false, false, false, false, false, false, false, false, false, false, false, false, false, false, false, false, false, false, false] rfl rfl (any_of HT_.out (by kernel_rfl)) (fun _ _ _ h => h) (Or.inl ⟨by rfl, ?_⟩) ?_ ?_
                    rotate_left
                    · intro w'
                      go_simp
                      with_reducible rfl
                    rotate_left
                    · simp only [Act.put, List.setIfInBounds_toArray, List.set_cons_zero, List.set_cons_succ, i64_w, i32_w]
                      rfl
                    refine pure_ (i := 12) (N := some 22) (v := ?_) (a' := ?_) #[true, true, true, true, true, true, true, true, true, true, true, true, true, false, false, false, false, false, false, false, false, false, false, false, false, false, false, false, false, false, false, false, false, false, false, false, false] rfl rfl (any_of HT_.out (by kernel_rfl)) (fun _ _ _ h => h) (Or.inl ⟨by rfl, ?_⟩) ?_ ?_
                    rotate_left
                    · intro w'
                      go_simp
                      with_reducible rfl
                    rotate_left
                    · simp only [Act.put, List.setIfInBounds_toArray, List.set_cons_zero, List.set_cons_succ, i64_w, i32_w]
                      rfl
                    refine pure_ (i := 13) (N := some 23) (v := ?_) (a' := ?_) #[true, true, true, true, true, true, true, true, true, true, true, true, true, true, false, false, false, false, false, false, false, false, false, false, false, false, false, false, false, false, false, false, false, false, false, false, false] rfl rfl (any_of HT_.out (by kernel_rfl)) (fun _ _ _ h => h) (Or.inl ⟨by rfl, ?_⟩) ?_ ?_
                    rotate_left
                    · intro w'
                      go_simp
                      with_reducible rfl
                    rotate_left
                    · simp only [Act.put, List.setIfInBounds_toArray, List.set_cons_zero, List.set_cons_succ, i64_w, i32_w]
                      rfl
                    refine pure_ (i := 14) (N := some 24) (v := ?_) (a' := ?_) #[true, true, true, true, true, true, true, true, true, true, true, true, true, true, true, false, false, false, false, false, false, false, false, false, false, false, false, false, false, false, false, false, false, false, false, false, false] rfl rfl (any_of HT_.out (by kernel_rfl)) (fun _ _ _ h => h) (Or.inl ⟨by rfl, ?_⟩) ?_ ?_
                    rotate_left
                    · intro w'
                      go_simp
                      with_reducible rfl
                    rotate_left
                    · simp only [Act.put, List.setIfInBounds_toArray, List.set_cons_zero, List.set_cons_succ, i64_w, i32_w]
                      rfl
                    refine pure_ (i := 16) (N := some 26) (v := ?_) (a' := ?_) #[true, true, true, true, true, true, true, true, true, true, true, true, true, true, true, false, true, false, false, false, false, false, false, false, false, false, false, false, false, false, false, false, false, false, false, false, false] rfl rfl (any_of HT_.out (by kernel_rfl)) (fun _ _ _ h => h) (Or.inl ⟨by rfl, ?_⟩) ?_ ?_
                    rotate_left
                    · intro w'
                      go_simp
                      with_reducible rfl
                    rotate_left
                    · simp only [Act.put, List.setIfInBounds_toArray, List.set_cons_zero, List.set_cons_succ, i64_w, i32_w]
                      rfl
                    refine pure_ (i := 17) (N := some 27) (v := ?_) (a' := ?_) #[true, true, true, true, true, true, true, true, true, true, true, true, true, true, true, false, true, true, false, false, false, false, false, false, false, false, false, false, false, false, false, false, false, false, false, false, false] rfl rfl (any_of HT_.out (by kernel_rfl)) (fun _ _ _ h => h) (Or.inl ⟨by rfl, ?_⟩) ?_ ?_
                    rotate_left
                    · intro w'
                      go_simp
                      with_reducible rfl
                    rotate_left
                    · simp only [Act.put, List.setIfInBounds_toArray, List.set_cons_zero, List.set_cons_succ, i64_w, i32_w]
                      rfl
                    refine take_ (i := 15) (N := some 25) (v := ?_) (a' := ?_) #[true, true, true, true, true, true, true, true, true, true, true, true, true, true, true, true, true, true, false, false, false, false, false, false, false, false, false, false, false, false, false, false, false, false, false, false, false] rfl rfl (take_ofW HT_.out HW_.out (by kernel_rfl)) (fun _ _ _ h => h) (Or.inl ⟨by rfl, ?_⟩) hHeld ?_ ?_
                    rotate_left
                    · rintro w' ⟨s0, s1, s2, s3, s4, s5, s6, s7, s8, s9, s10, s11⟩
                      go_simp
                      with_reducible rfl
                    rotate_left
                    · simp only [Act.put, List.setIfInBounds_toArray, List.set_cons_zero, List.set_cons_succ, i64_w, i32_w]
                      rfl
                    refine take_ (i := 18) (N := some 28) (v := ?_) (a' := ?_) #[true, true, true, true, true, true, true, true, true, true, true, true, true, true, true, true, true, true, true, false, false, false, false, false, false, false, false, false, false, false, false, false, false, false, false, false, false] rfl rfl (take_ofW HT_.out HW_.out (by kernel_rfl)) (fun _ _ _ h => h) (Or.inl ⟨by rfl, ?_⟩) hHeld ?_ ?_
                    rotate_left
                    · rintro w' ⟨s0, s1, s2, s3, s4, s5, s6, s7, s8, s9, s10, s11⟩
                      go_simp
                      with_reducible rfl
                    rotate_left
                    · simp only [Act.put, List.setIfInBounds_toArray, List.set_cons_zero, List.set_cons_succ, i64_w, i32_w]
                      rfl
                    refine pure_ (i := 19) (N := some 29) (v := ?_) (a' := ?_) #[true, true, true, true, true, true, true, true, true, true, true, true, true, true, true, true, true, true, true, true, false, false, false, false, false, false, false, false, false, false, false, false, false, false, false, false, false] rfl rfl (any_of HT_.out (by kernel_rfl)) (fun _ _ _ h => h) (Or.inl ⟨by rfl, ?_⟩) ?_ ?_
                    rotate_left
                    · intro w'
                      go_simp
                      with_reducible rfl
                    rotate_left
                    · simp only [Act.put, List.setIfInBounds_toArray, List.set_cons_zero, List.set_cons_succ, i64_w, i32_w]
                      rfl
                    refine pure_ (i := 20) (N := some 30) (v := ?_) (a' := ?_) #[true, true, true, true, true, true, true, true, true, true, true, true, true, true, true, true, true, true, true, true, true, false, false, false, false, false, false, false, false, false, false, false, false, false, false, false, false] rfl rfl (any_of HT_.out (by kernel_rfl)) (fun _ _ _ h => h) (Or.inl ⟨by rfl, ?_⟩) ?_ ?_
                    rotate_left
                    · intro w'
                      go_simp
                      with_reducible rfl
                    rotate_left
                    · simp only [Act.put, List.setIfInBounds_toArray, List.set_cons_zero, List.set_cons_succ, i64_w, i32_w]
                      rfl
                    refine pure_ (i := 21) (N := some 31) (v := ?_) (a' := ?_) #[true, true, true, true, true, true, true, true, true, true, true, true, true, true, true, true, true, true, true, true, true, true, false, false, false, false, false, false, false, false, false, false, false, false, false, false, false] rfl rfl (any_of HT_.out (by kernel_rfl)) (fun _ _ _ h => h) (Or.inl ⟨by rfl, ?_⟩) ?_ ?_
                    rotate_left
                    · intro w'
                      go_simp
                      with_reducible rfl
                    rotate_left
                    · simp only [Act.put, List.setIfInBounds_toArray, List.set_cons_zero, List.set_cons_succ, i64_w, i32_w]
                      rfl
                    refine pure_ (i := 22) (N := some 32) (v := ?_) (a' := ?_) #[true, true, true, true, true, true, true, true, true, true, true, true, true, true, true, true, true, true, true, true, true, true, true, false, false, false, false, false, false, false, false, false, false, false, false, false, false] rfl rfl (any_of HT_.out (by kernel_rfl)) (fun _ _ _ h => h) (Or.inl ⟨by rfl, ?_⟩) ?_ ?_
                    rotate_left
                    · intro w'
                      go_simp
                      with_reducible rfl
                    rotate_left
                    · simp only [Act.put, List.setIfInBounds_toArray, List.set_cons_zero, List.set_cons_succ, i64_w, i32_w]
                      rfl
                    refine one_ (i := 23) (N := some 33) #[true, true, true, true, true, true, true, true, true, true, true, true, true, true, true, true, true, true, true, true, true, true, true, true, false, false, false, false, false, false, false, false, false, false, false, false, false] rfl rfl (one_of HT_.out (by kernel_rfl)) (by decide) (fun K hK => ?_)
                    refine goes_ Try.func14 (by kernel_rfl) rfl #[.slice (some ad205) y198.length co16] (by rfl) rfl rfl (by (try simp only [List.map_toArray, List.map_cons, List.map_nil]); first | done | rfl | (simp only [List.length_drop, List.length_take]; rfl)) ?_
                    with_reducible refine (ring_Next.calls _ _ y198 t208 _ ?side1 ?side2 A9.out).mono ?_
                    (case side1 => repeat (first | exact (Kd.R_reads' HO200.out).2.2 | (with_reducible refine Kd.C_alloc ?_ _) | (with_reducible refine Kd.C_drewN ?_ _) | (with_reducible refine Kd.C_drew ?_)))
                    (case side2 => exact (Kd.R_reads' HO200.out).2.1)
                    rintro e w20 ⟨rfl, hb⟩
                    have HS0_ := (hb.cell (World.block_lt_of_cell? _ _ (hHeld.1))).trans (hHeld.1)
                    have HS1_ := (hb.cell (World.block_lt_of_cell? _ _ (hHeld.2.1))).trans (hHeld.2.1)
                    have HS2_ := (hb.cell (World.block_lt_of_cell? _ _ (hHeld.2.2.1))).trans (hHeld.2.2.1)
                    have HS3_ := (hb.cell (World.block_lt_of_cell? _ _ (hHeld.2.2.2.1))).trans (hHeld.2.2.2.1)
                    have HS4_ := (hb.cell (World.block_lt_of_cell? _ _ (hHeld.2.2.2.2.1))).trans (hHeld.2.2.2.2.1)
                    have HS5_ := (hb.cell (World.block_lt_of_cell? _ _ (hHeld.2.2.2.2.2.1))).trans (hHeld.2.2.2.2.2.1)
                    have HS6_ := (hb.cell (World.block_lt_of_cell? _ _ (hHeld.2.2.2.2.2.2.1))).trans (hHeld.2.2.2.2.2.2.1)
                    have HS7_ := (hb.cell (World.block_lt_of_cell? _ _ (hHeld.2.2.2.2.2.2.2.1))).trans (hHeld.2.2.2.2.2.2.2.1)
                    have HS8_ := (hb.cell (World.block_lt_of_cell? _ _ (hHeld.2.2.2.2.2.2.2.2.1))).trans (hHeld.2.2.2.2.2.2.2.2.1)
                    have HS9_ := (hb.cell (World.block_lt_of_cell? _ _ (hHeld.2.2.2.2.2.2.2.2.2.1))).trans (hHeld.2.2.2.2.2.2.2.2.2.1)
                    have HS10_ := (hb.cell (World.block_lt_of_cell? _ _ (hHeld.2.2.2.2.2.2.2.2.2.2.1))).trans (hHeld.2.2.2.2.2.2.2.2.2.2.1)
                    have HS11_ := (hb.cell (World.block_lt_of_cell? _ _ (hHeld.2.2.2.2.2.2.2.2.2.2.2))).trans (hHeld.2.2.2.2.2.2.2.2.2.2.2)
                    refine ⟨_, rfl, ?_⟩
                    have n0_ := Aside0.mk (Kd.R_below (by (with_reducible repeat (first | apply Kd.R_alloc | apply Kd.R_drewN | apply Kd.R_drew)); exact HO200.out) hb)
                    have n1_ := Aside0.mk (Kd.R_below (by (with_reducible repeat (first | apply Kd.R_alloc | apply Kd.R_drewN | apply Kd.R_drew)); exact HO203.out) hb)
                    have n2_ := Aside0.mk (below_step (by repeat (first | (with_reducible first | exact HB.out | apply below_alloc | apply pw_below_drewN | apply below_drew1) | exact HB.out)) hb)
                    clear HO200
                    clear HO203
                    clear HB
                    have HO200 := n0_
                    have HO203 := n1_
                    have HB := n2_
                    clear n0_ n1_ n2_
                    (try clear hb)
                    (try clear hb2)
                    (try clear hk)
                    (try clear hi)
                    refine hK.out _ _ ⟨HS0_, HS1_, HS2_, HS3_, HS4_, HS5_, HS6_, HS7_, HS8_, HS9_, HS10_, HS11_⟩ (fun hHeld => ?_)
                    clear hK K
                    refine norm_ (a' := ?_) ?_ ?_
                    rotate_left
                    · show Act.put _ (some 33) _ = _
                      simp only [Act.put, List.setIfInBounds_toArray, List.set_cons_zero, List.set_cons_succ, i64_w, i32_w]
                      rfl
                    refine pure_ (i := 24) (N := some 34) (v := ?_) (a' := ?_) #[true, true, true, true, true, true, true, true, true, true, true, true, true, true, true, true, true, true, true, true, true, true, true, true, true, false, false, false, false, false, false, false, false, false, false, false, false] rfl rfl (any_of HT_.out (by kernel_rfl)) (fun _ _ _ h => h) (Or.inl ⟨by rfl, ?_⟩) ?_ ?_
                    rotate_left
                    · intro w'
                      go_simp
                      with_reducible rfl
                    rotate_left
                    · simp only [Act.put, List.setIfInBounds_toArray, List.set_cons_zero, List.set_cons_succ, i64_w, i32_w]
                      rfl
                    refine pure_ (i := 25) (N := some 35) (v := ?_) (a' := ?_) #[true, true, true, true, true, true, true, true, true, true, true, true, true, true, true, true, true, true, true, true, true, true, true, true, true, true, false, false, false, false, false, false, false, false, false, false, false] rfl rfl (any_of HT_.out (by kernel_rfl)) (fun _ _ _ h => h) (Or.inl ⟨by rfl, ?_⟩) ?_ ?_
                    rotate_left
                    · intro w'
                      go_simp
                      with_reducible rfl
                    rotate_left
                    · simp only [Act.put, List.setIfInBounds_toArray, List.set_cons_zero, List.set_cons_succ, i64_w, i32_w]
                      rfl
                    refine pure_ (i := 26) (N := some 36) (v := ?_) (a' := ?_) #[true, true, true, true, true, true, true, true, true, true, true, true, true, true, true, true, true, true, true, true, true, true, true, true, true, true, true, false, false, false, false, false, false, false, false, false, false] rfl rfl (any_of HT_.out (by kernel_rfl)) (fun _ _ _ h => h) (Or.inl ⟨by rfl, ?_⟩) ?_ ?_
                    rotate_left
                    · intro w'
                      go_simp
                      with_reducible rfl
                    rotate_left
                    · simp only [Act.put, List.setIfInBounds_toArray, List.set_cons_zero, List.set_cons_succ, i64_w, i32_w]
                      rfl
                    refine one_ (i := 27) (N := some 37) #[true, true, true, true, true, true, true, true, true, true, true, true, true, true, true, true, true, true, true, true, true, true, true, true, true, true, true, true, false, false, false, false, false, false, false, false, false] rfl rfl (one_of HT_.out (by kernel_rfl)) (by decide) (fun K hK => ?_)
                    refine goes_ Try.func14 (by kernel_rfl) rfl #[.slice none 0 0] (by rfl) rfl rfl (by (try simp only [List.map_toArray, List.map_cons, List.map_nil]); first | done | rfl | (simp only [List.length_drop, List.length_take]; rfl)) ?_
                    refine (ring_Next.calls _ _ ([] : List (S44)) t209 _ ?side1 ?side2 A11.out).mono ?_
                    (case side1 => exact Kd.C_nil _ _)
                    (case side2 => exact Nat.le_refl _)
                    rintro e w21 ⟨rfl, hb⟩
                    have HS0_ := (hb.cell (World.block_lt_of_cell? _ _ (hHeld.1))).trans (hHeld.1)
                    have HS1_ := (hb.cell (World.block_lt_of_cell? _ _ (hHeld.2.1))).trans (hHeld.2.1)
                    have HS2_ := (hb.cell (World.block_lt_of_cell? _ _ (hHeld.2.2.1))).trans (hHeld.2.2.1)
                    have HS3_ := (hb.cell (World.block_lt_of_cell? _ _ (hHeld.2.2.2.1))).trans (hHeld.2.2.2.1)
                    have HS4_ := (hb.cell (World.block_lt_of_cell? _ _ (hHeld.2.2.2.2.1))).trans (hHeld.2.2.2.2.1)
                    have HS5_ := (hb.cell (World.block_lt_of_cell? _ _ (hHeld.2.2.2.2.2.1))).trans (hHeld.2.2.2.2.2.1)
                    have HS6_ := (hb.cell (World.block_lt_of_cell? _ _ (hHeld.2.2.2.2.2.2.1))).trans (hHeld.2.2.2.2.2.2.1)
                    have HS7_ := (hb.cell (World.block_lt_of_cell? _ _ (hHeld.2.2.2.2.2.2.2.1))).trans (hHeld.2.2.2.2.2.2.2.1)
                    have HS8_ := (hb.cell (World.block_lt_of_cell? _ _ (hHeld.2.2.2.2.2.2.2.2.1))).trans (hHeld.2.2.2.2.2.2.2.2.1)
                    have HS9_ := (hb.cell (World.block_lt_of_cell? _ _ (hHeld.2.2.2.2.2.2.2.2.2.1))).trans (hHeld.2.2.2.2.2.2.2.2.2.1)
                    have HS10_ := (hb.cell (World.block_lt_of_cell? _ _ (hHeld.2.2.2.2.2.2.2.2.2.2.1))).trans (hHeld.2.2.2.2.2.2.2.2.2.2.1)
                    have HS11_ := (hb.cell (World.block_lt_of_cell? _ _ (hHeld.2.2.2.2.2.2.2.2.2.2.2))).trans (hHeld.2.2.2.2.2.2.2.2.2.2.2)
                    refine ⟨_, rfl, ?_⟩
                    have n0_ := Aside0.mk (Kd.R_below (by (with_reducible repeat (first | apply Kd.R_alloc | apply Kd.R_drewN | apply Kd.R_drew)); exact HO200.out) hb)
                    have n1_ := Aside0.mk (Kd.R_below (by (with_reducible repeat (first | apply Kd.R_alloc | apply Kd.R_drewN | apply Kd.R_drew)); exact HO203.out) hb)
                    have n2_ := Aside0.mk (below_step (by repeat (first | (with_reducible first | exact HB.out | apply below_alloc | apply pw_below_drewN | apply below_drew1) | exact HB.out)) hb)
                    clear HO200
                    clear HO203
                    clear HB
                    have HO200 := n0_
                    have HO203 := n1_
                    have HB := n2_
                    clear n0_ n1_ n2_
                    (try clear hb)
                    (try clear hb2)
                    (try clear hk)
                    (try clear hi)
                    refine hK.out _ _ ⟨HS0_, HS1_, HS2_, HS3_, HS4_, HS5_, HS6_, HS7_, HS8_, HS9_, HS10_, HS11_⟩ (fun hHeld => ?_)
                    clear hK K
                    refine norm_ (a' := ?_) ?_ ?_
                    rotate_left
                    · show Act.put _ (some 37) _ = _
                      simp only [Act.put, List.setIfInBounds_toArray, List.set_cons_zero, List.set_cons_succ, i64_w, i32_w]
                      rfl
                    refine pure_ (i := 28) (N := some 38) (v := ?_) (a' := ?_) #[true, true, true, true, true, true, true, true, true, true, true, true, true, true, true, true, true, true, true, true, true, true, true, true, true, true, true, true, true, false, false, false, false, false, false, false, false] rfl rfl (any_of HT_.out (by kernel_rfl)) (fun _ _ _ h => h) (Or.inl ⟨by rfl, ?_⟩) ?_ ?_
                    rotate_left
                    · intro w'
                      go_simp
                      with_reducible rfl
                    rotate_left
                    · simp only [Act.put, List.setIfInBounds_toArray, List.set_cons_zero, List.set_cons_succ, i64_w, i32_w]
                      rfl
                    refine pure_ (i := 29) (N := some 39) (v := ?_) (a' := ?_) #[true, true, true, true, true, true, true, true, true, true, true, true, true, true, true, true, true, true, true, true, true, true, true, true, true, true, true, true, true, true, false, false, false, false, false, false, false] rfl rfl (any_of HT_.out (by kernel_rfl)) (fun _ _ _ h => h) (Or.inl ⟨by rfl, ?_⟩) ?_ ?_
                    rotate_left
                    · intro w'
                      go_simp
                      with_reducible rfl
                    rotate_left
                    · simp only [Act.put, List.setIfInBounds_toArray, List.set_cons_zero, List.set_cons_succ, i64_w, i32_w]
                      rfl
                    refine pure_ (i := 30) (N := some 40) (v := ?_) (a' := ?_) #[true, true, true, true, true, true, true, true, true, true, true, true, true, true, true, true, true, true, true, true, true, true, true, true, true, true, true, true, true, true, true, false, false, false, false, false, false] rfl rfl (any_of HT_.out (by kernel_rfl)) (fun _ _ _ h => h) (Or.inl ⟨by rfl, ?_⟩) ?_ ?_
                    rotate_left
                    · intro w'
                      go_simp
                      with_reducible rfl
                    rotate_left
                    · simp only [Act.put, List.setIfInBounds_toArray, List.set_cons_zero, List.set_cons_succ, i64_w, i32_w]
                      rfl
                    refine pure_ (i := 31) (N := some 41) (v := ?_) (a' := ?_) #[true, true, true, true, true, true, true, true, true, true, true, true, true, true, true, true, true, true, true, true, true, true, true, true, true, true, true, true, true, true, true, true, false, false, false, false, false] rfl rfl (any_of HT_.out (by kernel_rfl)) (fun _ _ _ h => h) (Or.inl ⟨by rfl, ?_⟩) ?_ ?_
                    rotate_left
                    · intro w'
                      go_simp
                      with_reducible rfl
                    rotate_left
                    · simp only [Act.put, List.setIfInBounds_toArray, List.set_cons_zero, List.set_cons_succ, i64_w, i32_w]
                      rfl
                    refine one_ (i := 32) (N := some 42) #[true, true, true, true, true, true, true, true, true, true, true, true, true, true, true, true, true, true, true, true, true, true, true, true, true, true, true, true, true, true, true, true, true, false, false, false, false] rfl rfl (one_of HT_.out (by kernel_rfl)) (by decide) (fun K hK => ?_)
                    refine goes_ Try.func17 (by kernel_rfl) rfl #[.agg #[.int .i64 0, .int .i64 0, .int .i64 0, .int .i64 0, .int .i64 0], .int .i64 0, .int .i64 0, .slice none 0 0] (by rfl) rfl rfl (by (try simp only [List.map_toArray, List.map_cons, List.map_nil]); first | done | rfl | (simp only [List.length_drop, List.length_take]; rfl)) ?_
                    refine (ring_Gather.calls k 0 0 0 0 0 0 0 _ _ ([] : List ByteArray) t210 _ ?side1 ?side2 A13.out).mono ?_
                    (case side1 => exact Kd.C_nil _ _)
                    (case side2 => exact Nat.le_refl _)
                    rintro e w22 ⟨v211, rfl, ho0, hb⟩
                    have HS0_ := (hb.cell (World.block_lt_of_cell? _ _ (hHeld.1))).trans (hHeld.1)
                    have HS1_ := (hb.cell (World.block_lt_of_cell? _ _ (hHeld.2.1))).trans (hHeld.2.1)
                    have HS2_ := (hb.cell (World.block_lt_of_cell? _ _ (hHeld.2.2.1))).trans (hHeld.2.2.1)
                    have HS3_ := (hb.cell (World.block_lt_of_cell? _ _ (hHeld.2.2.2.1))).trans (hHeld.2.2.2.1)
                    have HS4_ := (hb.cell (World.block_lt_of_cell? _ _ (hHeld.2.2.2.2.1))).trans (hHeld.2.2.2.2.1)
                    have HS5_ := (hb.cell (World.block_lt_of_cell? _ _ (hHeld.2.2.2.2.2.1))).trans (hHeld.2.2.2.2.2.1)
                    have HS6_ := (hb.cell (World.block_lt_of_cell? _ _ (hHeld.2.2.2.2.2.2.1))).trans (hHeld.2.2.2.2.2.2.1)
                    have HS7_ := (hb.cell (World.block_lt_of_cell? _ _ (hHeld.2.2.2.2.2.2.2.1))).trans (hHeld.2.2.2.2.2.2.2.1)
                    have HS8_ := (hb.cell (World.block_lt_of_cell? _ _ (hHeld.2.2.2.2.2.2.2.2.1))).trans (hHeld.2.2.2.2.2.2.2.2.1)
                    have HS9_ := (hb.cell (World.block_lt_of_cell? _ _ (hHeld.2.2.2.2.2.2.2.2.2.1))).trans (hHeld.2.2.2.2.2.2.2.2.2.1)
                    have HS10_ := (hb.cell (World.block_lt_of_cell? _ _ (hHeld.2.2.2.2.2.2.2.2.2.2.1))).trans (hHeld.2.2.2.2.2.2.2.2.2.2.1)
                    have HS11_ := (hb.cell (World.block_lt_of_cell? _ _ (hHeld.2.2.2.2.2.2.2.2.2.2.2))).trans (hHeld.2.2.2.2.2.2.2.2.2.2.2)
                    refine ⟨_, rfl, ?_⟩
                    have n0_ := Aside0.mk (Kd.R_elder' (by (with_reducible repeat (first | apply Kd.R_alloc | apply Kd.R_drewN | apply Kd.R_drew)); exact HO200.out) (Kd.R_base ho0) hb)
                    have n1_ := Aside0.mk (Kd.R_elder' (by (with_reducible repeat (first | apply Kd.R_alloc | apply Kd.R_drewN | apply Kd.R_drew)); exact HO203.out) (Kd.R_base ho0) hb)
                    have n2_ := Aside0.mk (Kd.R_lower (Kd.R_new' (Kd.R_new' ho0 (Kd.R_lt (by (with_reducible repeat (first | apply Kd.R_alloc | apply Kd.R_drewN | apply Kd.R_drew)); exact HO200.out))) (Kd.R_lt (by (with_reducible repeat (first | apply Kd.R_alloc | apply Kd.R_drewN | apply Kd.R_drew)); exact HO203.out))) (below_size (by repeat (first | (with_reducible first | exact HB.out | apply below_alloc | apply pw_below_drewN | apply below_drew1) | exact HB.out))))
                    have n3_ := Aside0.mk (below_step (by repeat (first | (with_reducible first | exact HB.out | apply below_alloc | apply pw_below_drewN | apply below_drew1) | exact HB.out)) hb)
                    clear HO200
                    clear HO203
                    clear HB
                    have HO200 := n0_
                    have HO203 := n1_
                    have HO212 := n2_
                    have HB := n3_
                    clear n0_ n1_ n2_ n3_
                    (try clear hb)
                    (try clear hb2)
                    (try clear hk)
                    (try clear hi)
                    (try clear ho0)
                    obtain ⟨Ao23, co23, eo23⟩ := Kd.R_slice HO212.out
                    (first | subst eo23 | (injection eo23 with f1_ f2_ f3_; have f4_ := f1_.symm; have f5_ := f3_.symm; clear f1_ f2_ f3_; subst f4_; subst f5_))
                    refine hK.out _ _ ⟨HS0_, HS1_, HS2_, HS3_, HS4_, HS5_, HS6_, HS7_, HS8_, HS9_, HS10_, HS11_⟩ (fun hHeld => ?_)
                    clear hK K
                    refine norm_ (a' := ?_) ?_ ?_
                    rotate_left
                    · show Act.put _ (some 42) _ = _
                      simp only [Act.put, List.setIfInBounds_toArray, List.set_cons_zero, List.set_cons_succ, i64_w, i32_w]
                      rfl
                    refine pure_ (i := 33) (N := some 43) (v := ?_) (a' := ?_) #[true, true, true, true, true, true, true, true, true, true, true, true, true, true, true, true, true, true, true, true, true, true, true, true, true, true, true, true, true, true, true, true, true, true, false, false, false] rfl rfl (any_of HT_.out (by kernel_rfl)) (fun _ _ _ h => h) (Or.inl ⟨by rfl, ?_⟩) ?_ ?_
                    rotate_left
                    · intro w'
                      go_simp
                      with_reducible rfl
                    rotate_left
                    · simp only [Act.put, List.setIfInBounds_toArray, List.set_cons_zero, List.set_cons_succ, i64_w, i32_w]
                      rfl
                    refine pure_ (i := 34) (N := some 44) (v := ?_) (a' := ?_) #[true, true, true, true, true, true, true, true, true, true, true, true, true, true, true, true, true, true, true, true, true, true, true, true, true, true, true, true, true, true, true, true, true, true, true, false, false] rfl rfl (any_of HT_.out (by kernel_rfl)) (fun _ _ _ h => h) (Or.inl ⟨by rfl, ?_⟩) ?_ ?_
                    rotate_left
                    · intro w'
                      go_simp
                      with_reducible rfl
                    rotate_left
                    · simp only [Act.put, List.setIfInBounds_toArray, List.set_cons_zero, List.set_cons_succ, i64_w, i32_w]
                      rfl
                    refine pure_ (i := 35) (N := some 45) (v := ?_) (a' := ?_) #[true, true, true, true, true, true, true, true, true, true, true, true, true, true, true, true, true, true, true, true, true, true, true, true, true, true, true, true, true, true, true, true, true, true, true, true, false] rfl rfl (any_of HT_.out (by kernel_rfl)) (fun _ _ _ h => h) (Or.inl ⟨by rfl, ?_⟩) ?_ ?_
                    rotate_left
                    · intro w'
                      go_simp
                      with_reducible rfl
                    rotate_left
                    · simp only [Act.put, List.setIfInBounds_toArray, List.set_cons_zero, List.set_cons_succ, i64_w, i32_w]
                      rfl
                    refine pure_ (i := 36) (N := some 0) (v := ?_) (a' := ?_) #[true, true, true, true, true, true, true, true, true, true, true, true, true, true, true, true, true, true, true, true, true, true, true, true, true, true, true, true, true, true, true, true, true, true, true, true, true] rfl rfl (any_of HT_.out (by kernel_rfl)) (fun _ _ _ h => h) (Or.inl ⟨by rfl, ?_⟩) ?_ ?_
                    rotate_left
                    · intro w'
                      go_simp
                      with_reducible rfl
                    rotate_left
                    · simp only [Act.put, List.setIfInBounds_toArray, List.set_cons_zero, List.set_cons_succ, i64_w, i32_w]
                      rfl
                    refine done_ (done_of HT_.out (by kernel_rfl)) ?_
                    try go_wp2
                    go_ret
                    exact ⟨by first | rfl | (simp [errW_none, errW_some] <;> rfl) | (simp [*, errW_none, errW_some] <;> rfl), by repeat (first | (with_reducible first | exact HB.out | apply below_alloc | apply pw_below_drewN | apply below_drew1) | exact HB.out)⟩
                  · rw [if_neg c12] at H
                    exact absurd H (by simp)
                · rw [if_neg c10] at H
                  exact absurd H (by simp)
              · rw [if_neg c8] at H
                exact absurd H (by simp)
            · rw [if_neg c7] at H
              exact absurd H (by simp)
          · rw [if_neg c6] at H
            exact absurd H (by simp)
        · rw [if_neg c5] at H
          exact absurd H (by simp)
      · rw [if_neg c4] at H
        exact absurd H (by simp)
    · rw [if_neg c3] at H
      exact absurd H (by simp)
  · rw [if_neg c2] at H
    exact absurd H (by simp)
def sheetpilelaw15_live.f (k : Nat) : Option Bool := if sheetpilelaw15_live0.f k = some true then some true else none
theorem sheetpilelaw15_live.mono : ∀ k, LeO (sheetpilelaw15_live.f k) (sheetpilelaw15_live.f (k + 1)) := by
  intro k r h
  unfold sheetpilelaw15_live.f at h ⊢
  by_cases c : sheetpilelaw15_live0.f k = some true
  · rw [if_pos c] at h
    rw [if_pos (sheetpilelaw15_live0.mono k _ c)]
    exact h
  · rw [if_neg c] at h; cases h
theorem sheetpilelaw15_live.calls (k : Nat) (r : Bool) (w : World) (h : sheetpilelaw15_live.f k = some r) :
    Calls Try.prog 8 #[] w fun e w' => e = .returned (.bool r) ∧ Below w.heap.size w w' := by
  unfold sheetpilelaw15_live.f at h
  by_cases c : sheetpilelaw15_live0.f k = some true
  · rw [if_pos c] at h
    obtain rfl := Option.some.inj h
    exact sheetpilelaw15_live0.calls k w c
  · rw [if_neg c] at h; cases h


end Go.Proofs.Ytmnpejoolbipeaa.PRi
