-- Laid by a program of this session (wip/mkprint.py); checked by Lean alone
import Derived.Test.YtmnpejoolbipeaaPRix0
import Derived.Test.YtmnpejoolbipeaaPRix6
import Derived.Test.YtmnpejoolbipeaaPRix8
import Derived.Test.YtmnpejoolbipeaaPRix10
namespace Go.Proofs.Ytmnpejoolbipeaa.Given
end Go.Proofs.Ytmnpejoolbipeaa.Given
namespace Go.Proofs.Ytmnpejoolbipeaa.PRi
open Go.Proofs.Ytmnpejoolbipeaa.Given
open Go.RowKit Go.Proofs.YtmnpejoolbipeaaW.PrintWords Go.Proofs.YtmnpejoolbipeaaW.PrintLast Go.Proofs.YtmnpejoolbipeaaW.PrintMore
attribute [local go_sem] max2_int min2_int max_two min_two max_three min_three max_four min_four   -- for this text's walks alone
set_option linter.unusedVariables false
set_option linter.unusedSimpArgs false

attribute [local go_sem] isSome_setCell_ binOp_geq_ binOp_leq_ binOp_gtr_
/-! ### sheetpilelaw15_RingForeign: function 7 -/
def sheetpilelaw15_RingForeign.j0 : Nat → List (S44) → List (S44) → Bool → Int → Int → Int → Int → Int → Int → Int → List ByteArray → Option (Bool)
  | 0, _, _, _, _, _, _, _, _, _, _, _ => none
  | k + 1, x7, x8, x39, x393000, x393001, x393002, x393003, x393004, x393005, x393006, x393007 => if x39 = true then (if (x7.length : Int) = (x8.length : Int) then ((sheetpilelaw15_live.f k).bind fun t401 => (some t401)) else (some false)) else (if (x7.length : Int) = 0 then ((sheetpilelaw15_live.f k).bind fun t402 => (some t402)) else (if (wrap64 ((x7.length : Int) + (x8.length : Int))) ≤ x393004 then ((sheetpilelaw15_live.f k).bind fun t403 => (some t403)) else (some false)))
def sheetpilelaw15_RingForeign.f (k : Nat) (a0_0 : Int) (a0_1 : Int) (a0_2 : Int) (a0_3 : Int) (a0_4 : Int) (a0_5 : Int) (a0_6 : Int) (l0_7 : List ByteArray) (a1 : Int) (a2 : Int) : Option (Bool) := (sheetpileref03_Small.f k l0_7 30 300).bind fun t393 => (if t393 = true then ((ring_Gather.f k a0_0 a0_1 a0_2 a0_3 a0_4 a0_5 a0_6 l0_7).bind fun t395 => ((ring_Gather.f k a0_0 a0_1 a0_2 a0_3 a0_4 a1 a2 l0_7).bind fun t398 => (if a1 = a0_5 then (sheetpilelaw15_RingForeign.j0 k t395 t398 (a2 == a0_6) a0_0 a0_1 a0_2 a0_3 a0_4 a0_5 a0_6 l0_7) else (sheetpilelaw15_RingForeign.j0 k t395 t398 false a0_0 a0_1 a0_2 a0_3 a0_4 a0_5 a0_6 l0_7)))) else ((sheetpilelaw15_live.f k).bind fun t394 => (some t394)))
theorem sheetpilelaw15_RingForeign.mono_l : ∀ k, (∀ y0 y1 y2 y3 y4 y5 y6 y7 y8 y9 y10, LeO (sheetpilelaw15_RingForeign.j0 k y0 y1 y2 y3 y4 y5 y6 y7 y8 y9 y10) (sheetpilelaw15_RingForeign.j0 (k + 1) y0 y1 y2 y3 y4 y5 y6 y7 y8 y9 y10))
  | 0 => fun _ _ _ _ _ _ _ _ _ _ _ r h => by simp [sheetpilelaw15_RingForeign.j0] at h
  | k + 1 => by
    have ih0 := sheetpilelaw15_RingForeign.mono_l k
    · intro y0 y1 y2 y3 y4 y5 y6 y7 y8 y9 y10
      unfold sheetpilelaw15_RingForeign.j0
      repeat' first
      | (with_reducible exact ih0 _ _ _ _ _ _ _ _ _ _ _)
      | (with_reducible exact ring_Gather.mono _ _ _ _ _ _ _ _ _)
      | (with_reducible exact sheetpilelaw15_live.mono _)
      | (with_reducible exact sheetpileref03_Small.mono _ _ _ _)
      | (with_reducible exact LeO.refl _)
      | (with_reducible exact LeO.none _)
      | (with_reducible refine LeO.ite ?_ ?_)
      | (with_reducible refine LeO.bind ?_ (fun _ => ?_))
      | exact ih0 _ _ _ _ _ _ _ _ _ _ _
      | exact ring_Gather.mono _ _ _ _ _ _ _ _ _
      | exact sheetpilelaw15_live.mono _
      | exact sheetpileref03_Small.mono _ _ _ _
      | exact LeO.none _
      | refine LeO.ite ?_ ?_
      | refine LeO.bind ?_ (fun _ => ?_)
theorem sheetpilelaw15_RingForeign.mono : ∀ a0 a1 a2 a3 a4 a5 a6 a7 a8 a9 k, LeO (sheetpilelaw15_RingForeign.f k a0 a1 a2 a3 a4 a5 a6 a7 a8 a9) (sheetpilelaw15_RingForeign.f (k + 1) a0 a1 a2 a3 a4 a5 a6 a7 a8 a9) := by
  intro a0 a1 a2 a3 a4 a5 a6 a7 a8 a9 k
  have ih0 := sheetpilelaw15_RingForeign.mono_l k
  unfold sheetpilelaw15_RingForeign.f
  repeat' first
      | (with_reducible exact ih0 _ _ _ _ _ _ _ _ _ _ _)
      | (with_reducible exact ring_Gather.mono _ _ _ _ _ _ _ _ _)
      | (with_reducible exact sheetpilelaw15_live.mono _)
      | (with_reducible exact sheetpileref03_Small.mono _ _ _ _)
      | (with_reducible exact LeO.refl _)
      | (with_reducible exact LeO.none _)
      | (with_reducible refine LeO.ite ?_ ?_)
      | (with_reducible refine LeO.bind ?_ (fun _ => ?_))
      | exact ih0 _ _ _ _ _ _ _ _ _ _ _
      | exact ring_Gather.mono _ _ _ _ _ _ _ _ _
      | exact sheetpilelaw15_live.mono _
      | exact sheetpileref03_Small.mono _ _ _ _
      | exact LeO.none _
      | refine LeO.ite ?_ ?_
      | refine LeO.bind ?_ (fun _ => ?_)
set_option maxHeartbeats 8000000 in
set_option maxRecDepth 100000 in
theorem sheetpilelaw15_RingForeign.calls (k : Nat) (a0_0 : Int) (a0_1 : Int) (a0_2 : Int) (a0_3 : Int) (a0_4 : Int) (a0_5 : Int) (a0_6 : Int) (A0_7 : Option Addr) (c0_7 : Nat) (l0_7 : List ByteArray) (a1 : Int) (a2 : Int) (r : Bool) (w : World) (hr0_7 : Kd.C Kd.string w A0_7 l0_7.length l0_7) (hc0_7 : l0_7.length ≤ c0_7) (h : sheetpilelaw15_RingForeign.f k a0_0 a0_1 a0_2 a0_3 a0_4 a0_5 a0_6 l0_7 a1 a2 = some r) :
    Calls Try.prog 7 #[.agg #[.int .i64 a0_0, .int .i64 a0_1, .int .i64 a0_2, .int .i64 a0_3, .int .i64 a0_4, .int .i64 a0_5, .int .i64 a0_6, .slice A0_7 l0_7.length c0_7], .int .i64 a1, .int .i64 a2] w fun e w' => e = .returned (.bool r) ∧ Below w.heap.size w w' := by
  have hu39 := Try.underlying39
  have hu36 := Try.underlying36
  have HR0_7 := Aside0.mk hr0_7
  have HC0_7 := Aside0.mk hc0_7
  clear hr0_7 hc0_7
  have HB := Aside0.mk (Below.refl w.heap.size w)
  have H : ((sheetpileref03_Small.f k l0_7 30 300).bind fun t393 => (if t393 = true then ((ring_Gather.f k a0_0 a0_1 a0_2 a0_3 a0_4 a0_5 a0_6 l0_7).bind fun t395 => ((ring_Gather.f k a0_0 a0_1 a0_2 a0_3 a0_4 a1 a2 l0_7).bind fun t398 => (if a1 = a0_5 then (sheetpilelaw15_RingForeign.j0 k t395 t398 (a2 == a0_6) a0_0 a0_1 a0_2 a0_3 a0_4 a0_5 a0_6 l0_7) else (sheetpilelaw15_RingForeign.j0 k t395 t398 false a0_0 a0_1 a0_2 a0_3 a0_4 a0_5 a0_6 l0_7)))) else ((sheetpilelaw15_live.f k).bind fun t394 => (some t394)))) = some r := h
  clear h
  replace H := Option.bind_eq_some_iff.mp H
  obtain ⟨t393, A40, H⟩ := H
  replace H : (if t393 = true then ((ring_Gather.f k a0_0 a0_1 a0_2 a0_3 a0_4 a0_5 a0_6 l0_7).bind fun t395 => ((ring_Gather.f k a0_0 a0_1 a0_2 a0_3 a0_4 a1 a2 l0_7).bind fun t398 => (if a1 = a0_5 then (sheetpilelaw15_RingForeign.j0 k t395 t398 (a2 == a0_6) a0_0 a0_1 a0_2 a0_3 a0_4 a0_5 a0_6 l0_7) else (sheetpilelaw15_RingForeign.j0 k t395 t398 false a0_0 a0_1 a0_2 a0_3 a0_4 a0_5 a0_6 l0_7)))) else ((sheetpilelaw15_live.f k).bind fun t394 => (some t394))) = some r := H
  have A4 := Aside0.mk A40
  clear A40
  by_cases c5 : t393 = true
  · subst c5
    have H1 : ((ring_Gather.f k a0_0 a0_1 a0_2 a0_3 a0_4 a0_5 a0_6 l0_7).bind fun t395 => ((ring_Gather.f k a0_0 a0_1 a0_2 a0_3 a0_4 a1 a2 l0_7).bind fun t398 => (if a1 = a0_5 then (sheetpilelaw15_RingForeign.j0 k t395 t398 (a2 == a0_6) a0_0 a0_1 a0_2 a0_3 a0_4 a0_5 a0_6 l0_7) else (sheetpilelaw15_RingForeign.j0 k t395 t398 false a0_0 a0_1 a0_2 a0_3 a0_4 a0_5 a0_6 l0_7)))) = some r := by rw [if_pos rfl] at H; exact H
    clear H
    have H := H1
    clear H1
    replace H := Option.bind_eq_some_iff.mp H
    obtain ⟨t395, A60, H⟩ := H
    replace H : ((ring_Gather.f k a0_0 a0_1 a0_2 a0_3 a0_4 a1 a2 l0_7).bind fun t398 => (if a1 = a0_5 then (sheetpilelaw15_RingForeign.j0 k t395 t398 (a2 == a0_6) a0_0 a0_1 a0_2 a0_3 a0_4 a0_5 a0_6 l0_7) else (sheetpilelaw15_RingForeign.j0 k t395 t398 false a0_0 a0_1 a0_2 a0_3 a0_4 a0_5 a0_6 l0_7))) = some r := H
    have A6 := Aside0.mk A60
    clear A60
    replace H := Option.bind_eq_some_iff.mp H
    obtain ⟨t398, A70, H⟩ := H
    replace H : (if a1 = a0_5 then (sheetpilelaw15_RingForeign.j0 k t395 t398 (a2 == a0_6) a0_0 a0_1 a0_2 a0_3 a0_4 a0_5 a0_6 l0_7) else (sheetpilelaw15_RingForeign.j0 k t395 t398 false a0_0 a0_1 a0_2 a0_3 a0_4 a0_5 a0_6 l0_7)) = some r := H
    have A7 := Aside0.mk A70
    clear A70
    have HC8 := Aside0.mk H
    clear H
    go_enter Try.func7, Try.ntmps7
    go_upto_region 5 with (first | ((with_reducible refine gate_dst (N := 3) rfl ?_); (try (refine gate_guard (by rfl) ?_; dsimp only)); refine box_event ?hg (N := 3) ?hd (cs := #[.int .i64 a0_0, .int .i64 a0_1, .int .i64 a0_2, .int .i64 a0_3, .int .i64 a0_4, .int .i64 a0_5, .int .i64 a0_6, .slice A0_7 l0_7.length c0_7]) (t := 39) ?hr ?_; (case hd => rfl); (case hg => rfl); (case hr => first | (go_simp; done) | (go_simp; rfl)); intro gb392 hg w9 hbox hb; have n0_ := Aside0.mk (below_step (by repeat (first | (with_reducible first | exact HB.out | apply below_alloc | apply pw_below_drewN | apply below_drew1) | exact HB.out)) hb); have n1_ := Aside0.mk (hbox); have n2_ := Aside0.mk ((by rw [hg]; exact (below_size (by repeat (first | (with_reducible first | exact HB.out | apply below_alloc | apply pw_below_drewN | apply below_drew1) | exact HB.out))) : w.heap.size ≤ gb392)); have n3_ := Aside0.mk ((by rw [hg]; exact (below_size (by repeat (first | (with_reducible first | exact HB.out | apply below_alloc | apply pw_below_drewN | apply below_drew1) | exact HB.out))) : w.heap.size ≤ gb392)); clear HB; have HB := n0_; have BK392 := n1_; have GW392 := n2_; have GE392 := n3_; clear n0_ n1_ n2_ n3_; clear hb hbox hg; have hcz10_0 : w9.cell? ⟨gb392, 0, none⟩ = some (.int .i64 a0_0) := (blk_cell BK392.out 0).trans rfl; have hcz10_1 : w9.cell? ⟨gb392, 1, none⟩ = some (.int .i64 a0_1) := (blk_cell BK392.out 1).trans rfl; have hcz10_2 : w9.cell? ⟨gb392, 2, none⟩ = some (.int .i64 a0_2) := (blk_cell BK392.out 2).trans rfl; have hcz10_3 : w9.cell? ⟨gb392, 3, none⟩ = some (.int .i64 a0_3) := (blk_cell BK392.out 3).trans rfl; have hcz10_4 : w9.cell? ⟨gb392, 4, none⟩ = some (.int .i64 a0_4) := (blk_cell BK392.out 4).trans rfl; have hcz10_5 : w9.cell? ⟨gb392, 5, none⟩ = some (.int .i64 a0_5) := (blk_cell BK392.out 5).trans rfl; have hcz10_6 : w9.cell? ⟨gb392, 6, none⟩ = some (.int .i64 a0_6) := (blk_cell BK392.out 6).trans rfl; have hcz10_7 : w9.cell? ⟨gb392, 7, none⟩ = some (.slice A0_7 l0_7.length c0_7) := (blk_cell BK392.out 7).trans rfl; have hfz10_0 := blk_frozen BK392.out 0; have hfz10_1 := blk_frozen BK392.out 1; have hfz10_2 := blk_frozen BK392.out 2; have hfz10_3 := blk_frozen BK392.out 3; have hfz10_4 := blk_frozen BK392.out 4; have hfz10_5 := blk_frozen BK392.out 5; have hfz10_6 := blk_frozen BK392.out 6; have hfz10_7 := blk_frozen BK392.out 7) | ((with_reducible refine gate_callee (f := 16) rfl ?_); refine goesL_ (some 11) rfl rfl Try.func16 (by kernel_rfl) rfl #[.slice A0_7 l0_7.length c0_7, .int .i64 30, .int .i64 300] rfl (by (try simp only [List.map_toArray, List.map_cons, List.map_nil]); first | done | rfl | (simp only [List.length_drop, List.length_take]; rfl)) ?_; (with_reducible refine (sheetpileref03_Small.calls k _ _ l0_7 30 300 true _ ?side1 ?side2 A4.out).mono ?_); (case side1 => repeat (first | exact (Kd.C_below HR0_7.out HB.out) | (with_reducible refine Kd.C_alloc ?_ _) | (with_reducible refine Kd.C_drewN ?_ _) | (with_reducible refine Kd.C_drew ?_))); (case side2 => exact HC0_7.out); rintro e w' ⟨rfl, ⟨nd, rfl⟩⟩; refine ⟨_, rfl, ?_⟩) | ((with_reducible refine gate_callee (f := 17) rfl ?_); refine goesL_ (some 22) rfl rfl Try.func17 (by kernel_rfl) rfl #[.agg #[.int .i64 a0_0, .int .i64 a0_1, .int .i64 a0_2, .int .i64 a0_3, .int .i64 a0_4], .int .i64 a0_5, .int .i64 a0_6, .slice A0_7 l0_7.length c0_7] rfl (by (try simp only [List.map_toArray, List.map_cons, List.map_nil]); first | done | rfl | (simp only [List.length_drop, List.length_take]; rfl)) ?_; (with_reducible refine (ring_Gather.calls k a0_0 a0_1 a0_2 a0_3 a0_4 a0_5 a0_6 _ _ l0_7 t395 _ ?side1 ?side2 A6.out).mono ?_); (case side1 => repeat (first | exact (Kd.C_below HR0_7.out (by repeat (first | (with_reducible first | exact HB.out | apply below_alloc | apply pw_below_drewN | apply below_drew1 | refine below_set ?_ GE392.out) | exact HB.out))) | (with_reducible refine Kd.C_alloc ?_ _) | (with_reducible refine Kd.C_drewN ?_ _) | (with_reducible refine Kd.C_drew ?_))); (case side2 => exact HC0_7.out); rintro e w11 ⟨v396, rfl, ho0, hb⟩; refine ⟨_, rfl, ?_⟩; have n0_ := Aside0.mk (Kd.R_lower ho0 (below_size (by repeat (first | (with_reducible first | exact HB.out | apply below_alloc | apply pw_below_drewN | apply below_drew1 | refine below_set ?_ GE392.out) | exact HB.out)))); have n1_ := Aside0.mk (blk_below (g := gb392) (o := .cells #[.int .i64 a0_0, .int .i64 a0_1, .int .i64 a0_2, .int .i64 a0_3, .int .i64 a0_4, .int .i64 a0_5, .int .i64 a0_6, .slice A0_7 l0_7.length c0_7] 39 (0, 0)) (by (with_reducible repeat (first | refine blk_drewN ?_ _ | refine blk_drew ?_ | refine blk_alloc ?_ _)); exact BK392.out) hb); have n2_ := Aside0.mk (below_step (by repeat (first | (with_reducible first | exact HB.out | apply below_alloc | apply pw_below_drewN | apply below_drew1 | refine below_set ?_ GE392.out) | exact HB.out)) hb); clear BK392; clear HB; have HO397 := n0_; have BK392 := n1_; have HB := n2_; clear n0_ n1_ n2_; (try clear hb); (try clear hb2); (try clear hk); (try clear hi); (try clear ho0); have hcz12_0 : w11.cell? ⟨gb392, 0, none⟩ = some (.int .i64 a0_0) := (blk_cell BK392.out 0).trans rfl; have hcz12_1 : w11.cell? ⟨gb392, 1, none⟩ = some (.int .i64 a0_1) := (blk_cell BK392.out 1).trans rfl; have hcz12_2 : w11.cell? ⟨gb392, 2, none⟩ = some (.int .i64 a0_2) := (blk_cell BK392.out 2).trans rfl; have hcz12_3 : w11.cell? ⟨gb392, 3, none⟩ = some (.int .i64 a0_3) := (blk_cell BK392.out 3).trans rfl; have hcz12_4 : w11.cell? ⟨gb392, 4, none⟩ = some (.int .i64 a0_4) := (blk_cell BK392.out 4).trans rfl; have hcz12_5 : w11.cell? ⟨gb392, 5, none⟩ = some (.int .i64 a0_5) := (blk_cell BK392.out 5).trans rfl; have hcz12_6 : w11.cell? ⟨gb392, 6, none⟩ = some (.int .i64 a0_6) := (blk_cell BK392.out 6).trans rfl; have hcz12_7 : w11.cell? ⟨gb392, 7, none⟩ = some (.slice A0_7 l0_7.length c0_7) := (blk_cell BK392.out 7).trans rfl; have hfz12_0 := blk_frozen BK392.out 0; have hfz12_1 := blk_frozen BK392.out 1; have hfz12_2 := blk_frozen BK392.out 2; have hfz12_3 := blk_frozen BK392.out 3; have hfz12_4 := blk_frozen BK392.out 4; have hfz12_5 := blk_frozen BK392.out 5; have hfz12_6 := blk_frozen BK392.out 6; have hfz12_7 := blk_frozen BK392.out 7) | ((with_reducible refine gate_callee (f := 17) rfl ?_); refine goesL_ (some 29) rfl rfl Try.func17 (by kernel_rfl) rfl #[.agg #[.int .i64 a0_0, .int .i64 a0_1, .int .i64 a0_2, .int .i64 a0_3, .int .i64 a0_4], .int .i64 a1, .int .i64 a2, .slice A0_7 l0_7.length c0_7] rfl (by (try simp only [List.map_toArray, List.map_cons, List.map_nil]); first | done | rfl | (simp only [List.length_drop, List.length_take]; rfl)) ?_; (with_reducible refine (ring_Gather.calls k a0_0 a0_1 a0_2 a0_3 a0_4 a1 a2 _ _ l0_7 t398 _ ?side1 ?side2 A7.out).mono ?_); (case side1 => repeat (first | exact (Kd.C_below HR0_7.out HB.out) | (with_reducible refine Kd.C_alloc ?_ _) | (with_reducible refine Kd.C_drewN ?_ _) | (with_reducible refine Kd.C_drew ?_))); (case side2 => exact HC0_7.out); rintro e w13 ⟨v399, rfl, ho0, hb⟩; refine ⟨_, rfl, ?_⟩; have n0_ := Aside0.mk (Kd.R_elder' (by (with_reducible repeat (first | apply Kd.R_alloc | apply Kd.R_drewN | apply Kd.R_drew)); exact HO397.out) (Kd.R_base ho0) hb); have n1_ := Aside0.mk (Kd.R_lower (Kd.R_new' ho0 (Kd.R_lt (by (with_reducible repeat (first | apply Kd.R_alloc | apply Kd.R_drewN | apply Kd.R_drew)); exact HO397.out))) (below_size (by repeat (first | (with_reducible first | exact HB.out | apply below_alloc | apply pw_below_drewN | apply below_drew1 | refine below_set ?_ GE392.out) | exact HB.out)))); have n2_ := Aside0.mk (blk_below (g := gb392) (o := .cells #[.int .i64 a0_0, .int .i64 a0_1, .int .i64 a0_2, .int .i64 a0_3, .int .i64 a0_4, .int .i64 a0_5, .int .i64 a0_6, .slice A0_7 l0_7.length c0_7] 39 (0, 0)) (by (with_reducible repeat (first | refine blk_drewN ?_ _ | refine blk_drew ?_ | refine blk_alloc ?_ _)); exact BK392.out) hb); have n3_ := Aside0.mk (below_step (by repeat (first | (with_reducible first | exact HB.out | apply below_alloc | apply pw_below_drewN | apply below_drew1 | refine below_set ?_ GE392.out) | exact HB.out)) hb); clear HO397; clear BK392; clear HB; have HO397 := n0_; have HO400 := n1_; have BK392 := n2_; have HB := n3_; clear n0_ n1_ n2_ n3_; (try clear hb); (try clear hb2); (try clear hk); (try clear hi); (try clear ho0)))
    (try simp only [Act.put, List.setIfInBounds_toArray, List.set_cons_zero, List.set_cons_succ])
    go_cut [39] (fun v39 wc => ∃ (kq : Nat) (x39_7 : Bool), v39 = .bool x39_7 ∧ Aside0 (sheetpilelaw15_RingForeign.j0 kq t395 t398 x39_7 a0_0 a0_1 a0_2 a0_3 a0_4 a0_5 a0_6 l0_7 = some r) ∧ Aside0 (kq ≤ k) ∧ Aside0 (Kd.R k44 44 wc w.heap.size (fun k_ => some k_ ≠ (v399 : Value).ownBlock) v396 t395) ∧ Aside0 (Kd.R k44 44 wc w.heap.size (fun k_ => some k_ ≠ (v396 : Value).ownBlock) v399 t398) ∧ Aside0 (wc.heap[gb392]? = some (.cells #[.int .i64 a0_0, .int .i64 a0_1, .int .i64 a0_2, .int .i64 a0_3, .int .i64 a0_4, .int .i64 a0_5, .int .i64 a0_6, (.slice A0_7 l0_7.length c0_7)] 39 (0, 0))) ∧ Aside0 (Below w.heap.size w wc))
    case first =>
      have H := HC8.out
      clear HC8
      by_cases c14 : a1 = a0_5
      · rw [if_pos c14] at H
        have c14b0 : (a1 == a0_5) = true := beq_iff_eq.mpr c14
        have c14b1 : (a1 != a0_5) = false := bne_eq_false_iff_eq.mpr c14
        clear c14
        (first | rw [c14b0] | (simp only [i64_w, i32_w]; rw [c14b0]) | skip)
        have H' := Aside0.mk H
        clear H
        have hcz15_0 : w13.cell? ⟨gb392, 0, none⟩ = some (.int .i64 a0_0) := (blk_cell BK392.out 0).trans rfl
        have hcz15_1 : w13.cell? ⟨gb392, 1, none⟩ = some (.int .i64 a0_1) := (blk_cell BK392.out 1).trans rfl
        have hcz15_2 : w13.cell? ⟨gb392, 2, none⟩ = some (.int .i64 a0_2) := (blk_cell BK392.out 2).trans rfl
        have hcz15_3 : w13.cell? ⟨gb392, 3, none⟩ = some (.int .i64 a0_3) := (blk_cell BK392.out 3).trans rfl
        have hcz15_4 : w13.cell? ⟨gb392, 4, none⟩ = some (.int .i64 a0_4) := (blk_cell BK392.out 4).trans rfl
        have hcz15_5 : w13.cell? ⟨gb392, 5, none⟩ = some (.int .i64 a0_5) := (blk_cell BK392.out 5).trans rfl
        have hcz15_6 : w13.cell? ⟨gb392, 6, none⟩ = some (.int .i64 a0_6) := (blk_cell BK392.out 6).trans rfl
        have hcz15_7 : w13.cell? ⟨gb392, 7, none⟩ = some (.slice A0_7 l0_7.length c0_7) := (blk_cell BK392.out 7).trans rfl
        have hfz15_0 := blk_frozen BK392.out 0
        have hfz15_1 := blk_frozen BK392.out 1
        have hfz15_2 := blk_frozen BK392.out 2
        have hfz15_3 := blk_frozen BK392.out 3
        have hfz15_4 := blk_frozen BK392.out 4
        have hfz15_5 := blk_frozen BK392.out 5
        have hfz15_6 := blk_frozen BK392.out 6
        have hfz15_7 := blk_frozen BK392.out 7
        go_wp2
        go_meet
        case rel => exact ⟨_, ((a2 == a0_6)), (by first | rfl | (simp; done) | (simp [*]; done) | exact congrArg Value.bool (by cases ByteArray.toList a0 <;> rfl) | exact congrArg Value.bool (by cases ByteArray.toList a1 <;> rfl)), H', ⟨by first | omega | exact Nat.le_refl _⟩, ⟨by (with_reducible repeat (first | apply Kd.R_alloc | apply Kd.R_drewN | apply Kd.R_drew)); exact Kd.R_mono HO397.out (fun _ hk => hk.2)⟩, ⟨by (with_reducible repeat (first | apply Kd.R_alloc | apply Kd.R_drewN | apply Kd.R_drew)); exact Kd.R_mono HO400.out (fun _ hk => hk.2)⟩, ⟨by (with_reducible repeat (first | refine blk_drewN ?_ _ | refine blk_drew ?_ | refine blk_alloc ?_ _)); exact BK392.out⟩, ⟨by repeat (first | (with_reducible first | exact HB.out | apply below_alloc | apply pw_below_drewN | apply below_drew1 | refine below_set ?_ GE392.out) | exact HB.out)⟩⟩
      · rw [if_neg c14] at H
        have c14b0 : (a1 == a0_5) = false := beq_eq_false_iff_ne.mpr c14
        have c14b1 : (a1 != a0_5) = true := bne_iff_ne.mpr c14
        (first | rw [c14b0] | (simp only [i64_w, i32_w]; rw [c14b0]) | skip)
        have H' := Aside0.mk H
        clear H
        have hcz16_0 : w13.cell? ⟨gb392, 0, none⟩ = some (.int .i64 a0_0) := (blk_cell BK392.out 0).trans rfl
        have hcz16_1 : w13.cell? ⟨gb392, 1, none⟩ = some (.int .i64 a0_1) := (blk_cell BK392.out 1).trans rfl
        have hcz16_2 : w13.cell? ⟨gb392, 2, none⟩ = some (.int .i64 a0_2) := (blk_cell BK392.out 2).trans rfl
        have hcz16_3 : w13.cell? ⟨gb392, 3, none⟩ = some (.int .i64 a0_3) := (blk_cell BK392.out 3).trans rfl
        have hcz16_4 : w13.cell? ⟨gb392, 4, none⟩ = some (.int .i64 a0_4) := (blk_cell BK392.out 4).trans rfl
        have hcz16_5 : w13.cell? ⟨gb392, 5, none⟩ = some (.int .i64 a0_5) := (blk_cell BK392.out 5).trans rfl
        have hcz16_6 : w13.cell? ⟨gb392, 6, none⟩ = some (.int .i64 a0_6) := (blk_cell BK392.out 6).trans rfl
        have hcz16_7 : w13.cell? ⟨gb392, 7, none⟩ = some (.slice A0_7 l0_7.length c0_7) := (blk_cell BK392.out 7).trans rfl
        have hfz16_0 := blk_frozen BK392.out 0
        have hfz16_1 := blk_frozen BK392.out 1
        have hfz16_2 := blk_frozen BK392.out 2
        have hfz16_3 := blk_frozen BK392.out 3
        have hfz16_4 := blk_frozen BK392.out 4
        have hfz16_5 := blk_frozen BK392.out 5
        have hfz16_6 := blk_frozen BK392.out 6
        have hfz16_7 := blk_frozen BK392.out 7
        go_wp2
        go_meet
        case rel => exact ⟨_, (false), (by first | rfl | (simp; done) | (simp [*]; done) | exact congrArg Value.bool (by cases ByteArray.toList a0 <;> rfl) | exact congrArg Value.bool (by cases ByteArray.toList a1 <;> rfl)), H', ⟨by first | omega | exact Nat.le_refl _⟩, ⟨by (with_reducible repeat (first | apply Kd.R_alloc | apply Kd.R_drewN | apply Kd.R_drew)); exact Kd.R_mono HO397.out (fun _ hk => hk.2)⟩, ⟨by (with_reducible repeat (first | apply Kd.R_alloc | apply Kd.R_drewN | apply Kd.R_drew)); exact Kd.R_mono HO400.out (fun _ hk => hk.2)⟩, ⟨by (with_reducible repeat (first | refine blk_drewN ?_ _ | refine blk_drew ?_ | refine blk_alloc ?_ _)); exact BK392.out⟩, ⟨by repeat (first | (with_reducible first | exact HB.out | apply below_alloc | apply pw_below_drewN | apply below_drew1 | refine below_set ?_ GE392.out) | exact HB.out)⟩⟩
    case rest =>
      clear HC8
      try clear c1
      try clear p2
      try clear c5
      try clear c7
      try clear c14
      try clear c14b0
      try clear c14b1
      try clear c16
      try clear hcz10_0
      try clear hcz10_1
      try clear hcz10_2
      try clear hcz10_3
      try clear hcz10_4
      try clear hcz10_5
      try clear hcz10_6
      try clear hcz10_7
      try clear hcz12_0
      try clear hcz12_1
      try clear hcz12_2
      try clear hcz12_3
      try clear hcz12_4
      try clear hcz12_5
      try clear hcz12_6
      try clear hcz12_7
      try clear hcz15_0
      try clear hcz15_1
      try clear hcz15_2
      try clear hcz15_3
      try clear hcz15_4
      try clear hcz15_5
      try clear hcz15_6
      try clear hcz15_7
      try clear hcz16_0
      try clear hcz16_1
      try clear hcz16_2
      try clear hcz16_3
      try clear hcz16_4
      try clear hcz16_5
      try clear hcz16_6
      try clear hcz16_7
      try clear hfz10_0
      try clear hfz10_1
      try clear hfz10_2
      try clear hfz10_3
      try clear hfz10_4
      try clear hfz10_5
      try clear hfz10_6
      try clear hfz10_7
      try clear hfz12_0
      try clear hfz12_1
      try clear hfz12_2
      try clear hfz12_3
      try clear hfz12_4
      try clear hfz12_5
      try clear hfz12_6
      try clear hfz12_7
      try clear hfz15_0
      try clear hfz15_1
      try clear hfz15_2
      try clear hfz15_3
      try clear hfz15_4
      try clear hfz15_5
      try clear hfz15_6
      try clear hfz15_7
      try clear hfz16_0
      try clear hfz16_1
      try clear hfz16_2
      try clear hfz16_3
      try clear hfz16_4
      try clear hfz16_5
      try clear hfz16_6
      try clear hfz16_7
      obtain ⟨kq, x39_7, rfl, HA, HJ7, HO_7, HO_8, BK392, HB⟩ := hcut
      cases kq with
      | zero => exact absurd HA.out (by simp [sheetpilelaw15_RingForeign.j0])
      | succ kj7 =>
        have H := HA.out
        clear HA
        simp only [sheetpilelaw15_RingForeign.j0] at H
        by_cases c17 : x39_7 = true
        · subst c17
          have H1 : (if (t395.length : Int) = (t398.length : Int) then ((sheetpilelaw15_live.f kj7).bind fun t401 => (some t401)) else (some false)) = some r := by rw [if_pos rfl] at H; exact H
          clear H
          have H := H1
          clear H1
          by_cases c18 : (t395.length : Int) = (t398.length : Int)
          · rw [if_pos c18] at H
            have c18b0 : ((t395.length : Int) == (t398.length : Int)) = true := beq_iff_eq.mpr c18
            have c18b1 : ((t395.length : Int) != (t398.length : Int)) = false := bne_eq_false_iff_eq.mpr c18
            have c18b2 : (t395.length == t398.length) = true := by first | simpa using c18 | (simp at c18 ⊢; omega)
            clear c18
            replace H := Option.bind_eq_some_iff.mp H
            obtain ⟨t401, A190, H⟩ := H
            replace H : (some t401) = some r := H
            have A19 := Aside0.mk A190
            clear A190
            obtain rfl := Option.some.inj H
            obtain ⟨Ao20, co20, eo20⟩ := Kd.R_slice HO_7.out
            subst eo20
            obtain ⟨Ao21, co21, eo21⟩ := Kd.R_slice HO_8.out
            subst eo21
            go_wp2_with (first | (go_at_call 8; (with_reducible refine (sheetpilelaw15_live.calls kj7  t401 _ A19.out).mono ?_); rintro e w22 ⟨rfl, hb⟩; have n0_ := Aside0.mk (Kd.R_below (by (with_reducible repeat (first | apply Kd.R_alloc | apply Kd.R_drewN | apply Kd.R_drew)); exact HO_7.out) hb); have n1_ := Aside0.mk (Kd.R_below (by (with_reducible repeat (first | apply Kd.R_alloc | apply Kd.R_drewN | apply Kd.R_drew)); exact HO_8.out) hb); have n2_ := Aside0.mk (blk_below (g := gb392) (o := .cells #[.int .i64 a0_0, .int .i64 a0_1, .int .i64 a0_2, .int .i64 a0_3, .int .i64 a0_4, .int .i64 a0_5, .int .i64 a0_6, .slice A0_7 l0_7.length c0_7] 39 (0, 0)) (by (with_reducible repeat (first | refine blk_drewN ?_ _ | refine blk_drew ?_ | refine blk_alloc ?_ _)); exact BK392.out) hb); have n3_ := Aside0.mk (below_step (by repeat (first | (with_reducible first | exact HB.out | apply below_alloc | apply pw_below_drewN | apply below_drew1 | refine below_set ?_ GE392.out) | exact HB.out)) hb); clear HO_7; clear HO_8; clear BK392; clear HB; have HO_7 := n0_; have HO_8 := n1_; have BK392 := n2_; have HB := n3_; clear n0_ n1_ n2_ n3_; (try clear hb); (try clear hb2); (try clear hk); (try clear hi)))
            go_ret
            exact ⟨by first | rfl | (simp [errW_none, errW_some] <;> rfl) | (simp [*, errW_none, errW_some] <;> rfl), by repeat (first | (with_reducible first | exact HB.out | apply below_alloc | apply pw_below_drewN | apply below_drew1 | refine below_set ?_ GE392.out) | exact HB.out)⟩
          · rw [if_neg c18] at H
            have c18b0 : ((t395.length : Int) == (t398.length : Int)) = false := beq_eq_false_iff_ne.mpr c18
            have c18b1 : ((t395.length : Int) != (t398.length : Int)) = true := bne_iff_ne.mpr c18
            have c18b2 : (t395.length == t398.length) = false := by first | simpa using c18 | (simp at c18 ⊢; omega)
            obtain rfl := Option.some.inj H
            obtain ⟨Ao23, co23, eo23⟩ := Kd.R_slice HO_7.out
            subst eo23
            obtain ⟨Ao24, co24, eo24⟩ := Kd.R_slice HO_8.out
            subst eo24
            go_wp2
            go_ret
            exact ⟨by first | rfl | (simp [errW_none, errW_some] <;> rfl) | (simp [*, errW_none, errW_some] <;> rfl), by repeat (first | (with_reducible first | exact HB.out | apply below_alloc | apply pw_below_drewN | apply below_drew1 | refine below_set ?_ GE392.out) | exact HB.out)⟩
        · replace c17 := Bool.eq_false_iff.mpr c17
          subst c17
          have H1 : (if (t395.length : Int) = 0 then ((sheetpilelaw15_live.f kj7).bind fun t402 => (some t402)) else (if (wrap64 ((t395.length : Int) + (t398.length : Int))) ≤ a0_4 then ((sheetpilelaw15_live.f kj7).bind fun t403 => (some t403)) else (some false))) = some r := by rw [if_neg (show ¬ (false = true) by decide)] at H; exact H
          clear H
          have H := H1
          clear H1
          by_cases c25 : (t395.length : Int) = 0
          · rw [if_pos c25] at H
            have c25b0 : ((t395.length : Int) == 0) = true := beq_iff_eq.mpr c25
            have c25b1 : ((t395.length : Int) != 0) = false := bne_eq_false_iff_eq.mpr c25
            clear c25
            replace H := Option.bind_eq_some_iff.mp H
            obtain ⟨t402, A260, H⟩ := H
            replace H : (some t402) = some r := H
            have A26 := Aside0.mk A260
            clear A260
            obtain rfl := Option.some.inj H
            obtain ⟨Ao27, co27, eo27⟩ := Kd.R_slice HO_7.out
            subst eo27
            go_wp2_with (first | (go_at_call 8; (with_reducible refine (sheetpilelaw15_live.calls kj7  t402 _ A26.out).mono ?_); rintro e w28 ⟨rfl, hb⟩; have n0_ := Aside0.mk (Kd.R_below (by (with_reducible repeat (first | apply Kd.R_alloc | apply Kd.R_drewN | apply Kd.R_drew)); exact HO_7.out) hb); have n1_ := Aside0.mk (Kd.R_below (by (with_reducible repeat (first | apply Kd.R_alloc | apply Kd.R_drewN | apply Kd.R_drew)); exact HO_8.out) hb); have n2_ := Aside0.mk (blk_below (g := gb392) (o := .cells #[.int .i64 a0_0, .int .i64 a0_1, .int .i64 a0_2, .int .i64 a0_3, .int .i64 a0_4, .int .i64 a0_5, .int .i64 a0_6, .slice A0_7 l0_7.length c0_7] 39 (0, 0)) (by (with_reducible repeat (first | refine blk_drewN ?_ _ | refine blk_drew ?_ | refine blk_alloc ?_ _)); exact BK392.out) hb); have n3_ := Aside0.mk (below_step (by repeat (first | (with_reducible first | exact HB.out | apply below_alloc | apply pw_below_drewN | apply below_drew1 | refine below_set ?_ GE392.out) | exact HB.out)) hb); clear HO_7; clear HO_8; clear BK392; clear HB; have HO_7 := n0_; have HO_8 := n1_; have BK392 := n2_; have HB := n3_; clear n0_ n1_ n2_ n3_; (try clear hb); (try clear hb2); (try clear hk); (try clear hi)))
            go_ret
            exact ⟨by first | rfl | (simp [errW_none, errW_some] <;> rfl) | (simp [*, errW_none, errW_some] <;> rfl), by repeat (first | (with_reducible first | exact HB.out | apply below_alloc | apply pw_below_drewN | apply below_drew1 | refine below_set ?_ GE392.out) | exact HB.out)⟩
          · rw [if_neg c25] at H
            have c25b0 : ((t395.length : Int) == 0) = false := beq_eq_false_iff_ne.mpr c25
            have c25b1 : ((t395.length : Int) != 0) = true := bne_iff_ne.mpr c25
            have c25b2 : ¬ (t395 = []) := fun h_ => c25 (by rw [h_]; rfl)
            by_cases c29 : (wrap64 ((t395.length : Int) + (t398.length : Int))) ≤ a0_4
            · rw [if_pos c29] at H
              have c29b0 : decide ((wrap64 ((t395.length : Int) + (t398.length : Int))) ≤ a0_4) = true := decide_eq_true c29
              clear c29
              replace H := Option.bind_eq_some_iff.mp H
              obtain ⟨t403, A300, H⟩ := H
              replace H : (some t403) = some r := H
              have A30 := Aside0.mk A300
              clear A300
              obtain rfl := Option.some.inj H
              obtain ⟨Ao31, co31, eo31⟩ := Kd.R_slice HO_7.out
              subst eo31
              obtain ⟨Ao32, co32, eo32⟩ := Kd.R_slice HO_8.out
              subst eo32
              have hcz33_0 : wc.cell? ⟨gb392, 0, none⟩ = some (.int .i64 a0_0) := (blk_cell BK392.out 0).trans rfl
              have hcz33_1 : wc.cell? ⟨gb392, 1, none⟩ = some (.int .i64 a0_1) := (blk_cell BK392.out 1).trans rfl
              have hcz33_2 : wc.cell? ⟨gb392, 2, none⟩ = some (.int .i64 a0_2) := (blk_cell BK392.out 2).trans rfl
              have hcz33_3 : wc.cell? ⟨gb392, 3, none⟩ = some (.int .i64 a0_3) := (blk_cell BK392.out 3).trans rfl
              have hcz33_4 : wc.cell? ⟨gb392, 4, none⟩ = some (.int .i64 a0_4) := (blk_cell BK392.out 4).trans rfl
              have hcz33_5 : wc.cell? ⟨gb392, 5, none⟩ = some (.int .i64 a0_5) := (blk_cell BK392.out 5).trans rfl
              have hcz33_6 : wc.cell? ⟨gb392, 6, none⟩ = some (.int .i64 a0_6) := (blk_cell BK392.out 6).trans rfl
              have hcz33_7 : wc.cell? ⟨gb392, 7, none⟩ = some (.slice A0_7 l0_7.length c0_7) := (blk_cell BK392.out 7).trans rfl
              have hfz33_0 := blk_frozen BK392.out 0
              have hfz33_1 := blk_frozen BK392.out 1
              have hfz33_2 := blk_frozen BK392.out 2
              have hfz33_3 := blk_frozen BK392.out 3
              have hfz33_4 := blk_frozen BK392.out 4
              have hfz33_5 := blk_frozen BK392.out 5
              have hfz33_6 := blk_frozen BK392.out 6
              have hfz33_7 := blk_frozen BK392.out 7
              go_wp2_with (first | (go_at_call 8; (with_reducible refine (sheetpilelaw15_live.calls kj7  t403 _ A30.out).mono ?_); rintro e w34 ⟨rfl, hb⟩; have n0_ := Aside0.mk (Kd.R_below (by (with_reducible repeat (first | apply Kd.R_alloc | apply Kd.R_drewN | apply Kd.R_drew)); exact HO_7.out) hb); have n1_ := Aside0.mk (Kd.R_below (by (with_reducible repeat (first | apply Kd.R_alloc | apply Kd.R_drewN | apply Kd.R_drew)); exact HO_8.out) hb); have n2_ := Aside0.mk (blk_below (g := gb392) (o := .cells #[.int .i64 a0_0, .int .i64 a0_1, .int .i64 a0_2, .int .i64 a0_3, .int .i64 a0_4, .int .i64 a0_5, .int .i64 a0_6, .slice A0_7 l0_7.length c0_7] 39 (0, 0)) (by (with_reducible repeat (first | refine blk_drewN ?_ _ | refine blk_drew ?_ | refine blk_alloc ?_ _)); exact BK392.out) hb); have n3_ := Aside0.mk (below_step (by repeat (first | (with_reducible first | exact HB.out | apply below_alloc | apply pw_below_drewN | apply below_drew1 | refine below_set ?_ GE392.out) | exact HB.out)) hb); clear HO_7; clear HO_8; clear BK392; clear HB; have HO_7 := n0_; have HO_8 := n1_; have BK392 := n2_; have HB := n3_; clear n0_ n1_ n2_ n3_; (try clear hb); (try clear hb2); (try clear hk); (try clear hi)))
              go_ret
              exact ⟨by first | rfl | (simp [errW_none, errW_some] <;> rfl) | (simp [*, errW_none, errW_some] <;> rfl), by repeat (first | (with_reducible first | exact HB.out | apply below_alloc | apply pw_below_drewN | apply below_drew1 | refine below_set ?_ GE392.out) | exact HB.out)⟩
            · rw [if_neg c29] at H
              have c29b0 : decide ((wrap64 ((t395.length : Int) + (t398.length : Int))) ≤ a0_4) = false := decide_eq_false c29
              clear c29
              obtain rfl := Option.some.inj H
              obtain ⟨Ao35, co35, eo35⟩ := Kd.R_slice HO_7.out
              subst eo35
              obtain ⟨Ao36, co36, eo36⟩ := Kd.R_slice HO_8.out
              subst eo36
              have hcz37_0 : wc.cell? ⟨gb392, 0, none⟩ = some (.int .i64 a0_0) := (blk_cell BK392.out 0).trans rfl
              have hcz37_1 : wc.cell? ⟨gb392, 1, none⟩ = some (.int .i64 a0_1) := (blk_cell BK392.out 1).trans rfl
              have hcz37_2 : wc.cell? ⟨gb392, 2, none⟩ = some (.int .i64 a0_2) := (blk_cell BK392.out 2).trans rfl
              have hcz37_3 : wc.cell? ⟨gb392, 3, none⟩ = some (.int .i64 a0_3) := (blk_cell BK392.out 3).trans rfl
              have hcz37_4 : wc.cell? ⟨gb392, 4, none⟩ = some (.int .i64 a0_4) := (blk_cell BK392.out 4).trans rfl
              have hcz37_5 : wc.cell? ⟨gb392, 5, none⟩ = some (.int .i64 a0_5) := (blk_cell BK392.out 5).trans rfl
              have hcz37_6 : wc.cell? ⟨gb392, 6, none⟩ = some (.int .i64 a0_6) := (blk_cell BK392.out 6).trans rfl
              have hcz37_7 : wc.cell? ⟨gb392, 7, none⟩ = some (.slice A0_7 l0_7.length c0_7) := (blk_cell BK392.out 7).trans rfl
              have hfz37_0 := blk_frozen BK392.out 0
              have hfz37_1 := blk_frozen BK392.out 1
              have hfz37_2 := blk_frozen BK392.out 2
              have hfz37_3 := blk_frozen BK392.out 3
              have hfz37_4 := blk_frozen BK392.out 4
              have hfz37_5 := blk_frozen BK392.out 5
              have hfz37_6 := blk_frozen BK392.out 6
              have hfz37_7 := blk_frozen BK392.out 7
              go_wp2
              go_ret
              exact ⟨by first | rfl | (simp [errW_none, errW_some] <;> rfl) | (simp [*, errW_none, errW_some] <;> rfl), by repeat (first | (with_reducible first | exact HB.out | apply below_alloc | apply pw_below_drewN | apply below_drew1 | refine below_set ?_ GE392.out) | exact HB.out)⟩
  · replace c5 := Bool.eq_false_iff.mpr c5
    subst c5
    have H1 : ((sheetpilelaw15_live.f k).bind fun t394 => (some t394)) = some r := by rw [if_neg (show ¬ (false = true) by decide)] at H; exact H
    clear H
    have H := H1
    clear H1
    replace H := Option.bind_eq_some_iff.mp H
    obtain ⟨t394, A380, H⟩ := H
    replace H : (some t394) = some r := H
    have A38 := Aside0.mk A380
    clear A380
    obtain rfl := Option.some.inj H
    go_enter Try.func7, Try.ntmps7
    go_wp2_with (first | ((with_reducible refine gate_dst (N := 3) rfl ?_); (try (refine gate_guard (by rfl) ?_; dsimp only)); refine box_event ?hg (N := 3) ?hd (cs := #[.int .i64 a0_0, .int .i64 a0_1, .int .i64 a0_2, .int .i64 a0_3, .int .i64 a0_4, .int .i64 a0_5, .int .i64 a0_6, .slice A0_7 l0_7.length c0_7]) (t := 39) ?hr ?_; (case hd => rfl); (case hg => rfl); (case hr => first | (go_simp; done) | (go_simp; rfl)); intro gb392 hg w39 hbox hb; have n0_ := Aside0.mk (below_step (by repeat (first | (with_reducible first | exact HB.out | apply below_alloc | apply pw_below_drewN | apply below_drew1) | exact HB.out)) hb); have n1_ := Aside0.mk (hbox); have n2_ := Aside0.mk ((by rw [hg]; exact (below_size (by repeat (first | (with_reducible first | exact HB.out | apply below_alloc | apply pw_below_drewN | apply below_drew1) | exact HB.out))) : w.heap.size ≤ gb392)); have n3_ := Aside0.mk ((by rw [hg]; exact (below_size (by repeat (first | (with_reducible first | exact HB.out | apply below_alloc | apply pw_below_drewN | apply below_drew1) | exact HB.out))) : w.heap.size ≤ gb392)); clear HB; have HB := n0_; have BK392 := n1_; have GW392 := n2_; have GE392 := n3_; clear n0_ n1_ n2_ n3_; clear hb hbox hg; have hcz40_0 : w39.cell? ⟨gb392, 0, none⟩ = some (.int .i64 a0_0) := (blk_cell BK392.out 0).trans rfl; have hcz40_1 : w39.cell? ⟨gb392, 1, none⟩ = some (.int .i64 a0_1) := (blk_cell BK392.out 1).trans rfl; have hcz40_2 : w39.cell? ⟨gb392, 2, none⟩ = some (.int .i64 a0_2) := (blk_cell BK392.out 2).trans rfl; have hcz40_3 : w39.cell? ⟨gb392, 3, none⟩ = some (.int .i64 a0_3) := (blk_cell BK392.out 3).trans rfl; have hcz40_4 : w39.cell? ⟨gb392, 4, none⟩ = some (.int .i64 a0_4) := (blk_cell BK392.out 4).trans rfl; have hcz40_5 : w39.cell? ⟨gb392, 5, none⟩ = some (.int .i64 a0_5) := (blk_cell BK392.out 5).trans rfl; have hcz40_6 : w39.cell? ⟨gb392, 6, none⟩ = some (.int .i64 a0_6) := (blk_cell BK392.out 6).trans rfl; have hcz40_7 : w39.cell? ⟨gb392, 7, none⟩ = some (.slice A0_7 l0_7.length c0_7) := (blk_cell BK392.out 7).trans rfl; have hfz40_0 := blk_frozen BK392.out 0; have hfz40_1 := blk_frozen BK392.out 1; have hfz40_2 := blk_frozen BK392.out 2; have hfz40_3 := blk_frozen BK392.out 3; have hfz40_4 := blk_frozen BK392.out 4; have hfz40_5 := blk_frozen BK392.out 5; have hfz40_6 := blk_frozen BK392.out 6; have hfz40_7 := blk_frozen BK392.out 7) | ((with_reducible refine gate_callee (f := 16) rfl ?_); refine goesL_ (some 11) rfl rfl Try.func16 (by kernel_rfl) rfl #[.slice A0_7 l0_7.length c0_7, .int .i64 30, .int .i64 300] rfl (by (try simp only [List.map_toArray, List.map_cons, List.map_nil]); first | done | rfl | (simp only [List.length_drop, List.length_take]; rfl)) ?_; (with_reducible refine (sheetpileref03_Small.calls k _ _ l0_7 30 300 false _ ?side1 ?side2 A4.out).mono ?_); (case side1 => repeat (first | exact (Kd.C_below HR0_7.out HB.out) | (with_reducible refine Kd.C_alloc ?_ _) | (with_reducible refine Kd.C_drewN ?_ _) | (with_reducible refine Kd.C_drew ?_))); (case side2 => exact HC0_7.out); rintro e w' ⟨rfl, ⟨nd, rfl⟩⟩; refine ⟨_, rfl, ?_⟩) | ((with_reducible refine gate_callee (f := 8) rfl ?_); refine goesL_ (some 13) rfl rfl Try.func8 (by kernel_rfl) rfl #[] rfl (by (try simp only [List.map_toArray, List.map_cons, List.map_nil]); first | done | rfl | (simp only [List.length_drop, List.length_take]; rfl)) ?_; (with_reducible refine (sheetpilelaw15_live.calls k  t394 _ A38.out).mono ?_); rintro e w41 ⟨rfl, hb⟩; refine ⟨_, rfl, ?_⟩; have n0_ := Aside0.mk (blk_below (g := gb392) (o := .cells #[.int .i64 a0_0, .int .i64 a0_1, .int .i64 a0_2, .int .i64 a0_3, .int .i64 a0_4, .int .i64 a0_5, .int .i64 a0_6, .slice A0_7 l0_7.length c0_7] 39 (0, 0)) (by (with_reducible repeat (first | refine blk_drewN ?_ _ | refine blk_drew ?_ | refine blk_alloc ?_ _)); exact BK392.out) hb); have n1_ := Aside0.mk (below_step (by repeat (first | (with_reducible first | exact HB.out | apply below_alloc | apply pw_below_drewN | apply below_drew1 | refine below_set ?_ GE392.out) | exact HB.out)) hb); clear BK392; clear HB; have BK392 := n0_; have HB := n1_; clear n0_ n1_; (try clear hb); (try clear hb2); (try clear hk); (try clear hi)))
    go_ret
    exact ⟨by first | rfl | (simp [errW_none, errW_some] <;> rfl) | (simp [*, errW_none, errW_some] <;> rfl), by repeat (first | (with_reducible first | exact HB.out | apply below_alloc | apply pw_below_drewN | apply below_drew1 | refine below_set ?_ GE392.out) | exact HB.out)⟩

end Go.Proofs.Ytmnpejoolbipeaa.PRi
