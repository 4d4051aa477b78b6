-- Laid by a program of this session (wip/mkrow.py); checked by Lean alone
import Derived.Test.YtggngbbkachpaaaRows
import Derived.Test.YtggngbbkachpaaaPDix26
import Derived.Test.YtggngbbkachpaaaPureDirParts
import Derived.Test.YtggngbbkachpaaaOpens
import Derived.WalkKit
import Derived.ProofKit
import Derived.OpenShut
import Derived.ShutString
import Derived.ChangeOld
import Derived.Below
import Derived.SizedLaws
namespace Go.Proofs.Ytggngbbkachpaaa.dirParts
open Go.ChangeShapes Go.WideShapes Go.ChangeAt Go.RowKit Go.Proofs.Ytggngbbkachpaaa.Opens Go.Proofs.Ytggngbbkachpaaa.PDi Go.Proofs.YtggngbbkachpaaaW.PrintWords
open Go.ChangeMaps (open_string shut_string)
set_option linter.unusedVariables false
theorem own : ownKnob Try.prog.godebug = none := by kernel_rfl
theorem laidOut : laidOutB Try.prog = true := by kernel_rfl
theorem open75 : Opens Try.prog 75 k75 (fun y => (y.f0.size ≤ 140737488351232) ∧ (y.f1.size ≤ 140737488351232)) :=
  opens_struct (d := (Kd.pair Kd.string Kd.string)) (f := fun x : S75 => (x.f0, x.f1)) Try.underlying75 (by kernel_rfl) (opensF_cons rfl (by kernel_rfl) (opens_string Try.underlying9) (opensF_one rfl (by kernel_rfl) (opens_string Try.underlying9))) (fun p => ⟨p.1, p.2⟩) (fun _ => rfl)
theorem open42 : Opens Try.prog 42 k42 (fun y => (y.f0.size ≤ 140737488351232) ∧ (y.f1.size ≤ 140737488351232) ∧ (True)) :=
  opens_struct (d := (Kd.pair Kd.string (Kd.pair Kd.string Kd.bool))) (f := fun x : S42 => (x.f0, x.f1, x.f2)) Try.underlying42 (by kernel_rfl) (opensF_cons rfl (by kernel_rfl) (opens_string Try.underlying9) (opensF_cons rfl (by kernel_rfl) (opens_string Try.underlying9) (opensF_one rfl (by kernel_rfl) (opens_bool Try.underlying4)))) (fun p => ⟨p.1, p.2.1, p.2.2⟩) (fun _ => rfl)
theorem arg0 : Opens Try.prog 22 (Kd.slice 75 k75) (fun y => y.length * 32 ≤ 140737488351232 ∧ ∀ z_y ∈ y, (z_y.f0.size ≤ 140737488351232) ∧ (z_y.f1.size ≤ 140737488351232)) := (opens_slice 32 Try.underlying22 (by kernel_rfl) (by kernel_rfl) open75)
theorem arg1 : Opens Try.prog 23 (Kd.slice 42 k42) (fun y => y.length * 40 ≤ 140737488351232 ∧ ∀ z_y ∈ y, (z_y.f0.size ≤ 140737488351232) ∧ (z_y.f1.size ≤ 140737488351232) ∧ (True)) := (opens_slice 40 Try.underlying23 (by kernel_rfl) (by kernel_rfl) open42)
set_option maxRecDepth 100000 in
theorem lifted (os : Os) (started : os.Started) (H : Type) (enc : TypeId × Value → H) :
    ReturnsInHanded {} Try.checked os 7 .any (Rows.dirPartsSpec.pre6 enc Try.prog Try.f7 Rows.dirPartsRow.domain false) (Rows.dirPartsSpec.post enc Try.prog Try.f7 false true false false) := by
  refine returnsInHanded_of_change_sized (C := Try.checked) own started (by kernel_rfl) Try.func7
    (ChangeSpec.witness6 (enc := enc) (C := Try.checked) false ⟨#[], #[.slice none 0 0, .slice none 0 0, .int .i64 0], []⟩ 8 (by kernel_rfl) (by kernel_rfl) (by kernel_rfl) (by kernel_rfl)) ?_
  intro W base args ds gs before hval0 hW hcnd hsz0 _
  have hsz : (DataW.weightsEach Try.prog (Try.f7.params.toList ++ Rows.dirPartsSpec.plain.varTypes Try.prog) (ds ++ gs)).all (· ≤ reachBytes) = true := hsz0
  have hval : ∀ (j : Nat) t v, Try.f7.params[j]? = some t → args[j]? = some v → Value.okWide Try.prog W .any base t v := hval0
  have hW' := hW
  obtain ⟨p, q, hA0, hV, rfl, hfz, hnd⟩ := hW
  have hA : DataW.TrodAll enc Try.prog W 0 (fun _ => true) true Try.f7.params.toList args.toList ds p := hA0
  rw [Try.params7] at hA hval hsz
  obtain ⟨v0, vs0, d0, ds0, p0, q0, hargs, rfl, rfl, h0, r0⟩ := trodAll_cons hA
  obtain ⟨v1, vs1, d1, ds1, p1, q1, rfl, rfl, rfl, h1, r1⟩ := trodAll_cons r0
  obtain ⟨v2, vs2, d2, ds2, p2, q2, rfl, rfl, rfl, h2, r2⟩ := trodAll_cons r1
  obtain ⟨rfl, rfl, rfl⟩ := trodAll_nil r2
  obtain rfl : args = #[v0, v1, v2] := by cases args; simp_all
  obtain ⟨rfl, rfl⟩ := trodVars_none hV
  obtain ⟨b0, k0, w0⟩ := opens_arg arg0 hsz (j := 0) (t := 22) rfl rfl h0
  have ok0 := (hval 0 22 v0 rfl rfl)
  have kk0 := h0
  have lt0 : ∀ x ∈ p0, x.block < W.heap.size := by obtain ⟨m, hm⟩ := kk0; exact DataW.trod_lt m _ _ _ hm
  obtain ⟨A0, c0, e0, l0, g0⟩ := k0
  obtain rfl := slice_of Try.underlying22 ok0 e0
  obtain ⟨b1, k1, w1⟩ := opens_arg arg1 hsz (j := 1) (t := 23) rfl rfl h1
  have ok1 := (hval 1 23 v1 rfl rfl)
  have kk1 := h1
  have lt1 : ∀ x ∈ p1, x.block < W.heap.size := by obtain ⟨m, hm⟩ := kk1; exact DataW.trod_lt m _ _ _ hm
  obtain ⟨A1, c1, e1, l1, g1⟩ := k1
  obtain rfl := slice_of Try.underlying23 ok1 e1
  obtain ⟨a2, rfl, rfl, rfl, w2⟩ := open_int Try.underlying3 (hval 2 3 v2 rfl rfl) h2
  clear hA0 hval0 hsz0 hsz
  obtain ⟨k, hk⟩ := Pure.DirParts b0 w0 b1 w1 a2 w2
  refine (PDi.sheetpilelaw21_DirParts.calls (w := W) (hr0 := g0) (hc0 := l0) (hr1 := g1) (hc1 := l1) (h := hk)).mono fun e W' ⟨he, bel⟩ => ?_
  subst he
  exact ⟨_, rfl, _, _, _, [], _, [], hW', trodAll_mk1 (shut_bool Try.underlying4 _), (trodAll_cons_mk (Below.trod laidOut (by kernel_rfl) (of_decide_eq_true (by kernel_rfl)) kk0 bel lt0) (trodAll_cons_mk (Below.trod laidOut (by kernel_rfl) (of_decide_eq_true (by kernel_rfl)) kk1 bel lt1) (trodAll_cons_mk (shut_int Try.underlying3 w2) trodAll_mk0))), rfl, bel.frame _, fun h => by cases h⟩
theorem over : Rows.dirPartsRow.holds Try.pinned (OpenSpec.ofChange Rows.dirPartsSpec) :=
  OpenClaim.holds_of_wide 7 Try.f7 rfl rfl rfl rfl rfl rfl rfl ⟨rfl, rfl, rfl, rfl, rfl⟩ rfl rfl rfl rfl rfl (by kernel_rfl) Try.func7 (by kernel_rfl)
    (of_decide_eq_true (by kernel_rfl)) (by unfold Func.isWrapper; first | (rw [if_pos (by decide +kernel)]; kernel_rfl) | (rw [if_neg (by decide +kernel)]; exact ⟨rfl, rfl⟩))
    (fun os started H enc _ => lifted os started H enc)
theorem proved : Rows.DirPartsSaid := over
#print axioms proved
end Go.Proofs.Ytggngbbkachpaaa.dirParts
namespace Go.Proofs.Ytggngbbkachpaaa
/-- The row, under a short name, for the claim. -/
theorem dirParts_holds : Rows.DirPartsSaid := dirParts.proved
end Go.Proofs.Ytggngbbkachpaaa
