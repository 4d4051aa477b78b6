-- Laid by a program of this session (wip/mkrow.py); checked by Lean alone
import Derived.Test.YtmnpejoolbipeaaRows
import Derived.Test.YtmnpejoolbipeaaPRix13
import Derived.Test.YtmnpejoolbipeaaPureRingBehind
import Derived.Test.YtmnpejoolbipeaaOpens
import Derived.WalkKit
import Derived.ProofKit
import Derived.OpenShut
import Derived.ShutString
import Derived.ChangeOld
import Derived.Below
import Derived.SizedLaws
namespace Go.Proofs.Ytmnpejoolbipeaa.ringBehind
open Go.ChangeShapes Go.WideShapes Go.ChangeAt Go.RowKit Go.Proofs.Ytmnpejoolbipeaa.Opens Go.Proofs.Ytmnpejoolbipeaa.PRi Go.Proofs.YtmnpejoolbipeaaW.PrintWords
open Go.ChangeMaps (open_string shut_string)
set_option linter.unusedVariables false
theorem own : ownKnob Try.prog.godebug = none := by kernel_rfl
theorem laidOut : laidOutB Try.prog = true := by kernel_rfl
theorem open25 : Opens Try.prog 25 k25 (fun y => ((Lit.int .i64 y.f0).wf = true) ∧ ((Lit.int .i64 y.f1).wf = true) ∧ (y.f2.size ≤ 140737488351232)) :=
  opens_struct (d := (Kd.pair (Kd.int .i64) (Kd.pair (Kd.int .i64) Kd.string))) (f := fun x : S25 => (x.f0, x.f1, x.f2)) Try.underlying25 (by kernel_rfl) (opensF_cons rfl (by kernel_rfl) (opens_int Try.underlying3) (opensF_cons rfl (by kernel_rfl) (opens_int Try.underlying3) (opensF_one rfl (by kernel_rfl) (opens_string Try.underlying9)))) (fun p => ⟨p.1, p.2.1, p.2.2⟩) (fun _ => rfl)
theorem arg0 : Opens Try.prog 22 (Kd.slice 25 k25) (fun y => y.length * 32 ≤ 140737488351232 ∧ ∀ z_y ∈ y, ((Lit.int .i64 z_y.f0).wf = true) ∧ ((Lit.int .i64 z_y.f1).wf = true) ∧ (z_y.f2.size ≤ 140737488351232)) := (opens_slice 32 Try.underlying22 (by kernel_rfl) (by kernel_rfl) open25)
set_option maxRecDepth 100000 in
theorem lifted (os : Os) (started : os.Started) (H : Type) (enc : TypeId × Value → H) :
    ReturnsInHanded {} Try.checked os 6 .any (Rows.ringBehindSpec.pre6 enc Try.prog Try.f6 Rows.ringBehindRow.domain false) (Rows.ringBehindSpec.post enc Try.prog Try.f6 false true false false) := by
  refine returnsInHanded_of_change_sized (C := Try.checked) own started (by kernel_rfl) Try.func6
    (ChangeSpec.witness6 (enc := enc) (C := Try.checked) false ⟨#[], #[.slice none 0 0, .int .i64 0, .string ByteArray.empty], []⟩ 8 (by kernel_rfl) (by kernel_rfl) (by kernel_rfl) (by kernel_rfl)) ?_
  intro W base args ds gs before hval0 hW hcnd hsz0 _
  have hsz : (DataW.weightsEach Try.prog (Try.f6.params.toList ++ Rows.ringBehindSpec.plain.varTypes Try.prog) (ds ++ gs)).all (· ≤ reachBytes) = true := hsz0
  have hval : ∀ (j : Nat) t v, Try.f6.params[j]? = some t → args[j]? = some v → Value.okWide Try.prog W .any base t v := hval0
  have hW' := hW
  obtain ⟨p, q, hA0, hV, rfl, hfz, hnd⟩ := hW
  have hA : DataW.TrodAll enc Try.prog W 0 (fun _ => true) true Try.f6.params.toList args.toList ds p := hA0
  rw [Try.params6] at hA hval hsz
  obtain ⟨v0, vs0, d0, ds0, p0, q0, hargs, rfl, rfl, h0, r0⟩ := trodAll_cons hA
  obtain ⟨v1, vs1, d1, ds1, p1, q1, rfl, rfl, rfl, h1, r1⟩ := trodAll_cons r0
  obtain ⟨v2, vs2, d2, ds2, p2, q2, rfl, rfl, rfl, h2, r2⟩ := trodAll_cons r1
  obtain ⟨rfl, rfl, rfl⟩ := trodAll_nil r2
  obtain rfl : args = #[v0, v1, v2] := by cases args; simp_all
  obtain ⟨rfl, rfl⟩ := trodVars_none hV
  obtain ⟨b0, k0, w0⟩ := opens_arg arg0 hsz (j := 0) (t := 22) rfl rfl h0
  have ok0 := (hval 0 22 v0 rfl rfl)
  have kk0 := h0
  have lt0 : ∀ x ∈ p0, x.block < W.heap.size := by obtain ⟨m, hm⟩ := kk0; exact DataW.trod_lt m _ _ _ hm
  obtain ⟨A0, c0, e0, l0, g0⟩ := k0
  obtain rfl := slice_of Try.underlying22 ok0 e0
  obtain ⟨a1, rfl, rfl, rfl, w1⟩ := open_int Try.underlying3 (hval 1 3 v1 rfl rfl) h1
  obtain ⟨a2, rfl, rfl, rfl, y2⟩ := open_string Try.underlying9 (hval 2 9 v2 rfl rfl) h2
  have w2 : a2.size ≤ 140737488351232 := by
    have z := sized_string hsz (j := 2) (t := 9) rfl rfl
    rw [Array.length_toList] at z
    exact z
  clear hA0 hval0 hsz0 hsz
  obtain ⟨k, hk⟩ := Pure.RingBehind b0 w0 a1 w1 a2 w2
  refine (PRi.sheetpilelaw15_RingBehind.calls (w := W) (hr0 := g0) (hc0 := l0) (h := hk)).mono fun e W' ⟨he, bel⟩ => ?_
  subst he
  exact ⟨_, rfl, _, _, _, [], _, [], hW', trodAll_mk1 (shut_bool Try.underlying4 _), (trodAll_cons_mk (Below.trod laidOut (by kernel_rfl) (of_decide_eq_true (by kernel_rfl)) kk0 bel lt0) (trodAll_cons_mk (shut_int Try.underlying3 w1) (trodAll_cons_mk (shut_string Try.underlying9 y2) trodAll_mk0))), rfl, bel.frame _, fun h => by cases h⟩
theorem over : Rows.ringBehindRow.holds Try.pinned (OpenSpec.ofChange Rows.ringBehindSpec) :=
  OpenClaim.holds_of_wide 6 Try.f6 rfl rfl rfl rfl rfl rfl rfl ⟨rfl, rfl, rfl, rfl, rfl⟩ rfl rfl rfl rfl rfl (by kernel_rfl) Try.func6 (by kernel_rfl)
    (of_decide_eq_true (by kernel_rfl)) (by unfold Func.isWrapper; first | (rw [if_pos (by decide +kernel)]; kernel_rfl) | (rw [if_neg (by decide +kernel)]; exact ⟨rfl, rfl⟩))
    (fun os started H enc _ => lifted os started H enc)
theorem proved : Rows.RingBehindSaid := over
#print axioms proved
end Go.Proofs.Ytmnpejoolbipeaa.ringBehind
namespace Go.Proofs.Ytmnpejoolbipeaa
/-- The row, under a short name, for the claim. -/
theorem ringBehind_holds : Rows.RingBehindSaid := ringBehind.proved
end Go.Proofs.Ytmnpejoolbipeaa
