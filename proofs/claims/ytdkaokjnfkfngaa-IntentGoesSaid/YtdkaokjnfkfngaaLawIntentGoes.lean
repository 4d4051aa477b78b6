-- Laid by a program of this session (wip/mkrow.py); checked by Lean alone
import Derived.Test.YtdkaokjnfkfngaaRows
import Derived.Test.YtdkaokjnfkfngaaPIntx8
import Derived.Test.YtdkaokjnfkfngaaPureIntentGoes
import Derived.Test.YtdkaokjnfkfngaaOpens
import Derived.WalkKit
import Derived.ProofKit
import Derived.OpenShut
import Derived.ShutString
import Derived.ChangeOld
import Derived.Below
import Derived.SizedLaws
namespace Go.Proofs.Ytdkaokjnfkfngaa.intentGoes
open Go.ChangeShapes Go.WideShapes Go.ChangeAt Go.RowKit Go.Proofs.Ytdkaokjnfkfngaa.Opens Go.Proofs.Ytdkaokjnfkfngaa.PInt Go.Proofs.YtdkaokjnfkfngaaW.PrintWords
open Go.ChangeMaps (open_string shut_string)
set_option linter.unusedVariables false
theorem own : ownKnob Try.prog.godebug = none := by kernel_rfl
theorem laidOut : laidOutB Try.prog = true := by kernel_rfl
structure S49 where
  f0 : Int
  f1 : Int
  f2 : Int
  f3 : Int
  f4 : Int
def k49 : Kd S49 := Kd.iso (Kd.pair (Kd.int .i64) (Kd.pair (Kd.int .i64) (Kd.pair (Kd.int .i64) (Kd.pair (Kd.int .i64) (Kd.int .i64))))) (fun x : S49 => (x.f0, x.f1, x.f2, x.f3, x.f4))
theorem k49_open {w : World} {x : S49} {cs : List Value} (h : k49.K w x cs) : cs = [.int .i64 x.f0, .int .i64 x.f1, .int .i64 x.f2, .int .i64 x.f3, .int .i64 x.f4] := by
  obtain ⟨_, _, rfl, rfl, ⟨_, _, rfl, rfl, ⟨_, _, rfl, rfl, ⟨_, _, rfl, rfl, rfl⟩⟩⟩⟩ := h
  exact rfl
structure S51 where
  f0 : S49
  f1 : Int
  f2 : Int
  f3 : ByteArray
def k51 : Kd S51 := Kd.iso (Kd.pair k49 (Kd.pair (Kd.int .i64) (Kd.pair (Kd.int .i64) Kd.string))) (fun x : S51 => (x.f0, x.f1, x.f2, x.f3))
theorem k51_open {w : World} {x : S51} {cs : List Value} (h : k51.K w x cs) : cs = [.int .i64 x.f0.f0, .int .i64 x.f0.f1, .int .i64 x.f0.f2, .int .i64 x.f0.f3, .int .i64 x.f0.f4, .int .i64 x.f1, .int .i64 x.f2, .string x.f3] := by
  obtain ⟨_, _, rfl, ⟨_, _, rfl, rfl, ⟨_, _, rfl, rfl, ⟨_, _, rfl, rfl, ⟨_, _, rfl, rfl, rfl⟩⟩⟩⟩, ⟨_, _, rfl, rfl, ⟨_, _, rfl, rfl, rfl⟩⟩⟩ := h
  exact rfl
theorem open49 : Opens Try.prog 49 k49 (fun y => ((Lit.int .i64 y.f0).wf = true) ∧ ((Lit.int .i64 y.f1).wf = true) ∧ ((Lit.int .i64 y.f2).wf = true) ∧ ((Lit.int .i64 y.f3).wf = true) ∧ ((Lit.int .i64 y.f4).wf = true)) :=
  opens_struct (d := (Kd.pair (Kd.int .i64) (Kd.pair (Kd.int .i64) (Kd.pair (Kd.int .i64) (Kd.pair (Kd.int .i64) (Kd.int .i64)))))) (f := fun x : S49 => (x.f0, x.f1, x.f2, x.f3, x.f4)) Try.underlying49 (by kernel_rfl) (opensF_cons rfl (by kernel_rfl) (opens_int Try.underlying3) (opensF_cons rfl (by kernel_rfl) (opens_int Try.underlying3) (opensF_cons rfl (by kernel_rfl) (opens_int Try.underlying3) (opensF_cons rfl (by kernel_rfl) (opens_int Try.underlying3) (opensF_one rfl (by kernel_rfl) (opens_int Try.underlying3)))))) (fun p => ⟨p.1, p.2.1, p.2.2.1, p.2.2.2.1, p.2.2.2.2⟩) (fun _ => rfl)
theorem open51 : Opens Try.prog 51 k51 (fun y => (((Lit.int .i64 y.f0.f0).wf = true) ∧ ((Lit.int .i64 y.f0.f1).wf = true) ∧ ((Lit.int .i64 y.f0.f2).wf = true) ∧ ((Lit.int .i64 y.f0.f3).wf = true) ∧ ((Lit.int .i64 y.f0.f4).wf = true)) ∧ ((Lit.int .i64 y.f1).wf = true) ∧ ((Lit.int .i64 y.f2).wf = true) ∧ (y.f3.size ≤ 140737488351232)) :=
  opens_struct (d := (Kd.pair k49 (Kd.pair (Kd.int .i64) (Kd.pair (Kd.int .i64) Kd.string)))) (f := fun x : S51 => (x.f0, x.f1, x.f2, x.f3)) Try.underlying51 (by kernel_rfl) (opensF_cons rfl (by kernel_rfl) open49 (opensF_cons rfl (by kernel_rfl) (opens_int Try.underlying3) (opensF_cons rfl (by kernel_rfl) (opens_int Try.underlying3) (opensF_one rfl (by kernel_rfl) (opens_string Try.underlying9))))) (fun p => ⟨p.1, p.2.1, p.2.2.1, p.2.2.2⟩) (fun _ => rfl)
theorem arg0 : Opens Try.prog 51 k51 (fun y => (((Lit.int .i64 y.f0.f0).wf = true) ∧ ((Lit.int .i64 y.f0.f1).wf = true) ∧ ((Lit.int .i64 y.f0.f2).wf = true) ∧ ((Lit.int .i64 y.f0.f3).wf = true) ∧ ((Lit.int .i64 y.f0.f4).wf = true)) ∧ ((Lit.int .i64 y.f1).wf = true) ∧ ((Lit.int .i64 y.f2).wf = true) ∧ (y.f3.size ≤ 140737488351232)) := open51
set_option maxRecDepth 100000 in
theorem lifted (os : Os) (started : os.Started) (H : Type) (enc : TypeId × Value → H) :
    ReturnsInHanded {} Try.checked os 12 .any (Rows.intentGoesSpec.pre6 enc Try.prog Try.f12 Rows.intentGoesRow.domain false) (Rows.intentGoesSpec.post enc Try.prog Try.f12 false true false false) := by
  refine returnsInHanded_of_change_sized (C := Try.checked) own started (by kernel_rfl) Try.func12
    (ChangeSpec.witness6 (enc := enc) (C := Try.checked) false ⟨#[], #[.agg #[.int .i64 0, .int .i64 0, .int .i64 0, .int .i64 0, .int .i64 0, .int .i64 0, .int .i64 0, .string ByteArray.empty]], []⟩ 8 (by kernel_rfl) (by kernel_rfl) (by kernel_rfl) (by kernel_rfl)) ?_
  intro W base args ds gs before hval0 hW hcnd hsz0 _
  have hsz : (DataW.weightsEach Try.prog (Try.f12.params.toList ++ Rows.intentGoesSpec.plain.varTypes Try.prog) (ds ++ gs)).all (· ≤ reachBytes) = true := hsz0
  have hval : ∀ (j : Nat) t v, Try.f12.params[j]? = some t → args[j]? = some v → Value.okWide Try.prog W .any base t v := hval0
  have hW' := hW
  obtain ⟨p, q, hA0, hV, rfl, hfz, hnd⟩ := hW
  have hA : DataW.TrodAll enc Try.prog W 0 (fun _ => true) true Try.f12.params.toList args.toList ds p := hA0
  rw [Try.params12] at hA hval hsz
  obtain ⟨v0, vs0, d0, ds0, p0, q0, hargs, rfl, rfl, h0, r0⟩ := trodAll_cons hA
  obtain ⟨rfl, rfl, rfl⟩ := trodAll_nil r0
  obtain rfl : args = #[v0] := by cases args; simp_all
  obtain ⟨rfl, rfl⟩ := trodVars_none hV
  obtain ⟨b0, k0, w0⟩ := opens_arg arg0 hsz (j := 0) (t := 51) rfl rfl h0
  have ok0 := (hval 0 51 v0 rfl rfl)
  have kk0 := h0
  have lt0 : ∀ x ∈ p0, x.block < W.heap.size := by obtain ⟨m, hm⟩ := kk0; exact DataW.trod_lt m _ _ _ hm
  have e0 := k51_open k0
  obtain rfl := agg_of Try.underlying51 ok0 e0
  clear hA0 hval0 hsz0 hsz
  obtain ⟨k, hk⟩ := Pure.IntentGoes b0.f0.f0 b0.f0.f1 b0.f0.f2 b0.f0.f3 b0.f0.f4 b0.f1 b0.f2 b0.f3 w0
  refine (PInt.sheetpilelaw14_IntentGoes.calls (w := W)  (h := hk)).mono fun e W' ⟨he, bel⟩ => ?_
  subst he
  exact ⟨_, rfl, _, _, _, [], _, [], hW', trodAll_mk1 (shut_bool Try.underlying4 _), (trodAll_cons_mk (Below.trod laidOut (by kernel_rfl) (of_decide_eq_true (by kernel_rfl)) kk0 bel lt0) trodAll_mk0), rfl, bel.frame _, fun h => by cases h⟩
theorem over : Rows.intentGoesRow.holds Try.pinned (OpenSpec.ofChange Rows.intentGoesSpec) :=
  OpenClaim.holds_of_wide 12 Try.f12 rfl rfl rfl rfl rfl rfl rfl ⟨rfl, rfl, rfl, rfl, rfl⟩ rfl rfl rfl rfl rfl (by kernel_rfl) Try.func12 (by kernel_rfl)
    (of_decide_eq_true (by kernel_rfl)) (by unfold Func.isWrapper; first | (rw [if_pos (by decide +kernel)]; kernel_rfl) | (rw [if_neg (by decide +kernel)]; exact ⟨rfl, rfl⟩))
    (fun os started H enc _ => lifted os started H enc)
theorem proved : Rows.IntentGoesSaid := over
#print axioms proved
end Go.Proofs.Ytdkaokjnfkfngaa.intentGoes
namespace Go.Proofs.Ytdkaokjnfkfngaa
/-- The row, under a short name, for the claim. -/
theorem intentGoes_holds : Rows.IntentGoesSaid := intentGoes.proved
end Go.Proofs.Ytdkaokjnfkfngaa
