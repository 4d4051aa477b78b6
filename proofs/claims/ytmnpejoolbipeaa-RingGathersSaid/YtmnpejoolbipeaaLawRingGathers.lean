-- Laid by a program of this session (wip/mkrow.py); checked by Lean alone
import Derived.Test.YtmnpejoolbipeaaRows
import Derived.Test.YtmnpejoolbipeaaPRix17
import Derived.Test.YtmnpejoolbipeaaPureRingGathers
import Derived.Test.YtmnpejoolbipeaaOpens
import Derived.WalkKit
import Derived.ProofKit
import Derived.OpenShut
import Derived.ShutString
import Derived.ChangeOld
import Derived.Below
import Derived.SizedLaws
namespace Go.Proofs.Ytmnpejoolbipeaa.ringGathers
open Go.ChangeShapes Go.WideShapes Go.ChangeAt Go.RowKit Go.Proofs.Ytmnpejoolbipeaa.Opens Go.Proofs.Ytmnpejoolbipeaa.PRi Go.Proofs.YtmnpejoolbipeaaW.PrintWords
open Go.ChangeMaps (open_string shut_string)
set_option linter.unusedVariables false
theorem own : ownKnob Try.prog.godebug = none := by kernel_rfl
theorem laidOut : laidOutB Try.prog = true := by kernel_rfl
structure S36 where
  f0 : Int
  f1 : Int
  f2 : Int
  f3 : Int
  f4 : Int
def k36 : Kd S36 := Kd.iso (Kd.pair (Kd.int .i64) (Kd.pair (Kd.int .i64) (Kd.pair (Kd.int .i64) (Kd.pair (Kd.int .i64) (Kd.int .i64))))) (fun x : S36 => (x.f0, x.f1, x.f2, x.f3, x.f4))
theorem k36_open {w : World} {x : S36} {cs : List Value} (h : k36.K w x cs) : cs = [.int .i64 x.f0, .int .i64 x.f1, .int .i64 x.f2, .int .i64 x.f3, .int .i64 x.f4] := by
  obtain ⟨_, _, rfl, rfl, ⟨_, _, rfl, rfl, ⟨_, _, rfl, rfl, ⟨_, _, rfl, rfl, rfl⟩⟩⟩⟩ := h
  exact rfl
structure S39 where
  f0 : S36
  f1 : Int
  f2 : Int
  f3 : (List ByteArray)
def k39 : Kd S39 := Kd.iso (Kd.pair k36 (Kd.pair (Kd.int .i64) (Kd.pair (Kd.int .i64) (Kd.slice 9 Kd.string)))) (fun x : S39 => (x.f0, x.f1, x.f2, x.f3))
theorem k39_open {w : World} {x : S39} {cs : List Value} (h : k39.K w x cs) : ∃ A7 c7, cs = [.int .i64 x.f0.f0, .int .i64 x.f0.f1, .int .i64 x.f0.f2, .int .i64 x.f0.f3, .int .i64 x.f0.f4, .int .i64 x.f1, .int .i64 x.f2, .slice A7 x.f3.length c7] ∧ x.f3.length ≤ c7 ∧ Kd.C Kd.string w A7 x.f3.length x.f3 := by
  obtain ⟨_, _, rfl, ⟨_, _, rfl, rfl, ⟨_, _, rfl, rfl, ⟨_, _, rfl, rfl, ⟨_, _, rfl, rfl, rfl⟩⟩⟩⟩, ⟨_, _, rfl, rfl, ⟨_, _, rfl, rfl, ⟨A_, c_, rfl, l_, g_⟩⟩⟩⟩ := h
  exact ⟨A_, c_, rfl, l_, g_⟩
theorem open36 : Opens Try.prog 36 k36 (fun y => ((Lit.int .i64 y.f0).wf = true) ∧ ((Lit.int .i64 y.f1).wf = true) ∧ ((Lit.int .i64 y.f2).wf = true) ∧ ((Lit.int .i64 y.f3).wf = true) ∧ ((Lit.int .i64 y.f4).wf = true)) :=
  opens_struct (d := (Kd.pair (Kd.int .i64) (Kd.pair (Kd.int .i64) (Kd.pair (Kd.int .i64) (Kd.pair (Kd.int .i64) (Kd.int .i64)))))) (f := fun x : S36 => (x.f0, x.f1, x.f2, x.f3, x.f4)) Try.underlying36 (by kernel_rfl) (opensF_cons rfl (by kernel_rfl) (opens_int Try.underlying3) (opensF_cons rfl (by kernel_rfl) (opens_int Try.underlying3) (opensF_cons rfl (by kernel_rfl) (opens_int Try.underlying3) (opensF_cons rfl (by kernel_rfl) (opens_int Try.underlying3) (opensF_one rfl (by kernel_rfl) (opens_int Try.underlying3)))))) (fun p => ⟨p.1, p.2.1, p.2.2.1, p.2.2.2.1, p.2.2.2.2⟩) (fun _ => rfl)
theorem open39 : Opens Try.prog 39 k39 (fun y => (((Lit.int .i64 y.f0.f0).wf = true) ∧ ((Lit.int .i64 y.f0.f1).wf = true) ∧ ((Lit.int .i64 y.f0.f2).wf = true) ∧ ((Lit.int .i64 y.f0.f3).wf = true) ∧ ((Lit.int .i64 y.f0.f4).wf = true)) ∧ ((Lit.int .i64 y.f1).wf = true) ∧ ((Lit.int .i64 y.f2).wf = true) ∧ (y.f3.length * 16 ≤ 140737488351232 ∧ ∀ z_yf3 ∈ y.f3, z_yf3.size ≤ 140737488351232)) :=
  opens_struct (d := (Kd.pair k36 (Kd.pair (Kd.int .i64) (Kd.pair (Kd.int .i64) (Kd.slice 9 Kd.string))))) (f := fun x : S39 => (x.f0, x.f1, x.f2, x.f3)) Try.underlying39 (by kernel_rfl) (opensF_cons rfl (by kernel_rfl) open36 (opensF_cons rfl (by kernel_rfl) (opens_int Try.underlying3) (opensF_cons rfl (by kernel_rfl) (opens_int Try.underlying3) (opensF_one rfl (by kernel_rfl) (opens_slice 16 Try.underlying37 (by kernel_rfl) (by kernel_rfl) (opens_string Try.underlying9)))))) (fun p => ⟨p.1, p.2.1, p.2.2.1, p.2.2.2⟩) (fun _ => rfl)
theorem arg0 : Opens Try.prog 39 k39 (fun y => (((Lit.int .i64 y.f0.f0).wf = true) ∧ ((Lit.int .i64 y.f0.f1).wf = true) ∧ ((Lit.int .i64 y.f0.f2).wf = true) ∧ ((Lit.int .i64 y.f0.f3).wf = true) ∧ ((Lit.int .i64 y.f0.f4).wf = true)) ∧ ((Lit.int .i64 y.f1).wf = true) ∧ ((Lit.int .i64 y.f2).wf = true) ∧ (y.f3.length * 16 ≤ 140737488351232 ∧ ∀ z_yf3 ∈ y.f3, z_yf3.size ≤ 140737488351232)) := open39
set_option maxRecDepth 100000 in
theorem lifted (os : Os) (started : os.Started) (H : Type) (enc : TypeId × Value → H) :
    ReturnsInHanded {} Try.checked os 4 .any (Rows.ringGathersSpec.pre6 enc Try.prog Try.f4 Rows.ringGathersRow.domain false) (Rows.ringGathersSpec.post enc Try.prog Try.f4 false true false false) := by
  refine returnsInHanded_of_change_sized (C := Try.checked) own started (by kernel_rfl) Try.func4
    (ChangeSpec.witness6 (enc := enc) (C := Try.checked) false ⟨#[], #[.agg #[.int .i64 0, .int .i64 0, .int .i64 0, .int .i64 0, .int .i64 0, .int .i64 0, .int .i64 0, .slice none 0 0]], []⟩ 8 (by kernel_rfl) (by kernel_rfl) (by kernel_rfl) (by kernel_rfl)) ?_
  intro W base args ds gs before hval0 hW hcnd hsz0 _
  have hsz : (DataW.weightsEach Try.prog (Try.f4.params.toList ++ Rows.ringGathersSpec.plain.varTypes Try.prog) (ds ++ gs)).all (· ≤ reachBytes) = true := hsz0
  have hval : ∀ (j : Nat) t v, Try.f4.params[j]? = some t → args[j]? = some v → Value.okWide Try.prog W .any base t v := hval0
  have hW' := hW
  obtain ⟨p, q, hA0, hV, rfl, hfz, hnd⟩ := hW
  have hA : DataW.TrodAll enc Try.prog W 0 (fun _ => true) true Try.f4.params.toList args.toList ds p := hA0
  rw [Try.params4] at hA hval hsz
  obtain ⟨v0, vs0, d0, ds0, p0, q0, hargs, rfl, rfl, h0, r0⟩ := trodAll_cons hA
  obtain ⟨rfl, rfl, rfl⟩ := trodAll_nil r0
  obtain rfl : args = #[v0] := by cases args; simp_all
  obtain ⟨rfl, rfl⟩ := trodVars_none hV
  obtain ⟨b0, k0, w0⟩ := opens_arg arg0 hsz (j := 0) (t := 39) rfl rfl h0
  have ok0 := (hval 0 39 v0 rfl rfl)
  have kk0 := h0
  have lt0 : ∀ x ∈ p0, x.block < W.heap.size := by obtain ⟨m, hm⟩ := kk0; exact DataW.trod_lt m _ _ _ hm
  obtain ⟨A0_7, c0_7, e0, l0_7, g0_7⟩ := k39_open k0
  obtain rfl := agg_of Try.underlying39 ok0 e0
  clear hA0 hval0 hsz0 hsz
  obtain ⟨k, hk⟩ := Pure.RingGathers b0.f0.f0 b0.f0.f1 b0.f0.f2 b0.f0.f3 b0.f0.f4 b0.f1 b0.f2 b0.f3 w0
  refine (PRi.sheetpilelaw15_RingGathers.calls (w := W) (hr0_7 := g0_7) (hc0_7 := l0_7) (h := hk)).mono fun e W' ⟨he, bel⟩ => ?_
  subst he
  exact ⟨_, rfl, _, _, _, [], _, [], hW', trodAll_mk1 (shut_bool Try.underlying4 _), (trodAll_cons_mk (Below.trod laidOut (by kernel_rfl) (of_decide_eq_true (by kernel_rfl)) kk0 bel lt0) trodAll_mk0), rfl, bel.frame _, fun h => by cases h⟩
theorem over : Rows.ringGathersRow.holds Try.pinned (OpenSpec.ofChange Rows.ringGathersSpec) :=
  OpenClaim.holds_of_wide 4 Try.f4 rfl rfl rfl rfl rfl rfl rfl ⟨rfl, rfl, rfl, rfl, rfl⟩ rfl rfl rfl rfl rfl (by kernel_rfl) Try.func4 (by kernel_rfl)
    (of_decide_eq_true (by kernel_rfl)) (by unfold Func.isWrapper; first | (rw [if_pos (by decide +kernel)]; kernel_rfl) | (rw [if_neg (by decide +kernel)]; exact ⟨rfl, rfl⟩))
    (fun os started H enc _ => lifted os started H enc)
theorem proved : Rows.RingGathersSaid := over
#print axioms proved
end Go.Proofs.Ytmnpejoolbipeaa.ringGathers
namespace Go.Proofs.Ytmnpejoolbipeaa
/-- The row, under a short name, for the claim. -/
theorem ringGathers_holds : Rows.RingGathersSaid := ringGathers.proved
end Go.Proofs.Ytmnpejoolbipeaa
