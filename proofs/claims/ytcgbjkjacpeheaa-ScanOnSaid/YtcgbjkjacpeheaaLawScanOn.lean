-- Laid by a program of this session (wip/mkrow.py); checked by Lean alone
import Derived.Test.YtcgbjkjacpeheaaRows
import Derived.Test.YtcgbjkjacpeheaaPFrx23
import Derived.Test.YtcgbjkjacpeheaaPureScanOn
import Derived.Test.YtcgbjkjacpeheaaOpens
import Derived.WalkKit
import Derived.ProofKit
import Derived.OpenShut
import Derived.ShutString
import Derived.ChangeOld
import Derived.Below
import Derived.SizedLaws
namespace Go.Proofs.Ytcgbjkjacpeheaa.scanOn
open Go.ChangeShapes Go.WideShapes Go.ChangeAt Go.RowKit Go.Proofs.Ytcgbjkjacpeheaa.Opens Go.Proofs.Ytcgbjkjacpeheaa.PFr Go.Proofs.YtcgbjkjacpeheaaW.PrintWords
open Go.ChangeMaps (open_string shut_string)
set_option linter.unusedVariables false
theorem own : ownKnob Try.prog.godebug = none := by kernel_rfl
theorem laidOut : laidOutB Try.prog = true := by kernel_rfl
theorem open62 : Opens Try.prog 62 k62 (fun y => (y.f0.size ≤ 140737488351232) ∧ (y.f1.size ≤ 140737488351232) ∧ (True)) :=
  opens_struct (d := (Kd.pair Kd.string (Kd.pair Kd.string Kd.bool))) (f := fun x : S62 => (x.f0, x.f1, x.f2)) Try.underlying62 (by kernel_rfl) (opensF_cons rfl (by kernel_rfl) (opens_string Try.underlying9) (opensF_cons rfl (by kernel_rfl) (opens_string Try.underlying9) (opensF_one rfl (by kernel_rfl) (opens_bool Try.underlying4)))) (fun p => ⟨p.1, p.2.1, p.2.2⟩) (fun _ => rfl)
theorem arg1 : Opens Try.prog 55 (Kd.slice 22 (Kd.slice 62 k62)) (fun y => y.length * 24 ≤ 140737488351232 ∧ ∀ z_y ∈ y, z_y.length * 40 ≤ 140737488351232 ∧ ∀ z_z_y ∈ z_y, (z_z_y.f0.size ≤ 140737488351232) ∧ (z_z_y.f1.size ≤ 140737488351232) ∧ (True)) := (opens_slice 24 Try.underlying55 (by kernel_rfl) (by kernel_rfl) (opens_slice 40 Try.underlying22 (by kernel_rfl) (by kernel_rfl) open62))
theorem arg2 : Opens Try.prog 55 (Kd.slice 22 (Kd.slice 62 k62)) (fun y => y.length * 24 ≤ 140737488351232 ∧ ∀ z_y ∈ y, z_y.length * 40 ≤ 140737488351232 ∧ ∀ z_z_y ∈ z_y, (z_z_y.f0.size ≤ 140737488351232) ∧ (z_z_y.f1.size ≤ 140737488351232) ∧ (True)) := (opens_slice 24 Try.underlying55 (by kernel_rfl) (by kernel_rfl) (opens_slice 40 Try.underlying22 (by kernel_rfl) (by kernel_rfl) open62))
set_option maxRecDepth 100000 in
theorem lifted (os : Os) (started : os.Started) (H : Type) (enc : TypeId × Value → H) :
    ReturnsInHanded {} Try.checked os 13 .any (Rows.scanOnSpec.pre6 enc Try.prog Try.f13 Rows.scanOnRow.domain false) (Rows.scanOnSpec.post enc Try.prog Try.f13 false true false false) := by
  refine returnsInHanded_of_change_sized (C := Try.checked) own started (by kernel_rfl) Try.func13
    (ChangeSpec.witness6 (enc := enc) (C := Try.checked) false ⟨#[], #[.int .i64 0, .slice none 0 0, .slice none 0 0], []⟩ 8 (by kernel_rfl) (by kernel_rfl) (by kernel_rfl) (by kernel_rfl)) ?_
  intro W base args ds gs before hval0 hW hcnd hsz0 _
  have hsz : (DataW.weightsEach Try.prog (Try.f13.params.toList ++ Rows.scanOnSpec.plain.varTypes Try.prog) (ds ++ gs)).all (· ≤ reachBytes) = true := hsz0
  have hval : ∀ (j : Nat) t v, Try.f13.params[j]? = some t → args[j]? = some v → Value.okWide Try.prog W .any base t v := hval0
  have hW' := hW
  obtain ⟨p, q, hA0, hV, rfl, hfz, hnd⟩ := hW
  have hA : DataW.TrodAll enc Try.prog W 0 (fun _ => true) true Try.f13.params.toList args.toList ds p := hA0
  rw [Try.params13] at hA hval hsz
  obtain ⟨v0, vs0, d0, ds0, p0, q0, hargs, rfl, rfl, h0, r0⟩ := trodAll_cons hA
  obtain ⟨v1, vs1, d1, ds1, p1, q1, rfl, rfl, rfl, h1, r1⟩ := trodAll_cons r0
  obtain ⟨v2, vs2, d2, ds2, p2, q2, rfl, rfl, rfl, h2, r2⟩ := trodAll_cons r1
  obtain ⟨rfl, rfl, rfl⟩ := trodAll_nil r2
  obtain rfl : args = #[v0, v1, v2] := by cases args; simp_all
  obtain ⟨rfl, rfl⟩ := trodVars_none hV
  obtain ⟨a0, rfl, rfl, rfl, w0⟩ := open_int Try.underlying3 (hval 0 3 v0 rfl rfl) h0
  obtain ⟨b1, k1, w1⟩ := opens_arg arg1 hsz (j := 1) (t := 55) rfl rfl h1
  have ok1 := (hval 1 55 v1 rfl rfl)
  have kk1 := h1
  have lt1 : ∀ x ∈ p1, x.block < W.heap.size := by obtain ⟨m, hm⟩ := kk1; exact DataW.trod_lt m _ _ _ hm
  obtain ⟨A1, c1, e1, l1, g1⟩ := k1
  obtain rfl := slice_of Try.underlying55 ok1 e1
  obtain ⟨b2, k2, w2⟩ := opens_arg arg2 hsz (j := 2) (t := 55) rfl rfl h2
  have ok2 := (hval 2 55 v2 rfl rfl)
  have kk2 := h2
  have lt2 : ∀ x ∈ p2, x.block < W.heap.size := by obtain ⟨m, hm⟩ := kk2; exact DataW.trod_lt m _ _ _ hm
  obtain ⟨A2, c2, e2, l2, g2⟩ := k2
  obtain rfl := slice_of Try.underlying55 ok2 e2
  clear hA0 hval0 hsz0 hsz
  obtain ⟨k, hk⟩ := Pure.ScanOn a0 w0 b1 w1 b2 w2
  refine (PFr.sheetpilelaw20_ScanOn.calls (w := W) (hr1 := g1) (hc1 := l1) (hr2 := g2) (hc2 := l2) (h := hk)).mono fun e W' ⟨he, bel⟩ => ?_
  subst he
  exact ⟨_, rfl, _, _, _, [], _, [], hW', trodAll_mk1 (shut_bool Try.underlying4 _), (trodAll_cons_mk (shut_int Try.underlying3 w0) (trodAll_cons_mk (Below.trod laidOut (by kernel_rfl) (of_decide_eq_true (by kernel_rfl)) kk1 bel lt1) (trodAll_cons_mk (Below.trod laidOut (by kernel_rfl) (of_decide_eq_true (by kernel_rfl)) kk2 bel lt2) trodAll_mk0))), rfl, bel.frame _, fun h => by cases h⟩
theorem over : Rows.scanOnRow.holds Try.pinned (OpenSpec.ofChange Rows.scanOnSpec) :=
  OpenClaim.holds_of_wide 13 Try.f13 rfl rfl rfl rfl rfl rfl rfl ⟨rfl, rfl, rfl, rfl, rfl⟩ rfl rfl rfl rfl rfl (by kernel_rfl) Try.func13 (by kernel_rfl)
    (of_decide_eq_true (by kernel_rfl)) (by unfold Func.isWrapper; first | (rw [if_pos (by decide +kernel)]; kernel_rfl) | (rw [if_neg (by decide +kernel)]; exact ⟨rfl, rfl⟩))
    (fun os started H enc _ => lifted os started H enc)
theorem proved : Rows.ScanOnSaid := over
#print axioms proved
end Go.Proofs.Ytcgbjkjacpeheaa.scanOn
namespace Go.Proofs.Ytcgbjkjacpeheaa
/-- The row, under a short name, for the claim. -/
theorem scanOn_holds : Rows.ScanOnSaid := scanOn.proved
end Go.Proofs.Ytcgbjkjacpeheaa
