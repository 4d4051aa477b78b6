/- The groups of any bytes, written again, are the bytes up to where they end; of at most 5000 bytes. -/
import Derived.Test.YtcgbjkjacpeheaaPFrx22
import Derived.Test.YtcgbjkjacpeheaaPureSc20
namespace Go.Proofs.Ytcgbjkjacpeheaa.Pure
set_option linter.unusedVariables false
set_option linter.unusedSimpArgs false
open Go.RowKit Go.Proofs.Ytcgbjkjacpeheaa.PFr Go.Proofs.Ytcgbjkjacpeheaa.Given Go.Proofs.Ytcgbjkjacpeheaa.Bs Go.Proofs.Ytcgbjkjacpeheaa.WirePlain Go.Proofs.Ytcgbjkjacpeheaa.KeyPlain Go.Proofs.Ytcgbjkjacpeheaa.RunesPlain Go.Proofs.Ytcgbjkjacpeheaa.CrcPlain Go.Proofs.YtcgbjkjacpeheaaW.PrintWords Go.Proofs.YtcgbjkjacpeheaaW.PrintLast Go.Proofs.YtcgbjkjacpeheaaW.PrintMore
theorem again_loop (x0 : ByteArray) (x4 : Int) (x3 : List S30) (hx : x3.length ≤ 1000000) (R : Option Bool) (hR : ∀ k, sheetpilelaw20_ScanAgain.l0 (k + 1) x0 x3 x4 (x3.map (fun g => g.f1)) (x3.length : Int) = R) : ∀ (d k i : Nat), i + d = x3.length → d + 1 ≤ k →
    sheetpilelaw20_ScanAgain.l0 k x0 x3 x4 ((x3.take i).map (fun g => g.f1)) (i : Int) = R
  | 0, k, i, hi, hk => by
    obtain ⟨k, rfl⟩ : ∃ m, k = m + 1 := ⟨k - 1, by omega⟩
    rw [List.take_of_length_le (by omega), show i = x3.length by omega]
    exact hR k
  | d + 1, k, i, hi, hk => by
    obtain ⟨k, rfl⟩ : ∃ m, k = m + 1 := ⟨k - 1, by omega⟩
    rw [sheetpilelaw20_ScanAgain.l0, if_pos (by omega), if_pos (by omega), if_pos (by rw [List.length_map, List.length_take]; omega), rd_get3 x3 i (by omega), wrap_succ i x3.length (by omega) (by omega)]
    have : (x3.take i).map (fun g => g.f1) ++ [x3[i].f1] = (x3.take (i + 1)).map (fun g => g.f1) := by
      rw [List.take_succ_eq_append_getElem (by omega), List.map_append]; rfl
    rw [this]
    exact again_loop x0 x4 x3 hx R hR d k (i + 1) (by omega) (by omega)
theorem ScanAgain : sheetpilelaw20_ScanAgain.Pure := by
  intro a0 ha
  obtain ⟨l, rfl⟩ := ex_bs a0
  obtain ⟨K, hK⟩ : ∃ K, K = 100000 := ⟨_, rfl⟩
  refine ⟨K + 1, ?_⟩
  unfold sheetpilelaw20_ScanAgain.f
  rw [live20, bs_size]
  by_cases h : (l.length : Int) > 5000
  · rw [if_pos h]; rfl
  · rw [if_neg h]
    obtain ⟨new, rest, h1, h2, h3, h4, h5, _⟩ := all_spec l (by omega)
    have hlen := congrArg List.length h3
    rw [List.length_append] at hlen
    have h13 := framesL_len new
    rw [h1, Option.bind_some]
    dsimp only
    rw [if_neg (by omega), if_neg (by omega)]
    cases new with
    | nil =>
      show sheetpilelaw20_ScanAgain.j0 (K + 1) (bs l) [] 0 false = _
      rw [sheetpilelaw20_ScanAgain.j0, if_neg (by simp), if_pos (by simp), live20]; rfl
    | cons g new =>
      have hne : ¬ ((g :: new).length : Int) = 0 := by rw [List.length_cons]; omega
      have hne2 : ¬ ((framesL (g :: new)).length : Int) = 0 := by rw [List.length_cons] at h13; omega
      rw [beq_false_of_ne hne, beq_false_of_ne hne2]
      show sheetpilelaw20_ScanAgain.j0 (K + 1) (bs l) (g :: new) _ false = _
      rw [sheetpilelaw20_ScanAgain.j0, if_neg (by simp), if_neg hne]
      have hnum := chain_nil h4 h5
      have hgo : ∀ x ∈ numL g.f0 ((g :: new).map (fun g => g.f1)), OkG x := fun x hx => by
        rw [← hnum] at hx
        exact ⟨(h5 x hx).1, (h5 x hx).2.1, (h5 x hx).2.2.1⟩
      have hsm : SmallL ((g :: new).map (fun g => g.f1)) := fun c hc => by
        obtain ⟨x, hx, rfl⟩ := List.mem_map.1 hc
        refine ⟨normL_sizes (h5 x hx).2.2.2, fun _ => ?_⟩
        have := framesL_mem (g :: new) x hx
        omega
      have hW := scan_Write_f g.f0 ((g :: new).map (fun g => g.f1)) hsm (by have := (h5 g List.mem_cons_self).1; omega) (by have := (h5 g List.mem_cons_self).2.1; omega) (by rw [List.length_map]; omega)
      rw [swL_good _ _ _ hgo, List.nil_append, ← hnum] at hW
      refine again_loop (bs l) _ (g :: new) (by omega) (some true) (fun k => ?_) (g :: new).length K 0 (by omega) (by omega)
      rw [sheetpilelaw20_ScanAgain.l0, if_neg (by omega), if_pos (by omega), show rd_T30 (g :: new) 0 = g from rfl, hW, Option.bind_some]
      dsimp only
      rw [if_pos (by omega), bs_size, if_pos (by omega), Int.toNat_natCast, bs_extract_zero, bs_toList, bs_toList, live20]
      rw [if_pos (by conv => rhs; rw [h3]
                     rw [List.take_left' rfl]), if_pos rfl]
      rfl
end Go.Proofs.Ytcgbjkjacpeheaa.Pure
