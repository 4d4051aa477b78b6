-- Laid by a program of this session (wip/mkprint.py); checked by Lean alone
import Derived.Test.YtggngbbkachpaaaPDix0
import Derived.Test.YtggngbbkachpaaaPDix9
import Derived.Test.YtggngbbkachpaaaPDix10
import Derived.Test.YtggngbbkachpaaaDirApply
import Derived.Test.YtggngbbkachpaaaDirCompact
import Derived.Test.YtggngbbkachpaaaDirGet
import Derived.Test.YtggngbbkachpaaaDirHint
namespace Go.Proofs.Ytggngbbkachpaaa.Given
end Go.Proofs.Ytggngbbkachpaaa.Given
namespace Go.Proofs.Ytggngbbkachpaaa.PDi
open Go.Proofs.Ytggngbbkachpaaa.Given
open Go.RowKit Go.Proofs.YtggngbbkachpaaaW.PrintWords Go.Proofs.YtggngbbkachpaaaW.PrintLast Go.Proofs.YtggngbbkachpaaaW.PrintMore
attribute [local go_sem] max2_int min2_int max_two min_two max_three min_three max_four min_four   -- for this text's walks alone
set_option linter.unusedVariables false
set_option linter.unusedSimpArgs false

attribute [local go_sem] isSome_setCell_ binOp_geq_ binOp_leq_ binOp_gtr_
-- given: function 28 (dir_Hint)

/-! ### sheetpilelaw21_live0: function 17 -/
def sheetpilelaw21_live0.f (k : Nat)  : Option (Bool) := (dir_Apply.f ([] : List (S75)) (([(⟨(⟨#[98]⟩ : ByteArray), (⟨#[50]⟩ : ByteArray), false⟩ : S42), (⟨(⟨#[97]⟩ : ByteArray), (⟨#[49]⟩ : ByteArray), false⟩ : S42), (⟨(⟨#[98]⟩ : ByteArray), (⟨#[]⟩ : ByteArray), true⟩ : S42), (⟨(⟨#[99]⟩ : ByteArray), (⟨#[]⟩ : ByteArray), false⟩ : S42)] : List (S42)))).bind fun t163 => ((dir_Get.f t163 (⟨#[97]⟩ : ByteArray)).bind fun bt166 => ((dir_Get.f t163 (⟨#[98]⟩ : ByteArray)).bind fun bt168 => ((dir_Hint.f t163).bind fun bt170 => ((dir_Read.f k bt170.1).bind fun bt172 => ((dir_Read.f k (⟨#[72, 73, 78, 84]⟩ : ByteArray)).bind fun bt176 => ((dir_Hint.f (([(⟨(⟨#[98]⟩ : ByteArray), (⟨#[]⟩ : ByteArray)⟩ : S75), (⟨(⟨#[97]⟩ : ByteArray), (⟨#[]⟩ : ByteArray)⟩ : S75)] : List (S75)))).bind fun bt183 => ((dir_Compact.f t163).bind fun t185 => ((sheetpileref21_Same.f k t163 (([(⟨(⟨#[97]⟩ : ByteArray), (⟨#[49]⟩ : ByteArray)⟩ : S75), (⟨(⟨#[99]⟩ : ByteArray), (⟨#[]⟩ : ByteArray)⟩ : S75)] : List (S75)))).bind fun t191 => (if t191 = true then (if bt166.1.toList = ([49] : List UInt8) then (if bt166.2 = true then (if bt168.2 = true then (some false) else (if bt170.2 = 0 then ((sheetpileref21_Same.f k bt172.1 t163).bind fun t192 => (if t192 = true then (if bt172.2 = 0 then (if bt176.2 = 5 then (if bt183.2 = 1 then (if (t185.length : Int) = 1 then (if 0 < (t185.length : Int) then (if ((rd_L6 t185 0).length : Int) = 2 then ((dir_May.f k t163).bind fun t194 => (some t194)) else (some false)) else (none)) else (some false)) else (some false)) else (some false)) else (some false)) else (some false))) else (some false))) else (some false)) else (some false)) else (some false))))))))))
theorem sheetpilelaw21_live0.mono : ∀ k, LeO (sheetpilelaw21_live0.f k ) (sheetpilelaw21_live0.f (k + 1) ) := by
  intro  k
  unfold sheetpilelaw21_live0.f
  repeat' first
      | (with_reducible exact dir_May.mono _ _)
      | (with_reducible exact dir_Read.mono _ _)
      | (with_reducible exact sheetpileref21_Same.mono _ _ _)
      | (with_reducible exact LeO.refl _)
      | (with_reducible exact LeO.none _)
      | (with_reducible refine LeO.ite ?_ ?_)
      | (with_reducible refine LeO.bind ?_ (fun _ => ?_))
      | exact dir_May.mono _ _
      | exact dir_Read.mono _ _
      | exact sheetpileref21_Same.mono _ _ _
      | exact LeO.none _
      | refine LeO.ite ?_ ?_
      | refine LeO.bind ?_ (fun _ => ?_)
set_option maxHeartbeats 8000000 in
set_option maxRecDepth 100000 in
theorem sheetpilelaw21_live0.calls (k : Nat)  (w : World) (h : sheetpilelaw21_live0.f k  = some true) :
    Calls Try.prog 17 #[] w fun e w' => e = .returned (.bool true) ∧ Below w.heap.size w w' := by
  have hu42 := Try.underlying42
  have hu75 := Try.underlying75
  have HB := Aside0.mk (Below.refl w.heap.size w)
  have H : ((dir_Apply.f ([] : List (S75)) (([(⟨(⟨#[98]⟩ : ByteArray), (⟨#[50]⟩ : ByteArray), false⟩ : S42), (⟨(⟨#[97]⟩ : ByteArray), (⟨#[49]⟩ : ByteArray), false⟩ : S42), (⟨(⟨#[98]⟩ : ByteArray), (⟨#[]⟩ : ByteArray), true⟩ : S42), (⟨(⟨#[99]⟩ : ByteArray), (⟨#[]⟩ : ByteArray), false⟩ : S42)] : List (S42)))).bind fun t163 => ((dir_Get.f t163 (⟨#[97]⟩ : ByteArray)).bind fun bt166 => ((dir_Get.f t163 (⟨#[98]⟩ : ByteArray)).bind fun bt168 => ((dir_Hint.f t163).bind fun bt170 => ((dir_Read.f k bt170.1).bind fun bt172 => ((dir_Read.f k (⟨#[72, 73, 78, 84]⟩ : ByteArray)).bind fun bt176 => ((dir_Hint.f (([(⟨(⟨#[98]⟩ : ByteArray), (⟨#[]⟩ : ByteArray)⟩ : S75), (⟨(⟨#[97]⟩ : ByteArray), (⟨#[]⟩ : ByteArray)⟩ : S75)] : List (S75)))).bind fun bt183 => ((dir_Compact.f t163).bind fun t185 => ((sheetpileref21_Same.f k t163 (([(⟨(⟨#[97]⟩ : ByteArray), (⟨#[49]⟩ : ByteArray)⟩ : S75), (⟨(⟨#[99]⟩ : ByteArray), (⟨#[]⟩ : ByteArray)⟩ : S75)] : List (S75)))).bind fun t191 => (if t191 = true then (if bt166.1.toList = ([49] : List UInt8) then (if bt166.2 = true then (if bt168.2 = true then (some false) else (if bt170.2 = 0 then ((sheetpileref21_Same.f k bt172.1 t163).bind fun t192 => (if t192 = true then (if bt172.2 = 0 then (if bt176.2 = 5 then (if bt183.2 = 1 then (if (t185.length : Int) = 1 then (if 0 < (t185.length : Int) then (if ((rd_L6 t185 0).length : Int) = 2 then ((dir_May.f k t163).bind fun t194 => (some t194)) else (some false)) else (none)) else (some false)) else (some false)) else (some false)) else (some false)) else (some false))) else (some false))) else (some false)) else (some false)) else (some false))))))))))) = some true := h
  clear h
  obtain ⟨y160, hy160⟩ : ∃ y_ : List (S42), y_ = (([(⟨(⟨#[98]⟩ : ByteArray), (⟨#[50]⟩ : ByteArray), false⟩ : S42), (⟨(⟨#[97]⟩ : ByteArray), (⟨#[49]⟩ : ByteArray), false⟩ : S42), (⟨(⟨#[98]⟩ : ByteArray), (⟨#[]⟩ : ByteArray), true⟩ : S42), (⟨(⟨#[99]⟩ : ByteArray), (⟨#[]⟩ : ByteArray), false⟩ : S42)] : List (S42))) := ⟨_, rfl⟩
  replace H : ((dir_Apply.f ([] : List (S75)) y160).bind fun t163 => ((dir_Get.f t163 (⟨#[97]⟩ : ByteArray)).bind fun bt166 => ((dir_Get.f t163 (⟨#[98]⟩ : ByteArray)).bind fun bt168 => ((dir_Hint.f t163).bind fun bt170 => ((dir_Read.f k bt170.1).bind fun bt172 => ((dir_Read.f k (⟨#[72, 73, 78, 84]⟩ : ByteArray)).bind fun bt176 => ((dir_Hint.f (([(⟨(⟨#[98]⟩ : ByteArray), (⟨#[]⟩ : ByteArray)⟩ : S75), (⟨(⟨#[97]⟩ : ByteArray), (⟨#[]⟩ : ByteArray)⟩ : S75)] : List (S75)))).bind fun bt183 => ((dir_Compact.f t163).bind fun t185 => ((sheetpileref21_Same.f k t163 (([(⟨(⟨#[97]⟩ : ByteArray), (⟨#[49]⟩ : ByteArray)⟩ : S75), (⟨(⟨#[99]⟩ : ByteArray), (⟨#[]⟩ : ByteArray)⟩ : S75)] : List (S75)))).bind fun t191 => (if t191 = true then (if bt166.1.toList = ([49] : List UInt8) then (if bt166.2 = true then (if bt168.2 = true then (some false) else (if bt170.2 = 0 then ((sheetpileref21_Same.f k bt172.1 t163).bind fun t192 => (if t192 = true then (if bt172.2 = 0 then (if bt176.2 = 5 then (if bt183.2 = 1 then (if (t185.length : Int) = 1 then (if 0 < (t185.length : Int) then (if ((rd_L6 t185 0).length : Int) = 2 then ((dir_May.f k t163).bind fun t194 => (some t194)) else (some false)) else (none)) else (some false)) else (some false)) else (some false)) else (some false)) else (some false))) else (some false))) else (some false)) else (some false)) else (some false))))))))))) = some true := by first | (rw [hy160]; with_reducible exact H) | (have H2_ := (Option.bind_some _ _).symm.trans H; rw [hy160]; with_reducible exact H2_) | (have H2_ := (Option.bind_some _ _).symm.trans H; with_reducible exact H2_) | with_reducible exact H | (rw [hy160]; exact H) | exact H
  have Ny160 := Aside0.mk hy160
  clear hy160
  replace H := Option.bind_eq_some_iff.mp H
  obtain ⟨t163, A10, H⟩ := H
  replace H : ((dir_Get.f t163 (⟨#[97]⟩ : ByteArray)).bind fun bt166 => ((dir_Get.f t163 (⟨#[98]⟩ : ByteArray)).bind fun bt168 => ((dir_Hint.f t163).bind fun bt170 => ((dir_Read.f k bt170.1).bind fun bt172 => ((dir_Read.f k (⟨#[72, 73, 78, 84]⟩ : ByteArray)).bind fun bt176 => ((dir_Hint.f (([(⟨(⟨#[98]⟩ : ByteArray), (⟨#[]⟩ : ByteArray)⟩ : S75), (⟨(⟨#[97]⟩ : ByteArray), (⟨#[]⟩ : ByteArray)⟩ : S75)] : List (S75)))).bind fun bt183 => ((dir_Compact.f t163).bind fun t185 => ((sheetpileref21_Same.f k t163 (([(⟨(⟨#[97]⟩ : ByteArray), (⟨#[49]⟩ : ByteArray)⟩ : S75), (⟨(⟨#[99]⟩ : ByteArray), (⟨#[]⟩ : ByteArray)⟩ : S75)] : List (S75)))).bind fun t191 => (if t191 = true then (if bt166.1.toList = ([49] : List UInt8) then (if bt166.2 = true then (if bt168.2 = true then (some false) else (if bt170.2 = 0 then ((sheetpileref21_Same.f k bt172.1 t163).bind fun t192 => (if t192 = true then (if bt172.2 = 0 then (if bt176.2 = 5 then (if bt183.2 = 1 then (if (t185.length : Int) = 1 then (if 0 < (t185.length : Int) then (if ((rd_L6 t185 0).length : Int) = 2 then ((dir_May.f k t163).bind fun t194 => (some t194)) else (some false)) else (none)) else (some false)) else (some false)) else (some false)) else (some false)) else (some false))) else (some false))) else (some false)) else (some false)) else (some false)))))))))) = some true := H
  have A1 := Aside0.mk A10
  clear A10
  replace H := Option.bind_eq_some_iff.mp H
  obtain ⟨⟨t166, t167⟩, A20, H⟩ := H
  replace H : ((dir_Get.f t163 (⟨#[98]⟩ : ByteArray)).bind fun bt168 => ((dir_Hint.f t163).bind fun bt170 => ((dir_Read.f k bt170.1).bind fun bt172 => ((dir_Read.f k (⟨#[72, 73, 78, 84]⟩ : ByteArray)).bind fun bt176 => ((dir_Hint.f (([(⟨(⟨#[98]⟩ : ByteArray), (⟨#[]⟩ : ByteArray)⟩ : S75), (⟨(⟨#[97]⟩ : ByteArray), (⟨#[]⟩ : ByteArray)⟩ : S75)] : List (S75)))).bind fun bt183 => ((dir_Compact.f t163).bind fun t185 => ((sheetpileref21_Same.f k t163 (([(⟨(⟨#[97]⟩ : ByteArray), (⟨#[49]⟩ : ByteArray)⟩ : S75), (⟨(⟨#[99]⟩ : ByteArray), (⟨#[]⟩ : ByteArray)⟩ : S75)] : List (S75)))).bind fun t191 => (if t191 = true then (if t166.toList = ([49] : List UInt8) then (if t167 = true then (if bt168.2 = true then (some false) else (if bt170.2 = 0 then ((sheetpileref21_Same.f k bt172.1 t163).bind fun t192 => (if t192 = true then (if bt172.2 = 0 then (if bt176.2 = 5 then (if bt183.2 = 1 then (if (t185.length : Int) = 1 then (if 0 < (t185.length : Int) then (if ((rd_L6 t185 0).length : Int) = 2 then ((dir_May.f k t163).bind fun t194 => (some t194)) else (some false)) else (none)) else (some false)) else (some false)) else (some false)) else (some false)) else (some false))) else (some false))) else (some false)) else (some false)) else (some false))))))))) = some true := H
  have A2 := Aside0.mk A20
  clear A20
  replace H := Option.bind_eq_some_iff.mp H
  obtain ⟨⟨t168, t169⟩, A30, H⟩ := H
  replace H : ((dir_Hint.f t163).bind fun bt170 => ((dir_Read.f k bt170.1).bind fun bt172 => ((dir_Read.f k (⟨#[72, 73, 78, 84]⟩ : ByteArray)).bind fun bt176 => ((dir_Hint.f (([(⟨(⟨#[98]⟩ : ByteArray), (⟨#[]⟩ : ByteArray)⟩ : S75), (⟨(⟨#[97]⟩ : ByteArray), (⟨#[]⟩ : ByteArray)⟩ : S75)] : List (S75)))).bind fun bt183 => ((dir_Compact.f t163).bind fun t185 => ((sheetpileref21_Same.f k t163 (([(⟨(⟨#[97]⟩ : ByteArray), (⟨#[49]⟩ : ByteArray)⟩ : S75), (⟨(⟨#[99]⟩ : ByteArray), (⟨#[]⟩ : ByteArray)⟩ : S75)] : List (S75)))).bind fun t191 => (if t191 = true then (if t166.toList = ([49] : List UInt8) then (if t167 = true then (if t169 = true then (some false) else (if bt170.2 = 0 then ((sheetpileref21_Same.f k bt172.1 t163).bind fun t192 => (if t192 = true then (if bt172.2 = 0 then (if bt176.2 = 5 then (if bt183.2 = 1 then (if (t185.length : Int) = 1 then (if 0 < (t185.length : Int) then (if ((rd_L6 t185 0).length : Int) = 2 then ((dir_May.f k t163).bind fun t194 => (some t194)) else (some false)) else (none)) else (some false)) else (some false)) else (some false)) else (some false)) else (some false))) else (some false))) else (some false)) else (some false)) else (some false)))))))) = some true := H
  have A3 := Aside0.mk A30
  clear A30
  replace H := Option.bind_eq_some_iff.mp H
  obtain ⟨⟨t170, t171⟩, A40, H⟩ := H
  replace H : ((dir_Read.f k t170).bind fun bt172 => ((dir_Read.f k (⟨#[72, 73, 78, 84]⟩ : ByteArray)).bind fun bt176 => ((dir_Hint.f (([(⟨(⟨#[98]⟩ : ByteArray), (⟨#[]⟩ : ByteArray)⟩ : S75), (⟨(⟨#[97]⟩ : ByteArray), (⟨#[]⟩ : ByteArray)⟩ : S75)] : List (S75)))).bind fun bt183 => ((dir_Compact.f t163).bind fun t185 => ((sheetpileref21_Same.f k t163 (([(⟨(⟨#[97]⟩ : ByteArray), (⟨#[49]⟩ : ByteArray)⟩ : S75), (⟨(⟨#[99]⟩ : ByteArray), (⟨#[]⟩ : ByteArray)⟩ : S75)] : List (S75)))).bind fun t191 => (if t191 = true then (if t166.toList = ([49] : List UInt8) then (if t167 = true then (if t169 = true then (some false) else (if t171 = 0 then ((sheetpileref21_Same.f k bt172.1 t163).bind fun t192 => (if t192 = true then (if bt172.2 = 0 then (if bt176.2 = 5 then (if bt183.2 = 1 then (if (t185.length : Int) = 1 then (if 0 < (t185.length : Int) then (if ((rd_L6 t185 0).length : Int) = 2 then ((dir_May.f k t163).bind fun t194 => (some t194)) else (some false)) else (none)) else (some false)) else (some false)) else (some false)) else (some false)) else (some false))) else (some false))) else (some false)) else (some false)) else (some false))))))) = some true := H
  have A4 := Aside0.mk A40
  clear A40
  replace H := Option.bind_eq_some_iff.mp H
  obtain ⟨⟨t172, t173⟩, A50, H⟩ := H
  replace H : ((dir_Read.f k (⟨#[72, 73, 78, 84]⟩ : ByteArray)).bind fun bt176 => ((dir_Hint.f (([(⟨(⟨#[98]⟩ : ByteArray), (⟨#[]⟩ : ByteArray)⟩ : S75), (⟨(⟨#[97]⟩ : ByteArray), (⟨#[]⟩ : ByteArray)⟩ : S75)] : List (S75)))).bind fun bt183 => ((dir_Compact.f t163).bind fun t185 => ((sheetpileref21_Same.f k t163 (([(⟨(⟨#[97]⟩ : ByteArray), (⟨#[49]⟩ : ByteArray)⟩ : S75), (⟨(⟨#[99]⟩ : ByteArray), (⟨#[]⟩ : ByteArray)⟩ : S75)] : List (S75)))).bind fun t191 => (if t191 = true then (if t166.toList = ([49] : List UInt8) then (if t167 = true then (if t169 = true then (some false) else (if t171 = 0 then ((sheetpileref21_Same.f k t172 t163).bind fun t192 => (if t192 = true then (if t173 = 0 then (if bt176.2 = 5 then (if bt183.2 = 1 then (if (t185.length : Int) = 1 then (if 0 < (t185.length : Int) then (if ((rd_L6 t185 0).length : Int) = 2 then ((dir_May.f k t163).bind fun t194 => (some t194)) else (some false)) else (none)) else (some false)) else (some false)) else (some false)) else (some false)) else (some false))) else (some false))) else (some false)) else (some false)) else (some false)))))) = some true := H
  have A5 := Aside0.mk A50
  clear A50
  replace H := Option.bind_eq_some_iff.mp H
  obtain ⟨⟨t176, t177⟩, A60, H⟩ := H
  replace H : ((dir_Hint.f (([(⟨(⟨#[98]⟩ : ByteArray), (⟨#[]⟩ : ByteArray)⟩ : S75), (⟨(⟨#[97]⟩ : ByteArray), (⟨#[]⟩ : ByteArray)⟩ : S75)] : List (S75)))).bind fun bt183 => ((dir_Compact.f t163).bind fun t185 => ((sheetpileref21_Same.f k t163 (([(⟨(⟨#[97]⟩ : ByteArray), (⟨#[49]⟩ : ByteArray)⟩ : S75), (⟨(⟨#[99]⟩ : ByteArray), (⟨#[]⟩ : ByteArray)⟩ : S75)] : List (S75)))).bind fun t191 => (if t191 = true then (if t166.toList = ([49] : List UInt8) then (if t167 = true then (if t169 = true then (some false) else (if t171 = 0 then ((sheetpileref21_Same.f k t172 t163).bind fun t192 => (if t192 = true then (if t173 = 0 then (if t177 = 5 then (if bt183.2 = 1 then (if (t185.length : Int) = 1 then (if 0 < (t185.length : Int) then (if ((rd_L6 t185 0).length : Int) = 2 then ((dir_May.f k t163).bind fun t194 => (some t194)) else (some false)) else (none)) else (some false)) else (some false)) else (some false)) else (some false)) else (some false))) else (some false))) else (some false)) else (some false)) else (some false))))) = some true := H
  have A6 := Aside0.mk A60
  clear A60
  obtain ⟨y180, hy180⟩ : ∃ y_ : List (S75), y_ = (([(⟨(⟨#[98]⟩ : ByteArray), (⟨#[]⟩ : ByteArray)⟩ : S75), (⟨(⟨#[97]⟩ : ByteArray), (⟨#[]⟩ : ByteArray)⟩ : S75)] : List (S75))) := ⟨_, rfl⟩
  replace H : ((dir_Hint.f y180).bind fun bt183 => ((dir_Compact.f t163).bind fun t185 => ((sheetpileref21_Same.f k t163 (([(⟨(⟨#[97]⟩ : ByteArray), (⟨#[49]⟩ : ByteArray)⟩ : S75), (⟨(⟨#[99]⟩ : ByteArray), (⟨#[]⟩ : ByteArray)⟩ : S75)] : List (S75)))).bind fun t191 => (if t191 = true then (if t166.toList = ([49] : List UInt8) then (if t167 = true then (if t169 = true then (some false) else (if t171 = 0 then ((sheetpileref21_Same.f k t172 t163).bind fun t192 => (if t192 = true then (if t173 = 0 then (if t177 = 5 then (if bt183.2 = 1 then (if (t185.length : Int) = 1 then (if 0 < (t185.length : Int) then (if ((rd_L6 t185 0).length : Int) = 2 then ((dir_May.f k t163).bind fun t194 => (some t194)) else (some false)) else (none)) else (some false)) else (some false)) else (some false)) else (some false)) else (some false))) else (some false))) else (some false)) else (some false)) else (some false))))) = some true := by first | (rw [hy180]; with_reducible exact H) | (have H2_ := (Option.bind_some _ _).symm.trans H; rw [hy180]; with_reducible exact H2_) | (have H2_ := (Option.bind_some _ _).symm.trans H; with_reducible exact H2_) | with_reducible exact H | (rw [hy180]; exact H) | exact H
  have Ny180 := Aside0.mk hy180
  clear hy180
  replace H := Option.bind_eq_some_iff.mp H
  obtain ⟨⟨t183, t184⟩, A70, H⟩ := H
  replace H : ((dir_Compact.f t163).bind fun t185 => ((sheetpileref21_Same.f k t163 (([(⟨(⟨#[97]⟩ : ByteArray), (⟨#[49]⟩ : ByteArray)⟩ : S75), (⟨(⟨#[99]⟩ : ByteArray), (⟨#[]⟩ : ByteArray)⟩ : S75)] : List (S75)))).bind fun t191 => (if t191 = true then (if t166.toList = ([49] : List UInt8) then (if t167 = true then (if t169 = true then (some false) else (if t171 = 0 then ((sheetpileref21_Same.f k t172 t163).bind fun t192 => (if t192 = true then (if t173 = 0 then (if t177 = 5 then (if t184 = 1 then (if (t185.length : Int) = 1 then (if 0 < (t185.length : Int) then (if ((rd_L6 t185 0).length : Int) = 2 then ((dir_May.f k t163).bind fun t194 => (some t194)) else (some false)) else (none)) else (some false)) else (some false)) else (some false)) else (some false)) else (some false))) else (some false))) else (some false)) else (some false)) else (some false)))) = some true := H
  have A7 := Aside0.mk A70
  clear A70
  replace H := Option.bind_eq_some_iff.mp H
  obtain ⟨t185, A80, H⟩ := H
  replace H : ((sheetpileref21_Same.f k t163 (([(⟨(⟨#[97]⟩ : ByteArray), (⟨#[49]⟩ : ByteArray)⟩ : S75), (⟨(⟨#[99]⟩ : ByteArray), (⟨#[]⟩ : ByteArray)⟩ : S75)] : List (S75)))).bind fun t191 => (if t191 = true then (if t166.toList = ([49] : List UInt8) then (if t167 = true then (if t169 = true then (some false) else (if t171 = 0 then ((sheetpileref21_Same.f k t172 t163).bind fun t192 => (if t192 = true then (if t173 = 0 then (if t177 = 5 then (if t184 = 1 then (if (t185.length : Int) = 1 then (if 0 < (t185.length : Int) then (if ((rd_L6 t185 0).length : Int) = 2 then ((dir_May.f k t163).bind fun t194 => (some t194)) else (some false)) else (none)) else (some false)) else (some false)) else (some false)) else (some false)) else (some false))) else (some false))) else (some false)) else (some false)) else (some false))) = some true := H
  have A8 := Aside0.mk A80
  clear A80
  obtain ⟨y188, hy188⟩ : ∃ y_ : List (S75), y_ = (([(⟨(⟨#[97]⟩ : ByteArray), (⟨#[49]⟩ : ByteArray)⟩ : S75), (⟨(⟨#[99]⟩ : ByteArray), (⟨#[]⟩ : ByteArray)⟩ : S75)] : List (S75))) := ⟨_, rfl⟩
  replace H : ((sheetpileref21_Same.f k t163 y188).bind fun t191 => (if t191 = true then (if t166.toList = ([49] : List UInt8) then (if t167 = true then (if t169 = true then (some false) else (if t171 = 0 then ((sheetpileref21_Same.f k t172 t163).bind fun t192 => (if t192 = true then (if t173 = 0 then (if t177 = 5 then (if t184 = 1 then (if (t185.length : Int) = 1 then (if 0 < (t185.length : Int) then (if ((rd_L6 t185 0).length : Int) = 2 then ((dir_May.f k t163).bind fun t194 => (some t194)) else (some false)) else (none)) else (some false)) else (some false)) else (some false)) else (some false)) else (some false))) else (some false))) else (some false)) else (some false)) else (some false))) = some true := by first | (rw [hy188]; with_reducible exact H) | (have H2_ := (Option.bind_some _ _).symm.trans H; rw [hy188]; with_reducible exact H2_) | (have H2_ := (Option.bind_some _ _).symm.trans H; with_reducible exact H2_) | with_reducible exact H | (rw [hy188]; exact H) | exact H
  have Ny188 := Aside0.mk hy188
  clear hy188
  replace H := Option.bind_eq_some_iff.mp H
  obtain ⟨t191, A90, H⟩ := H
  replace H : (if t191 = true then (if t166.toList = ([49] : List UInt8) then (if t167 = true then (if t169 = true then (some false) else (if t171 = 0 then ((sheetpileref21_Same.f k t172 t163).bind fun t192 => (if t192 = true then (if t173 = 0 then (if t177 = 5 then (if t184 = 1 then (if (t185.length : Int) = 1 then (if 0 < (t185.length : Int) then (if ((rd_L6 t185 0).length : Int) = 2 then ((dir_May.f k t163).bind fun t194 => (some t194)) else (some false)) else (none)) else (some false)) else (some false)) else (some false)) else (some false)) else (some false))) else (some false))) else (some false)) else (some false)) else (some false)) = some true := H
  have A9 := Aside0.mk A90
  clear A90
  by_cases c10 : t191 = true
  · subst c10
    have H1 : (if t166.toList = ([49] : List UInt8) then (if t167 = true then (if t169 = true then (some false) else (if t171 = 0 then ((sheetpileref21_Same.f k t172 t163).bind fun t192 => (if t192 = true then (if t173 = 0 then (if t177 = 5 then (if t184 = 1 then (if (t185.length : Int) = 1 then (if 0 < (t185.length : Int) then (if ((rd_L6 t185 0).length : Int) = 2 then ((dir_May.f k t163).bind fun t194 => (some t194)) else (some false)) else (none)) else (some false)) else (some false)) else (some false)) else (some false)) else (some false))) else (some false))) else (some false)) else (some false)) = some true := by rw [if_pos rfl] at H; exact H
    clear H
    have H := H1
    clear H1
    by_cases c11 : t166.toList = ([49] : List UInt8)
    · rw [if_pos c11] at H
      have c11b0 : (t166.toList == ([49] : List UInt8)) = true := beq_iff_eq.mpr c11
      have c11b1 : (t166.toList != ([49] : List UInt8)) = false := bne_eq_false_iff_eq.mpr c11
      clear c11
      by_cases c12 : t167 = true
      · subst c12
        have H1 : (if t169 = true then (some false) else (if t171 = 0 then ((sheetpileref21_Same.f k t172 t163).bind fun t192 => (if t192 = true then (if t173 = 0 then (if t177 = 5 then (if t184 = 1 then (if (t185.length : Int) = 1 then (if 0 < (t185.length : Int) then (if ((rd_L6 t185 0).length : Int) = 2 then ((dir_May.f k t163).bind fun t194 => (some t194)) else (some false)) else (none)) else (some false)) else (some false)) else (some false)) else (some false)) else (some false))) else (some false))) = some true := by rw [if_pos rfl] at H; exact H
        clear H
        have H := H1
        clear H1
        by_cases c13 : t169 = true
        · subst c13
          have H1 : (some false) = some true := by rw [if_pos rfl] at H; exact H
          exact absurd H1 (by simp)
        · replace c13 := Bool.eq_false_iff.mpr c13
          subst c13
          have H1 : (if t171 = 0 then ((sheetpileref21_Same.f k t172 t163).bind fun t192 => (if t192 = true then (if t173 = 0 then (if t177 = 5 then (if t184 = 1 then (if (t185.length : Int) = 1 then (if 0 < (t185.length : Int) then (if ((rd_L6 t185 0).length : Int) = 2 then ((dir_May.f k t163).bind fun t194 => (some t194)) else (some false)) else (none)) else (some false)) else (some false)) else (some false)) else (some false)) else (some false))) else (some false)) = some true := by rw [if_neg (show ¬ (false = true) by decide)] at H; exact H
          clear H
          have H := H1
          clear H1
          by_cases c32 : t171 = 0
          · rw [if_pos c32] at H
            have c32b0 : (t171 == 0) = true := beq_iff_eq.mpr c32
            have c32b1 : (t171 != 0) = false := bne_eq_false_iff_eq.mpr c32
            clear c32
            replace H := Option.bind_eq_some_iff.mp H
            obtain ⟨t192, A330, H⟩ := H
            replace H : (if t192 = true then (if t173 = 0 then (if t177 = 5 then (if t184 = 1 then (if (t185.length : Int) = 1 then (if 0 < (t185.length : Int) then (if ((rd_L6 t185 0).length : Int) = 2 then ((dir_May.f k t163).bind fun t194 => (some t194)) else (some false)) else (none)) else (some false)) else (some false)) else (some false)) else (some false)) else (some false)) = some true := H
            have A33 := Aside0.mk A330
            clear A330
            by_cases c34 : t192 = true
            · subst c34
              have H1 : (if t173 = 0 then (if t177 = 5 then (if t184 = 1 then (if (t185.length : Int) = 1 then (if 0 < (t185.length : Int) then (if ((rd_L6 t185 0).length : Int) = 2 then ((dir_May.f k t163).bind fun t194 => (some t194)) else (some false)) else (none)) else (some false)) else (some false)) else (some false)) else (some false)) = some true := by rw [if_pos rfl] at H; exact H
              clear H
              have H := H1
              clear H1
              by_cases c35 : t173 = 0
              · rw [if_pos c35] at H
                have c35b0 : (t173 == 0) = true := beq_iff_eq.mpr c35
                have c35b1 : (t173 != 0) = false := bne_eq_false_iff_eq.mpr c35
                clear c35
                by_cases c36 : t177 = 5
                · rw [if_pos c36] at H
                  have c36b0 : (t177 == 5) = true := beq_iff_eq.mpr c36
                  have c36b1 : (t177 != 5) = false := bne_eq_false_iff_eq.mpr c36
                  clear c36
                  by_cases c37 : t184 = 1
                  · rw [if_pos c37] at H
                    have c37b0 : (t184 == 1) = true := beq_iff_eq.mpr c37
                    have c37b1 : (t184 != 1) = false := bne_eq_false_iff_eq.mpr c37
                    clear c37
                    by_cases c38 : (t185.length : Int) = 1
                    · rw [if_pos c38] at H
                      have c38b0 : ((t185.length : Int) == 1) = true := beq_iff_eq.mpr c38
                      have c38b1 : ((t185.length : Int) != 1) = false := bne_eq_false_iff_eq.mpr c38
                      clear c38
                      by_cases c39 : 0 < (t185.length : Int)
                      · rw [if_pos c39] at H
                        have c39b0 : decide (0 < (t185.length : Int)) = true := decide_eq_true c39
                        have c39b1 : decide (0 < t185.length) = true := decide_eq_true (by omega)
                        clear c39
                        by_cases c40 : ((rd_L6 t185 0).length : Int) = 2
                        · rw [if_pos c40] at H
                          have c40b0 : (((rd_L6 t185 0).length : Int) == 2) = true := beq_iff_eq.mpr c40
                          have c40b1 : (((rd_L6 t185 0).length : Int) != 2) = false := bne_eq_false_iff_eq.mpr c40
                          clear c40
                          replace H := Option.bind_eq_some_iff.mp H
                          obtain ⟨t194, A410, H⟩ := H
                          replace H : (some t194) = some true := H
                          have A41 := Aside0.mk A410
                          clear A410
                          have HF_ := Option.some.inj H
                          go_enter Try.func17, Try.ntmps17
                          go_wp2_with (first | ((with_reducible refine gate_dst (N := 19) rfl ?_); (try (refine gate_guard (by rfl) ?_; dsimp only)); refine Kd.R_lit k42 _ 42 ?hg (N := 19) ?hd (xs := ([(⟨(⟨#[98]⟩ : ByteArray), (⟨#[50]⟩ : ByteArray), false⟩ : S42), (⟨(⟨#[97]⟩ : ByteArray), (⟨#[49]⟩ : ByteArray), false⟩ : S42), (⟨(⟨#[98]⟩ : ByteArray), (⟨#[]⟩ : ByteArray), true⟩ : S42), (⟨(⟨#[99]⟩ : ByteArray), (⟨#[]⟩ : ByteArray), false⟩ : S42)] : List (S42))) (inner := [.string (⟨#[98]⟩ : ByteArray), .string (⟨#[50]⟩ : ByteArray), .bool false, .string (⟨#[97]⟩ : ByteArray), .string (⟨#[49]⟩ : ByteArray), .bool false, .string (⟨#[98]⟩ : ByteArray), .string (⟨#[]⟩ : ByteArray), .bool true, .string (⟨#[99]⟩ : ByteArray), .string (⟨#[]⟩ : ByteArray), .bool false]) (ok := fun _ => True) (okp := fun _ => True) ?hr ?hp (fun _ hk => hk) trivial (Below.refl _ _) (Nat.le_refl _) (by simp) ?_; (case hd => rfl); (case hg => rfl); (case hr => first | (go_simp; done) | (go_simp; rfl)); (case hp => exact (Reps.c3 (show Kd.M k42 _ _ _ (⟨(⟨#[98]⟩ : ByteArray), (⟨#[50]⟩ : ByteArray), false⟩ : S42) [.string (⟨#[98]⟩ : ByteArray), .string (⟨#[50]⟩ : ByteArray), .bool false] from (k42_mkM _ _ _ (⟨(⟨#[98]⟩ : ByteArray), (⟨#[50]⟩ : ByteArray), false⟩ : S42) )) (Reps.c3 (show Kd.M k42 _ _ _ (⟨(⟨#[97]⟩ : ByteArray), (⟨#[49]⟩ : ByteArray), false⟩ : S42) [.string (⟨#[97]⟩ : ByteArray), .string (⟨#[49]⟩ : ByteArray), .bool false] from (k42_mkM _ _ _ (⟨(⟨#[97]⟩ : ByteArray), (⟨#[49]⟩ : ByteArray), false⟩ : S42) )) (Reps.c3 (show Kd.M k42 _ _ _ (⟨(⟨#[98]⟩ : ByteArray), (⟨#[]⟩ : ByteArray), true⟩ : S42) [.string (⟨#[98]⟩ : ByteArray), .string (⟨#[]⟩ : ByteArray), .bool true] from (k42_mkM _ _ _ (⟨(⟨#[98]⟩ : ByteArray), (⟨#[]⟩ : ByteArray), true⟩ : S42) )) (Reps.c3 (show Kd.M k42 _ _ _ (⟨(⟨#[99]⟩ : ByteArray), (⟨#[]⟩ : ByteArray), false⟩ : S42) [.string (⟨#[99]⟩ : ByteArray), .string (⟨#[]⟩ : ByteArray), .bool false] from (k42_mkM _ _ _ (⟨(⟨#[99]⟩ : ByteArray), (⟨#[]⟩ : ByteArray), false⟩ : S42) )) (Reps.none _ _)))))); intro v161 w42 ho43 hb hg_ hnew_; clear hg_ hnew_; (first | rw [← Ny160.out] at ho43 | (simp only [Int.reduceToNat] at ho43; rw [← Ny160.out] at ho43)); have n0_ := Aside0.mk (Kd.R_lower ho43 (below_size (by repeat (first | (with_reducible first | exact HB.out | apply below_alloc | apply pw_below_drewN | apply below_drew1) | exact HB.out)))); have n1_ := Aside0.mk (below_step (by repeat (first | (with_reducible first | exact HB.out | apply below_alloc | apply pw_below_drewN | apply below_drew1) | exact HB.out)) hb); clear HB; have HO162 := n0_; have HB := n1_; clear n0_ n1_; clear hb ho43; obtain ⟨Ao44, co44, eo44⟩ := Kd.R_slice HO162.out; subst eo44) | ((with_reducible refine gate_callee (f := 18) rfl ?_); refine goesL_ (some 20) rfl rfl Try.func18 (by kernel_rfl) rfl #[.slice none 0 0, .slice Ao44 y160.length co44] rfl (by (try simp only [List.map_toArray, List.map_cons, List.map_nil]); first | done | rfl | (simp only [List.length_drop, List.length_take]; rfl)) ?_; (refine (dir_Apply.calls _ _ ([] : List (S75)) _ _ y160 t163 _ ?side1 ?side2 ?side3 ?side4 A1.out).mono ?_); (case side1 => exact Kd.C_nil _ _); (case side2 => exact Nat.le_refl _); (case side3 => repeat (first | exact (Kd.R_reads' HO162.out).2.2 | (with_reducible refine Kd.C_alloc ?_ _) | (with_reducible refine Kd.C_drewN ?_ _) | (with_reducible refine Kd.C_drew ?_))); (case side4 => exact (Kd.R_reads' HO162.out).2.1); rintro e w45 ⟨v164, rfl, ho0, hb⟩; refine ⟨_, rfl, ?_⟩; have n0_ := Aside0.mk (Kd.R_below (by (with_reducible repeat (first | apply Kd.R_alloc | apply Kd.R_drewN | apply Kd.R_drew)); exact HO162.out) hb); have n1_ := Aside0.mk (Kd.R_lower ho0 (below_size (by repeat (first | (with_reducible first | exact HB.out | apply below_alloc | apply pw_below_drewN | apply below_drew1) | exact HB.out)))); have n2_ := Aside0.mk (below_step (by repeat (first | (with_reducible first | exact HB.out | apply below_alloc | apply pw_below_drewN | apply below_drew1) | exact HB.out)) hb); clear HO162; clear HB; have HO162 := n0_; have HO165 := n1_; have HB := n2_; clear n0_ n1_ n2_; (try clear hb); (try clear hb2); (try clear hk); (try clear hi); (try clear ho0); obtain ⟨Ao46, co46, eo46⟩ := Kd.R_slice HO165.out; subst eo46) | ((with_reducible refine gate_callee (f := 19) rfl ?_); refine goesL_ (some 23) rfl rfl Try.func19 (by kernel_rfl) rfl #[.slice Ao46 t163.length co46, .string (⟨#[97]⟩ : ByteArray)] rfl (by (try simp only [List.map_toArray, List.map_cons, List.map_nil]); first | done | rfl | (simp only [List.length_drop, List.length_take]; rfl)) ?_; (with_reducible refine (dir_Get.calls _ _ t163 (⟨#[97]⟩ : ByteArray) t166 true _ ?side1 ?side2 A2.out).mono ?_); (case side1 => repeat (first | exact (Kd.R_reads' HO165.out).2.2 | (with_reducible refine Kd.C_alloc ?_ _) | (with_reducible refine Kd.C_drewN ?_ _) | (with_reducible refine Kd.C_drew ?_))); (case side2 => exact (Kd.R_reads' HO165.out).2.1); rintro e w47 ⟨rfl, hb⟩; refine ⟨_, rfl, ?_⟩; have n0_ := Aside0.mk (Kd.R_below (by (with_reducible repeat (first | apply Kd.R_alloc | apply Kd.R_drewN | apply Kd.R_drew)); exact HO162.out) hb); have n1_ := Aside0.mk (Kd.R_below (by (with_reducible repeat (first | apply Kd.R_alloc | apply Kd.R_drewN | apply Kd.R_drew)); exact HO165.out) hb); have n2_ := Aside0.mk (below_step (by repeat (first | (with_reducible first | exact HB.out | apply below_alloc | apply pw_below_drewN | apply below_drew1) | exact HB.out)) hb); clear HO162; clear HO165; clear HB; have HO162 := n0_; have HO165 := n1_; have HB := n2_; clear n0_ n1_ n2_; (try clear hb); (try clear hb2); (try clear hk); (try clear hi)) | ((with_reducible refine gate_callee (f := 19) rfl ?_); refine goesL_ (some 28) rfl rfl Try.func19 (by kernel_rfl) rfl #[.slice Ao46 t163.length co46, .string (⟨#[98]⟩ : ByteArray)] rfl (by (try simp only [List.map_toArray, List.map_cons, List.map_nil]); first | done | rfl | (simp only [List.length_drop, List.length_take]; rfl)) ?_; (with_reducible refine (dir_Get.calls _ _ t163 (⟨#[98]⟩ : ByteArray) t168 false _ ?side1 ?side2 A3.out).mono ?_); (case side1 => repeat (first | exact (Kd.R_reads' HO165.out).2.2 | (with_reducible refine Kd.C_alloc ?_ _) | (with_reducible refine Kd.C_drewN ?_ _) | (with_reducible refine Kd.C_drew ?_))); (case side2 => exact (Kd.R_reads' HO165.out).2.1); rintro e w48 ⟨rfl, hb⟩; refine ⟨_, rfl, ?_⟩; have n0_ := Aside0.mk (Kd.R_below (by (with_reducible repeat (first | apply Kd.R_alloc | apply Kd.R_drewN | apply Kd.R_drew)); exact HO162.out) hb); have n1_ := Aside0.mk (Kd.R_below (by (with_reducible repeat (first | apply Kd.R_alloc | apply Kd.R_drewN | apply Kd.R_drew)); exact HO165.out) hb); have n2_ := Aside0.mk (below_step (by repeat (first | (with_reducible first | exact HB.out | apply below_alloc | apply pw_below_drewN | apply below_drew1) | exact HB.out)) hb); clear HO162; clear HO165; clear HB; have HO162 := n0_; have HO165 := n1_; have HB := n2_; clear n0_ n1_ n2_; (try clear hb); (try clear hb2); (try clear hk); (try clear hi)) | ((with_reducible refine gate_callee (f := 28) rfl ?_); refine goesL_ (some 33) rfl rfl Try.func28 (by kernel_rfl) rfl #[.slice Ao46 t163.length co46] rfl (by (try simp only [List.map_toArray, List.map_cons, List.map_nil]); first | done | rfl | (simp only [List.length_drop, List.length_take]; rfl)) ?_; (with_reducible refine (dir_Hint.calls _ _ t163 t170 t171 _ ?side1 ?side2 A4.out).mono ?_); (case side1 => repeat (first | exact (Kd.R_reads' HO165.out).2.2 | (with_reducible refine Kd.C_alloc ?_ _) | (with_reducible refine Kd.C_drewN ?_ _) | (with_reducible refine Kd.C_drew ?_))); (case side2 => exact (Kd.R_reads' HO165.out).2.1); rintro e w49 ⟨rfl, hb⟩; refine ⟨_, rfl, ?_⟩; have n0_ := Aside0.mk (Kd.R_below (by (with_reducible repeat (first | apply Kd.R_alloc | apply Kd.R_drewN | apply Kd.R_drew)); exact HO162.out) hb); have n1_ := Aside0.mk (Kd.R_below (by (with_reducible repeat (first | apply Kd.R_alloc | apply Kd.R_drewN | apply Kd.R_drew)); exact HO165.out) hb); have n2_ := Aside0.mk (below_step (by repeat (first | (with_reducible first | exact HB.out | apply below_alloc | apply pw_below_drewN | apply below_drew1) | exact HB.out)) hb); clear HO162; clear HO165; clear HB; have HO162 := n0_; have HO165 := n1_; have HB := n2_; clear n0_ n1_ n2_; (try clear hb); (try clear hb2); (try clear hk); (try clear hi)) | ((with_reducible refine gate_callee (f := 30) rfl ?_); refine goesL_ (some 38) rfl rfl Try.func30 (by kernel_rfl) rfl #[.string t170] rfl (by (try simp only [List.map_toArray, List.map_cons, List.map_nil]); first | done | rfl | (simp only [List.length_drop, List.length_take]; rfl)) ?_; (with_reducible refine (dir_Read.calls k t170 t172 t173 _ A5.out).mono ?_); rintro e w50 ⟨v174, rfl, ho0, hb⟩; refine ⟨_, rfl, ?_⟩; have n0_ := Aside0.mk (Kd.R_below (by (with_reducible repeat (first | apply Kd.R_alloc | apply Kd.R_drewN | apply Kd.R_drew)); exact HO162.out) hb); have n1_ := Aside0.mk (Kd.R_elder' (by (with_reducible repeat (first | apply Kd.R_alloc | apply Kd.R_drewN | apply Kd.R_drew)); exact HO165.out) (Kd.R_base ho0) hb); have n2_ := Aside0.mk (Kd.R_lower (Kd.R_new' ho0 (Kd.R_lt (by (with_reducible repeat (first | apply Kd.R_alloc | apply Kd.R_drewN | apply Kd.R_drew)); exact HO165.out))) (below_size (by repeat (first | (with_reducible first | exact HB.out | apply below_alloc | apply pw_below_drewN | apply below_drew1) | exact HB.out)))); have n3_ := Aside0.mk (below_step (by repeat (first | (with_reducible first | exact HB.out | apply below_alloc | apply pw_below_drewN | apply below_drew1) | exact HB.out)) hb); clear HO162; clear HO165; clear HB; have HO162 := n0_; have HO165 := n1_; have HO175 := n2_; have HB := n3_; clear n0_ n1_ n2_ n3_; (try clear hb); (try clear hb2); (try clear hk); (try clear hi); (try clear ho0)) | ((with_reducible refine gate_callee (f := 30) rfl ?_); refine goesL_ (some 42) rfl rfl Try.func30 (by kernel_rfl) rfl #[.string (⟨#[72, 73, 78, 84]⟩ : ByteArray)] rfl (by (try simp only [List.map_toArray, List.map_cons, List.map_nil]); first | done | rfl | (simp only [List.length_drop, List.length_take]; rfl)) ?_; (with_reducible refine (dir_Read.calls k (⟨#[72, 73, 78, 84]⟩ : ByteArray) t176 t177 _ A6.out).mono ?_); rintro e w51 ⟨v178, rfl, ho0, hb⟩; refine ⟨_, rfl, ?_⟩; have n0_ := Aside0.mk (Kd.R_below (by (with_reducible repeat (first | apply Kd.R_alloc | apply Kd.R_drewN | apply Kd.R_drew)); exact HO162.out) hb); have n1_ := Aside0.mk (Kd.R_elder' (by (with_reducible repeat (first | apply Kd.R_alloc | apply Kd.R_drewN | apply Kd.R_drew)); exact HO165.out) (Kd.R_base ho0) hb); have n2_ := Aside0.mk (Kd.R_elder' (by (with_reducible repeat (first | apply Kd.R_alloc | apply Kd.R_drewN | apply Kd.R_drew)); exact HO175.out) (Kd.R_base ho0) hb); have n3_ := Aside0.mk (Kd.R_lower (Kd.R_new' (Kd.R_new' ho0 (Kd.R_lt (by (with_reducible repeat (first | apply Kd.R_alloc | apply Kd.R_drewN | apply Kd.R_drew)); exact HO165.out))) (Kd.R_lt (by (with_reducible repeat (first | apply Kd.R_alloc | apply Kd.R_drewN | apply Kd.R_drew)); exact HO175.out))) (below_size (by repeat (first | (with_reducible first | exact HB.out | apply below_alloc | apply pw_below_drewN | apply below_drew1) | exact HB.out)))); have n4_ := Aside0.mk (below_step (by repeat (first | (with_reducible first | exact HB.out | apply below_alloc | apply pw_below_drewN | apply below_drew1) | exact HB.out)) hb); clear HO162; clear HO165; clear HO175; clear HB; have HO162 := n0_; have HO165 := n1_; have HO175 := n2_; have HO179 := n3_; have HB := n4_; clear n0_ n1_ n2_ n3_ n4_; (try clear hb); (try clear hb2); (try clear hk); (try clear hi); (try clear ho0)) | ((with_reducible refine gate_dst (N := 48) rfl ?_); (try (refine gate_guard (by rfl) ?_; dsimp only)); refine Kd.R_lit k75 _ 75 ?hg (N := 48) ?hd (xs := ([(⟨(⟨#[98]⟩ : ByteArray), (⟨#[]⟩ : ByteArray)⟩ : S75), (⟨(⟨#[97]⟩ : ByteArray), (⟨#[]⟩ : ByteArray)⟩ : S75)] : List (S75))) (inner := [.string (⟨#[98]⟩ : ByteArray), .string (⟨#[]⟩ : ByteArray), .string (⟨#[97]⟩ : ByteArray), .string (⟨#[]⟩ : ByteArray)]) (ok := fun _ => True) (okp := fun _ => True) ?hr ?hp (fun _ hk => hk) trivial (Below.refl _ _) (Nat.le_refl _) (by simp) ?_; (case hd => rfl); (case hg => rfl); (case hr => first | (go_simp; done) | (go_simp; rfl)); (case hp => exact (Reps.c2 (show Kd.M k75 _ _ _ (⟨(⟨#[98]⟩ : ByteArray), (⟨#[]⟩ : ByteArray)⟩ : S75) [.string (⟨#[98]⟩ : ByteArray), .string (⟨#[]⟩ : ByteArray)] from (k75_mkM _ _ _ (⟨(⟨#[98]⟩ : ByteArray), (⟨#[]⟩ : ByteArray)⟩ : S75) )) (Reps.c2 (show Kd.M k75 _ _ _ (⟨(⟨#[97]⟩ : ByteArray), (⟨#[]⟩ : ByteArray)⟩ : S75) [.string (⟨#[97]⟩ : ByteArray), .string (⟨#[]⟩ : ByteArray)] from (k75_mkM _ _ _ (⟨(⟨#[97]⟩ : ByteArray), (⟨#[]⟩ : ByteArray)⟩ : S75) )) (Reps.none _ _)))); intro v181 w52 ho53 hb hg_ hnew_; clear hg_ hnew_; (first | rw [← Ny180.out] at ho53 | (simp only [Int.reduceToNat] at ho53; rw [← Ny180.out] at ho53)); have n0_ := Aside0.mk (Kd.R_below (by (with_reducible repeat (first | apply Kd.R_alloc | apply Kd.R_drewN | apply Kd.R_drew)); exact HO162.out) hb); have n1_ := Aside0.mk (Kd.R_elder' (by (with_reducible repeat (first | apply Kd.R_alloc | apply Kd.R_drewN | apply Kd.R_drew)); exact HO165.out) (Kd.R_base ho53) hb); have n2_ := Aside0.mk (Kd.R_elder' (by (with_reducible repeat (first | apply Kd.R_alloc | apply Kd.R_drewN | apply Kd.R_drew)); exact HO175.out) (Kd.R_base ho53) hb); have n3_ := Aside0.mk (Kd.R_elder' (by (with_reducible repeat (first | apply Kd.R_alloc | apply Kd.R_drewN | apply Kd.R_drew)); exact HO179.out) (Kd.R_base ho53) hb); have n4_ := Aside0.mk (Kd.R_lower (Kd.R_new' (Kd.R_new' (Kd.R_new' ho53 (Kd.R_lt (by (with_reducible repeat (first | apply Kd.R_alloc | apply Kd.R_drewN | apply Kd.R_drew)); exact HO165.out))) (Kd.R_lt (by (with_reducible repeat (first | apply Kd.R_alloc | apply Kd.R_drewN | apply Kd.R_drew)); exact HO175.out))) (Kd.R_lt (by (with_reducible repeat (first | apply Kd.R_alloc | apply Kd.R_drewN | apply Kd.R_drew)); exact HO179.out))) (below_size (by repeat (first | (with_reducible first | exact HB.out | apply below_alloc | apply pw_below_drewN | apply below_drew1) | exact HB.out)))); have n5_ := Aside0.mk (below_step (by repeat (first | (with_reducible first | exact HB.out | apply below_alloc | apply pw_below_drewN | apply below_drew1) | exact HB.out)) hb); clear HO162; clear HO165; clear HO175; clear HO179; clear HB; have HO162 := n0_; have HO165 := n1_; have HO175 := n2_; have HO179 := n3_; have HO182 := n4_; have HB := n5_; clear n0_ n1_ n2_ n3_ n4_ n5_; clear hb ho53; obtain ⟨Ao54, co54, eo54⟩ := Kd.R_slice HO182.out; subst eo54) | ((with_reducible refine gate_callee (f := 28) rfl ?_); refine goesL_ (some 49) rfl rfl Try.func28 (by kernel_rfl) rfl #[.slice Ao54 y180.length co54] rfl (by (try simp only [List.map_toArray, List.map_cons, List.map_nil]); first | done | rfl | (simp only [List.length_drop, List.length_take]; rfl)) ?_; (with_reducible refine (dir_Hint.calls _ _ y180 t183 t184 _ ?side1 ?side2 A7.out).mono ?_); (case side1 => repeat (first | exact (Kd.R_reads' HO182.out).2.2 | (with_reducible refine Kd.C_alloc ?_ _) | (with_reducible refine Kd.C_drewN ?_ _) | (with_reducible refine Kd.C_drew ?_))); (case side2 => exact (Kd.R_reads' HO182.out).2.1); rintro e w55 ⟨rfl, hb⟩; refine ⟨_, rfl, ?_⟩; have n0_ := Aside0.mk (Kd.R_below (by (with_reducible repeat (first | apply Kd.R_alloc | apply Kd.R_drewN | apply Kd.R_drew)); exact HO162.out) hb); have n1_ := Aside0.mk (Kd.R_below (by (with_reducible repeat (first | apply Kd.R_alloc | apply Kd.R_drewN | apply Kd.R_drew)); exact HO165.out) hb); have n2_ := Aside0.mk (Kd.R_below (by (with_reducible repeat (first | apply Kd.R_alloc | apply Kd.R_drewN | apply Kd.R_drew)); exact HO175.out) hb); have n3_ := Aside0.mk (Kd.R_below (by (with_reducible repeat (first | apply Kd.R_alloc | apply Kd.R_drewN | apply Kd.R_drew)); exact HO179.out) hb); have n4_ := Aside0.mk (Kd.R_below (by (with_reducible repeat (first | apply Kd.R_alloc | apply Kd.R_drewN | apply Kd.R_drew)); exact HO182.out) hb); have n5_ := Aside0.mk (below_step (by repeat (first | (with_reducible first | exact HB.out | apply below_alloc | apply pw_below_drewN | apply below_drew1) | exact HB.out)) hb); clear HO162; clear HO165; clear HO175; clear HO179; clear HO182; clear HB; have HO162 := n0_; have HO165 := n1_; have HO175 := n2_; have HO179 := n3_; have HO182 := n4_; have HB := n5_; clear n0_ n1_ n2_ n3_ n4_ n5_; (try clear hb); (try clear hb2); (try clear hk); (try clear hi)) | ((with_reducible refine gate_callee (f := 25) rfl ?_); refine goesL_ (some 53) rfl rfl Try.func25 (by kernel_rfl) rfl #[.slice Ao46 t163.length co46] rfl (by (try simp only [List.map_toArray, List.map_cons, List.map_nil]); first | done | rfl | (simp only [List.length_drop, List.length_take]; rfl)) ?_; (with_reducible refine (dir_Compact.calls _ _ t163 t185 _ ?side1 ?side2 A8.out).mono ?_); (case side1 => repeat (first | exact (Kd.R_reads' HO165.out).2.2 | (with_reducible refine Kd.C_alloc ?_ _) | (with_reducible refine Kd.C_drewN ?_ _) | (with_reducible refine Kd.C_drew ?_))); (case side2 => exact (Kd.R_reads' HO165.out).2.1); rintro e w56 ⟨v186, rfl, ho0, hb⟩; refine ⟨_, rfl, ?_⟩; have n0_ := Aside0.mk (Kd.R_below (by (with_reducible repeat (first | apply Kd.R_alloc | apply Kd.R_drewN | apply Kd.R_drew)); exact HO162.out) hb); have n1_ := Aside0.mk (Kd.R_below (by (with_reducible repeat (first | apply Kd.R_alloc | apply Kd.R_drewN | apply Kd.R_drew)); exact HO165.out) hb); have n2_ := Aside0.mk (Kd.R_below (by (with_reducible repeat (first | apply Kd.R_alloc | apply Kd.R_drewN | apply Kd.R_drew)); exact HO175.out) hb); have n3_ := Aside0.mk (Kd.R_below (by (with_reducible repeat (first | apply Kd.R_alloc | apply Kd.R_drewN | apply Kd.R_drew)); exact HO179.out) hb); have n4_ := Aside0.mk (Kd.R_below (by (with_reducible repeat (first | apply Kd.R_alloc | apply Kd.R_drewN | apply Kd.R_drew)); exact HO182.out) hb); have n5_ := Aside0.mk (Kd.S_lower (Kd.S_new' ho0 (Kd.R_lt (by (with_reducible repeat (first | apply Kd.R_alloc | apply Kd.R_drewN | apply Kd.R_drew)); exact HO162.out))) (below_size (by repeat (first | (with_reducible first | exact HB.out | apply below_alloc | apply pw_below_drewN | apply below_drew1) | exact HB.out)))); have n6_ := Aside0.mk (below_step (by repeat (first | (with_reducible first | exact HB.out | apply below_alloc | apply pw_below_drewN | apply below_drew1) | exact HB.out)) hb); clear HO162; clear HO165; clear HO175; clear HO179; clear HO182; clear HB; have HO162 := n0_; have HO165 := n1_; have HO175 := n2_; have HO179 := n3_; have HO182 := n4_; have HO187 := n5_; have HB := n6_; clear n0_ n1_ n2_ n3_ n4_ n5_ n6_; (try clear hb); (try clear hb2); (try clear hk); (try clear hi); (try clear ho0)) | ((with_reducible refine gate_dst (N := 57) rfl ?_); (try (refine gate_guard (by rfl) ?_; dsimp only)); refine Kd.R_lit k75 _ 75 ?hg (N := 57) ?hd (xs := ([(⟨(⟨#[97]⟩ : ByteArray), (⟨#[49]⟩ : ByteArray)⟩ : S75), (⟨(⟨#[99]⟩ : ByteArray), (⟨#[]⟩ : ByteArray)⟩ : S75)] : List (S75))) (inner := [.string (⟨#[97]⟩ : ByteArray), .string (⟨#[49]⟩ : ByteArray), .string (⟨#[99]⟩ : ByteArray), .string (⟨#[]⟩ : ByteArray)]) (ok := fun _ => True) (okp := fun _ => True) ?hr ?hp (fun _ hk => hk) trivial (Below.refl _ _) (Nat.le_refl _) (by simp) ?_; (case hd => rfl); (case hg => rfl); (case hr => first | (go_simp; done) | (go_simp; rfl)); (case hp => exact (Reps.c2 (show Kd.M k75 _ _ _ (⟨(⟨#[97]⟩ : ByteArray), (⟨#[49]⟩ : ByteArray)⟩ : S75) [.string (⟨#[97]⟩ : ByteArray), .string (⟨#[49]⟩ : ByteArray)] from (k75_mkM _ _ _ (⟨(⟨#[97]⟩ : ByteArray), (⟨#[49]⟩ : ByteArray)⟩ : S75) )) (Reps.c2 (show Kd.M k75 _ _ _ (⟨(⟨#[99]⟩ : ByteArray), (⟨#[]⟩ : ByteArray)⟩ : S75) [.string (⟨#[99]⟩ : ByteArray), .string (⟨#[]⟩ : ByteArray)] from (k75_mkM _ _ _ (⟨(⟨#[99]⟩ : ByteArray), (⟨#[]⟩ : ByteArray)⟩ : S75) )) (Reps.none _ _)))); intro v189 w57 ho58 hb hg_ hnew_; clear hg_ hnew_; (first | rw [← Ny188.out] at ho58 | (simp only [Int.reduceToNat] at ho58; rw [← Ny188.out] at ho58)); have n0_ := Aside0.mk (Kd.R_below (by (with_reducible repeat (first | apply Kd.R_alloc | apply Kd.R_drewN | apply Kd.R_drew)); exact HO162.out) hb); have n1_ := Aside0.mk (Kd.R_elder' (by (with_reducible repeat (first | apply Kd.R_alloc | apply Kd.R_drewN | apply Kd.R_drew)); exact HO165.out) (Kd.R_base ho58) hb); have n2_ := Aside0.mk (Kd.R_elder' (by (with_reducible repeat (first | apply Kd.R_alloc | apply Kd.R_drewN | apply Kd.R_drew)); exact HO175.out) (Kd.R_base ho58) hb); have n3_ := Aside0.mk (Kd.R_elder' (by (with_reducible repeat (first | apply Kd.R_alloc | apply Kd.R_drewN | apply Kd.R_drew)); exact HO179.out) (Kd.R_base ho58) hb); have n4_ := Aside0.mk (Kd.R_elder' (by (with_reducible repeat (first | apply Kd.R_alloc | apply Kd.R_drewN | apply Kd.R_drew)); exact HO182.out) (Kd.R_base ho58) hb); have n5_ := Aside0.mk (Kd.S_below (by (with_reducible repeat (first | apply Kd.S_alloc | apply Kd.S_drewN | apply Kd.S_drew)); exact HO187.out) hb); have n6_ := Aside0.mk (Kd.R_lower (Kd.R_new' (Kd.R_new' (Kd.R_new' (Kd.R_new' ho58 (Kd.R_lt (by (with_reducible repeat (first | apply Kd.R_alloc | apply Kd.R_drewN | apply Kd.R_drew)); exact HO165.out))) (Kd.R_lt (by (with_reducible repeat (first | apply Kd.R_alloc | apply Kd.R_drewN | apply Kd.R_drew)); exact HO175.out))) (Kd.R_lt (by (with_reducible repeat (first | apply Kd.R_alloc | apply Kd.R_drewN | apply Kd.R_drew)); exact HO179.out))) (Kd.R_lt (by (with_reducible repeat (first | apply Kd.R_alloc | apply Kd.R_drewN | apply Kd.R_drew)); exact HO182.out))) (below_size (by repeat (first | (with_reducible first | exact HB.out | apply below_alloc | apply pw_below_drewN | apply below_drew1) | exact HB.out)))); have n7_ := Aside0.mk (below_step (by repeat (first | (with_reducible first | exact HB.out | apply below_alloc | apply pw_below_drewN | apply below_drew1) | exact HB.out)) hb); clear HO162; clear HO165; clear HO175; clear HO179; clear HO182; clear HO187; clear HB; have HO162 := n0_; have HO165 := n1_; have HO175 := n2_; have HO179 := n3_; have HO182 := n4_; have HO187 := n5_; have HO190 := n6_; have HB := n7_; clear n0_ n1_ n2_ n3_ n4_ n5_ n6_ n7_; clear hb ho58; obtain ⟨Ao59, co59, eo59⟩ := Kd.R_slice HO190.out; subst eo59) | ((with_reducible refine gate_callee (f := 21) rfl ?_); refine goesL_ (some 58) rfl rfl Try.func21 (by kernel_rfl) rfl #[.slice Ao46 t163.length co46, .slice Ao59 y188.length co59] rfl (by (try simp only [List.map_toArray, List.map_cons, List.map_nil]); first | done | rfl | (simp only [List.length_drop, List.length_take]; rfl)) ?_; (with_reducible refine (sheetpileref21_Same.calls k _ _ t163 _ _ y188 true _ ?side1 ?side2 ?side3 ?side4 A9.out).mono ?_); (case side1 => repeat (first | exact (Kd.R_reads' HO165.out).2.2 | (with_reducible refine Kd.C_alloc ?_ _) | (with_reducible refine Kd.C_drewN ?_ _) | (with_reducible refine Kd.C_drew ?_))); (case side2 => exact (Kd.R_reads' HO165.out).2.1); (case side3 => repeat (first | exact (Kd.R_reads' HO190.out).2.2 | (with_reducible refine Kd.C_alloc ?_ _) | (with_reducible refine Kd.C_drewN ?_ _) | (with_reducible refine Kd.C_drew ?_))); (case side4 => exact (Kd.R_reads' HO190.out).2.1); rintro e w' ⟨rfl, ⟨nd, rfl⟩⟩; refine ⟨_, rfl, ?_⟩; obtain ⟨Ao60, co60, eo60⟩ := Kd.R_slice HO175.out; subst eo60) | (go_at_call 21; (with_reducible refine (sheetpileref21_Same.calls k _ _ t172 _ _ t163 true _ ?side1 ?side2 ?side3 ?side4 A33.out).mono ?_); (case side1 => repeat (first | exact (Kd.R_reads' HO175.out).2.2 | (with_reducible refine Kd.C_alloc ?_ _) | (with_reducible refine Kd.C_drewN ?_ _) | (with_reducible refine Kd.C_drew ?_))); (case side2 => exact (Kd.R_reads' HO175.out).2.1); (case side3 => repeat (first | exact (Kd.R_reads' HO165.out).2.2 | (with_reducible refine Kd.C_alloc ?_ _) | (with_reducible refine Kd.C_drewN ?_ _) | (with_reducible refine Kd.C_drew ?_))); (case side4 => exact (Kd.R_reads' HO165.out).2.1); rintro e w' ⟨rfl, ⟨nd, rfl⟩⟩; obtain ⟨Ao61, co61, eo61⟩ := Kd.S_slice HO187.out; subst eo61; have p193 : 0 ≤ (0 : Int) := (by omega); have q193 : 0 < (t185.length : Int) := of_decide_eq_true (by first | (with_reducible assumption) | assumption); obtain ⟨ad193, A193_0, c193_0, e193, hx193_0, hl193_0, hi193_0⟩ := at_L6 (Kd.S_reads' HO187.out).2.2 0 p193 q193; cases e193; obtain ⟨ce193, hce193, hMe193, hcc193⟩ := Kd.S_get HO187.out [] 0 p193 (by first | exact q193 | exact of_decide_eq_true (by first | (with_reducible assumption) | assumption) | (have e_ := (Kd.S_reads' HO187.out).1; omega)); obtain ⟨ve193_0, rfl, ge193_0⟩ := hMe193; have hv193_0 := hcc193 0 _ rfl; rw [Nat.add_zero, show ((Kd.slice 42 k42)).sz = 1 from rfl, Nat.mul_one] at hv193_0; replace hv193_0 := Option.some.inj (hv193_0.symm.trans hx193_0); rw [hv193_0] at ge193_0; have HL193_0 := Aside0.mk (show Kd.R k42 42 _ _ _ _ (rd_L6 t185 0) from ge193_0); clear hv193_0 ge193_0; clear hcc193 hce193; have qi193 : (0 < t185.length) = True := eq_true (by omega); (try rw [show ((0 : Int)).toNat = 0 from rfl] at hx193_0); (try rw [Addr.add_zero'] at hx193_0); have HR193_0 := Aside0.mk hi193_0; have HC193_0 := Aside0.mk hl193_0; clear hi193_0 hl193_0; replace p193 := eq_true p193; replace q193 := eq_true q193) | (go_at_call 23; (with_reducible refine (dir_May.calls k _ _ t163 t194 _ ?side1 ?side2 A41.out).mono ?_); (case side1 => repeat (first | exact (Kd.R_reads' HO165.out).2.2 | (with_reducible refine Kd.C_alloc ?_ _) | (with_reducible refine Kd.C_drewN ?_ _) | (with_reducible refine Kd.C_drew ?_))); (case side2 => exact (Kd.R_reads' HO165.out).2.1); rintro e w62 ⟨rfl, hb⟩; have n0_ := Aside0.mk (Kd.R_below (by (with_reducible repeat (first | apply Kd.R_alloc | apply Kd.R_drewN | apply Kd.R_drew)); exact HO162.out) hb); have n1_ := Aside0.mk (Kd.R_below (by (with_reducible repeat (first | apply Kd.R_alloc | apply Kd.R_drewN | apply Kd.R_drew)); exact HO165.out) hb); have n2_ := Aside0.mk (Kd.R_below (by (with_reducible repeat (first | apply Kd.R_alloc | apply Kd.R_drewN | apply Kd.R_drew)); exact HO175.out) hb); have n3_ := Aside0.mk (Kd.R_below (by (with_reducible repeat (first | apply Kd.R_alloc | apply Kd.R_drewN | apply Kd.R_drew)); exact HO179.out) hb); have n4_ := Aside0.mk (Kd.R_below (by (with_reducible repeat (first | apply Kd.R_alloc | apply Kd.R_drewN | apply Kd.R_drew)); exact HO182.out) hb); have n5_ := Aside0.mk (Kd.S_below (by (with_reducible repeat (first | apply Kd.S_alloc | apply Kd.S_drewN | apply Kd.S_drew)); exact HO187.out) hb); have n6_ := Aside0.mk (Kd.R_below (by (with_reducible repeat (first | apply Kd.R_alloc | apply Kd.R_drewN | apply Kd.R_drew)); exact HO190.out) hb); have n7_ := Aside0.mk (Kd.R_below (by (with_reducible repeat (first | apply Kd.R_alloc | apply Kd.R_drewN | apply Kd.R_drew)); exact HL193_0.out) hb); have n8_ := Aside0.mk (Kd.C_below (by repeat (first | (with_reducible exact HR193_0.out) | (with_reducible refine Kd.C_alloc ?_ _) | (with_reducible refine Kd.C_drewN ?_ _) | (with_reducible refine Kd.C_drew ?_) | exact HR193_0.out)) hb); have n9_ := Aside0.mk (below_step (by repeat (first | (with_reducible first | exact HB.out | apply below_alloc | apply pw_below_drewN | apply below_drew1) | exact HB.out)) hb); clear HO162; clear HO165; clear HO175; clear HO179; clear HO182; clear HO187; clear HO190; clear HL193_0; clear HR193_0; clear HB; have HO162 := n0_; have HO165 := n1_; have HO175 := n2_; have HO179 := n3_; have HO182 := n4_; have HO187 := n5_; have HO190 := n6_; have HL193_0 := n7_; have HR193_0 := n8_; have HB := n9_; clear n0_ n1_ n2_ n3_ n4_ n5_ n6_ n7_ n8_ n9_; (try clear hb); (try clear hb2); (try clear hk); (try clear hi)))
                          go_ret
                          exact ⟨by first | rfl | (simp [errW_none, errW_some] <;> rfl) | (simp [*, errW_none, errW_some] <;> rfl), by repeat (first | (with_reducible first | exact HB.out | apply below_alloc | apply pw_below_drewN | apply below_drew1) | exact HB.out)⟩
                        · rw [if_neg c40] at H
                          exact absurd H (by simp)
                      · rw [if_neg c39] at H
                        exact absurd H (by simp)
                    · rw [if_neg c38] at H
                      exact absurd H (by simp)
                  · rw [if_neg c37] at H
                    exact absurd H (by simp)
                · rw [if_neg c36] at H
                  exact absurd H (by simp)
              · rw [if_neg c35] at H
                exact absurd H (by simp)
            · replace c34 := Bool.eq_false_iff.mpr c34
              subst c34
              have H1 : (some false) = some true := by rw [if_neg (show ¬ (false = true) by decide)] at H; exact H
              exact absurd H1 (by simp)
          · rw [if_neg c32] at H
            exact absurd H (by simp)
      · replace c12 := Bool.eq_false_iff.mpr c12
        subst c12
        have H1 : (some false) = some true := by rw [if_neg (show ¬ (false = true) by decide)] at H; exact H
        exact absurd H1 (by simp)
    · rw [if_neg c11] at H
      exact absurd H (by simp)
  · replace c10 := Bool.eq_false_iff.mpr c10
    subst c10
    have H1 : (some false) = some true := by rw [if_neg (show ¬ (false = true) by decide)] at H; exact H
    exact absurd H1 (by simp)
def sheetpilelaw21_live.f (k : Nat) : Option Bool := if sheetpilelaw21_live0.f k = some true then some true else none
theorem sheetpilelaw21_live.mono : ∀ k, LeO (sheetpilelaw21_live.f k) (sheetpilelaw21_live.f (k + 1)) := by
  intro k r h
  unfold sheetpilelaw21_live.f at h ⊢
  by_cases c : sheetpilelaw21_live0.f k = some true
  · rw [if_pos c] at h
    rw [if_pos (sheetpilelaw21_live0.mono k _ c)]
    exact h
  · rw [if_neg c] at h; cases h
theorem sheetpilelaw21_live.calls (k : Nat) (r : Bool) (w : World) (h : sheetpilelaw21_live.f k = some r) :
    Calls Try.prog 17 #[] w fun e w' => e = .returned (.bool r) ∧ Below w.heap.size w w' := by
  unfold sheetpilelaw21_live.f at h
  by_cases c : sheetpilelaw21_live0.f k = some true
  · rw [if_pos c] at h
    obtain rfl := Option.some.inj h
    exact sheetpilelaw21_live0.calls k w c
  · rw [if_neg c] at h; cases h


/-! ### sheetpileref21_Get: function 20 -/
def sheetpileref21_Get.l0 : Nat → List (S75) → ByteArray → Int → Option (ByteArray × Bool)
  | 0, _, _, _ => none
  | k + 1, x0, x1, x6 => if x6 < (x0.length : Int) then (if 0 ≤ x6 then (if ((rd_T75 x0 x6).f0).toList = x1.toList then (some ((rd_T75 x0 x6).f1, true)) else (sheetpileref21_Get.l0 k x0 x1 (wrap64 (x6 + 1)))) else (none)) else (some ((⟨#[]⟩ : ByteArray), false))
def sheetpileref21_Get.f (k : Nat) (l0 : List (S75)) (a1 : ByteArray) : Option (ByteArray × Bool) := sheetpileref21_Get.l0 k l0 a1 0
theorem sheetpileref21_Get.mono_l : ∀ k, (∀ y0 y1 y2, LeO (sheetpileref21_Get.l0 k y0 y1 y2) (sheetpileref21_Get.l0 (k + 1) y0 y1 y2))
  | 0 => fun _ _ _ r h => by simp [sheetpileref21_Get.l0] at h
  | k + 1 => by
    have ih0 := sheetpileref21_Get.mono_l k
    · intro y0 y1 y2
      unfold sheetpileref21_Get.l0
      repeat' first
      | (with_reducible exact ih0 _ _ _)
      | (with_reducible exact LeO.refl _)
      | (with_reducible exact LeO.none _)
      | (with_reducible refine LeO.ite ?_ ?_)
      | (with_reducible refine LeO.bind ?_ (fun _ => ?_))
      | exact ih0 _ _ _
      | exact LeO.none _
      | refine LeO.ite ?_ ?_
      | refine LeO.bind ?_ (fun _ => ?_)
theorem sheetpileref21_Get.mono : ∀ a0 a1 k, LeO (sheetpileref21_Get.f k a0 a1) (sheetpileref21_Get.f (k + 1) a0 a1) := by
  intro a0 a1 k
  have ih0 := sheetpileref21_Get.mono_l k
  unfold sheetpileref21_Get.f
  repeat' first
      | (with_reducible exact ih0 _ _ _)
      | (with_reducible exact LeO.refl _)
      | (with_reducible exact LeO.none _)
      | (with_reducible refine LeO.ite ?_ ?_)
      | (with_reducible refine LeO.bind ?_ (fun _ => ?_))
      | exact ih0 _ _ _
      | exact LeO.none _
      | refine LeO.ite ?_ ?_
      | refine LeO.bind ?_ (fun _ => ?_)
set_option maxHeartbeats 8000000 in
set_option maxRecDepth 100000 in
theorem sheetpileref21_Get.calls (k : Nat) (A0 : Option Addr) (c0 : Nat) (l0 : List (S75)) (a1 : ByteArray) (r1 : ByteArray) (r2 : Bool) (w : World) (hr0 : Kd.C k75 w A0 l0.length l0) (hc0 : l0.length ≤ c0) (h : sheetpileref21_Get.f k l0 a1 = some (r1, r2)) :
    Calls Try.prog 20 #[.slice A0 l0.length c0, .string a1] w fun e w' => e = .returned (.tuple #[.string r1, .bool r2]) ∧ Drawn0 w w' := by
  have HR0 := Aside0.mk hr0
  have HC0 := Aside0.mk hc0
  clear hr0 hc0
  have H : (sheetpileref21_Get.l0 k l0 a1 0) = some (r1, r2) := h
  clear h
  have H' := Aside0.mk H
  clear H
  go_enter Try.func20, Try.ntmps20
  go_wp2
  go_loopg [6] k (fun kq v6 w' => ∃ (x6_1 : Int), v6 = .int .i64 x6_1 ∧ Aside0 (sheetpileref21_Get.l0 kq l0 a1 x6_1 = some (r1, r2)) ∧ Aside0 (kq ≤ k) ∧ Drawn0 w w')
  case atStart => exact ⟨(0), (by first | rfl | (simp; done) | (simp [*]; done) | exact congrArg Value.bool (by cases ByteArray.toList a0 <;> rfl) | exact congrArg Value.bool (by cases ByteArray.toList a1 <;> rfl)), H', ⟨Nat.le_refl _⟩, by repeat (first | exact Drawn0.refl _ | apply Drawn0.step)⟩
  case round =>
    clear H'
    try clear c2
    try clear p2
    obtain ⟨x6_1, rfl, HA, HK1, ⟨m1, rfl⟩⟩ := hrel
    cases gk with
    | zero => exact absurd HA.out (by simp [sheetpileref21_Get.l0])
    | succ k1 =>
      have H := HA.out
      clear HA
      simp only [sheetpileref21_Get.l0] at H
      by_cases c3 : x6_1 < (l0.length : Int)
      · rw [if_pos c3] at H
        have c3b0 : decide (x6_1 < (l0.length : Int)) = true := decide_eq_true c3
        clear c3
        by_cases c4 : 0 ≤ x6_1
        · rw [if_pos c4] at H
          have c4b0 : decide (0 ≤ x6_1) = true := decide_eq_true c4
          clear c4
          by_cases c5 : ((rd_T75 l0 x6_1).f0).toList = a1.toList
          · rw [if_pos c5] at H
            have c5b0 : (((rd_T75 l0 x6_1).f0).toList == a1.toList) = true := beq_iff_eq.mpr c5
            have c5b1 : (((rd_T75 l0 x6_1).f0).toList != a1.toList) = false := bne_eq_false_iff_eq.mpr c5
            clear c5
            simp only [Option.some.injEq, Prod.mk.injEq] at H
            obtain ⟨rfl, rfl⟩ := H
            have p195 : 0 ≤ (x6_1 : Int) := of_decide_eq_true (by first | (with_reducible assumption) | assumption)
            have q195 : x6_1 < (l0.length : Int) := of_decide_eq_true (by first | (with_reducible assumption) | assumption)
            obtain ⟨ad195, e195, hx195_0, hx195_1⟩ := at_T75 HR0.out x6_1 p195 q195
            cases e195
            replace p195 := eq_true p195
            replace q195 := eq_true q195
            have p196 : 0 ≤ (x6_1 : Int) := of_decide_eq_true (by first | (with_reducible assumption) | assumption)
            have q196 : x6_1 < (l0.length : Int) := of_decide_eq_true (by first | (with_reducible assumption) | assumption)
            obtain ⟨ad196, e196, hx196_0, hx196_1⟩ := at_T75 HR0.out x6_1 p196 q196
            obtain rfl : ad195 = ad196 := (by injection e196)
            replace p196 := eq_true p196
            replace q196 := eq_true q196
            go_wp2
            go_ret2
            exact ⟨by first | rfl | (simp; done) | (simp [*]; done), by repeat (first | exact Drawn0.refl _ | apply Drawn0.step)⟩
          · rw [if_neg c5] at H
            have c5b0 : (((rd_T75 l0 x6_1).f0).toList == a1.toList) = false := beq_eq_false_iff_ne.mpr c5
            have c5b1 : (((rd_T75 l0 x6_1).f0).toList != a1.toList) = true := bne_iff_ne.mpr c5
            have H' := Aside0.mk H
            clear H
            have p195 : 0 ≤ (x6_1 : Int) := of_decide_eq_true (by first | (with_reducible assumption) | assumption)
            have q195 : x6_1 < (l0.length : Int) := of_decide_eq_true (by first | (with_reducible assumption) | assumption)
            obtain ⟨ad195, e195, hx195_0, hx195_1⟩ := at_T75 HR0.out x6_1 p195 q195
            cases e195
            replace p195 := eq_true p195
            replace q195 := eq_true q195
            go_wp2
            go_roundg k1
            case measure => have := HK1.out; omega
            case rel => exact ⟨(wrap64 (x6_1 + 1)), (by first | rfl | (simp; done) | (simp [*]; done) | exact congrArg Value.bool (by cases ByteArray.toList a0 <;> rfl) | exact congrArg Value.bool (by cases ByteArray.toList a1 <;> rfl)), H', ⟨by have := HK1.out; omega⟩, by repeat (first | exact Drawn0.refl _ | apply Drawn0.step)⟩
        · rw [if_neg c4] at H
          exact absurd H (by simp)
      · rw [if_neg c3] at H
        have c3b0 : decide (x6_1 < (l0.length : Int)) = false := decide_eq_false c3
        clear c3
        simp only [Option.some.injEq, Prod.mk.injEq] at H
        obtain ⟨rfl, rfl⟩ := H
        go_wp2
        go_ret2
        exact ⟨by first | rfl | (simp; done) | (simp [*]; done), by repeat (first | exact Drawn0.refl _ | apply Drawn0.step)⟩

/-! ### sheetpileref08_more: function 117 -/
mutual
def sheetpileref08_more.j0 : Nat → Int → Bool → Option (Int)
  | 0, _, _ => none
  | k + 1, x0, x6 => if x6 = true then (some 1) else (if x0 ≥ 224 then (sheetpileref08_more.j1 k x0 (decide (x0 < 240))) else (sheetpileref08_more.j1 k x0 false))
def sheetpileref08_more.j1 : Nat → Int → Bool → Option (Int)
  | 0, _, _ => none
  | k + 1, x0, x13 => if x13 = true then (some 2) else (if x0 ≥ 240 then (if x0 < 248 then (some 3) else (some (-1))) else (some (-1)))
end
def sheetpileref08_more.f (k : Nat) (a0 : Int) : Option (Int) := if a0 < 128 then (some 0) else (if a0 ≥ 192 then (sheetpileref08_more.j0 k a0 (decide (a0 < 224))) else (sheetpileref08_more.j0 k a0 false))
theorem sheetpileref08_more.mono_l : ∀ k, (∀ y0 y1, LeO (sheetpileref08_more.j0 k y0 y1) (sheetpileref08_more.j0 (k + 1) y0 y1)) ∧ (∀ y0 y1, LeO (sheetpileref08_more.j1 k y0 y1) (sheetpileref08_more.j1 (k + 1) y0 y1))
  | 0 => ⟨fun _ _ r h => by simp [sheetpileref08_more.j0] at h, fun _ _ r h => by simp [sheetpileref08_more.j1] at h⟩
  | k + 1 => by
    obtain ⟨ih0, ih1⟩ := sheetpileref08_more.mono_l k
    refine ⟨?_, ?_⟩
    · intro y0 y1
      unfold sheetpileref08_more.j0
      repeat' first
      | (with_reducible exact ih0 _ _)
      | (with_reducible exact ih1 _ _)
      | (with_reducible exact LeO.refl _)
      | (with_reducible exact LeO.none _)
      | (with_reducible refine LeO.ite ?_ ?_)
      | (with_reducible refine LeO.bind ?_ (fun _ => ?_))
      | exact ih0 _ _
      | exact ih1 _ _
      | exact LeO.none _
      | refine LeO.ite ?_ ?_
      | refine LeO.bind ?_ (fun _ => ?_)
    · intro y0 y1
      unfold sheetpileref08_more.j1
      repeat' first
      | (with_reducible exact ih0 _ _)
      | (with_reducible exact ih1 _ _)
      | (with_reducible exact LeO.refl _)
      | (with_reducible exact LeO.none _)
      | (with_reducible refine LeO.ite ?_ ?_)
      | (with_reducible refine LeO.bind ?_ (fun _ => ?_))
      | exact ih0 _ _
      | exact ih1 _ _
      | exact LeO.none _
      | refine LeO.ite ?_ ?_
      | refine LeO.bind ?_ (fun _ => ?_)
theorem sheetpileref08_more.mono : ∀ a0 k, LeO (sheetpileref08_more.f k a0) (sheetpileref08_more.f (k + 1) a0) := by
  intro a0 k
  obtain ⟨ih0, ih1⟩ := sheetpileref08_more.mono_l k
  unfold sheetpileref08_more.f
  repeat' first
      | (with_reducible exact ih0 _ _)
      | (with_reducible exact ih1 _ _)
      | (with_reducible exact LeO.refl _)
      | (with_reducible exact LeO.none _)
      | (with_reducible refine LeO.ite ?_ ?_)
      | (with_reducible refine LeO.bind ?_ (fun _ => ?_))
      | exact ih0 _ _
      | exact ih1 _ _
      | exact LeO.none _
      | refine LeO.ite ?_ ?_
      | refine LeO.bind ?_ (fun _ => ?_)
set_option maxHeartbeats 8000000 in
set_option maxRecDepth 100000 in
theorem sheetpileref08_more.calls (k : Nat) (a0 : Int) (r : Int) (w : World) (h : sheetpileref08_more.f k a0 = some r) :
    Calls Try.prog 117 #[.int .u8 a0] w fun e w' => e = .returned (.int .i64 r) ∧ Drawn0 w w' := by
  have H : (if a0 < 128 then (some 0) else (if a0 ≥ 192 then (sheetpileref08_more.j0 k a0 (decide (a0 < 224))) else (sheetpileref08_more.j0 k a0 false))) = some r := h
  clear h
  by_cases c2 : a0 < 128
  · rw [if_pos c2] at H
    have c2b0 : decide (a0 < 128) = true := decide_eq_true c2
    clear c2
    obtain rfl := Option.some.inj H
    go_enter Try.func117, Try.ntmps117
    go_wp2
    go_ret
    exact ⟨by first | rfl | (simp; done) | (simp [*]; done), by repeat (first | exact Drawn0.refl _ | apply Drawn0.step)⟩
  · rw [if_neg c2] at H
    have c2b0 : decide (a0 < 128) = false := decide_eq_false c2
    clear c2
    have HC3 := Aside0.mk H
    clear H
    go_enter Try.func117, Try.ntmps117
    go_upto_region 3 with (fail)
    go_cut [6] (fun v6 wc => ∃ (kq : Nat) (x6_2 : Bool), v6 = .bool x6_2 ∧ Aside0 (sheetpileref08_more.j0 kq a0 x6_2 = some r) ∧ Aside0 (kq ≤ k) ∧ Drawn0 w wc)
    case first =>
      have H := HC3.out
      clear HC3
      by_cases c4 : a0 ≥ 192
      · rw [if_pos c4] at H
        have c4b0 : decide (192 ≤ a0) = true := decide_eq_true c4
        clear c4
        (first | rw [c4b0] | (simp only [i64_w, i32_w]; rw [c4b0]) | skip)
        have H' := Aside0.mk H
        clear H
        go_wp2
        go_meet
        case rel => exact ⟨_, (decide (a0 < 224)), (by first | rfl | (simp; done) | (simp [*]; done) | exact congrArg Value.bool (by cases ByteArray.toList a0 <;> rfl) | exact congrArg Value.bool (by cases ByteArray.toList a1 <;> rfl)), H', ⟨by first | omega | exact Nat.le_refl _⟩, by repeat (first | exact Drawn0.refl _ | apply Drawn0.step)⟩
      · rw [if_neg c4] at H
        have c4b0 : decide (192 ≤ a0) = false := decide_eq_false c4
        clear c4
        (first | rw [c4b0] | (simp only [i64_w, i32_w]; rw [c4b0]) | skip)
        have H' := Aside0.mk H
        clear H
        go_wp2
        go_meet
        case rel => exact ⟨_, (false), (by first | rfl | (simp; done) | (simp [*]; done) | exact congrArg Value.bool (by cases ByteArray.toList a0 <;> rfl) | exact congrArg Value.bool (by cases ByteArray.toList a1 <;> rfl)), H', ⟨by first | omega | exact Nat.le_refl _⟩, by repeat (first | exact Drawn0.refl _ | apply Drawn0.step)⟩
    case rest =>
      clear HC3
      try clear c1
      try clear c2
      try clear c2b0
      try clear p2
      try clear c4
      try clear c4b0
      obtain ⟨kq, x6_2, rfl, HA, HJ2, ⟨mc2, rfl⟩⟩ := hcut
      cases kq with
      | zero => exact absurd HA.out (by simp [sheetpileref08_more.j0])
      | succ kj2 =>
        have H := HA.out
        clear HA
        simp only [sheetpileref08_more.j0] at H
        by_cases c5 : x6_2 = true
        · subst c5
          have H1 : (some 1) = some r := by rw [if_pos rfl] at H; exact H
          clear H
          have H := H1
          clear H1
          obtain rfl := Option.some.inj H
          go_wp2
          go_ret
          exact ⟨by first | rfl | (simp; done) | (simp [*]; done), by repeat (first | exact Drawn0.refl _ | apply Drawn0.step)⟩
        · replace c5 := Bool.eq_false_iff.mpr c5
          subst c5
          have H1 : (if a0 ≥ 224 then (sheetpileref08_more.j1 kj2 a0 (decide (a0 < 240))) else (sheetpileref08_more.j1 kj2 a0 false)) = some r := by rw [if_neg (show ¬ (false = true) by decide)] at H; exact H
          clear H
          have H := H1
          clear H1
          have HC6 := Aside0.mk H
          clear H
          go_upto_region 5 with (fail)
          go_cut [13] (fun v13 wc => ∃ (kq : Nat) (x13_5 : Bool), v13 = .bool x13_5 ∧ Aside0 (sheetpileref08_more.j1 kq a0 x13_5 = some r) ∧ Aside0 (kq ≤ kj2) ∧ Drawn0 w wc)
          case first =>
            have H := HC6.out
            clear HC6
            by_cases c7 : a0 ≥ 224
            · rw [if_pos c7] at H
              have c7b0 : decide (224 ≤ a0) = true := decide_eq_true c7
              clear c7
              (first | rw [c7b0] | (simp only [i64_w, i32_w]; rw [c7b0]) | skip)
              have H' := Aside0.mk H
              clear H
              go_wp2
              go_meet
              case rel => exact ⟨_, (decide (a0 < 240)), (by first | rfl | (simp; done) | (simp [*]; done) | exact congrArg Value.bool (by cases ByteArray.toList a0 <;> rfl) | exact congrArg Value.bool (by cases ByteArray.toList a1 <;> rfl)), H', ⟨by have := HJ2.out; first | omega | exact Nat.le_refl _⟩, by repeat (first | exact Drawn0.refl _ | apply Drawn0.step)⟩
            · rw [if_neg c7] at H
              have c7b0 : decide (224 ≤ a0) = false := decide_eq_false c7
              clear c7
              (first | rw [c7b0] | (simp only [i64_w, i32_w]; rw [c7b0]) | skip)
              have H' := Aside0.mk H
              clear H
              go_wp2
              go_meet
              case rel => exact ⟨_, (false), (by first | rfl | (simp; done) | (simp [*]; done) | exact congrArg Value.bool (by cases ByteArray.toList a0 <;> rfl) | exact congrArg Value.bool (by cases ByteArray.toList a1 <;> rfl)), H', ⟨by have := HJ2.out; first | omega | exact Nat.le_refl _⟩, by repeat (first | exact Drawn0.refl _ | apply Drawn0.step)⟩
          case rest =>
            clear HC6
            try clear c1
            try clear c2
            try clear c2b0
            try clear p2
            try clear c4
            try clear c4b0
            try clear c5
            try clear c7
            try clear c7b0
            try clear p2
            obtain ⟨kq, x13_5, rfl, HA, HJ5, ⟨mc5, rfl⟩⟩ := hcut
            cases kq with
            | zero => exact absurd HA.out (by simp [sheetpileref08_more.j1])
            | succ kj5 =>
              have H := HA.out
              clear HA
              simp only [sheetpileref08_more.j1] at H
              by_cases c8 : x13_5 = true
              · subst c8
                have H1 : (some 2) = some r := by rw [if_pos rfl] at H; exact H
                clear H
                have H := H1
                clear H1
                obtain rfl := Option.some.inj H
                go_wp2
                go_ret
                exact ⟨by first | rfl | (simp; done) | (simp [*]; done), by repeat (first | exact Drawn0.refl _ | apply Drawn0.step)⟩
              · replace c8 := Bool.eq_false_iff.mpr c8
                subst c8
                have H1 : (if a0 ≥ 240 then (if a0 < 248 then (some 3) else (some (-1))) else (some (-1))) = some r := by rw [if_neg (show ¬ (false = true) by decide)] at H; exact H
                clear H
                have H := H1
                clear H1
                by_cases c9 : a0 ≥ 240
                · rw [if_pos c9] at H
                  have c9b0 : decide (240 ≤ a0) = true := decide_eq_true c9
                  clear c9
                  by_cases c10 : a0 < 248
                  · rw [if_pos c10] at H
                    have c10b0 : decide (a0 < 248) = true := decide_eq_true c10
                    clear c10
                    obtain rfl := Option.some.inj H
                    go_wp2
                    go_ret
                    exact ⟨by first | rfl | (simp; done) | (simp [*]; done), by repeat (first | exact Drawn0.refl _ | apply Drawn0.step)⟩
                  · rw [if_neg c10] at H
                    have c10b0 : decide (a0 < 248) = false := decide_eq_false c10
                    clear c10
                    obtain rfl := Option.some.inj H
                    go_wp2
                    go_ret
                    exact ⟨by first | rfl | (simp; done) | (simp [*]; done), by repeat (first | exact Drawn0.refl _ | apply Drawn0.step)⟩
                · rw [if_neg c9] at H
                  have c9b0 : decide (240 ≤ a0) = false := decide_eq_false c9
                  clear c9
                  obtain rfl := Option.some.inj H
                  go_wp2
                  go_ret
                  exact ⟨by first | rfl | (simp; done) | (simp [*]; done), by repeat (first | exact Drawn0.refl _ | apply Drawn0.step)⟩

/-! ### sheetpileref08_first: function 118 -/
def sheetpileref08_first.f (a0 : Int) (a1 : Int) : Option (Int) := if a1 = 0 then (some (wrap64 (a0))) else (if a1 = 1 then (some (Int.tmod (wrap64 (a0)) 32)) else (if a1 = 2 then (some (Int.tmod (wrap64 (a0)) 16)) else (some (Int.tmod (wrap64 (a0)) 8))))
set_option maxHeartbeats 8000000 in
set_option maxRecDepth 100000 in
theorem sheetpileref08_first.calls (a0 : Int) (a1 : Int) (r : Int) (w : World) (h : sheetpileref08_first.f a0 a1 = some r) :
    Calls Try.prog 118 #[.int .u8 a0, .int .i64 a1] w fun e w' => e = .returned (.int .i64 r) ∧ Drawn0 w w' := by
  have H : (if a1 = 0 then (some (wrap64 (a0))) else (if a1 = 1 then (some (Int.tmod (wrap64 (a0)) 32)) else (if a1 = 2 then (some (Int.tmod (wrap64 (a0)) 16)) else (some (Int.tmod (wrap64 (a0)) 8))))) = some r := h
  clear h
  by_cases c3 : a1 = 0
  · rw [if_pos c3] at H
    have c3b0 : (a1 == 0) = true := beq_iff_eq.mpr c3
    have c3b1 : (a1 != 0) = false := bne_eq_false_iff_eq.mpr c3
    clear c3
    obtain rfl := Option.some.inj H
    go_enter Try.func118, Try.ntmps118
    go_wp2
    go_ret
    exact ⟨by first | rfl | (simp; done) | (simp [*]; done), by repeat (first | exact Drawn0.refl _ | apply Drawn0.step)⟩
  · rw [if_neg c3] at H
    have c3b0 : (a1 == 0) = false := beq_eq_false_iff_ne.mpr c3
    have c3b1 : (a1 != 0) = true := bne_iff_ne.mpr c3
    by_cases c4 : a1 = 1
    · rw [if_pos c4] at H
      have c4b0 : (a1 == 1) = true := beq_iff_eq.mpr c4
      have c4b1 : (a1 != 1) = false := bne_eq_false_iff_eq.mpr c4
      clear c4
      obtain rfl := Option.some.inj H
      go_enter Try.func118, Try.ntmps118
      go_wp2
      go_ret
      exact ⟨by first | rfl | (simp; done) | (simp [*]; done), by repeat (first | exact Drawn0.refl _ | apply Drawn0.step)⟩
    · rw [if_neg c4] at H
      have c4b0 : (a1 == 1) = false := beq_eq_false_iff_ne.mpr c4
      have c4b1 : (a1 != 1) = true := bne_iff_ne.mpr c4
      by_cases c5 : a1 = 2
      · rw [if_pos c5] at H
        have c5b0 : (a1 == 2) = true := beq_iff_eq.mpr c5
        have c5b1 : (a1 != 2) = false := bne_eq_false_iff_eq.mpr c5
        clear c5
        obtain rfl := Option.some.inj H
        go_enter Try.func118, Try.ntmps118
        go_wp2
        go_ret
        exact ⟨by first | rfl | (simp; done) | (simp [*]; done), by repeat (first | exact Drawn0.refl _ | apply Drawn0.step)⟩
      · rw [if_neg c5] at H
        have c5b0 : (a1 == 2) = false := beq_eq_false_iff_ne.mpr c5
        have c5b1 : (a1 != 2) = true := bne_iff_ne.mpr c5
        obtain rfl := Option.some.inj H
        go_enter Try.func118, Try.ntmps118
        go_wp2
        go_ret
        exact ⟨by first | rfl | (simp; done) | (simp [*]; done), by repeat (first | exact Drawn0.refl _ | apply Drawn0.step)⟩

/-! ### sheetpileref08_fits: function 119 -/
def sheetpileref08_fits.f (a0 : Int) (a1 : Int) : Option (Bool) := if a1 = 0 then (some true) else (if a1 = 1 then (some (decide (a0 ≥ 128))) else (if a1 = 2 then (if a0 ≥ 2048 then (if a0 < 55296 then (some true) else (some (decide (a0 > 57343)))) else (some false)) else (if a0 ≥ 65536 then (some (decide (a0 ≤ 1114111))) else (some false))))
set_option maxHeartbeats 8000000 in
set_option maxRecDepth 100000 in
theorem sheetpileref08_fits.calls (a0 : Int) (a1 : Int) (r : Bool) (w : World) (h : sheetpileref08_fits.f a0 a1 = some r) :
    Calls Try.prog 119 #[.int .i64 a0, .int .i64 a1] w fun e w' => e = .returned (.bool r) ∧ Drawn0 w w' := by
  have H : (if a1 = 0 then (some true) else (if a1 = 1 then (some (decide (a0 ≥ 128))) else (if a1 = 2 then (if a0 ≥ 2048 then (if a0 < 55296 then (some true) else (some (decide (a0 > 57343)))) else (some false)) else (if a0 ≥ 65536 then (some (decide (a0 ≤ 1114111))) else (some false))))) = some r := h
  clear h
  by_cases c3 : a1 = 0
  · rw [if_pos c3] at H
    have c3b0 : (a1 == 0) = true := beq_iff_eq.mpr c3
    have c3b1 : (a1 != 0) = false := bne_eq_false_iff_eq.mpr c3
    clear c3
    obtain rfl := Option.some.inj H
    go_enter Try.func119, Try.ntmps119
    go_wp2
    go_ret
    exact ⟨by first | rfl | (simp; done) | (simp [*]; done), by repeat (first | exact Drawn0.refl _ | apply Drawn0.step)⟩
  · rw [if_neg c3] at H
    have c3b0 : (a1 == 0) = false := beq_eq_false_iff_ne.mpr c3
    have c3b1 : (a1 != 0) = true := bne_iff_ne.mpr c3
    by_cases c4 : a1 = 1
    · rw [if_pos c4] at H
      have c4b0 : (a1 == 1) = true := beq_iff_eq.mpr c4
      have c4b1 : (a1 != 1) = false := bne_eq_false_iff_eq.mpr c4
      clear c4
      obtain rfl := Option.some.inj H
      go_enter Try.func119, Try.ntmps119
      go_wp2
      go_ret
      exact ⟨by first | rfl | (simp; done) | (simp [*]; done), by repeat (first | exact Drawn0.refl _ | apply Drawn0.step)⟩
    · rw [if_neg c4] at H
      have c4b0 : (a1 == 1) = false := beq_eq_false_iff_ne.mpr c4
      have c4b1 : (a1 != 1) = true := bne_iff_ne.mpr c4
      by_cases c5 : a1 = 2
      · rw [if_pos c5] at H
        have c5b0 : (a1 == 2) = true := beq_iff_eq.mpr c5
        have c5b1 : (a1 != 2) = false := bne_eq_false_iff_eq.mpr c5
        clear c5
        by_cases c6 : a0 ≥ 2048
        · rw [if_pos c6] at H
          have c6b0 : decide (2048 ≤ a0) = true := decide_eq_true c6
          clear c6
          by_cases c7 : a0 < 55296
          · rw [if_pos c7] at H
            have c7b0 : decide (a0 < 55296) = true := decide_eq_true c7
            clear c7
            obtain rfl := Option.some.inj H
            go_enter Try.func119, Try.ntmps119
            go_wp2
            go_ret
            exact ⟨by first | rfl | (simp; done) | (simp [*]; done), by repeat (first | exact Drawn0.refl _ | apply Drawn0.step)⟩
          · rw [if_neg c7] at H
            have c7b0 : decide (a0 < 55296) = false := decide_eq_false c7
            clear c7
            obtain rfl := Option.some.inj H
            go_enter Try.func119, Try.ntmps119
            go_wp2
            go_ret
            exact ⟨by first | rfl | (simp; done) | (simp [*]; done), by repeat (first | exact Drawn0.refl _ | apply Drawn0.step)⟩
        · rw [if_neg c6] at H
          have c6b0 : decide (2048 ≤ a0) = false := decide_eq_false c6
          clear c6
          obtain rfl := Option.some.inj H
          go_enter Try.func119, Try.ntmps119
          go_wp2
          go_ret
          exact ⟨by first | rfl | (simp; done) | (simp [*]; done), by repeat (first | exact Drawn0.refl _ | apply Drawn0.step)⟩
      · rw [if_neg c5] at H
        have c5b0 : (a1 == 2) = false := beq_eq_false_iff_ne.mpr c5
        have c5b1 : (a1 != 2) = true := bne_iff_ne.mpr c5
        by_cases c8 : a0 ≥ 65536
        · rw [if_pos c8] at H
          have c8b0 : decide (65536 ≤ a0) = true := decide_eq_true c8
          clear c8
          obtain rfl := Option.some.inj H
          go_enter Try.func119, Try.ntmps119
          go_wp2
          go_ret
          exact ⟨by first | rfl | (simp; done) | (simp [*]; done), by repeat (first | exact Drawn0.refl _ | apply Drawn0.step)⟩
        · rw [if_neg c8] at H
          have c8b0 : decide (65536 ≤ a0) = false := decide_eq_false c8
          clear c8
          obtain rfl := Option.some.inj H
          go_enter Try.func119, Try.ntmps119
          go_wp2
          go_ret
          exact ⟨by first | rfl | (simp; done) | (simp [*]; done), by repeat (first | exact Drawn0.refl _ | apply Drawn0.step)⟩

end Go.Proofs.Ytggngbbkachpaaa.PDi
