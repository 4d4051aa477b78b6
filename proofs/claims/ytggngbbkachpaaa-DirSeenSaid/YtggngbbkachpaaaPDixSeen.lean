/- The law DirSeen walked: a hint's bytes, some bits turned, are read with a fault. -/
import Derived.Test.YtggngbbkachpaaaProg
import Derived.Below
import Derived.Deep.Draws
import Derived.Deep.AppendLies
import Derived.Maps.AppendAt
import Derived.OwnWalk
import Derived.Laws.BytesArg
import Derived.Laws.MakeOwn
import Derived.Laws.OwnMore
import Derived.Deep.OwnRows
import Derived.Tactics
import Derived.Lib.ConvBytes
import Derived.Laws.Slices
import Derived.WalkKit
import Derived.KernelRfl
import Derived.RowKit3
import Derived.Deep.LoopGhost
import Derived.Deep.QuietTactic
import Derived.BigQuiet
import Derived.WideLaws
import Derived.Deep.DeepCutAuto
import Derived.Deep.CutBlock
import Derived.Deep.RegionHeld3
import Derived.Laws.Rows
import Derived.Lib.AppendStr
import Derived.ArgAppend
import Derived.Laws.IdiomCopy
import Derived.OrdersHeld
import Derived.Laws.BitsLemmas
import Derived.RowKit
import Derived.Test.YtggngbbkachpaaaWWords
import Derived.Test.YtggngbbkachpaaaWLast
import Derived.Test.YtggngbbkachpaaaWTab
import Derived.Test.YtggngbbkachpaaaWFour
import Derived.Test.YtggngbbkachpaaaWQPut
import Derived.Test.YtggngbbkachpaaaWApart
import Derived.Test.YtggngbbkachpaaaWArr
import Derived.Test.YtggngbbkachpaaaWZeros
import Derived.Test.YtggngbbkachpaaaWFoot
import Derived.Test.YtggngbbkachpaaaWKept
import Derived.Test.YtggngbbkachpaaaWShare
import Derived.Test.YtggngbbkachpaaaWN
import Derived.Test.YtggngbbkachpaaaWFootNe
import Derived.Test.YtggngbbkachpaaaWAt
import Derived.Test.YtggngbbkachpaaaWEqStruct
import Derived.Test.YtggngbbkachpaaaWRepsOne
import Derived.Test.YtggngbbkachpaaaWInv
import Derived.Test.YtggngbbkachpaaaWInvWords
import Derived.Test.YtggngbbkachpaaaWGuard
import Derived.Test.YtggngbbkachpaaaWNEv
import Derived.Test.YtggngbbkachpaaaWMore
import Derived.Laws.BitsAllLaws
import Derived.Test.YtggngbbkachpaaaPDix10
import Derived.Test.YtggngbbkachpaaaPDix14
import Derived.Test.YtggngbbkachpaaaDirHint
import Derived.Test.YtggngbbkachpaaaPureDirSeenP
import Derived.Test.YtggngbbkachpaaaMendStr
namespace Go.Proofs.Ytggngbbkachpaaa.PDi
open Go.RowKit Go.Proofs.Ytggngbbkachpaaa.PDi Go.Proofs.Ytggngbbkachpaaa.Given Go.Proofs.Ytggngbbkachpaaa.Pure Go.Proofs.Ytggngbbkachpaaa.Bs Go.Proofs.Ytggngbbkachpaaa.WirePlain Go.Proofs.Ytggngbbkachpaaa.KeyPlain Go.Proofs.Ytggngbbkachpaaa.RunesPlain Go.Proofs.Ytggngbbkachpaaa.CrcPlain Go.Proofs.YtggngbbkachpaaaW.PrintWords Go.Proofs.YtggngbbkachpaaaW.PrintLast Go.Proofs.YtggngbbkachpaaaW.PrintMore
set_option linter.unusedVariables false
set_option linter.unusedSimpArgs false
/-- A row of bytes of the call's own, at block g. -/
def BRow (w wr : World) (g : Nat) (l : List UInt8) : Prop := w.heap.size ≤ g ∧ Below w.heap.size w wr ∧ ∀ j, j < l.length → wr.cell? ⟨g, j, none⟩ = some (.int .u8 ((l[j]?.getD 0).toNat : Int)) ∧ wr.frozen? ⟨g, j, none⟩ = false
theorem BRow.start (w : World) (e : TypeId) (l : List UInt8) : BRow w (Lib.bytesWorld w e (bs l)) w.heap.size l := by
  refine ⟨Nat.le_refl _, bytes_below (Below.refl _ _) (Nat.le_refl _) e _, fun j hj => ⟨?_, ?_⟩⟩
  · have := Lib.bytesWorld_cell w e (bs l) j (by rw [bs_size]; exact hj)
    rw [bs_data] at this
    simpa using this
  · have hj' : j < (Lib.bytesCells w e (bs l)).size := by
      have := bs_size l
      simp [Lib.bytesCells]; omega
    simp [World.frozen?, Lib.bytesWorld_at_new]
    omega
theorem BRow.put {w wr : World} {g : Nat} {l : List UInt8} (h : BRow w wr g l) (i : Nat) (c : UInt8) (hi : i < l.length) : BRow w (wr.setCell ⟨g, i, none⟩ (.int .u8 (c.toNat : Int))) g (l.set i c) := by
  obtain ⟨h1, h2, h3⟩ := h
  refine ⟨h1, h2.setCell h1 _, fun j hj => ⟨?_, ?_⟩⟩
  · rw [List.length_set] at hj
    by_cases e : i = j
    · subst e
      rw [World.cell?_setCell_same' _ _ _ (by rw [(h3 i hi).1]; rfl)]
      simp [hi]
    · rw [World.cell?_setCell_other _ _ _ _ (by simp [Ne.symm e])]
      rw [(h3 j hj).1, List.getElem?_set_ne e]
  · rw [World.frozen?_setCell]; rw [List.length_set] at hj; exact (h3 j hj).2
theorem BRow.reads {w wr : World} {g : Nat} {l : List UInt8} (h : BRow w wr g l) (hl : l.length ≤ 9223372036854775807) : ReadsInt wr .u8 (some ⟨g, 0, none⟩) l.length (numsOf l) := by
  refine ⟨by rw [numsOf_length], hl, fun _ => ⟨_, rfl, fun j hj => ?_⟩⟩
  rw [add_plain, (h.2.2 j hj).1]
  simp [numsOf, List.getD_eq_getElem?_getD, hj]
theorem xor_byte (c : UInt8) (d : Nat) (hd : d < 256) : bits BinOp.xor IntKind.u8 (c.toNat : Int) (d : Int) = (((c ^^^ UInt8.ofNat d).toNat : Nat) : Int) := by
  rw [u8_xor_nat c.toNat d c.toNat_lt hd, UInt8.toNat_xor]
  have : (UInt8.ofNat d).toNat = d := by simp [UInt8.toNat_ofNat', Nat.mod_eq_of_lt hd]
  rw [this]
set_option maxHeartbeats 2000000 in
set_option maxRecDepth 100000 in
theorem ds_few (A : Option Addr) (c : Nat) (l : List S75) (a b : Int) (w : World) (hr : Kd.C k75 w A l.length l) (hc : l.length ≤ c) (K : Nat) (hL : sheetpilelaw21_live.f K = some true) (hF : sheetpileref21_Few.f K l = some false) :
    Calls Try.prog 9 #[.slice A l.length c, .int .i64 a, .int .u32 b] w fun e w' => e = .returned (.bool true) ∧ Below w.heap.size w w' := by
  have HB := Aside0.mk (Below.refl w.heap.size w)
  go_enter Try.func9, Try.ntmps9
  go_wp2_with (first | (go_at_call 15; refine (sheetpileref21_Few.calls K _ _ l false _ (Kd.C_below hr HB.out) hc hF).mono ?_; rintro e w2 ⟨rfl, hd⟩; have hb := hd.below; clear hd; have n1_ := Aside0.mk (below_step HB.out hb); clear HB; have HB := n1_; clear n1_ hb) | (go_at_call 17; refine (sheetpilelaw21_live.calls K true _ hL).mono ?_; rintro e w9 ⟨rfl, hb⟩; have n1_ := Aside0.mk (below_step HB.out hb); clear HB; have HB := n1_; clear n1_ hb))
  go_ret
  exact ⟨rfl, HB.out⟩
set_option maxHeartbeats 2000000 in
set_option maxRecDepth 100000 in
theorem ds_many (A : Option Addr) (c : Nat) (l : List S75) (a b : Int) (w : World) (hr : Kd.C k75 w A l.length l) (hc : l.length ≤ c) (K : Nat) (hL : sheetpilelaw21_live.f K = some true) (hF : sheetpileref21_Few.f K l = some true) (h20 : 60 < l.length) :
    Calls Try.prog 9 #[.slice A l.length c, .int .i64 a, .int .u32 b] w fun e w' => e = .returned (.bool true) ∧ Below w.heap.size w w' := by
  have d0 : decide (60 < (l.length : Int)) = true := decide_eq_true (by omega)
  have d1 : decide (60 < l.length) = true := decide_eq_true h20
  have HB := Aside0.mk (Below.refl w.heap.size w)
  go_enter Try.func9, Try.ntmps9
  go_wp2_with (first | (go_at_call 15; refine (sheetpileref21_Few.calls K _ _ l true _ (Kd.C_below hr HB.out) hc hF).mono ?_; rintro e w2 ⟨rfl, hd⟩; have hb := hd.below; clear hd; have n1_ := Aside0.mk (below_step HB.out hb); clear HB; have HB := n1_; clear n1_ hb) | (go_at_call 17; refine (sheetpilelaw21_live.calls K true _ hL).mono ?_; rintro e w9 ⟨rfl, hb⟩; have n1_ := Aside0.mk (below_step HB.out hb); clear HB; have HB := n1_; clear n1_ hb))
  go_ret
  exact ⟨rfl, HB.out⟩
set_option maxHeartbeats 2000000 in
set_option maxRecDepth 100000 in
theorem ds_g0 (A : Option Addr) (c : Nat) (l : List S75) (a b : Int) (w : World) (hr : Kd.C k75 w A l.length l) (hc : l.length ≤ c) (K : Nat) (hL : sheetpilelaw21_live.f K = some true) (hF : sheetpileref21_Few.f K l = some true) (h20 : ¬ 60 < l.length) (F : List UInt8) (e0 : Int) (hW : dir_Hint.f l = some (bs F, e0)) (hFl : F.length ≤ 1000000)  (he : e0 ≠ 0) :
    Calls Try.prog 9 #[.slice A l.length c, .int .i64 a, .int .u32 b] w fun e w' => e = .returned (.bool true) ∧ Below w.heap.size w w' := by
  have d0 : decide (60 < (l.length : Int)) = false := decide_eq_false (by omega)
  have d1 : decide (60 < l.length) = false := decide_eq_false h20
  have HW := Aside0.mk hW
  clear hW
  have hsz : (bs F).size = F.length := bs_size F
  have t0 : (e0 != 0) = true := bne_iff_ne.mpr he
  clear he
  have HB := Aside0.mk (Below.refl w.heap.size w)
  go_enter Try.func9, Try.ntmps9
  go_wp2_with (first | (go_at_call 15; refine (sheetpileref21_Few.calls K _ _ l true _ (Kd.C_below hr HB.out) hc hF).mono ?_; rintro e w2 ⟨rfl, hd⟩; have hb := hd.below; clear hd; have n1_ := Aside0.mk (below_step HB.out hb); clear HB; have HB := n1_; clear n1_ hb) | (go_at_call 28; refine (dir_Hint.calls _ _ l (bs F) e0 _ (Kd.C_below hr HB.out) hc HW.out).mono ?_; rintro e w5 ⟨rfl, hb⟩; have n1_ := Aside0.mk (below_step HB.out hb); clear HB; have HB := n1_; clear n1_ hb) | (go_at_call 17; refine (sheetpilelaw21_live.calls K true _ hL).mono ?_; rintro e w9 ⟨rfl, hb⟩; have n1_ := Aside0.mk (below_step HB.out hb); clear HB; have HB := n1_; clear n1_ hb))
  go_ret
  exact ⟨rfl, HB.out⟩
set_option maxHeartbeats 2000000 in
set_option maxRecDepth 100000 in
theorem ds_g1 (A : Option Addr) (c : Nat) (l : List S75) (a b : Int) (w : World) (hr : Kd.C k75 w A l.length l) (hc : l.length ≤ c) (K : Nat) (hL : sheetpilelaw21_live.f K = some true) (hF : sheetpileref21_Few.f K l = some true) (h20 : ¬ 60 < l.length) (F : List UInt8) (e0 : Int) (hW : dir_Hint.f l = some (bs F, e0)) (hFl : F.length ≤ 1000000) (he : e0 = 0) (h4 : F.length < 4) :
    Calls Try.prog 9 #[.slice A l.length c, .int .i64 a, .int .u32 b] w fun e w' => e = .returned (.bool true) ∧ Below w.heap.size w w' := by
  have d0 : decide (60 < (l.length : Int)) = false := decide_eq_false (by omega)
  have d1 : decide (60 < l.length) = false := decide_eq_false h20
  have HW := Aside0.mk hW
  clear hW
  have hsz : (bs F).size = F.length := bs_size F
  have t0 : (e0 != 0) = false := bne_eq_false_iff_eq.mpr he
  have t1 : decide ((F.length : Int) < 4) = true := decide_eq_true (by omega)
  have t2 : decide (F.length < 4) = true := decide_eq_true h4
  clear he h4
  have HB := Aside0.mk (Below.refl w.heap.size w)
  go_enter Try.func9, Try.ntmps9
  go_wp2_with (first | (go_at_call 15; refine (sheetpileref21_Few.calls K _ _ l true _ (Kd.C_below hr HB.out) hc hF).mono ?_; rintro e w2 ⟨rfl, hd⟩; have hb := hd.below; clear hd; have n1_ := Aside0.mk (below_step HB.out hb); clear HB; have HB := n1_; clear n1_ hb) | (go_at_call 28; refine (dir_Hint.calls _ _ l (bs F) e0 _ (Kd.C_below hr HB.out) hc HW.out).mono ?_; rintro e w5 ⟨rfl, hb⟩; have n1_ := Aside0.mk (below_step HB.out hb); clear HB; have HB := n1_; clear n1_ hb) | (go_at_call 17; refine (sheetpilelaw21_live.calls K true _ hL).mono ?_; rintro e w9 ⟨rfl, hb⟩; have n1_ := Aside0.mk (below_step HB.out hb); clear HB; have HB := n1_; clear n1_ hb))
  go_ret
  exact ⟨rfl, HB.out⟩
set_option maxHeartbeats 2000000 in
set_option maxRecDepth 100000 in
theorem ds_g2 (A : Option Addr) (c : Nat) (l : List S75) (a b : Int) (w : World) (hr : Kd.C k75 w A l.length l) (hc : l.length ≤ c) (K : Nat) (hL : sheetpilelaw21_live.f K = some true) (hF : sheetpileref21_Few.f K l = some true) (h20 : ¬ 60 < l.length) (F : List UInt8) (e0 : Int) (hW : dir_Hint.f l = some (bs F, e0)) (hFl : F.length ≤ 1000000) (he : e0 = 0) (h4 : ¬ F.length < 4) (h5 : a < 0) :
    Calls Try.prog 9 #[.slice A l.length c, .int .i64 a, .int .u32 b] w fun e w' => e = .returned (.bool true) ∧ Below w.heap.size w w' := by
  have d0 : decide (60 < (l.length : Int)) = false := decide_eq_false (by omega)
  have d1 : decide (60 < l.length) = false := decide_eq_false h20
  have HW := Aside0.mk hW
  clear hW
  have hsz : (bs F).size = F.length := bs_size F
  have t0 : (e0 != 0) = false := bne_eq_false_iff_eq.mpr he
  have t1 : decide ((F.length : Int) < 4) = false := decide_eq_false (by omega)
  have t2 : decide (F.length < 4) = false := decide_eq_false h4
  have t3 : decide (a < 0) = true := decide_eq_true h5
  clear he h4 h5
  have HB := Aside0.mk (Below.refl w.heap.size w)
  go_enter Try.func9, Try.ntmps9
  go_wp2_with (first | (go_at_call 15; refine (sheetpileref21_Few.calls K _ _ l true _ (Kd.C_below hr HB.out) hc hF).mono ?_; rintro e w2 ⟨rfl, hd⟩; have hb := hd.below; clear hd; have n1_ := Aside0.mk (below_step HB.out hb); clear HB; have HB := n1_; clear n1_ hb) | (go_at_call 28; refine (dir_Hint.calls _ _ l (bs F) e0 _ (Kd.C_below hr HB.out) hc HW.out).mono ?_; rintro e w5 ⟨rfl, hb⟩; have n1_ := Aside0.mk (below_step HB.out hb); clear HB; have HB := n1_; clear n1_ hb) | (go_at_call 17; refine (sheetpilelaw21_live.calls K true _ hL).mono ?_; rintro e w9 ⟨rfl, hb⟩; have n1_ := Aside0.mk (below_step HB.out hb); clear HB; have HB := n1_; clear n1_ hb))
  go_ret
  exact ⟨rfl, HB.out⟩
set_option maxHeartbeats 2000000 in
set_option maxRecDepth 100000 in
theorem ds_g3 (A : Option Addr) (c : Nat) (l : List S75) (a b : Int) (w : World) (hr : Kd.C k75 w A l.length l) (hc : l.length ≤ c) (K : Nat) (hL : sheetpilelaw21_live.f K = some true) (hF : sheetpileref21_Few.f K l = some true) (h20 : ¬ 60 < l.length) (F : List UInt8) (e0 : Int) (hW : dir_Hint.f l = some (bs F, e0)) (hFl : F.length ≤ 1000000) (he : e0 = 0) (h4 : ¬ F.length < 4) (h5 : ¬ a < 0) (h6 : (F.length : Int) - 4 < a) :
    Calls Try.prog 9 #[.slice A l.length c, .int .i64 a, .int .u32 b] w fun e w' => e = .returned (.bool true) ∧ Below w.heap.size w w' := by
  have d0 : decide (60 < (l.length : Int)) = false := decide_eq_false (by omega)
  have d1 : decide (60 < l.length) = false := decide_eq_false h20
  have HW := Aside0.mk hW
  clear hW
  have hsz : (bs F).size = F.length := bs_size F
  have t0 : (e0 != 0) = false := bne_eq_false_iff_eq.mpr he
  have t1 : decide ((F.length : Int) < 4) = false := decide_eq_false (by omega)
  have t2 : decide (F.length < 4) = false := decide_eq_false h4
  have t3 : decide (a < 0) = false := decide_eq_false h5
  have t4 : decide ((F.length : Int) - 4 < a) = true := decide_eq_true h6
  have t5 : decide (wrap64 ((F.length : Int) - 4) < a) = true := by rw [wrap_id (by omega) (by omega)]; exact decide_eq_true h6
  clear he h4 h5 h6
  have HB := Aside0.mk (Below.refl w.heap.size w)
  go_enter Try.func9, Try.ntmps9
  go_wp2_with (first | (go_at_call 15; refine (sheetpileref21_Few.calls K _ _ l true _ (Kd.C_below hr HB.out) hc hF).mono ?_; rintro e w2 ⟨rfl, hd⟩; have hb := hd.below; clear hd; have n1_ := Aside0.mk (below_step HB.out hb); clear HB; have HB := n1_; clear n1_ hb) | (go_at_call 28; refine (dir_Hint.calls _ _ l (bs F) e0 _ (Kd.C_below hr HB.out) hc HW.out).mono ?_; rintro e w5 ⟨rfl, hb⟩; have n1_ := Aside0.mk (below_step HB.out hb); clear HB; have HB := n1_; clear n1_ hb) | (go_at_call 17; refine (sheetpilelaw21_live.calls K true _ hL).mono ?_; rintro e w9 ⟨rfl, hb⟩; have n1_ := Aside0.mk (below_step HB.out hb); clear HB; have HB := n1_; clear n1_ hb))
  go_ret
  exact ⟨rfl, HB.out⟩
set_option maxHeartbeats 2000000 in
set_option maxRecDepth 100000 in
theorem ds_g4 (A : Option Addr) (c : Nat) (l : List S75) (a b : Int) (w : World) (hr : Kd.C k75 w A l.length l) (hc : l.length ≤ c) (K : Nat) (hL : sheetpilelaw21_live.f K = some true) (hF : sheetpileref21_Few.f K l = some true) (h20 : ¬ 60 < l.length) (F : List UInt8) (e0 : Int) (hW : dir_Hint.f l = some (bs F, e0)) (hFl : F.length ≤ 1000000) (he : e0 = 0) (h4 : ¬ F.length < 4) (h5 : ¬ a < 0) (h6 : ¬ (F.length : Int) - 4 < a) (h8 : b = 0) :
    Calls Try.prog 9 #[.slice A l.length c, .int .i64 a, .int .u32 b] w fun e w' => e = .returned (.bool true) ∧ Below w.heap.size w w' := by
  have d0 : decide (60 < (l.length : Int)) = false := decide_eq_false (by omega)
  have d1 : decide (60 < l.length) = false := decide_eq_false h20
  have HW := Aside0.mk hW
  clear hW
  have hsz : (bs F).size = F.length := bs_size F
  have t0 : (e0 != 0) = false := bne_eq_false_iff_eq.mpr he
  have t1 : decide ((F.length : Int) < 4) = false := decide_eq_false (by omega)
  have t2 : decide (F.length < 4) = false := decide_eq_false h4
  have t3 : decide (a < 0) = false := decide_eq_false h5
  have t4 : decide ((F.length : Int) - 4 < a) = false := decide_eq_false h6
  have t5 : decide (wrap64 ((F.length : Int) - 4) < a) = false := by rw [wrap_id (by omega) (by omega)]; exact decide_eq_false h6
  have t6 : (b == 0) = true := beq_iff_eq.mpr h8
  clear he h4 h5 h6 h8
  have HB := Aside0.mk (Below.refl w.heap.size w)
  go_enter Try.func9, Try.ntmps9
  go_wp2_with (first | (go_at_call 15; refine (sheetpileref21_Few.calls K _ _ l true _ (Kd.C_below hr HB.out) hc hF).mono ?_; rintro e w2 ⟨rfl, hd⟩; have hb := hd.below; clear hd; have n1_ := Aside0.mk (below_step HB.out hb); clear HB; have HB := n1_; clear n1_ hb) | (go_at_call 28; refine (dir_Hint.calls _ _ l (bs F) e0 _ (Kd.C_below hr HB.out) hc HW.out).mono ?_; rintro e w5 ⟨rfl, hb⟩; have n1_ := Aside0.mk (below_step HB.out hb); clear HB; have HB := n1_; clear n1_ hb) | (go_at_call 17; refine (sheetpilelaw21_live.calls K true _ hL).mono ?_; rintro e w9 ⟨rfl, hb⟩; have n1_ := Aside0.mk (below_step HB.out hb); clear HB; have HB := n1_; clear n1_ hb))
  go_ret
  exact ⟨rfl, HB.out⟩
set_option maxHeartbeats 2000000 in
set_option maxRecDepth 100000 in
theorem ds_walk (A : Option Addr) (c : Nat) (l : List S75) (a b : Nat) (w : World) (hr : Kd.C k75 w A l.length l) (hc : l.length ≤ c) (K : Nat) (hL : sheetpilelaw21_live.f K = some true) (hF : sheetpileref21_Few.f K l = some true) (h20 : ¬ 60 < l.length) (F : List UInt8) (e0 : Int) (hW : dir_Hint.f l = some (bs F, e0)) (hFl : F.length ≤ 1000000) (he : e0 = 0) (ha : a + 4 ≤ F.length) (hb : b < 4294967296) (h0 : b ≠ 0)
    (ps : List S75) (e1 : Int) (hRd : dir_Read.f K (bs (turnB a b 4 F)) = some (ps, e1)) (hne : e1 ≠ 0) :
    Calls Try.prog 9 #[.slice A l.length c, .int .i64 (a : Int), .int .u32 (b : Int)] w fun e w' => e = .returned (.bool true) ∧ Below w.heap.size w w' := by
  have d0 : decide (60 < (l.length : Int)) = false := decide_eq_false (by omega)
  have d1 : decide (60 < l.length) = false := decide_eq_false h20
  have HW := Aside0.mk hW
  clear hW
  have hsz : (bs F).size = F.length := bs_size F
  have kb := fun W => print_bytes (P := Try.prog) 9 47 5 Try.underlying9 Try.underlying47 Try.underlying5 (bs F) W
  rw [hsz] at kb
  have t0 : (e0 != 0) = false := bne_eq_false_iff_eq.mpr he
  have t1 : decide ((F.length : Int) < 4) = false := decide_eq_false (by omega)
  have t2 : decide (F.length < 4) = false := decide_eq_false (by omega)
  have t3 : decide ((a : Int) < 0) = false := decide_eq_false (by omega)
  have t4b : decide ((F.length : Int) - 4 < (a : Int)) = false := decide_eq_false (by omega)
  have t4 : decide (wrap64 ((F.length : Int) - 4) < (a : Int)) = false := by rw [wrap_id (by omega) (by omega)]; exact decide_eq_false (by omega)
  have t8 : ((b : Int) == 0) = false := beq_eq_false_iff_ne.mpr (by omega)
  have te : (e1 != 0) = true := bne_iff_ne.mpr hne
  have HRd := Aside0.mk hRd
  have HN := Aside0.mk (And.intro hFl (And.intro ha (And.intro hb h0)))
  clear hRd hne he
  have HB := Aside0.mk (Below.refl w.heap.size w)
  go_enter Try.func9, Try.ntmps9
  go_wp2_with (first | (go_at_call 15; refine (sheetpileref21_Few.calls K _ _ l true _ (Kd.C_below hr HB.out) hc hF).mono ?_; rintro e w2 ⟨rfl, hd⟩; have hb := hd.below; clear hd; have n1_ := Aside0.mk (below_step HB.out hb); clear HB; have HB := n1_; clear n1_ hb) | (go_at_call 28; refine (dir_Hint.calls _ _ l (bs F) e0 _ (Kd.C_below hr HB.out) hc HW.out).mono ?_; rintro e w5 ⟨rfl, hb⟩; have n1_ := Aside0.mk (below_step HB.out hb); clear HB; have HB := n1_; clear n1_ hb) | (go_at_call 17; refine (sheetpilelaw21_live.calls K true _ hL).mono ?_; rintro e w9 ⟨rfl, hb⟩; have n1_ := Aside0.mk (below_step HB.out hb); clear HB; have HB := n1_; clear n1_ hb))
  have hB := BRow.start w5 5 F
  revert hB
  generalize Lib.bytesWorld w5 5 (bs F) = W1
  generalize grownCap w5 F.length 0 5 = cap
  intro hB
  clear kb hsz t0 t1 t2 t3 t4 t4b t8 d0 d1
  obtain ⟨hl, ha, hb, h0⟩ := HN.out
  clear HN
  go_loopw [10] (fun v10 wr => ∃ k : Nat, k ≤ 4 ∧ v10 = .int .i64 k ∧ BRow w5 wr w5.heap.size (turnB a b k F)) (fun v10 _ => 4 - (intOf v10).toNat)
  case atStart => exact ⟨0, by omega, rfl, hB⟩
  case round =>
    obtain ⟨k, hk, rfl, hm⟩ := hrel
    have hlen := turnB_length a b k F
    by_cases hlt : k < 4
    · have hi : a + k < (turnB a b k F).length := by omega
      obtain ⟨hc, hf⟩ := hm.2.2 (a + k) hi
      have hput := fun c => hm.put (a + k) c hi
      have htn : turnB a b (k + 1) F = (turnB a b k F).set (a + k) ((turnB a b k F)[a + k]?.getD 0 ^^^ UInt8.ofNat (b / 256 ^ k % 256)) := rfl
      obtain ⟨c, hcd⟩ : ∃ c, c = (turnB a b k F)[a + k]?.getD 0 := ⟨_, rfl⟩
      rw [← hcd] at hc htn
      clear hcd
      have hx := xor_byte c (b / 256 ^ k % 256) (Nat.mod_lt _ (by decide))
      have HP := Aside0.mk hput
      have HT := Aside0.mk htn
      have HX := Aside0.mk hx
      clear hput htn hm hi hlen hx hB
      have hc1 := c.toNat_lt
      have p2 : (256 : Nat) ^ 2 = 65536 := by decide
      have p3 : (256 : Nat) ^ 3 = 16777216 := by decide
      have hcase : k = 0 ∨ k = 1 ∨ k = 2 ∨ k = 3 := by omega
      rcases hcase with rfl | rfl | rfl | rfl
      · have HE : Aside0 ((b : Int) % 256 = ((b / 256 ^ 0 % 256 : Nat) : Int)) := ⟨by rw [Nat.pow_zero, Nat.div_one]; omega⟩
        clear p2 p3
        simp only [Nat.add_zero] at hc hf
        go_wp2
        go_roundw
        case rel => exact ⟨1, by omega, rfl, by rw [HT.out, HE.out, HX.out]; exact HP.out _⟩
        case measure => simp [intOf]
      · have HE : Aside0 ((b : Int) / 256 % 256 = ((b / 256 ^ 1 % 256 : Nat) : Int)) := ⟨by rw [Nat.pow_one]; omega⟩
        clear p2 p3
        go_wp2
        go_roundw
        case rel => exact ⟨2, by omega, rfl, by rw [HT.out, HE.out, HX.out]; exact HP.out _⟩
        case measure => simp [intOf]
      · have HE : Aside0 ((b : Int) / 65536 % 256 = ((b / 256 ^ 2 % 256 : Nat) : Int)) := ⟨by rw [p2]; omega⟩
        clear p2 p3
        go_wp2
        go_roundw
        case rel => exact ⟨3, by omega, rfl, by rw [HT.out, HE.out, HX.out]; exact HP.out _⟩
        case measure => simp [intOf]
      · have HE : Aside0 ((b : Int) / 16777216 = ((b / 256 ^ 3 % 256 : Nat) : Int)) := ⟨by rw [p3]; omega⟩
        clear p2 p3
        go_wp2
        go_roundw
        case rel => exact ⟨4, by omega, rfl, by rw [HT.out, HE.out, HX.out]; exact HP.out _⟩
        case measure => simp [intOf]
    · obtain rfl : k = 4 := by omega
      have hcv := string_of_reads (P := Try.prog) (c := cap) Try.underlying47 Try.underlying5 Try.underlying9 (hm.reads (by omega))
      rw [strOfNums_numsOf, hlen] at hcv
      have HB7 := Aside0.mk (below_step HB.out hm.2.1)
      clear hB hm hlen HB
      go_wp2_with (first | (go_at_call 30; refine (dir_Read.calls K _ ps e1 _ HRd.out).mono ?_; rintro e w7 ⟨v1, rfl, ho, hb⟩; obtain ⟨Ao, co, eo⟩ := Kd.R_slice ho; subst eo; have n1_ := Aside0.mk (below_step HB7.out hb); have HB := n1_; clear n1_ hb ho) | (go_at_call 17; refine (sheetpilelaw21_live.calls K true _ hL).mono ?_; rintro e w9 ⟨rfl, hb⟩; have n1_ := Aside0.mk (below_step HB.out hb); clear HB; have HB := n1_; clear n1_ hb))
      go_ret
      exact ⟨rfl, HB.out⟩
def sheetpilelaw21_DirSeen.f (k : Nat) (l0 : List S75) (a1 : Int) (a2 : Int) : Option Bool := if l0.length ≤ 10000000000000 ∧ (Lit.int .i64 a1).wf = true ∧ (Lit.int .u32 a2).wf = true then some true else none
theorem sheetpilelaw21_DirSeen.calls (k : Nat) (A0 : Option Addr) (c0 : Nat) (l0 : List S75) (a1 : Int) (a2 : Int) (r : Bool) (w : World) (hr0 : Kd.C k75 w A0 l0.length l0) (hc0 : l0.length ≤ c0) (h : sheetpilelaw21_DirSeen.f k l0 a1 a2 = some r) :
    Calls Try.prog 9 #[.slice A0 l0.length c0, .int .i64 a1, .int .u32 a2] w fun e w' => e = .returned (.bool r) ∧ Below w.heap.size w w' := by
  unfold sheetpilelaw21_DirSeen.f at h
  split at h
  · rename_i hh
    obtain ⟨hlen, g1, g2⟩ := hh
    cases h
    obtain ⟨K, hK⟩ : ∃ K, K = 1000000 + l0.length := ⟨_, rfl⟩
    have hL := live21 K (by omega)
    have hF := fewP_f l0 hlen K (by omega)
    obtain ⟨p0, p1⟩ := i64_wf g1
    obtain ⟨b, rfl, hb⟩ := Bs.u32_wf g2
    by_cases hf : (fewP l0 && decide (l0.length ≤ 200)) = true
    · rw [hf] at hF
      by_cases h20 : 60 < l0.length
      · exact ds_many A0 c0 l0 a1 b w hr0 hc0 K hL hF h20
      · simp only [Bool.and_eq_true, decide_eq_true_eq] at hf
        have hp := fewP_mem hf.1
        have hsm : smallP l0 := fun p h => by have := hp p h; omega
        have hW := dir_Hint_f l0 (by omega) hsm
        by_cases hm : mayL l0 = true
        · rw [if_pos hm] at hW
          have hfl := hintL_few l0 hp
          have hFl : (hintL l0).length ≤ 1000000 := by omega
          by_cases h4 : (hintL l0).length < 4
          · exact ds_g1 A0 c0 l0 a1 b w hr0 hc0 K hL hF h20 _ _ hW hFl rfl h4
          · by_cases h5 : a1 < 0
            · exact ds_g2 A0 c0 l0 a1 b w hr0 hc0 K hL hF h20 _ _ hW hFl rfl h4 h5
            · by_cases h6 : ((hintL l0).length : Int) - 4 < a1
              · exact ds_g3 A0 c0 l0 a1 b w hr0 hc0 K hL hF h20 _ _ hW hFl rfl h4 h5 h6
              · by_cases h8 : (b : Int) = 0
                · exact ds_g4 A0 c0 l0 a1 b w hr0 hc0 K hL hF h20 _ _ hW hFl rfl h4 h5 h6 h8
                · obtain ⟨a, rfl⟩ := Int.eq_ofNat_of_zero_le (show 0 ≤ a1 by omega)
                  have ha : a + 4 ≤ (hintL l0).length := by omega
                  have htl := turnB_length a b 4 (hintL l0)
                  have hRd := dir_Read_f (turnB a b 4 (hintL l0)) (by omega) K (by omega)
                  have hne := dir_seen l0 a b ha hb (by omega)
                  exact ds_walk A0 c0 l0 a b w hr0 hc0 K hL hF h20 _ _ hW hFl rfl ha hb (by omega) _ _ hRd hne
        · rw [if_neg hm] at hW
          exact ds_g0 A0 c0 l0 a1 b w hr0 hc0 K hL hF h20 _ _ hW (by simp) (by decide)
    · rw [Bool.eq_false_iff.mpr hf] at hF
      exact ds_few A0 c0 l0 a1 b w hr0 hc0 K hL hF
  · cases h
end Go.Proofs.Ytggngbbkachpaaa.PDi
