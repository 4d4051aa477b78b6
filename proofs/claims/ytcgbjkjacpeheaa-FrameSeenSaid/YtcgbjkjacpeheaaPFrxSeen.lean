/- The law FrameSeen walked: the group's bytes, some bits turned, are read with a fault. -/
import Derived.Test.YtcgbjkjacpeheaaProg
import Derived.Below
import Derived.Deep.Draws
import Derived.Deep.AppendLies
import Derived.Maps.AppendAt
import Derived.OwnWalk
import Derived.Laws.BytesArg
import Derived.Laws.MakeOwn
import Derived.Laws.OwnMore
import Derived.Deep.OwnRows
import Derived.Tactics
import Derived.Lib.ConvBytes
import Derived.Laws.Slices
import Derived.WalkKit
import Derived.KernelRfl
import Derived.RowKit3
import Derived.Deep.LoopGhost
import Derived.Deep.QuietTactic
import Derived.BigQuiet
import Derived.WideLaws
import Derived.Deep.DeepCutAuto
import Derived.Deep.CutBlock
import Derived.Deep.RegionHeld3
import Derived.Laws.Rows
import Derived.Lib.AppendStr
import Derived.ArgAppend
import Derived.Laws.IdiomCopy
import Derived.OrdersHeld
import Derived.Laws.BitsLemmas
import Derived.RowKit
import Derived.Test.YtcgbjkjacpeheaaWWords
import Derived.Test.YtcgbjkjacpeheaaWLast
import Derived.Test.YtcgbjkjacpeheaaWTab
import Derived.Test.YtcgbjkjacpeheaaWFour
import Derived.Test.YtcgbjkjacpeheaaWQPut
import Derived.Test.YtcgbjkjacpeheaaWApart
import Derived.Test.YtcgbjkjacpeheaaWArr
import Derived.Test.YtcgbjkjacpeheaaWZeros
import Derived.Test.YtcgbjkjacpeheaaWFoot
import Derived.Test.YtcgbjkjacpeheaaWKept
import Derived.Test.YtcgbjkjacpeheaaWShare
import Derived.Test.YtcgbjkjacpeheaaWN
import Derived.Test.YtcgbjkjacpeheaaWFootNe
import Derived.Test.YtcgbjkjacpeheaaWAt
import Derived.Test.YtcgbjkjacpeheaaWEqStruct
import Derived.Test.YtcgbjkjacpeheaaWRepsOne
import Derived.Test.YtcgbjkjacpeheaaWInv
import Derived.Test.YtcgbjkjacpeheaaWInvWords
import Derived.Test.YtcgbjkjacpeheaaWGuard
import Derived.Test.YtcgbjkjacpeheaaWNEv
import Derived.Test.YtcgbjkjacpeheaaWMore
import Derived.Laws.BitsAllLaws
import Derived.Test.YtcgbjkjacpeheaaPFrx8
import Derived.Test.YtcgbjkjacpeheaaPFrx10
import Derived.Test.YtcgbjkjacpeheaaFrOwn
import Derived.Test.YtcgbjkjacpeheaaFrWrite
import Derived.Test.YtcgbjkjacpeheaaPureFrSeen
import Derived.Test.YtcgbjkjacpeheaaPureFrG
import Derived.Test.YtcgbjkjacpeheaaPureFrLive
namespace Go.Proofs.Ytcgbjkjacpeheaa.PFr
open Go.RowKit Go.Proofs.Ytcgbjkjacpeheaa.PFr Go.Proofs.Ytcgbjkjacpeheaa.Given Go.Proofs.Ytcgbjkjacpeheaa.Pure Go.Proofs.Ytcgbjkjacpeheaa.Bs Go.Proofs.Ytcgbjkjacpeheaa.CrcPlain Go.Proofs.YtcgbjkjacpeheaaW.PrintWords Go.Proofs.YtcgbjkjacpeheaaW.PrintLast Go.Proofs.YtcgbjkjacpeheaaW.PrintMore
set_option linter.unusedVariables false
set_option linter.unusedSimpArgs false
/-- A row of bytes of the call's own, at block g. -/
def BRow (w wr : World) (g : Nat) (l : List UInt8) : Prop := w.heap.size ≤ g ∧ Below w.heap.size w wr ∧ ∀ j, j < l.length → wr.cell? ⟨g, j, none⟩ = some (.int .u8 ((l[j]?.getD 0).toNat : Int)) ∧ wr.frozen? ⟨g, j, none⟩ = false
theorem BRow.start (w : World) (e : TypeId) (l : List UInt8) : BRow w (Lib.bytesWorld w e (bs l)) w.heap.size l := by
  refine ⟨Nat.le_refl _, bytes_below (Below.refl _ _) (Nat.le_refl _) e _, fun j hj => ⟨?_, ?_⟩⟩
  · have := Lib.bytesWorld_cell w e (bs l) j (by rw [bs_size]; exact hj)
    rw [bs_data] at this
    simpa using this
  · have hj' : j < (Lib.bytesCells w e (bs l)).size := by
      have := bs_size l
      simp [Lib.bytesCells]; omega
    simp [World.frozen?, Lib.bytesWorld_at_new]
    omega
theorem BRow.put {w wr : World} {g : Nat} {l : List UInt8} (h : BRow w wr g l) (i : Nat) (c : UInt8) (hi : i < l.length) : BRow w (wr.setCell ⟨g, i, none⟩ (.int .u8 (c.toNat : Int))) g (l.set i c) := by
  obtain ⟨h1, h2, h3⟩ := h
  refine ⟨h1, h2.setCell h1 _, fun j hj => ⟨?_, ?_⟩⟩
  · rw [List.length_set] at hj
    by_cases e : i = j
    · subst e
      rw [World.cell?_setCell_same' _ _ _ (by rw [(h3 i hi).1]; rfl)]
      simp [hi]
    · rw [World.cell?_setCell_other _ _ _ _ (by simp [Ne.symm e])]
      rw [(h3 j hj).1, List.getElem?_set_ne e]
  · rw [World.frozen?_setCell]; rw [List.length_set] at hj; exact (h3 j hj).2
theorem BRow.reads {w wr : World} {g : Nat} {l : List UInt8} (h : BRow w wr g l) (hl : l.length ≤ 9223372036854775807) : ReadsInt wr .u8 (some ⟨g, 0, none⟩) l.length (numsOf l) := by
  refine ⟨by rw [numsOf_length], hl, fun _ => ⟨_, rfl, fun j hj => ?_⟩⟩
  rw [add_plain, (h.2.2 j hj).1]
  simp [numsOf, List.getD_eq_getElem?_getD, hj]
theorem xor_byte (c : UInt8) (d : Nat) (hd : d < 256) : bits BinOp.xor IntKind.u8 (c.toNat : Int) (d : Int) = (((c ^^^ UInt8.ofNat d).toNat : Nat) : Int) := by
  rw [u8_xor_nat c.toNat d c.toNat_lt hd, UInt8.toNat_xor]
  have : (UInt8.ofNat d).toNat = d := by simp [UInt8.toNat_ofNat', Nat.mod_eq_of_lt hd]
  rw [this]
theorem few_body (l : List S62) (h : ∀ c ∈ l, c.f0.size ≤ 300 ∧ c.f1.size ≤ 1200) : (bodyL l).length ≤ 1505 * l.length := by
  induction l with
  | nil => simp [bodyL, chsB]
  | cons c l ih =>
    have g := h c List.mem_cons_self
    have := ih (fun c hc => h c (List.mem_cons_of_mem _ hc))
    have hcl : (chB txL c).length ≤ 1505 := by
      unfold chB; split
      · simp only [List.length_cons, txL_len]; omega
      · simp only [List.length_cons, List.length_append, txL_len]; omega
    rw [bodyL_cons, List.length_append, List.length_cons]; omega
set_option maxHeartbeats 2000000 in
set_option maxRecDepth 100000 in
theorem fs_few (seq : Int) (A : Option Addr) (c : Nat) (l : List S62) (a b : Int) (w : World) (hr : Kd.C k62 w A l.length l) (hc : l.length ≤ c) (K : Nat) (hL : sheetpilelaw19_live.f K = some true) (hF : sheetpileref19_Few.f K l = some false) :
    Calls Try.prog 6 #[.agg #[.int .i64 seq, .slice A l.length c], .int .i64 a, .int .u32 b] w fun e w' => e = .returned (.bool true) ∧ Below w.heap.size w w' := by
  have HB := Aside0.mk (Below.refl w.heap.size w)
  have hu := Try.underlying24
  have hu2 := Try.underlying30
  go_enter Try.func6, Try.ntmps6
  go_wp2_with (first | ((with_reducible refine gate_dst (N := 3) rfl ?_); (try (refine gate_guard (by rfl) ?_; dsimp only)); refine box_event ?hg (N := 3) ?hd (cs := #[.int .i64 seq, .slice A l.length c]) (t := 24) ?hr ?_; (case hd => rfl); (case hg => rfl); (case hr => first | (go_simp; done) | (go_simp; rfl)); intro g hg w1 hbox hb; have n0_ := Aside0.mk (below_step HB.out hb); have BK := Aside0.mk hbox; have GE := Aside0.mk ((by rw [hg]; exact (below_size HB.out)) : w.heap.size ≤ g); clear HB; have HB := n0_; clear n0_ hb hbox hg; have hz0 : w1.cell? ⟨g, 0, none⟩ = some (.int .i64 seq) := (blk_cell BK.out 0).trans rfl; have hz1 : w1.cell? ⟨g, 1, none⟩ = some (.slice A l.length c) := (blk_cell BK.out 1).trans rfl) | (go_at_call 15; refine (sheetpileref19_Few.calls K _ _ l false _ (Kd.C_below hr HB.out) hc hF).mono ?_; rintro e w2 ⟨rfl, hd⟩; have hb := hd.below; clear hd; have n0_ := Aside0.mk (blk_below BK.out hb); have n1_ := Aside0.mk (below_step HB.out hb); clear BK HB hz0 hz1; have BK := n0_; have HB := n1_; clear n0_ n1_ hb; have hz0 : w2.cell? ⟨g, 0, none⟩ = some (.int .i64 seq) := (blk_cell BK.out 0).trans rfl; have hz1 : w2.cell? ⟨g, 1, none⟩ = some (.slice A l.length c) := (blk_cell BK.out 1).trans rfl) | (go_at_call 16; refine (sheetpilelaw19_live.calls K true _ hL).mono ?_; rintro e w9 ⟨rfl, hb⟩; have n1_ := Aside0.mk (below_step HB.out hb); clear HB; have HB := n1_; clear n1_ hb))
  go_ret
  exact ⟨rfl, HB.out⟩
set_option maxHeartbeats 2000000 in
set_option maxRecDepth 100000 in
theorem fs_many (seq : Int) (A : Option Addr) (c : Nat) (l : List S62) (a b : Int) (w : World) (hr : Kd.C k62 w A l.length l) (hc : l.length ≤ c) (K : Nat) (hL : sheetpilelaw19_live.f K = some true) (hF : sheetpileref19_Few.f K l = some true) (h20 : 20 < l.length) :
    Calls Try.prog 6 #[.agg #[.int .i64 seq, .slice A l.length c], .int .i64 a, .int .u32 b] w fun e w' => e = .returned (.bool true) ∧ Below w.heap.size w w' := by
  have d0 : decide (20 < (l.length : Int)) = true := decide_eq_true (by omega)
  have d1 : decide (20 < l.length) = true := decide_eq_true h20
  have HB := Aside0.mk (Below.refl w.heap.size w)
  have hu := Try.underlying24
  have hu2 := Try.underlying30
  go_enter Try.func6, Try.ntmps6
  go_wp2_with (first | ((with_reducible refine gate_dst (N := 3) rfl ?_); (try (refine gate_guard (by rfl) ?_; dsimp only)); refine box_event ?hg (N := 3) ?hd (cs := #[.int .i64 seq, .slice A l.length c]) (t := 24) ?hr ?_; (case hd => rfl); (case hg => rfl); (case hr => first | (go_simp; done) | (go_simp; rfl)); intro g hg w1 hbox hb; have n0_ := Aside0.mk (below_step HB.out hb); have BK := Aside0.mk hbox; have GE := Aside0.mk ((by rw [hg]; exact (below_size HB.out)) : w.heap.size ≤ g); clear HB; have HB := n0_; clear n0_ hb hbox hg; have hz0 : w1.cell? ⟨g, 0, none⟩ = some (.int .i64 seq) := (blk_cell BK.out 0).trans rfl; have hz1 : w1.cell? ⟨g, 1, none⟩ = some (.slice A l.length c) := (blk_cell BK.out 1).trans rfl) | (go_at_call 15; refine (sheetpileref19_Few.calls K _ _ l true _ (Kd.C_below hr HB.out) hc hF).mono ?_; rintro e w2 ⟨rfl, hd⟩; have hb := hd.below; clear hd; have n0_ := Aside0.mk (blk_below BK.out hb); have n1_ := Aside0.mk (below_step HB.out hb); clear BK HB hz0 hz1; have BK := n0_; have HB := n1_; clear n0_ n1_ hb; have hz0 : w2.cell? ⟨g, 0, none⟩ = some (.int .i64 seq) := (blk_cell BK.out 0).trans rfl; have hz1 : w2.cell? ⟨g, 1, none⟩ = some (.slice A l.length c) := (blk_cell BK.out 1).trans rfl) | (go_at_call 16; refine (sheetpilelaw19_live.calls K true _ hL).mono ?_; rintro e w9 ⟨rfl, hb⟩; have n1_ := Aside0.mk (below_step HB.out hb); clear HB; have HB := n1_; clear n1_ hb))
  go_ret
  exact ⟨rfl, HB.out⟩
set_option maxHeartbeats 2000000 in
set_option maxRecDepth 100000 in
theorem fs_g0 (seq : Int) (A : Option Addr) (c : Nat) (l : List S62) (a b : Int) (w : World) (hr : Kd.C k62 w A l.length l) (hc : l.length ≤ c) (K : Nat) (hL : sheetpilelaw19_live.f K = some true) (hF : sheetpileref19_Few.f K l = some true) (h20 : ¬ 20 < l.length) (F : List UInt8) (e0 : Int) (hW : frame_Write.f seq l = some (bs F, e0)) (hFl : F.length ≤ 1000000)  (he : e0 ≠ 0) :
    Calls Try.prog 6 #[.agg #[.int .i64 seq, .slice A l.length c], .int .i64 a, .int .u32 b] w fun e w' => e = .returned (.bool true) ∧ Below w.heap.size w w' := by
  have d0 : decide (20 < (l.length : Int)) = false := decide_eq_false (by omega)
  have d1 : decide (20 < l.length) = false := decide_eq_false h20
  have HW := Aside0.mk hW
  clear hW
  have hsz : (bs F).size = F.length := bs_size F
  have t0 : (e0 != 0) = true := bne_iff_ne.mpr he
  clear he
  have HB := Aside0.mk (Below.refl w.heap.size w)
  have hu := Try.underlying24
  have hu2 := Try.underlying30
  go_enter Try.func6, Try.ntmps6
  go_wp2_with (first | ((with_reducible refine gate_dst (N := 3) rfl ?_); (try (refine gate_guard (by rfl) ?_; dsimp only)); refine box_event ?hg (N := 3) ?hd (cs := #[.int .i64 seq, .slice A l.length c]) (t := 24) ?hr ?_; (case hd => rfl); (case hg => rfl); (case hr => first | (go_simp; done) | (go_simp; rfl)); intro g hg w1 hbox hb; have n0_ := Aside0.mk (below_step HB.out hb); have BK := Aside0.mk hbox; have GE := Aside0.mk ((by rw [hg]; exact (below_size HB.out)) : w.heap.size ≤ g); clear HB; have HB := n0_; clear n0_ hb hbox hg; have hz0 : w1.cell? ⟨g, 0, none⟩ = some (.int .i64 seq) := (blk_cell BK.out 0).trans rfl; have hz1 : w1.cell? ⟨g, 1, none⟩ = some (.slice A l.length c) := (blk_cell BK.out 1).trans rfl) | (go_at_call 15; refine (sheetpileref19_Few.calls K _ _ l true _ (Kd.C_below hr HB.out) hc hF).mono ?_; rintro e w2 ⟨rfl, hd⟩; have hb := hd.below; clear hd; have n0_ := Aside0.mk (blk_below BK.out hb); have n1_ := Aside0.mk (below_step HB.out hb); clear BK HB hz0 hz1; have BK := n0_; have HB := n1_; clear n0_ n1_ hb; have hz0 : w2.cell? ⟨g, 0, none⟩ = some (.int .i64 seq) := (blk_cell BK.out 0).trans rfl; have hz1 : w2.cell? ⟨g, 1, none⟩ = some (.slice A l.length c) := (blk_cell BK.out 1).trans rfl) | (go_at_call 18; refine (sheetpilelaw19_own.calls seq _ _ l true _ (Kd.C_below hr HB.out) hc rfl).mono ?_; rintro e w3 ⟨rfl, hb⟩; have n0_ := Aside0.mk (blk_below BK.out hb); have n1_ := Aside0.mk (below_step HB.out hb); clear BK HB hz0 hz1; have BK := n0_; have HB := n1_; clear n0_ n1_ hb; have hz0 : w3.cell? ⟨g, 0, none⟩ = some (.int .i64 seq) := (blk_cell BK.out 0).trans rfl; have hz1 : w3.cell? ⟨g, 1, none⟩ = some (.slice A l.length c) := (blk_cell BK.out 1).trans rfl) | (go_at_call 17; refine (frame_Write.calls seq _ _ l (bs F) e0 _ (Kd.C_below hr HB.out) hc HW.out).mono ?_; rintro e w4 ⟨rfl, hb⟩; have n0_ := Aside0.mk (blk_below BK.out hb); have n1_ := Aside0.mk (below_step HB.out hb); clear BK HB hz0 hz1; have BK := n0_; have HB := n1_; clear n0_ n1_ hb; have hz0 : w4.cell? ⟨g, 0, none⟩ = some (.int .i64 seq) := (blk_cell BK.out 0).trans rfl; have hz1 : w4.cell? ⟨g, 1, none⟩ = some (.slice A l.length c) := (blk_cell BK.out 1).trans rfl) | (go_at_call 16; refine (sheetpilelaw19_live.calls K true _ hL).mono ?_; rintro e w9 ⟨rfl, hb⟩; have n1_ := Aside0.mk (below_step HB.out hb); clear HB; have HB := n1_; clear n1_ hb))
  go_ret
  exact ⟨rfl, HB.out⟩
set_option maxHeartbeats 2000000 in
set_option maxRecDepth 100000 in
theorem fs_g1 (seq : Int) (A : Option Addr) (c : Nat) (l : List S62) (a b : Int) (w : World) (hr : Kd.C k62 w A l.length l) (hc : l.length ≤ c) (K : Nat) (hL : sheetpilelaw19_live.f K = some true) (hF : sheetpileref19_Few.f K l = some true) (h20 : ¬ 20 < l.length) (F : List UInt8) (e0 : Int) (hW : frame_Write.f seq l = some (bs F, e0)) (hFl : F.length ≤ 1000000) (he : e0 = 0) (h4 : F.length < 4) :
    Calls Try.prog 6 #[.agg #[.int .i64 seq, .slice A l.length c], .int .i64 a, .int .u32 b] w fun e w' => e = .returned (.bool true) ∧ Below w.heap.size w w' := by
  have d0 : decide (20 < (l.length : Int)) = false := decide_eq_false (by omega)
  have d1 : decide (20 < l.length) = false := decide_eq_false h20
  have HW := Aside0.mk hW
  clear hW
  have hsz : (bs F).size = F.length := bs_size F
  have t0 : (e0 != 0) = false := bne_eq_false_iff_eq.mpr he
  have t1 : decide ((F.length : Int) < 4) = true := decide_eq_true (by omega)
  have t2 : decide (F.length < 4) = true := decide_eq_true h4
  clear he h4
  have HB := Aside0.mk (Below.refl w.heap.size w)
  have hu := Try.underlying24
  have hu2 := Try.underlying30
  go_enter Try.func6, Try.ntmps6
  go_wp2_with (first | ((with_reducible refine gate_dst (N := 3) rfl ?_); (try (refine gate_guard (by rfl) ?_; dsimp only)); refine box_event ?hg (N := 3) ?hd (cs := #[.int .i64 seq, .slice A l.length c]) (t := 24) ?hr ?_; (case hd => rfl); (case hg => rfl); (case hr => first | (go_simp; done) | (go_simp; rfl)); intro g hg w1 hbox hb; have n0_ := Aside0.mk (below_step HB.out hb); have BK := Aside0.mk hbox; have GE := Aside0.mk ((by rw [hg]; exact (below_size HB.out)) : w.heap.size ≤ g); clear HB; have HB := n0_; clear n0_ hb hbox hg; have hz0 : w1.cell? ⟨g, 0, none⟩ = some (.int .i64 seq) := (blk_cell BK.out 0).trans rfl; have hz1 : w1.cell? ⟨g, 1, none⟩ = some (.slice A l.length c) := (blk_cell BK.out 1).trans rfl) | (go_at_call 15; refine (sheetpileref19_Few.calls K _ _ l true _ (Kd.C_below hr HB.out) hc hF).mono ?_; rintro e w2 ⟨rfl, hd⟩; have hb := hd.below; clear hd; have n0_ := Aside0.mk (blk_below BK.out hb); have n1_ := Aside0.mk (below_step HB.out hb); clear BK HB hz0 hz1; have BK := n0_; have HB := n1_; clear n0_ n1_ hb; have hz0 : w2.cell? ⟨g, 0, none⟩ = some (.int .i64 seq) := (blk_cell BK.out 0).trans rfl; have hz1 : w2.cell? ⟨g, 1, none⟩ = some (.slice A l.length c) := (blk_cell BK.out 1).trans rfl) | (go_at_call 18; refine (sheetpilelaw19_own.calls seq _ _ l true _ (Kd.C_below hr HB.out) hc rfl).mono ?_; rintro e w3 ⟨rfl, hb⟩; have n0_ := Aside0.mk (blk_below BK.out hb); have n1_ := Aside0.mk (below_step HB.out hb); clear BK HB hz0 hz1; have BK := n0_; have HB := n1_; clear n0_ n1_ hb; have hz0 : w3.cell? ⟨g, 0, none⟩ = some (.int .i64 seq) := (blk_cell BK.out 0).trans rfl; have hz1 : w3.cell? ⟨g, 1, none⟩ = some (.slice A l.length c) := (blk_cell BK.out 1).trans rfl) | (go_at_call 17; refine (frame_Write.calls seq _ _ l (bs F) e0 _ (Kd.C_below hr HB.out) hc HW.out).mono ?_; rintro e w4 ⟨rfl, hb⟩; have n0_ := Aside0.mk (blk_below BK.out hb); have n1_ := Aside0.mk (below_step HB.out hb); clear BK HB hz0 hz1; have BK := n0_; have HB := n1_; clear n0_ n1_ hb; have hz0 : w4.cell? ⟨g, 0, none⟩ = some (.int .i64 seq) := (blk_cell BK.out 0).trans rfl; have hz1 : w4.cell? ⟨g, 1, none⟩ = some (.slice A l.length c) := (blk_cell BK.out 1).trans rfl) | (go_at_call 16; refine (sheetpilelaw19_live.calls K true _ hL).mono ?_; rintro e w9 ⟨rfl, hb⟩; have n1_ := Aside0.mk (below_step HB.out hb); clear HB; have HB := n1_; clear n1_ hb))
  go_ret
  exact ⟨rfl, HB.out⟩
set_option maxHeartbeats 2000000 in
set_option maxRecDepth 100000 in
theorem fs_g2 (seq : Int) (A : Option Addr) (c : Nat) (l : List S62) (a b : Int) (w : World) (hr : Kd.C k62 w A l.length l) (hc : l.length ≤ c) (K : Nat) (hL : sheetpilelaw19_live.f K = some true) (hF : sheetpileref19_Few.f K l = some true) (h20 : ¬ 20 < l.length) (F : List UInt8) (e0 : Int) (hW : frame_Write.f seq l = some (bs F, e0)) (hFl : F.length ≤ 1000000) (he : e0 = 0) (h4 : ¬ F.length < 4) (h5 : a < 0) :
    Calls Try.prog 6 #[.agg #[.int .i64 seq, .slice A l.length c], .int .i64 a, .int .u32 b] w fun e w' => e = .returned (.bool true) ∧ Below w.heap.size w w' := by
  have d0 : decide (20 < (l.length : Int)) = false := decide_eq_false (by omega)
  have d1 : decide (20 < l.length) = false := decide_eq_false h20
  have HW := Aside0.mk hW
  clear hW
  have hsz : (bs F).size = F.length := bs_size F
  have t0 : (e0 != 0) = false := bne_eq_false_iff_eq.mpr he
  have t1 : decide ((F.length : Int) < 4) = false := decide_eq_false (by omega)
  have t2 : decide (F.length < 4) = false := decide_eq_false h4
  have t3 : decide (a < 0) = true := decide_eq_true h5
  clear he h4 h5
  have HB := Aside0.mk (Below.refl w.heap.size w)
  have hu := Try.underlying24
  have hu2 := Try.underlying30
  go_enter Try.func6, Try.ntmps6
  go_wp2_with (first | ((with_reducible refine gate_dst (N := 3) rfl ?_); (try (refine gate_guard (by rfl) ?_; dsimp only)); refine box_event ?hg (N := 3) ?hd (cs := #[.int .i64 seq, .slice A l.length c]) (t := 24) ?hr ?_; (case hd => rfl); (case hg => rfl); (case hr => first | (go_simp; done) | (go_simp; rfl)); intro g hg w1 hbox hb; have n0_ := Aside0.mk (below_step HB.out hb); have BK := Aside0.mk hbox; have GE := Aside0.mk ((by rw [hg]; exact (below_size HB.out)) : w.heap.size ≤ g); clear HB; have HB := n0_; clear n0_ hb hbox hg; have hz0 : w1.cell? ⟨g, 0, none⟩ = some (.int .i64 seq) := (blk_cell BK.out 0).trans rfl; have hz1 : w1.cell? ⟨g, 1, none⟩ = some (.slice A l.length c) := (blk_cell BK.out 1).trans rfl) | (go_at_call 15; refine (sheetpileref19_Few.calls K _ _ l true _ (Kd.C_below hr HB.out) hc hF).mono ?_; rintro e w2 ⟨rfl, hd⟩; have hb := hd.below; clear hd; have n0_ := Aside0.mk (blk_below BK.out hb); have n1_ := Aside0.mk (below_step HB.out hb); clear BK HB hz0 hz1; have BK := n0_; have HB := n1_; clear n0_ n1_ hb; have hz0 : w2.cell? ⟨g, 0, none⟩ = some (.int .i64 seq) := (blk_cell BK.out 0).trans rfl; have hz1 : w2.cell? ⟨g, 1, none⟩ = some (.slice A l.length c) := (blk_cell BK.out 1).trans rfl) | (go_at_call 18; refine (sheetpilelaw19_own.calls seq _ _ l true _ (Kd.C_below hr HB.out) hc rfl).mono ?_; rintro e w3 ⟨rfl, hb⟩; have n0_ := Aside0.mk (blk_below BK.out hb); have n1_ := Aside0.mk (below_step HB.out hb); clear BK HB hz0 hz1; have BK := n0_; have HB := n1_; clear n0_ n1_ hb; have hz0 : w3.cell? ⟨g, 0, none⟩ = some (.int .i64 seq) := (blk_cell BK.out 0).trans rfl; have hz1 : w3.cell? ⟨g, 1, none⟩ = some (.slice A l.length c) := (blk_cell BK.out 1).trans rfl) | (go_at_call 17; refine (frame_Write.calls seq _ _ l (bs F) e0 _ (Kd.C_below hr HB.out) hc HW.out).mono ?_; rintro e w4 ⟨rfl, hb⟩; have n0_ := Aside0.mk (blk_below BK.out hb); have n1_ := Aside0.mk (below_step HB.out hb); clear BK HB hz0 hz1; have BK := n0_; have HB := n1_; clear n0_ n1_ hb; have hz0 : w4.cell? ⟨g, 0, none⟩ = some (.int .i64 seq) := (blk_cell BK.out 0).trans rfl; have hz1 : w4.cell? ⟨g, 1, none⟩ = some (.slice A l.length c) := (blk_cell BK.out 1).trans rfl) | (go_at_call 16; refine (sheetpilelaw19_live.calls K true _ hL).mono ?_; rintro e w9 ⟨rfl, hb⟩; have n1_ := Aside0.mk (below_step HB.out hb); clear HB; have HB := n1_; clear n1_ hb))
  go_ret
  exact ⟨rfl, HB.out⟩
set_option maxHeartbeats 2000000 in
set_option maxRecDepth 100000 in
theorem fs_g3 (seq : Int) (A : Option Addr) (c : Nat) (l : List S62) (a b : Int) (w : World) (hr : Kd.C k62 w A l.length l) (hc : l.length ≤ c) (K : Nat) (hL : sheetpilelaw19_live.f K = some true) (hF : sheetpileref19_Few.f K l = some true) (h20 : ¬ 20 < l.length) (F : List UInt8) (e0 : Int) (hW : frame_Write.f seq l = some (bs F, e0)) (hFl : F.length ≤ 1000000) (he : e0 = 0) (h4 : ¬ F.length < 4) (h5 : ¬ a < 0) (h6 : (F.length : Int) - 4 < a) :
    Calls Try.prog 6 #[.agg #[.int .i64 seq, .slice A l.length c], .int .i64 a, .int .u32 b] w fun e w' => e = .returned (.bool true) ∧ Below w.heap.size w w' := by
  have d0 : decide (20 < (l.length : Int)) = false := decide_eq_false (by omega)
  have d1 : decide (20 < l.length) = false := decide_eq_false h20
  have HW := Aside0.mk hW
  clear hW
  have hsz : (bs F).size = F.length := bs_size F
  have t0 : (e0 != 0) = false := bne_eq_false_iff_eq.mpr he
  have t1 : decide ((F.length : Int) < 4) = false := decide_eq_false (by omega)
  have t2 : decide (F.length < 4) = false := decide_eq_false h4
  have t3 : decide (a < 0) = false := decide_eq_false h5
  have t4 : decide ((F.length : Int) - 4 < a) = true := decide_eq_true h6
  have t5 : decide (wrap64 ((F.length : Int) - 4) < a) = true := by rw [wrap_id (by omega) (by omega)]; exact decide_eq_true h6
  clear he h4 h5 h6
  have HB := Aside0.mk (Below.refl w.heap.size w)
  have hu := Try.underlying24
  have hu2 := Try.underlying30
  go_enter Try.func6, Try.ntmps6
  go_wp2_with (first | ((with_reducible refine gate_dst (N := 3) rfl ?_); (try (refine gate_guard (by rfl) ?_; dsimp only)); refine box_event ?hg (N := 3) ?hd (cs := #[.int .i64 seq, .slice A l.length c]) (t := 24) ?hr ?_; (case hd => rfl); (case hg => rfl); (case hr => first | (go_simp; done) | (go_simp; rfl)); intro g hg w1 hbox hb; have n0_ := Aside0.mk (below_step HB.out hb); have BK := Aside0.mk hbox; have GE := Aside0.mk ((by rw [hg]; exact (below_size HB.out)) : w.heap.size ≤ g); clear HB; have HB := n0_; clear n0_ hb hbox hg; have hz0 : w1.cell? ⟨g, 0, none⟩ = some (.int .i64 seq) := (blk_cell BK.out 0).trans rfl; have hz1 : w1.cell? ⟨g, 1, none⟩ = some (.slice A l.length c) := (blk_cell BK.out 1).trans rfl) | (go_at_call 15; refine (sheetpileref19_Few.calls K _ _ l true _ (Kd.C_below hr HB.out) hc hF).mono ?_; rintro e w2 ⟨rfl, hd⟩; have hb := hd.below; clear hd; have n0_ := Aside0.mk (blk_below BK.out hb); have n1_ := Aside0.mk (below_step HB.out hb); clear BK HB hz0 hz1; have BK := n0_; have HB := n1_; clear n0_ n1_ hb; have hz0 : w2.cell? ⟨g, 0, none⟩ = some (.int .i64 seq) := (blk_cell BK.out 0).trans rfl; have hz1 : w2.cell? ⟨g, 1, none⟩ = some (.slice A l.length c) := (blk_cell BK.out 1).trans rfl) | (go_at_call 18; refine (sheetpilelaw19_own.calls seq _ _ l true _ (Kd.C_below hr HB.out) hc rfl).mono ?_; rintro e w3 ⟨rfl, hb⟩; have n0_ := Aside0.mk (blk_below BK.out hb); have n1_ := Aside0.mk (below_step HB.out hb); clear BK HB hz0 hz1; have BK := n0_; have HB := n1_; clear n0_ n1_ hb; have hz0 : w3.cell? ⟨g, 0, none⟩ = some (.int .i64 seq) := (blk_cell BK.out 0).trans rfl; have hz1 : w3.cell? ⟨g, 1, none⟩ = some (.slice A l.length c) := (blk_cell BK.out 1).trans rfl) | (go_at_call 17; refine (frame_Write.calls seq _ _ l (bs F) e0 _ (Kd.C_below hr HB.out) hc HW.out).mono ?_; rintro e w4 ⟨rfl, hb⟩; have n0_ := Aside0.mk (blk_below BK.out hb); have n1_ := Aside0.mk (below_step HB.out hb); clear BK HB hz0 hz1; have BK := n0_; have HB := n1_; clear n0_ n1_ hb; have hz0 : w4.cell? ⟨g, 0, none⟩ = some (.int .i64 seq) := (blk_cell BK.out 0).trans rfl; have hz1 : w4.cell? ⟨g, 1, none⟩ = some (.slice A l.length c) := (blk_cell BK.out 1).trans rfl) | (go_at_call 16; refine (sheetpilelaw19_live.calls K true _ hL).mono ?_; rintro e w9 ⟨rfl, hb⟩; have n1_ := Aside0.mk (below_step HB.out hb); clear HB; have HB := n1_; clear n1_ hb))
  go_ret
  exact ⟨rfl, HB.out⟩
set_option maxHeartbeats 2000000 in
set_option maxRecDepth 100000 in
theorem fs_g4 (seq : Int) (A : Option Addr) (c : Nat) (l : List S62) (a b : Int) (w : World) (hr : Kd.C k62 w A l.length l) (hc : l.length ≤ c) (K : Nat) (hL : sheetpilelaw19_live.f K = some true) (hF : sheetpileref19_Few.f K l = some true) (h20 : ¬ 20 < l.length) (F : List UInt8) (e0 : Int) (hW : frame_Write.f seq l = some (bs F, e0)) (hFl : F.length ≤ 1000000) (he : e0 = 0) (h4 : ¬ F.length < 4) (h5 : ¬ a < 0) (h6 : ¬ (F.length : Int) - 4 < a) (h7 : a < 9 ∧ 1 < a) :
    Calls Try.prog 6 #[.agg #[.int .i64 seq, .slice A l.length c], .int .i64 a, .int .u32 b] w fun e w' => e = .returned (.bool true) ∧ Below w.heap.size w w' := by
  have d0 : decide (20 < (l.length : Int)) = false := decide_eq_false (by omega)
  have d1 : decide (20 < l.length) = false := decide_eq_false h20
  have HW := Aside0.mk hW
  clear hW
  have hsz : (bs F).size = F.length := bs_size F
  have t0 : (e0 != 0) = false := bne_eq_false_iff_eq.mpr he
  have t1 : decide ((F.length : Int) < 4) = false := decide_eq_false (by omega)
  have t2 : decide (F.length < 4) = false := decide_eq_false h4
  have t3 : decide (a < 0) = false := decide_eq_false h5
  have t4 : decide ((F.length : Int) - 4 < a) = false := decide_eq_false h6
  have t5 : decide (wrap64 ((F.length : Int) - 4) < a) = false := by rw [wrap_id (by omega) (by omega)]; exact decide_eq_false h6
  have t6 : decide (a < 9) = true := decide_eq_true h7.1
  have t7 : decide (1 < a) = true := decide_eq_true h7.2
  clear he h4 h5 h6 h7
  have HB := Aside0.mk (Below.refl w.heap.size w)
  have hu := Try.underlying24
  have hu2 := Try.underlying30
  go_enter Try.func6, Try.ntmps6
  go_wp2_with (first | ((with_reducible refine gate_dst (N := 3) rfl ?_); (try (refine gate_guard (by rfl) ?_; dsimp only)); refine box_event ?hg (N := 3) ?hd (cs := #[.int .i64 seq, .slice A l.length c]) (t := 24) ?hr ?_; (case hd => rfl); (case hg => rfl); (case hr => first | (go_simp; done) | (go_simp; rfl)); intro g hg w1 hbox hb; have n0_ := Aside0.mk (below_step HB.out hb); have BK := Aside0.mk hbox; have GE := Aside0.mk ((by rw [hg]; exact (below_size HB.out)) : w.heap.size ≤ g); clear HB; have HB := n0_; clear n0_ hb hbox hg; have hz0 : w1.cell? ⟨g, 0, none⟩ = some (.int .i64 seq) := (blk_cell BK.out 0).trans rfl; have hz1 : w1.cell? ⟨g, 1, none⟩ = some (.slice A l.length c) := (blk_cell BK.out 1).trans rfl) | (go_at_call 15; refine (sheetpileref19_Few.calls K _ _ l true _ (Kd.C_below hr HB.out) hc hF).mono ?_; rintro e w2 ⟨rfl, hd⟩; have hb := hd.below; clear hd; have n0_ := Aside0.mk (blk_below BK.out hb); have n1_ := Aside0.mk (below_step HB.out hb); clear BK HB hz0 hz1; have BK := n0_; have HB := n1_; clear n0_ n1_ hb; have hz0 : w2.cell? ⟨g, 0, none⟩ = some (.int .i64 seq) := (blk_cell BK.out 0).trans rfl; have hz1 : w2.cell? ⟨g, 1, none⟩ = some (.slice A l.length c) := (blk_cell BK.out 1).trans rfl) | (go_at_call 18; refine (sheetpilelaw19_own.calls seq _ _ l true _ (Kd.C_below hr HB.out) hc rfl).mono ?_; rintro e w3 ⟨rfl, hb⟩; have n0_ := Aside0.mk (blk_below BK.out hb); have n1_ := Aside0.mk (below_step HB.out hb); clear BK HB hz0 hz1; have BK := n0_; have HB := n1_; clear n0_ n1_ hb; have hz0 : w3.cell? ⟨g, 0, none⟩ = some (.int .i64 seq) := (blk_cell BK.out 0).trans rfl; have hz1 : w3.cell? ⟨g, 1, none⟩ = some (.slice A l.length c) := (blk_cell BK.out 1).trans rfl) | (go_at_call 17; refine (frame_Write.calls seq _ _ l (bs F) e0 _ (Kd.C_below hr HB.out) hc HW.out).mono ?_; rintro e w4 ⟨rfl, hb⟩; have n0_ := Aside0.mk (blk_below BK.out hb); have n1_ := Aside0.mk (below_step HB.out hb); clear BK HB hz0 hz1; have BK := n0_; have HB := n1_; clear n0_ n1_ hb; have hz0 : w4.cell? ⟨g, 0, none⟩ = some (.int .i64 seq) := (blk_cell BK.out 0).trans rfl; have hz1 : w4.cell? ⟨g, 1, none⟩ = some (.slice A l.length c) := (blk_cell BK.out 1).trans rfl) | (go_at_call 16; refine (sheetpilelaw19_live.calls K true _ hL).mono ?_; rintro e w9 ⟨rfl, hb⟩; have n1_ := Aside0.mk (below_step HB.out hb); clear HB; have HB := n1_; clear n1_ hb))
  go_ret
  exact ⟨rfl, HB.out⟩
set_option maxHeartbeats 2000000 in
set_option maxRecDepth 100000 in
theorem fs_g5a (seq : Int) (A : Option Addr) (c : Nat) (l : List S62) (a b : Int) (w : World) (hr : Kd.C k62 w A l.length l) (hc : l.length ≤ c) (K : Nat) (hL : sheetpilelaw19_live.f K = some true) (hF : sheetpileref19_Few.f K l = some true) (h20 : ¬ 20 < l.length) (F : List UInt8) (e0 : Int) (hW : frame_Write.f seq l = some (bs F, e0)) (hFl : F.length ≤ 1000000) (he : e0 = 0) (h4 : ¬ F.length < 4) (h5 : ¬ a < 0) (h6 : ¬ (F.length : Int) - 4 < a) (h7 : ¬ a < 9) (h8 : b = 0) :
    Calls Try.prog 6 #[.agg #[.int .i64 seq, .slice A l.length c], .int .i64 a, .int .u32 b] w fun e w' => e = .returned (.bool true) ∧ Below w.heap.size w w' := by
  have d0 : decide (20 < (l.length : Int)) = false := decide_eq_false (by omega)
  have d1 : decide (20 < l.length) = false := decide_eq_false h20
  have HW := Aside0.mk hW
  clear hW
  have hsz : (bs F).size = F.length := bs_size F
  have t0 : (e0 != 0) = false := bne_eq_false_iff_eq.mpr he
  have t1 : decide ((F.length : Int) < 4) = false := decide_eq_false (by omega)
  have t2 : decide (F.length < 4) = false := decide_eq_false h4
  have t3 : decide (a < 0) = false := decide_eq_false h5
  have t4 : decide ((F.length : Int) - 4 < a) = false := decide_eq_false h6
  have t5 : decide (wrap64 ((F.length : Int) - 4) < a) = false := by rw [wrap_id (by omega) (by omega)]; exact decide_eq_false h6
  have t6 : decide (a < 9) = false := decide_eq_false h7
  have t7 : (b == 0) = true := beq_iff_eq.mpr h8
  clear he h4 h5 h6 h7 h8
  have HB := Aside0.mk (Below.refl w.heap.size w)
  have hu := Try.underlying24
  have hu2 := Try.underlying30
  go_enter Try.func6, Try.ntmps6
  go_wp2_with (first | ((with_reducible refine gate_dst (N := 3) rfl ?_); (try (refine gate_guard (by rfl) ?_; dsimp only)); refine box_event ?hg (N := 3) ?hd (cs := #[.int .i64 seq, .slice A l.length c]) (t := 24) ?hr ?_; (case hd => rfl); (case hg => rfl); (case hr => first | (go_simp; done) | (go_simp; rfl)); intro g hg w1 hbox hb; have n0_ := Aside0.mk (below_step HB.out hb); have BK := Aside0.mk hbox; have GE := Aside0.mk ((by rw [hg]; exact (below_size HB.out)) : w.heap.size ≤ g); clear HB; have HB := n0_; clear n0_ hb hbox hg; have hz0 : w1.cell? ⟨g, 0, none⟩ = some (.int .i64 seq) := (blk_cell BK.out 0).trans rfl; have hz1 : w1.cell? ⟨g, 1, none⟩ = some (.slice A l.length c) := (blk_cell BK.out 1).trans rfl) | (go_at_call 15; refine (sheetpileref19_Few.calls K _ _ l true _ (Kd.C_below hr HB.out) hc hF).mono ?_; rintro e w2 ⟨rfl, hd⟩; have hb := hd.below; clear hd; have n0_ := Aside0.mk (blk_below BK.out hb); have n1_ := Aside0.mk (below_step HB.out hb); clear BK HB hz0 hz1; have BK := n0_; have HB := n1_; clear n0_ n1_ hb; have hz0 : w2.cell? ⟨g, 0, none⟩ = some (.int .i64 seq) := (blk_cell BK.out 0).trans rfl; have hz1 : w2.cell? ⟨g, 1, none⟩ = some (.slice A l.length c) := (blk_cell BK.out 1).trans rfl) | (go_at_call 18; refine (sheetpilelaw19_own.calls seq _ _ l true _ (Kd.C_below hr HB.out) hc rfl).mono ?_; rintro e w3 ⟨rfl, hb⟩; have n0_ := Aside0.mk (blk_below BK.out hb); have n1_ := Aside0.mk (below_step HB.out hb); clear BK HB hz0 hz1; have BK := n0_; have HB := n1_; clear n0_ n1_ hb; have hz0 : w3.cell? ⟨g, 0, none⟩ = some (.int .i64 seq) := (blk_cell BK.out 0).trans rfl; have hz1 : w3.cell? ⟨g, 1, none⟩ = some (.slice A l.length c) := (blk_cell BK.out 1).trans rfl) | (go_at_call 17; refine (frame_Write.calls seq _ _ l (bs F) e0 _ (Kd.C_below hr HB.out) hc HW.out).mono ?_; rintro e w4 ⟨rfl, hb⟩; have n0_ := Aside0.mk (blk_below BK.out hb); have n1_ := Aside0.mk (below_step HB.out hb); clear BK HB hz0 hz1; have BK := n0_; have HB := n1_; clear n0_ n1_ hb; have hz0 : w4.cell? ⟨g, 0, none⟩ = some (.int .i64 seq) := (blk_cell BK.out 0).trans rfl; have hz1 : w4.cell? ⟨g, 1, none⟩ = some (.slice A l.length c) := (blk_cell BK.out 1).trans rfl) | (go_at_call 16; refine (sheetpilelaw19_live.calls K true _ hL).mono ?_; rintro e w9 ⟨rfl, hb⟩; have n1_ := Aside0.mk (below_step HB.out hb); clear HB; have HB := n1_; clear n1_ hb))
  go_ret
  exact ⟨rfl, HB.out⟩
set_option maxHeartbeats 2000000 in
set_option maxRecDepth 100000 in
theorem fs_g5b (seq : Int) (A : Option Addr) (c : Nat) (l : List S62) (a b : Int) (w : World) (hr : Kd.C k62 w A l.length l) (hc : l.length ≤ c) (K : Nat) (hL : sheetpilelaw19_live.f K = some true) (hF : sheetpileref19_Few.f K l = some true) (h20 : ¬ 20 < l.length) (F : List UInt8) (e0 : Int) (hW : frame_Write.f seq l = some (bs F, e0)) (hFl : F.length ≤ 1000000) (he : e0 = 0) (h4 : ¬ F.length < 4) (h5 : ¬ a < 0) (h6 : ¬ (F.length : Int) - 4 < a) (h7 : a < 9 ∧ ¬ 1 < a) (h8 : b = 0) :
    Calls Try.prog 6 #[.agg #[.int .i64 seq, .slice A l.length c], .int .i64 a, .int .u32 b] w fun e w' => e = .returned (.bool true) ∧ Below w.heap.size w w' := by
  have d0 : decide (20 < (l.length : Int)) = false := decide_eq_false (by omega)
  have d1 : decide (20 < l.length) = false := decide_eq_false h20
  have HW := Aside0.mk hW
  clear hW
  have hsz : (bs F).size = F.length := bs_size F
  have t0 : (e0 != 0) = false := bne_eq_false_iff_eq.mpr he
  have t1 : decide ((F.length : Int) < 4) = false := decide_eq_false (by omega)
  have t2 : decide (F.length < 4) = false := decide_eq_false h4
  have t3 : decide (a < 0) = false := decide_eq_false h5
  have t4 : decide ((F.length : Int) - 4 < a) = false := decide_eq_false h6
  have t5 : decide (wrap64 ((F.length : Int) - 4) < a) = false := by rw [wrap_id (by omega) (by omega)]; exact decide_eq_false h6
  have t6 : decide (a < 9) = true := decide_eq_true h7.1
  have t7 : decide (1 < a) = false := decide_eq_false h7.2
  have t8 : (b == 0) = true := beq_iff_eq.mpr h8
  clear he h4 h5 h6 h7 h8
  have HB := Aside0.mk (Below.refl w.heap.size w)
  have hu := Try.underlying24
  have hu2 := Try.underlying30
  go_enter Try.func6, Try.ntmps6
  go_wp2_with (first | ((with_reducible refine gate_dst (N := 3) rfl ?_); (try (refine gate_guard (by rfl) ?_; dsimp only)); refine box_event ?hg (N := 3) ?hd (cs := #[.int .i64 seq, .slice A l.length c]) (t := 24) ?hr ?_; (case hd => rfl); (case hg => rfl); (case hr => first | (go_simp; done) | (go_simp; rfl)); intro g hg w1 hbox hb; have n0_ := Aside0.mk (below_step HB.out hb); have BK := Aside0.mk hbox; have GE := Aside0.mk ((by rw [hg]; exact (below_size HB.out)) : w.heap.size ≤ g); clear HB; have HB := n0_; clear n0_ hb hbox hg; have hz0 : w1.cell? ⟨g, 0, none⟩ = some (.int .i64 seq) := (blk_cell BK.out 0).trans rfl; have hz1 : w1.cell? ⟨g, 1, none⟩ = some (.slice A l.length c) := (blk_cell BK.out 1).trans rfl) | (go_at_call 15; refine (sheetpileref19_Few.calls K _ _ l true _ (Kd.C_below hr HB.out) hc hF).mono ?_; rintro e w2 ⟨rfl, hd⟩; have hb := hd.below; clear hd; have n0_ := Aside0.mk (blk_below BK.out hb); have n1_ := Aside0.mk (below_step HB.out hb); clear BK HB hz0 hz1; have BK := n0_; have HB := n1_; clear n0_ n1_ hb; have hz0 : w2.cell? ⟨g, 0, none⟩ = some (.int .i64 seq) := (blk_cell BK.out 0).trans rfl; have hz1 : w2.cell? ⟨g, 1, none⟩ = some (.slice A l.length c) := (blk_cell BK.out 1).trans rfl) | (go_at_call 18; refine (sheetpilelaw19_own.calls seq _ _ l true _ (Kd.C_below hr HB.out) hc rfl).mono ?_; rintro e w3 ⟨rfl, hb⟩; have n0_ := Aside0.mk (blk_below BK.out hb); have n1_ := Aside0.mk (below_step HB.out hb); clear BK HB hz0 hz1; have BK := n0_; have HB := n1_; clear n0_ n1_ hb; have hz0 : w3.cell? ⟨g, 0, none⟩ = some (.int .i64 seq) := (blk_cell BK.out 0).trans rfl; have hz1 : w3.cell? ⟨g, 1, none⟩ = some (.slice A l.length c) := (blk_cell BK.out 1).trans rfl) | (go_at_call 17; refine (frame_Write.calls seq _ _ l (bs F) e0 _ (Kd.C_below hr HB.out) hc HW.out).mono ?_; rintro e w4 ⟨rfl, hb⟩; have n0_ := Aside0.mk (blk_below BK.out hb); have n1_ := Aside0.mk (below_step HB.out hb); clear BK HB hz0 hz1; have BK := n0_; have HB := n1_; clear n0_ n1_ hb; have hz0 : w4.cell? ⟨g, 0, none⟩ = some (.int .i64 seq) := (blk_cell BK.out 0).trans rfl; have hz1 : w4.cell? ⟨g, 1, none⟩ = some (.slice A l.length c) := (blk_cell BK.out 1).trans rfl) | (go_at_call 16; refine (sheetpilelaw19_live.calls K true _ hL).mono ?_; rintro e w9 ⟨rfl, hb⟩; have n1_ := Aside0.mk (below_step HB.out hb); clear HB; have HB := n1_; clear n1_ hb))
  go_ret
  exact ⟨rfl, HB.out⟩
set_option maxHeartbeats 2000000 in
set_option maxRecDepth 100000 in
theorem fs_g6a (seq : Int) (A : Option Addr) (c : Nat) (l : List S62) (a b : Int) (w : World) (hr : Kd.C k62 w A l.length l) (hc : l.length ≤ c) (K : Nat) (hL : sheetpilelaw19_live.f K = some true) (hF : sheetpileref19_Few.f K l = some true) (h20 : ¬ 20 < l.length) (F : List UInt8) (e0 : Int) (hW : frame_Write.f seq l = some (bs F, e0)) (hFl : F.length ≤ 1000000) (he : e0 = 0) (h4 : ¬ F.length < 4) (h5 : ¬ a < 0) (h6 : ¬ (F.length : Int) - 4 < a) (h7 : ¬ a < 9) (h8 : b ≠ 0) (h9 : a = 0) :
    Calls Try.prog 6 #[.agg #[.int .i64 seq, .slice A l.length c], .int .i64 a, .int .u32 b] w fun e w' => e = .returned (.bool true) ∧ Below w.heap.size w w' := by
  have d0 : decide (20 < (l.length : Int)) = false := decide_eq_false (by omega)
  have d1 : decide (20 < l.length) = false := decide_eq_false h20
  have HW := Aside0.mk hW
  clear hW
  have hsz : (bs F).size = F.length := bs_size F
  have t0 : (e0 != 0) = false := bne_eq_false_iff_eq.mpr he
  have t1 : decide ((F.length : Int) < 4) = false := decide_eq_false (by omega)
  have t2 : decide (F.length < 4) = false := decide_eq_false h4
  have t3 : decide (a < 0) = false := decide_eq_false h5
  have t4 : decide ((F.length : Int) - 4 < a) = false := decide_eq_false h6
  have t5 : decide (wrap64 ((F.length : Int) - 4) < a) = false := by rw [wrap_id (by omega) (by omega)]; exact decide_eq_false h6
  have t6 : decide (a < 9) = false := decide_eq_false h7
  have t7 : (b == 0) = false := beq_eq_false_iff_ne.mpr h8
  have t8 : (a == 0) = true := beq_iff_eq.mpr h9
  clear he h4 h5 h6 h7 h8 h9
  have HB := Aside0.mk (Below.refl w.heap.size w)
  have hu := Try.underlying24
  have hu2 := Try.underlying30
  go_enter Try.func6, Try.ntmps6
  go_wp2_with (first | ((with_reducible refine gate_dst (N := 3) rfl ?_); (try (refine gate_guard (by rfl) ?_; dsimp only)); refine box_event ?hg (N := 3) ?hd (cs := #[.int .i64 seq, .slice A l.length c]) (t := 24) ?hr ?_; (case hd => rfl); (case hg => rfl); (case hr => first | (go_simp; done) | (go_simp; rfl)); intro g hg w1 hbox hb; have n0_ := Aside0.mk (below_step HB.out hb); have BK := Aside0.mk hbox; have GE := Aside0.mk ((by rw [hg]; exact (below_size HB.out)) : w.heap.size ≤ g); clear HB; have HB := n0_; clear n0_ hb hbox hg; have hz0 : w1.cell? ⟨g, 0, none⟩ = some (.int .i64 seq) := (blk_cell BK.out 0).trans rfl; have hz1 : w1.cell? ⟨g, 1, none⟩ = some (.slice A l.length c) := (blk_cell BK.out 1).trans rfl) | (go_at_call 15; refine (sheetpileref19_Few.calls K _ _ l true _ (Kd.C_below hr HB.out) hc hF).mono ?_; rintro e w2 ⟨rfl, hd⟩; have hb := hd.below; clear hd; have n0_ := Aside0.mk (blk_below BK.out hb); have n1_ := Aside0.mk (below_step HB.out hb); clear BK HB hz0 hz1; have BK := n0_; have HB := n1_; clear n0_ n1_ hb; have hz0 : w2.cell? ⟨g, 0, none⟩ = some (.int .i64 seq) := (blk_cell BK.out 0).trans rfl; have hz1 : w2.cell? ⟨g, 1, none⟩ = some (.slice A l.length c) := (blk_cell BK.out 1).trans rfl) | (go_at_call 18; refine (sheetpilelaw19_own.calls seq _ _ l true _ (Kd.C_below hr HB.out) hc rfl).mono ?_; rintro e w3 ⟨rfl, hb⟩; have n0_ := Aside0.mk (blk_below BK.out hb); have n1_ := Aside0.mk (below_step HB.out hb); clear BK HB hz0 hz1; have BK := n0_; have HB := n1_; clear n0_ n1_ hb; have hz0 : w3.cell? ⟨g, 0, none⟩ = some (.int .i64 seq) := (blk_cell BK.out 0).trans rfl; have hz1 : w3.cell? ⟨g, 1, none⟩ = some (.slice A l.length c) := (blk_cell BK.out 1).trans rfl) | (go_at_call 17; refine (frame_Write.calls seq _ _ l (bs F) e0 _ (Kd.C_below hr HB.out) hc HW.out).mono ?_; rintro e w4 ⟨rfl, hb⟩; have n0_ := Aside0.mk (blk_below BK.out hb); have n1_ := Aside0.mk (below_step HB.out hb); clear BK HB hz0 hz1; have BK := n0_; have HB := n1_; clear n0_ n1_ hb; have hz0 : w4.cell? ⟨g, 0, none⟩ = some (.int .i64 seq) := (blk_cell BK.out 0).trans rfl; have hz1 : w4.cell? ⟨g, 1, none⟩ = some (.slice A l.length c) := (blk_cell BK.out 1).trans rfl) | (go_at_call 16; refine (sheetpilelaw19_live.calls K true _ hL).mono ?_; rintro e w9 ⟨rfl, hb⟩; have n1_ := Aside0.mk (below_step HB.out hb); clear HB; have HB := n1_; clear n1_ hb))
  go_ret
  exact ⟨rfl, HB.out⟩
set_option maxHeartbeats 2000000 in
set_option maxRecDepth 100000 in
theorem fs_g6b (seq : Int) (A : Option Addr) (c : Nat) (l : List S62) (a b : Int) (w : World) (hr : Kd.C k62 w A l.length l) (hc : l.length ≤ c) (K : Nat) (hL : sheetpilelaw19_live.f K = some true) (hF : sheetpileref19_Few.f K l = some true) (h20 : ¬ 20 < l.length) (F : List UInt8) (e0 : Int) (hW : frame_Write.f seq l = some (bs F, e0)) (hFl : F.length ≤ 1000000) (he : e0 = 0) (h4 : ¬ F.length < 4) (h5 : ¬ a < 0) (h6 : ¬ (F.length : Int) - 4 < a) (h7 : a < 9 ∧ ¬ 1 < a) (h8 : b ≠ 0) (h9 : a = 0) :
    Calls Try.prog 6 #[.agg #[.int .i64 seq, .slice A l.length c], .int .i64 a, .int .u32 b] w fun e w' => e = .returned (.bool true) ∧ Below w.heap.size w w' := by
  have d0 : decide (20 < (l.length : Int)) = false := decide_eq_false (by omega)
  have d1 : decide (20 < l.length) = false := decide_eq_false h20
  have HW := Aside0.mk hW
  clear hW
  have hsz : (bs F).size = F.length := bs_size F
  have t0 : (e0 != 0) = false := bne_eq_false_iff_eq.mpr he
  have t1 : decide ((F.length : Int) < 4) = false := decide_eq_false (by omega)
  have t2 : decide (F.length < 4) = false := decide_eq_false h4
  have t3 : decide (a < 0) = false := decide_eq_false h5
  have t4 : decide ((F.length : Int) - 4 < a) = false := decide_eq_false h6
  have t5 : decide (wrap64 ((F.length : Int) - 4) < a) = false := by rw [wrap_id (by omega) (by omega)]; exact decide_eq_false h6
  have t6 : decide (a < 9) = true := decide_eq_true h7.1
  have t7 : decide (1 < a) = false := decide_eq_false h7.2
  have t8 : (b == 0) = false := beq_eq_false_iff_ne.mpr h8
  have t9 : (a == 0) = true := beq_iff_eq.mpr h9
  clear he h4 h5 h6 h7 h8 h9
  have HB := Aside0.mk (Below.refl w.heap.size w)
  have hu := Try.underlying24
  have hu2 := Try.underlying30
  go_enter Try.func6, Try.ntmps6
  go_wp2_with (first | ((with_reducible refine gate_dst (N := 3) rfl ?_); (try (refine gate_guard (by rfl) ?_; dsimp only)); refine box_event ?hg (N := 3) ?hd (cs := #[.int .i64 seq, .slice A l.length c]) (t := 24) ?hr ?_; (case hd => rfl); (case hg => rfl); (case hr => first | (go_simp; done) | (go_simp; rfl)); intro g hg w1 hbox hb; have n0_ := Aside0.mk (below_step HB.out hb); have BK := Aside0.mk hbox; have GE := Aside0.mk ((by rw [hg]; exact (below_size HB.out)) : w.heap.size ≤ g); clear HB; have HB := n0_; clear n0_ hb hbox hg; have hz0 : w1.cell? ⟨g, 0, none⟩ = some (.int .i64 seq) := (blk_cell BK.out 0).trans rfl; have hz1 : w1.cell? ⟨g, 1, none⟩ = some (.slice A l.length c) := (blk_cell BK.out 1).trans rfl) | (go_at_call 15; refine (sheetpileref19_Few.calls K _ _ l true _ (Kd.C_below hr HB.out) hc hF).mono ?_; rintro e w2 ⟨rfl, hd⟩; have hb := hd.below; clear hd; have n0_ := Aside0.mk (blk_below BK.out hb); have n1_ := Aside0.mk (below_step HB.out hb); clear BK HB hz0 hz1; have BK := n0_; have HB := n1_; clear n0_ n1_ hb; have hz0 : w2.cell? ⟨g, 0, none⟩ = some (.int .i64 seq) := (blk_cell BK.out 0).trans rfl; have hz1 : w2.cell? ⟨g, 1, none⟩ = some (.slice A l.length c) := (blk_cell BK.out 1).trans rfl) | (go_at_call 18; refine (sheetpilelaw19_own.calls seq _ _ l true _ (Kd.C_below hr HB.out) hc rfl).mono ?_; rintro e w3 ⟨rfl, hb⟩; have n0_ := Aside0.mk (blk_below BK.out hb); have n1_ := Aside0.mk (below_step HB.out hb); clear BK HB hz0 hz1; have BK := n0_; have HB := n1_; clear n0_ n1_ hb; have hz0 : w3.cell? ⟨g, 0, none⟩ = some (.int .i64 seq) := (blk_cell BK.out 0).trans rfl; have hz1 : w3.cell? ⟨g, 1, none⟩ = some (.slice A l.length c) := (blk_cell BK.out 1).trans rfl) | (go_at_call 17; refine (frame_Write.calls seq _ _ l (bs F) e0 _ (Kd.C_below hr HB.out) hc HW.out).mono ?_; rintro e w4 ⟨rfl, hb⟩; have n0_ := Aside0.mk (blk_below BK.out hb); have n1_ := Aside0.mk (below_step HB.out hb); clear BK HB hz0 hz1; have BK := n0_; have HB := n1_; clear n0_ n1_ hb; have hz0 : w4.cell? ⟨g, 0, none⟩ = some (.int .i64 seq) := (blk_cell BK.out 0).trans rfl; have hz1 : w4.cell? ⟨g, 1, none⟩ = some (.slice A l.length c) := (blk_cell BK.out 1).trans rfl) | (go_at_call 16; refine (sheetpilelaw19_live.calls K true _ hL).mono ?_; rintro e w9 ⟨rfl, hb⟩; have n1_ := Aside0.mk (below_step HB.out hb); clear HB; have HB := n1_; clear n1_ hb))
  go_ret
  exact ⟨rfl, HB.out⟩
set_option maxHeartbeats 2000000 in
set_option maxRecDepth 100000 in
theorem fs_walka (seq : Int) (A : Option Addr) (c : Nat) (l : List S62) (a b : Nat) (w : World) (hr : Kd.C k62 w A l.length l) (hc : l.length ≤ c) (K : Nat) (hL : sheetpilelaw19_live.f K = some true) (hF : sheetpileref19_Few.f K l = some true) (h20 : ¬ 20 < l.length) (F : List UInt8) (e0 : Int) (hW : frame_Write.f seq l = some (bs F, e0)) (hFl : F.length ≤ 1000000) (he : e0 = 0) (ha : a + 4 ≤ F.length) (h7 : ¬ (a : Int) < 9) (h9 : a ≠ 0) (hb : b < 4294967296) (h0 : b ≠ 0)
    (q : Int) (cs : List S62) (left : ByteArray) (e1 : Int) (hRd : frame_Read.f K (bs (turnB a b 4 F)) = some (q, cs, left, e1)) (hne : e1 ≠ 0) :
    Calls Try.prog 6 #[.agg #[.int .i64 seq, .slice A l.length c], .int .i64 (a : Int), .int .u32 (b : Int)] w fun e w' => e = .returned (.bool true) ∧ Below w.heap.size w w' := by
  have d0 : decide (20 < (l.length : Int)) = false := decide_eq_false (by omega)
  have d1 : decide (20 < l.length) = false := decide_eq_false h20
  have HW := Aside0.mk hW
  clear hW
  have hsz : (bs F).size = F.length := bs_size F
  have kb := fun W => print_bytes (P := Try.prog) 9 43 5 Try.underlying9 Try.underlying43 Try.underlying5 (bs F) W
  rw [hsz] at kb
  have t0 : (e0 != 0) = false := bne_eq_false_iff_eq.mpr he
  have t1 : decide ((F.length : Int) < 4) = false := decide_eq_false (by omega)
  have t2 : decide (F.length < 4) = false := decide_eq_false (by omega)
  have t3 : decide ((a : Int) < 0) = false := decide_eq_false (by omega)
  have t4b : decide ((F.length : Int) - 4 < (a : Int)) = false := decide_eq_false (by omega)
  have t4 : decide (wrap64 ((F.length : Int) - 4) < (a : Int)) = false := by rw [wrap_id (by omega) (by omega)]; exact decide_eq_false (by omega)
  have t5 : decide ((a : Int) < 9) = false := decide_eq_false h7
  have t8 : ((b : Int) == 0) = false := beq_eq_false_iff_ne.mpr (by omega)
  have t9 : ((a : Int) == 0) = false := beq_eq_false_iff_ne.mpr (by omega)
  have te : (e1 != 0) = true := bne_iff_ne.mpr hne
  have HRd := Aside0.mk hRd
  have HN := Aside0.mk (And.intro hFl (And.intro ha (And.intro hb h0)))
  clear hRd hne he h7 h9
  have HB := Aside0.mk (Below.refl w.heap.size w)
  have hu := Try.underlying24
  have hu2 := Try.underlying30
  go_enter Try.func6, Try.ntmps6
  go_wp2_with (first | ((with_reducible refine gate_dst (N := 3) rfl ?_); (try (refine gate_guard (by rfl) ?_; dsimp only)); refine box_event ?hg (N := 3) ?hd (cs := #[.int .i64 seq, .slice A l.length c]) (t := 24) ?hr ?_; (case hd => rfl); (case hg => rfl); (case hr => first | (go_simp; done) | (go_simp; rfl)); intro g hg w1 hbox hb; have n0_ := Aside0.mk (below_step HB.out hb); have BK := Aside0.mk hbox; have GE := Aside0.mk ((by rw [hg]; exact (below_size HB.out)) : w.heap.size ≤ g); clear HB; have HB := n0_; clear n0_ hb hbox hg; have hz0 : w1.cell? ⟨g, 0, none⟩ = some (.int .i64 seq) := (blk_cell BK.out 0).trans rfl; have hz1 : w1.cell? ⟨g, 1, none⟩ = some (.slice A l.length c) := (blk_cell BK.out 1).trans rfl) | (go_at_call 15; refine (sheetpileref19_Few.calls K _ _ l true _ (Kd.C_below hr HB.out) hc hF).mono ?_; rintro e w2 ⟨rfl, hd⟩; have hb := hd.below; clear hd; have n0_ := Aside0.mk (blk_below BK.out hb); have n1_ := Aside0.mk (below_step HB.out hb); clear BK HB hz0 hz1; have BK := n0_; have HB := n1_; clear n0_ n1_ hb; have hz0 : w2.cell? ⟨g, 0, none⟩ = some (.int .i64 seq) := (blk_cell BK.out 0).trans rfl; have hz1 : w2.cell? ⟨g, 1, none⟩ = some (.slice A l.length c) := (blk_cell BK.out 1).trans rfl) | (go_at_call 18; refine (sheetpilelaw19_own.calls seq _ _ l true _ (Kd.C_below hr HB.out) hc rfl).mono ?_; rintro e w3 ⟨rfl, hb⟩; have n0_ := Aside0.mk (blk_below BK.out hb); have n1_ := Aside0.mk (below_step HB.out hb); clear BK HB hz0 hz1; have BK := n0_; have HB := n1_; clear n0_ n1_ hb; have hz0 : w3.cell? ⟨g, 0, none⟩ = some (.int .i64 seq) := (blk_cell BK.out 0).trans rfl; have hz1 : w3.cell? ⟨g, 1, none⟩ = some (.slice A l.length c) := (blk_cell BK.out 1).trans rfl) | (go_at_call 17; refine (frame_Write.calls seq _ _ l (bs F) e0 _ (Kd.C_below hr HB.out) hc HW.out).mono ?_; rintro e w5 ⟨rfl, hb⟩; have n0_ := Aside0.mk (blk_below BK.out hb); have n1_ := Aside0.mk (below_step HB.out hb); clear BK HB hz0 hz1; have BK := n0_; have HB := n1_; clear n0_ n1_ hb; have hz0 : w5.cell? ⟨g, 0, none⟩ = some (.int .i64 seq) := (blk_cell BK.out 0).trans rfl; have hz1 : w5.cell? ⟨g, 1, none⟩ = some (.slice A l.length c) := (blk_cell BK.out 1).trans rfl))
  have hB := BRow.start w5 5 F
  revert hB
  generalize Lib.bytesWorld w5 5 (bs F) = W1
  generalize grownCap w5 F.length 0 5 = cap
  intro hB
  clear kb hsz t0 t1 t2 t3 t4 t4b t5 t8 t9 d0 d1
  obtain ⟨hl, ha, hb, h0⟩ := HN.out
  clear HN
  go_loopw [10] (fun v10 wr => ∃ k : Nat, k ≤ 4 ∧ v10 = .int .i64 k ∧ BRow w5 wr w5.heap.size (turnB a b k F)) (fun v10 _ => 4 - (intOf v10).toNat)
  case atStart => exact ⟨0, by omega, rfl, hB⟩
  case round =>
    obtain ⟨k, hk, rfl, hm⟩ := hrel
    have hlen := turnB_length a b k F
    by_cases hlt : k < 4
    · have hi : a + k < (turnB a b k F).length := by omega
      obtain ⟨hc, hf⟩ := hm.2.2 (a + k) hi
      have hput := fun c => hm.put (a + k) c hi
      have htn : turnB a b (k + 1) F = (turnB a b k F).set (a + k) ((turnB a b k F)[a + k]?.getD 0 ^^^ UInt8.ofNat (b / 256 ^ k % 256)) := rfl
      obtain ⟨c, hcd⟩ : ∃ c, c = (turnB a b k F)[a + k]?.getD 0 := ⟨_, rfl⟩
      rw [← hcd] at hc htn
      clear hcd
      have hx := xor_byte c (b / 256 ^ k % 256) (Nat.mod_lt _ (by decide))
      have HP := Aside0.mk hput
      have HT := Aside0.mk htn
      have HX := Aside0.mk hx
      clear hput htn hm hi hlen hx hB
      have hc1 := c.toNat_lt
      have p2 : (256 : Nat) ^ 2 = 65536 := by decide
      have p3 : (256 : Nat) ^ 3 = 16777216 := by decide
      have hcase : k = 0 ∨ k = 1 ∨ k = 2 ∨ k = 3 := by omega
      rcases hcase with rfl | rfl | rfl | rfl
      · have HE : Aside0 ((b : Int) % 256 = ((b / 256 ^ 0 % 256 : Nat) : Int)) := ⟨by rw [Nat.pow_zero, Nat.div_one]; omega⟩
        clear p2 p3
        simp only [Nat.add_zero] at hc hf
        go_wp2
        go_roundw
        case rel => exact ⟨1, by omega, rfl, by rw [HT.out, HE.out, HX.out]; exact HP.out _⟩
        case measure => simp [intOf]
      · have HE : Aside0 ((b : Int) / 256 % 256 = ((b / 256 ^ 1 % 256 : Nat) : Int)) := ⟨by rw [Nat.pow_one]; omega⟩
        clear p2 p3
        go_wp2
        go_roundw
        case rel => exact ⟨2, by omega, rfl, by rw [HT.out, HE.out, HX.out]; exact HP.out _⟩
        case measure => simp [intOf]
      · have HE : Aside0 ((b : Int) / 65536 % 256 = ((b / 256 ^ 2 % 256 : Nat) : Int)) := ⟨by rw [p2]; omega⟩
        clear p2 p3
        go_wp2
        go_roundw
        case rel => exact ⟨3, by omega, rfl, by rw [HT.out, HE.out, HX.out]; exact HP.out _⟩
        case measure => simp [intOf]
      · have HE : Aside0 ((b : Int) / 16777216 = ((b / 256 ^ 3 % 256 : Nat) : Int)) := ⟨by rw [p3]; omega⟩
        clear p2 p3
        go_wp2
        go_roundw
        case rel => exact ⟨4, by omega, rfl, by rw [HT.out, HE.out, HX.out]; exact HP.out _⟩
        case measure => simp [intOf]
    · obtain rfl : k = 4 := by omega
      have hcv := string_of_reads (P := Try.prog) (c := cap) Try.underlying43 Try.underlying5 Try.underlying9 (hm.reads (by omega))
      rw [strOfNums_numsOf, hlen] at hcv
      have HB7 := Aside0.mk (below_step HB.out hm.2.1)
      clear hB hm hlen HB BK hz0 hz1
      go_wp2_with (first | (go_at_call 22; refine (frame_Read.calls K _ q cs left e1 _ HRd.out).mono ?_; rintro e w7 ⟨v1, rfl, ho, hb⟩; obtain ⟨Ao, co, eo⟩ := Kd.R_slice ho; subst eo; have n1_ := Aside0.mk (below_step HB7.out hb); have HB := n1_; clear n1_ hb ho) | ((with_reducible refine gate_dst (N := 11) rfl ?_); (try (refine gate_guard (by rfl) ?_; dsimp only)); refine box_event ?hg (N := 11) ?hd (cs := #[.int .i64 0, .slice none 0 0]) (t := 30) ?hr ?_; (case hd => rfl); (case hg => rfl); (case hr => first | (go_simp; done) | (go_simp; rfl)); intro b2 hg w8 hbox hb; have n0_ := Aside0.mk (below_step HB.out hb); have GE2 := Aside0.mk ((by rw [hg]; exact (below_size HB.out)) : w.heap.size ≤ b2); clear HB; have HB := n0_; have hy0 : w8.cell? ⟨b2, 0, none⟩ = some (.int .i64 0) := (blk_cell hbox 0).trans rfl; have hy1 : w8.cell? ⟨b2, 1, none⟩ = some (.slice none 0 0) := (blk_cell hbox 1).trans rfl; have fy0 := blk_frozen hbox 0; have fy1 := blk_frozen hbox 1; clear n0_ hb hbox hg) | (go_at_call 16; refine (sheetpilelaw19_live.calls K true _ hL).mono ?_; rintro e w9 ⟨rfl, hb⟩; have n1_ := Aside0.mk (below_step (by repeat (first | exact HB.out | refine below_set ?_ GE2.out)) hb); clear HB; have HB := n1_; clear n1_ hb))
      go_ret
      exact ⟨rfl, HB.out⟩
set_option maxHeartbeats 2000000 in
set_option maxRecDepth 100000 in
theorem fs_walkb (seq : Int) (A : Option Addr) (c : Nat) (l : List S62) (a b : Nat) (w : World) (hr : Kd.C k62 w A l.length l) (hc : l.length ≤ c) (K : Nat) (hL : sheetpilelaw19_live.f K = some true) (hF : sheetpileref19_Few.f K l = some true) (h20 : ¬ 20 < l.length) (F : List UInt8) (e0 : Int) (hW : frame_Write.f seq l = some (bs F, e0)) (hFl : F.length ≤ 1000000) (he : e0 = 0) (ha : a + 4 ≤ F.length) (h7 : (a : Int) < 9 ∧ ¬ 1 < (a : Int)) (h9 : a ≠ 0) (hb : b < 4294967296) (h0 : b ≠ 0)
    (q : Int) (cs : List S62) (left : ByteArray) (e1 : Int) (hRd : frame_Read.f K (bs (turnB a b 4 F)) = some (q, cs, left, e1)) (hne : e1 ≠ 0) :
    Calls Try.prog 6 #[.agg #[.int .i64 seq, .slice A l.length c], .int .i64 (a : Int), .int .u32 (b : Int)] w fun e w' => e = .returned (.bool true) ∧ Below w.heap.size w w' := by
  have d0 : decide (20 < (l.length : Int)) = false := decide_eq_false (by omega)
  have d1 : decide (20 < l.length) = false := decide_eq_false h20
  have HW := Aside0.mk hW
  clear hW
  have hsz : (bs F).size = F.length := bs_size F
  have kb := fun W => print_bytes (P := Try.prog) 9 43 5 Try.underlying9 Try.underlying43 Try.underlying5 (bs F) W
  rw [hsz] at kb
  have t0 : (e0 != 0) = false := bne_eq_false_iff_eq.mpr he
  have t1 : decide ((F.length : Int) < 4) = false := decide_eq_false (by omega)
  have t2 : decide (F.length < 4) = false := decide_eq_false (by omega)
  have t3 : decide ((a : Int) < 0) = false := decide_eq_false (by omega)
  have t4b : decide ((F.length : Int) - 4 < (a : Int)) = false := decide_eq_false (by omega)
  have t4 : decide (wrap64 ((F.length : Int) - 4) < (a : Int)) = false := by rw [wrap_id (by omega) (by omega)]; exact decide_eq_false (by omega)
  have t5 : decide ((a : Int) < 9) = true := decide_eq_true h7.1
  have t6 : decide (1 < (a : Int)) = false := decide_eq_false h7.2
  have t8 : ((b : Int) == 0) = false := beq_eq_false_iff_ne.mpr (by omega)
  have t9 : ((a : Int) == 0) = false := beq_eq_false_iff_ne.mpr (by omega)
  have te : (e1 != 0) = true := bne_iff_ne.mpr hne
  have HRd := Aside0.mk hRd
  have HN := Aside0.mk (And.intro hFl (And.intro ha (And.intro hb h0)))
  clear hRd hne he h7 h9
  have HB := Aside0.mk (Below.refl w.heap.size w)
  have hu := Try.underlying24
  have hu2 := Try.underlying30
  go_enter Try.func6, Try.ntmps6
  go_wp2_with (first | ((with_reducible refine gate_dst (N := 3) rfl ?_); (try (refine gate_guard (by rfl) ?_; dsimp only)); refine box_event ?hg (N := 3) ?hd (cs := #[.int .i64 seq, .slice A l.length c]) (t := 24) ?hr ?_; (case hd => rfl); (case hg => rfl); (case hr => first | (go_simp; done) | (go_simp; rfl)); intro g hg w1 hbox hb; have n0_ := Aside0.mk (below_step HB.out hb); have BK := Aside0.mk hbox; have GE := Aside0.mk ((by rw [hg]; exact (below_size HB.out)) : w.heap.size ≤ g); clear HB; have HB := n0_; clear n0_ hb hbox hg; have hz0 : w1.cell? ⟨g, 0, none⟩ = some (.int .i64 seq) := (blk_cell BK.out 0).trans rfl; have hz1 : w1.cell? ⟨g, 1, none⟩ = some (.slice A l.length c) := (blk_cell BK.out 1).trans rfl) | (go_at_call 15; refine (sheetpileref19_Few.calls K _ _ l true _ (Kd.C_below hr HB.out) hc hF).mono ?_; rintro e w2 ⟨rfl, hd⟩; have hb := hd.below; clear hd; have n0_ := Aside0.mk (blk_below BK.out hb); have n1_ := Aside0.mk (below_step HB.out hb); clear BK HB hz0 hz1; have BK := n0_; have HB := n1_; clear n0_ n1_ hb; have hz0 : w2.cell? ⟨g, 0, none⟩ = some (.int .i64 seq) := (blk_cell BK.out 0).trans rfl; have hz1 : w2.cell? ⟨g, 1, none⟩ = some (.slice A l.length c) := (blk_cell BK.out 1).trans rfl) | (go_at_call 18; refine (sheetpilelaw19_own.calls seq _ _ l true _ (Kd.C_below hr HB.out) hc rfl).mono ?_; rintro e w3 ⟨rfl, hb⟩; have n0_ := Aside0.mk (blk_below BK.out hb); have n1_ := Aside0.mk (below_step HB.out hb); clear BK HB hz0 hz1; have BK := n0_; have HB := n1_; clear n0_ n1_ hb; have hz0 : w3.cell? ⟨g, 0, none⟩ = some (.int .i64 seq) := (blk_cell BK.out 0).trans rfl; have hz1 : w3.cell? ⟨g, 1, none⟩ = some (.slice A l.length c) := (blk_cell BK.out 1).trans rfl) | (go_at_call 17; refine (frame_Write.calls seq _ _ l (bs F) e0 _ (Kd.C_below hr HB.out) hc HW.out).mono ?_; rintro e w5 ⟨rfl, hb⟩; have n0_ := Aside0.mk (blk_below BK.out hb); have n1_ := Aside0.mk (below_step HB.out hb); clear BK HB hz0 hz1; have BK := n0_; have HB := n1_; clear n0_ n1_ hb; have hz0 : w5.cell? ⟨g, 0, none⟩ = some (.int .i64 seq) := (blk_cell BK.out 0).trans rfl; have hz1 : w5.cell? ⟨g, 1, none⟩ = some (.slice A l.length c) := (blk_cell BK.out 1).trans rfl))
  have hB := BRow.start w5 5 F
  revert hB
  generalize Lib.bytesWorld w5 5 (bs F) = W1
  generalize grownCap w5 F.length 0 5 = cap
  intro hB
  clear kb hsz t0 t1 t2 t3 t4 t4b t5 t6 t8 t9 d0 d1
  obtain ⟨hl, ha, hb, h0⟩ := HN.out
  clear HN
  go_loopw [10] (fun v10 wr => ∃ k : Nat, k ≤ 4 ∧ v10 = .int .i64 k ∧ BRow w5 wr w5.heap.size (turnB a b k F)) (fun v10 _ => 4 - (intOf v10).toNat)
  case atStart => exact ⟨0, by omega, rfl, hB⟩
  case round =>
    obtain ⟨k, hk, rfl, hm⟩ := hrel
    have hlen := turnB_length a b k F
    by_cases hlt : k < 4
    · have hi : a + k < (turnB a b k F).length := by omega
      obtain ⟨hc, hf⟩ := hm.2.2 (a + k) hi
      have hput := fun c => hm.put (a + k) c hi
      have htn : turnB a b (k + 1) F = (turnB a b k F).set (a + k) ((turnB a b k F)[a + k]?.getD 0 ^^^ UInt8.ofNat (b / 256 ^ k % 256)) := rfl
      obtain ⟨c, hcd⟩ : ∃ c, c = (turnB a b k F)[a + k]?.getD 0 := ⟨_, rfl⟩
      rw [← hcd] at hc htn
      clear hcd
      have hx := xor_byte c (b / 256 ^ k % 256) (Nat.mod_lt _ (by decide))
      have HP := Aside0.mk hput
      have HT := Aside0.mk htn
      have HX := Aside0.mk hx
      clear hput htn hm hi hlen hx hB
      have hc1 := c.toNat_lt
      have p2 : (256 : Nat) ^ 2 = 65536 := by decide
      have p3 : (256 : Nat) ^ 3 = 16777216 := by decide
      have hcase : k = 0 ∨ k = 1 ∨ k = 2 ∨ k = 3 := by omega
      rcases hcase with rfl | rfl | rfl | rfl
      · have HE : Aside0 ((b : Int) % 256 = ((b / 256 ^ 0 % 256 : Nat) : Int)) := ⟨by rw [Nat.pow_zero, Nat.div_one]; omega⟩
        clear p2 p3
        simp only [Nat.add_zero] at hc hf
        go_wp2
        go_roundw
        case rel => exact ⟨1, by omega, rfl, by rw [HT.out, HE.out, HX.out]; exact HP.out _⟩
        case measure => simp [intOf]
      · have HE : Aside0 ((b : Int) / 256 % 256 = ((b / 256 ^ 1 % 256 : Nat) : Int)) := ⟨by rw [Nat.pow_one]; omega⟩
        clear p2 p3
        go_wp2
        go_roundw
        case rel => exact ⟨2, by omega, rfl, by rw [HT.out, HE.out, HX.out]; exact HP.out _⟩
        case measure => simp [intOf]
      · have HE : Aside0 ((b : Int) / 65536 % 256 = ((b / 256 ^ 2 % 256 : Nat) : Int)) := ⟨by rw [p2]; omega⟩
        clear p2 p3
        go_wp2
        go_roundw
        case rel => exact ⟨3, by omega, rfl, by rw [HT.out, HE.out, HX.out]; exact HP.out _⟩
        case measure => simp [intOf]
      · have HE : Aside0 ((b : Int) / 16777216 = ((b / 256 ^ 3 % 256 : Nat) : Int)) := ⟨by rw [p3]; omega⟩
        clear p2 p3
        go_wp2
        go_roundw
        case rel => exact ⟨4, by omega, rfl, by rw [HT.out, HE.out, HX.out]; exact HP.out _⟩
        case measure => simp [intOf]
    · obtain rfl : k = 4 := by omega
      have hcv := string_of_reads (P := Try.prog) (c := cap) Try.underlying43 Try.underlying5 Try.underlying9 (hm.reads (by omega))
      rw [strOfNums_numsOf, hlen] at hcv
      have HB7 := Aside0.mk (below_step HB.out hm.2.1)
      clear hB hm hlen HB BK hz0 hz1
      go_wp2_with (first | (go_at_call 22; refine (frame_Read.calls K _ q cs left e1 _ HRd.out).mono ?_; rintro e w7 ⟨v1, rfl, ho, hb⟩; obtain ⟨Ao, co, eo⟩ := Kd.R_slice ho; subst eo; have n1_ := Aside0.mk (below_step HB7.out hb); have HB := n1_; clear n1_ hb ho) | ((with_reducible refine gate_dst (N := 11) rfl ?_); (try (refine gate_guard (by rfl) ?_; dsimp only)); refine box_event ?hg (N := 11) ?hd (cs := #[.int .i64 0, .slice none 0 0]) (t := 30) ?hr ?_; (case hd => rfl); (case hg => rfl); (case hr => first | (go_simp; done) | (go_simp; rfl)); intro b2 hg w8 hbox hb; have n0_ := Aside0.mk (below_step HB.out hb); have GE2 := Aside0.mk ((by rw [hg]; exact (below_size HB.out)) : w.heap.size ≤ b2); clear HB; have HB := n0_; have hy0 : w8.cell? ⟨b2, 0, none⟩ = some (.int .i64 0) := (blk_cell hbox 0).trans rfl; have hy1 : w8.cell? ⟨b2, 1, none⟩ = some (.slice none 0 0) := (blk_cell hbox 1).trans rfl; have fy0 := blk_frozen hbox 0; have fy1 := blk_frozen hbox 1; clear n0_ hb hbox hg) | (go_at_call 16; refine (sheetpilelaw19_live.calls K true _ hL).mono ?_; rintro e w9 ⟨rfl, hb⟩; have n1_ := Aside0.mk (below_step (by repeat (first | exact HB.out | refine below_set ?_ GE2.out)) hb); clear HB; have HB := n1_; clear n1_ hb))
      go_ret
      exact ⟨rfl, HB.out⟩
def sheetpilelaw19_FrameSeen.f (k : Nat) (a0_0 : Int) (l0_1 : List S62) (a1 : Int) (a2 : Int) : Option Bool := if l0_1.length ≤ 10000000000000 ∧ (Lit.int .i64 a0_0).wf = true ∧ (Lit.int .i64 a1).wf = true ∧ (Lit.int .u32 a2).wf = true then some true else none
theorem sheetpilelaw19_FrameSeen.calls (k : Nat) (a0_0 : Int) (A0_1 : Option Addr) (c0_1 : Nat) (l0_1 : List S62) (a1 : Int) (a2 : Int) (r : Bool) (w : World) (hr0_1 : Kd.C k62 w A0_1 l0_1.length l0_1) (hc0_1 : l0_1.length ≤ c0_1) (h : sheetpilelaw19_FrameSeen.f k a0_0 l0_1 a1 a2 = some r) :
    Calls Try.prog 6 #[.agg #[.int .i64 a0_0, .slice A0_1 l0_1.length c0_1], .int .i64 a1, .int .u32 a2] w fun e w' => e = .returned (.bool r) ∧ Below w.heap.size w w' := by
  unfold sheetpilelaw19_FrameSeen.f at h
  split at h
  · rename_i hh
    obtain ⟨hlen, g0, g1, g2⟩ := hh
    cases h
    obtain ⟨K, hK⟩ : ∃ K, K = 300 + l0_1.length := ⟨_, rfl⟩
    have hL := live19 K (by omega)
    have hF := few_f l0_1 hlen K (by omega)
    obtain ⟨q0, q1⟩ := i64_wf g0
    obtain ⟨p0, p1⟩ := i64_wf g1
    obtain ⟨b, rfl, hb⟩ := Bs.u32_wf g2
    by_cases hf : (fewL l0_1 && decide (l0_1.length ≤ 80)) = true
    · rw [hf] at hF
      by_cases h20 : 20 < l0_1.length
      · exact fs_many a0_0 A0_1 c0_1 l0_1 a1 b w hr0_1 hc0_1 K hL hF h20
      · obtain ⟨hl80, hs⟩ := few_sizes hf
        have hs2 : ∀ c ∈ l0_1, c.f0.size ≤ 65535 ∧ c.f1.size ≤ 65535 := fun c hc => by have := hs c hc; omega
        have hW := frame_Write_f a0_0 l0_1 q0 q1 hs2
        have hb1 := few_body l0_1 hs
        have hFl : (writeL a0_0 l0_1).1.length ≤ 1000000 := by
          unfold writeL
          split
          · split
            · simp only [frameL_length]; omega
            · simp
          · simp
        by_cases he : (writeL a0_0 l0_1).2 = 0
        · by_cases h4 : (writeL a0_0 l0_1).1.length < 4
          · exact fs_g1 a0_0 A0_1 c0_1 l0_1 a1 b w hr0_1 hc0_1 K hL hF h20 _ _ hW hFl he h4
          · by_cases h5 : a1 < 0
            · exact fs_g2 a0_0 A0_1 c0_1 l0_1 a1 b w hr0_1 hc0_1 K hL hF h20 _ _ hW hFl he h4 h5
            · by_cases h6 : ((writeL a0_0 l0_1).1.length : Int) - 4 < a1
              · exact fs_g3 a0_0 A0_1 c0_1 l0_1 a1 b w hr0_1 hc0_1 K hL hF h20 _ _ hW hFl he h4 h5 h6
              · by_cases h7 : a1 < 9 ∧ 1 < a1
                · exact fs_g4 a0_0 A0_1 c0_1 l0_1 a1 b w hr0_1 hc0_1 K hL hF h20 _ _ hW hFl he h4 h5 h6 h7
                · by_cases h8 : (b : Int) = 0
                  · by_cases h7a : a1 < 9
                    · exact fs_g5b a0_0 A0_1 c0_1 l0_1 a1 b w hr0_1 hc0_1 K hL hF h20 _ _ hW hFl he h4 h5 h6 ⟨h7a, by omega⟩ h8
                    · exact fs_g5a a0_0 A0_1 c0_1 l0_1 a1 b w hr0_1 hc0_1 K hL hF h20 _ _ hW hFl he h4 h5 h6 h7a h8
                  · by_cases h9 : a1 = 0
                    · exact fs_g6b a0_0 A0_1 c0_1 l0_1 a1 b w hr0_1 hc0_1 K hL hF h20 _ _ hW hFl he h4 h5 h6 ⟨by omega, by omega⟩ h8 h9
                    · obtain ⟨a, rfl⟩ := Int.eq_ofNat_of_zero_le (show 0 ≤ a1 by omega)
                      have hwz : ∃ n : Nat, writeL a0_0 l0_1 = (frameL n l0_1, 0) := by
                        unfold writeL at he ⊢
                        split at he
                        · rename_i hc
                          split at he
                          · rename_i hq; rw [if_pos hc, if_pos hq]; exact ⟨_, rfl⟩
                          · simp at he
                        · rename_i hc; exact absurd he hc
                      obtain ⟨n, hwn⟩ := hwz
                      have hbl := bodyL_len l0_1 hs2
                      have hfl := frameL_length n l0_1
                      rw [hwn] at hW h4 h6 he hFl
                      simp only [] at hW h4 h6 he hFl
                      have ha : a + 4 ≤ (frameL n l0_1).length := by omega
                      have htl := turnB_length a b 4 (frameL n l0_1)
                      have hRd := frame_Read_f K (by omega) (turnB a b 4 (frameL n l0_1)) (by rw [htl, hfl]; omega)
                      by_cases h7a : (a : Int) < 9
                      · have hne := frame_seen n l0_1 (by omega) a b ha (.inl (by omega)) hb (by omega)
                        exact fs_walkb a0_0 A0_1 c0_1 l0_1 a b w hr0_1 hc0_1 K hL hF h20 _ _ hW hFl rfl ha ⟨h7a, by omega⟩ (by omega) hb (by omega) _ _ _ _ hRd hne
                      · have hne := frame_seen n l0_1 (by omega) a b ha (.inr (by omega)) hb (by omega)
                        exact fs_walka a0_0 A0_1 c0_1 l0_1 a b w hr0_1 hc0_1 K hL hF h20 _ _ hW hFl rfl ha h7a (by omega) hb (by omega) _ _ _ _ hRd hne
        · exact fs_g0 a0_0 A0_1 c0_1 l0_1 a1 b w hr0_1 hc0_1 K hL hF h20 _ _ hW hFl he
    · rw [Bool.not_eq_true] at hf
      rw [hf] at hF
      exact fs_few a0_0 A0_1 c0_1 l0_1 a1 b w hr0_1 hc0_1 K hL hF
  · cases h
end Go.Proofs.Ytcgbjkjacpeheaa.PFr
