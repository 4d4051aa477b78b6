/- block.Open, walked by hand. -/
import Derived.Below
import Derived.Deep.Draws
import Derived.Deep.AppendLies
import Derived.Maps.AppendAt
import Derived.OwnWalk
import Derived.Laws.BytesArg
import Derived.Laws.MakeOwn
import Derived.Laws.OwnMore
import Derived.Deep.OwnRows
import Derived.Tactics
import Derived.Lib.ConvBytes
import Derived.Laws.Slices
import Derived.WalkKit
import Derived.KernelRfl
import Derived.RowKit3
import Derived.Deep.LoopGhost
import Derived.Deep.QuietTactic
import Derived.BigQuiet
import Derived.WideLaws
import Derived.Deep.DeepCutAuto
import Derived.Deep.CutBlock
import Derived.Deep.RegionHeld3
import Derived.Laws.Rows
import Derived.Lib.AppendStr
import Derived.ArgAppend
import Derived.Laws.IdiomCopy
import Derived.OrdersHeld
import Derived.Laws.BitsLemmas
import Derived.RowKit
import Derived.Test.YtmnpejoolbipeaaWWords
import Derived.Test.YtmnpejoolbipeaaWLast
import Derived.Test.YtmnpejoolbipeaaWTab
import Derived.Test.YtmnpejoolbipeaaWFour
import Derived.Test.YtmnpejoolbipeaaWQPut
import Derived.Test.YtmnpejoolbipeaaWApart
import Derived.Test.YtmnpejoolbipeaaWArr
import Derived.Test.YtmnpejoolbipeaaWZeros
import Derived.Test.YtmnpejoolbipeaaWFoot
import Derived.Test.YtmnpejoolbipeaaWKept
import Derived.Test.YtmnpejoolbipeaaWShare
import Derived.Test.YtmnpejoolbipeaaWN
import Derived.Test.YtmnpejoolbipeaaWFootNe
import Derived.Test.YtmnpejoolbipeaaWAt
import Derived.Test.YtmnpejoolbipeaaWEqStruct
import Derived.Test.YtmnpejoolbipeaaWRepsOne
import Derived.Test.YtmnpejoolbipeaaWInv
import Derived.Test.YtmnpejoolbipeaaWInvWords
import Derived.Test.YtmnpejoolbipeaaWGuard
import Derived.Test.YtmnpejoolbipeaaWNEv
import Derived.Test.YtmnpejoolbipeaaWMore
import Derived.StillTailTactics
import Derived.Laws.BitsAllLaws
import Derived.Outline
import Derived.Lib.OthersKept
import Derived.Test.YtmnpejoolbipeaaBs
import Derived.Deep.RegionLaw
import Derived.Lib.Hide
import Derived.Test.YtmnpejoolbipeaaCut
import Derived.Test.YtmnpejoolbipeaaPRix7
import Derived.Test.YtmnpejoolbipeaaPRix4
import Derived.Test.YtmnpejoolbipeaaPRix5
namespace Go.Proofs.Ytmnpejoolbipeaa.Given
open Go.RowKit Go.Proofs Go.Proofs.Ytmnpejoolbipeaa.Bs Go.Proofs.Ytmnpejoolbipeaa.PRi Go.Proofs.YtmnpejoolbipeaaW.PrintWords Go.Proofs.YtmnpejoolbipeaaW.PrintLast Go.Proofs.YtmnpejoolbipeaaW.PrintMore
set_option linter.unusedVariables false
set_option linter.unusedSimpArgs false
/-- The fields' row: where each number lies, and its size. -/
def fieldsRow (g : Nat) : Array Value := #[.pointer (some ⟨g, 0, none⟩), .int .i64 4, .pointer (some ⟨g, 1, none⟩), .int .i64 2, .pointer (some ⟨g, 2, none⟩), .int .i64 4, .pointer (some ⟨g, 3, none⟩), .int .i64 7]
set_option maxHeartbeats 2000000 in
theorem fields_calls (g : Nat) (w : World) : Calls Try.prog 53 #[.pointer (some ⟨g, 0, none⟩)] w fun e w' => ∃ r, e = .returned (.slice (some ⟨r, 0, none⟩) 4 4) ∧ w.heap.size ≤ r ∧ w'.heap[r]? = some (.cells (fieldsRow g) 93 (0, 0)) ∧ Below w.heap.size w w' := by
  have hu := Try.underlying93
  have hu2 := Try.underlying61
  go_enter Try.func53, Try.ntmps53
  go_wp2
  go_region
  all_goals go_wp2
  all_goals go_ret
  all_goals exact ⟨w.heap.size, rfl, Nat.le_refl _, blk_new _ _, by repeat (first | exact Below.refl _ _ | apply below_alloc | apply below_drew1)⟩
theorem un_drew {w w1 : World} (h : Below w.drew.heap.size w.drew w1) : Below w.heap.size w w1 := ⟨h.os, h.tape, h.output, h.size, h.block⟩
def szO : Nat → Int
  | 0 => 4
  | 1 => 2
  | 2 => 4
  | _ => 7
/-- A block of which the first i numbers are read. -/
def cellsO (v : Nat → Int) (i : Nat) : Array Value := #[.int .i64 (if 0 < i then v 0 else 0), .int .i64 (if 1 < i then v 1 else 0), .int .i64 (if 2 < i then v 2 else 0), .int .i64 (if 3 < i then v 3 else 0), .string ⟨#[]⟩]
theorem fieldsRow_at (g i : Nat) (h : i < 4) : (fieldsRow g)[i * 2]? = some (.pointer (some ⟨g, i, none⟩)) ∧ (fieldsRow g)[i * 2 + 1]? = some (.int .i64 (szO i)) := by
  match i, h with
  | 0, _ => exact ⟨rfl, rfl⟩
  | 1, _ => exact ⟨rfl, rfl⟩
  | 2, _ => exact ⟨rfl, rfl⟩
  | 3, _ => exact ⟨rfl, rfl⟩
theorem cellsO_at (v : Nat → Int) (i : Nat) (h : i < 4) : (cellsO v i)[i]? = some (.int .i64 0) ∧ (cellsO v i).setIfInBounds i (.int .i64 (v i)) = cellsO v (i + 1) := by
  match i, h with
  | 0, _ => exact ⟨rfl, rfl⟩
  | 1, _ => exact ⟨rfl, rfl⟩
  | 2, _ => exact ⟨rfl, rfl⟩
  | 3, _ => exact ⟨rfl, rfl⟩
def zero5 : Array Value := #[.int .i64 0, .int .i64 0, .int .i64 0, .int .i64 0, .string ⟨#[]⟩]
theorem set5 {w : World} {g : Nat} {t : TypeId} {c0 c1 c2 c3 c4 : Value} (h : w.heap[g]? = some (.cells #[c0, c1, c2, c3, c4] t (0, 0))) (v0 v1 v2 v3 v4 : Value) :
    (((((w.setCell ⟨g, 0, none⟩ v0).setCell ⟨g, 1, none⟩ v1).setCell ⟨g, 2, none⟩ v2).setCell ⟨g, 3, none⟩ v3).setCell ⟨g, 4, none⟩ v4).heap[g]? = some (.cells #[v0, v1, v2, v3, v4] t (0, 0)) :=
  blk_put (cs := #[v0, v1, v2, v3, c4]) (blk_put (cs := #[v0, v1, v2, c3, c4]) (blk_put (cs := #[v0, v1, c2, c3, c4]) (blk_put (cs := #[v0, c1, c2, c3, c4]) (blk_put (cs := #[c0, c1, c2, c3, c4]) h 0 v0 rfl) 1 v1 rfl) 2 v2 rfl) 3 v3 rfl) 4 v4 rfl
theorem below5 {w W : World} {g : Nat} (h : Below w.heap.size w W) (hg : w.heap.size ≤ g) (v0 v1 v2 v3 v4 : Value) : Below w.heap.size w (((((W.setCell ⟨g, 0, none⟩ v0).setCell ⟨g, 1, none⟩ v1).setCell ⟨g, 2, none⟩ v2).setCell ⟨g, 3, none⟩ v3).setCell ⟨g, 4, none⟩ v4) :=
  below_set (below_set (below_set (below_set (below_set h hg) hg) hg) hg) hg
set_option maxHeartbeats 4000000 in
set_option maxRecDepth 100000 in
theorem open_no (a0 p : ByteArray) (is : Bool) (w : World) (hp : strings_CutPrefix.f a0 ⟨#[83, 80, 76]⟩ = some (p, is)) (h : (a0.size : Int) < 26 ∨ is = false) :
    Calls Try.prog 42 #[.string a0] w fun e w' => e = .returned (.tuple #[.agg zero5, .int .i64 (if (a0.size : Int) < 26 then 4 else 5)]) ∧ Below w.heap.size w w' := by
  have hu := Try.underlying61
  have HP := Aside0.mk hp
  clear hp
  by_cases h26 : (a0.size : Int) < 26
  · rw [if_pos h26]
    have d1 : decide ((a0.size : Int) < 26) = true := decide_eq_true h26
    clear h h26
    go_enter Try.func42, Try.ntmps42
    go_wp2_with (first
      | (go_at_call 43; refine (strings_CutPrefix.calls _ _ p is _ HP.out).mono ?_; rintro e w' ⟨rfl, ⟨nd, rfl⟩⟩))
    refine bodyPost_ret (results_ct rfl _ _ w.heap.size 61 zero5 (0, 0) _ rfl (set5 (blk_drewN (blk_new w _) nd) _ _ _ _ _) Try.underlying61 rfl (by kernel_rfl)) rfl ?_
    exact ⟨rfl, below5 (pw_below_drewN (below_alloc (Below.refl _ _) _) nd) (Nat.le_refl _) _ _ _ _ _⟩
  · rw [if_neg h26]
    obtain rfl : is = false := h.resolve_left h26
    have d1 : decide ((a0.size : Int) < 26) = false := decide_eq_false h26
    clear h h26
    go_enter Try.func42, Try.ntmps42
    go_wp2_with (first
      | (go_at_call 43; refine (strings_CutPrefix.calls _ _ p false _ HP.out).mono ?_; rintro e w' ⟨rfl, ⟨nd, rfl⟩⟩))
    refine bodyPost_ret (results_ct rfl _ _ w.heap.size 61 zero5 (0, 0) _ rfl (set5 (blk_drewN (blk_new w _) nd) _ _ _ _ _) Try.underlying61 rfl (by kernel_rfl)) rfl ?_
    exact ⟨rfl, below5 (pw_below_drewN (below_alloc (Below.refl _ _) _) nd) (Nat.le_refl _) _ _ _ _ _⟩
set_option maxHeartbeats 8000000 in
set_option maxRecDepth 100000 in
theorem open_walk (a0 : ByteArray) (rs : Nat → ByteArray) (v er : Nat → Int) (tx tr : ByteArray) (te sm s : Int) (w : World) (hp : strings_CutPrefix.f a0 ⟨#[83, 80, 76]⟩ = some (rs 0, true)) (h26 : ¬ (a0.size : Int) < 26) (hsz : a0.size ≤ 281474976710656)
    (hc : ∀ i, i < 4 → wire_Cut.f (rs i) (szO i) = some (v i, rs (i + 1), er i)) (ht : wire_Take.f (rs 4) = some (tx, tr, te)) (hn : te = 0 → tr.size = 4 → (∃ r2 r3, wire_Cut.f tr 4 = some (sm, r2, r3)) ∧ crc_Sum.f (a0.extract 0 (a0.size - 4)) = some s) :
    Calls Try.prog 42 #[.string a0] w fun e w' => e = .returned (if te = 0 ∧ 4 ≤ tr.size then (if tr.size ≤ 4 then (if sm = wrap64 s then .tuple #[.agg #[.int .i64 (v 0), .int .i64 (v 1), .int .i64 (v 2), .int .i64 (v 3), .string tx], .int .i64 0] else .tuple #[.agg zero5, .int .i64 6]) else .tuple #[.agg zero5, .int .i64 5]) else .tuple #[.agg zero5, .int .i64 4]) ∧ Below w.heap.size w w' := by
  obtain ⟨R, hR⟩ : ∃ R : Value, R = (if te = 0 ∧ 4 ≤ tr.size then (if tr.size ≤ 4 then (if sm = wrap64 s then .tuple #[.agg #[.int .i64 (v 0), .int .i64 (v 1), .int .i64 (v 2), .int .i64 (v 3), .string tx], .int .i64 0] else .tuple #[.agg zero5, .int .i64 6]) else .tuple #[.agg zero5, .int .i64 5]) else .tuple #[.agg zero5, .int .i64 4]) := ⟨_, rfl⟩
  rw [← hR]
  have HRR := Aside0.mk hR
  clear hR
  have hu := Try.underlying61
  have hu2 := Try.underlying93
  have HP := Aside0.mk hp
  have HC := Aside0.mk hc
  have HT := Aside0.mk ht
  have HN := Aside0.mk hn
  have HS := Aside0.mk hsz
  have H26 := Aside0.mk h26
  have d1 : decide ((a0.size : Int) < 26) = false := decide_eq_false h26
  clear hp hc ht hn hsz h26
  have HB := Aside0.mk (Below.refl w.heap.size w)
  go_enter Try.func42, Try.ntmps42
  go_wp2_with (first
    | ((with_reducible refine gate_dst (N := 2) rfl ?_); refine box_event ?hg (N := 2) ?hd (cs := zero5) (t := 61) ?hr ?_; (case hd => rfl); (case hg => rfl); (case hr => first | (go_simp; done) | (go_simp; rfl)); intro g2 hg w1 hbox hb; have B2 := Aside0.mk hbox; have n0_ := Aside0.mk (below_step HB.out hb); have G2 := Aside0.mk (show w.heap.size ≤ g2 by rw [hg]; exact Nat.le_refl _); clear HB hbox hb hg; have HB := n0_; clear n0_)
    | (go_at_call 43; refine (strings_CutPrefix.calls _ _ (rs 0) true _ HP.out).mono ?_; rintro e w' ⟨rfl, ⟨nd, rfl⟩⟩)
    | ((with_reducible refine gate_dst (N := 6) rfl ?_); refine box_event ?hg (N := 6) ?hd (cs := zero5) (t := 61) ?hr ?_; (case hd => rfl); (case hg => rfl); (case hr => first | (go_simp; done) | (go_simp; rfl)); intro g6 hg w2 hbox hb; have B6 := Aside0.mk hbox; have n1_ := Aside0.mk (blk_below (blk_drewN B2.out nd) hb); have n0_ := Aside0.mk (below_step (pw_below_drewN HB.out nd) hb); have G6 := Aside0.mk (show w.heap.size ≤ g6 by rw [hg]; exact (pw_below_drewN HB.out nd).size); have N26 := Aside0.mk (show g2 ≠ g6 by rw [hg]; exact Nat.ne_of_lt (blk_lt (blk_drewN B2.out nd))); clear HB B2 hbox hb hg; have HB := n0_; have B2 := n1_; clear n0_ n1_)
    | (go_at_call 53; refine (fields_calls _ _).mono ?_; rintro e w3 ⟨rr, rfl, hr1, hr2, hb⟩; have BR := Aside0.mk hr2; have n2_ := Aside0.mk (blk_below B2.out hb); have n6_ := Aside0.mk (blk_below B6.out hb); have n0_ := Aside0.mk (below_step HB.out hb); have NR := Aside0.mk (And.intro (show g2 ≠ rr by have := blk_lt B2.out; omega) (show g6 ≠ rr by have := blk_lt B6.out; omega)); clear HB B2 B6 hr1 hr2 hb; have HB := n0_; have B2 := n2_; have B6 := n6_; clear n0_ n2_ n6_))
  go_loopw [4, 29] (fun u4 u29 wr => ∃ i : Nat, u29 = .int .i64 (i : Int) ∧ u4 = .string (rs i) ∧ i ≤ 4 ∧ Aside0 (wr.heap[rr]? = some (.cells (fieldsRow g6) 93 (0, 0))) ∧ Aside0 (wr.heap[g2]? = some (.cells zero5 61 (0, 0))) ∧ Aside0 (wr.heap[g6]? = some (.cells (cellsO v i) 61 (0, 0))) ∧ Aside0 (Below w.heap.size w wr)) (fun _ u29 _ => 4 - (intOf u29).toNat)
  case atStart => exact ⟨0, rfl, rfl, by omega, BR, B2, B6, HB⟩
  case round =>
    obtain ⟨i, rfl, rfl, hi, BR1, B21, B61, HB1⟩ := hrel
    clear BR B2 B6 HB
    by_cases hlt : i < 4
    · have c1 : decide ((i : Int) < 4) = true := decide_eq_true (by omega)
      have hf := fieldsRow_at g6 i hlt
      have hx0 : wr.cell? ⟨rr, i * 2, none⟩ = some (.pointer (some ⟨g6, i, none⟩)) := (blk_cell BR1.out (i * 2)).trans hf.1
      have hx1 : wr.cell? ⟨rr, i * 2 + 1, none⟩ = some (.int .i64 (szO i)) := (blk_cell BR1.out (i * 2 + 1)).trans hf.2
      have hcc := HC.out i hlt
      have HCC := Aside0.mk hcc
      clear hf hcc
      go_wp2
      have b8 := blk_new wr (.cells #[.pointer (some ⟨g6, i, none⟩), .int .i64 (szO i)] 93)
      have B28 := Aside0.mk (blk_alloc B21.out (.cells #[.pointer (some ⟨g6, i, none⟩), .int .i64 (szO i)] 93))
      have b68 := blk_alloc B61.out (.cells #[.pointer (some ⟨g6, i, none⟩), .int .i64 (szO i)] 93)
      have BR8 := Aside0.mk (blk_alloc BR1.out (.cells #[.pointer (some ⟨g6, i, none⟩), .int .i64 (szO i)] 93))
      have HB8 := Aside0.mk (below_alloc HB1.out (.cells #[.pointer (some ⟨g6, i, none⟩), .int .i64 (szO i)] 93))
      have n68 : wr.heap.size ≠ g6 := by have := blk_lt B61.out; omega
      obtain ⟨g8, hg8⟩ : ∃ g8, wr.heap.size = g8 := ⟨_, rfl⟩
      simp only [hg8] at b8 n68 ⊢
      generalize wr.alloc (.cells #[.pointer (some ⟨g6, i, none⟩), .int .i64 (szO i)] 93) = w8 at b8 B28 b68 BR8 HB8 ⊢
      have y0 : w8.cell? ⟨g8, 0, none⟩ = some (.pointer (some ⟨g6, i, none⟩)) := (blk_cell b8 0).trans rfl
      have y1 : w8.cell? ⟨g8, 1, none⟩ = some (.int .i64 (szO i)) := (blk_cell b8 1).trans rfl
      have hco := cellsO_at v i hlt
      have z0 : w8.cell? ⟨g6, i, none⟩ = some (.int .i64 0) := (blk_cell b68 i).trans hco.1
      have zf := blk_frozen b68 i
      have B68 := Aside0.mk b68
      have HCO := Aside0.mk hco.2
      clear b8 b68 hco hg8 hx0 hx1 c1 BR1 B21 B61 HB1
      have HWC := fun W => wire_Cut.calls _ _ _ _ _ W HCC.out
      go_region_with (go_at_call 44; refine (HWC _).mono ?_; rintro e w9 ⟨rfl, hb⟩; have hbu := un_drew hb; have y0_ := pw_cell_below hbu y0; have z0_ := pw_cell_below hbu z0; have zf_ := blk_frozen (blk_below B68.out hbu) i; have HBb := Aside0.mk hbu; clear hb hbu)
      all_goals
        go_wp2
        go_roundw
        case rel => exact ⟨i + 1, by go_num, rfl, by omega, ⟨blk_far (blk_below BR8.out HBb.out) NR.out.2.symm _⟩, ⟨blk_far (blk_below B28.out HBb.out) N26.out _⟩, ⟨blk_put (blk_below B68.out HBb.out) i _ HCO.out⟩, ⟨below_set (below_step HB8.out HBb.out) G6.out⟩⟩
        case measure => simp [intOf]; omega
    · obtain rfl : i = 4 := by omega
      have c1 : decide (((4 : Nat) : Int) < 4) = false := by decide
      have hs1 := HS.out
      have hs2 := H26.out
      have hn26 := N26.out
      have hn62 := N26.out.symm
      have B61' : Aside0 (wr.heap[g6]? = some (.cells #[.int .i64 (v 0), .int .i64 (v 1), .int .i64 (v 2), .int .i64 (v 3), .string ⟨#[]⟩] 61 (0, 0))) := ⟨B61.out⟩
      clear hlt hi BR1 B61
      by_cases ht0 : te = 0
      · subst ht0
        by_cases h4 : 4 ≤ tr.size
        · have e1 : decide ((tr.size : Int) < 4) = false := decide_eq_false (by omega)
          by_cases h5 : tr.size ≤ 4
          · have hR1 := HRR.out
            rw [if_pos ⟨rfl, h4⟩, if_pos h5] at hR1
            have e2 : decide (4 < (tr.size : Int)) = false := decide_eq_false (by omega)
            obtain ⟨⟨r2, r3, hsm⟩, hcr⟩ := HN.out rfl (by omega)
            have hcr' := hcr
            have HSM := Aside0.mk hsm
            have HCR := Aside0.mk hcr'
            clear hsm hcr hcr' h4 h5
            by_cases hq : sm = wrap64 s
            · have hR' := hR1
              rw [if_pos hq] at hR'
              have e3 : (sm == wrap64 s) = true := beq_iff_eq.mpr hq
              have e4 : (sm != wrap64 s) = false := bne_eq_false_iff_eq.mpr hq
              clear hR1 hq
              go_wp2_with (first | (go_at_call 45; refine (wire_Take.calls _ _ _ _ _ HT.out).mono ?_; rintro e w4 ⟨rfl, hb⟩; have b6 := blk_below B61'.out hb; have b2 := blk_below B21.out hb; have HB4 := Aside0.mk (below_step HB1.out hb); have B24 := Aside0.mk b2; have B64 := Aside0.mk b6; have z0 : w4.cell? ⟨g2, 0, none⟩ = some (.int .i64 0) := (blk_cell b2 0).trans rfl; have zf0 := blk_frozen b2 0; have z1 : w4.cell? ⟨g2, 1, none⟩ = some (.int .i64 0) := (blk_cell b2 1).trans rfl; have zf1 := blk_frozen b2 1; have z2 : w4.cell? ⟨g2, 2, none⟩ = some (.int .i64 0) := (blk_cell b2 2).trans rfl; have zf2 := blk_frozen b2 2; have z3 : w4.cell? ⟨g2, 3, none⟩ = some (.int .i64 0) := (blk_cell b2 3).trans rfl; have zf3 := blk_frozen b2 3; have z4 : w4.cell? ⟨g2, 4, none⟩ = some (.string ⟨#[]⟩) := (blk_cell b2 4).trans rfl; have zf4 := blk_frozen b2 4; have q4 : w4.cell? ⟨g6, 4, none⟩ = some (.string ⟨#[]⟩) := (blk_cell b6 4).trans rfl; have qf4 := blk_frozen b6 4; clear hb b6 b2) | (go_at_call 44; refine (wire_Cut.calls _ _ _ _ _ _ HSM.out).mono ?_; rintro e w5 ⟨rfl, hb⟩; have b6 := blk_below (blk_put (cs' := #[.int .i64 (v 0), .int .i64 (v 1), .int .i64 (v 2), .int .i64 (v 3), .string tx]) B64.out 4 (.string tx) rfl) hb; have b2 := blk_below (blk_far B24.out hn26 _) hb; have HB5 := Aside0.mk (below_step (below_set HB4.out G6.out) hb); have B25 := Aside0.mk b2; have B65 := Aside0.mk b6; clear hb b6 b2) | (go_at_call 54; refine (crc_Sum.calls _ _ _ HCR.out).mono ?_; rintro e w6 ⟨rfl, hb⟩; have b6 := blk_below B65.out hb; have b2 := blk_below B25.out hb; have HB6 := Aside0.mk (below_step HB5.out hb); have B26 := Aside0.mk b2; clear B24; clear z0 z1 z2 z3 z4 zf0 zf1 zf2 zf3 zf4 q4 qf4; have z0 : w6.cell? ⟨g2, 0, none⟩ = some (.int .i64 0) := (blk_cell b2 0).trans rfl; have zf0 := blk_frozen b2 0; have z1 : w6.cell? ⟨g2, 1, none⟩ = some (.int .i64 0) := (blk_cell b2 1).trans rfl; have zf1 := blk_frozen b2 1; have z2 : w6.cell? ⟨g2, 2, none⟩ = some (.int .i64 0) := (blk_cell b2 2).trans rfl; have zf2 := blk_frozen b2 2; have z3 : w6.cell? ⟨g2, 3, none⟩ = some (.int .i64 0) := (blk_cell b2 3).trans rfl; have zf3 := blk_frozen b2 3; have z4 : w6.cell? ⟨g2, 4, none⟩ = some (.string ⟨#[]⟩) := (blk_cell b2 4).trans rfl; have zf4 := blk_frozen b2 4; have q0 : w6.cell? ⟨g6, 0, none⟩ = some (.int .i64 (v 0)) := (blk_cell b6 0).trans rfl; have qf0 := blk_frozen b6 0; have q1 : w6.cell? ⟨g6, 1, none⟩ = some (.int .i64 (v 1)) := (blk_cell b6 1).trans rfl; have qf1 := blk_frozen b6 1; have q2 : w6.cell? ⟨g6, 2, none⟩ = some (.int .i64 (v 2)) := (blk_cell b6 2).trans rfl; have qf2 := blk_frozen b6 2; have q3 : w6.cell? ⟨g6, 3, none⟩ = some (.int .i64 (v 3)) := (blk_cell b6 3).trans rfl; have qf3 := blk_frozen b6 3; have q4 : w6.cell? ⟨g6, 4, none⟩ = some (.string tx) := (blk_cell b6 4).trans rfl; have qf4 := blk_frozen b6 4; clear hb b6 b2))
              refine bodyPost_ret (results_ct rfl _ _ g2 61 #[.int .i64 (v 0), .int .i64 (v 1), .int .i64 (v 2), .int .i64 (v 3), .string tx] (0, 0) _ rfl (set5 B26.out _ _ _ _ _) Try.underlying61 rfl (by kernel_rfl)) rfl ?_
              exact ⟨by rw [hR']; rfl, below5 HB6.out G2.out _ _ _ _ _⟩
            · have hR' := hR1
              rw [if_neg hq] at hR'
              have e3 : (sm == wrap64 s) = false := beq_eq_false_iff_ne.mpr hq
              have e4 : (sm != wrap64 s) = true := bne_iff_ne.mpr hq
              clear hR1 hq
              go_wp2_with (first | (go_at_call 45; refine (wire_Take.calls _ _ _ _ _ HT.out).mono ?_; rintro e w4 ⟨rfl, hb⟩; have b6 := blk_below B61'.out hb; have b2 := blk_below B21.out hb; have HB4 := Aside0.mk (below_step HB1.out hb); have B24 := Aside0.mk b2; have B64 := Aside0.mk b6; have z0 : w4.cell? ⟨g2, 0, none⟩ = some (.int .i64 0) := (blk_cell b2 0).trans rfl; have zf0 := blk_frozen b2 0; have z1 : w4.cell? ⟨g2, 1, none⟩ = some (.int .i64 0) := (blk_cell b2 1).trans rfl; have zf1 := blk_frozen b2 1; have z2 : w4.cell? ⟨g2, 2, none⟩ = some (.int .i64 0) := (blk_cell b2 2).trans rfl; have zf2 := blk_frozen b2 2; have z3 : w4.cell? ⟨g2, 3, none⟩ = some (.int .i64 0) := (blk_cell b2 3).trans rfl; have zf3 := blk_frozen b2 3; have z4 : w4.cell? ⟨g2, 4, none⟩ = some (.string ⟨#[]⟩) := (blk_cell b2 4).trans rfl; have zf4 := blk_frozen b2 4; have q4 : w4.cell? ⟨g6, 4, none⟩ = some (.string ⟨#[]⟩) := (blk_cell b6 4).trans rfl; have qf4 := blk_frozen b6 4; clear hb b6 b2) | (go_at_call 44; refine (wire_Cut.calls _ _ _ _ _ _ HSM.out).mono ?_; rintro e w5 ⟨rfl, hb⟩; have b6 := blk_below (blk_put (cs' := #[.int .i64 (v 0), .int .i64 (v 1), .int .i64 (v 2), .int .i64 (v 3), .string tx]) B64.out 4 (.string tx) rfl) hb; have b2 := blk_below (blk_far B24.out hn26 _) hb; have HB5 := Aside0.mk (below_step (below_set HB4.out G6.out) hb); have B25 := Aside0.mk b2; have B65 := Aside0.mk b6; clear hb b6 b2) | (go_at_call 54; refine (crc_Sum.calls _ _ _ HCR.out).mono ?_; rintro e w6 ⟨rfl, hb⟩; have b6 := blk_below B65.out hb; have b2 := blk_below B25.out hb; have HB6 := Aside0.mk (below_step HB5.out hb); have B26 := Aside0.mk b2; clear B24; clear z0 z1 z2 z3 z4 zf0 zf1 zf2 zf3 zf4 q4 qf4; have z0 : w6.cell? ⟨g2, 0, none⟩ = some (.int .i64 0) := (blk_cell b2 0).trans rfl; have zf0 := blk_frozen b2 0; have z1 : w6.cell? ⟨g2, 1, none⟩ = some (.int .i64 0) := (blk_cell b2 1).trans rfl; have zf1 := blk_frozen b2 1; have z2 : w6.cell? ⟨g2, 2, none⟩ = some (.int .i64 0) := (blk_cell b2 2).trans rfl; have zf2 := blk_frozen b2 2; have z3 : w6.cell? ⟨g2, 3, none⟩ = some (.int .i64 0) := (blk_cell b2 3).trans rfl; have zf3 := blk_frozen b2 3; have z4 : w6.cell? ⟨g2, 4, none⟩ = some (.string ⟨#[]⟩) := (blk_cell b2 4).trans rfl; have zf4 := blk_frozen b2 4; have q0 : w6.cell? ⟨g6, 0, none⟩ = some (.int .i64 (v 0)) := (blk_cell b6 0).trans rfl; have qf0 := blk_frozen b6 0; have q1 : w6.cell? ⟨g6, 1, none⟩ = some (.int .i64 (v 1)) := (blk_cell b6 1).trans rfl; have qf1 := blk_frozen b6 1; have q2 : w6.cell? ⟨g6, 2, none⟩ = some (.int .i64 (v 2)) := (blk_cell b6 2).trans rfl; have qf2 := blk_frozen b6 2; have q3 : w6.cell? ⟨g6, 3, none⟩ = some (.int .i64 (v 3)) := (blk_cell b6 3).trans rfl; have qf3 := blk_frozen b6 3; have q4 : w6.cell? ⟨g6, 4, none⟩ = some (.string tx) := (blk_cell b6 4).trans rfl; have qf4 := blk_frozen b6 4; clear hb b6 b2))
              refine bodyPost_ret (results_ct rfl _ _ g2 61 zero5 (0, 0) _ rfl (set5 B26.out _ _ _ _ _) Try.underlying61 rfl (by kernel_rfl)) rfl ?_
              exact ⟨by rw [hR']; rfl, below5 HB6.out G2.out _ _ _ _ _⟩
          · have hR' := HRR.out
            rw [if_pos ⟨rfl, h4⟩, if_neg h5] at hR'
            have e2 : decide (4 < (tr.size : Int)) = true := decide_eq_true (by omega)
            clear h4 h5
            go_wp2_with (go_at_call 45; refine (wire_Take.calls _ _ _ _ _ HT.out).mono ?_; rintro e w4 ⟨rfl, hb⟩; have b6 := blk_below B61'.out hb; have b2 := blk_below B21.out hb; have HB4 := Aside0.mk (below_step HB1.out hb); have B24 := Aside0.mk b2; have B64 := Aside0.mk b6; have z0 : w4.cell? ⟨g2, 0, none⟩ = some (.int .i64 0) := (blk_cell b2 0).trans rfl; have zf0 := blk_frozen b2 0; have z1 : w4.cell? ⟨g2, 1, none⟩ = some (.int .i64 0) := (blk_cell b2 1).trans rfl; have zf1 := blk_frozen b2 1; have z2 : w4.cell? ⟨g2, 2, none⟩ = some (.int .i64 0) := (blk_cell b2 2).trans rfl; have zf2 := blk_frozen b2 2; have z3 : w4.cell? ⟨g2, 3, none⟩ = some (.int .i64 0) := (blk_cell b2 3).trans rfl; have zf3 := blk_frozen b2 3; have z4 : w4.cell? ⟨g2, 4, none⟩ = some (.string ⟨#[]⟩) := (blk_cell b2 4).trans rfl; have zf4 := blk_frozen b2 4; have q4 : w4.cell? ⟨g6, 4, none⟩ = some (.string ⟨#[]⟩) := (blk_cell b6 4).trans rfl; have qf4 := blk_frozen b6 4; clear hb b6 b2)
            refine bodyPost_ret (results_ct rfl _ _ g2 61 zero5 (0, 0) _ rfl (set5 (blk_far B24.out hn26 _) _ _ _ _ _) Try.underlying61 rfl (by kernel_rfl)) rfl ?_
            exact ⟨by rw [hR']; rfl, below5 (below_set HB4.out G6.out) G2.out _ _ _ _ _⟩
        · have hR' := HRR.out
          rw [if_neg (fun h => h4 h.2)] at hR'
          have e1 : decide ((tr.size : Int) < 4) = true := decide_eq_true (by omega)
          clear h4
          go_wp2_with (go_at_call 45; refine (wire_Take.calls _ _ _ _ _ HT.out).mono ?_; rintro e w4 ⟨rfl, hb⟩; have b6 := blk_below B61'.out hb; have b2 := blk_below B21.out hb; have HB4 := Aside0.mk (below_step HB1.out hb); have B24 := Aside0.mk b2; have B64 := Aside0.mk b6; have z0 : w4.cell? ⟨g2, 0, none⟩ = some (.int .i64 0) := (blk_cell b2 0).trans rfl; have zf0 := blk_frozen b2 0; have z1 : w4.cell? ⟨g2, 1, none⟩ = some (.int .i64 0) := (blk_cell b2 1).trans rfl; have zf1 := blk_frozen b2 1; have z2 : w4.cell? ⟨g2, 2, none⟩ = some (.int .i64 0) := (blk_cell b2 2).trans rfl; have zf2 := blk_frozen b2 2; have z3 : w4.cell? ⟨g2, 3, none⟩ = some (.int .i64 0) := (blk_cell b2 3).trans rfl; have zf3 := blk_frozen b2 3; have z4 : w4.cell? ⟨g2, 4, none⟩ = some (.string ⟨#[]⟩) := (blk_cell b2 4).trans rfl; have zf4 := blk_frozen b2 4; have q4 : w4.cell? ⟨g6, 4, none⟩ = some (.string ⟨#[]⟩) := (blk_cell b6 4).trans rfl; have qf4 := blk_frozen b6 4; clear hb b6 b2)
          refine bodyPost_ret (results_ct rfl _ _ g2 61 zero5 (0, 0) _ rfl (set5 (blk_far B24.out hn26 _) _ _ _ _ _) Try.underlying61 rfl (by kernel_rfl)) rfl ?_
          exact ⟨by rw [hR']; rfl, below5 (below_set HB4.out G6.out) G2.out _ _ _ _ _⟩
      · have e0 : (te == 0) = false := beq_eq_false_iff_ne.mpr ht0
        have e1 : (te != 0) = true := bne_iff_ne.mpr ht0
        have hR' := HRR.out
        rw [if_neg (fun h => ht0 h.1)] at hR'
        clear ht0
        go_wp2_with (go_at_call 45; refine (wire_Take.calls _ _ _ _ _ HT.out).mono ?_; rintro e w4 ⟨rfl, hb⟩; have b6 := blk_below B61'.out hb; have b2 := blk_below B21.out hb; have HB4 := Aside0.mk (below_step HB1.out hb); have B24 := Aside0.mk b2; have B64 := Aside0.mk b6; have z0 : w4.cell? ⟨g2, 0, none⟩ = some (.int .i64 0) := (blk_cell b2 0).trans rfl; have zf0 := blk_frozen b2 0; have z1 : w4.cell? ⟨g2, 1, none⟩ = some (.int .i64 0) := (blk_cell b2 1).trans rfl; have zf1 := blk_frozen b2 1; have z2 : w4.cell? ⟨g2, 2, none⟩ = some (.int .i64 0) := (blk_cell b2 2).trans rfl; have zf2 := blk_frozen b2 2; have z3 : w4.cell? ⟨g2, 3, none⟩ = some (.int .i64 0) := (blk_cell b2 3).trans rfl; have zf3 := blk_frozen b2 3; have z4 : w4.cell? ⟨g2, 4, none⟩ = some (.string ⟨#[]⟩) := (blk_cell b2 4).trans rfl; have zf4 := blk_frozen b2 4; have q4 : w4.cell? ⟨g6, 4, none⟩ = some (.string ⟨#[]⟩) := (blk_cell b6 4).trans rfl; have qf4 := blk_frozen b6 4; clear hb b6 b2)
        refine bodyPost_ret (results_ct rfl _ _ g2 61 zero5 (0, 0) _ rfl (set5 (blk_far B24.out hn26 _) _ _ _ _ _) Try.underlying61 rfl (by kernel_rfl)) rfl ?_
        exact ⟨by rw [hR']; rfl, below5 (below_set HB4.out G6.out) G2.out _ _ _ _ _⟩
def zeroO (e : Int) : Int × Int × Int × Int × ByteArray × Int := (0, 0, 0, 0, ⟨#[]⟩, e)
def openT (a0 : ByteArray) (c1 c2 c3 c4 : Int) (t : ByteArray × ByteArray × Int) : Option (Int × Int × Int × Int × ByteArray × Int) :=
  if t.2.2 = 0 ∧ 4 ≤ t.2.1.size then (if t.2.1.size ≤ 4 then (wire_Cut.f t.2.1 4).bind fun c5 => (crc_Sum.f (a0.extract 0 (a0.size - 4))).bind fun s => some (if c5.1 = wrap64 s then (c1, c2, c3, c4, t.1, 0) else zeroO 6) else some (zeroO 5)) else some (zeroO 4)
def openF (a0 p : ByteArray) : Option (Int × Int × Int × Int × ByteArray × Int) :=
  (wire_Cut.f p 4).bind fun c1 => (wire_Cut.f c1.2.1 2).bind fun c2 => (wire_Cut.f c2.2.1 4).bind fun c3 => (wire_Cut.f c3.2.1 7).bind fun c4 => (wire_Take.f c4.2.1).bind fun t => openT a0 c1.1 c2.1 c3.1 c4.1 t
def block_Open.f (a0 : ByteArray) : Option (Int × Int × Int × Int × ByteArray × Int) :=
  (strings_CutPrefix.f a0 ⟨#[83, 80, 76]⟩).bind fun p => if (a0.size : Int) < 26 ∨ p.2 = false then some (zeroO (if (a0.size : Int) < 26 then 4 else 5)) else if a0.size ≤ 281474976710656 then openF a0 p.1 else none
set_option maxHeartbeats 1000000 in
theorem block_Open.calls (a0 : ByteArray) (r1 r2 r3 r4 : Int) (r5 : ByteArray) (r6 : Int) (w : World) (h : block_Open.f a0 = some (r1, r2, r3, r4, r5, r6)) :
    Calls Try.prog 42 #[.string a0] w fun e w' => e = .returned (.tuple #[.agg #[.int .i64 r1, .int .i64 r2, .int .i64 r3, .int .i64 r4, .string r5], .int .i64 r6]) ∧ Below w.heap.size w w' := by
  unfold block_Open.f at h
  obtain ⟨⟨p, is⟩, hp, h⟩ := Option.bind_eq_some_iff.mp h
  dsimp only at h
  by_cases h1 : (a0.size : Int) < 26 ∨ is = false
  · rw [if_pos h1] at h
    simp only [zeroO, Option.some.injEq, Prod.mk.injEq] at h
    obtain ⟨rfl, rfl, rfl, rfl, rfl, rfl⟩ := h
    exact open_no a0 p is w hp h1
  · rw [if_neg h1] at h
    by_cases h2 : a0.size ≤ 281474976710656
    · rw [if_pos h2] at h
      have h26 : ¬ (a0.size : Int) < 26 := fun e => h1 (.inl e)
      obtain rfl : is = true := by cases is with | true => rfl | false => exact absurd (.inr rfl) h1
      clear h1
      unfold openF at h
      obtain ⟨⟨c1, d1, e1⟩, k1, h⟩ := Option.bind_eq_some_iff.mp h
      obtain ⟨⟨c2, d2, e2⟩, k2, h⟩ := Option.bind_eq_some_iff.mp h
      obtain ⟨⟨c3, d3, e3⟩, k3, h⟩ := Option.bind_eq_some_iff.mp h
      obtain ⟨⟨c4, d4, e4⟩, k4, h⟩ := Option.bind_eq_some_iff.mp h
      obtain ⟨⟨tx, tr, te⟩, kt, h⟩ := Option.bind_eq_some_iff.mp h
      dsimp only at k2 k3 k4 kt h
      unfold openT at h
      dsimp only at h
      obtain ⟨rs, hrs⟩ : ∃ rs : Nat → ByteArray, rs = fun i => match i with | 0 => p | 1 => d1 | 2 => d2 | 3 => d3 | _ => d4 := ⟨_, rfl⟩
      obtain ⟨v, hv⟩ : ∃ v : Nat → Int, v = fun i => match i with | 0 => c1 | 1 => c2 | 2 => c3 | _ => c4 := ⟨_, rfl⟩
      obtain ⟨er, her⟩ : ∃ er : Nat → Int, er = fun i => match i with | 0 => e1 | 1 => e2 | 2 => e3 | _ => e4 := ⟨_, rfl⟩
      have hc : ∀ i, i < 4 → wire_Cut.f (rs i) (szO i) = some (v i, rs (i + 1), er i) := by
        subst hrs hv her
        intro i hi
        match i, hi with
        | 0, _ => exact k1
        | 1, _ => exact k2
        | 2, _ => exact k3
        | 3, _ => exact k4
      have w0 : v 0 = c1 := by subst hv; rfl
      have w1 : v 1 = c2 := by subst hv; rfl
      have w2 : v 2 = c3 := by subst hv; rfl
      have w3 : v 3 = c4 := by subst hv; rfl
      have q0 : rs 0 = p := by subst hrs; rfl
      have q4 : rs 4 = d4 := by subst hrs; rfl
      rw [← q0] at hp
      rw [← q4] at kt
      by_cases t0 : te = 0 ∧ 4 ≤ tr.size
      · rw [if_pos t0] at h
        by_cases t4 : tr.size ≤ 4
        · rw [if_pos t4] at h
          obtain ⟨⟨sm, r2', r3'⟩, ks, h⟩ := Option.bind_eq_some_iff.mp h
          obtain ⟨s, kc, h⟩ := Option.bind_eq_some_iff.mp h
          dsimp only at h
          refine (open_walk a0 rs v er tx tr te sm s w hp h26 h2 hc kt (fun _ _ => ⟨⟨_, _, ks⟩, kc⟩)).mono ?_
          rintro e w' ⟨rfl, hb⟩
          refine ⟨?_, hb⟩
          rw [if_pos t0, if_pos t4]
          by_cases hq : sm = wrap64 s
          · rw [if_pos hq] at h ⊢
            simp only [Option.some.injEq, Prod.mk.injEq] at h
            obtain ⟨rfl, rfl, rfl, rfl, rfl, rfl⟩ := h
            rw [w0, w1, w2, w3]
          · rw [if_neg hq] at h ⊢
            simp only [zeroO, Option.some.injEq, Prod.mk.injEq] at h
            obtain ⟨rfl, rfl, rfl, rfl, rfl, rfl⟩ := h
            rfl
        · rw [if_neg t4] at h
          refine (open_walk a0 rs v er tx tr te 0 0 w hp h26 h2 hc kt (fun _ e => absurd (Nat.le_of_eq e) t4)).mono ?_
          rintro e w' ⟨rfl, hb⟩
          refine ⟨?_, hb⟩
          rw [if_pos t0, if_neg t4]
          simp only [zeroO, Option.some.injEq, Prod.mk.injEq] at h
          obtain ⟨rfl, rfl, rfl, rfl, rfl, rfl⟩ := h
          rfl
      · rw [if_neg t0] at h
        refine (open_walk a0 rs v er tx tr te 0 0 w hp h26 h2 hc kt (fun a b => absurd ⟨a, by omega⟩ t0)).mono ?_
        rintro e w' ⟨rfl, hb⟩
        refine ⟨?_, hb⟩
        rw [if_neg t0]
        simp only [zeroO, Option.some.injEq, Prod.mk.injEq] at h
        obtain ⟨rfl, rfl, rfl, rfl, rfl, rfl⟩ := h
        rfl
    · rw [if_neg h2] at h; cases h
end Go.Proofs.Ytmnpejoolbipeaa.Given
