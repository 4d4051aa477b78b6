/- intent.Write walked: the closure by a contract of its own; the record is the join of its parts, or the first fault. -/
import Derived.Test.YtdkaokjnfkfngaaProg
import Derived.Below
import Derived.Deep.Draws
import Derived.Deep.AppendLies
import Derived.Maps.AppendAt
import Derived.OwnWalk
import Derived.Laws.BytesArg
import Derived.Laws.MakeOwn
import Derived.Laws.OwnMore
import Derived.Deep.OwnRows
import Derived.Tactics
import Derived.Lib.ConvBytes
import Derived.Laws.Slices
import Derived.WalkKit
import Derived.KernelRfl
import Derived.RowKit3
import Derived.Deep.LoopGhost
import Derived.Deep.QuietTactic
import Derived.BigQuiet
import Derived.WideLaws
import Derived.Deep.DeepCutAuto
import Derived.Deep.CutBlock
import Derived.Deep.RegionHeld3
import Derived.Laws.Rows
import Derived.Lib.AppendStr
import Derived.ArgAppend
import Derived.Laws.IdiomCopy
import Derived.OrdersHeld
import Derived.Laws.BitsLemmas
import Derived.RowKit
import Derived.Test.YtdkaokjnfkfngaaWWords
import Derived.Test.YtdkaokjnfkfngaaWLast
import Derived.Test.YtdkaokjnfkfngaaWTab
import Derived.Test.YtdkaokjnfkfngaaWFour
import Derived.Test.YtdkaokjnfkfngaaWQPut
import Derived.Test.YtdkaokjnfkfngaaWApart
import Derived.Test.YtdkaokjnfkfngaaWArr
import Derived.Test.YtdkaokjnfkfngaaWZeros
import Derived.Test.YtdkaokjnfkfngaaWFoot
import Derived.Test.YtdkaokjnfkfngaaWKept
import Derived.Test.YtdkaokjnfkfngaaWShare
import Derived.Test.YtdkaokjnfkfngaaWN
import Derived.Test.YtdkaokjnfkfngaaWFootNe
import Derived.Test.YtdkaokjnfkfngaaWAt
import Derived.Test.YtdkaokjnfkfngaaWEqStruct
import Derived.Test.YtdkaokjnfkfngaaWRepsOne
import Derived.Test.YtdkaokjnfkfngaaWInv
import Derived.Test.YtdkaokjnfkfngaaWInvWords
import Derived.Test.YtdkaokjnfkfngaaWGuard
import Derived.Test.YtdkaokjnfkfngaaWNEv
import Derived.Test.YtdkaokjnfkfngaaWMore
import Derived.Test.YtdkaokjnfkfngaaShelfW
import Derived.StillTailTactics
import Derived.Laws.BitsAllLaws
import Derived.Outline
import Derived.Test.YtdkaokjnfkfngaaRunesPlain
import Derived.Lib.OthersKept
import Derived.Shelf.Strings.Prefix
import Derived.Test.YtdkaokjnfkfngaaPWirx
namespace Go.Proofs.Ytdkaokjnfkfngaa.Given
open Go.RowKit Go.Proofs Go.Proofs.Ytdkaokjnfkfngaa.Bs Go.Proofs.Ytdkaokjnfkfngaa.PWir Go.Proofs.YtdkaokjnfkfngaaW.PrintWords Go.Proofs.YtdkaokjnfkfngaaW.PrintLast Go.Proofs.YtdkaokjnfkfngaaW.PrintMore
set_option linter.unusedVariables false
set_option linter.unusedSimpArgs false
theorem info9 : (Try.prog.info? 9).map (fun i => (i.zero, i.size, i.bytes)) = some (some (.string ⟨#[]⟩), 1, 16) := by kernel_rfl
structure AddSt (B p q : Nat) (w0 : World) (xs : List ByteArray) (e : Int) (W : World) : Prop where
  pq : p < q
  qB : q < B
  sz : B ≤ W.heap.size
  hq : W.heap[q]? = some (.cells #[.int .i64 e] 28 (0, 0))
  below : Below p w0 W
  row : ∃ v, W.heap[p]? = some (.cells #[v] 74 (0, 0)) ∧ Kd.R Kd.string 9 W B (fun k => B ≤ k) v xs
theorem AddSt.stored {B p q : Nat} {w0 W w3 : World} {ys : List ByteArray} {e : Int} {v v1 : Value} (hpq : p < q) (hqB : q < B) (hsz : B ≤ W.heap.size) (hb : Below p w0 W) (hb3 : Below B W w3)
    (hp3 : w3.heap[p]? = some (.cells #[v] 74 (0, 0))) (hq3 : w3.heap[q]? = some (.cells #[.int .i64 e] 28 (0, 0))) (ho : Kd.R Kd.string 9 w3 B (fun k => B ≤ k) v1 ys) :
    AddSt B p q w0 ys e (w3.setCell ⟨p, 0, none⟩ v1) := by
  refine ⟨hpq, hqB, by have := hb3.size; simp; omega, ?_, (hb.trans (hb3.mono (by omega))).setCell (Nat.le_refl _) _, v1, ?_, ?_⟩
  · rw [Below.heap_setCell w3 ⟨p, 0, none⟩ v1 q (by show q ≠ p; omega)]; exact hq3
  · rw [heap_setCell_same _ _ _ _ _ _ hp3]; rfl
  · exact Kd.R_far ho (fun k hk => by show k ≠ p; omega) _
theorem AddSt.seterr {B p q : Nat} {w0 W : World} {ys : List ByteArray} {e : Int} (h : AddSt B p q w0 ys e W) (f : Int) : AddSt B p q w0 ys f (W.setCell ⟨q, 0, none⟩ (.int .i64 f)) := by
  obtain ⟨hpq, hqB, hsz, hq, hb, v, hp, hR⟩ := h
  refine ⟨hpq, hqB, by simp; omega, ?_, hb.setCell (by show p ≤ q; omega) _, v, ?_, ?_⟩
  · rw [heap_setCell_same _ _ _ _ _ _ hq]; rfl
  · rw [Below.heap_setCell W ⟨q, 0, none⟩ _ p (by show p ≠ q; omega)]; exact hp
  · exact Kd.R_far hR (fun k hk => by show k ≠ q; omega) _
theorem add_any (B p q : Nat) (w0 : World) (xs : List ByteArray) (hx : xs.length ≤ 100) (e f : Int) (s : ByteArray) (W : World) (h : AddSt B p q w0 xs e W) :
    Calls Try.prog 43 #[.string s, .int .i64 f, .pointer (some ⟨p, 0, none⟩), .pointer (some ⟨q, 0, none⟩)] W fun en w' => en = .returned (.tuple #[]) ∧ AddSt B p q w0 (xs ++ [s]) (if e = 0 then f else e) w' := by
  obtain ⟨hpq, hqB, hsz, hq, hb, v, hp, hR⟩ := h
  have cp : W.cell? ⟨p, 0, none⟩ = some v := by rw [Lib.cell_of_heap hp]; rfl
  have cq : W.cell? ⟨q, 0, none⟩ = some (.int .i64 e) := by rw [Lib.cell_of_heap hq]; rfl
  have fp := Lib.frozen_of_heap hp 0
  have fq := Lib.frozen_of_heap hq 0
  go_enter Try.func43, Try.ntmps43
  have HBe := Aside0.mk hb
  have HPq := Aside0.mk hp
  have HQq := Aside0.mk hq
  by_cases he : e = 0
  · have he2 : (e == 0) = true := by simpa using he
    go_wp2_with (at_builtin; refine Kd.R_append Kd.string (w0 := W) B rfl (.tmp 6) (.tmp 8) 74 9 (.string ⟨#[]⟩) 16 rfl Try.underlying74 info9 rfl (by decide) (by omega) _ xs s [.string s] (fun k => B ≤ k) (fun _ => False) rfl rfl rfl (fun _ hk => hk.elim) (fun _ hk => by omega) hR (Below.refl _ _) hsz (by omega) ?_; intro v1 w3 ho hb3 hg hat; have hp3 := (hb3.block p (by omega)).trans hp; have hq3 := (hb3.block q (by omega)).trans hq; have fp3 := Lib.frozen_of_heap hp3 0; have fq3 := Lib.frozen_of_heap hq3 0; have cp3 : w3.cell? ⟨p, 0, none⟩ = some v := (by rw [Lib.cell_of_heap hp3]; rfl); have cq3 : w3.cell? ⟨q, 0, none⟩ = some (.int .i64 e) := (by rw [Lib.cell_of_heap hq3]; rfl); have hsl := Kd.R_slice1 ho (by simp); obtain ⟨ad, cap, rfl⟩ := hsl; have HO := Aside0.mk ho; have HB3 := Aside0.mk hb3; have HP3 := Aside0.mk hp3; have HQ3 := Aside0.mk hq3; clear ho hb3 hg hat hp3 hq3)
    have hlen : (xs ++ [s]).length = xs.length + 1 := by simp
    have ho := HO.out
    rw [hlen] at ho
    go_end0
    exact ⟨rfl, by exact (AddSt.stored hpq hqB hsz HBe.out HB3.out HP3.out HQ3.out ho).seterr f⟩
  · have he2 : (e == 0) = false := by simpa using he
    go_wp2_with (at_builtin; refine Kd.R_append Kd.string (w0 := W) B rfl (.tmp 6) (.tmp 8) 74 9 (.string ⟨#[]⟩) 16 rfl Try.underlying74 info9 rfl (by decide) (by omega) _ xs s [.string s] (fun k => B ≤ k) (fun _ => False) rfl rfl rfl (fun _ hk => hk.elim) (fun _ hk => by omega) hR (Below.refl _ _) hsz (by omega) ?_; intro v1 w3 ho hb3 hg hat; have hp3 := (hb3.block p (by omega)).trans hp; have hq3 := (hb3.block q (by omega)).trans hq; have fp3 := Lib.frozen_of_heap hp3 0; have fq3 := Lib.frozen_of_heap hq3 0; have cp3 : w3.cell? ⟨p, 0, none⟩ = some v := (by rw [Lib.cell_of_heap hp3]; rfl); have cq3 : w3.cell? ⟨q, 0, none⟩ = some (.int .i64 e) := (by rw [Lib.cell_of_heap hq3]; rfl); have hsl := Kd.R_slice1 ho (by simp); obtain ⟨ad, cap, rfl⟩ := hsl; have HO := Aside0.mk ho; have HB3 := Aside0.mk hb3; have HP3 := Aside0.mk hp3; have HQ3 := Aside0.mk hq3; clear ho hb3 hg hat hp3 hq3)
    have hlen : (xs ++ [s]).length = xs.length + 1 := by simp
    have ho := HO.out
    rw [hlen] at ho
    go_end0
    exact ⟨rfl, by exact AddSt.stored hpq hqB hsz HBe.out HB3.out HP3.out HQ3.out ho⟩
theorem AddSt.later {B p q : Nat} {w0 W W' : World} {ys : List ByteArray} {e : Int} (h : AddSt B p q w0 ys e W) (hb' : Below W.heap.size W W') : AddSt B p q w0 ys e W' := by
  obtain ⟨hpq, hqB, hsz, hq, hb, v, hp, hR⟩ := h
  exact ⟨hpq, hqB, by have := hb'.size; omega, (hb'.block q (by omega)).trans hq, hb.trans (hb'.mono (by omega)), v, (hb'.block p (by omega)).trans hp, Kd.R_below hR hb'⟩
theorem AddSt.ready {B p q : Nat} {w0 W : World} {xs : List ByteArray} {e : Int} (h : AddSt B p q w0 xs e W) (hx : xs ≠ []) :
    ∃ g cap, W.heap[p]? = some (.cells #[.slice (some ⟨g, 0, none⟩) xs.length cap] 74 (0, 0)) ∧ g < W.heap.size ∧ xs.length ≤ cap ∧ ∀ (j : Nat) x, xs[j]? = some x → W.cell? ⟨g, 0 + j, none⟩ = some (.string x) := by
  obtain ⟨hpq, hqB, hsz, hq, hb, v, hp, hR⟩ := h
  have ho := Kd.own_of_R hR
  rcases ho.2 with ⟨rfl, h0⟩ | ⟨g, cap, cur, rfl, hg, hh, hc1, hc2, hc3⟩
  · exact absurd (List.eq_nil_of_length_eq_zero h0) hx
  · refine ⟨g, cap, hp, (Array.getElem?_eq_some_iff.1 hh).1, ?_, ?_⟩
    · exact hc1
    · intro j x hj
      have hjl : j < xs.length := by
        rcases Nat.lt_or_ge j xs.length with h2 | h2
        · exact h2
        · rw [List.getElem?_eq_none h2] at hj; cases hj
      have := (Kd.R_cell ByteArray.empty hR (j : Int) (by omega) (by omega)).1
      rw [Int.toNat_natCast] at this
      rw [Nat.zero_add, this]
      unfold rdOf
      rw [Int.toNat_natCast, List.getD_eq_getElem?_getD, hj]; rfl
theorem box_at {B p q : Nat} {w W : World} {o : Obj} {xs : List ByteArray} {e : Int} (h : AddSt B p q (w.alloc o) xs e W) (hp : w.heap.size < p) : W.heap[w.heap.size]? = some o := by
  rw [h.below.block _ hp]
  show (w.heap.push o)[w.heap.size]? = _
  simp
theorem AddSt.err {B p q : Nat} {w0 W : World} {xs : List ByteArray} {e : Int} (h : AddSt B p q w0 xs e W) : W.cell? ⟨q, 0, none⟩ = some (.int .i64 e) := by
  rw [Lib.cell_of_heap h.hq]; rfl
theorem below_box {B p q : Nat} {w W : World} {o : Obj} {xs : List ByteArray} {e : Int} (h : AddSt B p q (w.alloc o) xs e W) (hp : w.heap.size ≤ p) : Below w.heap.size w W :=
  ((Below.refl w.heap.size w).alloc (Nat.le_refl _) o).trans (h.below.mono hp)
theorem join4 (a b c d : List UInt8) : (⟨(Lib.join ([bs a, bs b, bs c, bs d].map (·.data.toList)) []).toArray⟩ : ByteArray) = bs a ++ bs b ++ bs c ++ bs d := by
  rw [bs_append, bs_append, bs_append]
  simp [Lib.join, bs_data]
  rfl
def intW (p1 p2 p3 : ByteArray × Int) : ByteArray × Int :=
  if p1.2 = 0 then (if p2.2 = 0 then (if p3.2 = 0 then (bs [73, 78, 84] ++ p1.1 ++ p2.1 ++ p3.1, 0) else (⟨#[]⟩, p3.2)) else (⟨#[]⟩, p2.2)) else (⟨#[]⟩, p1.2)
set_option maxHeartbeats 1000000 in
theorem write_walk (a0 a1 : Int) (a2 : ByteArray) (p1 p2 p3 : ByteArray × Int) (K : Nat) (h1 : wire_Put.f K a0 7 = some p1) (h2 : wire_Put.f K a1 2 = some p2) (h3 : wire_Text.f K a2 = some p3)
    (hs : p1.1.size + p2.1.size + p3.1.size ≤ 1000000) (w : World) :
    Calls Try.prog 25 #[.agg #[.int .i64 a0, .int .i64 a1, .string a2]] w fun e w' => e = .returned (.tuple #[.string (intW p1 p2 p3).1, .int .i64 (intW p1 p2 p3).2]) ∧ Below w.heap.size w w' := by
  obtain ⟨R, hR⟩ : ∃ R, R = intW p1 p2 p3 := ⟨_, rfl⟩
  rw [← hR]
  have HR := Aside0.mk hR
  clear hR
  obtain ⟨s1, e1⟩ := p1
  obtain ⟨s2, e2⟩ := p2
  obtain ⟨s3, e3⟩ := p3
  have H1 := Aside0.mk h1
  have H2 := Aside0.mk h2
  have H3 := Aside0.mk h3
  have HS := Aside0.mk hs
  clear h1 h2 h3 hs
  have hmf : ∀ (fn : Fn) (first cap : Array Value) (w : World), (Instr.makeFunc fn first cap).run Try.prog w = .ok (.func fn first cap) w := fun _ _ _ _ => rfl
  have hA : AddSt (w.heap.size + 3) (w.heap.size + 1) (w.heap.size + 1 + 1) (w.alloc (.cells #[.int .i64 a0, .int .i64 a1, .string a2] 38)) [] 0 (((w.alloc (.cells #[.int .i64 a0, .int .i64 a1, .string a2] 38)).alloc (.cells #[.slice none 0 0] 74)).alloc (.cells #[.int .i64 0] 28)) :=
    ⟨by omega, by omega, by simp, by simpa using blk_new ((w.alloc (.cells #[.int .i64 a0, .int .i64 a1, .string a2] 38)).alloc (.cells #[.slice none 0 0] 74)) (.cells #[.int .i64 0] 28),
      ((Below.refl _ _).alloc (by simp) _).alloc (by simp) _, _, blk_alloc (by simpa using blk_new (w.alloc (.cells #[.int .i64 a0, .int .i64 a1, .string a2] 38)) (.cells #[.slice none 0 0] 74)) _, Kd.R_nil _ _ _ _ _⟩
  have HA := Aside0.mk hA
  clear hA
  go_enter Try.func25, Try.ntmps25
  by_cases he1 : e1 = 0
  · subst he1
    by_cases he2 : e2 = 0
    · subst he2
      by_cases he3 : e3 = 0
      · subst he3
        have HF : Aside0 (R = (bs [73, 78, 84] ++ s1 ++ s2 ++ s3, 0)) := ⟨HR.out⟩
        obtain ⟨l1, rfl⟩ := ex_bs s1
        obtain ⟨l2, rfl⟩ := ex_bs s2
        obtain ⟨l3, rfl⟩ := ex_bs s3
        have HJ := Aside0.mk (join4 [73, 78, 84] l1 l2 l3)
        have HJL : Aside0 ((Lib.join ([bs [73, 78, 84], bs l1, bs l2, bs l3].map (·.data.toList)) []).length ≤ 140737488355328) := ⟨by
          have hs := HS.out
          rw [bs_size, bs_size, bs_size] at hs
          have := congrArg ByteArray.size HJ.out
          rw [bs_append, bs_append, bs_append, bs_size] at this
          have e : (⟨(Lib.join ([bs [73, 78, 84], bs l1, bs l2, bs l3].map (·.data.toList)) []).toArray⟩ : ByteArray).size = (Lib.join ([bs [73, 78, 84], bs l1, bs l2, bs l3].map (·.data.toList)) []).length := by
            show (Lib.join _ _).toArray.size = _
            simp
          rw [e] at this
          rw [this]
          simp only [List.length_append, List.length_cons, List.length_nil]
          omega⟩
        go_wp2_with (first
          | (go_at_call 43; have hadd := fun s f hx => add_any _ _ _ _ _ hx _ f s _ HA.out; refine (hadd _ _ (by simp)).mono ?_; clear hadd; rintro e w1 ⟨rfl, h1⟩; try simp only [List.length_cons, if_true, if_false] at h1; try simp only [List.nil_append, List.cons_append] at h1; have HA1 := Aside0.mk h1; clear h1; clear HA; have HA := HA1; clear HA1; have hbx := box_at HA.out (by omega); have bc0 : w1.cell? ⟨w.heap.size, 0, none⟩ = some (.int .i64 a0) := (by rw [Lib.cell_of_heap hbx]; rfl); have bc1 : w1.cell? ⟨w.heap.size, 1, none⟩ = some (.int .i64 a1) := (by rw [Lib.cell_of_heap hbx]; rfl); have bc2 : w1.cell? ⟨w.heap.size, 2, none⟩ = some (.string a2) := (by rw [Lib.cell_of_heap hbx]; rfl); clear hbx; have bcq := AddSt.err HA.out; have hrd := AddSt.ready HA.out (by simp); obtain ⟨g_, cap_, hgp, hgs, hgc, hgx⟩ := hrd; have bcp := Lib.cell_of_heap hgp 0; have HGS := Aside0.mk hgs; have HGC := Aside0.mk hgc; have HGX := Aside0.mk hgx; clear hgp hgs hgc hgx)
          | (go_at_call 44; refine (wire_Put.calls K a0 7 _ _ _ H1.out).mono ?_; rintro e w1 ⟨rfl, hb⟩; clear H1; have HA1 := Aside0.mk (HA.out.later hb); clear HA; have HA := HA1; clear HA1; clear hb)
          | (go_at_call 44; refine (wire_Put.calls K a1 2 _ _ _ H2.out).mono ?_; rintro e w1 ⟨rfl, hb⟩; have HA1 := Aside0.mk (HA.out.later hb); clear HA; have HA := HA1; clear HA1; clear hb)
          | (go_at_call 45; refine (wire_Text.calls K a2 _ _ _ H3.out).mono ?_; rintro e w1 ⟨rfl, hb⟩; have HA1 := Aside0.mk (HA.out.later hb); clear HA; have HA := HA1; clear HA1; clear hb)
          | (go_at_call 46; refine (Try.strings_Join g_ 0 cap_ [bs [73, 78, 84], bs l1, bs l2, bs l3] ⟨#[]⟩ _ HGX.out HGS.out (by simp) HGC.out HJL.out).mono ?_; rintro e w1 ⟨rfl, hb⟩; have HA1 := Aside0.mk (HA.out.later hb); clear HA; have HA := HA1; clear HA1; clear hb))
        go_ret2
        exact ⟨by rw [HF.out, ← HJ.out]; rfl, below_box HA.out (by omega)⟩
      · have f1 : (e3 = 0) = False := eq_false he3
        have f2 : (e3 != 0) = true := by simpa using he3
        have HF : Aside0 (R = (⟨#[]⟩, e3)) := ⟨HR.out.trans (if_neg he3)⟩
        go_wp2_with (first
          | (go_at_call 43; have hadd := fun s f hx => add_any _ _ _ _ _ hx _ f s _ HA.out; refine (hadd _ _ (by simp)).mono ?_; clear hadd; rintro e w1 ⟨rfl, h1⟩; try simp only [f1, if_true, if_false] at h1; try simp only [List.nil_append, List.cons_append] at h1; have HA1 := Aside0.mk h1; clear h1; clear HA; have HA := HA1; clear HA1; have hbx := box_at HA.out (by omega); have bc0 : w1.cell? ⟨w.heap.size, 0, none⟩ = some (.int .i64 a0) := (by rw [Lib.cell_of_heap hbx]; rfl); have bc1 : w1.cell? ⟨w.heap.size, 1, none⟩ = some (.int .i64 a1) := (by rw [Lib.cell_of_heap hbx]; rfl); have bc2 : w1.cell? ⟨w.heap.size, 2, none⟩ = some (.string a2) := (by rw [Lib.cell_of_heap hbx]; rfl); clear hbx; have bcq := AddSt.err HA.out)
          | (go_at_call 44; refine (wire_Put.calls K a0 7 _ _ _ H1.out).mono ?_; rintro e w1 ⟨rfl, hb⟩; clear H1; have HA1 := Aside0.mk (HA.out.later hb); clear HA; have HA := HA1; clear HA1; clear hb)
          | (go_at_call 44; refine (wire_Put.calls K a1 2 _ _ _ H2.out).mono ?_; rintro e w1 ⟨rfl, hb⟩; have HA1 := Aside0.mk (HA.out.later hb); clear HA; have HA := HA1; clear HA1; clear hb)
          | (go_at_call 45; refine (wire_Text.calls K a2 _ _ _ H3.out).mono ?_; rintro e w1 ⟨rfl, hb⟩; have HA1 := Aside0.mk (HA.out.later hb); clear HA; have HA := HA1; clear HA1; clear hb))
        go_quiet (fail)
        go_wp2
        go_ret2
        have hbb := below_box HA.out (by omega)
        exact ⟨by rw [HF.out]; rfl, hbb.trans ⟨rfl, rfl, rfl, Nat.le_refl _, fun _ _ => rfl⟩⟩
    · have f1 : (e2 = 0) = False := eq_false he2
      have f2 : (e2 != 0) = true := by simpa using he2
      have HF : Aside0 (R = (⟨#[]⟩, e2)) := ⟨HR.out.trans (if_neg he2)⟩
      go_wp2_with (first
        | (go_at_call 43; have hadd := fun s f hx => add_any _ _ _ _ _ hx _ f s _ HA.out; refine (hadd _ _ (by simp)).mono ?_; clear hadd; rintro e w1 ⟨rfl, h1⟩; try simp only [f1, if_true, if_false] at h1; try simp only [List.nil_append, List.cons_append] at h1; have HA1 := Aside0.mk h1; clear h1; clear HA; have HA := HA1; clear HA1; have hbx := box_at HA.out (by omega); have bc0 : w1.cell? ⟨w.heap.size, 0, none⟩ = some (.int .i64 a0) := (by rw [Lib.cell_of_heap hbx]; rfl); have bc1 : w1.cell? ⟨w.heap.size, 1, none⟩ = some (.int .i64 a1) := (by rw [Lib.cell_of_heap hbx]; rfl); have bc2 : w1.cell? ⟨w.heap.size, 2, none⟩ = some (.string a2) := (by rw [Lib.cell_of_heap hbx]; rfl); clear hbx; have bcq := AddSt.err HA.out)
        | (go_at_call 44; refine (wire_Put.calls K a0 7 _ _ _ H1.out).mono ?_; rintro e w1 ⟨rfl, hb⟩; clear H1; have HA1 := Aside0.mk (HA.out.later hb); clear HA; have HA := HA1; clear HA1; clear hb)
        | (go_at_call 44; refine (wire_Put.calls K a1 2 _ _ _ H2.out).mono ?_; rintro e w1 ⟨rfl, hb⟩; have HA1 := Aside0.mk (HA.out.later hb); clear HA; have HA := HA1; clear HA1; clear hb)
        | (go_at_call 45; refine (wire_Text.calls K a2 _ _ _ H3.out).mono ?_; rintro e w1 ⟨rfl, hb⟩; have HA1 := Aside0.mk (HA.out.later hb); clear HA; have HA := HA1; clear HA1; clear hb))
      go_quiet (fail)
      go_wp2
      go_ret2
      have hbb := below_box HA.out (by omega)
      exact ⟨by rw [HF.out]; rfl, hbb.trans ⟨rfl, rfl, rfl, Nat.le_refl _, fun _ _ => rfl⟩⟩
  · have f1 : (e1 = 0) = False := eq_false he1
    have f2 : (e1 != 0) = true := by simpa using he1
    have HF : Aside0 (R = (⟨#[]⟩, e1)) := ⟨HR.out.trans (if_neg he1)⟩
    go_wp2_with (first
      | (go_at_call 43; have hadd := fun s f hx => add_any _ _ _ _ _ hx _ f s _ HA.out; refine (hadd _ _ (by simp)).mono ?_; clear hadd; rintro e w1 ⟨rfl, h1⟩; try simp only [f1, if_true, if_false] at h1; try simp only [List.nil_append, List.cons_append] at h1; have HA1 := Aside0.mk h1; clear h1; clear HA; have HA := HA1; clear HA1; have hbx := box_at HA.out (by omega); have bc0 : w1.cell? ⟨w.heap.size, 0, none⟩ = some (.int .i64 a0) := (by rw [Lib.cell_of_heap hbx]; rfl); have bc1 : w1.cell? ⟨w.heap.size, 1, none⟩ = some (.int .i64 a1) := (by rw [Lib.cell_of_heap hbx]; rfl); have bc2 : w1.cell? ⟨w.heap.size, 2, none⟩ = some (.string a2) := (by rw [Lib.cell_of_heap hbx]; rfl); clear hbx; have bcq := AddSt.err HA.out)
      | (go_at_call 44; refine (wire_Put.calls K a0 7 _ _ _ H1.out).mono ?_; rintro e w1 ⟨rfl, hb⟩; clear H1; have HA1 := Aside0.mk (HA.out.later hb); clear HA; have HA := HA1; clear HA1; clear hb)
      | (go_at_call 44; refine (wire_Put.calls K a1 2 _ _ _ H2.out).mono ?_; rintro e w1 ⟨rfl, hb⟩; have HA1 := Aside0.mk (HA.out.later hb); clear HA; have HA := HA1; clear HA1; clear hb)
      | (go_at_call 45; refine (wire_Text.calls K a2 _ _ _ H3.out).mono ?_; rintro e w1 ⟨rfl, hb⟩; have HA1 := Aside0.mk (HA.out.later hb); clear HA; have HA := HA1; clear HA1; clear hb))
    go_quiet (fail)
    go_wp2
    go_ret2
    have hbb := below_box HA.out (by omega)
    exact ⟨by rw [HF.out]; rfl, hbb.trans ⟨rfl, rfl, rfl, Nat.le_refl _, fun _ _ => rfl⟩⟩
def intent_Write.f (a0 a1 : Int) (a2 : ByteArray) : Option (ByteArray × Int) :=
  (wire_Put.f 10 a0 7).bind fun p1 => (wire_Put.f 10 a1 2).bind fun p2 => (wire_Text.f 10 a2).bind fun p3 =>
    if p1.1.size + p2.1.size + p3.1.size ≤ 1000000 then some (intW p1 p2 p3) else none
theorem intent_Write.calls (a0 a1 : Int) (a2 : ByteArray) (r1 : ByteArray) (r2 : Int) (w : World) (h : intent_Write.f a0 a1 a2 = some (r1, r2)) :
    Calls Try.prog 25 #[.agg #[.int .i64 a0, .int .i64 a1, .string a2]] w fun e w' => e = .returned (.tuple #[.string r1, .int .i64 r2]) ∧ Below w.heap.size w w' := by
  unfold intent_Write.f at h
  generalize 10 = K at h
  obtain ⟨p1, h1, h⟩ := Option.bind_eq_some_iff.mp h
  obtain ⟨p2, h2, h⟩ := Option.bind_eq_some_iff.mp h
  obtain ⟨p3, h3, h⟩ := Option.bind_eq_some_iff.mp h
  split at h
  · rename_i hs
    have := write_walk a0 a1 a2 p1 p2 p3 K h1 h2 h3 hs w
    injection h with h
    rw [h] at this
    exact this
  · cases h
end Go.Proofs.Ytdkaokjnfkfngaa.Given
