/- Writing into a strings.Builder beside rows of bytes of the call's own: WriteByte and Write keep every block below a bound but the builder's own; at most 2^47 bytes. -/
import Derived.Shelf.Strings.BuilderK
import Derived.WalkKit
import Derived.Test.YtdkaokjnfkfngaaShelfB
set_option linter.unusedVariables false
namespace Go.Proofs
open Go.Shelf Go.RowKit
/-- A builder at block b whose buffer lies from block B on, b before B. -/
def BAt (B b : Nat) (bs : List Value) (w : World) : Prop := b < B ∧ B ≤ w.heap.size ∧ ∃ p v, (p = .pointer none ∨ p = .pointer (some ⟨b, 0, none⟩)) ∧ w.heap[b]? = some (.cells #[p, v] 65 (0, 0)) ∧ w.ownsRowF B 5 1 v bs.length bs
/-- Below B all but block b is as it was. -/
structure KeptX (B b : Nat) (w w' : World) : Prop where
  os : w'.os = w.os
  tape : w'.tape = w.tape
  output : w'.output = w.output
  size : w.heap.size ≤ w'.heap.size
  block : ∀ k, k < B → k ≠ b → w'.heap[k]? = w.heap[k]?
theorem KeptX.refl (B b : Nat) (w : World) : KeptX B b w w := ⟨rfl, rfl, rfl, Nat.le_refl _, fun _ _ _ => rfl⟩
theorem KeptX.trans {B b : Nat} {w w1 w2 : World} (h : KeptX B b w w1) (k : KeptX B b w1 w2) : KeptX B b w w2 :=
  ⟨k.os.trans h.os, k.tape.trans h.tape, k.output.trans h.output, Nat.le_trans h.size k.size, fun j h1 h2 => (k.block j h1 h2).trans (h.block j h1 h2)⟩
theorem KeptX.alloc {B b : Nat} {w w1 : World} (h : KeptX B b w w1) (hB : B ≤ w1.heap.size) (o : Obj) : KeptX B b w (w1.alloc o) :=
  ⟨h.os, h.tape, h.output, by have := h.size; simp; omega, fun j h1 h2 => (Lib.alloc_old w1 o j (by omega)).trans (h.block j h1 h2)⟩
theorem KeptX.drew {B b : Nat} {w w1 : World} (h : KeptX B b w w1) : KeptX B b w w1.drew := ⟨h.os, h.tape, h.output, h.size, h.block⟩
theorem KeptX.set {B b : Nat} {w w1 : World} (h : KeptX B b w w1) (i : Nat) (u : Value) : KeptX B b w (w1.setCell ⟨b, i, none⟩ u) :=
  ⟨h.os, h.tape, h.output, by have := h.size; simp; omega, fun j h1 h2 => (Below.heap_setCell w1 ⟨b, i, none⟩ u j h2).trans (h.block j h1 h2)⟩
theorem KeptX.grown {B b : Nat} {w w1 w2 : World} (h : KeptX B b w w1) {row : Option Nat} (hg : w1.grownBy w2 row) (hB : B ≤ w1.heap.size) (hr : ∀ k, row = some k → B ≤ k) : KeptX B b w w2 :=
  ⟨hg.os.trans h.os, hg.tape.trans h.tape, hg.output.trans h.output, Nat.le_trans h.size hg.size, fun j h1 h2 => (hg.block j (by omega) (fun e => by have := hr j e.symm; omega)).trans (h.block j h1 h2)⟩
theorem KeptX.below {B b : Nat} {w w1 : World} (h : KeptX B b w w1) (hb : b ≤ B) : Below b w w1 := ⟨h.os, h.tape, h.output, h.size, fun k hk => h.block k (by omega) (by omega)⟩
theorem Try.Builder_copyCheck_x (B b : Nat) (bs : List Value) (w : World) (h : BAt B b bs w) :
    Calls Try.prog 57 #[.pointer (some ⟨b, 0, none⟩)] w fun e w' => e = .returned (.tuple #[]) ∧ (∃ v, w'.heap[b]? = some (.cells #[.pointer (some ⟨b, 0, none⟩), v] 65 (0, 0)) ∧ w'.ownsRowF B 5 1 v bs.length bs) ∧ KeptX B b w w' ∧ ∀ k, k ≠ b → w'.heap[k]? = w.heap[k]? := by
  obtain ⟨hbB, hBw, p, v, hp, hb, ho⟩ := h
  have hcell : w.cell? ⟨b, 0, none⟩ = some p := by rw [Lib.cell_of_heap hb]; rfl
  rcases hp with rfl | rfl
  · refine (Any.Builder_copyCheck_fresh Try.lays240 Try.Builder_X72_240 b w hcell (by simp [World.shape?, hb]; rfl) (Lib.frozen_of_heap hb 0)).mono ?_
    rintro e w' ⟨rfl, rfl⟩
    refine ⟨rfl, ⟨v, ?_, ?_⟩, (KeptX.refl B b w).set 0 _, fun k hk => Below.heap_setCell w ⟨b, 0, none⟩ _ k hk⟩
    · rw [heap_setCell_same _ _ _ _ _ _ hb]; rfl
    · obtain ⟨h1, h2⟩ := ho
      refine ⟨h1, ?_⟩
      rcases h2 with h2 | ⟨g, cap, cur, fz, rfl, hg, hh, r⟩
      · exact .inl h2
      · exact .inr ⟨g, cap, cur, fz, rfl, hg, (Below.heap_setCell w ⟨b, 0, none⟩ _ g (by show g ≠ b; omega)).trans hh, r⟩
  · refine (Any.Builder_copyCheck_used Try.lays240 Try.Builder_X72_240 b w hcell).mono ?_
    rintro e w' ⟨rfl, rfl⟩
    exact ⟨rfl, ⟨v, hb, ho⟩, KeptX.refl B b _, fun k _ => rfl⟩
theorem BAt.fin {B b n : Nat} {bs : List Value} {v : Value} {w1 w2 : World} {p : Value} (hbB : b < B) (hB2 : B ≤ w2.heap.size) (hb2 : w2.heap[b]? = some (.cells #[.pointer (some ⟨b, 0, none⟩), p] 65 (0, 0))) (ho : w2.ownsRowF B 5 1 v n bs) (hn : n = bs.length) : BAt B b bs (w2.setCell ⟨b, 1, none⟩ v) := by
  subst hn
  refine ⟨hbB, by simpa using hB2, _, v, .inr rfl, by rw [heap_setCell_same _ _ _ _ _ _ hb2]; rfl, ?_⟩
  obtain ⟨h1, h2⟩ := ho
  refine ⟨h1, ?_⟩
  rcases h2 with h2 | ⟨g, cap, cur, fz, rfl, hg, hh, r⟩
  · exact .inl h2
  · exact .inr ⟨g, cap, cur, fz, rfl, hg, (Below.heap_setCell w2 ⟨b, 1, none⟩ _ g (by show g ≠ b; omega)).trans hh, r⟩
set_option maxHeartbeats 2000000 in
set_option maxRecDepth 100000 in
theorem Try.Builder_Write_x (B b : Nat) (bs : List Value) (g : Nat) (m c : Nat) (news : List Value) (w : World) (h : BAt B b bs w)
    (hl : news.length = m) (hnews : ∀ j u, news[j]? = some u → w.cell? ⟨g, j, none⟩ = some u) (hg : g ≠ b) (h1 : ∀ u ∈ news, u.oneCell' = true)
    (hlen : bs.length + m ≤ 140737488355328) :
    Calls Try.prog 42 #[.pointer (some ⟨b, 0, none⟩), .slice (some ⟨g, 0, none⟩) m c] w fun e w' => e = .returned (.tuple #[.int .i64 m, .nilIface]) ∧ BAt B b (bs ++ news) w' ∧ KeptX B b w w' := by
  obtain ⟨i0, hi, hz0, hz1, hz2⟩ := info_parts Try.Builder_Extra_167.infoByte
  have hi' : Try.prog.info? 5 = some i0 := hi
  go_enter Try.func42, Try.ntmps42
  go_wp2_with (go_at_call 57; refine (Try.Builder_copyCheck_x B b bs _ h).mono ?_)
  rintro e w1 ⟨rfl, ⟨v, hbk, hown⟩, hk1, hs1⟩
  have hbB := h.1
  have hB1 : B ≤ w1.heap.size := Nat.le_trans h.2.1 hk1.size
  have c0 : w1.cell? ⟨b, 0, none⟩ = some (.pointer (some ⟨b, 0, none⟩)) := by rw [Lib.cell_of_heap hbk]; rfl
  have c1 : w1.cell? ⟨b, 1, none⟩ = some v := by rw [Lib.cell_of_heap hbk]; rfl
  have hnews1 : ∀ j u, news[j]? = some u → w1.cell? ((⟨g, 0, none⟩ : Addr).add j) = some u := fun j u hj => by
    have e : (⟨g, 0, none⟩ : Addr).add j = ⟨g, j, none⟩ := by unfold Addr.add; split <;> simp_all
    rw [e, ← hnews j u hj]; simp [World.cell?, hs1 g hg]
  go_wp2_with (at_builtin; refine wpList_append_ownF _ rfl _ _ 63 rfl B 5 i0 (.int .u8 0) 1 1 Try.underlying63 hi' hz0 hz1 hz2 rfl (by decide) _ _ _ rfl hown ⟨g, 0, none⟩ m c news rfl (by omega) hnews1 h1 ?c3 ?c4 ?c5 ?_)
  case c3 => unfold maxLen; omega
  case c4 => omega
  case c5 => exact hB1
  intro v' w2 hown' hgrow _
  have hlt : b < w1.heap.size := by omega
  have hrow : ∀ k, v.ownBlock = some k → B ≤ k := fun k hk => (hown.lt k hk).1
  have hb2 : w2.heap[b]? = some (.cells #[.pointer (some ⟨b, 0, none⟩), v] 65 (0, 0)) := by
    rw [hgrow.block b hlt (fun e => by have := hrow b e.symm; omega)]
    exact hbk
  have d0 : w2.cell? ⟨b, 0, none⟩ = some (.pointer (some ⟨b, 0, none⟩)) := by rw [Lib.cell_of_heap hb2]; rfl
  have d1 : w2.cell? ⟨b, 1, none⟩ = some v := by rw [Lib.cell_of_heap hb2]; rfl
  have f1 : w2.frozen? ⟨b, 1, none⟩ = false := Lib.frozen_of_heap hb2 1
  obtain ⟨ao, n', cap, rfl⟩ : ∃ ao n' cap, v' = .slice ao n' cap := by
    rcases hown'.2 with ⟨hv, _⟩ | ⟨g, cap, cur, fz, hv, _⟩
    · exact ⟨_, _, _, hv⟩
    · exact ⟨_, _, _, hv⟩
  go_wp2
  go_ret2
  exact ⟨rfl, BAt.fin (w1 := w1) hbB (Nat.le_trans hB1 hgrow.size) hb2 hown' (by simp [hl]), (hk1.grown hgrow hB1 hrow).set 1 _⟩
set_option maxHeartbeats 2000000 in
set_option maxRecDepth 100000 in
theorem Try.Builder_WriteByte_x (B b : Nat) (bs : List Value) (c : Int) (w : World) (h : BAt B b bs w) (hlen : bs.length + 1 ≤ 140737488355328) :
    Calls Try.prog 38 #[.pointer (some ⟨b, 0, none⟩), .int .u8 c] w fun e w' => e = .returned .nilIface ∧ BAt B b (bs ++ [.int .u8 c]) w' ∧ KeptX B b w w' := by
  obtain ⟨i0, hi, hz0, hz1, hz2⟩ := info_parts Try.Builder_Extra_167.infoByte
  have hi' : Try.prog.info? 5 = some i0 := hi
  go_enter Try.func38, Try.ntmps38
  go_wp2_with (go_at_call 57; refine (Try.Builder_copyCheck_x B b bs _ h).mono ?_)
  rintro e w1 ⟨rfl, ⟨v, hbk, hown⟩, hk1, hs1⟩
  have hbB := h.1
  have hB1 : B ≤ w1.heap.size := Nat.le_trans h.2.1 hk1.size
  have c0 : w1.cell? ⟨b, 0, none⟩ = some (.pointer (some ⟨b, 0, none⟩)) := by rw [Lib.cell_of_heap hbk]; rfl
  have c1 : w1.cell? ⟨b, 1, none⟩ = some v := by rw [Lib.cell_of_heap hbk]; rfl
  go_wp2_with (at_builtin; refine wpList_append_ownF _ rfl _ _ 63 rfl B 5 i0 (.int .u8 0) 1 1 Try.underlying63 hi' hz0 hz1 hz2 rfl (by decide) _ _ _ rfl (hown.alloc _) ⟨w1.heap.size, 0, none⟩ 1 1 [.int .u8 c] rfl rfl ?c1 ?c2 ?c3 ?c4 ?c5 ?_)
  case c1 =>
    intro j u hj
    match j, hj with
    | 0, hj => simp at hj; subst hj; simp [Addr.add]
  case c2 => intro u hu; simp at hu; subst hu; rfl
  case c3 => unfold maxLen; omega
  case c4 => omega
  case c5 => simp; omega
  intro v' w2 hown' hgrow _
  have hlt : b < w1.heap.size := by omega
  have hrow : ∀ k, v.ownBlock = some k → B ≤ k := fun k hk => (hown.lt k hk).1
  have hb2 : w2.heap[b]? = some (.cells #[.pointer (some ⟨b, 0, none⟩), v] 65 (0, 0)) := by
    rw [hgrow.block b (by simp; omega) (fun e => by have := hrow b e.symm; omega), Lib.alloc_old w1 _ b hlt]
    exact hbk
  have d0 : w2.cell? ⟨b, 0, none⟩ = some (.pointer (some ⟨b, 0, none⟩)) := by rw [Lib.cell_of_heap hb2]; rfl
  have d1 : w2.cell? ⟨b, 1, none⟩ = some v := by rw [Lib.cell_of_heap hb2]; rfl
  have f1 : w2.frozen? ⟨b, 1, none⟩ = false := Lib.frozen_of_heap hb2 1
  obtain ⟨g, cap, rfl⟩ : ∃ g cap, v' = .slice (some ⟨g, 0, none⟩) (bs.length + 1) cap := by
    rcases hown'.2 with ⟨_, h0⟩ | ⟨g, cap, cur, fz, hv, _⟩
    · omega
    · exact ⟨g, cap, hv⟩
  go_wp2
  go_ret
  exact ⟨rfl, BAt.fin (w1 := w1) hbB (by have := hgrow.size; simp at this; omega) hb2 hown' (by simp), ((hk1.alloc hB1 _).grown hgrow (by simp; omega) hrow).set 1 _⟩
/-- What is made of a builder is read by the shelf's own contract. -/
theorem BAt.isF {B b : Nat} {bs : List Value} {w : World} (h : BAt B b bs w) : Lib.IsBuilderF 65 5 b b bs w := by
  obtain ⟨hbB, _, p, v, hp, hb, ho⟩ := h
  have hne : v.ownBlock ≠ some b := fun e => by have := (ho.lt b e).1; omega
  have ho' : w.ownsRowF b 5 1 v bs.length bs := by
    obtain ⟨h1, h2⟩ := ho
    refine ⟨h1, ?_⟩
    rcases h2 with h2 | ⟨g, cap, cur, fz, rfl, hg, hh, r⟩
    · exact .inl h2
    · exact .inr ⟨g, cap, cur, fz, rfl, by omega, hh, r⟩
  rcases hp with rfl | rfl
  · exact .inl ⟨Nat.le_refl _, v, hb, ho', hne⟩
  · exact .inr ⟨Nat.le_refl _, v, hb, ho', hne⟩
end Go.Proofs
