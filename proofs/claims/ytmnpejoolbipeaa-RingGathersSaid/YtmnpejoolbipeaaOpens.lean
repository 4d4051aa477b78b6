/- How an argument reads: of a value that the reading of a row takes, of numbers, bools, texts, slices and structs of these, the kind that the printed contracts speak of; with the bounds that the reading brings. -/
import Derived.Test.YtmnpejoolbipeaaWWords
import Derived.ChangeArms
import Derived.SizedLaws
import Derived.WideShapes
namespace Go.Proofs.Ytmnpejoolbipeaa.Opens
set_option linter.unusedVariables false
set_option linter.unusedSimpArgs false
open Go.RowKit Go.WideShapes Go.Proofs.YtmnpejoolbipeaaW.PrintWords
variable {P : Program}
/-- Whatever reads at type t is of kind d, and Q. -/
structure Opens (P : Program) (t : TypeId) {α : Type} (d : Kd α) (Q : α → Prop) : Prop where
  out : ∀ (H : Type) (enc : TypeId × Value → H) (w : World) (fuel : Nat) (cs : List Value) (x : DataW H × List MemPlace),
    DataW.trod enc P w 0 (fun _ => true) true fuel t cs = some x → (∀ n ∈ x.1.weights P t, n ≤ reachBytes) → ∃ y, d.K w y cs ∧ Q y
theorem opens_int {t : TypeId} {k : IntKind} (ht : P.underlying t = some (.int k)) : Opens P t (Kd.int k) (fun n => (Lit.int k n).wf = true) := by
  refine ⟨fun H enc w fuel cs x => ?_⟩
  intro h _
  obtain ⟨n, rfl, _, hw⟩ := DataW.trod_int ht h
  exact ⟨n, rfl, hw⟩
theorem opens_bool {t : TypeId} (ht : P.underlying t = some .bool) : Opens P t Kd.bool (fun _ => True) := by
  refine ⟨fun H enc w fuel cs x => ?_⟩
  intro h _
  obtain ⟨b, rfl, _⟩ := DataW.trod_bool ht h
  exact ⟨b, rfl, trivial⟩
theorem opens_string {t : TypeId} (ht : P.underlying t = some .string) : Opens P t Kd.string (fun s => s.size ≤ 140737488351232) := by
  refine ⟨fun H enc w fuel cs x => ?_⟩
  intro h hw
  obtain ⟨s, rfl, rfl, _⟩ := DataW.trod_string ht h
  have hz := hw s.data.toList.length (by simp [DataW.weights])
  rw [data_length] at hz
  exact ⟨s, rfl, hz⟩
theorem add_add (a : Addr) (m n : Nat) : (a.add m).add n = a.add (m + n) := by
  unfold Addr.add
  by_cases h1 : m = 0 <;> by_cases h2 : n = 0 <;> simp [h1, h2, Nat.add_assoc]
theorem mapM_get {α β : Type} {f : α → Option β} : ∀ {l : List α} {r : List β}, l.mapM f = some r → r.length = l.length ∧ ∀ (i : Nat) (a : α), l[i]? = some a → f a = r[i]?
  | [], r, h => by simp at h; subst h; simp
  | a :: l, r, h => by
    simp only [List.mapM_cons, Option.pure_def, Option.bind_eq_bind, Option.bind_eq_some_iff] at h
    obtain ⟨b, hb, r', hr, he⟩ := h
    simp only [Option.some.injEq] at he
    subst he
    have ih := mapM_get hr
    refine ⟨by simp [ih.1], fun i x hx => ?_⟩
    cases i with
    | zero => simp at hx; subst hx; simpa using hb
    | succ i => simpa using ih.2 i x (by simpa using hx)
theorem cells_get {w : World} {a : Addr} {n : Nat} {c : List Value} (h : w.cells? 0 a n = some c) : c.length = n ∧ ∀ (i : Nat) (u : Value), c[i]? = some u → w.cell? (a.add i) = some u := by
  unfold World.cells? at h
  rw [if_pos (Nat.zero_le _)] at h
  obtain ⟨h1, h2⟩ := mapM_get h
  rw [List.length_range] at h1
  refine ⟨h1, fun i u hu => ?_⟩
  have hi : i < c.length := (List.getElem?_eq_some_iff.1 hu).1
  rw [h2 i i (by rw [List.getElem?_range]; omega), hu]
theorem weightsAll_mem {H : Type} {e : TypeId} {n : Nat} : ∀ {l : List (DataW H)} {d : DataW H}, d ∈ l → n ∈ d.weights P e → n ∈ DataW.weightsAll P e l
  | x :: l, d, hd, hn => by
    simp only [DataW.weightsAll, List.mem_append]
    rcases List.mem_cons.1 hd with rfl | hd
    · exact .inl hn
    · exact .inr (weightsAll_mem hd hn)
theorem choose_list {α : Type} (R : Nat → α → Prop) (n : Nat) (h : ∀ i, i < n → ∃ y, R i y) : ∃ l : List α, l.length = n ∧ ∀ i y, l[i]? = some y → R i y := by
  induction n with
  | zero => exact ⟨[], rfl, fun i y hy => by simp at hy⟩
  | succ n ih =>
    obtain ⟨l, hl, hR⟩ := ih (fun i hi => h i (by omega))
    obtain ⟨y, hy⟩ := h n (by omega)
    refine ⟨l ++ [y], by simp [hl], fun i z hz => ?_⟩
    by_cases hi : i < l.length
    · rw [List.getElem?_append_left hi] at hz; exact hR i z hz
    · have hlt := (List.getElem?_eq_some_iff.1 hz).1
      have : i = l.length := by simp at hlt; omega
      subst this
      simp at hz
      subst hz
      rw [hl]; exact hy
theorem opens_slice {t e : TypeId} {α : Type} {d : Kd α} {Q : α → Prop} (B : Nat) (ht : P.underlying t = some (.slice e)) (hc : P.cellsOf e = d.sz) (hB : P.bytesOf e = B) (he : Opens P e d Q) :
    Opens P t (Kd.slice e d) (fun l => l.length * B ≤ 140737488351232 ∧ ∀ y ∈ l, Q y) := by
  refine ⟨fun H enc w fuel cs x => ?_⟩
  intro h hw
  rcases DataW.trod_slice ht h with ⟨rfl, rfl⟩ | ⟨a, len, cap, elems, rest, n, rfl, rfl, rfl, _, hlc, hcm, hel, hE, _, _⟩
  · exact ⟨[], ⟨none, 0, rfl, Nat.le_refl _, rfl, by simp, fun h0 => absurd h0 (by simp)⟩, by simp, fun y hy => by simp at hy⟩
  · have key : ∀ i, i < len → ∃ y, (∃ c, c.length = d.sz ∧ d.K w y c ∧ ∀ j u, c[j]? = some u → w.cell? (a.add (i * d.sz + j)) = some u) ∧ Q y := by
      intro i hi
      have h1 := hE i hi
      obtain ⟨z, hz⟩ : ∃ z, elems[i]? = some z := ⟨_, List.getElem?_eq_getElem (by omega)⟩
      rw [hz] at h1
      obtain ⟨c, hc1, hc2⟩ := Option.bind_eq_some_iff.1 h1
      obtain ⟨hl, hcell⟩ := cells_get hc1
      have hmem : z.1 ∈ elems.map (·.1) := List.mem_map_of_mem (List.mem_of_getElem? hz)
      obtain ⟨y, hK, hQ⟩ := he.out H enc w n c z hc2 (fun m hm => hw m (by
        simp only [DataW.weights, ht, List.mem_cons, List.mem_append]
        exact .inr (.inl (weightsAll_mem hmem hm))))
      refine ⟨y, ⟨c, by rw [hl, hc], hK, fun j u hu => ?_⟩, hQ⟩
      have := hcell j u hu
      rw [add_add, hc] at this
      exact this
    obtain ⟨l, hll, hR⟩ := choose_list _ len key
    have hwt := hw ((elems.length + rest.length) * P.bytesOf e) (by simp [DataW.weights, ht])
    rw [hB] at hwt
    refine ⟨l, ⟨some a, cap, by rw [hll], by omega, ?_⟩, ?_, fun y hy => ?_⟩
    · refine ⟨rfl, ?_, fun _ => ⟨a, rfl, fun j p hp => (hR j p hp).1⟩⟩
      have : maxLen = 9223372036854775807 := rfl
      omega
    · rw [hll, ← hel]
      exact Nat.le_trans (Nat.mul_le_mul_right _ (Nat.le_add_right _ _)) hwt
    · obtain ⟨i, hi⟩ := List.getElem?_of_mem hy
      exact (hR i y hi).2
/-- The fields of a struct, from a cell on. -/
structure OpensF (P : Program) (fs : List Field) (off : Nat) {α : Type} (d : Kd α) (Q : α → Prop) : Prop where
  out : ∀ (H : Type) (enc : TypeId × Value → H) (w : World) (n : Nat) (cs : List Value) (xs : List (DataW H × List MemPlace)), cs.length = off + d.sz → xs.length = fs.length →
    (∀ (i : Nat) (f : Field), fs[i]? = some f → DataW.trod enc P w 0 (fun _ => true) true n f.type ((cs.drop f.offset).take (P.cellsOf f.type)) = xs[i]?) →
    (∀ m ∈ DataW.weightsEach P (fs.map (·.type)) (xs.map (·.1)), m ≤ reachBytes) → ∃ y, d.K w y (cs.drop off) ∧ Q y
theorem opensF_one {f : Field} {off : Nat} {α : Type} {d : Kd α} {Q : α → Prop} (ho : f.offset = off) (hc : P.cellsOf f.type = d.sz) (h : Opens P f.type d Q) : OpensF P [f] off d Q := by
  refine ⟨fun H enc w n cs xs hl hx hf hw => ?_⟩
  match xs, hx with
  | [x], _ =>
    have h1 := hf 0 f rfl
    rw [ho, hc, List.take_of_length_le (by rw [List.length_drop]; omega)] at h1
    exact h.out H enc w n _ x h1 (fun m hm => hw m (by simp only [List.map_cons, DataW.weightsEach, List.mem_append]; exact .inl hm))
theorem opensF_cons {f : Field} {fs : List Field} {off : Nat} {α β : Type} {a : Kd α} {b : Kd β} {Qa : α → Prop} {Qb : β → Prop} (ho : f.offset = off) (hc : P.cellsOf f.type = a.sz) (h : Opens P f.type a Qa)
    (hr : OpensF P fs (off + a.sz) b Qb) : OpensF P (f :: fs) off (Kd.pair a b) (fun y => Qa y.1 ∧ Qb y.2) := by
  refine ⟨fun H enc w n cs xs hl hx hf hw => ?_⟩
  match xs, hx with
  | x :: xs, hx =>
    have h1 := hf 0 f rfl
    rw [ho, hc] at h1
    obtain ⟨y, hK, hQ⟩ := h.out H enc w n _ x h1 (fun m hm => hw m (by simp only [List.map_cons, DataW.weightsEach, List.mem_append]; exact .inl hm))
    have hsz : (Kd.pair a b).sz = a.sz + b.sz := rfl
    obtain ⟨z, hK2, hQ2⟩ := hr.out H enc w n cs xs (by rw [hl, hsz]; omega) (by simpa using hx) (fun i g hg => by simpa using hf (i + 1) g (by simpa using hg))
      (fun m hm => hw m (by simp only [List.map_cons, DataW.weightsEach, List.mem_append]; exact .inr hm))
    refine ⟨(y, z), ⟨_, _, ?_, hK, hK2⟩, hQ, hQ2⟩
    rw [← List.drop_drop, List.take_append_drop]
theorem opens_struct {t : TypeId} {fs : Array Field} {α β : Type} {d : Kd α} {Q : α → Prop} {f : β → α} (ht : P.underlying t = some (.struct fs)) (hc : P.cellsOf t = d.sz) (h : OpensF P fs.toList 0 d Q) (g : α → β) (hg : ∀ y, f (g y) = y) :
    Opens P t (Kd.iso d f) (fun y => Q (f y)) := by
  refine ⟨fun H enc w fuel cs x => ?_⟩
  intro hx hw
  obtain ⟨xs, n, rfl, rfl, hl, hxl, hf⟩ := DataW.trod_struct ht hx
  obtain ⟨y, hK, hQ⟩ := h.out H enc w n cs xs (by rw [hl, hc]; omega) (by simpa using hxl) (fun i g hg => hf i g (by simpa using hg)) (fun m hm => hw m (by simpa [DataW.weights, ht] using hm))
  refine ⟨g y, ?_, ?_⟩
  · show d.K w (f (g y)) cs
    rw [hg]
    simpa using hK
  · show Q (f (g y))
    rw [hg]; exact hQ
theorem Opens.imp {t : TypeId} {α : Type} {d : Kd α} {Q Q' : α → Prop} (h : Opens P t d Q) (hq : ∀ y, Q y → Q' y) : Opens P t d Q' := by
  refine ⟨fun H enc w fuel cs x => ?_⟩
  intro hx hw
  obtain ⟨y, hK, hQ⟩ := h.out H enc w fuel cs x hx hw
  exact ⟨y, hK, hq y hQ⟩
/-- At a row: the j-th argument. -/
theorem opens_arg {H : Type} {enc : TypeId × Value → H} {t : TypeId} {α : Type} {d : Kd α} {Q : α → Prop} (h : Opens P t d Q) {W : World} {v : Value} {x : DataW H} {ps : List MemPlace} {ts : List TypeId} {ds : List (DataW H)} {j : Nat}
    (hsz : (DataW.weightsEach P ts ds).all (· ≤ reachBytes) = true) (ht : ts[j]? = some t) (hd : ds[j]? = some x) (hx : DataW.Trod enc P W 0 (fun _ => true) true t v x ps) : ∃ y, d.K W y v.cells.toList ∧ Q y := by
  obtain ⟨fuel, hf⟩ := hx
  exact h.out H enc W fuel _ _ hf (fun n hn => by simpa using List.all_eq_true.1 hsz _ (DataW.weights_mem_each ht hd n hn))
/-- A struct's value is its cells. -/
theorem agg_of {w : World} {r : Reach} {base : Nat} {t : TypeId} {v : Value} {fs : Array Field} {l : List Value} (ht : P.underlying t = some (.struct fs)) (h : Value.okWide P w r base t v) (hl : v.cells.toList = l) : v = .agg l.toArray := by
  unfold Value.okWide at h
  rw [ht] at h
  obtain ⟨cs, rfl, _⟩ := h
  subst hl
  simp [Value.cells]
theorem slice_of {w : World} {r : Reach} {base : Nat} {t e : TypeId} {v u : Value} (ht : P.underlying t = some (.slice e)) (h : Value.okWide P w r base t v) (hl : v.cells.toList = [u]) : v = u := by
  obtain ⟨a, n, c, rfl⟩ := okWide_slice ht h
  simpa [Value.cells] using hl
end Go.Proofs.Ytmnpejoolbipeaa.Opens
