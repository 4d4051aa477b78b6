/- The map of intents by their stripes, as a rising list. -/
import Derived.Below
import Derived.Deep.Draws
import Derived.Deep.AppendLies
import Derived.Maps.AppendAt
import Derived.OwnWalk
import Derived.Laws.BytesArg
import Derived.Laws.MakeOwn
import Derived.Laws.OwnMore
import Derived.Deep.OwnRows
import Derived.Tactics
import Derived.Lib.ConvBytes
import Derived.Laws.Slices
import Derived.WalkKit
import Derived.KernelRfl
import Derived.RowKit3
import Derived.Deep.LoopGhost
import Derived.Deep.QuietTactic
import Derived.BigQuiet
import Derived.WideLaws
import Derived.Deep.DeepCutAuto
import Derived.Deep.CutBlock
import Derived.Deep.RegionHeld3
import Derived.Laws.Rows
import Derived.Lib.AppendStr
import Derived.ArgAppend
import Derived.Laws.IdiomCopy
import Derived.OrdersHeld
import Derived.Laws.BitsLemmas
import Derived.RowKit
import Derived.Test.YtmnpejoolbipeaaWWords
import Derived.Test.YtmnpejoolbipeaaWLast
import Derived.Test.YtmnpejoolbipeaaWTab
import Derived.Test.YtmnpejoolbipeaaWFour
import Derived.Test.YtmnpejoolbipeaaWQPut
import Derived.Test.YtmnpejoolbipeaaWApart
import Derived.Test.YtmnpejoolbipeaaWArr
import Derived.Test.YtmnpejoolbipeaaWZeros
import Derived.Test.YtmnpejoolbipeaaWFoot
import Derived.Test.YtmnpejoolbipeaaWKept
import Derived.Test.YtmnpejoolbipeaaWShare
import Derived.Test.YtmnpejoolbipeaaWN
import Derived.Test.YtmnpejoolbipeaaWFootNe
import Derived.Test.YtmnpejoolbipeaaWAt
import Derived.Test.YtmnpejoolbipeaaWEqStruct
import Derived.Test.YtmnpejoolbipeaaWRepsOne
import Derived.Test.YtmnpejoolbipeaaWInv
import Derived.Test.YtmnpejoolbipeaaWInvWords
import Derived.Test.YtmnpejoolbipeaaWGuard
import Derived.Test.YtmnpejoolbipeaaWNEv
import Derived.Test.YtmnpejoolbipeaaWMore
import Derived.StillTailTactics
import Derived.Laws.BitsAllLaws
import Derived.Outline
import Derived.Lib.OthersKept
import Derived.Test.YtmnpejoolbipeaaBs
import Derived.Deep.RegionLaw
import Derived.Laws.Externs
import Derived.Lib.SliceRun
import Derived.Lib.Hide
import Derived.RangeFuncMany
import Derived.RangeFuncLeaves
import Derived.RangeFuncWrites
import Derived.Sort.MapsRangeIn
import Derived.Sort.KeysCollected
import Derived.OwnWalkIn
import Derived.TacticsInMore
import Derived.RegionIn
import Derived.LoopNIn
import Derived.LoopIn
import Derived.Maps.OwnIn
import Derived.Maps.OwnOps
import Derived.Maps.Ext
import Derived.Carry
import Derived.RangeFuncBox
import Derived.RangeFuncNested
import Derived.RangeFuncBound
import Derived.RangeFuncCalls
import Derived.Shelf.Abstract
import Derived.OrdersIn
import Derived.RangeFuncIn
import Derived.Test.YtmnpejoolbipeaaPRix0
namespace Go.Proofs.Ytmnpejoolbipeaa.Given
open Go Go.RowKit Go.Shelf Go.Proofs Go.Proofs.Ytmnpejoolbipeaa.Bs Go.Proofs.Ytmnpejoolbipeaa.PRi Go.Proofs.YtmnpejoolbipeaaW.PrintWords Go.Proofs.YtmnpejoolbipeaaW.PrintLast Go.Proofs.YtmnpejoolbipeaaW.PrintMore
set_option linter.unusedVariables false
set_option linter.unusedSimpArgs false
/-- An intent as a value. -/
def encI (x : S44) : Value := .agg #[.int .i64 x.f0, .int .i64 x.f1, .string x.f2]
/-- How an intent reads as a map's element. -/
def elemI : Value → Option (DataW S44 × List MemPlace)
  | .agg ⟨[.int .i64 a, .int .i64 b, .string s]⟩ => some (.held ⟨a, b, s⟩, [])
  | _ => none
theorem elemI_mk (x : S44) : elemI (encI x) = some (.held x, []) := rfl
theorem elemI_inv {v : Value} {y : DataW S44 × List MemPlace} (h : elemI v = some y) : ∃ x, v = encI x ∧ y = (.held x, []) := by
  unfold elemI at h
  split at h
  · cases h; exact ⟨_, rfl, rfl⟩
  · cases h
/-- The intents of a list by their stripes, the newest of each, the first of those with equal numbers; rising. -/
def insI (x : S44) : List S44 → List S44
  | [] => [x]
  | y :: t => if x.f1 < y.f1 then x :: y :: t else if y.f1 < x.f1 then y :: insI x t else (if x.f0 > y.f0 then x else y) :: t
def newestL (l : List S44) : List S44 := l.foldl (fun m x => insI x m) []
def atI (m : List S44) (s : Int) : Option S44 := m.find? fun x => x.f1 == s
theorem insI_mem {x z : S44} : ∀ {m : List S44}, z ∈ insI x m → z = x ∨ z ∈ m
  | [], h => by simpa [insI] using h
  | y :: t, h => by
    unfold insI at h
    split at h
    · simpa using h
    · split at h
      · rcases List.mem_cons.1 h with h | h
        · exact .inr (by simp [h])
        · rcases insI_mem h with h | h
          · exact .inl h
          · exact .inr (by simp [h])
      · rcases List.mem_cons.1 h with h | h
        · split at h
          · exact .inl h
          · exact .inr (by simp [h])
        · exact .inr (by simp [h])
theorem insI_len (x : S44) : ∀ m : List S44, (insI x m).length ≤ m.length + 1
  | [] => by simp [insI]
  | y :: t => by
    unfold insI
    split
    · simp
    · split
      · simpa using insI_len x t
      · simp
theorem insI_up (x : S44) : ∀ m : List S44, m.Pairwise (fun a b => a.f1 < b.f1) → (insI x m).Pairwise (fun a b => a.f1 < b.f1)
  | [], _ => by simp [insI]
  | y :: t, h => by
    obtain ⟨h1, h2⟩ := List.pairwise_cons.1 h
    unfold insI
    split
    · rename_i c
      refine List.pairwise_cons.2 ⟨fun z hz => ?_, h⟩
      rcases List.mem_cons.1 hz with rfl | hz
      · exact c
      · exact Int.lt_trans c (h1 z hz)
    · split
      · rename_i c
        refine List.pairwise_cons.2 ⟨fun z hz => ?_, insI_up x t h2⟩
        rcases insI_mem hz with rfl | hz
        · exact c
        · exact h1 z hz
      · rename_i c1 c2
        refine List.pairwise_cons.2 ⟨fun z hz => ?_, h2⟩
        have := h1 z hz
        split
        · omega
        · exact this
theorem atI_ins (x : S44) (s : Int) : ∀ m : List S44, m.Pairwise (fun a b => a.f1 < b.f1) → atI (insI x m) s = if s = x.f1 then (match atI m x.f1 with | none => some x | some y => some (if x.f0 > y.f0 then x else y)) else atI m s
  | [], _ => by
    by_cases h : s = x.f1
    · subst h; simp [insI, atI]
    · have h' : ¬ x.f1 = s := fun e => h e.symm
      simp [insI, atI, h, h']
  | y :: t, h => by
    obtain ⟨h1, h2⟩ := List.pairwise_cons.1 h
    have ih := atI_ins x s t h2
    have none_of : ∀ z : Int, (∀ u ∈ t, z < u.f1) → atI t z = none := fun z hz => by
      unfold atI
      rw [List.find?_eq_none]
      intro u hu
      have := hz u hu
      simp; omega
    unfold insI
    by_cases c1 : x.f1 < y.f1
    · rw [if_pos c1]
      have e1 : atI (y :: t) x.f1 = none := by
        have := none_of x.f1 (fun u hu => Int.lt_trans c1 (h1 u hu))
        unfold atI at this ⊢
        rw [List.find?_cons_of_neg (by simp; omega)]; exact this
      by_cases hs : s = x.f1
      · rw [if_pos hs, e1]; subst hs; simp [atI]
      · rw [if_neg hs]
        unfold atI
        rw [List.find?_cons_of_neg (by simp; omega)]
    · rw [if_neg c1]
      by_cases c2 : y.f1 < x.f1
      · rw [if_pos c2]
        have e1 : atI (y :: t) x.f1 = atI t x.f1 := by
          unfold atI
          rw [List.find?_cons_of_neg (by simp; omega)]
        rw [e1]
        by_cases hy : s = y.f1
        · rw [if_neg (by omega)]
          unfold atI
          rw [List.find?_cons_of_pos (by simp [hy]), List.find?_cons_of_pos (by simp [hy])]
        · have e2 : ∀ t' : List S44, atI (y :: t') s = atI t' s := fun t' => by
            unfold atI
            rw [List.find?_cons_of_neg (by simp; omega)]
          rw [e2, e2]
          exact ih
      · rw [if_neg c2]
        have hxy : x.f1 = y.f1 := by omega
        have e1 : atI (y :: t) x.f1 = some y := by unfold atI; rw [List.find?_cons_of_pos (by simp [hxy])]
        rw [e1]
        have e3 : (if x.f0 > y.f0 then x else y).f1 = y.f1 := by split <;> omega
        by_cases hs : s = x.f1
        · rw [if_pos hs]
          unfold atI
          rw [List.find?_cons_of_pos (by simp [e3]; omega)]
        · rw [if_neg hs]
          unfold atI
          rw [List.find?_cons_of_neg (by simp [e3]; omega), List.find?_cons_of_neg (by simp; omega)]
/-- The map's datum, by what each stripe has. -/
structure MapIs (D : DataW S44) (m : List S44) : Prop where
  isMap : Maps.IsMap D
  has : ∀ s : Int, Maps.has D (.int .i64 s) = (atI m s).isSome
  at_ : ∀ (s : Int) (x : S44), atI m s = some x → ∀ zd, D.atKey (.int .i64 s) zd = .held x
theorem MapIs.start : MapIs (.map []) [] := ⟨Maps.isMap_empty, fun s => rfl, fun s x h => by cases h⟩
theorem MapIs.of_eq {D : DataW S44} {m m' : List S44} (h : MapIs D m) (he : ∀ s, atI m' s = atI m s) : MapIs D m' := ⟨h.isMap, fun s => by rw [he]; exact h.has s, fun s x hx => h.at_ s x (by rw [← he]; exact hx)⟩
theorem MapIs.put {D : DataW S44} {m : List S44} (h : MapIs D m) (hm : m.Pairwise (fun a b => a.f1 < b.f1)) (x : S44) (hk : WideAt.IsKeyLit (.int .i64 x.f1)) (hx : ∀ y, atI m x.f1 = some y → x.f0 > y.f0) : MapIs (D.put (.int .i64 x.f1) (.held x)) (insI x m) := by
  have e : ∀ s, atI (insI x m) s = if s = x.f1 then some x else atI m s := fun s => by
    rw [atI_ins x s m hm]
    by_cases hs : s = x.f1
    · rw [if_pos hs, if_pos hs]
      cases ha : atI m x.f1 with
      | none => rfl
      | some y => simp only [if_pos (hx y ha)]
    · rw [if_neg hs, if_neg hs]
  refine ⟨h.isMap.put _ _, fun s => ?_, fun s y hy zd => ?_⟩
  · rw [e]
    by_cases hs : s = x.f1
    · rw [if_pos hs, hs, Maps.has_put_same h.isMap hk]; rfl
    · rw [if_neg hs, Maps.has_put_other (by intro e2; cases e2; exact hs rfl)]; exact h.has s
  · rw [e] at hy
    by_cases hs : s = x.f1
    · rw [if_pos hs] at hy
      cases hy
      rw [hs, Maps.atKey_put_same h.isMap hk]
    · rw [if_neg hs] at hy
      rw [Maps.atKey_put_other (by intro e2; cases e2; exact hs rfl)]
      exact h.at_ s y hy zd
theorem MapIs.keep {D : DataW S44} {m : List S44} (h : MapIs D m) (hm : m.Pairwise (fun a b => a.f1 < b.f1)) (x y : S44) (hx : atI m x.f1 = some y) (hle : ¬ x.f0 > y.f0) : MapIs D (insI x m) :=
  h.of_eq fun s => by
    rw [atI_ins x s m hm]
    by_cases hs : s = x.f1
    · rw [if_pos hs, hx, hs, hx]; simp only [if_neg hle]
    · rw [if_neg hs]
theorem MapIs.key {D : DataW S44} {m : List S44} (h : MapIs D m) {s : Int} {x : S44} (ha : ∀ zd, D.atKey (.int .i64 s) zd = .held x) : atI m s = some x := by
  have hh := Maps.has_true_of_atKey ha
  rw [h.has] at hh
  obtain ⟨y, hy⟩ := Option.isSome_iff_exists.1 hh
  have := (h.at_ s y hy .nil).symm.trans (ha .nil)
  cases this
  exact hy
theorem atI_key {m : List S44} {s : Int} {x : S44} (h : atI m s = some x) : x.f1 = s := by
  have := List.find?_some h
  simpa using this
theorem atI_mem {m : List S44} {s : Int} {x : S44} (h : atI m s = some x) : x ∈ m := List.mem_of_find?_eq_some h
theorem atI_of_mem {m : List S44} (hm : m.Pairwise (fun a b => a.f1 < b.f1)) {x : S44} (h : x ∈ m) : atI m x.f1 = some x := by
  induction m with
  | nil => cases h
  | cons y t ih =>
    obtain ⟨h1, h2⟩ := List.pairwise_cons.1 hm
    rcases List.mem_cons.1 h with rfl | h
    · simp [atI]
    · have := h1 x h
      have e := ih h2 h
      unfold atI at e ⊢
      rw [List.find?_cons_of_neg (by simp; omega)]; exact e
/-- What has come: no stripe twice; each as the map has it, and no longer to come. -/
def CollI (D : DataW S44) (left : Lit → Bool) (ps : List S44) : Prop := (ps.map (·.f1)).Nodup ∧ (∀ s, s ∈ ps.map (·.f1) ↔ (Maps.has D (.int .i64 s) = true ∧ left (.int .i64 s) = false)) ∧ ∀ p ∈ ps, ∀ zd, D.atKey (.int .i64 p.f1) zd = .held p
theorem CollI.start (D : DataW S44) : CollI D (Maps.has D) [] := ⟨List.nodup_nil, fun s => by cases Maps.has D (.int .i64 s) <;> simp, fun p hp => by cases hp⟩
theorem CollI.step {D : DataW S44} {left : Lit → Bool} {ps : List S44} (h : CollI D left ps) {x : S44} (hlk : left (.int .i64 x.f1) = true) (hat : ∀ zd, D.atKey (.int .i64 x.f1) zd = .held x) : CollI D (fun z => left z && !z.sameKey (.int .i64 x.f1)) (ps ++ [x]) := by
  have hhas := Maps.has_true_of_atKey hat
  have hnew : x.f1 ∉ ps.map (·.f1) := fun hx => by have := ((h.2.1 _).1 hx).2; rw [hlk] at this; cases this
  refine ⟨?_, fun s => ?_, fun p hp => ?_⟩
  · rw [List.map_append]
    exact List.nodup_append.2 ⟨h.1, by simp, fun a ha b hb => by simp at hb; subst hb; exact fun e => hnew (e ▸ ha)⟩
  · rw [List.map_append, List.mem_append, h.2.1 s]
    by_cases hs : s = x.f1
    · subst hs; simp [hhas, Lit.sameKey]
    · simp [hs, Lit.sameKey]
  · rcases List.mem_append.1 hp with hp | hp
    · exact h.2.2 p hp
    · simp at hp; subst hp; exact hat
/-- All have come: as the list of the map's own, in some order. -/
theorem CollI.perm {D : DataW S44} {left : Lit → Bool} {ps m : List S44} (h : CollI D left ps) (hD : MapIs D m) (hm : m.Pairwise (fun a b => a.f1 < b.f1)) (hl : ∀ kl, left kl = false) : ps.Perm m := by
  have nd : ps.Nodup := (List.pairwise_map.1 h.1).imp (fun hne e => hne (congrArg _ e))
  have nm : m.Nodup := hm.imp (fun {a b} hab e => by subst e; omega)
  refine (List.perm_ext_iff_of_nodup nd nm).2 fun x => ⟨fun hx => atI_mem (hD.key (h.2.2 x hx)), fun hx => ?_⟩
  have ha := atI_of_mem hm hx
  have : x.f1 ∈ ps.map (·.f1) := (h.2.1 _).2 ⟨by rw [hD.has, ha]; rfl, hl _⟩
  obtain ⟨p, hp, e⟩ := List.mem_map.1 this
  have h2 := hD.key (h.2.2 p hp)
  rw [e, ha] at h2
  cases h2
  exact hp
theorem newestL_snoc (l : List S44) (x : S44) : newestL (l ++ [x]) = insI x (newestL l) := by simp [newestL]
theorem newestL_up (l : List S44) : (newestL l).Pairwise (fun a b => a.f1 < b.f1) := by
  rcases List.eq_nil_or_concat l with rfl | ⟨t, x, rfl⟩
  · simp [newestL]
  · rw [List.concat_eq_append, newestL_snoc]
    exact insI_up x _ (newestL_up t)
termination_by l.length
decreasing_by subst_vars; simp
theorem newestL_len (l : List S44) : (newestL l).length ≤ l.length := by
  rcases List.eq_nil_or_concat l with rfl | ⟨t, x, rfl⟩
  · simp [newestL]
  · rw [List.concat_eq_append, newestL_snoc]
    have h1 := insI_len x (newestL t)
    have h2 := newestL_len t
    simp; omega
termination_by l.length
decreasing_by subst_vars; simp
/-- Rising rows with one another's members are one row. -/
theorem up_perm {a b : List S44} (ha : a.Pairwise (fun x y => x.f1 ≤ y.f1)) (hb : b.Pairwise (fun x y => x.f1 < y.f1)) (h : a.Perm b) : a = b := by
  refine List.Perm.eq_of_pairwise (le := fun x y : S44 => x.f1 ≤ y.f1) (fun x y hx hy h1 h2 => ?_) ha (hb.imp (fun h => Int.le_of_lt h)) h
  have e := atI_of_mem hb (h.mem_iff.1 hx)
  have e2 := atI_of_mem hb hy
  rw [show x.f1 = y.f1 by omega, e2] at e
  cases e; rfl
end Go.Proofs.Ytmnpejoolbipeaa.Given
