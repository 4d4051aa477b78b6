/- maps.Values and slices.Collect of intents, walked by hand. -/
import Derived.Below
import Derived.Deep.Draws
import Derived.Deep.AppendLies
import Derived.Maps.AppendAt
import Derived.OwnWalk
import Derived.Laws.BytesArg
import Derived.Laws.MakeOwn
import Derived.Laws.OwnMore
import Derived.Deep.OwnRows
import Derived.Tactics
import Derived.Lib.ConvBytes
import Derived.Laws.Slices
import Derived.WalkKit
import Derived.KernelRfl
import Derived.RowKit3
import Derived.Deep.LoopGhost
import Derived.Deep.QuietTactic
import Derived.BigQuiet
import Derived.WideLaws
import Derived.Deep.DeepCutAuto
import Derived.Deep.CutBlock
import Derived.Deep.RegionHeld3
import Derived.Laws.Rows
import Derived.Lib.AppendStr
import Derived.ArgAppend
import Derived.Laws.IdiomCopy
import Derived.OrdersHeld
import Derived.Laws.BitsLemmas
import Derived.RowKit
import Derived.Test.YtmnpejoolbipeaaWWords
import Derived.Test.YtmnpejoolbipeaaWLast
import Derived.Test.YtmnpejoolbipeaaWTab
import Derived.Test.YtmnpejoolbipeaaWFour
import Derived.Test.YtmnpejoolbipeaaWQPut
import Derived.Test.YtmnpejoolbipeaaWApart
import Derived.Test.YtmnpejoolbipeaaWArr
import Derived.Test.YtmnpejoolbipeaaWZeros
import Derived.Test.YtmnpejoolbipeaaWFoot
import Derived.Test.YtmnpejoolbipeaaWKept
import Derived.Test.YtmnpejoolbipeaaWShare
import Derived.Test.YtmnpejoolbipeaaWN
import Derived.Test.YtmnpejoolbipeaaWFootNe
import Derived.Test.YtmnpejoolbipeaaWAt
import Derived.Test.YtmnpejoolbipeaaWEqStruct
import Derived.Test.YtmnpejoolbipeaaWRepsOne
import Derived.Test.YtmnpejoolbipeaaWInv
import Derived.Test.YtmnpejoolbipeaaWInvWords
import Derived.Test.YtmnpejoolbipeaaWGuard
import Derived.Test.YtmnpejoolbipeaaWNEv
import Derived.Test.YtmnpejoolbipeaaWMore
import Derived.StillTailTactics
import Derived.Laws.BitsAllLaws
import Derived.Outline
import Derived.Lib.OthersKept
import Derived.Test.YtmnpejoolbipeaaBs
import Derived.Deep.RegionLaw
import Derived.Laws.Externs
import Derived.Lib.SliceRun
import Derived.Lib.Hide
import Derived.RangeFuncMany
import Derived.RangeFuncLeaves
import Derived.RangeFuncWrites
import Derived.Sort.MapsRangeIn
import Derived.Sort.KeysCollected
import Derived.OwnWalkIn
import Derived.TacticsInMore
import Derived.RegionIn
import Derived.LoopNIn
import Derived.LoopIn
import Derived.Maps.OwnIn
import Derived.Maps.OwnOps
import Derived.Maps.Ext
import Derived.Carry
import Derived.RangeFuncBox
import Derived.RangeFuncNested
import Derived.RangeFuncBound
import Derived.RangeFuncCalls
import Derived.Shelf.Abstract
import Derived.OrdersIn
import Derived.RangeFuncIn
import Derived.Test.YtmnpejoolbipeaaRingMap
import Derived.Test.YtmnpejoolbipeaaPRix0
namespace Go.Proofs.Ytmnpejoolbipeaa.Given
open Go Go.RowKit Go.Shelf Go.Proofs Go.Proofs.Ytmnpejoolbipeaa.Bs Go.Proofs.Ytmnpejoolbipeaa.PRi Go.Proofs.YtmnpejoolbipeaaW.PrintWords Go.Proofs.YtmnpejoolbipeaaW.PrintLast Go.Proofs.YtmnpejoolbipeaaW.PrintMore
set_option linter.unusedVariables false
set_option linter.unusedSimpArgs false
attribute [local go_sem] Oper.semAt_some
theorem keyedI : Maps.Keyed Try.prog 3 := Maps.int_keyed Try.underlying3
set_option maxRecDepth 100000 in
set_option maxHeartbeats 4000000 in
theorem vals1_in (F : Fence) (n : Nat) (hF : F.fn 37) (hro : F.round = none) (hn : 1 ≤ n) (l Bm b nn : Nat) (D0 : DataW S44) (m : List S44) (hD : MapIs D0 m) (hup : m.Pairwise (fun a b => a.f1 < b.f1)) (J Jx : List S44 → World → Prop)
    (hY : ∀ pre x W, J pre W → pre.length < Maps.size D0 → YieldAt F (n - 1) Try.prog l #[encI x] W fun e W' =>
      (e = .returned (.bool true) ∧ J (pre ++ [x]) W' ∧ KeepsWalks W W') ∨ (e = .returned (.bool false) ∧ Jx (pre ++ [x]) W'))
    (W : World) (hJ : AbidesFrom W.heap.size J) (hm : W.cell? ⟨Bm, 0, none⟩ = some (.map (some b))) (hown : W.ownsMap Try.prog 3 elemI b nn D0) (h0 : J [] W) :
    CallsIn F n Try.prog 37 #[.func (.yield l) #[] #[], .pointer (some ⟨Bm, 0, none⟩)] W fun e W' => (∃ v, e = .returned v) ∧
      ((∃ xs, xs.Perm m ∧ J xs W') ∨ (∃ pre, True ∧ Jx pre W')) := by
  have hu := Try.underlying44
  refine callsIn_of_wp Try.func37 rfl hF ?_ hro
  simp only [Try.ntmps37, List.size_toArray, List.length_cons, List.length_nil, Nat.reduceAdd, Nat.reduceSub, Array.replicate_succ, Array.replicate_zero, List.push_toArray, List.append_toArray, List.nil_append, List.cons_append]
  gi_wp2_with (first
    | (gi_at_range; refine wpListIn_range_own _ rfl _ 47 rfl 3 44 keyedI Try.underlying47 _ b nn _ rfl hown ?_; intro w0 hrg0 hg0 hs0)
    | gi_in)
  go_frame
  gi_loopw [4] (fun _ wr => ∃ (left : Lit → Bool) (cnt : Nat) (ps : List S44), wr.ranges Try.prog 3 elemI b W.heap.size nn D0 left cnt ∧ ps.length + cnt ≤ Maps.size D0 ∧ CollI D0 left ps ∧ J ps wr)
    (fun _ wr => wr.rangeLeft b W.heap.size)
  case atStart =>
    exact ⟨_, _, [], hrg0, by simp, CollI.start D0, hJ [] W w0 none h0 hg0 (fun r e => by cases e)⟩
  case round =>
    obtain ⟨left, cnt, ps, hrg, hcs, hC, hJs⟩ := hrel
    gi_wp2_with (first
      | (gi_at_next; refine wpListIn_next_ranges _ rfl _ rfl 3 keyedI elemI (Value.int .i64) encI (fun key kl hk => by obtain ⟨x, hx, _⟩ := Maps.keyOf_int_inv Try.underlying3 hk; exact ⟨x, hx⟩) (fun v y hv => by obtain ⟨c, hc, _⟩ := elemI_inv hv; exact ⟨c, hc⟩) b W.heap.size nn _ _ _ rfl hrg ?_ ?_)
      | gi_in)
    · intro hc0 hl0
      gi_wp2
      go_end0
      exact ⟨⟨_, rfl⟩, .inl ⟨ps, hC.perm hD hup hl0, hJs⟩⟩
    · intro x c kl yd yp w2 cnt2 hkey hlk hv hat hrg2 hlt hg2 hs2 hen
      obtain ⟨x', ex, rfl, _⟩ := Maps.keyOf_int_inv Try.underlying3 hkey
      obtain rfl : x = x' := by simpa using ex
      rw [elemI_mk] at hv
      obtain ⟨rfl, rfl⟩ := Prod.mk.inj (Option.some.inj hv)
      have hxc : c.f1 = x := atI_key (hD.key hat)
      subst hxc
      have hJ2 : J ps w2 := hJ ps wr w2 (some W.heap.size) hJs hg2 (fun r e => by cases e; exact ⟨Nat.le_refl _, hrg.iter_walk⟩)
      have hJ3 : J ps (w2.alloc (.cells #[.int .i64 c.f0, .int .i64 c.f1, .string c.f2] 44)) := hJ ps w2 _ none hJ2 (World.grownBy_alloc _ _ _) (fun r e => by cases e)
      obtain ⟨fn, tmps, assign, body, hy, hR⟩ := hY ps c _ hJ3 (by omega)
      have hC2 := hC.step hlk hat
      have hk2 := KeepsWalks.alloc w2 (.cells #[.int .i64 c.f0, .int .i64 c.f1, .string c.f2] 44)
      dsimp only [encI] at hy hen ⊢
      clear hs2 hJ2 hJ3 hJs
      gi_wp2
      refine hR.mono ?_
      rintro e W3 (⟨rfl, hJ4, hk3⟩ | ⟨rfl, hJx3⟩)
      · gi_wp2
        have hrg3 := hrg2.of_walks (hk2.trans hk3)
        go_roundw
        case rel => exact ⟨_, cnt2, ps ++ [c], hrg3, by simp; omega, hC2, hJ4⟩
        case measure => rw [hrg3.left_eq, hrg.left_eq]; exact hlt
      · gi_wp2
        refine bodyPost_ret (results_none rfl _ _ _) rfl ?_
        exact ⟨⟨_, rfl⟩, .inr ⟨_, trivial, hJx3⟩⟩
theorem vals1_stops (F : Fence) (n : Nat) (h7 : F.fn 37) (hro : F.round = none) (hn : 1 ≤ n) (Bm b nn : Nat) (D0 : DataW S44) (m : List S44) (hD : MapIs D0 m) (hup : m.Pairwise (fun a b => a.f1 < b.f1)) (w : World) (hBm : Bm < w.heap.size)
    (hm : w.cell? ⟨Bm, 0, none⟩ = some (.map (some b))) (hown : w.ownsMap Try.prog 3 elemI b nn D0) :
    SeqStopsK F n Try.prog 37 #[.pointer (some ⟨Bm, 0, none⟩)] (fun x : S44 => #[.agg #[.int .i64 x.f0, .int .i64 x.f1, .string x.f2]]) KeepsWalks (fun xs => xs.Perm m) (fun _ => True) (Maps.size D0) w := fun l J Jx W hW hJ _ hY h0 => by
  have hown' : W.ownsMap Try.prog 3 elemI b nn D0 := by
    have hbl := hown.lt
    obtain ⟨es, clock, hb, Ft, hs, hD⟩ := hown
    exact ⟨es, clock, (hW.block b hbl).trans hb, Ft, hs, hD⟩
  exact vals1_in F n h7 hro hn l Bm b nn D0 m hD hup J Jx hY W hJ ((hW.cell (p := ⟨Bm, 0, none⟩) hBm).trans hm) hown' h0
set_option maxHeartbeats 1000000 in
theorem vals_calls (b : Nat) (w : World) : Calls Try.prog 20 #[.map (some b)] w fun e w' => e = .returned (.func (.func 37) #[] #[.pointer (some ⟨w.heap.size, 0, none⟩)]) ∧ w' = w.alloc (.cells #[.map (some b)] 47) := by
  have hmf : ∀ (fn : Fn) (first cap : Array Value) (w : World), (Instr.makeFunc fn first cap).run Try.prog w = .ok (.func fn first cap) w := fun _ _ _ _ => rfl
  go_enter Try.func20, Try.ntmps20
  go_wp2
  go_ret
  exact ⟨rfl, rfl⟩
theorem enI1 : ∀ args w, (callFunc 37 args).run Try.prog w = .ok (.enter 37 args) w := enters_of Try.func37 (by kernel_rfl) rfl
/-- A row of intents, cell by cell. -/
def cellsI (l : List S44) : List Value := l.flatMap fun x => [.int .i64 x.f0, .int .i64 x.f1, .string x.f2]
theorem cellsI_append (a b : List S44) : cellsI (a ++ b) = cellsI a ++ cellsI b := by simp [cellsI]
theorem cellsI_one (l : List S44) : ∀ v ∈ cellsI l, v.oneCell' = true := by
  intro v hv
  obtain ⟨p, _, hp⟩ := List.mem_flatMap.1 hv
  simp at hp
  rcases hp with rfl | rfl | rfl <;> rfl
theorem reps_cellsI (w : World) (base : Nat) (ok : Nat → Prop) (l : List S44) : Reps (k44.M w base ok) 3 l (cellsI l) := by
  induction l with
  | nil => exact Reps.none _ _
  | cons p l ih => exact Reps.c3 (k44_mkM w base ok p) ih
theorem size_own {w : World} {b nn : Nat} {D : DataW S44} (h : w.ownsMap Try.prog 3 elemI b nn D) : Maps.size D ≤ nn := by
  obtain ⟨es, clock, _, _, hs, rfl⟩ := h
  rw [Maps.size_eq, length_sorted, List.length_map, Array.length_toList]
  exact hs
theorem row_cells {w : World} {base e n k : Nat} {v : Value} {xs : List Value} {size : Nat} (h : w.ownsRow base e size v n xs) (hk : v.ownBlock = some k) : ∃ cur, w.heap[k]? = some (.cells cur e (0, 0)) := by
  obtain ⟨_, ⟨rfl, _⟩ | ⟨g, cap, cur, rfl, _, h1, _⟩⟩ := h
  · cases hk
  · cases hk; exact ⟨cur, h1⟩
theorem own_slice {w : World} {base e n : Nat} {v : Value} {xs : List Value} {size : Nat} (h : w.ownsRow base e size v n xs) : ∃ A c, v = .slice A n c := by
  obtain ⟨_, ⟨rfl, rfl⟩ | ⟨g, cap, cur, rfl, _⟩⟩ := h
  · exact ⟨_, _, rfl⟩
  · exact ⟨_, _, rfl⟩
theorem cells_not {o : Obj} {cs : Array Value} {t : TypeId} {z : Nat × Nat} (h : o = .cells cs t z) : o.isCells = true := by subst h; rfl
theorem new3 (w : World) (t : TypeId) (x y z : Value) : ∀ j u, [x, y, z][j]? = some u → (w.alloc (.cells #[x, y, z] t)).cell? ((⟨w.heap.size, 0, none⟩ : Addr).add j) = some u := by
  intro j u h
  have hb := blk_new w (.cells #[x, y, z] t)
  have e : ((⟨w.heap.size, 0, none⟩ : Addr).add j) = ⟨w.heap.size, j, none⟩ := by cases j <;> simp [Addr.add]
  rw [e, blk_cell hb j]
  match j, h with
  | 0, h => simpa using h
  | 1, h => simpa using h
  | 2, h => simpa using h
  | j + 3, h => simp at h
set_option maxRecDepth 100000 in
set_option maxHeartbeats 4000000 in
theorem appseq_calls (Bm b nn : Nat) (D0 : DataW S44) (m : List S44) (hD : MapIs D0 m) (hup : m.Pairwise (fun a b => a.f1 < b.f1)) (hnn : nn ≤ 100000) (w : World) (hBm : Bm < w.heap.size)
    (hm : w.cell? ⟨Bm, 0, none⟩ = some (.map (some b))) (hown : w.ownsMap Try.prog 3 elemI b nn D0) :
    Calls Try.prog 50 #[.slice none 0 0, .func (.func 37) #[] #[.pointer (some ⟨Bm, 0, none⟩)]] w fun e w' => ∃ v xs, e = .returned v ∧ xs.Perm m ∧ w'.ownsRow (w.heap.size + 1) 44 3 v xs.length (cellsI xs) ∧ Below w.heap.size w w' := by
  have hu := Try.underlying44
  have hNn := size_own hown
  refine (callsIn_wide (n := 9)).1 ?_
  refine callsIn_of_wp_marks Try.func50 rfl trivial ?_ rfl
  simp only [Try.ntmps50, List.size_toArray, List.length_cons, List.length_nil, Nat.reduceAdd, Nat.reduceSub, Array.replicate_succ, Array.replicate_zero, List.push_toArray, List.append_toArray, List.nil_append, List.cons_append]
  gi_wp2
  obtain ⟨p, hp⟩ : ∃ p, w.heap.size = p := ⟨_, rfl⟩
  have b0 : (w.alloc (.cells #[.slice none 0 0] 28)).heap[p]? = some (.cells #[.slice none 0 0] 28 (0, 0)) := by rw [← hp]; exact blk_new _ _
  have hB0 : Below p w (w.alloc (.cells #[.slice none 0 0] 28)) := by rw [← hp]; exact (Below.refl _ w).alloc (Nat.le_refl _) _
  have hs0 : (w.alloc (.cells #[.slice none 0 0] 28)).heap.size = p + 1 := by rw [World.size_alloc, hp]
  have hBm0 : Bm < p := by omega
  have hm0 : (w.alloc (.cells #[.slice none 0 0] 28)).cell? ⟨Bm, 0, none⟩ = some (.map (some b)) := (hB0.cell (p := ⟨Bm, 0, none⟩) hBm0).trans hm
  have hown0 := hown.alloc (.cells #[.slice none 0 0] 28)
  simp only [hp]
  generalize w.alloc (.cells #[.slice none 0 0] 28) = W0 at b0 hB0 hs0 hm0 hown0 ⊢
  clear hm hown
  refine wpIn_rangeFunc_ownH rfl (by omega) (gf := 37) (lb := #[.pointer (some ⟨Bm, 0, none⟩)]) rfl trivial enI1
    (vals1_stops _ _ trivial rfl (by omega) Bm b nn D0 m hD hup W0 (by omega) hm0 hown0) walksK_t walksK_b (Below.refl _ _) (fun _ => rfl)
    (fun pre W => (∃ v, W.heap[p]? = some (.cells #[v] 28 (0, 0)) ∧ W.ownsRow (p + 1) 44 3 v pre.length (cellsI pre)) ∧ Below p w W)
    (fun _ _ _ => False)
    (OwnFrom.and (fun s A B row hs hg hr => by
      obtain ⟨v, h1, h2⟩ := hs
      refine ⟨v, blk_grown h1 hg (fun e => ?_), h2.kept hg ?_⟩
      · have := (hr p e.symm).1; omega
      · cases ho : v.ownBlock with
        | none => exact .inl rfl
        | some k =>
          refine .inr (fun e => ?_)
          obtain ⟨cur, hc⟩ := row_cells h2 ho
          obtain ⟨_, o, h3, h4⟩ := hr k e.symm
          rw [hc] at h3; cases h3; cases h4) (ownFrom_below (by omega) (by omega)))
    (fun _ _ _ _ _ hs _ _ => hs)
    ⟨⟨_, b0, World.ownsRow_nil _ _ _ _⟩, hB0⟩
    (fun x a' W => ∃ Bx, p + 1 ≤ Bx ∧ W.heap[Bx]? = some (.cells #[.int .i64 x.f0, .int .i64 x.f1, .string x.f2] 44 (0, 0)) ∧ a' = { tmps := #[.slice none 0 0, .func (.func 37) #[] #[.pointer (some ⟨Bm, 0, none⟩)], .pointer (some ⟨p, 0, none⟩), undef, .slice none 0 0, .pointer (some ⟨Bx, 0, none⟩), .func (.func 37) #[] #[.pointer (some ⟨Bm, 0, none⟩)], (.agg #[.int .i64 x.f0, .int .i64 x.f1, .string x.f2]), undef, undef, undef, undef, undef], defers := [] })
    (fun x a' _ X Y row hs hg hr => by
      obtain ⟨Bx, h1, h2, h3⟩ := hs
      refine ⟨Bx, h1, blk_grown h2 hg (fun e => ?_), h3⟩
      obtain ⟨_, o, h4, h5⟩ := hr Bx e.symm
      rw [h2] at h4; cases h4; cases h5)
    ?assign ?body ?done ?stop
  case assign =>
    rintro l pre x W K ⟨⟨v, h1, h2⟩, h3⟩ hK
    have hsz := h3.size
    have hpl := blk_lt h1
    have hW := hK
    clear hK
    gi_wp2
    refine hW _ _ ((KeepsOthers.alloc _ _).from _) (KeepsWalks.alloc _ _) ⟨⟨v, blk_alloc h1 _, h2.alloc _⟩, h3.alloc (by omega) _⟩ ⟨W.heap.size, by omega, blk_new _ _, rfl⟩
  case body =>
    rintro l pre x a' W hl ⟨r, hr⟩ ⟨⟨v, h1, h2⟩, h3⟩ ⟨Bx, hBx, bX, rfl⟩ hlt
    have hpl := blk_lt h1
    have hsz := h3.size
    have c1 : W.cell? ⟨p, 0, none⟩ = some v := (blk_cell h1 0).trans rfl
    have f1 := blk_frozen h1 0
    have x0 : W.cell? ⟨Bx, 0, none⟩ = some (.int .i64 x.f0) := (blk_cell bX 0).trans rfl
    have x1 : W.cell? ⟨Bx, 1, none⟩ = some (.int .i64 x.f1) := (blk_cell bX 1).trans rfl
    have x2 : W.cell? ⟨Bx, 2, none⟩ = some (.string x.f2) := (blk_cell bX 2).trans rfl
    obtain ⟨i0, hi, hh⟩ := Option.map_eq_some_iff.mp info44
    obtain ⟨hz0, hz1, hz2⟩ : i0.zero = some (.agg #[(.int .i64 0), (.int .i64 0), (.string ⟨#[]⟩)]) ∧ i0.size = 3 ∧ i0.bytes = 32 := by
      simp only [Prod.mk.injEq] at hh; exact hh
    have hH1 := Aside0.mk h1
    have hH2 := Aside0.mk (h2.alloc (.cells #[.int .i64 x.f0, .int .i64 x.f1, .string x.f2] 44))
    have hH3 := Aside0.mk h3
    have hN3 := new3 W 44 (.int .i64 x.f0) (.int .i64 x.f1) (.string x.f2)
    have hOB : Aside0 (∀ k, v.ownBlock = some k → p + 1 ≤ k) := ⟨fun k hk => (h2.lt k hk).1⟩
    have hl1 : pre.length ≤ 100000 := by omega
    clear h1 h2 h3 bX hr hh hlt
    gi_wp2_with (gi_at_builtin; refine wpListIn_append_own_at _ rfl _ _ 28 rfl (p + 1) 44 i0 _ 3 32 Try.underlying28 hi hz0 hz1 hz2 rfl (by decide) v pre.length (cellsI pre) rfl hH2.out ⟨W.heap.size, 0, none⟩ 1 1 [.int .i64 x.f0, .int .i64 x.f1, .string x.f2] rfl rfl hN3 (by intro u hu; simp at hu; rcases hu with rfl | rfl | rfl <;> rfl) (by unfold maxLen; omega) (by omega) (by simp; omega) ?_; intro v' w5 hown' hgrow hnil hloc; obtain ⟨A7, c7, rfl⟩ := own_slice hown'; have b9 := blk_grown (blk_alloc hH1.out _) hgrow (fun e => by have := hOB.out p e.symm; omega); have c9 : w5.cell? ⟨p, 0, none⟩ = some v := (blk_cell b9 0).trans rfl; have f9 := blk_frozen b9 0; have HOwn := Aside0.mk hown'; have HGrow := Aside0.mk hgrow; have HB9 := Aside0.mk b9; clear hown' hgrow hnil hloc b9)
    have hsz3 := hH3.out.size
    have k1 := KeepsOthers.alloc W (.cells #[.int .i64 x.f0, .int .i64 x.f1, .string x.f2] 44)
    have k2 : KeepsOthers (W.alloc (.cells #[.int .i64 x.f0, .int .i64 x.f1, .string x.f2] 44)) w5 := KeepsOthers.of_grownBy HGrow.out (fun j o hj ho => by
      obtain ⟨cur, hc⟩ := row_cells hH2.out hj
      rw [hc] at ho; cases ho; rfl)
    have k3 := (k1.trans k2).trans (KeepsOthers.setCell w5 ⟨p, 0, none⟩ (.slice A7 (pre.length + 1) c7))
    refine ⟨k3.from _, k3.walks, ⟨_, blk_put HB9.out 0 _ rfl, ?_⟩, ?_⟩
    · have e1 : cellsI (pre ++ [x]) = cellsI pre ++ [.int .i64 x.f0, .int .i64 x.f1, .string x.f2] := by rw [cellsI_append]; rfl
      rw [e1, List.length_append, List.length_singleton]
      refine HOwn.out.kept (row := some p) ⟨rfl, rfl, rfl, by simp, fun k _ hk => Below.heap_setCell w5 _ _ k (fun e => hk (by rw [e]))⟩ ?_
      cases ho : (Value.slice A7 ((pre.length + 1 : Nat) : Int).toNat c7).ownBlock with
      | none => exact .inl ho
      | some k =>
        refine .inr (fun e => ?_)
        have := (HOwn.out.lt p e).1
        omega
    · have hb5 : Below p W w5 := ((Below.refl p W).alloc (by omega) _).grown HGrow.out (by simp; omega) (fun k e => by have := hOB.out k e; omega)
      exact (hH3.out.trans hb5).setCell (p := ⟨p, 0, none⟩) (Nat.le_refl _) _
  case done =>
    rintro D zs W hD' hperm ⟨⟨v, h1, h2⟩, h3⟩ hK
    have c1 : W.cell? ⟨p, 0, none⟩ = some v := (blk_cell h1 0).trans rfl
    have hDlt := blk_lt hK
    gi_wp2
    refine ⟨by simp, .inl ⟨_, _, rfl, run_takeDeferred hK, ?_⟩⟩
    have hg := grownBy_putObj' W D (.deferred none)
    refine ⟨_, results_tmp rfl _ _ _, v, zs, rfl, hperm, ?_, ?_⟩
    · rw [hp]
      refine h2.kept hg ?_
      cases ho : v.ownBlock with
      | none => exact .inl rfl
      | some k =>
        refine .inr (fun e => ?_)
        obtain ⟨cur, hc⟩ := row_cells h2 ho
        cases e
        rw [hc] at hK; cases hK
    · rw [hp]
      exact h3.grown hg (by omega) (fun k e => by cases e; omega)
  case stop =>
    rintro D c pre W _ _ h _
    exact h.elim
end Go.Proofs.Ytmnpejoolbipeaa.Given
