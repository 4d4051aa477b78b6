/- ring.Newest, walked by hand. -/
import Derived.Below
import Derived.Deep.Draws
import Derived.Deep.AppendLies
import Derived.Maps.AppendAt
import Derived.OwnWalk
import Derived.Laws.BytesArg
import Derived.Laws.MakeOwn
import Derived.Laws.OwnMore
import Derived.Deep.OwnRows
import Derived.Tactics
import Derived.Lib.ConvBytes
import Derived.Laws.Slices
import Derived.WalkKit
import Derived.KernelRfl
import Derived.RowKit3
import Derived.Deep.LoopGhost
import Derived.Deep.QuietTactic
import Derived.BigQuiet
import Derived.WideLaws
import Derived.Deep.DeepCutAuto
import Derived.Deep.CutBlock
import Derived.Deep.RegionHeld3
import Derived.Laws.Rows
import Derived.Lib.AppendStr
import Derived.ArgAppend
import Derived.Laws.IdiomCopy
import Derived.OrdersHeld
import Derived.Laws.BitsLemmas
import Derived.RowKit
import Derived.Test.YtmnpejoolbipeaaWWords
import Derived.Test.YtmnpejoolbipeaaWLast
import Derived.Test.YtmnpejoolbipeaaWTab
import Derived.Test.YtmnpejoolbipeaaWFour
import Derived.Test.YtmnpejoolbipeaaWQPut
import Derived.Test.YtmnpejoolbipeaaWApart
import Derived.Test.YtmnpejoolbipeaaWArr
import Derived.Test.YtmnpejoolbipeaaWZeros
import Derived.Test.YtmnpejoolbipeaaWFoot
import Derived.Test.YtmnpejoolbipeaaWKept
import Derived.Test.YtmnpejoolbipeaaWShare
import Derived.Test.YtmnpejoolbipeaaWN
import Derived.Test.YtmnpejoolbipeaaWFootNe
import Derived.Test.YtmnpejoolbipeaaWAt
import Derived.Test.YtmnpejoolbipeaaWEqStruct
import Derived.Test.YtmnpejoolbipeaaWRepsOne
import Derived.Test.YtmnpejoolbipeaaWInv
import Derived.Test.YtmnpejoolbipeaaWInvWords
import Derived.Test.YtmnpejoolbipeaaWGuard
import Derived.Test.YtmnpejoolbipeaaWNEv
import Derived.Test.YtmnpejoolbipeaaWMore
import Derived.StillTailTactics
import Derived.Laws.BitsAllLaws
import Derived.Outline
import Derived.Lib.OthersKept
import Derived.Test.YtmnpejoolbipeaaBs
import Derived.Deep.RegionLaw
import Derived.Laws.Externs
import Derived.Lib.SliceRun
import Derived.Lib.Hide
import Derived.RangeFuncMany
import Derived.RangeFuncLeaves
import Derived.RangeFuncWrites
import Derived.Sort.MapsRangeIn
import Derived.Sort.KeysCollected
import Derived.OwnWalkIn
import Derived.TacticsInMore
import Derived.RegionIn
import Derived.LoopNIn
import Derived.LoopIn
import Derived.Maps.OwnIn
import Derived.Maps.OwnOps
import Derived.Maps.Ext
import Derived.Carry
import Derived.RangeFuncBox
import Derived.RangeFuncNested
import Derived.RangeFuncBound
import Derived.RangeFuncCalls
import Derived.Shelf.Abstract
import Derived.OrdersIn
import Derived.RangeFuncIn
import Derived.Test.YtmnpejoolbipeaaRingIter
import Derived.Test.YtmnpejoolbipeaaRingSort
import Derived.Test.YtmnpejoolbipeaaPRix0
namespace Go.Proofs.Ytmnpejoolbipeaa.Given
open Go Go.RowKit Go.Shelf Go.Proofs Go.Proofs.Ytmnpejoolbipeaa.Bs Go.Proofs.Ytmnpejoolbipeaa.PRi Go.Proofs.YtmnpejoolbipeaaW.PrintWords Go.Proofs.YtmnpejoolbipeaaW.PrintLast Go.Proofs.YtmnpejoolbipeaaW.PrintMore
set_option linter.unusedVariables false
set_option linter.unusedSimpArgs false
theorem sort_any (base : Nat) (v : Value) (xs : List S44) (w : World) (hown : w.ownsRow base 44 3 v xs.length (cellsI xs)) (hl : xs.length ≤ 1000000) :
    Calls Try.prog 36 #[v, .func (.func 21) #[] #[]] w fun e w' => e = .returned (.tuple #[]) ∧ ∃ ys : List S44, ys.Perm xs ∧ ys.Pairwise (fun x y => x.f1 ≤ y.f1) ∧ w'.ownsRow base 44 3 v ys.length (cellsI ys) ∧ w.grownBy w' v.ownBlock := by
  have h0 := hown
  obtain ⟨_, ⟨rfl, hn⟩ | ⟨g, cap, cur, rfl, _⟩⟩ := hown
  · refine (sort_nil w).mono ?_
    rintro e w' ⟨rfl, rfl⟩
    obtain rfl := List.eq_nil_of_length_eq_zero hn
    exact ⟨rfl, [], List.Perm.refl _, List.Pairwise.nil, h0, World.grownBy.refl _ _⟩
  · refine (sort_row base g cap xs w h0 hl).mono ?_
    rintro e w' ⟨he, ys, h1, h2, h3, h4⟩
    rw [h1.length_eq] at h3
    exact ⟨he, ys, h1, h2, by rw [h1.length_eq]; exact h3, h4⟩
theorem row_lower {w : World} {base base' e n : Nat} {v : Value} {xs : List Value} {size : Nat} (h : w.ownsRow base e size v n xs) (hb : base' ≤ base) : w.ownsRow base' e size v n xs := by
  obtain ⟨h1, h2 | ⟨g, cap, cur, a, b, c⟩⟩ := h
  · exact ⟨h1, .inl h2⟩
  · exact ⟨h1, .inr ⟨g, cap, cur, a, Nat.le_trans hb b, c⟩⟩
set_option maxHeartbeats 1000000 in
theorem collect_calls (Bm b nn : Nat) (D0 : DataW S44) (m : List S44) (hD : MapIs D0 m) (hup : m.Pairwise (fun a b => a.f1 < b.f1)) (hnn : nn ≤ 100000) (w : World) (hBm : Bm < w.heap.size)
    (hm : w.cell? ⟨Bm, 0, none⟩ = some (.map (some b))) (hown : w.ownsMap Try.prog 3 elemI b nn D0) :
    Calls Try.prog 35 #[.func (.func 37) #[] #[.pointer (some ⟨Bm, 0, none⟩)]] w fun e w' => ∃ v xs, e = .returned v ∧ xs.Perm m ∧ w'.ownsRow (w.heap.size + 1) 44 3 v xs.length (cellsI xs) ∧ Below w.heap.size w w' := by
  have HA := Aside0.mk (appseq_calls Bm b nn D0 m hD hup hnn w hBm hm hown)
  clear hm hown hD
  go_enter Try.func35, Try.ntmps35
  go_wp2_with (go_at_call 50; refine HA.out.mono ?_; rintro e w' ⟨v, xs, rfl, hp, ho, hb⟩; have HR := Aside0.mk (And.intro hp (And.intro ho hb)); obtain ⟨A7, c7, rfl⟩ := own_slice ho; clear hp ho hb)
  go_ret
  exact ⟨_, xs, rfl, HR.out.1, HR.out.2.1, HR.out.2.2⟩
set_option maxHeartbeats 1000000 in
theorem sorted_calls (Bm b nn : Nat) (D0 : DataW S44) (m : List S44) (hD : MapIs D0 m) (hup : m.Pairwise (fun a b => a.f1 < b.f1)) (hml : m.length ≤ 100000) (hnn : nn ≤ 100000) (w : World) (hBm : Bm < w.heap.size)
    (hm : w.cell? ⟨Bm, 0, none⟩ = some (.map (some b))) (hown : w.ownsMap Try.prog 3 elemI b nn D0) :
    Calls Try.prog 19 #[.func (.func 37) #[] #[.pointer (some ⟨Bm, 0, none⟩)], .func (.func 21) #[] #[]] w fun e w' => ∃ v, e = .returned v ∧ w'.ownsRow w.heap.size 44 3 v m.length (cellsI m) ∧ Below w.heap.size w w' := by
  have HA := Aside0.mk (collect_calls Bm b nn D0 m hD hup hnn w hBm hm hown)
  clear hm hown hD
  go_enter Try.func19, Try.ntmps19
  go_wp2_with (first
    | (go_at_call 35; refine HA.out.mono ?_; rintro e w1 ⟨v, xs, rfl, hp, ho, hb⟩; have HP := Aside0.mk hp; have HO := Aside0.mk ho; have HB := Aside0.mk hb; obtain ⟨A7, c7, hv⟩ := own_slice ho; have HV := Aside0.mk hv; subst hv; clear hp ho hb)
    | (go_at_call 36; refine (sort_any _ _ xs _ HO.out (by rw [HP.out.length_eq]; omega)).mono ?_; rintro e w2 ⟨rfl, ys, hp2, hs2, ho2, hg2⟩))
  go_ret
  obtain rfl := up_perm hs2 hup (hp2.trans HP.out)
  refine ⟨_, rfl, ?_, ?_⟩
  · exact row_lower ho2 (Nat.le_succ _)
  · exact HB.out.trans ((Below.refl _ w1).grown hg2 HB.out.size (fun k e => by have := (HO.out.lt k e).1; omega))
/-- 'y, is := m[s]' at the map of intents. -/
theorem lookI {w : World} {ops : Array Oper} {rest : List Oper} {o : Oper} {a : Act} {Q : Exit → Act → World → Prop} (hg : o.guard = none) (mm x : Operand) (hop : o.op = Op.lookup 47 mm x true) (b n : Nat) (D : DataW S44)
    (hm : a.eval mm = .map (some b)) (hown : w.ownsMap Try.prog 3 elemI b n D) (s : Int) (hx : a.eval x = .int .i64 s) (hs : (Lit.int .i64 s).wf = true) (y : S44) (is : Bool) (hy : D.atKey (.int .i64 s) (.held z44) = .held y) (his : Maps.has D (.int .i64 s) = is)
    (hK : wpList Try.prog ops Q rest (a.put o.dst (.tuple #[.agg #[.int .i64 y.f0, .int .i64 y.f1, .string y.f2], .bool is])) w) : wpList Try.prog ops Q (o :: rest) a w := by
  refine wpList_lookup_own_ok w hg mm x 47 hop 3 44 keyedI Try.underlying47 elemI (Try.zeroValue44 w) (.held z44) [] (elemI_mk z44) b n D hm hown _ _ hx (Maps.keyOf_int_mk Try.underlying3 hs) (fun v ps hv => ?_)
  obtain ⟨y', rfl, e⟩ := elemI_inv hv
  have e2 := congrArg Prod.fst e
  dsimp only at e2
  rw [hy] at e2
  cases e2
  rw [his]
  exact hK
theorem isKeyI (s : Int) (hs : (Lit.int .i64 s).wf = true) : WideAt.IsKeyLit (.int .i64 s) := keyedI.key (Maps.keyOf_int_mk Try.underlying3 hs)
set_option maxHeartbeats 4000000 in
set_option maxRecDepth 100000 in
theorem newest_walk (A : Option Addr) (c : Nat) (l : List S44) (w : World) (hr : Kd.C k44 w A l.length l) (hl : l.length ≤ 100000) (hwf : ∀ x ∈ l, (Lit.int .i64 x.f1).wf = true) :
    Calls Try.prog 11 #[.slice A l.length c] w fun e w' => ∃ v, e = .returned v ∧ Kd.R k44 44 w' w.heap.size (fun _ => True) v (newestL l) ∧ Below w.heap.size w w' := by
  have HR := Aside0.mk hr
  have HL := Aside0.mk hl
  have HW := Aside0.mk hwf
  clear hr hl hwf
  have hu := Try.underlying44
  have hmm := @run_makeMap Try.prog
  go_enter Try.func11, Try.ntmps11
  go_wp2
  obtain ⟨B, hB⟩ : ∃ B, w.heap.size = B := ⟨_, rfl⟩
  have hm0 := World.ownsMap_made w Try.prog 3 elemI
  have hB0 : Below B w (w.alloc (.map #[] 0)) := by rw [← hB]; exact (Below.refl _ w).alloc (Nat.le_refl _) _
  rw [hB] at hm0
  simp only [hB]
  have HM0 := Aside0.mk hm0
  have HB0 := Aside0.mk hB0
  clear hm0 hB0 hmm
  generalize w.alloc (.map #[] 0) = W0 at HM0 HB0 ⊢
  go_loopw [11] (fun u11 wr => ∃ (i : Nat), u11 = .int .i64 (i : Int) ∧ i ≤ l.length ∧ Aside0 (∃ D, MapIs D (newestL (l.take i)) ∧ wr.ownsMap Try.prog 3 elemI B i D) ∧ Aside0 (Below B w wr)) (fun u11 _ => l.length - (intOf u11).toNat)
  case atStart => exact ⟨0, rfl, by omega, ⟨_, MapIs.start, HM0.out⟩, HB0⟩
  case round =>
    obtain ⟨i, rfl, hi, HD, HBw⟩ := hrel
    clear HM0 HB0
    obtain ⟨D, hD, hown⟩ := HD.out
    clear HD
    have hup := newestL_up (l.take i)
    by_cases hlt : i < l.length
    · obtain ⟨x, hx⟩ : ∃ x, x = rd_T44 l (i : Int) := ⟨_, rfl⟩
      have hgx : rd_T44 l (i : Int) = l[i] := by
        unfold rd_T44; rw [Int.toNat_natCast, List.getD_eq_getElem?_getD, List.getElem?_eq_getElem hlt]; rfl
      have hsx : (Lit.int .i64 x.f1).wf = true := HW.out x (by rw [hx, hgx]; exact List.getElem_mem hlt)
      have htk : newestL (l.take (i + 1)) = insI x (newestL (l.take i)) := by
        rw [List.take_succ_eq_append_getElem hlt, newestL_snoc, hx, hgx]
      obtain ⟨ad, e1, hx0, hx1, hx2⟩ := at_T44 (Kd.C_below HR.out (by rw [hB]; exact HBw.out)) (i : Int) (by omega) (by omega)
      cases e1
      rw [← hx] at hx0 hx1 hx2
      have hi6 : i < 100000 := by have := HL.out; omega
      have HLT := Aside0.mk hlt
      clear hx hgx
      simp only [Int.toNat_natCast] at hx0 hx1 hx2
      have c1 : decide ((i : Int) < (l.length : Int)) = true := decide_eq_true (by omega)
      have c2 : decide (i < l.length) = true := decide_eq_true hlt
      have p1 : decide (0 ≤ (i : Int)) = true := decide_eq_true (by omega)
      have HT := Aside0.mk htk
      have hkl := isKeyI x.f1 hsx
      clear htk
      cases ha : atI (newestL (l.take i)) x.f1 with
      | none =>
        have his : Maps.has D (.int .i64 x.f1) = false := by rw [hD.has, ha]; rfl
        have hy := Maps.atKey_of_not_has his (.held z44)
        have HP := Aside0.mk (hD.put hup x hkl (fun y h => by rw [ha] at h; cases h))
        have HO := Aside0.mk hown
        have HY := Aside0.mk (And.intro hy his)
        clear ha hy his hD hown hup hkl
        go_wp2_with (first
          | (at_lookup; refine lookI rfl _ _ rfl B i D rfl ((HO.out).alloc _) x.f1 rfl hsx z44 false HY.out.1 HY.out.2 ?_)
          | (at_mapUpdate; refine wpList_mapUpdate_own _ rfl _ _ _ 47 rfl 3 44 keyedI Try.underlying47 elemI B i D rfl ((HO.out.alloc _).alloc _) (by unfold maxLen; omega) _ _ (.int .i64 x.f1) rfl rfl (Maps.keyOf_int_mk Try.underlying3 hsx) (.held x) [] (elemI_mk x) ?_; intro w1 hown1 hgrow1)
          | go_in)
        go_roundw
        case rel => exact ⟨i + 1, by go_num, by omega, ⟨_, by rw [HT.out]; exact HP.out, hown1⟩, ⟨HBw.out.trans ((((Below.refl B wr).alloc (by have := HBw.out.size; omega) _).alloc (by have := HBw.out.size; simp; omega) _).grown hgrow1 (by have := HBw.out.size; simp; omega) (fun k e => by cases e; exact Nat.le_refl _))⟩⟩
        case measure => simp [intOf]; omega
      | some y =>
        have his : Maps.has D (.int .i64 x.f1) = true := by rw [hD.has, ha]; rfl
        have hy := hD.at_ _ _ ha (.held z44)
        have HO := Aside0.mk hown
        have HY := Aside0.mk (And.intro hy his)
        by_cases hc : x.f0 > y.f0
        · have HP := Aside0.mk (hD.put hup x hkl (fun y' h => by rw [ha] at h; cases h; exact hc))
          have d1 : decide (y.f0 < x.f0) = true := decide_eq_true hc
          clear ha hy his hD hown hup hkl hc
          go_wp2_with (first
            | (at_lookup; refine lookI rfl _ _ rfl B i D rfl ((HO.out).alloc _) x.f1 rfl hsx y true HY.out.1 HY.out.2 ?_)
            | (at_mapUpdate; refine wpList_mapUpdate_own _ rfl _ _ _ 47 rfl 3 44 keyedI Try.underlying47 elemI B i D rfl ((HO.out.alloc _).alloc _) (by unfold maxLen; omega) _ _ (.int .i64 x.f1) rfl rfl (Maps.keyOf_int_mk Try.underlying3 hsx) (.held x) [] (elemI_mk x) ?_; intro w1 hown1 hgrow1)
            | go_in)
          go_roundw
          case rel => exact ⟨i + 1, by go_num, by omega, ⟨_, by rw [HT.out]; exact HP.out, hown1⟩, ⟨HBw.out.trans ((((Below.refl B wr).alloc (by have := HBw.out.size; omega) _).alloc (by have := HBw.out.size; simp; omega) _).grown hgrow1 (by have := HBw.out.size; simp; omega) (fun k e => by cases e; exact Nat.le_refl _))⟩⟩
          case measure => simp [intOf]; omega
        · have HP := Aside0.mk (hD.keep hup x y ha hc)
          have d1 : decide (y.f0 < x.f0) = false := decide_eq_false hc
          clear ha hy his hD hown hup hkl hc
          go_wp2_with (first
            | (at_lookup; refine lookI rfl _ _ rfl B i D rfl ((HO.out).alloc _) x.f1 rfl hsx y true HY.out.1 HY.out.2 ?_)
            | go_in)
          go_roundw
          case rel => exact ⟨i + 1, by go_num, by omega, ⟨_, by rw [HT.out]; exact HP.out, ((HO.out.mono (Nat.le_succ _)).alloc _).alloc _⟩, ⟨HBw.out.trans (((Below.refl B wr).alloc (by have := HBw.out.size; omega) _).alloc (by have := HBw.out.size; simp; omega) _)⟩⟩
          case measure => simp [intOf]; omega
    · have hil : i = l.length := by omega
      subst hil
      rw [List.take_length] at hD hup
      have hsz := HBw.out.size
      have HS := Aside0.mk (sorted_calls wr.heap.size B l.length D (newestL l) hD hup (by have := newestL_len l; have := HL.out; omega) HL.out (wr.alloc (.cells #[.map (some B)] 47)) (by simp) ((blk_cell (blk_new _ _) 0).trans rfl) (hown.alloc _))
      have c1 : decide ((l.length : Int) < (l.length : Int)) = false := decide_eq_false (by omega)
      have c2 : decide (l.length < l.length) = false := decide_eq_false (by omega)
      clear hD hown hup hi
      go_wp2_with (first
        | (go_at_call 20; refine (vals_calls _ _).mono ?_; rintro e w' ⟨rfl, rfl⟩)
        | (go_at_call 19; refine HS.out.mono ?_; rintro e w2 ⟨v, rfl, ho2, hb2⟩; have HO2 := Aside0.mk ho2; obtain ⟨A7, c7, rfl⟩ := own_slice ho2; clear ho2))
      go_ret
      simp only [World.size_alloc] at hb2
      refine ⟨_, rfl, ⟨fun _ _ => trivial, cellsI (newestL l), row_lower HO2.out (by simp; omega), reps_cellsI _ _ _ _⟩, ?_⟩
      rw [hB]
      exact HBw.out.trans (((Below.refl B wr).alloc (by omega) _).trans (hb2.mono (by omega)))
def ring_Newest.f (l : List S44) : Option (List S44) := if l.length ≤ 100000 ∧ (l.all fun x => (Lit.int .i64 x.f1).wf) = true then some (newestL l) else none
theorem ring_Newest.calls (A0 : Option Addr) (c0 : Nat) (l0 : List S44) (r : List S44) (w : World) (hr0 : Kd.C k44 w A0 l0.length l0) (hc0 : l0.length ≤ c0) (h : ring_Newest.f l0 = some r) :
    Calls Try.prog 11 #[.slice A0 l0.length c0] w fun e w' => ∃ v0_ : Value, e = .returned (v0_) ∧ Kd.R k44 44 w' w.heap.size (fun _ => True) v0_ r ∧ Below w.heap.size w w' := by
  unfold ring_Newest.f at h
  split at h
  · rename_i hc
    cases h
    exact newest_walk A0 c0 l0 w hr0 hc.1 (fun x hx => List.all_eq_true.1 hc.2 x hx)
  · cases h
end Go.Proofs.Ytmnpejoolbipeaa.Given
