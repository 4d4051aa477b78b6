/- ring.Next, walked by hand. -/
import Derived.Below
import Derived.Deep.Draws
import Derived.Deep.AppendLies
import Derived.Maps.AppendAt
import Derived.OwnWalk
import Derived.Laws.BytesArg
import Derived.Laws.MakeOwn
import Derived.Laws.OwnMore
import Derived.Deep.OwnRows
import Derived.Tactics
import Derived.Lib.ConvBytes
import Derived.Laws.Slices
import Derived.WalkKit
import Derived.KernelRfl
import Derived.RowKit3
import Derived.Deep.LoopGhost
import Derived.Deep.QuietTactic
import Derived.BigQuiet
import Derived.WideLaws
import Derived.Deep.DeepCutAuto
import Derived.Deep.CutBlock
import Derived.Deep.RegionHeld3
import Derived.Laws.Rows
import Derived.Lib.AppendStr
import Derived.ArgAppend
import Derived.Laws.IdiomCopy
import Derived.OrdersHeld
import Derived.Laws.BitsLemmas
import Derived.RowKit
import Derived.Test.YtmnpejoolbipeaaWWords
import Derived.Test.YtmnpejoolbipeaaWLast
import Derived.Test.YtmnpejoolbipeaaWTab
import Derived.Test.YtmnpejoolbipeaaWFour
import Derived.Test.YtmnpejoolbipeaaWQPut
import Derived.Test.YtmnpejoolbipeaaWApart
import Derived.Test.YtmnpejoolbipeaaWArr
import Derived.Test.YtmnpejoolbipeaaWZeros
import Derived.Test.YtmnpejoolbipeaaWFoot
import Derived.Test.YtmnpejoolbipeaaWKept
import Derived.Test.YtmnpejoolbipeaaWShare
import Derived.Test.YtmnpejoolbipeaaWN
import Derived.Test.YtmnpejoolbipeaaWFootNe
import Derived.Test.YtmnpejoolbipeaaWAt
import Derived.Test.YtmnpejoolbipeaaWEqStruct
import Derived.Test.YtmnpejoolbipeaaWRepsOne
import Derived.Test.YtmnpejoolbipeaaWInv
import Derived.Test.YtmnpejoolbipeaaWInvWords
import Derived.Test.YtmnpejoolbipeaaWGuard
import Derived.Test.YtmnpejoolbipeaaWNEv
import Derived.Test.YtmnpejoolbipeaaWMore
import Derived.StillTailTactics
import Derived.Laws.BitsAllLaws
import Derived.Outline
import Derived.Lib.OthersKept
import Derived.Test.YtmnpejoolbipeaaBs
import Derived.Deep.RegionLaw
import Derived.Laws.Externs
import Derived.Lib.SliceRun
import Derived.Lib.Hide
import Derived.Test.YtmnpejoolbipeaaPRix0
namespace Go.Proofs.Ytmnpejoolbipeaa.Given
open Go.RowKit Go.Proofs Go.Proofs.Ytmnpejoolbipeaa.Bs Go.Proofs.Ytmnpejoolbipeaa.PRi Go.Proofs.YtmnpejoolbipeaaW.PrintWords Go.Proofs.YtmnpejoolbipeaaW.PrintLast Go.Proofs.YtmnpejoolbipeaaW.PrintMore
set_option linter.unusedVariables false
set_option linter.unusedSimpArgs false
def cmpI (a b : Int) : Int := if a < b then -1 else if b < a then 1 else 0
set_option maxHeartbeats 1000000 in
theorem isNaN_calls (a : Int) (w : World) : Calls Try.prog 38 #[.int .i64 a] w fun e w' => e = .returned (.bool false) ∧ w' = w := by
  go_enter Try.func38, Try.ntmps38
  have h0 : (a != a) = false := bne_eq_false_iff_eq.mpr rfl
  go_wp2
  go_ret
  exact ⟨rfl, rfl⟩
set_option maxHeartbeats 1000000 in
theorem cmpI_calls (a b : Int) (w : World) : Calls Try.prog 22 #[.int .i64 a, .int .i64 b] w fun e w' => e = .returned (.int .i64 (cmpI a b)) ∧ w' = w := by
  unfold cmpI
  by_cases c1 : a < b
  · rw [if_pos c1]
    have d1 : decide (a < b) = true := decide_eq_true c1
    go_enter Try.func22, Try.ntmps22
    go_wp2_with (go_at_call 38; refine (isNaN_calls _ _).mono ?_; rintro e w' ⟨rfl, rfl⟩)
    go_ret
    exact ⟨rfl, rfl⟩
  · rw [if_neg c1]
    have d1 : decide (a < b) = false := decide_eq_false c1
    by_cases c2 : b < a
    · rw [if_pos c2]
      have d2 : decide (b < a) = true := decide_eq_true c2
      go_enter Try.func22, Try.ntmps22
      go_wp2_with (go_at_call 38; refine (isNaN_calls _ _).mono ?_; rintro e w' ⟨rfl, rfl⟩)
      go_ret
      exact ⟨rfl, rfl⟩
    · rw [if_neg c2]
      have d2 : decide (b < a) = false := decide_eq_false c2
      go_enter Try.func22, Try.ntmps22
      go_wp2_with (go_at_call 38; refine (isNaN_calls _ _).mono ?_; rintro e w' ⟨rfl, rfl⟩)
      go_ret
      exact ⟨rfl, rfl⟩
set_option maxHeartbeats 1000000 in
theorem next1_calls (p q : S44) (w : World) : Calls Try.prog 25 #[.agg #[.int .i64 p.f0, .int .i64 p.f1, .string p.f2], .agg #[.int .i64 q.f0, .int .i64 q.f1, .string q.f2]] w fun e w' => e = .returned (.int .i64 (cmpI p.f0 q.f0)) ∧ Below w.heap.size w w' := by
  have hu := Try.underlying44
  go_enter Try.func25, Try.ntmps25
  go_wp2_with (go_at_call 22; refine (cmpI_calls _ _ _).mono ?_; rintro e w' ⟨rfl, rfl⟩)
  go_ret
  exact ⟨rfl, by repeat (first | exact Below.refl _ _ | apply below_alloc)⟩
set_option maxHeartbeats 1000000 in
theorem newest1_calls (p q : S44) (w : World) : Calls Try.prog 21 #[.agg #[.int .i64 p.f0, .int .i64 p.f1, .string p.f2], .agg #[.int .i64 q.f0, .int .i64 q.f1, .string q.f2]] w fun e w' => e = .returned (.int .i64 (cmpI p.f1 q.f1)) ∧ Below w.heap.size w w' := by
  have hu := Try.underlying44
  go_enter Try.func21, Try.ntmps21
  go_wp2_with (go_at_call 22; refine (cmpI_calls _ _ _).mono ?_; rintro e w' ⟨rfl, rfl⟩)
  go_ret
  exact ⟨rfl, by repeat (first | exact Below.refl _ _ | apply below_alloc)⟩
/-- A call of a value that is a plain Go function, by its contract, in a drawn region. -/
theorem goesV_ {P : Program} {ops : Array Oper} {Q : Exit → Act → World → Prop} {oi : Oper} {N : Option Tmp} {a : Act} {w : World} {K : Act → World → Prop} {f : FuncId} {fn : Func} {as_ : Array Operand} {ts : Array TypeId} (x : Operand) (hx : a.eval x = .func (.func f) #[] #[]) (hf : P.funcs[f]? = some fn) (hname : (fn.name == "runtime.NumGoroutine") = false) (hb : fn.body.isSome = true) (args : Array Value)
    (hw : Region.wanted oi (yielded ops a.tmps) = true) (hN : oi.dst = N) (hop : oi.op = .call { callee := .value x, args := as_, argTypes := ts }) (hargs : as_.map a.eval = args)
    (h : Calls P f args w fun e w' => ∃ v, e = .returned v ∧ K (a.put N v) w') : if Region.wanted oi (yielded ops a.tmps) = true then Oper.wp P oi a w K Q else K (a.put N undef) w := by
  refine call_ f args hw hN ?_ h
  have he := enters_ hf hname hb args w
  unfold execOp
  simp [hop, resolve, hx, Deferred.ofValue, invoke, hargs, he]
theorem far_ {w : World} {g : Nat} {o : Obj} (h : w.heap[g]? = some o) {p : Addr} (hp : g ≠ p.block) (u : Value) : (w.setCell p u).heap[g]? = some o := (Below.heap_setCell w p u g hp).trans h
def max7.T : Bool × List (List Nat × List Nat) := (true, [([], []), ([], []), ([], []), ([1, 2], [1, 2]), ([3], [3]), ([], []), ([0, 4, 5], [0, 4, 5]), ([6], [6])])
def max7.B : List Nat := [0, 0, 0, 6, 14, 0, 63, 127]
theorem max7.tab : rtab .any (opsOf Try.f24 7) = max7.T := by kernel_rfl
theorem max7.bits : waitsOk max7.T.2 max7.B = true := by kernel_rfl
def maxF : List S44 → S44 → S44
  | [], m => m
  | x :: l, m => maxF l (if cmpI x.f0 m.f0 > 0 then x else m)
set_option maxHeartbeats 4000000 in
set_option maxRecDepth 100000 in
theorem max_calls (A : Option Addr) (c : Nat) (l : List S44) (w : World) (hr : Kd.C k44 w A l.length l) (hl : l.length ≤ 1000000) (h0 : 0 < l.length) :
    Calls Try.prog 24 #[.slice A l.length c, .func (.func 25) #[] #[]] w fun e w' => e = .returned (.agg #[.int .i64 (maxF (l.drop 1) (rd_T44 l 0)).f0, .int .i64 (maxF (l.drop 1) (rd_T44 l 0)).f1, .string (maxF (l.drop 1) (rd_T44 l 0)).f2]) ∧ Below w.heap.size w w' := by
  have HR := Aside0.mk hr
  have HL := Aside0.mk hl
  obtain ⟨ad0, e0, hx0, hx1, hx2⟩ := at_T44 hr 0 (by omega) (by omega)
  cases e0
  clear hr hl
  have hlt0 := World.block_lt_of_cell? w _ hx0
  have hlt1 := World.block_lt_of_cell? w _ hx1
  have hlt2 := World.block_lt_of_cell? w _ hx2
  replace hx0 := (World.cell?_alloc_lt w (.cells #[.int .i64 0, .int .i64 0, .string ⟨#[]⟩] 44) _ hlt0).trans hx0
  replace hx1 := (World.cell?_alloc_lt w (.cells #[.int .i64 0, .int .i64 0, .string ⟨#[]⟩] 44) _ hlt1).trans hx1
  replace hx2 := (World.cell?_alloc_lt w (.cells #[.int .i64 0, .int .i64 0, .string ⟨#[]⟩] 44) _ hlt2).trans hx2
  have ha0 : ad0.add 0 = ad0 := by cases ad0; simp [Addr.add]
  simp only [Int.toNat_zero, Nat.zero_mul, Nat.zero_add, ha0] at hx0 hx1 hx2
  have hu := Try.underlying44
  obtain ⟨m0, hm0⟩ : ∃ m0, m0 = rd_T44 l 0 := ⟨_, rfl⟩
  rw [← hm0] at hx0 hx1 hx2 ⊢
  obtain ⟨R, hR⟩ : ∃ R, R = maxF (l.drop 1) m0 := ⟨_, rfl⟩
  rw [← hR]
  have HRr := Aside0.mk hR
  clear hR hm0
  have c1 : decide ((l.length : Int) < 1) = false := decide_eq_false (by omega)
  have c2 : decide ((0 : Int) < (l.length : Int)) = true := decide_eq_true (by omega)
  go_enter Try.func24, Try.ntmps24
  go_wp2
  have HB0 : Aside0 (Below w.heap.size w ((w.alloc (.cells #[.int .i64 0, .int .i64 0, .string ⟨#[]⟩] 44)).alloc (.cells #[.int .i64 m0.f0, .int .i64 m0.f1, .string m0.f2] 44))) := ⟨by repeat (first | exact Below.refl _ _ | apply below_alloc)⟩
  have BZ0 : Aside0 (((w.alloc (.cells #[.int .i64 0, .int .i64 0, .string ⟨#[]⟩] 44)).alloc (.cells #[.int .i64 m0.f0, .int .i64 m0.f1, .string m0.f2] 44)).heap[w.heap.size]? = some (.cells #[.int .i64 0, .int .i64 0, .string ⟨#[]⟩] 44 (0, 0))) := ⟨blk_alloc (blk_new w (.cells #[.int .i64 0, .int .i64 0, .string ⟨#[]⟩] 44)) (.cells #[.int .i64 m0.f0, .int .i64 m0.f1, .string m0.f2] 44)⟩
  have BM0 : Aside0 (((w.alloc (.cells #[.int .i64 0, .int .i64 0, .string ⟨#[]⟩] 44)).alloc (.cells #[.int .i64 m0.f0, .int .i64 m0.f1, .string m0.f2] 44)).heap[w.heap.size + 1]? = some (.cells #[.int .i64 m0.f0, .int .i64 m0.f1, .string m0.f2] 44 (0, 0))) := ⟨by simpa using blk_new (w.alloc (.cells #[.int .i64 0, .int .i64 0, .string ⟨#[]⟩] 44)) (.cells #[.int .i64 m0.f0, .int .i64 m0.f1, .string m0.f2] 44)⟩
  clear hx0 hx1 hx2 hlt0 hlt1 hlt2 ha0 c1 c2
  generalize (w.alloc (.cells #[.int .i64 0, .int .i64 0, .string ⟨#[]⟩] 44)).alloc (.cells #[.int .i64 m0.f0, .int .i64 m0.f1, .string m0.f2] 44) = W1 at HB0 BZ0 BM0 ⊢
  go_loopw [6] (fun u6 wr => ∃ (i : Nat) (m : S44), u6 = .int .i64 (i : Int) ∧ Aside0 (1 ≤ i ∧ i ≤ l.length ∧ maxF (l.drop i) m = R) ∧ Aside0 (wr.heap[w.heap.size]? = some (.cells #[.int .i64 0, .int .i64 0, .string ⟨#[]⟩] 44 (0, 0))) ∧ Aside0 (wr.heap[w.heap.size + 1]? = some (.cells #[.int .i64 m.f0, .int .i64 m.f1, .string m.f2] 44 (0, 0))) ∧ Aside0 (Below w.heap.size w wr)) (fun u6 _ => l.length - (intOf u6).toNat)
  case atStart => exact ⟨1, m0, rfl, ⟨by omega, by omega, HRr.out.symm⟩, BZ0, BM0, HB0⟩
  case round =>
    obtain ⟨i, m, rfl, HI, BZ, BM, HB⟩ := hrel
    obtain ⟨i1, i2, i3⟩ := HI.out
    clear HI HRr BZ0 BM0 HB0
    have i4 := HL.out
    have hm0 : wr.cell? ⟨w.heap.size + 1, 0, none⟩ = some (.int .i64 m.f0) := (blk_cell BM.out 0).trans rfl
    have hm1 : wr.cell? ⟨w.heap.size + 1, 1, none⟩ = some (.int .i64 m.f1) := (blk_cell BM.out 1).trans rfl
    have hm2 : wr.cell? ⟨w.heap.size + 1, 2, none⟩ = some (.string m.f2) := (blk_cell BM.out 2).trans rfl
    by_cases hlt : i < l.length
    · obtain ⟨x, hx⟩ : ∃ x, x = rd_T44 l (i : Int) := ⟨_, rfl⟩
      have hd : l.drop i = x :: l.drop (i + 1) := by
        rw [List.drop_eq_getElem_cons hlt, hx]
        congr 1
        unfold rd_T44; rw [Int.toNat_natCast, List.getD_eq_getElem?_getD, List.getElem?_eq_getElem hlt]; rfl
      rw [hd, maxF] at i3
      obtain ⟨ad, e1, hx0, hx1, hx2⟩ := at_T44 (Kd.C_below HR.out HB.out) (i : Int) (by omega) (by omega)
      cases e1
      rw [← hx] at hx0 hx1 hx2
      clear hx hd
      simp only [Int.toNat_natCast] at hx0 hx1 hx2
      have c1 : decide ((i : Int) < (l.length : Int)) = true := decide_eq_true (by omega)
      have c2 : decide (i < l.length) = true := decide_eq_true hlt
      have p1 : decide (0 ≤ (i : Int)) = true := decide_eq_true (by omega)
      have I3 := Aside0.mk i3
      clear i3
      by_cases hc : cmpI x.f0 m.f0 > 0
      · have d1 : decide (0 < cmpI x.f0 m.f0) = true := decide_eq_true hc
        have I5 : Aside0 (maxF (l.drop (i + 1)) x = R) := ⟨by have := I3.out; rw [if_pos hc] at this; exact this⟩
        clear hc I3
        go_upto_region 7 with (fail)
        refine start_ (n := 8) (S := fun w' => w'.cell? (ad0.add (i * 3)) = some (.int .i64 x.f0) ∧ w'.cell? { block := (ad0.add (i * 3)).block, off := (ad0.add (i * 3)).off + 1 } = some (.int .i64 x.f1) ∧ w'.cell? { block := (ad0.add (i * 3)).block, off := (ad0.add (i * 3)).off + 2 } = some (.string x.f2) ∧ w'.cell? ⟨w.heap.size + 1, 0, none⟩ = some (.int .i64 m.f0) ∧ w'.cell? ⟨w.heap.size + 1, 1, none⟩ = some (.int .i64 m.f1) ∧ w'.cell? ⟨w.heap.size + 1, 2, none⟩ = some (.string m.f2)) (ds := [7]) #[false, false, false, false, false, false, false, false] (by kernel_rfl) rfl rfl ⟨hx0, hx1, hx2, hm0, hm1, hm2⟩ (fun hHeld => ?_)
        refine with_tabW max7.tab max7.bits (fun HT_ HW_ => ?_)
        have BM1 := Aside0.mk (blk_drew BM.out)
        have BZ1 := Aside0.mk (blk_drew BZ.out)
        have HB1 := Aside0.mk (below_drew1 HB.out)
        clear BM BZ HB hm0 hm1 hm2
        generalize wr.drew = w1 at BM1 BZ1 HB1 hHeld ⊢
        refine pure_ (i := 0) (N := some 20) (v := ?_) (a' := ?_) #[true, false, false, false, false, false, false, false] rfl rfl (any_of HT_.out (by kernel_rfl)) (fun _ _ _ h => h) (Or.inl ⟨by rfl, ?_⟩) ?_ ?_
        rotate_left
        · intro w'
          go_simp
          with_reducible rfl
        rotate_left
        · simp only [Act.put, List.setIfInBounds_toArray, List.set_cons_zero, List.set_cons_succ, i64_w, i32_w]
          rfl
        refine pure_ (i := 1) (N := some 21) (v := ?_) (a' := ?_) #[true, true, false, false, false, false, false, false] rfl rfl (any_of HT_.out (by kernel_rfl)) (fun _ _ _ h => h) (Or.inl ⟨by rfl, ?_⟩) ?_ ?_
        rotate_left
        · intro w'
          go_simp
          with_reducible rfl
        rotate_left
        · simp only [Act.put, List.setIfInBounds_toArray, List.set_cons_zero, List.set_cons_succ, i64_w, i32_w]
          rfl
        refine pure_ (i := 2) (N := some 22) (v := ?_) (a' := ?_) #[true, true, true, false, false, false, false, false] rfl rfl (any_of HT_.out (by kernel_rfl)) (fun _ _ _ h => h) (Or.inl ⟨by rfl, ?_⟩) ?_ ?_
        rotate_left
        · intro w'
          go_simp
          with_reducible rfl
        rotate_left
        · simp only [Act.put, List.setIfInBounds_toArray, List.set_cons_zero, List.set_cons_succ, i64_w, i32_w]
          rfl
        refine pure_ (i := 3) (N := some 23) (v := ?_) (a' := ?_) #[true, true, true, true, false, false, false, false] rfl rfl (any_of HT_.out (by kernel_rfl)) (fun _ _ _ h => h) (Or.inl ⟨by rfl, ?_⟩) ?_ ?_
        rotate_left
        · intro w'
          go_simp
          with_reducible rfl
        rotate_left
        · simp only [Act.put, List.setIfInBounds_toArray, List.set_cons_zero, List.set_cons_succ, i64_w, i32_w]
          rfl
        refine take_ (i := 4) (N := some 24) (v := ?_) (a' := ?_) #[true, true, true, true, true, false, false, false] rfl rfl (take_ofW HT_.out HW_.out (by kernel_rfl)) (fun _ _ _ h => h) (Or.inl ⟨by rfl, ?_⟩) hHeld ?_ ?_
        rotate_left
        · rintro w' ⟨s0, s1, s2, s3, s4, s5⟩
          go_simp
          with_reducible rfl
        rotate_left
        · simp only [Act.put, List.setIfInBounds_toArray, List.set_cons_zero, List.set_cons_succ, i64_w, i32_w]
          rfl
        refine take_ (i := 5) (N := some 25) (v := ?_) (a' := ?_) #[true, true, true, true, true, true, false, false] rfl rfl (take_ofW HT_.out HW_.out (by kernel_rfl)) (fun _ _ _ h => h) (Or.inl ⟨by rfl, ?_⟩) hHeld ?_ ?_
        rotate_left
        · rintro w' ⟨s0, s1, s2, s3, s4, s5⟩
          go_simp
          with_reducible rfl
        rotate_left
        · simp only [Act.put, List.setIfInBounds_toArray, List.set_cons_zero, List.set_cons_succ, i64_w, i32_w]
          rfl
        refine one_ (i := 6) (N := some 26) #[true, true, true, true, true, true, true, false] rfl rfl (one_of HT_.out (by kernel_rfl)) (by decide) (fun K hK => ?_)
        refine goesV_ (.tmp 20) (by rfl) Try.func25 (by kernel_rfl) rfl #[.agg #[.int .i64 x.f0, .int .i64 x.f1, .string x.f2], .agg #[.int .i64 m.f0, .int .i64 m.f1, .string m.f2]] (by rfl) rfl rfl (by (try simp only [List.map_toArray, List.map_cons, List.map_nil]); first | done | rfl) ?_
        refine (next1_calls x m _).mono ?_
        rintro e w2 ⟨rfl, hb⟩
        refine ⟨_, rfl, ?_⟩
        have BM2 := Aside0.mk (blk_below BM1.out hb)
        have BZ2 := Aside0.mk (blk_below BZ1.out hb)
        have HB2 := Aside0.mk (below_step HB1.out hb)
        obtain ⟨g0, g1, g2, g3, g4, g5⟩ := hHeld
        have hy0 := (hb.cell (World.block_lt_of_cell? w1 _ g0)).trans g0
        have hy1 := (hb.cell (World.block_lt_of_cell? w1 _ g1)).trans g1
        have hy2 := (hb.cell (World.block_lt_of_cell? w1 _ g2)).trans g2
        have hn0 : w2.cell? ⟨w.heap.size + 1, 0, none⟩ = some (.int .i64 m.f0) := (blk_cell BM2.out 0).trans rfl
        have hn1 : w2.cell? ⟨w.heap.size + 1, 1, none⟩ = some (.int .i64 m.f1) := (blk_cell BM2.out 1).trans rfl
        have hn2 : w2.cell? ⟨w.heap.size + 1, 2, none⟩ = some (.string m.f2) := (blk_cell BM2.out 2).trans rfl
        have hf0 := blk_frozen BM2.out 0
        have hf1 := blk_frozen BM2.out 1
        have hf2 := blk_frozen BM2.out 2
        clear g0 g1 g2 g3 g4 g5 hb BM1 BZ1 HB1
        refine hK.out _ _ ⟨hy0, hy1, hy2, hn0, hn1, hn2⟩ (fun hHeld => ?_)
        clear hK K
        refine norm_ (a' := ?_) ?_ ?_
        rotate_left
        · show Act.put _ (some 26) _ = _
          simp only [Act.put, List.setIfInBounds_toArray, List.set_cons_zero, List.set_cons_succ, i64_w, i32_w]
          rfl
        refine pure_ (i := 7) (N := some 27) (v := ?_) (a' := ?_) #[true, true, true, true, true, true, true, true] rfl rfl (any_of HT_.out (by kernel_rfl)) (fun _ _ _ h => h) (Or.inl ⟨by rfl, ?_⟩) ?_ ?_
        rotate_left
        · intro w'
          go_simp
          with_reducible rfl
        rotate_left
        · simp only [Act.put, List.setIfInBounds_toArray, List.set_cons_zero, List.set_cons_succ, i64_w, i32_w]
          rfl
        refine done_ (done_of HT_.out (by kernel_rfl)) ?_
        go_wp2
        go_roundw
        case rel =>
          refine ⟨i + 1, x, by go_num, ⟨by omega, by omega, I5.out⟩, ⟨far_ (far_ (far_ BZ2.out (by simp) _) (by simp) _) (by simp) _⟩, ⟨?_⟩, ⟨below_set (below_set (below_set HB2.out (by omega)) (by omega)) (by omega)⟩⟩
          refine blk_put (cs := #[.int .i64 x.f0, .int .i64 x.f1, .string m.f2]) ?_ 2 _ rfl
          refine blk_put (cs := #[.int .i64 x.f0, .int .i64 m.f1, .string m.f2]) ?_ 1 _ rfl
          exact blk_put (cs := #[.int .i64 m.f0, .int .i64 m.f1, .string m.f2]) BM2.out 0 _ rfl
        case measure => simp [intOf]; omega
      · have d1 : decide (0 < cmpI x.f0 m.f0) = false := decide_eq_false hc
        have I5 : Aside0 (maxF (l.drop (i + 1)) m = R) := ⟨by have := I3.out; rw [if_neg hc] at this; exact this⟩
        clear hc I3
        go_upto_region 7 with (fail)
        refine start_ (n := 8) (S := fun w' => w'.cell? (ad0.add (i * 3)) = some (.int .i64 x.f0) ∧ w'.cell? { block := (ad0.add (i * 3)).block, off := (ad0.add (i * 3)).off + 1 } = some (.int .i64 x.f1) ∧ w'.cell? { block := (ad0.add (i * 3)).block, off := (ad0.add (i * 3)).off + 2 } = some (.string x.f2) ∧ w'.cell? ⟨w.heap.size + 1, 0, none⟩ = some (.int .i64 m.f0) ∧ w'.cell? ⟨w.heap.size + 1, 1, none⟩ = some (.int .i64 m.f1) ∧ w'.cell? ⟨w.heap.size + 1, 2, none⟩ = some (.string m.f2)) (ds := [7]) #[false, false, false, false, false, false, false, false] (by kernel_rfl) rfl rfl ⟨hx0, hx1, hx2, hm0, hm1, hm2⟩ (fun hHeld => ?_)
        refine with_tabW max7.tab max7.bits (fun HT_ HW_ => ?_)
        have BM1 := Aside0.mk (blk_drew BM.out)
        have BZ1 := Aside0.mk (blk_drew BZ.out)
        have HB1 := Aside0.mk (below_drew1 HB.out)
        clear BM BZ HB hm0 hm1 hm2
        generalize wr.drew = w1 at BM1 BZ1 HB1 hHeld ⊢
        refine pure_ (i := 0) (N := some 20) (v := ?_) (a' := ?_) #[true, false, false, false, false, false, false, false] rfl rfl (any_of HT_.out (by kernel_rfl)) (fun _ _ _ h => h) (Or.inl ⟨by rfl, ?_⟩) ?_ ?_
        rotate_left
        · intro w'
          go_simp
          with_reducible rfl
        rotate_left
        · simp only [Act.put, List.setIfInBounds_toArray, List.set_cons_zero, List.set_cons_succ, i64_w, i32_w]
          rfl
        refine pure_ (i := 1) (N := some 21) (v := ?_) (a' := ?_) #[true, true, false, false, false, false, false, false] rfl rfl (any_of HT_.out (by kernel_rfl)) (fun _ _ _ h => h) (Or.inl ⟨by rfl, ?_⟩) ?_ ?_
        rotate_left
        · intro w'
          go_simp
          with_reducible rfl
        rotate_left
        · simp only [Act.put, List.setIfInBounds_toArray, List.set_cons_zero, List.set_cons_succ, i64_w, i32_w]
          rfl
        refine pure_ (i := 2) (N := some 22) (v := ?_) (a' := ?_) #[true, true, true, false, false, false, false, false] rfl rfl (any_of HT_.out (by kernel_rfl)) (fun _ _ _ h => h) (Or.inl ⟨by rfl, ?_⟩) ?_ ?_
        rotate_left
        · intro w'
          go_simp
          with_reducible rfl
        rotate_left
        · simp only [Act.put, List.setIfInBounds_toArray, List.set_cons_zero, List.set_cons_succ, i64_w, i32_w]
          rfl
        refine pure_ (i := 3) (N := some 23) (v := ?_) (a' := ?_) #[true, true, true, true, false, false, false, false] rfl rfl (any_of HT_.out (by kernel_rfl)) (fun _ _ _ h => h) (Or.inl ⟨by rfl, ?_⟩) ?_ ?_
        rotate_left
        · intro w'
          go_simp
          with_reducible rfl
        rotate_left
        · simp only [Act.put, List.setIfInBounds_toArray, List.set_cons_zero, List.set_cons_succ, i64_w, i32_w]
          rfl
        refine take_ (i := 4) (N := some 24) (v := ?_) (a' := ?_) #[true, true, true, true, true, false, false, false] rfl rfl (take_ofW HT_.out HW_.out (by kernel_rfl)) (fun _ _ _ h => h) (Or.inl ⟨by rfl, ?_⟩) hHeld ?_ ?_
        rotate_left
        · rintro w' ⟨s0, s1, s2, s3, s4, s5⟩
          go_simp
          with_reducible rfl
        rotate_left
        · simp only [Act.put, List.setIfInBounds_toArray, List.set_cons_zero, List.set_cons_succ, i64_w, i32_w]
          rfl
        refine take_ (i := 5) (N := some 25) (v := ?_) (a' := ?_) #[true, true, true, true, true, true, false, false] rfl rfl (take_ofW HT_.out HW_.out (by kernel_rfl)) (fun _ _ _ h => h) (Or.inl ⟨by rfl, ?_⟩) hHeld ?_ ?_
        rotate_left
        · rintro w' ⟨s0, s1, s2, s3, s4, s5⟩
          go_simp
          with_reducible rfl
        rotate_left
        · simp only [Act.put, List.setIfInBounds_toArray, List.set_cons_zero, List.set_cons_succ, i64_w, i32_w]
          rfl
        refine one_ (i := 6) (N := some 26) #[true, true, true, true, true, true, true, false] rfl rfl (one_of HT_.out (by kernel_rfl)) (by decide) (fun K hK => ?_)
        refine goesV_ (.tmp 20) (by rfl) Try.func25 (by kernel_rfl) rfl #[.agg #[.int .i64 x.f0, .int .i64 x.f1, .string x.f2], .agg #[.int .i64 m.f0, .int .i64 m.f1, .string m.f2]] (by rfl) rfl rfl (by (try simp only [List.map_toArray, List.map_cons, List.map_nil]); first | done | rfl) ?_
        refine (next1_calls x m _).mono ?_
        rintro e w2 ⟨rfl, hb⟩
        refine ⟨_, rfl, ?_⟩
        have BM2 := Aside0.mk (blk_below BM1.out hb)
        have BZ2 := Aside0.mk (blk_below BZ1.out hb)
        have HB2 := Aside0.mk (below_step HB1.out hb)
        obtain ⟨g0, g1, g2, g3, g4, g5⟩ := hHeld
        have hy0 := (hb.cell (World.block_lt_of_cell? w1 _ g0)).trans g0
        have hy1 := (hb.cell (World.block_lt_of_cell? w1 _ g1)).trans g1
        have hy2 := (hb.cell (World.block_lt_of_cell? w1 _ g2)).trans g2
        have hn0 : w2.cell? ⟨w.heap.size + 1, 0, none⟩ = some (.int .i64 m.f0) := (blk_cell BM2.out 0).trans rfl
        have hn1 : w2.cell? ⟨w.heap.size + 1, 1, none⟩ = some (.int .i64 m.f1) := (blk_cell BM2.out 1).trans rfl
        have hn2 : w2.cell? ⟨w.heap.size + 1, 2, none⟩ = some (.string m.f2) := (blk_cell BM2.out 2).trans rfl
        have hf0 := blk_frozen BM2.out 0
        have hf1 := blk_frozen BM2.out 1
        have hf2 := blk_frozen BM2.out 2
        clear g0 g1 g2 g3 g4 g5 hb BM1 BZ1 HB1
        refine hK.out _ _ ⟨hy0, hy1, hy2, hn0, hn1, hn2⟩ (fun hHeld => ?_)
        clear hK K
        refine norm_ (a' := ?_) ?_ ?_
        rotate_left
        · show Act.put _ (some 26) _ = _
          simp only [Act.put, List.setIfInBounds_toArray, List.set_cons_zero, List.set_cons_succ, i64_w, i32_w]
          rfl
        refine pure_ (i := 7) (N := some 27) (v := ?_) (a' := ?_) #[true, true, true, true, true, true, true, true] rfl rfl (any_of HT_.out (by kernel_rfl)) (fun _ _ _ h => h) (Or.inl ⟨by rfl, ?_⟩) ?_ ?_
        rotate_left
        · intro w'
          go_simp
          with_reducible rfl
        rotate_left
        · simp only [Act.put, List.setIfInBounds_toArray, List.set_cons_zero, List.set_cons_succ, i64_w, i32_w]
          rfl
        refine done_ (done_of HT_.out (by kernel_rfl)) ?_
        go_wp2
        go_roundw
        case rel => exact ⟨i + 1, m, by go_num, ⟨by omega, by omega, I5.out⟩, BZ2, BM2, HB2⟩
        case measure => simp [intOf]; omega
    · have hi : i = l.length := by omega
      subst hi
      rw [List.drop_length, maxF] at i3
      subst i3
      have c1 : decide ((l.length : Int) < (l.length : Int)) = false := decide_eq_false (by omega)
      have c2 : decide (l.length < l.length) = false := decide_eq_false (by omega)
      have hz0 : wr.cell? ⟨w.heap.size, 0, none⟩ = some (.int .i64 0) := (blk_cell BZ.out 0).trans rfl
      have hz1 : wr.cell? ⟨w.heap.size, 1, none⟩ = some (.int .i64 0) := (blk_cell BZ.out 1).trans rfl
      have hz2 : wr.cell? ⟨w.heap.size, 2, none⟩ = some (.string ⟨#[]⟩) := (blk_cell BZ.out 2).trans rfl
      have hf0 := blk_frozen BZ.out 0
      have hf1 := blk_frozen BZ.out 1
      have hf2 := blk_frozen BZ.out 2
      go_wp2
      refine bodyPost_ret (results_cell_row rfl _ _ w.heap.size 44 #[.int .i64 m.f0, .int .i64 m.f1, .string m.f2] (0, 0) _ rfl (by refine blk_put (cs := #[.int .i64 m.f0, .int .i64 m.f1, .string ⟨#[]⟩]) ?_ 2 _ rfl; refine blk_put (cs := #[.int .i64 m.f0, .int .i64 0, .string ⟨#[]⟩]) ?_ 1 _ rfl; exact blk_put (cs := #[.int .i64 0, .int .i64 0, .string ⟨#[]⟩]) BZ.out 0 _ rfl) Try.underlying44 rfl (by kernel_rfl)) rfl ?_
      exact ⟨rfl, below_set (below_set (below_set HB.out (Nat.le_refl _)) (Nat.le_refl _)) (Nat.le_refl _)⟩
def ring_Next.f (l : List S44) : Option Int := if l.length ≤ 1000000 then (match l with | [] => some 0 | x :: t => some (wrap64 ((maxF t x).f0 + 1))) else none
set_option maxHeartbeats 4000000 in
set_option maxRecDepth 100000 in
theorem ring_Next.calls (A0 : Option Addr) (c0 : Nat) (l0 : List S44) (r : Int) (w : World) (hr0 : Kd.C k44 w A0 l0.length l0) (hc0 : l0.length ≤ c0) (h : ring_Next.f l0 = some r) :
    Calls Try.prog 14 #[.slice A0 l0.length c0] w fun e w' => e = .returned (.int .i64 r) ∧ Below w.heap.size w w' := by
  unfold ring_Next.f at h
  split at h
  · rename_i hl
    have hu := Try.underlying44
    by_cases h0 : l0.length = 0
    · obtain rfl := List.eq_nil_of_length_eq_zero h0
      cases h
      go_enter Try.func14, Try.ntmps14
      go_wp2
      go_ret
      exact ⟨rfl, Below.refl _ _⟩
    · have hm := max_calls A0 c0 l0 w hr0 hl (by omega)
      obtain ⟨m, hM⟩ : ∃ m, m = maxF (l0.drop 1) (rd_T44 l0 0) := ⟨_, rfl⟩
      rw [← hM] at hm
      have hrr : r = wrap64 (m.f0 + 1) := by
        cases l0 with
        | nil => exact absurd rfl h0
        | cons x t => simp only [Option.some.injEq] at h; rw [← h, hM]; rfl
      subst hrr
      have HM := Aside0.mk hm
      have b0 : ((l0.length : Int) == 0) = false := beq_eq_false_iff_ne.mpr (by omega)
      clear hm hM h
      go_enter Try.func14, Try.ntmps14
      go_wp2_with (go_at_call 24; refine HM.out.mono ?_; rintro e w2 ⟨rfl, hb⟩; have HB := Aside0.mk hb; clear hb)
      go_ret
      exact ⟨rfl, by repeat (first | exact HB.out | apply below_alloc)⟩
  · cases h
end Go.Proofs.Ytmnpejoolbipeaa.Given
