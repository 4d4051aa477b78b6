/- dir.Compact walked: a directory's changes, in groups of at most 64. -/
import Derived.Test.YtggngbbkachpaaaProg
import Derived.Below
import Derived.Deep.Draws
import Derived.Deep.AppendLies
import Derived.Maps.AppendAt
import Derived.OwnWalk
import Derived.Laws.BytesArg
import Derived.Laws.MakeOwn
import Derived.Laws.OwnMore
import Derived.Deep.OwnRows
import Derived.Tactics
import Derived.Lib.ConvBytes
import Derived.Laws.Slices
import Derived.WalkKit
import Derived.KernelRfl
import Derived.RowKit3
import Derived.Deep.LoopGhost
import Derived.Deep.QuietTactic
import Derived.BigQuiet
import Derived.WideLaws
import Derived.Deep.DeepCutAuto
import Derived.Deep.CutBlock
import Derived.Deep.RegionHeld3
import Derived.Laws.Rows
import Derived.Lib.AppendStr
import Derived.ArgAppend
import Derived.Laws.IdiomCopy
import Derived.OrdersHeld
import Derived.Laws.BitsLemmas
import Derived.RowKit
import Derived.Test.YtggngbbkachpaaaWWords
import Derived.Test.YtggngbbkachpaaaWLast
import Derived.Test.YtggngbbkachpaaaWTab
import Derived.Test.YtggngbbkachpaaaWFour
import Derived.Test.YtggngbbkachpaaaWQPut
import Derived.Test.YtggngbbkachpaaaWApart
import Derived.Test.YtggngbbkachpaaaWArr
import Derived.Test.YtggngbbkachpaaaWZeros
import Derived.Test.YtggngbbkachpaaaWFoot
import Derived.Test.YtggngbbkachpaaaWKept
import Derived.Test.YtggngbbkachpaaaWShare
import Derived.Test.YtggngbbkachpaaaWN
import Derived.Test.YtggngbbkachpaaaWFootNe
import Derived.Test.YtggngbbkachpaaaWAt
import Derived.Test.YtggngbbkachpaaaWEqStruct
import Derived.Test.YtggngbbkachpaaaWRepsOne
import Derived.Test.YtggngbbkachpaaaWInv
import Derived.Test.YtggngbbkachpaaaWInvWords
import Derived.Test.YtggngbbkachpaaaWGuard
import Derived.Test.YtggngbbkachpaaaWNEv
import Derived.Test.YtggngbbkachpaaaWMore
import Derived.RangeFuncBox
import Derived.RangeFuncLeaves
import Derived.RangeFuncNested
import Derived.RangeFuncBound
import Derived.RangeFuncCalls
import Derived.Shelf.Abstract
import Derived.OwnWalkIn
import Derived.TacticsInMore
import Derived.LoopNIn
import Derived.LoopIn
import Derived.LoopNIn
import Derived.LoopIn
import Derived.OrdersIn
import Derived.RangeFuncIn
import Derived.Test.YtggngbbkachpaaaBs
import Derived.Test.YtggngbbkachpaaaPDix9
import Derived.Test.YtggngbbkachpaaaPDix6
namespace Go.Proofs.Ytggngbbkachpaaa.RoundB
open Go Go.RowKit Go.Proofs.YtggngbbkachpaaaW.PrintWords Go.Proofs.YtggngbbkachpaaaW.PrintLast
set_option linter.unusedVariables false
variable {P : Program} {ops : Array Oper} {Q : Exit → Act → World → Prop}
theorem callsIn_round {l n : Nat} {f : FuncId} {args : Array Value} {w : World} {R : Ending → World → Prop} (h : Calls P f args w R) : CallsIn (Fence.wide.inRound l) n P f args w R := by
  have h2 := (callsIn_wide (n := n)).2 h
  exact ⟨trivial, fun cs hr => h2.2 cs (room_wide _)⟩
theorem rowsIn_round {l n : Nat} {row : String} {args : Array Value} {w : World} {R : Value → World → Prop} (h : Rows P row args w R) : RowsIn (Fence.wide.inRound l) n P row args w R := fun c cs _ => by
  obtain ⟨v, w', hR, hs⟩ := h c cs
  exact ⟨v, w', hR, stepsIn_wide.2 hs⟩
theorem uponIn_round {o : Oper} {a : Act} {K K' : Act → World → Prop} {l n : Nat} (hQ : ¬ LetsOut Q) (hK : ∀ a w, K a w → K' a w) : ∀ {r : Result Next}, o.upon P a K Q r → o.uponIn (Fence.wide.inRound l) n P a K' Q r := by
  intro r h
  cases r with
  | ok x w' =>
    cases x with
    | value v => exact hK _ _ h
    | skip => exact hK _ _ h
    | defer d => exact hK _ _ h
    | enter f args =>
      refine ⟨fun hh => (by cases hh), ?_⟩
      refine callsIn_round (Calls.mono h ?_)
      intro e w'' he
      cases e with
      | returned v => exact hK _ _ he
      | panicked c => exact he
      | outgrown => exact absurd he hQ
    | row row args => exact ⟨fun hh => (by cases hh), rowsIn_round (Rows.mono h (fun _ _ he => hK _ _ he))⟩
    | _ => exact h.elim
  | halt x w' => cases x <;> exact h
theorem wpIn_round {o : Oper} {a : Act} {w : World} {K K' : Act → World → Prop} {l n : Nat} (hQ : ¬ LetsOut Q) (hd : ∀ c, o.op ≠ .defer c) (hK : ∀ a w, K a w → K' a w) (h : o.wp P a w K Q) : o.wpIn (Fence.wide.inRound l) n P a w K' Q := by
  refine ⟨fun _ _ => trivial, ?_⟩
  rw [Oper.semAt_eq _ _ _ hd]
  exact uponIn_round hQ hK h
theorem wpOpIn_round {i : Nat} {a : Act} {w : World} {K K' : Act → World → Prop} {l n : Nat} (hQ : ¬ LetsOut Q) (hd : ∀ (j : Nat) (o : Oper), ops[j]? = some o → ∀ c, o.op ≠ .defer c) (hK : ∀ a w, K a w → K' a w) (h : wpOp P ops Q i K a w) : wpOpIn (Fence.wide.inRound l) n P ops Q i K' a w := by
  unfold wpOp at h
  unfold wpOpIn
  cases ho : ops[i]? with
  | none => rw [ho] at h; exact hK _ _ h
  | some o =>
    rw [ho] at h
    simp only [] at h ⊢
    by_cases hw : Region.wanted o (yielded ops a.tmps) = true
    · rw [if_pos hw] at h ⊢
      rcases h with h | h
      · exact wpIn_round hQ (hd i o ho) hK h
      · exact absurd h.2 hQ
    · rw [if_neg hw] at h ⊢
      exact ⟨fun _ _ => trivial, hK _ _ h⟩
theorem wpAnyIn_round {l n : Nat} {md : Region.Mode} (hQ : ¬ LetsOut Q) (hd : ∀ (j : Nat) (o : Oper), ops[j]? = some o → ∀ c, o.op ≠ .defer c) : ∀ (fuel : Nat) (listed : Array Bool) (a : Act) (w : World), wpAny P md ops Q fuel listed a w → wpAnyIn (Fence.wide.inRound l) n P md ops Q fuel listed a w
  | 0, _, _, _, h => h
  | fuel + 1, _, _, _, h => ⟨h.1, fun i hi => wpOpIn_round hQ hd (fun a' w' h' => wpAnyIn_round hQ hd fuel _ a' w' h') (h.2 i hi)⟩
def noDefer (o : Oper) : Bool := match o.op with | .defer _ => false | _ => true
theorem noDefer_all (h : ops.all noDefer = true) : ∀ (j : Nat) (o : Oper), ops[j]? = some o → ∀ c, o.op ≠ .defer c := by
  intro j o ho c hc
  have h2 := Array.all_eq_true_iff_forall_mem.1 h o (Array.mem_of_getElem? ho)
  unfold noDefer at h2
  rw [hc] at h2
  cases h2
/-- A region that draws its order, within a round: by the steps that serve outside of one. -/
theorem startIn_ {S : World → Prop} {ds : List Nat} {id n m k : Nat} {a : Act} {w : World} (l : Array Bool) (hm : P.follows .mixedOrders = true) (hn : ops.size = n) (hl : Array.replicate n false = l) (hQ : ¬ LetsOut Q) (hd : ops.all noDefer = true) (hS : S w.drew)
    (h : S w.drew → wpAnyLast P .any ops Q S ds n l a w.drew) : (Code.region id ops true).wpIn (Fence.wide.inRound k) m P Q a w := by
  subst hn
  subst hl
  exact wpIn_region_any hm (wpAnyIn_round hQ (noDefer_all hd) _ _ _ _ (wpAny_of_last _ _ _ _ (h hS)))
end Go.Proofs.Ytggngbbkachpaaa.RoundB
namespace Go.Proofs.Ytggngbbkachpaaa.Given
open Go Go.RowKit Go.Shelf Go.Proofs.Ytggngbbkachpaaa.RoundB Go.Proofs.YtggngbbkachpaaaW.PrintWords Go.Proofs.YtggngbbkachpaaaW.PrintLast Go.Proofs.YtggngbbkachpaaaW.PrintMore
set_option linter.unusedVariables false
set_option linter.unusedSimpArgs false
/-- A yield of a loop that is ready: the assignments, then the body, in a round. -/
theorem yield_ready {P : Program} {L m : Nat} {args : Array Value} {W : World} {r : Loop} {R : Ending → World → Prop} (hl : W.heap[L]? = some (.loop r)) (hs : args.size = r.params.size)
    (h : r.assign.wpIn (Fence.wide.inRound L) m P (Exit.then (fun a1 W1 => ∃ W2, (Instr.beginRound L).run P W1 = .ok () W2 ∧ r.body.wpIn (Fence.wide.inRound L) m P (roundPost P L R) a1 W2) (fun _ _ _ => False)) { tmps := (r.params.zip args).foldl (fun t (p, v) => t.setIfInBounds p v) r.tmps, defers := [] } W) :
    YieldAt Fence.wide m P L args W R := ⟨_, _, _, _, run_yield hl hs, roundIn_of_wpIn trivial h⟩
/-- The range over a function, at an outermost loop, by hand: its record and its deferred block are laid, then the function runs. -/
theorem range_F {F : Fence} {P : Program} {n : Nat} {g : Operand} {ps : Array Tmp} {assign body : Code} {Q : Exit → Act → World → Prop} {a : Act} {w : World} (hro : F.round = none) (h1 : 1 ≤ n) {gf : Nat} {lb : Array Value} (hg : a.eval g = .func (.func gf) #[] lb) (hFg : F.fn gf) (eg : ∀ args w, (callFunc gf args).run P w = .ok (.enter gf args) w)
    (h : ∀ (fn : FuncId) (W1 : World), W1 = (w.alloc (.deferred (some []))).alloc (.loop { state := .ready, pending := none, fn, tmps := a.tmps, params := ps, assign, body, defers := w.heap.size }) →
      CallsIn F (n - 1) P gf (#[.func (.yield (w.heap.size + 1)) #[] #[]] ++ lb) W1 (rangePost F n P (w.heap.size + 1) Q { a with defers := { target := .collected w.heap.size, args := #[] } :: a.defers })) :
    (Code.rangeFunc g ps assign body).wpIn F n P Q a w := by
  refine wpIn_rangeFunc ?_
  intro fn hfn
  rw [hro]
  obtain ⟨W1, hW1⟩ : ∃ W1, (w.alloc (.deferred (some []))).alloc (.loop { state := .ready, pending := none, fn, tmps := a.tmps, params := ps, assign, body, defers := w.heap.size }) = W1 := ⟨_, rfl⟩
  refine ⟨w.heap.size + 1, [{ target := .collected w.heap.size, args := #[] }], W1, { target := .fn (.func gf) lb, args := #[.func (.yield (w.heap.size + 1)) #[] #[]] }, W1, gf,
    #[.func (.yield (w.heap.size + 1)) #[] #[]] ++ lb, W1, ?_, ?_, ?_, ?_, fun _ => h1, ?_⟩
  · rw [← hW1]; exact run_enterLoop_outer _ _ _ _ _
  · simp only [resolve, hg]
    simp [go_sem]
  · intro f' hf'; simp [Target.leads] at hf'; subst hf'; exact hFg
  · simp [invoke, go_sem, eg]
  · exact h fn W1 hW1.symm
/-- What a round must come to. -/
def rPost (L : Nat) (rec : LoopState → Option Code → Loop) (R : Ending → World → Prop) : Exit → Act → World → Prop
  | .normal, _, w => w.heap[L]? = some (.loop (rec .busy none)) ∧ R (.returned (.bool true)) (w.putObj L (.loop (rec .ready none)))
  | .exit id, _, w => w.heap[L]? = some (.loop (rec .busy none)) ∧ R (.returned (.bool false)) (w.putObj L (.loop (rec .done (some (.exit id)))))
  | _, _, _ => False
theorem yield_rec {P : Program} {L m : Nat} {args : Array Value} {W : World} {R : Ending → World → Prop} {rec : LoopState → Option Code → Loop} {fn : FuncId} {tmps : Array Value} {ps : Array Tmp} {assign body : Code} {D : Nat}
    (hrec : rec = fun st pe => { state := st, pending := pe, fn, tmps, params := ps, assign, body, defers := D }) (hl : W.heap[L]? = some (.loop (rec .ready none))) (hs : args.size = ps.size)
    (h : assign.wpIn (Fence.wide.inRound L) m P (Exit.then (fun a1 W1 => W1.heap[L]? = some (.loop (rec .ready none)) ∧ body.wpIn (Fence.wide.inRound L) m P (rPost L rec R) a1 (W1.putObj L (.loop (rec .busy none)))) (fun _ _ _ => False)) { tmps := (ps.zip args).foldl (fun t (p, v) => t.setIfInBounds p v) tmps, defers := [] } W) :
    YieldAt Fence.wide m P L args W R := by
  subst hrec
  refine yield_ready hl hs (wpIn_mono h ?_)
  intro e a1 W1 h1
  cases e with
  | normal =>
    obtain ⟨h1, h2⟩ := h1
    refine ⟨_, run_beginRound h1 rfl, wpIn_mono h2 ?_⟩
    intro e a2 W2 h3
    cases e with
    | normal => exact ⟨_, _, run_endRound none h3.1, h3.2⟩
    | exit id => exact ⟨_, _, run_endRound (some (.exit id)) h3.1, h3.2⟩
    | ret => exact h3.elim
    | goto t => exact h3.elim
    | panic c => exact h3.elim
    | outgrown => exact h3.elim
  | ret => exact h1.elim
  | exit id => exact h1.elim
  | goto t => exact h1.elim
  | panic c => exact h1.elim
  | outgrown => exact h1.elim
theorem end_none {F : Fence} {P : Program} {n L : Nat} {Q : Exit → Act → World → Prop} {a : Act} {v : Value} {W : World} {rec : LoopState → Option Code → Loop} {fn : FuncId} {tmps : Array Value} {ps : Array Tmp} {assign body : Code} {D : Nat}
    (hrec : rec = fun st pe => { state := st, pending := pe, fn, tmps, params := ps, assign, body, defers := D }) (hl : W.heap[L]? = some (.loop (rec .ready none)))
    (h : Q .normal a (W.putObj L (.loop (rec .exhausted none)))) : rangePost F n P L Q a (.returned v) W := by
  subst hrec
  exact ⟨none, _, run_endLoop hl (by simp), h⟩
theorem end_some {F : Fence} {P : Program} {n L : Nat} {Q : Exit → Act → World → Prop} {a : Act} {v : Value} {W : World} {rec : LoopState → Option Code → Loop} {fn : FuncId} {tmps : Array Value} {ps : Array Tmp} {assign body c : Code} {D : Nat}
    (hrec : rec = fun st pe => { state := st, pending := pe, fn, tmps, params := ps, assign, body, defers := D }) (hl : W.heap[L]? = some (.loop (rec .done (some c))))
    (h : c.wpIn F n P Q a (W.putObj L (.loop (rec .exhausted (some c))))) : rangePost F n P L Q a (.returned v) W := by
  subst hrec
  exact ⟨some c, _, run_endLoop hl (by simp), h⟩
end Go.Proofs.Ytggngbbkachpaaa.Given
namespace Go.Proofs.Ytggngbbkachpaaa.Given
open Go Go.RowKit Go.Shelf Go.Proofs.Ytggngbbkachpaaa.PDi Go.Proofs.Ytggngbbkachpaaa.Bs Go.Proofs.Ytggngbbkachpaaa.RoundB Go.Proofs.YtggngbbkachpaaaW.PrintWords Go.Proofs.YtggngbbkachpaaaW.PrintLast Go.Proofs.YtggngbbkachpaaaW.PrintMore
attribute [local go_sem] Oper.semAt_some
set_option linter.unusedVariables false
set_option linter.unusedSimpArgs false
def putP (p : S75) : S42 := ⟨p.f0, p.f1, false⟩
/-- The groups of the pairs from i on. -/
def partsF (l : List S75) : Nat → Nat → List (List S42)
  | 0, _ => []
  | m + 1, i => if i < l.length then ((l.drop i).take 64).map putP :: partsF l m (i + 64) else []
structure CpSt (p : Nat) (w0 : World) (A : Option Addr) (n c : Nat) (rec : Loop) (v : Value) (acc : List (List S42)) (W : World) : Prop where
  sz : p + 5 ≤ W.heap.size
  hp : W.heap[p]? = some (.cells #[v] 32 (0, 0))
  row : Kd.S (Kd.slice 42 k42) 23 W (p + 5) (fun k => p + 5 ≤ k) v acc
  hs : W.heap[p + 1]? = some (.cells #[.slice A n c] 22 (0, 0))
  hn : W.heap[p + 2]? = some (.cells #[.int .i64 64] 3 (0, 0))
  hD : W.heap[p + 3]? = some (.deferred (some []))
  hL : W.heap[p + 4]? = some (.loop rec)
  below : Below p w0 W
theorem CpSt.later {p : Nat} {w0 W W' : World} {A : Option Addr} {n c : Nat} {rec : Loop} {v : Value} {acc : List (List S42)} (h : CpSt p w0 A n c rec v acc W) (hb : Below W.heap.size W W') : CpSt p w0 A n c rec v acc W' := by
  have hsz := h.sz
  exact ⟨by have := hb.size; omega, (hb.block _ (by omega)).trans h.hp, Kd.S_below h.row hb, (hb.block _ (by omega)).trans h.hs, (hb.block _ (by omega)).trans h.hn, (hb.block _ (by omega)).trans h.hD, (hb.block _ (by omega)).trans h.hL, h.below.trans (hb.mono (by omega))⟩
theorem CpSt.start {w : World} {p : Nat} {A : Option Addr} {n c : Nat} {rec : Loop} {W W1 : World} (hp : w.heap.size = p) (hW : W = ((w.alloc (.cells #[.slice none 0 0] 32)).alloc (.cells #[.slice A n c] 22)).alloc (.cells #[.int .i64 64] 3))
    (h : W1 = (W.alloc (.deferred (some []))).alloc (.loop rec)) : CpSt p w A n c rec (.slice none 0 0) [] W1 := by
  have na : ∀ (w : World) (o : Obj) (k : Nat), w.heap.size = k → (w.alloc o).heap[k]? = some o := fun w o k h => by subst h; exact blk_new _ _
  have s1 : (w.alloc (.cells #[.slice none 0 0] 32)).heap.size = p + 1 := by rw [World.size_alloc, hp]
  have h0 := na w (.cells #[.slice none 0 0] 32) p hp
  have b1 := (Below.refl p w).alloc (Nat.le_of_eq hp.symm) (.cells #[.slice none 0 0] 32)
  generalize w.alloc (.cells #[.slice none 0 0] 32) = w1 at hW s1 h0 b1
  have s2 : (w1.alloc (.cells #[.slice A n c] 22)).heap.size = p + 2 := by rw [World.size_alloc, s1]
  have h1 := na w1 (.cells #[.slice A n c] 22) _ s1
  have g0 := blk_alloc h0 (.cells #[.slice A n c] 22)
  have b2 := b1.alloc (by omega) (.cells #[.slice A n c] 22)
  generalize w1.alloc (.cells #[.slice A n c] 22) = w2 at hW s2 h1 g0 b2
  have s3 : (w2.alloc (.cells #[.int .i64 64] 3)).heap.size = p + 3 := by rw [World.size_alloc, s2]
  have h2 := na w2 (.cells #[.int .i64 64] 3) _ s2
  have g0 := blk_alloc g0 (.cells #[.int .i64 64] 3)
  have g1 := blk_alloc h1 (.cells #[.int .i64 64] 3)
  have b3 := b2.alloc (by omega) (.cells #[.int .i64 64] 3)
  rw [← hW] at s3 h2 g0 g1 b3
  have s5 : (W.alloc (.deferred (some []))).heap.size = p + 4 := by rw [World.size_alloc, s3]
  have h4 := na W (.deferred (some [])) _ s3
  have g0 := blk_alloc g0 (.deferred (some []))
  have g1 := blk_alloc g1 (.deferred (some []))
  have g2 := blk_alloc h2 (.deferred (some []))
  have b5 := b3.alloc (by omega) (.deferred (some []))
  generalize W.alloc (.deferred (some [])) = w5 at h s5 h4 g0 g1 g2 b5
  subst h
  exact ⟨by rw [World.size_alloc]; omega, blk_alloc g0 _, Kd.S_nil _ _ _ _ _, blk_alloc g1 _, blk_alloc g2 _, blk_alloc h4 _, na _ _ _ s5, b5.alloc (by omega) _⟩
theorem CpSt.start_rec {w : World} {p : Nat} {A : Option Addr} {n c : Nat} {W W1 : World} {fn : FuncId} {tmps : Array Value} {ps : Array Tmp} {assign body : Code} (hp : w.heap.size = p) (hW : W = ((w.alloc (.cells #[.slice none 0 0] 32)).alloc (.cells #[.slice A n c] 22)).alloc (.cells #[.int .i64 64] 3))
    (h : W1 = (W.alloc (.deferred (some []))).alloc (.loop { state := .ready, pending := none, fn, tmps, params := ps, assign, body, defers := p + 3 })) :
    ∃ rec : LoopState → Option Code → Loop, (rec = fun st pe => { state := st, pending := pe, fn, tmps, params := ps, assign, body, defers := p + 3 }) ∧ CpSt p w A n c (rec .ready none) (.slice none 0 0) [] W1 := ⟨_, rfl, CpSt.start hp hW h⟩
theorem CpSt.put {p : Nat} {w0 W : World} {A : Option Addr} {n c : Nat} {rec : Loop} {v : Value} {acc : List (List S42)} (h : CpSt p w0 A n c rec v acc W) (rec' : Loop) : CpSt p w0 A n c rec' v acc (W.putObj (p + 4) (.loop rec')) := by
  have hsz := h.sz
  have ot : ∀ k, k ≠ p + 4 → (W.putObj (p + 4) (.loop rec')).heap[k]? = W.heap[k]? := fun k hk => World.putObj_heap_other hk
  exact ⟨by rw [World.putObj_size]; exact hsz, (ot _ (by omega)).trans h.hp, Kd.S_step h.row (fun k hk _ => ot k (by omega)), (ot _ (by omega)).trans h.hs, (ot _ (by omega)).trans h.hn, (ot _ (by omega)).trans h.hD, World.putObj_heap_same (by omega), ⟨h.below.os, h.below.tape, h.below.output, by rw [World.putObj_size]; exact h.below.size, fun k hk => (ot k (by omega)).trans (h.below.block k hk)⟩⟩
theorem CpSt.setG {p : Nat} {w0 W W2 : World} {A : Option Addr} {n c : Nat} {rec : Loop} {v v' : Value} {acc acc' : List (List S42)} (h : CpSt p w0 A n c rec v acc W) (hb : Below (p + 5) W W2) (hS : Kd.S (Kd.slice 42 k42) 23 W2 (p + 5) (fun k => p + 5 ≤ k) v' acc') :
    CpSt p w0 A n c rec v' acc' (W2.setCell ⟨p, 0, none⟩ v') := by
  have hsz := h.sz
  have hs2 := hb.size
  have ot : ∀ k, k ≠ p → (W2.setCell ⟨p, 0, none⟩ v').heap[k]? = W2.heap[k]? := fun k hk => Below.heap_setCell W2 _ _ k hk
  have o2 : ∀ k, k < p + 5 → k ≠ p → (W2.setCell ⟨p, 0, none⟩ v').heap[k]? = W.heap[k]? := fun k h6 hk => (ot k hk).trans (hb.block k h6)
  exact ⟨by simp; omega, blk_put (cs := #[v]) ((hb.block _ (by omega)).trans h.hp) 0 _ rfl, Kd.S_step hS (fun k hk _ => ot k (by omega)), (o2 _ (by omega) (by omega)).trans h.hs, (o2 _ (by omega) (by omega)).trans h.hn, (o2 _ (by omega) (by omega)).trans h.hD, (o2 _ (by omega) (by omega)).trans h.hL, (h.below.trans (hb.mono (by omega))).setCell (p := ⟨p, 0, none⟩) (Nat.le_refl _) _⟩
theorem CpSt.leaves {p : Nat} {w0 W : World} {A : Option Addr} {n c : Nat} {rec : Loop} {v : Value} {acc : List (List S42)} (h : CpSt p w0 A n c rec v acc W) (o : Obj) :
    Kd.S (Kd.slice 42 k42) 23 (W.putObj (p + 3) o) p (fun _ => True) v acc ∧ Below p w0 (W.putObj (p + 3) o) := by
  have hsz := h.sz
  have ot : ∀ k, k ≠ p + 3 → (W.putObj (p + 3) o).heap[k]? = W.heap[k]? := fun k hk => World.putObj_heap_other hk
  exact ⟨Kd.S_mono (Kd.S_lower (Kd.S_step h.row (fun k hk _ => ot k (by omega))) (by omega)) (fun _ _ => trivial), ⟨h.below.os, h.below.tape, h.below.output, by rw [World.putObj_size]; exact h.below.size, fun k hk => (ot k (by omega)).trans (h.below.block k hk)⟩⟩
theorem CpSt.laterN {p N : Nat} {w0 W W' : World} {A : Option Addr} {n c : Nat} {rec : Loop} {v : Value} {acc : List (List S42)} (h : CpSt p w0 A n c rec v acc W) (hN : p + 5 ≤ N) (hS : Kd.S (Kd.slice 42 k42) 23 W (p + 5) (fun k => p + 5 ≤ k ∧ ¬ N ≤ k) v acc) (hb : Below N W W') :
    CpSt p w0 A n c rec v acc W' ∧ Kd.S (Kd.slice 42 k42) 23 W' (p + 5) (fun k => p + 5 ≤ k ∧ ¬ N ≤ k) v acc := by
  have hsz := h.sz
  have hs2 := hb.size
  have hS' := Kd.S_step hS (fun k hk _ => hb.block k (by omega))
  exact ⟨⟨by omega, (hb.block _ (by omega)).trans h.hp, Kd.S_mono hS' (fun k hk => hk.1), (hb.block _ (by omega)).trans h.hs, (hb.block _ (by omega)).trans h.hn, (hb.block _ (by omega)).trans h.hD, (hb.block _ (by omega)).trans h.hL, h.below.trans (hb.mono (by omega))⟩, hS'⟩
set_option maxHeartbeats 1000000 in
theorem chunk_in (n : Nat) (A : Option Addr) (m c : Nat) (w : World) :
    CallsIn Fence.wide n Try.prog 54 #[.slice A m c, .int .i64 64] w fun e w' => e = .returned (.func (.func 91) #[] #[.pointer (some ⟨w.heap.size, 0, none⟩), .pointer (some ⟨w.heap.size + 1, 0, none⟩)]) ∧ w' = (w.alloc (.cells #[.slice A m c] 22)).alloc (.cells #[.int .i64 64] 3) := by
  refine callsIn_of_wp Try.func54 rfl trivial ?_ rfl
  simp only [Try.ntmps54, List.size_toArray, List.length_cons, List.length_nil, Nat.reduceAdd, Nat.reduceSub, Array.replicate_succ, Array.replicate_zero, List.push_toArray, List.append_toArray, List.nil_append, List.cons_append]
  have hmf : ∀ (fn : Fn) (first cap : Array Value) (w : World), (Instr.makeFunc fn first cap).run Try.prog w = .ok (.func fn first cap) w := fun _ _ _ _ => rfl
  gi_wp2
  go_ret
  exact ⟨rfl, rfl⟩
set_option maxRecDepth 100000 in
set_option maxHeartbeats 4000000 in
theorem chunk1_in (m L p : Nat) (A : Option Addr) (c : Nat) (l : List S75) (hlc : l.length ≤ c) (hl : l.length ≤ 100000) (St : Nat → World → Prop)
    (hst : ∀ i W, St i W → W.heap[p + 1]? = some (.cells #[.slice A l.length c] 22 (0, 0)) ∧ W.heap[p + 2]? = some (.cells #[.int .i64 64] 3 (0, 0)))
    (hbel : ∀ i W W', St i W → Below W.heap.size W W' → St i W')
    (hY : ∀ i W, i < l.length → St i W → YieldAt Fence.wide m Try.prog L #[.slice (A.map (·.add (i * 2))) (min 64 (l.length - i)) (min 64 (l.length - i))] W fun e W' => e = .returned (.bool true) ∧ St (i + 64) W')
    (W : World) (h0 : St 0 W) :
    CallsIn Fence.wide (m + 1) Try.prog 91 #[.func (.yield L) #[] #[], .pointer (some ⟨p + 1, 0, none⟩), .pointer (some ⟨p + 2, 0, none⟩)] W fun e W' => (∃ v, e = .returned v) ∧ ∃ i, l.length ≤ i ∧ St i W' := by
  refine callsIn_of_wp Try.func91 rfl trivial ?_ rfl
  simp only [Try.ntmps91, List.size_toArray, List.length_cons, List.length_nil, Nat.reduceAdd, Nat.reduceSub, Array.replicate_succ, Array.replicate_zero, List.push_toArray, List.append_toArray, List.nil_append, List.cons_append]
  gi_wp2
  gi_loopw [4] (fun v4 wr => ∃ i : Nat, v4 = .int .i64 (i : Int) ∧ i ≤ l.length + 64 ∧ St i wr) (fun v4 _ => l.length + 64 - (intOf v4).toNat)
  case atStart => exact ⟨0, rfl, by omega, h0⟩
  case round =>
    obtain ⟨i, rfl, hi, hS⟩ := hrel
    obtain ⟨hb1, hb2⟩ := hst _ _ hS
    have c1 : wr.cell? ⟨p + 1, 0, none⟩ = some (.slice A l.length c) := (blk_cell hb1 0).trans rfl
    have c2 : wr.cell? ⟨p + 2, 0, none⟩ = some (.int .i64 64) := (blk_cell hb2 0).trans rfl
    clear hb1 hb2
    by_cases hlt : i < l.length
    · obtain ⟨r, hr⟩ : ∃ r, r = l.length - i := ⟨_, rfl⟩
      have hlr := hr.symm
      have hi6 : i ≤ 100000 := by omega
      have hr6 : r ≤ 100000 := by omega
      have hr0 : 0 < r := by omega
      clear hr
      rcases Nat.lt_or_ge r 64 with h64 | h64
      · have hmin : min 64 r = r := by omega
        obtain ⟨fn, tmps, assign, body, hy, hR⟩ := hY i wr.drew hlt (hbel _ _ _ hS (below_drew1 (Below.refl _ _)))
        rw [hlr, hmin] at hy
        have HR := Aside0.mk hR
        have HLT := Aside0.mk hlt
        have HI := Aside0.mk hi
        have f1 : ((i : Int) + (r : Int)).toNat - i = r := by omega
        have f2 : (i : Int) + (r : Int) ≤ (c : Int) := by omega
        have f3 : ((i : Int) + (r : Int)).toNat = i + r := by omega
        have f4 : (r : Int) < 64 := by omega
        clear hR hY hS hlt hi
        gi_wp2
        gi_region
        all_goals gi_wp2
        all_goals
          refine HR.out.mono ?_
          rintro e W3 ⟨rfl, hS3⟩
          obtain ⟨hb1, hb2⟩ := hst _ _ hS3
          have c3 : W3.cell? ⟨p + 2, 0, none⟩ = some (.int .i64 64) := (blk_cell hb2 0).trans rfl
          clear hb1 hb2
          gi_wp2
          go_roundw
          case rel => exact ⟨i + 64, by go_num, by have := HLT.out; omega, hS3⟩
          case measure => have := HLT.out; have := HI.out; simp [intOf]; omega
      · have hmin : min 64 r = 64 := by omega
        obtain ⟨fn, tmps, assign, body, hy, hR⟩ := hY i wr.drew hlt (hbel _ _ _ hS (below_drew1 (Below.refl _ _)))
        rw [hlr, hmin] at hy
        have HR := Aside0.mk hR
        have HLT := Aside0.mk hlt
        have HI := Aside0.mk hi
        have f1 : ((i : Int) + 64).toNat - i = 64 := by omega
        have f2 : (i : Int) + 64 ≤ (c : Int) := by omega
        have f3 : ((i : Int) + 64).toNat = i + 64 := by omega
        have f4 : ¬ ((r : Int) < 64) := by omega
        clear hR hY hS hlt hi
        gi_wp2
        gi_region
        all_goals gi_wp2
        all_goals
          refine HR.out.mono ?_
          rintro e W3 ⟨rfl, hS3⟩
          obtain ⟨hb1, hb2⟩ := hst _ _ hS3
          have c3 : W3.cell? ⟨p + 2, 0, none⟩ = some (.int .i64 64) := (blk_cell hb2 0).trans rfl
          clear hb1 hb2
          gi_wp2
          go_roundw
          case rel => exact ⟨i + 64, by go_num, by have := HLT.out; omega, hS3⟩
          case measure => have := HLT.out; have := HI.out; simp [intOf]; omega
    · gi_wp2
      go_end0
      exact ⟨⟨_, rfl⟩, i, by omega, hS⟩
theorem Kd.C_part {w : World} {A : Option Addr} {c : Nat} {l : List S75} (h : Kd.C k75 w A l.length l) (hc : l.length ≤ c) (i : Nat) (hi : i < l.length) : Kd.C k75 w (A.map (·.add (i * 2))) (min 64 (l.length - i)) ((l.drop i).take 64) := by
  have e : ((l.take (i + min 64 (l.length - i))).drop i) = (l.drop i).take 64 := by
    rw [List.drop_take, show i + min 64 (l.length - i) - i = min 64 (l.length - i) by omega]
    rcases Nat.le_total 64 (l.length - i) with h | h
    · rw [Nat.min_eq_left h]
    · rw [Nat.min_eq_right h, List.take_of_length_le (by simp), List.take_of_length_le (by simp; omega)]
  have h1 := Kd.C_mid (c := l.length + 1) (lo := i) (hi := i + min 64 (l.length - i)) h (by omega) (by omega) (by omega)
  rw [if_neg (by omega), e] at h1
  have h2 : ((l.drop i).take 64).length = min 64 (l.length - i) := by simp
  rw [h2] at h1
  exact h1
theorem R_appendIn {P : Program} {ops : Array Oper} {rest : List Oper} {o : Oper} {a : Act} {Q : Exit → Act → World → Prop} {α : Type} {L m : Nat} (d : Kd α) (hQ : ¬ LetsOut Q) {w0 W : World} (base : Nat) (hgd : o.guard = none) (s x : Operand) (t e : TypeId) (z : Value) (bytes : Nat)
    (ho : o.op = .call { callee := .builtin .append, args := #[s, x], argTypes := #[t, t] })
    (ht : P.underlying t = some (.slice e)) (hinfo : (P.info? e).map (fun i => (i.zero, i.size, i.bytes)) = some (some z, d.sz, bytes)) (hz : z.cells.size = d.sz) (hs0 : 0 < d.sz) (hb0 : 0 < bytes)
    (v : Value) (xs : List α) (p : α) (cs : List Value) (ok okp : Nat → Prop) (hs : a.eval s = v) (hx : a.eval x = .slice (some ⟨W.heap.size, 0, none⟩) 1 1) (hp : d.M W base okp p cs) (hokp : ∀ k, okp k → ok k ∧ some k ≠ v.ownBlock) (hfresh : ∀ k, W.heap.size ≤ k → ok k)
    (HO : d.R e W base ok v xs) (HB : Below base w0 W) (hbase : base ≤ W.heap.size) (hl : (xs.length + 1) * bytes ≤ 140737488355328)
    (h : ∀ v1 w1, d.R e w1 base ok v1 (xs ++ [p]) → Below base w0 w1 → W.grownBy w1 v.ownBlock → (v1.ownBlock = v.ownBlock ∨ ∃ b, v1.ownBlock = some b ∧ W.heap.size ≤ b) → wpListIn (Fence.wide.inRound L) m P ops Q rest (a.put o.dst v1) w1) :
    wpListIn (Fence.wide.inRound L) m P ops Q (o :: rest) a (W.alloc (.cells cs.toArray e)) := by
  refine wpListIn_plain hgd fun K hK => ?_
  refine wpIn_round hQ (fun c hc => by rw [ho] at hc; cases hc) (fun _ _ h => h) ?_
  have hw : Region.wanted o (yielded ops a.tmps) = true := by simp [Region.wanted, hgd]
  have h9 := Kd.R_append_step d (w0 := w0) (Kc := K) (Q := Q) base hw s x t e z bytes ho ht hinfo hz hs0 hb0 v xs p cs ok okp hs hx hp hokp hfresh HO HB hbase hl (fun v1 w1 a b c d => hK _ _ (h v1 w1 a b c d))
  rw [if_pos hw] at h9
  exact h9
theorem S_appendIn {P : Program} {ops : Array Oper} {rest : List Oper} {o : Oper} {a : Act} {Q : Exit → Act → World → Prop} {α : Type} {L m : Nat} (d : Kd α) (hQ : ¬ LetsOut Q) {w0 W : World} (base : Nat) (hgd : o.guard = none) (s x : Operand) (t e : TypeId) (z : Value) (bytes : Nat)
    (ho : o.op = .call { callee := .builtin .append, args := #[s, x], argTypes := #[t, t] })
    (ht : P.underlying t = some (.slice e)) (hinfo : (P.info? e).map (fun i => (i.zero, i.size, i.bytes)) = some (some z, d.sz, bytes)) (hz : z.cells.size = d.sz) (hs0 : 0 < d.sz) (hb0 : 0 < bytes)
    (v : Value) (xs : List α) (p : α) (cs : List Value) (ok okp : Nat → Prop) (hs : a.eval s = v) (hx : a.eval x = .slice (some ⟨W.heap.size, 0, none⟩) 1 1) (hp : d.M W base okp p cs) (hokp : ∀ k, okp k → ok k ∧ some k ≠ v.ownBlock) (hfresh : ∀ k, W.heap.size ≤ k → ok k)
    (HO : Kd.S d e W base (fun k => ok k ∧ ¬ okp k) v xs) (HB : Below base w0 W) (hbase : base ≤ W.heap.size) (hl : (xs.length + 1) * bytes ≤ 140737488355328)
    (h : ∀ v1 w1, Kd.S d e w1 base ok v1 (xs ++ [p]) → Below base w0 w1 → W.grownBy w1 v.ownBlock → (v1.ownBlock = v.ownBlock ∨ ∃ b, v1.ownBlock = some b ∧ W.heap.size ≤ b) → wpListIn (Fence.wide.inRound L) m P ops Q rest (a.put o.dst v1) w1) :
    wpListIn (Fence.wide.inRound L) m P ops Q (o :: rest) a (W.alloc (.cells cs.toArray e)) := by
  refine wpListIn_plain hgd fun K hK => ?_
  refine wpIn_round hQ (fun c hc => by rw [ho] at hc; cases hc) (fun _ _ h => h) ?_
  have hw : Region.wanted o (yielded ops a.tmps) = true := by simp [Region.wanted, hgd]
  have h9 := Kd.S_append_step d (w0 := w0) (Kc := K) (Q := Q) base hw s x t e z bytes ho ht hinfo hz hs0 hb0 v xs p cs ok okp hs hx hp hokp hfresh HO HB hbase hl (fun v1 w1 a b c d => hK _ _ (h v1 w1 a b c d))
  rw [if_pos hw] at h9
  exact h9
set_option maxHeartbeats 1000000 in
theorem compact_no (A : Option Addr) (c : Nat) (l : List S75) (w : World) (hr : Kd.C k75 w A l.length l) (hc : l.length ≤ c) (K : Nat) (hM : dir_May.f K l = some false) :
    Calls Try.prog 25 #[.slice A l.length c] w fun e w' => e = .returned (.slice none 0 0) ∧ Below w.heap.size w w' := by
  have HM := Aside0.mk hM
  have HR := Aside0.mk hr
  have HC := Aside0.mk hc
  clear hM hr hc
  go_enter Try.func25, Try.ntmps25
  go_wp2_with (go_at_call 23; refine (dir_May.calls K A c l false _ HR.out HC.out HM.out).mono ?_; rintro e w' ⟨rfl, hb⟩; have HB := Aside0.mk hb; clear hb)
  go_ret
  exact ⟨rfl, HB.out⟩
theorem partsF_end (l : List S75) (m i : Nat) (h : l.length ≤ i) : partsF l m i = [] := by
  cases m with
  | zero => rfl
  | succ m => rw [partsF, if_neg (by omega)]
set_option maxHeartbeats 4000000 in
set_option maxRecDepth 100000 in
theorem compact_walk (A : Option Addr) (c : Nat) (l : List S75) (w : World) (hr : Kd.C k75 w A l.length l) (hc : l.length ≤ c) (K : Nat) (hM : dir_May.f K l = some true) (hl : l.length ≤ 100000) :
    Calls Try.prog 25 #[.slice A l.length c] w fun e w' => ∃ v, e = .returned v ∧ Kd.S (Kd.slice 42 k42) 23 w' w.heap.size (fun _ => True) v (partsF l l.length 0) ∧ Below w.heap.size w w' := by
  have HM := Aside0.mk hM
  have HR := Aside0.mk hr
  have HC := Aside0.mk hc
  clear hM hr
  refine (callsIn_wide (n := 9)).1 ?_
  refine callsIn_of_wp_marks Try.func25 rfl trivial ?_ rfl
  simp only [Try.ntmps25, List.size_toArray, List.length_cons, List.length_nil, Nat.reduceAdd, Nat.reduceSub, Array.replicate_succ, Array.replicate_zero, List.push_toArray, List.append_toArray, List.nil_append, List.cons_append]
  gi_wp2_with (first | (refine ⟨trivial, ?_⟩; gi_at_call 23; refine (callsIn_wide.2 (dir_May.calls K A c l true _ HR.out HC.out HM.out)).mono ?_; rintro e w1 ⟨rfl, hb⟩; have HB := Aside0.mk hb; clear hb) | (refine ⟨trivial, ?_⟩; gi_at_call 54; refine (chunk_in 8 _ _ _ _).mono ?_; rintro e w2 ⟨rfl, rfl⟩))
  obtain ⟨p, hp⟩ : ∃ p, w1.heap.size = p := ⟨_, rfl⟩
  simp only [World.size_alloc, hp, Nat.add_assoc, Nat.reduceAdd]
  obtain ⟨W, hW⟩ : ∃ W, W = ((w1.alloc (.cells #[.slice none 0 0] 32)).alloc (.cells #[.slice A l.length c] 22)).alloc (.cells #[.int .i64 64] 3) := ⟨_, rfl⟩
  rw [← hW]
  have hs4 : W.heap.size = p + 3 := by rw [hW]; simp only [World.size_alloc, hp, Nat.add_assoc, Nat.reduceAdd]
  refine range_F rfl (by omega) (gf := 91) (lb := #[.pointer (some ⟨p + 1, 0, none⟩), .pointer (some ⟨p + 2, 0, none⟩)]) rfl trivial (enters_of Try.func91 (by kernel_rfl) rfl) ?_
  intro fn W1 hW1
  rw [hs4] at hW1
  simp only [hs4, Nat.add_assoc, Nat.reduceAdd]
  obtain ⟨rec, hrec, A0⟩ := CpSt.start_rec hp hW hW1
  clear hW1 hW
  have hwp : w.heap.size ≤ p := by rw [← hp]; exact HB.out.size
  refine (chunk1_in 7 (p + 4) p A c l hc hl (fun i W => ∃ v acc m, CpSt p w1 A l.length c (rec .ready none) v acc W ∧ acc ++ partsF l m i = partsF l l.length 0 ∧ l.length ≤ i + m ∧ acc.length ≤ i) ?_ ?_ ?_ W1 ⟨_, [], l.length, A0, by simp, by omega, by simp⟩).mono ?_
  · rintro i W ⟨v, acc, m, h, _⟩
    exact ⟨h.hs, h.hn⟩
  · rintro i W W' ⟨v, acc, m, h, h2⟩ hb
    exact ⟨v, acc, m, h.later hb, h2⟩
  · rintro i W hlt ⟨u, acc, m, h, hA, hm, hal⟩
    cases m with
    | zero => omega
    | succ m =>
      rw [partsF, if_pos hlt] at hA
      have hKC0 : ∀ W' : World, Below w.heap.size w W' → Kd.C k75 W' (A.map (·.add (i * 2))) (min 64 (l.length - i)) ((l.drop i).take 64) := fun W' hb => Kd.C_part (Kd.C_below HR.out hb) HC.out i hlt
      have hpl : ((l.drop i).take 64).length = min 64 (l.length - i) := by simp
      obtain ⟨A', hA'⟩ : ∃ A', A' = A.map (·.add (i * 2)) := ⟨_, rfl⟩
      obtain ⟨r, hr⟩ : ∃ r, r = min 64 (l.length - i) := ⟨_, rfl⟩
      obtain ⟨part, hpart⟩ : ∃ part, part = (l.drop i).take 64 := ⟨_, rfl⟩
      rw [← hA', ← hr, ← hpart] at hKC0
      rw [← hr, ← hpart] at hpl
      rw [← hpart] at hA
      rw [← hA', ← hr]
      have hr64 : r ≤ 64 := by omega
      clear hA' hr hpart
      refine yield_rec hrec h.hL rfl ?_
      clear A0 hrec
      gi_wp2
      refine ⟨h.hL, ?_⟩
      have A4 := h.put (rec .busy none)
      generalize W.putObj (p + 4) (.loop (rec .busy none)) = W4 at A4 ⊢
      have S4 : Aside0 (Kd.S (Kd.slice 42 k42) 23 W4 (p + 5) (fun k => p + 5 ≤ k ∧ ¬ W4.heap.size ≤ k) u acc) := ⟨Kd.S_mono (Kd.S_bound A4.row) (fun k hk => ⟨hk.1, by omega⟩)⟩
      have HKC := Aside0.mk hKC0
      have HA := Aside0.mk hA
      have HN := Aside0.mk (And.intro hm (And.intro hal (And.intro hlt hl)))
      have A4' := Aside0.mk A4
      have hN5 := A4.sz
      obtain ⟨N, hN⟩ : ∃ N, N = W4.heap.size := ⟨_, rfl⟩
      rw [← hN] at S4 hN5
      have HNN := Aside0.mk hN
      have HPL := Aside0.mk hpl
      have hmf : (∀ W' : World, True) := fun _ => trivial
      clear hKC0 hA hm hal hlt h A4 hN hpl hmf
      gi_wp2
      gi_loopw [5, 16] (fun v5 v16 wr => ∃ x : Nat, v16 = .int .i64 (x : Int) ∧ x ≤ r ∧ Aside0 (CpSt p w1 A l.length c (rec .busy none) u acc wr) ∧ Aside0 (Kd.S (Kd.slice 42 k42) 23 wr (p + 5) (fun k => p + 5 ≤ k ∧ ¬ N ≤ k) u acc) ∧ Aside0 (Kd.R k42 42 wr N (fun k => N ≤ k) v5 ((part.take x).map putP)) ∧ Aside0 (N ≤ wr.heap.size)) (fun _ v16 _ => r - (intOf v16).toNat)
      case atStart => exact ⟨0, rfl, by omega, A4', S4, ⟨Kd.R_nil _ _ _ _ _⟩, ⟨by have := HNN.out; omega⟩⟩
      case round =>
        obtain ⟨x, rfl, hx, HCp, HS, HRow, HSz⟩ := hrel
        clear A4' S4
        by_cases hxr : x < r
        · have x0 : (0 : Int) ≤ (x : Int) := by omega
          have x1 : (x : Int) < (r : Int) := by omega
          obtain ⟨ad, e9, hx0, hx1⟩ := at_T75 (HKC.out _ (HB.out.trans (HCp.out.below.mono hwp))) (x : Int) x0 x1
          cases e9
          simp only [Int.toNat_natCast] at hx0 hx1
          obtain ⟨p0, hp0⟩ : ∃ p0, p0 = (rd_T75 part (x : Int)).f0 := ⟨_, rfl⟩
          obtain ⟨p1, hp1⟩ : ∃ p1, p1 = (rd_T75 part (x : Int)).f1 := ⟨_, rfl⟩
          rw [← hp0] at hx0
          rw [← hp1] at hx1
          have HT : Aside0 ((part.take (x + 1)).map putP = (part.take x).map putP ++ [⟨p0, p1, false⟩]) := ⟨by
            have hxl : x < part.length := by have := HPL.out; omega
            have er : rd_T75 part (x : Int) = part[x] := by unfold rd_T75; rw [Int.toNat_natCast, List.getD_eq_getElem?_getD, List.getElem?_eq_getElem hxl]; rfl
            rw [List.take_succ_eq_append_getElem hxl, List.map_append, hp0, hp1, er]
            rfl⟩
          obtain ⟨gl, hgl⟩ : ∃ gl, gl = (part.take x).map putP := ⟨_, rfl⟩
          have hg64 : gl.length ≤ 64 := by rw [hgl, List.length_map, List.length_take]; omega
          rw [← hgl] at HRow HT
          clear hgl
          have HXR := Aside0.mk hxr
          obtain ⟨A5, c5, ev⟩ := Kd.R_slice HRow.out
          subst ev
          clear hp0 hp1 hx hxr
          gi_wp2_with (first | (refine ⟨trivial, ?_⟩; gi_at_call 53; refine (callsIn_round (dir_put.calls p0 p1 p0 p1 false _ rfl)).mono ?_; rintro e w7 ⟨rfl, hb⟩; have hb7 := ((Below.refl _ wr).alloc (Nat.le_refl _) _).trans (hb.mono (by simp)); have HCp7 := Aside0.mk (HCp.out.later hb7); have HS7 := Aside0.mk (Kd.S_below HS.out hb7); have HRow7 := Aside0.mk (Kd.R_below HRow.out hb7); have HSz7 := Aside0.mk (Nat.le_trans HSz.out hb7.size); clear hb hb7 HCp HS HRow HSz) | (gi_at_builtin; (refine R_appendIn k42 (w0 := w7) (by rintro ⟨_, _, h⟩; exact h) N rfl _ _ 23 42 (.agg #[(.string ⟨#[]⟩), (.string ⟨#[]⟩), (.bool false)]) 40 rfl Try.underlying23 info42 rfl (by decide) (by omega) (.slice A5 gl.length c5) gl (⟨p0, p1, false⟩ : S42) [.string p0, .string p1, .bool false] (fun k => N ≤ k) (fun _ => False) rfl (by first | (go_simp; done) | (go_simp; rfl)) (k42_mkM _ _ _ (⟨p0, p1, false⟩ : S42)) (fun _ hk => hk.elim) (fun k hk => Nat.le_trans HSz7.out hk) HRow7.out (Below.refl _ _) HSz7.out (by omega) ?_; intro v1 w9 ho hb hg hat; obtain ⟨HC9, HS9⟩ := HCp7.out.laterN hN5 HS7.out hb; have HCp9 := Aside0.mk HC9; have HS9 := Aside0.mk HS9; have HRow9 := Aside0.mk ho; have HSz9 := Aside0.mk (Nat.le_trans HSz7.out hb.size); clear HC9 ho hb hg hat HCp7 HS7 HRow7 HSz7)))
          go_roundw
          case rel => exact ⟨x + 1, by go_num, HXR.out, HCp9, HS9, ⟨by rw [HT.out]; exact HRow9.out⟩, HSz9⟩
          case measure => have := HXR.out; simp [intOf]; omega
        · obtain rfl : x = r := by omega
          have hpt : (part.take x).map putP = part.map putP := by rw [List.take_of_length_le (by have := HPL.out; omega)]
          rw [hpt] at HRow
          obtain ⟨gl, hgl⟩ : ∃ gl, gl = part.map putP := ⟨_, rfl⟩
          rw [← hgl] at HRow HA
          clear hgl hpt
          obtain ⟨A5, c5, ev⟩ := Kd.R_slice HRow.out
          subst ev
          obtain ⟨A6, c6, ev⟩ := Kd.S_slice HS.out
          subst ev
          have c1 : wr.cell? ⟨p, 0, none⟩ = some (.slice A6 acc.length c6) := (blk_cell HCp.out.hp 0).trans rfl
          have f1 := blk_frozen HCp.out.hp 0
          have hown : ∀ k, (Value.slice A6 acc.length c6).ownBlock = some k → ¬ N ≤ k := by
            obtain ⟨f, hf⟩ := HS.out
            exact fun k hk => (hf.1 k hk).2
          have HOW := Aside0.mk hown
          clear hown hx
          gi_wp2_with (gi_at_builtin; (refine S_appendIn (Kd.slice 42 k42) (w0 := wr) (by rintro ⟨_, _, h⟩; exact h) (p + 5) rfl _ _ 32 23 (.slice none 0 0) 24 rfl Try.underlying32 info23 rfl (by decide) (by omega) (.slice A6 acc.length c6) acc gl [.slice A5 gl.length c5] (fun k => p + 5 ≤ k) (fun k => N ≤ k) rfl (by first | (go_simp; done) | (go_simp; rfl)) ⟨_, rfl, Kd.R_lower HRow.out hN5⟩ (fun k hk => ⟨Nat.le_trans hN5 hk, fun e => HOW.out k e.symm hk⟩) (fun k hk => Nat.le_trans hN5 (Nat.le_trans HSz.out hk)) HS.out (Below.refl _ _) (Nat.le_trans hN5 HSz.out) (by have := HN.out; omega) ?_; intro v1 w9 ho hb hg hat; obtain ⟨A7, c7, ev⟩ := Kd.S_slice ho; obtain ⟨n7, hn7⟩ : ∃ n7 : Nat, n7 = (acc ++ [gl]).length := ⟨_, rfl⟩; rw [← hn7] at ev; subst ev; have HCG := Aside0.mk (HCp.out.setG hb ho); have cp9 := (hb.block p (by omega)).trans HCp.out.hp; have c9 : w9.cell? ⟨p, 0, none⟩ = some (.slice A6 acc.length c6) := (blk_cell cp9 0).trans rfl; have f9 := blk_frozen cp9 0; clear ho hb hg hat cp9 hn7))
          exact ⟨HCG.out.hL, rfl, _, acc ++ [gl], m, HCG.out.put _, by rw [List.append_assoc]; exact HA.out, by have := HN.out; omega, by rw [List.length_append]; have := HN.out; simp; omega⟩
  · rintro e W2 ⟨⟨v, rfl⟩, i, hi, u, acc, m, h, h1, _, _⟩
    rw [partsF_end l m i hi, List.append_nil] at h1
    refine end_none hrec h.hL ?_
    have h2 := h.put (rec .exhausted none)
    generalize W2.putObj (p + 4) (.loop (rec .exhausted none)) = W3 at h2 ⊢
    have c1 : W3.cell? ⟨p, 0, none⟩ = some u := (blk_cell h2.hp 0).trans rfl
    gi_wp2
    refine ⟨by simp, .inl ⟨_, _, rfl, run_takeDeferred (w := W3) h2.hD, ?_⟩⟩
    refine ⟨_, results_tmp rfl _ _ _, u, rfl, ?_⟩
    have h3 := h2.leaves (.deferred none)
    rw [h1] at h3
    exact ⟨Kd.S_lower h3.1 hwp, HB.out.trans (h3.2.mono hwp)⟩
def dir_Compact.f (l0 : List S75) : Option (List (List S42)) := (dir_May.f 2000 l0).bind fun m => if m = true then (if l0.length ≤ 100000 then some (partsF l0 l0.length 0) else none) else some []
theorem compactF_calls (K : Nat) (A0 : Option Addr) (c0 : Nat) (l0 : List S75) (r : List (List S42)) (w : World) (hr0 : Kd.C k75 w A0 l0.length l0) (hc0 : l0.length ≤ c0) (h : ((dir_May.f K l0).bind fun m => if m = true then (if l0.length ≤ 100000 then some (partsF l0 l0.length 0) else none) else some []) = some r) :
    Calls Try.prog 25 #[.slice A0 l0.length c0] w fun e w' => ∃ v0_ : Value, e = .returned v0_ ∧ Kd.S (Kd.slice 42 k42) 23 w' w.heap.size (fun _ => True) v0_ r ∧ Below w.heap.size w w' := by
  obtain ⟨m, hm, h⟩ := Option.bind_eq_some_iff.mp h
  cases m with
  | true =>
    rw [if_pos rfl] at h
    by_cases hs : l0.length ≤ 100000
    · rw [if_pos hs] at h
      obtain rfl := Option.some.inj h
      exact compact_walk A0 c0 l0 w hr0 hc0 K hm hs
    · rw [if_neg hs] at h; cases h
  | false =>
    rw [if_neg (by decide)] at h
    obtain rfl := Option.some.inj h
    refine (compact_no A0 c0 l0 w hr0 hc0 K hm).mono ?_
    rintro e w' ⟨rfl, hb⟩
    exact ⟨_, rfl, Kd.S_nil _ _ _ _ _, hb⟩
theorem dir_Compact.calls (A0 : Option Addr) (c0 : Nat) (l0 : List S75) (r : List (List S42)) (w : World) (hr0 : Kd.C k75 w A0 l0.length l0) (hc0 : l0.length ≤ c0) (h : dir_Compact.f l0 = some r) :
    Calls Try.prog 25 #[.slice A0 l0.length c0] w fun e w' => ∃ v0_ : Value, e = .returned v0_ ∧ Kd.S (Kd.slice 42 k42) 23 w' w.heap.size (fun _ => True) v0_ r ∧ Below w.heap.size w w' := compactF_calls 2000 A0 c0 l0 r w hr0 hc0 h
end Go.Proofs.Ytggngbbkachpaaa.Given
