/- scan.All walked: the groups of bytes, as far as each follows the one before. -/
import Derived.OrdersIn
import Derived.RangeFuncIn
import Derived.Test.YtcgbjkjacpeheaaWWords
import Derived.Test.YtcgbjkjacpeheaaWLast
import Derived.Test.YtcgbjkjacpeheaaProg
import Derived.Below
import Derived.Deep.Draws
import Derived.Deep.AppendLies
import Derived.Maps.AppendAt
import Derived.OwnWalk
import Derived.Laws.BytesArg
import Derived.Laws.MakeOwn
import Derived.Laws.OwnMore
import Derived.Deep.OwnRows
import Derived.Tactics
import Derived.Lib.ConvBytes
import Derived.Laws.Slices
import Derived.WalkKit
import Derived.KernelRfl
import Derived.RowKit3
import Derived.Deep.LoopGhost
import Derived.Deep.QuietTactic
import Derived.BigQuiet
import Derived.WideLaws
import Derived.Deep.DeepCutAuto
import Derived.Deep.CutBlock
import Derived.Deep.RegionHeld3
import Derived.Laws.Rows
import Derived.Lib.AppendStr
import Derived.ArgAppend
import Derived.Laws.IdiomCopy
import Derived.OrdersHeld
import Derived.Laws.BitsLemmas
import Derived.RowKit
import Derived.Test.YtcgbjkjacpeheaaWTab
import Derived.Test.YtcgbjkjacpeheaaWFour
import Derived.Test.YtcgbjkjacpeheaaWQPut
import Derived.Test.YtcgbjkjacpeheaaWApart
import Derived.Test.YtcgbjkjacpeheaaWArr
import Derived.Test.YtcgbjkjacpeheaaWZeros
import Derived.Test.YtcgbjkjacpeheaaWFoot
import Derived.Test.YtcgbjkjacpeheaaWKept
import Derived.Test.YtcgbjkjacpeheaaWShare
import Derived.Test.YtcgbjkjacpeheaaWN
import Derived.Test.YtcgbjkjacpeheaaWFootNe
import Derived.Test.YtcgbjkjacpeheaaWAt
import Derived.Test.YtcgbjkjacpeheaaWEqStruct
import Derived.Test.YtcgbjkjacpeheaaWRepsOne
import Derived.Test.YtcgbjkjacpeheaaWInv
import Derived.Test.YtcgbjkjacpeheaaWInvWords
import Derived.Test.YtcgbjkjacpeheaaWGuard
import Derived.Test.YtcgbjkjacpeheaaWNEv
import Derived.Test.YtcgbjkjacpeheaaWMore
import Derived.RangeFuncBox
import Derived.RangeFuncLeaves
import Derived.RangeFuncNested
import Derived.RangeFuncBound
import Derived.RangeFuncCalls
import Derived.Shelf.Abstract
import Derived.OwnWalkIn
import Derived.TacticsInMore
import Derived.LoopNIn
import Derived.LoopIn
import Derived.Test.YtcgbjkjacpeheaaPureFrB
import Derived.Test.YtcgbjkjacpeheaaPFrx10
namespace Go.Proofs.Ytcgbjkjacpeheaa.RoundB
open Go Go.RowKit Go.Proofs.YtcgbjkjacpeheaaW.PrintWords Go.Proofs.YtcgbjkjacpeheaaW.PrintLast
set_option linter.unusedVariables false
variable {P : Program} {ops : Array Oper} {Q : Exit → Act → World → Prop}
theorem callsIn_round {l n : Nat} {f : FuncId} {args : Array Value} {w : World} {R : Ending → World → Prop} (h : Calls P f args w R) : CallsIn (Fence.wide.inRound l) n P f args w R := by
  have h2 := (callsIn_wide (n := n)).2 h
  exact ⟨trivial, fun cs hr => h2.2 cs (room_wide _)⟩
theorem rowsIn_round {l n : Nat} {row : String} {args : Array Value} {w : World} {R : Value → World → Prop} (h : Rows P row args w R) : RowsIn (Fence.wide.inRound l) n P row args w R := fun c cs _ => by
  obtain ⟨v, w', hR, hs⟩ := h c cs
  exact ⟨v, w', hR, stepsIn_wide.2 hs⟩
theorem uponIn_round {o : Oper} {a : Act} {K K' : Act → World → Prop} {l n : Nat} (hQ : ¬ LetsOut Q) (hK : ∀ a w, K a w → K' a w) : ∀ {r : Result Next}, o.upon P a K Q r → o.uponIn (Fence.wide.inRound l) n P a K' Q r := by
  intro r h
  cases r with
  | ok x w' =>
    cases x with
    | value v => exact hK _ _ h
    | skip => exact hK _ _ h
    | defer d => exact hK _ _ h
    | enter f args =>
      refine ⟨fun hh => (by cases hh), ?_⟩
      refine callsIn_round (Calls.mono h ?_)
      intro e w'' he
      cases e with
      | returned v => exact hK _ _ he
      | panicked c => exact he
      | outgrown => exact absurd he hQ
    | row row args => exact ⟨fun hh => (by cases hh), rowsIn_round (Rows.mono h (fun _ _ he => hK _ _ he))⟩
    | _ => exact h.elim
  | halt x w' => cases x <;> exact h
theorem wpIn_round {o : Oper} {a : Act} {w : World} {K K' : Act → World → Prop} {l n : Nat} (hQ : ¬ LetsOut Q) (hd : ∀ c, o.op ≠ .defer c) (hK : ∀ a w, K a w → K' a w) (h : o.wp P a w K Q) : o.wpIn (Fence.wide.inRound l) n P a w K' Q := by
  refine ⟨fun _ _ => trivial, ?_⟩
  rw [Oper.semAt_eq _ _ _ hd]
  exact uponIn_round hQ hK h
theorem wpOpIn_round {i : Nat} {a : Act} {w : World} {K K' : Act → World → Prop} {l n : Nat} (hQ : ¬ LetsOut Q) (hd : ∀ (j : Nat) (o : Oper), ops[j]? = some o → ∀ c, o.op ≠ .defer c) (hK : ∀ a w, K a w → K' a w) (h : wpOp P ops Q i K a w) : wpOpIn (Fence.wide.inRound l) n P ops Q i K' a w := by
  unfold wpOp at h
  unfold wpOpIn
  cases ho : ops[i]? with
  | none => rw [ho] at h; exact hK _ _ h
  | some o =>
    rw [ho] at h
    simp only [] at h ⊢
    by_cases hw : Region.wanted o (yielded ops a.tmps) = true
    · rw [if_pos hw] at h ⊢
      rcases h with h | h
      · exact wpIn_round hQ (hd i o ho) hK h
      · exact absurd h.2 hQ
    · rw [if_neg hw] at h ⊢
      exact ⟨fun _ _ => trivial, hK _ _ h⟩
theorem wpAnyIn_round {l n : Nat} {md : Region.Mode} (hQ : ¬ LetsOut Q) (hd : ∀ (j : Nat) (o : Oper), ops[j]? = some o → ∀ c, o.op ≠ .defer c) : ∀ (fuel : Nat) (listed : Array Bool) (a : Act) (w : World), wpAny P md ops Q fuel listed a w → wpAnyIn (Fence.wide.inRound l) n P md ops Q fuel listed a w
  | 0, _, _, _, h => h
  | fuel + 1, _, _, _, h => ⟨h.1, fun i hi => wpOpIn_round hQ hd (fun a' w' h' => wpAnyIn_round hQ hd fuel _ a' w' h') (h.2 i hi)⟩
def noDefer (o : Oper) : Bool := match o.op with | .defer _ => false | _ => true
theorem noDefer_all (h : ops.all noDefer = true) : ∀ (j : Nat) (o : Oper), ops[j]? = some o → ∀ c, o.op ≠ .defer c := by
  intro j o ho c hc
  have h2 := Array.all_eq_true_iff_forall_mem.1 h o (Array.mem_of_getElem? ho)
  unfold noDefer at h2
  rw [hc] at h2
  cases h2
/-- A region that draws its order, within a round: by the steps that serve outside of one. -/
theorem startIn_ {S : World → Prop} {ds : List Nat} {id n m k : Nat} {a : Act} {w : World} (l : Array Bool) (hm : P.follows .mixedOrders = true) (hn : ops.size = n) (hl : Array.replicate n false = l) (hQ : ¬ LetsOut Q) (hd : ops.all noDefer = true) (hS : S w.drew)
    (h : S w.drew → wpAnyLast P .any ops Q S ds n l a w.drew) : (Code.region id ops true).wpIn (Fence.wide.inRound k) m P Q a w := by
  subst hn
  subst hl
  exact wpIn_region_any hm (wpAnyIn_round hQ (noDefer_all hd) _ _ _ _ (wpAny_of_last _ _ _ _ (h hS)))
end Go.Proofs.Ytcgbjkjacpeheaa.RoundB
namespace Go.Proofs.Ytcgbjkjacpeheaa.Given
open Go Go.RowKit Go.Shelf Go.Proofs.Ytcgbjkjacpeheaa.PFr Go.Proofs.Ytcgbjkjacpeheaa.Pure Go.Proofs.Ytcgbjkjacpeheaa.Bs Go.Proofs.Ytcgbjkjacpeheaa.RoundB Go.Proofs.YtcgbjkjacpeheaaW.PrintWords Go.Proofs.YtcgbjkjacpeheaaW.PrintLast Go.Proofs.YtcgbjkjacpeheaaW.PrintMore
attribute [local go_sem] Oper.semAt_some
set_option linter.unusedVariables false
set_option linter.unusedSimpArgs false
/-- A yield of a loop that is ready: the assignments, then the body, in a round. -/
theorem yield_ready {P : Program} {L m : Nat} {args : Array Value} {W : World} {r : Loop} {R : Ending → World → Prop} (hl : W.heap[L]? = some (.loop r)) (hs : args.size = r.params.size)
    (h : r.assign.wpIn (Fence.wide.inRound L) m P (Exit.then (fun a1 W1 => ∃ W2, (Instr.beginRound L).run P W1 = .ok () W2 ∧ r.body.wpIn (Fence.wide.inRound L) m P (roundPost P L R) a1 W2) (fun _ _ _ => False)) { tmps := (r.params.zip args).foldl (fun t (p, v) => t.setIfInBounds p v) r.tmps, defers := [] } W) :
    YieldAt Fence.wide m P L args W R := ⟨_, _, _, _, run_yield hl hs, roundIn_of_wpIn trivial h⟩
/-- Does a group's number not follow the last one's? -/
def brk (acc : List S30) (q : Int) : Bool := match acc.getLast? with | none => false | some g => q != wrap64 (g.f0 + 1)
/-- The groups of bytes behind acc, and what is left. -/
def allF (K : Nat) : Nat → ByteArray → List S30 → Option (List S30 × ByteArray)
  | 0, _, _ => none
  | n + 1, s, acc => (frame_Read.f K s).bind fun r => if r.2.2.2 = 0 then (if brk acc r.1 = true then some (acc, s) else allF K n r.2.2.1 (acc ++ [⟨r.1, r.2.1⟩])) else some (acc, s)
set_option maxHeartbeats 1000000 in
theorem groups_in (n : Nat) (s : ByteArray) (w : World) :
    CallsIn Fence.wide n Try.prog 50 #[.string s] w fun e w' => e = .returned (.func (.func 64) #[] #[.pointer (some ⟨w.heap.size, 0, none⟩)]) ∧ w' = w.alloc (.cells #[.string s] 9) := by
  refine callsIn_of_wp Try.func50 rfl trivial ?_ rfl
  simp only [Try.ntmps50, List.size_toArray, List.length_cons, List.length_nil, Nat.reduceAdd, Nat.reduceSub, Array.replicate_succ, Array.replicate_zero, List.push_toArray, List.append_toArray, List.nil_append, List.cons_append]
  have hmf : ∀ (fn : Fn) (first cap : Array Value) (w : World), (Instr.makeFunc fn first cap).run Try.prog w = .ok (.func fn first cap) w := fun _ _ _ _ => rfl
  gi_wp2
  go_ret
  exact ⟨rfl, rfl⟩
def strAt (sb : Nat) (W : World) : Nat := match W.cell? ⟨sb, 0, none⟩ with | some (.string s) => s.size | _ => 0
set_option maxRecDepth 100000 in
set_option maxHeartbeats 2000000 in
theorem groups1_in (m L sb K : Nat) (hK : 141 ≤ K) (res : List S30 × ByteArray) (St : ByteArray → List S30 → World → Prop) (Mid : ByteArray → ByteArray → List S30 → World → Prop) (Bk : ByteArray → List S30 → World → Prop)
    (hsb : ∀ s acc W, St s acc W → W.heap[sb]? = some (.cells #[.string s] 9 (0, 0)) ∧ s.size ≤ 7000000)
    (hbel : ∀ s acc W W', St s acc W → Below W.heap.size W W' → St s acc W')
    (hmid : ∀ s s' acc W, Mid s s' acc W → s'.size ≤ s.size → W.heap[sb]? = some (.cells #[.string s] 9 (0, 0)) ∧ St s' acc (W.setCell ⟨sb, 0, none⟩ (.string s')))
    (hY : ∀ s acc Wp W q v cs rest, St s acc Wp → Below Wp.heap.size Wp W → Kd.R k62 62 W Wp.heap.size (fun _ => True) v cs → rest.size < s.size →
      YieldAt Fence.wide m Try.prog L #[.agg #[.int .i64 q, v], .string rest] W fun e W' => (e = .returned (.bool true) ∧ brk acc q = false ∧ Mid s rest (acc ++ [⟨q, cs⟩]) W') ∨ (e = .returned (.bool false) ∧ brk acc q = true ∧ Bk s acc W'))
    (n : Nat) (s : ByteArray) (acc : List S30) (W : World) (h0 : St s acc W) (hF : allF K n s acc = some res) :
    CallsIn Fence.wide (m + 1) Try.prog 64 #[.func (.yield L) #[] #[], .pointer (some ⟨sb, 0, none⟩)] W fun e W' => (∃ v, e = .returned v) ∧ ((St res.2 res.1 W') ∨ (Bk res.2 res.1 W')) := by
  have hu := Try.underlying30
  refine callsIn_of_wp Try.func64 rfl trivial ?_ rfl
  simp only [Try.ntmps64, List.size_toArray, List.length_cons, List.length_nil, Nat.reduceAdd, Nat.reduceSub, Array.replicate_succ, Array.replicate_zero, List.push_toArray, List.append_toArray, List.nil_append, List.cons_append]
  gi_wp2
  gi_loopw [] (fun wr => ∃ (s : ByteArray) (acc : List S30) (n : Nat), St s acc wr ∧ allF K n s acc = some res) (fun wr => strAt sb wr)
  case atStart => exact ⟨s, acc, n, h0, hF⟩
  case round =>
    obtain ⟨s, acc, n, hS, hF⟩ := hrel
    obtain ⟨hsbw, hsz⟩ := hsb _ _ _ hS
    have csb : wr.cell? ⟨sb, 0, none⟩ = some (.string s) := by rw [Lib.cell_of_heap hsbw]; rfl
    have hmeas : strAt sb wr = s.size := by unfold strAt; rw [csb]
    cases n with
    | zero => simp [allF] at hF
    | succ n =>
      obtain ⟨l, rfl⟩ := ex_bs s
      rw [bs_size] at hsz hmeas
      have hRd := frame_Read_f K hK l hsz
      rw [allF, hRd, Option.bind_some] at hF
      have hback := fun (h : (readF l).2.2.2 = 0) => readF_back (l := l) (q := (readF l).1) (cs := (readF l).2.1) (left := (readF l).2.2.1) (by rw [← h])
      generalize readF l = RR at hRd hF hback
      obtain ⟨q, cs, left, e0⟩ := RR
      dsimp only [outR] at hRd hback
      replace hF : (if e0 = 0 then (if brk acc q = true then some (acc, bs l) else allF K n (bs left) (acc ++ [⟨q, cs⟩])) else some (acc, bs l)) = some res := hF
      have HR := Aside0.mk hRd
      have HS := Aside0.mk hS
      have HM := Aside0.mk hmeas
      clear hRd hS hsbw hmeas h0
      by_cases he : e0 = 0
      · subst he
        obtain ⟨sq_, esq_, hq_, hc_, hn_, hl⟩ := hback rfl
        clear esq_ hq_ hc_ hn_
        have hlt : left.length < l.length := by rw [hl, List.length_append, frameL_length]; omega
        have HLT := Aside0.mk hlt
        rw [if_pos rfl] at hF
        have HF := Aside0.mk hF
        clear hF hback hl hlt
        gi_wp2_with (first | (refine ⟨trivial, ?_⟩; gi_at_call 22; refine ((callsIn_wide).2 (frame_Read.calls K (bs l) q cs (bs left) 0 _ HR.out)).mono ?_; rintro e w5 ⟨v1, rfl, ho, hb⟩; obtain ⟨Ao, co, eo⟩ := Kd.R_slice ho; subst eo; obtain ⟨fn, tmps, assign, body, hy, hR⟩ := hY (bs l) acc wr (w5.alloc (.cells #[.int .i64 q, .slice Ao cs.length co] 30)) q (.slice Ao cs.length co) cs (bs left) HS.out (hb.trans ((Below.refl _ w5).alloc hb.size _)) (Kd.R_alloc ho _) (by rw [bs_size, bs_size]; exact HLT.out); (try dsimp only at hy); have HRR := Aside0.mk hR; clear ho hb hR))
        refine HRR.out.mono ?_
        rintro e W3 (⟨rfl, hbk, hS3⟩ | ⟨rfl, hbk, hS3⟩)
        · obtain ⟨hsb3, hS4⟩ := hmid _ _ _ _ hS3 (by rw [bs_size, bs_size]; have := HLT.out; omega)
          have c3 : W3.cell? ⟨sb, 0, none⟩ = some (.string (bs l)) := by rw [Lib.cell_of_heap hsb3]; rfl
          have f3 := Lib.frozen_of_heap hsb3 0
          have hm3 : strAt sb (W3.setCell ⟨sb, 0, none⟩ (.string (bs left))) = left.length := by
            unfold strAt
            rw [World.cell?_setCell_same' _ _ _ (by rw [c3]; rfl)]
            exact bs_size left
          have HM3 := Aside0.mk hm3
          have HS3 := Aside0.mk hS4
          have HBK := Aside0.mk hbk
          clear hsb3 hm3 hS3 hS4 hbk
          gi_wp2
          go_roundw
          case rel => exact ⟨bs left, _, n, HS3.out, by have := HF.out; rw [HBK.out, if_neg (by decide)] at this; exact this⟩
          case measure => rw [HM3.out, HM.out]; exact HLT.out
        · have hres : res = (acc, bs l) := by have := HF.out; rw [hbk, if_pos rfl] at this; exact (Option.some.inj this).symm
          gi_wp2
          refine bodyPost_ret (results_none rfl _ _ _) rfl ?_
          rw [hres]
          exact ⟨⟨_, rfl⟩, .inr hS3⟩
      · rw [if_neg he] at hF
        obtain rfl := Option.some.inj hF
        have b1 : (e0 != 0) = true := bne_iff_ne.mpr he
        clear hback he hF
        gi_wp2_with (first | (refine ⟨trivial, ?_⟩; gi_at_call 22; refine ((callsIn_wide).2 (frame_Read.calls K (bs l) q cs (bs left) e0 _ HR.out)).mono ?_; rintro e w5 ⟨v1, rfl, ho, hb⟩; obtain ⟨Ao, co, eo⟩ := Kd.R_slice ho; subst eo; have HB := Aside0.mk hb; clear ho hb))
        refine ⟨fun _ hf => (by cases hf), ?_⟩
        gi_wp2
        refine bodyPost_ret (results_none rfl _ _ _) rfl ?_
        exact ⟨⟨_, rfl⟩, .inl (hbel _ _ _ _ HS.out (HB.out.trans ((Below.refl _ _).alloc HB.out.size _)))⟩
structure AllSt (p : Nat) (w0 : World) (a0 : ByteArray) (rec : Loop) (s : ByteArray) (en : Int) (v : Value) (acc : List S30) (W : World) : Prop where
  sz : p + 6 ≤ W.heap.size
  hp : W.heap[p]? = some (.cells #[.string a0] 9 (0, 0))
  hq : W.heap[p + 1]? = some (.cells #[v] 47 (0, 0))
  row : Kd.S k30 30 W (p + 6) (fun k => p + 6 ≤ k) v acc
  hr : W.heap[p + 2]? = some (.cells #[.int .i64 en] 3 (0, 0))
  hs : W.heap[p + 3]? = some (.cells #[.string s] 9 (0, 0))
  hD : W.heap[p + 4]? = some (.deferred (some []))
  hL : W.heap[p + 5]? = some (.loop rec)
  below : Below p w0 W
theorem AllSt.later {p : Nat} {w0 W W' : World} {a0 s : ByteArray} {rec : Loop} {en : Int} {v : Value} {acc : List S30} (h : AllSt p w0 a0 rec s en v acc W) (hb : Below W.heap.size W W') : AllSt p w0 a0 rec s en v acc W' := by
  have hsz := h.sz
  exact ⟨by have := hb.size; omega, (hb.block _ (by omega)).trans h.hp, (hb.block _ (by omega)).trans h.hq, Kd.S_below h.row hb, (hb.block _ (by omega)).trans h.hr, (hb.block _ (by omega)).trans h.hs, (hb.block _ (by omega)).trans h.hD, (hb.block _ (by omega)).trans h.hL, h.below.trans (hb.mono (by omega))⟩
/-- The range over a function, at an outermost loop, by hand: its record and its deferred block are laid, then the function runs. -/
theorem range_F {F : Fence} {P : Program} {n : Nat} {g : Operand} {ps : Array Tmp} {assign body : Code} {Q : Exit → Act → World → Prop} {a : Act} {w : World} (hro : F.round = none) (h1 : 1 ≤ n) {gf : Nat} {lb : Array Value} (hg : a.eval g = .func (.func gf) #[] lb) (hFg : F.fn gf) (eg : ∀ args w, (callFunc gf args).run P w = .ok (.enter gf args) w)
    (h : ∀ (fn : FuncId) (W1 : World), W1 = (w.alloc (.deferred (some []))).alloc (.loop { state := .ready, pending := none, fn, tmps := a.tmps, params := ps, assign, body, defers := w.heap.size }) →
      CallsIn F (n - 1) P gf (#[.func (.yield (w.heap.size + 1)) #[] #[]] ++ lb) W1 (rangePost F n P (w.heap.size + 1) Q { a with defers := { target := .collected w.heap.size, args := #[] } :: a.defers })) :
    (Code.rangeFunc g ps assign body).wpIn F n P Q a w := by
  refine wpIn_rangeFunc ?_
  intro fn hfn
  rw [hro]
  obtain ⟨W1, hW1⟩ : ∃ W1, (w.alloc (.deferred (some []))).alloc (.loop { state := .ready, pending := none, fn, tmps := a.tmps, params := ps, assign, body, defers := w.heap.size }) = W1 := ⟨_, rfl⟩
  refine ⟨w.heap.size + 1, [{ target := .collected w.heap.size, args := #[] }], W1, { target := .fn (.func gf) lb, args := #[.func (.yield (w.heap.size + 1)) #[] #[]] }, W1, gf,
    #[.func (.yield (w.heap.size + 1)) #[] #[]] ++ lb, W1, ?_, ?_, ?_, ?_, fun _ => h1, ?_⟩
  · rw [← hW1]; exact run_enterLoop_outer _ _ _ _ _
  · simp only [resolve, hg]
    simp [go_sem]
  · intro f' hf'; simp [Target.leads] at hf'; subst hf'; exact hFg
  · simp [invoke, go_sem, eg]
  · exact h fn W1 hW1.symm
theorem AllSt.start {w : World} {p : Nat} {a0 : ByteArray} {rec : Loop} {W W1 : World} (hp : w.heap.size = p) (hW : W = (((w.alloc (.cells #[.string a0] 9)).alloc (.cells #[.slice none 0 0] 47)).alloc (.cells #[.int .i64 0] 3)).alloc (.cells #[.string a0] 9))
    (h : W1 = (W.alloc (.deferred (some []))).alloc (.loop rec)) : AllSt p w a0 rec a0 0 (.slice none 0 0) [] W1 := by
  have na : ∀ (w : World) (o : Obj) (k : Nat), w.heap.size = k → (w.alloc o).heap[k]? = some o := fun w o k h => by subst h; exact blk_new _ _
  have s1 : (w.alloc (.cells #[.string a0] 9)).heap.size = p + 1 := by rw [World.size_alloc, hp]
  have h0 := na w (.cells #[.string a0] 9) p hp
  have b1 := (Below.refl p w).alloc (Nat.le_of_eq hp.symm) (.cells #[.string a0] 9)
  generalize w.alloc (.cells #[.string a0] 9) = w1 at hW s1 h0 b1
  have s2 : (w1.alloc (.cells #[.slice none 0 0] 47)).heap.size = p + 2 := by rw [World.size_alloc, s1]
  have h1 := na w1 (.cells #[.slice none 0 0] 47) _ s1
  have g0 := blk_alloc h0 (.cells #[.slice none 0 0] 47)
  have b2 := b1.alloc (by omega) (.cells #[.slice none 0 0] 47)
  generalize w1.alloc (.cells #[.slice none 0 0] 47) = w2 at hW s2 h1 g0 b2
  have s3 : (w2.alloc (.cells #[.int .i64 0] 3)).heap.size = p + 3 := by rw [World.size_alloc, s2]
  have h2 := na w2 (.cells #[.int .i64 0] 3) _ s2
  have g0 := blk_alloc g0 (.cells #[.int .i64 0] 3)
  have g1 := blk_alloc h1 (.cells #[.int .i64 0] 3)
  have b3 := b2.alloc (by omega) (.cells #[.int .i64 0] 3)
  generalize w2.alloc (.cells #[.int .i64 0] 3) = w3 at hW s3 h2 g0 g1 b3
  have s4 : (w3.alloc (.cells #[.string a0] 9)).heap.size = p + 4 := by rw [World.size_alloc, s3]
  have h3 := na w3 (.cells #[.string a0] 9) _ s3
  have g0 := blk_alloc g0 (.cells #[.string a0] 9)
  have g1 := blk_alloc g1 (.cells #[.string a0] 9)
  have g2 := blk_alloc h2 (.cells #[.string a0] 9)
  have b4 := b3.alloc (by omega) (.cells #[.string a0] 9)
  rw [← hW] at s4 h3 g0 g1 g2 b4
  have s5 : (W.alloc (.deferred (some []))).heap.size = p + 5 := by rw [World.size_alloc, s4]
  have h4 := na W (.deferred (some [])) _ s4
  have g0 := blk_alloc g0 (.deferred (some []))
  have g1 := blk_alloc g1 (.deferred (some []))
  have g2 := blk_alloc g2 (.deferred (some []))
  have g3 := blk_alloc h3 (.deferred (some []))
  have b5 := b4.alloc (by omega) (.deferred (some []))
  generalize W.alloc (.deferred (some [])) = w5 at h s5 h4 g0 g1 g2 g3 b5
  subst h
  exact ⟨by rw [World.size_alloc]; omega, blk_alloc g0 _, blk_alloc g1 _, Kd.S_nil _ _ _ _ _, blk_alloc g2 _, blk_alloc g3 _, blk_alloc h4 _, na _ _ _ s5, b5.alloc (by omega) _⟩
/-- The loop's record alone is another. -/
theorem AllSt.put {p : Nat} {w0 W : World} {a0 s : ByteArray} {rec : Loop} {en : Int} {v : Value} {acc : List S30} (h : AllSt p w0 a0 rec s en v acc W) (rec' : Loop) : AllSt p w0 a0 rec' s en v acc (W.putObj (p + 5) (.loop rec')) := by
  have hsz := h.sz
  have ot : ∀ k, k ≠ p + 5 → (W.putObj (p + 5) (.loop rec')).heap[k]? = W.heap[k]? := fun k hk => World.putObj_heap_other hk
  exact ⟨by rw [World.putObj_size]; exact hsz, (ot _ (by omega)).trans h.hp, (ot _ (by omega)).trans h.hq, Kd.S_step h.row (fun k hk _ => ot k (by omega)), (ot _ (by omega)).trans h.hr, (ot _ (by omega)).trans h.hs, (ot _ (by omega)).trans h.hD, World.putObj_heap_same (by omega), ⟨h.below.os, h.below.tape, h.below.output, by rw [World.putObj_size]; exact h.below.size, fun k hk => (ot k (by omega)).trans (h.below.block k hk)⟩⟩
/-- The iterator's text is another. -/
theorem AllSt.setS {p : Nat} {w0 W : World} {a0 s : ByteArray} {rec : Loop} {en : Int} {v : Value} {acc : List S30} (h : AllSt p w0 a0 rec s en v acc W) (s' : ByteArray) : AllSt p w0 a0 rec s' en v acc (W.setCell ⟨p + 3, 0, none⟩ (.string s')) := by
  have hsz := h.sz
  have ot : ∀ k, k ≠ p + 3 → (W.setCell ⟨p + 3, 0, none⟩ (.string s')).heap[k]? = W.heap[k]? := fun k hk => Below.heap_setCell W _ _ k hk
  exact ⟨by simpa using hsz, (ot _ (by omega)).trans h.hp, (ot _ (by omega)).trans h.hq, Kd.S_step h.row (fun k hk _ => ot k (by omega)), (ot _ (by omega)).trans h.hr, blk_put (cs := #[.string s]) h.hs 0 _ rfl, (ot _ (by omega)).trans h.hD, (ot _ (by omega)).trans h.hL, h.below.setCell (p := ⟨p + 3, 0, none⟩) (by show p ≤ p + 3; omega) _⟩
/-- The groups and the end are others. -/
theorem AllSt.setG {p : Nat} {w0 W W2 : World} {a0 s : ByteArray} {rec : Loop} {en : Int} {v v' : Value} {acc acc' : List S30} (h : AllSt p w0 a0 rec s en v acc W) (hb : Below (p + 6) W W2) (hS : Kd.S k30 30 W2 (p + 6) (fun k => p + 6 ≤ k) v' acc') (en' : Int) :
    AllSt p w0 a0 rec s en' v' acc' ((W2.setCell ⟨p + 1, 0, none⟩ v').setCell ⟨p + 2, 0, none⟩ (.int .i64 en')) := by
  have hsz := h.sz
  have hs2 := hb.size
  have ot : ∀ k, k ≠ p + 1 → k ≠ p + 2 → ((W2.setCell ⟨p + 1, 0, none⟩ v').setCell ⟨p + 2, 0, none⟩ (.int .i64 en')).heap[k]? = W2.heap[k]? := fun k hk hk2 => (Below.heap_setCell _ _ _ k hk2).trans (Below.heap_setCell W2 _ _ k hk)
  have o2 : ∀ k, k < p + 6 → k ≠ p + 1 → k ≠ p + 2 → ((W2.setCell ⟨p + 1, 0, none⟩ v').setCell ⟨p + 2, 0, none⟩ (.int .i64 en')).heap[k]? = W.heap[k]? := fun k h6 hk hk2 => (ot k hk hk2).trans (hb.block k h6)
  refine ⟨by simp; omega, (o2 _ (by omega) (by omega) (by omega)).trans h.hp, ?_, Kd.S_step hS (fun k hk _ => ot k (by omega) (by omega)), ?_, (o2 _ (by omega) (by omega) (by omega)).trans h.hs, (o2 _ (by omega) (by omega) (by omega)).trans h.hD, (o2 _ (by omega) (by omega) (by omega)).trans h.hL, ((h.below.trans (hb.mono (by omega))).setCell (p := ⟨p + 1, 0, none⟩) (by show p ≤ p + 1; omega) _).setCell (p := ⟨p + 2, 0, none⟩) (by show p ≤ p + 2; omega) _⟩
  · rw [Below.heap_setCell _ _ _ _ (by show p + 1 ≠ p + 2; omega)]
    exact blk_put (cs := #[v]) ((hb.block _ (by omega)).trans h.hq) 0 _ rfl
  · exact blk_put (cs := #[.int .i64 en]) (by rw [Below.heap_setCell _ _ _ _ (by show p + 2 ≠ p + 1; omega)]; exact (hb.block _ (by omega)).trans h.hr) 0 _ rfl
theorem AllSt.start_rec {w : World} {p : Nat} {a0 : ByteArray} {W W1 : World} {fn : FuncId} {tmps : Array Value} {ps : Array Tmp} {assign body : Code} (hp : w.heap.size = p) (hW : W = (((w.alloc (.cells #[.string a0] 9)).alloc (.cells #[.slice none 0 0] 47)).alloc (.cells #[.int .i64 0] 3)).alloc (.cells #[.string a0] 9))
    (h : W1 = (W.alloc (.deferred (some []))).alloc (.loop { state := .ready, pending := none, fn, tmps, params := ps, assign, body, defers := p + 4 })) :
    ∃ rec : LoopState → Option Code → Loop, (rec = fun st pe => { state := st, pending := pe, fn, tmps, params := ps, assign, body, defers := p + 4 }) ∧ AllSt p w a0 (rec .ready none) a0 0 (.slice none 0 0) [] W1 := ⟨_, rfl, AllSt.start hp hW h⟩
/-- What a round must come to. -/
def rPost (L : Nat) (rec : LoopState → Option Code → Loop) (R : Ending → World → Prop) : Exit → Act → World → Prop
  | .normal, _, w => w.heap[L]? = some (.loop (rec .busy none)) ∧ R (.returned (.bool true)) (w.putObj L (.loop (rec .ready none)))
  | .exit id, _, w => w.heap[L]? = some (.loop (rec .busy none)) ∧ R (.returned (.bool false)) (w.putObj L (.loop (rec .done (some (.exit id)))))
  | _, _, _ => False
theorem yield_rec {P : Program} {L m : Nat} {args : Array Value} {W : World} {R : Ending → World → Prop} {rec : LoopState → Option Code → Loop} {fn : FuncId} {tmps : Array Value} {ps : Array Tmp} {assign body : Code} {D : Nat}
    (hrec : rec = fun st pe => { state := st, pending := pe, fn, tmps, params := ps, assign, body, defers := D }) (hl : W.heap[L]? = some (.loop (rec .ready none))) (hs : args.size = ps.size)
    (h : assign.wpIn (Fence.wide.inRound L) m P (Exit.then (fun a1 W1 => W1.heap[L]? = some (.loop (rec .ready none)) ∧ body.wpIn (Fence.wide.inRound L) m P (rPost L rec R) a1 (W1.putObj L (.loop (rec .busy none)))) (fun _ _ _ => False)) { tmps := (ps.zip args).foldl (fun t (p, v) => t.setIfInBounds p v) tmps, defers := [] } W) :
    YieldAt Fence.wide m P L args W R := by
  subst hrec
  refine yield_ready hl hs (wpIn_mono h ?_)
  intro e a1 W1 h1
  cases e with
  | normal =>
    obtain ⟨h1, h2⟩ := h1
    refine ⟨_, run_beginRound h1 rfl, wpIn_mono h2 ?_⟩
    intro e a2 W2 h3
    cases e with
    | normal => exact ⟨_, _, run_endRound none h3.1, h3.2⟩
    | exit id => exact ⟨_, _, run_endRound (some (.exit id)) h3.1, h3.2⟩
    | ret => exact h3.elim
    | goto t => exact h3.elim
    | panic c => exact h3.elim
    | outgrown => exact h3.elim
  | ret => exact h1.elim
  | exit id => exact h1.elim
  | goto t => exact h1.elim
  | panic c => exact h1.elim
  | outgrown => exact h1.elim
theorem end_none {F : Fence} {P : Program} {n L : Nat} {Q : Exit → Act → World → Prop} {a : Act} {v : Value} {W : World} {rec : LoopState → Option Code → Loop} {fn : FuncId} {tmps : Array Value} {ps : Array Tmp} {assign body : Code} {D : Nat}
    (hrec : rec = fun st pe => { state := st, pending := pe, fn, tmps, params := ps, assign, body, defers := D }) (hl : W.heap[L]? = some (.loop (rec .ready none)))
    (h : Q .normal a (W.putObj L (.loop (rec .exhausted none)))) : rangePost F n P L Q a (.returned v) W := by
  subst hrec
  exact ⟨none, _, run_endLoop hl (by simp), h⟩
theorem end_some {F : Fence} {P : Program} {n L : Nat} {Q : Exit → Act → World → Prop} {a : Act} {v : Value} {W : World} {rec : LoopState → Option Code → Loop} {fn : FuncId} {tmps : Array Value} {ps : Array Tmp} {assign body c : Code} {D : Nat}
    (hrec : rec = fun st pe => { state := st, pending := pe, fn, tmps, params := ps, assign, body, defers := D }) (hl : W.heap[L]? = some (.loop (rec .done (some c))))
    (h : c.wpIn F n P Q a (W.putObj L (.loop (rec .exhausted (some c))))) : rangePost F n P L Q a (.returned v) W := by
  subst hrec
  exact ⟨some c, _, run_endLoop hl (by simp), h⟩
end Go.Proofs.Ytcgbjkjacpeheaa.Given
namespace Go.Proofs.Ytcgbjkjacpeheaa.Given
open Go Go.RowKit Go.Shelf Go.Proofs.Ytcgbjkjacpeheaa.PFr Go.Proofs.Ytcgbjkjacpeheaa.Pure Go.Proofs.Ytcgbjkjacpeheaa.Bs Go.Proofs.Ytcgbjkjacpeheaa.RoundB Go.Proofs.YtcgbjkjacpeheaaW.PrintWords Go.Proofs.YtcgbjkjacpeheaaW.PrintLast Go.Proofs.YtcgbjkjacpeheaaW.PrintMore
attribute [local go_sem] Oper.semAt_some
set_option linter.unusedVariables false
set_option linter.unusedSimpArgs false
def all6.T : Bool × List (List Nat × List Nat) := (true, [([], []), ([0], [0]), ([1], [1]), ([2], [2]), ([3], [3]), ([4, 3], [3, 4]), ([3], [3]), ([3], [3]), ([7, 3], [3, 7]), ([8, 3], [3, 8]), ([6, 9, 3], [3, 6, 9]), ([10, 3], [3, 10]), ([11, 3], [3, 11]), ([12, 3], [3, 12]), ([5, 13, 3], [3, 5, 13]), ([3, 14], [3, 14])])
def all6.B : List Nat := [0, 1, 3, 7, 15, 31, 15, 15, 143, 399, 975, 1999, 4047, 8143, 16383, 32767]
theorem all6.tab : rtab .any (opsOf Try.f26 6) = all6.T := by kernel_rfl
theorem all6.bits : waitsOk all6.T.2 all6.B = true := by kernel_rfl
def all7.T : Bool × List (List Nat × List Nat) := (true, [([], []), ([], []), ([1], [1]), ([0, 2], [0, 2]), ([], []), ([4], [4]), ([], []), ([6], [6]), ([5, 7], [5, 7]), ([3, 3, 0, 1, 2, 3], [3]), ([8, 9, 0, 1, 2, 3, 4, 5, 6, 7, 8, 9], [8])])
def all7.B : List Nat := [0, 0, 2, 7, 0, 16, 0, 64, 240, 15, 1023]
theorem all7.tab : rtab .any (opsOf Try.f26 7) = all7.T := by kernel_rfl
theorem all7.bits : waitsOk all7.T.2 all7.B = true := by kernel_rfl
theorem AllSt.leaves {p : Nat} {w0 W : World} {a0 s : ByteArray} {rec : Loop} {en : Int} {v : Value} {acc : List S30} (h : AllSt p w0 a0 rec s en v acc W) (o : Obj) :
    Kd.S k30 30 (W.drew.putObj (p + 4) o) p (fun _ => True) v acc ∧ Below p w0 (W.drew.putObj (p + 4) o) := by
  have hsz := h.sz
  have ot : ∀ k, k ≠ p + 4 → (W.drew.putObj (p + 4) o).heap[k]? = W.heap[k]? := fun k hk => World.putObj_heap_other (w := W.drew) hk
  exact ⟨Kd.S_mono (Kd.S_lower (Kd.S_step h.row (fun k hk _ => ot k (by omega))) (by omega)) (fun _ _ => trivial), ⟨h.below.os, h.below.tape, h.below.output, by rw [World.putObj_size]; exact h.below.size, fun k hk => (ot k (by omega)).trans (h.below.block k hk)⟩⟩
set_option maxRecDepth 100000 in
set_option maxHeartbeats 2000000 in
theorem all_walk (a0 : ByteArray) (K : Nat) (hK : 141 ≤ K) (n : Nat) (res : List S30 × ByteArray) (hF : allF K n a0 [] = some res) (ha : a0.size ≤ 7000000) (w : World) :
    Calls Try.prog 26 #[.string a0] w fun e w' => ∃ v0_ : Value, e = .returned (.tuple #[v0_, .int .i64 ((a0.size : Int) - (res.2.size : Int))]) ∧ Kd.S k30 30 w' w.heap.size (fun _ => True) v0_ res.1 ∧ Below w.heap.size w w' := by
  refine (callsIn_wide (n := 9)).1 ?_
  refine callsIn_of_wp_marks Try.func26 rfl trivial ?_ rfl
  simp only [Try.ntmps26, List.size_toArray, List.length_cons, List.length_nil, Nat.reduceAdd, Nat.reduceSub, Array.replicate_succ, Array.replicate_zero, List.push_toArray, List.append_toArray, List.nil_append, List.cons_append]
  obtain ⟨p, hp⟩ : ∃ p, w.heap.size = p := ⟨_, rfl⟩
  gi_wp2_with (first | (refine ⟨trivial, ?_⟩; gi_at_call 50; refine (groups_in 8 _ _).mono ?_; rintro e w1 ⟨rfl, rfl⟩))
  simp only [World.size_alloc, hp, Nat.add_assoc, Nat.reduceAdd]
  obtain ⟨W, hW⟩ : ∃ W, W = (((w.alloc (.cells #[.string a0] 9)).alloc (.cells #[.slice none 0 0] 47)).alloc (.cells #[.int .i64 0] 3)).alloc (.cells #[.string a0] 9) := ⟨_, rfl⟩
  rw [← hW]
  have hs4 : W.heap.size = p + 4 := by rw [hW]; simp only [World.size_alloc, hp, Nat.add_assoc, Nat.reduceAdd]
  refine range_F rfl (by omega) (gf := 64) (lb := #[.pointer (some ⟨p + 3, 0, none⟩)]) rfl trivial (enters_of Try.func64 (by kernel_rfl) rfl) ?_
  intro fn W1 hW1
  rw [hs4] at hW1
  simp only [hs4, Nat.add_assoc, Nat.reduceAdd]
  obtain ⟨rec, hrec, A0⟩ := AllSt.start_rec hp hW hW1
  clear hW1 hW
  refine (groups1_in 7 (p + 5) (p + 3) K hK res (fun s acc W => ∃ v, AllSt p w a0 (rec .ready none) s ((a0.size : Int) - s.size) v acc W ∧ acc.length + s.size ≤ a0.size) (fun s s' acc W => ∃ v, AllSt p w a0 (rec .ready none) s ((a0.size : Int) - s'.size) v acc W ∧ acc.length + s'.size ≤ a0.size) (fun s acc W => ∃ v, AllSt p w a0 (rec .done (some (.exit 0))) s ((a0.size : Int) - s.size) v acc W) ?_ ?_ ?_ ?_ n a0 [] W1 ⟨_, by rw [Int.sub_self]; exact A0, by simp⟩ hF).mono ?_
  · rintro s acc W ⟨v, h, hs⟩
    exact ⟨h.hs, by omega⟩
  · rintro s acc W W' ⟨v, h, hs⟩ hb
    exact ⟨v, h.later hb, hs⟩
  · rintro s s' acc W ⟨v, h, hs⟩ hle
    exact ⟨h.hs, v, h.setS s', hs⟩
  · rintro s acc Wp W q v cs rest ⟨u, h, hs⟩ hb hR hrs
    have A1 := h.later hb
    obtain ⟨A2, c2, ev⟩ := Kd.R_slice hR
    subst ev
    refine yield_rec hrec A1.hL rfl ?_
    clear A0 hrec
    gi_wp2
    have h6 := h.sz
    have A3 := A1.later ((Below.refl _ W).alloc (Nat.le_refl _) (.cells #[.int .i64 q, .slice A2 cs.length c2] 30))
    refine ⟨A3.hL, ?_⟩
    have A4 := Aside0.mk (A3.put (rec .busy none))
    have BK : Aside0 (((W.alloc (.cells #[.int .i64 q, .slice A2 cs.length c2] 30)).putObj (p + 5) (.loop (rec .busy none))).heap[W.heap.size]? = some (.cells #[.int .i64 q, .slice A2 cs.length c2] 30 (0, 0))) := ⟨(World.putObj_heap_other (by have := A1.sz; omega)).trans (blk_new _ _)⟩
    have S4 : Aside0 (Kd.S k30 30 ((W.alloc (.cells #[.int .i64 q, .slice A2 cs.length c2] 30)).putObj (p + 5) (.loop (rec .busy none))) (p + 6) (fun k => p + 6 ≤ k ∧ k < Wp.heap.size) u acc) :=
      ⟨Kd.S_step (Kd.S_alloc (Kd.S_below (Kd.S_mono (Kd.S_bound h.row) (fun k hk => (⟨hk.1, hk.2.2.1⟩ : p + 6 ≤ k ∧ k < Wp.heap.size))) hb) _) (fun k hk _ => World.putObj_heap_other (by omega))⟩
    have R4 : Aside0 (Kd.R k62 62 ((W.alloc (.cells #[.int .i64 q, .slice A2 cs.length c2] 30)).putObj (p + 5) (.loop (rec .busy none))) (p + 6) (fun k => Wp.heap.size ≤ k ∧ k < W.heap.size) (.slice A2 cs.length c2) cs) :=
      ⟨Kd.R_step (Kd.R_alloc (Kd.R_lower (Kd.R_mono (Kd.R_bound hR) (fun k hk => (⟨hk.2.1, hk.2.2.1⟩ : Wp.heap.size ≤ k ∧ k < W.heap.size))) h6) _) (fun k hk _ => World.putObj_heap_other (by omega))⟩
    have LT : Aside0 (∀ j, u.ownBlock = some j → j < Wp.heap.size) := ⟨Kd.S_lt h.row⟩
    have SZ : Aside0 (p + 6 ≤ Wp.heap.size ∧ Wp.heap.size ≤ W.heap.size ∧ ((W.alloc (.cells #[.int .i64 q, .slice A2 cs.length c2] 30)).putObj (p + 5) (.loop (rec .busy none))).heap.size = W.heap.size + 1) := ⟨h6, hb.size, by rw [World.putObj_size, World.size_alloc]⟩
    clear h h6 hb hR A1 A3
    generalize (W.alloc (.cells #[.int .i64 q, .slice A2 cs.length c2] 30)).putObj (p + 5) (.loop (rec .busy none)) = W4 at *
    generalize W.heap.size = b at *
    generalize Wp.heap.size = N at *
    have HS := Aside0.mk (And.intro hs (And.intro hrs ha))
    clear hs hrs ha hF
    obtain ⟨A5, c5, ev⟩ := Kd.S_slice S4.out
    subst ev
    rcases List.eq_nil_or_concat acc with rfl | ⟨la, g, hacc⟩
    · gi_wp2
      refine startIn_ (n := 16) (S := fun w' => w'.cell? ⟨p + 1, 0, none⟩ = some (.slice A5 0 c5)) (ds := []) #[false, false, false, false, false, false, false, false, false, false, false, false, false, false, false, false] (by kernel_rfl) rfl rfl (by rintro ⟨_, _, h⟩; exact h) (by kernel_rfl) ((blk_cell (blk_drew A4.out.hq) 0).trans rfl) (fun hHeld => ?_)
      refine with_tabW all6.tab all6.bits (fun HT_ HW_ => ?_)
      have A8 := Aside0.mk (A4.out.later (below_drew (Below.refl _ _)))
      have BK8 := Aside0.mk (blk_drew BK.out)
      have S8 := Aside0.mk (Kd.S_drew S4.out)
      have R8 := Aside0.mk (Kd.R_drew R4.out)
      have Z8 : Aside0 (W4.drew.heap.size = b + 1) := ⟨SZ.out.2.2⟩
      clear A4 BK S4 R4
      generalize W4.drew = w8 at A8 BK8 S8 R8 Z8 hHeld ⊢
      refine take_ (i := 0) (N := some 12) (v := ?_) (a' := ?_) #[true, false, false, false, false, false, false, false, false, false, false, false, false, false, false, false] rfl rfl (take_ofW HT_.out HW_.out (by kernel_rfl)) (fun _ _ _ h => h) (Or.inl ⟨by rfl, ?_⟩) hHeld ?_ ?_
      rotate_left
      · rintro w' s0
        go_simp
        with_reducible rfl
      rotate_left
      · simp only [Act.put, List.setIfInBounds_toArray, List.set_cons_zero, List.set_cons_succ, i64_w, i32_w]
        rfl
      refine pure_ (i := 1) (N := some 13) (v := ?_) (a' := ?_) #[true, true, false, false, false, false, false, false, false, false, false, false, false, false, false, false] rfl rfl (any_of HT_.out (by kernel_rfl)) (fun _ _ _ h => h) (Or.inl ⟨by rfl, ?_⟩) ?_ ?_
      rotate_left
      · intro w'
        go_simp
        with_reducible rfl
      rotate_left
      · simp only [Act.put, List.setIfInBounds_toArray, List.set_cons_zero, List.set_cons_succ, i64_w, i32_w]
        rfl
      refine pure_ (i := 2) (N := some 14) (v := ?_) (a' := ?_) #[true, true, true, false, false, false, false, false, false, false, false, false, false, false, false, false] rfl rfl (any_of HT_.out (by kernel_rfl)) (fun _ _ _ h => h) (Or.inl ⟨by rfl, ?_⟩) ?_ ?_
      rotate_left
      · intro w'
        go_simp
        with_reducible rfl
      rotate_left
      · simp only [Act.put, List.setIfInBounds_toArray, List.set_cons_zero, List.set_cons_succ, i64_w, i32_w]
        rfl
      refine pure_ (i := 3) (N := some 15) (v := ?_) (a' := ?_) #[true, true, true, true, false, false, false, false, false, false, false, false, false, false, false, false] rfl rfl (any_of HT_.out (by kernel_rfl)) (fun _ _ _ h => h) (Or.inl ⟨by rfl, ?_⟩) ?_ ?_
      rotate_left
      · intro w'
        go_simp
        with_reducible rfl
      rotate_left
      · simp only [Act.put, List.setIfInBounds_toArray, List.set_cons_zero, List.set_cons_succ, i64_w, i32_w]
        rfl
      refine pure_ (i := 4) (N := some 16) (v := undef) (a' := ?_) #[true, true, true, true, true, false, false, false, false, false, false, false, false, false, false, false] rfl rfl (any_of HT_.out (by kernel_rfl)) (fun _ _ _ h => h) (Or.inr ⟨by rfl, rfl⟩) ?_ ?_
      rotate_left
      · simp only [Act.put, List.setIfInBounds_toArray, List.set_cons_zero, List.set_cons_succ, i64_w, i32_w]
        rfl
      refine pure_ (i := 5) (N := some 17) (v := undef) (a' := ?_) #[true, true, true, true, true, true, false, false, false, false, false, false, false, false, false, false] rfl rfl (any_of HT_.out (by kernel_rfl)) (fun _ _ _ h => h) (Or.inr ⟨by rfl, rfl⟩) ?_ ?_
      rotate_left
      · simp only [Act.put, List.setIfInBounds_toArray, List.set_cons_zero, List.set_cons_succ, i64_w, i32_w]
        rfl
      refine pure_ (i := 6) (N := some 18) (v := undef) (a' := ?_) #[true, true, true, true, true, true, true, false, false, false, false, false, false, false, false, false] rfl rfl (any_of HT_.out (by kernel_rfl)) (fun _ _ _ h => h) (Or.inr ⟨by rfl, rfl⟩) ?_ ?_
      rotate_left
      · simp only [Act.put, List.setIfInBounds_toArray, List.set_cons_zero, List.set_cons_succ, i64_w, i32_w]
        rfl
      refine pure_ (i := 7) (N := some 19) (v := undef) (a' := ?_) #[true, true, true, true, true, true, true, true, false, false, false, false, false, false, false, false] rfl rfl (any_of HT_.out (by kernel_rfl)) (fun _ _ _ h => h) (Or.inr ⟨by rfl, rfl⟩) ?_ ?_
      rotate_left
      · simp only [Act.put, List.setIfInBounds_toArray, List.set_cons_zero, List.set_cons_succ, i64_w, i32_w]
        rfl
      refine pure_ (i := 8) (N := some 20) (v := undef) (a' := ?_) #[true, true, true, true, true, true, true, true, true, false, false, false, false, false, false, false] rfl rfl (any_of HT_.out (by kernel_rfl)) (fun _ _ _ h => h) (Or.inr ⟨by rfl, rfl⟩) ?_ ?_
      rotate_left
      · simp only [Act.put, List.setIfInBounds_toArray, List.set_cons_zero, List.set_cons_succ, i64_w, i32_w]
        rfl
      refine pure_ (i := 9) (N := some 21) (v := undef) (a' := ?_) #[true, true, true, true, true, true, true, true, true, true, false, false, false, false, false, false] rfl rfl (any_of HT_.out (by kernel_rfl)) (fun _ _ _ h => h) (Or.inr ⟨by rfl, rfl⟩) ?_ ?_
      rotate_left
      · simp only [Act.put, List.setIfInBounds_toArray, List.set_cons_zero, List.set_cons_succ, i64_w, i32_w]
        rfl
      refine pure_ (i := 10) (N := some 22) (v := undef) (a' := ?_) #[true, true, true, true, true, true, true, true, true, true, true, false, false, false, false, false] rfl rfl (any_of HT_.out (by kernel_rfl)) (fun _ _ _ h => h) (Or.inr ⟨by rfl, rfl⟩) ?_ ?_
      rotate_left
      · simp only [Act.put, List.setIfInBounds_toArray, List.set_cons_zero, List.set_cons_succ, i64_w, i32_w]
        rfl
      refine pure_ (i := 11) (N := some 23) (v := undef) (a' := ?_) #[true, true, true, true, true, true, true, true, true, true, true, true, false, false, false, false] rfl rfl (any_of HT_.out (by kernel_rfl)) (fun _ _ _ h => h) (Or.inr ⟨by rfl, rfl⟩) ?_ ?_
      rotate_left
      · simp only [Act.put, List.setIfInBounds_toArray, List.set_cons_zero, List.set_cons_succ, i64_w, i32_w]
        rfl
      refine pure_ (i := 12) (N := some 24) (v := undef) (a' := ?_) #[true, true, true, true, true, true, true, true, true, true, true, true, true, false, false, false] rfl rfl (any_of HT_.out (by kernel_rfl)) (fun _ _ _ h => h) (Or.inr ⟨by rfl, rfl⟩) ?_ ?_
      rotate_left
      · simp only [Act.put, List.setIfInBounds_toArray, List.set_cons_zero, List.set_cons_succ, i64_w, i32_w]
        rfl
      refine pure_ (i := 13) (N := some 25) (v := undef) (a' := ?_) #[true, true, true, true, true, true, true, true, true, true, true, true, true, true, false, false] rfl rfl (any_of HT_.out (by kernel_rfl)) (fun _ _ _ h => h) (Or.inr ⟨by rfl, rfl⟩) ?_ ?_
      rotate_left
      · simp only [Act.put, List.setIfInBounds_toArray, List.set_cons_zero, List.set_cons_succ, i64_w, i32_w]
        rfl
      refine pure_ (i := 14) (N := some 26) (v := undef) (a' := ?_) #[true, true, true, true, true, true, true, true, true, true, true, true, true, true, true, false] rfl rfl (any_of HT_.out (by kernel_rfl)) (fun _ _ _ h => h) (Or.inr ⟨by rfl, rfl⟩) ?_ ?_
      rotate_left
      · simp only [Act.put, List.setIfInBounds_toArray, List.set_cons_zero, List.set_cons_succ, i64_w, i32_w]
        rfl
      refine pure_ (i := 15) (N := some 27) (v := ?_) (a' := ?_) #[true, true, true, true, true, true, true, true, true, true, true, true, true, true, true, true] rfl rfl (any_of HT_.out (by kernel_rfl)) (fun _ _ _ h => h) (Or.inl ⟨by rfl, ?_⟩) ?_ ?_
      rotate_left
      · intro w'
        go_simp
        with_reducible rfl
      rotate_left
      · simp only [Act.put, List.setIfInBounds_toArray, List.set_cons_zero, List.set_cons_succ, i64_w, i32_w]
        rfl
      refine done_ (by kernel_rfl) ?_
      clear HT_ HW_ hHeld
      gi_wp2
      refine startIn_ (n := 11) (S := fun w' => w'.cell? ⟨p, 0, none⟩ = some (.string a0) ∧ w'.cell? ⟨b, 0, none⟩ = some (.int .i64 q) ∧ w'.cell? ⟨b, 1, none⟩ = some (.slice A2 cs.length c2)) (ds := [10]) #[false, false, false, false, false, false, false, false, false, false, false] (by kernel_rfl) rfl rfl (by rintro ⟨_, _, h⟩; exact h) (by kernel_rfl) ⟨(blk_cell (blk_drew A8.out.hp) 0).trans rfl, (blk_cell (blk_drew BK8.out) 0).trans rfl, (blk_cell (blk_drew BK8.out) 1).trans rfl⟩ (fun hHeld => ?_)
      refine with_tabW all7.tab all7.bits (fun HT_ HW_ => ?_)
      have A9 := Aside0.mk (A8.out.later (below_drew (Below.refl _ _)))
      have BK9 := Aside0.mk (blk_drew BK8.out)
      have S9 := Aside0.mk (Kd.S_drew S8.out)
      have R9 := Aside0.mk (Kd.R_drew R8.out)
      have Z9 : Aside0 (w8.drew.heap.size = b + 1) := Z8
      clear A8 BK8 S8 R8 Z8
      generalize w8.drew = w9 at A9 BK9 S9 R9 Z9 hHeld ⊢
      refine take_ (i := 1) (N := some 29) (v := ?_) (a' := ?_) #[false, true, false, false, false, false, false, false, false, false, false] rfl rfl (take_ofW HT_.out HW_.out (by kernel_rfl)) (fun _ _ _ h => h) (Or.inl ⟨by rfl, ?_⟩) hHeld ?_ ?_
      rotate_left
      · rintro w' ⟨s0, s1, s2⟩
        go_simp
        with_reducible rfl
      rotate_left
      · simp only [Act.put, List.setIfInBounds_toArray, List.set_cons_zero, List.set_cons_succ, i64_w, i32_w]
        rfl
      refine take_ (i := 4) (N := some 32) (v := ?_) (a' := ?_) #[false, true, false, false, true, false, false, false, false, false, false] rfl rfl (take_ofW HT_.out HW_.out (by kernel_rfl)) (fun _ _ _ h => h) (Or.inl ⟨by rfl, ?_⟩) hHeld ?_ ?_
      rotate_left
      · rintro w' ⟨s0, s1, s2⟩
        go_simp
        with_reducible rfl
      rotate_left
      · simp only [Act.put, List.setIfInBounds_toArray, List.set_cons_zero, List.set_cons_succ, i64_w, i32_w]
        rfl
      refine pure_ (i := 5) (N := some 33) (v := ?_) (a' := ?_) #[false, true, false, false, true, true, false, false, false, false, false] rfl rfl (any_of HT_.out (by kernel_rfl)) (fun _ _ _ h => h) (Or.inl ⟨by rfl, ?_⟩) ?_ ?_
      rotate_left
      · intro w'
        go_simp
        with_reducible rfl
      rotate_left
      · simp only [Act.put, List.setIfInBounds_toArray, List.set_cons_zero, List.set_cons_succ, i64_w, i32_w]
        rfl
      refine pure_ (i := 6) (N := some 34) (v := ?_) (a' := ?_) #[false, true, false, false, true, true, true, false, false, false, false] rfl rfl (any_of HT_.out (by kernel_rfl)) (fun _ _ _ h => h) (Or.inl ⟨by rfl, ?_⟩) ?_ ?_
      rotate_left
      · intro w'
        go_simp
        with_reducible rfl
      rotate_left
      · simp only [Act.put, List.setIfInBounds_toArray, List.set_cons_zero, List.set_cons_succ, i64_w, i32_w]
        rfl
      refine pure_ (i := 7) (N := some 35) (v := ?_) (a' := ?_) #[false, true, false, false, true, true, true, true, false, false, false] rfl rfl (any_of HT_.out (by kernel_rfl)) (fun _ _ _ h => h) (Or.inl ⟨by rfl, ?_⟩) ?_ ?_
      rotate_left
      · intro w'
        go_simp
        with_reducible rfl
      rotate_left
      · simp only [Act.put, List.setIfInBounds_toArray, List.set_cons_zero, List.set_cons_succ, i64_w, i32_w]
        rfl
      refine pure_ (i := 8) (N := some 36) (v := ?_) (a' := ?_) #[false, true, false, false, true, true, true, true, true, false, false] rfl rfl (any_of HT_.out (by kernel_rfl)) (fun _ _ _ h => h) (Or.inl ⟨by rfl, ?_⟩) ?_ ?_
      rotate_left
      · intro w'
        go_simp
        with_reducible rfl
      rotate_left
      · simp only [Act.put, List.setIfInBounds_toArray, List.set_cons_zero, List.set_cons_succ, i64_w, i32_w]
        rfl
      have q0 : w9.cell? ⟨p + 1, 0, none⟩ = some (.slice A5 0 c5) := (blk_cell A9.out.hq 0).trans rfl
      refine join_ (σ := Unit) 3 #[true, true, true, false, true, true, true, true, true, false, false] (fun _ => [(28, .slice A5 0 c5), (30, .slice (some ⟨w9.heap.size, 0, none⟩) 1 1)]) (fun _ W' => W' = w9.alloc (.cells #[.int .i64 q, .slice A2 cs.length c2] 30)) ?cont ?orders
      case orders =>
        intro hcont
        have f0 := fun o => (blk_cell (blk_alloc A9.out.hp o) 0).trans rfl
        have f1 := fun o => (blk_cell (blk_alloc A9.out.hq o) 0).trans rfl
        have f2 := fun o => (blk_cell (blk_alloc BK9.out o) 0).trans rfl
        have f3 := fun o => (blk_cell (blk_alloc BK9.out o) 1).trans rfl
        refine two_ (i := 0) (j := 2) (Ni := some 28) (Nj := some 30) #[true, true, false, false, true, true, true, true, true, false, false] #[false, true, true, false, true, true, true, true, true, false, false] rfl rfl rfl rfl (two_of HT_.out (by kernel_rfl)) (by decide) (by decide) (fun K hK => ?_) (fun K hK => ?_)
        · refine value_ (w1 := ?_) (v := ?_) (by rfl) rfl ?_ ?_
          rotate_left 2
          · go_simp
            constructor
            · rfl
            · rfl
          refine hK.out _ _ hHeld (fun hHeld2 => ?_)
          clear hK K
          refine norm_ (a' := ?_) ?_ ?_
          rotate_left
          · show Act.put _ (some 28) _ = _
            simp only [Act.put, List.setIfInBounds_toArray, List.set_cons_zero, List.set_cons_succ, i64_w, i32_w]
            rfl
          refine one_ (i := 2) (N := some 30) #[true, true, true, false, true, true, true, true, true, false, false] rfl rfl (one_of HT_.out (by kernel_rfl)) (by decide) (fun K hK => ?_)
          refine value_ (w1 := ?_) (v := ?_) (by rfl) rfl ?_ ?_
          rotate_left 2
          · go_simp
            constructor
            · rfl
            · rfl
          refine hK.out _ _ ⟨f0 _, f2 _, f3 _⟩ (fun hHeld3 => ?_)
          clear hK K
          refine norm_ ?_ (hcont () _ rfl)
          simp only [putAll, Act.put, List.setIfInBounds_toArray, List.set_cons_zero, List.set_cons_succ]
        · refine value_ (w1 := ?_) (v := ?_) (by rfl) rfl ?_ ?_
          rotate_left 2
          · go_simp
            constructor
            · rfl
            · rfl
          refine hK.out _ _ ⟨f0 _, f2 _, f3 _⟩ (fun hHeld2 => ?_)
          clear hK K
          refine norm_ (a' := ?_) ?_ ?_
          rotate_left
          · show Act.put _ (some 30) _ = _
            simp only [Act.put, List.setIfInBounds_toArray, List.set_cons_zero, List.set_cons_succ, i64_w, i32_w]
            rfl
          have q1 : (w9.alloc (.cells #[.int .i64 q, .slice A2 cs.length c2] 30)).cell? ⟨p + 1, 0, none⟩ = some (.slice A5 0 c5) := f1 _
          refine one_ (i := 0) (N := some 28) #[true, true, true, false, true, true, true, true, true, false, false] rfl rfl (one_of HT_.out (by kernel_rfl)) (by decide) (fun K hK => ?_)
          refine value_ (w1 := ?_) (v := ?_) (by rfl) rfl ?_ ?_
          rotate_left 2
          · go_simp
            constructor
            · rfl
            · rfl
          refine hK.out _ _ ⟨f0 _, f2 _, f3 _⟩ (fun hHeld3 => ?_)
          clear hK K
          refine norm_ ?_ (hcont () _ rfl)
          simp only [putAll, Act.put, List.setIfInBounds_toArray, List.set_cons_zero, List.set_cons_succ]
      case cont =>
        rintro _ W' rfl
        refine norm_ (a' := ?_) ?_ ?_
        rotate_left
        · simp only [putAll, Act.put, List.setIfInBounds_toArray, List.set_cons_zero, List.set_cons_succ]
          rfl
        refine one_ (i := 3) (N := some 31) #[true, true, true, true, true, true, true, true, true, false, false] rfl rfl (one_of HT_.out (by kernel_rfl)) (by decide) (fun K hK => ?_)
        refine Kd.S_append_step k30 (w0 := w9) (p + 6) (by rfl) (.tmp 28) (.tmp 30) 47 30 (.agg #[(.int .i64 0), (.slice none 0 0)]) 32 rfl Try.underlying47 info30 rfl (by decide) (by omega) (.slice A5 0 c5) [] (⟨q, cs⟩ : S30) [.int .i64 q, .slice A2 cs.length c2] (fun k => p + 6 ≤ k ∧ k ≠ b) (fun k => N ≤ k ∧ k < b) rfl rfl (k30_mkM _ _ _ (⟨q, cs⟩ : S30) R9.out) ?aK ?aF (Kd.S_mono S9.out ?aO) (Below.refl _ _) ?aS ?aL ?_
        case aK => exact fun k hk => ⟨⟨by have := SZ.out; omega, by omega⟩, fun e => by have := LT.out k e.symm; omega⟩
        case aF => exact fun k hk => ⟨by have := SZ.out; have := Z9.out; omega, by have := Z9.out; omega⟩
        case aO => exact fun k hk => ⟨⟨hk.1, by have := SZ.out; omega⟩, fun e => by omega⟩
        case aS => have := SZ.out; have := Z9.out; omega
        case aL => have := HS.out; (try simp only [List.length_nil]); omega
        intro v1 w10 ho hb hg _
        obtain ⟨A7, c7, ev⟩ := Kd.S_slice ho
        obtain ⟨n7, hn7⟩ : ∃ n7 : Nat, n7 = ([] ++ [(⟨q, cs⟩ : S30)]).length := ⟨_, rfl⟩
        rw [← hn7] at ev
        subst ev
        have BK10 := blk_grown BK9.out hg (fun e => by have := LT.out b e.symm; have := SZ.out; omega)
        have hp10 := (hb.block p (by omega)).trans A9.out.hp
        have hq10 := (hb.block (p + 1) (by omega)).trans A9.out.hq
        have hr10 := (hb.block (p + 2) (by omega)).trans A9.out.hr
        have AG := Aside0.mk (A9.out.setG hb (Kd.S_mono ho (fun k hk => hk.1)) (wrap64 ((a0.size : Int) - (rest.size : Int))))
        clear ho hg
        refine hK.out _ _ ⟨(blk_cell hp10 0).trans rfl, (blk_cell BK10 0).trans rfl, (blk_cell BK10 1).trans rfl⟩ (fun hHeld4 => ?_)
        clear hK K
        refine norm_ (a' := ?_) ?_ ?_
        rotate_left
        · show Act.put _ (some 31) _ = _
          simp only [Act.put, List.setIfInBounds_toArray, List.set_cons_zero, List.set_cons_succ, i64_w, i32_w]
          rfl
        have x0 := (blk_cell hq10 0).trans rfl
        have x1 := blk_frozen hq10 0
        have x2 : w10.cell? ⟨p + 1, 0, none⟩ = some (.slice A5 0 c5) := x0
        clear x0
        refine one_ (i := 9) (N := none) #[true, true, true, true, true, true, true, true, true, true, false] rfl rfl (one_of HT_.out (by kernel_rfl)) (by decide) (fun K hK => ?_)
        refine skip_ (w1 := w10.setCell ⟨p + 1, 0, none⟩ (.slice A7 n7 c7)) (by rfl) rfl ?_ ?_
        · go_simp
        have ot : ∀ k, k ≠ p + 1 → (w10.setCell ⟨p + 1, 0, none⟩ (.slice A7 n7 c7)).heap[k]? = w10.heap[k]? := fun k hk => Below.heap_setCell _ _ _ k hk
        have nb : b ≠ p + 1 := by have := SZ.out; omega
        refine hK.out _ _ ⟨(blk_cell ((ot p (by omega)).trans hp10) 0).trans rfl, (blk_cell ((ot b nb).trans BK10) 0).trans rfl, (blk_cell ((ot b nb).trans BK10) 1).trans rfl⟩ (fun hHeld5 => ?_)
        clear hK K
        have y0 : w10.cell? ⟨p + 2, 0, none⟩ = some (.int .i64 ((a0.size : Int) - (s.size : Int))) := (blk_cell hr10 0).trans rfl
        have y1 := blk_frozen hr10 0
        refine last_ (i := 10) (N := none) #[true, true, true, true, true, true, true, true, true, true, true] rfl rfl (one_of HT_.out (by kernel_rfl)) (by decide) (fun K hK => ?_)
        refine skip_ (w1 := (w10.setCell ⟨p + 1, 0, none⟩ (.slice A7 n7 c7)).setCell ⟨p + 2, 0, none⟩ (.int .i64 (wrap64 ((a0.size : Int) - (rest.size : Int))))) (by rfl) rfl ?_ ?_
        · go_simp
        refine hK.out _ _ ?_
        clear hK K
        refine done_ (by kernel_rfl) ?_
        clear x1 x2 y0 y1 hp10 hq10 hr10 BK10 hHeld hHeld4 hHeld5 hb ot nb
        gi_wp2
        have hw : wrap64 ((a0.size : Int) - (rest.size : Int)) = (a0.size : Int) - (rest.size : Int) := wrap_id (by have := HS.out; omega) (by have := HS.out; omega)
        rw [hw] at AG ⊢
        exact ⟨AG.out.hL, .inl ⟨rfl, rfl, _, AG.out.put _, by rw [List.length_append]; have := HS.out; simp only [List.length_cons, List.length_nil] at this ⊢; omega⟩⟩
    · have hne : 0 < acc.length := by rw [hacc, List.length_concat]; omega
      have hlast : acc.getLast? = some g := by rw [hacc, List.concat_eq_append, List.getLast?_concat]
      have hbrk : brk acc q = (q != wrap64 (g.f0 + 1)) := by unfold brk; rw [hlast]
      have HBK := Aside0.mk hbrk
      obtain ⟨ji, hji⟩ : ∃ j_ : Int, wrap64 ((acc.length : Int) - 1) = j_ := ⟨_, rfl⟩
      have hjv : ji = (acc.length : Int) - 1 := by rw [← hji]; exact wrap_id (by omega) (by have := HS.out; omega)
      have hrd : rd_T30 acc ji = g := by
        have hj : ji.toNat = acc.length - 1 := by omega
        unfold rd_T30
        rw [hj, List.getD_eq_getElem?_getD, ← List.getLast?_eq_getElem?, hlast]
        rfl
      have hjiw : (IntKind.i64.wrap ((acc.length : Int) - 1)) = ji := (i64_w _).trans hji
      have hj0 : 0 ≤ ji := by omega
      have hj1 : ji < (acc.length : Int) := by omega
      obtain ⟨ad, A6, c6, e6, hx0, _, _, _⟩ := at_T30 (Kd.S_reads' S4.out).2.2 ji hj0 hj1
      cases e6
      rw [hrd] at hx0
      have n0 : decide (0 < (acc.length : Int)) = true := decide_eq_true (by omega)
      have n1 : decide (0 < acc.length) = true := decide_eq_true hne
      have d0 : decide (0 ≤ ji) = true := decide_eq_true hj0
      have d1 : decide (ji < (acc.length : Int)) = true := decide_eq_true hj1
      have j0 := eq_true hj0
      have j1 := eq_true hj1
      clear hlast hbrk hrd hj0 hj1 hjv hacc
      gi_wp2
      refine startIn_ (n := 16) (S := fun w' => w'.cell? ⟨p + 1, 0, none⟩ = some (.slice (some ad) acc.length c5) ∧ w'.cell? ⟨b, 0, none⟩ = some (.int .i64 q) ∧ w'.cell? (ad.add (ji.toNat * 2)) = some (.int .i64 g.f0)) (ds := []) #[false, false, false, false, false, false, false, false, false, false, false, false, false, false, false, false] (by kernel_rfl) rfl rfl (by rintro ⟨_, _, h⟩; exact h) (by kernel_rfl) ⟨(blk_cell (blk_drew A4.out.hq) 0).trans rfl, (blk_cell (blk_drew BK.out) 0).trans rfl, hx0⟩ (fun hHeld => ?_)
      refine with_tabW all6.tab all6.bits (fun HT_ HW_ => ?_)
      have A8 := Aside0.mk (A4.out.later (below_drew (Below.refl _ _)))
      have BK8 := Aside0.mk (blk_drew BK.out)
      have S8 := Aside0.mk (Kd.S_drew S4.out)
      have R8 := Aside0.mk (Kd.R_drew R4.out)
      have Z8 : Aside0 (W4.drew.heap.size = b + 1) := ⟨SZ.out.2.2⟩
      clear A4 BK S4 R4 hx0
      generalize W4.drew = w8 at A8 BK8 S8 R8 Z8 hHeld ⊢
      refine take_ (i := 0) (N := some 12) (v := ?_) (a' := ?_) #[true, false, false, false, false, false, false, false, false, false, false, false, false, false, false, false] rfl rfl (take_ofW HT_.out HW_.out (by kernel_rfl)) (fun _ _ _ h => h) (Or.inl ⟨by rfl, ?_⟩) hHeld ?_ ?_
      rotate_left
      · rintro w' ⟨s0, s1, s2⟩
        go_simp
        with_reducible rfl
      rotate_left
      · simp only [Act.put, List.setIfInBounds_toArray, List.set_cons_zero, List.set_cons_succ, i64_w, i32_w]
        rfl
      refine pure_ (i := 1) (N := some 13) (v := ?_) (a' := ?_) #[true, true, false, false, false, false, false, false, false, false, false, false, false, false, false, false] rfl rfl (any_of HT_.out (by kernel_rfl)) (fun _ _ _ h => h) (Or.inl ⟨by rfl, ?_⟩) ?_ ?_
      rotate_left
      · intro w'
        go_simp
        with_reducible rfl
      rotate_left
      · simp only [Act.put, List.setIfInBounds_toArray, List.set_cons_zero, List.set_cons_succ, i64_w, i32_w]
        rfl
      refine pure_ (i := 2) (N := some 14) (v := ?_) (a' := ?_) #[true, true, true, false, false, false, false, false, false, false, false, false, false, false, false, false] rfl rfl (any_of HT_.out (by kernel_rfl)) (fun _ _ _ h => h) (Or.inl ⟨by rfl, ?_⟩) ?_ ?_
      rotate_left
      · intro w'
        go_simp
        with_reducible rfl
      rotate_left
      · simp only [Act.put, List.setIfInBounds_toArray, List.set_cons_zero, List.set_cons_succ, i64_w, i32_w]
        rfl
      refine pure_ (i := 3) (N := some 15) (v := ?_) (a' := ?_) #[true, true, true, true, false, false, false, false, false, false, false, false, false, false, false, false] rfl rfl (any_of HT_.out (by kernel_rfl)) (fun _ _ _ h => h) (Or.inl ⟨by rfl, ?_⟩) ?_ ?_
      rotate_left
      · intro w'
        go_simp
        with_reducible rfl
      rotate_left
      · simp only [Act.put, List.setIfInBounds_toArray, List.set_cons_zero, List.set_cons_succ, i64_w, i32_w]
        rfl
      refine pure_ (i := 4) (N := some 16) (v := ?_) (a' := ?_) #[true, true, true, true, true, false, false, false, false, false, false, false, false, false, false, false] rfl rfl (any_of HT_.out (by kernel_rfl)) (fun _ _ _ h => h) (Or.inl ⟨by rfl, ?_⟩) ?_ ?_
      rotate_left
      · intro w'
        go_simp
        with_reducible rfl
      rotate_left
      · simp only [Act.put, List.setIfInBounds_toArray, List.set_cons_zero, List.set_cons_succ, i64_w, i32_w]
        rfl
      refine take_ (i := 5) (N := some 17) (v := ?_) (a' := ?_) #[true, true, true, true, true, true, false, false, false, false, false, false, false, false, false, false] rfl rfl (take_ofW HT_.out HW_.out (by kernel_rfl)) (fun _ _ _ h => h) (Or.inl ⟨by rfl, ?_⟩) hHeld ?_ ?_
      rotate_left
      · rintro w' ⟨s0, s1, s2⟩
        go_simp
        with_reducible rfl
      rotate_left
      · simp only [Act.put, List.setIfInBounds_toArray, List.set_cons_zero, List.set_cons_succ, i64_w, i32_w]
        rfl
      refine take_ (i := 6) (N := some 18) (v := ?_) (a' := ?_) #[true, true, true, true, true, true, true, false, false, false, false, false, false, false, false, false] rfl rfl (take_ofW HT_.out HW_.out (by kernel_rfl)) (fun _ _ _ h => h) (Or.inl ⟨by rfl, ?_⟩) hHeld ?_ ?_
      rotate_left
      · rintro w' ⟨s0, s1, s2⟩
        go_simp
        with_reducible rfl
      rotate_left
      · simp only [Act.put, List.setIfInBounds_toArray, List.set_cons_zero, List.set_cons_succ, i64_w, i32_w]
        rfl
      refine take_ (i := 7) (N := some 19) (v := ?_) (a' := ?_) #[true, true, true, true, true, true, true, true, false, false, false, false, false, false, false, false] rfl rfl (take_ofW HT_.out HW_.out (by kernel_rfl)) (fun _ _ _ h => h) (Or.inl ⟨by rfl, ?_⟩) hHeld ?_ ?_
      rotate_left
      · rintro w' ⟨s0, s1, s2⟩
        go_simp
        with_reducible rfl
      rotate_left
      · simp only [Act.put, List.setIfInBounds_toArray, List.set_cons_zero, List.set_cons_succ, i64_w, i32_w]
        rfl
      refine pure_ (i := 8) (N := some 20) (v := ?_) (a' := ?_) #[true, true, true, true, true, true, true, true, true, false, false, false, false, false, false, false] rfl rfl (any_of HT_.out (by kernel_rfl)) (fun _ _ _ h => h) (Or.inl ⟨by rfl, ?_⟩) ?_ ?_
      rotate_left
      · intro w'
        go_simp
        with_reducible rfl
      rotate_left
      · simp only [Act.put, List.setIfInBounds_toArray, List.set_cons_zero, List.set_cons_succ, i64_w, i32_w]
        rfl
      refine pure_ (i := 9) (N := some 21) (v := ?_) (a' := ?_) #[true, true, true, true, true, true, true, true, true, true, false, false, false, false, false, false] rfl rfl (any_of HT_.out (by kernel_rfl)) (fun _ _ _ h => h) (Or.inl ⟨by rfl, ?_⟩) ?_ ?_
      rotate_left
      · intro w'
        go_simp
        with_reducible rfl
      rotate_left
      · simp only [Act.put, List.setIfInBounds_toArray, List.set_cons_zero, List.set_cons_succ, i64_w, i32_w]
        rfl
      refine pure_ (i := 10) (N := some 22) (v := ?_) (a' := ?_) #[true, true, true, true, true, true, true, true, true, true, true, false, false, false, false, false] rfl rfl (any_of HT_.out (by kernel_rfl)) (fun _ _ _ h => h) (Or.inl ⟨by rfl, ?_⟩) ?_ ?_
      rotate_left
      · intro w'
        go_simp
        with_reducible rfl
      rotate_left
      · simp only [Act.put, List.setIfInBounds_toArray, List.set_cons_zero, List.set_cons_succ, i64_w, i32_w]
        rfl
      refine pure_ (i := 11) (N := some 23) (v := ?_) (a' := ?_) #[true, true, true, true, true, true, true, true, true, true, true, true, false, false, false, false] rfl rfl (any_of HT_.out (by kernel_rfl)) (fun _ _ _ h => h) (Or.inl ⟨by rfl, ?_⟩) ?_ ?_
      rotate_left
      · intro w'
        go_simp
        with_reducible rfl
      rotate_left
      · simp only [Act.put, List.setIfInBounds_toArray, List.set_cons_zero, List.set_cons_succ, i64_w, i32_w]
        rfl
      refine take_ (i := 12) (N := some 24) (v := ?_) (a' := ?_) #[true, true, true, true, true, true, true, true, true, true, true, true, true, false, false, false] rfl rfl (take_ofW HT_.out HW_.out (by kernel_rfl)) (fun _ _ _ h => h) (Or.inl ⟨by rfl, ?_⟩) hHeld ?_ ?_
      rotate_left
      · rintro w' ⟨s0, s1, s2⟩
        go_simp
        with_reducible rfl
      rotate_left
      · simp only [Act.put, List.setIfInBounds_toArray, List.set_cons_zero, List.set_cons_succ, i64_w, i32_w]
        rfl
      refine pure_ (i := 13) (N := some 25) (v := ?_) (a' := ?_) #[true, true, true, true, true, true, true, true, true, true, true, true, true, true, false, false] rfl rfl (any_of HT_.out (by kernel_rfl)) (fun _ _ _ h => h) (Or.inl ⟨by rfl, ?_⟩) ?_ ?_
      rotate_left
      · intro w'
        go_simp
        with_reducible rfl
      rotate_left
      · simp only [Act.put, List.setIfInBounds_toArray, List.set_cons_zero, List.set_cons_succ, i64_w, i32_w]
        rfl
      refine pure_ (i := 14) (N := some 26) (v := ?_) (a' := ?_) #[true, true, true, true, true, true, true, true, true, true, true, true, true, true, true, false] rfl rfl (any_of HT_.out (by kernel_rfl)) (fun _ _ _ h => h) (Or.inl ⟨by rfl, ?_⟩) ?_ ?_
      rotate_left
      · intro w'
        go_simp
        with_reducible rfl
      rotate_left
      · simp only [Act.put, List.setIfInBounds_toArray, List.set_cons_zero, List.set_cons_succ, i64_w, i32_w]
        rfl
      refine pure_ (i := 15) (N := some 27) (v := ?_) (a' := ?_) #[true, true, true, true, true, true, true, true, true, true, true, true, true, true, true, true] rfl rfl (any_of HT_.out (by kernel_rfl)) (fun _ _ _ h => h) (Or.inl ⟨by rfl, ?_⟩) ?_ ?_
      rotate_left
      · intro w'
        go_simp
        with_reducible rfl
      rotate_left
      · simp only [Act.put, List.setIfInBounds_toArray, List.set_cons_zero, List.set_cons_succ, i64_w, i32_w]
        rfl
      refine done_ (by kernel_rfl) ?_
      clear HT_ HW_ hHeld j0 j1 d0 d1 n0 n1 hji hjiw
      cases hbq : (q != wrap64 (g.f0 + 1)) with
      | true =>
        gi_wp2
        exact ⟨A8.out.hL, .inr ⟨rfl, HBK.out.trans hbq, _, A8.out.put _⟩⟩
      | false =>
        have HBR := Aside0.mk (HBK.out.trans hbq)
        gi_wp2
        refine startIn_ (n := 11) (S := fun w' => w'.cell? ⟨p, 0, none⟩ = some (.string a0) ∧ w'.cell? ⟨b, 0, none⟩ = some (.int .i64 q) ∧ w'.cell? ⟨b, 1, none⟩ = some (.slice A2 cs.length c2)) (ds := [10]) #[false, false, false, false, false, false, false, false, false, false, false] (by kernel_rfl) rfl rfl (by rintro ⟨_, _, h⟩; exact h) (by kernel_rfl) ⟨(blk_cell (blk_drew A8.out.hp) 0).trans rfl, (blk_cell (blk_drew BK8.out) 0).trans rfl, (blk_cell (blk_drew BK8.out) 1).trans rfl⟩ (fun hHeld => ?_)
        refine with_tabW all7.tab all7.bits (fun HT_ HW_ => ?_)
        have A9 := Aside0.mk (A8.out.later (below_drew (Below.refl _ _)))
        have BK9 := Aside0.mk (blk_drew BK8.out)
        have S9 := Aside0.mk (Kd.S_drew S8.out)
        have R9 := Aside0.mk (Kd.R_drew R8.out)
        have Z9 : Aside0 (w8.drew.heap.size = b + 1) := Z8
        clear A8 BK8 S8 R8 Z8
        generalize w8.drew = w9 at A9 BK9 S9 R9 Z9 hHeld ⊢
        refine take_ (i := 1) (N := some 29) (v := ?_) (a' := ?_) #[false, true, false, false, false, false, false, false, false, false, false] rfl rfl (take_ofW HT_.out HW_.out (by kernel_rfl)) (fun _ _ _ h => h) (Or.inl ⟨by rfl, ?_⟩) hHeld ?_ ?_
        rotate_left
        · rintro w' ⟨s0, s1, s2⟩
          go_simp
          with_reducible rfl
        rotate_left
        · simp only [Act.put, List.setIfInBounds_toArray, List.set_cons_zero, List.set_cons_succ, i64_w, i32_w]
          rfl
        refine take_ (i := 4) (N := some 32) (v := ?_) (a' := ?_) #[false, true, false, false, true, false, false, false, false, false, false] rfl rfl (take_ofW HT_.out HW_.out (by kernel_rfl)) (fun _ _ _ h => h) (Or.inl ⟨by rfl, ?_⟩) hHeld ?_ ?_
        rotate_left
        · rintro w' ⟨s0, s1, s2⟩
          go_simp
          with_reducible rfl
        rotate_left
        · simp only [Act.put, List.setIfInBounds_toArray, List.set_cons_zero, List.set_cons_succ, i64_w, i32_w]
          rfl
        refine pure_ (i := 5) (N := some 33) (v := ?_) (a' := ?_) #[false, true, false, false, true, true, false, false, false, false, false] rfl rfl (any_of HT_.out (by kernel_rfl)) (fun _ _ _ h => h) (Or.inl ⟨by rfl, ?_⟩) ?_ ?_
        rotate_left
        · intro w'
          go_simp
          with_reducible rfl
        rotate_left
        · simp only [Act.put, List.setIfInBounds_toArray, List.set_cons_zero, List.set_cons_succ, i64_w, i32_w]
          rfl
        refine pure_ (i := 6) (N := some 34) (v := ?_) (a' := ?_) #[false, true, false, false, true, true, true, false, false, false, false] rfl rfl (any_of HT_.out (by kernel_rfl)) (fun _ _ _ h => h) (Or.inl ⟨by rfl, ?_⟩) ?_ ?_
        rotate_left
        · intro w'
          go_simp
          with_reducible rfl
        rotate_left
        · simp only [Act.put, List.setIfInBounds_toArray, List.set_cons_zero, List.set_cons_succ, i64_w, i32_w]
          rfl
        refine pure_ (i := 7) (N := some 35) (v := ?_) (a' := ?_) #[false, true, false, false, true, true, true, true, false, false, false] rfl rfl (any_of HT_.out (by kernel_rfl)) (fun _ _ _ h => h) (Or.inl ⟨by rfl, ?_⟩) ?_ ?_
        rotate_left
        · intro w'
          go_simp
          with_reducible rfl
        rotate_left
        · simp only [Act.put, List.setIfInBounds_toArray, List.set_cons_zero, List.set_cons_succ, i64_w, i32_w]
          rfl
        refine pure_ (i := 8) (N := some 36) (v := ?_) (a' := ?_) #[false, true, false, false, true, true, true, true, true, false, false] rfl rfl (any_of HT_.out (by kernel_rfl)) (fun _ _ _ h => h) (Or.inl ⟨by rfl, ?_⟩) ?_ ?_
        rotate_left
        · intro w'
          go_simp
          with_reducible rfl
        rotate_left
        · simp only [Act.put, List.setIfInBounds_toArray, List.set_cons_zero, List.set_cons_succ, i64_w, i32_w]
          rfl
        have q0 : w9.cell? ⟨p + 1, 0, none⟩ = some (.slice (some ad) acc.length c5) := (blk_cell A9.out.hq 0).trans rfl
        refine join_ (σ := Unit) 3 #[true, true, true, false, true, true, true, true, true, false, false] (fun _ => [(28, .slice (some ad) acc.length c5), (30, .slice (some ⟨w9.heap.size, 0, none⟩) 1 1)]) (fun _ W' => W' = w9.alloc (.cells #[.int .i64 q, .slice A2 cs.length c2] 30)) ?cont ?orders
        case orders =>
          intro hcont
          have f0 := fun o => (blk_cell (blk_alloc A9.out.hp o) 0).trans rfl
          have f1 := fun o => (blk_cell (blk_alloc A9.out.hq o) 0).trans rfl
          have f2 := fun o => (blk_cell (blk_alloc BK9.out o) 0).trans rfl
          have f3 := fun o => (blk_cell (blk_alloc BK9.out o) 1).trans rfl
          refine two_ (i := 0) (j := 2) (Ni := some 28) (Nj := some 30) #[true, true, false, false, true, true, true, true, true, false, false] #[false, true, true, false, true, true, true, true, true, false, false] rfl rfl rfl rfl (two_of HT_.out (by kernel_rfl)) (by decide) (by decide) (fun K hK => ?_) (fun K hK => ?_)
          · refine value_ (w1 := ?_) (v := ?_) (by rfl) rfl ?_ ?_
            rotate_left 2
            · go_simp
              constructor
              · rfl
              · rfl
            refine hK.out _ _ hHeld (fun hHeld2 => ?_)
            clear hK K
            refine norm_ (a' := ?_) ?_ ?_
            rotate_left
            · show Act.put _ (some 28) _ = _
              simp only [Act.put, List.setIfInBounds_toArray, List.set_cons_zero, List.set_cons_succ, i64_w, i32_w]
              rfl
            refine one_ (i := 2) (N := some 30) #[true, true, true, false, true, true, true, true, true, false, false] rfl rfl (one_of HT_.out (by kernel_rfl)) (by decide) (fun K hK => ?_)
            refine value_ (w1 := ?_) (v := ?_) (by rfl) rfl ?_ ?_
            rotate_left 2
            · go_simp
              constructor
              · rfl
              · rfl
            refine hK.out _ _ ⟨f0 _, f2 _, f3 _⟩ (fun hHeld3 => ?_)
            clear hK K
            refine norm_ ?_ (hcont () _ rfl)
            simp only [putAll, Act.put, List.setIfInBounds_toArray, List.set_cons_zero, List.set_cons_succ]
          · refine value_ (w1 := ?_) (v := ?_) (by rfl) rfl ?_ ?_
            rotate_left 2
            · go_simp
              constructor
              · rfl
              · rfl
            refine hK.out _ _ ⟨f0 _, f2 _, f3 _⟩ (fun hHeld2 => ?_)
            clear hK K
            refine norm_ (a' := ?_) ?_ ?_
            rotate_left
            · show Act.put _ (some 30) _ = _
              simp only [Act.put, List.setIfInBounds_toArray, List.set_cons_zero, List.set_cons_succ, i64_w, i32_w]
              rfl
            have q1 : (w9.alloc (.cells #[.int .i64 q, .slice A2 cs.length c2] 30)).cell? ⟨p + 1, 0, none⟩ = some (.slice (some ad) acc.length c5) := f1 _
            refine one_ (i := 0) (N := some 28) #[true, true, true, false, true, true, true, true, true, false, false] rfl rfl (one_of HT_.out (by kernel_rfl)) (by decide) (fun K hK => ?_)
            refine value_ (w1 := ?_) (v := ?_) (by rfl) rfl ?_ ?_
            rotate_left 2
            · go_simp
              constructor
              · rfl
              · rfl
            refine hK.out _ _ ⟨f0 _, f2 _, f3 _⟩ (fun hHeld3 => ?_)
            clear hK K
            refine norm_ ?_ (hcont () _ rfl)
            simp only [putAll, Act.put, List.setIfInBounds_toArray, List.set_cons_zero, List.set_cons_succ]
        case cont =>
          rintro _ W' rfl
          refine norm_ (a' := ?_) ?_ ?_
          rotate_left
          · simp only [putAll, Act.put, List.setIfInBounds_toArray, List.set_cons_zero, List.set_cons_succ]
            rfl
          refine one_ (i := 3) (N := some 31) #[true, true, true, true, true, true, true, true, true, false, false] rfl rfl (one_of HT_.out (by kernel_rfl)) (by decide) (fun K hK => ?_)
          refine Kd.S_append_step k30 (w0 := w9) (p + 6) (by rfl) (.tmp 28) (.tmp 30) 47 30 (.agg #[(.int .i64 0), (.slice none 0 0)]) 32 rfl Try.underlying47 info30 rfl (by decide) (by omega) (.slice (some ad) acc.length c5) acc (⟨q, cs⟩ : S30) [.int .i64 q, .slice A2 cs.length c2] (fun k => p + 6 ≤ k ∧ k ≠ b) (fun k => N ≤ k ∧ k < b) rfl rfl (k30_mkM _ _ _ (⟨q, cs⟩ : S30) R9.out) ?aK ?aF (Kd.S_mono S9.out ?aO) (Below.refl _ _) ?aS ?aL ?_
          case aK => exact fun k hk => ⟨⟨by have := SZ.out; omega, by omega⟩, fun e => by have := LT.out k e.symm; omega⟩
          case aF => exact fun k hk => ⟨by have := SZ.out; have := Z9.out; omega, by have := Z9.out; omega⟩
          case aO => exact fun k hk => ⟨⟨hk.1, by have := SZ.out; omega⟩, fun e => by omega⟩
          case aS => have := SZ.out; have := Z9.out; omega
          case aL => have := HS.out; (try simp only [List.length_nil]); omega
          intro v1 w10 ho hb hg _
          obtain ⟨A7, c7, ev⟩ := Kd.S_slice ho
          obtain ⟨n7, hn7⟩ : ∃ n7 : Nat, n7 = (acc ++ [(⟨q, cs⟩ : S30)]).length := ⟨_, rfl⟩
          rw [← hn7] at ev
          subst ev
          have BK10 := blk_grown BK9.out hg (fun e => by have := LT.out b e.symm; have := SZ.out; omega)
          have hp10 := (hb.block p (by omega)).trans A9.out.hp
          have hq10 := (hb.block (p + 1) (by omega)).trans A9.out.hq
          have hr10 := (hb.block (p + 2) (by omega)).trans A9.out.hr
          have AG := Aside0.mk (A9.out.setG hb (Kd.S_mono ho (fun k hk => hk.1)) (wrap64 ((a0.size : Int) - (rest.size : Int))))
          clear ho hg
          refine hK.out _ _ ⟨(blk_cell hp10 0).trans rfl, (blk_cell BK10 0).trans rfl, (blk_cell BK10 1).trans rfl⟩ (fun hHeld4 => ?_)
          clear hK K
          refine norm_ (a' := ?_) ?_ ?_
          rotate_left
          · show Act.put _ (some 31) _ = _
            simp only [Act.put, List.setIfInBounds_toArray, List.set_cons_zero, List.set_cons_succ, i64_w, i32_w]
            rfl
          have x0 := (blk_cell hq10 0).trans rfl
          have x1 := blk_frozen hq10 0
          have x2 : w10.cell? ⟨p + 1, 0, none⟩ = some (.slice (some ad) acc.length c5) := x0
          clear x0
          refine one_ (i := 9) (N := none) #[true, true, true, true, true, true, true, true, true, true, false] rfl rfl (one_of HT_.out (by kernel_rfl)) (by decide) (fun K hK => ?_)
          refine skip_ (w1 := w10.setCell ⟨p + 1, 0, none⟩ (.slice A7 n7 c7)) (by rfl) rfl ?_ ?_
          · go_simp
          have ot : ∀ k, k ≠ p + 1 → (w10.setCell ⟨p + 1, 0, none⟩ (.slice A7 n7 c7)).heap[k]? = w10.heap[k]? := fun k hk => Below.heap_setCell _ _ _ k hk
          have nb : b ≠ p + 1 := by have := SZ.out; omega
          refine hK.out _ _ ⟨(blk_cell ((ot p (by omega)).trans hp10) 0).trans rfl, (blk_cell ((ot b nb).trans BK10) 0).trans rfl, (blk_cell ((ot b nb).trans BK10) 1).trans rfl⟩ (fun hHeld5 => ?_)
          clear hK K
          have y0 : w10.cell? ⟨p + 2, 0, none⟩ = some (.int .i64 ((a0.size : Int) - (s.size : Int))) := (blk_cell hr10 0).trans rfl
          have y1 := blk_frozen hr10 0
          refine last_ (i := 10) (N := none) #[true, true, true, true, true, true, true, true, true, true, true] rfl rfl (one_of HT_.out (by kernel_rfl)) (by decide) (fun K hK => ?_)
          refine skip_ (w1 := (w10.setCell ⟨p + 1, 0, none⟩ (.slice A7 n7 c7)).setCell ⟨p + 2, 0, none⟩ (.int .i64 (wrap64 ((a0.size : Int) - (rest.size : Int))))) (by rfl) rfl ?_ ?_
          · go_simp
          refine hK.out _ _ ?_
          clear hK K
          refine done_ (by kernel_rfl) ?_
          clear x1 x2 y0 y1 hp10 hq10 hr10 BK10 hHeld hHeld4 hHeld5 hb ot nb
          gi_wp2
          have hw : wrap64 ((a0.size : Int) - (rest.size : Int)) = (a0.size : Int) - (rest.size : Int) := wrap_id (by have := HS.out; omega) (by have := HS.out; omega)
          rw [hw] at AG ⊢
          exact ⟨AG.out.hL, .inl ⟨rfl, HBR.out, _, AG.out.put _, by rw [List.length_append]; have := HS.out; simp only [List.length_cons, List.length_nil] at this ⊢; omega⟩⟩
  · rintro e W2 ⟨⟨v, rfl⟩, (⟨u, h, hs⟩ | ⟨u, h⟩)⟩
    · refine end_none hrec h.hL ?_
      have h2 := h.put (rec .exhausted none)
      generalize W2.putObj (p + 5) (.loop (rec .exhausted none)) = W3 at h2 ⊢
      have c1 : W3.cell? ⟨p + 1, 0, none⟩ = some u := (blk_cell h2.hq 0).trans rfl
      have c2 : W3.cell? ⟨p + 2, 0, none⟩ = some (.int .i64 ((a0.size : Int) - (res.2.size : Int))) := (blk_cell h2.hr 0).trans rfl
      gi_wp2
      gi_region
      all_goals gi_wp2
      all_goals
        refine ⟨by simp, .inl ⟨_, _, rfl, run_takeDeferred (w := W3.drew) h2.hD, ?_⟩⟩
        refine ⟨_, results_tmp2 rfl _ _ _, u, rfl, ?_⟩
        rw [hp]
        exact h2.leaves _
    · refine end_some hrec h.hL ?_
      have h2 := h.put (rec .exhausted (some (.exit 0)))
      generalize W2.putObj (p + 5) (.loop (rec .exhausted (some (.exit 0)))) = W3 at h2 ⊢
      have c1 : W3.cell? ⟨p + 1, 0, none⟩ = some u := (blk_cell h2.hq 0).trans rfl
      have c2 : W3.cell? ⟨p + 2, 0, none⟩ = some (.int .i64 ((a0.size : Int) - (res.2.size : Int))) := (blk_cell h2.hr 0).trans rfl
      gi_wp2
      gi_region
      all_goals gi_wp2
      all_goals
        refine ⟨by simp, .inl ⟨_, _, rfl, run_takeDeferred (w := W3.drew) h2.hD, ?_⟩⟩
        refine ⟨_, results_tmp2 rfl _ _ _, u, rfl, ?_⟩
        rw [hp]
        exact h2.leaves _
/-- The groups of bytes, and where they end. -/
def scan_All.f (a0 : ByteArray) : Option (List S30 × Int) := if a0.size ≤ 7000000 then (allF 400 (a0.size + 2) a0 []).bind fun r => some (r.1, (a0.size : Int) - (r.2.size : Int)) else none
theorem scan_All.calls (a0 : ByteArray) (r1 : List S30) (r2 : Int) (w : World) (h : scan_All.f a0 = some (r1, r2)) :
    Calls Try.prog 26 #[.string a0] w fun e w' => ∃ v0_ : Value, e = .returned (.tuple #[v0_, .int .i64 r2]) ∧ Kd.S k30 30 w' w.heap.size (fun _ => True) v0_ r1 ∧ Below w.heap.size w w' := by
  unfold scan_All.f at h
  by_cases hs : a0.size ≤ 7000000
  · rw [if_pos hs] at h
    obtain ⟨res, hF, hr⟩ := Option.bind_eq_some_iff.mp h
    simp only [Option.some.injEq, Prod.mk.injEq] at hr
    obtain ⟨rfl, rfl⟩ := hr
    exact all_walk a0 400 (by omega) _ res hF hs w
  · rw [if_neg hs] at h
    cases h

end Go.Proofs.Ytcgbjkjacpeheaa.Given
