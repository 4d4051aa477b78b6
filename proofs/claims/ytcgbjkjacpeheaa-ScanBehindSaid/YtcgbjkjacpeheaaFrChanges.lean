/- frame.changes walked: its closure by a contract of its own; the changes of bytes one by one. -/
import Derived.Test.YtcgbjkjacpeheaaProg
import Derived.Below
import Derived.Deep.Draws
import Derived.Deep.AppendLies
import Derived.Maps.AppendAt
import Derived.OwnWalk
import Derived.Laws.BytesArg
import Derived.Laws.MakeOwn
import Derived.Laws.OwnMore
import Derived.Deep.OwnRows
import Derived.Tactics
import Derived.Lib.ConvBytes
import Derived.Laws.Slices
import Derived.WalkKit
import Derived.KernelRfl
import Derived.RowKit3
import Derived.Deep.LoopGhost
import Derived.Deep.QuietTactic
import Derived.BigQuiet
import Derived.WideLaws
import Derived.Deep.DeepCutAuto
import Derived.Deep.CutBlock
import Derived.Deep.RegionHeld3
import Derived.Laws.Rows
import Derived.Lib.AppendStr
import Derived.ArgAppend
import Derived.Laws.IdiomCopy
import Derived.OrdersHeld
import Derived.Laws.BitsLemmas
import Derived.RowKit
import Derived.Test.YtcgbjkjacpeheaaWWords
import Derived.Test.YtcgbjkjacpeheaaWLast
import Derived.Test.YtcgbjkjacpeheaaWTab
import Derived.Test.YtcgbjkjacpeheaaWFour
import Derived.Test.YtcgbjkjacpeheaaWQPut
import Derived.Test.YtcgbjkjacpeheaaWApart
import Derived.Test.YtcgbjkjacpeheaaWArr
import Derived.Test.YtcgbjkjacpeheaaWZeros
import Derived.Test.YtcgbjkjacpeheaaWFoot
import Derived.Test.YtcgbjkjacpeheaaWKept
import Derived.Test.YtcgbjkjacpeheaaWShare
import Derived.Test.YtcgbjkjacpeheaaWN
import Derived.Test.YtcgbjkjacpeheaaWFootNe
import Derived.Test.YtcgbjkjacpeheaaWAt
import Derived.Test.YtcgbjkjacpeheaaWEqStruct
import Derived.Test.YtcgbjkjacpeheaaWRepsOne
import Derived.Test.YtcgbjkjacpeheaaWInv
import Derived.Test.YtcgbjkjacpeheaaWInvWords
import Derived.Test.YtcgbjkjacpeheaaWGuard
import Derived.Test.YtcgbjkjacpeheaaWNEv
import Derived.Test.YtcgbjkjacpeheaaWMore
import Derived.StillTailTactics
import Derived.Laws.BitsAllLaws
import Derived.Outline
import Derived.Lib.OthersKept
import Derived.Test.YtcgbjkjacpeheaaBs
import Derived.Test.YtcgbjkjacpeheaaPFrx3
namespace Go.Proofs.Ytcgbjkjacpeheaa.Given
open Go.RowKit Go.Proofs Go.Proofs.Ytcgbjkjacpeheaa.Bs Go.Proofs.Ytcgbjkjacpeheaa.PFr Go.Proofs.YtcgbjkjacpeheaaW.PrintWords Go.Proofs.YtcgbjkjacpeheaaW.PrintLast Go.Proofs.YtcgbjkjacpeheaaW.PrintMore
set_option linter.unusedVariables false
set_option linter.unusedSimpArgs false
/-- What is read of bytes: the changes, and whether they are right. -/
def chF : Nat → ByteArray → List S62 → Option (List S62 × Bool)
  | 0, _, _ => none
  | n + 1, s, acc => if s.toList = [] then some (acc, true) else
    (wire_Take.f (s.extract 1 s.size)).bind fun t => if bt s 0 = 0 then ((wire_Take.f t.2.1).bind fun u => if (true && t.2.2 == 0 && u.2.2 == 0) = true then chF n u.2.1 (acc ++ [⟨t.1, u.1, false⟩]) else some (acc ++ [⟨t.1, u.1, false⟩], false))
      else if bt s 0 = 1 then (if (true && t.2.2 == 0) = true then chF n t.2.1 (acc ++ [⟨t.1, ⟨#[]⟩, true⟩]) else some (acc ++ [⟨t.1, ⟨#[]⟩, true⟩], false)) else some (acc ++ [⟨t.1, ⟨#[]⟩, false⟩], false)
structure ChSt (ok : Nat → Prop) (B p q : Nat) (w0 : World) (s : ByteArray) (rt : Bool) (v : Value) (acc : List S62) (W : World) : Prop where
  pq : p < q
  qB : q < B
  sz : B ≤ W.heap.size
  hp : W.heap[p]? = some (.cells #[.string s] 9 (0, 0))
  hq : W.heap[q]? = some (.cells #[.bool rt] 4 (0, 0))
  below : Below p w0 W
  row : Kd.R k62 62 W B ok v acc
  okB : ∀ k, ok k → B ≤ k
theorem ChSt.later {ok : Nat → Prop} {B p q : Nat} {w0 W W' : World} {s : ByteArray} {rt : Bool} {v : Value} {acc : List S62} (h : ChSt ok B p q w0 s rt v acc W) (hb : Below W.heap.size W W') : ChSt ok B p q w0 s rt v acc W' := by
  obtain ⟨h1, h2, h3, h4, h5, h6, h7, h8⟩ := h
  exact ⟨h1, h2, by have := hb.size; omega, blk_below h4 hb, blk_below h5 hb, h6.trans (hb.mono (by omega)), Kd.R_below h7 hb, h8⟩
theorem ChSt.setq {ok : Nat → Prop} {B p q : Nat} {w0 W : World} {s : ByteArray} {rt : Bool} {v : Value} {acc : List S62} (h : ChSt ok B p q w0 s rt v acc W) (b : Bool) : ChSt ok B p q w0 s b v acc (W.setCell ⟨q, 0, none⟩ (.bool b)) := by
  obtain ⟨h1, h2, h3, h4, h5, h6, h7, h8⟩ := h
  exact ⟨h1, h2, by simpa using h3, by rw [Below.heap_setCell W ⟨q, 0, none⟩ _ p (by show p ≠ q; omega)]; exact h4, by rw [heap_setCell_same _ _ _ _ _ _ h5]; rfl, h6.setCell (by show p ≤ q; omega) _, Kd.R_far h7 (fun k hk => by have := h8 k hk; show k ≠ q; omega) _, h8⟩
theorem ChSt.setp {ok : Nat → Prop} {B p q : Nat} {w0 W : World} {s : ByteArray} {rt : Bool} {v : Value} {acc : List S62} (h : ChSt ok B p q w0 s rt v acc W) (r : ByteArray) : ChSt ok B p q w0 r rt v acc (W.setCell ⟨p, 0, none⟩ (.string r)) := by
  obtain ⟨h1, h2, h3, h4, h5, h6, h7, h8⟩ := h
  exact ⟨h1, h2, by simpa using h3, by rw [heap_setCell_same _ _ _ _ _ _ h4]; rfl, by rw [Below.heap_setCell W ⟨p, 0, none⟩ _ q (by show q ≠ p; omega)]; exact h5, h6.setCell (Nat.le_refl _) _, Kd.R_far h7 (fun k hk => by have := h8 k hk; show k ≠ p; omega) _, h8⟩
theorem ChSt.cp {ok : Nat → Prop} {B p q : Nat} {w0 W : World} {s : ByteArray} {rt : Bool} {v : Value} {acc : List S62} (h : ChSt ok B p q w0 s rt v acc W) : W.cell? ⟨p, 0, none⟩ = some (.string s) := by rw [Lib.cell_of_heap h.hp]; rfl
theorem ChSt.cq {ok : Nat → Prop} {B p q : Nat} {w0 W : World} {s : ByteArray} {rt : Bool} {v : Value} {acc : List S62} (h : ChSt ok B p q w0 s rt v acc W) : W.cell? ⟨q, 0, none⟩ = some (.bool rt) := by rw [Lib.cell_of_heap h.hq]; rfl
theorem take_any (p q : Nat) (s : ByteArray) (rt : Bool) (t r : ByteArray) (e : Int) (W : World) (hpq : p ≠ q) (hp : W.heap[p]? = some (.cells #[.string s] 9 (0, 0))) (hq : W.heap[q]? = some (.cells #[.bool rt] 4 (0, 0))) (hT : wire_Take.f s = some (t, r, e)) :
    Calls Try.prog 61 #[.pointer (some ⟨p, 0, none⟩), .pointer (some ⟨q, 0, none⟩)] W fun en w' => en = .returned (.string t) ∧ ∃ W1, Below W.heap.size W W1 ∧ w' = (W1.setCell ⟨q, 0, none⟩ (.bool (rt && e == 0))).setCell ⟨p, 0, none⟩ (.string r) := by
  have cp : W.cell? ⟨p, 0, none⟩ = some (.string s) := by rw [Lib.cell_of_heap hp]; rfl
  have cq : W.cell? ⟨q, 0, none⟩ = some (.bool rt) := by rw [Lib.cell_of_heap hq]; rfl
  have HT := Aside0.mk hT
  have HPp := Aside0.mk hp
  have HQq := Aside0.mk hq
  have hqp : q ≠ p := fun hh => hpq hh.symm
  clear hT hp hq
  go_enter Try.func61, Try.ntmps61
  cases rt with
  | true =>
    obtain ⟨b, hb0⟩ : ∃ b : Bool, b = (e == 0) := ⟨_, rfl⟩
    have HB0 := Aside0.mk hb0
    clear hb0
    go_wp2_with (go_at_call 62; refine (wire_Take.calls _ _ _ _ _ HT.out).mono ?_; rintro en w1 ⟨rfl, hb⟩; have hp1 := blk_below HPp.out hb; have hq1 := blk_below HQq.out hb; have cp1 : w1.cell? ⟨p, 0, none⟩ = some (.string s) := (by rw [Lib.cell_of_heap hp1]; rfl); have cq1 : w1.cell? ⟨q, 0, none⟩ = some (.bool true) := (by rw [Lib.cell_of_heap hq1]; rfl); have fp1 := Lib.frozen_of_heap hp1 0; have fq1 := Lib.frozen_of_heap hq1 0; have HW := Aside0.mk hb; clear hp1 hq1 hb)
    go_ret
    exact ⟨rfl, _, HW.out, by simp⟩
  | false =>
    go_wp2_with (go_at_call 62; refine (wire_Take.calls _ _ _ _ _ HT.out).mono ?_; rintro en w1 ⟨rfl, hb⟩; have hp1 := blk_below HPp.out hb; have hq1 := blk_below HQq.out hb; have cp1 : w1.cell? ⟨p, 0, none⟩ = some (.string s) := (by rw [Lib.cell_of_heap hp1]; rfl); have cq1 : w1.cell? ⟨q, 0, none⟩ = some (.bool false) := (by rw [Lib.cell_of_heap hq1]; rfl); have fp1 := Lib.frozen_of_heap hp1 0; have fq1 := Lib.frozen_of_heap hq1 0; have HW := Aside0.mk hb; clear hp1 hq1 hb)
    go_ret
    exact ⟨rfl, _, HW.out, by simp⟩
theorem ChSt.taken {ok : Nat → Prop} {B p q : Nat} {w0 W w' : World} {s r : ByteArray} {rt b : Bool} {v : Value} {acc : List S62} (h : ChSt ok B p q w0 s rt v acc W) (hx : ∃ W1, Below W.heap.size W W1 ∧ w' = (W1.setCell ⟨q, 0, none⟩ (.bool b)).setCell ⟨p, 0, none⟩ (.string r)) : ChSt ok B p q w0 r b v acc w' := by
  obtain ⟨W1, hb, rfl⟩ := hx
  exact ((h.later hb).setq b).setp r
theorem taken_other {ok : Nat → Prop} {B p q : Nat} {w0 W w' : World} {s r : ByteArray} {rt b : Bool} {v : Value} {acc : List S62} (h : ChSt ok B p q w0 s rt v acc W) (hx : ∃ W1, Below W.heap.size W W1 ∧ w' = (W1.setCell ⟨q, 0, none⟩ (.bool b)).setCell ⟨p, 0, none⟩ (.string r)) {g : Nat} {x : Obj} (hg : B ≤ g) (hx2 : W.heap[g]? = some x) : w'.heap[g]? = some x := by
  obtain ⟨W1, hb, rfl⟩ := hx
  rw [Below.heap_setCell _ ⟨p, 0, none⟩ _ g (by have := h.pq; have := h.qB; show g ≠ p; omega), Below.heap_setCell _ ⟨q, 0, none⟩ _ g (by have := h.qB; show g ≠ q; omega)]
  exact blk_below hx2 hb
theorem ChSt.fresh {ok : Nat → Prop} {B p q : Nat} {w0 W : World} {s : ByteArray} {rt : Bool} {v : Value} {acc : List S62} (h : ChSt ok B p q w0 s rt v acc W) (cb : Nat) (hc : W.heap.size ≤ cb) : ChSt (fun k => ok k ∧ k ≠ cb) B p q w0 s rt v acc W := by
  obtain ⟨h1, h2, h3, h4, h5, h6, h7, h8⟩ := h
  exact ⟨h1, h2, h3, h4, h5, h6, Kd.R_elderB h7 cb hc, fun k hk => h8 k hk.1⟩
theorem ChSt.setc {ok : Nat → Prop} {B p q : Nat} {w0 W : World} {s : ByteArray} {rt : Bool} {v : Value} {acc : List S62} (h : ChSt ok B p q w0 s rt v acc W) {cb : Nat} (hB : B ≤ cb) (hc : ∀ k, ok k → k ≠ cb) (i : Nat) (u : Value) : ChSt ok B p q w0 s rt v acc (W.setCell ⟨cb, i, none⟩ u) := by
  obtain ⟨h1, h2, h3, h4, h5, h6, h7, h8⟩ := h
  exact ⟨h1, h2, by simpa using h3, by rw [Below.heap_setCell W ⟨cb, i, none⟩ _ p (by show p ≠ cb; omega)]; exact h4, by rw [Below.heap_setCell W ⟨cb, i, none⟩ _ q (by show q ≠ cb; omega)]; exact h5, h6.setCell (by show p ≤ cb; omega) _, Kd.R_far h7 (fun k hk => hc k hk) _, h8⟩
theorem ChSt.row' {ok : Nat → Prop} {B p q : Nat} {w0 W W' : World} {s : ByteArray} {rt : Bool} {v v' : Value} {acc acc' : List S62} (h : ChSt ok B p q w0 s rt v acc W) (hb : Below B W W') (hR : Kd.R k62 62 W' B ok v' acc') : ChSt (fun k => B ≤ k) B p q w0 s rt v' acc' W' := by
  obtain ⟨h1, h2, h3, h4, h5, h6, h7, h8⟩ := h
  exact ⟨h1, h2, Nat.le_trans h3 hb.size, (hb.block p (by omega)).trans h4, (hb.block q h2).trans h5, h6.trans (hb.mono (by omega)), Kd.R_mono hR h8, fun _ h => h⟩
set_option maxHeartbeats 2000000 in
set_option maxRecDepth 100000 in
theorem changes_walk (a0 : ByteArray) (r1 : List S62) (r2 : Bool) (K : Nat) (h : chF K a0 [] = some (r1, r2)) (hK : K ≤ 8000002) (w : World) :
    Calls Try.prog 47 #[.string a0] w fun e w' => ∃ v0_ : Value, e = .returned (.tuple #[v0_, .bool r2]) ∧ Kd.R k62 62 w' w.heap.size (fun _ => True) v0_ r1 ∧ Below w.heap.size w w' := by
  have hmf : ∀ (fn : Fn) (first cap : Array Value) (w : World), (Instr.makeFunc fn first cap).run Try.prog w = .ok (.func fn first cap) w := fun _ _ _ _ => rfl
  have hA : ChSt (fun k => w.heap.size + 1 + 1 ≤ k) (w.heap.size + 1 + 1) w.heap.size (w.heap.size + 1) w a0 true (.slice none 0 0) [] ((w.alloc (.cells #[.string a0] 9)).alloc (.cells #[.bool true] 4)) :=
    ⟨by omega, by omega, by simp, blk_alloc (by simpa using blk_new w (.cells #[.string a0] 9)) _, by simpa using blk_new (w.alloc (.cells #[.string a0] 9)) (.cells #[.bool true] 4), ((Below.refl _ _).alloc (Nat.le_refl _) _).alloc (by simp) _, Kd.R_nil _ _ _ _ _, fun _ h => h⟩
  have hu := Try.underlying62
  have HA := Aside0.mk hA
  have H0 := Aside0.mk h
  clear hA h
  go_enter Try.func47, Try.ntmps47
  go_wp2_with fail
  revert HA
  generalize ((w.alloc (.cells #[.string a0] 9)).alloc (.cells #[.bool true] 4)) = W0
  intro HA
  go_loopg [4] K (fun kq v4 wr => ∃ (s : ByteArray) (rt : Bool) (acc : List S62), ChSt (fun k => w.heap.size + 1 + 1 ≤ k) (w.heap.size + 1 + 1) w.heap.size (w.heap.size + 1) w s rt v4 acc wr ∧ Aside0 (if rt = true then chF kq s acc = some (r1, r2) else (r1, r2) = (acc, false)) ∧ Aside0 (acc.length + kq ≤ 8000002) ∧ Aside0 (kq ≤ K))
  case atStart => exact ⟨a0, true, [], HA.out, ⟨H0.out⟩, ⟨by simpa using hK⟩, ⟨Nat.le_refl _⟩⟩
  case round =>
    obtain ⟨s, rt, acc, hS, HE, HL, HK⟩ := hrel
    clear HA H0
    have cp := hS.cp
    have cq := hS.cq
    have fp := Lib.frozen_of_heap hS.hp 0
    have fq := Lib.frozen_of_heap hS.hq 0
    have HS := Aside0.mk hS
    clear hS
    by_cases hs : s.toList = []
    · have x1 : (s.toList != ([] : List UInt8)) = false := bne_eq_false_iff_eq.mpr hs
      have x2 : (s.toList == ([] : List UInt8)) = true := beq_iff_eq.mpr hs
      have hr : (r1, r2) = (acc, rt) := by
        have he := HE.out
        cases rt with
        | true =>
          rw [if_pos rfl] at he
          cases gk with
          | zero => simp [chF] at he
          | succ k1 => rw [chF, if_pos hs] at he; exact (Option.some.inj he).symm
        | false => rw [if_neg (by decide)] at he; exact he
      obtain ⟨rfl, rfl⟩ := Prod.mk.inj hr
      clear hr hs HE
      go_wp2_with fail
      go_quiet (fail)
      go_wp2
      go_ret2
      exact ⟨_, rfl, by (with_reducible repeat (first | apply Kd.R_alloc | apply Kd.R_drewN | apply Kd.R_drew)); exact Kd.R_lower (Kd.R_mono HS.out.row (fun _ _ => trivial)) (by omega), by repeat (first | exact HS.out.below | apply pw_below_drewN | apply below_drew1)⟩
    · have x1 : (s.toList != ([] : List UInt8)) = true := bne_iff_ne.mpr hs
      have x2 : (s.toList == ([] : List UInt8)) = false := beq_eq_false_iff_ne.mpr hs
      cases rt with
      | false =>
        have hr : (r1, r2) = (acc, false) := by have he := HE.out; rw [if_neg (by decide)] at he; exact he
        obtain ⟨rfl, rfl⟩ := Prod.mk.inj hr
        clear hr hs HE
        go_wp2_with fail
        go_quiet (fail)
        go_wp2
        go_ret2
        exact ⟨_, rfl, by (with_reducible repeat (first | apply Kd.R_alloc | apply Kd.R_drewN | apply Kd.R_drew)); exact Kd.R_lower (Kd.R_mono HS.out.row (fun _ _ => trivial)) (by omega), by repeat (first | exact HS.out.below | apply pw_below_drewN | apply below_drew1)⟩
      | true =>
        have he := HE.out
        rw [if_pos rfl] at he
        clear HE
        cases gk with
        | zero => simp [chF] at he
        | succ k1 =>
          rw [chF, if_neg hs] at he
          obtain ⟨⟨t, s2, e1⟩, hT1, he⟩ := Option.bind_eq_some_iff.mp he
          have HT1 := Aside0.mk hT1
          clear hT1
          simp only [] at he
          have hz : 0 < s.size := by
            rcases Nat.eq_zero_or_pos s.size with h0 | h0
            · exact absurd (by rw [ByteArray.toList_eq]; exact List.eq_nil_of_length_eq_zero (by rw [data_length]; exact h0)) hs
            · exact h0
          have c3b0 : decide (0 < (s.size : Int)) = true := decide_eq_true (by omega)
          have c3b1 : decide (0 < s.size) = true := decide_eq_true hz
          have c5b0 : (1 ≤ (s.size : Int)) = True := eq_true (by omega)
          have c5b1 : decide (1 ≤ (s.size : Int)) = true := decide_eq_true (by omega)
          have hx4 : ∀ h : 0 < s.size, ((s[0]'h).toNat : Int) = bt s 0 := bt_at s 0
          have qi4 : (0 < (s.size : Int)) = True := eq_true (by omega)
          have q4 : (0 < s.size) = True := eq_true hz
          have HE := Aside0.mk he
          clear he hs hz
          go_upto_region 7 with fail
          (try simp only [Act.put, List.setIfInBounds_toArray, List.set_cons_zero, List.set_cons_succ])
          have HS1 := Aside0.mk (HS.out.setp (s.extract 1 s.size))
          generalize (World.setCell wr ⟨w.heap.size, 0, none⟩ (.string (s.extract 1 s.size))) = w1 at HS1 ⊢
          clear cp cq fp fq HS
          by_cases k0 : bt s 0 = 0
          · have he := HE.out
            rw [if_pos k0] at he
            obtain ⟨⟨v, s3, e2⟩, hT2, he⟩ := Option.bind_eq_some_iff.mp he
            have HT2 := Aside0.mk hT2
            simp only [] at he
            clear HE hT2
            have HE := Aside0.mk he
            clear he
            have d0 : (bt s 0 == 0) = true := beq_iff_eq.mpr k0
            have d1 : (bt s 0 == 1) = false := beq_eq_false_iff_ne.mpr (by rw [k0]; decide)
            clear k0
            go_upto_region 8 with (first | (go_at_call 61; refine (take_any _ _ _ _ _ _ _ _ (by omega) HS1.out.hp HS1.out.hq HT1.out).mono ?_; rintro e w2 ⟨rfl, hx⟩; have HS2 := Aside0.mk (HS1.out.taken hx); clear hx HS1 HT1) | ((with_reducible refine gate_dst (N := 8) rfl ?_); refine box_event ?hg (N := 8) ?hd (cs := #[.string (⟨#[]⟩ : ByteArray), .string (⟨#[]⟩ : ByteArray), .bool false]) (t := 62) ?hr ?_; (case hd => rfl); (case hg => rfl); (case hr => first | (go_simp; done) | (go_simp; rfl)); intro cb hg w5 hbox hb; have HW5 := Aside0.mk hb; have CB := Aside0.mk hbox; have GC := Aside0.mk (Nat.le_of_eq hg.symm : w2.heap.size ≤ cb); clear hb hbox hg; have hw0 : w5.cell? ⟨cb, 0, none⟩ = some (.string (⟨#[]⟩ : ByteArray)) := (blk_cell CB.out 0).trans rfl; have hw1 : w5.cell? ⟨cb, 1, none⟩ = some (.string (⟨#[]⟩ : ByteArray)) := (blk_cell CB.out 1).trans rfl; have hw2 : w5.cell? ⟨cb, 2, none⟩ = some (.bool false) := (blk_cell CB.out 2).trans rfl; have fw0 := blk_frozen CB.out 0; have fw1 := blk_frozen CB.out 1; have fw2 := blk_frozen CB.out 2))
            (try simp only [Act.put, List.setIfInBounds_toArray, List.set_cons_zero, List.set_cons_succ])
            have m0_ : Aside0 (Below w2.heap.size w2 (World.setCell (World.setCell (World.setCell w5 ⟨cb, 0, none⟩ (.string t)) ⟨cb, 1, none⟩ (.string (⟨#[]⟩ : ByteArray))) ⟨cb, 2, none⟩ (.bool false))) := ⟨by refine below_set (below_set (below_set HW5.out GC.out) GC.out) GC.out⟩
            have m1_ : Aside0 ((World.setCell (World.setCell (World.setCell w5 ⟨cb, 0, none⟩ (.string t)) ⟨cb, 1, none⟩ (.string (⟨#[]⟩ : ByteArray))) ⟨cb, 2, none⟩ (.bool false)).heap[cb]? = some (.cells #[.string t, .string (⟨#[]⟩ : ByteArray), .bool false] 62 (0, 0))) := ⟨by refine blk_put (cs := #[.string t, .string (⟨#[]⟩ : ByteArray), .bool false]) ?_ 2 _ rfl; refine blk_put (cs := #[.string t, .string (⟨#[]⟩ : ByteArray), .bool false]) ?_ 1 _ rfl; refine blk_put (cs := #[.string (⟨#[]⟩ : ByteArray), .string (⟨#[]⟩ : ByteArray), .bool false]) ?_ 0 _ rfl; exact CB.out⟩
            generalize (World.setCell (World.setCell (World.setCell w5 ⟨cb, 0, none⟩ (.string t)) ⟨cb, 1, none⟩ (.string (⟨#[]⟩ : ByteArray))) ⟨cb, 2, none⟩ (.bool false)) = w6 at m0_ m1_ ⊢
            have HS6 := Aside0.mk ((HS2.out.fresh cb GC.out).later m0_.out)
            have GB := Aside0.mk (Nat.le_trans HS2.out.sz GC.out)
            clear CB HW5 hw0 hw1 hw2 fw0 fw1 fw2 HS2 m0_
            have CB := m1_
            clear m1_
            go_upto_region 13 with (go_at_call 61; refine (take_any _ _ _ _ _ _ _ _ (by omega) HS6.out.hp HS6.out.hq HT2.out).mono ?_; rintro e w7 ⟨rfl, hx⟩; have HS7 := Aside0.mk (HS6.out.taken hx); have CB7 := Aside0.mk (taken_other HS6.out hx GB.out CB.out); clear CB; have fz1 := blk_frozen CB7.out 1; have hz1 : w7.cell? ⟨cb, 1, none⟩ = some (.string (⟨#[]⟩ : ByteArray)) := (blk_cell CB7.out 1).trans rfl; clear hx HS6 HT2)
            (try simp only [Act.put, List.setIfInBounds_toArray, List.set_cons_zero, List.set_cons_succ])
            have HS8 := Aside0.mk (HS7.out.setc GB.out (fun k hk => hk.2) 1 (.string v))
            have CB8 : Aside0 ((World.setCell w7 ⟨cb, 1, none⟩ (.string v)).heap[cb]? = some (.cells #[.string t, .string v, .bool false] 62 (0, 0))) := ⟨by refine blk_put (cs := #[.string t, .string (⟨#[]⟩ : ByteArray), .bool false]) ?_ 1 _ rfl; exact CB7.out⟩
            generalize (World.setCell w7 ⟨cb, 1, none⟩ (.string v)) = w8 at HS8 CB8 ⊢
            clear HS7 CB7 fz1 hz1
            have z0 : w8.cell? ⟨cb, 0, none⟩ = some (.string t) := (blk_cell CB8.out 0).trans rfl
            have z1 : w8.cell? ⟨cb, 1, none⟩ = some (.string v) := (blk_cell CB8.out 1).trans rfl
            have z2 : w8.cell? ⟨cb, 2, none⟩ = some (.bool false) := (blk_cell CB8.out 2).trans rfl
            go_wp2_with (at_builtin; refine Kd.R_append k62 (w0 := w8) (w.heap.size + 1 + 1) rfl (.tmp 32) (.tmp 34) 22 62 (.agg #[(.string ⟨#[]⟩), (.string ⟨#[]⟩), (.bool false)]) 40 rfl Try.underlying22 info62 rfl (by decide) (by omega) _ acc (⟨t, v, false⟩ : S62) [.string t, .string v, .bool false] (fun k => (w.heap.size + 1 + 1) ≤ k ∧ k ≠ cb) (fun _ => False) rfl (by first | (go_simp; done) | (go_simp; rfl)) ?aP (fun _ hk => hk.elim) ?aF ?aO ?aB ?aS ?aL ?_; (case aP => exact k62_mkM _ _ _ (⟨t, v, false⟩ : S62)); (case aF => exact (fun k hk => ⟨by have h1 := HS8.out.sz; (try simp at hk); omega, by have h1 := blk_lt CB8.out; (try simp at hk); omega⟩)); (case aO => exact (by (with_reducible repeat (first | apply Kd.R_alloc | apply Kd.R_drewN | apply Kd.R_drew)); exact HS8.out.row)); (case aB => exact (by repeat (first | exact Below.refl _ _ | apply pw_below_drewN | apply below_drew1 | exact (Below.refl _ _).alloc HS8.out.sz _))); (case aS => have h1 := HS8.out.sz; simp; omega); (case aL => have := HL.out; omega); intro v1 w9 ho hb hg hat; have HR9 := Aside0.mk (HS8.out.row' hb ho); clear ho hb hg hat)
            go_roundg k1
            case measure => have := HK.out; omega
            case rel => exact ⟨_, _, _, HR9.out, ⟨by have he := HE.out; split at he <;> rename_i hc <;> (first | rw [if_pos hc] | rw [if_neg hc]) <;> (first | exact he | exact (Option.some.inj he).symm)⟩, ⟨by have := HL.out; simp; omega⟩, ⟨by have := HK.out; omega⟩⟩
          · have he := HE.out
            rw [if_neg k0] at he
            by_cases k2 : bt s 0 = 1
            · rw [if_pos k2] at he
              clear HE
              have HE := Aside0.mk he
              clear he
              have d0 : (bt s 0 == 0) = false := beq_eq_false_iff_ne.mpr k0
              have d1 : (bt s 0 == 1) = true := beq_iff_eq.mpr k2
              clear k0 k2
              go_upto_region 8 with (first | (go_at_call 61; refine (take_any _ _ _ _ _ _ _ _ (by omega) HS1.out.hp HS1.out.hq HT1.out).mono ?_; rintro e w2 ⟨rfl, hx⟩; have HS2 := Aside0.mk (HS1.out.taken hx); clear hx HS1 HT1) | ((with_reducible refine gate_dst (N := 8) rfl ?_); refine box_event ?hg (N := 8) ?hd (cs := #[.string (⟨#[]⟩ : ByteArray), .string (⟨#[]⟩ : ByteArray), .bool false]) (t := 62) ?hr ?_; (case hd => rfl); (case hg => rfl); (case hr => first | (go_simp; done) | (go_simp; rfl)); intro cb hg w5 hbox hb; have HW5 := Aside0.mk hb; have CB := Aside0.mk hbox; have GC := Aside0.mk (Nat.le_of_eq hg.symm : w2.heap.size ≤ cb); clear hb hbox hg; have hw0 : w5.cell? ⟨cb, 0, none⟩ = some (.string (⟨#[]⟩ : ByteArray)) := (blk_cell CB.out 0).trans rfl; have hw1 : w5.cell? ⟨cb, 1, none⟩ = some (.string (⟨#[]⟩ : ByteArray)) := (blk_cell CB.out 1).trans rfl; have hw2 : w5.cell? ⟨cb, 2, none⟩ = some (.bool false) := (blk_cell CB.out 2).trans rfl; have fw0 := blk_frozen CB.out 0; have fw1 := blk_frozen CB.out 1; have fw2 := blk_frozen CB.out 2))
              (try simp only [Act.put, List.setIfInBounds_toArray, List.set_cons_zero, List.set_cons_succ])
              have m0_ : Aside0 (Below w2.heap.size w2 (World.setCell (World.setCell (World.setCell w5 ⟨cb, 0, none⟩ (.string t)) ⟨cb, 1, none⟩ (.string (⟨#[]⟩ : ByteArray))) ⟨cb, 2, none⟩ (.bool true))) := ⟨by refine below_set (below_set (below_set HW5.out GC.out) GC.out) GC.out⟩
              have m1_ : Aside0 ((World.setCell (World.setCell (World.setCell w5 ⟨cb, 0, none⟩ (.string t)) ⟨cb, 1, none⟩ (.string (⟨#[]⟩ : ByteArray))) ⟨cb, 2, none⟩ (.bool true)).heap[cb]? = some (.cells #[.string t, .string (⟨#[]⟩ : ByteArray), .bool true] 62 (0, 0))) := ⟨by refine blk_put (cs := #[.string t, .string (⟨#[]⟩ : ByteArray), .bool false]) ?_ 2 _ rfl; refine blk_put (cs := #[.string t, .string (⟨#[]⟩ : ByteArray), .bool false]) ?_ 1 _ rfl; refine blk_put (cs := #[.string (⟨#[]⟩ : ByteArray), .string (⟨#[]⟩ : ByteArray), .bool false]) ?_ 0 _ rfl; exact CB.out⟩
              generalize (World.setCell (World.setCell (World.setCell w5 ⟨cb, 0, none⟩ (.string t)) ⟨cb, 1, none⟩ (.string (⟨#[]⟩ : ByteArray))) ⟨cb, 2, none⟩ (.bool true)) = w6 at m0_ m1_ ⊢
              have HS6 := Aside0.mk ((HS2.out.fresh cb GC.out).later m0_.out)
              have GB := Aside0.mk (Nat.le_trans HS2.out.sz GC.out)
              clear CB HW5 hw0 hw1 hw2 fw0 fw1 fw2 HS2 m0_
              have CB := m1_
              clear m1_
              go_upto_region 13 with fail
              (try simp only [Act.put, List.setIfInBounds_toArray, List.set_cons_zero, List.set_cons_succ])
              have z0 : w6.cell? ⟨cb, 0, none⟩ = some (.string t) := (blk_cell CB.out 0).trans rfl
              have z1 : w6.cell? ⟨cb, 1, none⟩ = some (.string (⟨#[]⟩ : ByteArray)) := (blk_cell CB.out 1).trans rfl
              have z2 : w6.cell? ⟨cb, 2, none⟩ = some (.bool true) := (blk_cell CB.out 2).trans rfl
              go_wp2_with (at_builtin; refine Kd.R_append k62 (w0 := w6) (w.heap.size + 1 + 1) rfl (.tmp 32) (.tmp 34) 22 62 (.agg #[(.string ⟨#[]⟩), (.string ⟨#[]⟩), (.bool false)]) 40 rfl Try.underlying22 info62 rfl (by decide) (by omega) _ acc (⟨t, (⟨#[]⟩ : ByteArray), true⟩ : S62) [.string t, .string (⟨#[]⟩ : ByteArray), .bool true] (fun k => (w.heap.size + 1 + 1) ≤ k ∧ k ≠ cb) (fun _ => False) rfl (by first | (go_simp; done) | (go_simp; rfl)) ?aP (fun _ hk => hk.elim) ?aF ?aO ?aB ?aS ?aL ?_; (case aP => exact k62_mkM _ _ _ (⟨t, (⟨#[]⟩ : ByteArray), true⟩ : S62)); (case aF => exact (fun k hk => ⟨by have h1 := HS6.out.sz; (try simp at hk); omega, by have h1 := blk_lt CB.out; (try simp at hk); omega⟩)); (case aO => exact (by (with_reducible repeat (first | apply Kd.R_alloc | apply Kd.R_drewN | apply Kd.R_drew)); exact HS6.out.row)); (case aB => exact (by repeat (first | exact Below.refl _ _ | apply pw_below_drewN | apply below_drew1 | exact (Below.refl _ _).alloc HS6.out.sz _))); (case aS => have h1 := HS6.out.sz; simp; omega); (case aL => have := HL.out; omega); intro v1 w9 ho hb hg hat; have HR9 := Aside0.mk (HS6.out.row' hb ho); clear ho hb hg hat)
              go_roundg k1
              case measure => have := HK.out; omega
              case rel => exact ⟨_, _, _, HR9.out, ⟨by have he := HE.out; split at he <;> rename_i hc <;> (first | rw [if_pos hc] | rw [if_neg hc]) <;> (first | exact he | exact (Option.some.inj he).symm)⟩, ⟨by have := HL.out; simp; omega⟩, ⟨by have := HK.out; omega⟩⟩
            · rw [if_neg k2] at he
              clear HE
              have HE := Aside0.mk he
              clear he
              have d0 : (bt s 0 == 0) = false := beq_eq_false_iff_ne.mpr k0
              have d1 : (bt s 0 == 1) = false := beq_eq_false_iff_ne.mpr k2
              clear k0 k2
              go_upto_region 8 with (first | (go_at_call 61; refine (take_any _ _ _ _ _ _ _ _ (by omega) HS1.out.hp HS1.out.hq HT1.out).mono ?_; rintro e w2 ⟨rfl, hx⟩; have HS2 := Aside0.mk (HS1.out.taken hx); clear hx HS1 HT1) | ((with_reducible refine gate_dst (N := 8) rfl ?_); refine box_event ?hg (N := 8) ?hd (cs := #[.string (⟨#[]⟩ : ByteArray), .string (⟨#[]⟩ : ByteArray), .bool false]) (t := 62) ?hr ?_; (case hd => rfl); (case hg => rfl); (case hr => first | (go_simp; done) | (go_simp; rfl)); intro cb hg w5 hbox hb; have HW5 := Aside0.mk hb; have CB := Aside0.mk hbox; have GC := Aside0.mk (Nat.le_of_eq hg.symm : w2.heap.size ≤ cb); clear hb hbox hg; have hw0 : w5.cell? ⟨cb, 0, none⟩ = some (.string (⟨#[]⟩ : ByteArray)) := (blk_cell CB.out 0).trans rfl; have hw1 : w5.cell? ⟨cb, 1, none⟩ = some (.string (⟨#[]⟩ : ByteArray)) := (blk_cell CB.out 1).trans rfl; have hw2 : w5.cell? ⟨cb, 2, none⟩ = some (.bool false) := (blk_cell CB.out 2).trans rfl; have fw0 := blk_frozen CB.out 0; have fw1 := blk_frozen CB.out 1; have fw2 := blk_frozen CB.out 2))
              (try simp only [Act.put, List.setIfInBounds_toArray, List.set_cons_zero, List.set_cons_succ])
              have m0_ : Aside0 (Below w2.heap.size w2 (World.setCell (World.setCell (World.setCell w5 ⟨cb, 0, none⟩ (.string t)) ⟨cb, 1, none⟩ (.string (⟨#[]⟩ : ByteArray))) ⟨cb, 2, none⟩ (.bool false))) := ⟨by refine below_set (below_set (below_set HW5.out GC.out) GC.out) GC.out⟩
              have m1_ : Aside0 ((World.setCell (World.setCell (World.setCell w5 ⟨cb, 0, none⟩ (.string t)) ⟨cb, 1, none⟩ (.string (⟨#[]⟩ : ByteArray))) ⟨cb, 2, none⟩ (.bool false)).heap[cb]? = some (.cells #[.string t, .string (⟨#[]⟩ : ByteArray), .bool false] 62 (0, 0))) := ⟨by refine blk_put (cs := #[.string t, .string (⟨#[]⟩ : ByteArray), .bool false]) ?_ 2 _ rfl; refine blk_put (cs := #[.string t, .string (⟨#[]⟩ : ByteArray), .bool false]) ?_ 1 _ rfl; refine blk_put (cs := #[.string (⟨#[]⟩ : ByteArray), .string (⟨#[]⟩ : ByteArray), .bool false]) ?_ 0 _ rfl; exact CB.out⟩
              generalize (World.setCell (World.setCell (World.setCell w5 ⟨cb, 0, none⟩ (.string t)) ⟨cb, 1, none⟩ (.string (⟨#[]⟩ : ByteArray))) ⟨cb, 2, none⟩ (.bool false)) = w6 at m0_ m1_ ⊢
              have HS6 := Aside0.mk ((HS2.out.fresh cb GC.out).later m0_.out)
              have GB := Aside0.mk (Nat.le_trans HS2.out.sz GC.out)
              clear CB HW5 hw0 hw1 hw2 fw0 fw1 fw2 HS2 m0_
              have CB := m1_
              clear m1_
              have fq := Lib.frozen_of_heap HS6.out.hq 0
              have cq := HS6.out.cq
              go_upto_region 13 with fail
              (try simp only [Act.put, List.setIfInBounds_toArray, List.set_cons_zero, List.set_cons_succ])
              have HS8 := Aside0.mk (HS6.out.setq false)
              have CB8 : Aside0 ((World.setCell w6 ⟨w.heap.size + 1, 0, none⟩ (.bool false)).heap[cb]? = some (.cells #[.string t, .string (⟨#[]⟩ : ByteArray), .bool false] 62 (0, 0))) := ⟨(Below.heap_setCell w6 ⟨w.heap.size + 1, 0, none⟩ _ cb (by have := GB.out; show cb ≠ w.heap.size + 1; omega)).trans CB.out⟩
              generalize (World.setCell w6 ⟨w.heap.size + 1, 0, none⟩ (.bool false)) = w8 at HS8 CB8 ⊢
              clear HS6 CB fq cq
              have z0 : w8.cell? ⟨cb, 0, none⟩ = some (.string t) := (blk_cell CB8.out 0).trans rfl
              have z1 : w8.cell? ⟨cb, 1, none⟩ = some (.string (⟨#[]⟩ : ByteArray)) := (blk_cell CB8.out 1).trans rfl
              have z2 : w8.cell? ⟨cb, 2, none⟩ = some (.bool false) := (blk_cell CB8.out 2).trans rfl
              go_wp2_with (at_builtin; refine Kd.R_append k62 (w0 := w8) (w.heap.size + 1 + 1) rfl (.tmp 32) (.tmp 34) 22 62 (.agg #[(.string ⟨#[]⟩), (.string ⟨#[]⟩), (.bool false)]) 40 rfl Try.underlying22 info62 rfl (by decide) (by omega) _ acc (⟨t, (⟨#[]⟩ : ByteArray), false⟩ : S62) [.string t, .string (⟨#[]⟩ : ByteArray), .bool false] (fun k => (w.heap.size + 1 + 1) ≤ k ∧ k ≠ cb) (fun _ => False) rfl (by first | (go_simp; done) | (go_simp; rfl)) ?aP (fun _ hk => hk.elim) ?aF ?aO ?aB ?aS ?aL ?_; (case aP => exact k62_mkM _ _ _ (⟨t, (⟨#[]⟩ : ByteArray), false⟩ : S62)); (case aF => exact (fun k hk => ⟨by have h1 := HS8.out.sz; (try simp at hk); omega, by have h1 := blk_lt CB8.out; (try simp at hk); omega⟩)); (case aO => exact (by (with_reducible repeat (first | apply Kd.R_alloc | apply Kd.R_drewN | apply Kd.R_drew)); exact HS8.out.row)); (case aB => exact (by repeat (first | exact Below.refl _ _ | apply pw_below_drewN | apply below_drew1 | exact (Below.refl _ _).alloc HS8.out.sz _))); (case aS => have h1 := HS8.out.sz; simp; omega); (case aL => have := HL.out; omega); intro v1 w9 ho hb hg hat; have HR9 := Aside0.mk (HS8.out.row' hb ho); clear ho hb hg hat)
              go_roundg k1
              case measure => have := HK.out; omega
              case rel => exact ⟨_, _, _, HR9.out, ⟨by have he := HE.out; rw [if_neg (by decide)]; exact (Option.some.inj he).symm⟩, ⟨by have := HL.out; simp; omega⟩, ⟨by have := HK.out; omega⟩⟩
def frame_changes.f (a0 : ByteArray) : Option (List S62 × Bool) := if a0.size ≤ 8000000 then chF (a0.size + 2) a0 [] else none
theorem frame_changes.calls (a0 : ByteArray) (r1 : List S62) (r2 : Bool) (w : World) (h : frame_changes.f a0 = some (r1, r2)) :
    Calls Try.prog 47 #[.string a0] w fun e w' => ∃ v0_ : Value, e = .returned (.tuple #[v0_, .bool r2]) ∧ Kd.R k62 62 w' w.heap.size (fun _ => True) v0_ r1 ∧ Below w.heap.size w w' := by
  unfold frame_changes.f at h
  by_cases hs : a0.size ≤ 8000000
  · rw [if_pos hs] at h
    exact changes_walk a0 r1 r2 _ h (by omega) w
  · rw [if_neg hs] at h; cases h
end Go.Proofs.Ytcgbjkjacpeheaa.Given
