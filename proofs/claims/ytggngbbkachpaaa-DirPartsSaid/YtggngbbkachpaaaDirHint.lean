/- dir.Hint walked: the texts of the pairs, and their sum, by a strings.Builder. -/
import Derived.Test.YtggngbbkachpaaaProg
import Derived.Below
import Derived.Deep.Draws
import Derived.Deep.AppendLies
import Derived.Maps.AppendAt
import Derived.OwnWalk
import Derived.Laws.BytesArg
import Derived.Laws.MakeOwn
import Derived.Laws.OwnMore
import Derived.Deep.OwnRows
import Derived.Tactics
import Derived.Lib.ConvBytes
import Derived.Laws.Slices
import Derived.WalkKit
import Derived.KernelRfl
import Derived.RowKit3
import Derived.Deep.LoopGhost
import Derived.Deep.QuietTactic
import Derived.BigQuiet
import Derived.WideLaws
import Derived.Deep.DeepCutAuto
import Derived.Deep.CutBlock
import Derived.Deep.RegionHeld3
import Derived.Laws.Rows
import Derived.Lib.AppendStr
import Derived.ArgAppend
import Derived.Laws.IdiomCopy
import Derived.OrdersHeld
import Derived.Laws.BitsLemmas
import Derived.RowKit
import Derived.Test.YtggngbbkachpaaaWWords
import Derived.Test.YtggngbbkachpaaaWLast
import Derived.Test.YtggngbbkachpaaaWTab
import Derived.Test.YtggngbbkachpaaaWFour
import Derived.Test.YtggngbbkachpaaaWQPut
import Derived.Test.YtggngbbkachpaaaWApart
import Derived.Test.YtggngbbkachpaaaWArr
import Derived.Test.YtggngbbkachpaaaWZeros
import Derived.Test.YtggngbbkachpaaaWFoot
import Derived.Test.YtggngbbkachpaaaWKept
import Derived.Test.YtggngbbkachpaaaWShare
import Derived.Test.YtggngbbkachpaaaWN
import Derived.Test.YtggngbbkachpaaaWFootNe
import Derived.Test.YtggngbbkachpaaaWAt
import Derived.Test.YtggngbbkachpaaaWEqStruct
import Derived.Test.YtggngbbkachpaaaWRepsOne
import Derived.Test.YtggngbbkachpaaaWInv
import Derived.Test.YtggngbbkachpaaaWInvWords
import Derived.Test.YtggngbbkachpaaaWGuard
import Derived.Test.YtggngbbkachpaaaWNEv
import Derived.Test.YtggngbbkachpaaaWMore
import Derived.StillTailTactics
import Derived.Laws.BitsAllLaws
import Derived.Outline
import Derived.Lib.OthersKept
import Derived.Test.YtggngbbkachpaaaBs
import Derived.Deep.RegionLaw
import Derived.Lib.AppendZerosOnto
import Derived.Lib.Overlaps
import Derived.Laws.IdiomCopy
import Derived.Laws.Externs
import Derived.Deep.AppendSrc
import Derived.Lib.SliceRun
import Derived.Lib.Hide
import Derived.Lib.OthersKept
import Derived.Test.YtggngbbkachpaaaShelfD
import Derived.Test.YtggngbbkachpaaaBs
import Derived.Test.YtggngbbkachpaaaPDix9
import Derived.Test.YtggngbbkachpaaaPDix6
import Derived.Test.YtggngbbkachpaaaPDix8
namespace Go.Proofs.Ytggngbbkachpaaa.Given
open Go.RowKit Go.Proofs Go.Proofs.Ytggngbbkachpaaa.Bs Go.Proofs.Ytggngbbkachpaaa.PDi Go.Proofs.YtggngbbkachpaaaW.PrintWords Go.Proofs.YtggngbbkachpaaaW.PrintLast Go.Proofs.YtggngbbkachpaaaW.PrintMore
set_option linter.unusedVariables false
set_option linter.unusedSimpArgs false
theorem hbc_append (l m : List UInt8) : Lib.byteCells (l ++ m) = Lib.byteCells l ++ Lib.byteCells m := by simp [Lib.byteCells]
theorem hbc_length (l : List UInt8) : (Lib.byteCells l).length = l.length := by simp [Lib.byteCells]
theorem hsc_bs (l : List UInt8) : Lib.strCells (bs l) = Lib.byteCells l := by simp [Lib.strCells, Lib.byteCells, bs_data]
theorem hbuilder_below {T e : TypeId} {B b : Nat} {xs : List Value} {w w1 : World} (h : Lib.IsBuilderF T e B b xs w) (hb : Below w.heap.size w w1) : Lib.IsBuilderF T e B b xs w1 := by
  have hk : ∀ k (x : Obj), w.heap[k]? = some x → w1.heap[k]? = some x := fun k x hx => (hb.block k (blk_lt hx)).trans hx
  have hp : ∀ p, Lib.BuilderAtF T e B b p xs w → Lib.BuilderAtF T e B b p xs w1 := by
    rintro p ⟨hB, v, hv, ⟨hl, ho⟩, hne⟩
    refine ⟨hB, v, hk _ _ hv, ⟨hl, ?_⟩, hne⟩
    rcases ho with ho | ⟨g, cap, cur, fz, rfl, hg, hh, r⟩
    · exact .inl ho
    · exact .inr ⟨g, cap, cur, fz, rfl, hg, hk _ _ hh, r⟩
  exact h.imp (hp _) (hp _)
theorem hbuilder_new {T e : TypeId} {b : Nat} {w : World} (h : w.heap[b]? = some (.cells #[.pointer none, .slice none 0 0] T (0, 0))) : Lib.IsBuilderF T e b b (Lib.byteCells []) w :=
  .inl ⟨Nat.le_refl _, _, h, ⟨rfl, .inl ⟨rfl, rfl⟩⟩, by simp [Value.ownBlock]⟩
/-- The pairs' bytes; tx: a text's bytes. -/
def hintB (tx : ByteArray → List UInt8) (l : List S75) : List UInt8 := l.flatMap fun p => tx p.f0 ++ tx p.f1
def hintH (tx : ByteArray → List UInt8) (l : List S75) : List UInt8 := [72, 73, 78, 84] ++ hintB tx l
theorem hintH_take (tx : ByteArray → List UInt8) (l : List S75) (x : Nat) (h : x < l.length) : hintH tx (l.take (x + 1)) = hintH tx (l.take x) ++ (tx (rd_T75 l (x : Int)).f0 ++ tx (rd_T75 l (x : Int)).f1) := by
  have er : rd_T75 l (x : Int) = l[x] := by unfold rd_T75; rw [Int.toNat_natCast, List.getD_eq_getElem?_getD, List.getElem?_eq_getElem h]; rfl
  unfold hintH hintB
  rw [er, List.take_succ_eq_append_getElem h, List.flatMap_append]
  simp
theorem hintB_len (tx : ByteArray → List UInt8) (l : List S75) (h : ∀ p ∈ l, (tx p.f0).length ≤ 65540 ∧ (tx p.f1).length ≤ 65540) : (hintB tx l).length ≤ 131080 * l.length := by
  induction l with
  | nil => simp [hintB]
  | cons c l ih =>
    have h1 := ih (fun c hc => h c (List.mem_cons_of_mem _ hc))
    have h2 := h c List.mem_cons_self
    have h4 : hintB tx (c :: l) = (tx c.f0 ++ tx c.f1) ++ hintB tx l := rfl
    rw [h4, List.length_append, List.length_append, List.length_cons]; omega
theorem hrd_mem (l : List S75) (x : Nat) (h1 : x < l.length) : rd_T75 l (x : Int) ∈ l := by
  have er : rd_T75 l (x : Int) = l[x] := by unfold rd_T75; rw [Int.toNat_natCast, List.getD_eq_getElem?_getD, List.getElem?_eq_getElem h1]; rfl
  rw [er]; exact List.getElem_mem h1
def hintP (tx : ByteArray → List UInt8) (p0 p1 : ByteArray) : Nat → List UInt8
  | 0 => []
  | 1 => tx p0
  | _ => tx p0 ++ tx p1
set_option maxHeartbeats 1000000 in
theorem hint_no (A : Option Addr) (c : Nat) (l : List S75) (w : World) (hr : Kd.C k75 w A l.length l) (hc : l.length ≤ c) (K : Nat) (hM : dir_May.f K l = some false) :
    Calls Try.prog 28 #[.slice A l.length c] w fun e w' => e = .returned (.tuple #[.string ⟨#[]⟩, .int .i64 1]) ∧ Below w.heap.size w w' := by
  have HM := Aside0.mk hM
  have HR := Aside0.mk hr
  have HC := Aside0.mk hc
  clear hM hr hc
  go_enter Try.func28, Try.ntmps28
  go_wp2_with (go_at_call 23; refine (dir_May.calls K A c l false _ HR.out HC.out HM.out).mono ?_; rintro e w' ⟨rfl, hb⟩; have HB := Aside0.mk hb; clear hb)
  go_ret2
  exact ⟨rfl, HB.out⟩
set_option maxHeartbeats 4000000 in
set_option maxRecDepth 100000 in
theorem hint_walk (A : Option Addr) (c : Nat) (l : List S75) (w : World) (hr : Kd.C k75 w A l.length l) (hc : l.length ≤ c) (K : Nat) (hM : dir_May.f K l = some true) (hl : l.length ≤ 100000) (tx : ByteArray → List UInt8)
    (htx : ∀ p ∈ l, (∃ e, wire_Text.f K p.f0 = some (bs (tx p.f0), e)) ∧ (∃ e, wire_Text.f K p.f1 = some (bs (tx p.f1), e)) ∧ (tx p.f0).length ≤ 65540 ∧ (tx p.f1).length ≤ 65540)
    (C : Int) (hC : crc_Sum.f (bs (hintH tx l)) = some C) (Z : ByteArray) (ze : Int) (hZ : wire_Put.f K (wrap64 C) 4 = some (Z, ze)) (hZs : Z.size ≤ 10) :
    Calls Try.prog 28 #[.slice A l.length c] w fun e w' => e = .returned (.tuple #[.string (bs (hintH tx l) ++ Z), .int .i64 0]) ∧ Below w.heap.size w w' := by
  have HB := Aside0.mk (Below.refl w.heap.size w)
  have hu := Try.underlying75
  obtain ⟨BD, hBD⟩ : ∃ BD, BD = hintH tx l := ⟨_, rfl⟩
  rw [← hBD] at hC
  rw [← hBD]
  have hBl : BD.length ≤ 13108100000 := by have := hintB_len tx l (fun c hc => (htx c hc).2.2); rw [hBD]; unfold hintH; rw [List.length_append]; simp; omega
  have HBD := Aside0.mk hBD
  have HC := Aside0.mk hC
  have HZ := Aside0.mk hZ
  have HT := Aside0.mk htx
  have HM := Aside0.mk hM
  have HR := Aside0.mk hr
  have HC0 := Aside0.mk hc
  have HS := Aside0.mk hZs
  clear hBD hC hZ htx hM hr hc hZs
  go_enter Try.func28, Try.ntmps28
  go_wp2_with (first | (go_at_call 23; refine (dir_May.calls K A c l true _ HR.out HC0.out HM.out).mono ?_; rintro e w1 ⟨rfl, hb⟩; have n0_ := Aside0.mk (below_step HB.out hb); clear HB; have HB := n0_; clear n0_ hb) | ((with_reducible refine gate_dst (N := 4) rfl ?_); refine box_event ?hg (N := 4) ?hd (cs := #[.pointer none, .slice none 0 0]) (t := 91) ?hr ?_; (case hd => rfl); (case hg => rfl); (case hr => first | (go_simp; done) | (go_simp; rfl)); intro b hg w2 hbox hb; have GB := Aside0.mk ((by rw [hg]; exact (below_size HB.out)) : w.heap.size ≤ b); have SZ := Aside0.mk ((by exact blk_lt hbox) : b < w2.heap.size); have HU := Aside0.mk (hbuilder_new (e := 5) hbox); have n1_ := Aside0.mk (below_step HB.out hb); clear HB; have HB := n1_; clear n1_ hb hbox hg) | (go_at_call 55; refine (Try.Builder_WriteString_k b b _ _ _ HU.out (by show 0 + 4 ≤ 140737488355328; omega) (Nat.le_of_lt SZ.out)).mono ?_; rintro e w3 ⟨rfl, h1, h2, h3⟩; have HU3 := Aside0.mk (Or.inr h1 : Lib.IsBuilderF 91 5 b b _ w3); have K3 := Aside0.mk h2; clear h1 h2 h3 HU))
  have K0 := Aside0.mk (HB.out.trans (K3.out.mono GB.out))
  go_loopw [19] (fun v19 wr => ∃ x : Nat, v19 = .int .i64 (x : Int) ∧ Aside0 (x ≤ l.length) ∧ Aside0 (Lib.IsBuilderF 91 5 b b (Lib.byteCells (hintH tx (l.take x))) wr) ∧ Aside0 (Below b w3 wr)) (fun v19 _ => l.length - (intOf v19).toNat)
  case atStart => exact ⟨0, rfl, ⟨Nat.zero_le _⟩, ⟨by have h := HU3.out; exact h⟩, ⟨Below.refl _ _⟩⟩
  case round =>
    obtain ⟨x, rfl, HX, HUr, HK⟩ := hrel
    have HBr := Aside0.mk (K0.out.trans (HK.out.mono GB.out))
    have SZr := Aside0.mk (Nat.lt_of_lt_of_le (Nat.lt_of_lt_of_le SZ.out K3.out.size) HK.out.size)
    clear HU3
    by_cases hlt : x < l.length
    · obtain ⟨⟨e1, t1⟩, ⟨e2, t2⟩, t3, t4⟩ := HT.out _ (hrd_mem l x hlt)
      have hn := hintH_take tx l x hlt
      have hL : (hintH tx (l.take x)).length ≤ 13108100000 := by
        have := hintB_len tx (l.take x) (fun c hc => (HT.out c (List.mem_of_mem_take hc)).2.2)
        unfold hintH
        rw [List.length_append]
        rw [List.length_take] at this
        simp
        omega
      have x0 : (0 : Int) ≤ (x : Int) := by omega
      have x1 : (x : Int) < (l.length : Int) := by omega
      obtain ⟨ad, e9, hx0, hx1⟩ := at_T75 (Kd.C_below HR.out HBr.out) (x : Int) x0 x1
      cases e9
      simp only [Int.toNat_natCast] at hx0 hx1
      obtain ⟨p0, hp0⟩ : ∃ p0, p0 = (rd_T75 l (x : Int)).f0 := ⟨_, rfl⟩
      obtain ⟨p1, hp1⟩ : ∃ p1, p1 = (rd_T75 l (x : Int)).f1 := ⟨_, rfl⟩
      rw [← hp0] at t1 t3 hn hx0
      rw [← hp1] at t2 t4 hn hx1
      have T1 := Aside0.mk t1
      have T2 := Aside0.mk t2
      have HN := Aside0.mk hn
      obtain ⟨base, hbase⟩ : ∃ base, base = hintH tx (l.take x) := ⟨_, rfl⟩
      rw [← hbase] at hL HUr HN
      have T3 := Aside0.mk (And.intro t3 (And.intro t4 hL))
      have HLT := Aside0.mk hlt
      have y2 : decide ((x : Int) < (l.length : Int)) = true := decide_eq_true x1
      have y3 : decide (x < l.length) = true := decide_eq_true hlt
      have hx6 : x ≤ 100000 := by omega
      clear hn t1 t2 t3 t4 hp0 hp1 hbase hL hlt HX
      go_upto_region 8 with ((with_reducible refine gate_dst (N := 6) rfl ?_); refine box_event ?hg (N := 6) ?hd (cs := #[.string (⟨#[]⟩ : ByteArray), .string (⟨#[]⟩ : ByteArray)]) (t := 75) ?hr ?_; (case hd => rfl); (case hg => rfl); (case hr => first | (go_simp; done) | (go_simp; rfl)); intro cb hg w5 hbox hb; have HW5 := Aside0.mk hb; have CB := Aside0.mk hbox; have GC := Aside0.mk (Nat.le_of_eq hg.symm : wr.heap.size ≤ cb); clear hb hbox hg; have hw0 : w5.cell? ⟨cb, 0, none⟩ = some (.string (⟨#[]⟩ : ByteArray)) := (blk_cell CB.out 0).trans rfl; have hw1 : w5.cell? ⟨cb, 1, none⟩ = some (.string (⟨#[]⟩ : ByteArray)) := (blk_cell CB.out 1).trans rfl; have fw0 := blk_frozen CB.out 0; have fw1 := blk_frozen CB.out 1)
      (try simp only [Act.put, List.setIfInBounds_toArray, List.set_cons_zero, List.set_cons_succ])
      have m0_ : Aside0 (Below wr.heap.size wr (World.setCell (World.setCell w5 ⟨cb, 0, none⟩ (.string p0)) ⟨cb, 1, none⟩ (.string p1))) := ⟨by refine below_set (below_set HW5.out GC.out) GC.out⟩
      have m1_ : Aside0 ((World.setCell (World.setCell w5 ⟨cb, 0, none⟩ (.string p0)) ⟨cb, 1, none⟩ (.string p1)).heap[cb]? = some (.cells #[.string p0, .string p1] 75 (0, 0))) := ⟨by refine blk_put (cs := #[.string p0, .string (⟨#[]⟩ : ByteArray)]) ?_ 1 _ rfl; refine blk_put (cs := #[.string (⟨#[]⟩ : ByteArray), .string (⟨#[]⟩ : ByteArray)]) ?_ 0 _ rfl; exact CB.out⟩
      generalize (World.setCell (World.setCell w5 ⟨cb, 0, none⟩ (.string p0)) ⟨cb, 1, none⟩ (.string p1)) = w6 at m0_ m1_ ⊢
      have HU5 := Aside0.mk (hbuilder_below HUr.out m0_.out)
      have K5 := Aside0.mk (HK.out.trans (m0_.out.mono (Nat.le_of_lt SZr.out)))
      have S5 := Aside0.mk (Nat.lt_of_lt_of_le SZr.out m0_.out.size)
      clear CB HW5 hw0 hw1 fw0 fw1 hx0 hx1 m0_ HUr HK GC SZr
      have hz0 : w6.cell? ⟨cb, 0, none⟩ = some (.string p0) := (blk_cell m1_.out 0).trans rfl
      have hz1 : w6.cell? ⟨cb, 1, none⟩ = some (.string p1) := (blk_cell m1_.out 1).trans rfl
      go_wp2
      have SBn := Aside0.mk (blk_new w6 (.cells #[.string p0, .string p1] 9))
      have HUn := Aside0.mk (hbuilder_below HU5.out ((Below.refl _ w6).alloc (Nat.le_refl _) (.cells #[.string p0, .string p1] 9)))
      have Kn := Aside0.mk (K5.out.trans (((Below.refl _ w6).alloc (Nat.le_refl _) (.cells #[.string p0, .string p1] 9)).mono (Nat.le_of_lt S5.out)))
      have Sn : Aside0 (b < (w6.alloc (.cells #[.string p0, .string p1] 9)).heap.size) := ⟨by have := S5.out; simp; omega⟩
      go_loopw [29] (fun v29 wq => ∃ (m : Int) (n : Nat), v29 = .int .i64 m ∧ Aside0 (m = (n : Int) ∧ n ≤ 2) ∧ Aside0 (Lib.IsBuilderF 91 5 b b (Lib.byteCells (base ++ hintP tx p0 p1 n)) wq) ∧ Aside0 (wq.heap[w6.heap.size]? = some (.cells #[.string p0, .string p1] 9 (0, 0))) ∧ Aside0 (Below b w3 wq) ∧ Aside0 (b < wq.heap.size)) (fun v29 _ => 2 - (intOf v29).toNat)
      case atStart => exact ⟨0, 0, rfl, ⟨rfl, by omega⟩, ⟨by have h := HUn.out; simp only [hintP, List.append_nil]; exact h⟩, SBn, Kn, Sn⟩
      case round =>
        obtain ⟨m, n, rfl, HM2, HU6, SB6, K6, S6⟩ := hrel
        clear SBn HUn Kn Sn HU5 K5 hz0 hz1
        have hm := HM2.out
        obtain rfl | rfl | rfl : n = 0 ∨ n = 1 ∨ n = 2 := by omega
        · obtain rfl : m = 0 := hm.1
          clear hm HM2
          have hz0 := (blk_cell SB6.out 0).trans (show _ = some (Value.string p0) from rfl)
          have hz1 := (blk_cell SB6.out 1).trans (show _ = some (Value.string p1) from rfl)
          go_wp2_with (first | (go_at_call 56; refine (wire_Text.calls K p0 _ e1 _ T1.out).mono ?_; rintro e w7 ⟨rfl, hb⟩; have HU7 := Aside0.mk (hbuilder_below HU6.out hb); have CB7 := Aside0.mk (blk_below SB6.out hb); have K7 := Aside0.mk (K6.out.trans (hb.mono (Nat.le_of_lt S6.out))); have S7 := Aside0.mk (Nat.lt_of_lt_of_le S6.out hb.size); clear hb HU6 SB6 K6 S6 hz0 hz1) | (go_at_call 55; refine (Try.Builder_WriteString_k b b _ _ _ HU7.out (by rw [hbc_length, bs_size]; have := T3.out; simp only [List.length_append, hintP, List.length_nil]; omega) (Nat.le_of_lt S7.out)).mono ?_; rintro e w8 ⟨rfl, h1, h2, h3⟩; have HU8 := Aside0.mk (Or.inr h1 : Lib.IsBuilderF 91 5 b b _ w8); have SB8 := Aside0.mk (h3 w6.heap.size _ CB7.out (by have := S5.out; simp; omega) (by intro a b hc; cases hc)); have K8 := Aside0.mk (K7.out.trans h2); have S8 := Aside0.mk (Nat.lt_of_lt_of_le S7.out h2.size); clear h1 h2 h3 HU7 CB7 K7 S7))
          go_roundw
          case rel => exact ⟨1, 1, rfl, ⟨rfl, by omega⟩, ⟨by have h := HU8.out; rw [hsc_bs, ← hbc_append] at h; simp only [hintP, List.append_nil] at h ⊢; exact h⟩, SB8, K8, S8⟩
          case measure => simp [intOf]
        · obtain rfl : m = 1 := hm.1
          clear hm HM2
          have hz0 := (blk_cell SB6.out 0).trans (show _ = some (Value.string p0) from rfl)
          have hz1 := (blk_cell SB6.out 1).trans (show _ = some (Value.string p1) from rfl)
          go_wp2_with (first | (go_at_call 56; refine (wire_Text.calls K p1 _ e2 _ T2.out).mono ?_; rintro e w7 ⟨rfl, hb⟩; have HU7 := Aside0.mk (hbuilder_below HU6.out hb); have CB7 := Aside0.mk (blk_below SB6.out hb); have K7 := Aside0.mk (K6.out.trans (hb.mono (Nat.le_of_lt S6.out))); have S7 := Aside0.mk (Nat.lt_of_lt_of_le S6.out hb.size); clear hb HU6 SB6 K6 S6 hz0 hz1) | (go_at_call 55; refine (Try.Builder_WriteString_k b b _ _ _ HU7.out (by rw [hbc_length, bs_size]; have := T3.out; simp only [List.length_append, hintP, List.length_nil]; omega) (Nat.le_of_lt S7.out)).mono ?_; rintro e w8 ⟨rfl, h1, h2, h3⟩; have HU8 := Aside0.mk (Or.inr h1 : Lib.IsBuilderF 91 5 b b _ w8); have SB8 := Aside0.mk (h3 w6.heap.size _ CB7.out (by have := S5.out; simp; omega) (by intro a b hc; cases hc)); have K8 := Aside0.mk (K7.out.trans h2); have S8 := Aside0.mk (Nat.lt_of_lt_of_le S7.out h2.size); clear h1 h2 h3 HU7 CB7 K7 S7))
          go_roundw
          case rel => exact ⟨2, 2, rfl, ⟨rfl, by omega⟩, ⟨by have h := HU8.out; rw [hsc_bs, ← hbc_append, List.append_assoc] at h; exact h⟩, SB8, K8, S8⟩
          case measure => simp [intOf]
        · obtain rfl : m = 2 := hm.1
          clear hm HM2
          go_wp2
          go_roundw
          case rel => exact ⟨x + 1, by go_num, ⟨HLT.out⟩, ⟨by rw [HN.out]; exact HU6.out⟩, K6⟩
          case measure => have := HLT.out; simp [intOf]; omega
    · obtain rfl : x = l.length := by have := HX.out; omega
      have hfull : hintH tx (l.take l.length) = BD := by rw [List.take_length, HBD.out]
      rw [hfull] at HUr
      clear hfull
      have y2 : decide ((l.length : Int) < (l.length : Int)) = false := decide_eq_false (by omega)
      have HK0 := Aside0.mk (K0.out.trans (HK.out.mono GB.out))
      have s4 : (9223372036854775807 < BD.length + Z.size) = False := eq_false (by have := HS.out; omega)
      go_wp2_with (first | (go_at_call 59; refine (Try.Builder_String_any_k b b BD _ HUr.out (Nat.le_of_lt SZr.out)).mono ?_; rintro e w7 ⟨rfl, hu7, h2, _⟩; have HU7 := Aside0.mk hu7; have K7 := Aside0.mk (HK.out.trans h2); have S7 := Aside0.mk (Nat.lt_of_lt_of_le SZr.out h2.size); clear h2 hu7 HUr HK SZr) | (go_at_call 58; refine (crc_Sum.calls _ C _ HC.out).mono ?_; rintro e w8 ⟨rfl, hb⟩; have HU8 := Aside0.mk (hbuilder_below HU7.out hb); have K8 := Aside0.mk (K7.out.trans (hb.mono (Nat.le_of_lt S7.out))); have S8 := Aside0.mk (Nat.lt_of_lt_of_le S7.out hb.size); clear hb HU7 K7 S7 HC) | (go_at_call 57; refine (wire_Put.calls K _ 4 Z ze _ HZ.out).mono ?_; rintro e w9 ⟨rfl, hb⟩; have HUr := Aside0.mk (hbuilder_below HU8.out hb); have HK := Aside0.mk (K8.out.trans (hb.mono (Nat.le_of_lt S8.out))); have SZr := Aside0.mk (Nat.lt_of_lt_of_le S8.out hb.size); clear hb HU8 K8 S8 HZ))
      go_ret2
      exact ⟨rfl, K0.out.trans (K7.out.mono GB.out)⟩
/-- A text's bytes, as the program writes them. -/
def htxK (K : Nat) (a : ByteArray) : List UInt8 := match wire_Text.f K a with | some (t, _) => t.data.toList | none => []
theorem htxK_some {K : Nat} {a : ByteArray} (h : (wire_Text.f K a).isSome = true) : ∃ e, wire_Text.f K a = some (bs (htxK K a), e) := by
  obtain ⟨⟨t, e⟩, ht⟩ := Option.isSome_iff_exists.1 h
  refine ⟨e, ?_⟩
  unfold htxK
  rw [ht]
  simp only []
  rw [← bs_of]
def hokP (K : Nat) (p : S75) : Bool := (wire_Text.f K p.f0).isSome && (wire_Text.f K p.f1).isSome && decide ((htxK K p.f0).length ≤ 65540) && decide ((htxK K p.f1).length ≤ 65540)
def hintF (K : Nat) (l : List S75) : Option (ByteArray × Int) :=
  (dir_May.f K l).bind fun m => if m = true then
      (if l.length ≤ 100000 ∧ l.all (hokP K) = true then (crc_Sum.f (bs (hintH (htxK K) l))).bind fun c => (wire_Put.f K (wrap64 c) 4).bind fun z => if z.1.size ≤ 10 then some (bs (hintH (htxK K) l) ++ z.1, 0) else none else none)
    else some (⟨#[]⟩, 1)
theorem hintF_calls (K : Nat) (A0 : Option Addr) (c0 : Nat) (l0 : List S75) (r1 : ByteArray) (r2 : Int) (w : World) (hr0 : Kd.C k75 w A0 l0.length l0) (hc0 : l0.length ≤ c0) (h : hintF K l0 = some (r1, r2)) :
    Calls Try.prog 28 #[.slice A0 l0.length c0] w fun e w' => e = .returned (.tuple #[.string r1, .int .i64 r2]) ∧ Below w.heap.size w w' := by
  unfold hintF at h
  obtain ⟨m, hm, h⟩ := Option.bind_eq_some_iff.mp h
  cases m with
  | true =>
    rw [if_pos rfl] at h
    by_cases h2 : l0.length ≤ 100000 ∧ l0.all (hokP K) = true
    · rw [if_pos h2] at h
      obtain ⟨C, hC, h⟩ := Option.bind_eq_some_iff.mp h
      obtain ⟨⟨Z, ze⟩, hZ, h⟩ := Option.bind_eq_some_iff.mp h
      simp only [] at h
      by_cases h3 : Z.size ≤ 10
      · rw [if_pos h3] at h
        simp only [Option.some.injEq, Prod.mk.injEq] at h
        obtain ⟨rfl, rfl⟩ := h
        refine hint_walk A0 c0 l0 w hr0 hc0 K hm h2.1 (htxK K) ?_ C hC Z ze hZ h3
        intro c hc
        have := List.all_eq_true.1 h2.2 c hc
        unfold hokP at this
        simp only [Bool.and_eq_true, decide_eq_true_eq] at this
        exact ⟨htxK_some this.1.1.1, htxK_some this.1.1.2, this.1.2, this.2⟩
      · rw [if_neg h3] at h; cases h
    · rw [if_neg h2] at h; cases h
  | false =>
    rw [if_neg (by decide)] at h
    simp only [Option.some.injEq, Prod.mk.injEq] at h
    obtain ⟨rfl, rfl⟩ := h
    exact hint_no A0 c0 l0 w hr0 hc0 K hm
def dir_Hint.f (l0 : List S75) : Option (ByteArray × Int) := hintF 2000 l0
theorem dir_Hint.calls (A0 : Option Addr) (c0 : Nat) (l0 : List S75) (r1 : ByteArray) (r2 : Int) (w : World) (hr0 : Kd.C k75 w A0 l0.length l0) (hc0 : l0.length ≤ c0) (h : dir_Hint.f l0 = some (r1, r2)) :
    Calls Try.prog 28 #[.slice A0 l0.length c0] w fun e w' => e = .returned (.tuple #[.string r1, .int .i64 r2]) ∧ Below w.heap.size w w' := hintF_calls 2000 A0 c0 l0 r1 r2 w hr0 hc0 h
end Go.Proofs.Ytggngbbkachpaaa.Given
