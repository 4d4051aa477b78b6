/- frame.Write walked: the checks' faults, a number's fault, or the record, whose changes a strings.Builder takes one by one. -/
import Derived.Test.YtcgbjkjacpeheaaProg
import Derived.Below
import Derived.Deep.Draws
import Derived.Deep.AppendLies
import Derived.Maps.AppendAt
import Derived.OwnWalk
import Derived.Laws.BytesArg
import Derived.Laws.MakeOwn
import Derived.Laws.OwnMore
import Derived.Deep.OwnRows
import Derived.Tactics
import Derived.Lib.ConvBytes
import Derived.Laws.Slices
import Derived.WalkKit
import Derived.KernelRfl
import Derived.RowKit3
import Derived.Deep.LoopGhost
import Derived.Deep.QuietTactic
import Derived.BigQuiet
import Derived.WideLaws
import Derived.Deep.DeepCutAuto
import Derived.Deep.CutBlock
import Derived.Deep.RegionHeld3
import Derived.Laws.Rows
import Derived.Lib.AppendStr
import Derived.ArgAppend
import Derived.Laws.IdiomCopy
import Derived.OrdersHeld
import Derived.Laws.BitsLemmas
import Derived.RowKit
import Derived.Test.YtcgbjkjacpeheaaWWords
import Derived.Test.YtcgbjkjacpeheaaWLast
import Derived.Test.YtcgbjkjacpeheaaWTab
import Derived.Test.YtcgbjkjacpeheaaWFour
import Derived.Test.YtcgbjkjacpeheaaWQPut
import Derived.Test.YtcgbjkjacpeheaaWApart
import Derived.Test.YtcgbjkjacpeheaaWArr
import Derived.Test.YtcgbjkjacpeheaaWZeros
import Derived.Test.YtcgbjkjacpeheaaWFoot
import Derived.Test.YtcgbjkjacpeheaaWKept
import Derived.Test.YtcgbjkjacpeheaaWShare
import Derived.Test.YtcgbjkjacpeheaaWN
import Derived.Test.YtcgbjkjacpeheaaWFootNe
import Derived.Test.YtcgbjkjacpeheaaWAt
import Derived.Test.YtcgbjkjacpeheaaWEqStruct
import Derived.Test.YtcgbjkjacpeheaaWRepsOne
import Derived.Test.YtcgbjkjacpeheaaWInv
import Derived.Test.YtcgbjkjacpeheaaWInvWords
import Derived.Test.YtcgbjkjacpeheaaWGuard
import Derived.Test.YtcgbjkjacpeheaaWNEv
import Derived.Test.YtcgbjkjacpeheaaWMore
import Derived.StillTailTactics
import Derived.Laws.BitsAllLaws
import Derived.Outline
import Derived.Lib.OthersKept
import Derived.Test.YtcgbjkjacpeheaaShelfF
import Derived.Test.YtcgbjkjacpeheaaBs
import Derived.Test.YtcgbjkjacpeheaaPFrx2
import Derived.Test.YtcgbjkjacpeheaaPFrx4
namespace Go.Proofs.Ytcgbjkjacpeheaa.Given
open Go.RowKit Go.Proofs Go.Proofs.Ytcgbjkjacpeheaa.Bs Go.Proofs.Ytcgbjkjacpeheaa.PFr Go.Proofs.YtcgbjkjacpeheaaW.PrintWords Go.Proofs.YtcgbjkjacpeheaaW.PrintLast Go.Proofs.YtcgbjkjacpeheaaW.PrintMore
set_option linter.unusedVariables false
set_option linter.unusedSimpArgs false
theorem bc_append (l m : List UInt8) : Lib.byteCells (l ++ m) = Lib.byteCells l ++ Lib.byteCells m := by simp [Lib.byteCells]
theorem bc_length (l : List UInt8) : (Lib.byteCells l).length = l.length := by simp [Lib.byteCells]
theorem sc_bs (l : List UInt8) : Lib.strCells (bs l) = Lib.byteCells l := by simp [Lib.strCells, Lib.byteCells, bs_data]
theorem builder_below {T e : TypeId} {B b : Nat} {xs : List Value} {w w1 : World} (h : Lib.IsBuilderF T e B b xs w) (hb : Below w.heap.size w w1) : Lib.IsBuilderF T e B b xs w1 := by
  have hk : ∀ k (x : Obj), w.heap[k]? = some x → w1.heap[k]? = some x := fun k x hx => (hb.block k (blk_lt hx)).trans hx
  have hp : ∀ p, Lib.BuilderAtF T e B b p xs w → Lib.BuilderAtF T e B b p xs w1 := by
    rintro p ⟨hB, v, hv, ⟨hl, ho⟩, hne⟩
    refine ⟨hB, v, hk _ _ hv, ⟨hl, ?_⟩, hne⟩
    rcases ho with ho | ⟨g, cap, cur, fz, rfl, hg, hh, r⟩
    · exact .inl ho
    · exact .inr ⟨g, cap, cur, fz, rfl, hg, hk _ _ hh, r⟩
  exact h.imp (hp _) (hp _)
theorem builder_new {T e : TypeId} {b : Nat} {w : World} (h : w.heap[b]? = some (.cells #[.pointer none, .slice none 0 0] T (0, 0))) : Lib.IsBuilderF T e b b (Lib.byteCells []) w :=
  .inl ⟨Nat.le_refl _, _, h, ⟨rfl, .inl ⟨rfl, rfl⟩⟩, by simp [Value.ownBlock]⟩
/-- A change's bytes; tx: a text's bytes. -/
def chB (tx : ByteArray → List UInt8) (c : S62) : List UInt8 := if c.f2 = true then 1 :: tx c.f0 else 0 :: (tx c.f0 ++ tx c.f1)
def chsB (tx : ByteArray → List UInt8) (l : List S62) : List UInt8 := l.flatMap (chB tx)
theorem chsB_len (tx : ByteArray → List UInt8) (l : List S62) (h : ∀ c ∈ l, (tx c.f0).length ≤ 65540 ∧ (tx c.f1).length ≤ 65540) : (chsB tx l).length ≤ 131081 * l.length := by
  induction l with
  | nil => simp [chsB]
  | cons c l ih =>
    have h1 := ih (fun c hc => h c (List.mem_cons_of_mem _ hc))
    have h2 := h c List.mem_cons_self
    have h3 : (chB tx c).length ≤ 131081 := by unfold chB; split <;> simp <;> omega
    have h4 : chsB tx (c :: l) = chB tx c ++ chsB tx l := rfl
    rw [h4, List.length_append, List.length_cons]; omega
theorem chsB_take (tx : ByteArray → List UInt8) (l : List S62) (i : Int) (h0 : 0 ≤ i) (h1 : i < l.length) : chsB tx (l.take (i + 1).toNat) = chsB tx (l.take i.toNat) ++ chB tx (rd_T62 l i) := by
  have hi : i.toNat < l.length := by omega
  have e : (i + 1).toNat = i.toNat + 1 := by omega
  have er : rd_T62 l i = l[i.toNat] := by unfold rd_T62; rw [List.getD_eq_getElem?_getD, List.getElem?_eq_getElem hi]; rfl
  rw [e, er]
  unfold chsB
  rw [List.take_succ_eq_append_getElem hi, List.flatMap_append]
  simp
theorem bc_one (A T : List UInt8) : Lib.byteCells (A ++ 1 :: T) = Lib.byteCells A ++ [.int .u8 1] ++ Lib.strCells (bs T) := by rw [sc_bs]; simp [Lib.byteCells]
theorem bc_two (A T U : List UInt8) : Lib.byteCells (A ++ 0 :: (T ++ U)) = Lib.byteCells A ++ [.int .u8 0] ++ Lib.strCells (bs T ++ bs U) := by rw [bs_append, sc_bs]; simp [Lib.byteCells]
theorem rd_mem (l : List S62) (i : Int) (h0 : 0 ≤ i) (h1 : i < l.length) : rd_T62 l i ∈ l := by
  have hi : i.toNat < l.length := by omega
  have er : rd_T62 l i = l[i.toNat] := by unfold rd_T62; rw [List.getD_eq_getElem?_getD, List.getElem?_eq_getElem hi]; rfl
  rw [er]; exact List.getElem_mem hi
set_option maxHeartbeats 1000000 in
theorem write_check (seq : Int) (A : Option Addr) (c : Nat) (l : List S62) (w : World) (hr : Kd.C k62 w A l.length l) (hc : l.length ≤ c) (K : Nat) (r : Int) (h : frame_Check.f K l = some r) (h0 : r ≠ 0) :
    Calls Try.prog 17 #[.agg #[.int .i64 seq, .slice A l.length c]] w fun e w' => e = .returned (.tuple #[.string ⟨#[]⟩, .int .i64 r]) ∧ Below w.heap.size w w' := by
  have HB := Aside0.mk (Below.refl w.heap.size w)
  have hu := Try.underlying30
  have b1 : (r != 0) = true := bne_iff_ne.mpr h0
  go_enter Try.func17, Try.ntmps17
  go_wp2_with (first | ((with_reducible refine gate_dst (N := 1) rfl ?_); refine box_event ?hg (N := 1) ?hd (cs := #[.int .i64 seq, .slice A l.length c]) (t := 30) ?hr ?_; (case hd => rfl); (case hg => rfl); (case hr => first | (go_simp; done) | (go_simp; rfl)); intro g hg w1 hbox hb; have n0_ := Aside0.mk (below_step HB.out hb); have BK := Aside0.mk hbox; have GE := Aside0.mk ((by rw [hg]; exact (below_size HB.out)) : w.heap.size ≤ g); clear HB; have HB := n0_; clear n0_ hb hbox hg; have hz0 : w1.cell? ⟨g, 0, none⟩ = some (.int .i64 seq) := (blk_cell BK.out 0).trans rfl; have hz1 : w1.cell? ⟨g, 1, none⟩ = some (.slice A l.length c) := (blk_cell BK.out 1).trans rfl) | (go_at_call 20; refine (frame_Check.calls K A c l r _ (Kd.C_below hr HB.out) hc h).mono ?_; rintro e w2 ⟨rfl, hb⟩; have n0_ := Aside0.mk (blk_below BK.out hb); have n1_ := Aside0.mk (below_step HB.out hb); clear BK HB; have BK := n0_; have HB := n1_; clear n0_ n1_ hb; clear hz0 hz1; have hz0 : w2.cell? ⟨g, 0, none⟩ = some (.int .i64 seq) := (blk_cell BK.out 0).trans rfl; have hz1 : w2.cell? ⟨g, 1, none⟩ = some (.slice A l.length c) := (blk_cell BK.out 1).trans rfl))
  go_ret2
  exact ⟨rfl, HB.out⟩
set_option maxHeartbeats 1000000 in
theorem write_seq (seq : Int) (A : Option Addr) (c : Nat) (l : List S62) (w : World) (hr : Kd.C k62 w A l.length l) (hc : l.length ≤ c) (K : Nat) (h : frame_Check.f K l = some 0) (P : ByteArray) (pe : Int) (hP : wire_Put.f K seq 4 = some (P, pe)) (h0 : pe ≠ 0) :
    Calls Try.prog 17 #[.agg #[.int .i64 seq, .slice A l.length c]] w fun e w' => e = .returned (.tuple #[.string ⟨#[]⟩, .int .i64 1]) ∧ Below w.heap.size w w' := by
  obtain ⟨r, hr0⟩ : ∃ r : Int, r = 0 := ⟨_, rfl⟩
  rw [← hr0] at h
  have b0 : (r != 0) = false := by rw [hr0]; rfl
  have b1 : (pe != 0) = true := bne_iff_ne.mpr h0
  have HB := Aside0.mk (Below.refl w.heap.size w)
  have hu := Try.underlying30
  go_enter Try.func17, Try.ntmps17
  go_wp2_with (first | ((with_reducible refine gate_dst (N := 1) rfl ?_); refine box_event ?hg (N := 1) ?hd (cs := #[.int .i64 seq, .slice A l.length c]) (t := 30) ?hr ?_; (case hd => rfl); (case hg => rfl); (case hr => first | (go_simp; done) | (go_simp; rfl)); intro g hg w1 hbox hb; have n0_ := Aside0.mk (below_step HB.out hb); have BK := Aside0.mk hbox; have GE := Aside0.mk ((by rw [hg]; exact (below_size HB.out)) : w.heap.size ≤ g); clear HB; have HB := n0_; clear n0_ hb hbox hg; have hz0 : w1.cell? ⟨g, 0, none⟩ = some (.int .i64 seq) := (blk_cell BK.out 0).trans rfl; have hz1 : w1.cell? ⟨g, 1, none⟩ = some (.slice A l.length c) := (blk_cell BK.out 1).trans rfl) | (go_at_call 20; refine (frame_Check.calls K A c l r _ (Kd.C_below hr HB.out) hc h).mono ?_; rintro e w2 ⟨rfl, hb⟩; have n0_ := Aside0.mk (blk_below BK.out hb); have n1_ := Aside0.mk (below_step HB.out hb); clear BK HB; have BK := n0_; have HB := n1_; clear n0_ n1_ hb; clear hz0 hz1; have hz0 : w2.cell? ⟨g, 0, none⟩ = some (.int .i64 seq) := (blk_cell BK.out 0).trans rfl; have hz1 : w2.cell? ⟨g, 1, none⟩ = some (.slice A l.length c) := (blk_cell BK.out 1).trans rfl) | (go_at_call 33; refine (wire_Put.calls K seq 4 P pe _ hP).mono ?_; rintro e w3 ⟨rfl, hb⟩; have n0_ := Aside0.mk (blk_below BK.out hb); have n1_ := Aside0.mk (below_step HB.out hb); clear BK HB; have BK := n0_; have HB := n1_; clear n0_ n1_ hb; clear hz0 hz1 hP; have hz0 : w3.cell? ⟨g, 0, none⟩ = some (.int .i64 seq) := (blk_cell BK.out 0).trans rfl; have hz1 : w3.cell? ⟨g, 1, none⟩ = some (.slice A l.length c) := (blk_cell BK.out 1).trans rfl))
  go_ret2
  exact ⟨rfl, HB.out⟩
def write15.T : Bool × List (List Nat × List Nat) := (true, [([], []), ([0], [0]), ([1], [1]), ([], []), ([3], [3]), ([4, 2], [4]), ([2, 5], [2, 5]), ([6, 5], [6])])
def write15.B : List Nat := [0, 1, 3, 0, 8, 31, 63, 127]
theorem write15.tab : rtab .any (opsOf Try.f17 15) = write15.T := by kernel_rfl
theorem write15.bits : waitsOk write15.T.2 write15.B = true := by kernel_rfl
set_option maxHeartbeats 2000000 in
set_option maxRecDepth 100000 in
theorem write_rec (seq : Int) (A : Option Addr) (c : Nat) (l : List S62) (w : World) (hr : Kd.C k62 w A l.length l) (hc : l.length ≤ c) (K : Nat) (h : frame_Check.f K l = some 0) (P : ByteArray) (hP : wire_Put.f K seq 4 = some (P, 0)) (hPs : P.size ≤ 10) (hl : l.length ≤ 100) (tx : ByteArray → List UInt8)
    (htx : ∀ c ∈ l, frame_text.f K c.f0 = some (bs (tx c.f0)) ∧ frame_text.f K c.f1 = some (bs (tx c.f1)) ∧ (tx c.f0).length ≤ 65540 ∧ (tx c.f1).length ≤ 65540)
    (Q : ByteArray) (qe : Int) (hQ : wire_Put.f K ((chsB tx l).length : Int) 4 = some (Q, qe)) (hQs : Q.size ≤ 10) (C : Int) (hC : crc_Sum.f (bs [71] ++ P ++ Q ++ bs (chsB tx l)) = some C) (Z : ByteArray) (ze : Int) (hZ : wire_Put.f K (wrap64 C) 4 = some (Z, ze)) (hZs : Z.size ≤ 10) :
    Calls Try.prog 17 #[.agg #[.int .i64 seq, .slice A l.length c]] w fun e w' => e = .returned (.tuple #[.string (bs [71] ++ P ++ Q ++ bs (chsB tx l) ++ Z), .int .i64 0]) ∧ Below w.heap.size w w' := by
  obtain ⟨r, hr0⟩ : ∃ r : Int, r = 0 := ⟨_, rfl⟩
  rw [← hr0] at h
  have b0 : (r != 0) = false := by rw [hr0]; rfl
  obtain ⟨pe, hp0⟩ : ∃ r : Int, r = 0 := ⟨_, rfl⟩
  rw [← hp0] at hP
  have b1 : (pe != 0) = false := by rw [hp0]; rfl
  have HB := Aside0.mk (Below.refl w.heap.size w)
  have hu := Try.underlying30
  have hu2 := Try.underlying62
  obtain ⟨BD, hBD⟩ : ∃ BD, BD = chsB tx l := ⟨_, rfl⟩
  rw [← hBD] at hQ hC
  rw [← hBD]
  have hBl : BD.length ≤ 13108100 := by have := chsB_len tx l (fun c hc => (htx c hc).2.2); rw [hBD]; omega
  have HBD := Aside0.mk hBD
  have HQ := Aside0.mk hQ
  have HC := Aside0.mk hC
  have HZ := Aside0.mk hZ
  have HT := Aside0.mk htx
  have HS := Aside0.mk (And.intro hPs (And.intro hQs hZs))
  clear hBD hQ hC hZ htx hPs hQs hZs
  go_enter Try.func17, Try.ntmps17
  go_wp2_with (first | ((with_reducible refine gate_dst (N := 1) rfl ?_); refine box_event ?hg (N := 1) ?hd (cs := #[.int .i64 seq, .slice A l.length c]) (t := 30) ?hr ?_; (case hd => rfl); (case hg => rfl); (case hr => first | (go_simp; done) | (go_simp; rfl)); intro g hg w1 hbox hb; have n0_ := Aside0.mk (below_step HB.out hb); have BK := Aside0.mk hbox; have GE := Aside0.mk ((by rw [hg]; exact (below_size HB.out)) : w.heap.size ≤ g); clear HB; have HB := n0_; clear n0_ hb hbox hg; have hz0 : w1.cell? ⟨g, 0, none⟩ = some (.int .i64 seq) := (blk_cell BK.out 0).trans rfl; have hz1 : w1.cell? ⟨g, 1, none⟩ = some (.slice A l.length c) := (blk_cell BK.out 1).trans rfl) | (go_at_call 20; refine (frame_Check.calls K A c l r _ (Kd.C_below hr HB.out) hc h).mono ?_; rintro e w2 ⟨rfl, hb⟩; have n0_ := Aside0.mk (blk_below BK.out hb); have n1_ := Aside0.mk (below_step HB.out hb); clear BK HB; have BK := n0_; have HB := n1_; clear n0_ n1_ hb; clear hz0 hz1; have hz0 : w2.cell? ⟨g, 0, none⟩ = some (.int .i64 seq) := (blk_cell BK.out 0).trans rfl; have hz1 : w2.cell? ⟨g, 1, none⟩ = some (.slice A l.length c) := (blk_cell BK.out 1).trans rfl) | (go_at_call 33; refine (wire_Put.calls K seq 4 P pe _ hP).mono ?_; rintro e w3 ⟨rfl, hb⟩; have n0_ := Aside0.mk (blk_below BK.out hb); have n1_ := Aside0.mk (below_step HB.out hb); clear BK HB; have BK := n0_; have HB := n1_; clear n0_ n1_ hb; clear hz0 hz1 hP; have hz0 : w3.cell? ⟨g, 0, none⟩ = some (.int .i64 seq) := (blk_cell BK.out 0).trans rfl; have hz1 : w3.cell? ⟨g, 1, none⟩ = some (.slice A l.length c) := (blk_cell BK.out 1).trans rfl) | ((with_reducible refine gate_dst (N := 7) rfl ?_); refine box_event ?hg (N := 7) ?hd (cs := #[.pointer none, .slice none 0 0]) (t := 66) ?hr ?_; (case hd => rfl); (case hg => rfl); (case hr => first | (go_simp; done) | (go_simp; rfl)); intro b hg w4 hbox hb; have GB := Aside0.mk ((by rw [hg]; exact (below_size HB.out)) : w.heap.size ≤ b); have LT := Aside0.mk ((by rw [hg]; exact blk_lt BK.out) : g < b); have SZ := Aside0.mk ((by exact blk_lt hbox) : b < w4.heap.size); have HU := Aside0.mk (builder_new (e := 5) hbox); have n0_ := Aside0.mk (blk_below BK.out hb); have n1_ := Aside0.mk (below_step HB.out hb); clear BK HB; have BK := n0_; have HB := n1_; clear n0_ n1_ hb; clear hbox hg hz0 hz1; have hz0 : w4.cell? ⟨g, 0, none⟩ = some (.int .i64 seq) := (blk_cell BK.out 0).trans rfl; have hz1 : w4.cell? ⟨g, 1, none⟩ = some (.slice A l.length c) := (blk_cell BK.out 1).trans rfl))
  have HR := Aside0.mk hr
  have HC0 := Aside0.mk hc
  clear hr hc hz0 hz1
  go_loopw [32] (fun v32 wr => ∃ x : Int, v32 = .int .i64 x ∧ 0 ≤ x ∧ x ≤ l.length ∧ Lib.IsBuilderF 66 5 b b (Lib.byteCells (chsB tx (l.take x.toNat))) wr ∧ Below b w4 wr) (fun v32 _ => l.length - (intOf v32).toNat)
  case atStart => exact ⟨0, rfl, by omega, by omega, HU.out, Below.refl _ _⟩
  case round =>
    obtain ⟨x, rfl, x0, xl, hU, hK⟩ := hrel
    have HR4 := Kd.C_below HR.out HB.out
    have HBr := Aside0.mk (HB.out.trans (hK.mono GB.out))
    have hCr := Aside0.mk (Kd.C_below HR.out HBr.out)
    have BKr := Aside0.mk ((hK.block g LT.out).trans BK.out)
    have SZr := Aside0.mk (Nat.lt_of_lt_of_le SZ.out hK.size)
    have HUr := Aside0.mk hU
    have HK := Aside0.mk hK
    clear hU hK HR4 HU
    by_cases hlt : x < (l.length : Int)
    · have hn := chsB_take tx l x x0 hlt
      obtain ⟨t1, t2, t3, t4⟩ := HT.out _ (rd_mem l x x0 hlt)
      have hL : (chsB tx (l.take x.toNat)).length ≤ 13108100 := by
        have := chsB_len tx (l.take x.toNat) (fun c hc => (HT.out c (List.mem_of_mem_take hc)).2.2)
        rw [List.length_take] at this; omega
      have HN := Aside0.mk hn
      have T1 := Aside0.mk t1
      have T2 := Aside0.mk t2
      have T3 := Aside0.mk (And.intro t3 (And.intro t4 hL))
      clear hn t1 t2 t3 t4 hL
      obtain ⟨ad, e1, hx0, hx1, hx2⟩ := at_T62 hCr.out x x0 hlt
      cases e1
      obtain ⟨p0, hp0⟩ : ∃ p0, p0 = (rd_T62 l x).f0 := ⟨_, rfl⟩
      obtain ⟨p1, hp1⟩ : ∃ p1, p1 = (rd_T62 l x).f1 := ⟨_, rfl⟩
      obtain ⟨q, hq⟩ : ∃ q, q = (rd_T62 l x).f2 := ⟨_, rfl⟩
      have hch : chB tx (rd_T62 l x) = if q = true then 1 :: tx p0 else 0 :: (tx p0 ++ tx p1) := by rw [hp0, hp1, hq]; rfl
      have HCH := Aside0.mk hch
      rw [← hp0] at hx0 T1 T3
      rw [← hp1] at hx1 T2 T3
      rw [← hq] at hx2
      clear hch hp0 hp1 hq
      have y0 := eq_true x0
      have y1 := eq_true hlt
      have y2 : decide (x < (l.length : Int)) = true := decide_eq_true hlt
      have y3 : decide (0 ≤ x) = true := decide_eq_true x0
      clear HB
      have HB := HBr
      have NX := Aside0.mk (And.intro x0 hlt)
      clear x0 hlt xl
      cases q with
      | true =>
        have HE := HCH.out
        simp only [if_true, Bool.false_eq_true, if_false] at HE
        go_upto_region 12 with ((with_reducible refine gate_dst (N := 9) rfl ?_); refine box_event ?hg (N := 9) ?hd (cs := #[.string (⟨#[]⟩ : ByteArray), .string (⟨#[]⟩ : ByteArray), .bool false]) (t := 62) ?hr ?_; (case hd => rfl); (case hg => rfl); (case hr => first | (go_simp; done) | (go_simp; rfl)); intro cb hg w5 hbox hb; have HW5 := Aside0.mk hb; have CB := Aside0.mk hbox; have GC := Aside0.mk (Nat.le_of_eq hg.symm : wr.heap.size ≤ cb); clear hb hbox hg; have hw0 : w5.cell? ⟨cb, 0, none⟩ = some (.string (⟨#[]⟩ : ByteArray)) := (blk_cell CB.out 0).trans rfl; have hw1 : w5.cell? ⟨cb, 1, none⟩ = some (.string (⟨#[]⟩ : ByteArray)) := (blk_cell CB.out 1).trans rfl; have hw2 : w5.cell? ⟨cb, 2, none⟩ = some (.bool false) := (blk_cell CB.out 2).trans rfl; have fw0 := blk_frozen CB.out 0; have fw1 := blk_frozen CB.out 1; have fw2 := blk_frozen CB.out 2)
        (try simp only [Act.put, List.setIfInBounds_toArray, List.set_cons_zero, List.set_cons_succ])
        have m0_ : Aside0 (Below wr.heap.size wr (World.setCell (World.setCell (World.setCell w5 ⟨cb, 0, none⟩ (.string p0)) ⟨cb, 1, none⟩ (.string p1)) ⟨cb, 2, none⟩ (.bool true))) := ⟨by refine below_set (below_set (below_set HW5.out GC.out) GC.out) GC.out⟩
        have m1_ : Aside0 ((World.setCell (World.setCell (World.setCell w5 ⟨cb, 0, none⟩ (.string p0)) ⟨cb, 1, none⟩ (.string p1)) ⟨cb, 2, none⟩ (.bool true)).heap[cb]? = some (.cells #[.string p0, .string p1, .bool true] 62 (0, 0))) := ⟨by refine blk_put (cs := #[.string p0, .string p1, .bool false]) ?_ 2 _ rfl; refine blk_put (cs := #[.string p0, .string (⟨#[]⟩ : ByteArray), .bool false]) ?_ 1 _ rfl; refine blk_put (cs := #[.string (⟨#[]⟩ : ByteArray), .string (⟨#[]⟩ : ByteArray), .bool false]) ?_ 0 _ rfl; exact CB.out⟩
        generalize (World.setCell (World.setCell (World.setCell w5 ⟨cb, 0, none⟩ (.string p0)) ⟨cb, 1, none⟩ (.string p1)) ⟨cb, 2, none⟩ (.bool true)) = w6 at m0_ m1_ ⊢
        clear CB HW5 hw0 hw1 hw2 fw0 fw1 fw2 hx0 hx1 hx2
        have CB := m1_
        have HU6 := Aside0.mk (builder_below HUr.out m0_.out)
        have K6 := Aside0.mk (m0_.out.mono (Nat.le_of_lt SZr.out))
        have S6 := Aside0.mk (Nat.lt_of_lt_of_le SZr.out m0_.out.size)
        have NE := Aside0.mk ((by have := SZr.out; have := GC.out; omega) : cb ≠ b)
        have BC := Aside0.mk ((by have := SZr.out; have := GC.out; omega) : b ≤ cb)
        clear m0_ m1_ HUr
        go_wp2_with (first | (go_at_call 34; refine (Try.Builder_WriteByte_k b b _ 1 _ HU6.out (by rw [bc_length]; have := T3.out.2.2; omega) (Nat.le_of_lt S6.out)).mono ?_; rintro e w7 ⟨rfl, h1, h2, h3⟩; have HU7 := Aside0.mk (Or.inr h1 : Lib.IsBuilderF 66 5 b b _ w7); have CB7 := Aside0.mk (h3 cb _ CB.out (by simpa using NE.out) (by intro a b hc; cases hc)); have K7 := Aside0.mk (K6.out.trans h2); have S7 := Aside0.mk (Nat.lt_of_lt_of_le S6.out h2.size); clear h1 h2 h3 HU6 CB K6 S6; have hz0 : w7.cell? ⟨cb, 0, none⟩ = some (.string p0) := (blk_cell CB7.out 0).trans rfl; have hz1 : w7.cell? ⟨cb, 1, none⟩ = some (.string p1) := (blk_cell CB7.out 1).trans rfl) | (go_at_call 36; refine (frame_text.calls K p0 _ _ T1.out).mono ?_; rintro e w8 ⟨rfl, hb⟩; have HU8 := Aside0.mk (builder_below HU7.out hb); have K8 := Aside0.mk (K7.out.trans (hb.mono (Nat.le_of_lt S7.out))); have S8 := Aside0.mk (Nat.lt_of_lt_of_le S7.out hb.size); clear hb HU7 K7 S7 T1) | (go_at_call 35; refine (Try.Builder_WriteString_k b b _ _ _ HU8.out (by simp only [List.length_append, bc_length, bs_size, List.length_cons, List.length_nil]; have := T3.out; omega) (Nat.le_of_lt S8.out)).mono ?_; rintro e w9 ⟨rfl, h1, h2, h3⟩; have HU9 := Aside0.mk (Or.inr h1 : Lib.IsBuilderF 66 5 b b _ w9); have K9 := Aside0.mk (K8.out.trans h2); clear h1 h2 h3 HU8 K8 S8))
        go_roundw
        case rel => exact ⟨x + 1, by have := NX.out; rw [wrap_id (by omega) (by omega)], by have := NX.out; omega, by have := NX.out; omega, by rw [HN.out, HE, bc_one]; exact HU9.out, HK.out.trans K9.out⟩
        case measure => have := NX.out; have hw : wrap64 (x + 1) = x + 1 := wrap_id (by omega) (by omega); simp only [intOf, hw]; omega
      | false =>
        have HE := HCH.out
        simp only [if_true, Bool.false_eq_true, if_false] at HE
        go_upto_region 14 with ((with_reducible refine gate_dst (N := 9) rfl ?_); refine box_event ?hg (N := 9) ?hd (cs := #[.string (⟨#[]⟩ : ByteArray), .string (⟨#[]⟩ : ByteArray), .bool false]) (t := 62) ?hr ?_; (case hd => rfl); (case hg => rfl); (case hr => first | (go_simp; done) | (go_simp; rfl)); intro cb hg w5 hbox hb; have HW5 := Aside0.mk hb; have CB := Aside0.mk hbox; have GC := Aside0.mk (Nat.le_of_eq hg.symm : wr.heap.size ≤ cb); clear hb hbox hg; have hw0 : w5.cell? ⟨cb, 0, none⟩ = some (.string (⟨#[]⟩ : ByteArray)) := (blk_cell CB.out 0).trans rfl; have hw1 : w5.cell? ⟨cb, 1, none⟩ = some (.string (⟨#[]⟩ : ByteArray)) := (blk_cell CB.out 1).trans rfl; have hw2 : w5.cell? ⟨cb, 2, none⟩ = some (.bool false) := (blk_cell CB.out 2).trans rfl; have fw0 := blk_frozen CB.out 0; have fw1 := blk_frozen CB.out 1; have fw2 := blk_frozen CB.out 2)
        (try simp only [Act.put, List.setIfInBounds_toArray, List.set_cons_zero, List.set_cons_succ])
        have m0_ : Aside0 (Below wr.heap.size wr (World.setCell (World.setCell (World.setCell w5 ⟨cb, 0, none⟩ (.string p0)) ⟨cb, 1, none⟩ (.string p1)) ⟨cb, 2, none⟩ (.bool false))) := ⟨by refine below_set (below_set (below_set HW5.out GC.out) GC.out) GC.out⟩
        have m1_ : Aside0 ((World.setCell (World.setCell (World.setCell w5 ⟨cb, 0, none⟩ (.string p0)) ⟨cb, 1, none⟩ (.string p1)) ⟨cb, 2, none⟩ (.bool false)).heap[cb]? = some (.cells #[.string p0, .string p1, .bool false] 62 (0, 0))) := ⟨by refine blk_put (cs := #[.string p0, .string p1, .bool false]) ?_ 2 _ rfl; refine blk_put (cs := #[.string p0, .string (⟨#[]⟩ : ByteArray), .bool false]) ?_ 1 _ rfl; refine blk_put (cs := #[.string (⟨#[]⟩ : ByteArray), .string (⟨#[]⟩ : ByteArray), .bool false]) ?_ 0 _ rfl; exact CB.out⟩
        generalize (World.setCell (World.setCell (World.setCell w5 ⟨cb, 0, none⟩ (.string p0)) ⟨cb, 1, none⟩ (.string p1)) ⟨cb, 2, none⟩ (.bool false)) = w6 at m0_ m1_ ⊢
        clear CB HW5 hw0 hw1 hw2 fw0 fw1 fw2 hx0 hx1 hx2
        have CB := m1_
        have HU6 := Aside0.mk (builder_below HUr.out m0_.out)
        have K6 := Aside0.mk (m0_.out.mono (Nat.le_of_lt SZr.out))
        have S6 := Aside0.mk (Nat.lt_of_lt_of_le SZr.out m0_.out.size)
        have NE := Aside0.mk ((by have := SZr.out; have := GC.out; omega) : cb ≠ b)
        have BC := Aside0.mk ((by have := SZr.out; have := GC.out; omega) : b ≤ cb)
        clear m0_ m1_ HUr
        go_upto_region 15 with (go_at_call 34; refine (Try.Builder_WriteByte_k b b _ 0 _ HU6.out (by rw [bc_length]; have := T3.out.2.2; omega) (Nat.le_of_lt S6.out)).mono ?_; rintro e w7 ⟨rfl, h1, h2, h3⟩; have HU7 := Aside0.mk (Or.inr h1 : Lib.IsBuilderF 66 5 b b _ w7); have CB7 := Aside0.mk (h3 cb _ CB.out (by simpa using NE.out) (by intro a b hc; cases hc)); have K7 := Aside0.mk (K6.out.trans h2); have S7 := Aside0.mk (Nat.lt_of_lt_of_le S6.out h2.size); clear h1 h2 h3 HU6 CB K6 S6; have hz0 : w7.cell? ⟨cb, 0, none⟩ = some (.string p0) := (blk_cell CB7.out 0).trans rfl; have hz1 : w7.cell? ⟨cb, 1, none⟩ = some (.string p1) := (blk_cell CB7.out 1).trans rfl)
        (try simp only [Act.put, List.setIfInBounds_toArray, List.set_cons_zero, List.set_cons_succ])
        clear hz0 hz1
        refine start_ (n := 8) (S := fun w' => w'.cell? ⟨cb, 0, none⟩ = some (.string p0) ∧ w'.cell? ⟨cb, 1, none⟩ = some (.string p1)) (ds := [7]) #[false, false, false, false, false, false, false, false] (by kernel_rfl) rfl rfl ⟨(blk_cell (blk_drew CB7.out) 0).trans rfl, (blk_cell (blk_drew CB7.out) 1).trans rfl⟩ (fun hHeld => ?_)
        refine with_tabW write15.tab write15.bits (fun HT_ HW_ => ?_)
        have CB8 := Aside0.mk (blk_drew CB7.out)
        have HU8 : Aside0 (Lib.IsBuilderF 66 5 b b _ w7.drew) := HU7
        have K8 := Aside0.mk (K7.out.trans (below_drew1 (Below.refl b w7)))
        have S8 : Aside0 (b < w7.drew.heap.size) := S7
        clear CB7 HU7 K7 S7
        generalize w7.drew = w8 at CB8 HU8 K8 S8 hHeld ⊢
        refine pure_ (i := 0) (N := some 44) (v := ?_) (a' := ?_) #[true, false, false, false, false, false, false, false] rfl rfl (any_of HT_.out (by kernel_rfl)) (fun _ _ _ h => h) (Or.inl ⟨by rfl, ?_⟩) ?_ ?_
        rotate_left
        · intro w'
          go_simp
          with_reducible rfl
        rotate_left
        · simp only [Act.put, List.setIfInBounds_toArray, List.set_cons_zero, List.set_cons_succ, i64_w, i32_w]
          rfl
        refine pure_ (i := 3) (N := some 47) (v := ?_) (a' := ?_) #[true, false, false, true, false, false, false, false] rfl rfl (any_of HT_.out (by kernel_rfl)) (fun _ _ _ h => h) (Or.inl ⟨by rfl, ?_⟩) ?_ ?_
        rotate_left
        · intro w'
          go_simp
          with_reducible rfl
        rotate_left
        · simp only [Act.put, List.setIfInBounds_toArray, List.set_cons_zero, List.set_cons_succ, i64_w, i32_w]
          rfl
        refine take_ (i := 1) (N := some 45) (v := ?_) (a' := ?_) #[true, true, false, true, false, false, false, false] rfl rfl (take_ofW HT_.out HW_.out (by kernel_rfl)) (fun _ _ _ h => h) (Or.inl ⟨by rfl, ?_⟩) hHeld ?_ ?_
        rotate_left
        · rintro w' ⟨s0, s1⟩
          go_simp
          with_reducible rfl
        rotate_left
        · simp only [Act.put, List.setIfInBounds_toArray, List.set_cons_zero, List.set_cons_succ, i64_w, i32_w]
          rfl
        refine take_ (i := 4) (N := some 48) (v := ?_) (a' := ?_) #[true, true, false, true, true, false, false, false] rfl rfl (take_ofW HT_.out HW_.out (by kernel_rfl)) (fun _ _ _ h => h) (Or.inl ⟨by rfl, ?_⟩) hHeld ?_ ?_
        rotate_left
        · rintro w' ⟨s0, s1⟩
          go_simp
          with_reducible rfl
        rotate_left
        · simp only [Act.put, List.setIfInBounds_toArray, List.set_cons_zero, List.set_cons_succ, i64_w, i32_w]
          rfl
        refine one_ (i := 2) (N := some 46) #[true, true, true, true, true, false, false, false] rfl rfl (one_of HT_.out (by kernel_rfl)) (by decide) (fun K hK => ?_)
        refine goes_ Try.func36 (by kernel_rfl) rfl #[.string p0] (by rfl) rfl rfl (by (try simp only [List.map_toArray, List.map_cons, List.map_nil]); first | done | rfl) ?_
        refine (frame_text.calls _ p0 _ _ T1.out).mono ?_
        rintro e w9 ⟨rfl, hb⟩
        refine ⟨_, rfl, ?_⟩
        have HU9 := Aside0.mk (builder_below HU8.out hb)
        have CB9 := Aside0.mk (blk_below CB8.out hb)
        have K9 := Aside0.mk (K8.out.trans (hb.mono (Nat.le_of_lt S8.out)))
        have S9 := Aside0.mk (Nat.lt_of_lt_of_le S8.out hb.size)
        clear hb HU8 CB8 K8 S8
        refine hK.out _ _ ⟨(blk_cell CB9.out 0).trans rfl, (blk_cell CB9.out 1).trans rfl⟩ (fun hHeld => ?_)
        clear hK K
        refine norm_ (a' := ?_) ?_ ?_
        rotate_left
        · show Act.put _ (some 46) _ = _
          simp only [Act.put, List.setIfInBounds_toArray, List.set_cons_zero, List.set_cons_succ, i64_w, i32_w]
          rfl
        refine one_ (i := 5) (N := some 49) #[true, true, true, true, true, true, false, false] rfl rfl (one_of HT_.out (by kernel_rfl)) (by decide) (fun K hK => ?_)
        refine goes_ Try.func36 (by kernel_rfl) rfl #[.string p1] (by rfl) rfl rfl (by (try simp only [List.map_toArray, List.map_cons, List.map_nil]); first | done | rfl) ?_
        refine (frame_text.calls _ p1 _ _ T2.out).mono ?_
        rintro e w10 ⟨rfl, hb⟩
        refine ⟨_, rfl, ?_⟩
        have HU10 := Aside0.mk (builder_below HU9.out hb)
        have CB10 := Aside0.mk (blk_below CB9.out hb)
        have K10 := Aside0.mk (K9.out.trans (hb.mono (Nat.le_of_lt S9.out)))
        have S10 := Aside0.mk (Nat.lt_of_lt_of_le S9.out hb.size)
        clear hb HU9 CB9 K9 S9
        refine hK.out _ _ ⟨(blk_cell CB10.out 0).trans rfl, (blk_cell CB10.out 1).trans rfl⟩ (fun hHeld => ?_)
        clear hK K
        refine norm_ (a' := ?_) ?_ ?_
        rotate_left
        · show Act.put _ (some 49) _ = _
          simp only [Act.put, List.setIfInBounds_toArray, List.set_cons_zero, List.set_cons_succ, i64_w, i32_w]
          rfl
        have zs : (9223372036854775807 < (bs (tx p0)).size + (bs (tx p1)).size) = False := eq_false (by rw [bs_size, bs_size]; have := T3.out; omega)
        have zt : (9223372036854775807 < (tx p0).length + (tx p1).length) = False := eq_false (by have := T3.out; omega)
        refine pure_ (i := 6) (N := some 50) (v := ?_) (a' := ?_) #[true, true, true, true, true, true, true, false] rfl rfl (any_of HT_.out (by kernel_rfl)) (fun _ _ _ h => h) (Or.inl ⟨by rfl, ?_⟩) ?_ ?_
        rotate_left
        · intro w'
          go_simp
          with_reducible rfl
        rotate_left
        · simp only [Act.put, List.setIfInBounds_toArray, List.set_cons_zero, List.set_cons_succ, i64_w, i32_w]
          rfl
        refine last_ (i := 7) (N := some 51) #[true, true, true, true, true, true, true, true] rfl rfl (one_of HT_.out (by kernel_rfl)) (by decide) (fun K hK => ?_)
        refine goes_ Try.func35 (by kernel_rfl) rfl #[.pointer (some ⟨b, 0, none⟩), .string (bs (tx p0) ++ bs (tx p1))] (by rfl) rfl rfl (by (try simp only [List.map_toArray, List.map_cons, List.map_nil]); first | done | rfl) ?_
        refine (Try.Builder_WriteString_k b b _ _ _ HU10.out (by simp only [List.length_append, bc_length, bs_size, bs_append, List.length_cons, List.length_nil]; have := T3.out; omega) (Nat.le_of_lt S10.out)).mono ?_
        rintro e w11 ⟨rfl, h1, h2, h3⟩
        refine ⟨_, rfl, ?_⟩
        have HU9 := Aside0.mk (Or.inr h1 : Lib.IsBuilderF 66 5 b b _ w11)
        have K9 := Aside0.mk (K10.out.trans h2)
        clear h1 h2 h3 HU10 CB10 K10 S10
        refine hK.out _ _ ?_
        clear hK K
        refine norm_ (a' := ?_) ?_ ?_
        rotate_left
        · show Act.put _ (some 51) _ = _
          simp only [Act.put, List.setIfInBounds_toArray, List.set_cons_zero, List.set_cons_succ, i64_w, i32_w]
          rfl
        refine done_ (by kernel_rfl) ?_
        go_wp2
        go_roundw
        case rel => exact ⟨x + 1, by have := NX.out; rw [wrap_id (by omega) (by omega)], by have := NX.out; omega, by have := NX.out; omega, by rw [HN.out, HE, bc_two]; exact HU9.out, HK.out.trans K9.out⟩
        case measure => have := NX.out; have hw : wrap64 (x + 1) = x + 1 := wrap_id (by omega) (by omega); simp only [intOf, hw]; omega
    · obtain rfl : x = (l.length : Int) := by omega
      have hfull : chsB tx (l.take ((l.length : Int)).toNat) = BD := by rw [Int.toNat_natCast, List.take_length, HBD.out]
      rw [hfull] at HUr
      have HQ2 : Aside0 (wire_Put.f K ((Lib.byteCells BD).length : Int) 4 = some (Q, qe)) := by rw [bc_length]; exact HQ
      clear HQ hfull
      have s1 : (9223372036854775807 < 1 + P.size) = False := eq_false (by have := HS.out; omega)
      have s2 : (9223372036854775807 < 1 + P.size + Q.size) = False := eq_false (by have := HS.out; omega)
      have s3 : (9223372036854775807 < 1 + P.size + Q.size + BD.length) = False := eq_false (by have := HS.out; omega)
      have s4 : (9223372036854775807 < 1 + P.size + Q.size + BD.length + Z.size) = False := eq_false (by have := HS.out; omega)
      go_wp2_with (first | (go_at_call 37; refine (Try.Builder_Len_f b b _ _ HUr.out).mono ?_; rintro e w5 ⟨rfl, rfl⟩) | (go_at_call 33; refine (wire_Put.calls K _ 4 Q qe _ HQ2.out).mono ?_; rintro e w6 ⟨rfl, hb⟩; have HU6 := Aside0.mk (builder_below HUr.out hb); have K6 := Aside0.mk (HK.out.trans (hb.mono (Nat.le_of_lt SZr.out))); have S6 := Aside0.mk (Nat.lt_of_lt_of_le SZr.out hb.size); clear hb HUr HK HQ2) | (go_at_call 38; refine (Try.Builder_String_any_k b b BD _ HU6.out (Nat.le_of_lt S6.out)).mono ?_; rintro e w7 ⟨rfl, _, h2, _⟩; have K7 := Aside0.mk (K6.out.trans h2); have S7 := Aside0.mk (Nat.lt_of_lt_of_le S6.out h2.size); clear h2 HU6 K6 S6) | (go_at_call 39; refine (crc_Sum.calls _ C _ HC.out).mono ?_; rintro e w8 ⟨rfl, hb⟩; have K8 := Aside0.mk (K7.out.trans (hb.mono (Nat.le_of_lt S7.out))); have S8 := Aside0.mk (Nat.lt_of_lt_of_le S7.out hb.size); clear hb K7 S7 HC) | (go_at_call 33; refine (wire_Put.calls K _ 4 Z ze _ HZ.out).mono ?_; rintro e w9 ⟨rfl, hb⟩; have K9 := Aside0.mk (K8.out.trans (hb.mono (Nat.le_of_lt S8.out))); clear hb K8 S8 HZ))
      go_ret2
      exact ⟨rfl, HB.out.trans (K9.out.mono GB.out)⟩
/-- A text's bytes, as the program writes them. -/
def txK (K : Nat) (a : ByteArray) : List UInt8 := ((frame_text.f K a).getD ⟨#[]⟩).data.toList
theorem txK_some {K : Nat} {a : ByteArray} (h : (frame_text.f K a).isSome = true) : frame_text.f K a = some (bs (txK K a)) := by
  obtain ⟨t, ht⟩ := Option.isSome_iff_exists.1 h
  unfold txK
  rw [ht, Option.getD_some, ← bs_of]
def okC (K : Nat) (c : S62) : Bool := (frame_text.f K c.f0).isSome && (frame_text.f K c.f1).isSome && decide ((txK K c.f0).length ≤ 65540) && decide ((txK K c.f1).length ≤ 65540)
def writeF (K : Nat) (seq : Int) (l : List S62) : Option (ByteArray × Int) :=
  (frame_Check.f K l).bind fun r => if r = 0 then (wire_Put.f K seq 4).bind fun p => if p.2 = 0 then
      (if l.length ≤ 100 ∧ l.all (okC K) = true ∧ p.1.size ≤ 10 then (wire_Put.f K ((chsB (txK K) l).length : Int) 4).bind fun q => (crc_Sum.f (bs [71] ++ p.1 ++ q.1 ++ bs (chsB (txK K) l))).bind fun c => (wire_Put.f K (wrap64 c) 4).bind fun z =>
        if q.1.size ≤ 10 ∧ z.1.size ≤ 10 then some (bs [71] ++ p.1 ++ q.1 ++ bs (chsB (txK K) l) ++ z.1, 0) else none else none)
    else some (⟨#[]⟩, 1) else some (⟨#[]⟩, r)
theorem writeF_calls (K : Nat) (a0_0 : Int) (A0_1 : Option Addr) (c0_1 : Nat) (l0_1 : List S62) (r1 : ByteArray) (r2 : Int) (w : World) (hr0_1 : Kd.C k62 w A0_1 l0_1.length l0_1) (hc0_1 : l0_1.length ≤ c0_1) (h : writeF K a0_0 l0_1 = some (r1, r2)) :
    Calls Try.prog 17 #[.agg #[.int .i64 a0_0, .slice A0_1 l0_1.length c0_1]] w fun e w' => e = .returned (.tuple #[.string r1, .int .i64 r2]) ∧ Below w.heap.size w w' := by
  unfold writeF at h
  obtain ⟨r, hr, h⟩ := Option.bind_eq_some_iff.mp h
  by_cases h0 : r = 0
  · subst h0
    rw [if_pos rfl] at h
    obtain ⟨⟨P, pe⟩, hP, h⟩ := Option.bind_eq_some_iff.mp h
    simp only [] at h
    by_cases h1 : pe = 0
    · subst h1
      rw [if_pos rfl] at h
      by_cases h2 : l0_1.length ≤ 100 ∧ l0_1.all (okC K) = true ∧ P.size ≤ 10
      · rw [if_pos h2] at h
        obtain ⟨⟨Q, qe⟩, hQ, h⟩ := Option.bind_eq_some_iff.mp h
        obtain ⟨C, hC, h⟩ := Option.bind_eq_some_iff.mp h
        obtain ⟨⟨Z, ze⟩, hZ, h⟩ := Option.bind_eq_some_iff.mp h
        simp only [] at h hQ hC hZ
        by_cases h3 : Q.size ≤ 10 ∧ Z.size ≤ 10
        · rw [if_pos h3] at h
          simp only [Option.some.injEq, Prod.mk.injEq] at h
          obtain ⟨rfl, rfl⟩ := h
          refine write_rec a0_0 A0_1 c0_1 l0_1 w hr0_1 hc0_1 K hr P hP h2.2.2 h2.1 (txK K) ?_ Q qe hQ h3.1 C hC Z ze hZ h3.2
          intro c hc
          have := List.all_eq_true.1 h2.2.1 c hc
          unfold okC at this
          simp only [Bool.and_eq_true, decide_eq_true_eq] at this
          exact ⟨txK_some this.1.1.1, txK_some this.1.1.2, this.1.2, this.2⟩
        · rw [if_neg h3] at h; cases h
      · rw [if_neg h2] at h; cases h
    · rw [if_neg h1] at h
      simp only [Option.some.injEq, Prod.mk.injEq] at h
      obtain ⟨rfl, rfl⟩ := h
      exact write_seq a0_0 A0_1 c0_1 l0_1 w hr0_1 hc0_1 K hr P pe hP h1
  · rw [if_neg h0] at h
    simp only [Option.some.injEq, Prod.mk.injEq] at h
    obtain ⟨rfl, rfl⟩ := h
    exact write_check a0_0 A0_1 c0_1 l0_1 w hr0_1 hc0_1 K r hr h0
def frame_Write.f (a0_0 : Int) (l0_1 : List S62) : Option (ByteArray × Int) := writeF 400 a0_0 l0_1
theorem frame_Write.calls (a0_0 : Int) (A0_1 : Option Addr) (c0_1 : Nat) (l0_1 : List S62) (r1 : ByteArray) (r2 : Int) (w : World) (hr0_1 : Kd.C k62 w A0_1 l0_1.length l0_1) (hc0_1 : l0_1.length ≤ c0_1) (h : frame_Write.f a0_0 l0_1 = some (r1, r2)) :
    Calls Try.prog 17 #[.agg #[.int .i64 a0_0, .slice A0_1 l0_1.length c0_1]] w fun e w' => e = .returned (.tuple #[.string r1, .int .i64 r2]) ∧ Below w.heap.size w w' := writeF_calls 400 a0_0 A0_1 c0_1 l0_1 r1 r2 w hr0_1 hc0_1 h
end Go.Proofs.Ytcgbjkjacpeheaa.Given
