/- scan.Write walked: the groups' bytes one behind the other, or the first fault. -/
import Derived.Test.YtcgbjkjacpeheaaProg
import Derived.Below
import Derived.Deep.Draws
import Derived.Deep.AppendLies
import Derived.Maps.AppendAt
import Derived.OwnWalk
import Derived.Laws.BytesArg
import Derived.Laws.MakeOwn
import Derived.Laws.OwnMore
import Derived.Deep.OwnRows
import Derived.Tactics
import Derived.Lib.ConvBytes
import Derived.Laws.Slices
import Derived.WalkKit
import Derived.KernelRfl
import Derived.RowKit3
import Derived.Deep.LoopGhost
import Derived.Deep.QuietTactic
import Derived.BigQuiet
import Derived.WideLaws
import Derived.Deep.DeepCutAuto
import Derived.Deep.CutBlock
import Derived.Deep.RegionHeld3
import Derived.Laws.Rows
import Derived.Lib.AppendStr
import Derived.ArgAppend
import Derived.Laws.IdiomCopy
import Derived.OrdersHeld
import Derived.Laws.BitsLemmas
import Derived.RowKit
import Derived.Test.YtcgbjkjacpeheaaWWords
import Derived.Test.YtcgbjkjacpeheaaWLast
import Derived.Test.YtcgbjkjacpeheaaWTab
import Derived.Test.YtcgbjkjacpeheaaWFour
import Derived.Test.YtcgbjkjacpeheaaWQPut
import Derived.Test.YtcgbjkjacpeheaaWApart
import Derived.Test.YtcgbjkjacpeheaaWArr
import Derived.Test.YtcgbjkjacpeheaaWZeros
import Derived.Test.YtcgbjkjacpeheaaWFoot
import Derived.Test.YtcgbjkjacpeheaaWKept
import Derived.Test.YtcgbjkjacpeheaaWShare
import Derived.Test.YtcgbjkjacpeheaaWN
import Derived.Test.YtcgbjkjacpeheaaWFootNe
import Derived.Test.YtcgbjkjacpeheaaWAt
import Derived.Test.YtcgbjkjacpeheaaWEqStruct
import Derived.Test.YtcgbjkjacpeheaaWRepsOne
import Derived.Test.YtcgbjkjacpeheaaWInv
import Derived.Test.YtcgbjkjacpeheaaWInvWords
import Derived.Test.YtcgbjkjacpeheaaWGuard
import Derived.Test.YtcgbjkjacpeheaaWNEv
import Derived.Test.YtcgbjkjacpeheaaWMore
import Derived.StillTailTactics
import Derived.Laws.BitsAllLaws
import Derived.Outline
import Derived.Lib.OthersKept
import Derived.Test.YtcgbjkjacpeheaaFrWrite
namespace Go.Proofs.Ytcgbjkjacpeheaa.Given
open Go.RowKit Go.Proofs Go.Proofs.Ytcgbjkjacpeheaa.Bs Go.Proofs.Ytcgbjkjacpeheaa.PFr Go.Proofs.YtcgbjkjacpeheaaW.PrintWords Go.Proofs.YtcgbjkjacpeheaaW.PrintLast Go.Proofs.YtcgbjkjacpeheaaW.PrintMore
set_option linter.unusedVariables false
set_option linter.unusedSimpArgs false
/-- The bytes of groups, from the number i on, behind acc. -/
def scanF (a0 : Int) : List (List S62) → Int → List UInt8 → Option (ByteArray × Int)
  | [], _, acc => some (bs acc, 0)
  | c :: l, i, acc => (frame_Write.f (wrap64 (a0 + i)) c).bind fun p => if p.2 = 0 then (if p.1.size ≤ 20000000 ∧ acc.length ≤ 100000000 then scanF a0 l (i + 1) (acc ++ p.1.data.toList) else none) else some (⟨#[]⟩, p.2)
theorem drop_rdL (l : List (List S62)) (i : Int) (h0 : 0 ≤ i) (h1 : i < l.length) : l.drop i.toNat = rd_L6 l i :: l.drop (i + 1).toNat := by
  have hi : i.toNat < l.length := by omega
  have e : (i + 1).toNat = i.toNat + 1 := by omega
  have er : rd_L6 l i = l[i.toNat] := by unfold rd_L6; rw [List.getD_eq_getElem?_getD, List.getElem?_eq_getElem hi]; rfl
  rw [e, er, List.drop_eq_getElem_cons hi]
theorem sc_of (s : ByteArray) : Lib.strCells s = Lib.byteCells s.data.toList := by simp [Lib.strCells, Lib.byteCells]
set_option maxHeartbeats 2000000 in
set_option maxRecDepth 100000 in
theorem scan_walk (a0 : Int) (A : Option Addr) (c : Nat) (l : List (List S62)) (r1 : ByteArray) (r2 : Int) (w : World) (hr : Kd.C (Kd.slice 62 k62) w A l.length l) (hc : l.length ≤ c) (hl : l.length ≤ 1000000) (h : scanF a0 l 0 [] = some (r1, r2)) :
    Calls Try.prog 31 #[.int .i64 a0, .slice A l.length c] w fun e w' => e = .returned (.tuple #[.string r1, .int .i64 r2]) ∧ Below w.heap.size w w' := by
  have HR := Aside0.mk hr
  have HC0 := Aside0.mk hc
  have HF := Aside0.mk h
  clear hr hc h
  go_enter Try.func31, Try.ntmps31
  go_wp2_with (first | ((with_reducible refine gate_dst (N := 6) rfl ?_); refine box_event ?hg (N := 6) ?hd (cs := #[.pointer none, .slice none 0 0]) (t := 66) ?hr ?_; (case hd => rfl); (case hg => rfl); (case hr => first | (go_simp; done) | (go_simp; rfl)); intro b hg w4 hbox hb; have GB := Aside0.mk ((by rw [hg]; exact Nat.le_refl _) : w.heap.size ≤ b); have SZ := Aside0.mk ((by exact blk_lt hbox) : b < w4.heap.size); have HU := Aside0.mk (builder_new (e := 5) hbox); have HB := Aside0.mk hb; clear hbox hg hb))
  go_loopw [13] (fun v13 wr => ∃ x : Int, v13 = .int .i64 x ∧ 0 ≤ x ∧ x ≤ l.length ∧ ∃ acc : List UInt8, Lib.IsBuilderF 66 5 b b (Lib.byteCells acc) wr ∧ Below b w4 wr ∧ scanF a0 (l.drop x.toNat) x acc = some (r1, r2)) (fun v13 _ => l.length - (intOf v13).toNat)
  case atStart => exact ⟨0, rfl, by omega, by omega, [], HU.out, Below.refl _ _, HF.out⟩
  case round =>
    obtain ⟨x, rfl, x0, xl, acc, hU, hK, hF⟩ := hrel
    have HBr := Aside0.mk (HB.out.trans (hK.mono GB.out))
    have hCr := Aside0.mk (Kd.C_below HR.out HBr.out)
    have SZr := Aside0.mk (Nat.lt_of_lt_of_le SZ.out hK.size)
    have HUr := Aside0.mk hU
    have HK := Aside0.mk hK
    clear hU hK HU HF
    by_cases hlt : x < (l.length : Int)
    · rw [drop_rdL l x x0 hlt, scanF] at hF
      obtain ⟨⟨t, e1⟩, hT, hF⟩ := Option.bind_eq_some_iff.mp hF
      have HT := Aside0.mk hT
      clear hT
      simp only [] at hF
      obtain ⟨ad, A2, c2, ee, hx0, hl2, hi2⟩ := at_L6 hCr.out x x0 hlt
      cases ee
      have HI := Aside0.mk hi2
      have HL := Aside0.mk hl2
      clear hi2 hl2
      have y0 := eq_true x0
      have y1 := eq_true hlt
      have y2 : decide (x < (l.length : Int)) = true := decide_eq_true hlt
      have y3 : decide (0 ≤ x) = true := decide_eq_true x0
      have NX := Aside0.mk (And.intro x0 (And.intro hlt hl))
      clear x0 hlt xl
      by_cases he : e1 = 0
      · have b1 : (e1 != 0) = false := bne_eq_false_iff_eq.mpr he
        rw [if_pos he] at hF
        by_cases hs : t.size ≤ 20000000 ∧ acc.length ≤ 100000000
        · rw [if_pos hs] at hF
          have HF := Aside0.mk hF
          have HS := Aside0.mk hs
          clear hF hs he
          go_wp2_with (first
            | (go_at_call 17; refine (frame_Write.calls (wrap64 (a0 + x)) _ _ _ _ _ _ HI.out HL.out HT.out).mono ?_; rintro e w5 ⟨rfl, hb⟩; have HU5 := Aside0.mk (builder_below HUr.out hb); have K5 := Aside0.mk (HK.out.trans (hb.mono (Nat.le_of_lt SZr.out))); have S5 := Aside0.mk (Nat.lt_of_lt_of_le SZr.out hb.size); clear hb HT)
            | (go_at_call 35; refine (Try.Builder_WriteString_k b b _ _ _ HU5.out (by rw [bc_length]; have := HS.out; omega) (Nat.le_of_lt S5.out)).mono ?_; rintro e w6 ⟨rfl, h1, h2, h3⟩; have HU6 := Aside0.mk (Or.inr h1 : Lib.IsBuilderF 66 5 b b _ w6); have K6 := Aside0.mk (K5.out.trans h2); clear h1 h2 h3 HU5 K5 S5))
          go_roundw
          case rel => exact ⟨x + 1, by have := NX.out; rw [wrap_id (by omega) (by omega)], by have := NX.out; omega, by have := NX.out; omega, acc ++ t.data.toList, by rw [bc_append, ← sc_of]; exact HU6.out, K6.out, HF.out⟩
          case measure => have := NX.out; have hw : wrap64 (x + 1) = x + 1 := wrap_id (by omega) (by omega); simp only [intOf, hw]; omega
        · rw [if_neg hs] at hF; cases hF
      · have b1 : (e1 != 0) = true := bne_iff_ne.mpr he
        rw [if_neg he] at hF
        simp only [Option.some.injEq, Prod.mk.injEq] at hF
        obtain ⟨rfl, rfl⟩ := hF
        clear he
        go_wp2_with (first
            | (go_at_call 17; refine (frame_Write.calls (wrap64 (a0 + x)) _ _ _ _ _ _ HI.out HL.out HT.out).mono ?_; rintro e w5 ⟨rfl, hb⟩; have K5 := Aside0.mk (HBr.out.trans (hb.mono (Nat.le_trans GB.out (Nat.le_of_lt SZr.out)))); clear hb HT))
        go_ret2
        exact ⟨rfl, K5.out⟩
    · obtain rfl : x = (l.length : Int) := by omega
      rw [Int.toNat_natCast, List.drop_length, scanF] at hF
      simp only [Option.some.injEq, Prod.mk.injEq] at hF
      obtain ⟨rfl, rfl⟩ := hF
      go_wp2_with (first
        | (go_at_call 38; refine (Try.Builder_String_any_k b b acc _ HUr.out (Nat.le_of_lt SZr.out)).mono ?_; rintro e w7 ⟨rfl, _, h2, _⟩; have K7 := Aside0.mk (HK.out.trans h2); clear h2))
      go_ret2
      exact ⟨rfl, HB.out.trans (K7.out.mono GB.out)⟩
def scan_Write.f (a0 : Int) (l1 : List (List S62)) : Option (ByteArray × Int) := if l1.length ≤ 1000000 then scanF a0 l1 0 [] else none
theorem scan_Write.calls (a0 : Int) (A1 : Option Addr) (c1 : Nat) (l1 : List (List S62)) (r1 : ByteArray) (r2 : Int) (w : World) (hr1 : Kd.C (Kd.slice 62 k62) w A1 l1.length l1) (hc1 : l1.length ≤ c1) (h : scan_Write.f a0 l1 = some (r1, r2)) :
    Calls Try.prog 31 #[.int .i64 a0, .slice A1 l1.length c1] w fun e w' => e = .returned (.tuple #[.string r1, .int .i64 r2]) ∧ Below w.heap.size w w' := by
  unfold scan_Write.f at h
  by_cases hs : l1.length ≤ 1000000
  · rw [if_pos hs] at h
    exact scan_walk a0 A1 c1 l1 r1 r2 w hr1 hc1 hs h
  · rw [if_neg hs] at h; cases h
end Go.Proofs.Ytcgbjkjacpeheaa.Given
