/- key.Unquote walked: at every text of at most 1000000 bytes it returns KeyPlain's name, or why there is none. -/
import Derived.Test.YtdkaokjnfkfngaaProg
import Derived.Below
import Derived.Deep.Draws
import Derived.Deep.AppendLies
import Derived.Maps.AppendAt
import Derived.OwnWalk
import Derived.Laws.BytesArg
import Derived.Laws.MakeOwn
import Derived.Laws.OwnMore
import Derived.Deep.OwnRows
import Derived.Tactics
import Derived.Lib.ConvBytes
import Derived.Laws.Slices
import Derived.WalkKit
import Derived.KernelRfl
import Derived.RowKit3
import Derived.Deep.LoopGhost
import Derived.Deep.QuietTactic
import Derived.BigQuiet
import Derived.WideLaws
import Derived.Deep.DeepCutAuto
import Derived.Deep.CutBlock
import Derived.Deep.RegionHeld3
import Derived.Laws.Rows
import Derived.Lib.AppendStr
import Derived.ArgAppend
import Derived.Laws.IdiomCopy
import Derived.OrdersHeld
import Derived.Laws.BitsLemmas
import Derived.RowKit
import Derived.Test.YtdkaokjnfkfngaaWWords
import Derived.Test.YtdkaokjnfkfngaaWLast
import Derived.Test.YtdkaokjnfkfngaaWTab
import Derived.Test.YtdkaokjnfkfngaaWFour
import Derived.Test.YtdkaokjnfkfngaaWQPut
import Derived.Test.YtdkaokjnfkfngaaWApart
import Derived.Test.YtdkaokjnfkfngaaWArr
import Derived.Test.YtdkaokjnfkfngaaWZeros
import Derived.Test.YtdkaokjnfkfngaaWFoot
import Derived.Test.YtdkaokjnfkfngaaWKept
import Derived.Test.YtdkaokjnfkfngaaWShare
import Derived.Test.YtdkaokjnfkfngaaWN
import Derived.Test.YtdkaokjnfkfngaaWFootNe
import Derived.Test.YtdkaokjnfkfngaaWAt
import Derived.Test.YtdkaokjnfkfngaaWEqStruct
import Derived.Test.YtdkaokjnfkfngaaWRepsOne
import Derived.Test.YtdkaokjnfkfngaaWInv
import Derived.Test.YtdkaokjnfkfngaaWInvWords
import Derived.Test.YtdkaokjnfkfngaaWGuard
import Derived.Test.YtdkaokjnfkfngaaWNEv
import Derived.Test.YtdkaokjnfkfngaaWMore
import Derived.Test.YtdkaokjnfkfngaaShelfW
import Derived.StillTailTactics
import Derived.Laws.BitsAllLaws
import Derived.Outline
import Derived.Shelf.Strings.MapGrows
import Derived.Test.YtdkaokjnfkfngaaKeyQuote
namespace Go.Proofs.Ytdkaokjnfkfngaa.Given
open Go.RowKit Go.Proofs Go.Proofs.Ytdkaokjnfkfngaa.Bs Go.Proofs.Ytdkaokjnfkfngaa.KeyPlain Go.Proofs.YtdkaokjnfkfngaaW.PrintWords Go.Proofs.YtdkaokjnfkfngaaW.PrintLast Go.Proofs.YtdkaokjnfkfngaaW.PrintMore
set_option linter.unusedVariables false
set_option linter.unusedSimpArgs false
theorem str_index (l : List UInt8) (i : Nat) (h : i < l.length) (W : World) : (Instr.index 9 (.string (bs l)) (.int .i64 (i : Int))).run Try.prog W = .ok (.int .u8 (l[i].toNat : Int)) W := by
  have h' : i < (bs l).size := by rw [bs_size]; exact h
  have e : ((bs l)[i]'h') = l[i] := by simp [bs]; rfl
  rw [run_index_string W 9 (bs l) .i64 i Try.underlying9, dif_pos ⟨by omega, by rw [bs_size]; omega⟩]
  simp only [Int.toNat_natCast, e]
  rfl
theorem join_nibbles (h l : Int) (h0 : 0 ≤ h) (h1 : h < 16) (l0 : 0 ≤ l) (l1 : l < 16) : bits BinOp.or IntKind.i64 (h * 16) l = h * 16 + l := by
  refine bits_join .i64 8 (by decide) (fun n a b => ?_) 4 (h * 16) l (by omega) (by omega) (by omega) l0 (by omega) (by omega)
  rw [IntKind.wrap_i64]; omega
theorem idx (x : UInt8) (w : World) : Calls Try.prog 39 #[.string ⟨#[48, 49, 50, 51, 52, 53, 54, 55, 56, 57, 65, 66, 67, 68, 69, 70]⟩, .int .u8 (x.toNat : Int)] w fun e w' => e = .returned (.int .i64 (hv x)) ∧ w' = w := by
  have := Try.strings_IndexByte ⟨#[48, 49, 50, 51, 52, 53, 54, 55, 56, 57, 65, 66, 67, 68, 69, 70]⟩ (x.toNat : Int) w
  have e : (x.toNat : Int).toNat.toUInt8 = x := by simp
  rw [e] at this
  exact this
def strLen : Value → Nat
  | .string s => s.size
  | _ => 0
theorem str_any (B b : Nat) (l : List UInt8) (w : World) (h : Lib.IsBuilderF 65 5 B b (Lib.byteCells l) w) (hBw : B ≤ w.heap.size) :
    Calls Try.prog 40 #[.pointer (some ⟨b, 0, none⟩)] w fun e w' => e = .returned (.string (bs l)) ∧ (Lib.IsBuilderF 65 5 B b (Lib.byteCells l) w' ∧ Below B w w') :=
  (Try.Builder_String_any_k B b l w h hBw).mono fun e w' ⟨h1, h2, h3, _⟩ => ⟨h1, h2, h3⟩
theorem quote_any (l : List UInt8) (hl : l.length ≤ 10000000) (w : World) : Calls Try.prog 22 #[.string (bs l)] w fun e w' => e = .returned (.string (bs (quoteL l))) ∧ Below w.heap.size w w' := by
  by_cases h : l = []
  · subst h; exact quote_empty w
  · have := quote_walk (bs l) (by rw [bs_size]; exact hl) (by rw [bs_size]; exact List.length_pos_iff.2 h) w
    rw [bs_data] at this
    have e : quoteL l = l.flatMap quoteB := if_neg h
    rw [e]; exact this
theorem bs_cut (l : List UInt8) (i : Nat) : (bs l).extract i (bs l).size = bs (l.drop i) := by rw [bs_size, bs_extract_end]
theorem isF_drewN {B b : Nat} {l : List Value} {w : World} (h : Lib.IsBuilderF 65 5 B b l w) (n : Nat) : Lib.IsBuilderF 65 5 B b l (w.drewN n) := h.below ⟨rfl, rfl, rfl, Nat.le_refl _, fun _ _ => rfl⟩
set_option maxHeartbeats 2000000 in
set_option maxRecDepth 100000 in
theorem unquote_walk (s : List UInt8) (hs : s.length ≤ 1000000) (hne : s ≠ [37]) (w : World) :
    Calls Try.prog 20 #[.string (bs s)] w fun e w' => e = .returned (.tuple #[.string (bs (unqF s).1), .int .i64 (unqF s).2]) ∧ Below w.heap.size w w' := by
  have hne' : ((bs s).toList == [37]) = false := by rw [bs_toList]; simpa using hne
  have HNE := Aside0.mk hne
  clear hne
  obtain ⟨R, hR⟩ : ∃ R, R = unqF s := ⟨_, rfl⟩
  rw [← hR]
  have HR := Aside0.mk hR
  clear hR
  go_enter Try.func20, Try.ntmps20
  go_wp2_with fail
  have hB0 : Lib.IsBuilderF 65 5 w.heap.size w.heap.size (Lib.byteCells []) (w.alloc (.cells #[.pointer none, .slice none 0 0] 65)) :=
    .inl ⟨Nat.le_refl _, _, blk_new _ _, ⟨rfl, .inl ⟨rfl, rfl⟩⟩, by simp [Value.ownBlock]⟩
  have hb0 : Below w.heap.size w (w.alloc (.cells #[.pointer none, .slice none 0 0] 65)) := (Below.refl _ w).alloc (Nat.le_refl _) _
  clear hne'
  go_loopw [5] (fun v5 wr => ∃ l acc : List UInt8, v5 = .string (bs l) ∧ l.length + acc.length ≤ s.length ∧ Lib.IsBuilderF 65 5 w.heap.size w.heap.size (Lib.byteCells acc) wr ∧ Below w.heap.size w wr ∧ Aside0 (unqA s [] = unqA l acc)) (fun v5 _ => strLen v5)
  case atStart => exact ⟨s, [], rfl, by simp, hB0, hb0, ⟨rfl⟩⟩
  case round =>
    obtain ⟨l, acc, rfl, hlen, hB, hb, hu⟩ := hrel
    have HB := Aside0.mk hB
    have Hb := Aside0.mk hb
    clear hB hb hB0 hb0
    have hbl := bc_length acc
    have HL := Aside0.mk hbl
    clear hbl
    match l, hlen, hu with
    | [], hlen, hu =>
      have hE : (bs ([] : List UInt8)).toList.isEmpty = true := by rw [bs_toList]; rfl
      have hua : unqA s [] = some acc := hu.out
      have hal : acc.length ≤ 10000000 := by simp at hlen; omega
      by_cases hq : quoteL acc = s
      · have hqt : ((bs (quoteL acc)).toList == (bs s).toList) = true := by rw [hq]; simp
        have hF : unqF s = (acc, 0) := by unfold unqF; rw [if_neg HNE.out, hua]; simp only; rw [if_pos hq]
        have HF := Aside0.mk (HR.out.trans hF)
        clear hua hq hu hF
        go_wp2_with (first | (go_at_call 40; refine (str_any _ _ _ _ HB.out Hb.out.size).mono ?_; rintro e w1 ⟨rfl, h1, b1⟩; have HB1 := Aside0.mk h1; have Hb1 := Aside0.mk (Hb.out.trans b1); clear h1 b1; clear HB Hb; have HB := HB1; have Hb := Hb1; clear HB1 Hb1) | (go_at_call 22; refine (quote_any _ hal _).mono ?_; rintro e w2 ⟨rfl, b2⟩; have HB1 := Aside0.mk (Lib.IsBuilderF.below HB.out b2); have Hb1 := Aside0.mk (Hb.out.trans (b2.mono Hb.out.size)); clear b2; clear HB Hb; have HB := HB1; have Hb := Hb1; clear HB1 Hb1))
        go_ret2
        exact ⟨by rw [HF.out]; rfl, Hb.out⟩
      · have hqt : ((bs (quoteL acc)).toList == (bs s).toList) = false := by rw [bs_toList, bs_toList]; simpa using hq
        have hF : unqF s = ([], 5) := by unfold unqF; rw [if_neg HNE.out, hua]; simp only; rw [if_neg hq]
        have HF := Aside0.mk (HR.out.trans hF)
        clear hua hq hu hF
        go_wp2_with (first | (go_at_call 40; refine (str_any _ _ _ _ HB.out Hb.out.size).mono ?_; rintro e w1 ⟨rfl, h1, b1⟩; have HB1 := Aside0.mk h1; have Hb1 := Aside0.mk (Hb.out.trans b1); clear h1 b1; clear HB Hb; have HB := HB1; have Hb := Hb1; clear HB1 Hb1) | (go_at_call 22; refine (quote_any _ hal _).mono ?_; rintro e w2 ⟨rfl, b2⟩; have HB1 := Aside0.mk (Lib.IsBuilderF.below HB.out b2); have Hb1 := Aside0.mk (Hb.out.trans (b2.mono Hb.out.size)); clear b2; clear HB Hb; have HB := HB1; have Hb := Hb1; clear HB1 Hb1))
        go_ret2
        exact ⟨by rw [HF.out]; rfl, Hb.out⟩
    | c :: l, hlen, hu =>
      have hE : (bs (c :: l)).toList.isEmpty = false := by rw [bs_toList]; rfl
      have hi0 := fun W => str_index (c :: l) 0 (by simp) W
      simp only [List.getElem_cons_zero, Int.natCast_zero] at hi0
      have hlen' : l.length + 1 + acc.length ≤ s.length := by simpa using hlen
      have hc1 : c.toNat < 256 := c.toNat_lt
      by_cases hc : c = 37
      · have hcn : ((c.toNat : Int) != 37) = false := by rw [hc]; rfl
        have HC := Aside0.mk hc
        clear hc
        match l, hlen, hlen', hu, hE, hi0 with
        | [], hlen, hlen', hu, hE, hi0 =>
          have hd : decide (((bs [c]).size : Int) < 3) = true := by rw [bs_size]; rfl
          have hF : unqF s = ([], 5) := by
            unfold unqF
            rw [if_neg HNE.out, hu.out, HC.out, unqA_short _ _ (by simp)]
          have HF := Aside0.mk (HR.out.trans hF)
          clear hu hF
          have hsl : 1 ≤ (bs [c]).size := by rw [bs_size]; simp
          go_wp2
          go_ret2
          exact ⟨by rw [HF.out]; rfl, Hb.out⟩
        | [x], hlen, hlen', hu, hE, hi0 =>
          have hd : decide (((bs [c, x]).size : Int) < 3) = true := by rw [bs_size]; rfl
          have hF : unqF s = ([], 5) := by
            unfold unqF
            rw [if_neg HNE.out, hu.out, HC.out, unqA_short _ _ (by simp)]
          have HF := Aside0.mk (HR.out.trans hF)
          clear hu hF
          have hsl : 1 ≤ (bs [c, x]).size := by rw [bs_size]; simp
          go_wp2
          go_ret2
          exact ⟨by rw [HF.out]; rfl, Hb.out⟩
        | x :: y :: r, hlen, hlen', hu, hE, hi0 =>
          have hd : decide (((bs (c :: x :: y :: r)).size : Int) < 3) = false := by rw [bs_size]; simp <;> omega
          have hi1 : ∀ W, (Instr.index 9 (.string (bs (c :: x :: y :: r))) (.int .i64 1)).run Try.prog W = .ok (.int .u8 (x.toNat : Int)) W := fun W => str_index (c :: x :: y :: r) 1 (by simp) W
          have hi2 : ∀ W, (Instr.index 9 (.string (bs (c :: x :: y :: r))) (.int .i64 2)).run Try.prog W = .ok (.int .u8 (y.toNat : Int)) W := fun W => str_index (c :: x :: y :: r) 2 (by simp) W
          have hx := hv_bounds x
          have hy := hv_bounds y
          have hsl : 3 ≤ (bs (c :: x :: y :: r)).size := by rw [bs_size]; simp
          have HU := Aside0.mk hu
          clear hu
          have HX := Aside0.mk hx
          have HY := Aside0.mk hy
          clear hx hy
          obtain ⟨vx, hvx⟩ : ∃ vx, vx = hv x := ⟨_, rfl⟩
          obtain ⟨vy, hvy⟩ : ∃ vy, vy = hv y := ⟨_, rfl⟩
          have ix := idx x
          have iy := idx y
          rw [← hvx] at ix HX
          rw [← hvy] at iy HY
          have HVX := Aside0.mk hvx
          have HVY := Aside0.mk hvy
          clear hvx hvy
          go_wp2_with fail
          go_quiet (first | (go_at_call 39; exact Calls.quiet_of_same (ix _)) | (go_at_call 39; exact Calls.quiet_of_same (iy _)))
          have HBd := Aside0.mk (isF_drewN HB.out nq)
          have Hbd := Aside0.mk (Hb.out.trans (⟨rfl, rfl, rfl, Nat.le_refl _, fun _ _ => rfl⟩ : Below _ wr (wr.drewN nq)))
          clear HB Hb
          revert HBd Hbd
          generalize wr.drewN nq = w2
          intro HBd Hbd
          clear ix iy
          by_cases hx0 : vx < 0
          · have d1 : decide (vx < 0) = true := by simpa using hx0
            have hF : unqF s = ([], 5) := by
              unfold unqF
              rw [if_neg HNE.out, HU.out.out, HC.out, unqA, if_pos rfl, if_pos (.inl (by rw [← HVX.out]; exact hx0))]
            have HF := Aside0.mk (HR.out.trans hF)
            clear hF hx0
            go_wp2
            go_ret2
            exact ⟨by rw [HF.out]; rfl, Hbd.out⟩
          · have d1 : decide (vx < 0) = false := by simpa using hx0
            by_cases hy0 : vy < 0
            · have d2 : decide (vy < 0) = true := by simpa using hy0
              have hF : unqF s = ([], 5) := by
                unfold unqF
                rw [if_neg HNE.out, HU.out.out, HC.out, unqA, if_pos rfl, if_pos (.inr (by rw [← HVY.out]; exact hy0))]
              have HF := Aside0.mk (HR.out.trans hF)
              clear hF hy0
              go_wp2
              go_ret2
              exact ⟨by rw [HF.out]; rfl, Hbd.out⟩
            · have d2 : decide (vy < 0) = false := by simpa using hy0
              have hX := HX.out
              have hY := HY.out
              have hj := join_nibbles vx vy (by omega) hX.2 (by omega) hY.2
              have hu2 : unqA (c :: x :: y :: r) acc = unqA r (acc ++ [UInt8.ofNat (16 * vx.toNat + vy.toNat)]) := by
                rw [HC.out, unqA, if_pos rfl, if_neg (by rw [← HVX.out, ← HVY.out]; omega), ← HVX.out, ← HVY.out]
              have HU2 := Aside0.mk (HU.out.out.trans hu2)
              obtain ⟨nx, hnx⟩ : ∃ nx : Nat, vx = nx := ⟨vx.toNat, by omega⟩
              obtain ⟨ny, hny⟩ : ∃ ny : Nat, vy = ny := ⟨vy.toNat, by omega⟩
              clear hu2 HU HVX HVY HX HY
              subst hnx hny
              simp only [Int.toNat_natCast] at HU2
              have hX1 : nx < 16 := by omega
              have hY1 : ny < 16 := by omega
              clear hx0 hy0 hX hY
              have HBY := Aside0.mk (byte_of nx ny hX1 hY1)
              go_wp2_with (first | (go_at_call 38; refine (Try.Builder_WriteByte_k _ _ _ _ _ HBd.out (by have := HL.out; simp at hlen'; omega) Hbd.out.size).mono ?_; rintro e w1 ⟨rfl, h1, b1, _⟩; have H1 := Aside0.mk h1; have B1 := Aside0.mk b1; clear h1 b1))
              go_roundw
              case rel => exact ⟨r, acc ++ [UInt8.ofNat (16 * nx + ny)], by rw [bs_cut]; rfl, by simp at hlen' ⊢; omega, by rw [bc_append]; have h1 := H1.out; rw [HBY.out] at h1; exact .inr h1, Hbd.out.trans B1.out, ⟨HU2.out⟩⟩
              case measure => simp [strLen, bs_cut, bs_size]; omega
      · have hcn : ((c.toNat : Int) != 37) = true := by
          have : c.toNat ≠ 37 := fun h => hc (by rw [← UInt8.ofNat_toNat (x := c), h]; rfl)
          simp; omega
        have hu2 := unqA_ne c l acc hc
        have HU := Aside0.mk (hu.out.trans hu2)
        clear hu2 hu hc
        have hsl : 1 ≤ (bs (c :: l)).size := by rw [bs_size]; simp
        go_wp2_with (first | (go_at_call 38; refine (Try.Builder_WriteByte_k _ _ _ _ _ HB.out (by have := HL.out; omega) Hb.out.size).mono ?_; rintro e w1 ⟨rfl, h1, b1, _⟩; have H1 := Aside0.mk h1; have B1 := Aside0.mk b1; clear h1 b1))
        go_roundw
        case rel => exact ⟨l, acc ++ [c], by rw [bs_cut]; rfl, by simp; omega, by rw [bc_append]; exact .inr H1.out, Hb.out.trans B1.out, HU⟩
        case measure => simp [strLen, bs_cut, bs_size]

theorem unquote_37 (w : World) : Calls Try.prog 20 #[.string ⟨#[37]⟩] w fun e w' => e = .returned (.tuple #[.string (bs []), .int .i64 0]) ∧ Below w.heap.size w w' := by
  go_enter Try.func20, Try.ntmps20
  go_wp2
  go_ret2
  exact ⟨rfl, Below.refl _ _⟩
theorem unquote_any (s : List UInt8) (hs : s.length ≤ 1000000) (w : World) :
    Calls Try.prog 20 #[.string (bs s)] w fun e w' => e = .returned (.tuple #[.string (bs (unqF s).1), .int .i64 (unqF s).2]) ∧ Below w.heap.size w w' := by
  by_cases h : s = [37]
  · subst h
    have e : unqF [37] = ([], 0) := if_pos rfl
    rw [e]; exact unquote_37 w
  · exact unquote_walk s hs h w
end Go.Proofs.Ytdkaokjnfkfngaa.Given
