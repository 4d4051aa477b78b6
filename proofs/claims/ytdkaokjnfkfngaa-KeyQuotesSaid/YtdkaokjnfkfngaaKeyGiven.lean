/- The contracts of key.Quote and key.Unquote in the form in which the printed walks meet them. -/
import Derived.Test.YtdkaokjnfkfngaaKeyUnq
set_option linter.unusedVariables false
namespace Go.Proofs.Ytdkaokjnfkfngaa.Given
open Go.RowKit Go.Proofs Go.Proofs.Ytdkaokjnfkfngaa.Bs Go.Proofs.Ytdkaokjnfkfngaa.KeyPlain
def key_Quote.f (a0 : ByteArray) : Option ByteArray := if a0.size ≤ 10000000 then some (bs (quoteL a0.data.toList)) else none
theorem key_Quote.calls (a0 : ByteArray) (r : ByteArray) (w : World) (h : key_Quote.f a0 = some r) :
    Calls Try.prog 22 #[.string a0] w fun e w' => e = .returned (.string r) ∧ Below w.heap.size w w' := by
  unfold key_Quote.f at h
  split at h
  · rename_i hs
    have := quote_any a0.data.toList (by simpa using hs) w
    rw [← bs_of] at this
    injection h with h
    rw [h] at this
    exact this
  · cases h
def key_Unquote.f (a0 : ByteArray) : Option (ByteArray × Int) := if a0.size ≤ 1000000 then some (bs (unqF a0.data.toList).1, (unqF a0.data.toList).2) else none
theorem key_Unquote.calls (a0 : ByteArray) (r1 : ByteArray) (r2 : Int) (w : World) (h : key_Unquote.f a0 = some (r1, r2)) :
    Calls Try.prog 20 #[.string a0] w fun e w' => e = .returned (.tuple #[.string r1, .int .i64 r2]) ∧ Below w.heap.size w w' := by
  unfold key_Unquote.f at h
  split at h
  · rename_i hs
    have := unquote_any a0.data.toList (by simpa using hs) w
    rw [← bs_of] at this
    injection h with h
    injection h with h1 h2
    rw [h1, h2] at this
    exact this
  · cases h
end Go.Proofs.Ytdkaokjnfkfngaa.Given
