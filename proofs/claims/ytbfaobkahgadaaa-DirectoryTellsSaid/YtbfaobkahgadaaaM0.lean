/- Proved here: walks: what functions of this seat's program return and what they leave of memory, each as a contract. Conditions: stated at each theorem. -/
import Derived.Test.YtbfaobkahgadaaaHB
namespace Go.Proofs.Ytbfaobkahgadaaa
set_option linter.unusedVariables false
set_option linter.unusedSimpArgs false
open Go
open V (Bytes Meets Env Sl Own Gr Fr Cells S)

theorem oneB {w : World} {k t : Nat} (F : Cells w k [.int .u8 0] t) : Bytes w (fun _ => True) (some ⟨k, 0, none⟩) 1 [0] := F.sl (xs := [(0 : UInt8)]) (V.reps_one rfl) trivial (by simp [maxLen])
theorem nilB (w : World) : Bytes w V.None' none 0 [] := Sl.nil _ _ _ none 0 (by simp [maxLen])

end Go.Proofs.Ytbfaobkahgadaaa
