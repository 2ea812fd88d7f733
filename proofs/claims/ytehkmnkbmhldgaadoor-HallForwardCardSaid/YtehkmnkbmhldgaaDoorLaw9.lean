/- The walk of HallForward, both directions and any length. -/
import Derived.Test.YtehkmnkbmhldgaaDoorLaw7
import Derived.Test.YtehkmnkbmhldgaaDoorLaw8
namespace Go.Proofs.YtehkmnkbmhldgaaDoor
open Go.RowKit

theorem fwd_any (f : Int) (back : Bool) (A : Option Addr) (n c : Nat) (tk : Nat → Int) (bd : Nat → Bool) (hf : 0 ≤ f) (hm : n ≤ 9223372036854775807) (w : World) (T : Tabs w)
    (hA : 0 < n → ∃ b off, A = some ⟨b, off, none⟩ ∧ b < w.heap.size ∧ ∀ k, k < n → (0 ≤ tk k ∧ tk k ≤ 255) ∧ w.cell? ⟨b, off + k * 2, none⟩ = some (.int .u8 (tk k)) ∧ w.cell? ⟨b, off + k * 2 + 1, none⟩ = some (.bool (bd k))) : Calls Tryd.prog 7 #[.int .u8 f, .bool back, .slice A n c] w fun e w' => e = .returned (.bool true) ∧ Below w.heap.size w w' := by
  by_cases h60 : n ≤ 60
  · cases back with
    | false => exact fwd_false f A n c tk bd hf h60 w T hA
    | true => exact fwd_true f A n c tk bd hf h60 w T hA
  · exact fwd_long f back A n c (by omega) (by omega) w T
end Go.Proofs.YtehkmnkbmhldgaaDoor
