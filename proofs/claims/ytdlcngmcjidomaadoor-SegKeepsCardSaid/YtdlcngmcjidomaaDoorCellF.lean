/- The contract of heijunkaref06.Decode. No condition but the reach of a slice. -/
import Derived.Test.YtdlcngmcjidomaaDoorCellE
import Derived.Test.YtdlcngmcjidomaaDoorRowsB
namespace Go.Proofs.YtdlcngmcjidomaaDoor
set_option linter.unusedSimpArgs false
set_option linter.unusedVariables false
open Go.RowKit

theorem wrap32_in (n : Int) (h0 : 0 ≤ n) (h1 : n < 4294967296) : IntKind.u32.wrap n = n := by rw [IntKind.wrap_u32]; omega
theorem num_cons (x : Nat) (m : List Nat) : Crc.num (x :: m) = x + 256 * Crc.num m := rfl
theorem num_up {l : List Nat} {a k x : Nat} (hx : l[a]? = some x) : Crc.num ((l.drop a).take (k + 1)) = x + 256 * Crc.num ((l.drop (a + 1)).take k) := by
  obtain ⟨ha, e⟩ := List.getElem?_eq_some_iff.1 hx
  rw [List.drop_eq_getElem_cons ha, List.take_succ_cons, num_cons, e]
theorem num_take_lt' {l : List Nat} (hl : ∀ c ∈ l, c < 256) (a k : Nat) (hk : k ≤ 4) : Crc.num ((l.drop a).take k) < 2 ^ (8 * k) := num_take_lt (fun c hc => hl c (List.mem_of_mem_drop hc)) k hk

end Go.Proofs.YtdlcngmcjidomaaDoor
