/- Layer 10: every word is below 2^32, a number below another is below it, words are a block's parts. -/
import Derived.Test.YtngkpekmgahjiaaQfuM5
import Derived.Test.YtngkpekmgahjiaaQfuPx3

namespace Go.Proofs.Ytngkpekmgahjiaa.Philox
open Go.RowKit Go.Proofs.Ytngkpekmgahjiaa.P Go.Proofs.Ytngkpekmgahjiaa.Num Go.Proofs.YtngkpekmgahjiaaW.PrintWords Go.Proofs.YtngkpekmgahjiaaW.PrintLast Go.Proofs.YtngkpekmgahjiaaW.PrintMore

theorem xor_in (a b : Int) : 0 ≤ Go.bits .xor .u32 a b ∧ Go.bits .xor .u32 a b < 4294967296 := by
  show 0 ≤ IntKind.u32.wrap _ ∧ IntKind.u32.wrap _ < 4294967296
  rw [u32_wrap]; exact ⟨Int.emod_nonneg _ (by decide), Int.emod_lt_of_pos _ (by decide)⟩
theorem mod_in (a : Int) : 0 ≤ a % 4294967296 ∧ a % 4294967296 < 4294967296 := ⟨Int.emod_nonneg _ (by decide), Int.emod_lt_of_pos _ (by decide)⟩
def In4 (r : Int × Int × Int × Int) : Prop := (0 ≤ r.1 ∧ r.1 < 4294967296) ∧ (0 ≤ r.2.1 ∧ r.2.1 < 4294967296) ∧ (0 ≤ r.2.2.1 ∧ r.2.2.1 < 4294967296) ∧ (0 ≤ r.2.2.2 ∧ r.2.2.2 < 4294967296)
theorem known_ev : Ev (fun k => anneallaw10_known.f k) true := Ev.of anneallaw10_known.mono (k := 40) (by kernel_rfl)
end Go.Proofs.Ytngkpekmgahjiaa.Philox
