/- Layer 10: every word is below 2^32, a number below another is below it, words are a block's parts. -/
import Derived.Test.YtngkpekmgahjiaaQfeM7
import Derived.Test.YtngkpekmgahjiaaQfeM5
import Derived.Test.YtngkpekmgahjiaaQfePx3

namespace Go.Proofs.Ytngkpekmgahjiaa.Philox
open Go.RowKit Go.Proofs.Ytngkpekmgahjiaa.P Go.Proofs.Ytngkpekmgahjiaa.Num Go.Proofs.YtngkpekmgahjiaaW.PrintWords Go.Proofs.YtngkpekmgahjiaaW.PrintLast Go.Proofs.YtngkpekmgahjiaaW.PrintMore

theorem xor_in (a b : Int) : 0 ≤ Go.bits .xor .u32 a b ∧ Go.bits .xor .u32 a b < 4294967296 := by
  show 0 ≤ IntKind.u32.wrap _ ∧ IntKind.u32.wrap _ < 4294967296
  rw [u32_wrap]; exact ⟨Int.emod_nonneg _ (by decide), Int.emod_lt_of_pos _ (by decide)⟩
theorem mod_in (a : Int) : 0 ≤ a % 4294967296 ∧ a % 4294967296 < 4294967296 := ⟨Int.emod_nonneg _ (by decide), Int.emod_lt_of_pos _ (by decide)⟩
def In4 (r : Int × Int × Int × Int) : Prop := (0 ≤ r.1 ∧ r.1 < 4294967296) ∧ (0 ≤ r.2.1 ∧ r.2.1 < 4294967296) ∧ (0 ≤ r.2.2.1 ∧ r.2.2.1 < 4294967296) ∧ (0 ≤ r.2.2.2 ∧ r.2.2.2 < 4294967296)
theorem once_in (a b c d e f : Int) : ∃ r, philox_once.f a b c d e f = some r ∧ In4 r :=
  ⟨_, rfl, xor_in _ _, mod_in _, xor_in _ _, mod_in _⟩
theorem block_loop (d : Nat) : ∀ (i : Nat), i + d = 10 → ∀ a b c e f g : Int, (d = 0 → In4 (c, e, f, g)) → ∃ r, Ev (fun k => philox_Block.l0 k (i : Int) a b c e f g) r ∧ In4 r := by
  induction d with
  | zero =>
    intro i hi a b c e f g h
    exact ⟨_, Ev.step (fun k => by rw [philox_Block.l0, if_neg (by omega)]) (Ev.now _), h rfl⟩
  | succ d ih =>
    intro i hi a b c e f g _
    obtain ⟨r, hr, hin⟩ := once_in a b c e f g
    obtain ⟨s, hs, hins⟩ := ih (i + 1) (by omega) ((a + 2654435769) % 4294967296) ((b + 3144134277) % 4294967296) r.1 r.2.1 r.2.2.1 r.2.2.2 (fun _ => hin)
    refine ⟨s, Ev.step (fun k => by rw [philox_Block.l0, if_pos (by omega), hr, Option.bind_some, w64_id _ (by omega) (by omega)]) ?_, hins⟩
    exact Ev.congr (fun k => by rw [Int.natCast_add]; rfl) hs
theorem block_ev (a b c e f g : Int) : ∃ r, Ev (fun k => philox_Block.f k a b c e f g) r ∧ In4 r := by
  obtain ⟨r, h, hin⟩ := block_loop 10 0 rfl a b c e f g (fun h => by cases h)
  exact ⟨r, Ev.congr (fun k => rfl) h, hin⟩
theorem word_ev (a b n : Int) (hn : 0 ≤ n) : ∃ w, Ev (fun k => philox_Word.f k a b n) w ∧ 0 ≤ w ∧ w < 4294967296 := by
  obtain ⟨r, h, h1, h2, h3, h4⟩ := block_ev ((a) % 4294967296) ((a / 4294967296) % 4294967296) ((IntKind.u64.wrap (Int.tdiv n 4)) % 4294967296) (((IntKind.u64.wrap (Int.tdiv n 4)) / 4294967296) % 4294967296) b 0
  have e := Int.tmod_eq_emod_of_nonneg (b := 4) hn
  have c : n % 4 = 0 ∨ n % 4 = 1 ∨ n % 4 = 2 ∨ n % 4 = 3 := by omega
  rcases c with c | c | c | c
  · exact ⟨r.1, Ev.congr (fun k => by unfold philox_Word.f; rfl) (Ev.bind h (Ev.congr (fun k => by rw [e, c]; rfl) (Ev.now _))), h1⟩
  · exact ⟨r.2.1, Ev.congr (fun k => by unfold philox_Word.f; rfl) (Ev.bind h (Ev.congr (fun k => by rw [e, c]; rfl) (Ev.now _))), h2⟩
  · exact ⟨r.2.2.1, Ev.congr (fun k => by unfold philox_Word.f; rfl) (Ev.bind h (Ev.congr (fun k => by rw [e, c]; rfl) (Ev.now _))), h3⟩
  · exact ⟨r.2.2.2, Ev.congr (fun k => by unfold philox_Word.f; rfl) (Ev.bind h (Ev.congr (fun k => by rw [e, c]; rfl) (Ev.now _))), h4⟩
theorem known_ev : Ev (fun k => anneallaw10_known.f k) true := Ev.of anneallaw10_known.mono (k := 40) (by kernel_rfl)
end Go.Proofs.Ytngkpekmgahjiaa.Philox
