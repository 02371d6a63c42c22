/- PhiloxTurned: a block can be turned back: of one key two blocks are alike just where their counters are. -/
import Derived.Test.YtngkpekmgahjiaaQfuPhiloxF
import Derived.Test.YtngkpekmgahjiaaQfuM5
import Derived.Test.YtngkpekmgahjiaaQfuPx3

namespace Go.Proofs.Ytngkpekmgahjiaa.Pure
open Go.RowKit Go.Proofs.Ytngkpekmgahjiaa.P Go.Proofs.Ytngkpekmgahjiaa.Num Go.Proofs.Ytngkpekmgahjiaa.Philox Go.Proofs.YtngkpekmgahjiaaW.PrintWords Go.Proofs.YtngkpekmgahjiaaW.PrintLast Go.Proofs.YtngkpekmgahjiaaW.PrintMore

def onceP (a b : Int) (s : Int × Int × Int × Int) : Int × Int × Int × Int :=
  (Go.bits .xor .u32 (Go.bits .xor .u32 (((IntKind.u64.wrap ((IntKind.u64.wrap (s.2.2.1)) * 3449720151)) / 4294967296) % 4294967296) s.2.1) a,
   (IntKind.u64.wrap ((IntKind.u64.wrap (s.2.2.1)) * 3449720151)) % 4294967296,
   Go.bits .xor .u32 (Go.bits .xor .u32 (((IntKind.u64.wrap ((IntKind.u64.wrap (s.1)) * 3528531795)) / 4294967296) % 4294967296) s.2.2.2) b,
   (IntKind.u64.wrap ((IntKind.u64.wrap (s.1)) * 3528531795)) % 4294967296)
theorem onceP_in (a b : Int) (s : Int × Int × Int × Int) : In4 (onceP a b s) := ⟨xor_in _ _, mod_in _, xor_in _ _, mod_in _⟩
def turnN : Nat → Int → Int → (Int × Int × Int × Int) → Int × Int × Int × Int
  | 0, _, _, s => s
  | d + 1, a, b, s => turnN d ((a + 2654435769) % 4294967296) ((b + 3144134277) % 4294967296) (onceP a b s)
theorem turn_loop (d : Nat) : ∀ (i : Nat), i + d = 10 → ∀ (a b : Int) (s : Int × Int × Int × Int), Ev (fun k => philox_Block.l0 k (i : Int) a b s.1 s.2.1 s.2.2.1 s.2.2.2) (turnN d a b s) := by
  induction d with
  | zero =>
    intro i hi a b s
    exact Ev.step (fun k => by rw [philox_Block.l0, if_neg (by omega)]; rfl) (Ev.now _)
  | succ d ih =>
    intro i hi a b s
    have h := ih (i + 1) (by omega) ((a + 2654435769) % 4294967296) ((b + 3144134277) % 4294967296) (onceP a b s)
    refine Ev.step (fun k => by rw [philox_Block.l0, if_pos (by omega), show philox_once.f a b s.1 s.2.1 s.2.2.1 s.2.2.2 = some (onceP a b s) from rfl, Option.bind_some, w64_id _ (by omega) (by omega)]) ?_
    exact Ev.congr (fun k => by rw [Int.natCast_add]; rfl) h

/-- Odd factors can be taken back. -/
theorem odd_back {x y : Int} (hx : 0 ≤ x ∧ x < 4294967296) (hy : 0 ≤ y ∧ y < 4294967296) (m i : Int) (hm : (m * i) % 4294967296 = 1)
    (h : (IntKind.u64.wrap ((IntKind.u64.wrap x) * m)) % 4294967296 = (IntKind.u64.wrap ((IntKind.u64.wrap y) * m)) % 4294967296) : x = y := by
  rw [u64_wrap, u64_wrap, u64_wrap, u64_wrap] at h
  rw [Int.emod_emod_of_dvd _ (by decide), Int.emod_emod_of_dvd _ (by decide), Int.emod_eq_of_lt hx.1 (by omega), Int.emod_eq_of_lt hy.1 (by omega)] at h
  have e : ∀ z : Int, 0 ≤ z ∧ z < 4294967296 → (z * m % 4294967296 * i) % 4294967296 = z := by
    intro z hz
    rw [Int.mul_emod, Int.emod_emod, ← Int.mul_emod, Int.mul_assoc, Int.mul_emod, hm, Int.mul_one, Int.emod_emod, Int.emod_eq_of_lt hz.1 hz.2]
  rw [← e x hx, ← e y hy, h]

theorem xor_back {a b c : Int} (ha : 0 ≤ a ∧ a < 4294967296) (hb : 0 ≤ b ∧ b < 4294967296) (hc : 0 ≤ c ∧ c < 4294967296)
    (h : Go.bits .xor .u32 a c = Go.bits .xor .u32 b c) : a = b := by
  obtain ⟨a, rfl⟩ := nat_of ha.1
  obtain ⟨b, rfl⟩ := nat_of hb.1
  obtain ⟨c, rfl⟩ := nat_of hc.1
  rw [xor_u32 _ _ (by omega) (by omega), xor_u32 _ _ (by omega) (by omega)] at h
  have h' : a ^^^ c = b ^^^ c := by exact_mod_cast h
  have h2 : (a ^^^ c) ^^^ c = (b ^^^ c) ^^^ c := by rw [h']
  rw [Nat.xor_assoc, Nat.xor_assoc, Nat.xor_self, Nat.xor_zero, Nat.xor_zero] at h2
  rw [h2]
theorem xor_back' {a b c : Int} (ha : 0 ≤ a ∧ a < 4294967296) (hb : 0 ≤ b ∧ b < 4294967296) (hc : 0 ≤ c ∧ c < 4294967296)
    (h : Go.bits .xor .u32 c a = Go.bits .xor .u32 c b) : a = b := by
  obtain ⟨a, rfl⟩ := nat_of ha.1
  obtain ⟨b, rfl⟩ := nat_of hb.1
  obtain ⟨c, rfl⟩ := nat_of hc.1
  rw [xor_u32 _ _ (by omega) (by omega), xor_u32 _ _ (by omega) (by omega)] at h
  have h' : c ^^^ a = c ^^^ b := by exact_mod_cast h
  have h2 : c ^^^ (c ^^^ a) = c ^^^ (c ^^^ b) := by rw [h']
  rw [← Nat.xor_assoc, ← Nat.xor_assoc, Nat.xor_self, Nat.zero_xor, Nat.zero_xor] at h2
  rw [h2]

theorem once_back {a b : Int} (ha : 0 ≤ a ∧ a < 4294967296) (hb : 0 ≤ b ∧ b < 4294967296) {s t : Int × Int × Int × Int} (hs : In4 s) (ht : In4 t) (h : onceP a b s = onceP a b t) : s = t := by
  obtain ⟨s0, s1, s2, s3⟩ := s
  obtain ⟨t0, t1, t2, t3⟩ := t
  obtain ⟨hs0, hs1, hs2, hs3⟩ := hs
  obtain ⟨ht0, ht1, ht2, ht3⟩ := ht
  unfold onceP at h
  simp only [Prod.mk.injEq] at h
  simp only at hs0 hs1 hs2 hs3 ht0 ht1 ht2 ht3
  obtain ⟨h0, h1, h2, h3⟩ := h
  obtain rfl := odd_back hs2 ht2 3449720151 1836887655 (by decide) h1
  obtain rfl := odd_back hs0 ht0 3528531795 2568649947 (by decide) h3
  have k0 := xor_back (xor_in _ _) (xor_in _ _) ha h0
  have k2 := xor_back (xor_in _ _) (xor_in _ _) hb h2
  obtain rfl := xor_back' hs1 ht1 (mod_in _) k0
  obtain rfl := xor_back' hs3 ht3 (mod_in _) k2
  rfl
theorem turn_back (d : Nat) : ∀ {a b : Int}, (0 ≤ a ∧ a < 4294967296) → (0 ≤ b ∧ b < 4294967296) → ∀ {s t : Int × Int × Int × Int}, In4 s → In4 t → turnN d a b s = turnN d a b t → s = t := by
  induction d with
  | zero => intro a b _ _ s t _ _ h; exact h
  | succ d ih =>
    intro a b ha hb s t hs ht h
    exact once_back ha hb hs ht (ih (mod_in _) (mod_in _) (onceP_in _ _ _) (onceP_in _ _ _) h)

theorem eq4 (r s : Int × Int × Int × Int) : (r.1 == s.1 && (r.2.1 == s.2.1 && (r.2.2.1 == s.2.2.1 && (r.2.2.2 == s.2.2.2)))) = decide (r = s) := by
  obtain ⟨r0, r1, r2, r3⟩ := r
  obtain ⟨s0, s1, s2, s3⟩ := s
  rw [Bool.eq_iff_iff]
  simp
theorem PhiloxTurned (a b c0 c1 c2 c3 d0 d1 d2 d3 : Int) (ha : (Lit.int .u32 a).wf = true) (hb : (Lit.int .u32 b).wf = true)
    (hc0 : (Lit.int .u32 c0).wf = true) (hc1 : (Lit.int .u32 c1).wf = true) (hc2 : (Lit.int .u32 c2).wf = true) (hc3 : (Lit.int .u32 c3).wf = true)
    (hd0 : (Lit.int .u32 d0).wf = true) (hd1 : (Lit.int .u32 d1).wf = true) (hd2 : (Lit.int .u32 d2).wf = true) (hd3 : (Lit.int .u32 d3).wf = true) :
    ∃ k, anneallaw10_PhiloxTurned.f k a b c0 c1 c2 c3 d0 d1 d2 d3 = some true := by
  apply Ev.rounds
  unfold anneallaw10_PhiloxTurned.f
  refine Ev.bind known_ev ?_
  simp only [if_true]
  have hs : In4 (c0, c1, c2, c3) := ⟨wf_u32 hc0, wf_u32 hc1, wf_u32 hc2, wf_u32 hc3⟩
  have ht : In4 (d0, d1, d2, d3) := ⟨wf_u32 hd0, wf_u32 hd1, wf_u32 hd2, wf_u32 hd3⟩
  have h1 := turn_loop 10 0 rfl a b (c0, c1, c2, c3)
  have h2 := turn_loop 10 0 rfl a b (d0, d1, d2, d3)
  refine Ev.bind (Ev.congr (fun k => rfl) h1) (Ev.bind (Ev.congr (fun k => rfl) h2) (Ev.congr (fun k => ?_) (Ev.now _)))
  congr 1
  have e1 := eq4 (turnN 10 a b (c0, c1, c2, c3)) (turnN 10 a b (d0, d1, d2, d3))
  have e2 := eq4 (c0, c1, c2, c3) (d0, d1, d2, d3)
  dsimp only at e2
  rw [e1, e2, beq_iff_eq]
  by_cases c : (c0, c1, c2, c3) = (d0, d1, d2, d3)
  · rw [c]; simp
  · rw [decide_eq_false c, decide_eq_false (fun h => c (turn_back 10 (wf_u32 ha) (wf_u32 hb) hs ht h))]
end Go.Proofs.Ytngkpekmgahjiaa.Pure
