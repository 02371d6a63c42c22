import Derived.Test.YtngkpekmgahjiaaQwtZ
import Derived.Test.YtngkpekmgahjiaaQwtM1
import Derived.Test.YtngkpekmgahjiaaQwtM4
-- Printed by a program of this session's out of Lean's print of the translation; Lean checks it.
namespace Go.Proofs.Ytngkpekmgahjiaa.P
open Go.RowKit Go.Proofs.YtngkpekmgahjiaaW.PrintWords Go.Proofs.YtngkpekmgahjiaaW.PrintLast Go.Proofs.YtngkpekmgahjiaaW.PrintMore
attribute [local go_sem] max2_int min2_int max_two min_two max_three min_three max_four min_four
set_option linter.unusedVariables false
set_option linter.unusedSimpArgs false

/-! ### annealref1_Pack: function 52 -/
mutual
def annealref1_Pack.j0 : Nat → Int → Int → Bool → Int → Int → Bool → Bool → Option (Int × Bool × Bool × Bool × Bool × Bool)
 |0, _, _, _, _, _, _, _ => none
 |k + 1, x0, x1, x2, x3, x4, x5, x35 => if x35 = true then ((annealref1_Zero.f x0 x2).bind fun t301 => (some (t301, false, false, false, false, false))) else ((annealref1_Widths.f x0).bind fun bt302 => ((annealref1_bias.f x0).bind fun t304 => ((annealref1_Len.f k x4).bind fun t305 => (if x4 = 0 then (annealref1_Pack.j1 k x0 x1 x2 x3 x4 x5 bt302.2 (wrap64 (1 - t304)) (-20000)) else (annealref1_Pack.j1 k x0 x1 x2 x3 x4 x5 bt302.2 (wrap64 (1 - t304)) (wrap64 ((wrap64 (x3 + t305)) - 1)))))))
def annealref1_Pack.j1 : Nat → Int → Int → Bool → Int → Int → Bool → Int → Int → Int → Option (Int × Bool × Bool × Bool × Bool × Bool)
 |0, _, _, _, _, _, _, _, _, _ => none
 |k + 1, x0, x1, x2, x3, x4, x5, x15, x16, x17 => (annealref1_divide.f k x4 (wrap64 ((wrap64 ((mx x17 x16) - x15)) - x3))).bind fun bt306 => (if bt306.2.2 = true then (annealref1_Pack.j2 k x0 x1 x2 x15 x16 x17 (wrap64 ((mx x17 x16) - x15)) bt306.1 bt306.2.1 true) else (annealref1_Pack.j2 k x0 x1 x2 x15 x16 x17 (wrap64 ((mx x17 x16) - x15)) bt306.1 bt306.2.1 x5))
def annealref1_Pack.j2 : Nat → Int → Int → Bool → Int → Int → Int → Int → Int → Bool → Bool → Option (Int × Bool × Bool × Bool × Bool × Bool)
 |0, _, _, _, _, _, _, _, _, _, _ => none
 |k + 1, x0, x1, x2, x15, x16, x17, x18, x19, x20, x21 => if x20 = true then (annealref1_Pack.j3 k x0 x1 x2 x15 x16 x17 x18 x19 x20 x21 true) else (annealref1_Pack.j3 k x0 x1 x2 x15 x16 x17 x18 x19 x20 x21 x21)
def annealref1_Pack.j3 : Nat → Int → Int → Bool → Int → Int → Int → Int → Int → Bool → Bool → Bool → Option (Int × Bool × Bool × Bool × Bool × Bool)
 |0, _, _, _, _, _, _, _, _, _, _, _ => none
 |k + 1, x0, x1, x2, x15, x16, x17, x18, x19, x20, x21, x22 => (annealref1_up.f x1 x2 ((Go.bits .and .u64 x19 1) == 1) x20 x21).bind fun t309 => (if t309 = true then (annealref1_Pack.j4 k x0 x1 x2 x15 x16 x17 x18 (IntKind.u64.wrap (x19 + 1)) x22) else (annealref1_Pack.j4 k x0 x1 x2 x15 x16 x17 x18 x19 x22))
def annealref1_Pack.j4 : Nat → Int → Int → Bool → Int → Int → Int → Int → Int → Bool → Option (Int × Bool × Bool × Bool × Bool × Bool)
 |0, _, _, _, _, _, _, _, _, _ => none
 |k + 1, x0, x1, x2, x15, x16, x17, x18, x19, x22 => if x22 = true then (if 0 ≤ (wrap64 (x15 + 1)) then (if x19 = (shl .u64 1 (wrap64 (x15 + 1))) then (annealref1_Pack.j5 k x0 x1 x2 x15 (wrap64 (x18 + 1)) (x19 / 2) false false false (decide (x17 < x16)) x22) else (annealref1_Pack.j5 k x0 x1 x2 x15 x18 x19 false false false (decide (x17 < x16)) x22)) else (none)) else (if 0 ≤ (wrap64 (x15 + 1)) then (if x19 = (shl .u64 1 (wrap64 (x15 + 1))) then (annealref1_Pack.j6 k x0 x1 x2 x15 (wrap64 (x18 + 1)) (x19 / 2) false false false false x22) else (annealref1_Pack.j6 k x0 x1 x2 x15 x18 x19 false false false false x22)) else (none))
def annealref1_Pack.j5 : Nat → Int → Int → Bool → Int → Int → Int → Bool → Bool → Bool → Bool → Bool → Option (Int × Bool × Bool × Bool × Bool × Bool)
 |0, _, _, _, _, _, _, _, _, _, _, _ => none
 |k + 1, x0, x1, x2, x15, x18, x19, x311000, x311001, x311002, x311003, x311004 => if 0 ≤ x15 then (if x19 < (shl .u64 1 x15) then ((annealref1_sign.f x0 x2).bind fun t311 => (some (Go.bits .or .u32 t311 ((x19) % 4294967296), x311000, x311001, x311002, x311003, x311004))) else ((annealref1_bias.f x0).bind fun t312 => ((annealref1_Widths.f x0).bind fun bt313 => (if 0 ≤ bt313.1 then (if (wrap64 ((wrap64 (x18 + x15)) + t312)) ≥ (wrap64 ((shl .i64 1 bt313.1) - 1)) then ((annealref1_over.f k x0 x1 x2).bind fun t315 => (some (t315, false, false, true, false, true))) else ((annealref1_sign.f x0 x2).bind fun t316 => (some (Go.bits .or .u32 (Go.bits .or .u32 t316 (shl .u32 ((wrap64 ((wrap64 (x18 + x15)) + t312)) % 4294967296) x15)) ((Go.bits .and .u64 x19 (IntKind.u64.wrap ((shl .u64 1 x15) - 1))) % 4294967296), x311000, x311001, x311002, x311003, x311004)))) else (none))))) else (none)
def annealref1_Pack.j6 : Nat → Int → Int → Bool → Int → Int → Int → Bool → Bool → Bool → Bool → Bool → Option (Int × Bool × Bool × Bool × Bool × Bool)
 |0, _, _, _, _, _, _, _, _, _, _, _ => none
 |k + 1, x0, x1, x2, x15, x18, x19, x318000, x318001, x318002, x318003, x318004 => if 0 ≤ x15 then (if x19 < (shl .u64 1 x15) then ((annealref1_sign.f x0 x2).bind fun t318 => (some (Go.bits .or .u32 t318 ((x19) % 4294967296), x318000, x318001, x318002, x318003, x318004))) else ((annealref1_bias.f x0).bind fun t319 => ((annealref1_Widths.f x0).bind fun bt320 => (if 0 ≤ bt320.1 then (if (wrap64 ((wrap64 (x18 + x15)) + t319)) ≥ (wrap64 ((shl .i64 1 bt320.1) - 1)) then ((annealref1_over.f k x0 x1 x2).bind fun t322 => (some (t322, false, false, true, false, true))) else ((annealref1_sign.f x0 x2).bind fun t323 => (some (Go.bits .or .u32 (Go.bits .or .u32 t323 (shl .u32 ((wrap64 ((wrap64 (x18 + x15)) + t319)) % 4294967296) x15)) ((Go.bits .and .u64 x19 (IntKind.u64.wrap ((shl .u64 1 x15) - 1))) % 4294967296), x318000, x318001, x318002, x318003, x318004)))) else (none))))) else (none)
end
def annealref1_Pack.f (k : Nat) (a0 : Int) (a1 : Int) (a2 : Bool) (a3 : Int) (a4 : Int) (a5 : Bool) : Option (Int × Bool × Bool × Bool × Bool × Bool) := if a4 = 0 then (annealref1_Pack.j0 k a0 a1 a2 (mn (mx a3 (-10000)) 10000) a4 a5 (!a5)) else (annealref1_Pack.j0 k a0 a1 a2 (mn (mx a3 (-10000)) 10000) a4 a5 false)
def annealref1_Pack.T19 : Bool × List (List Nat × List Nat) := (true, [([], []), ([], []), ([0, 1], [0, 1]), ([], []), ([3], [3]), ([2, 4], [2, 4]), ([], []), ([5, 2, 0, 1, 2, 3, 4, 5], [5]), ([6, 7, 0, 1, 2, 3, 4, 5, 6, 7], [6])])
def annealref1_Pack.B19 : List Nat := [0, 0, 3, 0, 8, 31, 0, 63, 255]
theorem annealref1_Pack.tab19 : rtab .any (opsOf Try.f52 19) = annealref1_Pack.T19 := by kernel_rfl
theorem annealref1_Pack.bits19 : waitsOk annealref1_Pack.T19.2 annealref1_Pack.B19 = true := by kernel_rfl
def annealref1_Pack.T24 : Bool × List (List Nat × List Nat) := (true, [([], []), ([], []), ([0, 1], [0, 1]), ([], []), ([3], [3]), ([], []), ([4, 5], [4, 5]), ([2, 6], [2, 6]), ([], []), ([], []), ([9], [9]), ([10], [10]), ([8, 11], [8, 11]), ([12], [12]), ([7, 13], [7, 13]), ([], []), ([14, 2, 0, 1, 2, 3, 4, 5, 6, 7, 8, 9, 10, 11, 12, 13, 14], [14]), ([15, 16, 0, 1, 2, 3, 4, 5, 6, 7, 8, 9, 10, 11, 12, 13, 14, 15, 16], [15])])
def annealref1_Pack.B24 : List Nat := [0, 0, 3, 0, 8, 0, 56, 127, 0, 0, 512, 1536, 3840, 7936, 16383, 0, 32767, 131071]
theorem annealref1_Pack.tab24 : rtab .any (opsOf Try.f52 24) = annealref1_Pack.T24 := by kernel_rfl
theorem annealref1_Pack.bits24 : waitsOk annealref1_Pack.T24.2 annealref1_Pack.B24 = true := by kernel_rfl
set_option maxHeartbeats 8000000 in
set_option maxRecDepth 100000 in
theorem annealref1_Pack.calls (k : Nat) (a0 : Int) (a1 : Int) (a2 : Bool) (a3 : Int) (a4 : Int) (a5 : Bool) (r1 : Int) (r2 : Bool) (r3 : Bool) (r4 : Bool) (r5 : Bool) (r6 : Bool) (w : World) (h : annealref1_Pack.f k a0 a1 a2 a3 a4 a5 = some (r1, r2, r3, r4, r5, r6)) :
  Calls Try.prog 52 #[.int .i64 a0, .int .i64 a1, .bool a2, .int .i64 a3, .int .u64 a4, .bool a5] w fun e w' => e = .returned (.tuple #[.int .u32 r1, .agg #[.bool r2, .bool r3, .bool r4, .bool r5, .bool r6]]) ∧ Below w.heap.size w w' := by
 have hu41 := Try.underlying41
 have HB := Aside0.mk (Below.refl w.heap.size w)
 have H : (if a4 = 0 then (annealref1_Pack.j0 k a0 a1 a2 (mn (mx a3 (-10000)) 10000) a4 a5 (!a5)) else (annealref1_Pack.j0 k a0 a1 a2 (mn (mx a3 (-10000)) 10000) a4 a5 false)) = some (r1, r2, r3, r4, r5, r6) := h
 clear h
 obtain ⟨ji7, hji7⟩ : ∃ j_ : Int, (mx a3 (-10000)) = j_ := ⟨_, rfl⟩
 replace H : (if a4 = 0 then (annealref1_Pack.j0 k a0 a1 a2 (mn (ji7) 10000) a4 a5 (!a5)) else (annealref1_Pack.j0 k a0 a1 a2 (mn (ji7) 10000) a4 a5 false)) = some (r1, r2, r3, r4, r5, r6) := by first | (rw [hji7] at H; exact H) | (simp only [hji7] at H ⊢; exact H)
 have hji7_ : (if a3 < (-10000) then (-10000) else a3) = ji7 := hji7
 obtain ⟨ji8, hji8⟩ : ∃ j_ : Int, (mn (ji7) 10000) = j_ := ⟨_, rfl⟩
 replace H : (if a4 = 0 then (annealref1_Pack.j0 k a0 a1 a2 ji8 a4 a5 (!a5)) else (annealref1_Pack.j0 k a0 a1 a2 ji8 a4 a5 false)) = some (r1, r2, r3, r4, r5, r6) := by first | (rw [hji8] at H; exact H) | (simp only [hji8] at H ⊢; exact H)
 have hji8_ : (if 10000 < (ji7) then 10000 else (ji7)) = ji8 := hji8
 have HC9 := Aside0.mk H
 clear H
 go_enter Try.func52, Try.ntmps52
 go_upto_region 2 with (first | ((with_reducible refine gate_dst (N := 13) rfl ?_); refine box_event ?hg (N := 13) ?hd (cs := F5) (t := 41) ?hr ?_; (case hd => rfl); (case hg => rfl); (case hr => first | (go_simp; done) | (go_simp; rfl)); intro gb300 hg w10 hbox hb; have n0_ := Aside0.mk (below_step (bl0 HB.out) hb); have n1_ := Aside0.mk (hbox); have n2_ := Aside0.mk ((by rw [hg]; exact (below_size (bl0 HB.out)) : w.heap.size ≤ gb300)); have n3_ := n2_; clear HB; have HB := n0_; have BK300 := n1_; have GW300 := n2_; have GE300 := n3_; clear n0_ n1_ n2_ n3_; clear hb hbox hg))
 (try simp only [Act.put, sb, sz, ss])
 go_cut [35] (fun v35 wc => ∃ (kq : Nat) (x35_8 : Bool), v35 = .bool x35_8 ∧ Aside0 (annealref1_Pack.j0 kq a0 a1 a2 ji8 a4 a5 x35_8 = some (r1, r2, r3, r4, r5, r6)) ∧ Aside0 (kq ≤ k) ∧ Aside0 (wc.heap[gb300]? = some (o5_ false false false false false 41)) ∧ Aside0 (Below w.heap.size w wc))
 case first =>
  have H := HC9.out
  clear HC9
  by_cases c11 : a4 = 0
  ·rw [if_pos c11] at H
   have c11b0 : (a4 == 0) = true := beq_iff_eq.mpr c11
   have c11b1 : (a4 != 0) = false := bne_eq_false_iff_eq.mpr c11
   clear c11
   (first | rw [c11b0] | (simp only [i64_w, i32_w]; rw [c11b0]) | skip)
   have H' := Aside0.mk H
   clear H
   go_wp2
   go_meet
   case rel => exact ⟨_, (!a5), (by first | rfl | (simp; done) | (simp [*]; done) | (congr 1; (try unfold wrap64); omega) | (congr 1; rw [IntKind.wrap_u64]; omega)), H', ⟨by first | omega | exact Nat.le_refl _⟩, ⟨by (with_reducible repeat first | apply bd | apply be | apply ba); exact BK300.out⟩, ⟨bl1 HB.out GE300.out⟩⟩
  ·rw [if_neg c11] at H
   have c11b0 : (a4 == 0) = false := beq_eq_false_iff_ne.mpr c11
   have c11b1 : (a4 != 0) = true := bne_iff_ne.mpr c11
   (first | rw [c11b0] | (simp only [i64_w, i32_w]; rw [c11b0]) | skip)
   have H' := Aside0.mk H
   clear H
   go_wp2
   go_meet
   case rel => exact ⟨_, (false), (by first | rfl | (simp; done) | (simp [*]; done) | (congr 1; (try unfold wrap64); omega) | (congr 1; rw [IntKind.wrap_u64]; omega)), H', ⟨by first | omega | exact Nat.le_refl _⟩, ⟨by (with_reducible repeat first | apply bd | apply be | apply ba); exact BK300.out⟩, ⟨bl1 HB.out GE300.out⟩⟩
 case rest =>
  clear HC9
  try clear c1 p2 c5 p6 c11 c11b0 c11b1
  obtain ⟨kq, x35_8, rfl, HA, HJ8, BK300, HB⟩ := hcut
  cases kq with
  |zero => exact absurd HA.out (by simp [annealref1_Pack.j0])
  |succ kj8 =>
   have H := HA.out
   clear HA
   simp only [annealref1_Pack.j0] at H
   by_cases c12 : x35_8 = true
   ·subst c12
    have H1 : ((annealref1_Zero.f a0 a2).bind fun t301 => (some (t301, false, false, false, false, false))) = some (r1, r2, r3, r4, r5, r6) := by rw [if_pos rfl] at H; exact H
    clear H
    have H := H1
    clear H1
    replace H := Option.bind_eq_some_iff.mp H
    obtain ⟨t301, A130, H⟩ := H
    replace H : (some (t301, false, false, false, false, false)) = some (r1, r2, r3, r4, r5, r6) := H
    have A13 := Aside0.mk A130
    clear A130
    simp only [Option.some.injEq, Prod.mk.injEq] at H
    obtain ⟨rfl, rfl, rfl, rfl, rfl, rfl⟩ := H
    go_wp2_with (first | ((with_reducible refine gate_callee (f := 29) rfl ?_); refine goesL_ (some 38) rfl rfl Try.func29 (by kernel_rfl) rfl #[.int .i64 a0, .bool a2] rfl gl ?_; (with_reducible refine (annealref1_Zero.calls a0 a2 t301 _ A13.out).mono ?_); rintro e w' ⟨rfl, ⟨nd, rfl⟩⟩; refine ⟨_, rfl, ?_⟩; (try (rw [drewN_self wc]; generalize hq_ : World.drewN wc _ = wc; have n0_ : Aside0 (wc.heap[gb300]? = some (o5_ false false false false false 41)) := ⟨by rw [← hq_]; exact (bv BK300.out)⟩; have n1_ : Aside0 (Below w.heap.size w wc) := ⟨by rw [← hq_]; exact (bl1 HB.out GE300.out)⟩; clear BK300 HB hq_; have BK300 := n0_; have HB := n1_; clear n0_ n1_)); obtain ⟨hcz14_0, hcz14_1, hcz14_2, hcz14_3, hcz14_4⟩ := bc5 BK300.out; obtain ⟨hfz14_0, hfz14_1, hfz14_2, hfz14_3, hfz14_4⟩ := bf5 BK300.out))
    refine bodyPost_ret (results_tc rfl _ _ gb300 41 #[.bool false, .bool false, .bool false, .bool false, .bool false] (0, 0) _ rfl (by (with_reducible repeat first | apply bd | apply be | apply ba); refine blk_put (cs := F5) ?_ 4 _ rfl; (with_reducible repeat first | apply bd | apply be | apply ba); refine blk_put (cs := F5) ?_ 3 _ rfl; (with_reducible repeat first | apply bd | apply be | apply ba); refine blk_put (cs := F5) ?_ 2 _ rfl; (with_reducible repeat first | apply bd | apply be | apply ba); refine blk_put (cs := F5) ?_ 1 _ rfl; (with_reducible repeat first | apply bd | apply be | apply ba); refine blk_put (cs := F5) ?_ 0 _ rfl; (with_reducible repeat first | apply bd | apply be | apply ba); exact BK300.out) Try.underlying41 rfl (by kernel_rfl)) rfl ?_
    exact ⟨by first | rfl | (simp [errW_none, errW_some] <;> rfl) | (simp only [← hji7, ← hji8]; first | rfl | (simp [errW_none, errW_some] <;> rfl)) | (simp [*, errW_none, errW_some] <;> rfl), bl1 HB.out GE300.out⟩
   ·replace c12 := Bool.eq_false_iff.mpr c12
    subst c12
    have H1 : ((annealref1_Widths.f a0).bind fun bt302 => ((annealref1_bias.f a0).bind fun t304 => ((annealref1_Len.f kj8 a4).bind fun t305 => (if a4 = 0 then (annealref1_Pack.j1 kj8 a0 a1 a2 ji8 a4 a5 bt302.2 (wrap64 (1 - t304)) (-20000)) else (annealref1_Pack.j1 kj8 a0 a1 a2 ji8 a4 a5 bt302.2 (wrap64 (1 - t304)) (wrap64 ((wrap64 (ji8 + t305)) - 1))))))) = some (r1, r2, r3, r4, r5, r6) := by rw [if_neg (show ¬ (false = true) by decide)] at H; exact H
    clear H
    have H := H1
    clear H1
    replace H := Option.bind_eq_some_iff.mp H
    obtain ⟨⟨t302, t303⟩, A150, H⟩ := H
    replace H : ((annealref1_bias.f a0).bind fun t304 => ((annealref1_Len.f kj8 a4).bind fun t305 => (if a4 = 0 then (annealref1_Pack.j1 kj8 a0 a1 a2 ji8 a4 a5 t303 (wrap64 (1 - t304)) (-20000)) else (annealref1_Pack.j1 kj8 a0 a1 a2 ji8 a4 a5 t303 (wrap64 (1 - t304)) (wrap64 ((wrap64 (ji8 + t305)) - 1)))))) = some (r1, r2, r3, r4, r5, r6) := H
    have A15 := Aside0.mk A150
    clear A150
    replace H := Option.bind_eq_some_iff.mp H
    obtain ⟨t304, A160, H⟩ := H
    replace H : ((annealref1_Len.f kj8 a4).bind fun t305 => (if a4 = 0 then (annealref1_Pack.j1 kj8 a0 a1 a2 ji8 a4 a5 t303 (wrap64 (1 - t304)) (-20000)) else (annealref1_Pack.j1 kj8 a0 a1 a2 ji8 a4 a5 t303 (wrap64 (1 - t304)) (wrap64 ((wrap64 (ji8 + t305)) - 1))))) = some (r1, r2, r3, r4, r5, r6) := H
    have A16 := Aside0.mk A160
    clear A160
    replace H := Option.bind_eq_some_iff.mp H
    obtain ⟨t305, A170, H⟩ := H
    replace H : (if a4 = 0 then (annealref1_Pack.j1 kj8 a0 a1 a2 ji8 a4 a5 t303 (wrap64 (1 - t304)) (-20000)) else (annealref1_Pack.j1 kj8 a0 a1 a2 ji8 a4 a5 t303 (wrap64 (1 - t304)) (wrap64 ((wrap64 (ji8 + t305)) - 1)))) = some (r1, r2, r3, r4, r5, r6) := H
    have A17 := Aside0.mk A170
    clear A170
    have HC18 := Aside0.mk H
    clear H
    go_upto_if 54 with (first | ((with_reducible refine gate_callee (f := 49) rfl ?_); refine goesL_ (some 42) rfl rfl Try.func49 (by kernel_rfl) rfl #[.int .i64 a0] rfl gl ?_; (with_reducible refine (annealref1_Widths.calls a0 t302 t303 _ A15.out).mono ?_); rintro e w' ⟨rfl, ⟨nd, rfl⟩⟩; refine ⟨_, rfl, ?_⟩) | ((with_reducible refine gate_callee (f := 90) rfl ?_); refine goesL_ (some 46) rfl rfl Try.func90 (by kernel_rfl) rfl #[.int .i64 a0] rfl gl ?_; (with_reducible refine (annealref1_bias.calls a0 t304 _ A16.out).mono ?_); rintro e w' ⟨rfl, ⟨nd, rfl⟩⟩; refine ⟨_, rfl, ?_⟩) | ((with_reducible refine gate_callee (f := 91) rfl ?_); refine goesL_ (some 50) rfl rfl Try.func91 (by kernel_rfl) rfl #[.int .u64 a4] rfl gl ?_; (with_reducible refine (annealref1_Len.calls kj8 a4 t305 _ A17.out).mono ?_); rintro e w' ⟨rfl, ⟨nd, rfl⟩⟩; refine ⟨_, rfl, ?_⟩))
    (try simp only [Act.put, sb, sz, ss])
    go_cut [17] (fun v17 wc => ∃ (kq : Nat) (x17_17 : Int), v17 = .int .i64 x17_17 ∧ Aside0 (annealref1_Pack.j1 kq a0 a1 a2 ji8 a4 a5 t303 (wrap64 (1 - t304)) x17_17 = some (r1, r2, r3, r4, r5, r6)) ∧ Aside0 (kq ≤ kj8) ∧ Aside0 (wc.heap[gb300]? = some (o5_ false false false false false 41)) ∧ Aside0 (Below w.heap.size w wc))
    case first =>
     have H := HC18.out
     clear HC18
     by_cases c19 : a4 = 0
     ·rw [if_pos c19] at H
      have c19b0 : (a4 == 0) = true := beq_iff_eq.mpr c19
      have c19b1 : (a4 != 0) = false := bne_eq_false_iff_eq.mpr c19
      clear c19
      (first | rw [c19b0] | (simp only [i64_w, i32_w]; rw [c19b0]) | skip)
      have H' := Aside0.mk H
      clear H
      go_wp2
      go_meet
      case rel => exact ⟨_, ((-20000)), (by first | rfl | (simp; done) | (simp [*]; done) | (congr 1; (try unfold wrap64); omega) | (congr 1; rw [IntKind.wrap_u64]; omega)), H', ⟨by have := HJ8.out; first | omega | exact Nat.le_refl _⟩, ⟨by (with_reducible repeat first | apply bd | apply be | apply ba); exact BK300.out⟩, ⟨bl1 HB.out GE300.out⟩⟩
     ·rw [if_neg c19] at H
      have c19b0 : (a4 == 0) = false := beq_eq_false_iff_ne.mpr c19
      have c19b1 : (a4 != 0) = true := bne_iff_ne.mpr c19
      (first | rw [c19b0] | (simp only [i64_w, i32_w]; rw [c19b0]) | skip)
      have H' := Aside0.mk H
      clear H
      go_wp2
      go_meet
      case rel => exact ⟨_, (wrap64 ((wrap64 (ji8 + t305)) - 1)), (by first | rfl | (simp; done) | (simp only [← hji8] <;> (first | rfl | (simp; done))) | (simp [*]; done) | (congr 1; (try unfold wrap64); omega) | (congr 1; rw [IntKind.wrap_u64]; omega)), H', ⟨by have := HJ8.out; first | omega | exact Nat.le_refl _⟩, ⟨by (with_reducible repeat first | apply bd | apply be | apply ba); exact BK300.out⟩, ⟨bl1 HB.out GE300.out⟩⟩
    case rest =>
     clear HC18
     try clear c1 c2 p2 c4 c5 p6 c9 c11 c11b0 c11b1 c12 c19 c19b0 c19b1 hcz14_0 hcz14_1 hcz14_2 hcz14_3 hcz14_4 hfz14_0 hfz14_1 hfz14_2 hfz14_3 hfz14_4 p2 p6
     obtain ⟨kq, x17_17, rfl, HA, HJ17, BK300, HB⟩ := hcut
     cases kq with
     |zero => exact absurd HA.out (by simp [annealref1_Pack.j1])
     |succ kj17 =>
      have H := HA.out
      clear HA
      simp only [annealref1_Pack.j1] at H
      obtain ⟨ji20, hji20⟩ : ∃ j_ : Int, (mx x17_17 (wrap64 (1 - t304))) = j_ := ⟨_, rfl⟩
      replace H : ((annealref1_divide.f kj17 a4 (wrap64 ((wrap64 ((ji20) - t303)) - ji8))).bind fun bt306 => (if bt306.2.2 = true then (annealref1_Pack.j2 kj17 a0 a1 a2 t303 (wrap64 (1 - t304)) x17_17 (wrap64 ((ji20) - t303)) bt306.1 bt306.2.1 true) else (annealref1_Pack.j2 kj17 a0 a1 a2 t303 (wrap64 (1 - t304)) x17_17 (wrap64 ((ji20) - t303)) bt306.1 bt306.2.1 a5))) = some (r1, r2, r3, r4, r5, r6) := by first | (rw [hji20] at H; exact H) | (simp only [hji20] at H ⊢; exact H)
      have hji20_ : (if x17_17 < (wrap64 (1 - t304)) then (wrap64 (1 - t304)) else x17_17) = ji20 := hji20
      replace H := Option.bind_eq_some_iff.mp H
      obtain ⟨⟨t306, t307, t308⟩, A210, H⟩ := H
      replace H : (if t308 = true then (annealref1_Pack.j2 kj17 a0 a1 a2 t303 (wrap64 (1 - t304)) x17_17 (wrap64 ((ji20) - t303)) t306 t307 true) else (annealref1_Pack.j2 kj17 a0 a1 a2 t303 (wrap64 (1 - t304)) x17_17 (wrap64 ((ji20) - t303)) t306 t307 a5)) = some (r1, r2, r3, r4, r5, r6) := H
      have A21 := Aside0.mk A210
      clear A210
      have HC22 := Aside0.mk H
      clear H
      go_upto_region 11 with (first | ((with_reducible refine gate_callee (f := 92) rfl ?_); refine goesL_ (some 65) rfl rfl Try.func92 (by kernel_rfl) rfl #[.int .u64 a4, .int .i64 (wrap64 ((wrap64 ((ji20) - t303)) - ji8))] rfl (by (try simp only [List.map_toArray, List.map_cons, List.map_nil]); first | done | (simp only [hji20, hji8]; rfl) | rfl | (simp only [List.length_drop, List.length_take]; rfl)) ?_; (with_reducible refine (annealref1_divide.calls kj17 a4 (wrap64 ((wrap64 ((ji20) - t303)) - ji8)) t306 t307 t308 _ A21.out).mono ?_); rintro e w23 ⟨rfl, hb⟩; refine ⟨_, rfl, ?_⟩; have n0_ := Aside0.mk (blk_below (g := gb300) (o := o5_ false false false false false 41) (bv BK300.out) hb); have n1_ := Aside0.mk (below_step (bl1 HB.out GE300.out) hb); clear BK300; clear HB; have BK300 := n0_; have HB := n1_; clear n0_ n1_))
      (try simp only [Act.put, sb, sz, ss])
      go_cut [21] (fun v21 wc => ∃ (kq : Nat) (x21_21 : Bool), v21 = .bool x21_21 ∧ Aside0 (annealref1_Pack.j2 kq a0 a1 a2 t303 (wrap64 (1 - t304)) x17_17 (wrap64 ((ji20) - t303)) t306 t307 x21_21 = some (r1, r2, r3, r4, r5, r6)) ∧ Aside0 (kq ≤ kj17) ∧ Aside0 (wc.heap[gb300]? = some (o5_ false false false false false 41)) ∧ Aside0 (Below w.heap.size w wc))
      case first =>
       have H := HC22.out
       clear HC22
       by_cases c24 : t308 = true
       ·subst c24
        have H1 : (annealref1_Pack.j2 kj17 a0 a1 a2 t303 (wrap64 (1 - t304)) x17_17 (wrap64 ((ji20) - t303)) t306 t307 true) = some (r1, r2, r3, r4, r5, r6) := by rw [if_pos rfl] at H; exact H
        clear H
        have H := H1
        clear H1
        have H' := Aside0.mk H
        clear H
        go_wp2
        go_meet
        case rel => exact ⟨_, (true), (by first | rfl | (simp; done) | (simp [*]; done) | (congr 1; (try unfold wrap64); omega) | (congr 1; rw [IntKind.wrap_u64]; omega)), H', ⟨by have := HJ8.out; have := HJ17.out; first | omega | exact Nat.le_refl _⟩, ⟨by (with_reducible repeat first | apply bd | apply be | apply ba); exact BK300.out⟩, ⟨bl1 HB.out GE300.out⟩⟩
       ·replace c24 := Bool.eq_false_iff.mpr c24
        subst c24
        have H1 : (annealref1_Pack.j2 kj17 a0 a1 a2 t303 (wrap64 (1 - t304)) x17_17 (wrap64 ((ji20) - t303)) t306 t307 a5) = some (r1, r2, r3, r4, r5, r6) := by rw [if_neg (show ¬ (false = true) by decide)] at H; exact H
        clear H
        have H := H1
        clear H1
        have H' := Aside0.mk H
        clear H
        go_wp2
        go_meet
        case rel => exact ⟨_, (a5), (by first | rfl | (simp; done) | (simp [*]; done) | (congr 1; (try unfold wrap64); omega) | (congr 1; rw [IntKind.wrap_u64]; omega)), H', ⟨by have := HJ8.out; have := HJ17.out; first | omega | exact Nat.le_refl _⟩, ⟨by (with_reducible repeat first | apply bd | apply be | apply ba); exact BK300.out⟩, ⟨bl1 HB.out GE300.out⟩⟩
      case rest =>
       clear HC22
       try clear c1 c2 p2 c4 c5 p6 c9 c11 c11b0 c11b1 c12 c19 c19b0 c19b1 c24 hcz14_0 hcz14_1 hcz14_2 hcz14_3 hcz14_4 hfz14_0 hfz14_1 hfz14_2 hfz14_3 hfz14_4 p2 p6
       obtain ⟨kq, x21_21, rfl, HA, HJ21, BK300, HB⟩ := hcut
       cases kq with
       |zero => exact absurd HA.out (by simp [annealref1_Pack.j2])
       |succ kj21 =>
        have H := HA.out
        clear HA
        simp only [annealref1_Pack.j2] at H
        have HC25 := Aside0.mk H
        clear H
        go_upto_region 12 with (fail)
        go_cut [22] (fun v22 wc => ∃ (kq : Nat) (x22_24 : Bool), v22 = .bool x22_24 ∧ Aside0 (annealref1_Pack.j3 kq a0 a1 a2 t303 (wrap64 (1 - t304)) x17_17 (wrap64 ((ji20) - t303)) t306 t307 x21_21 x22_24 = some (r1, r2, r3, r4, r5, r6)) ∧ Aside0 (kq ≤ kj21) ∧ Aside0 (wc.heap[gb300]? = some (o5_ false false false false false 41)) ∧ Aside0 (Below w.heap.size w wc))
        case first =>
         have H := HC25.out
         clear HC25
         by_cases c26 : t307 = true
         ·subst c26
          have H1 : (annealref1_Pack.j3 kj21 a0 a1 a2 t303 (wrap64 (1 - t304)) x17_17 (wrap64 ((ji20) - t303)) t306 true x21_21 true) = some (r1, r2, r3, r4, r5, r6) := by rw [if_pos rfl] at H; exact H
          clear H
          have H := H1
          clear H1
          have H' := Aside0.mk H
          clear H
          go_wp2
          go_meet
          case rel => exact ⟨_, (true), (by first | rfl | (simp; done) | (simp [*]; done) | (congr 1; (try unfold wrap64); omega) | (congr 1; rw [IntKind.wrap_u64]; omega)), H', ⟨by have := HJ8.out; have := HJ17.out; have := HJ21.out; first | omega | exact Nat.le_refl _⟩, ⟨by (with_reducible repeat first | apply bd | apply be | apply ba); exact BK300.out⟩, ⟨bl1 HB.out GE300.out⟩⟩
         ·replace c26 := Bool.eq_false_iff.mpr c26
          subst c26
          have H1 : (annealref1_Pack.j3 kj21 a0 a1 a2 t303 (wrap64 (1 - t304)) x17_17 (wrap64 ((ji20) - t303)) t306 false x21_21 x21_21) = some (r1, r2, r3, r4, r5, r6) := by rw [if_neg (show ¬ (false = true) by decide)] at H; exact H
          clear H
          have H := H1
          clear H1
          have H' := Aside0.mk H
          clear H
          go_wp2
          go_meet
          case rel => exact ⟨_, (x21_21), (by first | rfl | (simp; done) | (simp [*]; done) | (congr 1; (try unfold wrap64); omega) | (congr 1; rw [IntKind.wrap_u64]; omega)), H', ⟨by have := HJ8.out; have := HJ17.out; have := HJ21.out; first | omega | exact Nat.le_refl _⟩, ⟨by (with_reducible repeat first | apply bd | apply be | apply ba); exact BK300.out⟩, ⟨bl1 HB.out GE300.out⟩⟩
        case rest =>
         clear HC25
         try clear c1 c2 p2 c4 c5 p6 c9 c11 c11b0 c11b1 c12 c19 c19b0 c19b1 c24 c26 hcz14_0 hcz14_1 hcz14_2 hcz14_3 hcz14_4 hfz14_0 hfz14_1 hfz14_2 hfz14_3 hfz14_4 p2 p6
         obtain ⟨kq, x22_24, rfl, HA, HJ24, BK300, HB⟩ := hcut
         cases kq with
         |zero => exact absurd HA.out (by simp [annealref1_Pack.j3])
         |succ kj24 =>
          have H := HA.out
          clear HA
          simp only [annealref1_Pack.j3] at H
          replace H := Option.bind_eq_some_iff.mp H
          obtain ⟨t309, A270, H⟩ := H
          replace H : (if t309 = true then (annealref1_Pack.j4 kj24 a0 a1 a2 t303 (wrap64 (1 - t304)) x17_17 (wrap64 ((ji20) - t303)) (IntKind.u64.wrap (t306 + 1)) x22_24) else (annealref1_Pack.j4 kj24 a0 a1 a2 t303 (wrap64 (1 - t304)) x17_17 (wrap64 ((ji20) - t303)) t306 x22_24)) = some (r1, r2, r3, r4, r5, r6) := H
          have A27 := Aside0.mk A270
          clear A270
          have HC28 := Aside0.mk H
          clear H
          go_upto_if 84 with (first | ((with_reducible refine gate_callee (f := 93) rfl ?_); refine goesL_ (some 84) rfl rfl Try.func93 (by kernel_rfl) rfl #[.int .i64 a1, .bool a2, .bool ((Go.bits .and .u64 t306 1) == 1), .bool t307, .bool x21_21] rfl gl ?_; (with_reducible refine (annealref1_up.calls a1 a2 ((Go.bits .and .u64 t306 1) == 1) t307 x21_21 t309 _ A27.out).mono ?_); rintro e w' ⟨rfl, ⟨nd, rfl⟩⟩; refine ⟨_, rfl, ?_⟩))
          (try simp only [Act.put, sb, sz, ss])
          go_cut [19] (fun v19 wc => ∃ (kq : Nat) (x19_27 : Int), v19 = .int .u64 x19_27 ∧ Aside0 (annealref1_Pack.j4 kq a0 a1 a2 t303 (wrap64 (1 - t304)) x17_17 (wrap64 ((ji20) - t303)) x19_27 x22_24 = some (r1, r2, r3, r4, r5, r6)) ∧ Aside0 (kq ≤ kj24) ∧ Aside0 (wc.heap[gb300]? = some (o5_ false false false false false 41)) ∧ Aside0 (Below w.heap.size w wc))
          case first =>
           have H := HC28.out
           clear HC28
           by_cases c29 : t309 = true
           ·subst c29
            have H1 : (annealref1_Pack.j4 kj24 a0 a1 a2 t303 (wrap64 (1 - t304)) x17_17 (wrap64 ((ji20) - t303)) (IntKind.u64.wrap (t306 + 1)) x22_24) = some (r1, r2, r3, r4, r5, r6) := by rw [if_pos rfl] at H; exact H
            clear H
            have H := H1
            clear H1
            have H' := Aside0.mk H
            clear H
            go_wp2
            go_meet
            case rel => exact ⟨_, (IntKind.u64.wrap (t306 + 1)), (by first | rfl | (simp; done) | (simp [*]; done) | (congr 1; (try unfold wrap64); omega) | (congr 1; rw [IntKind.wrap_u64]; omega)), H', ⟨by have := HJ8.out; have := HJ17.out; have := HJ21.out; have := HJ24.out; first | omega | exact Nat.le_refl _⟩, ⟨by (with_reducible repeat first | apply bd | apply be | apply ba); exact BK300.out⟩, ⟨bl1 HB.out GE300.out⟩⟩
           ·replace c29 := Bool.eq_false_iff.mpr c29
            subst c29
            have H1 : (annealref1_Pack.j4 kj24 a0 a1 a2 t303 (wrap64 (1 - t304)) x17_17 (wrap64 ((ji20) - t303)) t306 x22_24) = some (r1, r2, r3, r4, r5, r6) := by rw [if_neg (show ¬ (false = true) by decide)] at H; exact H
            clear H
            have H := H1
            clear H1
            have H' := Aside0.mk H
            clear H
            go_wp2
            go_meet
            case rel => exact ⟨_, (t306), (by first | rfl | (simp; done) | (simp [*]; done) | (congr 1; (try unfold wrap64); omega) | (congr 1; rw [IntKind.wrap_u64]; omega)), H', ⟨by have := HJ8.out; have := HJ17.out; have := HJ21.out; have := HJ24.out; first | omega | exact Nat.le_refl _⟩, ⟨by (with_reducible repeat first | apply bd | apply be | apply ba); exact BK300.out⟩, ⟨bl1 HB.out GE300.out⟩⟩
          case rest =>
           clear HC28
           try clear c1 c2 p2 c4 c5 p6 c9 c11 c11b0 c11b1 c12 c19 c19b0 c19b1 c24 c26 c29 hcz14_0 hcz14_1 hcz14_2 hcz14_3 hcz14_4 hfz14_0 hfz14_1 hfz14_2 hfz14_3 hfz14_4 p2 p6
           obtain ⟨kq, x19_27, rfl, HA, HJ27, BK300, HB⟩ := hcut
           cases kq with
           |zero => exact absurd HA.out (by simp [annealref1_Pack.j4])
           |succ kj27 =>
            have H := HA.out
            clear HA
            simp only [annealref1_Pack.j4] at H
            by_cases c30 : x22_24 = true
            ·subst c30
             have H1 : (if 0 ≤ (wrap64 (t303 + 1)) then (if x19_27 = (shl .u64 1 (wrap64 (t303 + 1))) then (annealref1_Pack.j5 kj27 a0 a1 a2 t303 (wrap64 ((wrap64 ((ji20) - t303)) + 1)) (x19_27 / 2) false false false (decide (x17_17 < (wrap64 (1 - t304)))) true) else (annealref1_Pack.j5 kj27 a0 a1 a2 t303 (wrap64 ((ji20) - t303)) x19_27 false false false (decide (x17_17 < (wrap64 (1 - t304)))) true)) else (none)) = some (r1, r2, r3, r4, r5, r6) := by rw [if_pos rfl] at H; exact H
             clear H
             have H := H1
             clear H1
             obtain ⟨ji31, hji31⟩ : ∃ j_ : Int, (wrap64 (t303 + 1)) = j_ := ⟨_, rfl⟩
             replace H : (if 0 ≤ (ji31) then (if x19_27 = (shl .u64 1 (ji31)) then (annealref1_Pack.j5 kj27 a0 a1 a2 t303 (wrap64 ((wrap64 ((ji20) - t303)) + 1)) (x19_27 / 2) false false false (decide (x17_17 < (wrap64 (1 - t304)))) true) else (annealref1_Pack.j5 kj27 a0 a1 a2 t303 (wrap64 ((ji20) - t303)) x19_27 false false false (decide (x17_17 < (wrap64 (1 - t304)))) true)) else (none)) = some (r1, r2, r3, r4, r5, r6) := by first | (rw [hji31] at H; exact H) | (simp only [hji31] at H ⊢; exact H)
             have hji31w : (IntKind.i64.wrap (t303 + 1)) = ji31 := (i64_w _).trans hji31
             by_cases c32 : 0 ≤ (ji31)
             ·rw [if_pos c32] at H
              have c32b0 := eq_true c32
              have c32b1 : decide (0 ≤ (ji31)) = true := decide_eq_true c32
              clear c32
              obtain ⟨ji33, hji33⟩ : ∃ j_ : Int, (shl .u64 1 (ji31)) = j_ := ⟨_, rfl⟩
              replace H : (if x19_27 = (ji33) then (annealref1_Pack.j5 kj27 a0 a1 a2 t303 (wrap64 ((wrap64 ((ji20) - t303)) + 1)) (x19_27 / 2) false false false (decide (x17_17 < (wrap64 (1 - t304)))) true) else (annealref1_Pack.j5 kj27 a0 a1 a2 t303 (wrap64 ((ji20) - t303)) x19_27 false false false (decide (x17_17 < (wrap64 (1 - t304)))) true)) = some (r1, r2, r3, r4, r5, r6) := by first | (rw [hji33] at H; exact H) | (simp only [hji33] at H ⊢; exact H)
              have hji33_ : (IntKind.u64.wrap (1 * 2 ^ min (ji31).toNat 64)) = ji33 := hji33
              have hji33z : (ji31) ≤ 64 → (IntKind.u64.wrap (1 * 2 ^ (ji31).toNat)) = ji33 := shl_small hji33
              have hji33u : (IntKind.u64.wrap (2 ^ min (ji31).toNat 64)) = ji33 := by have h_ := hji33_; rw [Int.one_mul] at h_; exact h_
              have hji33v : (ji31) ≤ 64 → (IntKind.u64.wrap (2 ^ (ji31).toNat)) = ji33 := fun hle_ => by have h_ := hji33z hle_; rw [Int.one_mul] at h_; exact h_
              have HC34 := Aside0.mk H
              clear H
              go_upto_if 99 with (first | ((with_reducible refine gate_dst (N := 23) rfl ?_); refine box_event ?hg (N := 23) ?hd (cs := F5) (t := 41) ?hr ?_; (case hd => rfl); (case hg => rfl); (case hr => first | (go_simp; done) | (go_simp; rfl)); intro gb310 hg w35 hbox hb; have n0_ := Aside0.mk (blk_below (g := gb300) (o := o5_ false false false false false 41) (bv BK300.out) hb); have n1_ := Aside0.mk (below_step (bl1 HB.out GE300.out) hb); have n2_ := Aside0.mk (hbox); have n3_ := Aside0.mk ((by rw [hg]; exact (below_size (bl1 HB.out GE300.out)) : w.heap.size ≤ gb310)); have n4_ := n3_; have n5_ := Aside0.mk ((by rw [hg]; exact Nat.ne_of_lt (blk_lt (g := gb300) (o := .cells F5 41 (0, 0)) (bv BK300.out)) : gb300 ≠ gb310)); have n6_ := Aside0.mk (Ne.symm n5_.out); clear BK300; clear HB; have BK300 := n0_; have HB := n1_; have BK310 := n2_; have GW310 := n3_; have GE310 := n4_; have NB300_310 := n5_; have NB310_300 := n6_; clear n0_ n1_ n2_ n3_ n4_ n5_ n6_; clear hb hbox hg; have hnb36 := NB310_300.out; have hnc36 := NB300_310.out; obtain ⟨hcz37_0, hcz37_1, hcz37_2, hcz37_3, hcz37_4⟩ := bc5 BK310.out; obtain ⟨hfz37_0, hfz37_1, hfz37_2, hfz37_3, hfz37_4⟩ := bf5 BK310.out))
              (try simp only [Act.put, sb, sz, ss])
              go_cut [18, 19] (fun v18 v19 wc => ∃ (kq : Nat) (x18_33 : Int) (x19_33 : Int), v18 = .int .i64 x18_33 ∧ v19 = .int .u64 x19_33 ∧ Aside0 (annealref1_Pack.j5 kq a0 a1 a2 t303 x18_33 x19_33 false false false (decide (x17_17 < (wrap64 (1 - t304)))) true = some (r1, r2, r3, r4, r5, r6)) ∧ Aside0 (kq ≤ kj27) ∧ Aside0 (wc.heap[gb300]? = some (o5_ false false false false false 41)) ∧ Aside0 (wc.heap[gb310]? = some (.cells #[.bool false, .bool false, .bool false, .bool (decide (x17_17 < (wrap64 (1 - t304)))), .bool true] 41 (0, 0))) ∧ Aside0 (Below w.heap.size w wc))
              case first =>
               have H := HC34.out
               clear HC34
               by_cases c38 : x19_27 = (ji33)
               ·rw [if_pos c38] at H
                have c38b0 : (x19_27 == (ji33)) = true := beq_iff_eq.mpr c38
                have c38b1 : (x19_27 != (ji33)) = false := bne_eq_false_iff_eq.mpr c38
                clear c38
                (first | rw [c38b0] | (simp only [i64_w, i32_w]; rw [c38b0]) | skip)
                have H' := Aside0.mk H
                clear H
                go_wp2
                go_meet
                case rel => exact ⟨_, (wrap64 ((wrap64 ((ji20) - t303)) + 1)), (x19_27 / 2), (by first | rfl | (simp; done) | (simp only [← hji20] <;> (first | rfl | (simp; done))) | (simp [*]; done) | (congr 1; (try unfold wrap64); omega) | (congr 1; rw [IntKind.wrap_u64]; omega)), (by first | rfl | (simp; done) | (simp [*]; done) | (congr 1; (try unfold wrap64); omega) | (congr 1; rw [IntKind.wrap_u64]; omega)), H', ⟨by have := HJ8.out; have := HJ17.out; have := HJ21.out; have := HJ24.out; have := HJ27.out; first | omega | exact Nat.le_refl _⟩, ⟨by (with_reducible repeat first | apply bd | apply be | apply ba); refine blk_far ?_ NB300_310.out _; (with_reducible repeat first | apply bd | apply be | apply ba); refine blk_far ?_ NB300_310.out _; (with_reducible repeat first | apply bd | apply be | apply ba); refine blk_far ?_ NB300_310.out _; (with_reducible repeat first | apply bd | apply be | apply ba); refine blk_far ?_ NB300_310.out _; (with_reducible repeat first | apply bd | apply be | apply ba); refine blk_far ?_ NB300_310.out _; (with_reducible repeat first | apply bd | apply be | apply ba); exact BK300.out⟩, ⟨by (with_reducible repeat first | apply bd | apply be | apply ba); refine blk_put (cs := #[.bool false, .bool false, .bool false, .bool (decide (x17_17 < (wrap64 (1 - t304)))), .bool false]) ?_ 4 _ rfl; (with_reducible repeat first | apply bd | apply be | apply ba); refine blk_put (cs := F5) ?_ 3 _ rfl; (with_reducible repeat first | apply bd | apply be | apply ba); refine blk_put (cs := F5) ?_ 2 _ rfl; (with_reducible repeat first | apply bd | apply be | apply ba); refine blk_put (cs := F5) ?_ 1 _ rfl; (with_reducible repeat first | apply bd | apply be | apply ba); refine blk_put (cs := F5) ?_ 0 _ rfl; (with_reducible repeat first | apply bd | apply be | apply ba); exact BK310.out⟩, ⟨bl2 HB.out GE300.out GE310.out⟩⟩
               ·rw [if_neg c38] at H
                have c38b0 : (x19_27 == (ji33)) = false := beq_eq_false_iff_ne.mpr c38
                have c38b1 : (x19_27 != (ji33)) = true := bne_iff_ne.mpr c38
                (first | rw [c38b0] | (simp only [i64_w, i32_w]; rw [c38b0]) | skip)
                have H' := Aside0.mk H
                clear H
                go_wp2
                go_meet
                case rel => exact ⟨_, ((wrap64 ((ji20) - t303))), (x19_27), (by first | rfl | (simp; done) | (simp only [← hji20] <;> (first | rfl | (simp; done))) | (simp [*]; done) | (congr 1; (try unfold wrap64); omega) | (congr 1; rw [IntKind.wrap_u64]; omega)), (by first | rfl | (simp; done) | (simp [*]; done) | (congr 1; (try unfold wrap64); omega) | (congr 1; rw [IntKind.wrap_u64]; omega)), H', ⟨by have := HJ8.out; have := HJ17.out; have := HJ21.out; have := HJ24.out; have := HJ27.out; first | omega | exact Nat.le_refl _⟩, ⟨by (with_reducible repeat first | apply bd | apply be | apply ba); refine blk_far ?_ NB300_310.out _; (with_reducible repeat first | apply bd | apply be | apply ba); refine blk_far ?_ NB300_310.out _; (with_reducible repeat first | apply bd | apply be | apply ba); refine blk_far ?_ NB300_310.out _; (with_reducible repeat first | apply bd | apply be | apply ba); refine blk_far ?_ NB300_310.out _; (with_reducible repeat first | apply bd | apply be | apply ba); refine blk_far ?_ NB300_310.out _; (with_reducible repeat first | apply bd | apply be | apply ba); exact BK300.out⟩, ⟨by (with_reducible repeat first | apply bd | apply be | apply ba); refine blk_put (cs := #[.bool false, .bool false, .bool false, .bool (decide (x17_17 < (wrap64 (1 - t304)))), .bool false]) ?_ 4 _ rfl; (with_reducible repeat first | apply bd | apply be | apply ba); refine blk_put (cs := F5) ?_ 3 _ rfl; (with_reducible repeat first | apply bd | apply be | apply ba); refine blk_put (cs := F5) ?_ 2 _ rfl; (with_reducible repeat first | apply bd | apply be | apply ba); refine blk_put (cs := F5) ?_ 1 _ rfl; (with_reducible repeat first | apply bd | apply be | apply ba); refine blk_put (cs := F5) ?_ 0 _ rfl; (with_reducible repeat first | apply bd | apply be | apply ba); exact BK310.out⟩, ⟨bl2 HB.out GE300.out GE310.out⟩⟩
              case rest =>
               clear HC34
               try clear c1 c2 p2 c3 c4 c5 p6 c9 c11 c11b0 c11b1 c12 c19 c19b0 c19b1 c24 c26 c29 c30 c32 c32b0 c32b1 c36 c38 c38b0 c38b1 hcz14_0 hcz14_1 hcz14_2 hcz14_3 hcz14_4 hcz37_0 hcz37_1 hcz37_2 hcz37_3 hcz37_4 hfz14_0 hfz14_1 hfz14_2 hfz14_3 hfz14_4 hfz37_0 hfz37_1 hfz37_2 hfz37_3 hfz37_4 p2 p6
               obtain ⟨kq, x18_33, x19_33, rfl, rfl, HA, HJ33, BK300, BK310, HB⟩ := hcut
               cases kq with
               |zero => exact absurd HA.out (by simp [annealref1_Pack.j5])
               |succ kj33 =>
                have H := HA.out
                clear HA
                simp only [annealref1_Pack.j5] at H
                by_cases c39 : 0 ≤ t303
                ·rw [if_pos c39] at H
                 have c39b0 := eq_true c39
                 have c39b1 : decide (0 ≤ t303) = true := decide_eq_true c39
                 clear c39
                 obtain ⟨ji40, hji40⟩ : ∃ j_ : Int, (shl .u64 1 t303) = j_ := ⟨_, rfl⟩
                 replace H : (if x19_33 < (ji40) then ((annealref1_sign.f a0 a2).bind fun t311 => (some (Go.bits .or .u32 t311 ((x19_33) % 4294967296), false, false, false, (decide (x17_17 < (wrap64 (1 - t304)))), true))) else ((annealref1_bias.f a0).bind fun t312 => ((annealref1_Widths.f a0).bind fun bt313 => (if 0 ≤ bt313.1 then (if (wrap64 ((wrap64 (x18_33 + t303)) + t312)) ≥ (wrap64 ((shl .i64 1 bt313.1) - 1)) then ((annealref1_over.f kj33 a0 a1 a2).bind fun t315 => (some (t315, false, false, true, false, true))) else ((annealref1_sign.f a0 a2).bind fun t316 => (some (Go.bits .or .u32 (Go.bits .or .u32 t316 (shl .u32 ((wrap64 ((wrap64 (x18_33 + t303)) + t312)) % 4294967296) t303)) ((Go.bits .and .u64 x19_33 (IntKind.u64.wrap ((ji40) - 1))) % 4294967296), false, false, false, (decide (x17_17 < (wrap64 (1 - t304)))), true)))) else (none))))) = some (r1, r2, r3, r4, r5, r6) := by first | (rw [hji40] at H; exact H) | (simp only [hji40] at H ⊢; exact H)
                 have hji40_ : (IntKind.u64.wrap (1 * 2 ^ min t303.toNat 64)) = ji40 := hji40
                 have hji40z : t303 ≤ 64 → (IntKind.u64.wrap (1 * 2 ^ t303.toNat)) = ji40 := shl_small hji40
                 have hji40u : (IntKind.u64.wrap (2 ^ min t303.toNat 64)) = ji40 := by have h_ := hji40_; rw [Int.one_mul] at h_; exact h_
                 have hji40v : t303 ≤ 64 → (IntKind.u64.wrap (2 ^ t303.toNat)) = ji40 := fun hle_ => by have h_ := hji40z hle_; rw [Int.one_mul] at h_; exact h_
                 by_cases c41 : x19_33 < (ji40)
                 ·rw [if_pos c41] at H
                  have c41b0 : decide (x19_33 < (ji40)) = true := decide_eq_true c41
                  clear c41
                  replace H := Option.bind_eq_some_iff.mp H
                  obtain ⟨t311, A420, H⟩ := H
                  replace H : (some (Go.bits .or .u32 t311 ((x19_33) % 4294967296), false, false, false, (decide (x17_17 < (wrap64 (1 - t304)))), true)) = some (r1, r2, r3, r4, r5, r6) := H
                  have A42 := Aside0.mk A420
                  clear A420
                  simp only [Option.some.injEq, Prod.mk.injEq] at H
                  obtain ⟨rfl, rfl, rfl, rfl, rfl, rfl⟩ := H
                  try go_wp2
                  have n0_ := Aside0.mk (blk_drew BK300.out)
                  have n1_ := Aside0.mk (blk_drew BK310.out)
                  have n2_ := Aside0.mk (below_drew1 HB.out)
                  clear BK300
                  clear BK310
                  clear HB
                  have BK300 := n0_
                  have BK310 := n1_
                  have HB := n2_
                  clear n0_ n1_ n2_
                  refine start_ (n := 9) (S := fun w' => w'.cell? ⟨gb310, 0, none⟩ = some (.bool false) ∧ w'.cell? ⟨gb310, 1, none⟩ = some (.bool false) ∧ w'.cell? ⟨gb310, 2, none⟩ = some (.bool false) ∧ w'.cell? ⟨gb310, 3, none⟩ = some (.bool (decide (x17_17 < (wrap64 (1 - t304))))) ∧ w'.cell? ⟨gb310, 4, none⟩ = some (.bool true)) (ds := []) (tf 0 9) (by kernel_rfl) rfl rfl ⟨(blk_cell BK310.out 0).trans rfl, (blk_cell BK310.out 1).trans rfl, (blk_cell BK310.out 2).trans rfl, (blk_cell BK310.out 3).trans rfl, (blk_cell BK310.out 4).trans rfl⟩ (fun hHeld => ?_); refine with_tabW annealref1_Pack.tab19 annealref1_Pack.bits19 (fun HT_ HW_ => ?_)
                  generalize wc.drew = w43 at BK300 BK310 HB hHeld ⊢
                  refine pure_ (i := 0) (N := some 108) (v := ?_) (a' := ?_) (tf 1 8) rfl rfl (any_of HT_.out (by kernel_rfl)) (fun _ _ _ h => h) (Or.inl ⟨by rfl, ?_⟩) ?_ ?_
                  rotate_left
                  ·intro w'
                   go_simp
                   with_reducible rfl
                  rotate_left
                  ·simp only [Act.put, sb, sz, ss, i64_w, i32_w]
                   rfl
                  refine pure_ (i := 1) (N := some 109) (v := ?_) (a' := ?_) (tf 2 7) rfl rfl (any_of HT_.out (by kernel_rfl)) (fun _ _ _ h => h) (Or.inl ⟨by rfl, ?_⟩) ?_ ?_
                  rotate_left
                  ·intro w'
                   go_simp
                   with_reducible rfl
                  rotate_left
                  ·simp only [Act.put, sb, sz, ss, i64_w, i32_w]
                   rfl
                  refine pure_ (i := 3) (N := some 111) (v := ?_) (a' := ?_) #[true, true, false, true, false, false, false, false, false] rfl rfl (any_of HT_.out (by kernel_rfl)) (fun _ _ _ h => h) (Or.inl ⟨by rfl, ?_⟩) ?_ ?_
                  rotate_left
                  ·intro w'
                   go_simp
                   with_reducible rfl
                  rotate_left
                  ·simp only [Act.put, sb, sz, ss, i64_w, i32_w]
                   rfl
                  refine pure_ (i := 4) (N := some 112) (v := ?_) (a' := ?_) #[true, true, false, true, true, false, false, false, false] rfl rfl (any_of HT_.out (by kernel_rfl)) (fun _ _ _ h => h) (Or.inl ⟨by rfl, ?_⟩) ?_ ?_
                  rotate_left
                  ·intro w'
                   go_simp
                   with_reducible rfl
                  rotate_left
                  ·simp only [Act.put, sb, sz, ss, i64_w, i32_w]
                   rfl
                  refine take_ (i := 6) (N := some 114) (v := ?_) (a' := ?_) #[true, true, false, true, true, false, true, false, false] rfl rfl (take_ofW HT_.out HW_.out (by kernel_rfl)) (fun _ _ _ h => h) (Or.inl ⟨by rfl, ?_⟩) hHeld ?_ ?_
                  rotate_left
                  ·rintro w' ⟨s0, s1, s2, s3, s4⟩
                   go_simp
                   with_reducible rfl
                  rotate_left
                  ·simp only [Act.put, sb, sz, ss, i64_w, i32_w]
                   rfl
                  refine one_ (i := 2) (N := some 110) #[true, true, true, true, true, false, true, false, false] rfl rfl (one_of HT_.out (by kernel_rfl)) (by decide) (fun K hK => ?_)
                  refine goes_ Try.func56 (by kernel_rfl) rfl #[.int .i64 a0, .bool a2] (by rfl) rfl rfl gl ?_
                  with_reducible refine (annealref1_sign.calls a0 a2 t311 _ A42.out).mono ?_
                  rintro e w' ⟨rfl, ⟨nd, rfl⟩⟩
                  refine ⟨_, rfl, ?_⟩
                  refine hK.out _ _ ⟨(blk_cell BK310.out 0).trans rfl, (blk_cell BK310.out 1).trans rfl, (blk_cell BK310.out 2).trans rfl, (blk_cell BK310.out 3).trans rfl, (blk_cell BK310.out 4).trans rfl⟩ (fun hHeld => ?_)
                  clear hK K
                  refine norm_ (a' := ?_) ?_ ?_
                  rotate_left
                  ·show Act.put _ (some 110) _ = _
                   simp only [Act.put, sb, sz, ss, i64_w, i32_w]
                   rfl
                  refine pure_ (i := 5) (N := some 113) (v := ?_) (a' := ?_) (tf 7 2) rfl rfl (any_of HT_.out (by kernel_rfl)) (fun _ _ _ h => h) (Or.inl ⟨by rfl, ?_⟩) ?_ ?_
                  rotate_left
                  ·intro w'
                   go_simp
                   with_reducible rfl
                  rotate_left
                  ·simp only [Act.put, sb, sz, ss, i64_w, i32_w]
                   rfl
                  refine pure_ (i := 7) (N := some 12) (v := ?_) (a' := ?_) (tf 8 1) rfl rfl (any_of HT_.out (by kernel_rfl)) (fun _ _ _ h => h) (Or.inl ⟨by rfl, ?_⟩) ?_ ?_
                  rotate_left
                  ·intro w'
                   go_simp
                   with_reducible rfl
                  rotate_left
                  ·simp only [Act.put, sb, sz, ss, i64_w, i32_w]
                   rfl
                  refine one_ (i := 8) (N := none) (tf 9 0) rfl rfl (one_of HT_.out (by kernel_rfl)) (by decide) (fun K hK => ?_)
                  have hs44 : w43.cell? ⟨gb300, 0, none⟩ = some (.bool false) := (blk_cell BK300.out 0).trans rfl
                  have hfs44 := blk_frozen BK300.out 0
                  have hns44_1 := NB310_300.out
                  have hms44_1 := NB300_310.out
                  have hs45 : w43.cell? ⟨gb300, 1, none⟩ = some (.bool false) := (blk_cell BK300.out 1).trans rfl
                  have hfs45 := blk_frozen BK300.out 1
                  have hns45_1 := NB310_300.out
                  have hms45_1 := NB300_310.out
                  have hs46 : w43.cell? ⟨gb300, 2, none⟩ = some (.bool false) := (blk_cell BK300.out 2).trans rfl
                  have hfs46 := blk_frozen BK300.out 2
                  have hns46_1 := NB310_300.out
                  have hms46_1 := NB300_310.out
                  have hs47 : w43.cell? ⟨gb300, 3, none⟩ = some (.bool false) := (blk_cell BK300.out 3).trans rfl
                  have hfs47 := blk_frozen BK300.out 3
                  have hns47_1 := NB310_300.out
                  have hms47_1 := NB300_310.out
                  have hs48 : w43.cell? ⟨gb300, 4, none⟩ = some (.bool false) := (blk_cell BK300.out 4).trans rfl
                  have hfs48 := blk_frozen BK300.out 4
                  have hns48_1 := NB310_300.out
                  have hms48_1 := NB300_310.out
                  refine skip_ (w1 := ?_) (by rfl) rfl ?_ ?_
                  rotate_left
                  ·go_simp
                   rfl
                  refine hK.out _ _ ⟨(cf5 NB310_300.out (hHeld.1)), (cf5 NB310_300.out (hHeld.2.1)), (cf5 NB310_300.out (hHeld.2.2.1)), (cf5 NB310_300.out (hHeld.2.2.2.1)), (cf5 NB310_300.out (hHeld.2.2.2.2))⟩ (fun hHeld => ?_)
                  clear hK K
                  refine done_ (done_of HT_.out (by kernel_rfl)) ?_
                  try go_wp2
                  refine bodyPost_ret (results_tc rfl _ _ gb300 41 #[.bool false, .bool false, .bool false, .bool (decide (x17_17 < (wrap64 (1 - t304)))), .bool true] (0, 0) _ rfl (by (with_reducible repeat first | apply bd | apply be | apply ba); refine blk_put (cs := #[.bool false, .bool false, .bool false, .bool (decide (x17_17 < (wrap64 (1 - t304)))), .bool false]) ?_ 4 _ rfl; (with_reducible repeat first | apply bd | apply be | apply ba); refine blk_put (cs := F5) ?_ 3 _ rfl; (with_reducible repeat first | apply bd | apply be | apply ba); refine blk_put (cs := F5) ?_ 2 _ rfl; (with_reducible repeat first | apply bd | apply be | apply ba); refine blk_put (cs := F5) ?_ 1 _ rfl; (with_reducible repeat first | apply bd | apply be | apply ba); refine blk_put (cs := F5) ?_ 0 _ rfl; (with_reducible repeat first | apply bd | apply be | apply ba); exact BK300.out) Try.underlying41 rfl (by kernel_rfl)) rfl ?_
                  exact ⟨by first | rfl | (simp [errW_none, errW_some] <;> rfl) | (simp only [← hji7, ← hji8, ← hji20, ← hji31, ← hji33, ← hji40]; first | rfl | (simp [errW_none, errW_some] <;> rfl)) | (simp [*, errW_none, errW_some] <;> rfl), bl2 HB.out GE300.out GE310.out⟩
                 ·rw [if_neg c41] at H
                  have c41b0 : decide (x19_33 < (ji40)) = false := decide_eq_false c41
                  clear c41
                  replace H := Option.bind_eq_some_iff.mp H
                  obtain ⟨t312, A490, H⟩ := H
                  replace H : ((annealref1_Widths.f a0).bind fun bt313 => (if 0 ≤ bt313.1 then (if (wrap64 ((wrap64 (x18_33 + t303)) + t312)) ≥ (wrap64 ((shl .i64 1 bt313.1) - 1)) then ((annealref1_over.f kj33 a0 a1 a2).bind fun t315 => (some (t315, false, false, true, false, true))) else ((annealref1_sign.f a0 a2).bind fun t316 => (some (Go.bits .or .u32 (Go.bits .or .u32 t316 (shl .u32 ((wrap64 ((wrap64 (x18_33 + t303)) + t312)) % 4294967296) t303)) ((Go.bits .and .u64 x19_33 (IntKind.u64.wrap ((ji40) - 1))) % 4294967296), false, false, false, (decide (x17_17 < (wrap64 (1 - t304)))), true)))) else (none))) = some (r1, r2, r3, r4, r5, r6) := H
                  have A49 := Aside0.mk A490
                  clear A490
                  replace H := Option.bind_eq_some_iff.mp H
                  obtain ⟨⟨t313, t314⟩, A500, H⟩ := H
                  replace H : (if 0 ≤ t313 then (if (wrap64 ((wrap64 (x18_33 + t303)) + t312)) ≥ (wrap64 ((shl .i64 1 t313) - 1)) then ((annealref1_over.f kj33 a0 a1 a2).bind fun t315 => (some (t315, false, false, true, false, true))) else ((annealref1_sign.f a0 a2).bind fun t316 => (some (Go.bits .or .u32 (Go.bits .or .u32 t316 (shl .u32 ((wrap64 ((wrap64 (x18_33 + t303)) + t312)) % 4294967296) t303)) ((Go.bits .and .u64 x19_33 (IntKind.u64.wrap ((ji40) - 1))) % 4294967296), false, false, false, (decide (x17_17 < (wrap64 (1 - t304)))), true)))) else (none)) = some (r1, r2, r3, r4, r5, r6) := H
                  have A50 := Aside0.mk A500
                  clear A500
                  by_cases c51 : 0 ≤ t313
                  ·rw [if_pos c51] at H
                   have c51b0 := eq_true c51
                   have c51b1 : decide (0 ≤ t313) = true := decide_eq_true c51
                   clear c51
                   obtain ⟨ji52, hji52⟩ : ∃ j_ : Int, (shl .i64 1 t313) = j_ := ⟨_, rfl⟩
                   replace H : (if (wrap64 ((wrap64 (x18_33 + t303)) + t312)) ≥ (wrap64 ((ji52) - 1)) then ((annealref1_over.f kj33 a0 a1 a2).bind fun t315 => (some (t315, false, false, true, false, true))) else ((annealref1_sign.f a0 a2).bind fun t316 => (some (Go.bits .or .u32 (Go.bits .or .u32 t316 (shl .u32 ((wrap64 ((wrap64 (x18_33 + t303)) + t312)) % 4294967296) t303)) ((Go.bits .and .u64 x19_33 (IntKind.u64.wrap ((ji40) - 1))) % 4294967296), false, false, false, (decide (x17_17 < (wrap64 (1 - t304)))), true)))) = some (r1, r2, r3, r4, r5, r6) := by first | (rw [hji52] at H; exact H) | (simp only [hji52] at H ⊢; exact H)
                   (try rw [hji52] at A49)
                   (try rw [hji52] at A50)
                   have hji52_ : (IntKind.i64.wrap (1 * 2 ^ min t313.toNat 64)) = ji52 := hji52
                   have hji52z : t313 ≤ 64 → (IntKind.i64.wrap (1 * 2 ^ t313.toNat)) = ji52 := shl_small hji52
                   have hji52u : (IntKind.i64.wrap (2 ^ min t313.toNat 64)) = ji52 := by have h_ := hji52_; rw [Int.one_mul] at h_; exact h_
                   have hji52v : t313 ≤ 64 → (IntKind.i64.wrap (2 ^ t313.toNat)) = ji52 := fun hle_ => by have h_ := hji52z hle_; rw [Int.one_mul] at h_; exact h_
                   have hji52y : (wrap64 (1 * 2 ^ min t313.toNat 64)) = ji52 := (i64_w _).symm.trans hji52_
                   have hji52x : t313 ≤ 64 → (wrap64 (1 * 2 ^ t313.toNat)) = ji52 := fun h_ => (i64_w _).symm.trans (hji52z h_)
                   by_cases c53 : (wrap64 ((wrap64 (x18_33 + t303)) + t312)) ≥ (wrap64 ((ji52) - 1))
                   ·rw [if_pos c53] at H
                    have c53b0 : decide ((wrap64 ((ji52) - 1)) ≤ (wrap64 ((wrap64 (x18_33 + t303)) + t312))) = true := decide_eq_true c53
                    clear c53
                    replace H := Option.bind_eq_some_iff.mp H
                    obtain ⟨t315, A540, H⟩ := H
                    replace H : (some (t315, false, false, true, false, true)) = some (r1, r2, r3, r4, r5, r6) := H
                    have A54 := Aside0.mk A540
                    clear A540
                    simp only [Option.some.injEq, Prod.mk.injEq] at H
                    obtain ⟨rfl, rfl, rfl, rfl, rfl, rfl⟩ := H
                    go_wp2_with (first | ((with_reducible refine gate_callee (f := 90) rfl ?_); refine goesL_ (some 119) rfl rfl Try.func90 (by kernel_rfl) rfl #[.int .i64 a0] rfl gl ?_; (with_reducible refine (annealref1_bias.calls a0 t312 _ A49.out).mono ?_); rintro e w' ⟨rfl, ⟨nd, rfl⟩⟩; refine ⟨_, rfl, ?_⟩; (try (rw [drewN_self wc]; generalize hq_ : World.drewN wc _ = wc; have n0_ : Aside0 (wc.heap[gb300]? = some (o5_ false false false false false 41)) := ⟨by rw [← hq_]; exact (bv BK300.out)⟩; have n1_ : Aside0 (wc.heap[gb310]? = some (.cells #[.bool false, .bool false, .bool false, .bool (decide (x17_17 < (wrap64 (1 - t304)))), .bool true] 41 (0, 0))) := ⟨by rw [← hq_]; exact (bv BK310.out)⟩; have n2_ : Aside0 (Below w.heap.size w wc) := ⟨by rw [← hq_]; exact (bl2 HB.out GE300.out GE310.out)⟩; clear BK300 BK310 HB hq_; have BK300 := n0_; have BK310 := n1_; have HB := n2_; clear n0_ n1_ n2_))) | ((with_reducible refine gate_callee (f := 49) rfl ?_); refine goesL_ (some 123) rfl rfl Try.func49 (by kernel_rfl) rfl #[.int .i64 a0] rfl gl ?_; (with_reducible refine (annealref1_Widths.calls a0 t313 t314 _ A50.out).mono ?_); rintro e w' ⟨rfl, ⟨nd, rfl⟩⟩; refine ⟨_, rfl, ?_⟩; (try (rw [drewN_self wc]; generalize hq_ : World.drewN wc _ = wc; have n0_ : Aside0 (wc.heap[gb300]? = some (o5_ false false false false false 41)) := ⟨by rw [← hq_]; exact (bv BK300.out)⟩; have n1_ : Aside0 (wc.heap[gb310]? = some (.cells #[.bool false, .bool false, .bool false, .bool (decide (x17_17 < (wrap64 (1 - t304)))), .bool true] 41 (0, 0))) := ⟨by rw [← hq_]; exact (bv BK310.out)⟩; have n2_ : Aside0 (Below w.heap.size w wc) := ⟨by rw [← hq_]; exact (bl2 HB.out GE300.out GE310.out)⟩; clear BK300 BK310 HB hq_; have BK300 := n0_; have BK310 := n1_; have HB := n2_; clear n0_ n1_ n2_))) | ((with_reducible refine gate_callee (f := 94) rfl ?_); refine goesL_ (some 134) rfl rfl Try.func94 (by kernel_rfl) rfl #[.int .i64 a0, .int .i64 a1, .bool a2] rfl gl ?_; (with_reducible refine (annealref1_over.calls kj33 a0 a1 a2 t315 _ A54.out).mono ?_); rintro e w' ⟨rfl, ⟨nd, rfl⟩⟩; refine ⟨_, rfl, ?_⟩; (try (rw [drewN_self wc]; generalize hq_ : World.drewN wc _ = wc; have n0_ : Aside0 (wc.heap[gb300]? = some (o5_ false false false false false 41)) := ⟨by rw [← hq_]; exact (bv BK300.out)⟩; have n1_ : Aside0 (wc.heap[gb310]? = some (.cells #[.bool false, .bool false, .bool false, .bool (decide (x17_17 < (wrap64 (1 - t304)))), .bool true] 41 (0, 0))) := ⟨by rw [← hq_]; exact (bv BK310.out)⟩; have n2_ : Aside0 (Below w.heap.size w wc) := ⟨by rw [← hq_]; exact (bl2 HB.out GE300.out GE310.out)⟩; clear BK300 BK310 HB hq_; have BK300 := n0_; have BK310 := n1_; have HB := n2_; clear n0_ n1_ n2_)); have hnb55 := NB300_310.out; have hnc55 := NB310_300.out; obtain ⟨hcz56_0, hcz56_1, hcz56_2, hcz56_3, hcz56_4⟩ := bc5 BK300.out; obtain ⟨hfz56_0, hfz56_1, hfz56_2, hfz56_3, hfz56_4⟩ := bf5 BK300.out))
                    refine bodyPost_ret (results_tc rfl _ _ gb300 41 #[.bool false, .bool false, .bool true, .bool false, .bool true] (0, 0) _ rfl (by (with_reducible repeat first | apply bd | apply be | apply ba); refine blk_put (cs := q5_ false false true false false) ?_ 4 _ rfl; (with_reducible repeat first | apply bd | apply be | apply ba); refine blk_put (cs := q5_ false false true false false) ?_ 3 _ rfl; (with_reducible repeat first | apply bd | apply be | apply ba); refine blk_put (cs := F5) ?_ 2 _ rfl; (with_reducible repeat first | apply bd | apply be | apply ba); refine blk_put (cs := F5) ?_ 1 _ rfl; (with_reducible repeat first | apply bd | apply be | apply ba); refine blk_put (cs := F5) ?_ 0 _ rfl; (with_reducible repeat first | apply bd | apply be | apply ba); exact BK300.out) Try.underlying41 rfl (by kernel_rfl)) rfl ?_
                    exact ⟨by first | rfl | (simp [errW_none, errW_some] <;> rfl) | (simp only [← hji7, ← hji8, ← hji20, ← hji31, ← hji33, ← hji40, ← hji52]; first | rfl | (simp [errW_none, errW_some] <;> rfl)) | (simp [*, errW_none, errW_some] <;> rfl), bl2 HB.out GE300.out GE310.out⟩
                   ·rw [if_neg c53] at H
                    have c53b0 : decide ((wrap64 ((ji52) - 1)) ≤ (wrap64 ((wrap64 (x18_33 + t303)) + t312))) = false := decide_eq_false c53
                    clear c53
                    replace H := Option.bind_eq_some_iff.mp H
                    obtain ⟨t316, A570, H⟩ := H
                    replace H : (some (Go.bits .or .u32 (Go.bits .or .u32 t316 (shl .u32 ((wrap64 ((wrap64 (x18_33 + t303)) + t312)) % 4294967296) t303)) ((Go.bits .and .u64 x19_33 (IntKind.u64.wrap ((ji40) - 1))) % 4294967296), false, false, false, (decide (x17_17 < (wrap64 (1 - t304)))), true)) = some (r1, r2, r3, r4, r5, r6) := H
                    have A57 := Aside0.mk A570
                    clear A570
                    have c58b0 := eq_true (of_decide_eq_true (by first | (with_reducible assumption) | assumption) : 0 ≤ t303)
                    obtain ⟨ji59, hji59⟩ : ∃ j_ : Int, (shl .u32 ((wrap64 ((wrap64 (x18_33 + t303)) + t312)) % 4294967296) t303) = j_ := ⟨_, rfl⟩
                    replace H : (some (Go.bits .or .u32 (Go.bits .or .u32 t316 (ji59)) ((Go.bits .and .u64 x19_33 (IntKind.u64.wrap ((ji40) - 1))) % 4294967296), false, false, false, (decide (x17_17 < (wrap64 (1 - t304)))), true)) = some (r1, r2, r3, r4, r5, r6) := by first | (rw [hji59] at H; exact H) | (simp only [hji59] at H ⊢; exact H)
                    (try rw [hji59] at A49)
                    (try rw [hji59] at A50)
                    (try rw [hji59] at A57)
                    have hji59_ : (IntKind.u32.wrap (((wrap64 ((wrap64 (x18_33 + t303)) + t312)) % 4294967296) * 2 ^ min t303.toNat 32)) = ji59 := hji59
                    have hji59z : t303 ≤ 32 → (IntKind.u32.wrap (((wrap64 ((wrap64 (x18_33 + t303)) + t312)) % 4294967296) * 2 ^ t303.toNat)) = ji59 := shl_small hji59
                    have c60b0 := eq_true (of_decide_eq_true (by first | (with_reducible assumption) | assumption) : 0 ≤ t303)
                    simp only [Option.some.injEq, Prod.mk.injEq] at H
                    obtain ⟨rfl, rfl, rfl, rfl, rfl, rfl⟩ := H
                    try go_wp2_with (first | ((with_reducible refine gate_callee (f := 90) rfl ?_); refine goesL_ (some 119) rfl rfl Try.func90 (by kernel_rfl) rfl #[.int .i64 a0] rfl gl ?_; (with_reducible refine (annealref1_bias.calls a0 t312 _ A49.out).mono ?_); rintro e w' ⟨rfl, ⟨nd, rfl⟩⟩; refine ⟨_, rfl, ?_⟩; (try (rw [drewN_self wc]; generalize hq_ : World.drewN wc _ = wc; have n0_ : Aside0 (wc.heap[gb300]? = some (o5_ false false false false false 41)) := ⟨by rw [← hq_]; exact (bv BK300.out)⟩; have n1_ : Aside0 (wc.heap[gb310]? = some (.cells #[.bool false, .bool false, .bool false, .bool (decide (x17_17 < (wrap64 (1 - t304)))), .bool true] 41 (0, 0))) := ⟨by rw [← hq_]; exact (bv BK310.out)⟩; have n2_ : Aside0 (Below w.heap.size w wc) := ⟨by rw [← hq_]; exact (bl2 HB.out GE300.out GE310.out)⟩; clear BK300 BK310 HB hq_; have BK300 := n0_; have BK310 := n1_; have HB := n2_; clear n0_ n1_ n2_))) | ((with_reducible refine gate_callee (f := 49) rfl ?_); refine goesL_ (some 123) rfl rfl Try.func49 (by kernel_rfl) rfl #[.int .i64 a0] rfl gl ?_; (with_reducible refine (annealref1_Widths.calls a0 t313 t314 _ A50.out).mono ?_); rintro e w' ⟨rfl, ⟨nd, rfl⟩⟩; refine ⟨_, rfl, ?_⟩; (try (rw [drewN_self wc]; generalize hq_ : World.drewN wc _ = wc; have n0_ : Aside0 (wc.heap[gb300]? = some (o5_ false false false false false 41)) := ⟨by rw [← hq_]; exact (bv BK300.out)⟩; have n1_ : Aside0 (wc.heap[gb310]? = some (.cells #[.bool false, .bool false, .bool false, .bool (decide (x17_17 < (wrap64 (1 - t304)))), .bool true] 41 (0, 0))) := ⟨by rw [← hq_]; exact (bv BK310.out)⟩; have n2_ : Aside0 (Below w.heap.size w wc) := ⟨by rw [← hq_]; exact (bl2 HB.out GE300.out GE310.out)⟩; clear BK300 BK310 HB hq_; have BK300 := n0_; have BK310 := n1_; have HB := n2_; clear n0_ n1_ n2_))))
                    have n0_ := Aside0.mk (blk_drew BK300.out)
                    have n1_ := Aside0.mk (blk_drew BK310.out)
                    have n2_ := Aside0.mk (below_drew1 HB.out)
                    clear BK300
                    clear BK310
                    clear HB
                    have BK300 := n0_
                    have BK310 := n1_
                    have HB := n2_
                    clear n0_ n1_ n2_
                    refine start_ (n := 18) (S := fun w' => w'.cell? ⟨gb310, 0, none⟩ = some (.bool false) ∧ w'.cell? ⟨gb310, 1, none⟩ = some (.bool false) ∧ w'.cell? ⟨gb310, 2, none⟩ = some (.bool false) ∧ w'.cell? ⟨gb310, 3, none⟩ = some (.bool (decide (x17_17 < (wrap64 (1 - t304))))) ∧ w'.cell? ⟨gb310, 4, none⟩ = some (.bool true)) (ds := []) (tf 0 18) (by kernel_rfl) rfl rfl ⟨(blk_cell BK310.out 0).trans rfl, (blk_cell BK310.out 1).trans rfl, (blk_cell BK310.out 2).trans rfl, (blk_cell BK310.out 3).trans rfl, (blk_cell BK310.out 4).trans rfl⟩ (fun hHeld => ?_); refine with_tabW annealref1_Pack.tab24 annealref1_Pack.bits24 (fun HT_ HW_ => ?_)
                    generalize wc.drew = w61 at BK300 BK310 HB hHeld ⊢
                    refine pure_ (i := 0) (N := some 136) (v := ?_) (a' := ?_) (tf 1 17) rfl rfl (any_of HT_.out (by kernel_rfl)) (fun _ _ _ h => h) (Or.inl ⟨by rfl, ?_⟩) ?_ ?_
                    rotate_left
                    ·intro w'
                     go_simp
                     with_reducible rfl
                    rotate_left
                    ·simp only [Act.put, sb, sz, ss, i64_w, i32_w]
                     rfl
                    refine pure_ (i := 1) (N := some 137) (v := ?_) (a' := ?_) (tf 2 16) rfl rfl (any_of HT_.out (by kernel_rfl)) (fun _ _ _ h => h) (Or.inl ⟨by rfl, ?_⟩) ?_ ?_
                    rotate_left
                    ·intro w'
                     go_simp
                     with_reducible rfl
                    rotate_left
                    ·simp only [Act.put, sb, sz, ss, i64_w, i32_w]
                     rfl
                    refine pure_ (i := 3) (N := some 139) (v := ?_) (a' := ?_) #[true, true, false, true, false, false, false, false, false, false, false, false, false, false, false, false, false, false] rfl rfl (any_of HT_.out (by kernel_rfl)) (fun _ _ _ h => h) (Or.inl ⟨by rfl, ?_⟩) ?_ ?_
                    rotate_left
                    ·intro w'
                     go_simp
                     with_reducible rfl
                    rotate_left
                    ·simp only [Act.put, sb, sz, ss, i64_w, i32_w]
                     rfl
                    refine pure_ (i := 4) (N := some 140) (v := ?_) (a' := ?_) #[true, true, false, true, true, false, false, false, false, false, false, false, false, false, false, false, false, false] rfl rfl (any_of HT_.out (by kernel_rfl)) (fun _ _ _ h => h) (Or.inl ⟨by rfl, ?_⟩) ?_ ?_
                    rotate_left
                    ·intro w'
                     go_simp
                     with_reducible rfl
                    rotate_left
                    ·simp only [Act.put, sb, sz, ss, i64_w, i32_w]
                     rfl
                    refine pure_ (i := 5) (N := some 141) (v := ?_) (a' := ?_) #[true, true, false, true, true, true, false, false, false, false, false, false, false, false, false, false, false, false] rfl rfl (any_of HT_.out (by kernel_rfl)) (fun _ _ _ h => h) (Or.inl ⟨by rfl, ?_⟩) ?_ ?_
                    rotate_left
                    ·intro w'
                     go_simp
                     with_reducible rfl
                    rotate_left
                    ·simp only [Act.put, sb, sz, ss, i64_w, i32_w]
                     rfl
                    refine pure_ (i := 6) (N := some 142) (v := ?_) (a' := ?_) #[true, true, false, true, true, true, true, false, false, false, false, false, false, false, false, false, false, false] rfl rfl (any_of HT_.out (by kernel_rfl)) (fun _ _ _ h => h) (Or.inl ⟨by rfl, ?_⟩) ?_ ?_
                    rotate_left
                    ·intro w'
                     go_simp
                     with_reducible rfl
                    rotate_left
                    ·simp only [Act.put, sb, sz, ss, i64_w, i32_w]
                     rfl
                    refine pure_ (i := 8) (N := some 144) (v := ?_) (a' := ?_) #[true, true, false, true, true, true, true, false, true, false, false, false, false, false, false, false, false, false] rfl rfl (any_of HT_.out (by kernel_rfl)) (fun _ _ _ h => h) (Or.inl ⟨by rfl, ?_⟩) ?_ ?_
                    rotate_left
                    ·intro w'
                     go_simp
                     with_reducible rfl
                    rotate_left
                    ·simp only [Act.put, sb, sz, ss, i64_w, i32_w]
                     rfl
                    refine pure_ (i := 9) (N := some 145) (v := ?_) (a' := ?_) #[true, true, false, true, true, true, true, false, true, true, false, false, false, false, false, false, false, false] rfl rfl (any_of HT_.out (by kernel_rfl)) (fun _ _ _ h => h) (Or.inl ⟨by rfl, ?_⟩) ?_ ?_
                    rotate_left
                    ·intro w'
                     go_simp
                     with_reducible rfl
                    rotate_left
                    ·simp only [Act.put, sb, sz, ss, i64_w, i32_w]
                     rfl
                    refine pure_ (i := 10) (N := some 146) (v := ?_) (a' := ?_) #[true, true, false, true, true, true, true, false, true, true, true, false, false, false, false, false, false, false] rfl rfl (any_of HT_.out (by kernel_rfl)) (fun _ _ _ h => h) (Or.inl ⟨by rfl, ?_⟩) ?_ ?_
                    rotate_left
                    ·intro w'
                     go_simp
                     with_reducible rfl
                    rotate_left
                    ·simp only [Act.put, sb, sz, ss, i64_w, i32_w]
                     rfl
                    refine pure_ (i := 11) (N := some 147) (v := ?_) (a' := ?_) #[true, true, false, true, true, true, true, false, true, true, true, true, false, false, false, false, false, false] rfl rfl (any_of HT_.out (by kernel_rfl)) (fun _ _ _ h => h) (Or.inl ⟨by rfl, ?_⟩) ?_ ?_
                    rotate_left
                    ·intro w'
                     go_simp
                     with_reducible rfl
                    rotate_left
                    ·simp only [Act.put, sb, sz, ss, i64_w, i32_w]
                     rfl
                    refine pure_ (i := 12) (N := some 148) (v := ?_) (a' := ?_) #[true, true, false, true, true, true, true, false, true, true, true, true, true, false, false, false, false, false] rfl rfl (any_of HT_.out (by kernel_rfl)) (fun _ _ _ h => h) (Or.inl ⟨by rfl, ?_⟩) ?_ ?_
                    rotate_left
                    ·intro w'
                     go_simp
                     with_reducible rfl
                    rotate_left
                    ·simp only [Act.put, sb, sz, ss, i64_w, i32_w]
                     rfl
                    refine pure_ (i := 13) (N := some 149) (v := ?_) (a' := ?_) #[true, true, false, true, true, true, true, false, true, true, true, true, true, true, false, false, false, false] rfl rfl (any_of HT_.out (by kernel_rfl)) (fun _ _ _ h => h) (Or.inl ⟨by rfl, ?_⟩) ?_ ?_
                    rotate_left
                    ·intro w'
                     go_simp
                     with_reducible rfl
                    rotate_left
                    ·simp only [Act.put, sb, sz, ss, i64_w, i32_w]
                     rfl
                    refine take_ (i := 15) (N := some 151) (v := ?_) (a' := ?_) #[true, true, false, true, true, true, true, false, true, true, true, true, true, true, false, true, false, false] rfl rfl (take_ofW HT_.out HW_.out (by kernel_rfl)) (fun _ _ _ h => h) (Or.inl ⟨by rfl, ?_⟩) hHeld ?_ ?_
                    rotate_left
                    ·rintro w' ⟨s0, s1, s2, s3, s4⟩
                     go_simp
                     with_reducible rfl
                    rotate_left
                    ·simp only [Act.put, sb, sz, ss, i64_w, i32_w]
                     rfl
                    refine one_ (i := 2) (N := some 138) #[true, true, true, true, true, true, true, false, true, true, true, true, true, true, false, true, false, false] rfl rfl (one_of HT_.out (by kernel_rfl)) (by decide) (fun K hK => ?_)
                    refine goes_ Try.func56 (by kernel_rfl) rfl #[.int .i64 a0, .bool a2] (by rfl) rfl rfl gl ?_
                    with_reducible refine (annealref1_sign.calls a0 a2 t316 _ A57.out).mono ?_
                    rintro e w' ⟨rfl, ⟨nd, rfl⟩⟩
                    refine ⟨_, rfl, ?_⟩
                    refine hK.out _ _ ⟨(blk_cell BK310.out 0).trans rfl, (blk_cell BK310.out 1).trans rfl, (blk_cell BK310.out 2).trans rfl, (blk_cell BK310.out 3).trans rfl, (blk_cell BK310.out 4).trans rfl⟩ (fun hHeld => ?_)
                    clear hK K
                    refine norm_ (a' := ?_) ?_ ?_
                    rotate_left
                    ·show Act.put _ (some 138) _ = _
                     simp only [Act.put, sb, sz, ss, i64_w, i32_w]
                     rfl
                    refine pure_ (i := 7) (N := some 143) (v := ?_) (a' := ?_) #[true, true, true, true, true, true, true, true, true, true, true, true, true, true, false, true, false, false] rfl rfl (any_of HT_.out (by kernel_rfl)) (fun _ _ _ h => h) (Or.inl ⟨by rfl, ?_⟩) ?_ ?_
                    rotate_left
                    ·intro w'
                     go_simp
                     with_reducible rfl
                    rotate_left
                    ·simp only [Act.put, sb, sz, ss, i64_w, i32_w]
                     rfl
                    refine pure_ (i := 14) (N := some 150) (v := ?_) (a' := ?_) (tf 16 2) rfl rfl (any_of HT_.out (by kernel_rfl)) (fun _ _ _ h => h) (Or.inl ⟨by rfl, ?_⟩) ?_ ?_
                    rotate_left
                    ·intro w'
                     go_simp
                     with_reducible rfl
                    rotate_left
                    ·simp only [Act.put, sb, sz, ss, i64_w, i32_w]
                     rfl
                    refine pure_ (i := 16) (N := some 12) (v := ?_) (a' := ?_) (tf 17 1) rfl rfl (any_of HT_.out (by kernel_rfl)) (fun _ _ _ h => h) (Or.inl ⟨by rfl, ?_⟩) ?_ ?_
                    rotate_left
                    ·intro w'
                     go_simp
                     with_reducible rfl
                    rotate_left
                    ·simp only [Act.put, sb, sz, ss, i64_w, i32_w]
                     rfl
                    refine one_ (i := 17) (N := none) (tf 18 0) rfl rfl (one_of HT_.out (by kernel_rfl)) (by decide) (fun K hK => ?_)
                    have hs62 : w61.cell? ⟨gb300, 0, none⟩ = some (.bool false) := (blk_cell BK300.out 0).trans rfl
                    have hfs62 := blk_frozen BK300.out 0
                    have hns62_1 := NB310_300.out
                    have hms62_1 := NB300_310.out
                    have hs63 : w61.cell? ⟨gb300, 1, none⟩ = some (.bool false) := (blk_cell BK300.out 1).trans rfl
                    have hfs63 := blk_frozen BK300.out 1
                    have hns63_1 := NB310_300.out
                    have hms63_1 := NB300_310.out
                    have hs64 : w61.cell? ⟨gb300, 2, none⟩ = some (.bool false) := (blk_cell BK300.out 2).trans rfl
                    have hfs64 := blk_frozen BK300.out 2
                    have hns64_1 := NB310_300.out
                    have hms64_1 := NB300_310.out
                    have hs65 : w61.cell? ⟨gb300, 3, none⟩ = some (.bool false) := (blk_cell BK300.out 3).trans rfl
                    have hfs65 := blk_frozen BK300.out 3
                    have hns65_1 := NB310_300.out
                    have hms65_1 := NB300_310.out
                    have hs66 : w61.cell? ⟨gb300, 4, none⟩ = some (.bool false) := (blk_cell BK300.out 4).trans rfl
                    have hfs66 := blk_frozen BK300.out 4
                    have hns66_1 := NB310_300.out
                    have hms66_1 := NB300_310.out
                    refine skip_ (w1 := ?_) (by rfl) rfl ?_ ?_
                    rotate_left
                    ·go_simp
                     rfl
                    refine hK.out _ _ ⟨(cf5 NB310_300.out (hHeld.1)), (cf5 NB310_300.out (hHeld.2.1)), (cf5 NB310_300.out (hHeld.2.2.1)), (cf5 NB310_300.out (hHeld.2.2.2.1)), (cf5 NB310_300.out (hHeld.2.2.2.2))⟩ (fun hHeld => ?_)
                    clear hK K
                    refine done_ (done_of HT_.out (by kernel_rfl)) ?_
                    try go_wp2
                    refine bodyPost_ret (results_tc rfl _ _ gb300 41 #[.bool false, .bool false, .bool false, .bool (decide (x17_17 < (wrap64 (1 - t304)))), .bool true] (0, 0) _ rfl (by (with_reducible repeat first | apply bd | apply be | apply ba); refine blk_put (cs := #[.bool false, .bool false, .bool false, .bool (decide (x17_17 < (wrap64 (1 - t304)))), .bool false]) ?_ 4 _ rfl; (with_reducible repeat first | apply bd | apply be | apply ba); refine blk_put (cs := F5) ?_ 3 _ rfl; (with_reducible repeat first | apply bd | apply be | apply ba); refine blk_put (cs := F5) ?_ 2 _ rfl; (with_reducible repeat first | apply bd | apply be | apply ba); refine blk_put (cs := F5) ?_ 1 _ rfl; (with_reducible repeat first | apply bd | apply be | apply ba); refine blk_put (cs := F5) ?_ 0 _ rfl; (with_reducible repeat first | apply bd | apply be | apply ba); exact BK300.out) Try.underlying41 rfl (by kernel_rfl)) rfl ?_
                    exact ⟨by first | rfl | (simp [errW_none, errW_some] <;> rfl) | (simp only [← hji7, ← hji8, ← hji20, ← hji31, ← hji33, ← hji40, ← hji52, ← hji59]; first | rfl | (simp [errW_none, errW_some] <;> rfl)) | (simp [*, errW_none, errW_some] <;> rfl), bl2 HB.out GE300.out GE310.out⟩
                  ·rw [if_neg c51] at H
                   exact absurd H (by simp)
                ·rw [if_neg c39] at H
                 exact absurd H (by simp)
             ·rw [if_neg c32] at H
              exact absurd H (by simp)
            ·replace c30 := Bool.eq_false_iff.mpr c30
             subst c30
             have H1 : (if 0 ≤ (wrap64 (t303 + 1)) then (if x19_27 = (shl .u64 1 (wrap64 (t303 + 1))) then (annealref1_Pack.j6 kj27 a0 a1 a2 t303 (wrap64 ((wrap64 ((ji20) - t303)) + 1)) (x19_27 / 2) false false false false false) else (annealref1_Pack.j6 kj27 a0 a1 a2 t303 (wrap64 ((ji20) - t303)) x19_27 false false false false false)) else (none)) = some (r1, r2, r3, r4, r5, r6) := by rw [if_neg (show ¬ (false = true) by decide)] at H; exact H
             clear H
             have H := H1
             clear H1
             obtain ⟨ji67, hji67⟩ : ∃ j_ : Int, (wrap64 (t303 + 1)) = j_ := ⟨_, rfl⟩
             replace H : (if 0 ≤ (ji67) then (if x19_27 = (shl .u64 1 (ji67)) then (annealref1_Pack.j6 kj27 a0 a1 a2 t303 (wrap64 ((wrap64 ((ji20) - t303)) + 1)) (x19_27 / 2) false false false false false) else (annealref1_Pack.j6 kj27 a0 a1 a2 t303 (wrap64 ((ji20) - t303)) x19_27 false false false false false)) else (none)) = some (r1, r2, r3, r4, r5, r6) := by first | (rw [hji67] at H; exact H) | (simp only [hji67] at H ⊢; exact H)
             have hji67w : (IntKind.i64.wrap (t303 + 1)) = ji67 := (i64_w _).trans hji67
             by_cases c68 : 0 ≤ (ji67)
             ·rw [if_pos c68] at H
              have c68b0 := eq_true c68
              have c68b1 : decide (0 ≤ (ji67)) = true := decide_eq_true c68
              clear c68
              obtain ⟨ji69, hji69⟩ : ∃ j_ : Int, (shl .u64 1 (ji67)) = j_ := ⟨_, rfl⟩
              replace H : (if x19_27 = (ji69) then (annealref1_Pack.j6 kj27 a0 a1 a2 t303 (wrap64 ((wrap64 ((ji20) - t303)) + 1)) (x19_27 / 2) false false false false false) else (annealref1_Pack.j6 kj27 a0 a1 a2 t303 (wrap64 ((ji20) - t303)) x19_27 false false false false false)) = some (r1, r2, r3, r4, r5, r6) := by first | (rw [hji69] at H; exact H) | (simp only [hji69] at H ⊢; exact H)
              have hji69_ : (IntKind.u64.wrap (1 * 2 ^ min (ji67).toNat 64)) = ji69 := hji69
              have hji69z : (ji67) ≤ 64 → (IntKind.u64.wrap (1 * 2 ^ (ji67).toNat)) = ji69 := shl_small hji69
              have hji69u : (IntKind.u64.wrap (2 ^ min (ji67).toNat 64)) = ji69 := by have h_ := hji69_; rw [Int.one_mul] at h_; exact h_
              have hji69v : (ji67) ≤ 64 → (IntKind.u64.wrap (2 ^ (ji67).toNat)) = ji69 := fun hle_ => by have h_ := hji69z hle_; rw [Int.one_mul] at h_; exact h_
              have HC70 := Aside0.mk H
              clear H
              go_upto_if 99 with (first | ((with_reducible refine gate_dst (N := 23) rfl ?_); refine box_event ?hg (N := 23) ?hd (cs := F5) (t := 41) ?hr ?_; (case hd => rfl); (case hg => rfl); (case hr => first | (go_simp; done) | (go_simp; rfl)); intro gb317 hg w71 hbox hb; have n0_ := Aside0.mk (blk_below (g := gb300) (o := o5_ false false false false false 41) (bv BK300.out) hb); have n1_ := Aside0.mk (below_step (bl1 HB.out GE300.out) hb); have n2_ := Aside0.mk (hbox); have n3_ := Aside0.mk ((by rw [hg]; exact (below_size (bl1 HB.out GE300.out)) : w.heap.size ≤ gb317)); have n4_ := n3_; have n5_ := Aside0.mk ((by rw [hg]; exact Nat.ne_of_lt (blk_lt (g := gb300) (o := .cells F5 41 (0, 0)) (bv BK300.out)) : gb300 ≠ gb317)); have n6_ := Aside0.mk (Ne.symm n5_.out); clear BK300; clear HB; have BK300 := n0_; have HB := n1_; have BK317 := n2_; have GW317 := n3_; have GE317 := n4_; have NB300_317 := n5_; have NB317_300 := n6_; clear n0_ n1_ n2_ n3_ n4_ n5_ n6_; clear hb hbox hg; have hnb72 := NB317_300.out; have hnc72 := NB300_317.out; obtain ⟨hcz73_0, hcz73_1, hcz73_2, hcz73_3, hcz73_4⟩ := bc5 BK317.out; obtain ⟨hfz73_0, hfz73_1, hfz73_2, hfz73_3, hfz73_4⟩ := bf5 BK317.out))
              (try simp only [Act.put, sb, sz, ss])
              go_cut [18, 19] (fun v18 v19 wc => ∃ (kq : Nat) (x18_69 : Int) (x19_69 : Int), v18 = .int .i64 x18_69 ∧ v19 = .int .u64 x19_69 ∧ Aside0 (annealref1_Pack.j6 kq a0 a1 a2 t303 x18_69 x19_69 false false false false false = some (r1, r2, r3, r4, r5, r6)) ∧ Aside0 (kq ≤ kj27) ∧ Aside0 (wc.heap[gb300]? = some (o5_ false false false false false 41)) ∧ Aside0 (wc.heap[gb317]? = some (o5_ false false false false false 41)) ∧ Aside0 (Below w.heap.size w wc))
              case first =>
               have H := HC70.out
               clear HC70
               by_cases c74 : x19_27 = (ji69)
               ·rw [if_pos c74] at H
                have c74b0 : (x19_27 == (ji69)) = true := beq_iff_eq.mpr c74
                have c74b1 : (x19_27 != (ji69)) = false := bne_eq_false_iff_eq.mpr c74
                clear c74
                (first | rw [c74b0] | (simp only [i64_w, i32_w]; rw [c74b0]) | skip)
                have H' := Aside0.mk H
                clear H
                go_wp2
                go_meet
                case rel => exact ⟨_, (wrap64 ((wrap64 ((ji20) - t303)) + 1)), (x19_27 / 2), (by first | rfl | (simp; done) | (simp only [← hji20] <;> (first | rfl | (simp; done))) | (simp [*]; done) | (congr 1; (try unfold wrap64); omega) | (congr 1; rw [IntKind.wrap_u64]; omega)), (by first | rfl | (simp; done) | (simp [*]; done) | (congr 1; (try unfold wrap64); omega) | (congr 1; rw [IntKind.wrap_u64]; omega)), H', ⟨by have := HJ8.out; have := HJ17.out; have := HJ21.out; have := HJ24.out; have := HJ27.out; first | omega | exact Nat.le_refl _⟩, ⟨by (with_reducible repeat first | apply bd | apply be | apply ba); refine blk_far ?_ NB300_317.out _; (with_reducible repeat first | apply bd | apply be | apply ba); refine blk_far ?_ NB300_317.out _; (with_reducible repeat first | apply bd | apply be | apply ba); refine blk_far ?_ NB300_317.out _; (with_reducible repeat first | apply bd | apply be | apply ba); refine blk_far ?_ NB300_317.out _; (with_reducible repeat first | apply bd | apply be | apply ba); refine blk_far ?_ NB300_317.out _; (with_reducible repeat first | apply bd | apply be | apply ba); exact BK300.out⟩, ⟨by (with_reducible repeat first | apply bd | apply be | apply ba); refine blk_put (cs := F5) ?_ 4 _ rfl; (with_reducible repeat first | apply bd | apply be | apply ba); refine blk_put (cs := F5) ?_ 3 _ rfl; (with_reducible repeat first | apply bd | apply be | apply ba); refine blk_put (cs := F5) ?_ 2 _ rfl; (with_reducible repeat first | apply bd | apply be | apply ba); refine blk_put (cs := F5) ?_ 1 _ rfl; (with_reducible repeat first | apply bd | apply be | apply ba); refine blk_put (cs := F5) ?_ 0 _ rfl; (with_reducible repeat first | apply bd | apply be | apply ba); exact BK317.out⟩, ⟨bl2 HB.out GE300.out GE317.out⟩⟩
               ·rw [if_neg c74] at H
                have c74b0 : (x19_27 == (ji69)) = false := beq_eq_false_iff_ne.mpr c74
                have c74b1 : (x19_27 != (ji69)) = true := bne_iff_ne.mpr c74
                (first | rw [c74b0] | (simp only [i64_w, i32_w]; rw [c74b0]) | skip)
                have H' := Aside0.mk H
                clear H
                go_wp2
                go_meet
                case rel => exact ⟨_, ((wrap64 ((ji20) - t303))), (x19_27), (by first | rfl | (simp; done) | (simp only [← hji20] <;> (first | rfl | (simp; done))) | (simp [*]; done) | (congr 1; (try unfold wrap64); omega) | (congr 1; rw [IntKind.wrap_u64]; omega)), (by first | rfl | (simp; done) | (simp [*]; done) | (congr 1; (try unfold wrap64); omega) | (congr 1; rw [IntKind.wrap_u64]; omega)), H', ⟨by have := HJ8.out; have := HJ17.out; have := HJ21.out; have := HJ24.out; have := HJ27.out; first | omega | exact Nat.le_refl _⟩, ⟨by (with_reducible repeat first | apply bd | apply be | apply ba); refine blk_far ?_ NB300_317.out _; (with_reducible repeat first | apply bd | apply be | apply ba); refine blk_far ?_ NB300_317.out _; (with_reducible repeat first | apply bd | apply be | apply ba); refine blk_far ?_ NB300_317.out _; (with_reducible repeat first | apply bd | apply be | apply ba); refine blk_far ?_ NB300_317.out _; (with_reducible repeat first | apply bd | apply be | apply ba); refine blk_far ?_ NB300_317.out _; (with_reducible repeat first | apply bd | apply be | apply ba); exact BK300.out⟩, ⟨by (with_reducible repeat first | apply bd | apply be | apply ba); refine blk_put (cs := F5) ?_ 4 _ rfl; (with_reducible repeat first | apply bd | apply be | apply ba); refine blk_put (cs := F5) ?_ 3 _ rfl; (with_reducible repeat first | apply bd | apply be | apply ba); refine blk_put (cs := F5) ?_ 2 _ rfl; (with_reducible repeat first | apply bd | apply be | apply ba); refine blk_put (cs := F5) ?_ 1 _ rfl; (with_reducible repeat first | apply bd | apply be | apply ba); refine blk_put (cs := F5) ?_ 0 _ rfl; (with_reducible repeat first | apply bd | apply be | apply ba); exact BK317.out⟩, ⟨bl2 HB.out GE300.out GE317.out⟩⟩
              case rest =>
               clear HC70
               try clear c1 c2 p2 c3 c4 c5 c6 p6 c7 c9 c11 c11b0 c11b1 c12 c19 c19b0 c19b1 c24 c26 c29 c30 c32 c32b0 c32b1 c36 c38 c38b0 c38b1 c39 c39b0 c39b1 c41 c41b0 c49 c51 c51b0 c51b1 c53 c53b0 c55 c56 c58 c58b0 c60 c60b0 p64 c68 c68b0 c68b1 c72 c74 c74b0 c74b1 hcz14_0 hcz14_1 hcz14_2 hcz14_3 hcz14_4 hcz37_0 hcz37_1 hcz37_2 hcz37_3 hcz37_4 hcz56_0 hcz56_1 hcz56_2 hcz56_3 hcz56_4 hcz73_0 hcz73_1 hcz73_2 hcz73_3 hcz73_4 hfz14_0 hfz14_1 hfz14_2 hfz14_3 hfz14_4 hfz37_0 hfz37_1 hfz37_2 hfz37_3 hfz37_4 hfz56_0 hfz56_1 hfz56_2 hfz56_3 hfz56_4 hfz73_0 hfz73_1 hfz73_2 hfz73_3 hfz73_4 p2 p6
               obtain ⟨kq, x18_69, x19_69, rfl, rfl, HA, HJ69, BK300, BK317, HB⟩ := hcut
               cases kq with
               |zero => exact absurd HA.out (by simp [annealref1_Pack.j6])
               |succ kj69 =>
                have H := HA.out
                clear HA
                simp only [annealref1_Pack.j6] at H
                by_cases c75 : 0 ≤ t303
                ·rw [if_pos c75] at H
                 have c75b0 := eq_true c75
                 have c75b1 : decide (0 ≤ t303) = true := decide_eq_true c75
                 clear c75
                 obtain ⟨ji76, hji76⟩ : ∃ j_ : Int, (shl .u64 1 t303) = j_ := ⟨_, rfl⟩
                 replace H : (if x19_69 < (ji76) then ((annealref1_sign.f a0 a2).bind fun t318 => (some (Go.bits .or .u32 t318 ((x19_69) % 4294967296), false, false, false, false, false))) else ((annealref1_bias.f a0).bind fun t319 => ((annealref1_Widths.f a0).bind fun bt320 => (if 0 ≤ bt320.1 then (if (wrap64 ((wrap64 (x18_69 + t303)) + t319)) ≥ (wrap64 ((shl .i64 1 bt320.1) - 1)) then ((annealref1_over.f kj69 a0 a1 a2).bind fun t322 => (some (t322, false, false, true, false, true))) else ((annealref1_sign.f a0 a2).bind fun t323 => (some (Go.bits .or .u32 (Go.bits .or .u32 t323 (shl .u32 ((wrap64 ((wrap64 (x18_69 + t303)) + t319)) % 4294967296) t303)) ((Go.bits .and .u64 x19_69 (IntKind.u64.wrap ((ji76) - 1))) % 4294967296), false, false, false, false, false)))) else (none))))) = some (r1, r2, r3, r4, r5, r6) := by first | (rw [hji76] at H; exact H) | (simp only [hji76] at H ⊢; exact H)
                 have hji76_ : (IntKind.u64.wrap (1 * 2 ^ min t303.toNat 64)) = ji76 := hji76
                 have hji76z : t303 ≤ 64 → (IntKind.u64.wrap (1 * 2 ^ t303.toNat)) = ji76 := shl_small hji76
                 have hji76u : (IntKind.u64.wrap (2 ^ min t303.toNat 64)) = ji76 := by have h_ := hji76_; rw [Int.one_mul] at h_; exact h_
                 have hji76v : t303 ≤ 64 → (IntKind.u64.wrap (2 ^ t303.toNat)) = ji76 := fun hle_ => by have h_ := hji76z hle_; rw [Int.one_mul] at h_; exact h_
                 by_cases c77 : x19_69 < (ji76)
                 ·rw [if_pos c77] at H
                  have c77b0 : decide (x19_69 < (ji76)) = true := decide_eq_true c77
                  clear c77
                  replace H := Option.bind_eq_some_iff.mp H
                  obtain ⟨t318, A780, H⟩ := H
                  replace H : (some (Go.bits .or .u32 t318 ((x19_69) % 4294967296), false, false, false, false, false)) = some (r1, r2, r3, r4, r5, r6) := H
                  have A78 := Aside0.mk A780
                  clear A780
                  simp only [Option.some.injEq, Prod.mk.injEq] at H
                  obtain ⟨rfl, rfl, rfl, rfl, rfl, rfl⟩ := H
                  try go_wp2
                  have n0_ := Aside0.mk (blk_drew BK300.out)
                  have n1_ := Aside0.mk (blk_drew BK317.out)
                  have n2_ := Aside0.mk (below_drew1 HB.out)
                  clear BK300
                  clear BK317
                  clear HB
                  have BK300 := n0_
                  have BK317 := n1_
                  have HB := n2_
                  clear n0_ n1_ n2_
                  refine start_ (n := 9) (S := fun w' => w'.cell? ⟨gb317, 0, none⟩ = some (.bool false) ∧ w'.cell? ⟨gb317, 1, none⟩ = some (.bool false) ∧ w'.cell? ⟨gb317, 2, none⟩ = some (.bool false) ∧ w'.cell? ⟨gb317, 3, none⟩ = some (.bool false) ∧ w'.cell? ⟨gb317, 4, none⟩ = some (.bool false)) (ds := []) (tf 0 9) (by kernel_rfl) rfl rfl ⟨(blk_cell BK317.out 0).trans rfl, (blk_cell BK317.out 1).trans rfl, (blk_cell BK317.out 2).trans rfl, (blk_cell BK317.out 3).trans rfl, (blk_cell BK317.out 4).trans rfl⟩ (fun hHeld => ?_); refine with_tabW annealref1_Pack.tab19 annealref1_Pack.bits19 (fun HT_ HW_ => ?_)
                  generalize wc.drew = w79 at BK300 BK317 HB hHeld ⊢
                  refine pure_ (i := 0) (N := some 108) (v := ?_) (a' := ?_) (tf 1 8) rfl rfl (any_of HT_.out (by kernel_rfl)) (fun _ _ _ h => h) (Or.inl ⟨by rfl, ?_⟩) ?_ ?_
                  rotate_left
                  ·intro w'
                   go_simp
                   with_reducible rfl
                  rotate_left
                  ·simp only [Act.put, sb, sz, ss, i64_w, i32_w]
                   rfl
                  refine pure_ (i := 1) (N := some 109) (v := ?_) (a' := ?_) (tf 2 7) rfl rfl (any_of HT_.out (by kernel_rfl)) (fun _ _ _ h => h) (Or.inl ⟨by rfl, ?_⟩) ?_ ?_
                  rotate_left
                  ·intro w'
                   go_simp
                   with_reducible rfl
                  rotate_left
                  ·simp only [Act.put, sb, sz, ss, i64_w, i32_w]
                   rfl
                  refine pure_ (i := 3) (N := some 111) (v := ?_) (a' := ?_) #[true, true, false, true, false, false, false, false, false] rfl rfl (any_of HT_.out (by kernel_rfl)) (fun _ _ _ h => h) (Or.inl ⟨by rfl, ?_⟩) ?_ ?_
                  rotate_left
                  ·intro w'
                   go_simp
                   with_reducible rfl
                  rotate_left
                  ·simp only [Act.put, sb, sz, ss, i64_w, i32_w]
                   rfl
                  refine pure_ (i := 4) (N := some 112) (v := ?_) (a' := ?_) #[true, true, false, true, true, false, false, false, false] rfl rfl (any_of HT_.out (by kernel_rfl)) (fun _ _ _ h => h) (Or.inl ⟨by rfl, ?_⟩) ?_ ?_
                  rotate_left
                  ·intro w'
                   go_simp
                   with_reducible rfl
                  rotate_left
                  ·simp only [Act.put, sb, sz, ss, i64_w, i32_w]
                   rfl
                  refine take_ (i := 6) (N := some 114) (v := ?_) (a' := ?_) #[true, true, false, true, true, false, true, false, false] rfl rfl (take_ofW HT_.out HW_.out (by kernel_rfl)) (fun _ _ _ h => h) (Or.inl ⟨by rfl, ?_⟩) hHeld ?_ ?_
                  rotate_left
                  ·rintro w' ⟨s0, s1, s2, s3, s4⟩
                   go_simp
                   with_reducible rfl
                  rotate_left
                  ·simp only [Act.put, sb, sz, ss, i64_w, i32_w]
                   rfl
                  refine one_ (i := 2) (N := some 110) #[true, true, true, true, true, false, true, false, false] rfl rfl (one_of HT_.out (by kernel_rfl)) (by decide) (fun K hK => ?_)
                  refine goes_ Try.func56 (by kernel_rfl) rfl #[.int .i64 a0, .bool a2] (by rfl) rfl rfl gl ?_
                  with_reducible refine (annealref1_sign.calls a0 a2 t318 _ A78.out).mono ?_
                  rintro e w' ⟨rfl, ⟨nd, rfl⟩⟩
                  refine ⟨_, rfl, ?_⟩
                  refine hK.out _ _ ⟨(blk_cell BK317.out 0).trans rfl, (blk_cell BK317.out 1).trans rfl, (blk_cell BK317.out 2).trans rfl, (blk_cell BK317.out 3).trans rfl, (blk_cell BK317.out 4).trans rfl⟩ (fun hHeld => ?_)
                  clear hK K
                  refine norm_ (a' := ?_) ?_ ?_
                  rotate_left
                  ·show Act.put _ (some 110) _ = _
                   simp only [Act.put, sb, sz, ss, i64_w, i32_w]
                   rfl
                  refine pure_ (i := 5) (N := some 113) (v := ?_) (a' := ?_) (tf 7 2) rfl rfl (any_of HT_.out (by kernel_rfl)) (fun _ _ _ h => h) (Or.inl ⟨by rfl, ?_⟩) ?_ ?_
                  rotate_left
                  ·intro w'
                   go_simp
                   with_reducible rfl
                  rotate_left
                  ·simp only [Act.put, sb, sz, ss, i64_w, i32_w]
                   rfl
                  refine pure_ (i := 7) (N := some 12) (v := ?_) (a' := ?_) (tf 8 1) rfl rfl (any_of HT_.out (by kernel_rfl)) (fun _ _ _ h => h) (Or.inl ⟨by rfl, ?_⟩) ?_ ?_
                  rotate_left
                  ·intro w'
                   go_simp
                   with_reducible rfl
                  rotate_left
                  ·simp only [Act.put, sb, sz, ss, i64_w, i32_w]
                   rfl
                  refine one_ (i := 8) (N := none) (tf 9 0) rfl rfl (one_of HT_.out (by kernel_rfl)) (by decide) (fun K hK => ?_)
                  have hs80 : w79.cell? ⟨gb300, 0, none⟩ = some (.bool false) := (blk_cell BK300.out 0).trans rfl
                  have hfs80 := blk_frozen BK300.out 0
                  have hns80_1 := NB317_300.out
                  have hms80_1 := NB300_317.out
                  have hs81 : w79.cell? ⟨gb300, 1, none⟩ = some (.bool false) := (blk_cell BK300.out 1).trans rfl
                  have hfs81 := blk_frozen BK300.out 1
                  have hns81_1 := NB317_300.out
                  have hms81_1 := NB300_317.out
                  have hs82 : w79.cell? ⟨gb300, 2, none⟩ = some (.bool false) := (blk_cell BK300.out 2).trans rfl
                  have hfs82 := blk_frozen BK300.out 2
                  have hns82_1 := NB317_300.out
                  have hms82_1 := NB300_317.out
                  have hs83 : w79.cell? ⟨gb300, 3, none⟩ = some (.bool false) := (blk_cell BK300.out 3).trans rfl
                  have hfs83 := blk_frozen BK300.out 3
                  have hns83_1 := NB317_300.out
                  have hms83_1 := NB300_317.out
                  have hs84 : w79.cell? ⟨gb300, 4, none⟩ = some (.bool false) := (blk_cell BK300.out 4).trans rfl
                  have hfs84 := blk_frozen BK300.out 4
                  have hns84_1 := NB317_300.out
                  have hms84_1 := NB300_317.out
                  refine skip_ (w1 := ?_) (by rfl) rfl ?_ ?_
                  rotate_left
                  ·go_simp
                   rfl
                  refine hK.out _ _ ⟨(cf5 NB317_300.out (hHeld.1)), (cf5 NB317_300.out (hHeld.2.1)), (cf5 NB317_300.out (hHeld.2.2.1)), (cf5 NB317_300.out (hHeld.2.2.2.1)), (cf5 NB317_300.out (hHeld.2.2.2.2))⟩ (fun hHeld => ?_)
                  clear hK K
                  refine done_ (done_of HT_.out (by kernel_rfl)) ?_
                  try go_wp2
                  refine bodyPost_ret (results_tc rfl _ _ gb300 41 #[.bool false, .bool false, .bool false, .bool false, .bool false] (0, 0) _ rfl (by (with_reducible repeat first | apply bd | apply be | apply ba); refine blk_put (cs := F5) ?_ 4 _ rfl; (with_reducible repeat first | apply bd | apply be | apply ba); refine blk_put (cs := F5) ?_ 3 _ rfl; (with_reducible repeat first | apply bd | apply be | apply ba); refine blk_put (cs := F5) ?_ 2 _ rfl; (with_reducible repeat first | apply bd | apply be | apply ba); refine blk_put (cs := F5) ?_ 1 _ rfl; (with_reducible repeat first | apply bd | apply be | apply ba); refine blk_put (cs := F5) ?_ 0 _ rfl; (with_reducible repeat first | apply bd | apply be | apply ba); exact BK300.out) Try.underlying41 rfl (by kernel_rfl)) rfl ?_
                  exact ⟨by first | rfl | (simp [errW_none, errW_some] <;> rfl) | (simp only [← hji7, ← hji8, ← hji20, ← hji67, ← hji69, ← hji76]; first | rfl | (simp [errW_none, errW_some] <;> rfl)) | (simp [*, errW_none, errW_some] <;> rfl), bl2 HB.out GE300.out GE317.out⟩
                 ·rw [if_neg c77] at H
                  have c77b0 : decide (x19_69 < (ji76)) = false := decide_eq_false c77
                  clear c77
                  replace H := Option.bind_eq_some_iff.mp H
                  obtain ⟨t319, A850, H⟩ := H
                  replace H : ((annealref1_Widths.f a0).bind fun bt320 => (if 0 ≤ bt320.1 then (if (wrap64 ((wrap64 (x18_69 + t303)) + t319)) ≥ (wrap64 ((shl .i64 1 bt320.1) - 1)) then ((annealref1_over.f kj69 a0 a1 a2).bind fun t322 => (some (t322, false, false, true, false, true))) else ((annealref1_sign.f a0 a2).bind fun t323 => (some (Go.bits .or .u32 (Go.bits .or .u32 t323 (shl .u32 ((wrap64 ((wrap64 (x18_69 + t303)) + t319)) % 4294967296) t303)) ((Go.bits .and .u64 x19_69 (IntKind.u64.wrap ((ji76) - 1))) % 4294967296), false, false, false, false, false)))) else (none))) = some (r1, r2, r3, r4, r5, r6) := H
                  have A85 := Aside0.mk A850
                  clear A850
                  replace H := Option.bind_eq_some_iff.mp H
                  obtain ⟨⟨t320, t321⟩, A860, H⟩ := H
                  replace H : (if 0 ≤ t320 then (if (wrap64 ((wrap64 (x18_69 + t303)) + t319)) ≥ (wrap64 ((shl .i64 1 t320) - 1)) then ((annealref1_over.f kj69 a0 a1 a2).bind fun t322 => (some (t322, false, false, true, false, true))) else ((annealref1_sign.f a0 a2).bind fun t323 => (some (Go.bits .or .u32 (Go.bits .or .u32 t323 (shl .u32 ((wrap64 ((wrap64 (x18_69 + t303)) + t319)) % 4294967296) t303)) ((Go.bits .and .u64 x19_69 (IntKind.u64.wrap ((ji76) - 1))) % 4294967296), false, false, false, false, false)))) else (none)) = some (r1, r2, r3, r4, r5, r6) := H
                  have A86 := Aside0.mk A860
                  clear A860
                  by_cases c87 : 0 ≤ t320
                  ·rw [if_pos c87] at H
                   have c87b0 := eq_true c87
                   have c87b1 : decide (0 ≤ t320) = true := decide_eq_true c87
                   clear c87
                   obtain ⟨ji88, hji88⟩ : ∃ j_ : Int, (shl .i64 1 t320) = j_ := ⟨_, rfl⟩
                   replace H : (if (wrap64 ((wrap64 (x18_69 + t303)) + t319)) ≥ (wrap64 ((ji88) - 1)) then ((annealref1_over.f kj69 a0 a1 a2).bind fun t322 => (some (t322, false, false, true, false, true))) else ((annealref1_sign.f a0 a2).bind fun t323 => (some (Go.bits .or .u32 (Go.bits .or .u32 t323 (shl .u32 ((wrap64 ((wrap64 (x18_69 + t303)) + t319)) % 4294967296) t303)) ((Go.bits .and .u64 x19_69 (IntKind.u64.wrap ((ji76) - 1))) % 4294967296), false, false, false, false, false)))) = some (r1, r2, r3, r4, r5, r6) := by first | (rw [hji88] at H; exact H) | (simp only [hji88] at H ⊢; exact H)
                   (try rw [hji88] at A85)
                   (try rw [hji88] at A86)
                   have hji88_ : (IntKind.i64.wrap (1 * 2 ^ min t320.toNat 64)) = ji88 := hji88
                   have hji88z : t320 ≤ 64 → (IntKind.i64.wrap (1 * 2 ^ t320.toNat)) = ji88 := shl_small hji88
                   have hji88u : (IntKind.i64.wrap (2 ^ min t320.toNat 64)) = ji88 := by have h_ := hji88_; rw [Int.one_mul] at h_; exact h_
                   have hji88v : t320 ≤ 64 → (IntKind.i64.wrap (2 ^ t320.toNat)) = ji88 := fun hle_ => by have h_ := hji88z hle_; rw [Int.one_mul] at h_; exact h_
                   have hji88y : (wrap64 (1 * 2 ^ min t320.toNat 64)) = ji88 := (i64_w _).symm.trans hji88_
                   have hji88x : t320 ≤ 64 → (wrap64 (1 * 2 ^ t320.toNat)) = ji88 := fun h_ => (i64_w _).symm.trans (hji88z h_)
                   by_cases c89 : (wrap64 ((wrap64 (x18_69 + t303)) + t319)) ≥ (wrap64 ((ji88) - 1))
                   ·rw [if_pos c89] at H
                    have c89b0 : decide ((wrap64 ((ji88) - 1)) ≤ (wrap64 ((wrap64 (x18_69 + t303)) + t319))) = true := decide_eq_true c89
                    clear c89
                    replace H := Option.bind_eq_some_iff.mp H
                    obtain ⟨t322, A900, H⟩ := H
                    replace H : (some (t322, false, false, true, false, true)) = some (r1, r2, r3, r4, r5, r6) := H
                    have A90 := Aside0.mk A900
                    clear A900
                    simp only [Option.some.injEq, Prod.mk.injEq] at H
                    obtain ⟨rfl, rfl, rfl, rfl, rfl, rfl⟩ := H
                    go_wp2_with (first | ((with_reducible refine gate_callee (f := 90) rfl ?_); refine goesL_ (some 119) rfl rfl Try.func90 (by kernel_rfl) rfl #[.int .i64 a0] rfl gl ?_; (with_reducible refine (annealref1_bias.calls a0 t319 _ A85.out).mono ?_); rintro e w' ⟨rfl, ⟨nd, rfl⟩⟩; refine ⟨_, rfl, ?_⟩; (try (rw [drewN_self wc]; generalize hq_ : World.drewN wc _ = wc; have n0_ : Aside0 (wc.heap[gb300]? = some (o5_ false false false false false 41)) := ⟨by rw [← hq_]; exact (bv BK300.out)⟩; have n1_ : Aside0 (wc.heap[gb317]? = some (o5_ false false false false false 41)) := ⟨by rw [← hq_]; exact (bv BK317.out)⟩; have n2_ : Aside0 (Below w.heap.size w wc) := ⟨by rw [← hq_]; exact (bl2 HB.out GE300.out GE317.out)⟩; clear BK300 BK317 HB hq_; have BK300 := n0_; have BK317 := n1_; have HB := n2_; clear n0_ n1_ n2_))) | ((with_reducible refine gate_callee (f := 49) rfl ?_); refine goesL_ (some 123) rfl rfl Try.func49 (by kernel_rfl) rfl #[.int .i64 a0] rfl gl ?_; (with_reducible refine (annealref1_Widths.calls a0 t320 t321 _ A86.out).mono ?_); rintro e w' ⟨rfl, ⟨nd, rfl⟩⟩; refine ⟨_, rfl, ?_⟩; (try (rw [drewN_self wc]; generalize hq_ : World.drewN wc _ = wc; have n0_ : Aside0 (wc.heap[gb300]? = some (o5_ false false false false false 41)) := ⟨by rw [← hq_]; exact (bv BK300.out)⟩; have n1_ : Aside0 (wc.heap[gb317]? = some (o5_ false false false false false 41)) := ⟨by rw [← hq_]; exact (bv BK317.out)⟩; have n2_ : Aside0 (Below w.heap.size w wc) := ⟨by rw [← hq_]; exact (bl2 HB.out GE300.out GE317.out)⟩; clear BK300 BK317 HB hq_; have BK300 := n0_; have BK317 := n1_; have HB := n2_; clear n0_ n1_ n2_))) | ((with_reducible refine gate_callee (f := 94) rfl ?_); refine goesL_ (some 134) rfl rfl Try.func94 (by kernel_rfl) rfl #[.int .i64 a0, .int .i64 a1, .bool a2] rfl gl ?_; (with_reducible refine (annealref1_over.calls kj69 a0 a1 a2 t322 _ A90.out).mono ?_); rintro e w' ⟨rfl, ⟨nd, rfl⟩⟩; refine ⟨_, rfl, ?_⟩; (try (rw [drewN_self wc]; generalize hq_ : World.drewN wc _ = wc; have n0_ : Aside0 (wc.heap[gb300]? = some (o5_ false false false false false 41)) := ⟨by rw [← hq_]; exact (bv BK300.out)⟩; have n1_ : Aside0 (wc.heap[gb317]? = some (o5_ false false false false false 41)) := ⟨by rw [← hq_]; exact (bv BK317.out)⟩; have n2_ : Aside0 (Below w.heap.size w wc) := ⟨by rw [← hq_]; exact (bl2 HB.out GE300.out GE317.out)⟩; clear BK300 BK317 HB hq_; have BK300 := n0_; have BK317 := n1_; have HB := n2_; clear n0_ n1_ n2_)); have hnb91 := NB300_317.out; have hnc91 := NB317_300.out; obtain ⟨hcz92_0, hcz92_1, hcz92_2, hcz92_3, hcz92_4⟩ := bc5 BK300.out; obtain ⟨hfz92_0, hfz92_1, hfz92_2, hfz92_3, hfz92_4⟩ := bf5 BK300.out))
                    refine bodyPost_ret (results_tc rfl _ _ gb300 41 #[.bool false, .bool false, .bool true, .bool false, .bool true] (0, 0) _ rfl (by (with_reducible repeat first | apply bd | apply be | apply ba); refine blk_put (cs := q5_ false false true false false) ?_ 4 _ rfl; (with_reducible repeat first | apply bd | apply be | apply ba); refine blk_put (cs := q5_ false false true false false) ?_ 3 _ rfl; (with_reducible repeat first | apply bd | apply be | apply ba); refine blk_put (cs := F5) ?_ 2 _ rfl; (with_reducible repeat first | apply bd | apply be | apply ba); refine blk_put (cs := F5) ?_ 1 _ rfl; (with_reducible repeat first | apply bd | apply be | apply ba); refine blk_put (cs := F5) ?_ 0 _ rfl; (with_reducible repeat first | apply bd | apply be | apply ba); exact BK300.out) Try.underlying41 rfl (by kernel_rfl)) rfl ?_
                    exact ⟨by first | rfl | (simp [errW_none, errW_some] <;> rfl) | (simp only [← hji7, ← hji8, ← hji20, ← hji67, ← hji69, ← hji76, ← hji88]; first | rfl | (simp [errW_none, errW_some] <;> rfl)) | (simp [*, errW_none, errW_some] <;> rfl), bl2 HB.out GE300.out GE317.out⟩
                   ·rw [if_neg c89] at H
                    have c89b0 : decide ((wrap64 ((ji88) - 1)) ≤ (wrap64 ((wrap64 (x18_69 + t303)) + t319))) = false := decide_eq_false c89
                    clear c89
                    replace H := Option.bind_eq_some_iff.mp H
                    obtain ⟨t323, A930, H⟩ := H
                    replace H : (some (Go.bits .or .u32 (Go.bits .or .u32 t323 (shl .u32 ((wrap64 ((wrap64 (x18_69 + t303)) + t319)) % 4294967296) t303)) ((Go.bits .and .u64 x19_69 (IntKind.u64.wrap ((ji76) - 1))) % 4294967296), false, false, false, false, false)) = some (r1, r2, r3, r4, r5, r6) := H
                    have A93 := Aside0.mk A930
                    clear A930
                    have c94b0 := eq_true (of_decide_eq_true (by first | (with_reducible assumption) | assumption) : 0 ≤ t303)
                    obtain ⟨ji95, hji95⟩ : ∃ j_ : Int, (shl .u32 ((wrap64 ((wrap64 (x18_69 + t303)) + t319)) % 4294967296) t303) = j_ := ⟨_, rfl⟩
                    replace H : (some (Go.bits .or .u32 (Go.bits .or .u32 t323 (ji95)) ((Go.bits .and .u64 x19_69 (IntKind.u64.wrap ((ji76) - 1))) % 4294967296), false, false, false, false, false)) = some (r1, r2, r3, r4, r5, r6) := by first | (rw [hji95] at H; exact H) | (simp only [hji95] at H ⊢; exact H)
                    (try rw [hji95] at A85)
                    (try rw [hji95] at A86)
                    (try rw [hji95] at A93)
                    have hji95_ : (IntKind.u32.wrap (((wrap64 ((wrap64 (x18_69 + t303)) + t319)) % 4294967296) * 2 ^ min t303.toNat 32)) = ji95 := hji95
                    have hji95z : t303 ≤ 32 → (IntKind.u32.wrap (((wrap64 ((wrap64 (x18_69 + t303)) + t319)) % 4294967296) * 2 ^ t303.toNat)) = ji95 := shl_small hji95
                    have c96b0 := eq_true (of_decide_eq_true (by first | (with_reducible assumption) | assumption) : 0 ≤ t303)
                    simp only [Option.some.injEq, Prod.mk.injEq] at H
                    obtain ⟨rfl, rfl, rfl, rfl, rfl, rfl⟩ := H
                    try go_wp2_with (first | ((with_reducible refine gate_callee (f := 90) rfl ?_); refine goesL_ (some 119) rfl rfl Try.func90 (by kernel_rfl) rfl #[.int .i64 a0] rfl gl ?_; (with_reducible refine (annealref1_bias.calls a0 t319 _ A85.out).mono ?_); rintro e w' ⟨rfl, ⟨nd, rfl⟩⟩; refine ⟨_, rfl, ?_⟩; (try (rw [drewN_self wc]; generalize hq_ : World.drewN wc _ = wc; have n0_ : Aside0 (wc.heap[gb300]? = some (o5_ false false false false false 41)) := ⟨by rw [← hq_]; exact (bv BK300.out)⟩; have n1_ : Aside0 (wc.heap[gb317]? = some (o5_ false false false false false 41)) := ⟨by rw [← hq_]; exact (bv BK317.out)⟩; have n2_ : Aside0 (Below w.heap.size w wc) := ⟨by rw [← hq_]; exact (bl2 HB.out GE300.out GE317.out)⟩; clear BK300 BK317 HB hq_; have BK300 := n0_; have BK317 := n1_; have HB := n2_; clear n0_ n1_ n2_))) | ((with_reducible refine gate_callee (f := 49) rfl ?_); refine goesL_ (some 123) rfl rfl Try.func49 (by kernel_rfl) rfl #[.int .i64 a0] rfl gl ?_; (with_reducible refine (annealref1_Widths.calls a0 t320 t321 _ A86.out).mono ?_); rintro e w' ⟨rfl, ⟨nd, rfl⟩⟩; refine ⟨_, rfl, ?_⟩; (try (rw [drewN_self wc]; generalize hq_ : World.drewN wc _ = wc; have n0_ : Aside0 (wc.heap[gb300]? = some (o5_ false false false false false 41)) := ⟨by rw [← hq_]; exact (bv BK300.out)⟩; have n1_ : Aside0 (wc.heap[gb317]? = some (o5_ false false false false false 41)) := ⟨by rw [← hq_]; exact (bv BK317.out)⟩; have n2_ : Aside0 (Below w.heap.size w wc) := ⟨by rw [← hq_]; exact (bl2 HB.out GE300.out GE317.out)⟩; clear BK300 BK317 HB hq_; have BK300 := n0_; have BK317 := n1_; have HB := n2_; clear n0_ n1_ n2_))))
                    have n0_ := Aside0.mk (blk_drew BK300.out)
                    have n1_ := Aside0.mk (blk_drew BK317.out)
                    have n2_ := Aside0.mk (below_drew1 HB.out)
                    clear BK300
                    clear BK317
                    clear HB
                    have BK300 := n0_
                    have BK317 := n1_
                    have HB := n2_
                    clear n0_ n1_ n2_
                    refine start_ (n := 18) (S := fun w' => w'.cell? ⟨gb317, 0, none⟩ = some (.bool false) ∧ w'.cell? ⟨gb317, 1, none⟩ = some (.bool false) ∧ w'.cell? ⟨gb317, 2, none⟩ = some (.bool false) ∧ w'.cell? ⟨gb317, 3, none⟩ = some (.bool false) ∧ w'.cell? ⟨gb317, 4, none⟩ = some (.bool false)) (ds := []) (tf 0 18) (by kernel_rfl) rfl rfl ⟨(blk_cell BK317.out 0).trans rfl, (blk_cell BK317.out 1).trans rfl, (blk_cell BK317.out 2).trans rfl, (blk_cell BK317.out 3).trans rfl, (blk_cell BK317.out 4).trans rfl⟩ (fun hHeld => ?_); refine with_tabW annealref1_Pack.tab24 annealref1_Pack.bits24 (fun HT_ HW_ => ?_)
                    generalize wc.drew = w97 at BK300 BK317 HB hHeld ⊢
                    refine pure_ (i := 0) (N := some 136) (v := ?_) (a' := ?_) (tf 1 17) rfl rfl (any_of HT_.out (by kernel_rfl)) (fun _ _ _ h => h) (Or.inl ⟨by rfl, ?_⟩) ?_ ?_
                    rotate_left
                    ·intro w'
                     go_simp
                     with_reducible rfl
                    rotate_left
                    ·simp only [Act.put, sb, sz, ss, i64_w, i32_w]
                     rfl
                    refine pure_ (i := 1) (N := some 137) (v := ?_) (a' := ?_) (tf 2 16) rfl rfl (any_of HT_.out (by kernel_rfl)) (fun _ _ _ h => h) (Or.inl ⟨by rfl, ?_⟩) ?_ ?_
                    rotate_left
                    ·intro w'
                     go_simp
                     with_reducible rfl
                    rotate_left
                    ·simp only [Act.put, sb, sz, ss, i64_w, i32_w]
                     rfl
                    refine pure_ (i := 3) (N := some 139) (v := ?_) (a' := ?_) #[true, true, false, true, false, false, false, false, false, false, false, false, false, false, false, false, false, false] rfl rfl (any_of HT_.out (by kernel_rfl)) (fun _ _ _ h => h) (Or.inl ⟨by rfl, ?_⟩) ?_ ?_
                    rotate_left
                    ·intro w'
                     go_simp
                     with_reducible rfl
                    rotate_left
                    ·simp only [Act.put, sb, sz, ss, i64_w, i32_w]
                     rfl
                    refine pure_ (i := 4) (N := some 140) (v := ?_) (a' := ?_) #[true, true, false, true, true, false, false, false, false, false, false, false, false, false, false, false, false, false] rfl rfl (any_of HT_.out (by kernel_rfl)) (fun _ _ _ h => h) (Or.inl ⟨by rfl, ?_⟩) ?_ ?_
                    rotate_left
                    ·intro w'
                     go_simp
                     with_reducible rfl
                    rotate_left
                    ·simp only [Act.put, sb, sz, ss, i64_w, i32_w]
                     rfl
                    refine pure_ (i := 5) (N := some 141) (v := ?_) (a' := ?_) #[true, true, false, true, true, true, false, false, false, false, false, false, false, false, false, false, false, false] rfl rfl (any_of HT_.out (by kernel_rfl)) (fun _ _ _ h => h) (Or.inl ⟨by rfl, ?_⟩) ?_ ?_
                    rotate_left
                    ·intro w'
                     go_simp
                     with_reducible rfl
                    rotate_left
                    ·simp only [Act.put, sb, sz, ss, i64_w, i32_w]
                     rfl
                    refine pure_ (i := 6) (N := some 142) (v := ?_) (a' := ?_) #[true, true, false, true, true, true, true, false, false, false, false, false, false, false, false, false, false, false] rfl rfl (any_of HT_.out (by kernel_rfl)) (fun _ _ _ h => h) (Or.inl ⟨by rfl, ?_⟩) ?_ ?_
                    rotate_left
                    ·intro w'
                     go_simp
                     with_reducible rfl
                    rotate_left
                    ·simp only [Act.put, sb, sz, ss, i64_w, i32_w]
                     rfl
                    refine pure_ (i := 8) (N := some 144) (v := ?_) (a' := ?_) #[true, true, false, true, true, true, true, false, true, false, false, false, false, false, false, false, false, false] rfl rfl (any_of HT_.out (by kernel_rfl)) (fun _ _ _ h => h) (Or.inl ⟨by rfl, ?_⟩) ?_ ?_
                    rotate_left
                    ·intro w'
                     go_simp
                     with_reducible rfl
                    rotate_left
                    ·simp only [Act.put, sb, sz, ss, i64_w, i32_w]
                     rfl
                    refine pure_ (i := 9) (N := some 145) (v := ?_) (a' := ?_) #[true, true, false, true, true, true, true, false, true, true, false, false, false, false, false, false, false, false] rfl rfl (any_of HT_.out (by kernel_rfl)) (fun _ _ _ h => h) (Or.inl ⟨by rfl, ?_⟩) ?_ ?_
                    rotate_left
                    ·intro w'
                     go_simp
                     with_reducible rfl
                    rotate_left
                    ·simp only [Act.put, sb, sz, ss, i64_w, i32_w]
                     rfl
                    refine pure_ (i := 10) (N := some 146) (v := ?_) (a' := ?_) #[true, true, false, true, true, true, true, false, true, true, true, false, false, false, false, false, false, false] rfl rfl (any_of HT_.out (by kernel_rfl)) (fun _ _ _ h => h) (Or.inl ⟨by rfl, ?_⟩) ?_ ?_
                    rotate_left
                    ·intro w'
                     go_simp
                     with_reducible rfl
                    rotate_left
                    ·simp only [Act.put, sb, sz, ss, i64_w, i32_w]
                     rfl
                    refine pure_ (i := 11) (N := some 147) (v := ?_) (a' := ?_) #[true, true, false, true, true, true, true, false, true, true, true, true, false, false, false, false, false, false] rfl rfl (any_of HT_.out (by kernel_rfl)) (fun _ _ _ h => h) (Or.inl ⟨by rfl, ?_⟩) ?_ ?_
                    rotate_left
                    ·intro w'
                     go_simp
                     with_reducible rfl
                    rotate_left
                    ·simp only [Act.put, sb, sz, ss, i64_w, i32_w]
                     rfl
                    refine pure_ (i := 12) (N := some 148) (v := ?_) (a' := ?_) #[true, true, false, true, true, true, true, false, true, true, true, true, true, false, false, false, false, false] rfl rfl (any_of HT_.out (by kernel_rfl)) (fun _ _ _ h => h) (Or.inl ⟨by rfl, ?_⟩) ?_ ?_
                    rotate_left
                    ·intro w'
                     go_simp
                     with_reducible rfl
                    rotate_left
                    ·simp only [Act.put, sb, sz, ss, i64_w, i32_w]
                     rfl
                    refine pure_ (i := 13) (N := some 149) (v := ?_) (a' := ?_) #[true, true, false, true, true, true, true, false, true, true, true, true, true, true, false, false, false, false] rfl rfl (any_of HT_.out (by kernel_rfl)) (fun _ _ _ h => h) (Or.inl ⟨by rfl, ?_⟩) ?_ ?_
                    rotate_left
                    ·intro w'
                     go_simp
                     with_reducible rfl
                    rotate_left
                    ·simp only [Act.put, sb, sz, ss, i64_w, i32_w]
                     rfl
                    refine take_ (i := 15) (N := some 151) (v := ?_) (a' := ?_) #[true, true, false, true, true, true, true, false, true, true, true, true, true, true, false, true, false, false] rfl rfl (take_ofW HT_.out HW_.out (by kernel_rfl)) (fun _ _ _ h => h) (Or.inl ⟨by rfl, ?_⟩) hHeld ?_ ?_
                    rotate_left
                    ·rintro w' ⟨s0, s1, s2, s3, s4⟩
                     go_simp
                     with_reducible rfl
                    rotate_left
                    ·simp only [Act.put, sb, sz, ss, i64_w, i32_w]
                     rfl
                    refine one_ (i := 2) (N := some 138) #[true, true, true, true, true, true, true, false, true, true, true, true, true, true, false, true, false, false] rfl rfl (one_of HT_.out (by kernel_rfl)) (by decide) (fun K hK => ?_)
                    refine goes_ Try.func56 (by kernel_rfl) rfl #[.int .i64 a0, .bool a2] (by rfl) rfl rfl gl ?_
                    with_reducible refine (annealref1_sign.calls a0 a2 t323 _ A93.out).mono ?_
                    rintro e w' ⟨rfl, ⟨nd, rfl⟩⟩
                    refine ⟨_, rfl, ?_⟩
                    refine hK.out _ _ ⟨(blk_cell BK317.out 0).trans rfl, (blk_cell BK317.out 1).trans rfl, (blk_cell BK317.out 2).trans rfl, (blk_cell BK317.out 3).trans rfl, (blk_cell BK317.out 4).trans rfl⟩ (fun hHeld => ?_)
                    clear hK K
                    refine norm_ (a' := ?_) ?_ ?_
                    rotate_left
                    ·show Act.put _ (some 138) _ = _
                     simp only [Act.put, sb, sz, ss, i64_w, i32_w]
                     rfl
                    refine pure_ (i := 7) (N := some 143) (v := ?_) (a' := ?_) #[true, true, true, true, true, true, true, true, true, true, true, true, true, true, false, true, false, false] rfl rfl (any_of HT_.out (by kernel_rfl)) (fun _ _ _ h => h) (Or.inl ⟨by rfl, ?_⟩) ?_ ?_
                    rotate_left
                    ·intro w'
                     go_simp
                     with_reducible rfl
                    rotate_left
                    ·simp only [Act.put, sb, sz, ss, i64_w, i32_w]
                     rfl
                    refine pure_ (i := 14) (N := some 150) (v := ?_) (a' := ?_) (tf 16 2) rfl rfl (any_of HT_.out (by kernel_rfl)) (fun _ _ _ h => h) (Or.inl ⟨by rfl, ?_⟩) ?_ ?_
                    rotate_left
                    ·intro w'
                     go_simp
                     with_reducible rfl
                    rotate_left
                    ·simp only [Act.put, sb, sz, ss, i64_w, i32_w]
                     rfl
                    refine pure_ (i := 16) (N := some 12) (v := ?_) (a' := ?_) (tf 17 1) rfl rfl (any_of HT_.out (by kernel_rfl)) (fun _ _ _ h => h) (Or.inl ⟨by rfl, ?_⟩) ?_ ?_
                    rotate_left
                    ·intro w'
                     go_simp
                     with_reducible rfl
                    rotate_left
                    ·simp only [Act.put, sb, sz, ss, i64_w, i32_w]
                     rfl
                    refine one_ (i := 17) (N := none) (tf 18 0) rfl rfl (one_of HT_.out (by kernel_rfl)) (by decide) (fun K hK => ?_)
                    have hs98 : w97.cell? ⟨gb300, 0, none⟩ = some (.bool false) := (blk_cell BK300.out 0).trans rfl
                    have hfs98 := blk_frozen BK300.out 0
                    have hns98_1 := NB317_300.out
                    have hms98_1 := NB300_317.out
                    have hs99 : w97.cell? ⟨gb300, 1, none⟩ = some (.bool false) := (blk_cell BK300.out 1).trans rfl
                    have hfs99 := blk_frozen BK300.out 1
                    have hns99_1 := NB317_300.out
                    have hms99_1 := NB300_317.out
                    have hs100 : w97.cell? ⟨gb300, 2, none⟩ = some (.bool false) := (blk_cell BK300.out 2).trans rfl
                    have hfs100 := blk_frozen BK300.out 2
                    have hns100_1 := NB317_300.out
                    have hms100_1 := NB300_317.out
                    have hs101 : w97.cell? ⟨gb300, 3, none⟩ = some (.bool false) := (blk_cell BK300.out 3).trans rfl
                    have hfs101 := blk_frozen BK300.out 3
                    have hns101_1 := NB317_300.out
                    have hms101_1 := NB300_317.out
                    have hs102 : w97.cell? ⟨gb300, 4, none⟩ = some (.bool false) := (blk_cell BK300.out 4).trans rfl
                    have hfs102 := blk_frozen BK300.out 4
                    have hns102_1 := NB317_300.out
                    have hms102_1 := NB300_317.out
                    refine skip_ (w1 := ?_) (by rfl) rfl ?_ ?_
                    rotate_left
                    ·go_simp
                     rfl
                    refine hK.out _ _ ⟨(cf5 NB317_300.out (hHeld.1)), (cf5 NB317_300.out (hHeld.2.1)), (cf5 NB317_300.out (hHeld.2.2.1)), (cf5 NB317_300.out (hHeld.2.2.2.1)), (cf5 NB317_300.out (hHeld.2.2.2.2))⟩ (fun hHeld => ?_)
                    clear hK K
                    refine done_ (done_of HT_.out (by kernel_rfl)) ?_
                    try go_wp2
                    refine bodyPost_ret (results_tc rfl _ _ gb300 41 #[.bool false, .bool false, .bool false, .bool false, .bool false] (0, 0) _ rfl (by (with_reducible repeat first | apply bd | apply be | apply ba); refine blk_put (cs := F5) ?_ 4 _ rfl; (with_reducible repeat first | apply bd | apply be | apply ba); refine blk_put (cs := F5) ?_ 3 _ rfl; (with_reducible repeat first | apply bd | apply be | apply ba); refine blk_put (cs := F5) ?_ 2 _ rfl; (with_reducible repeat first | apply bd | apply be | apply ba); refine blk_put (cs := F5) ?_ 1 _ rfl; (with_reducible repeat first | apply bd | apply be | apply ba); refine blk_put (cs := F5) ?_ 0 _ rfl; (with_reducible repeat first | apply bd | apply be | apply ba); exact BK300.out) Try.underlying41 rfl (by kernel_rfl)) rfl ?_
                    exact ⟨by first | rfl | (simp [errW_none, errW_some] <;> rfl) | (simp only [← hji7, ← hji8, ← hji20, ← hji67, ← hji69, ← hji76, ← hji88, ← hji95]; first | rfl | (simp [errW_none, errW_some] <;> rfl)) | (simp [*, errW_none, errW_some] <;> rfl), bl2 HB.out GE300.out GE317.out⟩
                  ·rw [if_neg c87] at H
                   exact absurd H (by simp)
                ·rw [if_neg c75] at H
                 exact absurd H (by simp)
             ·rw [if_neg c68] at H
              exact absurd H (by simp)

end Go.Proofs.Ytngkpekmgahjiaa.P
