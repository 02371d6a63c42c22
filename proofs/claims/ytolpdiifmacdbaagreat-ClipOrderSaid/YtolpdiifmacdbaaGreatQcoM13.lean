import Derived.Test.YtolpdiifmacdbaaGreatQcoZ
import Derived.Test.YtolpdiifmacdbaaGreatQcoM5
import Derived.Test.YtolpdiifmacdbaaGreatQcoM6
import Derived.Test.YtolpdiifmacdbaaGreatQcoM7
-- Printed by a program of this session's out of Lean's print of the translation; Lean checks it.
set_option linter.unusedVariables false
set_option linter.unusedSimpArgs false
set_option maxRecDepth 100000
set_option maxHeartbeats 8000000
namespace Go.Proofs.YtolpdiifmacdbaaGreat.P
open Go.RowKit Go.Proofs.YtolpdiifmacdbaaGreatW.PrintWords Go.Proofs.YtolpdiifmacdbaaGreatW.PrintLast Go.Proofs.YtolpdiifmacdbaaGreatW.PrintMore
attribute [local go_sem] max2_int min2_int max_two min_two max_three min_three max_four min_four

-- NEED 1
/-! ### aG: function 33 -/
mutual
def aG.l0 : Nat → Int → Int → Int → List Int → Bool → Int → Int → Int → Int → List Int → Option (Int × Int × Int × List Int)
 |0, _, _, _, _, _, _, _, _, _, _ => none
 |k + 1, x0, x1, x2, x3, x4, x12, x511000, x511001, x511002, x511003 => if x12 < (wrap64 (x0 * x1)) then (if (x3.length : Int) > 0 then (if (x3.length : Int) = 0 then (none) else (if 0 ≤ (Int.tmod x12 (x3.length : Int)) then (if (Int.tmod x12 (x3.length : Int)) < (x3.length : Int) then (aG.j1 k x0 x1 x2 x3 x4 x12 (((rd x3 (Int.tmod x12 (x3.length : Int))) + ((((wrap64 (Int.tdiv x12 (x3.length : Int))) % 4294967296) * 40503) % 4294967296)) % 4294967296) x511000 x511001 x511002 x511003) else (none)) else (none))) else (aG.j1 k x0 x1 x2 x3 x4 x12 ((((x12) % 4294967296) * 2654435761) % 4294967296) x511000 x511001 x511002 x511003)) else (some (x511000, x511001, x511002, x511003))
def aG.j1 : Nat → Int → Int → Int → List Int → Bool → Int → Int → Int → Int → Int → List Int → Option (Int × Int × Int × List Int)
 |0, _, _, _, _, _, _, _, _, _, _, _ => none
 |k + 1, x0, x1, x2, x3, x4, x12, x13, x511000, x511001, x511002, x511003 => if x4 = true then ((eH.f x2 x13).bind fun t512 => (if x511003.length < 35184372088832 then (aG.l0 k x0 x1 x2 x3 x4 (wrap64 (x12 + 1)) x511000 x511001 x511002 (x511003 ++ [t512])) else (none))) else ((bP.f x2 x13).bind fun t516 => (if x511003.length < 35184372088832 then (aG.l0 k x0 x1 x2 x3 x4 (wrap64 (x12 + 1)) x511000 x511001 x511002 (x511003 ++ [t516])) else (none)))
end
def aG.f (k : Nat) (a0 a1 a2 : Int) (l3 : List Int) (a4 : Bool) : Option (Int × Int × Int × List Int) := aG.l0 k a0 a1 a2 l3 a4 0 a0 a1 a2 ([] : List Int)
def aG.T7 : Bool × List (List Nat × List Nat) := (true, [([], []), ([], []), ([], []), ([2], [2]), ([1, 3], [1, 3]), ([0, 4], [0, 4]), ([5], [5]), ([], []), ([], []), ([8], [8]), ([7, 9], [7, 9]), ([10], [10]), ([11], [11]), ([6, 12], [6, 12]), ([13, 0, 1, 2, 3, 4, 5, 6, 7, 8, 9, 10, 11, 12, 13], [13])])
def aG.B7 : List Nat := [0, 0, 0, 4, 14, 31, 63, 0, 0, 256, 896, 1920, 3968, 8191, 16383]
theorem aG.tab7 : rtab .any (opsOf Tryz.f33 7) = aG.T7 := by kernel_rfl
theorem aG.bits7 : waitsOk aG.T7.2 aG.B7 = true := by kernel_rfl
def aG.T9 : Bool × List (List Nat × List Nat) := (true, [([], []), ([0], [0]), ([], []), ([], []), ([2, 3], [2, 3]), ([4], [4]), ([1, 5, 4], [1, 5]), ([0, 1, 2, 3, 4, 5, 6], []), ([7, 6, 6, 0, 1, 2, 3, 4, 5, 6], [6, 7])])
def aG.B9 : List Nat := [0, 1, 0, 0, 12, 28, 63, 127, 255]
theorem aG.tab9 : rtab .any (opsOf Tryz.f33 9) = aG.T9 := by kernel_rfl
theorem aG.bits9 : waitsOk aG.T9.2 aG.B9 = true := by kernel_rfl
def aG.T10 : Bool × List (List Nat × List Nat) := (true, [([], []), ([0], [0]), ([], []), ([], []), ([2, 3], [2, 3]), ([4], [4]), ([1, 5, 4], [1, 5]), ([0, 1, 2, 3, 4, 5, 6], []), ([7, 6, 6, 0, 1, 2, 3, 4, 5, 6], [6, 7])])
def aG.B10 : List Nat := [0, 1, 0, 0, 12, 28, 63, 127, 255]
theorem aG.tab10 : rtab .any (opsOf Tryz.f33 10) = aG.T10 := by kernel_rfl
theorem aG.aAX : waitsOk aG.T10.2 aG.B10 = true := by kernel_rfl
theorem aG.calls (k : Nat) (a0 a1 a2 : Int) (A3 : Option Addr) (c3 : Nat) (l3 : List Int) (a4 : Bool) (r1 r2 r3 : Int) (r4 : List Int) (w : World) (hr3 : Kd.C (Kd.int .u32) w A3 l3.length l3) (hc3 : l3.length ≤ c3) (h : aG.f k a0 a1 a2 l3 a4 = some (r1, r2, r3, r4)) :
  Calls Tryz.prog 33 #[.int .i64 a0, .int .i64 a1, .int .i64 a2, .slice A3 l3.length c3, .bool a4] w fun e w' => ∃ v3_ : Value, e = .returned (.agg #[.int .i64 r1, .int .i64 r2, .int .i64 r3, v3_]) ∧ Kd.R (Kd.int .u32) 27 w' w.heap.size (fun _ => True) v3_ r4 ∧ Below w.heap.size w w' := by
 have hu29 := Tryz.underlying29
 have HR3 := Aside0.mk hr3
 have HC3 := Aside0.mk hc3
 clear hr3 hc3
 have HB := Aside0.mk (Below.refl w.heap.size w)
 have H : (aG.l0 k a0 a1 a2 l3 a4 0 a0 a1 a2 ([] : List Int)) = some (r1, r2, r3, r4) := h
 clear h
 have H' := Aside0.mk H
 clear H
 go_enter Tryz.func33, Tryz.ntmps33
 go_wp2_with (first | ((with_reducible refine gate_dst (N := 10) rfl ?_); refine box_event ?hg (N := 10) ?hd (cs := #[.int .i64 0, .int .i64 0, .int .i64 0, .slice none 0 0]) (t := 29) ?hr ?_; (case hd => rfl); (case hg => rfl); (case hr => first | (go_simp; done) | (go_simp; rfl)); intro gb509 hg w6 hbox hb; have n0_ := Aside0.mk (below_step (bl0 HB.out) hb); have n1_ := Aside0.mk (hbox); have n2_ := Aside0.mk ((by rw [hg]; exact (below_size (bl0 HB.out)) : w.heap.size ≤ gb509)); have n3_ := n2_; clear HB; have HB := n0_; have BK509 := n1_; have GW509 := n2_; have GE509 := n3_; clear n0_ n1_ n2_ n3_; clear hb hbox hg) | ((with_reducible refine gate_dst (N := 11) rfl ?_); refine box_event ?hg (N := 11) ?hd (cs := #[.int .i64 0, .int .i64 0, .int .i64 0, .slice none 0 0]) (t := 29) ?hr ?_; (case hd => rfl); (case hg => rfl); (case hr => first | (go_simp; done) | (go_simp; rfl)); intro gb510 hg w7 hbox hb; have n0_ := Aside0.mk (blk_below (g := gb509) (o := .cells #[.int .i64 0, .int .i64 0, .int .i64 0, .slice none 0 0] 29 (0, 0)) (bv BK509.out) hb); have n1_ := Aside0.mk (below_step (bl1 HB.out GE509.out) hb); have n2_ := Aside0.mk (hbox); have n3_ := Aside0.mk ((by rw [hg]; exact (below_size (bl1 HB.out GE509.out)) : w.heap.size ≤ gb510)); have n4_ := n3_; have n5_ := Aside0.mk ((by rw [hg]; exact Nat.ne_of_lt (blk_lt (g := gb509) (o := .cells #[.int .i64 0, .int .i64 0, .int .i64 0, .slice none 0 0] 29 (0, 0)) (bv BK509.out)) : gb509 ≠ gb510)); have n6_ := Aside0.mk (Ne.symm n5_.out); clear BK509; clear HB; have BK509 := n0_; have HB := n1_; have BK510 := n2_; have GW510 := n3_; have GE510 := n4_; have NB509_510 := n5_; have NB510_509 := n6_; clear n0_ n1_ n2_ n3_ n4_ n5_ n6_; clear hb hbox hg; have hnb8 := NB510_509.out; have hnc8 := NB509_510.out; obtain ⟨hcz9_0, hcz9_1, hcz9_2, hcz9_3⟩ := bc4 BK510.out; obtain ⟨hfz9_0, hfz9_1, hfz9_2, hfz9_3⟩ := bf4 BK510.out))
 go_loopg [12] k (fun kq v12 w' => ∃ (x12_1 : Int) (x511003_1 : List Int) (u511003 : Value), v12 = .int .i64 x12_1 ∧ Aside0 (aG.l0 kq a0 a1 a2 l3 a4 x12_1 a0 a1 a2 x511003_1 = some (r1, r2, r3, r4)) ∧ Aside0 (kq ≤ k) ∧ Aside0 (Kd.R (Kd.int .u32) 27 w' w.heap.size (fun _ => True) u511003 x511003_1) ∧ Aside0 (w'.heap[gb509]? = some (.cells #[.int .i64 0, .int .i64 0, .int .i64 0, (.slice none 0 0)] 29 (0, 0))) ∧ Aside0 (w'.heap[gb510]? = some (.cells #[.int .i64 a0, .int .i64 a1, .int .i64 a2, u511003] 29 (0, 0))) ∧ Aside0 (Below w.heap.size w w'))
 case atStart => exact ⟨(0), (([] : List Int)), (.slice none 0 0), (gr_), H', ⟨Nat.le_refl _⟩, ⟨by first | exact Kd.R_nil _ _ _ _ _ | exact Kd.N_nil _ _ _ _ _ | exact Kd.V_nil _ _ _ _ _ | exact Kd.Q_nil _ _ _ _ _ | exact Kd.S_nil _ _ _ _ _⟩, ⟨by (with_reducible repeat first | apply bd | apply be | apply ba); refine blk_far ?_ NB509_510.out _; (with_reducible repeat first | apply bd | apply be | apply ba); refine blk_far ?_ NB509_510.out _; (with_reducible repeat first | apply bd | apply be | apply ba); refine blk_far ?_ NB509_510.out _; (with_reducible repeat first | apply bd | apply be | apply ba); refine blk_far ?_ NB509_510.out _; (with_reducible repeat first | apply bd | apply be | apply ba); exact BK509.out⟩, ⟨by (with_reducible repeat first | apply bd | apply be | apply ba); refine blk_put (cs := #[.int .i64 a0, .int .i64 a1, .int .i64 a2, .slice none 0 0]) ?_ 3 _ rfl; (with_reducible repeat first | apply bd | apply be | apply ba); refine blk_put (cs := #[.int .i64 a0, .int .i64 a1, .int .i64 0, .slice none 0 0]) ?_ 2 _ rfl; (with_reducible repeat first | apply bd | apply be | apply ba); refine blk_put (cs := #[.int .i64 a0, .int .i64 0, .int .i64 0, .slice none 0 0]) ?_ 1 _ rfl; (with_reducible repeat first | apply bd | apply be | apply ba); refine blk_put (cs := #[.int .i64 0, .int .i64 0, .int .i64 0, .slice none 0 0]) ?_ 0 _ rfl; (with_reducible repeat first | apply bd | apply be | apply ba); exact BK510.out⟩, ⟨bl2 HB.out GE509.out GE510.out⟩⟩
 case round =>
  clear H'
  try clear p2 c3 p6 c8 hcz9_0 hcz9_1 hcz9_2 hcz9_3 hfz9_0 hfz9_1 hfz9_2 hfz9_3
  obtain ⟨x12_1, x511003_1, u511003, rfl, HA, HK1, HO_511003, BK509, BK510, HB⟩ := hrel
  cases gk with
  |zero => exact absurd HA.out (by simp [aG.l0])
  |succ k1 =>
   have H := HA.out
   clear HA
   simp only [aG.l0] at H
   by_cases c10 : x12_1 < (wrap64 (a0 * a1))
   ·rw [if_pos c10] at H
    have c10b0 : decide (x12_1 < (wrap64 (a0 * a1))) = true := decide_eq_true c10
    clear c10
    obtain ⟨ji11, hji11⟩ : ∃ j_ : Int, ((((x12_1) % 4294967296) * 2654435761) % 4294967296) = j_ := ⟨_, rfl⟩
    replace H : (if (l3.length : Int) > 0 then (if (l3.length : Int) = 0 then (none) else (if 0 ≤ (Int.tmod x12_1 (l3.length : Int)) then (if (Int.tmod x12_1 (l3.length : Int)) < (l3.length : Int) then (aG.j1 k1 a0 a1 a2 l3 a4 x12_1 (((rd l3 (Int.tmod x12_1 (l3.length : Int))) + ((((wrap64 (Int.tdiv x12_1 (l3.length : Int))) % 4294967296) * 40503) % 4294967296)) % 4294967296) a0 a1 a2 x511003_1) else (none)) else (none))) else (aG.j1 k1 a0 a1 a2 l3 a4 x12_1 ji11 a0 a1 a2 x511003_1)) = some (r1, r2, r3, r4) := by first | (rw [hji11] at H; exact H) | (simp only [hji11] at H ⊢; exact H)
    have hji11l : 0 ≤ ji11 := by rw [← hji11]; exact Int.emod_nonneg _ (by decide)
    have hji11h : ji11 ≤ 4294967295 := by have := Int.emod_lt_of_pos ((((x12_1) % 4294967296) * 2654435761)) (show (0 : Int) < 4294967296 by decide); omega
    have hji11w : (IntKind.u32.wrap (((x12_1) % 4294967296) * 2654435761)) = ji11 := (l7 _).trans hji11
    (try (have hji11_ := hji11; simp only [Int.add_emod_emod, Int.emod_add_emod, Int.sub_emod_emod, Int.emod_sub_emod] at hji11_))
    have HC12 := Aside0.mk H
    clear H
    go_upto_if 30 with (fail)
    go_cut [13] (fun v13 wc => ∃ (kq : Nat) (x13_11 : Int), v13 = .int .u32 x13_11 ∧ Aside0 (aG.j1 kq a0 a1 a2 l3 a4 x12_1 x13_11 a0 a1 a2 x511003_1 = some (r1, r2, r3, r4)) ∧ Aside0 (kq ≤ k1) ∧ Aside0 (Kd.R (Kd.int .u32) 27 wc w.heap.size (fun _ => True) u511003 x511003_1) ∧ Aside0 (wc.heap[gb509]? = some (.cells #[.int .i64 0, .int .i64 0, .int .i64 0, (.slice none 0 0)] 29 (0, 0))) ∧ Aside0 (wc.heap[gb510]? = some (.cells #[.int .i64 a0, .int .i64 a1, .int .i64 a2, u511003] 29 (0, 0))) ∧ Aside0 (Below w.heap.size w wc))
    case first =>
     have H := HC12.out
     clear HC12
     by_cases c13 : (l3.length : Int) > 0
     ·rw [if_pos c13] at H
      have c13b0 : decide (0 < (l3.length : Int)) = true := decide_eq_true c13
      have c13b1 : decide (0 < l3.length) = true := decide_eq_true (by omega)
      clear c13
      (first | rw [c13b0] | rw [c13b1] | (simp only [i64_w, i32_w]; rw [c13b0]) | skip)
      by_cases c14 : (l3.length : Int) = 0
      ·rw [if_pos c14] at H
       exact absurd H (by simp)
      ·rw [if_neg c14] at H
       have c14b0 : ((l3.length : Int) == 0) = false := beq_eq_false_iff_ne.mpr c14
       have c14b1 : ((l3.length : Int) != 0) = true := bne_iff_ne.mpr c14
       have c14b2 : ¬ (l3 = []) := fun h_ => c14 (by rw [h_]; rfl)
       obtain ⟨ji15, hji15⟩ : ∃ j_ : Int, (Int.tmod x12_1 (l3.length : Int)) = j_ := ⟨_, rfl⟩
       replace H : (if 0 ≤ (ji15) then (if (ji15) < (l3.length : Int) then (aG.j1 k1 a0 a1 a2 l3 a4 x12_1 (((rd l3 (ji15)) + ((((wrap64 (Int.tdiv x12_1 (l3.length : Int))) % 4294967296) * 40503) % 4294967296)) % 4294967296) a0 a1 a2 x511003_1) else (none)) else (none)) = some (r1, r2, r3, r4) := by first | (rw [hji15] at H; exact H) | (simp only [hji15] at H ⊢; exact H)
       by_cases c16 : 0 ≤ (ji15)
       ·rw [if_pos c16] at H
        have c16b0 : decide (0 ≤ (ji15)) = true := decide_eq_true c16
        clear c16
        by_cases c17 : (ji15) < (l3.length : Int)
        ·rw [if_pos c17] at H
         have c17b0 : decide ((ji15) < (l3.length : Int)) = true := decide_eq_true c17
         clear c17
         obtain ⟨ji18, hji18⟩ : ∃ j_ : Int, ((((wrap64 (Int.tdiv x12_1 (l3.length : Int))) % 4294967296) * 40503) % 4294967296) = j_ := ⟨_, rfl⟩
         replace H : (aG.j1 k1 a0 a1 a2 l3 a4 x12_1 (((rd l3 (ji15)) + (ji18)) % 4294967296) a0 a1 a2 x511003_1) = some (r1, r2, r3, r4) := by first | (rw [hji18] at H; exact H) | (simp only [hji18] at H ⊢; exact H)
         have hji18l : 0 ≤ ji18 := by rw [← hji18]; exact Int.emod_nonneg _ (by decide)
         have hji18h : ji18 ≤ 4294967295 := by have := Int.emod_lt_of_pos ((((wrap64 (Int.tdiv x12_1 (l3.length : Int))) % 4294967296) * 40503)) (show (0 : Int) < 4294967296 by decide); omega
         have hji18w : (IntKind.u32.wrap (((wrap64 (Int.tdiv x12_1 (l3.length : Int))) % 4294967296) * 40503)) = ji18 := (l7 _).trans hji18
         (try (have hji18_ := hji18; simp only [Int.add_emod_emod, Int.emod_add_emod, Int.sub_emod_emod, Int.emod_sub_emod] at hji18_))
         obtain ⟨ji19, hji19⟩ : ∃ j_ : Int, (((rd l3 (ji15)) + (ji18)) % 4294967296) = j_ := ⟨_, rfl⟩
         replace H : (aG.j1 k1 a0 a1 a2 l3 a4 x12_1 ji19 a0 a1 a2 x511003_1) = some (r1, r2, r3, r4) := by first | (rw [hji19] at H; exact H) | (simp only [hji19] at H ⊢; exact H)
         have hji19l : 0 ≤ ji19 := by rw [← hji19]; exact Int.emod_nonneg _ (by decide)
         have hji19h : ji19 ≤ 4294967295 := by have := Int.emod_lt_of_pos (((rd l3 (ji15)) + (ji18))) (show (0 : Int) < 4294967296 by decide); omega
         have hji19w : (IntKind.u32.wrap ((rd l3 (ji15)) + (ji18))) = ji19 := (l7 _).trans hji19
         (try (have hji19_ := hji19; simp only [Int.add_emod_emod, Int.emod_add_emod, Int.sub_emod_emod, Int.emod_sub_emod] at hji19_))
         have H' := Aside0.mk H
         clear H
         try go_wp2
         have n0_ := Aside0.mk (Kd.R_drew HO_511003.out)
         have n1_ := Aside0.mk (blk_drew BK509.out)
         have n2_ := Aside0.mk (blk_drew BK510.out)
         have n3_ := Aside0.mk (below_drew1 HB.out)
         clear HO_511003
         clear BK509
         clear BK510
         clear HB
         have HO_511003 := n0_
         have BK509 := n1_
         have BK510 := n2_
         have HB := n3_
         clear n0_ n1_ n2_ n3_
         have p511 : 0 ≤ ((ji15) : Int) := of_decide_eq_true (by first | (with_reducible assumption) | assumption)
         have q511 : (ji15) < (l3.length : Int) := of_decide_eq_true (by first | (with_reducible assumption) | assumption)
         obtain ⟨ad511, e511, hx511_0⟩ := Kd.at_int HR3.out (ji15) p511 q511
         have hw511_0 := hx511_0
         cases e511
         replace hx511_0 := (HB.out.cell (World.block_lt_of_cell? w _ hx511_0)).trans hx511_0
         replace p511 := eq_true p511
         replace q511 := eq_true q511
         refine start_ (n := 15) (S := fun w' => w'.cell? (ad511.add ((ji15)).toNat) = some (.int .u32 (rd l3 (ji15)))) (ds := []) (tf 0 15) (by kernel_rfl) rfl rfl (((HB.out.cell (World.block_lt_of_cell? w _ hw511_0)).trans hw511_0)) (fun hHeld => ?_); refine with_tabW aG.tab7 aG.bits7 (fun HT_ HW_ => ?_)
         generalize wr.drew = w20 at HO_511003 BK509 BK510 HB hx511_0 hHeld ⊢
         refine pure_ (i := 0) (N := some 31) (v := ?_) (a' := ?_) (tf 1 14) rfl rfl (any_of HT_.out (by kernel_rfl)) (fun _ _ _ h => h) (Or.inl ⟨by rfl, ?_⟩) ?_ ?_
         rotate_left
         ·intro w'
          go_simp
          with_reducible rfl
         rotate_left
         ·simp only [Act.put, sb, sz, ss, i64_w, i32_w]
          rfl
         refine pure_ (i := 1) (N := some 32) (v := ?_) (a' := ?_) (tf 2 13) rfl rfl (any_of HT_.out (by kernel_rfl)) (fun _ _ _ h => h) (Or.inl ⟨by rfl, ?_⟩) ?_ ?_
         rotate_left
         ·intro w'
          go_simp
          with_reducible rfl
         rotate_left
         ·simp only [Act.put, sb, sz, ss, i64_w, i32_w]
          rfl
         refine pure_ (i := 2) (N := some 33) (v := ?_) (a' := ?_) (tf 3 12) rfl rfl (any_of HT_.out (by kernel_rfl)) (fun _ _ _ h => h) (Or.inl ⟨by rfl, ?_⟩) ?_ ?_
         rotate_left
         ·intro w'
          go_simp
          with_reducible rfl
         rotate_left
         ·simp only [Act.put, sb, sz, ss, i64_w, i32_w]
          rfl
         refine pure_ (i := 3) (N := some 34) (v := ?_) (a' := ?_) (tf 4 11) rfl rfl (any_of HT_.out (by kernel_rfl)) (fun _ _ _ h => h) (Or.inl ⟨by rfl, ?_⟩) ?_ ?_
         rotate_left
         ·intro w'
          go_simp
          with_reducible rfl
         rotate_left
         ·simp only [Act.put, sb, sz, ss, i64_w, i32_w]
          rfl
         refine pure_ (i := 4) (N := some 35) (v := ?_) (a' := ?_) (tf 5 10) rfl rfl (any_of HT_.out (by kernel_rfl)) (fun _ _ _ h => h) (Or.inl ⟨by rfl, ?_⟩) ?_ ?_
         rotate_left
         ·intro w'
          go_simp
          with_reducible rfl
         rotate_left
         ·simp only [Act.put, sb, sz, ss, i64_w, i32_w]
          rfl
         refine pure_ (i := 5) (N := some 36) (v := ?_) (a' := ?_) (tf 6 9) rfl rfl (any_of HT_.out (by kernel_rfl)) (fun _ _ _ h => h) (Or.inl ⟨by rfl, ?_⟩) ?_ ?_
         rotate_left
         ·intro w'
          go_simp
          with_reducible rfl
         rotate_left
         ·simp only [Act.put, sb, sz, ss, i64_w, i32_w]
          rfl
         refine pure_ (i := 7) (N := some 38) (v := ?_) (a' := ?_) #[true, true, true, true, true, true, false, true, false, false, false, false, false, false, false] rfl rfl (any_of HT_.out (by kernel_rfl)) (fun _ _ _ h => h) (Or.inl ⟨by rfl, ?_⟩) ?_ ?_
         rotate_left
         ·intro w'
          go_simp
          with_reducible rfl
         rotate_left
         ·simp only [Act.put, sb, sz, ss, i64_w, i32_w]
          rfl
         refine pure_ (i := 8) (N := some 39) (v := ?_) (a' := ?_) #[true, true, true, true, true, true, false, true, true, false, false, false, false, false, false] rfl rfl (any_of HT_.out (by kernel_rfl)) (fun _ _ _ h => h) (Or.inl ⟨by rfl, ?_⟩) ?_ ?_
         rotate_left
         ·intro w'
          go_simp
          with_reducible rfl
         rotate_left
         ·simp only [Act.put, sb, sz, ss, i64_w, i32_w]
          rfl
         refine pure_ (i := 9) (N := some 40) (v := ?_) (a' := ?_) #[true, true, true, true, true, true, false, true, true, true, false, false, false, false, false] rfl rfl (any_of HT_.out (by kernel_rfl)) (fun _ _ _ h => h) (Or.inl ⟨by rfl, ?_⟩) ?_ ?_
         rotate_left
         ·intro w'
          go_simp
          with_reducible rfl
         rotate_left
         ·simp only [Act.put, sb, sz, ss, i64_w, i32_w]
          rfl
         refine pure_ (i := 10) (N := some 41) (v := ?_) (a' := ?_) #[true, true, true, true, true, true, false, true, true, true, true, false, false, false, false] rfl rfl (any_of HT_.out (by kernel_rfl)) (fun _ _ _ h => h) (Or.inl ⟨by rfl, ?_⟩) ?_ ?_
         rotate_left
         ·intro w'
          go_simp
          with_reducible rfl
         rotate_left
         ·simp only [Act.put, sb, sz, ss, i64_w, i32_w]
          rfl
         refine pure_ (i := 11) (N := some 42) (v := ?_) (a' := ?_) #[true, true, true, true, true, true, false, true, true, true, true, true, false, false, false] rfl rfl (any_of HT_.out (by kernel_rfl)) (fun _ _ _ h => h) (Or.inl ⟨by rfl, ?_⟩) ?_ ?_
         rotate_left
         ·intro w'
          go_simp
          with_reducible rfl
         rotate_left
         ·simp only [Act.put, sb, sz, ss, i64_w, i32_w]
          rfl
         refine pure_ (i := 12) (N := some 43) (v := ?_) (a' := ?_) #[true, true, true, true, true, true, false, true, true, true, true, true, true, false, false] rfl rfl (any_of HT_.out (by kernel_rfl)) (fun _ _ _ h => h) (Or.inl ⟨by rfl, ?_⟩) ?_ ?_
         rotate_left
         ·intro w'
          go_simp
          with_reducible rfl
         rotate_left
         ·simp only [Act.put, sb, sz, ss, i64_w, i32_w]
          rfl
         refine take_ (i := 6) (N := some 37) (v := ?_) (a' := ?_) (tf 13 2) rfl rfl (take_ofW HT_.out HW_.out (by kernel_rfl)) (fun _ _ _ h => h) (Or.inl ⟨by rfl, ?_⟩) hHeld ?_ ?_
         rotate_left
         ·intro w' s0
          go_simp
          with_reducible rfl
         rotate_left
         ·simp only [Act.put, sb, sz, ss, i64_w, i32_w]
          rfl
         refine pure_ (i := 13) (N := some 44) (v := ?_) (a' := ?_) (tf 14 1) rfl rfl (any_of HT_.out (by kernel_rfl)) (fun _ _ _ h => h) (Or.inl ⟨by rfl, ?_⟩) ?_ ?_
         rotate_left
         ·intro w'
          go_simp
          with_reducible rfl
         rotate_left
         ·simp only [Act.put, sb, sz, ss, i64_w, i32_w]
          rfl
         refine pure_ (i := 14) (N := some 13) (v := ?_) (a' := ?_) (tf 15 0) rfl rfl (any_of HT_.out (by kernel_rfl)) (fun _ _ _ h => h) (Or.inl ⟨by rfl, ?_⟩) ?_ ?_
         rotate_left
         ·intro w'
          go_simp
          with_reducible rfl
         rotate_left
         ·simp only [Act.put, sb, sz, ss, i64_w, i32_w]
          rfl
         refine done_ (done_of HT_.out (by kernel_rfl)) ?_
         try go_wp2
         go_meet
         case rel => exact ⟨_, (ji19), (by first | rfl | (rw [← hji19w, ← hji18w]; simp only [l7]; done) | (rw [← hji19w, ← hji18w]; simp only [l7]; rfl) | (simp; done) | (simp only [← hji19] <;> (first | rfl | (simp; done))) | (simp [*]; done) | (congr 1; (try unfold wrap64); omega) | (congr 1; rw [IntKind.wrap_u64]; omega)), H', ⟨by have := HK1.out; first | omega | exact Nat.le_refl _⟩, ⟨by (with_reducible repeat (first | apply Kd.R_alloc | apply Kd.R_drewN | apply Kd.R_drew)); exact HO_511003.out⟩, ⟨by (with_reducible repeat first | apply bd | apply be | apply ba); exact BK509.out⟩, ⟨by (with_reducible repeat first | apply bd | apply be | apply ba); exact BK510.out⟩, ⟨bl2 HB.out GE509.out GE510.out⟩⟩
        ·rw [if_neg c17] at H
         exact absurd H (by simp)
       ·rw [if_neg c16] at H
        exact absurd H (by simp)
     ·rw [if_neg c13] at H
      have c13b0 : decide (0 < (l3.length : Int)) = false := decide_eq_false c13
      have c13b1 : decide (0 < l3.length) = false := decide_eq_false (by omega)
      clear c13
      (first | rw [c13b0] | rw [c13b1] | (simp only [i64_w, i32_w]; rw [c13b0]) | skip)
      have H' := Aside0.mk H
      clear H
      go_wp2
      go_meet
      case rel => exact ⟨_, (ji11), (by first | rfl | (simp; done) | (simp only [← hji11] <;> (first | rfl | (simp; done))) | (simp [*]; done) | (congr 1; (try unfold wrap64); omega) | (congr 1; rw [IntKind.wrap_u64]; omega)), H', ⟨by have := HK1.out; first | omega | exact Nat.le_refl _⟩, ⟨by (with_reducible repeat (first | apply Kd.R_alloc | apply Kd.R_drewN | apply Kd.R_drew)); exact HO_511003.out⟩, ⟨by (with_reducible repeat first | apply bd | apply be | apply ba); exact BK509.out⟩, ⟨by (with_reducible repeat first | apply bd | apply be | apply ba); exact BK510.out⟩, ⟨bl2 HB.out GE509.out GE510.out⟩⟩
    case rest =>
     clear HC12
     try clear c1 p2 c3 p5 q5 hx5 p6 c8 c10 c10b0 c13 c13b0 c13b1 c14 c14b0 c14b1 c14b2 c16 c16b0 c17 c17b0 hcz9_0 hcz9_1 hcz9_2 hcz9_3 hfz9_0 hfz9_1 hfz9_2 hfz9_3 hx511_0 p2 p511 p6 q511
     obtain ⟨kq, x13_11, rfl, HA, HJ11, HO_511003, BK509, BK510, HB⟩ := hcut
     cases kq with
     |zero => exact absurd HA.out (by simp [aG.j1])
     |succ kj11 =>
      have H := HA.out
      clear HA
      simp only [aG.j1] at H
      by_cases c21 : a4 = true
      ·subst c21
       have H1 : ((eH.f a2 x13_11).bind fun t512 => (if x511003_1.length < 35184372088832 then (aG.l0 kj11 a0 a1 a2 l3 true (wrap64 (x12_1 + 1)) a0 a1 a2 (x511003_1 ++ [t512])) else (none))) = some (r1, r2, r3, r4) := by rw [if_pos rfl] at H; exact H
       clear H
       have H := H1
       clear H1
       replace H := bq_ H
       obtain ⟨t512, A220, H⟩ := H
       replace H : (if x511003_1.length < 35184372088832 then (aG.l0 kj11 a0 a1 a2 l3 true (wrap64 (x12_1 + 1)) a0 a1 a2 (x511003_1 ++ [t512])) else (none)) = some (r1, r2, r3, r4) := H
       have A22 := Aside0.mk A220
       clear A220
       by_cases c23 : x511003_1.length < 35184372088832
       ·rw [if_pos c23] at H
        have LMc23 := Aside0.mk c23
        clear c23
        obtain ⟨y513, hy513⟩ : ∃ y_ : List Int, y_ = (x511003_1 ++ [t512]) := ⟨_, rfl⟩
        replace H : (aG.l0 kj11 a0 a1 a2 l3 true (wrap64 (x12_1 + 1)) a0 a1 a2 y513) = some (r1, r2, r3, r4) := by first | (rw [hy513]; with_reducible exact H) | (have H2_ := (Option.bind_some _ _).symm.trans H; rw [hy513]; with_reducible exact H2_) | (have H2_ := (Option.bind_some _ _).symm.trans H; with_reducible exact H2_) | with_reducible exact H | (rw [hy513]; exact H) | exact H
        have Ny513 := Aside0.mk hy513
        clear hy513
        have H' := Aside0.mk H
        clear H
        try go_wp2
        have n0_ := Aside0.mk (Kd.R_drew HO_511003.out)
        have n1_ := Aside0.mk (blk_drew BK509.out)
        have n2_ := Aside0.mk (blk_drew BK510.out)
        have n3_ := Aside0.mk (below_drew1 HB.out)
        clear HO_511003
        clear BK509
        clear BK510
        clear HB
        have HO_511003 := n0_
        have BK509 := n1_
        have BK510 := n2_
        have HB := n3_
        clear n0_ n1_ n2_ n3_
        refine start_ (n := 9) (S := fun w' => w'.cell? ⟨gb510, 0, none⟩ = some (.int .i64 a0) ∧ w'.cell? ⟨gb510, 1, none⟩ = some (.int .i64 a1) ∧ w'.cell? ⟨gb510, 2, none⟩ = some (.int .i64 a2) ∧ w'.cell? ⟨gb510, 3, none⟩ = some (u511003)) (ds := [8]) (tf 0 9) (by kernel_rfl) rfl rfl ⟨(blk_cell BK510.out 0).trans rfl, (blk_cell BK510.out 1).trans rfl, (blk_cell BK510.out 2).trans rfl, (blk_cell BK510.out 3).trans rfl⟩ (fun hHeld => ?_); refine with_tabW aG.tab9 aG.bits9 (fun HT_ HW_ => ?_)
        generalize wc.drew = w24 at HO_511003 BK509 BK510 HB hHeld ⊢
        refine pure_ (i := 0) (N := some 46) (v := ?_) (a' := ?_) (tf 1 8) rfl rfl (any_of HT_.out (by kernel_rfl)) (fun _ _ _ h => h) (Or.inl ⟨by rfl, ?_⟩) ?_ ?_
        rotate_left
        ·intro w'
         go_simp
         with_reducible rfl
        rotate_left
        ·simp only [Act.put, sb, sz, ss, i64_w, i32_w]
         rfl
        refine pure_ (i := 2) (N := some 48) (v := ?_) (a' := ?_) #[true, false, true, false, false, false, false, false, false] rfl rfl (any_of HT_.out (by kernel_rfl)) (fun _ _ _ h => h) (Or.inl ⟨by rfl, ?_⟩) ?_ ?_
        rotate_left
        ·intro w'
         go_simp
         with_reducible rfl
        rotate_left
        ·simp only [Act.put, sb, sz, ss, i64_w, i32_w]
         rfl
        refine pure_ (i := 3) (N := some 49) (v := ?_) (a' := ?_) #[true, false, true, true, false, false, false, false, false] rfl rfl (any_of HT_.out (by kernel_rfl)) (fun _ _ _ h => h) (Or.inl ⟨by rfl, ?_⟩) ?_ ?_
        rotate_left
        ·intro w'
         go_simp
         with_reducible rfl
        rotate_left
        ·simp only [Act.put, sb, sz, ss, i64_w, i32_w]
         rfl
        refine take_ (i := 1) (N := some 47) (v := ?_) (a' := ?_) (tf 4 5) rfl rfl (take_ofW HT_.out HW_.out (by kernel_rfl)) (fun _ _ _ h => h) (Or.inl ⟨by rfl, ?_⟩) hHeld ?_ ?_
        rotate_left
        ·rintro w' ⟨s0, s1, s2, s3⟩
         go_simp
         with_reducible rfl
        rotate_left
        ·simp only [Act.put, sb, sz, ss, i64_w, i32_w]
         rfl
        refine one_ (i := 4) (N := some 50) (tf 5 4) rfl rfl (one_of HT_.out (by kernel_rfl)) (by decide) (fun K hK => ?_)
        refine goes_ Tryz.func84 (by kernel_rfl) rfl #[.int .i64 a2, .int .u32 x13_11] (by rfl) rfl rfl gl ?_
        with_reducible refine (eH.calls a2 x13_11 t512 _ A22.out).mono ?_
        rintro e w' ⟨rfl, ⟨nd, rfl⟩⟩
        refine ⟨_, rfl, ?_⟩
        refine hK.out _ _ ⟨(blk_cell BK510.out 0).trans rfl, (blk_cell BK510.out 1).trans rfl, (blk_cell BK510.out 2).trans rfl, (blk_cell BK510.out 3).trans rfl⟩ (fun hHeld => ?_)
        clear hK K
        refine norm_ (a' := ?_) ?_ ?_
        rotate_left
        ·show Act.put _ (some 50) _ = _
         simp only [Act.put, sb, sz, ss, i64_w, i32_w]
         rfl
        refine one_ (i := 5) (N := some 51) (tf 6 3) rfl rfl (one_of HT_.out (by kernel_rfl)) (by decide) (fun K hK => ?_)
        refine value_ (w1 := ?_) (v := ?_) (by rfl) rfl ?_ ?_
        rotate_left 2
        ·go_simp
         constructor
         ·rfl
         ·rfl
        refine hK.out _ _ ⟨(blk_cell (blk_alloc BK510.out _) 0).trans rfl, (blk_cell (blk_alloc BK510.out _) 1).trans rfl, (blk_cell (blk_alloc BK510.out _) 2).trans rfl, (blk_cell (blk_alloc BK510.out _) 3).trans rfl⟩ (fun hHeld => ?_)
        clear hK K
        refine norm_ (a' := ?_) ?_ ?_
        rotate_left
        ·show Act.put _ (some 51) _ = _
         simp only [Act.put, sb, sz, ss, i64_w, i32_w]
         rfl
        refine one_ (i := 6) (N := some 52) (tf 7 2) rfl rfl (one_of HT_.out (by kernel_rfl)) (by decide) (fun K hK => ?_)
        refine Kd.R_append_step (Kd.int .u32) (w0 := w) w.heap.size (by rfl) (.tmp 47) (.tmp 51) 22 27 (.int .u32 0) 4 rfl Tryz.underlying22 aAh rfl (by decide) (by omega) u511003 x511003_1 t512 [.int .u32 t512] (fun _ => True) (fun _ => False) rfl rfl ?aP (fun _ hk => hk.elim) ?aF ?aO ?aB ?aS ?aL ?_
        (case aP => exact rfl)
        (case aB => exact (bl2 HB.out GE509.out GE510.out))
        (case aF => exact (fun _ _ => trivial))
        (case aO => exact (by (with_reducible repeat (first | apply Kd.R_alloc | apply Kd.R_drewN | apply Kd.R_drew)); exact HO_511003.out))
        (case aS => exact (below_size (bl2 HB.out GE509.out GE510.out)))
        (case aL => have := LMc23.out; omega)
        intro v514 w25 ho hb hg hat
        rw [← Ny513.out] at ho
        have n0_ := Aside0.mk (blk_grown (g := gb509) (o := .cells #[.int .i64 0, .int .i64 0, .int .i64 0, .slice none 0 0] 29 (0, 0)) (bv BK509.out) hg (Kd.R_ne HO_511003.out BK509.out (by decide)))
        have n1_ := Aside0.mk (blk_grown (g := gb510) (o := .cells #[.int .i64 a0, .int .i64 a1, .int .i64 a2, u511003] 29 (0, 0)) (bv BK510.out) hg (Kd.R_ne HO_511003.out BK510.out (by decide)))
        have n2_ := Aside0.mk (hb)
        have n3_ := Aside0.mk (ho)
        clear BK509
        clear BK510
        clear HB
        clear HO_511003
        have BK509 := n0_
        have BK510 := n1_
        have HB := n2_
        have HO515 := n3_
        clear n0_ n1_ n2_ n3_
        clear ho hb hg hat
        obtain ⟨Ao26, co26, eo26⟩ := Kd.R_slice HO515.out
        (first | subst eo26 | (injection eo26 with f1_ f2_ f3_; have f4_ := f1_.symm; have f5_ := f3_.symm; clear f1_ f2_ f3_; subst f4_; subst f5_))
        refine hK.out _ _ ⟨(blk_cell BK510.out 0).trans rfl, (blk_cell BK510.out 1).trans rfl, (blk_cell BK510.out 2).trans rfl, (blk_cell BK510.out 3).trans rfl⟩ (fun hHeld => ?_)
        clear hK K
        refine norm_ (a' := ?_) ?_ ?_
        rotate_left
        ·show Act.put _ (some 52) _ = _
         simp only [Act.put, sb, sz, ss, i64_w, i32_w]
         rfl
        refine pure_ (i := 7) (N := some 53) (v := ?_) (a' := ?_) (tf 8 1) rfl rfl (any_of HT_.out (by kernel_rfl)) (fun _ _ _ h => h) (Or.inl ⟨by rfl, ?_⟩) ?_ ?_
        rotate_left
        ·intro w'
         go_simp
         with_reducible rfl
        rotate_left
        ·simp only [Act.put, sb, sz, ss, i64_w, i32_w]
         rfl
        refine last_ (i := 8) (N := none) (tf 9 0) rfl rfl (one_of HT_.out (by kernel_rfl)) (by decide) (fun K hK => ?_)
        have hs27 : w25.cell? ⟨gb510, 3, none⟩ = some (u511003) := (blk_cell BK510.out 3).trans rfl
        have hfs27 := blk_frozen BK510.out 3
        have hns27_0 := NB509_510.out
        have hms27_0 := NB510_509.out
        refine skip_ (w1 := ?_) (by rfl) rfl ?_ ?_
        rotate_left
        ·go_simp
         rfl
        refine hK.out _ _ ?_
        clear hK K
        refine done_ (done_of HT_.out (by kernel_rfl)) ?_
        try go_wp2
        (try subst hji11)
        go_roundg kj11
        case measure => have := HK1.out; have := HJ11.out; omega
        case rel => exact ⟨(wrap64 (x12_1 + 1)), (y513), (.slice Ao26 y513.length co26), (gr_), H', ⟨by have := HK1.out; have := HJ11.out; omega⟩, ⟨by (with_reducible repeat (first | apply Kd.R_alloc | apply Kd.R_drewN | apply Kd.R_drew)); exact Kd.R_mono (Kd.R_far (p := ⟨gb510, 3, none⟩) (Kd.R_types HO515.out BK510.out (by decide)) (fun _ hk => hk.2) (.slice Ao26 y513.length co26)) (fun _ hk => trivial)⟩, ⟨by (with_reducible repeat first | apply bd | apply be | apply ba); refine blk_far ?_ NB509_510.out _; (with_reducible repeat first | apply bd | apply be | apply ba); exact BK509.out⟩, ⟨by (with_reducible repeat first | apply bd | apply be | apply ba); refine blk_put (cs := #[.int .i64 a0, .int .i64 a1, .int .i64 a2, u511003]) ?_ 3 _ rfl; (with_reducible repeat first | apply bd | apply be | apply ba); exact BK510.out⟩, ⟨bl2 HB.out GE509.out GE510.out⟩⟩
       ·rw [if_neg c23] at H
        exact absurd H (by simp)
      ·replace c21 := Bool.eq_false_iff.mpr c21
       subst c21
       have H1 : ((bP.f a2 x13_11).bind fun t516 => (if x511003_1.length < 35184372088832 then (aG.l0 kj11 a0 a1 a2 l3 false (wrap64 (x12_1 + 1)) a0 a1 a2 (x511003_1 ++ [t516])) else (none))) = some (r1, r2, r3, r4) := by rw [if_neg (show ¬ (false = true) by decide)] at H; exact H
       clear H
       have H := H1
       clear H1
       replace H := bq_ H
       obtain ⟨t516, A280, H⟩ := H
       replace H : (if x511003_1.length < 35184372088832 then (aG.l0 kj11 a0 a1 a2 l3 false (wrap64 (x12_1 + 1)) a0 a1 a2 (x511003_1 ++ [t516])) else (none)) = some (r1, r2, r3, r4) := H
       have A28 := Aside0.mk A280
       clear A280
       by_cases c29 : x511003_1.length < 35184372088832
       ·rw [if_pos c29] at H
        have LMc29 := Aside0.mk c29
        clear c29
        obtain ⟨y517, hy517⟩ : ∃ y_ : List Int, y_ = (x511003_1 ++ [t516]) := ⟨_, rfl⟩
        replace H : (aG.l0 kj11 a0 a1 a2 l3 false (wrap64 (x12_1 + 1)) a0 a1 a2 y517) = some (r1, r2, r3, r4) := by first | (rw [hy517]; with_reducible exact H) | (have H2_ := (Option.bind_some _ _).symm.trans H; rw [hy517]; with_reducible exact H2_) | (have H2_ := (Option.bind_some _ _).symm.trans H; with_reducible exact H2_) | with_reducible exact H | (rw [hy517]; exact H) | exact H
        have Ny517 := Aside0.mk hy517
        clear hy517
        have H' := Aside0.mk H
        clear H
        try go_wp2
        have n0_ := Aside0.mk (Kd.R_drew HO_511003.out)
        have n1_ := Aside0.mk (blk_drew BK509.out)
        have n2_ := Aside0.mk (blk_drew BK510.out)
        have n3_ := Aside0.mk (below_drew1 HB.out)
        clear HO_511003
        clear BK509
        clear BK510
        clear HB
        have HO_511003 := n0_
        have BK509 := n1_
        have BK510 := n2_
        have HB := n3_
        clear n0_ n1_ n2_ n3_
        refine start_ (n := 9) (S := fun w' => w'.cell? ⟨gb510, 0, none⟩ = some (.int .i64 a0) ∧ w'.cell? ⟨gb510, 1, none⟩ = some (.int .i64 a1) ∧ w'.cell? ⟨gb510, 2, none⟩ = some (.int .i64 a2) ∧ w'.cell? ⟨gb510, 3, none⟩ = some (u511003)) (ds := [8]) (tf 0 9) (by kernel_rfl) rfl rfl ⟨(blk_cell BK510.out 0).trans rfl, (blk_cell BK510.out 1).trans rfl, (blk_cell BK510.out 2).trans rfl, (blk_cell BK510.out 3).trans rfl⟩ (fun hHeld => ?_); refine with_tabW aG.tab10 aG.aAX (fun HT_ HW_ => ?_)
        generalize wc.drew = w30 at HO_511003 BK509 BK510 HB hHeld ⊢
        refine pure_ (i := 0) (N := some 54) (v := ?_) (a' := ?_) (tf 1 8) rfl rfl (any_of HT_.out (by kernel_rfl)) (fun _ _ _ h => h) (Or.inl ⟨by rfl, ?_⟩) ?_ ?_
        rotate_left
        ·intro w'
         go_simp
         with_reducible rfl
        rotate_left
        ·simp only [Act.put, sb, sz, ss, i64_w, i32_w]
         rfl
        refine pure_ (i := 2) (N := some 56) (v := ?_) (a' := ?_) #[true, false, true, false, false, false, false, false, false] rfl rfl (any_of HT_.out (by kernel_rfl)) (fun _ _ _ h => h) (Or.inl ⟨by rfl, ?_⟩) ?_ ?_
        rotate_left
        ·intro w'
         go_simp
         with_reducible rfl
        rotate_left
        ·simp only [Act.put, sb, sz, ss, i64_w, i32_w]
         rfl
        refine pure_ (i := 3) (N := some 57) (v := ?_) (a' := ?_) #[true, false, true, true, false, false, false, false, false] rfl rfl (any_of HT_.out (by kernel_rfl)) (fun _ _ _ h => h) (Or.inl ⟨by rfl, ?_⟩) ?_ ?_
        rotate_left
        ·intro w'
         go_simp
         with_reducible rfl
        rotate_left
        ·simp only [Act.put, sb, sz, ss, i64_w, i32_w]
         rfl
        refine take_ (i := 1) (N := some 55) (v := ?_) (a' := ?_) (tf 4 5) rfl rfl (take_ofW HT_.out HW_.out (by kernel_rfl)) (fun _ _ _ h => h) (Or.inl ⟨by rfl, ?_⟩) hHeld ?_ ?_
        rotate_left
        ·rintro w' ⟨s0, s1, s2, s3⟩
         go_simp
         with_reducible rfl
        rotate_left
        ·simp only [Act.put, sb, sz, ss, i64_w, i32_w]
         rfl
        refine one_ (i := 4) (N := some 58) (tf 5 4) rfl rfl (one_of HT_.out (by kernel_rfl)) (by decide) (fun K hK => ?_)
        refine goes_ Tryz.func85 (by kernel_rfl) rfl #[.int .i64 a2, .int .u32 x13_11] (by rfl) rfl rfl gl ?_
        with_reducible refine (bP.calls a2 x13_11 t516 _ A28.out).mono ?_
        rintro e w31 ⟨rfl, hb⟩
        refine ⟨_, rfl, ?_⟩
        have n0_ := Aside0.mk (Kd.R_below (by (with_reducible repeat (first | apply Kd.R_alloc | apply Kd.R_drewN | apply Kd.R_drew)); exact HO_511003.out) hb)
        have n1_ := Aside0.mk (blk_below (g := gb509) (o := .cells #[.int .i64 0, .int .i64 0, .int .i64 0, .slice none 0 0] 29 (0, 0)) (bv BK509.out) hb)
        have n2_ := Aside0.mk (blk_below (g := gb510) (o := .cells #[.int .i64 a0, .int .i64 a1, .int .i64 a2, u511003] 29 (0, 0)) (bv BK510.out) hb)
        have n3_ := Aside0.mk (below_step (bl2 HB.out GE509.out GE510.out) hb)
        clear HO_511003
        clear BK509
        clear BK510
        clear HB
        have HO_511003 := n0_
        have BK509 := n1_
        have BK510 := n2_
        have HB := n3_
        clear n0_ n1_ n2_ n3_
        (try clear hb)
        (try clear hb2)
        (try clear hk)
        (try clear hi)
        refine hK.out _ _ ⟨(blk_cell BK510.out 0).trans rfl, (blk_cell BK510.out 1).trans rfl, (blk_cell BK510.out 2).trans rfl, (blk_cell BK510.out 3).trans rfl⟩ (fun hHeld => ?_)
        clear hK K
        refine norm_ (a' := ?_) ?_ ?_
        rotate_left
        ·show Act.put _ (some 58) _ = _
         simp only [Act.put, sb, sz, ss, i64_w, i32_w]
         rfl
        refine one_ (i := 5) (N := some 59) (tf 6 3) rfl rfl (one_of HT_.out (by kernel_rfl)) (by decide) (fun K hK => ?_)
        refine value_ (w1 := ?_) (v := ?_) (by rfl) rfl ?_ ?_
        rotate_left 2
        ·go_simp
         constructor
         ·rfl
         ·rfl
        refine hK.out _ _ ⟨(blk_cell (blk_alloc BK510.out _) 0).trans rfl, (blk_cell (blk_alloc BK510.out _) 1).trans rfl, (blk_cell (blk_alloc BK510.out _) 2).trans rfl, (blk_cell (blk_alloc BK510.out _) 3).trans rfl⟩ (fun hHeld => ?_)
        clear hK K
        refine norm_ (a' := ?_) ?_ ?_
        rotate_left
        ·show Act.put _ (some 59) _ = _
         simp only [Act.put, sb, sz, ss, i64_w, i32_w]
         rfl
        refine one_ (i := 6) (N := some 60) (tf 7 2) rfl rfl (one_of HT_.out (by kernel_rfl)) (by decide) (fun K hK => ?_)
        refine Kd.R_append_step (Kd.int .u32) (w0 := w) w.heap.size (by rfl) (.tmp 55) (.tmp 59) 22 27 (.int .u32 0) 4 rfl Tryz.underlying22 aAh rfl (by decide) (by omega) u511003 x511003_1 t516 [.int .u32 t516] (fun _ => True) (fun _ => False) rfl rfl ?aP (fun _ hk => hk.elim) ?aF ?aO ?aB ?aS ?aL ?_
        (case aP => exact rfl)
        (case aB => exact (bl2 HB.out GE509.out GE510.out))
        (case aF => exact (fun _ _ => trivial))
        (case aO => exact (by (with_reducible repeat (first | apply Kd.R_alloc | apply Kd.R_drewN | apply Kd.R_drew)); exact HO_511003.out))
        (case aS => exact (below_size (bl2 HB.out GE509.out GE510.out)))
        (case aL => have := LMc29.out; omega)
        intro v518 w32 ho hb hg hat
        rw [← Ny517.out] at ho
        have n0_ := Aside0.mk (blk_grown (g := gb509) (o := .cells #[.int .i64 0, .int .i64 0, .int .i64 0, .slice none 0 0] 29 (0, 0)) (bv BK509.out) hg (Kd.R_ne HO_511003.out BK509.out (by decide)))
        have n1_ := Aside0.mk (blk_grown (g := gb510) (o := .cells #[.int .i64 a0, .int .i64 a1, .int .i64 a2, u511003] 29 (0, 0)) (bv BK510.out) hg (Kd.R_ne HO_511003.out BK510.out (by decide)))
        have n2_ := Aside0.mk (hb)
        have n3_ := Aside0.mk (ho)
        clear BK509
        clear BK510
        clear HB
        clear HO_511003
        have BK509 := n0_
        have BK510 := n1_
        have HB := n2_
        have HO519 := n3_
        clear n0_ n1_ n2_ n3_
        clear ho hb hg hat
        obtain ⟨Ao33, co33, eo33⟩ := Kd.R_slice HO519.out
        (first | subst eo33 | (injection eo33 with f1_ f2_ f3_; have f4_ := f1_.symm; have f5_ := f3_.symm; clear f1_ f2_ f3_; subst f4_; subst f5_))
        refine hK.out _ _ ⟨(blk_cell BK510.out 0).trans rfl, (blk_cell BK510.out 1).trans rfl, (blk_cell BK510.out 2).trans rfl, (blk_cell BK510.out 3).trans rfl⟩ (fun hHeld => ?_)
        clear hK K
        refine norm_ (a' := ?_) ?_ ?_
        rotate_left
        ·show Act.put _ (some 60) _ = _
         simp only [Act.put, sb, sz, ss, i64_w, i32_w]
         rfl
        refine pure_ (i := 7) (N := some 61) (v := ?_) (a' := ?_) (tf 8 1) rfl rfl (any_of HT_.out (by kernel_rfl)) (fun _ _ _ h => h) (Or.inl ⟨by rfl, ?_⟩) ?_ ?_
        rotate_left
        ·intro w'
         go_simp
         with_reducible rfl
        rotate_left
        ·simp only [Act.put, sb, sz, ss, i64_w, i32_w]
         rfl
        refine last_ (i := 8) (N := none) (tf 9 0) rfl rfl (one_of HT_.out (by kernel_rfl)) (by decide) (fun K hK => ?_)
        have hs34 : w32.cell? ⟨gb510, 3, none⟩ = some (u511003) := (blk_cell BK510.out 3).trans rfl
        have hfs34 := blk_frozen BK510.out 3
        have hns34_0 := NB509_510.out
        have hms34_0 := NB510_509.out
        refine skip_ (w1 := ?_) (by rfl) rfl ?_ ?_
        rotate_left
        ·go_simp
         rfl
        refine hK.out _ _ ?_
        clear hK K
        refine done_ (done_of HT_.out (by kernel_rfl)) ?_
        try go_wp2
        (try subst hji11)
        go_roundg kj11
        case measure => have := HK1.out; have := HJ11.out; omega
        case rel => exact ⟨(wrap64 (x12_1 + 1)), (y517), (.slice Ao33 y517.length co33), (gr_), H', ⟨by have := HK1.out; have := HJ11.out; omega⟩, ⟨by (with_reducible repeat (first | apply Kd.R_alloc | apply Kd.R_drewN | apply Kd.R_drew)); exact Kd.R_mono (Kd.R_far (p := ⟨gb510, 3, none⟩) (Kd.R_types HO519.out BK510.out (by decide)) (fun _ hk => hk.2) (.slice Ao33 y517.length co33)) (fun _ hk => trivial)⟩, ⟨by (with_reducible repeat first | apply bd | apply be | apply ba); refine blk_far ?_ NB509_510.out _; (with_reducible repeat first | apply bd | apply be | apply ba); exact BK509.out⟩, ⟨by (with_reducible repeat first | apply bd | apply be | apply ba); refine blk_put (cs := #[.int .i64 a0, .int .i64 a1, .int .i64 a2, u511003]) ?_ 3 _ rfl; (with_reducible repeat first | apply bd | apply be | apply ba); exact BK510.out⟩, ⟨bl2 HB.out GE509.out GE510.out⟩⟩
       ·rw [if_neg c29] at H
        exact absurd H (by simp)
   ·rw [if_neg c10] at H
    have c10b0 : decide (x12_1 < (wrap64 (a0 * a1))) = false := decide_eq_false c10
    clear c10
    simp only [Option.some.injEq, Prod.mk.injEq] at H
    obtain ⟨rfl, rfl, rfl, rfl⟩ := H
    have hnb35 := NB510_509.out
    have hnc35 := NB509_510.out
    have hcz36_0 : wr.cell? ⟨gb510, 0, none⟩ = some (.int .i64 a0) := (blk_cell BK510.out 0).trans rfl
    have hcz36_1 : wr.cell? ⟨gb510, 1, none⟩ = some (.int .i64 a1) := (blk_cell BK510.out 1).trans rfl
    have hcz36_2 : wr.cell? ⟨gb510, 2, none⟩ = some (.int .i64 a2) := (blk_cell BK510.out 2).trans rfl
    have hcz36_3 : wr.cell? ⟨gb510, 3, none⟩ = some (u511003) := (blk_cell BK510.out 3).trans rfl
    have hfz36_0 := blk_frozen BK510.out 0
    have hfz36_1 := blk_frozen BK510.out 1
    have hfz36_2 := blk_frozen BK510.out 2
    have hfz36_3 := blk_frozen BK510.out 3
    have hcz37_0 : wr.cell? ⟨gb509, 0, none⟩ = some (.int .i64 0) := (blk_cell BK509.out 0).trans rfl
    have hcz37_1 : wr.cell? ⟨gb509, 1, none⟩ = some (.int .i64 0) := (blk_cell BK509.out 1).trans rfl
    have hcz37_2 : wr.cell? ⟨gb509, 2, none⟩ = some (.int .i64 0) := (blk_cell BK509.out 2).trans rfl
    have hcz37_3 : wr.cell? ⟨gb509, 3, none⟩ = some (.slice none 0 0) := (blk_cell BK509.out 3).trans rfl
    have hfz37_0 := blk_frozen BK509.out 0
    have hfz37_1 := blk_frozen BK509.out 1
    have hfz37_2 := blk_frozen BK509.out 2
    have hfz37_3 := blk_frozen BK509.out 3
    obtain ⟨Ao38, co38, eo38⟩ := Kd.R_slice HO_511003.out
    subst eo38
    go_wp2
    refine bodyPost_ret (results_cell_row rfl _ _ gb509 29 #[.int .i64 a0, .int .i64 a1, .int .i64 a2, .slice Ao38 x511003_1.length co38] (0, 0) _ rfl (by (with_reducible repeat first | apply bd | apply be | apply ba); refine blk_put (cs := #[.int .i64 a0, .int .i64 a1, .int .i64 a2, .slice none 0 0]) ?_ 3 _ rfl; (with_reducible repeat first | apply bd | apply be | apply ba); refine blk_put (cs := #[.int .i64 a0, .int .i64 a1, .int .i64 0, .slice none 0 0]) ?_ 2 _ rfl; (with_reducible repeat first | apply bd | apply be | apply ba); refine blk_put (cs := #[.int .i64 a0, .int .i64 0, .int .i64 0, .slice none 0 0]) ?_ 1 _ rfl; (with_reducible repeat first | apply bd | apply be | apply ba); refine blk_put (cs := #[.int .i64 0, .int .i64 0, .int .i64 0, .slice none 0 0]) ?_ 0 _ rfl; (with_reducible repeat first | apply bd | apply be | apply ba); exact BK509.out) Tryz.underlying29 rfl (by kernel_rfl)) rfl ?_
    exact ⟨_, by first | rfl | (simp [dE, dD] <;> rfl) | (simp [*, dE, dD] <;> rfl), by (with_reducible repeat (first | apply Kd.R_alloc | apply Kd.R_drewN | apply Kd.R_drew)); exact Kd.R_mono (Kd.R_far (p := ⟨gb509, 3, none⟩) (Kd.R_far (p := ⟨gb509, 2, none⟩) (Kd.R_far (p := ⟨gb509, 1, none⟩) (Kd.R_far (p := ⟨gb509, 0, none⟩) (Kd.R_types HO_511003.out BK509.out (by decide)) (fun _ hk => hk.2) (.int .i64 a0)) (fun _ hk => hk.2) (.int .i64 a1)) (fun _ hk => hk.2) (.int .i64 a2)) (fun _ hk => hk.2) (.slice Ao38 x511003_1.length co38)) (fun _ hk => trivial), bl2 HB.out GE509.out GE510.out⟩


-- NEED 1
/-! ### aX: function 8 -/
mutual
def aX.l0 : Nat → List Int → List Int → Bool → List (S31) → Int → Option ((List (S31)))
 |0, _, _, _, _, _ => none
 |k + 1, x0, x1, x2, x7, x8 => if (wrap64 (x8 + 1)) < (x0.length : Int) then (aX.l1 k x0 x1 x2 x7 x8 ([] : List Int) 0) else (some x7)
def aX.l1 : Nat → List Int → List Int → Bool → List (S31) → Int → List Int → Int → Option ((List (S31)))
 |0, _, _, _, _, _, _, _ => none
 |k + 1, x0, x1, x2, x7, x8, x9, x10 => if x10 < (x1.length : Int) then (if 0 ≤ x10 then (if x9.length < 35184372088832 then (aX.l1 k x0 x1 x2 x7 x8 (x9 ++ [((rd x1 x10) + ((((x8) % 4294967296) * 77) % 4294967296)) % 4294967296]) (wrap64 (x10 + 1))) else (none)) else (none)) else (if 0 ≤ (wrap64 (x8 + 1)) then (if (wrap64 (x8 + 1)) < (x0.length : Int) then (if 0 ≤ x8 then (if x8 < (x0.length : Int) then ((aG.f k (rd x0 (wrap64 (x8 + 1))) (rd x0 x8) 2 x9 x2).bind fun bt526 => ((aG.f k 1 (rd x0 (wrap64 (x8 + 1))) 2 x9 x2).bind fun bt533 => (if x7.length < 1466015503701 then (aX.l0 k x0 x1 x2 (x7 ++ [(⟨(⟨bt526.1, bt526.2.1, bt526.2.2.1, bt526.2.2.2⟩ : S29), (⟨bt533.1, bt533.2.1, bt533.2.2.1, bt533.2.2.2⟩ : S29)⟩ : S31)]) (wrap64 (x8 + 1))) else (none)))) else (none)) else (none)) else (none)) else (none))
end
def aX.f (k : Nat) (l0 l1 : List Int) (a2 : Bool) : Option ((List (S31))) := aX.l0 k l0 l1 a2 ([] : List (S31)) 0
def aX.T10 : Bool × List (List Nat × List Nat) := (true, [([], []), ([], []), ([], []), ([2], [2]), ([1, 3], [1, 3]), ([4], [4]), ([], []), ([], []), ([6, 7], [6, 7]), ([8], [8]), ([], []), ([], []), ([5, 9, 10, 11], [5, 9, 10, 11]), ([], []), ([], []), ([14], [14]), ([13, 15], [13, 15]), ([16], [16]), ([], []), ([], []), ([17, 18, 19, 12], [17, 18, 19]), ([12, 20], [12, 20]), ([21], [21]), ([0, 22, 20], [0, 22]), ([23, 23, 0, 1, 2, 3, 4, 5, 6, 7, 8, 9, 10, 11, 12, 13, 14, 15, 16, 17, 18, 19, 20, 21, 22, 23], [0, 23])])
def aX.B10 : List Nat := [0, 0, 0, 4, 14, 30, 0, 0, 192, 448, 0, 0, 4094, 0, 0, 16384, 57344, 122880, 0, 0, 1048574, 2097150, 4194302, 8388607, 16777215]
theorem aX.tab10 : rtab .any (opsOf Tryz.f8 10) = aX.T10 := by kernel_rfl
theorem aX.aAX : waitsOk aX.T10.2 aX.B10 = true := by kernel_rfl
theorem aX.calls (k : Nat) (A0 : Option Addr) (c0 : Nat) (l0 : List Int) (A1 : Option Addr) (c1 : Nat) (l1 : List Int) (a2 : Bool) (r : List (S31)) (w : World) (hr0 : Kd.C (Kd.int .i64) w A0 l0.length l0) (hc0 : l0.length ≤ c0) (hr1 : Kd.C (Kd.int .u32) w A1 l1.length l1) (hc1 : l1.length ≤ c1) (h : aX.f k l0 l1 a2 = some r) :
  Calls Tryz.prog 8 #[.slice A0 l0.length c0, .slice A1 l1.length c1, .bool a2] w fun e w' => ∃ v0_ : Value, e = .returned (v0_) ∧ Kd.S k31 31 w' w.heap.size (fun _ => True) v0_ r ∧ Below w.heap.size w w' := by
 have hu31 := Tryz.underlying31
 have HR0 := Aside0.mk hr0
 have HC0 := Aside0.mk hc0
 clear hr0 hc0
 have HR1 := Aside0.mk hr1
 have HC1 := Aside0.mk hc1
 clear hr1 hc1
 have HB := Aside0.mk (Below.refl w.heap.size w)
 have H : (aX.l0 k l0 l1 a2 ([] : List (S31)) 0) = some r := h
 clear h
 have H' := Aside0.mk H
 clear H
 go_enter Tryz.func8, Tryz.ntmps8
 go_wp2
 go_loopg [7, 8] k (fun kq v7 v8 w' => ∃ (x7_1 : List (S31)) (x8_1 : Int), v8 = .int .i64 x8_1 ∧ Aside0 (aX.l0 kq l0 l1 a2 x7_1 x8_1 = some r) ∧ Aside0 (kq ≤ k) ∧ Aside0 (Kd.S k31 31 w' w.heap.size (fun _ => True) v7 x7_1) ∧ Aside0 (Below w.heap.size w w'))
 case atStart => exact ⟨(([] : List (S31))), (0), (gr_), H', ⟨Nat.le_refl _⟩, ⟨by first | exact Kd.S_nil _ _ _ _ _ | exact Kd.N_nil _ _ _ _ _ | exact Kd.V_nil _ _ _ _ _ | exact Kd.Q_nil _ _ _ _ _ | exact Kd.R_nil _ _ _ _ _⟩, ⟨bl0 HB.out⟩⟩
 case round =>
  clear H'
  try clear c1 p2
  obtain ⟨x7_1, x8_1, rfl, HA, HK1, HO_7, HB⟩ := hrel
  cases gk with
  |zero => exact absurd HA.out (by simp [aX.l0])
  |succ k1 =>
   have H := HA.out
   clear HA
   simp only [aX.l0] at H
   by_cases c4 : (wrap64 (x8_1 + 1)) < (l0.length : Int)
   ·rw [if_pos c4] at H
    have c4b0 : decide ((wrap64 (x8_1 + 1)) < (l0.length : Int)) = true := decide_eq_true c4
    clear c4
    have H' := Aside0.mk H
    clear H
    go_wp2
    go_loopg [9, 10] k1 (fun kq v9 v10 w' => ∃ (x9_2 : List Int) (x10_2 : Int), v10 = .int .i64 x10_2 ∧ Aside0 (aX.l1 kq l0 l1 a2 x7_1 x8_1 x9_2 x10_2 = some r) ∧ Aside0 (kq ≤ k1) ∧ Aside0 (Kd.S k31 31 w' w.heap.size (fun k_ => some k_ ≠ (v9 : Value).ownBlock) u7 x7_1) ∧ Aside0 (Kd.R (Kd.int .u32) 27 w' w.heap.size (fun _ => True) v9 x9_2) ∧ Aside0 (Below w.heap.size w w'))
    case atStart => exact ⟨(([] : List Int)), (0), (gr_), H', ⟨Nat.le_refl _⟩, ⟨by (with_reducible repeat (first | apply Kd.S_alloc | apply Kd.S_drewN | apply Kd.S_drew)); exact Kd.S_mono HO_7.out (fun _ hk => (by simp [Value.ownBlock]))⟩, ⟨by first | exact Kd.R_nil _ _ _ _ _ | exact Kd.N_nil _ _ _ _ _ | exact Kd.V_nil _ _ _ _ _ | exact Kd.Q_nil _ _ _ _ _ | exact Kd.S_nil _ _ _ _ _⟩, ⟨bl0 HB.out⟩⟩
    case round =>
     clear H'
     try clear c1 p2 c4 c4b0 p2
     obtain ⟨x9_2, x10_2, rfl, HA, HK2, HO_7, HO_9, HB⟩ := hrel
     cases gk with
     |zero => exact absurd HA.out (by simp [aX.l1])
     |succ k2 =>
      have H := HA.out
      clear HA
      simp only [aX.l1] at H
      by_cases c5 : x10_2 < (l1.length : Int)
      ·rw [if_pos c5] at H
       have c5b0 : decide (x10_2 < (l1.length : Int)) = true := decide_eq_true c5
       clear c5
       by_cases c6 : 0 ≤ x10_2
       ·rw [if_pos c6] at H
        have c6b0 : decide (0 ≤ x10_2) = true := decide_eq_true c6
        clear c6
        obtain ⟨ji7, hji7⟩ : ∃ j_ : Int, ((((x8_1) % 4294967296) * 77) % 4294967296) = j_ := ⟨_, rfl⟩
        replace H : (if x9_2.length < 35184372088832 then (aX.l1 k2 l0 l1 a2 x7_1 x8_1 (x9_2 ++ [((rd l1 x10_2) + (ji7)) % 4294967296]) (wrap64 (x10_2 + 1))) else (none)) = some r := by first | (rw [hji7] at H; exact H) | (simp only [hji7] at H ⊢; exact H)
        have hji7l : 0 ≤ ji7 := by rw [← hji7]; exact Int.emod_nonneg _ (by decide)
        have hji7h : ji7 ≤ 4294967295 := by have := Int.emod_lt_of_pos ((((x8_1) % 4294967296) * 77)) (show (0 : Int) < 4294967296 by decide); omega
        have hji7w : (IntKind.u32.wrap (((x8_1) % 4294967296) * 77)) = ji7 := (l7 _).trans hji7
        (try (have hji7_ := hji7; simp only [Int.add_emod_emod, Int.emod_add_emod, Int.sub_emod_emod, Int.emod_sub_emod] at hji7_))
        obtain ⟨ji8, hji8⟩ : ∃ j_ : Int, (((rd l1 x10_2) + (ji7)) % 4294967296) = j_ := ⟨_, rfl⟩
        replace H : (if x9_2.length < 35184372088832 then (aX.l1 k2 l0 l1 a2 x7_1 x8_1 (x9_2 ++ [ji8]) (wrap64 (x10_2 + 1))) else (none)) = some r := by first | (rw [hji8] at H; exact H) | (simp only [hji8] at H ⊢; exact H)
        have hji8l : 0 ≤ ji8 := by rw [← hji8]; exact Int.emod_nonneg _ (by decide)
        have hji8h : ji8 ≤ 4294967295 := by have := Int.emod_lt_of_pos (((rd l1 x10_2) + (ji7))) (show (0 : Int) < 4294967296 by decide); omega
        have hji8w : (IntKind.u32.wrap ((rd l1 x10_2) + (ji7))) = ji8 := (l7 _).trans hji8
        (try (have hji8_ := hji8; simp only [Int.add_emod_emod, Int.emod_add_emod, Int.sub_emod_emod, Int.emod_sub_emod] at hji8_))
        by_cases c9 : x9_2.length < 35184372088832
        ·rw [if_pos c9] at H
         have LMc9 := Aside0.mk c9
         clear c9
         obtain ⟨y521, hy521⟩ : ∃ y_ : List Int, y_ = (x9_2 ++ [ji8]) := ⟨_, rfl⟩
         replace H : (aX.l1 k2 l0 l1 a2 x7_1 x8_1 y521 (wrap64 (x10_2 + 1))) = some r := by first | (rw [hy521]; with_reducible exact H) | (have H2_ := (Option.bind_some _ _).symm.trans H; rw [hy521]; with_reducible exact H2_) | (have H2_ := (Option.bind_some _ _).symm.trans H; with_reducible exact H2_) | with_reducible exact H | (rw [hy521]; exact H) | exact H
         have Ny521 := Aside0.mk hy521
         clear hy521
         have H' := Aside0.mk H
         clear H
         have p520 : 0 ≤ (x10_2 : Int) := of_decide_eq_true (by first | (with_reducible assumption) | assumption)
         have q520 : x10_2 < (l1.length : Int) := of_decide_eq_true (by first | (with_reducible assumption) | assumption)
         obtain ⟨ad520, e520, hx520_0⟩ := Kd.at_int HR1.out x10_2 p520 q520
         cases e520
         replace hx520_0 := (HB.out.cell (World.block_lt_of_cell? w _ hx520_0)).trans hx520_0
         replace p520 := eq_true p520
         replace q520 := eq_true q520
         go_wp2_with (first | ((with_reducible refine gate_builtin (b := .append) (xs := #[.tmp 24, .tmp 33]) rfl ?_); at_builtin; refine Kd.R_append (Kd.int .u32) (w0 := w) w.heap.size rfl (.tmp 24) (.tmp 33) 22 27 (.int .u32 0) 4 rfl Tryz.underlying22 aAh rfl (by decide) (by omega) u9 x9_2 ji8 [.int .u32 ji8] (fun _ => True) (fun _ => False) rfl rfl ?aP (fun _ hk => hk.elim) ?aF ?aO ?aB ?aS ?aL ?_; (case aP => exact rfl); (case aB => exact (bl0 HB.out)); (case aF => exact (fun _ _ => trivial)); (case aO => exact (by (with_reducible repeat (first | apply Kd.R_alloc | apply Kd.R_drewN | apply Kd.R_drew)); exact HO_9.out)); (case aS => exact (below_size (bl0 HB.out))); (case aL => have := LMc9.out; omega); intro v522 w10 ho hb hg hat; rw [← Ny521.out] at ho; have n0_ := Aside0.mk (Kd.S_after (ok := (fun _ => True)) (by (with_reducible repeat (first | apply Kd.S_alloc | apply Kd.S_drewN | apply Kd.S_drew)); exact Kd.S_mono HO_7.out (fun _ hk => ⟨trivial, hk⟩)) hg hat); have n1_ := Aside0.mk (hb); have n2_ := Aside0.mk (ho); clear HO_7; clear HB; clear HO_9; have HO_7 := n0_; have HB := n1_; have HO523 := n2_; clear n0_ n1_ n2_; clear ho hb hg hat))
         (try subst hji8)
         (try subst hji7)
         go_roundg k2
         case measure => have := HK1.out; have := HK2.out; omega
         case rel => exact ⟨(y521), (wrap64 (x10_2 + 1)), (gr_), H', ⟨by have := HK1.out; have := HK2.out; omega⟩, ⟨by (with_reducible repeat (first | apply Kd.S_alloc | apply Kd.S_drewN | apply Kd.S_drew)); exact Kd.S_mono HO_7.out (fun _ hk => hk.2)⟩, ⟨by (with_reducible repeat (first | apply Kd.R_alloc | apply Kd.R_drewN | apply Kd.R_drew)); exact HO523.out⟩, ⟨bl0 HB.out⟩⟩
        ·rw [if_neg c9] at H
         exact absurd H (by simp)
       ·rw [if_neg c6] at H
        exact absurd H (by simp)
      ·rw [if_neg c5] at H
       have c5b0 : decide (x10_2 < (l1.length : Int)) = false := decide_eq_false c5
       clear c5
       obtain ⟨ji11, hji11⟩ : ∃ j_ : Int, (wrap64 (x8_1 + 1)) = j_ := ⟨_, rfl⟩
       replace H : (if 0 ≤ (ji11) then (if (ji11) < (l0.length : Int) then (if 0 ≤ x8_1 then (if x8_1 < (l0.length : Int) then ((aG.f k2 (rd l0 (ji11)) (rd l0 x8_1) 2 x9_2 a2).bind fun bt526 => ((aG.f k2 1 (rd l0 (ji11)) 2 x9_2 a2).bind fun bt533 => (if x7_1.length < 1466015503701 then (aX.l0 k2 l0 l1 a2 (x7_1 ++ [(⟨(⟨bt526.1, bt526.2.1, bt526.2.2.1, bt526.2.2.2⟩ : S29), (⟨bt533.1, bt533.2.1, bt533.2.2.1, bt533.2.2.2⟩ : S29)⟩ : S31)]) ji11) else (none)))) else (none)) else (none)) else (none)) else (none)) = some r := by first | (rw [hji11] at H; exact H) | (simp only [hji11] at H ⊢; exact H)
       (try rw [hji11] at c4b0)
       have hji11w : (IntKind.i64.wrap (x8_1 + 1)) = ji11 := (i64_w _).trans hji11
       by_cases c12 : 0 ≤ (ji11)
       ·rw [if_pos c12] at H
        have c12b0 : decide (0 ≤ (ji11)) = true := decide_eq_true c12
        clear c12
        by_cases c13 : (ji11) < (l0.length : Int)
        ·rw [if_pos c13] at H
         have c13b0 : decide ((ji11) < (l0.length : Int)) = true := decide_eq_true c13
         clear c13
         by_cases c14 : 0 ≤ x8_1
         ·rw [if_pos c14] at H
          have c14b0 : decide (0 ≤ x8_1) = true := decide_eq_true c14
          clear c14
          by_cases c15 : x8_1 < (l0.length : Int)
          ·rw [if_pos c15] at H
           have c15b0 : decide (x8_1 < (l0.length : Int)) = true := decide_eq_true c15
           clear c15
           replace H := bq_ H
           obtain ⟨⟨t526, t527, t528, t529⟩, A160, H⟩ := H
           replace H : ((aG.f k2 1 (rd l0 (ji11)) 2 x9_2 a2).bind fun bt533 => (if x7_1.length < 1466015503701 then (aX.l0 k2 l0 l1 a2 (x7_1 ++ [(⟨(⟨t526, t527, t528, t529⟩ : S29), (⟨bt533.1, bt533.2.1, bt533.2.2.1, bt533.2.2.2⟩ : S29)⟩ : S31)]) ji11) else (none))) = some r := H
           have A16 := Aside0.mk A160
           clear A160
           replace H := bq_ H
           obtain ⟨⟨t533, t534, t535, t536⟩, A170, H⟩ := H
           replace H : (if x7_1.length < 1466015503701 then (aX.l0 k2 l0 l1 a2 (x7_1 ++ [(⟨(⟨t526, t527, t528, t529⟩ : S29), (⟨t533, t534, t535, t536⟩ : S29)⟩ : S31)]) ji11) else (none)) = some r := H
           have A17 := Aside0.mk A170
           clear A170
           by_cases c18 : x7_1.length < 1466015503701
           ·rw [if_pos c18] at H
            have LMc18 := Aside0.mk c18
            clear c18
            obtain ⟨y539, hy539⟩ : ∃ y_ : List (S31), y_ = (x7_1 ++ [(⟨(⟨t526, t527, t528, t529⟩ : S29), (⟨t533, t534, t535, t536⟩ : S29)⟩ : S31)]) := ⟨_, rfl⟩
            replace H : (aX.l0 k2 l0 l1 a2 y539 ji11) = some r := by first | (rw [hy539]; with_reducible exact H) | (have H2_ := (Option.bind_some _ _).symm.trans H; rw [hy539]; with_reducible exact H2_) | (have H2_ := (Option.bind_some _ _).symm.trans H; with_reducible exact H2_) | with_reducible exact H | (rw [hy539]; exact H) | exact H
            have Ny539 := Aside0.mk hy539
            clear hy539
            have H' := Aside0.mk H
            clear H
            try go_wp2
            have n0_ := Aside0.mk (Kd.S_drew HO_7.out)
            have n1_ := Aside0.mk (Kd.R_drew HO_9.out)
            have n2_ := Aside0.mk (below_drew1 HB.out)
            clear HO_7
            clear HO_9
            clear HB
            have HO_7 := n0_
            have HO_9 := n1_
            have HB := n2_
            clear n0_ n1_ n2_
            have p524 : 0 ≤ ((ji11) : Int) := of_decide_eq_true (by first | (with_reducible assumption) | assumption)
            have q524 : (ji11) < (l0.length : Int) := of_decide_eq_true (by first | (with_reducible assumption) | assumption)
            obtain ⟨ad524, e524, hx524_0⟩ := Kd.at_int HR0.out (ji11) p524 q524
            have hw524_0 := hx524_0
            cases e524
            replace hx524_0 := (HB.out.cell (World.block_lt_of_cell? w _ hx524_0)).trans hx524_0
            replace p524 := eq_true p524
            replace q524 := eq_true q524
            have p525 : 0 ≤ (x8_1 : Int) := of_decide_eq_true (by first | (with_reducible assumption) | assumption)
            have q525 : x8_1 < (l0.length : Int) := of_decide_eq_true (by first | (with_reducible assumption) | assumption)
            obtain ⟨ad525, e525, hx525_0⟩ := Kd.at_int HR0.out x8_1 p525 q525
            have hw525_0 := hx525_0
            obtain rfl : ad524 = ad525 := (by injection e525)
            replace hx525_0 := (HB.out.cell (World.block_lt_of_cell? w _ hx525_0)).trans hx525_0
            replace p525 := eq_true p525
            replace q525 := eq_true q525
            have p532 : 0 ≤ ((ji11) : Int) := of_decide_eq_true (by first | (with_reducible assumption) | assumption)
            have q532 : (ji11) < (l0.length : Int) := of_decide_eq_true (by first | (with_reducible assumption) | assumption)
            obtain ⟨ad532, e532, hx532_0⟩ := Kd.at_int HR0.out (ji11) p532 q532
            have hw532_0 := hx532_0
            obtain rfl : ad524 = ad532 := (by injection e532)
            replace hx532_0 := (HB.out.cell (World.block_lt_of_cell? w _ hx532_0)).trans hx532_0
            replace p532 := eq_true p532
            replace q532 := eq_true q532
            obtain ⟨Ao20, co20, eo20⟩ := Kd.R_slice HO_9.out
            (first | subst eo20 | (injection eo20 with f1_ f2_ f3_; have f4_ := f1_.symm; have f5_ := f3_.symm; clear f1_ f2_ f3_; subst f4_; subst f5_))
            refine start_ (n := 25) (S := fun w' => w'.cell? (ad524.add ((ji11)).toNat) = some (.int .i64 (rd l0 (ji11))) ∧ w'.cell? (ad524.add (x8_1).toNat) = some (.int .i64 (rd l0 x8_1)) ∧ w'.cell? (ad524.add ((ji11)).toNat) = some (.int .i64 (rd l0 (ji11)))) (ds := []) (tf 0 25) (by kernel_rfl) rfl rfl ⟨((HB.out.cell (World.block_lt_of_cell? w _ hw524_0)).trans hw524_0), ((HB.out.cell (World.block_lt_of_cell? w _ hw525_0)).trans hw525_0), ((HB.out.cell (World.block_lt_of_cell? w _ hw532_0)).trans hw532_0)⟩ (fun hHeld => ?_); refine with_tabW aX.tab10 aX.aAX (fun HT_ HW_ => ?_)
            generalize wr.drew = w19 at HO_7 HO_9 HB hx524_0 hx525_0 hx532_0 hHeld ⊢
            refine pure_ (i := 0) (N := some 35) (v := ?_) (a' := ?_) (tf 1 24) rfl rfl (any_of HT_.out (by kernel_rfl)) (fun _ _ _ h => h) (Or.inl ⟨by rfl, ?_⟩) ?_ ?_
            rotate_left
            ·intro w'
             go_simp
             with_reducible rfl
            rotate_left
            ·simp only [Act.put, sb, sz, ss, i64_w, i32_w]
             rfl
            refine pure_ (i := 1) (N := some 36) (v := ?_) (a' := ?_) (tf 2 23) rfl rfl (any_of HT_.out (by kernel_rfl)) (fun _ _ _ h => h) (Or.inl ⟨by rfl, ?_⟩) ?_ ?_
            rotate_left
            ·intro w'
             go_simp
             with_reducible rfl
            rotate_left
            ·simp only [Act.put, sb, sz, ss, i64_w, i32_w]
             rfl
            refine pure_ (i := 2) (N := some 37) (v := ?_) (a' := ?_) (tf 3 22) rfl rfl (any_of HT_.out (by kernel_rfl)) (fun _ _ _ h => h) (Or.inl ⟨by rfl, ?_⟩) ?_ ?_
            rotate_left
            ·intro w'
             go_simp
             with_reducible rfl
            rotate_left
            ·simp only [Act.put, sb, sz, ss, i64_w, i32_w]
             rfl
            refine pure_ (i := 3) (N := some 38) (v := ?_) (a' := ?_) (tf 4 21) rfl rfl (any_of HT_.out (by kernel_rfl)) (fun _ _ _ h => h) (Or.inl ⟨by rfl, ?_⟩) ?_ ?_
            rotate_left
            ·intro w'
             go_simp
             with_reducible rfl
            rotate_left
            ·simp only [Act.put, sb, sz, ss, i64_w, i32_w]
             rfl
            refine pure_ (i := 4) (N := some 39) (v := ?_) (a' := ?_) (tf 5 20) rfl rfl (any_of HT_.out (by kernel_rfl)) (fun _ _ _ h => h) (Or.inl ⟨by rfl, ?_⟩) ?_ ?_
            rotate_left
            ·intro w'
             go_simp
             with_reducible rfl
            rotate_left
            ·simp only [Act.put, sb, sz, ss, i64_w, i32_w]
             rfl
            refine pure_ (i := 6) (N := some 41) (v := ?_) (a' := ?_) #[true, true, true, true, true, false, true, false, false, false, false, false, false, false, false, false, false, false, false, false, false, false, false, false, false] rfl rfl (any_of HT_.out (by kernel_rfl)) (fun _ _ _ h => h) (Or.inl ⟨by rfl, ?_⟩) ?_ ?_
            rotate_left
            ·intro w'
             go_simp
             with_reducible rfl
            rotate_left
            ·simp only [Act.put, sb, sz, ss, i64_w, i32_w]
             rfl
            refine pure_ (i := 7) (N := some 42) (v := ?_) (a' := ?_) #[true, true, true, true, true, false, true, true, false, false, false, false, false, false, false, false, false, false, false, false, false, false, false, false, false] rfl rfl (any_of HT_.out (by kernel_rfl)) (fun _ _ _ h => h) (Or.inl ⟨by rfl, ?_⟩) ?_ ?_
            rotate_left
            ·intro w'
             go_simp
             with_reducible rfl
            rotate_left
            ·simp only [Act.put, sb, sz, ss, i64_w, i32_w]
             rfl
            refine pure_ (i := 8) (N := some 43) (v := ?_) (a' := ?_) #[true, true, true, true, true, false, true, true, true, false, false, false, false, false, false, false, false, false, false, false, false, false, false, false, false] rfl rfl (any_of HT_.out (by kernel_rfl)) (fun _ _ _ h => h) (Or.inl ⟨by rfl, ?_⟩) ?_ ?_
            rotate_left
            ·intro w'
             go_simp
             with_reducible rfl
            rotate_left
            ·simp only [Act.put, sb, sz, ss, i64_w, i32_w]
             rfl
            refine pure_ (i := 10) (N := some 45) (v := ?_) (a' := ?_) #[true, true, true, true, true, false, true, true, true, false, true, false, false, false, false, false, false, false, false, false, false, false, false, false, false] rfl rfl (any_of HT_.out (by kernel_rfl)) (fun _ _ _ h => h) (Or.inl ⟨by rfl, ?_⟩) ?_ ?_
            rotate_left
            ·intro w'
             go_simp
             with_reducible rfl
            rotate_left
            ·simp only [Act.put, sb, sz, ss, i64_w, i32_w]
             rfl
            refine pure_ (i := 11) (N := some 46) (v := ?_) (a' := ?_) #[true, true, true, true, true, false, true, true, true, false, true, true, false, false, false, false, false, false, false, false, false, false, false, false, false] rfl rfl (any_of HT_.out (by kernel_rfl)) (fun _ _ _ h => h) (Or.inl ⟨by rfl, ?_⟩) ?_ ?_
            rotate_left
            ·intro w'
             go_simp
             with_reducible rfl
            rotate_left
            ·simp only [Act.put, sb, sz, ss, i64_w, i32_w]
             rfl
            refine pure_ (i := 13) (N := some 48) (v := ?_) (a' := ?_) #[true, true, true, true, true, false, true, true, true, false, true, true, false, true, false, false, false, false, false, false, false, false, false, false, false] rfl rfl (any_of HT_.out (by kernel_rfl)) (fun _ _ _ h => h) (Or.inl ⟨by rfl, ?_⟩) ?_ ?_
            rotate_left
            ·intro w'
             go_simp
             with_reducible rfl
            rotate_left
            ·simp only [Act.put, sb, sz, ss, i64_w, i32_w]
             rfl
            refine pure_ (i := 14) (N := some 49) (v := ?_) (a' := ?_) #[true, true, true, true, true, false, true, true, true, false, true, true, false, true, true, false, false, false, false, false, false, false, false, false, false] rfl rfl (any_of HT_.out (by kernel_rfl)) (fun _ _ _ h => h) (Or.inl ⟨by rfl, ?_⟩) ?_ ?_
            rotate_left
            ·intro w'
             go_simp
             with_reducible rfl
            rotate_left
            ·simp only [Act.put, sb, sz, ss, i64_w, i32_w]
             rfl
            refine pure_ (i := 15) (N := some 50) (v := ?_) (a' := ?_) #[true, true, true, true, true, false, true, true, true, false, true, true, false, true, true, true, false, false, false, false, false, false, false, false, false] rfl rfl (any_of HT_.out (by kernel_rfl)) (fun _ _ _ h => h) (Or.inl ⟨by rfl, ?_⟩) ?_ ?_
            rotate_left
            ·intro w'
             go_simp
             with_reducible rfl
            rotate_left
            ·simp only [Act.put, sb, sz, ss, i64_w, i32_w]
             rfl
            refine pure_ (i := 16) (N := some 51) (v := ?_) (a' := ?_) #[true, true, true, true, true, false, true, true, true, false, true, true, false, true, true, true, true, false, false, false, false, false, false, false, false] rfl rfl (any_of HT_.out (by kernel_rfl)) (fun _ _ _ h => h) (Or.inl ⟨by rfl, ?_⟩) ?_ ?_
            rotate_left
            ·intro w'
             go_simp
             with_reducible rfl
            rotate_left
            ·simp only [Act.put, sb, sz, ss, i64_w, i32_w]
             rfl
            refine pure_ (i := 18) (N := some 53) (v := ?_) (a' := ?_) #[true, true, true, true, true, false, true, true, true, false, true, true, false, true, true, true, true, false, true, false, false, false, false, false, false] rfl rfl (any_of HT_.out (by kernel_rfl)) (fun _ _ _ h => h) (Or.inl ⟨by rfl, ?_⟩) ?_ ?_
            rotate_left
            ·intro w'
             go_simp
             with_reducible rfl
            rotate_left
            ·simp only [Act.put, sb, sz, ss, i64_w, i32_w]
             rfl
            refine pure_ (i := 19) (N := some 54) (v := ?_) (a' := ?_) #[true, true, true, true, true, false, true, true, true, false, true, true, false, true, true, true, true, false, true, true, false, false, false, false, false] rfl rfl (any_of HT_.out (by kernel_rfl)) (fun _ _ _ h => h) (Or.inl ⟨by rfl, ?_⟩) ?_ ?_
            rotate_left
            ·intro w'
             go_simp
             with_reducible rfl
            rotate_left
            ·simp only [Act.put, sb, sz, ss, i64_w, i32_w]
             rfl
            refine take_ (i := 5) (N := some 40) (v := ?_) (a' := ?_) #[true, true, true, true, true, true, true, true, true, false, true, true, false, true, true, true, true, false, true, true, false, false, false, false, false] rfl rfl (take_ofW HT_.out HW_.out (by kernel_rfl)) (fun _ _ _ h => h) (Or.inl ⟨by rfl, ?_⟩) hHeld ?_ ?_
            rotate_left
            ·rintro w' ⟨s0, s1, s2⟩
             go_simp
             with_reducible rfl
            rotate_left
            ·simp only [Act.put, sb, sz, ss, i64_w, i32_w]
             rfl
            refine take_ (i := 9) (N := some 44) (v := ?_) (a' := ?_) #[true, true, true, true, true, true, true, true, true, true, true, true, false, true, true, true, true, false, true, true, false, false, false, false, false] rfl rfl (take_ofW HT_.out HW_.out (by kernel_rfl)) (fun _ _ _ h => h) (Or.inl ⟨by rfl, ?_⟩) hHeld ?_ ?_
            rotate_left
            ·rintro w' ⟨s0, s1, s2⟩
             go_simp
             with_reducible rfl
            rotate_left
            ·simp only [Act.put, sb, sz, ss, i64_w, i32_w]
             rfl
            refine take_ (i := 17) (N := some 52) (v := ?_) (a' := ?_) #[true, true, true, true, true, true, true, true, true, true, true, true, false, true, true, true, true, true, true, true, false, false, false, false, false] rfl rfl (take_ofW HT_.out HW_.out (by kernel_rfl)) (fun _ _ _ h => h) (Or.inl ⟨by rfl, ?_⟩) hHeld ?_ ?_
            rotate_left
            ·rintro w' ⟨s0, s1, s2⟩
             go_simp
             with_reducible rfl
            rotate_left
            ·simp only [Act.put, sb, sz, ss, i64_w, i32_w]
             rfl
            refine one_ (i := 12) (N := some 47) (tf 20 5) rfl rfl (one_of HT_.out (by kernel_rfl)) (by decide) (fun K hK => ?_)
            refine goes_ Tryz.func33 (by kernel_rfl) rfl #[.int .i64 (rd l0 (ji11)), .int .i64 (rd l0 x8_1), .int .i64 2, .slice Ao20 x9_2.length co20, .bool a2] (by rfl) rfl rfl (by (try simp only [List.map_toArray, List.map_cons, List.map_nil]); first | done | (simp only [hji11]; rfl) | rfl | (simp only [List.length_drop, List.length_take]; rfl)) ?_
            with_reducible refine (aG.calls k2 (rd l0 (ji11)) (rd l0 x8_1) 2 _ _ x9_2 a2 t526 t527 t528 t529 _ ?side1 ?side2 A16.out).mono ?_
            (case side1 => repeat (first | exact (Kd.R_reads' HO_9.out).2.2 | (with_reducible refine Kd.C_alloc ?_ _) | (with_reducible refine Kd.C_drewN ?_ _) | (with_reducible refine Kd.C_drew ?_)))
            (case side2 => exact (Kd.R_reads' HO_9.out).2.1)
            rintro e w21 ⟨v530, rfl, ho0, hb⟩
            refine ⟨_, rfl, ?_⟩
            have n0_ := Aside0.mk (Kd.S_elder' (by (with_reducible repeat (first | apply Kd.S_alloc | apply Kd.S_drewN | apply Kd.S_drew)); exact HO_7.out) (Kd.R_base ho0) hb)
            have n1_ := Aside0.mk (Kd.R_elder' (by (with_reducible repeat (first | apply Kd.R_alloc | apply Kd.R_drewN | apply Kd.R_drew)); exact HO_9.out) (Kd.R_base ho0) hb)
            have n2_ := Aside0.mk (Kd.R_lower (Kd.R_new' ho0 (Kd.R_lt (by (with_reducible repeat (first | apply Kd.R_alloc | apply Kd.R_drewN | apply Kd.R_drew)); exact HO_9.out))) (below_size (bl0 HB.out)))
            have n3_ := Aside0.mk (below_step (bl0 HB.out) hb)
            clear HO_7
            clear HO_9
            clear HB
            have HO_7 := n0_
            have HO_9 := n1_
            have HO531 := n2_
            have HB := n3_
            clear n0_ n1_ n2_ n3_
            (try clear hb)
            (try clear hb2)
            (try clear hk)
            (try clear hi)
            (try clear ho0)
            refine hK.out _ _ ⟨((HB.out.cell (World.block_lt_of_cell? w _ hw524_0)).trans hw524_0), ((HB.out.cell (World.block_lt_of_cell? w _ hw525_0)).trans hw525_0), ((HB.out.cell (World.block_lt_of_cell? w _ hw532_0)).trans hw532_0)⟩ (fun hHeld => ?_)
            clear hK K
            refine norm_ (a' := ?_) ?_ ?_
            rotate_left
            ·show Act.put _ (some 47) _ = _
             simp only [Act.put, sb, sz, ss, i64_w, i32_w]
             rfl
            refine one_ (i := 20) (N := some 55) (tf 21 4) rfl rfl (one_of HT_.out (by kernel_rfl)) (by decide) (fun K hK => ?_)
            refine goes_ Tryz.func33 (by kernel_rfl) rfl #[.int .i64 1, .int .i64 (rd l0 (ji11)), .int .i64 2, .slice Ao20 x9_2.length co20, .bool a2] (by rfl) rfl rfl (by (try simp only [List.map_toArray, List.map_cons, List.map_nil]); first | done | (simp only [hji11]; rfl) | rfl | (simp only [List.length_drop, List.length_take]; rfl)) ?_
            with_reducible refine (aG.calls k2 1 (rd l0 (ji11)) 2 _ _ x9_2 a2 t533 t534 t535 t536 _ ?side1 ?side2 A17.out).mono ?_
            (case side1 => repeat (first | exact (Kd.R_reads' HO_9.out).2.2 | (with_reducible refine Kd.C_alloc ?_ _) | (with_reducible refine Kd.C_drewN ?_ _) | (with_reducible refine Kd.C_drew ?_)))
            (case side2 => exact (Kd.R_reads' HO_9.out).2.1)
            rintro e w22 ⟨v537, rfl, ho0, hb⟩
            refine ⟨_, rfl, ?_⟩
            have n0_ := Aside0.mk (Kd.S_elder' (by (with_reducible repeat (first | apply Kd.S_alloc | apply Kd.S_drewN | apply Kd.S_drew)); exact HO_7.out) (Kd.R_base ho0) hb)
            have n1_ := Aside0.mk (Kd.R_elder' (by (with_reducible repeat (first | apply Kd.R_alloc | apply Kd.R_drewN | apply Kd.R_drew)); exact HO_9.out) (Kd.R_base ho0) hb)
            have n2_ := Aside0.mk (Kd.R_elder' (by (with_reducible repeat (first | apply Kd.R_alloc | apply Kd.R_drewN | apply Kd.R_drew)); exact HO531.out) (Kd.R_base ho0) hb)
            have n3_ := Aside0.mk (Kd.R_lower (Kd.R_new' (Kd.R_new' ho0 (Kd.R_lt (by (with_reducible repeat (first | apply Kd.R_alloc | apply Kd.R_drewN | apply Kd.R_drew)); exact HO_9.out))) (Kd.R_lt (by (with_reducible repeat (first | apply Kd.R_alloc | apply Kd.R_drewN | apply Kd.R_drew)); exact HO531.out))) (below_size (bl0 HB.out)))
            have n4_ := Aside0.mk (below_step (bl0 HB.out) hb)
            clear HO_7
            clear HO_9
            clear HO531
            clear HB
            have HO_7 := n0_
            have HO_9 := n1_
            have HO531 := n2_
            have HO538 := n3_
            have HB := n4_
            clear n0_ n1_ n2_ n3_ n4_
            (try clear hb)
            (try clear hb2)
            (try clear hk)
            (try clear hi)
            (try clear ho0)
            obtain ⟨Ao23, co23, eo23⟩ := Kd.R_slice HO538.out
            (first | subst eo23 | (injection eo23 with f1_ f2_ f3_; have f4_ := f1_.symm; have f5_ := f3_.symm; clear f1_ f2_ f3_; subst f4_; subst f5_))
            obtain ⟨Ao24, co24, eo24⟩ := Kd.R_slice HO531.out
            (first | subst eo24 | (injection eo24 with f1_ f2_ f3_; have f4_ := f1_.symm; have f5_ := f3_.symm; clear f1_ f2_ f3_; subst f4_; subst f5_))
            refine hK.out _ _ ⟨((HB.out.cell (World.block_lt_of_cell? w _ hw524_0)).trans hw524_0), ((HB.out.cell (World.block_lt_of_cell? w _ hw525_0)).trans hw525_0), ((HB.out.cell (World.block_lt_of_cell? w _ hw532_0)).trans hw532_0)⟩ (fun hHeld => ?_)
            clear hK K
            refine norm_ (a' := ?_) ?_ ?_
            rotate_left
            ·show Act.put _ (some 55) _ = _
             simp only [Act.put, sb, sz, ss, i64_w, i32_w]
             rfl
            refine pure_ (i := 21) (N := some 56) (v := ?_) (a' := ?_) (tf 22 3) rfl rfl (any_of HT_.out (by kernel_rfl)) (fun _ _ _ h => h) (Or.inl ⟨by rfl, ?_⟩) ?_ ?_
            rotate_left
            ·intro w'
             go_simp
             with_reducible rfl
            rotate_left
            ·simp only [Act.put, sb, sz, ss, i64_w, i32_w]
             rfl
            refine one_ (i := 22) (N := some 57) (tf 23 2) rfl rfl (one_of HT_.out (by kernel_rfl)) (by decide) (fun K hK => ?_)
            refine value_ (w1 := ?_) (v := ?_) (by rfl) rfl ?_ ?_
            rotate_left 2
            ·go_simp
             constructor
             ·rfl
             ·rfl
            refine hK.out _ _ ⟨(World.cell?_alloc_lt _ _ _ (World.block_lt_of_cell? _ _ (((HB.out.cell (World.block_lt_of_cell? w _ hw524_0)).trans hw524_0)))).trans (((HB.out.cell (World.block_lt_of_cell? w _ hw524_0)).trans hw524_0)), (World.cell?_alloc_lt _ _ _ (World.block_lt_of_cell? _ _ (((HB.out.cell (World.block_lt_of_cell? w _ hw525_0)).trans hw525_0)))).trans (((HB.out.cell (World.block_lt_of_cell? w _ hw525_0)).trans hw525_0)), (World.cell?_alloc_lt _ _ _ (World.block_lt_of_cell? _ _ (((HB.out.cell (World.block_lt_of_cell? w _ hw532_0)).trans hw532_0)))).trans (((HB.out.cell (World.block_lt_of_cell? w _ hw532_0)).trans hw532_0))⟩ (fun hHeld => ?_)
            clear hK K
            refine norm_ (a' := ?_) ?_ ?_
            rotate_left
            ·show Act.put _ (some 57) _ = _
             simp only [Act.put, sb, sz, ss, i64_w, i32_w]
             rfl
            refine one_ (i := 23) (N := some 58) (tf 24 1) rfl rfl (one_of HT_.out (by kernel_rfl)) (by decide) (fun K hK => ?_)
            refine Kd.S_append_step k31 (w0 := w) w.heap.size (by rfl) (.tmp 35) (.tmp 57) 24 31 (.agg #[(.int .i64 0), (.int .i64 0), (.int .i64 0), (.slice none 0 0), (.int .i64 0), (.int .i64 0), (.int .i64 0), (.slice none 0 0)]) 96 rfl Tryz.underlying24 info31 rfl (by decide) (by omega) u7 x7_1 (⟨(⟨t526, t527, t528, t529⟩ : S29), (⟨t533, t534, t535, t536⟩ : S29)⟩ : S31) [.int .i64 t526, .int .i64 t527, .int .i64 t528, .slice Ao24 t529.length co24, .int .i64 t533, .int .i64 t534, .int .i64 t535, .slice Ao23 t536.length co23] (fun k_ => some k_ ≠ (.slice Ao20 x9_2.length co20 : Value).ownBlock) (fun k_ => some k_ = (.slice Ao24 t529.length co24 : Value).ownBlock ∨ some k_ = (.slice Ao23 t536.length co23 : Value).ownBlock) rfl rfl ?aP (fun k_ hk_ => hk_.elim (fun h_ => ((Kd.R_mono (ok' := fun k_ => ((fun k_ => some k_ ≠ (.slice Ao20 x9_2.length co20 : Value).ownBlock)) k_ ∧ some k_ ≠ (u7 : Value).ownBlock) (Kd.R_apart' (HO531.out) (Kd.S_typed HO_7.out) (by decide)) (fun k_ hk => ⟨hk.1.1.2, hk.2⟩))).1 k_ h_.symm) (fun h_ => ((Kd.R_mono (ok' := fun k_ => ((fun k_ => some k_ ≠ (.slice Ao20 x9_2.length co20 : Value).ownBlock)) k_ ∧ some k_ ≠ (u7 : Value).ownBlock) (Kd.R_apart' (HO538.out) (Kd.S_typed HO_7.out) (by decide)) (fun k_ hk => ⟨hk.1.1.2, hk.2⟩))).1 k_ h_.symm)) ?aF ?aO ?aB ?aS ?aL ?_
            (case aP => exact k31_mkM _ _ _ (⟨(⟨t526, t527, t528, t529⟩ : S29), (⟨t533, t534, t535, t536⟩ : S29)⟩ : S31) (Kd.R_mono (Kd.R_tight rfl (Kd.R_mono (ok' := fun k_ => ((fun k_ => some k_ ≠ (.slice Ao20 x9_2.length co20 : Value).ownBlock)) k_ ∧ some k_ ≠ (u7 : Value).ownBlock) (Kd.R_apart' (HO531.out) (Kd.S_typed HO_7.out) (by decide)) (fun k_ hk => ⟨hk.1.1.2, hk.2⟩))) (fun _ h_ => Or.inl h_)) (Kd.R_mono (Kd.R_tight rfl (Kd.R_mono (ok' := fun k_ => ((fun k_ => some k_ ≠ (.slice Ao20 x9_2.length co20 : Value).ownBlock)) k_ ∧ some k_ ≠ (u7 : Value).ownBlock) (Kd.R_apart' (HO538.out) (Kd.S_typed HO_7.out) (by decide)) (fun k_ hk => ⟨hk.1.1.2, hk.2⟩))) (fun _ h_ => Or.inr (h_))))
            (case aB => exact (bl0 HB.out))
            (case aF => exact (fun k_ hk => Kd.fresh' (Kd.R_lt (by (with_reducible repeat (first | apply Kd.R_alloc | apply Kd.R_drewN | apply Kd.R_drew)); exact HO_9.out)) k_ hk))
            (case aO => exact (by (with_reducible repeat (first | apply Kd.S_alloc | apply Kd.S_drewN | apply Kd.S_drew)); exact Kd.S_mono HO_7.out (fun k_ hk => ⟨hk.1.1, fun e_ => e_.elim (fun h_ => hk.1.2 h_) (fun h_ => hk.2 h_)⟩)))
            (case aS => exact (below_size (bl0 HB.out)))
            (case aL => have := LMc18.out; omega)
            intro v540 w25 ho hb hg hat
            rw [← Ny539.out] at ho
            have n0_ := Aside0.mk (Kd.R_over' (by (with_reducible repeat (first | apply Kd.R_alloc | apply Kd.R_drewN | apply Kd.R_drew)); exact HO_9.out) (Kd.S_typed (by (with_reducible repeat (first | apply Kd.S_alloc | apply Kd.S_drewN | apply Kd.S_drew)); exact HO_7.out)) (by decide) hg)
            have n1_ := Aside0.mk (hb)
            have n2_ := Aside0.mk (ho)
            clear HO_9
            clear HB
            clear HO_7
            clear HO531
            clear HO538
            have HO_9 := n0_
            have HB := n1_
            have HO541 := n2_
            clear n0_ n1_ n2_
            clear ho hb hg hat
            refine hK.out _ _ ⟨((HB.out.cell (World.block_lt_of_cell? w _ hw524_0)).trans hw524_0), ((HB.out.cell (World.block_lt_of_cell? w _ hw525_0)).trans hw525_0), ((HB.out.cell (World.block_lt_of_cell? w _ hw532_0)).trans hw532_0)⟩ (fun hHeld => ?_)
            clear hK K
            refine norm_ (a' := ?_) ?_ ?_
            rotate_left
            ·show Act.put _ (some 58) _ = _
             simp only [Act.put, sb, sz, ss, i64_w, i32_w]
             rfl
            refine pure_ (i := 24) (N := some 7) (v := ?_) (a' := ?_) (tf 25 0) rfl rfl (any_of HT_.out (by kernel_rfl)) (fun _ _ _ h => h) (Or.inl ⟨by rfl, ?_⟩) ?_ ?_
            rotate_left
            ·intro w'
             go_simp
             with_reducible rfl
            rotate_left
            ·simp only [Act.put, sb, sz, ss, i64_w, i32_w]
             rfl
            refine done_ (done_of HT_.out (by kernel_rfl)) ?_
            try go_wp2
            go_roundg k2
            case measure => have := HK1.out; have := HK2.out; omega
            case rel => exact ⟨(y539), (ji11), (by first | rfl | (simp; done) | (simp only [← hji11] <;> (first | rfl | (simp; done))) | (simp [*]; done) | (congr 1; (try unfold wrap64); omega) | (congr 1; rw [IntKind.wrap_u64]; omega)), H', ⟨by have := HK1.out; have := HK2.out; omega⟩, ⟨by (with_reducible repeat (first | apply Kd.S_alloc | apply Kd.S_drewN | apply Kd.S_drew)); exact Kd.S_mono HO541.out (fun _ hk => trivial)⟩, ⟨bl0 HB.out⟩⟩
           ·rw [if_neg c18] at H
            exact absurd H (by simp)
          ·rw [if_neg c15] at H
           exact absurd H (by simp)
         ·rw [if_neg c14] at H
          exact absurd H (by simp)
        ·rw [if_neg c13] at H
         exact absurd H (by simp)
       ·rw [if_neg c12] at H
        exact absurd H (by simp)
   ·rw [if_neg c4] at H
    have c4b0 : decide ((wrap64 (x8_1 + 1)) < (l0.length : Int)) = false := decide_eq_false c4
    clear c4
    obtain rfl := Option.some.inj H
    go_wp2
    go_ret
    exact ⟨_, by first | rfl | (simp [dE, dD] <;> rfl) | (simp [*, dE, dD] <;> rfl), by (with_reducible repeat (first | apply Kd.S_alloc | apply Kd.S_drewN | apply Kd.S_drew)); exact HO_7.out, bl0 HB.out⟩

end Go.Proofs.YtolpdiifmacdbaaGreat.P
