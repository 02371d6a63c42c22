import Derived.Test.YtolpdiifmacdbaaGreatQcoZ
import Derived.Test.YtolpdiifmacdbaaGreatQcoM5
-- Printed by a program of this session's out of Lean's print of the translation; Lean checks it.
set_option linter.unusedVariables false
set_option linter.unusedSimpArgs false
set_option maxRecDepth 100000
set_option maxHeartbeats 8000000
namespace Go.Proofs.YtolpdiifmacdbaaGreat.P
open Go.RowKit Go.Proofs.YtolpdiifmacdbaaGreatW.PrintWords Go.Proofs.YtolpdiifmacdbaaGreatW.PrintLast Go.Proofs.YtolpdiifmacdbaaGreatW.PrintMore
attribute [local go_sem] max2_int min2_int max_two min_two max_three min_three max_four min_four

-- NEED 0
/-! ### bH: function 138 -/
def bH.f (k : Nat) (a0 a1 : Int) : Option (Bool) := (aW.f k a0 a1).bind fun t187 => (some (t187 == 0))
theorem bH.mono : ∀ a0 a1 k, LeO (bH.f k a0 a1) (bH.f (k + 1) a0 a1) := by
 intro a0 a1 k
 unfold bH.f
 repeat' first
   |(with_reducible first|exact aW.mono _ _ _|exact LeO.refl _|exact LeO.none _|refine LeO.ite ?_ ?_|refine LeO.bind ?_ (fun _ => ?_))
   |exact aW.mono _ _ _
   |exact LeO.none _
   |refine LeO.ite ?_ ?_
   |refine LeO.bind ?_ (fun _ => ?_)
theorem bH.calls (k : Nat) (a0 a1 : Int) (r : Bool) (w : World) (h : bH.f k a0 a1 = some r) :
  Calls Tryz.prog 138 #[.int .i64 a0, .int .u32 a1] w fun e w' => e = .returned (.bool r) ∧ Drawn0 w w' := by
 have H : ((aW.f k a0 a1).bind fun t187 => (some (t187 == 0))) = some r := h
 clear h
 replace H := bq_ H
 obtain ⟨t187, A30, H⟩ := H
 replace H : (some (t187 == 0)) = some r := H
 have A3 := Aside0.mk A30
 clear A30
 obtain rfl := Option.some.inj H
 go_enter Tryz.func138, Tryz.ntmps138
 go_wp2_with (first | ((with_reducible refine gate_callee (f := 147) rfl ?_); refine goesL_ (some 7) rfl rfl Tryz.func147 (by kernel_rfl) rfl #[.int .i64 a0, .int .u32 a1] rfl gl ?_; (with_reducible refine (aW.calls k a0 a1 t187 _ A3.out).mono ?_); rintro e w' ⟨rfl, ⟨nd, rfl⟩⟩; refine ⟨_, rfl, ?_⟩))
 go_ret
 exact ⟨gr_, gd_⟩

-- NEED 0
/-! ### eT: function 140 -/
def eT.f (a0 : Int) : Option (Int × Bool × Bool × Bool × Bool × Bool) := (gK.f a0).bind fun t189 => (some (t189, true, false, false, false, false))
theorem eT.calls (a0 r1 : Int) (r2 r3 : Bool) (r4 r5 r6 : Bool) (w : World) (h : eT.f a0 = some (r1, r2, r3, r4, r5, r6)) :
  Calls Tryz.prog 140 #[.int .i64 a0] w fun e w' => e = .returned (.tuple #[.int .u32 r1, .agg #[.bool r2, .bool r3, .bool r4, .bool r5, .bool r6]]) ∧ Below w.heap.size w w' := by
 have hu62 := Tryz.underlying62
 have HB := Aside0.mk (Below.refl w.heap.size w)
 have H : ((gK.f a0).bind fun t189 => (some (t189, true, false, false, false, false))) = some (r1, r2, r3, r4, r5, r6) := h
 clear h
 replace H := bq_ H
 obtain ⟨t189, A20, H⟩ := H
 replace H : (some (t189, true, false, false, false, false)) = some (r1, r2, r3, r4, r5, r6) := H
 have A2 := Aside0.mk A20
 clear A20
 simp only [Option.some.injEq, Prod.mk.injEq] at H
 obtain ⟨rfl, rfl, rfl, rfl, rfl, rfl⟩ := H
 go_enter Tryz.func140, Tryz.ntmps140
 go_wp2_with (first | ((with_reducible refine gate_dst (N := 3) rfl ?_); refine box_event ?hg (N := 3) ?hd (cs := F5) (t := 62) ?hr ?_; (case hd => rfl); (case hg => rfl); (case hr => first | (go_simp; done) | (go_simp; rfl)); intro gb188 hg w3 hbox hb; have n0_ := Aside0.mk (below_step (bl0 HB.out) hb); have n1_ := Aside0.mk (hbox); have n2_ := Aside0.mk ((by rw [hg]; exact (below_size (bl0 HB.out)) : w.heap.size ≤ gb188)); have n3_ := n2_; clear HB; have HB := n0_; have BK188 := n1_; have GW188 := n2_; have GE188 := n3_; clear n0_ n1_ n2_ n3_; clear hb hbox hg) | ((with_reducible refine gate_callee (f := 170) rfl ?_); refine goesL_ (some 5) rfl rfl Tryz.func170 (by kernel_rfl) rfl #[.int .i64 a0] rfl gl ?_; (with_reducible refine (gK.calls a0 t189 _ A2.out).mono ?_); rintro e w' ⟨rfl, ⟨nd, rfl⟩⟩; refine ⟨_, rfl, ?_⟩; (try (rw [drewN_self w3]; generalize hq_ : World.drewN w3 _ = w3; have n0_ : Aside0 (w3.heap[gb188]? = some (o5_ false false false false false 62)) := ⟨by rw [← hq_]; exact (bv BK188.out)⟩; have n1_ : Aside0 (Below w.heap.size w w3) := ⟨by rw [← hq_]; exact (bl1 HB.out GE188.out)⟩; clear BK188 HB hq_; have BK188 := n0_; have HB := n1_; clear n0_ n1_)); obtain ⟨hcz4_0, hcz4_1, hcz4_2, hcz4_3, hcz4_4⟩ := bc5 BK188.out; obtain ⟨hfz4_0, hfz4_1, hfz4_2, hfz4_3, hfz4_4⟩ := bf5 BK188.out))
 refine bodyPost_ret (results_tc rfl _ _ gb188 62 #[.bool true, .bool false, .bool false, .bool false, .bool false] (0, 0) _ rfl (by (with_reducible repeat first | apply bd | apply be | apply ba); refine blk_put (cs := q5_ true false false false false) ?_ 4 _ rfl; (with_reducible repeat first | apply bd | apply be | apply ba); refine blk_put (cs := q5_ true false false false false) ?_ 3 _ rfl; (with_reducible repeat first | apply bd | apply be | apply ba); refine blk_put (cs := q5_ true false false false false) ?_ 2 _ rfl; (with_reducible repeat first | apply bd | apply be | apply ba); refine blk_put (cs := q5_ true false false false false) ?_ 1 _ rfl; (with_reducible repeat first | apply bd | apply be | apply ba); refine blk_put (cs := F5) ?_ 0 _ rfl; (with_reducible repeat first | apply bd | apply be | apply ba); exact BK188.out) Tryz.underlying62 rfl (by kernel_rfl)) rfl ?_
 exact ⟨by first | rfl | (simp [dE, dD] <;> rfl) | (simp [*, dE, dD] <;> rfl), bl1 HB.out GE188.out⟩

-- NEED 0
/-! ### aV: function 141 -/
def aV.f (k : Nat) (a0 a1 : Int) : Option (Bool) := (aW.f k a0 a1).bind fun t190 => (some (t190 == 3))
theorem aV.mono : ∀ a0 a1 k, LeO (aV.f k a0 a1) (aV.f (k + 1) a0 a1) := by
 intro a0 a1 k
 unfold aV.f
 repeat' first
   |(with_reducible first|exact aW.mono _ _ _|exact LeO.refl _|exact LeO.none _|refine LeO.ite ?_ ?_|refine LeO.bind ?_ (fun _ => ?_))
   |exact aW.mono _ _ _
   |exact LeO.none _
   |refine LeO.ite ?_ ?_
   |refine LeO.bind ?_ (fun _ => ?_)
theorem aV.calls (k : Nat) (a0 a1 : Int) (r : Bool) (w : World) (h : aV.f k a0 a1 = some r) :
  Calls Tryz.prog 141 #[.int .i64 a0, .int .u32 a1] w fun e w' => e = .returned (.bool r) ∧ Drawn0 w w' := by
 have H : ((aW.f k a0 a1).bind fun t190 => (some (t190 == 3))) = some r := h
 clear h
 replace H := bq_ H
 obtain ⟨t190, A30, H⟩ := H
 replace H : (some (t190 == 3)) = some r := H
 have A3 := Aside0.mk A30
 clear A30
 obtain rfl := Option.some.inj H
 go_enter Tryz.func141, Tryz.ntmps141
 go_wp2_with (first | ((with_reducible refine gate_callee (f := 147) rfl ?_); refine goesL_ (some 7) rfl rfl Tryz.func147 (by kernel_rfl) rfl #[.int .i64 a0, .int .u32 a1] rfl gl ?_; (with_reducible refine (aW.calls k a0 a1 t190 _ A3.out).mono ?_); rintro e w' ⟨rfl, ⟨nd, rfl⟩⟩; refine ⟨_, rfl, ?_⟩))
 go_ret
 exact ⟨gr_, gd_⟩

-- NEED 0
/-! ### dL: function 145 -/
def dL.l0 : Nat → Int → Int → Int → Option (Int × Bool)
 |0, _, _, _ => none
 |k + 1, x0, x4, x5 => if x5 > 0 then (if (IntKind.u64.wrap ((Go.bits .or .u64 x4 x5) * (Go.bits .or .u64 x4 x5))) ≤ x0 then (dL.l0 k x0 (Go.bits .or .u64 x4 x5) (x5 / 2)) else (dL.l0 k x0 x4 (x5 / 2))) else (some ((x4) % 4294967296, ((IntKind.u64.wrap (x4 * x4)) == x0)))
def dL.f (k : Nat) (a0 : Int) : Option (Int × Bool) := dL.l0 k a0 0 2147483648
theorem dL.eX : ∀ k, (∀ y0 y1 y2, LeO (dL.l0 k y0 y1 y2) (dL.l0 (k + 1) y0 y1 y2))
 |0 => fun _ _ _ r h => by simp [dL.l0] at h
 |k + 1 => by
  have ih0 := dL.eX k
  ·intro y0 y1 y2
   unfold dL.l0
   repeat' first
   |(with_reducible first|exact ih0 _ _ _|exact LeO.refl _|exact LeO.none _|refine LeO.ite ?_ ?_|refine LeO.bind ?_ (fun _ => ?_))
   |exact ih0 _ _ _
   |exact LeO.none _
   |refine LeO.ite ?_ ?_
   |refine LeO.bind ?_ (fun _ => ?_)
theorem dL.mono : ∀ a0 k, LeO (dL.f k a0) (dL.f (k + 1) a0) := by
 intro a0 k
 have ih0 := dL.eX k
 unfold dL.f
 repeat' first
   |(with_reducible first|exact ih0 _ _ _|exact LeO.refl _|exact LeO.none _|refine LeO.ite ?_ ?_|refine LeO.bind ?_ (fun _ => ?_))
   |exact ih0 _ _ _
   |exact LeO.none _
   |refine LeO.ite ?_ ?_
   |refine LeO.bind ?_ (fun _ => ?_)
theorem dL.calls (k : Nat) (a0 r1 : Int) (r2 : Bool) (w : World) (h : dL.f k a0 = some (r1, r2)) :
  Calls Tryz.prog 145 #[.int .u64 a0] w fun e w' => e = .returned (.tuple #[.int .u32 r1, .bool r2]) ∧ Drawn0 w w' := by
 have H : (dL.l0 k a0 0 2147483648) = some (r1, r2) := h
 clear h
 have H' := Aside0.mk H
 clear H
 go_enter Tryz.func145, Tryz.ntmps145
 go_wp2
 go_loopg [4, 5] k (fun kq v4 v5 w' => ∃ (x4_1 : Int) (x5_1 : Int), v4 = .int .u64 x4_1 ∧ v5 = .int .u64 x5_1 ∧ Aside0 (dL.l0 kq a0 x4_1 x5_1 = some (r1, r2)) ∧ Aside0 (kq ≤ k) ∧ Drawn0 w w')
 case atStart => exact ⟨(0), (2147483648), (gr_), (gr_), H', ⟨Nat.le_refl _⟩, gd_⟩
 case round =>
  clear H'
  try clear c1
  obtain ⟨x4_1, x5_1, rfl, rfl, HA, HK1, ⟨m1, rfl⟩⟩ := hrel
  cases gk with
  |zero => exact absurd HA.out (by simp [dL.l0])
  |succ k1 =>
   have H := HA.out
   clear HA
   simp only [dL.l0] at H
   by_cases c2 : x5_1 > 0
   ·rw [if_pos c2] at H
    have c2b0 : decide (0 < x5_1) = true := decide_eq_true c2
    clear c2
    by_cases c3 : (IntKind.u64.wrap ((Go.bits .or .u64 x4_1 x5_1) * (Go.bits .or .u64 x4_1 x5_1))) ≤ a0
    ·rw [if_pos c3] at H
     have c3b0 : decide ((IntKind.u64.wrap ((Go.bits .or .u64 x4_1 x5_1) * (Go.bits .or .u64 x4_1 x5_1))) ≤ a0) = true := decide_eq_true c3
     clear c3
     have H' := Aside0.mk H
     clear H
     go_wp2
     go_roundg k1
     case measure => have := HK1.out; omega
     case rel => exact ⟨(Go.bits .or .u64 x4_1 x5_1), (x5_1 / 2), (gr_), (gr_), H', ⟨by have := HK1.out; omega⟩, gd_⟩
    ·rw [if_neg c3] at H
     have c3b0 : decide ((IntKind.u64.wrap ((Go.bits .or .u64 x4_1 x5_1) * (Go.bits .or .u64 x4_1 x5_1))) ≤ a0) = false := decide_eq_false c3
     clear c3
     have H' := Aside0.mk H
     clear H
     go_wp2
     go_roundg k1
     case measure => have := HK1.out; omega
     case rel => exact ⟨(x4_1), (x5_1 / 2), (gr_), (gr_), H', ⟨by have := HK1.out; omega⟩, gd_⟩
   ·rw [if_neg c2] at H
    have c2b0 : decide (0 < x5_1) = false := decide_eq_false c2
    clear c2
    simp only [Option.some.injEq, Prod.mk.injEq] at H
    obtain ⟨rfl, rfl⟩ := H
    go_wp2
    go_ret2
    exact ⟨gr_, gd_⟩


-- NEED 0
/-! ### dQ: function 146 -/
def dQ.f (a0 a1 : Int) : Option (Bool) := (dX.f a0 a1).bind fun bt246 => (some bt246.1)
theorem dQ.calls (a0 a1 : Int) (r : Bool) (w : World) (h : dQ.f a0 a1 = some r) :
  Calls Tryz.prog 146 #[.int .i64 a0, .int .u32 a1] w fun e w' => e = .returned (.bool r) ∧ Drawn0 w w' := by
 have H : ((dX.f a0 a1).bind fun bt246 => (some bt246.1)) = some r := h
 clear h
 replace H := bq_ H
 obtain ⟨⟨t246, t247, t248⟩, A30, H⟩ := H
 replace H : (some t246) = some r := H
 have A3 := Aside0.mk A30
 clear A30
 obtain rfl := Option.some.inj H
 go_enter Tryz.func146, Tryz.ntmps146
 go_wp2_with (first | ((with_reducible refine gate_callee (f := 115) rfl ?_); refine goesL_ (some 11) rfl rfl Tryz.func115 (by kernel_rfl) rfl #[.int .i64 a0, .int .u32 a1] rfl gl ?_; (with_reducible refine (dX.calls a0 a1 t246 t247 t248 _ A3.out).mono ?_); rintro e w' ⟨rfl, ⟨nd, rfl⟩⟩; refine ⟨_, rfl, ?_⟩))
 go_ret
 exact ⟨gr_, gd_⟩

-- NEED 0
/-! ### dR: function 158 -/
def dR.f (k : Nat) (a0 a1 a2 : Int) : Option (Bool) := (bH.f k a0 a1).bind fun t249 => (if t249 = true then ((aV.f k a0 a2).bind fun t250 => (if t250 = true then (some true) else ((aV.f k a0 a1).bind fun t251 => (if t251 = true then ((bH.f k a0 a2).bind fun t252 => (some t252)) else (some false))))) else ((aV.f k a0 a1).bind fun t253 => (if t253 = true then ((bH.f k a0 a2).bind fun t254 => (some t254)) else (some false))))
theorem dR.mono : ∀ a0 a1 a2 k, LeO (dR.f k a0 a1 a2) (dR.f (k + 1) a0 a1 a2) := by
 intro a0 a1 a2 k
 unfold dR.f
 repeat' first
   |(with_reducible first|exact aV.mono _ _ _|exact bH.mono _ _ _|exact LeO.refl _|exact LeO.none _|refine LeO.ite ?_ ?_|refine LeO.bind ?_ (fun _ => ?_))
   |exact aV.mono _ _ _
   |exact bH.mono _ _ _
   |exact LeO.none _
   |refine LeO.ite ?_ ?_
   |refine LeO.bind ?_ (fun _ => ?_)
theorem dR.calls (k : Nat) (a0 a1 a2 : Int) (r : Bool) (w : World) (h : dR.f k a0 a1 a2 = some r) :
  Calls Tryz.prog 158 #[.int .i64 a0, .int .u32 a1, .int .u32 a2] w fun e w' => e = .returned (.bool r) ∧ Drawn0 w w' := by
 have H : ((bH.f k a0 a1).bind fun t249 => (if t249 = true then ((aV.f k a0 a2).bind fun t250 => (if t250 = true then (some true) else ((aV.f k a0 a1).bind fun t251 => (if t251 = true then ((bH.f k a0 a2).bind fun t252 => (some t252)) else (some false))))) else ((aV.f k a0 a1).bind fun t253 => (if t253 = true then ((bH.f k a0 a2).bind fun t254 => (some t254)) else (some false))))) = some r := h
 clear h
 replace H := bq_ H
 obtain ⟨t249, A40, H⟩ := H
 replace H : (if t249 = true then ((aV.f k a0 a2).bind fun t250 => (if t250 = true then (some true) else ((aV.f k a0 a1).bind fun t251 => (if t251 = true then ((bH.f k a0 a2).bind fun t252 => (some t252)) else (some false))))) else ((aV.f k a0 a1).bind fun t253 => (if t253 = true then ((bH.f k a0 a2).bind fun t254 => (some t254)) else (some false)))) = some r := H
 have A4 := Aside0.mk A40
 clear A40
 by_cases c5 : t249 = true
 ·subst c5
  have H1 : ((aV.f k a0 a2).bind fun t250 => (if t250 = true then (some true) else ((aV.f k a0 a1).bind fun t251 => (if t251 = true then ((bH.f k a0 a2).bind fun t252 => (some t252)) else (some false))))) = some r := by rw [if_pos rfl] at H; exact H
  clear H
  have H := H1
  clear H1
  replace H := bq_ H
  obtain ⟨t250, A60, H⟩ := H
  replace H : (if t250 = true then (some true) else ((aV.f k a0 a1).bind fun t251 => (if t251 = true then ((bH.f k a0 a2).bind fun t252 => (some t252)) else (some false)))) = some r := H
  have A6 := Aside0.mk A60
  clear A60
  by_cases c7 : t250 = true
  ·subst c7
   have H1 : (some true) = some r := by rw [if_pos rfl] at H; exact H
   clear H
   have H := H1
   clear H1
   obtain rfl := Option.some.inj H
   go_enter Tryz.func158, Tryz.ntmps158
   go_wp2_with (first | ((with_reducible refine gate_callee (f := 138) rfl ?_); refine goesL_ (some 9) rfl rfl Tryz.func138 (by kernel_rfl) rfl #[.int .i64 a0, .int .u32 a1] rfl gl ?_; (with_reducible refine (bH.calls k a0 a1 true _ A4.out).mono ?_); rintro e w' ⟨rfl, ⟨nd, rfl⟩⟩; refine ⟨_, rfl, ?_⟩) | (go_at_call 141; (with_reducible refine (aV.calls k a0 a2 true _ A6.out).mono ?_); rintro e w' ⟨rfl, ⟨nd, rfl⟩⟩))
   go_ret
   exact ⟨gr_, gd_⟩
  ·replace c7 := Bool.eq_false_iff.mpr c7
   subst c7
   have H1 : ((aV.f k a0 a1).bind fun t251 => (if t251 = true then ((bH.f k a0 a2).bind fun t252 => (some t252)) else (some false))) = some r := by rw [if_neg (show ¬ (false = true) by decide)] at H; exact H
   clear H
   have H := H1
   clear H1
   replace H := bq_ H
   obtain ⟨t251, A80, H⟩ := H
   replace H : (if t251 = true then ((bH.f k a0 a2).bind fun t252 => (some t252)) else (some false)) = some r := H
   have A8 := Aside0.mk A80
   clear A80
   by_cases c9 : t251 = true
   ·subst c9
    have H1 : ((bH.f k a0 a2).bind fun t252 => (some t252)) = some r := by rw [if_pos rfl] at H; exact H
    clear H
    have H := H1
    clear H1
    replace H := bq_ H
    obtain ⟨t252, A100, H⟩ := H
    replace H : (some t252) = some r := H
    have A10 := Aside0.mk A100
    clear A100
    obtain rfl := Option.some.inj H
    go_enter Tryz.func158, Tryz.ntmps158
    go_wp2_with (first | ((with_reducible refine gate_callee (f := 138) rfl ?_); refine goesL_ (some 9) rfl rfl Tryz.func138 (by kernel_rfl) rfl #[.int .i64 a0, .int .u32 a1] rfl gl ?_; (with_reducible refine (bH.calls k a0 a1 true _ A4.out).mono ?_); rintro e w' ⟨rfl, ⟨nd, rfl⟩⟩; refine ⟨_, rfl, ?_⟩) | (go_at_call 141; (with_reducible refine (aV.calls k a0 a2 false _ A6.out).mono ?_); rintro e w' ⟨rfl, ⟨nd, rfl⟩⟩) | (go_at_call 141; (with_reducible refine (aV.calls k a0 a1 true _ A8.out).mono ?_); rintro e w' ⟨rfl, ⟨nd, rfl⟩⟩) | (go_at_call 138; (with_reducible refine (bH.calls k a0 a2 t252 _ A10.out).mono ?_); rintro e w' ⟨rfl, ⟨nd, rfl⟩⟩))
    go_ret
    exact ⟨gr_, gd_⟩
   ·replace c9 := Bool.eq_false_iff.mpr c9
    subst c9
    have H1 : (some false) = some r := by rw [if_neg (show ¬ (false = true) by decide)] at H; exact H
    clear H
    have H := H1
    clear H1
    obtain rfl := Option.some.inj H
    go_enter Tryz.func158, Tryz.ntmps158
    go_wp2_with (first | ((with_reducible refine gate_callee (f := 138) rfl ?_); refine goesL_ (some 9) rfl rfl Tryz.func138 (by kernel_rfl) rfl #[.int .i64 a0, .int .u32 a1] rfl gl ?_; (with_reducible refine (bH.calls k a0 a1 true _ A4.out).mono ?_); rintro e w' ⟨rfl, ⟨nd, rfl⟩⟩; refine ⟨_, rfl, ?_⟩) | (go_at_call 141; (with_reducible refine (aV.calls k a0 a2 false _ A6.out).mono ?_); rintro e w' ⟨rfl, ⟨nd, rfl⟩⟩) | (go_at_call 141; (with_reducible refine (aV.calls k a0 a1 false _ A8.out).mono ?_); rintro e w' ⟨rfl, ⟨nd, rfl⟩⟩))
    go_ret
    exact ⟨gr_, gd_⟩
 ·replace c5 := Bool.eq_false_iff.mpr c5
  subst c5
  have H1 : ((aV.f k a0 a1).bind fun t253 => (if t253 = true then ((bH.f k a0 a2).bind fun t254 => (some t254)) else (some false))) = some r := by rw [if_neg (show ¬ (false = true) by decide)] at H; exact H
  clear H
  have H := H1
  clear H1
  replace H := bq_ H
  obtain ⟨t253, A110, H⟩ := H
  replace H : (if t253 = true then ((bH.f k a0 a2).bind fun t254 => (some t254)) else (some false)) = some r := H
  have A11 := Aside0.mk A110
  clear A110
  by_cases c12 : t253 = true
  ·subst c12
   have H1 : ((bH.f k a0 a2).bind fun t254 => (some t254)) = some r := by rw [if_pos rfl] at H; exact H
   clear H
   have H := H1
   clear H1
   replace H := bq_ H
   obtain ⟨t254, A130, H⟩ := H
   replace H : (some t254) = some r := H
   have A13 := Aside0.mk A130
   clear A130
   obtain rfl := Option.some.inj H
   go_enter Tryz.func158, Tryz.ntmps158
   go_wp2_with (first | ((with_reducible refine gate_callee (f := 138) rfl ?_); refine goesL_ (some 9) rfl rfl Tryz.func138 (by kernel_rfl) rfl #[.int .i64 a0, .int .u32 a1] rfl gl ?_; (with_reducible refine (bH.calls k a0 a1 false _ A4.out).mono ?_); rintro e w' ⟨rfl, ⟨nd, rfl⟩⟩; refine ⟨_, rfl, ?_⟩) | (go_at_call 141; (with_reducible refine (aV.calls k a0 a1 true _ A11.out).mono ?_); rintro e w' ⟨rfl, ⟨nd, rfl⟩⟩) | (go_at_call 138; (with_reducible refine (bH.calls k a0 a2 t254 _ A13.out).mono ?_); rintro e w' ⟨rfl, ⟨nd, rfl⟩⟩))
   go_ret
   exact ⟨gr_, gd_⟩
  ·replace c12 := Bool.eq_false_iff.mpr c12
   subst c12
   have H1 : (some false) = some r := by rw [if_neg (show ¬ (false = true) by decide)] at H; exact H
   clear H
   have H := H1
   clear H1
   obtain rfl := Option.some.inj H
   go_enter Tryz.func158, Tryz.ntmps158
   go_wp2_with (first | ((with_reducible refine gate_callee (f := 138) rfl ?_); refine goesL_ (some 9) rfl rfl Tryz.func138 (by kernel_rfl) rfl #[.int .i64 a0, .int .u32 a1] rfl gl ?_; (with_reducible refine (bH.calls k a0 a1 false _ A4.out).mono ?_); rintro e w' ⟨rfl, ⟨nd, rfl⟩⟩; refine ⟨_, rfl, ?_⟩) | (go_at_call 141; (with_reducible refine (aV.calls k a0 a1 false _ A11.out).mono ?_); rintro e w' ⟨rfl, ⟨nd, rfl⟩⟩))
   go_ret
   exact ⟨gr_, gd_⟩

-- NEED 0
/-! ### dY: function 159 -/
def dY.f (a0 a1 a2 : Int) : Option (Bool × Int × Int × Bool) := (fD.f a0 a1).bind fun bt256 => ((fD.f a0 a2).bind fun bt260 => (some ((bt256.1 != bt260.1), wrap64 (bt256.2.1 + bt260.2.1), IntKind.u64.wrap (bt256.2.2.1 * bt260.2.2.1), false)))
theorem dY.calls (a0 a1 a2 : Int) (r1 : Bool) (r2 r3 : Int) (r4 : Bool) (w : World) (h : dY.f a0 a1 a2 = some (r1, r2, r3, r4)) :
  Calls Tryz.prog 159 #[.int .i64 a0, .int .u32 a1, .int .u32 a2] w fun e w' => e = .returned (.agg #[.bool r1, .int .i64 r2, .int .u64 r3, .bool r4]) ∧ Below w.heap.size w w' := by
 have hu131 := Tryz.underlying131
 have HB := Aside0.mk (Below.refl w.heap.size w)
 have H : ((fD.f a0 a1).bind fun bt256 => ((fD.f a0 a2).bind fun bt260 => (some ((bt256.1 != bt260.1), wrap64 (bt256.2.1 + bt260.2.1), IntKind.u64.wrap (bt256.2.2.1 * bt260.2.2.1), false)))) = some (r1, r2, r3, r4) := h
 clear h
 replace H := bq_ H
 obtain ⟨⟨t256, t257, t258, t259⟩, A40, H⟩ := H
 replace H : ((fD.f a0 a2).bind fun bt260 => (some ((t256 != bt260.1), wrap64 (t257 + bt260.2.1), IntKind.u64.wrap (t258 * bt260.2.2.1), false))) = some (r1, r2, r3, r4) := H
 have A4 := Aside0.mk A40
 clear A40
 replace H := bq_ H
 obtain ⟨⟨t260, t261, t262, t263⟩, A50, H⟩ := H
 replace H : (some ((t256 != t260), wrap64 (t257 + t261), IntKind.u64.wrap (t258 * t262), false)) = some (r1, r2, r3, r4) := H
 have A5 := Aside0.mk A50
 clear A50
 simp only [Option.some.injEq, Prod.mk.injEq] at H
 obtain ⟨rfl, rfl, rfl, rfl⟩ := H
 go_enter Tryz.func159, Tryz.ntmps159
 go_wp2_with (first | ((with_reducible refine gate_dst (N := 6) rfl ?_); refine box_event ?hg (N := 6) ?hd (cs := #[.bool false, .int .i64 0, .int .u64 0, .bool false]) (t := 131) ?hr ?_; (case hd => rfl); (case hg => rfl); (case hr => first | (go_simp; done) | (go_simp; rfl)); intro gb255 hg w6 hbox hb; have n0_ := Aside0.mk (below_step (bl0 HB.out) hb); have n1_ := Aside0.mk (hbox); have n2_ := Aside0.mk ((by rw [hg]; exact (below_size (bl0 HB.out)) : w.heap.size ≤ gb255)); have n3_ := n2_; clear HB; have HB := n0_; have BK255 := n1_; have GW255 := n2_; have GE255 := n3_; clear n0_ n1_ n2_ n3_; clear hb hbox hg) | ((with_reducible refine gate_callee (f := 137) rfl ?_); refine goesL_ (some 11) rfl rfl Tryz.func137 (by kernel_rfl) rfl #[.int .i64 a0, .int .u32 a1] rfl gl ?_; (with_reducible refine (fD.calls a0 a1 t256 t257 t258 t259 _ A4.out).mono ?_); rintro e w7 ⟨rfl, hb⟩; refine ⟨_, rfl, ?_⟩; have n0_ := Aside0.mk (blk_below (g := gb255) (o := .cells #[.bool false, .int .i64 0, .int .u64 0, .bool false] 131 (0, 0)) (bv BK255.out) hb); have n1_ := Aside0.mk (below_step (bl1 HB.out GE255.out) hb); clear BK255; clear HB; have BK255 := n0_; have HB := n1_; clear n0_ n1_) | ((with_reducible refine gate_callee (f := 137) rfl ?_); refine goesL_ (some 14) rfl rfl Tryz.func137 (by kernel_rfl) rfl #[.int .i64 a0, .int .u32 a2] rfl gl ?_; (with_reducible refine (fD.calls a0 a2 t260 t261 t262 t263 _ A5.out).mono ?_); rintro e w8 ⟨rfl, hb⟩; refine ⟨_, rfl, ?_⟩; have n0_ := Aside0.mk (blk_below (g := gb255) (o := .cells #[.bool false, .int .i64 0, .int .u64 0, .bool false] 131 (0, 0)) (bv BK255.out) hb); have n1_ := Aside0.mk (below_step (bl1 HB.out GE255.out) hb); clear BK255; clear HB; have BK255 := n0_; have HB := n1_; clear n0_ n1_) | ((with_reducible refine gate_dst (N := 7) rfl ?_); refine box_event ?hg (N := 7) ?hd (cs := #[.bool false, .int .i64 0, .int .u64 0, .bool false]) (t := 131) ?hr ?_; (case hd => rfl); (case hg => rfl); (case hr => first | (go_simp; done) | (go_simp; rfl)); intro gb264 hg w9 hbox hb; have n0_ := Aside0.mk (blk_below (g := gb255) (o := .cells #[.bool false, .int .i64 0, .int .u64 0, .bool false] 131 (0, 0)) (bv BK255.out) hb); have n1_ := Aside0.mk (below_step (bl1 HB.out GE255.out) hb); have n2_ := Aside0.mk (hbox); have n3_ := Aside0.mk ((by rw [hg]; exact (below_size (bl1 HB.out GE255.out)) : w.heap.size ≤ gb264)); have n4_ := n3_; have n5_ := Aside0.mk ((by rw [hg]; exact Nat.ne_of_lt (blk_lt (g := gb255) (o := .cells #[.bool false, .int .i64 0, .int .u64 0, .bool false] 131 (0, 0)) (bv BK255.out)) : gb255 ≠ gb264)); have n6_ := Aside0.mk (Ne.symm n5_.out); clear BK255; clear HB; have BK255 := n0_; have HB := n1_; have BK264 := n2_; have GW264 := n3_; have GE264 := n4_; have NB255_264 := n5_; have NB264_255 := n6_; clear n0_ n1_ n2_ n3_ n4_ n5_ n6_; clear hb hbox hg) | ((with_reducible refine gate_dst (N := 8) rfl ?_); refine box_event ?hg (N := 8) ?hd (cs := #[.bool false, .int .i64 0, .int .u64 0, .bool false]) (t := 131) ?hr ?_; (case hd => rfl); (case hg => rfl); (case hr => first | (go_simp; done) | (go_simp; rfl)); intro gb265 hg w10 hbox hb; have n0_ := Aside0.mk (blk_below (g := gb255) (o := .cells #[.bool false, .int .i64 0, .int .u64 0, .bool false] 131 (0, 0)) (bv BK255.out) hb); have n1_ := Aside0.mk (blk_below (g := gb264) (o := .cells #[.bool false, .int .i64 0, .int .u64 0, .bool false] 131 (0, 0)) (bv BK264.out) hb); have n2_ := Aside0.mk (below_step (bl2 HB.out GE255.out GE264.out) hb); have n3_ := Aside0.mk (hbox); have n4_ := Aside0.mk ((by rw [hg]; exact (below_size (bl2 HB.out GE255.out GE264.out)) : w.heap.size ≤ gb265)); have n5_ := n4_; have n6_ := Aside0.mk ((by rw [hg]; exact Nat.ne_of_lt (blk_lt (g := gb255) (o := .cells #[.bool false, .int .i64 0, .int .u64 0, .bool false] 131 (0, 0)) (bv BK255.out)) : gb255 ≠ gb265)); have n7_ := Aside0.mk (Ne.symm n6_.out); have n8_ := Aside0.mk ((by rw [hg]; exact Nat.ne_of_lt (blk_lt (g := gb264) (o := .cells #[.bool false, .int .i64 0, .int .u64 0, .bool false] 131 (0, 0)) (bv BK264.out)) : gb264 ≠ gb265)); have n9_ := Aside0.mk (Ne.symm n8_.out); clear BK255; clear BK264; clear HB; have BK255 := n0_; have BK264 := n1_; have HB := n2_; have BK265 := n3_; have GW265 := n4_; have GE265 := n5_; have NB255_265 := n6_; have NB265_255 := n7_; have NB264_265 := n8_; have NB265_264 := n9_; clear n0_ n1_ n2_ n3_ n4_ n5_ n6_ n7_ n8_ n9_; clear hb hbox hg; have hnb11 := NB264_255.out; have hnc11 := NB255_264.out; have hnb12 := NB264_265.out; have hnc12 := NB265_264.out; obtain ⟨hcz13_0, hcz13_1, hcz13_2, hcz13_3⟩ := bc4 BK264.out; obtain ⟨hfz13_0, hfz13_1, hfz13_2, hfz13_3⟩ := bf4 BK264.out; have hnb14 := NB265_255.out; have hnc14 := NB255_265.out; obtain ⟨hcz15_0, hcz15_1, hcz15_2, hcz15_3⟩ := bc4 BK265.out; obtain ⟨hfz15_0, hfz15_1, hfz15_2, hfz15_3⟩ := bf4 BK265.out; obtain ⟨hcz16_0, hcz16_1, hcz16_2, hcz16_3⟩ := bc4 BK255.out; obtain ⟨hfz16_0, hfz16_1, hfz16_2, hfz16_3⟩ := bf4 BK255.out))
 refine bodyPost_ret (results_cell_row rfl _ _ gb255 131 #[.bool (t256 != t260), .int .i64 (wrap64 (t257 + t261)), .int .u64 (IntKind.u64.wrap (t258 * t262)), .bool false] (0, 0) _ rfl (by (with_reducible repeat first | apply bd | apply be | apply ba); refine blk_put (cs := #[.bool (t256 != t260), .int .i64 (wrap64 (t257 + t261)), .int .u64 (IntKind.u64.wrap (t258 * t262)), .bool false]) ?_ 3 _ rfl; (with_reducible repeat first | apply bd | apply be | apply ba); refine blk_put (cs := #[.bool (t256 != t260), .int .i64 (wrap64 (t257 + t261)), .int .u64 0, .bool false]) ?_ 2 _ rfl; (with_reducible repeat first | apply bd | apply be | apply ba); refine blk_put (cs := #[.bool (t256 != t260), .int .i64 0, .int .u64 0, .bool false]) ?_ 1 _ rfl; (with_reducible repeat first | apply bd | apply be | apply ba); refine blk_put (cs := #[.bool false, .int .i64 0, .int .u64 0, .bool false]) ?_ 0 _ rfl; (with_reducible repeat first | apply bd | apply be | apply ba); refine blk_far ?_ NB255_265.out _; (with_reducible repeat first | apply bd | apply be | apply ba); refine blk_far ?_ NB255_265.out _; (with_reducible repeat first | apply bd | apply be | apply ba); refine blk_far ?_ NB255_265.out _; (with_reducible repeat first | apply bd | apply be | apply ba); refine blk_far ?_ NB255_265.out _; (with_reducible repeat first | apply bd | apply be | apply ba); refine blk_far ?_ NB255_264.out _; (with_reducible repeat first | apply bd | apply be | apply ba); refine blk_far ?_ NB255_264.out _; (with_reducible repeat first | apply bd | apply be | apply ba); refine blk_far ?_ NB255_264.out _; (with_reducible repeat first | apply bd | apply be | apply ba); refine blk_far ?_ NB255_264.out _; (with_reducible repeat first | apply bd | apply be | apply ba); exact BK255.out) Tryz.underlying131 rfl (by kernel_rfl)) rfl ?_
 exact ⟨by first | rfl | (simp [dE, dD] <;> rfl) | (simp [*, dE, dD] <;> rfl), bl3 HB.out GE255.out GE264.out GE265.out⟩

-- NEED 0
/-! ### bC: function 161 -/
def bC.j0 : Nat → Int → Bool → Bool → Bool → Bool → Option (Int × Bool × Bool × Bool × Bool × Bool)
 |0, _, _, _, _, _ => none
 |k + 1, x0, x1, x2, x3, x12 => if x12 = true then ((eT.f x0).bind fun bt267 => (some (bt267.1, bt267.2.1, bt267.2.2.1, bt267.2.2.2.1, bt267.2.2.2.2.1, bt267.2.2.2.2.2))) else (if x3 = true then ((dF.f x0 x1).bind fun t273 => (some (t273, false, false, false, false, false))) else ((dF.f x0 x2).bind fun t274 => (some (t274, false, false, false, false, false))))
def bC.f (k : Nat) (a0 : Int) (a1 a2 : Bool) (a3 a4 : Bool) : Option (Int × Bool × Bool × Bool × Bool × Bool) := if a3 = true then (if a4 = true then (bC.j0 k a0 a1 a2 a3 (a1 != a2)) else (bC.j0 k a0 a1 a2 a3 false)) else (bC.j0 k a0 a1 a2 a3 false)
theorem bC.eX : ∀ k, (∀ y0 y1 y2 y3 y4, LeO (bC.j0 k y0 y1 y2 y3 y4) (bC.j0 (k + 1) y0 y1 y2 y3 y4))
 |0 => fun _ _ _ _ _ r h => by simp [bC.j0] at h
 |k + 1 => by
  have ih0 := bC.eX k
  ·intro y0 y1 y2 y3 y4
   unfold bC.j0
   repeat' first
   |(with_reducible first|exact ih0 _ _ _ _ _|exact LeO.refl _|exact LeO.none _|refine LeO.ite ?_ ?_|refine LeO.bind ?_ (fun _ => ?_))
   |exact ih0 _ _ _ _ _
   |exact LeO.none _
   |refine LeO.ite ?_ ?_
   |refine LeO.bind ?_ (fun _ => ?_)
theorem bC.mono : ∀ a0 a1 a2 a3 a4 k, LeO (bC.f k a0 a1 a2 a3 a4) (bC.f (k + 1) a0 a1 a2 a3 a4) := by
 intro a0 a1 a2 a3 a4 k
 have ih0 := bC.eX k
 unfold bC.f
 repeat' first
   |(with_reducible first|exact ih0 _ _ _ _ _|exact LeO.refl _|exact LeO.none _|refine LeO.ite ?_ ?_|refine LeO.bind ?_ (fun _ => ?_))
   |exact ih0 _ _ _ _ _
   |exact LeO.none _
   |refine LeO.ite ?_ ?_
   |refine LeO.bind ?_ (fun _ => ?_)
theorem bC.calls (k : Nat) (a0 : Int) (a1 a2 : Bool) (a3 a4 : Bool) (r1 : Int) (r2 r3 : Bool) (r4 r5 r6 : Bool) (w : World) (h : bC.f k a0 a1 a2 a3 a4 = some (r1, r2, r3, r4, r5, r6)) :
  Calls Tryz.prog 161 #[.int .i64 a0, .bool a1, .bool a2, .bool a3, .bool a4] w fun e w' => e = .returned (.tuple #[.int .u32 r1, .agg #[.bool r2, .bool r3, .bool r4, .bool r5, .bool r6]]) ∧ Below w.heap.size w w' := by
 have hu62 := Tryz.underlying62
 have HB := Aside0.mk (Below.refl w.heap.size w)
 have H : (if a3 = true then (if a4 = true then (bC.j0 k a0 a1 a2 a3 (a1 != a2)) else (bC.j0 k a0 a1 a2 a3 false)) else (bC.j0 k a0 a1 a2 a3 false)) = some (r1, r2, r3, r4, r5, r6) := h
 clear h
 have HC6 := Aside0.mk H
 clear H
 go_enter Tryz.func161, Tryz.ntmps161
 go_upto_region 1 with (first | ((with_reducible refine gate_dst (N := 11) rfl ?_); refine box_event ?hg (N := 11) ?hd (cs := F5) (t := 62) ?hr ?_; (case hd => rfl); (case hg => rfl); (case hr => first | (go_simp; done) | (go_simp; rfl)); intro gb266 hg w7 hbox hb; have n0_ := Aside0.mk (below_step (bl0 HB.out) hb); have n1_ := Aside0.mk (hbox); have n2_ := Aside0.mk ((by rw [hg]; exact (below_size (bl0 HB.out)) : w.heap.size ≤ gb266)); have n3_ := n2_; clear HB; have HB := n0_; have BK266 := n1_; have GW266 := n2_; have GE266 := n3_; clear n0_ n1_ n2_ n3_; clear hb hbox hg))
 (try simp only [Act.put, sb, sz, ss])
 go_cut [12] (fun v12 wc => ∃ (kq : Nat) (x12_5 : Bool), v12 = .bool x12_5 ∧ Aside0 (bC.j0 kq a0 a1 a2 a3 x12_5 = some (r1, r2, r3, r4, r5, r6)) ∧ Aside0 (kq ≤ k) ∧ Aside0 (wc.heap[gb266]? = some (o5_ false false false false false 62)) ∧ Aside0 (Below w.heap.size w wc))
 case first =>
  have H := HC6.out
  clear HC6
  by_cases c8 : a3 = true
  ·subst c8
   have H1 : (if a4 = true then (bC.j0 k a0 a1 a2 true (a1 != a2)) else (bC.j0 k a0 a1 a2 true false)) = some (r1, r2, r3, r4, r5, r6) := by rw [if_pos rfl] at H; exact H
   clear H
   have H := H1
   clear H1
   by_cases c9 : a4 = true
   ·subst c9
    have H1 : (bC.j0 k a0 a1 a2 true (a1 != a2)) = some (r1, r2, r3, r4, r5, r6) := by rw [if_pos rfl] at H; exact H
    clear H
    have H := H1
    clear H1
    have H' := Aside0.mk H
    clear H
    go_wp2
    go_meet
    case rel => exact ⟨_, ((a1 != a2)), (gr_), H', ⟨by first | omega | exact Nat.le_refl _⟩, ⟨by (with_reducible repeat first | apply bd | apply be | apply ba); exact BK266.out⟩, ⟨bl1 HB.out GE266.out⟩⟩
   ·replace c9 := Bool.eq_false_iff.mpr c9
    subst c9
    have H1 : (bC.j0 k a0 a1 a2 true false) = some (r1, r2, r3, r4, r5, r6) := by rw [if_neg (show ¬ (false = true) by decide)] at H; exact H
    clear H
    have H := H1
    clear H1
    have H' := Aside0.mk H
    clear H
    go_wp2
    go_meet
    case rel => exact ⟨_, (false), (gr_), H', ⟨by first | omega | exact Nat.le_refl _⟩, ⟨by (with_reducible repeat first | apply bd | apply be | apply ba); exact BK266.out⟩, ⟨bl1 HB.out GE266.out⟩⟩
  ·replace c8 := Bool.eq_false_iff.mpr c8
   subst c8
   have H1 : (bC.j0 k a0 a1 a2 false false) = some (r1, r2, r3, r4, r5, r6) := by rw [if_neg (show ¬ (false = true) by decide)] at H; exact H
   clear H
   have H := H1
   clear H1
   have H' := Aside0.mk H
   clear H
   go_wp2
   go_meet
   case rel => exact ⟨_, (false), (gr_), H', ⟨by first | omega | exact Nat.le_refl _⟩, ⟨by (with_reducible repeat first | apply bd | apply be | apply ba); exact BK266.out⟩, ⟨bl1 HB.out GE266.out⟩⟩
 case rest =>
  clear HC6
  try clear c1 p2 p6 c8 c9
  obtain ⟨kq, x12_5, rfl, HA, HJ5, BK266, HB⟩ := hcut
  cases kq with
  |zero => exact absurd HA.out (by simp [bC.j0])
  |succ kj5 =>
   have H := HA.out
   clear HA
   simp only [bC.j0] at H
   by_cases c10 : x12_5 = true
   ·subst c10
    have H1 : ((eT.f a0).bind fun bt267 => (some (bt267.1, bt267.2.1, bt267.2.2.1, bt267.2.2.2.1, bt267.2.2.2.2.1, bt267.2.2.2.2.2))) = some (r1, r2, r3, r4, r5, r6) := by rw [if_pos rfl] at H; exact H
    clear H
    have H := H1
    clear H1
    replace H := bq_ H
    obtain ⟨⟨t267, t268, t269, t270, t271, t272⟩, A110, H⟩ := H
    replace H : (some (t267, t268, t269, t270, t271, t272)) = some (r1, r2, r3, r4, r5, r6) := H
    have A11 := Aside0.mk A110
    clear A110
    simp only [Option.some.injEq, Prod.mk.injEq] at H
    obtain ⟨rfl, rfl, rfl, rfl, rfl, rfl⟩ := H
    go_wp2_with (first | ((with_reducible refine gate_callee (f := 140) rfl ?_); refine goesL_ (some 23) rfl rfl Tryz.func140 (by kernel_rfl) rfl #[.int .i64 a0] rfl gl ?_; (with_reducible refine (eT.calls a0 t267 t268 t269 t270 t271 t272 _ A11.out).mono ?_); rintro e w12 ⟨rfl, hb⟩; refine ⟨_, rfl, ?_⟩; have n0_ := Aside0.mk (blk_below (g := gb266) (o := o5_ false false false false false 62) (bv BK266.out) hb); have n1_ := Aside0.mk (below_step (bl1 HB.out GE266.out) hb); clear BK266; clear HB; have BK266 := n0_; have HB := n1_; clear n0_ n1_; obtain ⟨hcz13_0, hcz13_1, hcz13_2, hcz13_3, hcz13_4⟩ := bc5 BK266.out; obtain ⟨hfz13_0, hfz13_1, hfz13_2, hfz13_3, hfz13_4⟩ := bf5 BK266.out))
    refine bodyPost_ret (results_tc rfl _ _ gb266 62 #[.bool t268, .bool t269, .bool t270, .bool t271, .bool t272] (0, 0) _ rfl (by (with_reducible repeat first | apply bd | apply be | apply ba); refine blk_put (cs := q5_ t268 t269 t270 t271 false) ?_ 4 _ rfl; (with_reducible repeat first | apply bd | apply be | apply ba); refine blk_put (cs := q5_ t268 t269 t270 false false) ?_ 3 _ rfl; (with_reducible repeat first | apply bd | apply be | apply ba); refine blk_put (cs := q5_ t268 t269 false false false) ?_ 2 _ rfl; (with_reducible repeat first | apply bd | apply be | apply ba); refine blk_put (cs := q5_ t268 false false false false) ?_ 1 _ rfl; (with_reducible repeat first | apply bd | apply be | apply ba); refine blk_put (cs := F5) ?_ 0 _ rfl; (with_reducible repeat first | apply bd | apply be | apply ba); exact BK266.out) Tryz.underlying62 rfl (by kernel_rfl)) rfl ?_
    exact ⟨by first | rfl | (simp [dE, dD] <;> rfl) | (simp [*, dE, dD] <;> rfl), bl1 HB.out GE266.out⟩
   ·replace c10 := Bool.eq_false_iff.mpr c10
    subst c10
    have H1 : (if a3 = true then ((dF.f a0 a1).bind fun t273 => (some (t273, false, false, false, false, false))) else ((dF.f a0 a2).bind fun t274 => (some (t274, false, false, false, false, false)))) = some (r1, r2, r3, r4, r5, r6) := by rw [if_neg (show ¬ (false = true) by decide)] at H; exact H
    clear H
    have H := H1
    clear H1
    by_cases c14 : a3 = true
    ·subst c14
     have H1 : ((dF.f a0 a1).bind fun t273 => (some (t273, false, false, false, false, false))) = some (r1, r2, r3, r4, r5, r6) := by rw [if_pos rfl] at H; exact H
     clear H
     have H := H1
     clear H1
     replace H := bq_ H
     obtain ⟨t273, A150, H⟩ := H
     replace H : (some (t273, false, false, false, false, false)) = some (r1, r2, r3, r4, r5, r6) := H
     have A15 := Aside0.mk A150
     clear A150
     simp only [Option.some.injEq, Prod.mk.injEq] at H
     obtain ⟨rfl, rfl, rfl, rfl, rfl, rfl⟩ := H
     go_wp2_with (first | ((with_reducible refine gate_callee (f := 142) rfl ?_); refine goesL_ (some 30) rfl rfl Tryz.func142 (by kernel_rfl) rfl #[.int .i64 a0, .bool a1] rfl gl ?_; (with_reducible refine (dF.calls a0 a1 t273 _ A15.out).mono ?_); rintro e w' ⟨rfl, ⟨nd, rfl⟩⟩; refine ⟨_, rfl, ?_⟩; (try (rw [drewN_self wc]; generalize hq_ : World.drewN wc _ = wc; have n0_ : Aside0 (wc.heap[gb266]? = some (o5_ false false false false false 62)) := ⟨by rw [← hq_]; exact (bv BK266.out)⟩; have n1_ : Aside0 (Below w.heap.size w wc) := ⟨by rw [← hq_]; exact (bl1 HB.out GE266.out)⟩; clear BK266 HB hq_; have BK266 := n0_; have HB := n1_; clear n0_ n1_)); obtain ⟨hcz16_0, hcz16_1, hcz16_2, hcz16_3, hcz16_4⟩ := bc5 BK266.out; obtain ⟨hfz16_0, hfz16_1, hfz16_2, hfz16_3, hfz16_4⟩ := bf5 BK266.out))
     refine bodyPost_ret (results_tc rfl _ _ gb266 62 #[.bool false, .bool false, .bool false, .bool false, .bool false] (0, 0) _ rfl (by (with_reducible repeat first | apply bd | apply be | apply ba); refine blk_put (cs := F5) ?_ 4 _ rfl; (with_reducible repeat first | apply bd | apply be | apply ba); refine blk_put (cs := F5) ?_ 3 _ rfl; (with_reducible repeat first | apply bd | apply be | apply ba); refine blk_put (cs := F5) ?_ 2 _ rfl; (with_reducible repeat first | apply bd | apply be | apply ba); refine blk_put (cs := F5) ?_ 1 _ rfl; (with_reducible repeat first | apply bd | apply be | apply ba); refine blk_put (cs := F5) ?_ 0 _ rfl; (with_reducible repeat first | apply bd | apply be | apply ba); exact BK266.out) Tryz.underlying62 rfl (by kernel_rfl)) rfl ?_
     exact ⟨by first | rfl | (simp [dE, dD] <;> rfl) | (simp [*, dE, dD] <;> rfl), bl1 HB.out GE266.out⟩
    ·replace c14 := Bool.eq_false_iff.mpr c14
     subst c14
     have H1 : ((dF.f a0 a2).bind fun t274 => (some (t274, false, false, false, false, false))) = some (r1, r2, r3, r4, r5, r6) := by rw [if_neg (show ¬ (false = true) by decide)] at H; exact H
     clear H
     have H := H1
     clear H1
     replace H := bq_ H
     obtain ⟨t274, A170, H⟩ := H
     replace H : (some (t274, false, false, false, false, false)) = some (r1, r2, r3, r4, r5, r6) := H
     have A17 := Aside0.mk A170
     clear A170
     simp only [Option.some.injEq, Prod.mk.injEq] at H
     obtain ⟨rfl, rfl, rfl, rfl, rfl, rfl⟩ := H
     go_wp2_with (first | ((with_reducible refine gate_callee (f := 142) rfl ?_); refine goesL_ (some 34) rfl rfl Tryz.func142 (by kernel_rfl) rfl #[.int .i64 a0, .bool a2] rfl gl ?_; (with_reducible refine (dF.calls a0 a2 t274 _ A17.out).mono ?_); rintro e w' ⟨rfl, ⟨nd, rfl⟩⟩; refine ⟨_, rfl, ?_⟩; (try (rw [drewN_self wc]; generalize hq_ : World.drewN wc _ = wc; have n0_ : Aside0 (wc.heap[gb266]? = some (o5_ false false false false false 62)) := ⟨by rw [← hq_]; exact (bv BK266.out)⟩; have n1_ : Aside0 (Below w.heap.size w wc) := ⟨by rw [← hq_]; exact (bl1 HB.out GE266.out)⟩; clear BK266 HB hq_; have BK266 := n0_; have HB := n1_; clear n0_ n1_)); obtain ⟨hcz18_0, hcz18_1, hcz18_2, hcz18_3, hcz18_4⟩ := bc5 BK266.out; obtain ⟨hfz18_0, hfz18_1, hfz18_2, hfz18_3, hfz18_4⟩ := bf5 BK266.out))
     refine bodyPost_ret (results_tc rfl _ _ gb266 62 #[.bool false, .bool false, .bool false, .bool false, .bool false] (0, 0) _ rfl (by (with_reducible repeat first | apply bd | apply be | apply ba); refine blk_put (cs := F5) ?_ 4 _ rfl; (with_reducible repeat first | apply bd | apply be | apply ba); refine blk_put (cs := F5) ?_ 3 _ rfl; (with_reducible repeat first | apply bd | apply be | apply ba); refine blk_put (cs := F5) ?_ 2 _ rfl; (with_reducible repeat first | apply bd | apply be | apply ba); refine blk_put (cs := F5) ?_ 1 _ rfl; (with_reducible repeat first | apply bd | apply be | apply ba); refine blk_put (cs := F5) ?_ 0 _ rfl; (with_reducible repeat first | apply bd | apply be | apply ba); exact BK266.out) Tryz.underlying62 rfl (by kernel_rfl)) rfl ?_
     exact ⟨by first | rfl | (simp [dE, dD] <;> rfl) | (simp [*, dE, dD] <;> rfl), bl1 HB.out GE266.out⟩

-- NEED 0
/-! ### eD: function 175 -/
def eD.f (k : Nat) (a0_0 : Bool) (a0_1 a0_2 : Int) (a0_3 : Bool) : Option (Bool × Int × Int × Bool) := (bits_Len.f k a0_2).bind fun t277 => ((aU.f k a0_2 (wrap64 (-(wrap64 (62 - t277))))).bind fun bt278 => (some (a0_0, wrap64 (a0_1 - (wrap64 (62 - t277))), bt278.1, a0_3)))
theorem eD.mono : ∀ a0 a1 a2 a3 k, LeO (eD.f k a0 a1 a2 a3) (eD.f (k + 1) a0 a1 a2 a3) := by
 intro a0 a1 a2 a3 k
 unfold eD.f
 repeat' first
   |(with_reducible first|exact bits_Len.mono _ _|exact aU.mono _ _ _|exact LeO.refl _|exact LeO.none _|refine LeO.ite ?_ ?_|refine LeO.bind ?_ (fun _ => ?_))
   |exact bits_Len.mono _ _
   |exact aU.mono _ _ _
   |exact LeO.none _
   |refine LeO.ite ?_ ?_
   |refine LeO.bind ?_ (fun _ => ?_)
theorem eD.calls (k : Nat) (a0_0 : Bool) (a0_1 a0_2 : Int) (a0_3 r1 : Bool) (r2 r3 : Int) (r4 : Bool) (w : World) (h : eD.f k a0_0 a0_1 a0_2 a0_3 = some (r1, r2, r3, r4)) :
  Calls Tryz.prog 175 #[.agg #[.bool a0_0, .int .i64 a0_1, .int .u64 a0_2, .bool a0_3]] w fun e w' => e = .returned (.agg #[.bool r1, .int .i64 r2, .int .u64 r3, .bool r4]) ∧ Below w.heap.size w w' := by
 have hu131 := Tryz.underlying131
 have HB := Aside0.mk (Below.refl w.heap.size w)
 have H : ((bits_Len.f k a0_2).bind fun t277 => ((aU.f k a0_2 (wrap64 (-(wrap64 (62 - t277))))).bind fun bt278 => (some (a0_0, wrap64 (a0_1 - (wrap64 (62 - t277))), bt278.1, a0_3)))) = some (r1, r2, r3, r4) := h
 clear h
 replace H := bq_ H
 obtain ⟨t277, A20, H⟩ := H
 replace H : ((aU.f k a0_2 (wrap64 (-(wrap64 (62 - t277))))).bind fun bt278 => (some (a0_0, wrap64 (a0_1 - (wrap64 (62 - t277))), bt278.1, a0_3))) = some (r1, r2, r3, r4) := H
 have A2 := Aside0.mk A20
 clear A20
 replace H := bq_ H
 obtain ⟨⟨t278, t279⟩, A30, H⟩ := H
 replace H : (some (a0_0, wrap64 (a0_1 - (wrap64 (62 - t277))), t278, a0_3)) = some (r1, r2, r3, r4) := H
 have A3 := Aside0.mk A30
 clear A30
 simp only [Option.some.injEq, Prod.mk.injEq] at H
 obtain ⟨rfl, rfl, rfl, rfl⟩ := H
 go_enter Tryz.func175, Tryz.ntmps175
 go_wp2_with (first | ((with_reducible refine gate_dst (N := 1) rfl ?_); refine box_event ?hg (N := 1) ?hd (cs := #[.bool a0_0, .int .i64 a0_1, .int .u64 a0_2, .bool a0_3]) (t := 131) ?hr ?_; (case hd => rfl); (case hg => rfl); (case hr => first | (go_simp; done) | (go_simp; rfl)); intro gb275 hg w4 hbox hb; have n0_ := Aside0.mk (below_step (bl0 HB.out) hb); have n1_ := Aside0.mk (hbox); have n2_ := Aside0.mk ((by rw [hg]; exact (below_size (bl0 HB.out)) : w.heap.size ≤ gb275)); have n3_ := n2_; clear HB; have HB := n0_; have BK275 := n1_; have GW275 := n2_; have GE275 := n3_; clear n0_ n1_ n2_ n3_; clear hb hbox hg) | ((with_reducible refine gate_dst (N := 2) rfl ?_); refine box_event ?hg (N := 2) ?hd (cs := #[.bool false, .int .i64 0, .int .u64 0, .bool false]) (t := 131) ?hr ?_; (case hd => rfl); (case hg => rfl); (case hr => first | (go_simp; done) | (go_simp; rfl)); intro gb276 hg w5 hbox hb; have n0_ := Aside0.mk (blk_below (g := gb275) (o := .cells #[.bool a0_0, .int .i64 a0_1, .int .u64 a0_2, .bool a0_3] 131 (0, 0)) (bv BK275.out) hb); have n1_ := Aside0.mk (below_step (bl1 HB.out GE275.out) hb); have n2_ := Aside0.mk (hbox); have n3_ := Aside0.mk ((by rw [hg]; exact (below_size (bl1 HB.out GE275.out)) : w.heap.size ≤ gb276)); have n4_ := n3_; have n5_ := Aside0.mk ((by rw [hg]; exact Nat.ne_of_lt (blk_lt (g := gb275) (o := .cells #[.bool a0_0, .int .i64 a0_1, .int .u64 a0_2, .bool a0_3] 131 (0, 0)) (bv BK275.out)) : gb275 ≠ gb276)); have n6_ := Aside0.mk (Ne.symm n5_.out); clear BK275; clear HB; have BK275 := n0_; have HB := n1_; have BK276 := n2_; have GW276 := n3_; have GE276 := n4_; have NB275_276 := n5_; have NB276_275 := n6_; clear n0_ n1_ n2_ n3_ n4_ n5_ n6_; clear hb hbox hg; have hnb6 := NB275_276.out; have hnc6 := NB276_275.out; obtain ⟨hcz7_0, hcz7_1, hcz7_2, hcz7_3⟩ := bc4 BK275.out; obtain ⟨hfz7_0, hfz7_1, hfz7_2, hfz7_3⟩ := bf4 BK275.out) | ((with_reducible refine gate_callee (f := 143) rfl ?_); refine goesL_ (some 6) rfl rfl Tryz.func143 (by kernel_rfl) rfl #[.int .u64 a0_2] rfl gl ?_; (with_reducible refine (bits_Len.calls k a0_2 t277 _ A2.out).mono ?_); rintro e w' ⟨rfl, ⟨nd, rfl⟩⟩; refine ⟨_, rfl, ?_⟩; (try (rw [drewN_self w5]; generalize hq_ : World.drewN w5 _ = w5; have n0_ : Aside0 (w5.heap[gb275]? = some (.cells #[.bool a0_0, .int .i64 a0_1, .int .u64 a0_2, .bool a0_3] 131 (0, 0))) := ⟨by rw [← hq_]; exact (bv BK275.out)⟩; have n1_ : Aside0 (w5.heap[gb276]? = some (.cells #[.bool false, .int .i64 0, .int .u64 0, .bool false] 131 (0, 0))) := ⟨by rw [← hq_]; exact (bv BK276.out)⟩; have n2_ : Aside0 (Below w.heap.size w w5) := ⟨by rw [← hq_]; exact (bl2 HB.out GE275.out GE276.out)⟩; clear BK275 BK276 HB hq_; have BK275 := n0_; have BK276 := n1_; have HB := n2_; clear n0_ n1_ n2_)); obtain ⟨hcz8_0, hcz8_1, hcz8_2, hcz8_3⟩ := bc4 BK275.out; obtain ⟨hfz8_0, hfz8_1, hfz8_2, hfz8_3⟩ := bf4 BK275.out) | ((with_reducible refine gate_callee (f := 144) rfl ?_); refine goesL_ (some 13) rfl rfl Tryz.func144 (by kernel_rfl) rfl #[.int .u64 a0_2, .int .i64 (wrap64 (-(wrap64 (62 - t277))))] rfl gl ?_; (with_reducible refine (aU.calls k a0_2 (wrap64 (-(wrap64 (62 - t277)))) t278 t279 _ A3.out).mono ?_); rintro e w' ⟨rfl, ⟨nd, rfl⟩⟩; refine ⟨_, rfl, ?_⟩; (try (rw [drewN_self w5]; generalize hq_ : World.drewN w5 _ = w5; have n0_ : Aside0 (w5.heap[gb275]? = some (.cells #[.bool a0_0, .int .i64 a0_1, .int .u64 a0_2, .bool a0_3] 131 (0, 0))) := ⟨by rw [← hq_]; exact (bv BK275.out)⟩; have n1_ : Aside0 (w5.heap[gb276]? = some (.cells #[.bool false, .int .i64 0, .int .u64 0, .bool false] 131 (0, 0))) := ⟨by rw [← hq_]; exact (bv BK276.out)⟩; have n2_ : Aside0 (Below w.heap.size w w5) := ⟨by rw [← hq_]; exact (bl2 HB.out GE275.out GE276.out)⟩; clear BK275 BK276 HB hq_; have BK275 := n0_; have BK276 := n1_; have HB := n2_; clear n0_ n1_ n2_)); obtain ⟨hcz9_0, hcz9_1, hcz9_2, hcz9_3⟩ := bc4 BK275.out; obtain ⟨hfz9_0, hfz9_1, hfz9_2, hfz9_3⟩ := bf4 BK275.out; obtain ⟨hcz10_0, hcz10_1, hcz10_2, hcz10_3⟩ := bc4 BK276.out; obtain ⟨hfz10_0, hfz10_1, hfz10_2, hfz10_3⟩ := bf4 BK276.out))
 refine bodyPost_ret (results_cell_row rfl _ _ gb276 131 #[.bool a0_0, .int .i64 (wrap64 (a0_1 - (wrap64 (62 - t277)))), .int .u64 t278, .bool a0_3] (0, 0) _ rfl (by (with_reducible repeat first | apply bd | apply be | apply ba); refine blk_put (cs := #[.bool a0_0, .int .i64 (wrap64 (a0_1 - (wrap64 (62 - t277)))), .int .u64 t278, .bool false]) ?_ 3 _ rfl; (with_reducible repeat first | apply bd | apply be | apply ba); refine blk_put (cs := #[.bool a0_0, .int .i64 (wrap64 (a0_1 - (wrap64 (62 - t277)))), .int .u64 0, .bool false]) ?_ 2 _ rfl; (with_reducible repeat first | apply bd | apply be | apply ba); refine blk_put (cs := #[.bool a0_0, .int .i64 0, .int .u64 0, .bool false]) ?_ 1 _ rfl; (with_reducible repeat first | apply bd | apply be | apply ba); refine blk_put (cs := #[.bool false, .int .i64 0, .int .u64 0, .bool false]) ?_ 0 _ rfl; (with_reducible repeat first | apply bd | apply be | apply ba); refine blk_far ?_ NB276_275.out _; (with_reducible repeat first | apply bd | apply be | apply ba); refine blk_far ?_ NB276_275.out _; (with_reducible repeat first | apply bd | apply be | apply ba); exact BK276.out) Tryz.underlying131 rfl (by kernel_rfl)) rfl ?_
 exact ⟨by first | rfl | (simp [dE, dD] <;> rfl) | (simp [*, dE, dD] <;> rfl), bl2 HB.out GE275.out GE276.out⟩


-- NOT PRINTED: function 70 (clip_Clip_2)

-- NOT PRINTED: function 27 (clip_Clip)

-- NOT PRINTED: function 80 (clip_Finite_1)

-- NOT PRINTED: function 123 (api_Param_123)

-- NOT PRINTED: function 81 (api_Param_81)

-- NOT PRINTED: function 124 (slices_IndexFunc_uint32_uint32)

-- NOT PRINTED: function 83 (slices_ContainsFunc_uint32_uint32)

-- NOT PRINTED: function 82 (clip_Finite_2)

-- NOT PRINTED: function 32 (clip_Finite)

-- NOT PRINTED: function 7 (anneallaw19_known)

-- NEED 0
/-! ### aD: function 125 -/
def aD.f (a0 : Int) : Option (Int × Int) := if a0 = 0 then (some (5, 10)) else (if a0 = 1 then (some (8, 7)) else (some (8, 23)))
theorem aD.calls (a0 r1 r2 : Int) (w : World) (h : aD.f a0 = some (r1, r2)) :
  Calls Tryz.prog 125 #[.int .i64 a0] w fun e w' => e = .returned (.tuple #[.int .i64 r1, .int .i64 r2]) ∧ Drawn0 w w' := by
 have H : (if a0 = 0 then (some (5, 10)) else (if a0 = 1 then (some (8, 7)) else (some (8, 23)))) = some (r1, r2) := h
 clear h
 by_cases c2 : a0 = 0
 ·rw [if_pos c2] at H
  have c2b0 : (a0 == 0) = true := beq_iff_eq.mpr c2
  have c2b1 : (a0 != 0) = false := bne_eq_false_iff_eq.mpr c2
  clear c2
  simp only [Option.some.injEq, Prod.mk.injEq] at H
  obtain ⟨rfl, rfl⟩ := H
  go_enter Tryz.func125, Tryz.ntmps125
  go_wp2
  go_ret2
  exact ⟨gr_, gd_⟩
 ·rw [if_neg c2] at H
  have c2b0 : (a0 == 0) = false := beq_eq_false_iff_ne.mpr c2
  have c2b1 : (a0 != 0) = true := bne_iff_ne.mpr c2
  by_cases c3 : a0 = 1
  ·rw [if_pos c3] at H
   have c3b0 : (a0 == 1) = true := beq_iff_eq.mpr c3
   have c3b1 : (a0 != 1) = false := bne_eq_false_iff_eq.mpr c3
   clear c3
   simp only [Option.some.injEq, Prod.mk.injEq] at H
   obtain ⟨rfl, rfl⟩ := H
   go_enter Tryz.func125, Tryz.ntmps125
   go_wp2
   go_ret2
   exact ⟨gr_, gd_⟩
  ·rw [if_neg c3] at H
   have c3b0 : (a0 == 1) = false := beq_eq_false_iff_ne.mpr c3
   have c3b1 : (a0 != 1) = true := bne_iff_ne.mpr c3
   simp only [Option.some.injEq, Prod.mk.injEq] at H
   obtain ⟨rfl, rfl⟩ := H
   go_enter Tryz.func125, Tryz.ntmps125
   go_wp2
   go_ret2
   exact ⟨gr_, gd_⟩

-- NEED 0
/-! ### bW: function 122 -/
def bW.f (a0 : Int) (a1 : Bool) : Option (Int) := (aD.f a0).bind fun bt493 => (if a1 = true then (if 0 ≤ (wrap64 (bt493.1 + bt493.2)) then (some (shl .u32 1 (wrap64 (bt493.1 + bt493.2)))) else (none)) else (some 0))
theorem bW.calls (a0 : Int) (a1 : Bool) (r : Int) (w : World) (h : bW.f a0 a1 = some r) :
  Calls Tryz.prog 122 #[.int .i64 a0, .bool a1] w fun e w' => e = .returned (.int .u32 r) ∧ Drawn0 w w' := by
 have H : ((aD.f a0).bind fun bt493 => (if a1 = true then (if 0 ≤ (wrap64 (bt493.1 + bt493.2)) then (some (shl .u32 1 (wrap64 (bt493.1 + bt493.2)))) else (none)) else (some 0))) = some r := h
 clear h
 replace H := bq_ H
 obtain ⟨⟨t493, t494⟩, A30, H⟩ := H
 replace H : (if a1 = true then (if 0 ≤ (wrap64 (t493 + t494)) then (some (shl .u32 1 (wrap64 (t493 + t494)))) else (none)) else (some 0)) = some r := H
 have A3 := Aside0.mk A30
 clear A30
 by_cases c4 : a1 = true
 ·subst c4
  have H1 : (if 0 ≤ (wrap64 (t493 + t494)) then (some (shl .u32 1 (wrap64 (t493 + t494)))) else (none)) = some r := by rw [if_pos rfl] at H; exact H
  clear H
  have H := H1
  clear H1
  obtain ⟨ji5, hji5⟩ : ∃ j_ : Int, (wrap64 (t493 + t494)) = j_ := ⟨_, rfl⟩
  replace H : (if 0 ≤ (ji5) then (some (shl .u32 1 (ji5))) else (none)) = some r := by first | (rw [hji5] at H; exact H) | (simp only [hji5] at H ⊢; exact H)
  (try rw [hji5] at A3)
  have hji5w : (IntKind.i64.wrap (t493 + t494)) = ji5 := (i64_w _).trans hji5
  by_cases c6 : 0 ≤ (ji5)
  ·rw [if_pos c6] at H
   have c6b0 := eq_true c6
   have c6b1 : decide (0 ≤ (ji5)) = true := decide_eq_true c6
   clear c6
   obtain ⟨ji7, hji7⟩ : ∃ j_ : Int, (shl .u32 1 (ji5)) = j_ := ⟨_, rfl⟩
   replace H : (some ji7) = some r := by first | (rw [hji7] at H; exact H) | (simp only [hji7] at H ⊢; exact H)
   (try rw [hji7] at A3)
   have hji7_ : (IntKind.u32.wrap (1 * 2 ^ min (ji5).toNat 32)) = ji7 := hji7
   have hji7z : (ji5) ≤ 32 → (IntKind.u32.wrap (1 * 2 ^ (ji5).toNat)) = ji7 := shl_small hji7
   have hji7u : (IntKind.u32.wrap (2 ^ min (ji5).toNat 32)) = ji7 := by have h_ := hji7_; rw [Int.one_mul] at h_; exact h_
   have hji7v : (ji5) ≤ 32 → (IntKind.u32.wrap (2 ^ (ji5).toNat)) = ji7 := fun hle_ => by have h_ := hji7z hle_; rw [Int.one_mul] at h_; exact h_
   obtain rfl := Option.some.inj H
   go_enter Tryz.func122, Tryz.ntmps122
   go_wp2_with (first | ((with_reducible refine gate_callee (f := 125) rfl ?_); refine goesL_ (some 9) rfl rfl Tryz.func125 (by kernel_rfl) rfl #[.int .i64 a0] rfl gl ?_; (with_reducible refine (aD.calls a0 t493 t494 _ A3.out).mono ?_); rintro e w' ⟨rfl, ⟨nd, rfl⟩⟩; refine ⟨_, rfl, ?_⟩))
   go_ret
   exact ⟨by first | rfl | (simp; done) | (simp only [← hji5, ← hji7] <;> (first | rfl | (simp; done))) | (simp [*]; done) | (congr 1; (try unfold wrap64); omega) | (congr 1; rw [IntKind.wrap_u64]; omega), gd_⟩
  ·rw [if_neg c6] at H
   exact absurd H (by simp)
 ·replace c4 := Bool.eq_false_iff.mpr c4
  subst c4
  have H1 : (some 0) = some r := by rw [if_neg (show ¬ (false = true) by decide)] at H; exact H
  clear H
  have H := H1
  clear H1
  obtain rfl := Option.some.inj H
  go_enter Tryz.func122, Tryz.ntmps122
  go_wp2_with (first | ((with_reducible refine gate_callee (f := 125) rfl ?_); refine goesL_ (some 9) rfl rfl Tryz.func125 (by kernel_rfl) rfl #[.int .i64 a0] rfl gl ?_; (with_reducible refine (aD.calls a0 t493 t494 _ A3.out).mono ?_); rintro e w' ⟨rfl, ⟨nd, rfl⟩⟩; refine ⟨_, rfl, ?_⟩))
  go_ret
  exact ⟨gr_, gd_⟩

-- NEED 0
/-! ### aZ: function 91 -/
def aZ.f (a0 : Int) (a1 : Bool) : Option (Int) := (bW.f a0 a1).bind fun t495 => (some t495)
theorem aZ.calls (a0 : Int) (a1 : Bool) (r : Int) (w : World) (h : aZ.f a0 a1 = some r) :
  Calls Tryz.prog 91 #[.int .i64 a0, .bool a1] w fun e w' => e = .returned (.int .u32 r) ∧ Drawn0 w w' := by
 have H : ((bW.f a0 a1).bind fun t495 => (some t495)) = some r := h
 clear h
 replace H := bq_ H
 obtain ⟨t495, A30, H⟩ := H
 replace H : (some t495) = some r := H
 have A3 := Aside0.mk A30
 clear A30
 obtain rfl := Option.some.inj H
 go_enter Tryz.func91, Tryz.ntmps91
 go_wp2_with (first | ((with_reducible refine gate_callee (f := 122) rfl ?_); refine goesL_ (some 7) rfl rfl Tryz.func122 (by kernel_rfl) rfl #[.int .i64 a0, .bool a1] rfl gl ?_; (with_reducible refine (bW.calls a0 a1 t495 _ A3.out).mono ?_); rintro e w' ⟨rfl, ⟨nd, rfl⟩⟩; refine ⟨_, rfl, ?_⟩))
 go_ret
 exact ⟨gr_, gd_⟩

-- NEED 0
/-! ### eH: function 84 -/
def eH.f (a0 a1 : Int) : Option (Int) := if (Int.tmod a1 7) = 0 then (some 0) else ((aD.f a0).bind fun bt496 => (if 0 ≤ bt496.1 then (if 0 ≤ bt496.2 then (if (shl .u32 4 bt496.2) = 0 then (none) else (if (Go.bits .and .u32 a1 1) = 1 then ((aZ.f a0 true).bind fun t498 => (some (Go.bits .or .u32 (((((shl .u32 ((((shl .u32 1 bt496.1) - 1) % 4294967296) / 2) bt496.2) - (shl .u32 2 bt496.2)) % 4294967296) + (Int.tmod (a1 / 8) (shl .u32 4 bt496.2))) % 4294967296) t498))) else (some (((((shl .u32 ((((shl .u32 1 bt496.1) - 1) % 4294967296) / 2) bt496.2) - (shl .u32 2 bt496.2)) % 4294967296) + (Int.tmod (a1 / 8) (shl .u32 4 bt496.2))) % 4294967296)))) else (none)) else (none)))
theorem eH.calls (a0 a1 r : Int) (w : World) (h : eH.f a0 a1 = some r) :
  Calls Tryz.prog 84 #[.int .i64 a0, .int .u32 a1] w fun e w' => e = .returned (.int .u32 r) ∧ Drawn0 w w' := by
 have H : (if (Int.tmod a1 7) = 0 then (some 0) else ((aD.f a0).bind fun bt496 => (if 0 ≤ bt496.1 then (if 0 ≤ bt496.2 then (if (shl .u32 4 bt496.2) = 0 then (none) else (if (Go.bits .and .u32 a1 1) = 1 then ((aZ.f a0 true).bind fun t498 => (some (Go.bits .or .u32 (((((shl .u32 ((((shl .u32 1 bt496.1) - 1) % 4294967296) / 2) bt496.2) - (shl .u32 2 bt496.2)) % 4294967296) + (Int.tmod (a1 / 8) (shl .u32 4 bt496.2))) % 4294967296) t498))) else (some (((((shl .u32 ((((shl .u32 1 bt496.1) - 1) % 4294967296) / 2) bt496.2) - (shl .u32 2 bt496.2)) % 4294967296) + (Int.tmod (a1 / 8) (shl .u32 4 bt496.2))) % 4294967296)))) else (none)) else (none)))) = some r := h
 clear h
 by_cases c3 : (Int.tmod a1 7) = 0
 ·rw [if_pos c3] at H
  have c3b0 : ((Int.tmod a1 7) == 0) = true := beq_iff_eq.mpr c3
  have c3b1 : ((Int.tmod a1 7) != 0) = false := bne_eq_false_iff_eq.mpr c3
  clear c3
  obtain rfl := Option.some.inj H
  go_enter Tryz.func84, Tryz.ntmps84
  go_wp2
  repeat (go_quiet (fail); try go_wp2)
  go_ret
  exact ⟨gr_, gd_⟩
 ·rw [if_neg c3] at H
  have c3b0 : ((Int.tmod a1 7) == 0) = false := beq_eq_false_iff_ne.mpr c3
  have c3b1 : ((Int.tmod a1 7) != 0) = true := bne_iff_ne.mpr c3
  replace H := bq_ H
  obtain ⟨⟨t496, t497⟩, A40, H⟩ := H
  replace H : (if 0 ≤ t496 then (if 0 ≤ t497 then (if (shl .u32 4 t497) = 0 then (none) else (if (Go.bits .and .u32 a1 1) = 1 then ((aZ.f a0 true).bind fun t498 => (some (Go.bits .or .u32 (((((shl .u32 ((((shl .u32 1 t496) - 1) % 4294967296) / 2) t497) - (shl .u32 2 t497)) % 4294967296) + (Int.tmod (a1 / 8) (shl .u32 4 t497))) % 4294967296) t498))) else (some (((((shl .u32 ((((shl .u32 1 t496) - 1) % 4294967296) / 2) t497) - (shl .u32 2 t497)) % 4294967296) + (Int.tmod (a1 / 8) (shl .u32 4 t497))) % 4294967296)))) else (none)) else (none)) = some r := H
  have A4 := Aside0.mk A40
  clear A40
  by_cases c5 : 0 ≤ t496
  ·rw [if_pos c5] at H
   have c5b0 := eq_true c5
   have c5b1 : decide (0 ≤ t496) = true := decide_eq_true c5
   clear c5
   obtain ⟨ji6, hji6⟩ : ∃ j_ : Int, (shl .u32 1 t496) = j_ := ⟨_, rfl⟩
   replace H : (if 0 ≤ t497 then (if (shl .u32 4 t497) = 0 then (none) else (if (Go.bits .and .u32 a1 1) = 1 then ((aZ.f a0 true).bind fun t498 => (some (Go.bits .or .u32 (((((shl .u32 ((((ji6) - 1) % 4294967296) / 2) t497) - (shl .u32 2 t497)) % 4294967296) + (Int.tmod (a1 / 8) (shl .u32 4 t497))) % 4294967296) t498))) else (some (((((shl .u32 ((((ji6) - 1) % 4294967296) / 2) t497) - (shl .u32 2 t497)) % 4294967296) + (Int.tmod (a1 / 8) (shl .u32 4 t497))) % 4294967296)))) else (none)) = some r := by first | (rw [hji6] at H; exact H) | (simp only [hji6] at H ⊢; exact H)
   (try rw [hji6] at A4)
   have hji6_ : (IntKind.u32.wrap (1 * 2 ^ min t496.toNat 32)) = ji6 := hji6
   have hji6z : t496 ≤ 32 → (IntKind.u32.wrap (1 * 2 ^ t496.toNat)) = ji6 := shl_small hji6
   have hji6u : (IntKind.u32.wrap (2 ^ min t496.toNat 32)) = ji6 := by have h_ := hji6_; rw [Int.one_mul] at h_; exact h_
   have hji6v : t496 ≤ 32 → (IntKind.u32.wrap (2 ^ t496.toNat)) = ji6 := fun hle_ => by have h_ := hji6z hle_; rw [Int.one_mul] at h_; exact h_
   obtain ⟨ji7, hji7⟩ : ∃ j_ : Int, (((ji6) - 1) % 4294967296) = j_ := ⟨_, rfl⟩
   replace H : (if 0 ≤ t497 then (if (shl .u32 4 t497) = 0 then (none) else (if (Go.bits .and .u32 a1 1) = 1 then ((aZ.f a0 true).bind fun t498 => (some (Go.bits .or .u32 (((((shl .u32 ((ji7) / 2) t497) - (shl .u32 2 t497)) % 4294967296) + (Int.tmod (a1 / 8) (shl .u32 4 t497))) % 4294967296) t498))) else (some (((((shl .u32 ((ji7) / 2) t497) - (shl .u32 2 t497)) % 4294967296) + (Int.tmod (a1 / 8) (shl .u32 4 t497))) % 4294967296)))) else (none)) = some r := by first | (rw [hji7] at H; exact H) | (simp only [hji7] at H ⊢; exact H)
   (try rw [hji7] at A4)
   have hji7l : 0 ≤ ji7 := by rw [← hji7]; exact Int.emod_nonneg _ (by decide)
   have hji7h : ji7 ≤ 4294967295 := by have := Int.emod_lt_of_pos (((ji6) - 1)) (show (0 : Int) < 4294967296 by decide); omega
   have hji7w : (IntKind.u32.wrap ((ji6) - 1)) = ji7 := (l7 _).trans hji7
   (try (have hji7_ := hji7; simp only [Int.add_emod_emod, Int.emod_add_emod, Int.sub_emod_emod, Int.emod_sub_emod] at hji7_))
   by_cases c8 : 0 ≤ t497
   ·rw [if_pos c8] at H
    have c8b0 := eq_true c8
    have c8b1 : decide (0 ≤ t497) = true := decide_eq_true c8
    clear c8
    obtain ⟨ji9, hji9⟩ : ∃ j_ : Int, (shl .u32 ((ji7) / 2) t497) = j_ := ⟨_, rfl⟩
    replace H : (if (shl .u32 4 t497) = 0 then (none) else (if (Go.bits .and .u32 a1 1) = 1 then ((aZ.f a0 true).bind fun t498 => (some (Go.bits .or .u32 (((((ji9) - (shl .u32 2 t497)) % 4294967296) + (Int.tmod (a1 / 8) (shl .u32 4 t497))) % 4294967296) t498))) else (some (((((ji9) - (shl .u32 2 t497)) % 4294967296) + (Int.tmod (a1 / 8) (shl .u32 4 t497))) % 4294967296)))) = some r := by first | (rw [hji9] at H; exact H) | (simp only [hji9] at H ⊢; exact H)
    (try rw [hji9] at A4)
    have hji9_ : (IntKind.u32.wrap (((ji7) / 2) * 2 ^ min t497.toNat 32)) = ji9 := hji9
    have hji9z : t497 ≤ 32 → (IntKind.u32.wrap (((ji7) / 2) * 2 ^ t497.toNat)) = ji9 := shl_small hji9
    have c10b0 := eq_true (of_decide_eq_true (by first | (with_reducible assumption) | assumption) : 0 ≤ t497)
    obtain ⟨ji11, hji11⟩ : ∃ j_ : Int, (shl .u32 2 t497) = j_ := ⟨_, rfl⟩
    replace H : (if (shl .u32 4 t497) = 0 then (none) else (if (Go.bits .and .u32 a1 1) = 1 then ((aZ.f a0 true).bind fun t498 => (some (Go.bits .or .u32 (((((ji9) - (ji11)) % 4294967296) + (Int.tmod (a1 / 8) (shl .u32 4 t497))) % 4294967296) t498))) else (some (((((ji9) - (ji11)) % 4294967296) + (Int.tmod (a1 / 8) (shl .u32 4 t497))) % 4294967296)))) = some r := by first | (rw [hji11] at H; exact H) | (simp only [hji11] at H ⊢; exact H)
    (try rw [hji11] at A4)
    have hji11_ : (IntKind.u32.wrap (2 * 2 ^ min t497.toNat 32)) = ji11 := hji11
    have hji11z : t497 ≤ 32 → (IntKind.u32.wrap (2 * 2 ^ t497.toNat)) = ji11 := shl_small hji11
    obtain ⟨ji12, hji12⟩ : ∃ j_ : Int, (((ji9) - (ji11)) % 4294967296) = j_ := ⟨_, rfl⟩
    replace H : (if (shl .u32 4 t497) = 0 then (none) else (if (Go.bits .and .u32 a1 1) = 1 then ((aZ.f a0 true).bind fun t498 => (some (Go.bits .or .u32 (((ji12) + (Int.tmod (a1 / 8) (shl .u32 4 t497))) % 4294967296) t498))) else (some (((ji12) + (Int.tmod (a1 / 8) (shl .u32 4 t497))) % 4294967296)))) = some r := by first | (rw [hji12] at H; exact H) | (simp only [hji12] at H ⊢; exact H)
    (try rw [hji12] at A4)
    have hji12l : 0 ≤ ji12 := by rw [← hji12]; exact Int.emod_nonneg _ (by decide)
    have hji12h : ji12 ≤ 4294967295 := by have := Int.emod_lt_of_pos (((ji9) - (ji11))) (show (0 : Int) < 4294967296 by decide); omega
    have hji12w : (IntKind.u32.wrap ((ji9) - (ji11))) = ji12 := (l7 _).trans hji12
    (try (have hji12_ := hji12; simp only [Int.add_emod_emod, Int.emod_add_emod, Int.sub_emod_emod, Int.emod_sub_emod] at hji12_))
    have c13b0 := eq_true (of_decide_eq_true (by first | (with_reducible assumption) | assumption) : 0 ≤ t497)
    obtain ⟨ji14, hji14⟩ : ∃ j_ : Int, (shl .u32 4 t497) = j_ := ⟨_, rfl⟩
    replace H : (if (ji14) = 0 then (none) else (if (Go.bits .and .u32 a1 1) = 1 then ((aZ.f a0 true).bind fun t498 => (some (Go.bits .or .u32 (((ji12) + (Int.tmod (a1 / 8) (ji14))) % 4294967296) t498))) else (some (((ji12) + (Int.tmod (a1 / 8) (ji14))) % 4294967296)))) = some r := by first | (rw [hji14] at H; exact H) | (simp only [hji14] at H ⊢; exact H)
    (try rw [hji14] at A4)
    have hji14_ : (IntKind.u32.wrap (4 * 2 ^ min t497.toNat 32)) = ji14 := hji14
    have hji14z : t497 ≤ 32 → (IntKind.u32.wrap (4 * 2 ^ t497.toNat)) = ji14 := shl_small hji14
    by_cases c15 : (ji14) = 0
    ·rw [if_pos c15] at H
     exact absurd H (by simp)
    ·rw [if_neg c15] at H
     have c15b0 : ((ji14) == 0) = false := beq_eq_false_iff_ne.mpr c15
     have c15b1 : ((ji14) != 0) = true := bne_iff_ne.mpr c15
     obtain ⟨ji16, hji16⟩ : ∃ j_ : Int, (((ji12) + (Int.tmod (a1 / 8) (ji14))) % 4294967296) = j_ := ⟨_, rfl⟩
     replace H : (if (Go.bits .and .u32 a1 1) = 1 then ((aZ.f a0 true).bind fun t498 => (some (Go.bits .or .u32 (ji16) t498))) else (some ji16)) = some r := by first | (rw [hji16] at H; exact H) | (simp only [hji16] at H ⊢; exact H)
     (try rw [hji16] at A4)
     have hji16l : 0 ≤ ji16 := by rw [← hji16]; exact Int.emod_nonneg _ (by decide)
     have hji16h : ji16 ≤ 4294967295 := by have := Int.emod_lt_of_pos (((ji12) + (Int.tmod (a1 / 8) (ji14)))) (show (0 : Int) < 4294967296 by decide); omega
     have hji16w : (IntKind.u32.wrap ((ji12) + (Int.tmod (a1 / 8) (ji14)))) = ji16 := (l7 _).trans hji16
     (try (have hji16_ := hji16; simp only [Int.add_emod_emod, Int.emod_add_emod, Int.sub_emod_emod, Int.emod_sub_emod] at hji16_))
     by_cases c17 : (Go.bits .and .u32 a1 1) = 1
     ·rw [if_pos c17] at H
      have c17b0 : ((Go.bits .and .u32 a1 1) == 1) = true := beq_iff_eq.mpr c17
      have c17b1 : ((Go.bits .and .u32 a1 1) != 1) = false := bne_eq_false_iff_eq.mpr c17
      clear c17
      replace H := bq_ H
      obtain ⟨t498, A180, H⟩ := H
      replace H : (some (Go.bits .or .u32 (ji16) t498)) = some r := H
      have A18 := Aside0.mk A180
      clear A180
      obtain rfl := Option.some.inj H
      go_enter Tryz.func84, Tryz.ntmps84
      go_wp2_with (first | (go_at_call 125; (with_reducible refine (aD.calls a0 t496 t497 _ A4.out).mono ?_); rintro e w' ⟨rfl, ⟨nd, rfl⟩⟩; (try first | exact ⟨rfl, _, World.drewN_drewN _ _ _⟩ | exact ⟨rfl, _, Eq.trans (World.drewN_drewN _ _ _) (congrArg (World.drewN _) (Nat.add_assoc _ _ _))⟩)) | (go_at_call 91; (with_reducible refine (aZ.calls a0 true t498 _ A18.out).mono ?_); rintro e w' ⟨rfl, ⟨nd, rfl⟩⟩; (try first | exact ⟨rfl, _, World.drewN_drewN _ _ _⟩ | exact ⟨rfl, _, Eq.trans (World.drewN_drewN _ _ _) (congrArg (World.drewN _) (Nat.add_assoc _ _ _))⟩)))
      repeat (go_quiet (first | (go_at_call 125; (with_reducible refine (aD.calls a0 t496 t497 _ A4.out).mono ?_); rintro e w' ⟨rfl, ⟨nd, rfl⟩⟩; (try first | exact ⟨rfl, _, World.drewN_drewN _ _ _⟩ | exact ⟨rfl, _, Eq.trans (World.drewN_drewN _ _ _) (congrArg (World.drewN _) (Nat.add_assoc _ _ _))⟩)) | (go_at_call 91; (with_reducible refine (aZ.calls a0 true t498 _ A18.out).mono ?_); rintro e w' ⟨rfl, ⟨nd, rfl⟩⟩; (try first | exact ⟨rfl, _, World.drewN_drewN _ _ _⟩ | exact ⟨rfl, _, Eq.trans (World.drewN_drewN _ _ _) (congrArg (World.drewN _) (Nat.add_assoc _ _ _))⟩))); try go_wp2_with (first | (go_at_call 125; (with_reducible refine (aD.calls a0 t496 t497 _ A4.out).mono ?_); rintro e w' ⟨rfl, ⟨nd, rfl⟩⟩; (try first | exact ⟨rfl, _, World.drewN_drewN _ _ _⟩ | exact ⟨rfl, _, Eq.trans (World.drewN_drewN _ _ _) (congrArg (World.drewN _) (Nat.add_assoc _ _ _))⟩)) | (go_at_call 91; (with_reducible refine (aZ.calls a0 true t498 _ A18.out).mono ?_); rintro e w' ⟨rfl, ⟨nd, rfl⟩⟩; (try first | exact ⟨rfl, _, World.drewN_drewN _ _ _⟩ | exact ⟨rfl, _, Eq.trans (World.drewN_drewN _ _ _) (congrArg (World.drewN _) (Nat.add_assoc _ _ _))⟩))))
      go_ret
      exact ⟨by first | rfl | (simp; done) | (simp only [← hji6, ← hji7, ← hji9, ← hji11, ← hji12, ← hji14, ← hji16] <;> (first | rfl | (simp; done))) | (simp [*]; done) | (congr 1; (try unfold wrap64); omega) | (congr 1; rw [IntKind.wrap_u64]; omega), gd_⟩
     ·rw [if_neg c17] at H
      have c17b0 : ((Go.bits .and .u32 a1 1) == 1) = false := beq_eq_false_iff_ne.mpr c17
      have c17b1 : ((Go.bits .and .u32 a1 1) != 1) = true := bne_iff_ne.mpr c17
      obtain rfl := Option.some.inj H
      go_enter Tryz.func84, Tryz.ntmps84
      go_wp2_with (first | (go_at_call 125; (with_reducible refine (aD.calls a0 t496 t497 _ A4.out).mono ?_); rintro e w' ⟨rfl, ⟨nd, rfl⟩⟩; (try first | exact ⟨rfl, _, World.drewN_drewN _ _ _⟩ | exact ⟨rfl, _, Eq.trans (World.drewN_drewN _ _ _) (congrArg (World.drewN _) (Nat.add_assoc _ _ _))⟩)))
      repeat (go_quiet (first | (go_at_call 125; (with_reducible refine (aD.calls a0 t496 t497 _ A4.out).mono ?_); rintro e w' ⟨rfl, ⟨nd, rfl⟩⟩; (try first | exact ⟨rfl, _, World.drewN_drewN _ _ _⟩ | exact ⟨rfl, _, Eq.trans (World.drewN_drewN _ _ _) (congrArg (World.drewN _) (Nat.add_assoc _ _ _))⟩))); try go_wp2_with (first | (go_at_call 125; (with_reducible refine (aD.calls a0 t496 t497 _ A4.out).mono ?_); rintro e w' ⟨rfl, ⟨nd, rfl⟩⟩; (try first | exact ⟨rfl, _, World.drewN_drewN _ _ _⟩ | exact ⟨rfl, _, Eq.trans (World.drewN_drewN _ _ _) (congrArg (World.drewN _) (Nat.add_assoc _ _ _))⟩))))
      go_ret
      exact ⟨by first | rfl | (simp; done) | (simp only [← hji6, ← hji7, ← hji9, ← hji11, ← hji12, ← hji14, ← hji16] <;> (first | rfl | (simp; done))) | (simp [*]; done) | (congr 1; (try unfold wrap64); omega) | (congr 1; rw [IntKind.wrap_u64]; omega), gd_⟩
   ·rw [if_neg c8] at H
    exact absurd H (by simp)
  ·rw [if_neg c5] at H
   exact absurd H (by simp)

-- NEED 0
/-! ### bM: function 90 -/
def bM.f (a0 : Int) : Option (Int) := (aD.f a0).bind fun bt499 => (if 0 ≤ (wrap64 ((wrap64 (1 + bt499.1)) + bt499.2)) then (some ((IntKind.u64.wrap ((shl .u64 1 (wrap64 ((wrap64 (1 + bt499.1)) + bt499.2))) - 1)) % 4294967296)) else (none))
theorem bM.calls (a0 r : Int) (w : World) (h : bM.f a0 = some r) :
  Calls Tryz.prog 90 #[.int .i64 a0] w fun e w' => e = .returned (.int .u32 r) ∧ Drawn0 w w' := by
 have H : ((aD.f a0).bind fun bt499 => (if 0 ≤ (wrap64 ((wrap64 (1 + bt499.1)) + bt499.2)) then (some ((IntKind.u64.wrap ((shl .u64 1 (wrap64 ((wrap64 (1 + bt499.1)) + bt499.2))) - 1)) % 4294967296)) else (none))) = some r := h
 clear h
 replace H := bq_ H
 obtain ⟨⟨t499, t500⟩, A20, H⟩ := H
 replace H : (if 0 ≤ (wrap64 ((wrap64 (1 + t499)) + t500)) then (some ((IntKind.u64.wrap ((shl .u64 1 (wrap64 ((wrap64 (1 + t499)) + t500))) - 1)) % 4294967296)) else (none)) = some r := H
 have A2 := Aside0.mk A20
 clear A20
 obtain ⟨ji3, hji3⟩ : ∃ j_ : Int, (wrap64 ((wrap64 (1 + t499)) + t500)) = j_ := ⟨_, rfl⟩
 replace H : (if 0 ≤ (ji3) then (some ((IntKind.u64.wrap ((shl .u64 1 (ji3)) - 1)) % 4294967296)) else (none)) = some r := by first | (rw [hji3] at H; exact H) | (simp only [hji3] at H ⊢; exact H)
 (try rw [hji3] at A2)
 have hji3w : (IntKind.i64.wrap ((wrap64 (1 + t499)) + t500)) = ji3 := (i64_w _).trans hji3
 by_cases c4 : 0 ≤ (ji3)
 ·rw [if_pos c4] at H
  have c4b0 := eq_true c4
  have c4b1 : decide (0 ≤ (ji3)) = true := decide_eq_true c4
  clear c4
  obtain ⟨ji5, hji5⟩ : ∃ j_ : Int, (shl .u64 1 (ji3)) = j_ := ⟨_, rfl⟩
  replace H : (some ((IntKind.u64.wrap ((ji5) - 1)) % 4294967296)) = some r := by first | (rw [hji5] at H; exact H) | (simp only [hji5] at H ⊢; exact H)
  (try rw [hji5] at A2)
  have hji5_ : (IntKind.u64.wrap (1 * 2 ^ min (ji3).toNat 64)) = ji5 := hji5
  have hji5z : (ji3) ≤ 64 → (IntKind.u64.wrap (1 * 2 ^ (ji3).toNat)) = ji5 := shl_small hji5
  have hji5u : (IntKind.u64.wrap (2 ^ min (ji3).toNat 64)) = ji5 := by have h_ := hji5_; rw [Int.one_mul] at h_; exact h_
  have hji5v : (ji3) ≤ 64 → (IntKind.u64.wrap (2 ^ (ji3).toNat)) = ji5 := fun hle_ => by have h_ := hji5z hle_; rw [Int.one_mul] at h_; exact h_
  obtain rfl := Option.some.inj H
  go_enter Tryz.func90, Tryz.ntmps90
  go_wp2_with (first | ((with_reducible refine gate_callee (f := 125) rfl ?_); refine goesL_ (some 7) rfl rfl Tryz.func125 (by kernel_rfl) rfl #[.int .i64 a0] rfl gl ?_; (with_reducible refine (aD.calls a0 t499 t500 _ A2.out).mono ?_); rintro e w' ⟨rfl, ⟨nd, rfl⟩⟩; refine ⟨_, rfl, ?_⟩))
  go_ret
  exact ⟨by first | rfl | (simp; done) | (simp only [← hji3, ← hji5] <;> (first | rfl | (simp; done))) | (simp [*]; done) | (congr 1; (try unfold wrap64); omega) | (congr 1; rw [IntKind.wrap_u64]; omega), gd_⟩
 ·rw [if_neg c4] at H
  exact absurd H (by simp)

-- NEED 0
/-! ### bP: function 85 -/
def bP.f (a0 a1 : Int) : Option (Int) := (aD.f a0).bind fun bt501 => (if 0 ≤ bt501.1 then (if 0 ≤ bt501.2 then (if (shl .u32 3 bt501.2) = 0 then (none) else (if 0 ≤ (wrap64 (bt501.2 - 1)) then (if (shl .u32 9 bt501.2) = 0 then (none) else ((some (([0, 1, ((shl .u32 1 bt501.2) - 1) % 4294967296, shl .u32 1 bt501.2, shl .u32 ((((shl .u32 1 bt501.1) - 1) % 4294967296) / 2) bt501.2, ((shl .u32 ((((shl .u32 1 bt501.1) - 1) % 4294967296) / 2) bt501.2) + 1) % 4294967296, ((shl .u32 ((((shl .u32 1 bt501.1) - 1) % 4294967296) / 2) bt501.2) - 1) % 4294967296, ((shl .u32 ((((shl .u32 1 bt501.1) - 1) % 4294967296) / 2) bt501.2) + (shl .u32 1 bt501.2)) % 4294967296, ((shl .u32 ((((shl .u32 1 bt501.1) - 1) % 4294967296) / 2) bt501.2) + (Int.tmod (a1 / 16) (shl .u32 3 bt501.2))) % 4294967296, ((shl .u32 (((shl .u32 1 bt501.1) - 1) % 4294967296) bt501.2) - 1) % 4294967296, shl .u32 (((shl .u32 1 bt501.1) - 1) % 4294967296) bt501.2, Go.bits .or .u32 (shl .u32 (((shl .u32 1 bt501.1) - 1) % 4294967296) bt501.2) 1, Go.bits .or .u32 (shl .u32 (((shl .u32 1 bt501.1) - 1) % 4294967296) bt501.2) (shl .u32 1 (wrap64 (bt501.2 - 1))), ((shl .u32 ((((shl .u32 1 bt501.1) - 1) % 4294967296) / 2) bt501.2) - (Int.tmod (a1 / 16) (shl .u32 9 bt501.2))) % 4294967296, a1 / 16] : List Int) : List Int)).bind fun y503 => (if 0 ≤ (Int.tmod a1 15) then (if (Int.tmod a1 15) < (y503.length : Int) then ((bM.f a0).bind fun t507 => (if (a1 / 2147483648) = 1 then ((aZ.f a0 true).bind fun t508 => (some (Go.bits .or .u32 (Go.bits .and .u32 (rd y503 (Int.tmod a1 15)) t507) t508))) else (some (Go.bits .and .u32 (rd y503 (Int.tmod a1 15)) t507)))) else (none)) else (none)))) else (none))) else (none)) else (none))


-- NEED 0
/-! ### bQ: function 126 -/
def bQ.f (a0 a1 : Int) : Option (Bool × Int × Int) := (aD.f a0).bind fun bt542 => ((bM.f a0).bind fun t544 => (if 0 ≤ (wrap64 (bt542.1 + bt542.2)) then (if 0 ≤ bt542.2 then (if 0 ≤ bt542.1 then (some (((shr .u32 (Go.bits .and .u32 a1 t544) (wrap64 (bt542.1 + bt542.2))) == 1), wrap64 (Go.bits .and .u32 (shr .u32 (Go.bits .and .u32 a1 t544) bt542.2) (((shl .u32 1 bt542.1) - 1) % 4294967296)), IntKind.u64.wrap (Go.bits .and .u32 (Go.bits .and .u32 a1 t544) (((shl .u32 1 bt542.2) - 1) % 4294967296)))) else (none)) else (none)) else (none)))
theorem bQ.calls (a0 a1 : Int) (r1 : Bool) (r2 r3 : Int) (w : World) (h : bQ.f a0 a1 = some (r1, r2, r3)) :
  Calls Tryz.prog 126 #[.int .i64 a0, .int .u32 a1] w fun e w' => e = .returned (.tuple #[.bool r1, .int .i64 r2, .int .u64 r3]) ∧ Drawn0 w w' := by
 have H : ((aD.f a0).bind fun bt542 => ((bM.f a0).bind fun t544 => (if 0 ≤ (wrap64 (bt542.1 + bt542.2)) then (if 0 ≤ bt542.2 then (if 0 ≤ bt542.1 then (some (((shr .u32 (Go.bits .and .u32 a1 t544) (wrap64 (bt542.1 + bt542.2))) == 1), wrap64 (Go.bits .and .u32 (shr .u32 (Go.bits .and .u32 a1 t544) bt542.2) (((shl .u32 1 bt542.1) - 1) % 4294967296)), IntKind.u64.wrap (Go.bits .and .u32 (Go.bits .and .u32 a1 t544) (((shl .u32 1 bt542.2) - 1) % 4294967296)))) else (none)) else (none)) else (none)))) = some (r1, r2, r3) := h
 clear h
 replace H := bq_ H
 obtain ⟨⟨t542, t543⟩, A30, H⟩ := H
 replace H : ((bM.f a0).bind fun t544 => (if 0 ≤ (wrap64 (t542 + t543)) then (if 0 ≤ t543 then (if 0 ≤ t542 then (some (((shr .u32 (Go.bits .and .u32 a1 t544) (wrap64 (t542 + t543))) == 1), wrap64 (Go.bits .and .u32 (shr .u32 (Go.bits .and .u32 a1 t544) t543) (((shl .u32 1 t542) - 1) % 4294967296)), IntKind.u64.wrap (Go.bits .and .u32 (Go.bits .and .u32 a1 t544) (((shl .u32 1 t543) - 1) % 4294967296)))) else (none)) else (none)) else (none))) = some (r1, r2, r3) := H
 have A3 := Aside0.mk A30
 clear A30
 replace H := bq_ H
 obtain ⟨t544, A40, H⟩ := H
 replace H : (if 0 ≤ (wrap64 (t542 + t543)) then (if 0 ≤ t543 then (if 0 ≤ t542 then (some (((shr .u32 (Go.bits .and .u32 a1 t544) (wrap64 (t542 + t543))) == 1), wrap64 (Go.bits .and .u32 (shr .u32 (Go.bits .and .u32 a1 t544) t543) (((shl .u32 1 t542) - 1) % 4294967296)), IntKind.u64.wrap (Go.bits .and .u32 (Go.bits .and .u32 a1 t544) (((shl .u32 1 t543) - 1) % 4294967296)))) else (none)) else (none)) else (none)) = some (r1, r2, r3) := H
 have A4 := Aside0.mk A40
 clear A40
 obtain ⟨ji5, hji5⟩ : ∃ j_ : Int, (wrap64 (t542 + t543)) = j_ := ⟨_, rfl⟩
 replace H : (if 0 ≤ (ji5) then (if 0 ≤ t543 then (if 0 ≤ t542 then (some (((shr .u32 (Go.bits .and .u32 a1 t544) (ji5)) == 1), wrap64 (Go.bits .and .u32 (shr .u32 (Go.bits .and .u32 a1 t544) t543) (((shl .u32 1 t542) - 1) % 4294967296)), IntKind.u64.wrap (Go.bits .and .u32 (Go.bits .and .u32 a1 t544) (((shl .u32 1 t543) - 1) % 4294967296)))) else (none)) else (none)) else (none)) = some (r1, r2, r3) := by first | (rw [hji5] at H; exact H) | (simp only [hji5] at H ⊢; exact H)
 (try rw [hji5] at A3)
 (try rw [hji5] at A4)
 have hji5w : (IntKind.i64.wrap (t542 + t543)) = ji5 := (i64_w _).trans hji5
 by_cases c6 : 0 ≤ (ji5)
 ·rw [if_pos c6] at H
  have c6b0 := eq_true c6
  have c6b1 : decide (0 ≤ (ji5)) = true := decide_eq_true c6
  clear c6
  obtain ⟨ji7, hji7⟩ : ∃ j_ : Int, (shr .u32 (Go.bits .and .u32 a1 t544) (ji5)) = j_ := ⟨_, rfl⟩
  replace H : (if 0 ≤ t543 then (if 0 ≤ t542 then (some (((ji7) == 1), wrap64 (Go.bits .and .u32 (shr .u32 (Go.bits .and .u32 a1 t544) t543) (((shl .u32 1 t542) - 1) % 4294967296)), IntKind.u64.wrap (Go.bits .and .u32 (Go.bits .and .u32 a1 t544) (((shl .u32 1 t543) - 1) % 4294967296)))) else (none)) else (none)) = some (r1, r2, r3) := by first | (rw [hji7] at H; exact H) | (simp only [hji7] at H ⊢; exact H)
  (try rw [hji7] at A3)
  (try rw [hji7] at A4)
  have hji7_ : ((Go.bits .and .u32 a1 t544) / 2 ^ min (ji5).toNat 32) = ji7 := hji7
  have hji7z : (ji5) ≤ 32 → ((Go.bits .and .u32 a1 t544) / 2 ^ (ji5).toNat) = ji7 := shr_small hji7
  by_cases c8 : 0 ≤ t543
  ·rw [if_pos c8] at H
   have c8b0 := eq_true c8
   have c8b1 : decide (0 ≤ t543) = true := decide_eq_true c8
   clear c8
   obtain ⟨ji9, hji9⟩ : ∃ j_ : Int, (shr .u32 (Go.bits .and .u32 a1 t544) t543) = j_ := ⟨_, rfl⟩
   replace H : (if 0 ≤ t542 then (some (((ji7) == 1), wrap64 (Go.bits .and .u32 (ji9) (((shl .u32 1 t542) - 1) % 4294967296)), IntKind.u64.wrap (Go.bits .and .u32 (Go.bits .and .u32 a1 t544) (((shl .u32 1 t543) - 1) % 4294967296)))) else (none)) = some (r1, r2, r3) := by first | (rw [hji9] at H; exact H) | (simp only [hji9] at H ⊢; exact H)
   (try rw [hji9] at A3)
   (try rw [hji9] at A4)
   have hji9_ : ((Go.bits .and .u32 a1 t544) / 2 ^ min t543.toNat 32) = ji9 := hji9
   have hji9z : t543 ≤ 32 → ((Go.bits .and .u32 a1 t544) / 2 ^ t543.toNat) = ji9 := shr_small hji9
   by_cases c10 : 0 ≤ t542
   ·rw [if_pos c10] at H
    have c10b0 := eq_true c10
    have c10b1 : decide (0 ≤ t542) = true := decide_eq_true c10
    clear c10
    obtain ⟨ji11, hji11⟩ : ∃ j_ : Int, (shl .u32 1 t542) = j_ := ⟨_, rfl⟩
    replace H : (some (((ji7) == 1), wrap64 (Go.bits .and .u32 (ji9) (((ji11) - 1) % 4294967296)), IntKind.u64.wrap (Go.bits .and .u32 (Go.bits .and .u32 a1 t544) (((shl .u32 1 t543) - 1) % 4294967296)))) = some (r1, r2, r3) := by first | (rw [hji11] at H; exact H) | (simp only [hji11] at H ⊢; exact H)
    (try rw [hji11] at A3)
    (try rw [hji11] at A4)
    have hji11_ : (IntKind.u32.wrap (1 * 2 ^ min t542.toNat 32)) = ji11 := hji11
    have hji11z : t542 ≤ 32 → (IntKind.u32.wrap (1 * 2 ^ t542.toNat)) = ji11 := shl_small hji11
    have hji11u : (IntKind.u32.wrap (2 ^ min t542.toNat 32)) = ji11 := by have h_ := hji11_; rw [Int.one_mul] at h_; exact h_
    have hji11v : t542 ≤ 32 → (IntKind.u32.wrap (2 ^ t542.toNat)) = ji11 := fun hle_ => by have h_ := hji11z hle_; rw [Int.one_mul] at h_; exact h_
    obtain ⟨ji12, hji12⟩ : ∃ j_ : Int, (((ji11) - 1) % 4294967296) = j_ := ⟨_, rfl⟩
    replace H : (some (((ji7) == 1), wrap64 (Go.bits .and .u32 (ji9) (ji12)), IntKind.u64.wrap (Go.bits .and .u32 (Go.bits .and .u32 a1 t544) (((shl .u32 1 t543) - 1) % 4294967296)))) = some (r1, r2, r3) := by first | (rw [hji12] at H; exact H) | (simp only [hji12] at H ⊢; exact H)
    (try rw [hji12] at A3)
    (try rw [hji12] at A4)
    have hji12l : 0 ≤ ji12 := by rw [← hji12]; exact Int.emod_nonneg _ (by decide)
    have hji12h : ji12 ≤ 4294967295 := by have := Int.emod_lt_of_pos (((ji11) - 1)) (show (0 : Int) < 4294967296 by decide); omega
    have hji12w : (IntKind.u32.wrap ((ji11) - 1)) = ji12 := (l7 _).trans hji12
    (try (have hji12_ := hji12; simp only [Int.add_emod_emod, Int.emod_add_emod, Int.sub_emod_emod, Int.emod_sub_emod] at hji12_))
    have c13b0 := eq_true (of_decide_eq_true (by first | (with_reducible assumption) | assumption) : 0 ≤ t543)
    obtain ⟨ji14, hji14⟩ : ∃ j_ : Int, (shl .u32 1 t543) = j_ := ⟨_, rfl⟩
    replace H : (some (((ji7) == 1), wrap64 (Go.bits .and .u32 (ji9) (ji12)), IntKind.u64.wrap (Go.bits .and .u32 (Go.bits .and .u32 a1 t544) (((ji14) - 1) % 4294967296)))) = some (r1, r2, r3) := by first | (rw [hji14] at H; exact H) | (simp only [hji14] at H ⊢; exact H)
    (try rw [hji14] at A3)
    (try rw [hji14] at A4)
    have hji14_ : (IntKind.u32.wrap (1 * 2 ^ min t543.toNat 32)) = ji14 := hji14
    have hji14z : t543 ≤ 32 → (IntKind.u32.wrap (1 * 2 ^ t543.toNat)) = ji14 := shl_small hji14
    have hji14u : (IntKind.u32.wrap (2 ^ min t543.toNat 32)) = ji14 := by have h_ := hji14_; rw [Int.one_mul] at h_; exact h_
    have hji14v : t543 ≤ 32 → (IntKind.u32.wrap (2 ^ t543.toNat)) = ji14 := fun hle_ => by have h_ := hji14z hle_; rw [Int.one_mul] at h_; exact h_
    obtain ⟨ji15, hji15⟩ : ∃ j_ : Int, (((ji14) - 1) % 4294967296) = j_ := ⟨_, rfl⟩
    replace H : (some (((ji7) == 1), wrap64 (Go.bits .and .u32 (ji9) (ji12)), IntKind.u64.wrap (Go.bits .and .u32 (Go.bits .and .u32 a1 t544) (ji15)))) = some (r1, r2, r3) := by first | (rw [hji15] at H; exact H) | (simp only [hji15] at H ⊢; exact H)
    (try rw [hji15] at A3)
    (try rw [hji15] at A4)
    have hji15l : 0 ≤ ji15 := by rw [← hji15]; exact Int.emod_nonneg _ (by decide)
    have hji15h : ji15 ≤ 4294967295 := by have := Int.emod_lt_of_pos (((ji14) - 1)) (show (0 : Int) < 4294967296 by decide); omega
    have hji15w : (IntKind.u32.wrap ((ji14) - 1)) = ji15 := (l7 _).trans hji15
    (try (have hji15_ := hji15; simp only [Int.add_emod_emod, Int.emod_add_emod, Int.sub_emod_emod, Int.emod_sub_emod] at hji15_))
    simp only [Option.some.injEq, Prod.mk.injEq] at H
    obtain ⟨rfl, rfl, rfl⟩ := H
    go_enter Tryz.func126, Tryz.ntmps126
    go_wp2_with (first | (go_at_call 125; (with_reducible refine (aD.calls a0 t542 t543 _ A3.out).mono ?_); rintro e w' ⟨rfl, ⟨nd, rfl⟩⟩; (try first | exact ⟨rfl, _, World.drewN_drewN _ _ _⟩ | exact ⟨rfl, _, Eq.trans (World.drewN_drewN _ _ _) (congrArg (World.drewN _) (Nat.add_assoc _ _ _))⟩)) | (go_at_call 90; (with_reducible refine (bM.calls a0 t544 _ A4.out).mono ?_); rintro e w' ⟨rfl, ⟨nd, rfl⟩⟩; (try first | exact ⟨rfl, _, World.drewN_drewN _ _ _⟩ | exact ⟨rfl, _, Eq.trans (World.drewN_drewN _ _ _) (congrArg (World.drewN _) (Nat.add_assoc _ _ _))⟩)))
    repeat (go_quiet (first | (go_at_call 125; (with_reducible refine (aD.calls a0 t542 t543 _ A3.out).mono ?_); rintro e w' ⟨rfl, ⟨nd, rfl⟩⟩; (try first | exact ⟨rfl, _, World.drewN_drewN _ _ _⟩ | exact ⟨rfl, _, Eq.trans (World.drewN_drewN _ _ _) (congrArg (World.drewN _) (Nat.add_assoc _ _ _))⟩)) | (go_at_call 90; (with_reducible refine (bM.calls a0 t544 _ A4.out).mono ?_); rintro e w' ⟨rfl, ⟨nd, rfl⟩⟩; (try first | exact ⟨rfl, _, World.drewN_drewN _ _ _⟩ | exact ⟨rfl, _, Eq.trans (World.drewN_drewN _ _ _) (congrArg (World.drewN _) (Nat.add_assoc _ _ _))⟩))); try go_wp2_with (first | (go_at_call 125; (with_reducible refine (aD.calls a0 t542 t543 _ A3.out).mono ?_); rintro e w' ⟨rfl, ⟨nd, rfl⟩⟩; (try first | exact ⟨rfl, _, World.drewN_drewN _ _ _⟩ | exact ⟨rfl, _, Eq.trans (World.drewN_drewN _ _ _) (congrArg (World.drewN _) (Nat.add_assoc _ _ _))⟩)) | (go_at_call 90; (with_reducible refine (bM.calls a0 t544 _ A4.out).mono ?_); rintro e w' ⟨rfl, ⟨nd, rfl⟩⟩; (try first | exact ⟨rfl, _, World.drewN_drewN _ _ _⟩ | exact ⟨rfl, _, Eq.trans (World.drewN_drewN _ _ _) (congrArg (World.drewN _) (Nat.add_assoc _ _ _))⟩))))
    go_ret3
    exact ⟨by first | rfl | (simp; done) | (simp only [← hji5, ← hji7, ← hji9, ← hji11, ← hji12, ← hji14, ← hji15] <;> (first | rfl | (simp; done))) | (simp [*]; done) | (congr 1; (try unfold wrap64); omega) | (congr 1; rw [IntKind.wrap_u64]; omega), gd_⟩
   ·rw [if_neg c10] at H
    exact absurd H (by simp)
  ·rw [if_neg c8] at H
   exact absurd H (by simp)
 ·rw [if_neg c6] at H
  exact absurd H (by simp)

-- NEED 0
/-! ### aH: function 121 -/
def aH.j0 : Nat → Int → Int → Int → Int → Bool → Option (Int)
 |0, _, _, _, _, _ => none
 |k + 1, x5, x6, x8, x9, x22 => if x22 = true then (some 0) else (if x8 = 0 then (some 1) else (if 0 ≤ x5 then (if x8 < (wrap64 ((shl .i64 1 x5) - 1)) then (some 2) else (if x9 = 0 then (some 3) else (if 0 ≤ (wrap64 (x6 - 1)) then (if (shr .u64 x9 (wrap64 (x6 - 1))) = 1 then (some 4) else (some 5)) else (none)))) else (none)))
def aH.f (k : Nat) (a0 a1 : Int) : Option (Int) := (aD.f a0).bind fun bt545 => ((bQ.f a0 a1).bind fun bt547 => (if bt547.2.1 = 0 then (aH.j0 k bt545.1 bt545.2 bt547.2.1 bt547.2.2 (bt547.2.2 == 0)) else (aH.j0 k bt545.1 bt545.2 bt547.2.1 bt547.2.2 false)))
theorem aH.eX : ∀ k, (∀ y0 y1 y2 y3 y4, LeO (aH.j0 k y0 y1 y2 y3 y4) (aH.j0 (k + 1) y0 y1 y2 y3 y4))
 |0 => fun _ _ _ _ _ r h => by simp [aH.j0] at h
 |k + 1 => by
  have ih0 := aH.eX k
  ·intro y0 y1 y2 y3 y4
   unfold aH.j0
   repeat' first
   |(with_reducible first|exact ih0 _ _ _ _ _|exact LeO.refl _|exact LeO.none _|refine LeO.ite ?_ ?_|refine LeO.bind ?_ (fun _ => ?_))
   |exact ih0 _ _ _ _ _
   |exact LeO.none _
   |refine LeO.ite ?_ ?_
   |refine LeO.bind ?_ (fun _ => ?_)
theorem aH.mono : ∀ a0 a1 k, LeO (aH.f k a0 a1) (aH.f (k + 1) a0 a1) := by
 intro a0 a1 k
 have ih0 := aH.eX k
 unfold aH.f
 repeat' first
   |(with_reducible first|exact ih0 _ _ _ _ _|exact LeO.refl _|exact LeO.none _|refine LeO.ite ?_ ?_|refine LeO.bind ?_ (fun _ => ?_))
   |exact ih0 _ _ _ _ _
   |exact LeO.none _
   |refine LeO.ite ?_ ?_
   |refine LeO.bind ?_ (fun _ => ?_)
theorem aH.calls (k : Nat) (a0 a1 r : Int) (w : World) (h : aH.f k a0 a1 = some r) :
  Calls Tryz.prog 121 #[.int .i64 a0, .int .u32 a1] w fun e w' => e = .returned (.int .i64 r) ∧ Drawn0 w w' := by
 have H : ((aD.f a0).bind fun bt545 => ((bQ.f a0 a1).bind fun bt547 => (if bt547.2.1 = 0 then (aH.j0 k bt545.1 bt545.2 bt547.2.1 bt547.2.2 (bt547.2.2 == 0)) else (aH.j0 k bt545.1 bt545.2 bt547.2.1 bt547.2.2 false)))) = some r := h
 clear h
 replace H := bq_ H
 obtain ⟨⟨t545, t546⟩, A30, H⟩ := H
 replace H : ((bQ.f a0 a1).bind fun bt547 => (if bt547.2.1 = 0 then (aH.j0 k t545 t546 bt547.2.1 bt547.2.2 (bt547.2.2 == 0)) else (aH.j0 k t545 t546 bt547.2.1 bt547.2.2 false))) = some r := H
 have A3 := Aside0.mk A30
 clear A30
 replace H := bq_ H
 obtain ⟨⟨t547, t548, t549⟩, A40, H⟩ := H
 replace H : (if t548 = 0 then (aH.j0 k t545 t546 t548 t549 (t549 == 0)) else (aH.j0 k t545 t546 t548 t549 false)) = some r := H
 have A4 := Aside0.mk A40
 clear A40
 have HC5 := Aside0.mk H
 clear H
 go_enter Tryz.func121, Tryz.ntmps121
 go_upto_region 3 with (first | ((with_reducible refine gate_callee (f := 125) rfl ?_); refine goesL_ (some 12) rfl rfl Tryz.func125 (by kernel_rfl) rfl #[.int .i64 a0] rfl gl ?_; (with_reducible refine (aD.calls a0 t545 t546 _ A3.out).mono ?_); rintro e w' ⟨rfl, ⟨nd, rfl⟩⟩; refine ⟨_, rfl, ?_⟩) | ((with_reducible refine gate_callee (f := 126) rfl ?_); refine goesL_ (some 18) rfl rfl Tryz.func126 (by kernel_rfl) rfl #[.int .i64 a0, .int .u32 a1] rfl gl ?_; (with_reducible refine (bQ.calls a0 a1 t547 t548 t549 _ A4.out).mono ?_); rintro e w' ⟨rfl, ⟨nd, rfl⟩⟩; refine ⟨_, rfl, ?_⟩))
 (try simp only [Act.put, sb, sz, ss])
 go_cut [22] (fun v22 wc => ∃ (kq : Nat) (x22_4 : Bool), v22 = .bool x22_4 ∧ Aside0 (aH.j0 kq t545 t546 t548 t549 x22_4 = some r) ∧ Aside0 (kq ≤ k) ∧ Drawn0 w wc)
 case first =>
  have H := HC5.out
  clear HC5
  by_cases c6 : t548 = 0
  ·rw [if_pos c6] at H
   have c6b0 : (t548 == 0) = true := beq_iff_eq.mpr c6
   have c6b1 : (t548 != 0) = false := bne_eq_false_iff_eq.mpr c6
   clear c6
   (first | rw [c6b0] | (simp only [i64_w, i32_w]; rw [c6b0]) | skip)
   have H' := Aside0.mk H
   clear H
   go_wp2
   go_meet
   case rel => exact ⟨_, ((t549 == 0)), (gr_), H', ⟨by first | omega | exact Nat.le_refl _⟩, gd_⟩
  ·rw [if_neg c6] at H
   have c6b0 : (t548 == 0) = false := beq_eq_false_iff_ne.mpr c6
   have c6b1 : (t548 != 0) = true := bne_iff_ne.mpr c6
   (first | rw [c6b0] | (simp only [i64_w, i32_w]; rw [c6b0]) | skip)
   have H' := Aside0.mk H
   clear H
   go_wp2
   go_meet
   case rel => exact ⟨_, (false), (gr_), H', ⟨by first | omega | exact Nat.le_refl _⟩, gd_⟩
 case rest =>
  clear HC5
  try clear c1 p2 c6 c6b0 c6b1 p6
  obtain ⟨kq, x22_4, rfl, HA, HJ4, ⟨mc4, rfl⟩⟩ := hcut
  cases kq with
  |zero => exact absurd HA.out (by simp [aH.j0])
  |succ kj4 =>
   have H := HA.out
   clear HA
   simp only [aH.j0] at H
   by_cases c7 : x22_4 = true
   ·subst c7
    have H1 : (some 0) = some r := by rw [if_pos rfl] at H; exact H
    clear H
    have H := H1
    clear H1
    obtain rfl := Option.some.inj H
    go_wp2
    go_ret
    exact ⟨gr_, gd_⟩
   ·replace c7 := Bool.eq_false_iff.mpr c7
    subst c7
    have H1 : (if t548 = 0 then (some 1) else (if 0 ≤ t545 then (if t548 < (wrap64 ((shl .i64 1 t545) - 1)) then (some 2) else (if t549 = 0 then (some 3) else (if 0 ≤ (wrap64 (t546 - 1)) then (if (shr .u64 t549 (wrap64 (t546 - 1))) = 1 then (some 4) else (some 5)) else (none)))) else (none))) = some r := by rw [if_neg (show ¬ (false = true) by decide)] at H; exact H
    clear H
    have H := H1
    clear H1
    by_cases c8 : t548 = 0
    ·rw [if_pos c8] at H
     have c8b0 : (t548 == 0) = true := beq_iff_eq.mpr c8
     have c8b1 : (t548 != 0) = false := bne_eq_false_iff_eq.mpr c8
     clear c8
     obtain rfl := Option.some.inj H
     go_wp2
     go_ret
     exact ⟨gr_, gd_⟩
    ·rw [if_neg c8] at H
     have c8b0 : (t548 == 0) = false := beq_eq_false_iff_ne.mpr c8
     have c8b1 : (t548 != 0) = true := bne_iff_ne.mpr c8
     by_cases c9 : 0 ≤ t545
     ·rw [if_pos c9] at H
      have c9b0 := eq_true c9
      have c9b1 : decide (0 ≤ t545) = true := decide_eq_true c9
      clear c9
      obtain ⟨ji10, hji10⟩ : ∃ j_ : Int, (shl .i64 1 t545) = j_ := ⟨_, rfl⟩
      replace H : (if t548 < (wrap64 ((ji10) - 1)) then (some 2) else (if t549 = 0 then (some 3) else (if 0 ≤ (wrap64 (t546 - 1)) then (if (shr .u64 t549 (wrap64 (t546 - 1))) = 1 then (some 4) else (some 5)) else (none)))) = some r := by first | (rw [hji10] at H; exact H) | (simp only [hji10] at H ⊢; exact H)
      have hji10_ : (IntKind.i64.wrap (1 * 2 ^ min t545.toNat 64)) = ji10 := hji10
      have hji10z : t545 ≤ 64 → (IntKind.i64.wrap (1 * 2 ^ t545.toNat)) = ji10 := shl_small hji10
      have hji10u : (IntKind.i64.wrap (2 ^ min t545.toNat 64)) = ji10 := by have h_ := hji10_; rw [Int.one_mul] at h_; exact h_
      have hji10v : t545 ≤ 64 → (IntKind.i64.wrap (2 ^ t545.toNat)) = ji10 := fun hle_ => by have h_ := hji10z hle_; rw [Int.one_mul] at h_; exact h_
      have hji10y : (wrap64 (1 * 2 ^ min t545.toNat 64)) = ji10 := (i64_w _).symm.trans hji10_
      have hji10x : t545 ≤ 64 → (wrap64 (1 * 2 ^ t545.toNat)) = ji10 := fun h_ => (i64_w _).symm.trans (hji10z h_)
      by_cases c11 : t548 < (wrap64 ((ji10) - 1))
      ·rw [if_pos c11] at H
       have c11b0 : decide (t548 < (wrap64 ((ji10) - 1))) = true := decide_eq_true c11
       clear c11
       obtain rfl := Option.some.inj H
       go_wp2
       go_ret
       exact ⟨by first | rfl | (simp; done) | (simp only [← hji10] <;> (first | rfl | (simp; done))) | (simp [*]; done) | (congr 1; (try unfold wrap64); omega) | (congr 1; rw [IntKind.wrap_u64]; omega), gd_⟩
      ·rw [if_neg c11] at H
       have c11b0 : decide (t548 < (wrap64 ((ji10) - 1))) = false := decide_eq_false c11
       clear c11
       by_cases c12 : t549 = 0
       ·rw [if_pos c12] at H
        have c12b0 : (t549 == 0) = true := beq_iff_eq.mpr c12
        have c12b1 : (t549 != 0) = false := bne_eq_false_iff_eq.mpr c12
        clear c12
        obtain rfl := Option.some.inj H
        go_wp2
        go_ret
        exact ⟨by first | rfl | (simp; done) | (simp only [← hji10] <;> (first | rfl | (simp; done))) | (simp [*]; done) | (congr 1; (try unfold wrap64); omega) | (congr 1; rw [IntKind.wrap_u64]; omega), gd_⟩
       ·rw [if_neg c12] at H
        have c12b0 : (t549 == 0) = false := beq_eq_false_iff_ne.mpr c12
        have c12b1 : (t549 != 0) = true := bne_iff_ne.mpr c12
        obtain ⟨ji13, hji13⟩ : ∃ j_ : Int, (wrap64 (t546 - 1)) = j_ := ⟨_, rfl⟩
        replace H : (if 0 ≤ (ji13) then (if (shr .u64 t549 (ji13)) = 1 then (some 4) else (some 5)) else (none)) = some r := by first | (rw [hji13] at H; exact H) | (simp only [hji13] at H ⊢; exact H)
        have hji13w : (IntKind.i64.wrap (t546 - 1)) = ji13 := (i64_w _).trans hji13
        by_cases c14 : 0 ≤ (ji13)
        ·rw [if_pos c14] at H
         have c14b0 := eq_true c14
         have c14b1 : decide (0 ≤ (ji13)) = true := decide_eq_true c14
         clear c14
         obtain ⟨ji15, hji15⟩ : ∃ j_ : Int, (shr .u64 t549 (ji13)) = j_ := ⟨_, rfl⟩
         replace H : (if (ji15) = 1 then (some 4) else (some 5)) = some r := by first | (rw [hji15] at H; exact H) | (simp only [hji15] at H ⊢; exact H)
         have hji15_ : (t549 / 2 ^ min (ji13).toNat 64) = ji15 := hji15
         have hji15z : (ji13) ≤ 64 → (t549 / 2 ^ (ji13).toNat) = ji15 := shr_small hji15
         by_cases c16 : (ji15) = 1
         ·rw [if_pos c16] at H
          have c16b0 : ((ji15) == 1) = true := beq_iff_eq.mpr c16
          have c16b1 : ((ji15) != 1) = false := bne_eq_false_iff_eq.mpr c16
          clear c16
          obtain rfl := Option.some.inj H
          go_wp2
          go_ret
          exact ⟨by first | rfl | (simp; done) | (simp only [← hji10, ← hji13, ← hji15] <;> (first | rfl | (simp; done))) | (simp [*]; done) | (congr 1; (try unfold wrap64); omega) | (congr 1; rw [IntKind.wrap_u64]; omega), gd_⟩
         ·rw [if_neg c16] at H
          have c16b0 : ((ji15) == 1) = false := beq_eq_false_iff_ne.mpr c16
          have c16b1 : ((ji15) != 1) = true := bne_iff_ne.mpr c16
          obtain rfl := Option.some.inj H
          go_wp2
          go_ret
          exact ⟨by first | rfl | (simp; done) | (simp only [← hji10, ← hji13, ← hji15] <;> (first | rfl | (simp; done))) | (simp [*]; done) | (congr 1; (try unfold wrap64); omega) | (congr 1; rw [IntKind.wrap_u64]; omega), gd_⟩
        ·rw [if_neg c14] at H
         exact absurd H (by simp)
     ·rw [if_neg c9] at H
      exact absurd H (by simp)


-- NEED 0
/-! ### bU: function 88 -/
def bU.f (a0 a1 : Int) : Option (Bool) := (bQ.f a0 a1).bind fun bt560 => (some bt560.1)
theorem bU.calls (a0 a1 : Int) (r : Bool) (w : World) (h : bU.f a0 a1 = some r) :
  Calls Tryz.prog 88 #[.int .i64 a0, .int .u32 a1] w fun e w' => e = .returned (.bool r) ∧ Drawn0 w w' := by
 have H : ((bQ.f a0 a1).bind fun bt560 => (some bt560.1)) = some r := h
 clear h
 replace H := bq_ H
 obtain ⟨⟨t560, t561, t562⟩, A30, H⟩ := H
 replace H : (some t560) = some r := H
 have A3 := Aside0.mk A30
 clear A30
 obtain rfl := Option.some.inj H
 go_enter Tryz.func88, Tryz.ntmps88
 go_wp2_with (first | ((with_reducible refine gate_callee (f := 126) rfl ?_); refine goesL_ (some 11) rfl rfl Tryz.func126 (by kernel_rfl) rfl #[.int .i64 a0, .int .u32 a1] rfl gl ?_; (with_reducible refine (bQ.calls a0 a1 t560 t561 t562 _ A3.out).mono ?_); rintro e w' ⟨rfl, ⟨nd, rfl⟩⟩; refine ⟨_, rfl, ?_⟩))
 go_ret
 exact ⟨gr_, gd_⟩

-- NEED 0
/-! ### bB: function 127 -/
def bB.f (a0 : Int) : Option (Int) := (aD.f a0).bind fun bt563 => (if 0 ≤ (wrap64 (bt563.1 - 1)) then (some (wrap64 ((shl .i64 1 (wrap64 (bt563.1 - 1))) - 1))) else (none))
theorem bB.calls (a0 r : Int) (w : World) (h : bB.f a0 = some r) :
  Calls Tryz.prog 127 #[.int .i64 a0] w fun e w' => e = .returned (.int .i64 r) ∧ Drawn0 w w' := by
 have H : ((aD.f a0).bind fun bt563 => (if 0 ≤ (wrap64 (bt563.1 - 1)) then (some (wrap64 ((shl .i64 1 (wrap64 (bt563.1 - 1))) - 1))) else (none))) = some r := h
 clear h
 replace H := bq_ H
 obtain ⟨⟨t563, t564⟩, A20, H⟩ := H
 replace H : (if 0 ≤ (wrap64 (t563 - 1)) then (some (wrap64 ((shl .i64 1 (wrap64 (t563 - 1))) - 1))) else (none)) = some r := H
 have A2 := Aside0.mk A20
 clear A20
 obtain ⟨ji3, hji3⟩ : ∃ j_ : Int, (wrap64 (t563 - 1)) = j_ := ⟨_, rfl⟩
 replace H : (if 0 ≤ (ji3) then (some (wrap64 ((shl .i64 1 (ji3)) - 1))) else (none)) = some r := by first | (rw [hji3] at H; exact H) | (simp only [hji3] at H ⊢; exact H)
 (try rw [hji3] at A2)
 have hji3w : (IntKind.i64.wrap (t563 - 1)) = ji3 := (i64_w _).trans hji3
 by_cases c4 : 0 ≤ (ji3)
 ·rw [if_pos c4] at H
  have c4b0 := eq_true c4
  have c4b1 : decide (0 ≤ (ji3)) = true := decide_eq_true c4
  clear c4
  obtain ⟨ji5, hji5⟩ : ∃ j_ : Int, (shl .i64 1 (ji3)) = j_ := ⟨_, rfl⟩
  replace H : (some (wrap64 ((ji5) - 1))) = some r := by first | (rw [hji5] at H; exact H) | (simp only [hji5] at H ⊢; exact H)
  (try rw [hji5] at A2)
  have hji5_ : (IntKind.i64.wrap (1 * 2 ^ min (ji3).toNat 64)) = ji5 := hji5
  have hji5z : (ji3) ≤ 64 → (IntKind.i64.wrap (1 * 2 ^ (ji3).toNat)) = ji5 := shl_small hji5
  have hji5u : (IntKind.i64.wrap (2 ^ min (ji3).toNat 64)) = ji5 := by have h_ := hji5_; rw [Int.one_mul] at h_; exact h_
  have hji5v : (ji3) ≤ 64 → (IntKind.i64.wrap (2 ^ (ji3).toNat)) = ji5 := fun hle_ => by have h_ := hji5z hle_; rw [Int.one_mul] at h_; exact h_
  have hji5y : (wrap64 (1 * 2 ^ min (ji3).toNat 64)) = ji5 := (i64_w _).symm.trans hji5_
  have hji5x : (ji3) ≤ 64 → (wrap64 (1 * 2 ^ (ji3).toNat)) = ji5 := fun h_ => (i64_w _).symm.trans (hji5z h_)
  obtain rfl := Option.some.inj H
  go_enter Tryz.func127, Tryz.ntmps127
  go_wp2_with (first | ((with_reducible refine gate_callee (f := 125) rfl ?_); refine goesL_ (some 7) rfl rfl Tryz.func125 (by kernel_rfl) rfl #[.int .i64 a0] rfl gl ?_; (with_reducible refine (aD.calls a0 t563 t564 _ A2.out).mono ?_); rintro e w' ⟨rfl, ⟨nd, rfl⟩⟩; refine ⟨_, rfl, ?_⟩))
  go_ret
  exact ⟨by first | rfl | (simp; done) | (simp only [← hji3, ← hji5] <;> (first | rfl | (simp; done))) | (simp [*]; done) | (congr 1; (try unfold wrap64); omega) | (congr 1; rw [IntKind.wrap_u64]; omega), gd_⟩
 ·rw [if_neg c4] at H
  exact absurd H (by simp)

-- NEED 0
/-! ### bE: function 92 -/
def bE.f (k : Nat) (a0 a1 : Int) : Option (Bool × Int × Int) := (aD.f a0).bind fun bt565 => ((bQ.f a0 a1).bind fun bt567 => ((aH.f k a0 a1).bind fun t570 => (if t570 = 2 then ((bB.f a0).bind fun t571 => (if 0 ≤ bt565.2 then (some (bt567.1, wrap64 ((wrap64 (bt567.2.1 - t571)) - bt565.2), Go.bits .or .u64 bt567.2.2 (shl .u64 1 bt565.2))) else (none))) else (if t570 = 0 then ((bB.f a0).bind fun t572 => (some (bt567.1, wrap64 ((wrap64 (1 - t572)) - bt565.2), bt567.2.2))) else (if t570 = 1 then ((bB.f a0).bind fun t573 => (some (bt567.1, wrap64 ((wrap64 (1 - t573)) - bt565.2), bt567.2.2))) else (some (bt567.1, 0, 0)))))))
theorem bE.mono : ∀ a0 a1 k, LeO (bE.f k a0 a1) (bE.f (k + 1) a0 a1) := by
 intro a0 a1 k
 unfold bE.f
 repeat' first
   |(with_reducible first|exact aH.mono _ _ _|exact LeO.refl _|exact LeO.none _|refine LeO.ite ?_ ?_|refine LeO.bind ?_ (fun _ => ?_))
   |exact aH.mono _ _ _
   |exact LeO.none _
   |refine LeO.ite ?_ ?_
   |refine LeO.bind ?_ (fun _ => ?_)
theorem bE.calls (k : Nat) (a0 a1 : Int) (r1 : Bool) (r2 r3 : Int) (w : World) (h : bE.f k a0 a1 = some (r1, r2, r3)) :
  Calls Tryz.prog 92 #[.int .i64 a0, .int .u32 a1] w fun e w' => e = .returned (.tuple #[.bool r1, .int .i64 r2, .int .u64 r3]) ∧ Drawn0 w w' := by
 have H : ((aD.f a0).bind fun bt565 => ((bQ.f a0 a1).bind fun bt567 => ((aH.f k a0 a1).bind fun t570 => (if t570 = 2 then ((bB.f a0).bind fun t571 => (if 0 ≤ bt565.2 then (some (bt567.1, wrap64 ((wrap64 (bt567.2.1 - t571)) - bt565.2), Go.bits .or .u64 bt567.2.2 (shl .u64 1 bt565.2))) else (none))) else (if t570 = 0 then ((bB.f a0).bind fun t572 => (some (bt567.1, wrap64 ((wrap64 (1 - t572)) - bt565.2), bt567.2.2))) else (if t570 = 1 then ((bB.f a0).bind fun t573 => (some (bt567.1, wrap64 ((wrap64 (1 - t573)) - bt565.2), bt567.2.2))) else (some (bt567.1, 0, 0)))))))) = some (r1, r2, r3) := h
 clear h
 replace H := bq_ H
 obtain ⟨⟨t565, t566⟩, A30, H⟩ := H
 replace H : ((bQ.f a0 a1).bind fun bt567 => ((aH.f k a0 a1).bind fun t570 => (if t570 = 2 then ((bB.f a0).bind fun t571 => (if 0 ≤ t566 then (some (bt567.1, wrap64 ((wrap64 (bt567.2.1 - t571)) - t566), Go.bits .or .u64 bt567.2.2 (shl .u64 1 t566))) else (none))) else (if t570 = 0 then ((bB.f a0).bind fun t572 => (some (bt567.1, wrap64 ((wrap64 (1 - t572)) - t566), bt567.2.2))) else (if t570 = 1 then ((bB.f a0).bind fun t573 => (some (bt567.1, wrap64 ((wrap64 (1 - t573)) - t566), bt567.2.2))) else (some (bt567.1, 0, 0))))))) = some (r1, r2, r3) := H
 have A3 := Aside0.mk A30
 clear A30
 replace H := bq_ H
 obtain ⟨⟨t567, t568, t569⟩, A40, H⟩ := H
 replace H : ((aH.f k a0 a1).bind fun t570 => (if t570 = 2 then ((bB.f a0).bind fun t571 => (if 0 ≤ t566 then (some (t567, wrap64 ((wrap64 (t568 - t571)) - t566), Go.bits .or .u64 t569 (shl .u64 1 t566))) else (none))) else (if t570 = 0 then ((bB.f a0).bind fun t572 => (some (t567, wrap64 ((wrap64 (1 - t572)) - t566), t569))) else (if t570 = 1 then ((bB.f a0).bind fun t573 => (some (t567, wrap64 ((wrap64 (1 - t573)) - t566), t569))) else (some (t567, 0, 0)))))) = some (r1, r2, r3) := H
 have A4 := Aside0.mk A40
 clear A40
 replace H := bq_ H
 obtain ⟨t570, A50, H⟩ := H
 replace H : (if t570 = 2 then ((bB.f a0).bind fun t571 => (if 0 ≤ t566 then (some (t567, wrap64 ((wrap64 (t568 - t571)) - t566), Go.bits .or .u64 t569 (shl .u64 1 t566))) else (none))) else (if t570 = 0 then ((bB.f a0).bind fun t572 => (some (t567, wrap64 ((wrap64 (1 - t572)) - t566), t569))) else (if t570 = 1 then ((bB.f a0).bind fun t573 => (some (t567, wrap64 ((wrap64 (1 - t573)) - t566), t569))) else (some (t567, 0, 0))))) = some (r1, r2, r3) := H
 have A5 := Aside0.mk A50
 clear A50
 by_cases c6 : t570 = 2
 ·rw [if_pos c6] at H
  have c6b0 : (t570 == 2) = true := beq_iff_eq.mpr c6
  have c6b1 : (t570 != 2) = false := bne_eq_false_iff_eq.mpr c6
  clear c6
  replace H := bq_ H
  obtain ⟨t571, A70, H⟩ := H
  replace H : (if 0 ≤ t566 then (some (t567, wrap64 ((wrap64 (t568 - t571)) - t566), Go.bits .or .u64 t569 (shl .u64 1 t566))) else (none)) = some (r1, r2, r3) := H
  have A7 := Aside0.mk A70
  clear A70
  by_cases c8 : 0 ≤ t566
  ·rw [if_pos c8] at H
   have c8b0 := eq_true c8
   have c8b1 : decide (0 ≤ t566) = true := decide_eq_true c8
   clear c8
   obtain ⟨ji9, hji9⟩ : ∃ j_ : Int, (shl .u64 1 t566) = j_ := ⟨_, rfl⟩
   replace H : (some (t567, wrap64 ((wrap64 (t568 - t571)) - t566), Go.bits .or .u64 t569 (ji9))) = some (r1, r2, r3) := by first | (rw [hji9] at H; exact H) | (simp only [hji9] at H ⊢; exact H)
   (try rw [hji9] at A3)
   (try rw [hji9] at A4)
   (try rw [hji9] at A5)
   (try rw [hji9] at A7)
   have hji9_ : (IntKind.u64.wrap (1 * 2 ^ min t566.toNat 64)) = ji9 := hji9
   have hji9z : t566 ≤ 64 → (IntKind.u64.wrap (1 * 2 ^ t566.toNat)) = ji9 := shl_small hji9
   have hji9u : (IntKind.u64.wrap (2 ^ min t566.toNat 64)) = ji9 := by have h_ := hji9_; rw [Int.one_mul] at h_; exact h_
   have hji9v : t566 ≤ 64 → (IntKind.u64.wrap (2 ^ t566.toNat)) = ji9 := fun hle_ => by have h_ := hji9z hle_; rw [Int.one_mul] at h_; exact h_
   simp only [Option.some.injEq, Prod.mk.injEq] at H
   obtain ⟨rfl, rfl, rfl⟩ := H
   go_enter Tryz.func92, Tryz.ntmps92
   go_wp2_with (first | (go_at_call 125; (with_reducible refine (aD.calls a0 t565 t566 _ A3.out).mono ?_); rintro e w' ⟨rfl, ⟨nd, rfl⟩⟩; (try first | exact ⟨rfl, _, World.drewN_drewN _ _ _⟩ | exact ⟨rfl, _, Eq.trans (World.drewN_drewN _ _ _) (congrArg (World.drewN _) (Nat.add_assoc _ _ _))⟩)) | (go_at_call 126; (with_reducible refine (bQ.calls a0 a1 t567 t568 t569 _ A4.out).mono ?_); rintro e w' ⟨rfl, ⟨nd, rfl⟩⟩; (try first | exact ⟨rfl, _, World.drewN_drewN _ _ _⟩ | exact ⟨rfl, _, Eq.trans (World.drewN_drewN _ _ _) (congrArg (World.drewN _) (Nat.add_assoc _ _ _))⟩)) | (go_at_call 121; (with_reducible refine (aH.calls k a0 a1 t570 _ A5.out).mono ?_); rintro e w' ⟨rfl, ⟨nd, rfl⟩⟩; (try first | exact ⟨rfl, _, World.drewN_drewN _ _ _⟩ | exact ⟨rfl, _, Eq.trans (World.drewN_drewN _ _ _) (congrArg (World.drewN _) (Nat.add_assoc _ _ _))⟩)) | (go_at_call 127; (with_reducible refine (bB.calls a0 t571 _ A7.out).mono ?_); rintro e w' ⟨rfl, ⟨nd, rfl⟩⟩; (try first | exact ⟨rfl, _, World.drewN_drewN _ _ _⟩ | exact ⟨rfl, _, Eq.trans (World.drewN_drewN _ _ _) (congrArg (World.drewN _) (Nat.add_assoc _ _ _))⟩)))
   repeat (go_quiet (first | (go_at_call 125; (with_reducible refine (aD.calls a0 t565 t566 _ A3.out).mono ?_); rintro e w' ⟨rfl, ⟨nd, rfl⟩⟩; (try first | exact ⟨rfl, _, World.drewN_drewN _ _ _⟩ | exact ⟨rfl, _, Eq.trans (World.drewN_drewN _ _ _) (congrArg (World.drewN _) (Nat.add_assoc _ _ _))⟩)) | (go_at_call 126; (with_reducible refine (bQ.calls a0 a1 t567 t568 t569 _ A4.out).mono ?_); rintro e w' ⟨rfl, ⟨nd, rfl⟩⟩; (try first | exact ⟨rfl, _, World.drewN_drewN _ _ _⟩ | exact ⟨rfl, _, Eq.trans (World.drewN_drewN _ _ _) (congrArg (World.drewN _) (Nat.add_assoc _ _ _))⟩)) | (go_at_call 121; (with_reducible refine (aH.calls k a0 a1 t570 _ A5.out).mono ?_); rintro e w' ⟨rfl, ⟨nd, rfl⟩⟩; (try first | exact ⟨rfl, _, World.drewN_drewN _ _ _⟩ | exact ⟨rfl, _, Eq.trans (World.drewN_drewN _ _ _) (congrArg (World.drewN _) (Nat.add_assoc _ _ _))⟩)) | (go_at_call 127; (with_reducible refine (bB.calls a0 t571 _ A7.out).mono ?_); rintro e w' ⟨rfl, ⟨nd, rfl⟩⟩; (try first | exact ⟨rfl, _, World.drewN_drewN _ _ _⟩ | exact ⟨rfl, _, Eq.trans (World.drewN_drewN _ _ _) (congrArg (World.drewN _) (Nat.add_assoc _ _ _))⟩))); try go_wp2_with (first | (go_at_call 125; (with_reducible refine (aD.calls a0 t565 t566 _ A3.out).mono ?_); rintro e w' ⟨rfl, ⟨nd, rfl⟩⟩; (try first | exact ⟨rfl, _, World.drewN_drewN _ _ _⟩ | exact ⟨rfl, _, Eq.trans (World.drewN_drewN _ _ _) (congrArg (World.drewN _) (Nat.add_assoc _ _ _))⟩)) | (go_at_call 126; (with_reducible refine (bQ.calls a0 a1 t567 t568 t569 _ A4.out).mono ?_); rintro e w' ⟨rfl, ⟨nd, rfl⟩⟩; (try first | exact ⟨rfl, _, World.drewN_drewN _ _ _⟩ | exact ⟨rfl, _, Eq.trans (World.drewN_drewN _ _ _) (congrArg (World.drewN _) (Nat.add_assoc _ _ _))⟩)) | (go_at_call 121; (with_reducible refine (aH.calls k a0 a1 t570 _ A5.out).mono ?_); rintro e w' ⟨rfl, ⟨nd, rfl⟩⟩; (try first | exact ⟨rfl, _, World.drewN_drewN _ _ _⟩ | exact ⟨rfl, _, Eq.trans (World.drewN_drewN _ _ _) (congrArg (World.drewN _) (Nat.add_assoc _ _ _))⟩)) | (go_at_call 127; (with_reducible refine (bB.calls a0 t571 _ A7.out).mono ?_); rintro e w' ⟨rfl, ⟨nd, rfl⟩⟩; (try first | exact ⟨rfl, _, World.drewN_drewN _ _ _⟩ | exact ⟨rfl, _, Eq.trans (World.drewN_drewN _ _ _) (congrArg (World.drewN _) (Nat.add_assoc _ _ _))⟩))))
   go_ret3
   exact ⟨by first | rfl | (simp; done) | (simp only [← hji9] <;> (first | rfl | (simp; done))) | (simp [*]; done) | (congr 1; (try unfold wrap64); omega) | (congr 1; rw [IntKind.wrap_u64]; omega), gd_⟩
  ·rw [if_neg c8] at H
   exact absurd H (by simp)
 ·rw [if_neg c6] at H
  have c6b0 : (t570 == 2) = false := beq_eq_false_iff_ne.mpr c6
  have c6b1 : (t570 != 2) = true := bne_iff_ne.mpr c6
  by_cases c10 : t570 = 0
  ·rw [if_pos c10] at H
   have c10b0 : (t570 == 0) = true := beq_iff_eq.mpr c10
   have c10b1 : (t570 != 0) = false := bne_eq_false_iff_eq.mpr c10
   clear c10
   replace H := bq_ H
   obtain ⟨t572, A110, H⟩ := H
   replace H : (some (t567, wrap64 ((wrap64 (1 - t572)) - t566), t569)) = some (r1, r2, r3) := H
   have A11 := Aside0.mk A110
   clear A110
   simp only [Option.some.injEq, Prod.mk.injEq] at H
   obtain ⟨rfl, rfl, rfl⟩ := H
   go_enter Tryz.func92, Tryz.ntmps92
   go_wp2_with (first | (go_at_call 125; (with_reducible refine (aD.calls a0 t565 t566 _ A3.out).mono ?_); rintro e w' ⟨rfl, ⟨nd, rfl⟩⟩; (try first | exact ⟨rfl, _, World.drewN_drewN _ _ _⟩ | exact ⟨rfl, _, Eq.trans (World.drewN_drewN _ _ _) (congrArg (World.drewN _) (Nat.add_assoc _ _ _))⟩)) | (go_at_call 126; (with_reducible refine (bQ.calls a0 a1 t567 t568 t569 _ A4.out).mono ?_); rintro e w' ⟨rfl, ⟨nd, rfl⟩⟩; (try first | exact ⟨rfl, _, World.drewN_drewN _ _ _⟩ | exact ⟨rfl, _, Eq.trans (World.drewN_drewN _ _ _) (congrArg (World.drewN _) (Nat.add_assoc _ _ _))⟩)) | (go_at_call 121; (with_reducible refine (aH.calls k a0 a1 t570 _ A5.out).mono ?_); rintro e w' ⟨rfl, ⟨nd, rfl⟩⟩; (try first | exact ⟨rfl, _, World.drewN_drewN _ _ _⟩ | exact ⟨rfl, _, Eq.trans (World.drewN_drewN _ _ _) (congrArg (World.drewN _) (Nat.add_assoc _ _ _))⟩)) | (go_at_call 127; (with_reducible refine (bB.calls a0 t572 _ A11.out).mono ?_); rintro e w' ⟨rfl, ⟨nd, rfl⟩⟩; (try first | exact ⟨rfl, _, World.drewN_drewN _ _ _⟩ | exact ⟨rfl, _, Eq.trans (World.drewN_drewN _ _ _) (congrArg (World.drewN _) (Nat.add_assoc _ _ _))⟩)))
   repeat (go_quiet (first | (go_at_call 125; (with_reducible refine (aD.calls a0 t565 t566 _ A3.out).mono ?_); rintro e w' ⟨rfl, ⟨nd, rfl⟩⟩; (try first | exact ⟨rfl, _, World.drewN_drewN _ _ _⟩ | exact ⟨rfl, _, Eq.trans (World.drewN_drewN _ _ _) (congrArg (World.drewN _) (Nat.add_assoc _ _ _))⟩)) | (go_at_call 126; (with_reducible refine (bQ.calls a0 a1 t567 t568 t569 _ A4.out).mono ?_); rintro e w' ⟨rfl, ⟨nd, rfl⟩⟩; (try first | exact ⟨rfl, _, World.drewN_drewN _ _ _⟩ | exact ⟨rfl, _, Eq.trans (World.drewN_drewN _ _ _) (congrArg (World.drewN _) (Nat.add_assoc _ _ _))⟩)) | (go_at_call 121; (with_reducible refine (aH.calls k a0 a1 t570 _ A5.out).mono ?_); rintro e w' ⟨rfl, ⟨nd, rfl⟩⟩; (try first | exact ⟨rfl, _, World.drewN_drewN _ _ _⟩ | exact ⟨rfl, _, Eq.trans (World.drewN_drewN _ _ _) (congrArg (World.drewN _) (Nat.add_assoc _ _ _))⟩)) | (go_at_call 127; (with_reducible refine (bB.calls a0 t572 _ A11.out).mono ?_); rintro e w' ⟨rfl, ⟨nd, rfl⟩⟩; (try first | exact ⟨rfl, _, World.drewN_drewN _ _ _⟩ | exact ⟨rfl, _, Eq.trans (World.drewN_drewN _ _ _) (congrArg (World.drewN _) (Nat.add_assoc _ _ _))⟩))); try go_wp2_with (first | (go_at_call 125; (with_reducible refine (aD.calls a0 t565 t566 _ A3.out).mono ?_); rintro e w' ⟨rfl, ⟨nd, rfl⟩⟩; (try first | exact ⟨rfl, _, World.drewN_drewN _ _ _⟩ | exact ⟨rfl, _, Eq.trans (World.drewN_drewN _ _ _) (congrArg (World.drewN _) (Nat.add_assoc _ _ _))⟩)) | (go_at_call 126; (with_reducible refine (bQ.calls a0 a1 t567 t568 t569 _ A4.out).mono ?_); rintro e w' ⟨rfl, ⟨nd, rfl⟩⟩; (try first | exact ⟨rfl, _, World.drewN_drewN _ _ _⟩ | exact ⟨rfl, _, Eq.trans (World.drewN_drewN _ _ _) (congrArg (World.drewN _) (Nat.add_assoc _ _ _))⟩)) | (go_at_call 121; (with_reducible refine (aH.calls k a0 a1 t570 _ A5.out).mono ?_); rintro e w' ⟨rfl, ⟨nd, rfl⟩⟩; (try first | exact ⟨rfl, _, World.drewN_drewN _ _ _⟩ | exact ⟨rfl, _, Eq.trans (World.drewN_drewN _ _ _) (congrArg (World.drewN _) (Nat.add_assoc _ _ _))⟩)) | (go_at_call 127; (with_reducible refine (bB.calls a0 t572 _ A11.out).mono ?_); rintro e w' ⟨rfl, ⟨nd, rfl⟩⟩; (try first | exact ⟨rfl, _, World.drewN_drewN _ _ _⟩ | exact ⟨rfl, _, Eq.trans (World.drewN_drewN _ _ _) (congrArg (World.drewN _) (Nat.add_assoc _ _ _))⟩))))
   go_ret3
   exact ⟨gr_, gd_⟩
  ·rw [if_neg c10] at H
   have c10b0 : (t570 == 0) = false := beq_eq_false_iff_ne.mpr c10
   have c10b1 : (t570 != 0) = true := bne_iff_ne.mpr c10
   by_cases c12 : t570 = 1
   ·rw [if_pos c12] at H
    have c12b0 : (t570 == 1) = true := beq_iff_eq.mpr c12
    have c12b1 : (t570 != 1) = false := bne_eq_false_iff_eq.mpr c12
    clear c12
    replace H := bq_ H
    obtain ⟨t573, A130, H⟩ := H
    replace H : (some (t567, wrap64 ((wrap64 (1 - t573)) - t566), t569)) = some (r1, r2, r3) := H
    have A13 := Aside0.mk A130
    clear A130
    simp only [Option.some.injEq, Prod.mk.injEq] at H
    obtain ⟨rfl, rfl, rfl⟩ := H
    go_enter Tryz.func92, Tryz.ntmps92
    go_wp2_with (first | (go_at_call 125; (with_reducible refine (aD.calls a0 t565 t566 _ A3.out).mono ?_); rintro e w' ⟨rfl, ⟨nd, rfl⟩⟩; (try first | exact ⟨rfl, _, World.drewN_drewN _ _ _⟩ | exact ⟨rfl, _, Eq.trans (World.drewN_drewN _ _ _) (congrArg (World.drewN _) (Nat.add_assoc _ _ _))⟩)) | (go_at_call 126; (with_reducible refine (bQ.calls a0 a1 t567 t568 t569 _ A4.out).mono ?_); rintro e w' ⟨rfl, ⟨nd, rfl⟩⟩; (try first | exact ⟨rfl, _, World.drewN_drewN _ _ _⟩ | exact ⟨rfl, _, Eq.trans (World.drewN_drewN _ _ _) (congrArg (World.drewN _) (Nat.add_assoc _ _ _))⟩)) | (go_at_call 121; (with_reducible refine (aH.calls k a0 a1 t570 _ A5.out).mono ?_); rintro e w' ⟨rfl, ⟨nd, rfl⟩⟩; (try first | exact ⟨rfl, _, World.drewN_drewN _ _ _⟩ | exact ⟨rfl, _, Eq.trans (World.drewN_drewN _ _ _) (congrArg (World.drewN _) (Nat.add_assoc _ _ _))⟩)) | (go_at_call 127; (with_reducible refine (bB.calls a0 t573 _ A13.out).mono ?_); rintro e w' ⟨rfl, ⟨nd, rfl⟩⟩; (try first | exact ⟨rfl, _, World.drewN_drewN _ _ _⟩ | exact ⟨rfl, _, Eq.trans (World.drewN_drewN _ _ _) (congrArg (World.drewN _) (Nat.add_assoc _ _ _))⟩)))
    repeat (go_quiet (first | (go_at_call 125; (with_reducible refine (aD.calls a0 t565 t566 _ A3.out).mono ?_); rintro e w' ⟨rfl, ⟨nd, rfl⟩⟩; (try first | exact ⟨rfl, _, World.drewN_drewN _ _ _⟩ | exact ⟨rfl, _, Eq.trans (World.drewN_drewN _ _ _) (congrArg (World.drewN _) (Nat.add_assoc _ _ _))⟩)) | (go_at_call 126; (with_reducible refine (bQ.calls a0 a1 t567 t568 t569 _ A4.out).mono ?_); rintro e w' ⟨rfl, ⟨nd, rfl⟩⟩; (try first | exact ⟨rfl, _, World.drewN_drewN _ _ _⟩ | exact ⟨rfl, _, Eq.trans (World.drewN_drewN _ _ _) (congrArg (World.drewN _) (Nat.add_assoc _ _ _))⟩)) | (go_at_call 121; (with_reducible refine (aH.calls k a0 a1 t570 _ A5.out).mono ?_); rintro e w' ⟨rfl, ⟨nd, rfl⟩⟩; (try first | exact ⟨rfl, _, World.drewN_drewN _ _ _⟩ | exact ⟨rfl, _, Eq.trans (World.drewN_drewN _ _ _) (congrArg (World.drewN _) (Nat.add_assoc _ _ _))⟩)) | (go_at_call 127; (with_reducible refine (bB.calls a0 t573 _ A13.out).mono ?_); rintro e w' ⟨rfl, ⟨nd, rfl⟩⟩; (try first | exact ⟨rfl, _, World.drewN_drewN _ _ _⟩ | exact ⟨rfl, _, Eq.trans (World.drewN_drewN _ _ _) (congrArg (World.drewN _) (Nat.add_assoc _ _ _))⟩))); try go_wp2_with (first | (go_at_call 125; (with_reducible refine (aD.calls a0 t565 t566 _ A3.out).mono ?_); rintro e w' ⟨rfl, ⟨nd, rfl⟩⟩; (try first | exact ⟨rfl, _, World.drewN_drewN _ _ _⟩ | exact ⟨rfl, _, Eq.trans (World.drewN_drewN _ _ _) (congrArg (World.drewN _) (Nat.add_assoc _ _ _))⟩)) | (go_at_call 126; (with_reducible refine (bQ.calls a0 a1 t567 t568 t569 _ A4.out).mono ?_); rintro e w' ⟨rfl, ⟨nd, rfl⟩⟩; (try first | exact ⟨rfl, _, World.drewN_drewN _ _ _⟩ | exact ⟨rfl, _, Eq.trans (World.drewN_drewN _ _ _) (congrArg (World.drewN _) (Nat.add_assoc _ _ _))⟩)) | (go_at_call 121; (with_reducible refine (aH.calls k a0 a1 t570 _ A5.out).mono ?_); rintro e w' ⟨rfl, ⟨nd, rfl⟩⟩; (try first | exact ⟨rfl, _, World.drewN_drewN _ _ _⟩ | exact ⟨rfl, _, Eq.trans (World.drewN_drewN _ _ _) (congrArg (World.drewN _) (Nat.add_assoc _ _ _))⟩)) | (go_at_call 127; (with_reducible refine (bB.calls a0 t573 _ A13.out).mono ?_); rintro e w' ⟨rfl, ⟨nd, rfl⟩⟩; (try first | exact ⟨rfl, _, World.drewN_drewN _ _ _⟩ | exact ⟨rfl, _, Eq.trans (World.drewN_drewN _ _ _) (congrArg (World.drewN _) (Nat.add_assoc _ _ _))⟩))))
    go_ret3
    exact ⟨gr_, gd_⟩
   ·rw [if_neg c12] at H
    have c12b0 : (t570 == 1) = false := beq_eq_false_iff_ne.mpr c12
    have c12b1 : (t570 != 1) = true := bne_iff_ne.mpr c12
    simp only [Option.some.injEq, Prod.mk.injEq] at H
    obtain ⟨rfl, rfl, rfl⟩ := H
    go_enter Tryz.func92, Tryz.ntmps92
    go_wp2_with (first | (go_at_call 125; (with_reducible refine (aD.calls a0 t565 t566 _ A3.out).mono ?_); rintro e w' ⟨rfl, ⟨nd, rfl⟩⟩; (try first | exact ⟨rfl, _, World.drewN_drewN _ _ _⟩ | exact ⟨rfl, _, Eq.trans (World.drewN_drewN _ _ _) (congrArg (World.drewN _) (Nat.add_assoc _ _ _))⟩)) | (go_at_call 126; (with_reducible refine (bQ.calls a0 a1 t567 t568 t569 _ A4.out).mono ?_); rintro e w' ⟨rfl, ⟨nd, rfl⟩⟩; (try first | exact ⟨rfl, _, World.drewN_drewN _ _ _⟩ | exact ⟨rfl, _, Eq.trans (World.drewN_drewN _ _ _) (congrArg (World.drewN _) (Nat.add_assoc _ _ _))⟩)) | (go_at_call 121; (with_reducible refine (aH.calls k a0 a1 t570 _ A5.out).mono ?_); rintro e w' ⟨rfl, ⟨nd, rfl⟩⟩; (try first | exact ⟨rfl, _, World.drewN_drewN _ _ _⟩ | exact ⟨rfl, _, Eq.trans (World.drewN_drewN _ _ _) (congrArg (World.drewN _) (Nat.add_assoc _ _ _))⟩)))
    repeat (go_quiet (first | (go_at_call 125; (with_reducible refine (aD.calls a0 t565 t566 _ A3.out).mono ?_); rintro e w' ⟨rfl, ⟨nd, rfl⟩⟩; (try first | exact ⟨rfl, _, World.drewN_drewN _ _ _⟩ | exact ⟨rfl, _, Eq.trans (World.drewN_drewN _ _ _) (congrArg (World.drewN _) (Nat.add_assoc _ _ _))⟩)) | (go_at_call 126; (with_reducible refine (bQ.calls a0 a1 t567 t568 t569 _ A4.out).mono ?_); rintro e w' ⟨rfl, ⟨nd, rfl⟩⟩; (try first | exact ⟨rfl, _, World.drewN_drewN _ _ _⟩ | exact ⟨rfl, _, Eq.trans (World.drewN_drewN _ _ _) (congrArg (World.drewN _) (Nat.add_assoc _ _ _))⟩)) | (go_at_call 121; (with_reducible refine (aH.calls k a0 a1 t570 _ A5.out).mono ?_); rintro e w' ⟨rfl, ⟨nd, rfl⟩⟩; (try first | exact ⟨rfl, _, World.drewN_drewN _ _ _⟩ | exact ⟨rfl, _, Eq.trans (World.drewN_drewN _ _ _) (congrArg (World.drewN _) (Nat.add_assoc _ _ _))⟩))); try go_wp2_with (first | (go_at_call 125; (with_reducible refine (aD.calls a0 t565 t566 _ A3.out).mono ?_); rintro e w' ⟨rfl, ⟨nd, rfl⟩⟩; (try first | exact ⟨rfl, _, World.drewN_drewN _ _ _⟩ | exact ⟨rfl, _, Eq.trans (World.drewN_drewN _ _ _) (congrArg (World.drewN _) (Nat.add_assoc _ _ _))⟩)) | (go_at_call 126; (with_reducible refine (bQ.calls a0 a1 t567 t568 t569 _ A4.out).mono ?_); rintro e w' ⟨rfl, ⟨nd, rfl⟩⟩; (try first | exact ⟨rfl, _, World.drewN_drewN _ _ _⟩ | exact ⟨rfl, _, Eq.trans (World.drewN_drewN _ _ _) (congrArg (World.drewN _) (Nat.add_assoc _ _ _))⟩)) | (go_at_call 121; (with_reducible refine (aH.calls k a0 a1 t570 _ A5.out).mono ?_); rintro e w' ⟨rfl, ⟨nd, rfl⟩⟩; (try first | exact ⟨rfl, _, World.drewN_drewN _ _ _⟩ | exact ⟨rfl, _, Eq.trans (World.drewN_drewN _ _ _) (congrArg (World.drewN _) (Nat.add_assoc _ _ _))⟩))))
    go_ret3
    exact ⟨gr_, gd_⟩


section
variable {P : Program} {d c i o : Nat} {e : TypeId} {xs ys : Array Value} {is : List Nat} {a b : Value} {r s : Bool} {w : World}
theorem jF (ho : i * c = o) (ha : (part e xs o).run P w = .ok a w) (hb : (part e ys o).run P w = .ok b w) (he : (Op.equalIn d e a b).run P w = .ok r w) (hr : (Op.eqItems d e c xs ys is).run P w = .ok s w) : (Op.eqItems d e c xs ys (i :: is)).run P w = .ok (r && s) w := by
 simp only [Op.eqItems, Sem.run_bind, ho, ha, hb, he, Result.andThen_ok]
 cases r
 ·simp
 ·simpa using hr
theorem eqi_last (ho : i * c = o) (ha : (part e xs o).run P w = .ok a w) (hb : (part e ys o).run P w = .ok b w) (he : (Op.equalIn d e a b).run P w = .ok r w) : (Op.eqItems d e c xs ys [i]).run P w = .ok r w := by
 have h := jF (is := []) ho ha hb he (s := true) (by simp [Op.eqItems])
 rwa [Bool.and_true] at h
theorem eqArr_of {t : TypeId} {n : Nat} (hc : P.cellsOf e = c) (hu : P.underlying t = some (.array n e)) (hi : (P.info? e).isSome = true) (h : (Op.eqItems d e c xs ys (List.range n)).run P w = .ok r w) : (Op.equalIn (d + 1) t (.agg xs) (.agg ys)).run P w = .ok r w := by
 rw [run_equalIn_array w d xs ys hu (Option.some_get hi).symm, hc]; exact h
end
theorem eqA99 (d : Nat) (w : World) (x0 y0 : Int) (x1 y1 : Int) (x2 y2 : Int) (x3 y3 : Int) (x4 y4 : Int) (x5 y5 : Int) (x6 y6 : Int) (x7 y7 : Int) (x8 y8 : Int) (x9 y9 : Int) :
  (Op.equalIn (d + 2) 99 (.agg #[.int .u64 x0, .int .u64 x1, .int .u64 x2, .int .u64 x3, .int .u64 x4, .int .u64 x5, .int .u64 x6, .int .u64 x7, .int .u64 x8, .int .u64 x9]) (.agg #[.int .u64 y0, .int .u64 y1, .int .u64 y2, .int .u64 y3, .int .u64 y4, .int .u64 y5, .int .u64 y6, .int .u64 y7, .int .u64 y8, .int .u64 y9])).run Tryz.prog w = .ok (x0 == y0 && (x1 == y1 && (x2 == y2 && (x3 == y3 && (x4 == y4 && (x5 == y5 && (x6 == y6 && (x7 == y7 && (x8 == y8 && (x9 == y9)))))))))) w := by
 first
 |refine eqA_of Tryz.underlying99 (by kernel_rfl) ?_
  refine eqf_cons (by rfl) (by go_simp; rfl) (by go_simp; rfl) (by go_simp) ?_
  refine eqf_cons (by rfl) (by go_simp; rfl) (by go_simp; rfl) (by go_simp) ?_
  refine eqf_cons (by rfl) (by go_simp; rfl) (by go_simp; rfl) (by go_simp) ?_
  refine eqf_cons (by rfl) (by go_simp; rfl) (by go_simp; rfl) (by go_simp) ?_
  refine eqf_cons (by rfl) (by go_simp; rfl) (by go_simp; rfl) (by go_simp) ?_
  refine eqf_cons (by rfl) (by go_simp; rfl) (by go_simp; rfl) (by go_simp) ?_
  refine eqf_cons (by rfl) (by go_simp; rfl) (by go_simp; rfl) (by go_simp) ?_
  refine eqf_cons (by rfl) (by go_simp; rfl) (by go_simp; rfl) (by go_simp) ?_
  refine eqf_cons (by rfl) (by go_simp; rfl) (by go_simp; rfl) (by go_simp) ?_
  exact eqf_last (by rfl) (by go_simp; rfl) (by go_simp; rfl) (by go_simp)
 |refine eqArr_of (c := 1) (by kernel_rfl) Tryz.underlying99 (by kernel_rfl) ?_
  rw [show List.range 10 = [0, 1, 2, 3, 4, 5, 6, 7, 8, 9] from rfl]
  refine jF rfl (by go_simp; rfl) (by go_simp; rfl) (by go_simp) ?_
  refine jF rfl (by go_simp; rfl) (by go_simp; rfl) (by go_simp) ?_
  refine jF rfl (by go_simp; rfl) (by go_simp; rfl) (by go_simp) ?_
  refine jF rfl (by go_simp; rfl) (by go_simp; rfl) (by go_simp) ?_
  refine jF rfl (by go_simp; rfl) (by go_simp; rfl) (by go_simp) ?_
  refine jF rfl (by go_simp; rfl) (by go_simp; rfl) (by go_simp) ?_
  refine jF rfl (by go_simp; rfl) (by go_simp; rfl) (by go_simp) ?_
  refine jF rfl (by go_simp; rfl) (by go_simp; rfl) (by go_simp) ?_
  refine jF rfl (by go_simp; rfl) (by go_simp; rfl) (by go_simp) ?_
  exact eqi_last rfl (by go_simp; rfl) (by go_simp; rfl) (by go_simp)
end Go.Proofs.YtolpdiifmacdbaaGreat.P
