import Derived.Test.YtfapjegkilljnaaGreatQotZ
import Derived.Test.YtfapjegkilljnaaGreatQotM5
import Derived.Test.YtfapjegkilljnaaGreatQotM10
import Derived.Test.YtfapjegkilljnaaGreatQotM11
import Derived.Test.YtfapjegkilljnaaGreatQotM12
import Derived.Test.YtfapjegkilljnaaGreatQotM8
import Derived.Test.YtfapjegkilljnaaGreatQotM6
import Derived.Test.YtfapjegkilljnaaGreatQotM3
import Derived.Test.YtfapjegkilljnaaGreatQotM9
-- Printed by a program of this session's out of Lean's print of the translation; Lean checks it.
set_option linter.unusedVariables false
set_option linter.unusedSimpArgs false
set_option maxRecDepth 100000
set_option maxHeartbeats 8000000
namespace Go.Proofs.YtfapjegkilljnaaGreat.P
open Go.RowKit Go.Proofs.YtfapjegkilljnaaGreatW.PrintWords Go.Proofs.YtfapjegkilljnaaGreatW.PrintLast Go.Proofs.YtfapjegkilljnaaGreatW.PrintMore
attribute [local go_sem] max2_int min2_int max_two min_two max_three min_three max_four min_four

-- NEED 3
/-! ### mM: function 33 -/
def mM.f (k : Nat) (a0 a1 : Int) : Option (Int) := (bO.f k 2 0 a0 a1).bind fun bt516 => (some bt516.1)
theorem mM.calls (k : Nat) (a0 a1 r : Int) (w : World) (h : mM.f k a0 a1 = some r) :
  Calls Tryz.prog 33 #[.int .u32 a0, .int .u32 a1] w fun e w' => e = .returned (.int .u32 r) ∧ Below w.heap.size w w' := by
 have hu60 := Tryz.underlying60
 have HB := Aside0.mk (Below.refl w.heap.size w)
 have H : ((bO.f k 2 0 a0 a1).bind fun bt516 => (some bt516.1)) = some r := h
 clear h
 replace H := bq_ H
 obtain ⟨⟨t516, t517, t518, t519, t520, t521⟩, A30, H⟩ := H
 replace H : (some t516) = some r := H
 have A3 := Aside0.mk A30
 clear A30
 obtain rfl := Option.some.inj H
 go_enter Tryz.func33, Tryz.ntmps33
 go_wp2_with (first | ((with_reducible refine gate_callee (f := 65) rfl ?_); refine goesL_ (some 10) rfl rfl Tryz.func65 (by kernel_rfl) rfl #[.int .i64 2, .int .i64 0, .int .u32 a0, .int .u32 a1] rfl gl ?_; (with_reducible refine (bO.calls k 2 0 a0 a1 t516 t517 t518 t519 t520 t521 _ A3.out).mono ?_); rintro e w4 ⟨rfl, hb⟩; refine ⟨_, rfl, ?_⟩; have n0_ := Aside0.mk (below_step (bl0 HB.out) hb); clear HB; have HB := n0_; clear n0_) | ((with_reducible refine gate_dst (N := 6) rfl ?_); refine box_event ?hg (N := 6) ?hd (cs := F5) (t := 60) ?hr ?_; (case hd => rfl); (case hg => rfl); (case hr => first | (go_simp; done) | (go_simp; rfl)); intro gb522 hg w5 hbox hb; have n0_ := Aside0.mk (below_step (bl0 HB.out) hb); have n1_ := Aside0.mk (hbox); have n2_ := Aside0.mk ((by rw [hg]; exact (below_size (bl0 HB.out)) : w.heap.size ≤ gb522)); have n3_ := n2_; clear HB; have HB := n0_; have BK522 := n1_; have GW522 := n2_; have GE522 := n3_; clear n0_ n1_ n2_ n3_; clear hb hbox hg; obtain ⟨hcz6_0, hcz6_1, hcz6_2, hcz6_3, hcz6_4⟩ := bc5 BK522.out; obtain ⟨hfz6_0, hfz6_1, hfz6_2, hfz6_3, hfz6_4⟩ := bf5 BK522.out))
 go_ret
 exact ⟨by first | rfl | (simp [bT, bU] <;> rfl) | (simp [*, bT, bU] <;> rfl), bl1 HB.out GE522.out⟩

-- NEED 3
/-! ### mJ: function 34 -/
def mJ.f (k : Nat) (a0 a1 : Int) : Option (Int) := (cK.f k 2 0 a0 a1).bind fun bt523 => (some bt523.1)
theorem mJ.calls (k : Nat) (a0 a1 r : Int) (w : World) (h : mJ.f k a0 a1 = some r) :
  Calls Tryz.prog 34 #[.int .u32 a0, .int .u32 a1] w fun e w' => e = .returned (.int .u32 r) ∧ Below w.heap.size w w' := by
 have hu60 := Tryz.underlying60
 have HB := Aside0.mk (Below.refl w.heap.size w)
 have H : ((cK.f k 2 0 a0 a1).bind fun bt523 => (some bt523.1)) = some r := h
 clear h
 replace H := bq_ H
 obtain ⟨⟨t523, t524, t525, t526, t527, t528⟩, A30, H⟩ := H
 replace H : (some t523) = some r := H
 have A3 := Aside0.mk A30
 clear A30
 obtain rfl := Option.some.inj H
 go_enter Tryz.func34, Tryz.ntmps34
 go_wp2_with (first | ((with_reducible refine gate_callee (f := 66) rfl ?_); refine goesL_ (some 10) rfl rfl Tryz.func66 (by kernel_rfl) rfl #[.int .i64 2, .int .i64 0, .int .u32 a0, .int .u32 a1] rfl gl ?_; (with_reducible refine (cK.calls k 2 0 a0 a1 t523 t524 t525 t526 t527 t528 _ A3.out).mono ?_); rintro e w4 ⟨rfl, hb⟩; refine ⟨_, rfl, ?_⟩; have n0_ := Aside0.mk (below_step (bl0 HB.out) hb); clear HB; have HB := n0_; clear n0_) | ((with_reducible refine gate_dst (N := 6) rfl ?_); refine box_event ?hg (N := 6) ?hd (cs := F5) (t := 60) ?hr ?_; (case hd => rfl); (case hg => rfl); (case hr => first | (go_simp; done) | (go_simp; rfl)); intro gb529 hg w5 hbox hb; have n0_ := Aside0.mk (below_step (bl0 HB.out) hb); have n1_ := Aside0.mk (hbox); have n2_ := Aside0.mk ((by rw [hg]; exact (below_size (bl0 HB.out)) : w.heap.size ≤ gb529)); have n3_ := n2_; clear HB; have HB := n0_; have BK529 := n1_; have GW529 := n2_; have GE529 := n3_; clear n0_ n1_ n2_ n3_; clear hb hbox hg; obtain ⟨hcz6_0, hcz6_1, hcz6_2, hcz6_3, hcz6_4⟩ := bc5 BK529.out; obtain ⟨hfz6_0, hfz6_1, hfz6_2, hfz6_3, hfz6_4⟩ := bf5 BK529.out))
 go_ret
 exact ⟨by first | rfl | (simp [bT, bU] <;> rfl) | (simp [*, bT, bU] <;> rfl), bl1 HB.out GE529.out⟩


-- EVALUATED
/-! ### aP: function 37 -/
noncomputable def aP.f (k : Nat) (a0 a1 : Int) (a2 a3 a4 : Int) : Option (Int × Bool × Bool × Bool × Bool × Bool) := Go.Proofs.YtfapjegkilljnaaGreat.E.aP.f k a0 a1 a2 a3 a4
theorem aP.calls (k : Nat) (a0 a1 : Int) (a2 a3 : Int) (a4 r1 : Int) (r2 r3 : Bool) (r4 r5 r6 : Bool) (w : World) (h : aP.f k a0 a1 a2 a3 a4 = some (r1, r2, r3, r4, r5, r6)) :
  Calls Tryz.prog 37 #[.int .i64 a0, .int .i64 a1, .int .u32 a2, .int .u32 a3, .int .u32 a4] w fun e w' => e = .returned (.tuple #[.int .u32 r1, .agg #[.bool r2, .bool r3, .bool r4, .bool r5, .bool r6]]) ∧ Below w.heap.size w w' :=
 Go.Proofs.YtfapjegkilljnaaGreat.Ek.iK Go.Proofs.YtfapjegkilljnaaGreat.E.aP.ok k ((a0, ()), (a1, ()), (a2, ()), (a3, ()), (a4, ()), ()) (r1, r2, r3, r4, r5, r6) rfl h w


-- NEED 5
/-! ### gN: function 19 -/
noncomputable def gN.f (k : Nat) (a0 a1 a2 : Int) : Option (Int) := (aP.f k 2 0 a0 a1 a2).bind fun bt891 => (some bt891.1)
theorem gN.calls (k : Nat) (a0 a1 : Int) (a2 r : Int) (w : World) (h : gN.f k a0 a1 a2 = some r) :
  Calls Tryz.prog 19 #[.int .u32 a0, .int .u32 a1, .int .u32 a2] w fun e w' => e = .returned (.int .u32 r) ∧ Below w.heap.size w w' := by
 have hu60 := Tryz.underlying60
 have HB := Aside0.mk (Below.refl w.heap.size w)
 have H : ((aP.f k 2 0 a0 a1 a2).bind fun bt891 => (some bt891.1)) = some r := h
 clear h
 replace H := bq_ H
 obtain ⟨⟨t891, t892, t893, t894, t895, t896⟩, A40, H⟩ := H
 replace H : (some t891) = some r := H
 have A4 := Aside0.mk A40
 clear A40
 obtain rfl := Option.some.inj H
 go_enter Tryz.func19, Tryz.ntmps19
 go_wp2_with (first | ((with_reducible refine gate_callee (f := 37) rfl ?_); refine goesL_ (some 13) rfl rfl Tryz.func37 (by kernel_rfl) rfl #[.int .i64 2, .int .i64 0, .int .u32 a0, .int .u32 a1, .int .u32 a2] rfl gl ?_; (with_reducible refine (aP.calls k 2 0 a0 a1 a2 t891 t892 t893 t894 t895 t896 _ A4.out).mono ?_); rintro e w5 ⟨rfl, hb⟩; refine ⟨_, rfl, ?_⟩; have n0_ := Aside0.mk (below_step (bl0 HB.out) hb); clear HB; have HB := n0_; clear n0_) | ((with_reducible refine gate_dst (N := 8) rfl ?_); refine box_event ?hg (N := 8) ?hd (cs := F5) (t := 60) ?hr ?_; (case hd => rfl); (case hg => rfl); (case hr => first | (go_simp; done) | (go_simp; rfl)); intro gb897 hg w6 hbox hb; have n0_ := Aside0.mk (below_step (bl0 HB.out) hb); have n1_ := Aside0.mk (hbox); have n2_ := Aside0.mk ((by rw [hg]; exact (below_size (bl0 HB.out)) : w.heap.size ≤ gb897)); have n3_ := n2_; clear HB; have HB := n0_; have BK897 := n1_; have GW897 := n2_; have GE897 := n3_; clear n0_ n1_ n2_ n3_; clear hb hbox hg; obtain ⟨hcz7_0, hcz7_1, hcz7_2, hcz7_3, hcz7_4⟩ := bc5 BK897.out; obtain ⟨hfz7_0, hfz7_1, hfz7_2, hfz7_3, hfz7_4⟩ := bf5 BK897.out))
 go_ret
 exact ⟨by first | rfl | (simp [bT, bU] <;> rfl) | (simp [*, bT, bU] <;> rfl), bl1 HB.out GE897.out⟩


-- NEED 2
/-! ### gM: function 20 -/
def gM.f (k : Nat) (a0 a1 : Int) : Option (Int) := (aJ.f k 2 0 a0 a1).bind fun bt929 => (some bt929.1)
theorem gM.calls (k : Nat) (a0 a1 r : Int) (w : World) (h : gM.f k a0 a1 = some r) :
  Calls Tryz.prog 20 #[.int .u32 a0, .int .u32 a1] w fun e w' => e = .returned (.int .u32 r) ∧ Below w.heap.size w w' := by
 have hu60 := Tryz.underlying60
 have HB := Aside0.mk (Below.refl w.heap.size w)
 have H : ((aJ.f k 2 0 a0 a1).bind fun bt929 => (some bt929.1)) = some r := h
 clear h
 replace H := bq_ H
 obtain ⟨⟨t929, t930, t931, t932, t933, t934⟩, A30, H⟩ := H
 replace H : (some t929) = some r := H
 have A3 := Aside0.mk A30
 clear A30
 obtain rfl := Option.some.inj H
 go_enter Tryz.func20, Tryz.ntmps20
 go_wp2_with (first | ((with_reducible refine gate_callee (f := 38) rfl ?_); refine goesL_ (some 10) rfl rfl Tryz.func38 (by kernel_rfl) rfl #[.int .i64 2, .int .i64 0, .int .u32 a0, .int .u32 a1] rfl gl ?_; (with_reducible refine (aJ.calls k 2 0 a0 a1 t929 t930 t931 t932 t933 t934 _ A3.out).mono ?_); rintro e w4 ⟨rfl, hb⟩; refine ⟨_, rfl, ?_⟩; have n0_ := Aside0.mk (below_step (bl0 HB.out) hb); clear HB; have HB := n0_; clear n0_) | ((with_reducible refine gate_dst (N := 6) rfl ?_); refine box_event ?hg (N := 6) ?hd (cs := F5) (t := 60) ?hr ?_; (case hd => rfl); (case hg => rfl); (case hr => first | (go_simp; done) | (go_simp; rfl)); intro gb935 hg w5 hbox hb; have n0_ := Aside0.mk (below_step (bl0 HB.out) hb); have n1_ := Aside0.mk (hbox); have n2_ := Aside0.mk ((by rw [hg]; exact (below_size (bl0 HB.out)) : w.heap.size ≤ gb935)); have n3_ := n2_; clear HB; have HB := n0_; have BK935 := n1_; have GW935 := n2_; have GE935 := n3_; clear n0_ n1_ n2_ n3_; clear hb hbox hg; obtain ⟨hcz6_0, hcz6_1, hcz6_2, hcz6_3, hcz6_4⟩ := bc5 BK935.out; obtain ⟨hfz6_0, hfz6_1, hfz6_2, hfz6_3, hfz6_4⟩ := bf5 BK935.out))
 go_ret
 exact ⟨by first | rfl | (simp [bT, bU] <;> rfl) | (simp [*, bT, bU] <;> rfl), bl1 HB.out GE935.out⟩


-- EVALUATED
/-! ### aY: function 41 -/
noncomputable def aY.f (k : Nat) (a0 a1 : Int) (a2 a3 : Int) : Option (Int × Bool × Bool × Bool × Bool × Bool) := Go.Proofs.YtfapjegkilljnaaGreat.E.aY.f k a0 a1 a2 a3
theorem aY.calls (k : Nat) (a0 a1 : Int) (a2 a3 r1 : Int) (r2 r3 : Bool) (r4 r5 r6 : Bool) (w : World) (h : aY.f k a0 a1 a2 a3 = some (r1, r2, r3, r4, r5, r6)) :
  Calls Tryz.prog 41 #[.int .i64 a0, .int .i64 a1, .int .u32 a2, .int .u32 a3] w fun e w' => e = .returned (.tuple #[.int .u32 r1, .agg #[.bool r2, .bool r3, .bool r4, .bool r5, .bool r6]]) ∧ Below w.heap.size w w' :=
 Go.Proofs.YtfapjegkilljnaaGreat.Ek.iK Go.Proofs.YtfapjegkilljnaaGreat.E.aY.ok k ((a0, ()), (a1, ()), (a2, ()), (a3, ()), ()) (r1, r2, r3, r4, r5, r6) rfl h w


-- EVALUATED
/-! ### dA: function 39 -/
noncomputable def dA.f (k : Nat) (a0 a1 : Int) (a2 a3 : Int) : Option (Int × Bool × Bool × Bool × Bool × Bool) := Go.Proofs.YtfapjegkilljnaaGreat.E.dA.f k a0 a1 a2 a3
theorem dA.calls (k : Nat) (a0 a1 : Int) (a2 a3 r1 : Int) (r2 r3 : Bool) (r4 r5 r6 : Bool) (w : World) (h : dA.f k a0 a1 a2 a3 = some (r1, r2, r3, r4, r5, r6)) :
  Calls Tryz.prog 39 #[.int .i64 a0, .int .i64 a1, .int .u32 a2, .int .u32 a3] w fun e w' => e = .returned (.tuple #[.int .u32 r1, .agg #[.bool r2, .bool r3, .bool r4, .bool r5, .bool r6]]) ∧ Below w.heap.size w w' :=
 Go.Proofs.YtfapjegkilljnaaGreat.Ek.iK Go.Proofs.YtfapjegkilljnaaGreat.E.dA.ok k ((a0, ()), (a1, ()), (a2, ()), (a3, ()), ()) (r1, r2, r3, r4, r5, r6) rfl h w


-- NEED 5
/-! ### gP: function 21 -/
noncomputable def gP.f (k : Nat) (a0 a1 : Int) : Option (Int) := (dA.f k 2 0 a0 a1).bind fun bt936 => (some bt936.1)
theorem gP.calls (k : Nat) (a0 a1 r : Int) (w : World) (h : gP.f k a0 a1 = some r) :
  Calls Tryz.prog 21 #[.int .u32 a0, .int .u32 a1] w fun e w' => e = .returned (.int .u32 r) ∧ Below w.heap.size w w' := by
 have hu60 := Tryz.underlying60
 have HB := Aside0.mk (Below.refl w.heap.size w)
 have H : ((dA.f k 2 0 a0 a1).bind fun bt936 => (some bt936.1)) = some r := h
 clear h
 replace H := bq_ H
 obtain ⟨⟨t936, t937, t938, t939, t940, t941⟩, A30, H⟩ := H
 replace H : (some t936) = some r := H
 have A3 := Aside0.mk A30
 clear A30
 obtain rfl := Option.some.inj H
 go_enter Tryz.func21, Tryz.ntmps21
 go_wp2_with (first | ((with_reducible refine gate_callee (f := 39) rfl ?_); refine goesL_ (some 10) rfl rfl Tryz.func39 (by kernel_rfl) rfl #[.int .i64 2, .int .i64 0, .int .u32 a0, .int .u32 a1] rfl gl ?_; (with_reducible refine (dA.calls k 2 0 a0 a1 t936 t937 t938 t939 t940 t941 _ A3.out).mono ?_); rintro e w4 ⟨rfl, hb⟩; refine ⟨_, rfl, ?_⟩; have n0_ := Aside0.mk (below_step (bl0 HB.out) hb); clear HB; have HB := n0_; clear n0_) | ((with_reducible refine gate_dst (N := 6) rfl ?_); refine box_event ?hg (N := 6) ?hd (cs := F5) (t := 60) ?hr ?_; (case hd => rfl); (case hg => rfl); (case hr => first | (go_simp; done) | (go_simp; rfl)); intro gb942 hg w5 hbox hb; have n0_ := Aside0.mk (below_step (bl0 HB.out) hb); have n1_ := Aside0.mk (hbox); have n2_ := Aside0.mk ((by rw [hg]; exact (below_size (bl0 HB.out)) : w.heap.size ≤ gb942)); have n3_ := n2_; clear HB; have HB := n0_; have BK942 := n1_; have GW942 := n2_; have GE942 := n3_; clear n0_ n1_ n2_ n3_; clear hb hbox hg; obtain ⟨hcz6_0, hcz6_1, hcz6_2, hcz6_3, hcz6_4⟩ := bc5 BK942.out; obtain ⟨hfz6_0, hfz6_1, hfz6_2, hfz6_3, hfz6_4⟩ := bf5 BK942.out))
 go_ret
 exact ⟨by first | rfl | (simp [bT, bU] <;> rfl) | (simp [*, bT, bU] <;> rfl), bl1 HB.out GE942.out⟩


-- NEED 2
/-! ### gK: function 22 -/
def gK.f (k : Nat) (a0 a1 : Int) : Option (Int) := (aB.f k 2 0 a0 a1).bind fun bt978 => (some bt978.1)
theorem gK.calls (k : Nat) (a0 a1 r : Int) (w : World) (h : gK.f k a0 a1 = some r) :
  Calls Tryz.prog 22 #[.int .u32 a0, .int .u32 a1] w fun e w' => e = .returned (.int .u32 r) ∧ Below w.heap.size w w' := by
 have hu60 := Tryz.underlying60
 have HB := Aside0.mk (Below.refl w.heap.size w)
 have H : ((aB.f k 2 0 a0 a1).bind fun bt978 => (some bt978.1)) = some r := h
 clear h
 replace H := bq_ H
 obtain ⟨⟨t978, t979, t980, t981, t982, t983⟩, A30, H⟩ := H
 replace H : (some t978) = some r := H
 have A3 := Aside0.mk A30
 clear A30
 obtain rfl := Option.some.inj H
 go_enter Tryz.func22, Tryz.ntmps22
 go_wp2_with (first | ((with_reducible refine gate_callee (f := 40) rfl ?_); refine goesL_ (some 10) rfl rfl Tryz.func40 (by kernel_rfl) rfl #[.int .i64 2, .int .i64 0, .int .u32 a0, .int .u32 a1] rfl gl ?_; (with_reducible refine (aB.calls k 2 0 a0 a1 t978 t979 t980 t981 t982 t983 _ A3.out).mono ?_); rintro e w4 ⟨rfl, hb⟩; refine ⟨_, rfl, ?_⟩; have n0_ := Aside0.mk (below_step (bl0 HB.out) hb); clear HB; have HB := n0_; clear n0_) | ((with_reducible refine gate_dst (N := 6) rfl ?_); refine box_event ?hg (N := 6) ?hd (cs := F5) (t := 60) ?hr ?_; (case hd => rfl); (case hg => rfl); (case hr => first | (go_simp; done) | (go_simp; rfl)); intro gb984 hg w5 hbox hb; have n0_ := Aside0.mk (below_step (bl0 HB.out) hb); have n1_ := Aside0.mk (hbox); have n2_ := Aside0.mk ((by rw [hg]; exact (below_size (bl0 HB.out)) : w.heap.size ≤ gb984)); have n3_ := n2_; clear HB; have HB := n0_; have BK984 := n1_; have GW984 := n2_; have GE984 := n3_; clear n0_ n1_ n2_ n3_; clear hb hbox hg; obtain ⟨hcz6_0, hcz6_1, hcz6_2, hcz6_3, hcz6_4⟩ := bc5 BK984.out; obtain ⟨hfz6_0, hfz6_1, hfz6_2, hfz6_3, hfz6_4⟩ := bf5 BK984.out))
 go_ret
 exact ⟨by first | rfl | (simp [bT, bU] <;> rfl) | (simp [*, bT, bU] <;> rfl), bl1 HB.out GE984.out⟩


-- NEED 5
/-! ### gQ: function 23 -/
noncomputable def gQ.f (k : Nat) (a0 a1 : Int) : Option (Int) := (aY.f k 2 0 a0 a1).bind fun bt985 => (some bt985.1)
theorem gQ.calls (k : Nat) (a0 a1 r : Int) (w : World) (h : gQ.f k a0 a1 = some r) :
  Calls Tryz.prog 23 #[.int .u32 a0, .int .u32 a1] w fun e w' => e = .returned (.int .u32 r) ∧ Below w.heap.size w w' := by
 have hu60 := Tryz.underlying60
 have HB := Aside0.mk (Below.refl w.heap.size w)
 have H : ((aY.f k 2 0 a0 a1).bind fun bt985 => (some bt985.1)) = some r := h
 clear h
 replace H := bq_ H
 obtain ⟨⟨t985, t986, t987, t988, t989, t990⟩, A30, H⟩ := H
 replace H : (some t985) = some r := H
 have A3 := Aside0.mk A30
 clear A30
 obtain rfl := Option.some.inj H
 go_enter Tryz.func23, Tryz.ntmps23
 go_wp2_with (first | ((with_reducible refine gate_callee (f := 41) rfl ?_); refine goesL_ (some 10) rfl rfl Tryz.func41 (by kernel_rfl) rfl #[.int .i64 2, .int .i64 0, .int .u32 a0, .int .u32 a1] rfl gl ?_; (with_reducible refine (aY.calls k 2 0 a0 a1 t985 t986 t987 t988 t989 t990 _ A3.out).mono ?_); rintro e w4 ⟨rfl, hb⟩; refine ⟨_, rfl, ?_⟩; have n0_ := Aside0.mk (below_step (bl0 HB.out) hb); clear HB; have HB := n0_; clear n0_) | ((with_reducible refine gate_dst (N := 6) rfl ?_); refine box_event ?hg (N := 6) ?hd (cs := F5) (t := 60) ?hr ?_; (case hd => rfl); (case hg => rfl); (case hr => first | (go_simp; done) | (go_simp; rfl)); intro gb991 hg w5 hbox hb; have n0_ := Aside0.mk (below_step (bl0 HB.out) hb); have n1_ := Aside0.mk (hbox); have n2_ := Aside0.mk ((by rw [hg]; exact (below_size (bl0 HB.out)) : w.heap.size ≤ gb991)); have n3_ := n2_; clear HB; have HB := n0_; have BK991 := n1_; have GW991 := n2_; have GE991 := n3_; clear n0_ n1_ n2_ n3_; clear hb hbox hg; obtain ⟨hcz6_0, hcz6_1, hcz6_2, hcz6_3, hcz6_4⟩ := bc5 BK991.out; obtain ⟨hfz6_0, hfz6_1, hfz6_2, hfz6_3, hfz6_4⟩ := bf5 BK991.out))
 go_ret
 exact ⟨by first | rfl | (simp [bT, bU] <;> rfl) | (simp [*, bT, bU] <;> rfl), bl1 HB.out GE991.out⟩

end Go.Proofs.YtfapjegkilljnaaGreat.P

/- Functions of single numbers: the program's and the reference's, as plain numbers. -/
namespace Go.Proofs.YtfapjegkilljnaaGreat.Round
open Go.RowKit Go.Proofs.YtfapjegkilljnaaGreat.P Go.Proofs.YtfapjegkilljnaaGreat.Num Go.Proofs.YtfapjegkilljnaaGreat.BitsF Go.Proofs.YtfapjegkilljnaaGreat.Fmt Go.Proofs.YtfapjegkilljnaaGreatW.PrintWords Go.Proofs.YtfapjegkilljnaaGreatW.PrintLast Go.Proofs.YtfapjegkilljnaaGreatW.PrintMore

theorem fadd_ev (a b : Nat) (ha : a < 4294967296) (hb : b < 4294967296) : Ev (fun k => mJ.f k (a : Int) (b : Int)) ((vP 2 0 a b : Nat) : Int) :=
 Ev.congr (fun k => by unfold mJ.f; rfl) (Ev.bind (add_ev 2 0 a b ha hb) (Ev.now _))
theorem fsub_ev (a b : Nat) (ha : a < 4294967296) (hb : b < 4294967296) : Ev (fun k => mG.f k (a : Int) (b : Int)) ((zH 2 0 a b : Nat) : Int) :=
 Ev.congr (fun k => by unfold mG.f; rfl) (Ev.bind (sub_ev 2 0 a b ha hb) (Ev.now _))
theorem fmul_ev (a b : Nat) (ha : a < 4294967296) (hb : b < 4294967296) : Ev (fun k => l9.f k (a : Int) (b : Int)) ((mulN 2 0 a b : Nat) : Int) :=
 Ev.congr (fun k => by unfold l9.f; rfl) (Ev.bind (mul_ev 2 0 a b ha hb) (Ev.now _))
theorem fdiv_ev (a b : Nat) (ha : a < 4294967296) (hb : b < 4294967296) : Ev (fun k => mM.f k (a : Int) (b : Int)) ((divN 2 0 a b : Nat) : Int) :=
 Ev.congr (fun k => by unfold mM.f; rfl) (Ev.bind (div_ev 2 0 a b ha hb) (Ev.now _))
theorem ffma_ev (a b c : Nat) (ha : a < 4294967296) (hb : b < 4294967296) (hc : c < 4294967296) : Ev (fun k => mH.f k (a : Int) (b : Int) (c : Int)) ((pV 2 0 a b c : Nat) : Int) :=
 Ev.congr (fun k => by unfold mH.f; rfl) (Ev.bind (aAt 2 0 a b c ha hb hc) (Ev.now _))
theorem fminus_f (a : Nat) (ha : a < 4294967296) : jQ.f (a : Int) = some ((jJ 2 a : Nat) : Int) := by
 unfold jQ.f; rw [turn_f 2 a ha, Option.bind_some]
theorem aBf (a b : Nat) (ha : a < 4294967296) (hb : b < 4294967296) : Ev (fun k => gQ.f k (a : Int) (b : Int)) ((vP 2 0 a b : Nat) : Int) :=
 Ev.congr (fun k => by unfold gQ.f; rfl) (Ev.bind (show Ev (fun k => aY.f k 2 0 (a : Int) (b : Int)) _ from qJ 2 0 a b ha hb) (Ev.now _))
theorem aB4 (a b : Nat) (ha : a < 4294967296) (hb : b < 4294967296) : Ev (fun k => gP.f k (a : Int) (b : Int)) ((zH 2 0 a b : Nat) : Int) :=
 Ev.congr (fun k => by unfold gP.f; rfl) (Ev.bind (show Ev (fun k => dA.f k 2 0 (a : Int) (b : Int)) _ from aAO 2 0 a b ha hb) (Ev.now _))
theorem aA3 (a b : Nat) (ha : a < 4294967296) (hb : b < 4294967296) : Ev (fun k => gM.f k (a : Int) (b : Int)) ((mulN 2 0 a b : Nat) : Int) :=
 Ev.congr (fun k => by unfold gM.f; rfl) (Ev.bind (yC 2 0 a b ha hb) (Ev.now _))
theorem aBp (a b : Nat) (ha : a < 4294967296) (hb : b < 4294967296) : Ev (fun k => gK.f k (a : Int) (b : Int)) ((divN 2 0 a b : Nat) : Int) :=
 Ev.congr (fun k => by unfold gK.f; rfl) (Ev.bind (aAy 2 0 a b ha hb) (Ev.now _))
theorem aBP (a b c : Nat) (ha : a < 4294967296) (hb : b < 4294967296) (hc : c < 4294967296) : Ev (fun k => gN.f k (a : Int) (b : Int) (c : Int)) ((pV 2 0 a b c : Nat) : Int) :=
 Ev.congr (fun k => by unfold gN.f; rfl) (Ev.bind (show Ev (fun k => aP.f k 2 0 (a : Int) (b : Int) (c : Int)) _ from aAw 2 0 a b c ha hb hc) (Ev.now _))
/- Numbers drawn, of any format at all: plain numbers. -/

theorem any_in (n : Int) : ∃ m : Nat, IntKind.u32.wrap n = (m : Int) ∧ m < 4294967296 := by
 rw [rD]
 exact ⟨(n % 4294967296).toNat, by omega, by omega⟩
theorem zI (op : BinOp) (a b : Int) (h : op = .and ∨ op = .or) : ∃ m : Nat, Go.bits op .u32 a b = (m : Int) ∧ m < 4294967296 := by
 rcases h with rfl | rfl
 ·exact any_in _
 ·exact any_in _
theorem num_any (f : Int) (a : Nat) : ∃ x : Nat, bX.f f (a : Int) = some (x : Int) ∧ x < 4294967296 := by
 have e := Int.tmod_eq_emod_of_nonneg (b := 15) (Int.natCast_nonneg a)
 have hp : 0 ≤ Int.tmod (a : Int) 15 ∧ Int.tmod (a : Int) 15 < 15 := by rw [e]; omega
 have fin : ∀ y : Int, ∃ x : Nat, (if (a : Int) / 2147483648 = 1 then (some (eP f true : Int)).bind (fun t => some (Go.bits .or .u32 (Go.bits .and .u32 y (maskN f : Int)) t)) else some (Go.bits .and .u32 y (maskN f : Int))) = some (x : Int) ∧ x < 4294967296 := by
  intro y
  by_cases c : (a : Int) / 2147483648 = 1
  ·rw [if_pos c, Option.bind_some]
   obtain ⟨m, h1, h2⟩ := zI .or (Go.bits .and .u32 y (maskN f : Int)) (eP f true : Int) (.inr rfl)
   exact ⟨m, by rw [h1], h2⟩
  ·rw [if_neg c]
   obtain ⟨m, h1, h2⟩ := zI .and y (maskN f : Int) (.inl rfl)
   exact ⟨m, by rw [h1], h2⟩
 unfold bX.f
 rw [fA, Option.bind_some]
 dsimp only
 rcases rX f with ⟨h1, h2⟩ | ⟨h1, h2⟩ | ⟨h1, h2⟩
 ·rw [h1, h2, if_pos (by decide), if_pos (by decide), if_neg (by decide), if_pos (show (0 : Int) ≤ wrap64 (((10 : Nat) : Int) - 1) by unfold wrap64; omega), if_neg (by decide), Option.bind_some, if_pos hp.1, if_pos (by exact hp.2), gF, Option.bind_some, jE]
  exact fin _
 ·rw [h1, h2, if_pos (by decide), if_pos (by decide), if_neg (by decide), if_pos (show (0 : Int) ≤ wrap64 (((7 : Nat) : Int) - 1) by unfold wrap64; omega), if_neg (by decide), Option.bind_some, if_pos hp.1, if_pos (by exact hp.2), gF, Option.bind_some, jE]
  exact fin _
 ·rw [h1, h2, if_pos (by decide), if_pos (by decide), if_neg (by decide), if_pos (show (0 : Int) ≤ wrap64 (((23 : Nat) : Int) - 1) by unfold wrap64; omega), if_neg (by decide), Option.bind_some, if_pos hp.1, if_pos (by exact hp.2), gF, Option.bind_some, jE]
  exact fin _
end Go.Proofs.YtfapjegkilljnaaGreat.Round

/- Roots: the program's, as plain numbers (for rounds without chapter 1). -/
namespace Go.Proofs.YtfapjegkilljnaaGreat.BitsF
open Go.RowKit Go.Proofs.YtfapjegkilljnaaGreat.P Go.Proofs.YtfapjegkilljnaaGreat.Num Go.Proofs.YtfapjegkilljnaaGreatW.PrintWords Go.Proofs.YtfapjegkilljnaaGreatW.PrintLast Go.Proofs.YtfapjegkilljnaaGreatW.PrintMore

def iZ : Nat → Nat → Nat → Nat
 |0, _, r => r
 |j + 1, v, r => if (r + 2 ^ j) * (r + 2 ^ j) ≤ v then iZ j v (r + 2 ^ j) else iZ j v r
def fQ (v : Nat) : Nat := iZ 32 v 0
theorem aBI (j : Nat) : ∀ v r, r * r ≤ v → v < (r + 2 ^ j) * (r + 2 ^ j) → iZ j v r * iZ j v r ≤ v ∧ v < (iZ j v r + 1) * (iZ j v r + 1) := by
 induction j with
 |zero => intro v r h h'; exact ⟨h, h'⟩
 |succ j ih =>
  intro v r h h'
  unfold iZ
  by_cases c : (r + 2 ^ j) * (r + 2 ^ j) ≤ v
  ·rw [if_pos c]; exact ih v _ c (by rw [Nat.add_assoc, ← Nat.mul_two, ← Nat.pow_succ]; exact h')
  ·rw [if_neg c]; exact ih v r h (by omega)
theorem aBH (j : Nat) : ∀ v r n, r + 2 ^ j ≤ n → iZ j v r < n := by
 induction j with
 |zero => intro v r n h; unfold iZ; have := Nat.two_pow_pos 0; omega
 |succ j ih =>
  intro v r n h
  rw [Nat.pow_succ] at h
  unfold iZ
  split
  ·exact ih _ _ _ (by omega)
  ·exact ih _ _ _ (by omega)
theorem uZ (v : Nat) (hv : v < 18446744073709551616) : fQ v * fQ v ≤ v ∧ v < (fQ v + 1) * (fQ v + 1) := aBI 32 v 0 (by omega) (by omega)
theorem zL (v : Nat) : fQ v < 4294967296 := aBH 32 v 0 _ (by decide)
theorem sq_lt {a b : Nat} (h : a < b) : a * a < b * b := Nat.mul_self_lt_mul_self h
theorem sq32 {a : Nat} (h : a < 4294967296) : a * a < 18446744073709551616 := sq_lt (b := 4294967296) h
theorem zV (a b : Nat) : (((a : Int) == (b : Int)) : Bool) = decide (a = b) := by
 by_cases h : a = b
 ·subst h; simp
 ·rw [beq_eq_false_iff_ne.mpr (by omega)]; simp [h]
theorem root_l0 (v j : Nat) : ∀ r k : Nat, r % 2 ^ j = 0 → r + 2 ^ j ≤ 4294967296 →
  dK.l0 (j + 1 + k) (v : Int) (r : Int) ((2 ^ j / 2 : Nat) : Int) = some ((iZ j v r : Int), decide (iZ j v r * iZ j v r = v)) := by
 induction j with
 |zero =>
  intro r k h h'
  rw [show 0 + 1 + k = k + 1 by omega, dK.l0, if_neg (by decide)]
  rw [Nat.pow_zero] at h'
  unfold iZ
  rw [show (r : Int) * (r : Int) = ((r * r : Nat) : Int) by simp, fD _ (sq32 (by omega)), zV, Int.emod_eq_of_lt (by omega) (by omega)]
 |succ j ih =>
  intro r k h h'
  have hp := Nat.two_pow_pos j
  have e : 2 ^ (j + 1) / 2 = 2 ^ j := by rw [Nat.pow_succ, Nat.mul_div_cancel _ (by decide)]
  have e2 : ((2 ^ j : Nat) : Int) / 2 = ((2 ^ j / 2 : Nat) : Int) := by omega
  have hh : r % 2 ^ j = 0 := by
   rw [Nat.pow_succ] at h
   have := Nat.mod_mul_right_mod r (2 ^ j) 2
   rw [h] at this; simpa using this.symm
  rw [Nat.pow_succ] at h'
  rw [show j + 1 + 1 + k = (j + 1 + k) + 1 by omega, dK.l0, e, if_pos (by omega), aAc _ _ (by omega) (by omega), nD r (2 ^ j) (j + 1) h (by rw [Nat.pow_succ]; omega)]
  rw [show ((r + 2 ^ j : Nat) : Int) * ((r + 2 ^ j : Nat) : Int) = (((r + 2 ^ j) * (r + 2 ^ j) : Nat) : Int) by simp, fD _ (sq32 (by omega)), e2]
  unfold iZ
  by_cases c : (r + 2 ^ j) * (r + 2 ^ j) ≤ v
  ·rw [if_pos (by omega), if_pos c]
   exact ih (r + 2 ^ j) k (by rw [Nat.add_mod_right]; exact hh) (by omega)
  ·rw [if_neg (by omega), if_neg c]
   exact ih r k hh (by omega)
theorem root_ev (v : Nat) : Ev (fun k => dK.f k (v : Int)) ((fQ v : Int), decide (fQ v * fQ v = v)) :=
 Ev.of (dK.mono _) (k := 33) (by
  have h := root_l0 v 32 0 0 (by decide) (by decide)
  rw [show ((2 ^ 32 / 2 : Nat) : Int) = 2147483648 by decide, show ((0 : Nat) : Int) = 0 from rfl] at h
  exact h)
end Go.Proofs.YtfapjegkilljnaaGreat.BitsF

/- Roots of numbers: the program's, as plain numbers. -/
namespace Go.Proofs.YtfapjegkilljnaaGreat.Round
open Go.RowKit Go.Proofs.YtfapjegkilljnaaGreat.P Go.Proofs.YtfapjegkilljnaaGreat.Num Go.Proofs.YtfapjegkilljnaaGreat.BitsF Go.Proofs.YtfapjegkilljnaaGreat.Fmt Go.Proofs.YtfapjegkilljnaaGreatW.PrintWords Go.Proofs.YtfapjegkilljnaaGreatW.PrintLast Go.Proofs.YtfapjegkilljnaaGreatW.PrintMore

theorem pU (x : Int) : Int.tmod x 2 = 0 ↔ x % 2 = 0 := by
 constructor
 ·intro h
  have := Int.mul_tdiv_add_tmod x 2
  omega
 ·intro h
  obtain ⟨y, rfl⟩ : ∃ y, x = 2 * y := ⟨x / 2, by omega⟩
  exact Int.mul_tmod_right ..
theorem sD (x : Int) (h : x % 2 = 0) : Int.tdiv x 2 = x / 2 := by
 obtain ⟨y, rfl⟩ : ∃ y, x = 2 * y := ⟨x / 2, by omega⟩
 rw [Int.mul_tdiv_cancel_left y (by decide)]; omega
theorem xQ (f mode x : Int) (V j : Nat) (hV : V * 2 ^ (j + j) < 18446744073709551616) (hs : 2 ^ (fm f + 1) ≤ fQ V) :
  fI f mode false x (fQ (V * 2 ^ (j + j))) (!decide (fQ (V * 2 ^ (j + j)) * fQ (V * 2 ^ (j + j)) = V * 2 ^ (j + j))) = fI f mode false (x + j) (fQ V) (!decide (fQ V * fQ V = V)) ∧
  kY f mode false x (fQ (V * 2 ^ (j + j))) (!decide (fQ (V * 2 ^ (j + j)) * fQ (V * 2 ^ (j + j)) = V * 2 ^ (j + j))) = kY f mode false (x + j) (fQ V) (!decide (fQ V * fQ V = V)) := by
 have hp := Nat.two_pow_pos j
 have hV' : V < 18446744073709551616 := Nat.lt_of_le_of_lt (Nat.le_mul_of_pos_right V (Nat.two_pow_pos _)) hV
 obtain ⟨s1, s2⟩ := uZ V hV'
 obtain ⟨r1, r2⟩ := uZ _ hV
 generalize fQ (V * 2 ^ (j + j)) = R at *
 generalize fQ V = s at *
 rw [Nat.pow_add] at *
 generalize hP : 2 ^ j = P at *
 have sq : ∀ u : Nat, (u * P) * (u * P) = u * u * (P * P) := fun u => Nat.mul_mul_mul_comm ..
 have hPP : 0 < P * P := Nat.mul_pos hp hp
 have lo : s * P ≤ R := by
  rcases Nat.lt_or_ge R (s * P) with c | c
  ·have := Nat.mul_self_le_mul_self (show R + 1 ≤ s * P from c)
   rw [sq] at this
   have := Nat.mul_le_mul_right (P * P) s1
   omega
  ·exact c
 have hi : R < (s + 1) * P := by
  rcases Nat.lt_or_ge R ((s + 1) * P) with c | c
  ·exact c
  ·have := Nat.mul_self_le_mul_self c
   rw [sq] at this
   have := Nat.mul_lt_mul_of_pos_right s2 hPP
   omega
 obtain ⟨t, rfl⟩ := Nat.exists_eq_add_of_le lo
 rw [Nat.add_mul, Nat.one_mul] at hi
 have ht : t < 2 ^ j := by omega
 have h := lD f mode false x s t j (!decide ((s * P + t) * (s * P + t) = V * (P * P))) ht hs
 rw [hP] at h
 have hm : (!decide ((s * P + t) * (s * P + t) = V * (P * P)) || decide (t ≠ 0)) = !decide (s * s = V) := by
  by_cases c : s * s = V
  ·have t0 : t = 0 := by
    rcases Nat.eq_zero_or_pos t with c' | c'
    ·exact c'
    ·have : s * P * (s * P) < (s * P + t) * (s * P + t) := Nat.mul_self_lt_mul_self (by omega)
     rw [sq, c] at this; omega
   rw [t0, Nat.add_zero, sq, c]; simp
  ·by_cases c' : t = 0
   ·have : ¬ (s * P + t) * (s * P + t) = V * (P * P) := by
     rw [c', Nat.add_zero, sq]
     intro e; exact c (Nat.eq_of_mul_eq_mul_right hPP e)
    rw [decide_eq_false this, decide_eq_false c]; simp
   ·rw [decide_eq_true c', decide_eq_false c]; simp
 rw [h.1, h.2, hm]; exact ⟨rfl, rfl⟩
def lH (f : Int) (a : Nat) : Nat := if (bB f a - (eU f a : Int)) % 2 = 0 then eU f a else eU f a - 1
def iY (f : Int) (a : Nat) : Nat := bJ f a * 2 ^ lH f a
def aCp (f mode : Int) (a : Nat) : Nat := fI f mode false ((bB f a - (lH f a : Int)) / 2) (fQ (iY f a)) (!decide (fQ (iY f a) * fQ (iY f a) = iY f a))
def sideX (f mode : Int) (a : Nat) : Bool × Bool × Bool := kY f mode false ((bB f a - (lH f a : Int)) / 2) (fQ (iY f a)) (!decide (fQ (iY f a) * fQ (iY f a) = iY f a))
def tJ (f mode : Int) (a : Nat) : Nat :=
 if 4 ≤ bM f a then pQ f else if bM f a = 0 then eP f (dB f a) else if dB f a = true then pQ f else if bM f a = 3 then nG f false else aCp f mode a
def sqrtX (f mode : Int) (a : Nat) : Bool × Bool × Bool × Bool × Bool :=
 if 4 ≤ bM f a then (fC f a, false, false, false, false) else if bM f a = 0 then (false, false, false, false, false) else if dB f a = true then (true, false, false, false, false) else if bM f a = 3 then (false, false, false, false, false) else (false, false, sideX f mode a)
theorem sN (f : Int) (a : Nat) (h : bJ f a ≠ 0) : (bB f a - (lH f a : Int)) % 2 = 0 ∧ lH f a ≤ eU f a ∧ eU f a ≤ lH f a + 1 ∧ 1152921504606846976 ≤ iY f a ∧ iY f a < 4611686018427387904 ∧ 1073741824 ≤ fQ (iY f a) := by
 obtain ⟨k1, k2, k3, k4, k5⟩ := jV f a h
 have main : (bB f a - (lH f a : Int)) % 2 = 0 ∧ lH f a ≤ eU f a ∧ eU f a ≤ lH f a + 1 := by
  unfold lH; split <;> omega
 obtain ⟨m1, m2, m3⟩ := main
 have v1 : iY f a ≤ bJ f a * 2 ^ eU f a := Nat.mul_le_mul_left _ (Nat.pow_le_pow_right (by decide) m2)
 have v2 : bJ f a * 2 ^ eU f a ≤ iY f a * 2 := by
  unfold iY
  rw [Nat.mul_assoc, ← Nat.pow_succ]
  exact Nat.mul_le_mul_left _ (Nat.pow_le_pow_right (by decide) m3)
 have v3 : 1152921504606846976 ≤ iY f a := by omega
 refine ⟨m1, m2, m3, v3, by omega, ?_⟩
 obtain ⟨_, r2⟩ := uZ (iY f a) (by omega)
 rcases Nat.lt_or_ge (fQ (iY f a)) 1073741824 with c | c
 ·have := Nat.mul_self_le_mul_self (show fQ (iY f a) + 1 ≤ 1073741824 from c)
  omega
 ·exact c
theorem of_inf (f : Int) (v : Nat) (hv : v < 4294967296) (h : bM f v = 3) : eZ.f f (v : Int) = some (dB f v, 0, 0, false) := by
 have he := zP f v
 have hx : ¬ mY f v < gY f := fun c => by have := (qF f v).mpr c; omega
 have ht := iE f
 unfold eZ.f fM.f
 rw [iT, Option.bind_some, vS f v hv, Option.bind_some]
 dsimp only
 rw [if_neg (by omega), yO, Option.bind_some, if_pos (by omega)]; rfl
theorem aCo (f mode : Int) (a : Nat) (ha : a < 4294967296) (h0 : bM f a ≠ 0) (h3 : bM f a < 3) (k0 : Int × Bool × Bool × Bool × Bool × Bool → Option (Int × Bool × Bool × Bool × Bool × Bool)) (hk : ∀ r, k0 r = some r) (c : Nat) (hc : c = lH f a) :
  Ev (fun k => (aT.f k (bJ f a : Int) (-(c : Int))).bind fun bt636 => ((dK.f k bt636.1).bind fun bt638 => ((aC.f k f mode false ((bB f a - (c : Int)) / 2) (IntKind.u64.wrap (bt638.1)) (!bt638.2)).bind fun bt640 => k0 bt640))) ((aCp f mode a : Int), false, false, sideX f mode a) := by
 subst hc
 have hw := lJ f a h0 h3
 obtain ⟨m1, m2, m3, v1, v2, v3⟩ := sN f a hw
 obtain ⟨k1, k2, k3, k4, k5⟩ := jV f a hw
 obtain ⟨l1, l2⟩ := dV f a
 have hs := vE f a
 have hr := zL (iY f a)
 refine Ev.bind (rO _ hs (-(lH f a : Int)) (by omega) (by omega)) ?_
 dsimp only
 rw [zT _ _ (show bJ f a * 2 ^ lH f a < 18446744073709551616 by unfold iY at v2; omega)]
 refine Ev.bind (root_ev (iY f a)) ?_
 dsimp only
 have hp := pR f mode false ((bB f a - (lH f a : Int)) / 2) (fQ (iY f a)) (!decide (fQ (iY f a) * fQ (iY f a) = iY f a)) (by omega)
 rw [iF _ (by omega) (by omega)] at hp
 rw [fD _ (by omega)]
 refine Ev.bind hp (Ev.congr (fun k => by rw [hk]; rfl) (Ev.now _))
theorem sqrt_ev (f mode : Int) (a : Nat) (ha : a < 4294967296) : Ev (fun k => dS.f k f mode (a : Int)) ((tJ f mode a : Int), sqrtX f mode a) := by
 refine Ev.congr (fun k => by unfold dS.f; rfl) (Ev.bind (aBR f a ha) ?_)
 have hle := nZ f a
 unfold tJ sqrtX
 by_cases c4 : 4 ≤ bM f a
 ·rw [if_pos c4, if_pos c4]
  exact Ev.congr (fun k => by rw [if_pos (show dX f a = true from decide_eq_true c4)]) (Ev.now _)
 ·rw [if_neg c4, if_neg c4]
  have n4 : ¬ dX f a = true := by unfold dX; simp; omega
  by_cases c3 : bM f a = 3
  ·refine Ev.congr (fun k => by rw [if_neg n4, of_inf f a ha c3, Option.bind_some]) (Ev.bind (rH f a ha) ?_)
   rw [if_neg (show ¬ bM f a = 0 by omega), if_neg (show ¬ bM f a = 0 by omega), decide_eq_false (show ¬ bM f a = 0 by omega)]
   dsimp only
   cases hn : dB f a
   ·rw [if_neg (show ¬ false = true by decide), if_neg (show ¬ false = true by decide), if_pos c3, if_pos c3]
    exact Ev.congr (fun k => by rw [if_neg (show ¬ false = true by decide), if_neg (show ¬ false = true by decide)]) (Ev.bind (iX f a ha) (Ev.congr (fun k => by rw [if_pos (decide_eq_true c3), yE]; rfl) (Ev.now _)))
   ·rw [if_pos (show true = true from rfl), if_pos (show true = true from rfl)]
    exact Ev.congr (fun k => by rw [if_neg (show ¬ false = true by decide), if_pos (show true = true from rfl), aAH]; rfl) (Ev.now _)
  ·refine Ev.congr (fun k => by rw [if_neg n4, of_f f a ha (gT f a (by omega)), Option.bind_some]) (Ev.bind (rH f a ha) ?_)
   dsimp only
   by_cases c0 : bM f a = 0
   ·rw [if_pos c0, if_pos c0]
    exact Ev.congr (fun k => by rw [if_pos (decide_eq_true c0), uL]; rfl) (Ev.now _)
   ·rw [if_neg c0, if_neg c0, decide_eq_false c0]
    cases hn : dB f a
    ·rw [if_neg (show ¬ false = true by decide), if_neg (show ¬ false = true by decide), if_neg c3, if_neg c3]
     refine Ev.congr (fun k => by rw [if_neg (show ¬ false = true by decide), if_neg (show ¬ false = true by decide)]) (Ev.bind (iX f a ha) ?_)
     have hs := vE f a
     have hw := lJ f a c0 (by omega)
     obtain ⟨k1, k2, k3, k4, k5⟩ := jV f a hw
     obtain ⟨l1, l2⟩ := dV f a
     refine Ev.congr (fun k => by rw [if_neg (by simp [c3])]) (Ev.bind (aCf _ hs) ?_)
     have e1 : wrap64 (62 - (fK (bJ f a) : Int)) = (eU f a : Int) := by rw [bW _ (by omega) (by omega)]; omega
     have e2 : wrap64 (bB f a - (eU f a : Int)) = bB f a - (eU f a : Int) := bW _ (by omega) (by omega)
     have e3 : wrap64 (-(eU f a : Int)) = -(eU f a : Int) := bW _ (by omega) (by omega)
     have e4 : wrap64 ((eU f a : Int) - 1) = ((eU f a - 1 : Nat) : Int) := by rw [bW _ (by omega) (by omega)]; omega
     have e5 : wrap64 (-((eU f a - 1 : Nat) : Int)) = -((eU f a - 1 : Nat) : Int) := bW _ (by omega) (by omega)
     have e6 : wrap64 (bB f a - ((eU f a - 1 : Nat) : Int)) = bB f a - ((eU f a - 1 : Nat) : Int) := bW _ (by omega) (by omega)
     by_cases ev : (bB f a - (eU f a : Int)) % 2 = 0
     ·have hl : eU f a = lH f a := by unfold lH; rw [if_pos ev]
      have e7 : wrap64 (Int.tdiv (bB f a - (eU f a : Int)) 2) = (bB f a - (eU f a : Int)) / 2 := by rw [sD _ ev, bW _ (by omega) (by omega)]
      have h := aCo f mode a ha c0 (by omega) some (fun r => rfl) _ hl
      refine Ev.congr (fun k => ?_) h
      rw [e1, e2, if_pos ((pU _).mpr ev), e3, e7]
     ·have hl : eU f a - 1 = lH f a := by unfold lH; rw [if_neg ev]
      have e7 : wrap64 (Int.tdiv (bB f a - ((eU f a - 1 : Nat) : Int)) 2) = (bB f a - ((eU f a - 1 : Nat) : Int)) / 2 := by rw [sD _ (by omega), bW _ (by omega) (by omega)]
      have h := aCo f mode a ha c0 (by omega) some (fun r => rfl) _ hl
      refine Ev.congr (fun k => ?_) h
      rw [e1, e2, if_neg (fun h => ev ((pU _).mp h)), e4, e5, e6, e7]
    ·rw [if_pos (show true = true from rfl), if_pos (show true = true from rfl)]
     exact Ev.congr (fun k => by rw [if_neg (show ¬ false = true by decide), if_pos (show true = true from rfl), aAH]; rfl) (Ev.now _)
end Go.Proofs.YtfapjegkilljnaaGreat.Round

/- Roots: the reference's, as the program's plain numbers (for rounds without chapter 1). -/
namespace Go.Proofs.YtfapjegkilljnaaGreat.BitsF
open Go.RowKit Go.Proofs.YtfapjegkilljnaaGreat.P Go.Proofs.YtfapjegkilljnaaGreat.Num Go.Proofs.YtfapjegkilljnaaGreatW.PrintWords Go.Proofs.YtfapjegkilljnaaGreatW.PrintLast Go.Proofs.YtfapjegkilljnaaGreatW.PrintMore

theorem zA (v j : Nat) : ∀ r k : Nat, r % 2 ^ j = 0 → r + 2 ^ j ≤ 4294967296 → j ≤ 32 →
  bE.l0 (j + 1 + k) (v : Int) (r : Int) ((j : Int) - 1) = some ((iZ j v r : Int), decide (iZ j v r * iZ j v r = v)) := by
 induction j with
 |zero =>
  intro r k h h' _
  rw [show 0 + 1 + k = k + 1 by omega, bE.l0, if_neg (by decide)]
  rw [Nat.pow_zero] at h'
  unfold iZ
  rw [show (r : Int) * (r : Int) = ((r * r : Nat) : Int) by simp, fD _ (sq32 (by omega)), zV, Int.emod_eq_of_lt (by omega) (by omega)]
 |succ j ih =>
  intro r k h h' hj
  have hp := Nat.two_pow_pos j
  have hh : r % 2 ^ j = 0 := by
   rw [Nat.pow_succ] at h
   have := Nat.mod_mul_right_mod r (2 ^ j) 2
   rw [h] at this; simpa using this.symm
  rw [Nat.pow_succ] at h'
  have es : shl .u64 1 (j : Int) = ((2 ^ j : Nat) : Int) := by rw [show (1 : Int) = ((1 : Nat) : Int) from rfl, kP, Nat.one_mul, Nat.mod_eq_of_lt (by omega)]
  rw [show j + 1 + 1 + k = (j + 1 + k) + 1 by omega, bE.l0, show (((j + 1 : Nat) : Int) - 1) = (j : Int) by omega, if_pos (by omega), if_pos (by omega), es, aAc _ _ (by omega) (by omega), nD r (2 ^ j) (j + 1) h (by rw [Nat.pow_succ]; omega)]
  rw [show ((r + 2 ^ j : Nat) : Int) * ((r + 2 ^ j : Nat) : Int) = (((r + 2 ^ j) * (r + 2 ^ j) : Nat) : Int) by simp, fD _ (sq32 (by omega)), bW _ (by omega) (by omega)]
  unfold iZ
  by_cases c : (r + 2 ^ j) * (r + 2 ^ j) ≤ v
  ·rw [if_pos (by omega), if_pos c]
   exact ih (r + 2 ^ j) k (by rw [Nat.add_mod_right]; exact hh) (by omega) (by omega)
  ·rw [if_neg (by omega), if_neg c]
   exact ih r k hh (by omega) (by omega)
theorem yZ (v : Nat) : Ev (fun k => bE.f k (v : Int)) ((fQ v : Int), decide (fQ v * fQ v = v)) :=
 Ev.of (bE.mono _) (k := 33) (by
  have h := zA v 32 0 0 (by decide) (by decide) (by decide)
  rw [show ((32 : Nat) : Int) - 1 = 31 by decide, show ((0 : Nat) : Int) = 0 from rfl] at h
  exact h)

end Go.Proofs.YtfapjegkilljnaaGreat.BitsF

/- Roots of numbers: the reference's, as the program's plain numbers. -/
namespace Go.Proofs.YtfapjegkilljnaaGreat.Round
open Go.RowKit Go.Proofs.YtfapjegkilljnaaGreat.P Go.Proofs.YtfapjegkilljnaaGreat.Num Go.Proofs.YtfapjegkilljnaaGreat.BitsF Go.Proofs.YtfapjegkilljnaaGreat.Fmt Go.Proofs.YtfapjegkilljnaaGreatW.PrintWords Go.Proofs.YtfapjegkilljnaaGreatW.PrintLast Go.Proofs.YtfapjegkilljnaaGreatW.PrintMore

theorem yP (f mode : Int) (r : Int × Bool × Bool × Bool × Bool × Bool) (i : Nat) : ∀ (x : Int) (m : Nat), m ≠ 0 → fK m + i = 62 → -100000 ≤ x - i → x ≤ 100000 →
  Ev (fun k => aR.l0 k f mode (x - (i : Int)) ((m * 2 ^ i : Nat) : Int)) r → Ev (fun k => aR.l0 k f mode x (m : Int)) r := by
 induction i with
 |zero => intro x m _ _ _ _ h; simpa using h
 |succ i ih =>
  intro x m h0 hl h1 h2 h
  have hn := Nat.lt_of_lt_of_le (lF m) (Nat.pow_le_pow_right (show 0 < 2 by decide) (show fK m ≤ 61 by omega))
  have hl2 := oW m 1 h0
  rw [Nat.pow_one] at hl2
  have hw : IntKind.u64.wrap ((m : Int) * 2) = ((m * 2 : Nat) : Int) := by rw [show (m : Int) * 2 = ((m * 2 : Nat) : Int) by omega, fD _ (by omega)]
  refine Ev.step (fun k => by rw [aR.l0, if_pos (by omega), hw, bW (x - 1) (by omega) (by omega)]) (ih (x - 1) (m * 2) (by omega) (by omega) (by omega) (by omega) ?_)
  rw [show x - 1 - (i : Int) = x - ((i + 1 : Nat) : Int) by omega, Nat.mul_assoc, ← Nat.pow_succ']
  exact h
theorem qW (f mode x : Int) (V : Nat) (h1 : 2305843009213693952 ≤ V) (h2 : V < 9223372036854775808) (hx : x % 2 = 0) (l1 : -1000 ≤ x) (l2 : x ≤ 1000) :
  Ev (fun k => aR.l0 k f mode x (V : Int)) ((fI f mode false (x / 2) (fQ V) (!decide (fQ V * fQ V = V)) : Int), false, false, kY f mode false (x / 2) (fQ V) (!decide (fQ V * fQ V = V))) := by
 have hr := zL V
 have hp := lM f mode false (x / 2) (fQ V) (!decide (fQ V * fQ V = V)) (by omega)
 rw [iF _ (by omega) (by omega)] at hp
 refine Ev.step (fun k => by rw [aR.l0, if_neg (by omega), if_pos ((pU x).mpr hx), sD x hx, bW (x / 2) (by omega) (by omega)]) (Ev.bind (yZ V) ?_)
 dsimp only
 rw [fD _ (by omega)]
 exact Ev.bind hp (Ev.now _)
theorem yR (f mode : Int) (a : Nat) (h0 : bM f a ≠ 0) (h3 : bM f a < 3) : Ev (fun k => aR.l0 k f mode (bB f a) (bJ f a : Int)) ((aCp f mode a : Int), false, false, sideX f mode a) := by
 have hw := lJ f a h0 h3
 obtain ⟨m1, m2, m3, v1, v2, v3⟩ := sN f a hw
 obtain ⟨k1, k2, k3, k4, k5⟩ := jV f a hw
 obtain ⟨l1, l2⟩ := dV f a
 refine yP f mode _ (eU f a) _ _ hw k3 (by omega) (by omega) ?_
 by_cases ev : (bB f a - (eU f a : Int)) % 2 = 0
 ·have hl : lH f a = eU f a := by unfold lH; rw [if_pos ev]
  have hv : iY f a = bJ f a * 2 ^ eU f a := by unfold iY; rw [hl]
  unfold aCp sideX
  rw [hv, hl]
  exact qW f mode _ _ k4 (by omega) ev (by omega) (by omega)
 ·have hl : eU f a = lH f a + 1 := by unfold lH; rw [if_neg ev]; omega
  have hv : bJ f a * 2 ^ eU f a * 2 = iY f a * 2 ^ (1 + 1) := by unfold iY; rw [hl, Nat.pow_succ, ← Nat.mul_assoc]; omega
  have hb := dN f
  have hf : 2 ^ (fm f + 1) ≤ 16777216 := Nat.pow_le_pow_right (show 0 < 2 by decide) (show fm f + 1 ≤ 24 by omega)
  obtain ⟨r1, r2⟩ := xQ f mode ((bB f a - (eU f a : Int) - 1) / 2) (iY f a) 1 (by omega) (by omega)
  have hu : IntKind.u64.wrap (((bJ f a * 2 ^ eU f a : Nat) : Int) * 2) = ((iY f a * 2 ^ (1 + 1) : Nat) : Int) := by
   rw [← hv, show ((bJ f a * 2 ^ eU f a : Nat) : Int) * 2 = ((bJ f a * 2 ^ eU f a * 2 : Nat) : Int) by omega, fD _ (by omega)]
  refine Ev.step (fun k => by rw [aR.l0, if_neg (by omega), if_neg (fun h => ev ((pU _).mp h)), hu, bW _ (by omega) (by omega)]) ?_
  have h := qW f mode (bB f a - (eU f a : Int) - 1) (iY f a * 2 ^ (1 + 1)) (by omega) (by omega) (by omega) (by omega) (by omega)
  rw [r1, r2, show (bB f a - (eU f a : Int) - 1) / 2 + ((1 : Nat) : Int) = (bB f a - (lH f a : Int)) / 2 by omega] at h
  exact h
theorem xN (f mode : Int) (a : Nat) (ha : a < 4294967296) : Ev (fun k => aR.f k f mode (a : Int)) ((tJ f mode a : Int), sqrtX f mode a) := by
 refine Ev.congr (fun k => by unfold aR.f; rfl) (Ev.bind (zZ f a ha) ?_)
 have hle := nZ f a
 unfold tJ sqrtX
 by_cases c4 : 4 ≤ bM f a
 ·rw [if_pos c4, if_pos c4]
  exact Ev.congr (fun k => by rw [if_pos (show dX f a = true from decide_eq_true c4), iN]; rfl) (Ev.now _)
 ·rw [if_neg c4, if_neg c4]
  have n4 : ¬ dX f a = true := by unfold dX; simp; omega
  refine Ev.congr (fun k => by rw [if_neg n4]) (Ev.bind (iB f a ha) ?_)
  by_cases c0 : bM f a = 0
  ·rw [if_pos c0, if_pos c0, ← (mQ f a c0).1]
   exact Ev.congr (fun k => by rw [if_pos (decide_eq_true c0), gF, Option.bind_some, jY f a ha]) (Ev.now _)
  ·rw [if_neg c0, if_neg c0]
   refine Ev.congr (fun k => by rw [if_neg (by simp [c0]), kF f a ha, Option.bind_some]) ?_
   cases hn : dB f a
   ·rw [if_neg (show ¬ false = true by decide), if_neg (show ¬ false = true by decide)]
    refine Ev.congr (fun k => by rw [if_neg (show ¬ false = true by decide)]) (Ev.bind (gG f a ha) ?_)
    by_cases c3 : bM f a = 3
    ·have hi := vT f a c3
     rw [hn] at hi
     rw [if_pos c3, if_pos c3, ← hi]
     exact Ev.congr (fun k => by rw [if_pos (decide_eq_true c3), gF, Option.bind_some, jY f a ha]) (Ev.now _)
    ·rw [if_neg c3, if_neg c3]
     exact Ev.congr (fun k => by rw [if_neg (by simp [c3])]) (Ev.bind (iJ f a ha (gT f a (by omega))) (yR f mode a c0 (by omega)))
   ·rw [if_pos (show true = true from rfl), if_pos (show true = true from rfl)]
    exact Ev.congr (fun k => by rw [if_pos (show true = true from rfl), iN]; rfl) (Ev.now _)
end Go.Proofs.YtfapjegkilljnaaGreat.Round

-- Printed by a program of this session's out of Lean's print of the translation; Lean checks it.
namespace Go.Proofs.YtfapjegkilljnaaGreat.P
open Go.RowKit Go.Proofs.YtfapjegkilljnaaGreatW.PrintWords Go.Proofs.YtfapjegkilljnaaGreatW.PrintLast Go.Proofs.YtfapjegkilljnaaGreatW.PrintMore
attribute [local go_sem] max2_int min2_int max_two min_two max_three min_three max_four min_four

-- NEED 3
/-! ### kX: function 35 -/
def kX.f (k : Nat) (a0 : Int) : Option (Int) := (dS.f k 2 0 a0).bind fun bt578 => (some bt578.1)
theorem kX.calls (k : Nat) (a0 r : Int) (w : World) (h : kX.f k a0 = some r) :
  Calls Tryz.prog 35 #[.int .u32 a0] w fun e w' => e = .returned (.int .u32 r) ∧ Below w.heap.size w w' := by
 have hu60 := Tryz.underlying60
 have HB := Aside0.mk (Below.refl w.heap.size w)
 have H : ((dS.f k 2 0 a0).bind fun bt578 => (some bt578.1)) = some r := h
 clear h
 replace H := bq_ H
 obtain ⟨⟨t578, t579, t580, t581, t582, t583⟩, A20, H⟩ := H
 replace H : (some t578) = some r := H
 have A2 := Aside0.mk A20
 clear A20
 obtain rfl := Option.some.inj H
 go_enter Tryz.func35, Tryz.ntmps35
 go_wp2_with (first | ((with_reducible refine gate_callee (f := 67) rfl ?_); refine goesL_ (some 7) rfl rfl Tryz.func67 (by kernel_rfl) rfl #[.int .i64 2, .int .i64 0, .int .u32 a0] rfl gl ?_; (with_reducible refine (dS.calls k 2 0 a0 t578 t579 t580 t581 t582 t583 _ A2.out).mono ?_); rintro e w3 ⟨rfl, hb⟩; refine ⟨_, rfl, ?_⟩; have n0_ := Aside0.mk (below_step (bl0 HB.out) hb); clear HB; have HB := n0_; clear n0_) | ((with_reducible refine gate_dst (N := 4) rfl ?_); refine box_event ?hg (N := 4) ?hd (cs := F5) (t := 60) ?hr ?_; (case hd => rfl); (case hg => rfl); (case hr => first | (go_simp; done) | (go_simp; rfl)); intro gb584 hg w4 hbox hb; have n0_ := Aside0.mk (below_step (bl0 HB.out) hb); have n1_ := Aside0.mk (hbox); have n2_ := Aside0.mk ((by rw [hg]; exact (below_size (bl0 HB.out)) : w.heap.size ≤ gb584)); have n3_ := n2_; clear HB; have HB := n0_; have BK584 := n1_; have GW584 := n2_; have GE584 := n3_; clear n0_ n1_ n2_ n3_; clear hb hbox hg; obtain ⟨hcz5_0, hcz5_1, hcz5_2, hcz5_3, hcz5_4⟩ := bc5 BK584.out; obtain ⟨hfz5_0, hfz5_1, hfz5_2, hfz5_3, hfz5_4⟩ := bf5 BK584.out))
 go_ret
 exact ⟨by first | rfl | (simp [bT, bU] <;> rfl) | (simp [*, bT, bU] <;> rfl), bl1 HB.out GE584.out⟩


-- NEED 2
/-! ### gD: function 24 -/
def gD.f (k : Nat) (a0 : Int) : Option (Int) := (aR.f k 2 0 a0).bind fun bt1016 => (some bt1016.1)
theorem gD.calls (k : Nat) (a0 r : Int) (w : World) (h : gD.f k a0 = some r) :
  Calls Tryz.prog 24 #[.int .u32 a0] w fun e w' => e = .returned (.int .u32 r) ∧ Below w.heap.size w w' := by
 have hu60 := Tryz.underlying60
 have HB := Aside0.mk (Below.refl w.heap.size w)
 have H : ((aR.f k 2 0 a0).bind fun bt1016 => (some bt1016.1)) = some r := h
 clear h
 replace H := bq_ H
 obtain ⟨⟨t1016, t1017, t1018, t1019, t1020, t1021⟩, A20, H⟩ := H
 replace H : (some t1016) = some r := H
 have A2 := Aside0.mk A20
 clear A20
 obtain rfl := Option.some.inj H
 go_enter Tryz.func24, Tryz.ntmps24
 go_wp2_with (first | ((with_reducible refine gate_callee (f := 42) rfl ?_); refine goesL_ (some 7) rfl rfl Tryz.func42 (by kernel_rfl) rfl #[.int .i64 2, .int .i64 0, .int .u32 a0] rfl gl ?_; (with_reducible refine (aR.calls k 2 0 a0 t1016 t1017 t1018 t1019 t1020 t1021 _ A2.out).mono ?_); rintro e w3 ⟨rfl, hb⟩; refine ⟨_, rfl, ?_⟩; have n0_ := Aside0.mk (below_step (bl0 HB.out) hb); clear HB; have HB := n0_; clear n0_) | ((with_reducible refine gate_dst (N := 4) rfl ?_); refine box_event ?hg (N := 4) ?hd (cs := F5) (t := 60) ?hr ?_; (case hd => rfl); (case hg => rfl); (case hr => first | (go_simp; done) | (go_simp; rfl)); intro gb1022 hg w4 hbox hb; have n0_ := Aside0.mk (below_step (bl0 HB.out) hb); have n1_ := Aside0.mk (hbox); have n2_ := Aside0.mk ((by rw [hg]; exact (below_size (bl0 HB.out)) : w.heap.size ≤ gb1022)); have n3_ := n2_; clear HB; have HB := n0_; have BK1022 := n1_; have GW1022 := n2_; have GE1022 := n3_; clear n0_ n1_ n2_ n3_; clear hb hbox hg; obtain ⟨hcz5_0, hcz5_1, hcz5_2, hcz5_3, hcz5_4⟩ := bc5 BK1022.out; obtain ⟨hfz5_0, hfz5_1, hfz5_2, hfz5_3, hfz5_4⟩ := bf5 BK1022.out))
 go_ret
 exact ⟨by first | rfl | (simp [bT, bU] <;> rfl) | (simp [*, bT, bU] <;> rfl), bl1 HB.out GE1022.out⟩

end Go.Proofs.YtfapjegkilljnaaGreat.P

/- OptTells' whole walk, by the closed reckoner. -/
namespace Go.Proofs.YtfapjegkilljnaaGreat.XwOpt
open Go.RowKit Go.Proofs.YtfapjegkilljnaaGreat.P Go.Proofs.YtfapjegkilljnaaGreat.Xe Go.Proofs.YtfapjegkilljnaaGreat.Num Go.Proofs.YtfapjegkilljnaaGreat.BitsF Go.Proofs.YtfapjegkilljnaaGreat.Fmt Go.Proofs.YtfapjegkilljnaaGreat.Round Go.Proofs.YtfapjegkilljnaaGreatW.PrintWords Go.Proofs.YtfapjegkilljnaaGreatW.PrintLast Go.Proofs.YtfapjegkilljnaaGreatW.PrintMore

def rmN (v : Nat) : Nat := if 4 ≤ bM 2 v then lC 2 v else jJ 2 v
theorem fsqrt_ev (a : Nat) (ha : a < 4294967296) : Ev (fun k => kX.f k (a : Int)) ((tJ 2 0 a : Nat) : Int) :=
  Ev.congr (fun k => by unfold kX.f; rfl) (Ev.bind (sqrt_ev 2 0 a ha) (Ev.now _))
theorem aAE (a : Nat) (ha : a < 4294967296) : Ev (fun k => gD.f k (a : Int)) ((tJ 2 0 a : Nat) : Int) :=
  Ev.congr (fun k => by unfold gD.f; rfl) (Ev.bind (xN 2 0 a ha) (Ev.now _))
theorem wC (a : Nat) (ha : a < 4294967296) : Ev (fun k => fP.f k (a : Int)) ((rmN a : Nat) : Int) :=
  Ev.congr (fun k => by unfold fP.f; rfl) (Ev.bind (wS 2 a ha) (Ev.now _))
theorem zK (v : Nat) : jJ 2 v < 4294967296 := (nU 2 v).2.2.2.2
theorem rm_l (v : Nat) : rmN v < 4294967296 := by
  unfold rmN; split
  · exact aCg 2 v
  · exact zK v
theorem aBq (a : Nat) : tJ 2 0 a < 4294967296 := by
  unfold tJ
  split
  · exact nC 2
  · split
    · exact yJ 2 _
    · split
      · exact nC 2
      · split
        · exact (inf_all 2 false).2.2
        · unfold aCp; exact vF ..
theorem fma_rm (a b c : Nat) : pV 2 0 (rmN a) b c = pV 2 0 (jJ 2 a) b c := by
  unfold rmN
  by_cases h : 4 ≤ bM 2 a
  · rw [if_pos h]
    unfold pV
    rw [if_pos (.inl (by rw [zC]; exact h)), if_pos (.inl (by rw [(nU 2 a).2.1]; exact h))]
  · rw [if_neg h]
theorem num_v (f : Int) {k : Int} (h : IntKind.u32.has k) : ∃ x : Nat, bX.f f k = some (x : Int) ∧ x < 4294967296 := by
  obtain ⟨u, rfl⟩ : ∃ u : Nat, k = u := ⟨k.toNat, by have := h.1; exact (Int.toNat_of_nonneg this).symm⟩
  exact num_any f u
theorem mild_v (f : Int) {k : Int} (h : IntKind.u32.has k) : ∃ x : Nat, fF.f f k = some (x : Int) ∧ x < 4294967296 := by
  obtain ⟨u, rfl⟩ : ∃ u : Nat, k = u := ⟨k.toNat, by have := h.1; exact (Int.toNat_of_nonneg this).symm⟩
  have hu : (u : Int) ≤ 4294967295 := h.2
  obtain ⟨m, neg, h1, h2⟩ := mild_f f u (by omega)
  refine ⟨_, h1, ?_⟩
  have hs : eP f neg ≤ 2147483648 := by
    unfold eP
    rcases pF f with ⟨e1, e2, e3, _⟩ | ⟨e1, e2, e3, _⟩ | ⟨e1, e2, e3, _⟩ <;> rw [e1, e2] <;> cases neg <;> decide
  have ho : (yK f + 2) * 2 ^ fm f ≤ 2147483648 := by
    rcases pF f with ⟨e1, e2, e3, _⟩ | ⟨e1, e2, e3, _⟩ | ⟨e1, e2, e3, _⟩ <;> rw [e2, e3] <;> decide
  rcases h2 with ⟨rfl, _⟩ | ⟨_, h3⟩ <;> omega
def n32 (x : Int) : Nat := (IntKind.u32.wrap x).toNat
def numI (x y : Int) : Nat := ((bX.f x y).getD 0).toNat % 4294967296
def mildI (x y : Int) : Nat := ((fF.f x y).getD 0).toNat % 4294967296
def F (i : Nat) (u : U) : U := match i, u with
  | 0, .p a (.p b c) => .n ((pV 2 0 (n32 a.int) (n32 b.int) (n32 c.int) : Nat) : Int)
  | 1, .p a b => .n ((mulN 2 0 (n32 a.int) (n32 b.int) : Nat) : Int)
  | 2, .p a b => .n ((zH 2 0 (n32 a.int) (n32 b.int) : Nat) : Int)
  | 3, .p a b => .n ((divN 2 0 (n32 a.int) (n32 b.int) : Nat) : Int)
  | 4, .p a b => .n ((vP 2 0 (n32 a.int) (n32 b.int) : Nat) : Int)
  | 5, a => .n ((tJ 2 0 (n32 a.int) : Nat) : Int)
  | 6, a => .n ((jJ 2 (n32 a.int) : Nat) : Int)
  | 7, a => .n ((rmN (n32 a.int) : Nat) : Int)
  | 8, .p a b => .n ((numI a.int b.int : Nat) : Int)
  | 9, .p a b => .n ((mildI a.int b.int : Nat) : Int)
  | _, _ => .n 0
theorem F_range (i : Nat) (u : U) : 0 ≤ (F i u).int ∧ (F i u).int ≤ 4294967295 := by
  have ok : ∀ n : Nat, n < 4294967296 → (0 : Int) ≤ (n : Int) ∧ (n : Int) ≤ 4294967295 := fun n h => by omega
  unfold F
  split
  · exact ok _ (aBm ..)
  · exact ok _ (aB5 ..)
  · exact ok _ (aCm ..)
  · exact ok _ (aBY ..)
  · exact ok _ (aAh ..)
  · exact ok _ (aBq _)
  · exact ok _ (zK _)
  · exact ok _ (rm_l _)
  · exact ok _ (Nat.mod_lt _ (by decide))
  · exact ok _ (Nat.mod_lt _ (by decide))
  · exact ok 0 (by decide)
def gnd : Tm → Option Int
  | .l n => some n
  | .f 0 (.c x (.c y z)) => match gnd x with
    | some a => match gnd y with
      | some b => match gnd z with
        | some c => some ((pV 2 0 (n32 a) (n32 b) (n32 c) : Nat) : Int)
        | none => none
      | none => none
    | none => none
  | .f 6 x => match gnd x with
    | some a => some ((jJ 2 (n32 a) : Nat) : Int)
    | none => none
  | _ => none
def dec (b : BE) : Option Bool := match b with
  | .eq x y => match gnd x with
    | some a => match gnd y with
      | some b => some (decide (a = b))
      | none => none
    | none => none
  | _ => none
def simp1 (t : Tm) : Option Tm := match t with
  | .f 0 (.c (.f 7 x) r) => some (.f 0 (.c (.f 6 x) r))
  | _ => none
def gW : xC := { s := simp1, d := fun _ b => dec b, rv := fun i => if i < 4 then (0, 255) else (0, 4294967295), rf := fun _ => (0, 4294967295), cz := fun t => match t with
  | .o .rem .u8 (.v 0) (.l 6) => true
  | _ => false }
def en : Ents := [(6, op2 gW 9 .i64 .u32 .u32), (7, op2 gW 8 .i64 .u32 .u32), (15, op1 gW 6 .u32 .u32), (16, op3 gW 0 .u32 .u32 .u32 .u32), (18, op1 gW 7 .u32 .u32), (19, op3 gW 0 .u32 .u32 .u32 .u32), (20, op2 gW 1 .u32 .u32 .u32), (21, op2 gW 2 .u32 .u32 .u32), (22, op2 gW 3 .u32 .u32 .u32), (23, op2 gW 4 .u32 .u32 .u32), (24, op1 gW 5 .u32 .u32), (27, op2 gW 1 .u32 .u32 .u32), (32, op2 gW 2 .u32 .u32 .u32), (33, op2 gW 3 .u32 .u32 .u32), (34, op2 gW 4 .u32 .u32 .u32), (35, op1 gW 5 .u32 .u32)]
noncomputable def fk : Fns := [(4, Tryz.f4), (5, Tryz.f5), (8, Tryz.f8), (10, Tryz.f10), (11, Tryz.f11), (25, Tryz.f25), (26, Tryz.f26), (28, Tryz.f28), (43, Tryz.f43), (44, Tryz.f44), (45, Tryz.f45), (46, Tryz.f46), (47, Tryz.f47), (49, Tryz.f49)]
noncomputable def fs : Fns := [(3, Tryz.f3), (5, Tryz.f5), (8, Tryz.f8), (9, Tryz.f9), (17, Tryz.f17)]
def args : List PV := [.one (.i .u8 (.v 0)), .one (.i .u8 (.v 1)), .one (.i .u8 (.v 2)), .one (.i .u8 (.v 3)), .one (.i .u32 (.v 4)), .one (.i .u32 (.v 5)), .one (.i .u32 (.v 6)), .one (.i .u32 (.v 7)), .one (.i .u32 (.v 8)), .one (.i .u32 (.v 9)), .one (.i .u32 (.v 10)), .one (.b (.q (.v 11)))]
theorem aBj : wB gW Tryz.prog en fk 1000 40 4 [] ⟨.e, .e, 1, [], 0⟩ (Kt gW) = true := by kernel_rfl
noncomputable def en4 : Ents := (4, yes0) :: en
def st (i : Int) (b : Bool) : Hp := ⟨.e, .e, 1, [(.eq (.o .rem .u8 (.v 0) (.l 6)) (.l i), true), (.q (.v 11), b)], 0⟩
theorem run0t : wB gW Tryz.prog en4 fs 1000 40 3 args (st 0 true) (Kt gW) = true := by kernel_rfl
theorem run0f : wB gW Tryz.prog en4 fs 1000 40 3 args (st 0 false) (Kt gW) = true := by kernel_rfl
theorem run1t : wB gW Tryz.prog en4 fs 1000 40 3 args (st 1 true) (Kt gW) = true := by kernel_rfl
theorem run1f : wB gW Tryz.prog en4 fs 1000 40 3 args (st 1 false) (Kt gW) = true := by kernel_rfl
theorem run2t : wB gW Tryz.prog en4 fs 1000 40 3 args (st 2 true) (Kt gW) = true := by kernel_rfl
theorem run2f : wB gW Tryz.prog en4 fs 1000 40 3 args (st 2 false) (Kt gW) = true := by kernel_rfl
theorem run3t : wB gW Tryz.prog en4 fs 1000 40 3 args (st 3 true) (Kt gW) = true := by kernel_rfl
theorem run3f : wB gW Tryz.prog en4 fs 1000 40 3 args (st 3 false) (Kt gW) = true := by kernel_rfl
theorem run4t : wB gW Tryz.prog en4 fs 1000 40 3 args (st 4 true) (Kt gW) = true := by kernel_rfl
theorem run4f : wB gW Tryz.prog en4 fs 1000 40 3 args (st 4 false) (Kt gW) = true := by kernel_rfl
theorem run5t : wB gW Tryz.prog en4 fs 1000 40 3 args (st 5 true) (Kt gW) = true := by kernel_rfl
theorem run5f : wB gW Tryz.prog en4 fs 1000 40 3 args (st 5 false) (Kt gW) = true := by kernel_rfl
theorem runs (i : Int) (b : Bool) (h : i = 0 ∨ i = 1 ∨ i = 2 ∨ i = 3 ∨ i = 4 ∨ i = 5) : wB gW Tryz.prog en4 fs 1000 40 3 args (st i b) (Kt gW) = true := by
  rcases h with rfl | rfl | rfl | rfl | rfl | rfl <;> cases b
  · exact run0f
  · exact run0t
  · exact run1f
  · exact run1t
  · exact run2f
  · exact run2t
  · exact run3f
  · exact run3t
  · exact run4f
  · exact run4t
  · exact run5f
  · exact run5t
theorem fk_ok : jG Tryz.prog fk := jG.cons Tryz.func4 (by kernel_rfl) (jG.cons Tryz.func5 (by kernel_rfl) (jG.cons Tryz.func8 (by kernel_rfl) (jG.cons Tryz.func10 (by kernel_rfl) (jG.cons Tryz.func11 (by kernel_rfl) (jG.cons Tryz.func25 (by kernel_rfl) (jG.cons Tryz.func26 (by kernel_rfl) (jG.cons Tryz.func28 (by kernel_rfl) (jG.cons Tryz.func43 (by kernel_rfl) (jG.cons Tryz.func44 (by kernel_rfl) (jG.cons Tryz.func45 (by kernel_rfl) (jG.cons Tryz.func46 (by kernel_rfl) (jG.cons Tryz.func47 (by kernel_rfl) (jG.cons Tryz.func49 (by kernel_rfl) (jG.nil))))))))))))))
theorem fs_ok : jG Tryz.prog fs := jG.cons Tryz.func3 (by kernel_rfl) (jG.cons Tryz.func5 (by kernel_rfl) (jG.cons Tryz.func8 (by kernel_rfl) (jG.cons Tryz.func9 (by kernel_rfl) (jG.cons Tryz.func17 (by kernel_rfl) (jG.nil)))))
theorem start_pc [Rho] (W : World) (pc : Facts) (h : nH pc) : kZ W (fun _ => False) m00 ⟨.e, .e, 1, pc, 0⟩ W := by
  refine ⟨?_, ?_, ?_, ?_, h, Below.refl _ _⟩
  · intro g e z wr cs h; cases h
  · intro i info h; cases h
  · intro g g' e z cs x h; cases h
  · intro g h; exact False.elim h
theorem rem_six : ∀ n : Nat, n < 256 → (TO.run .rem .u8 (n : Int) 6 = 0 ∨ TO.run .rem .u8 (n : Int) 6 = 1 ∨ TO.run .rem .u8 (n : Int) 6 = 2 ∨ TO.run .rem .u8 (n : Int) 6 = 3 ∨ TO.run .rem .u8 (n : Int) 6 = 4 ∨ TO.run .rem .u8 (n : Int) 6 = 5) := by decide +kernel
theorem gL {x : Int} (h : IntKind.u32.has x) : ((n32 x : Nat) : Int) = x := by
  have := kC h
  unfold n32
  rw [this]
  exact Int.toNat_of_nonneg h.1
theorem kM (x : Int) : n32 x < 4294967296 := by
  have h : IntKind.u32.has (IntKind.u32.wrap x) := mR .u32 x
  have h1 : (0 : Int) ≤ IntKind.u32.wrap x := h.1
  have h2 : IntKind.u32.wrap x ≤ 4294967295 := h.2
  unfold n32
  omega
theorem iQ {x : Nat} (h : x < 4294967296) : IntKind.u32.has (x : Int) := by
  show (0 : Int) ≤ x ∧ (x : Int) ≤ 4294967295
  omega
theorem gnd_v [r : Rho] (hr : ∀ i u, r.f i u = F i u) : ∀ (t : Tm) (n : Int), gnd t = some n → t.d = n := by
  intro t
  induction t using gnd.induct with
  | case1 n => intro k h; exact Option.some.inj h
  | case2 x y z a ha b hb c hc i1 i2 i3 =>
    intro k h
    rw [gnd, ha, hb, hc] at h
    obtain rfl := Option.some.inj h
    have e1 := i1 _ ha
    have e2 := i2 _ hb
    have e3 := i3 _ hc
    show (r.f 0 _).int = _
    rw [hr]
    show ((pV 2 0 (n32 x.d) (n32 y.d) (n32 z.d) : Nat) : Int) = _
    rw [e1, e2, e3]
  | case6 x a ha i1 =>
    intro k h
    rw [gnd, ha] at h
    obtain rfl := Option.some.inj h
    have e1 := i1 _ ha
    show (r.f 6 _).int = _
    rw [hr]
    show ((jJ 2 (n32 x.d) : Nat) : Int) = _
    rw [e1]
  | _ => intro k h; simp_all [gnd]
theorem ent6 [r : Rho] (hr : ∀ i u, r.f i u = F i u) (hH : gW.Ok) : lS Tryz.prog 6 (op2 gW 9 .i64 .u32 .u32) := by
  refine oC hH Tryz.func6 (by kernel_rfl) (by kernel_rfl) (F := fun x y => ((mildI x y : Nat) : Int)) (fun _ _ => by rw [hr]; rfl) (fun _ _ _ _ => iQ (Nat.mod_lt _ (by decide))) fun x y hx hy w => ?_
  obtain ⟨v, hk, hl⟩ := mild_v x hy
  have e : ((mildI x y : Nat) : Int) = v := by
    unfold mildI
    rw [hk, Option.getD_some, Int.toNat_natCast, Nat.mod_eq_of_lt hl]
  rw [e]
  exact (fF.calls x y _ w hk).mono fun e w' he => ⟨he.1, he.2.below⟩
theorem ent7 [r : Rho] (hr : ∀ i u, r.f i u = F i u) (hH : gW.Ok) : lS Tryz.prog 7 (op2 gW 8 .i64 .u32 .u32) := by
  refine oC hH Tryz.func7 (by kernel_rfl) (by kernel_rfl) (F := fun x y => ((numI x y : Nat) : Int)) (fun _ _ => by rw [hr]; rfl) (fun _ _ _ _ => iQ (Nat.mod_lt _ (by decide))) fun x y hx hy w => ?_
  obtain ⟨v, hk, hl⟩ := num_v x hy
  have e : ((numI x y : Nat) : Int) = v := by
    unfold numI
    rw [hk, Option.getD_some, Int.toNat_natCast, Nat.mod_eq_of_lt hl]
  rw [e]
  exact (bX.calls x y _ w hk).mono fun e w' he => he
theorem ent15 [r : Rho] (hr : ∀ i u, r.f i u = F i u) (hH : gW.Ok) : lS Tryz.prog 15 (op1 gW 6 .u32 .u32) := by
  refine zR hH Tryz.func15 (by kernel_rfl) (by kernel_rfl) (F := fun x => ((jJ 2 (n32 x) : Nat) : Int)) (fun _ => by rw [hr]; rfl) (fun _ _ => iQ (zK _)) fun x hx w => ?_
  have hk := fminus_f (n32 x) (kM x)
  rw [gL hx] at hk
  exact (jQ.calls x _ w hk).mono fun e w' he => ⟨he.1, he.2.below⟩
theorem ent16 [r : Rho] (hr : ∀ i u, r.f i u = F i u) (hH : gW.Ok) : lS Tryz.prog 16 (op3 gW 0 .u32 .u32 .u32 .u32) := by
  refine op3_ok hH Tryz.func16 (by kernel_rfl) (by kernel_rfl) (F := fun x y z => ((pV 2 0 (n32 x) (n32 y) (n32 z) : Nat) : Int)) (fun _ _ _ => by rw [hr]; rfl) (fun _ _ _ _ _ _ => iQ (aBm ..)) fun x y z hx hy hz w => ?_
  obtain ⟨k, hk⟩ := (ffma_ev (n32 x) (n32 y) (n32 z) (kM x) (kM y) (kM z)).rounds
  rw [gL hx, gL hy, gL hz] at hk
  exact (mH.calls k x y z _ w hk).mono fun e w' he => he
theorem ent18 [r : Rho] (hr : ∀ i u, r.f i u = F i u) (hH : gW.Ok) : lS Tryz.prog 18 (op1 gW 7 .u32 .u32) := by
  refine zR hH Tryz.func18 (by kernel_rfl) (by kernel_rfl) (F := fun x => ((rmN (n32 x) : Nat) : Int)) (fun _ => by rw [hr]; rfl) (fun _ _ => iQ (rm_l _)) fun x hx w => ?_
  obtain ⟨k, hk⟩ := (wC (n32 x) (kM x)).rounds
  rw [gL hx] at hk
  exact (fP.calls k x _ w hk).mono fun e w' he => he
theorem ent19 [r : Rho] (hr : ∀ i u, r.f i u = F i u) (hH : gW.Ok) : lS Tryz.prog 19 (op3 gW 0 .u32 .u32 .u32 .u32) := by
  refine op3_ok hH Tryz.func19 (by kernel_rfl) (by kernel_rfl) (F := fun x y z => ((pV 2 0 (n32 x) (n32 y) (n32 z) : Nat) : Int)) (fun _ _ _ => by rw [hr]; rfl) (fun _ _ _ _ _ _ => iQ (aBm ..)) fun x y z hx hy hz w => ?_
  obtain ⟨k, hk⟩ := (aBP (n32 x) (n32 y) (n32 z) (kM x) (kM y) (kM z)).rounds
  rw [gL hx, gL hy, gL hz] at hk
  exact (gN.calls k x y z _ w hk).mono fun e w' he => he
theorem ent20 [r : Rho] (hr : ∀ i u, r.f i u = F i u) (hH : gW.Ok) : lS Tryz.prog 20 (op2 gW 1 .u32 .u32 .u32) := by
  refine oC hH Tryz.func20 (by kernel_rfl) (by kernel_rfl) (F := fun x y => ((mulN 2 0 (n32 x) (n32 y) : Nat) : Int)) (fun _ _ => by rw [hr]; rfl) (fun _ _ _ _ => iQ (aB5 ..)) fun x y hx hy w => ?_
  obtain ⟨k, hk⟩ := (aA3 (n32 x) (n32 y) (kM x) (kM y)).rounds
  rw [gL hx, gL hy] at hk
  exact (gM.calls k x y _ w hk).mono fun e w' he => he
theorem ent21 [r : Rho] (hr : ∀ i u, r.f i u = F i u) (hH : gW.Ok) : lS Tryz.prog 21 (op2 gW 2 .u32 .u32 .u32) := by
  refine oC hH Tryz.func21 (by kernel_rfl) (by kernel_rfl) (F := fun x y => ((zH 2 0 (n32 x) (n32 y) : Nat) : Int)) (fun _ _ => by rw [hr]; rfl) (fun _ _ _ _ => iQ (aCm ..)) fun x y hx hy w => ?_
  obtain ⟨k, hk⟩ := (aB4 (n32 x) (n32 y) (kM x) (kM y)).rounds
  rw [gL hx, gL hy] at hk
  exact (gP.calls k x y _ w hk).mono fun e w' he => he
theorem ent22 [r : Rho] (hr : ∀ i u, r.f i u = F i u) (hH : gW.Ok) : lS Tryz.prog 22 (op2 gW 3 .u32 .u32 .u32) := by
  refine oC hH Tryz.func22 (by kernel_rfl) (by kernel_rfl) (F := fun x y => ((divN 2 0 (n32 x) (n32 y) : Nat) : Int)) (fun _ _ => by rw [hr]; rfl) (fun _ _ _ _ => iQ (aBY ..)) fun x y hx hy w => ?_
  obtain ⟨k, hk⟩ := (aBp (n32 x) (n32 y) (kM x) (kM y)).rounds
  rw [gL hx, gL hy] at hk
  exact (gK.calls k x y _ w hk).mono fun e w' he => he
theorem ent23 [r : Rho] (hr : ∀ i u, r.f i u = F i u) (hH : gW.Ok) : lS Tryz.prog 23 (op2 gW 4 .u32 .u32 .u32) := by
  refine oC hH Tryz.func23 (by kernel_rfl) (by kernel_rfl) (F := fun x y => ((vP 2 0 (n32 x) (n32 y) : Nat) : Int)) (fun _ _ => by rw [hr]; rfl) (fun _ _ _ _ => iQ (aAh ..)) fun x y hx hy w => ?_
  obtain ⟨k, hk⟩ := (aBf (n32 x) (n32 y) (kM x) (kM y)).rounds
  rw [gL hx, gL hy] at hk
  exact (gQ.calls k x y _ w hk).mono fun e w' he => he
theorem ent24 [r : Rho] (hr : ∀ i u, r.f i u = F i u) (hH : gW.Ok) : lS Tryz.prog 24 (op1 gW 5 .u32 .u32) := by
  refine zR hH Tryz.func24 (by kernel_rfl) (by kernel_rfl) (F := fun x => ((tJ 2 0 (n32 x) : Nat) : Int)) (fun _ => by rw [hr]; rfl) (fun _ _ => iQ (aBq _)) fun x hx w => ?_
  obtain ⟨k, hk⟩ := (aAE (n32 x) (kM x)).rounds
  rw [gL hx] at hk
  exact (gD.calls k x _ w hk).mono fun e w' he => he
theorem ent27 [r : Rho] (hr : ∀ i u, r.f i u = F i u) (hH : gW.Ok) : lS Tryz.prog 27 (op2 gW 1 .u32 .u32 .u32) := by
  refine oC hH Tryz.func27 (by kernel_rfl) (by kernel_rfl) (F := fun x y => ((mulN 2 0 (n32 x) (n32 y) : Nat) : Int)) (fun _ _ => by rw [hr]; rfl) (fun _ _ _ _ => iQ (aB5 ..)) fun x y hx hy w => ?_
  obtain ⟨k, hk⟩ := (fmul_ev (n32 x) (n32 y) (kM x) (kM y)).rounds
  rw [gL hx, gL hy] at hk
  exact (l9.calls k x y _ w hk).mono fun e w' he => he
theorem ent32 [r : Rho] (hr : ∀ i u, r.f i u = F i u) (hH : gW.Ok) : lS Tryz.prog 32 (op2 gW 2 .u32 .u32 .u32) := by
  refine oC hH Tryz.func32 (by kernel_rfl) (by kernel_rfl) (F := fun x y => ((zH 2 0 (n32 x) (n32 y) : Nat) : Int)) (fun _ _ => by rw [hr]; rfl) (fun _ _ _ _ => iQ (aCm ..)) fun x y hx hy w => ?_
  obtain ⟨k, hk⟩ := (fsub_ev (n32 x) (n32 y) (kM x) (kM y)).rounds
  rw [gL hx, gL hy] at hk
  exact (mG.calls k x y _ w hk).mono fun e w' he => he
theorem ent33 [r : Rho] (hr : ∀ i u, r.f i u = F i u) (hH : gW.Ok) : lS Tryz.prog 33 (op2 gW 3 .u32 .u32 .u32) := by
  refine oC hH Tryz.func33 (by kernel_rfl) (by kernel_rfl) (F := fun x y => ((divN 2 0 (n32 x) (n32 y) : Nat) : Int)) (fun _ _ => by rw [hr]; rfl) (fun _ _ _ _ => iQ (aBY ..)) fun x y hx hy w => ?_
  obtain ⟨k, hk⟩ := (fdiv_ev (n32 x) (n32 y) (kM x) (kM y)).rounds
  rw [gL hx, gL hy] at hk
  exact (mM.calls k x y _ w hk).mono fun e w' he => he
theorem ent34 [r : Rho] (hr : ∀ i u, r.f i u = F i u) (hH : gW.Ok) : lS Tryz.prog 34 (op2 gW 4 .u32 .u32 .u32) := by
  refine oC hH Tryz.func34 (by kernel_rfl) (by kernel_rfl) (F := fun x y => ((vP 2 0 (n32 x) (n32 y) : Nat) : Int)) (fun _ _ => by rw [hr]; rfl) (fun _ _ _ _ => iQ (aAh ..)) fun x y hx hy w => ?_
  obtain ⟨k, hk⟩ := (fadd_ev (n32 x) (n32 y) (kM x) (kM y)).rounds
  rw [gL hx, gL hy] at hk
  exact (mJ.calls k x y _ w hk).mono fun e w' he => he
theorem ent35 [r : Rho] (hr : ∀ i u, r.f i u = F i u) (hH : gW.Ok) : lS Tryz.prog 35 (op1 gW 5 .u32 .u32) := by
  refine zR hH Tryz.func35 (by kernel_rfl) (by kernel_rfl) (F := fun x => ((tJ 2 0 (n32 x) : Nat) : Int)) (fun _ => by rw [hr]; rfl) (fun _ _ => iQ (aBq _)) fun x hx w => ?_
  obtain ⟨k, hk⟩ := (fsqrt_ev (n32 x) (kM x)).rounds
  rw [gL hx] at hk
  exact (kX.calls k x _ w hk).mono fun e w' he => he
theorem aBN {x : Nat} (h : x < 4294967296) : n32 (x : Int) = x := Int.ofNat.inj (gL (iQ h))
theorem fma_sim3 (X b c : U) : (F 0 (.p (F 6 X) (.p b c))).int = (F 0 (.p (F 7 X) (.p b c))).int := by
  have e6 : (F 6 X).int = ((jJ 2 (n32 X.int) : Nat) : Int) := rfl
  have e7 : (F 7 X).int = ((rmN (n32 X.int) : Nat) : Int) := rfl
  have e0 : ∀ Y : U, (F 0 (.p Y (.p b c))).int = ((pV 2 0 (n32 Y.int) (n32 b.int) (n32 c.int) : Nat) : Int) := fun _ => rfl
  rw [e0, e0, e6, e7, aBN (zK _), aBN (rm_l _), fma_rm]
theorem fma_sim (X Q : U) : (F 0 (.p (F 6 X) Q)).int = (F 0 (.p (F 7 X) Q)).int := by
  cases Q with
  | p b c => exact fma_sim3 X b c
  | n i =>
    have e0 : ∀ Y : U, (F 0 (.p Y (.n i))).int = 0 := fun _ => rfl
    rw [e0, e0]
  | s xs =>
    have e0 : ∀ Y : U, (F 0 (.p Y (.s xs))).int = 0 := fun _ => rfl
    rw [e0, e0]
theorem aCr [r : Rho] (hr : ∀ i u, r.f i u = F i u) (hH : gW.Ok) : gV Tryz.prog en := by
  unfold en
  exact gV.cons (ent6 hr hH) (gV.cons (ent7 hr hH) (gV.cons (ent15 hr hH) (gV.cons (ent16 hr hH) (gV.cons (ent18 hr hH) (gV.cons (ent19 hr hH) (gV.cons (ent20 hr hH) (gV.cons (ent21 hr hH) (gV.cons (ent22 hr hH) (gV.cons (ent23 hr hH) (gV.cons (ent24 hr hH) (gV.cons (ent27 hr hH) (gV.cons (ent32 hr hH) (gV.cons (ent33 hr hH) (gV.cons (ent34 hr hH) (gV.cons (ent35 hr hH) (gV.nil))))))))))))))))
abbrev rho (a0 a1 a2 a3 a4 a5 a6 a7 a8 a9 a10 : Int) (a11 : Bool) : Rho := ⟨fun i => match i with
  | 0 => .n a0
  | 1 => .n a1
  | 2 => .n a2
  | 3 => .n a3
  | 4 => .n a4
  | 5 => .n a5
  | 6 => .n a6
  | 7 => .n a7
  | 8 => .n a8
  | 9 => .n a9
  | 10 => .n a10
  | 11 => .n (if a11 = true then 1 else 0)
  | _ => .n 0, F⟩
theorem hook_ok (a0 a1 a2 a3 a4 a5 a6 a7 a8 a9 a10 : Int) (a11 : Bool) (h0 : IntKind.u8.has a0) (h1 : IntKind.u8.has a1) (h2 : IntKind.u8.has a2) (h3 : IntKind.u8.has a3) (h4 : IntKind.u32.has a4) (h5 : IntKind.u32.has a5) (h6 : IntKind.u32.has a6) (h7 : IntKind.u32.has a7) (h8 : IntKind.u32.has a8) (h9 : IntKind.u32.has a9) (h10 : IntKind.u32.has a10) : letI := rho a0 a1 a2 a3 a4 a5 a6 a7 a8 a9 a10 a11; gW.Ok := by
  letI := rho a0 a1 a2 a3 a4 a5 a6 a7 a8 a9 a10 a11
  refine ⟨fun t t' h => ?_, fun pc b r _ h => ?_, fun i => ?_, fun i x => F_range i _⟩
  · change simp1 t = some t' at h
    unfold simp1 at h
    split at h
    · next x q =>
      obtain rfl := Option.some.inj h
      exact fma_sim _ _
    · cases h
  · change dec b = some r at h
    unfold dec at h
    split at h
    · next x y =>
      split at h
      · next p hp =>
        split at h
        · next q hq =>
          obtain rfl := Option.some.inj h
          have e1 := gnd_v (fun _ _ => rfl) x p hp
          have e2 := gnd_v (fun _ _ => rfl) y q hq
          show decide (x.d = y.d) = decide (p = q)
          rw [e1, e2]
        · cases h
      · cases h
    · cases h
  · match i with
    | 0 => exact h0
    | 1 => exact h1
    | 2 => exact h2
    | 3 => exact h3
    | 4 => exact h4
    | 5 => exact h5
    | 6 => exact h6
    | 7 => exact h7
    | 8 => exact h8
    | 9 => exact h9
    | 10 => exact h10
    | 11 => exact (by cases a11 <;> decide : (0 : Int) ≤ (if a11 = true then 1 else 0) ∧ (if a11 = true then (1 : Int) else 0) ≤ 4294967295)
    | n + 12 =>
      have e : gW.rv (n + 12) = (0, 4294967295) := by simp [gW]
      rw [e]
      exact ⟨by show (0 : Int) ≤ 0; decide, by show (0 : Int) ≤ 4294967295; decide⟩
theorem yA [r : Rho] (hr : ∀ i u, r.f i u = F i u) (hH : gW.Ok) (w : World) : Calls Tryz.prog 4 #[] w fun e w' => e = .returned (.bool true) ∧ Below w.heap.size w w' := by
  have hv : ∀ v ∈ ([] : List PV), v.ok (fun _ => False) := fun v hv => by cases hv
  have hc := law_v hH (aCr hr hH) fk_ok (aAr w) hv aBj
  have e : (([] : List PV).map (PV.v m00)).toArray = #[] := rfl
  rw [e] at hc
  exact hc
theorem walk (a0 a1 a2 a3 a4 a5 a6 a7 a8 a9 a10 : Int) (a11 : Bool) (W : World) (w0 : (Lit.int .u8 a0).wf = true) (w1 : (Lit.int .u8 a1).wf = true) (w2 : (Lit.int .u8 a2).wf = true) (w3 : (Lit.int .u8 a3).wf = true) (w4 : (Lit.int .u32 a4).wf = true) (w5 : (Lit.int .u32 a5).wf = true) (w6 : (Lit.int .u32 a6).wf = true) (w7 : (Lit.int .u32 a7).wf = true) (w8 : (Lit.int .u32 a8).wf = true) (w9 : (Lit.int .u32 a9).wf = true) (w10 : (Lit.int .u32 a10).wf = true) :
    Calls Tryz.prog 3 #[.int .u8 a0, .int .u8 a1, .int .u8 a2, .int .u8 a3, .int .u32 a4, .int .u32 a5, .int .u32 a6, .int .u32 a7, .int .u32 a8, .int .u32 a9, .int .u32 a10, .bool a11] W fun e W' => e = .returned (.bool true) ∧ Below W.heap.size W W' := by
  letI := rho a0 a1 a2 a3 a4 a5 a6 a7 a8 a9 a10 a11
  have h0 := nE.1 w0
  have h1 := nE.1 w1
  have h2 := nE.1 w2
  have h3 := nE.1 w3
  have h4 := nE.1 w4
  have h5 := nE.1 w5
  have h6 := nE.1 w6
  have h7 := nE.1 w7
  have h8 := nE.1 w8
  have h9 := nE.1 w9
  have h10 := nE.1 w10
  have hH : gW.Ok := hook_ok a0 a1 a2 a3 a4 a5 a6 a7 a8 a9 a10 a11 h0 h1 h2 h3 h4 h5 h6 h7 h8 h9 h10
  have hen : gV Tryz.prog en4 := gV.cons (yes0_ok Tryz.func4 (by kernel_rfl) (by kernel_rfl) fun w => yA (fun _ _ => rfl) hH w) (aCr (fun _ _ => rfl) hH)
  have hv : ∀ v ∈ args, v.ok (fun _ => False) := by
    intro v hv
    simp only [args, List.mem_cons, List.not_mem_nil, or_false] at hv
    rcases hv with rfl | rfl | rfl | rfl | rfl | rfl | rfl | rfl | rfl | rfl | rfl | rfl
    · exact h0
    · exact h1
    · exact h2
    · exact h3
    · exact h4
    · exact h5
    · exact h6
    · exact h7
    · exact h8
    · exact h9
    · exact h10
    · exact trivial
  have h6 : ∃ i : Int, (i = 0 ∨ i = 1 ∨ i = 2 ∨ i = 3 ∨ i = 4 ∨ i = 5) ∧ TO.run .rem .u8 a0 6 = i := by
    have b0 : (0 : Int) ≤ a0 := h0.1
    have b1 : a0 ≤ 255 := h0.2
    obtain ⟨n, rfl⟩ : ∃ n : Nat, a0 = n := ⟨a0.toNat, by omega⟩
    exact ⟨_, rem_six n (by omega), rfl⟩
  obtain ⟨i, hi, he⟩ := h6
  have hpc : nH [(BE.eq (.o .rem .u8 (.v 0) (.l 6)) (.l i), true), (BE.q (.v 11), a11)] := by
    intro p hp
    simp only [List.mem_cons, List.not_mem_nil, or_false] at hp
    rcases hp with rfl | rfl
    · show decide (TO.run .rem .u8 a0 6 = i) = true
      exact decide_eq_true he
    · show (!((if a11 = true then (1 : Int) else 0) == 0)) = a11
      cases a11 <;> rfl
  have hc := law_v hH hen fs_ok (start_pc W _ hpc) hv (runs i a11 hi)
  have e : (args.map (PV.v m00)).toArray = #[.int .u8 a0, .int .u8 a1, .int .u8 a2, .int .u8 a3, .int .u32 a4, .int .u32 a5, .int .u32 a6, .int .u32 a7, .int .u32 a8, .int .u32 a9, .int .u32 a10, .bool a11] := by
    have : (!((if a11 = true then (1 : Int) else 0) == 0)) = a11 := by cases a11 <;> rfl
    simp only [args, List.map]
    show #[Value.int .u8 a0, Value.int .u8 a1, Value.int .u8 a2, Value.int .u8 a3, Value.int .u32 a4, Value.int .u32 a5, Value.int .u32 a6, Value.int .u32 a7, Value.int .u32 a8, Value.int .u32 a9, Value.int .u32 a10, Value.bool (!((if a11 = true then (1 : Int) else 0) == 0))] = _
    rw [this]
  rw [e] at hc
  exact hc
end Go.Proofs.YtfapjegkilljnaaGreat.XwOpt
