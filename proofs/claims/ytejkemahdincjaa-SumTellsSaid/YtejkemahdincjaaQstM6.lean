import Derived.Test.YtejkemahdincjaaQstM3
import Derived.Test.YtejkemahdincjaaProg
import Derived.Test.YtejkemahdincjaaQstM5
import Derived.Test.YtejkemahdincjaaQstM4
import Derived.Test.YtejkemahdincjaaQstZ
import Derived.Test.YtejkemahdincjaaQstM1
import Derived.Test.YtejkemahdincjaaQstM2
/- Entries of functions. -/
set_option linter.unusedVariables false
set_option linter.unusedSimpArgs false
namespace Go.Proofs.Ytejkemahdincjaa.E
open Go.RowKit Go.Proofs.Ytejkemahdincjaa.P Go.Proofs.Ytejkemahdincjaa.Ek Go.Proofs.YtejkemahdincjaaW.PrintWords Go.Proofs.YtejkemahdincjaaW.PrintLast Go.Proofs.YtejkemahdincjaaW.PrintMore
noncomputable def annealref1_nans.c : Fc := mkFcA [.s (hI .i64), .sl .u32] [hB, hB] (T := Bool × Bool) (fun y => ((y.1, ()), (y.2, ()), ())) fun n x => annealref1_nans.f n x.1.1 x.2.1
theorem annealref1_nans.ok : FcOk Try.prog 33 annealref1_nans.c := oldA_ok Try.func33 (by kernel_rfl) (by kernel_rfl) (by decide) (fun _ => giveR_ok (by decide) _) fun n x y h m w vs ha => by obtain ⟨q0, e0, ha⟩ := ha; subst e0; obtain ⟨A1, c1, q1, e1, R1, D1, ha⟩ := ha; subst e1; subst ha; exact (annealref1_nans.calls n x.1.1 A1 c1 x.2.1 y.1 y.2 w R1 D1 h).mono fun e w' he => ⟨he.1, he.2.below⟩
noncomputable def annealref1_Nan.c : Fc := mkFc [hI .i64] [hI .u32] (T := Int) (fun y => ((y, ()), ())) fun n x => annealref1_Nan.f x.1.1
theorem annealref1_Nan.ok : FcOk Try.prog 34 annealref1_Nan.c := old_ok Try.func34 (by kernel_rfl) (by kernel_rfl) (by decide) (fun _ => giveR_ok (by decide) _) fun n x y h m w => (annealref1_Nan.calls x.1.1 y w h).mono fun e w' he => ⟨he.1, he.2.below⟩
noncomputable def annealref1_inf.c : Fc := mkFc [hI .i64, hI .u32] [hB] (T := Bool) (fun y => ((y, ()), ())) fun n x => annealref1_inf.f n x.1.1 x.2.1.1
theorem annealref1_inf.ok : FcOk Try.prog 35 annealref1_inf.c := old_ok Try.func35 (by kernel_rfl) (by kernel_rfl) (by decide) (fun _ => giveR_ok (by decide) _) fun n x y h m w => (annealref1_inf.calls n x.1.1 x.2.1.1 y w h).mono fun e w' he => ⟨he.1, he.2.below⟩
noncomputable def annealref1_neg.c : Fc := mkFc [hI .i64, hI .u32] [hB] (T := Bool) (fun y => ((y, ()), ())) fun n x => annealref1_neg.f x.1.1 x.2.1.1
theorem annealref1_neg.ok : FcOk Try.prog 36 annealref1_neg.c := old_ok Try.func36 (by kernel_rfl) (by kernel_rfl) (by decide) (fun _ => giveR_ok (by decide) _) fun n x y h m w => (annealref1_neg.calls x.1.1 x.2.1.1 y w h).mono fun e w' he => ⟨he.1, he.2.below⟩
noncomputable def annealref1_Mask.c : Fc := mkFc [hI .i64] [hI .u32] (T := Int) (fun y => ((y, ()), ())) fun n x => annealref1_Mask.f x.1.1
theorem annealref1_Mask.ok : FcOk Try.prog 24 annealref1_Mask.c := old_ok Try.func24 (by kernel_rfl) (by kernel_rfl) (by decide) (fun _ => giveR_ok (by decide) _) fun n x y h m w => (annealref1_Mask.calls x.1.1 y w h).mono fun e w' he => ⟨he.1, he.2.below⟩
noncomputable def annealref1_zero.c : Fc := mkFc [hI .i64, hI .u32] [hB] (T := Bool) (fun y => ((y, ()), ())) fun n x => annealref1_zero.f n x.1.1 x.2.1.1
theorem annealref1_zero.ok : FcOk Try.prog 37 annealref1_zero.c := old_ok Try.func37 (by kernel_rfl) (by kernel_rfl) (by decide) (fun _ => giveR_ok (by decide) _) fun n x y h m w => (annealref1_zero.calls n x.1.1 x.2.1.1 y w h).mono fun e w' he => ⟨he.1, he.2.below⟩
noncomputable def annealref1_Unpack.c : Fc := mkFc [hI .i64, hI .u32] [hB, hI .i64, hI .u64] (T := Bool × Int × Int) (fun y => ((y.1, ()), (y.2.1, ()), (y.2.2, ()), ())) fun n x => annealref1_Unpack.f n x.1.1 x.2.1.1
theorem annealref1_Unpack.ok : FcOk Try.prog 40 annealref1_Unpack.c := old_ok Try.func40 (by kernel_rfl) (by kernel_rfl) (by decide) (fun _ => giveR_ok (by decide) _) fun n x y h m w => (annealref1_Unpack.calls n x.1.1 x.2.1.1 y.1 y.2.1 y.2.2 w h).mono fun e w' he => ⟨he.1, he.2.below⟩
noncomputable def annealref1_spread.cls : Cls := []
theorem annealref1_spread.clsOk : ClsOk Try.prog annealref1_spread.cls := ClsOk.nil
noncomputable def annealref1_spread.K (v : SV) : Option (Bool × List Int) := (takeR [.agg [.b, .a .u64 10]] v).map (fun z => (z.1.1, z.1.2.1))
noncomputable def annealref1_spread.cuts : List Nat := []
noncomputable def annealref1_spread.f (k : Nat) (a0 : Bool) (a1 : Int) (a2 : Int) : Option (Bool × List Int) := evF Try.prog annealref1_spread.cls Try.f39 annealref1_spread.cuts k [.one (.b (.q a0)), .one (.i .i64 (.x a1)), .one (.i .u64 (.x a2))] annealref1_spread.K
noncomputable def annealref1_spread.c : Fc := mkFc [hB, hI .i64, hI .u64] [.agg [.b, .a .u64 10]] (T := Bool × List Int) (fun y => ((y.1, y.2, ()), ())) fun n x => annealref1_spread.f n x.1.1 x.2.1.1 x.2.2.1.1
theorem annealref1_spread.ok : FcOk Try.prog 39 annealref1_spread.c := mkOk annealref1_spread.clsOk Try.func39 (by kernel_rfl) (by kernel_rfl) (by decide) (fun _ => rfl) (fun _ _ => rfl)
noncomputable def annealref1_below.cls : Cls := []
theorem annealref1_below.clsOk : ClsOk Try.prog annealref1_below.cls := ClsOk.nil
noncomputable def annealref1_below.K (v : SV) : Option (Bool) := (takeR [hB] v).map (fun z => (z.1.1))
noncomputable def annealref1_below.cuts : List Nat := []
noncomputable def annealref1_below.f (k : Nat) (a0_0 : Bool) (a0_1 : List Int) (a1_0 : Bool) (a1_1 : List Int) : Option (Bool) := evF Try.prog annealref1_below.cls Try.f83 annealref1_below.cuts k [.agg [cb a0_0, .a .u64 a0_1 10], .agg [cb a1_0, .a .u64 a1_1 10]] annealref1_below.K
noncomputable def annealref1_below.c : Fc := mkFc [.agg [.b, .a .u64 10], .agg [.b, .a .u64 10]] [hB] (T := Bool) (fun y => ((y, ()), ())) fun n x => annealref1_below.f n x.1.1 x.1.2.1 x.2.1.1 x.2.1.2.1
theorem annealref1_below.ok : FcOk Try.prog 83 annealref1_below.c := mkOk annealref1_below.clsOk Try.func83 (by kernel_rfl) (by kernel_rfl) (by decide) (fun _ => rfl) (fun _ _ => rfl)
noncomputable def annealref1_minus.cls : Cls := [(83, annealref1_below.c)]
theorem annealref1_minus.clsOk : ClsOk Try.prog annealref1_minus.cls := ClsOk.cons annealref1_below.ok (ClsOk.nil)
noncomputable def annealref1_minus.K (v : SV) : Option (Bool × List Int) := (takeR [.agg [.b, .a .u64 10]] v).map (fun z => (z.1.1, z.1.2.1))
noncomputable def annealref1_minus.cuts : List Nat := []
noncomputable def annealref1_minus.f (k : Nat) (a0_0 : Bool) (a0_1 : List Int) (a1_0 : Bool) (a1_1 : List Int) : Option (Bool × List Int) := evF Try.prog annealref1_minus.cls Try.f80 annealref1_minus.cuts k [.agg [cb a0_0, .a .u64 a0_1 10], .agg [cb a1_0, .a .u64 a1_1 10]] annealref1_minus.K
noncomputable def annealref1_minus.c : Fc := mkFc [.agg [.b, .a .u64 10], .agg [.b, .a .u64 10]] [.agg [.b, .a .u64 10]] (T := Bool × List Int) (fun y => ((y.1, y.2, ()), ())) fun n x => annealref1_minus.f n x.1.1 x.1.2.1 x.2.1.1 x.2.1.2.1
theorem annealref1_minus.ok : FcOk Try.prog 80 annealref1_minus.c := mkOk annealref1_minus.clsOk Try.func80 (by kernel_rfl) (by kernel_rfl) (by decide) (fun _ => rfl) (fun _ _ => rfl)
noncomputable def annealref1_plus.cls : Cls := [(80, annealref1_minus.c)]
theorem annealref1_plus.clsOk : ClsOk Try.prog annealref1_plus.cls := ClsOk.cons annealref1_minus.ok (ClsOk.nil)
noncomputable def annealref1_plus.K (v : SV) : Option (Bool × List Int) := (takeR [.agg [.b, .a .u64 10]] v).map (fun z => (z.1.1, z.1.2.1))
noncomputable def annealref1_plus.cuts : List Nat := []
noncomputable def annealref1_plus.f (k : Nat) (a0_0 : Bool) (a0_1 : List Int) (a1_0 : Bool) (a1_1 : List Int) : Option (Bool × List Int) := evF Try.prog annealref1_plus.cls Try.f68 annealref1_plus.cuts k [.agg [cb a0_0, .a .u64 a0_1 10], .agg [cb a1_0, .a .u64 a1_1 10]] annealref1_plus.K
noncomputable def annealref1_plus.c : Fc := mkFc [.agg [.b, .a .u64 10], .agg [.b, .a .u64 10]] [.agg [.b, .a .u64 10]] (T := Bool × List Int) (fun y => ((y.1, y.2, ()), ())) fun n x => annealref1_plus.f n x.1.1 x.1.2.1 x.2.1.1 x.2.1.2.1
theorem annealref1_plus.ok : FcOk Try.prog 68 annealref1_plus.c := mkOk annealref1_plus.clsOk Try.func68 (by kernel_rfl) (by kernel_rfl) (by decide) (fun _ => rfl) (fun _ _ => rfl)
noncomputable def annealref1_nought.cls : Cls := []
theorem annealref1_nought.clsOk : ClsOk Try.prog annealref1_nought.cls := ClsOk.nil
noncomputable def annealref1_nought.K (v : SV) : Option (Bool) := (takeR [hB] v).map (fun z => (z.1.1))
noncomputable def annealref1_nought.cuts : List Nat := []
noncomputable def annealref1_nought.f (k : Nat) (a0_0 : Bool) (a0_1 : List Int) : Option (Bool) := evF Try.prog annealref1_nought.cls Try.f69 annealref1_nought.cuts k [.agg [cb a0_0, .a .u64 a0_1 10]] annealref1_nought.K
noncomputable def annealref1_nought.c : Fc := mkFc [.agg [.b, .a .u64 10]] [hB] (T := Bool) (fun y => ((y, ()), ())) fun n x => annealref1_nought.f n x.1.1 x.1.2.1
theorem annealref1_nought.ok : FcOk Try.prog 69 annealref1_nought.c := mkOk annealref1_nought.clsOk Try.func69 (by kernel_rfl) (by kernel_rfl) (by decide) (fun _ => rfl) (fun _ _ => rfl)
noncomputable def annealref1_Zero.c : Fc := mkFc [hI .i64, hB] [hI .u32] (T := Int) (fun y => ((y, ()), ())) fun n x => annealref1_Zero.f x.1.1 x.2.1.1
theorem annealref1_Zero.ok : FcOk Try.prog 22 annealref1_Zero.c := old_ok Try.func22 (by kernel_rfl) (by kernel_rfl) (by decide) (fun _ => giveR_ok (by decide) _) fun n x y h m w => (annealref1_Zero.calls x.1.1 x.2.1.1 y w h).mono fun e w' he => ⟨he.1, he.2.below⟩
noncomputable def annealref1_Len.c : Fc := mkFc [hI .u64] [hI .i64] (T := Int) (fun y => ((y, ()), ())) fun n x => annealref1_Len.f n x.1.1
theorem annealref1_Len.ok : FcOk Try.prog 73 annealref1_Len.c := old_ok Try.func73 (by kernel_rfl) (by kernel_rfl) (by decide) (fun _ => giveR_ok (by decide) _) fun n x y h m w => (annealref1_Len.calls n x.1.1 y w h).mono fun e w' he => ⟨he.1, he.2.below⟩
noncomputable def annealref1_Pack.c : Fc := mkFc [hI .i64, hI .i64, hB, hI .i64, hI .u64, hB] [hI .u32, .agg [.b, .b, .b, .b, .b]] (T := Int × Bool × Bool × Bool × Bool × Bool) (fun y => ((y.1, ()), (y.2.1, y.2.2.1, y.2.2.2.1, y.2.2.2.2.1, y.2.2.2.2.2, ()), ())) fun n x => annealref1_Pack.f n x.1.1 x.2.1.1 x.2.2.1.1 x.2.2.2.1.1 x.2.2.2.2.1.1 x.2.2.2.2.2.1.1
theorem annealref1_Pack.ok : FcOk Try.prog 43 annealref1_Pack.c := old_ok Try.func43 (by kernel_rfl) (by kernel_rfl) (by decide) (fun _ => giveR_ok (by decide) _) fun n x y h m w => (annealref1_Pack.calls n x.1.1 x.2.1.1 x.2.2.1.1 x.2.2.2.1.1 x.2.2.2.2.1.1 x.2.2.2.2.2.1.1 y.1 y.2.1 y.2.2.1 y.2.2.2.1 y.2.2.2.2.1 y.2.2.2.2.2 w h).mono fun e w' he => ⟨he.1, he.2⟩
noncomputable def annealref1_rounded.cls : Cls := [(73, annealref1_Len.c), (43, annealref1_Pack.c)]
theorem annealref1_rounded.clsOk : ClsOk Try.prog annealref1_rounded.cls := ClsOk.cons annealref1_Len.ok (ClsOk.cons annealref1_Pack.ok (ClsOk.nil))
noncomputable def annealref1_rounded.K (v : SV) : Option (Int × Bool × Bool × Bool × Bool × Bool) := (takeR [hI .u32, .agg [.b, .b, .b, .b, .b]] v).map (fun z => (z.1.1, z.2.1.1, z.2.1.2.1, z.2.1.2.2.1, z.2.1.2.2.2.1, z.2.1.2.2.2.2.1))
noncomputable def annealref1_rounded.cuts : List Nat := []
noncomputable def annealref1_rounded.f (k : Nat) (a0 : Int) (a1 : Int) (a2_0 : Bool) (a2_1 : List Int) : Option (Int × Bool × Bool × Bool × Bool × Bool) := evF Try.prog annealref1_rounded.cls Try.f70 annealref1_rounded.cuts k [.one (.i .i64 (.x a0)), .one (.i .i64 (.x a1)), .agg [cb a2_0, .a .u64 a2_1 10]] annealref1_rounded.K
noncomputable def annealref1_rounded.c : Fc := mkFc [hI .i64, hI .i64, .agg [.b, .a .u64 10]] [hI .u32, .agg [.b, .b, .b, .b, .b]] (T := Int × Bool × Bool × Bool × Bool × Bool) (fun y => ((y.1, ()), (y.2.1, y.2.2.1, y.2.2.2.1, y.2.2.2.2.1, y.2.2.2.2.2, ()), ())) fun n x => annealref1_rounded.f n x.1.1 x.2.1.1 x.2.2.1.1 x.2.2.1.2.1
theorem annealref1_rounded.ok : FcOk Try.prog 70 annealref1_rounded.c := mkOk annealref1_rounded.clsOk Try.func70 (by kernel_rfl) (by kernel_rfl) (by decide) (fun _ => rfl) (fun _ _ => rfl)
noncomputable def annealref1_total.cls : Cls := [(68, annealref1_plus.c), (69, annealref1_nought.c), (22, annealref1_Zero.c), (70, annealref1_rounded.c)]
theorem annealref1_total.clsOk : ClsOk Try.prog annealref1_total.cls := ClsOk.cons annealref1_plus.ok (ClsOk.cons annealref1_nought.ok (ClsOk.cons annealref1_Zero.ok (ClsOk.cons annealref1_rounded.ok (ClsOk.nil))))
noncomputable def annealref1_total.K (v : SV) : Option (Int × Bool × Bool × Bool × Bool × Bool) := (takeR [hI .u32, .agg [.b, .b, .b, .b, .b]] v).map (fun z => (z.1.1, z.2.1.1, z.2.1.2.1, z.2.1.2.2.1, z.2.1.2.2.2.1, z.2.1.2.2.2.2.1))
noncomputable def annealref1_total.cuts : List Nat := []
noncomputable def annealref1_total.f (k : Nat) (a0 : Int) (a1 : Int) (a2_0 : Bool) (a2_1 : List Int) (a3_0 : Bool) (a3_1 : List Int) : Option (Int × Bool × Bool × Bool × Bool × Bool) := evF Try.prog annealref1_total.cls Try.f38 annealref1_total.cuts k [.one (.i .i64 (.x a0)), .one (.i .i64 (.x a1)), .agg [cb a2_0, .a .u64 a2_1 10], .agg [cb a3_0, .a .u64 a3_1 10]] annealref1_total.K
noncomputable def annealref1_total.c : Fc := mkFc [hI .i64, hI .i64, .agg [.b, .a .u64 10], .agg [.b, .a .u64 10]] [hI .u32, .agg [.b, .b, .b, .b, .b]] (T := Int × Bool × Bool × Bool × Bool × Bool) (fun y => ((y.1, ()), (y.2.1, y.2.2.1, y.2.2.2.1, y.2.2.2.2.1, y.2.2.2.2.2, ()), ())) fun n x => annealref1_total.f n x.1.1 x.2.1.1 x.2.2.1.1 x.2.2.1.2.1 x.2.2.2.1.1 x.2.2.2.1.2.1
theorem annealref1_total.ok : FcOk Try.prog 38 annealref1_total.c := mkOk annealref1_total.clsOk Try.func38 (by kernel_rfl) (by kernel_rfl) (by decide) (fun _ => rfl) (fun _ _ => rfl)
noncomputable def annealref1_Add.cls : Cls := [(33, annealref1_nans.c), (34, annealref1_Nan.c), (35, annealref1_inf.c), (36, annealref1_neg.c), (24, annealref1_Mask.c), (37, annealref1_zero.c), (40, annealref1_Unpack.c), (39, annealref1_spread.c), (38, annealref1_total.c)]
theorem annealref1_Add.clsOk : ClsOk Try.prog annealref1_Add.cls := ClsOk.cons annealref1_nans.ok (ClsOk.cons annealref1_Nan.ok (ClsOk.cons annealref1_inf.ok (ClsOk.cons annealref1_neg.ok (ClsOk.cons annealref1_Mask.ok (ClsOk.cons annealref1_zero.ok (ClsOk.cons annealref1_Unpack.ok (ClsOk.cons annealref1_spread.ok (ClsOk.cons annealref1_total.ok (ClsOk.nil)))))))))
noncomputable def annealref1_Add.K (v : SV) : Option (Int × Bool × Bool × Bool × Bool × Bool) := (takeR [hI .u32, .agg [.b, .b, .b, .b, .b]] v).map (fun z => (z.1.1, z.2.1.1, z.2.1.2.1, z.2.1.2.2.1, z.2.1.2.2.2.1, z.2.1.2.2.2.2.1))
noncomputable def annealref1_Add.cuts : List Nat := [6, 12]
noncomputable def annealref1_Add.f (k : Nat) (a0 : Int) (a1 : Int) (a2 : Int) (a3 : Int) : Option (Int × Bool × Bool × Bool × Bool × Bool) := evF Try.prog annealref1_Add.cls Try.f11 annealref1_Add.cuts k [.one (.i .i64 (.x a0)), .one (.i .i64 (.x a1)), .one (.i .u32 (.x a2)), .one (.i .u32 (.x a3))] annealref1_Add.K
noncomputable def annealref1_Add.c : Fc := mkFc [hI .i64, hI .i64, hI .u32, hI .u32] [hI .u32, .agg [.b, .b, .b, .b, .b]] (T := Int × Bool × Bool × Bool × Bool × Bool) (fun y => ((y.1, ()), (y.2.1, y.2.2.1, y.2.2.2.1, y.2.2.2.2.1, y.2.2.2.2.2, ()), ())) fun n x => annealref1_Add.f n x.1.1 x.2.1.1 x.2.2.1.1 x.2.2.2.1.1
theorem annealref1_Add.ok : FcOk Try.prog 11 annealref1_Add.c := mkOk annealref1_Add.clsOk Try.func11 (by kernel_rfl) (by kernel_rfl) (by decide) (fun _ => rfl) (fun _ _ => rfl)
noncomputable def annealref1_Inf.c : Fc := mkFc [hI .i64, hB] [hI .u32] (T := Int) (fun y => ((y, ()), ())) fun n x => annealref1_Inf.f x.1.1 x.2.1.1
theorem annealref1_Inf.ok : FcOk Try.prog 42 annealref1_Inf.c := old_ok Try.func42 (by kernel_rfl) (by kernel_rfl) (by decide) (fun _ => giveR_ok (by decide) _) fun n x y h m w => (annealref1_Inf.calls x.1.1 x.2.1.1 y w h).mono fun e w' he => ⟨he.1, he.2.below⟩
noncomputable def annealref1_Fma.cls : Cls := [(37, annealref1_zero.c), (35, annealref1_inf.c), (33, annealref1_nans.c), (34, annealref1_Nan.c), (36, annealref1_neg.c), (42, annealref1_Inf.c), (24, annealref1_Mask.c), (22, annealref1_Zero.c), (40, annealref1_Unpack.c), (39, annealref1_spread.c), (38, annealref1_total.c)]
theorem annealref1_Fma.clsOk : ClsOk Try.prog annealref1_Fma.cls := ClsOk.cons annealref1_zero.ok (ClsOk.cons annealref1_inf.ok (ClsOk.cons annealref1_nans.ok (ClsOk.cons annealref1_Nan.ok (ClsOk.cons annealref1_neg.ok (ClsOk.cons annealref1_Inf.ok (ClsOk.cons annealref1_Mask.ok (ClsOk.cons annealref1_Zero.ok (ClsOk.cons annealref1_Unpack.ok (ClsOk.cons annealref1_spread.ok (ClsOk.cons annealref1_total.ok (ClsOk.nil)))))))))))
noncomputable def annealref1_Fma.K (v : SV) : Option (Int × Bool × Bool × Bool × Bool × Bool) := (takeR [hI .u32, .agg [.b, .b, .b, .b, .b]] v).map (fun z => (z.1.1, z.2.1.1, z.2.1.2.1, z.2.1.2.2.1, z.2.1.2.2.2.1, z.2.1.2.2.2.2.1))
noncomputable def annealref1_Fma.cuts : List Nat := [2, 5, 14]
noncomputable def annealref1_Fma.f (k : Nat) (a0 : Int) (a1 : Int) (a2 : Int) (a3 : Int) (a4 : Int) : Option (Int × Bool × Bool × Bool × Bool × Bool) := evF Try.prog annealref1_Fma.cls Try.f19 annealref1_Fma.cuts k [.one (.i .i64 (.x a0)), .one (.i .i64 (.x a1)), .one (.i .u32 (.x a2)), .one (.i .u32 (.x a3)), .one (.i .u32 (.x a4))] annealref1_Fma.K
noncomputable def annealref1_Fma.c : Fc := mkFc [hI .i64, hI .i64, hI .u32, hI .u32, hI .u32] [hI .u32, .agg [.b, .b, .b, .b, .b]] (T := Int × Bool × Bool × Bool × Bool × Bool) (fun y => ((y.1, ()), (y.2.1, y.2.2.1, y.2.2.2.1, y.2.2.2.2.1, y.2.2.2.2.2, ()), ())) fun n x => annealref1_Fma.f n x.1.1 x.2.1.1 x.2.2.1.1 x.2.2.2.1.1 x.2.2.2.2.1.1
theorem annealref1_Fma.ok : FcOk Try.prog 19 annealref1_Fma.c := mkOk annealref1_Fma.clsOk Try.func19 (by kernel_rfl) (by kernel_rfl) (by decide) (fun _ => rfl) (fun _ _ => rfl)
noncomputable def annealref1_Minus.c : Fc := mkFc [hI .i64, hI .u32] [hI .u32] (T := Int) (fun y => ((y, ()), ())) fun n x => annealref1_Minus.f n x.1.1 x.2.1.1
theorem annealref1_Minus.ok : FcOk Try.prog 17 annealref1_Minus.c := old_ok Try.func17 (by kernel_rfl) (by kernel_rfl) (by decide) (fun _ => giveR_ok (by decide) _) fun n x y h m w => (annealref1_Minus.calls n x.1.1 x.2.1.1 y w h).mono fun e w' he => ⟨he.1, he.2⟩
noncomputable def annealref1_Sub.cls : Cls := [(17, annealref1_Minus.c), (11, annealref1_Add.c)]
theorem annealref1_Sub.clsOk : ClsOk Try.prog annealref1_Sub.cls := ClsOk.cons annealref1_Minus.ok (ClsOk.cons annealref1_Add.ok (ClsOk.nil))
noncomputable def annealref1_Sub.K (v : SV) : Option (Int × Bool × Bool × Bool × Bool × Bool) := (takeR [hI .u32, .agg [.b, .b, .b, .b, .b]] v).map (fun z => (z.1.1, z.2.1.1, z.2.1.2.1, z.2.1.2.2.1, z.2.1.2.2.2.1, z.2.1.2.2.2.2.1))
noncomputable def annealref1_Sub.cuts : List Nat := []
noncomputable def annealref1_Sub.f (k : Nat) (a0 : Int) (a1 : Int) (a2 : Int) (a3 : Int) : Option (Int × Bool × Bool × Bool × Bool × Bool) := evF Try.prog annealref1_Sub.cls Try.f13 annealref1_Sub.cuts k [.one (.i .i64 (.x a0)), .one (.i .i64 (.x a1)), .one (.i .u32 (.x a2)), .one (.i .u32 (.x a3))] annealref1_Sub.K
noncomputable def annealref1_Sub.c : Fc := mkFc [hI .i64, hI .i64, hI .u32, hI .u32] [hI .u32, .agg [.b, .b, .b, .b, .b]] (T := Int × Bool × Bool × Bool × Bool × Bool) (fun y => ((y.1, ()), (y.2.1, y.2.2.1, y.2.2.2.1, y.2.2.2.2.1, y.2.2.2.2.2, ()), ())) fun n x => annealref1_Sub.f n x.1.1 x.2.1.1 x.2.2.1.1 x.2.2.2.1.1
theorem annealref1_Sub.ok : FcOk Try.prog 13 annealref1_Sub.c := mkOk annealref1_Sub.clsOk Try.func13 (by kernel_rfl) (by kernel_rfl) (by decide) (fun _ => rfl) (fun _ _ => rfl)
end Go.Proofs.Ytejkemahdincjaa.E

-- Printed by a program of this session's out of Lean's print of the translation; Lean checks it.
namespace Go.Proofs.Ytejkemahdincjaa.P
open Go.RowKit Go.Proofs.YtejkemahdincjaaW.PrintWords Go.Proofs.YtejkemahdincjaaW.PrintLast Go.Proofs.YtejkemahdincjaaW.PrintMore
attribute [local go_sem] max2_int min2_int max_two min_two max_three min_three max_four min_four

-- EVALUATED
/-! ### annealref1_Add: function 11 -/
noncomputable def annealref1_Add.f (k : Nat) (a0 : Int) (a1 : Int) (a2 : Int) (a3 : Int) : Option (Int × Bool × Bool × Bool × Bool × Bool) := Go.Proofs.Ytejkemahdincjaa.E.annealref1_Add.f k a0 a1 a2 a3
theorem annealref1_Add.calls (k : Nat) (a0 : Int) (a1 : Int) (a2 : Int) (a3 : Int) (r1 : Int) (r2 : Bool) (r3 : Bool) (r4 : Bool) (r5 : Bool) (r6 : Bool) (w : World) (h : annealref1_Add.f k a0 a1 a2 a3 = some (r1, r2, r3, r4, r5, r6)) :
  Calls Try.prog 11 #[.int .i64 a0, .int .i64 a1, .int .u32 a2, .int .u32 a3] w fun e w' => e = .returned (.tuple #[.int .u32 r1, .agg #[.bool r2, .bool r3, .bool r4, .bool r5, .bool r6]]) ∧ Below w.heap.size w w' :=
 Go.Proofs.Ytejkemahdincjaa.Ek.calls_of Go.Proofs.Ytejkemahdincjaa.E.annealref1_Add.ok k ((a0, ()), (a1, ()), (a2, ()), (a3, ()), ()) (r1, r2, r3, r4, r5, r6) rfl h w


attribute [local go_sem high] eqA29
-- NEED 3
/-! ### anneallaw5_known: function 14 -/
def anneallaw5_known.f (k : Nat)  : Option (Bool) := (prod_Fma.f k 2 0 1073741824 1077936128 1065353216).bind fun bt616 => ((prod_Mul.f k 0 0 31744 0).bind fun bt623 => (if bt616.1 = 1088421888 then (if (!bt616.2.1 && (!bt616.2.2.1 && (!bt616.2.2.2.1 && (!bt616.2.2.2.2.1 && (!bt616.2.2.2.2.2))))) = true then (if bt623.1 = 32256 then (some (bt623.2.1 && (!bt623.2.2.1 && (!bt623.2.2.2.1 && (!bt623.2.2.2.2.1 && (!bt623.2.2.2.2.2)))))) else (some false)) else (some false)) else (some false)))
theorem anneallaw5_known.mono : ∀ k, LeO (anneallaw5_known.f k ) (anneallaw5_known.f (k + 1) ) := by
 intro  k
 unfold anneallaw5_known.f
 repeat' first
   |(with_reducible exact prod_Fma.mono _ _ _ _ _ _)
   |(with_reducible exact prod_Mul.mono _ _ _ _ _)
   |(with_reducible exact LeO.refl _)
   |(with_reducible exact LeO.none _)
   |(with_reducible refine LeO.ite ?_ ?_)
   |(with_reducible refine LeO.bind ?_ (fun _ => ?_))
   |exact prod_Fma.mono _ _ _ _ _ _
   |exact prod_Mul.mono _ _ _ _ _
   |exact LeO.none _
   |refine LeO.ite ?_ ?_
   |refine LeO.bind ?_ (fun _ => ?_)
set_option maxHeartbeats 8000000 in
set_option maxRecDepth 100000 in
theorem anneallaw5_known.calls (k : Nat)  (r : Bool) (w : World) (h : anneallaw5_known.f k  = some r) :
  Calls Try.prog 14 #[] w fun e w' => e = .returned (.bool r) ∧ Below w.heap.size w w' := by
 have hu29 := Try.underlying29
 have HB := Aside0.mk (Below.refl w.heap.size w)
 have H : ((prod_Fma.f k 2 0 1073741824 1077936128 1065353216).bind fun bt616 => ((prod_Mul.f k 0 0 31744 0).bind fun bt623 => (if bt616.1 = 1088421888 then (if (!bt616.2.1 && (!bt616.2.2.1 && (!bt616.2.2.2.1 && (!bt616.2.2.2.2.1 && (!bt616.2.2.2.2.2))))) = true then (if bt623.1 = 32256 then (some (bt623.2.1 && (!bt623.2.2.1 && (!bt623.2.2.2.1 && (!bt623.2.2.2.2.1 && (!bt623.2.2.2.2.2)))))) else (some false)) else (some false)) else (some false)))) = some r := h
 clear h
 replace H := Option.bind_eq_some_iff.mp H
 obtain ⟨⟨t616, t617, t618, t619, t620, t621⟩, A10, H⟩ := H
 replace H : ((prod_Mul.f k 0 0 31744 0).bind fun bt623 => (if t616 = 1088421888 then (if (!t617 && (!t618 && (!t619 && (!t620 && (!t621))))) = true then (if bt623.1 = 32256 then (some (bt623.2.1 && (!bt623.2.2.1 && (!bt623.2.2.2.1 && (!bt623.2.2.2.2.1 && (!bt623.2.2.2.2.2)))))) else (some false)) else (some false)) else (some false))) = some r := H
 have A1 := Aside0.mk A10
 clear A10
 replace H := Option.bind_eq_some_iff.mp H
 obtain ⟨⟨t623, t624, t625, t626, t627, t628⟩, A20, H⟩ := H
 replace H : (if t616 = 1088421888 then (if (!t617 && (!t618 && (!t619 && (!t620 && (!t621))))) = true then (if t623 = 32256 then (some (t624 && (!t625 && (!t626 && (!t627 && (!t628)))))) else (some false)) else (some false)) else (some false)) = some r := H
 have A2 := Aside0.mk A20
 clear A20
 by_cases c3 : t616 = 1088421888
 ·rw [if_pos c3] at H
  have c3b0 : (t616 == 1088421888) = true := beq_iff_eq.mpr c3
  have c3b1 : (t616 != 1088421888) = false := bne_eq_false_iff_eq.mpr c3
  clear c3
  by_cases c4 : (!t617 && (!t618 && (!t619 && (!t620 && (!t621))))) = true
  ·rw [if_pos c4] at H
   have c4b0 : (!t617 && (!t618 && (!t619 && (!t620 && (!t621))))) = true := c4
   clear c4
   by_cases c5 : t623 = 32256
   ·rw [if_pos c5] at H
    have c5b0 : (t623 == 32256) = true := beq_iff_eq.mpr c5
    have c5b1 : (t623 != 32256) = false := bne_eq_false_iff_eq.mpr c5
    clear c5
    obtain rfl := Option.some.inj H
    go_enter Try.func14, Try.ntmps14
    go_wp2_with (first | ((with_reducible refine gate_callee (f := 18) rfl ?_); refine goesL_ (some 6) rfl rfl Try.func18 (by kernel_rfl) rfl #[.int .i64 2, .int .i64 0, .int .u32 1073741824, .int .u32 1077936128, .int .u32 1065353216] rfl gl ?_; (with_reducible refine (prod_Fma.calls k 2 0 1073741824 1077936128 1065353216 t616 t617 t618 t619 t620 t621 _ A1.out).mono ?_); rintro e w6 ⟨rfl, hb⟩; refine ⟨_, rfl, ?_⟩; have n0_ := Aside0.mk (below_step (bl0 HB.out) hb); clear HB; have HB := n0_; clear n0_) | ((with_reducible refine gate_dst (N := 2) rfl ?_); refine box_event ?hg (N := 2) ?hd (cs := F5) (t := 29) ?hr ?_; (case hd => rfl); (case hg => rfl); (case hr => first | (go_simp; done) | (go_simp; rfl)); intro gb622 hg w7 hbox hb; have n0_ := Aside0.mk (below_step (bl0 HB.out) hb); have n1_ := Aside0.mk (hbox); have n2_ := Aside0.mk ((by rw [hg]; exact (below_size (bl0 HB.out)) : w.heap.size ≤ gb622)); have n3_ := n2_; clear HB; have HB := n0_; have BK622 := n1_; have GW622 := n2_; have GE622 := n3_; clear n0_ n1_ n2_ n3_; clear hb hbox hg; obtain ⟨hcz8_0, hcz8_1, hcz8_2, hcz8_3, hcz8_4⟩ := bc5 BK622.out; obtain ⟨hfz8_0, hfz8_1, hfz8_2, hfz8_3, hfz8_4⟩ := bf5 BK622.out) | ((with_reducible refine gate_callee (f := 21) rfl ?_); refine goesL_ (some 10) rfl rfl Try.func21 (by kernel_rfl) rfl #[.int .i64 0, .int .i64 0, .int .u32 31744, .int .u32 0] rfl gl ?_; (with_reducible refine (prod_Mul.calls k 0 0 31744 0 t623 t624 t625 t626 t627 t628 _ A2.out).mono ?_); rintro e w9 ⟨rfl, hb⟩; refine ⟨_, rfl, ?_⟩; have n0_ := Aside0.mk (blk_below (g := gb622) (o := o5_ t617 t618 t619 t620 t621 29) (by (with_reducible repeat first | apply bd | apply be | apply ba); refine blk_put (cs := q5_ t617 t618 t619 t620 false) ?_ 4 _ rfl; (with_reducible repeat first | apply bd | apply be | apply ba); refine blk_put (cs := q5_ t617 t618 t619 false false) ?_ 3 _ rfl; (with_reducible repeat first | apply bd | apply be | apply ba); refine blk_put (cs := q5_ t617 t618 false false false) ?_ 2 _ rfl; (with_reducible repeat first | apply bd | apply be | apply ba); refine blk_put (cs := q5_ t617 false false false false) ?_ 1 _ rfl; (with_reducible repeat first | apply bd | apply be | apply ba); refine blk_put (cs := F5) ?_ 0 _ rfl; (with_reducible repeat first | apply bd | apply be | apply ba); exact BK622.out) hb); have n1_ := Aside0.mk (below_step (bl1 HB.out GE622.out) hb); clear BK622; clear HB; have BK622 := n0_; have HB := n1_; clear n0_ n1_) | ((with_reducible refine gate_dst (N := 4) rfl ?_); refine box_event ?hg (N := 4) ?hd (cs := F5) (t := 29) ?hr ?_; (case hd => rfl); (case hg => rfl); (case hr => first | (go_simp; done) | (go_simp; rfl)); intro gb629 hg w10 hbox hb; have n0_ := Aside0.mk (blk_below (g := gb622) (o := o5_ t617 t618 t619 t620 t621 29) (bv BK622.out) hb); have n1_ := Aside0.mk (below_step (bl1 HB.out GE622.out) hb); have n2_ := Aside0.mk (hbox); have n3_ := Aside0.mk ((by rw [hg]; exact (below_size (bl1 HB.out GE622.out)) : w.heap.size ≤ gb629)); have n4_ := n3_; have n5_ := Aside0.mk ((by rw [hg]; exact Nat.ne_of_lt (blk_lt (g := gb622) (o := o5_ t617 t618 t619 t620 t621 29) (bv BK622.out)) : gb622 ≠ gb629)); have n6_ := Aside0.mk (Ne.symm n5_.out); clear BK622; clear HB; have BK622 := n0_; have HB := n1_; have BK629 := n2_; have GW629 := n3_; have GE629 := n4_; have NB622_629 := n5_; have NB629_622 := n6_; clear n0_ n1_ n2_ n3_ n4_ n5_ n6_; clear hb hbox hg; have hnb11 := NB629_622.out; have hnc11 := NB622_629.out; obtain ⟨hcz12_0, hcz12_1, hcz12_2, hcz12_3, hcz12_4⟩ := bc5 BK629.out; obtain ⟨hfz12_0, hfz12_1, hfz12_2, hfz12_3, hfz12_4⟩ := bf5 BK629.out; obtain ⟨hcz13_0, hcz13_1, hcz13_2, hcz13_3, hcz13_4⟩ := bc5 BK622.out; obtain ⟨hfz13_0, hfz13_1, hfz13_2, hfz13_3, hfz13_4⟩ := bf5 BK622.out))
    go_ret
    exact ⟨by first | rfl | (simp [errW_none, errW_some] <;> rfl) | (simp [*, errW_none, errW_some] <;> rfl), bl2 HB.out GE622.out GE629.out⟩
   ·rw [if_neg c5] at H
    have c5b0 : (t623 == 32256) = false := beq_eq_false_iff_ne.mpr c5
    have c5b1 : (t623 != 32256) = true := bne_iff_ne.mpr c5
    obtain rfl := Option.some.inj H
    go_enter Try.func14, Try.ntmps14
    go_wp2_with (first | ((with_reducible refine gate_callee (f := 18) rfl ?_); refine goesL_ (some 6) rfl rfl Try.func18 (by kernel_rfl) rfl #[.int .i64 2, .int .i64 0, .int .u32 1073741824, .int .u32 1077936128, .int .u32 1065353216] rfl gl ?_; (with_reducible refine (prod_Fma.calls k 2 0 1073741824 1077936128 1065353216 t616 t617 t618 t619 t620 t621 _ A1.out).mono ?_); rintro e w14 ⟨rfl, hb⟩; refine ⟨_, rfl, ?_⟩; have n0_ := Aside0.mk (below_step (bl0 HB.out) hb); clear HB; have HB := n0_; clear n0_) | ((with_reducible refine gate_dst (N := 2) rfl ?_); refine box_event ?hg (N := 2) ?hd (cs := F5) (t := 29) ?hr ?_; (case hd => rfl); (case hg => rfl); (case hr => first | (go_simp; done) | (go_simp; rfl)); intro gb622 hg w15 hbox hb; have n0_ := Aside0.mk (below_step (bl0 HB.out) hb); have n1_ := Aside0.mk (hbox); have n2_ := Aside0.mk ((by rw [hg]; exact (below_size (bl0 HB.out)) : w.heap.size ≤ gb622)); have n3_ := n2_; clear HB; have HB := n0_; have BK622 := n1_; have GW622 := n2_; have GE622 := n3_; clear n0_ n1_ n2_ n3_; clear hb hbox hg; obtain ⟨hcz16_0, hcz16_1, hcz16_2, hcz16_3, hcz16_4⟩ := bc5 BK622.out; obtain ⟨hfz16_0, hfz16_1, hfz16_2, hfz16_3, hfz16_4⟩ := bf5 BK622.out) | ((with_reducible refine gate_callee (f := 21) rfl ?_); refine goesL_ (some 10) rfl rfl Try.func21 (by kernel_rfl) rfl #[.int .i64 0, .int .i64 0, .int .u32 31744, .int .u32 0] rfl gl ?_; (with_reducible refine (prod_Mul.calls k 0 0 31744 0 t623 t624 t625 t626 t627 t628 _ A2.out).mono ?_); rintro e w17 ⟨rfl, hb⟩; refine ⟨_, rfl, ?_⟩; have n0_ := Aside0.mk (blk_below (g := gb622) (o := o5_ t617 t618 t619 t620 t621 29) (by (with_reducible repeat first | apply bd | apply be | apply ba); refine blk_put (cs := q5_ t617 t618 t619 t620 false) ?_ 4 _ rfl; (with_reducible repeat first | apply bd | apply be | apply ba); refine blk_put (cs := q5_ t617 t618 t619 false false) ?_ 3 _ rfl; (with_reducible repeat first | apply bd | apply be | apply ba); refine blk_put (cs := q5_ t617 t618 false false false) ?_ 2 _ rfl; (with_reducible repeat first | apply bd | apply be | apply ba); refine blk_put (cs := q5_ t617 false false false false) ?_ 1 _ rfl; (with_reducible repeat first | apply bd | apply be | apply ba); refine blk_put (cs := F5) ?_ 0 _ rfl; (with_reducible repeat first | apply bd | apply be | apply ba); exact BK622.out) hb); have n1_ := Aside0.mk (below_step (bl1 HB.out GE622.out) hb); clear BK622; clear HB; have BK622 := n0_; have HB := n1_; clear n0_ n1_) | ((with_reducible refine gate_dst (N := 4) rfl ?_); refine box_event ?hg (N := 4) ?hd (cs := F5) (t := 29) ?hr ?_; (case hd => rfl); (case hg => rfl); (case hr => first | (go_simp; done) | (go_simp; rfl)); intro gb629 hg w18 hbox hb; have n0_ := Aside0.mk (blk_below (g := gb622) (o := o5_ t617 t618 t619 t620 t621 29) (bv BK622.out) hb); have n1_ := Aside0.mk (below_step (bl1 HB.out GE622.out) hb); have n2_ := Aside0.mk (hbox); have n3_ := Aside0.mk ((by rw [hg]; exact (below_size (bl1 HB.out GE622.out)) : w.heap.size ≤ gb629)); have n4_ := n3_; have n5_ := Aside0.mk ((by rw [hg]; exact Nat.ne_of_lt (blk_lt (g := gb622) (o := o5_ t617 t618 t619 t620 t621 29) (bv BK622.out)) : gb622 ≠ gb629)); have n6_ := Aside0.mk (Ne.symm n5_.out); clear BK622; clear HB; have BK622 := n0_; have HB := n1_; have BK629 := n2_; have GW629 := n3_; have GE629 := n4_; have NB622_629 := n5_; have NB629_622 := n6_; clear n0_ n1_ n2_ n3_ n4_ n5_ n6_; clear hb hbox hg; have hnb19 := NB629_622.out; have hnc19 := NB622_629.out; obtain ⟨hcz20_0, hcz20_1, hcz20_2, hcz20_3, hcz20_4⟩ := bc5 BK629.out; obtain ⟨hfz20_0, hfz20_1, hfz20_2, hfz20_3, hfz20_4⟩ := bf5 BK629.out; obtain ⟨hcz21_0, hcz21_1, hcz21_2, hcz21_3, hcz21_4⟩ := bc5 BK622.out; obtain ⟨hfz21_0, hfz21_1, hfz21_2, hfz21_3, hfz21_4⟩ := bf5 BK622.out))
    go_ret
    exact ⟨by first | rfl | (simp [errW_none, errW_some] <;> rfl) | (simp [*, errW_none, errW_some] <;> rfl), bl2 HB.out GE622.out GE629.out⟩
  ·rw [if_neg c4] at H
   have c4b0 : (!t617 && (!t618 && (!t619 && (!t620 && (!t621))))) = false := by simpa using c4
   clear c4
   obtain rfl := Option.some.inj H
   go_enter Try.func14, Try.ntmps14
   go_wp2_with (first | ((with_reducible refine gate_callee (f := 18) rfl ?_); refine goesL_ (some 6) rfl rfl Try.func18 (by kernel_rfl) rfl #[.int .i64 2, .int .i64 0, .int .u32 1073741824, .int .u32 1077936128, .int .u32 1065353216] rfl gl ?_; (with_reducible refine (prod_Fma.calls k 2 0 1073741824 1077936128 1065353216 t616 t617 t618 t619 t620 t621 _ A1.out).mono ?_); rintro e w22 ⟨rfl, hb⟩; refine ⟨_, rfl, ?_⟩; have n0_ := Aside0.mk (below_step (bl0 HB.out) hb); clear HB; have HB := n0_; clear n0_) | ((with_reducible refine gate_dst (N := 2) rfl ?_); refine box_event ?hg (N := 2) ?hd (cs := F5) (t := 29) ?hr ?_; (case hd => rfl); (case hg => rfl); (case hr => first | (go_simp; done) | (go_simp; rfl)); intro gb622 hg w23 hbox hb; have n0_ := Aside0.mk (below_step (bl0 HB.out) hb); have n1_ := Aside0.mk (hbox); have n2_ := Aside0.mk ((by rw [hg]; exact (below_size (bl0 HB.out)) : w.heap.size ≤ gb622)); have n3_ := n2_; clear HB; have HB := n0_; have BK622 := n1_; have GW622 := n2_; have GE622 := n3_; clear n0_ n1_ n2_ n3_; clear hb hbox hg; obtain ⟨hcz24_0, hcz24_1, hcz24_2, hcz24_3, hcz24_4⟩ := bc5 BK622.out; obtain ⟨hfz24_0, hfz24_1, hfz24_2, hfz24_3, hfz24_4⟩ := bf5 BK622.out) | ((with_reducible refine gate_callee (f := 21) rfl ?_); refine goesL_ (some 10) rfl rfl Try.func21 (by kernel_rfl) rfl #[.int .i64 0, .int .i64 0, .int .u32 31744, .int .u32 0] rfl gl ?_; (with_reducible refine (prod_Mul.calls k 0 0 31744 0 t623 t624 t625 t626 t627 t628 _ A2.out).mono ?_); rintro e w25 ⟨rfl, hb⟩; refine ⟨_, rfl, ?_⟩; have n0_ := Aside0.mk (blk_below (g := gb622) (o := o5_ t617 t618 t619 t620 t621 29) (by (with_reducible repeat first | apply bd | apply be | apply ba); refine blk_put (cs := q5_ t617 t618 t619 t620 false) ?_ 4 _ rfl; (with_reducible repeat first | apply bd | apply be | apply ba); refine blk_put (cs := q5_ t617 t618 t619 false false) ?_ 3 _ rfl; (with_reducible repeat first | apply bd | apply be | apply ba); refine blk_put (cs := q5_ t617 t618 false false false) ?_ 2 _ rfl; (with_reducible repeat first | apply bd | apply be | apply ba); refine blk_put (cs := q5_ t617 false false false false) ?_ 1 _ rfl; (with_reducible repeat first | apply bd | apply be | apply ba); refine blk_put (cs := F5) ?_ 0 _ rfl; (with_reducible repeat first | apply bd | apply be | apply ba); exact BK622.out) hb); have n1_ := Aside0.mk (below_step (bl1 HB.out GE622.out) hb); clear BK622; clear HB; have BK622 := n0_; have HB := n1_; clear n0_ n1_) | ((with_reducible refine gate_dst (N := 4) rfl ?_); refine box_event ?hg (N := 4) ?hd (cs := F5) (t := 29) ?hr ?_; (case hd => rfl); (case hg => rfl); (case hr => first | (go_simp; done) | (go_simp; rfl)); intro gb629 hg w26 hbox hb; have n0_ := Aside0.mk (blk_below (g := gb622) (o := o5_ t617 t618 t619 t620 t621 29) (bv BK622.out) hb); have n1_ := Aside0.mk (below_step (bl1 HB.out GE622.out) hb); have n2_ := Aside0.mk (hbox); have n3_ := Aside0.mk ((by rw [hg]; exact (below_size (bl1 HB.out GE622.out)) : w.heap.size ≤ gb629)); have n4_ := n3_; have n5_ := Aside0.mk ((by rw [hg]; exact Nat.ne_of_lt (blk_lt (g := gb622) (o := o5_ t617 t618 t619 t620 t621 29) (bv BK622.out)) : gb622 ≠ gb629)); have n6_ := Aside0.mk (Ne.symm n5_.out); clear BK622; clear HB; have BK622 := n0_; have HB := n1_; have BK629 := n2_; have GW629 := n3_; have GE629 := n4_; have NB622_629 := n5_; have NB629_622 := n6_; clear n0_ n1_ n2_ n3_ n4_ n5_ n6_; clear hb hbox hg; have hnb27 := NB629_622.out; have hnc27 := NB622_629.out; obtain ⟨hcz28_0, hcz28_1, hcz28_2, hcz28_3, hcz28_4⟩ := bc5 BK629.out; obtain ⟨hfz28_0, hfz28_1, hfz28_2, hfz28_3, hfz28_4⟩ := bf5 BK629.out; obtain ⟨hcz29_0, hcz29_1, hcz29_2, hcz29_3, hcz29_4⟩ := bc5 BK622.out; obtain ⟨hfz29_0, hfz29_1, hfz29_2, hfz29_3, hfz29_4⟩ := bf5 BK622.out))
   go_ret
   exact ⟨by first | rfl | (simp [errW_none, errW_some] <;> rfl) | (simp [*, errW_none, errW_some] <;> rfl), bl2 HB.out GE622.out GE629.out⟩
 ·rw [if_neg c3] at H
  have c3b0 : (t616 == 1088421888) = false := beq_eq_false_iff_ne.mpr c3
  have c3b1 : (t616 != 1088421888) = true := bne_iff_ne.mpr c3
  obtain rfl := Option.some.inj H
  go_enter Try.func14, Try.ntmps14
  go_wp2_with (first | ((with_reducible refine gate_callee (f := 18) rfl ?_); refine goesL_ (some 6) rfl rfl Try.func18 (by kernel_rfl) rfl #[.int .i64 2, .int .i64 0, .int .u32 1073741824, .int .u32 1077936128, .int .u32 1065353216] rfl gl ?_; (with_reducible refine (prod_Fma.calls k 2 0 1073741824 1077936128 1065353216 t616 t617 t618 t619 t620 t621 _ A1.out).mono ?_); rintro e w30 ⟨rfl, hb⟩; refine ⟨_, rfl, ?_⟩; have n0_ := Aside0.mk (below_step (bl0 HB.out) hb); clear HB; have HB := n0_; clear n0_) | ((with_reducible refine gate_dst (N := 2) rfl ?_); refine box_event ?hg (N := 2) ?hd (cs := F5) (t := 29) ?hr ?_; (case hd => rfl); (case hg => rfl); (case hr => first | (go_simp; done) | (go_simp; rfl)); intro gb622 hg w31 hbox hb; have n0_ := Aside0.mk (below_step (bl0 HB.out) hb); have n1_ := Aside0.mk (hbox); have n2_ := Aside0.mk ((by rw [hg]; exact (below_size (bl0 HB.out)) : w.heap.size ≤ gb622)); have n3_ := n2_; clear HB; have HB := n0_; have BK622 := n1_; have GW622 := n2_; have GE622 := n3_; clear n0_ n1_ n2_ n3_; clear hb hbox hg; obtain ⟨hcz32_0, hcz32_1, hcz32_2, hcz32_3, hcz32_4⟩ := bc5 BK622.out; obtain ⟨hfz32_0, hfz32_1, hfz32_2, hfz32_3, hfz32_4⟩ := bf5 BK622.out) | ((with_reducible refine gate_callee (f := 21) rfl ?_); refine goesL_ (some 10) rfl rfl Try.func21 (by kernel_rfl) rfl #[.int .i64 0, .int .i64 0, .int .u32 31744, .int .u32 0] rfl gl ?_; (with_reducible refine (prod_Mul.calls k 0 0 31744 0 t623 t624 t625 t626 t627 t628 _ A2.out).mono ?_); rintro e w33 ⟨rfl, hb⟩; refine ⟨_, rfl, ?_⟩; have n0_ := Aside0.mk (blk_below (g := gb622) (o := o5_ t617 t618 t619 t620 t621 29) (by (with_reducible repeat first | apply bd | apply be | apply ba); refine blk_put (cs := q5_ t617 t618 t619 t620 false) ?_ 4 _ rfl; (with_reducible repeat first | apply bd | apply be | apply ba); refine blk_put (cs := q5_ t617 t618 t619 false false) ?_ 3 _ rfl; (with_reducible repeat first | apply bd | apply be | apply ba); refine blk_put (cs := q5_ t617 t618 false false false) ?_ 2 _ rfl; (with_reducible repeat first | apply bd | apply be | apply ba); refine blk_put (cs := q5_ t617 false false false false) ?_ 1 _ rfl; (with_reducible repeat first | apply bd | apply be | apply ba); refine blk_put (cs := F5) ?_ 0 _ rfl; (with_reducible repeat first | apply bd | apply be | apply ba); exact BK622.out) hb); have n1_ := Aside0.mk (below_step (bl1 HB.out GE622.out) hb); clear BK622; clear HB; have BK622 := n0_; have HB := n1_; clear n0_ n1_) | ((with_reducible refine gate_dst (N := 4) rfl ?_); refine box_event ?hg (N := 4) ?hd (cs := F5) (t := 29) ?hr ?_; (case hd => rfl); (case hg => rfl); (case hr => first | (go_simp; done) | (go_simp; rfl)); intro gb629 hg w34 hbox hb; have n0_ := Aside0.mk (blk_below (g := gb622) (o := o5_ t617 t618 t619 t620 t621 29) (bv BK622.out) hb); have n1_ := Aside0.mk (below_step (bl1 HB.out GE622.out) hb); have n2_ := Aside0.mk (hbox); have n3_ := Aside0.mk ((by rw [hg]; exact (below_size (bl1 HB.out GE622.out)) : w.heap.size ≤ gb629)); have n4_ := n3_; have n5_ := Aside0.mk ((by rw [hg]; exact Nat.ne_of_lt (blk_lt (g := gb622) (o := o5_ t617 t618 t619 t620 t621 29) (bv BK622.out)) : gb622 ≠ gb629)); have n6_ := Aside0.mk (Ne.symm n5_.out); clear BK622; clear HB; have BK622 := n0_; have HB := n1_; have BK629 := n2_; have GW629 := n3_; have GE629 := n4_; have NB622_629 := n5_; have NB629_622 := n6_; clear n0_ n1_ n2_ n3_ n4_ n5_ n6_; clear hb hbox hg; have hnb35 := NB629_622.out; have hnc35 := NB622_629.out; obtain ⟨hcz36_0, hcz36_1, hcz36_2, hcz36_3, hcz36_4⟩ := bc5 BK629.out; obtain ⟨hfz36_0, hfz36_1, hfz36_2, hfz36_3, hfz36_4⟩ := bf5 BK629.out))
  go_ret
  exact ⟨by first | rfl | (simp [errW_none, errW_some] <;> rfl) | (simp [*, errW_none, errW_some] <;> rfl), bl2 HB.out GE622.out GE629.out⟩


-- NEED 0
/-! ### anneallaw5_form: function 15 -/
def anneallaw5_form.f (a0 : Int) : Option (Int) := (some (([0, 1, 2] : List Int) : List Int)).bind fun y630 => (if 0 ≤ (Int.tmod a0 3) then (if (Int.tmod a0 3) < (y630.length : Int) then (some (rd y630 (Int.tmod a0 3))) else (none)) else (none))
set_option maxHeartbeats 8000000 in
set_option maxRecDepth 100000 in
theorem anneallaw5_form.calls (a0 : Int) (r : Int) (w : World) (h : anneallaw5_form.f a0 = some r) :
  Calls Try.prog 15 #[.int .u8 a0] w fun e w' => e = .returned (.int .i64 r) ∧ Below w.heap.size w w' := by
 have HB := Aside0.mk (Below.refl w.heap.size w)
 have H : ((some (([0, 1, 2] : List Int) : List Int)).bind fun y630 => (if 0 ≤ (Int.tmod a0 3) then (if (Int.tmod a0 3) < (y630.length : Int) then (some (rd y630 (Int.tmod a0 3))) else (none)) else (none))) = some r := h
 clear h
 obtain ⟨y630, hy630⟩ : ∃ y_ : List Int, y_ = (([0, 1, 2] : List Int)) := ⟨_, rfl⟩
 replace H : (if 0 ≤ (Int.tmod a0 3) then (if (Int.tmod a0 3) < (y630.length : Int) then (some (rd y630 (Int.tmod a0 3))) else (none)) else (none)) = some r := by first | (rw [hy630]; with_reducible exact H) | (have H2_ := (Option.bind_some _ _).symm.trans H; rw [hy630]; with_reducible exact H2_) | (have H2_ := (Option.bind_some _ _).symm.trans H; with_reducible exact H2_) | with_reducible exact H | (rw [hy630]; exact H) | exact H
 have Ny630 := Aside0.mk hy630
 clear hy630
 obtain ⟨ji2, hji2⟩ : ∃ j_ : Int, (Int.tmod a0 3) = j_ := ⟨_, rfl⟩
 replace H : (if 0 ≤ (ji2) then (if (ji2) < (y630.length : Int) then (some (rd y630 (ji2))) else (none)) else (none)) = some r := by first | (rw [hji2] at H; exact H) | (simp only [hji2] at H ⊢; exact H)
 by_cases c3 : 0 ≤ (ji2)
 ·rw [if_pos c3] at H
  have c3b0 : decide (0 ≤ (ji2)) = true := decide_eq_true c3
  clear c3
  by_cases c4 : (ji2) < (y630.length : Int)
  ·rw [if_pos c4] at H
   have c4b0 : decide ((ji2) < (y630.length : Int)) = true := decide_eq_true c4
   clear c4
   obtain rfl := Option.some.inj H
   go_enter Try.func15, Try.ntmps15
   go_wp2_with (first | ((with_reducible refine gate_dst (N := 3) rfl ?_); refine Kd.R_lit (Kd.int .i64) _ 3 ?hg (N := 3) ?hd (xs := ([0, 1, 2] : List Int)) (inner := [.int .i64 0, .int .i64 1, .int .i64 2]) (ok := fun _ => True) (okp := fun _ => True) ?hr ?hp (fun _ hk => hk) trivial (Below.refl _ _) (Nat.le_refl _) (by simp) ?_; (case hd => rfl); (case hg => rfl); (case hr => first | (go_simp; done) | (go_simp; rfl)); (case hp => exact (Reps.one (show Kd.M (Kd.int .i64) _ _ _ 0 [.int .i64 0] from rfl) (Reps.one (show Kd.M (Kd.int .i64) _ _ _ 1 [.int .i64 1] from rfl) (Reps.one (show Kd.M (Kd.int .i64) _ _ _ 2 [.int .i64 2] from rfl) (Reps.none _ _))))); intro v631 w5 ho6 hb hg_ hnew_; clear hg_ hnew_; (first | rw [← Ny630.out] at ho6 | (simp only [Int.reduceToNat] at ho6; rw [← Ny630.out] at ho6)); have n0_ := Aside0.mk (Kd.R_lower ho6 (below_size (bl0 HB.out))); have n1_ := Aside0.mk (below_step (bl0 HB.out) hb); clear HB; have HO632 := n0_; have HB := n1_; clear n0_ n1_; clear hb ho6; obtain ⟨Ao7, co7, eo7⟩ := Kd.R_slice HO632.out; subst eo7; have p633 : 0 ≤ ((ji2) : Int) := of_decide_eq_true (by first | (with_reducible assumption) | assumption); have q633 : (ji2) < (y630.length : Int) := of_decide_eq_true (by first | (with_reducible assumption) | assumption); obtain ⟨ad633, e633, hx633_0⟩ := Kd.at_int (Kd.R_reads' HO632.out).2.2 (ji2) p633 q633; cases e633; replace p633 := eq_true p633; replace q633 := eq_true q633))
   go_ret
   exact ⟨by first | rfl | (simp [errW_none, errW_some] <;> rfl) | (simp only [← hji2]; first | rfl | (simp [errW_none, errW_some] <;> rfl)) | (simp [*, errW_none, errW_some] <;> rfl), bl0 HB.out⟩
  ·rw [if_neg c4] at H
   exact absurd H (by simp)
 ·rw [if_neg c3] at H
  exact absurd H (by simp)


-- NEED 1
/-! ### annealref1_FromInt: function 20 -/
def annealref1_FromInt.f (k : Nat) (a0 : Int) (a1 : Int) (a2 : Int) : Option (Int × Bool × Bool × Bool × Bool × Bool) := if a2 < 0 then ((annealref1_Pack.f k a0 a1 true 0 (IntKind.u64.wrap (-(IntKind.u64.wrap (a2)))) false).bind fun bt716 => (some (bt716.1, bt716.2.1, bt716.2.2.1, bt716.2.2.2.1, bt716.2.2.2.2.1, bt716.2.2.2.2.2))) else ((annealref1_Pack.f k a0 a1 false 0 (IntKind.u64.wrap (a2)) false).bind fun bt722 => (some (bt722.1, bt722.2.1, bt722.2.2.1, bt722.2.2.2.1, bt722.2.2.2.2.1, bt722.2.2.2.2.2)))
theorem annealref1_FromInt.mono : ∀ a0 a1 a2 k, LeO (annealref1_FromInt.f k a0 a1 a2) (annealref1_FromInt.f (k + 1) a0 a1 a2) := by
 intro a0 a1 a2 k
 unfold annealref1_FromInt.f
 repeat' first
   |(with_reducible exact annealref1_Pack.mono _ _ _ _ _ _ _)
   |(with_reducible exact LeO.refl _)
   |(with_reducible exact LeO.none _)
   |(with_reducible refine LeO.ite ?_ ?_)
   |(with_reducible refine LeO.bind ?_ (fun _ => ?_))
   |exact annealref1_Pack.mono _ _ _ _ _ _ _
   |exact LeO.none _
   |refine LeO.ite ?_ ?_
   |refine LeO.bind ?_ (fun _ => ?_)
set_option maxHeartbeats 8000000 in
set_option maxRecDepth 100000 in
theorem annealref1_FromInt.calls (k : Nat) (a0 : Int) (a1 : Int) (a2 : Int) (r1 : Int) (r2 : Bool) (r3 : Bool) (r4 : Bool) (r5 : Bool) (r6 : Bool) (w : World) (h : annealref1_FromInt.f k a0 a1 a2 = some (r1, r2, r3, r4, r5, r6)) :
  Calls Try.prog 20 #[.int .i64 a0, .int .i64 a1, .int .i64 a2] w fun e w' => e = .returned (.tuple #[.int .u32 r1, .agg #[.bool r2, .bool r3, .bool r4, .bool r5, .bool r6]]) ∧ Below w.heap.size w w' := by
 have hu29 := Try.underlying29
 have HB := Aside0.mk (Below.refl w.heap.size w)
 have H : (if a2 < 0 then ((annealref1_Pack.f k a0 a1 true 0 (IntKind.u64.wrap (-(IntKind.u64.wrap (a2)))) false).bind fun bt716 => (some (bt716.1, bt716.2.1, bt716.2.2.1, bt716.2.2.2.1, bt716.2.2.2.2.1, bt716.2.2.2.2.2))) else ((annealref1_Pack.f k a0 a1 false 0 (IntKind.u64.wrap (a2)) false).bind fun bt722 => (some (bt722.1, bt722.2.1, bt722.2.2.1, bt722.2.2.2.1, bt722.2.2.2.2.1, bt722.2.2.2.2.2)))) = some (r1, r2, r3, r4, r5, r6) := h
 clear h
 by_cases c4 : a2 < 0
 ·rw [if_pos c4] at H
  have c4b0 : decide (a2 < 0) = true := decide_eq_true c4
  clear c4
  replace H := Option.bind_eq_some_iff.mp H
  obtain ⟨⟨t716, t717, t718, t719, t720, t721⟩, A50, H⟩ := H
  replace H : (some (t716, t717, t718, t719, t720, t721)) = some (r1, r2, r3, r4, r5, r6) := H
  have A5 := Aside0.mk A50
  clear A50
  simp only [Option.some.injEq, Prod.mk.injEq] at H
  obtain ⟨rfl, rfl, rfl, rfl, rfl, rfl⟩ := H
  go_enter Try.func20, Try.ntmps20
  go_wp2_with (first | ((with_reducible refine gate_dst (N := 7) rfl ?_); refine box_event ?hg (N := 7) ?hd (cs := F5) (t := 29) ?hr ?_; (case hd => rfl); (case hg => rfl); (case hr => first | (go_simp; done) | (go_simp; rfl)); intro gb715 hg w6 hbox hb; have n0_ := Aside0.mk (below_step (bl0 HB.out) hb); have n1_ := Aside0.mk (hbox); have n2_ := Aside0.mk ((by rw [hg]; exact (below_size (bl0 HB.out)) : w.heap.size ≤ gb715)); have n3_ := n2_; clear HB; have HB := n0_; have BK715 := n1_; have GW715 := n2_; have GE715 := n3_; clear n0_ n1_ n2_ n3_; clear hb hbox hg) | ((with_reducible refine gate_callee (f := 43) rfl ?_); refine goesL_ (some 15) rfl rfl Try.func43 (by kernel_rfl) rfl #[.int .i64 a0, .int .i64 a1, .bool true, .int .i64 0, .int .u64 (IntKind.u64.wrap (-(IntKind.u64.wrap (a2)))), .bool false] rfl gl ?_; (with_reducible refine (annealref1_Pack.calls k a0 a1 true 0 (IntKind.u64.wrap (-(IntKind.u64.wrap (a2)))) false t716 t717 t718 t719 t720 t721 _ A5.out).mono ?_); rintro e w7 ⟨rfl, hb⟩; refine ⟨_, rfl, ?_⟩; have n0_ := Aside0.mk (blk_below (g := gb715) (o := o5_ false false false false false 29) (bv BK715.out) hb); have n1_ := Aside0.mk (below_step (bl1 HB.out GE715.out) hb); clear BK715; clear HB; have BK715 := n0_; have HB := n1_; clear n0_ n1_; obtain ⟨hcz8_0, hcz8_1, hcz8_2, hcz8_3, hcz8_4⟩ := bc5 BK715.out; obtain ⟨hfz8_0, hfz8_1, hfz8_2, hfz8_3, hfz8_4⟩ := bf5 BK715.out))
  refine bodyPost_ret (results_tc rfl _ _ gb715 29 #[.bool t717, .bool t718, .bool t719, .bool t720, .bool t721] (0, 0) _ rfl (by (with_reducible repeat first | apply bd | apply be | apply ba); refine blk_put (cs := q5_ t717 t718 t719 t720 false) ?_ 4 _ rfl; (with_reducible repeat first | apply bd | apply be | apply ba); refine blk_put (cs := q5_ t717 t718 t719 false false) ?_ 3 _ rfl; (with_reducible repeat first | apply bd | apply be | apply ba); refine blk_put (cs := q5_ t717 t718 false false false) ?_ 2 _ rfl; (with_reducible repeat first | apply bd | apply be | apply ba); refine blk_put (cs := q5_ t717 false false false false) ?_ 1 _ rfl; (with_reducible repeat first | apply bd | apply be | apply ba); refine blk_put (cs := F5) ?_ 0 _ rfl; (with_reducible repeat first | apply bd | apply be | apply ba); exact BK715.out) Try.underlying29 rfl (by kernel_rfl)) rfl ?_
  exact ⟨by first | rfl | (simp [errW_none, errW_some] <;> rfl) | (simp [*, errW_none, errW_some] <;> rfl), bl1 HB.out GE715.out⟩
 ·rw [if_neg c4] at H
  have c4b0 : decide (a2 < 0) = false := decide_eq_false c4
  clear c4
  replace H := Option.bind_eq_some_iff.mp H
  obtain ⟨⟨t722, t723, t724, t725, t726, t727⟩, A90, H⟩ := H
  replace H : (some (t722, t723, t724, t725, t726, t727)) = some (r1, r2, r3, r4, r5, r6) := H
  have A9 := Aside0.mk A90
  clear A90
  simp only [Option.some.injEq, Prod.mk.injEq] at H
  obtain ⟨rfl, rfl, rfl, rfl, rfl, rfl⟩ := H
  go_enter Try.func20, Try.ntmps20
  go_wp2_with (first | ((with_reducible refine gate_dst (N := 7) rfl ?_); refine box_event ?hg (N := 7) ?hd (cs := F5) (t := 29) ?hr ?_; (case hd => rfl); (case hg => rfl); (case hr => first | (go_simp; done) | (go_simp; rfl)); intro gb715 hg w10 hbox hb; have n0_ := Aside0.mk (below_step (bl0 HB.out) hb); have n1_ := Aside0.mk (hbox); have n2_ := Aside0.mk ((by rw [hg]; exact (below_size (bl0 HB.out)) : w.heap.size ≤ gb715)); have n3_ := n2_; clear HB; have HB := n0_; have BK715 := n1_; have GW715 := n2_; have GE715 := n3_; clear n0_ n1_ n2_ n3_; clear hb hbox hg) | ((with_reducible refine gate_callee (f := 43) rfl ?_); refine goesL_ (some 22) rfl rfl Try.func43 (by kernel_rfl) rfl #[.int .i64 a0, .int .i64 a1, .bool false, .int .i64 0, .int .u64 (IntKind.u64.wrap (a2)), .bool false] rfl gl ?_; (with_reducible refine (annealref1_Pack.calls k a0 a1 false 0 (IntKind.u64.wrap (a2)) false t722 t723 t724 t725 t726 t727 _ A9.out).mono ?_); rintro e w11 ⟨rfl, hb⟩; refine ⟨_, rfl, ?_⟩; have n0_ := Aside0.mk (blk_below (g := gb715) (o := o5_ false false false false false 29) (bv BK715.out) hb); have n1_ := Aside0.mk (below_step (bl1 HB.out GE715.out) hb); clear BK715; clear HB; have BK715 := n0_; have HB := n1_; clear n0_ n1_; obtain ⟨hcz12_0, hcz12_1, hcz12_2, hcz12_3, hcz12_4⟩ := bc5 BK715.out; obtain ⟨hfz12_0, hfz12_1, hfz12_2, hfz12_3, hfz12_4⟩ := bf5 BK715.out))
  refine bodyPost_ret (results_tc rfl _ _ gb715 29 #[.bool t723, .bool t724, .bool t725, .bool t726, .bool t727] (0, 0) _ rfl (by (with_reducible repeat first | apply bd | apply be | apply ba); refine blk_put (cs := q5_ t723 t724 t725 t726 false) ?_ 4 _ rfl; (with_reducible repeat first | apply bd | apply be | apply ba); refine blk_put (cs := q5_ t723 t724 t725 false false) ?_ 3 _ rfl; (with_reducible repeat first | apply bd | apply be | apply ba); refine blk_put (cs := q5_ t723 t724 false false false) ?_ 2 _ rfl; (with_reducible repeat first | apply bd | apply be | apply ba); refine blk_put (cs := q5_ t723 false false false false) ?_ 1 _ rfl; (with_reducible repeat first | apply bd | apply be | apply ba); refine blk_put (cs := F5) ?_ 0 _ rfl; (with_reducible repeat first | apply bd | apply be | apply ba); exact BK715.out) Try.underlying29 rfl (by kernel_rfl)) rfl ?_
  exact ⟨by first | rfl | (simp [errW_none, errW_some] <;> rfl) | (simp [*, errW_none, errW_some] <;> rfl), bl1 HB.out GE715.out⟩

end Go.Proofs.Ytejkemahdincjaa.P

/- Entries of functions. -/
namespace Go.Proofs.Ytejkemahdincjaa.L
open Go.RowKit Go.Proofs.Ytejkemahdincjaa.P Go.Proofs.Ytejkemahdincjaa.Ek Go.Proofs.YtejkemahdincjaaW.PrintWords Go.Proofs.YtejkemahdincjaaW.PrintLast Go.Proofs.YtejkemahdincjaaW.PrintMore
noncomputable def format_Turn.c : Fc := mkFc [hI .i64, hI .u32] [hI .u32] (T := Int) (fun y => ((y, ()), ())) fun n x => format_Turn.f x.1.1 x.2.1.1
theorem format_Turn.ok : FcOk Try.prog 41 format_Turn.c := old_ok Try.func41 (by kernel_rfl) (by kernel_rfl) (by decide) (fun _ => giveR_ok (by decide) _) fun n x y h m w => (format_Turn.calls x.1.1 x.2.1.1 y w h).mono fun e w' he => ⟨he.1, he.2.below⟩
noncomputable def sum_Sub.cls : Cls := [(25, sum_Nans.c), (41, format_Turn.c), (10, sum_Add.c)]
theorem sum_Sub.clsOk : ClsOk Try.prog sum_Sub.cls := ClsOk.cons sum_Nans.ok (ClsOk.cons format_Turn.ok (ClsOk.cons sum_Add.ok (ClsOk.nil)))
noncomputable def sum_Sub.K (v : SV) : Option (Int × Bool × Bool × Bool × Bool × Bool) := (takeR [hI .u32, .agg [.b, .b, .b, .b, .b]] v).map (fun z => (z.1.1, z.2.1.1, z.2.1.2.1, z.2.1.2.2.1, z.2.1.2.2.2.1, z.2.1.2.2.2.2.1))
noncomputable def sum_Sub.cuts : List Nat := []
noncomputable def sum_Sub.f (k : Nat) (a0 : Int) (a1 : Int) (a2 : Int) (a3 : Int) : Option (Int × Bool × Bool × Bool × Bool × Bool) := evF Try.prog sum_Sub.cls Try.f12 sum_Sub.cuts k [.one (.i .i64 (.x a0)), .one (.i .i64 (.x a1)), .one (.i .u32 (.x a2)), .one (.i .u32 (.x a3))] sum_Sub.K
noncomputable def sum_Sub.c : Fc := mkFc [hI .i64, hI .i64, hI .u32, hI .u32] [hI .u32, .agg [.b, .b, .b, .b, .b]] (T := Int × Bool × Bool × Bool × Bool × Bool) (fun y => ((y.1, ()), (y.2.1, y.2.2.1, y.2.2.2.1, y.2.2.2.2.1, y.2.2.2.2.2, ()), ())) fun n x => sum_Sub.f n x.1.1 x.2.1.1 x.2.2.1.1 x.2.2.2.1.1
theorem sum_Sub.ok : FcOk Try.prog 12 sum_Sub.c := mkOk sum_Sub.clsOk Try.func12 (by kernel_rfl) (by kernel_rfl) (by decide) (fun _ => rfl) (fun _ _ => rfl)
noncomputable def anneallaw5_known.c : Fc := mkFc [] [hB] (T := Bool) (fun y => ((y, ()), ())) fun n x => anneallaw5_known.f n 
theorem anneallaw5_known.ok : FcOk Try.prog 14 anneallaw5_known.c := old_ok Try.func14 (by kernel_rfl) (by kernel_rfl) (by decide) (fun _ => giveR_ok (by decide) _) fun n x y h m w => (anneallaw5_known.calls n  y w h).mono fun e w' he => ⟨he.1, he.2⟩
noncomputable def anneallaw5_form.c : Fc := mkFc [hI .u8] [hI .i64] (T := Int) (fun y => ((y, ()), ())) fun n x => anneallaw5_form.f x.1.1
theorem anneallaw5_form.ok : FcOk Try.prog 15 anneallaw5_form.c := old_ok Try.func15 (by kernel_rfl) (by kernel_rfl) (by decide) (fun _ => giveR_ok (by decide) _) fun n x y h m w => (anneallaw5_form.calls x.1.1 y w h).mono fun e w' he => ⟨he.1, he.2⟩
noncomputable def annealref1_FromInt.c : Fc := mkFc [hI .i64, hI .i64, hI .i64] [hI .u32, .agg [.b, .b, .b, .b, .b]] (T := Int × Bool × Bool × Bool × Bool × Bool) (fun y => ((y.1, ()), (y.2.1, y.2.2.1, y.2.2.2.1, y.2.2.2.2.1, y.2.2.2.2.2, ()), ())) fun n x => annealref1_FromInt.f n x.1.1 x.2.1.1 x.2.2.1.1
theorem annealref1_FromInt.ok : FcOk Try.prog 20 annealref1_FromInt.c := old_ok Try.func20 (by kernel_rfl) (by kernel_rfl) (by decide) (fun _ => giveR_ok (by decide) _) fun n x y h m w => (annealref1_FromInt.calls n x.1.1 x.2.1.1 x.2.2.1.1 y.1 y.2.1 y.2.2.1 y.2.2.2.1 y.2.2.2.2.1 y.2.2.2.2.2 w h).mono fun e w' he => ⟨he.1, he.2⟩
noncomputable def annealref1_Add.c : Fc := mkFc [hI .i64, hI .i64, hI .u32, hI .u32] [hI .u32, .agg [.b, .b, .b, .b, .b]] (T := Int × Bool × Bool × Bool × Bool × Bool) (fun y => ((y.1, ()), (y.2.1, y.2.2.1, y.2.2.2.1, y.2.2.2.2.1, y.2.2.2.2.2, ()), ())) fun n x => annealref1_Add.f n x.1.1 x.2.1.1 x.2.2.1.1 x.2.2.2.1.1
theorem annealref1_Add.ok : FcOk Try.prog 11 annealref1_Add.c := old_ok Try.func11 (by kernel_rfl) (by kernel_rfl) (by decide) (fun _ => giveR_ok (by decide) _) fun n x y h m w => (annealref1_Add.calls n x.1.1 x.2.1.1 x.2.2.1.1 x.2.2.2.1.1 y.1 y.2.1 y.2.2.1 y.2.2.2.1 y.2.2.2.2.1 y.2.2.2.2.2 w h).mono fun e w' he => ⟨he.1, he.2⟩
noncomputable def anneallaw5_FmaParts.cls : Cls := [(14, anneallaw5_known.c), (15, anneallaw5_form.c), (8, annealseat_Num.c), (20, annealref1_FromInt.c), (21, prod_Mul.c), (22, annealref1_Zero.c), (18, prod_Fma.c), (11, annealref1_Add.c)]
theorem anneallaw5_FmaParts.clsOk : ClsOk Try.prog anneallaw5_FmaParts.cls := ClsOk.cons anneallaw5_known.ok (ClsOk.cons anneallaw5_form.ok (ClsOk.cons annealseat_Num.ok (ClsOk.cons annealref1_FromInt.ok (ClsOk.cons prod_Mul.ok (ClsOk.cons annealref1_Zero.ok (ClsOk.cons prod_Fma.ok (ClsOk.cons annealref1_Add.ok (ClsOk.nil))))))))
noncomputable def anneallaw5_FmaParts.K (v : SV) : Option (Bool) := (takeR [hB] v).map (fun z => (z.1.1))
noncomputable def anneallaw5_FmaParts.cuts : List Nat := []
noncomputable def anneallaw5_FmaParts.f (k : Nat) (a0 : Int) (a1 : Int) (a2 : Int) (a3 : Int) : Option (Bool) := evF Try.prog anneallaw5_FmaParts.cls Try.f5 anneallaw5_FmaParts.cuts k [.one (.i .u8 (.x a0)), .one (.i .u8 (.x a1)), .one (.i .u32 (.x a2)), .one (.i .u32 (.x a3))] anneallaw5_FmaParts.K
noncomputable def anneallaw5_FmaParts.c : Fc := mkFc [hI .u8, hI .u8, hI .u32, hI .u32] [hB] (T := Bool) (fun y => ((y, ()), ())) fun n x => anneallaw5_FmaParts.f n x.1.1 x.2.1.1 x.2.2.1.1 x.2.2.2.1.1
theorem anneallaw5_FmaParts.ok : FcOk Try.prog 5 anneallaw5_FmaParts.c := mkOk anneallaw5_FmaParts.clsOk Try.func5 (by kernel_rfl) (by kernel_rfl) (by decide) (fun _ => rfl) (fun _ _ => rfl)
/- Functions' trees, printed by a tool of mine out of the reckoner; Lean's kernel checks each. -/
set_option maxRecDepth 100000
theorem sum_Sub.eq (n0 : Nat) (a0 : Int) (a1 : Int) (a2 : Int) (a3 : Int) : sum_Sub.f n0 a0 a1 a2 a3 = ((sum_Nans.f n0 a0 [a2, a3]).bind fun t0 => (if Prod.snd (Prod.snd (Prod.snd (Prod.snd (Prod.snd (Prod.snd t0))))) = true then (some ((Prod.fst t0, Prod.fst (Prod.snd t0), Prod.fst (Prod.snd (Prod.snd t0)), Prod.fst (Prod.snd (Prod.snd (Prod.snd t0))), Prod.fst (Prod.snd (Prod.snd (Prod.snd (Prod.snd t0)))), Prod.fst (Prod.snd (Prod.snd (Prod.snd (Prod.snd (Prod.snd t0)))))))) else ((format_Turn.f a0 a3).bind fun t1 => ((Ytejkemahdincjaa.L.sum_Add.f n0 a0 a1 a2 t1).bind fun t2 => (some ((Prod.fst t2, Prod.fst (Prod.snd t2), Prod.fst (Prod.snd (Prod.snd t2)), Prod.fst (Prod.snd (Prod.snd (Prod.snd t2))), Prod.fst (Prod.snd (Prod.snd (Prod.snd (Prod.snd t2)))), Prod.snd (Prod.snd (Prod.snd (Prod.snd (Prod.snd t2))))))))))) := by kernel_rfl
theorem anneallaw5_FmaParts.eq (n0 : Nat) (a0 : Int) (a1 : Int) (a2 : Int) (a3 : Int) : anneallaw5_FmaParts.f n0 a0 a1 a2 a3 = ((anneallaw5_known.f n0).bind fun t0 => (if t0 = true then ((anneallaw5_form.f a0).bind fun t1 => ((Ytejkemahdincjaa.L.annealseat_Num.f n0 t1 a2).bind fun t2 => ((Ytejkemahdincjaa.L.annealseat_Num.f n0 t1 a3).bind fun t3 => ((annealref1_FromInt.f n0 t1 (wrap64 (Int.tmod a1 5)) 1).bind fun t4 => ((Ytejkemahdincjaa.L.prod_Mul.f n0 t1 (wrap64 (Int.tmod a1 5)) t2 t3).bind fun t5 => ((annealref1_Zero.f t1 true).bind fun t6 => ((annealref1_Zero.f t1 !bits BinOp.and IntKind.u32 (bits BinOp.xor IntKind.u32 t2 t3) t6 == 0).bind fun t7 => ((Ytejkemahdincjaa.L.prod_Fma.f n0 t1 (wrap64 (Int.tmod a1 5)) t2 t3 t7).bind fun t8 => ((annealref1_Add.f n0 t1 (wrap64 (Int.tmod a1 5)) t2 t3).bind fun t9 => ((Ytejkemahdincjaa.L.prod_Fma.f n0 t1 (wrap64 (Int.tmod a1 5)) (Prod.fst t4) t2 t3).bind fun t10 => (if Prod.fst t5 = Prod.fst t8 then (if (Prod.fst (Prod.snd t5) == Prod.fst (Prod.snd t8) && (Prod.fst (Prod.snd (Prod.snd t5)) == Prod.fst (Prod.snd (Prod.snd t8)) && (Prod.fst (Prod.snd (Prod.snd (Prod.snd t5))) == Prod.fst (Prod.snd (Prod.snd (Prod.snd t8))) && (Prod.fst (Prod.snd (Prod.snd (Prod.snd (Prod.snd t5)))) == Prod.fst (Prod.snd (Prod.snd (Prod.snd (Prod.snd t8)))) && (Prod.snd (Prod.snd (Prod.snd (Prod.snd (Prod.snd t5)))) == Prod.snd (Prod.snd (Prod.snd (Prod.snd (Prod.snd t8)))) && true))))) = true then (if Prod.fst t9 = Prod.fst t10 then (some (Prod.fst (Prod.snd t9) == Prod.fst (Prod.snd t10) && (Prod.fst (Prod.snd (Prod.snd t9)) == Prod.fst (Prod.snd (Prod.snd t10)) && (Prod.fst (Prod.snd (Prod.snd (Prod.snd t9))) == Prod.fst (Prod.snd (Prod.snd (Prod.snd t10))) && (Prod.fst (Prod.snd (Prod.snd (Prod.snd (Prod.snd t9)))) == Prod.fst (Prod.snd (Prod.snd (Prod.snd (Prod.snd t10)))) && (Prod.snd (Prod.snd (Prod.snd (Prod.snd (Prod.snd t9)))) == Prod.snd (Prod.snd (Prod.snd (Prod.snd (Prod.snd t10)))) && true)))))) else (some (false))) else (some (false))) else (some (false))))))))))))) else (some (false)))) := by kernel_rfl
end Go.Proofs.Ytejkemahdincjaa.L

-- Printed by a program of this session's out of Lean's print of the translation; Lean checks it.
namespace Go.Proofs.Ytejkemahdincjaa.P
open Go.RowKit Go.Proofs.YtejkemahdincjaaW.PrintWords Go.Proofs.YtejkemahdincjaaW.PrintLast Go.Proofs.YtejkemahdincjaaW.PrintMore
attribute [local go_sem] max2_int min2_int max_two min_two max_three min_three max_four min_four

attribute [local go_sem high] eqA29
-- NEED 3
/-! ### anneallaw5_FmaParts: function 5 -/
noncomputable def anneallaw5_FmaParts.f (k : Nat) (a0 : Int) (a1 : Int) (a2 : Int) (a3 : Int) : Option (Bool) := (anneallaw5_known.f k).bind fun t728 => (if t728 = true then ((anneallaw5_form.f a0).bind fun t729 => ((annealseat_Num.f t729 a2).bind fun t730 => ((annealseat_Num.f t729 a3).bind fun t731 => ((annealref1_FromInt.f k t729 (wrap64 (Int.tmod a1 5)) 1).bind fun bt732 => ((prod_Mul.f k t729 (wrap64 (Int.tmod a1 5)) t730 t731).bind fun bt739 => ((annealref1_Zero.f t729 true).bind fun t746 => ((annealref1_Zero.f t729 ((Go.bits .and .u32 (Go.bits .xor .u32 t730 t731) t746) != 0)).bind fun t747 => ((prod_Fma.f k t729 (wrap64 (Int.tmod a1 5)) t730 t731 t747).bind fun bt748 => ((annealref1_Add.f k t729 (wrap64 (Int.tmod a1 5)) t730 t731).bind fun bt755 => ((prod_Fma.f k t729 (wrap64 (Int.tmod a1 5)) bt732.1 t730 t731).bind fun bt762 => (if bt739.1 = bt748.1 then (if (bt739.2.1 == bt748.2.1 && (bt739.2.2.1 == bt748.2.2.1 && (bt739.2.2.2.1 == bt748.2.2.2.1 && (bt739.2.2.2.2.1 == bt748.2.2.2.2.1 && (bt739.2.2.2.2.2 == bt748.2.2.2.2.2))))) = true then (if bt755.1 = bt762.1 then (some (bt755.2.1 == bt762.2.1 && (bt755.2.2.1 == bt762.2.2.1 && (bt755.2.2.2.1 == bt762.2.2.2.1 && (bt755.2.2.2.2.1 == bt762.2.2.2.2.1 && (bt755.2.2.2.2.2 == bt762.2.2.2.2.2)))))) else (some false)) else (some false)) else (some false)))))))))))) else (some false))
def anneallaw5_FmaParts.Pure : Prop := ∀ (a0 : Int) (a1 : Int) (a2 : Int) (a3 : Int), (Lit.int .u8 a0).wf = true → (Lit.int .u8 a1).wf = true → (Lit.int .u32 a2).wf = true → (Lit.int .u32 a3).wf = true → ∃ k, anneallaw5_FmaParts.f k a0 a1 a2 a3 = some true

/- What the reckoner tells of printed functions. -/
set_option maxRecDepth 100000
set_option maxHeartbeats 4000000 in
theorem sum_Sub.le {k n : Nat} (hk : k ≤ n) {a0 : Int} {a1 : Int} {a2 : Int} {a3 : Int} : LeO (sum_Sub.f k a0 a1 a2 a3) (L.sum_Sub.f n a0 a1 a2 a3) := by
 unfold sum_Sub.f
 rw [L.sum_Sub.eq]
 try simp only [Bool.and_true]
 repeat' first
  |(with_reducible exact LeO.refl _)
  |exact LeO.none _
  |(with_reducible exact fun r h => at_rounds (sum_Nans.mono _ _) hk h)
  |(with_reducible exact sum_Add.le hk)
  |(with_reducible refine LeO.bind ?_ (fun _ => ?_))
  |(with_reducible refine LeO.ite3 Iff.rfl (fun _ => ?_) (fun _ => ?_))
  |exact fun r h => at_rounds (sum_Nans.mono _ _) hk h
  |exact sum_Add.le hk
  |exact LeO.refl _
  |(with_reducible refine LeO.pos (by assumption) ?_)
  |(with_reducible refine LeO.neg (by assumption) ?_)
  |(with_reducible refine LeO.posl (by assumption) ?_)
  |(with_reducible refine LeO.negl (by assumption) ?_)
  |(with_reducible refine LeO.ite3 (by omega) (fun _ => ?_) (fun _ => ?_))
theorem sum_Sub.calls (k : Nat) (a0 : Int) (a1 : Int) (a2 : Int) (a3 : Int) (r1 : Int) (r2 : Bool) (r3 : Bool) (r4 : Bool) (r5 : Bool) (r6 : Bool) (w : World) (h : sum_Sub.f k a0 a1 a2 a3 = some (r1, r2, r3, r4, r5, r6)) :
  Calls Try.prog 12 #[.int .i64 a0, .int .i64 a1, .int .u32 a2, .int .u32 a3] w fun e w' => e = .returned (.tuple #[.int .u32 r1, .agg #[.bool r2, .bool r3, .bool r4, .bool r5, .bool r6]]) ∧ Below w.heap.size w w' :=
 Go.Proofs.Ytejkemahdincjaa.Ek.calls_of L.sum_Sub.ok k ((a0, ()), (a1, ()), (a2, ()), (a3, ()), ()) (r1, r2, r3, r4, r5, r6) rfl (sum_Sub.le (Nat.le_refl _) _ h) w
set_option maxHeartbeats 4000000 in
theorem anneallaw5_FmaParts.le {k n : Nat} (hk : k = n) {a0 : Int} {a1 : Int} {a2 : Int} {a3 : Int} : LeO (anneallaw5_FmaParts.f k a0 a1 a2 a3) (L.anneallaw5_FmaParts.f n a0 a1 a2 a3) := by
 subst hk
 have hk := Nat.le_refl k
 unfold anneallaw5_FmaParts.f
 rw [L.anneallaw5_FmaParts.eq]
 try simp only [Bool.and_true]
 repeat' first
  |(with_reducible exact LeO.refl _)
  |exact LeO.none _
  |(with_reducible exact fun r h => at_rounds (anneallaw5_known.mono) hk h)
  |(with_reducible exact annealseat_Num.le hk)
  |(with_reducible exact fun r h => at_rounds (annealref1_FromInt.mono _ _ _) hk h)
  |(with_reducible exact prod_Mul.le hk)
  |(with_reducible exact prod_Fma.le hk)
  |(with_reducible refine LeO.bind ?_ (fun _ => ?_))
  |(with_reducible refine LeO.ite3 Iff.rfl (fun _ => ?_) (fun _ => ?_))
  |exact fun r h => at_rounds (anneallaw5_known.mono) hk h
  |exact annealseat_Num.le hk
  |exact fun r h => at_rounds (annealref1_FromInt.mono _ _ _) hk h
  |exact prod_Mul.le hk
  |exact prod_Fma.le hk
  |exact LeO.refl _
  |(with_reducible refine LeO.pos (by assumption) ?_)
  |(with_reducible refine LeO.neg (by assumption) ?_)
  |(with_reducible refine LeO.posl (by assumption) ?_)
  |(with_reducible refine LeO.negl (by assumption) ?_)
  |(with_reducible refine LeO.ite3 (by omega) (fun _ => ?_) (fun _ => ?_))
theorem anneallaw5_FmaParts.calls (k : Nat) (a0 : Int) (a1 : Int) (a2 : Int) (a3 : Int) (r : Bool) (w : World) (h : anneallaw5_FmaParts.f k a0 a1 a2 a3 = some r) :
  Calls Try.prog 5 #[.int .u8 a0, .int .u8 a1, .int .u32 a2, .int .u32 a3] w fun e w' => e = .returned (.bool r) ∧ Below w.heap.size w w' :=
 Go.Proofs.Ytejkemahdincjaa.Ek.calls_of L.anneallaw5_FmaParts.ok k ((a0, ()), (a1, ()), (a2, ()), (a3, ()), ()) r rfl (anneallaw5_FmaParts.le (rfl) _ h) w
theorem anneallaw5_FmaParts.walk (P : anneallaw5_FmaParts.Pure) (a0 : Int) (a1 : Int) (a2 : Int) (a3 : Int) (w : World) (w0 : (Lit.int .u8 a0).wf = true) (w1 : (Lit.int .u8 a1).wf = true) (w2 : (Lit.int .u32 a2).wf = true) (w3 : (Lit.int .u32 a3).wf = true) :
  Calls Try.prog 5 #[.int .u8 a0, .int .u8 a1, .int .u32 a2, .int .u32 a3] w fun e w' => e = .returned (.bool true) ∧ Below w.heap.size w w' := by
 obtain ⟨k, h⟩ := P a0 a1 a2 a3 w0 w1 w2 w3
 refine (anneallaw5_FmaParts.calls k a0 a1 a2 a3 true w h).mono ?_
 rintro e w' ⟨rfl, hd⟩
 exact ⟨rfl, hd⟩

attribute [local go_sem high] eqA29
-- NEED 4
/-! ### anneallaw4_known: function 6 -/
def anneallaw4_known.f (k : Nat)  : Option (Bool) := (sum_Add.f k 2 0 1065353216 1065353216).bind fun bt290 => ((sum_Sub.f k 0 0 31744 31744).bind fun bt297 => (if bt290.1 = 1073741824 then (if (!bt290.2.1 && (!bt290.2.2.1 && (!bt290.2.2.2.1 && (!bt290.2.2.2.2.1 && (!bt290.2.2.2.2.2))))) = true then (if bt297.1 = 32256 then (some (bt297.2.1 && (!bt297.2.2.1 && (!bt297.2.2.2.1 && (!bt297.2.2.2.2.1 && (!bt297.2.2.2.2.2)))))) else (some false)) else (some false)) else (some false)))
theorem anneallaw4_known.mono : ∀ k, LeO (anneallaw4_known.f k ) (anneallaw4_known.f (k + 1) ) := by
 intro  k
 unfold anneallaw4_known.f
 repeat' first
   |(with_reducible exact sum_Add.mono _ _ _ _ _)
   |(with_reducible exact sum_Sub.mono _ _ _ _ _)
   |(with_reducible exact LeO.refl _)
   |(with_reducible exact LeO.none _)
   |(with_reducible refine LeO.ite ?_ ?_)
   |(with_reducible refine LeO.bind ?_ (fun _ => ?_))
   |exact sum_Add.mono _ _ _ _ _
   |exact sum_Sub.mono _ _ _ _ _
   |exact LeO.none _
   |refine LeO.ite ?_ ?_
   |refine LeO.bind ?_ (fun _ => ?_)
set_option maxHeartbeats 8000000 in
set_option maxRecDepth 100000 in
theorem anneallaw4_known.calls (k : Nat)  (r : Bool) (w : World) (h : anneallaw4_known.f k  = some r) :
  Calls Try.prog 6 #[] w fun e w' => e = .returned (.bool r) ∧ Below w.heap.size w w' := by
 have hu29 := Try.underlying29
 have HB := Aside0.mk (Below.refl w.heap.size w)
 have H : ((sum_Add.f k 2 0 1065353216 1065353216).bind fun bt290 => ((sum_Sub.f k 0 0 31744 31744).bind fun bt297 => (if bt290.1 = 1073741824 then (if (!bt290.2.1 && (!bt290.2.2.1 && (!bt290.2.2.2.1 && (!bt290.2.2.2.2.1 && (!bt290.2.2.2.2.2))))) = true then (if bt297.1 = 32256 then (some (bt297.2.1 && (!bt297.2.2.1 && (!bt297.2.2.2.1 && (!bt297.2.2.2.2.1 && (!bt297.2.2.2.2.2)))))) else (some false)) else (some false)) else (some false)))) = some r := h
 clear h
 replace H := Option.bind_eq_some_iff.mp H
 obtain ⟨⟨t290, t291, t292, t293, t294, t295⟩, A10, H⟩ := H
 replace H : ((sum_Sub.f k 0 0 31744 31744).bind fun bt297 => (if t290 = 1073741824 then (if (!t291 && (!t292 && (!t293 && (!t294 && (!t295))))) = true then (if bt297.1 = 32256 then (some (bt297.2.1 && (!bt297.2.2.1 && (!bt297.2.2.2.1 && (!bt297.2.2.2.2.1 && (!bt297.2.2.2.2.2)))))) else (some false)) else (some false)) else (some false))) = some r := H
 have A1 := Aside0.mk A10
 clear A10
 replace H := Option.bind_eq_some_iff.mp H
 obtain ⟨⟨t297, t298, t299, t300, t301, t302⟩, A20, H⟩ := H
 replace H : (if t290 = 1073741824 then (if (!t291 && (!t292 && (!t293 && (!t294 && (!t295))))) = true then (if t297 = 32256 then (some (t298 && (!t299 && (!t300 && (!t301 && (!t302)))))) else (some false)) else (some false)) else (some false)) = some r := H
 have A2 := Aside0.mk A20
 clear A20
 by_cases c3 : t290 = 1073741824
 ·rw [if_pos c3] at H
  have c3b0 : (t290 == 1073741824) = true := beq_iff_eq.mpr c3
  have c3b1 : (t290 != 1073741824) = false := bne_eq_false_iff_eq.mpr c3
  clear c3
  by_cases c4 : (!t291 && (!t292 && (!t293 && (!t294 && (!t295))))) = true
  ·rw [if_pos c4] at H
   have c4b0 : (!t291 && (!t292 && (!t293 && (!t294 && (!t295))))) = true := c4
   clear c4
   by_cases c5 : t297 = 32256
   ·rw [if_pos c5] at H
    have c5b0 : (t297 == 32256) = true := beq_iff_eq.mpr c5
    have c5b1 : (t297 != 32256) = false := bne_eq_false_iff_eq.mpr c5
    clear c5
    obtain rfl := Option.some.inj H
    go_enter Try.func6, Try.ntmps6
    go_wp2_with (first | ((with_reducible refine gate_callee (f := 10) rfl ?_); refine goesL_ (some 6) rfl rfl Try.func10 (by kernel_rfl) rfl #[.int .i64 2, .int .i64 0, .int .u32 1065353216, .int .u32 1065353216] rfl gl ?_; (with_reducible refine (sum_Add.calls k 2 0 1065353216 1065353216 t290 t291 t292 t293 t294 t295 _ A1.out).mono ?_); rintro e w6 ⟨rfl, hb⟩; refine ⟨_, rfl, ?_⟩; have n0_ := Aside0.mk (below_step (bl0 HB.out) hb); clear HB; have HB := n0_; clear n0_) | ((with_reducible refine gate_dst (N := 2) rfl ?_); refine box_event ?hg (N := 2) ?hd (cs := F5) (t := 29) ?hr ?_; (case hd => rfl); (case hg => rfl); (case hr => first | (go_simp; done) | (go_simp; rfl)); intro gb296 hg w7 hbox hb; have n0_ := Aside0.mk (below_step (bl0 HB.out) hb); have n1_ := Aside0.mk (hbox); have n2_ := Aside0.mk ((by rw [hg]; exact (below_size (bl0 HB.out)) : w.heap.size ≤ gb296)); have n3_ := n2_; clear HB; have HB := n0_; have BK296 := n1_; have GW296 := n2_; have GE296 := n3_; clear n0_ n1_ n2_ n3_; clear hb hbox hg; obtain ⟨hcz8_0, hcz8_1, hcz8_2, hcz8_3, hcz8_4⟩ := bc5 BK296.out; obtain ⟨hfz8_0, hfz8_1, hfz8_2, hfz8_3, hfz8_4⟩ := bf5 BK296.out) | ((with_reducible refine gate_callee (f := 12) rfl ?_); refine goesL_ (some 10) rfl rfl Try.func12 (by kernel_rfl) rfl #[.int .i64 0, .int .i64 0, .int .u32 31744, .int .u32 31744] rfl gl ?_; (with_reducible refine (sum_Sub.calls k 0 0 31744 31744 t297 t298 t299 t300 t301 t302 _ A2.out).mono ?_); rintro e w9 ⟨rfl, hb⟩; refine ⟨_, rfl, ?_⟩; have n0_ := Aside0.mk (blk_below (g := gb296) (o := o5_ t291 t292 t293 t294 t295 29) (by (with_reducible repeat first | apply bd | apply be | apply ba); refine blk_put (cs := q5_ t291 t292 t293 t294 false) ?_ 4 _ rfl; (with_reducible repeat first | apply bd | apply be | apply ba); refine blk_put (cs := q5_ t291 t292 t293 false false) ?_ 3 _ rfl; (with_reducible repeat first | apply bd | apply be | apply ba); refine blk_put (cs := q5_ t291 t292 false false false) ?_ 2 _ rfl; (with_reducible repeat first | apply bd | apply be | apply ba); refine blk_put (cs := q5_ t291 false false false false) ?_ 1 _ rfl; (with_reducible repeat first | apply bd | apply be | apply ba); refine blk_put (cs := F5) ?_ 0 _ rfl; (with_reducible repeat first | apply bd | apply be | apply ba); exact BK296.out) hb); have n1_ := Aside0.mk (below_step (bl1 HB.out GE296.out) hb); clear BK296; clear HB; have BK296 := n0_; have HB := n1_; clear n0_ n1_) | ((with_reducible refine gate_dst (N := 4) rfl ?_); refine box_event ?hg (N := 4) ?hd (cs := F5) (t := 29) ?hr ?_; (case hd => rfl); (case hg => rfl); (case hr => first | (go_simp; done) | (go_simp; rfl)); intro gb303 hg w10 hbox hb; have n0_ := Aside0.mk (blk_below (g := gb296) (o := o5_ t291 t292 t293 t294 t295 29) (bv BK296.out) hb); have n1_ := Aside0.mk (below_step (bl1 HB.out GE296.out) hb); have n2_ := Aside0.mk (hbox); have n3_ := Aside0.mk ((by rw [hg]; exact (below_size (bl1 HB.out GE296.out)) : w.heap.size ≤ gb303)); have n4_ := n3_; have n5_ := Aside0.mk ((by rw [hg]; exact Nat.ne_of_lt (blk_lt (g := gb296) (o := o5_ t291 t292 t293 t294 t295 29) (bv BK296.out)) : gb296 ≠ gb303)); have n6_ := Aside0.mk (Ne.symm n5_.out); clear BK296; clear HB; have BK296 := n0_; have HB := n1_; have BK303 := n2_; have GW303 := n3_; have GE303 := n4_; have NB296_303 := n5_; have NB303_296 := n6_; clear n0_ n1_ n2_ n3_ n4_ n5_ n6_; clear hb hbox hg; have hnb11 := NB303_296.out; have hnc11 := NB296_303.out; obtain ⟨hcz12_0, hcz12_1, hcz12_2, hcz12_3, hcz12_4⟩ := bc5 BK303.out; obtain ⟨hfz12_0, hfz12_1, hfz12_2, hfz12_3, hfz12_4⟩ := bf5 BK303.out; obtain ⟨hcz13_0, hcz13_1, hcz13_2, hcz13_3, hcz13_4⟩ := bc5 BK296.out; obtain ⟨hfz13_0, hfz13_1, hfz13_2, hfz13_3, hfz13_4⟩ := bf5 BK296.out))
    go_ret
    exact ⟨by first | rfl | (simp [errW_none, errW_some] <;> rfl) | (simp [*, errW_none, errW_some] <;> rfl), bl2 HB.out GE296.out GE303.out⟩
   ·rw [if_neg c5] at H
    have c5b0 : (t297 == 32256) = false := beq_eq_false_iff_ne.mpr c5
    have c5b1 : (t297 != 32256) = true := bne_iff_ne.mpr c5
    obtain rfl := Option.some.inj H
    go_enter Try.func6, Try.ntmps6
    go_wp2_with (first | ((with_reducible refine gate_callee (f := 10) rfl ?_); refine goesL_ (some 6) rfl rfl Try.func10 (by kernel_rfl) rfl #[.int .i64 2, .int .i64 0, .int .u32 1065353216, .int .u32 1065353216] rfl gl ?_; (with_reducible refine (sum_Add.calls k 2 0 1065353216 1065353216 t290 t291 t292 t293 t294 t295 _ A1.out).mono ?_); rintro e w14 ⟨rfl, hb⟩; refine ⟨_, rfl, ?_⟩; have n0_ := Aside0.mk (below_step (bl0 HB.out) hb); clear HB; have HB := n0_; clear n0_) | ((with_reducible refine gate_dst (N := 2) rfl ?_); refine box_event ?hg (N := 2) ?hd (cs := F5) (t := 29) ?hr ?_; (case hd => rfl); (case hg => rfl); (case hr => first | (go_simp; done) | (go_simp; rfl)); intro gb296 hg w15 hbox hb; have n0_ := Aside0.mk (below_step (bl0 HB.out) hb); have n1_ := Aside0.mk (hbox); have n2_ := Aside0.mk ((by rw [hg]; exact (below_size (bl0 HB.out)) : w.heap.size ≤ gb296)); have n3_ := n2_; clear HB; have HB := n0_; have BK296 := n1_; have GW296 := n2_; have GE296 := n3_; clear n0_ n1_ n2_ n3_; clear hb hbox hg; obtain ⟨hcz16_0, hcz16_1, hcz16_2, hcz16_3, hcz16_4⟩ := bc5 BK296.out; obtain ⟨hfz16_0, hfz16_1, hfz16_2, hfz16_3, hfz16_4⟩ := bf5 BK296.out) | ((with_reducible refine gate_callee (f := 12) rfl ?_); refine goesL_ (some 10) rfl rfl Try.func12 (by kernel_rfl) rfl #[.int .i64 0, .int .i64 0, .int .u32 31744, .int .u32 31744] rfl gl ?_; (with_reducible refine (sum_Sub.calls k 0 0 31744 31744 t297 t298 t299 t300 t301 t302 _ A2.out).mono ?_); rintro e w17 ⟨rfl, hb⟩; refine ⟨_, rfl, ?_⟩; have n0_ := Aside0.mk (blk_below (g := gb296) (o := o5_ t291 t292 t293 t294 t295 29) (by (with_reducible repeat first | apply bd | apply be | apply ba); refine blk_put (cs := q5_ t291 t292 t293 t294 false) ?_ 4 _ rfl; (with_reducible repeat first | apply bd | apply be | apply ba); refine blk_put (cs := q5_ t291 t292 t293 false false) ?_ 3 _ rfl; (with_reducible repeat first | apply bd | apply be | apply ba); refine blk_put (cs := q5_ t291 t292 false false false) ?_ 2 _ rfl; (with_reducible repeat first | apply bd | apply be | apply ba); refine blk_put (cs := q5_ t291 false false false false) ?_ 1 _ rfl; (with_reducible repeat first | apply bd | apply be | apply ba); refine blk_put (cs := F5) ?_ 0 _ rfl; (with_reducible repeat first | apply bd | apply be | apply ba); exact BK296.out) hb); have n1_ := Aside0.mk (below_step (bl1 HB.out GE296.out) hb); clear BK296; clear HB; have BK296 := n0_; have HB := n1_; clear n0_ n1_) | ((with_reducible refine gate_dst (N := 4) rfl ?_); refine box_event ?hg (N := 4) ?hd (cs := F5) (t := 29) ?hr ?_; (case hd => rfl); (case hg => rfl); (case hr => first | (go_simp; done) | (go_simp; rfl)); intro gb303 hg w18 hbox hb; have n0_ := Aside0.mk (blk_below (g := gb296) (o := o5_ t291 t292 t293 t294 t295 29) (bv BK296.out) hb); have n1_ := Aside0.mk (below_step (bl1 HB.out GE296.out) hb); have n2_ := Aside0.mk (hbox); have n3_ := Aside0.mk ((by rw [hg]; exact (below_size (bl1 HB.out GE296.out)) : w.heap.size ≤ gb303)); have n4_ := n3_; have n5_ := Aside0.mk ((by rw [hg]; exact Nat.ne_of_lt (blk_lt (g := gb296) (o := o5_ t291 t292 t293 t294 t295 29) (bv BK296.out)) : gb296 ≠ gb303)); have n6_ := Aside0.mk (Ne.symm n5_.out); clear BK296; clear HB; have BK296 := n0_; have HB := n1_; have BK303 := n2_; have GW303 := n3_; have GE303 := n4_; have NB296_303 := n5_; have NB303_296 := n6_; clear n0_ n1_ n2_ n3_ n4_ n5_ n6_; clear hb hbox hg; have hnb19 := NB303_296.out; have hnc19 := NB296_303.out; obtain ⟨hcz20_0, hcz20_1, hcz20_2, hcz20_3, hcz20_4⟩ := bc5 BK303.out; obtain ⟨hfz20_0, hfz20_1, hfz20_2, hfz20_3, hfz20_4⟩ := bf5 BK303.out; obtain ⟨hcz21_0, hcz21_1, hcz21_2, hcz21_3, hcz21_4⟩ := bc5 BK296.out; obtain ⟨hfz21_0, hfz21_1, hfz21_2, hfz21_3, hfz21_4⟩ := bf5 BK296.out))
    go_ret
    exact ⟨by first | rfl | (simp [errW_none, errW_some] <;> rfl) | (simp [*, errW_none, errW_some] <;> rfl), bl2 HB.out GE296.out GE303.out⟩
  ·rw [if_neg c4] at H
   have c4b0 : (!t291 && (!t292 && (!t293 && (!t294 && (!t295))))) = false := by simpa using c4
   clear c4
   obtain rfl := Option.some.inj H
   go_enter Try.func6, Try.ntmps6
   go_wp2_with (first | ((with_reducible refine gate_callee (f := 10) rfl ?_); refine goesL_ (some 6) rfl rfl Try.func10 (by kernel_rfl) rfl #[.int .i64 2, .int .i64 0, .int .u32 1065353216, .int .u32 1065353216] rfl gl ?_; (with_reducible refine (sum_Add.calls k 2 0 1065353216 1065353216 t290 t291 t292 t293 t294 t295 _ A1.out).mono ?_); rintro e w22 ⟨rfl, hb⟩; refine ⟨_, rfl, ?_⟩; have n0_ := Aside0.mk (below_step (bl0 HB.out) hb); clear HB; have HB := n0_; clear n0_) | ((with_reducible refine gate_dst (N := 2) rfl ?_); refine box_event ?hg (N := 2) ?hd (cs := F5) (t := 29) ?hr ?_; (case hd => rfl); (case hg => rfl); (case hr => first | (go_simp; done) | (go_simp; rfl)); intro gb296 hg w23 hbox hb; have n0_ := Aside0.mk (below_step (bl0 HB.out) hb); have n1_ := Aside0.mk (hbox); have n2_ := Aside0.mk ((by rw [hg]; exact (below_size (bl0 HB.out)) : w.heap.size ≤ gb296)); have n3_ := n2_; clear HB; have HB := n0_; have BK296 := n1_; have GW296 := n2_; have GE296 := n3_; clear n0_ n1_ n2_ n3_; clear hb hbox hg; obtain ⟨hcz24_0, hcz24_1, hcz24_2, hcz24_3, hcz24_4⟩ := bc5 BK296.out; obtain ⟨hfz24_0, hfz24_1, hfz24_2, hfz24_3, hfz24_4⟩ := bf5 BK296.out) | ((with_reducible refine gate_callee (f := 12) rfl ?_); refine goesL_ (some 10) rfl rfl Try.func12 (by kernel_rfl) rfl #[.int .i64 0, .int .i64 0, .int .u32 31744, .int .u32 31744] rfl gl ?_; (with_reducible refine (sum_Sub.calls k 0 0 31744 31744 t297 t298 t299 t300 t301 t302 _ A2.out).mono ?_); rintro e w25 ⟨rfl, hb⟩; refine ⟨_, rfl, ?_⟩; have n0_ := Aside0.mk (blk_below (g := gb296) (o := o5_ t291 t292 t293 t294 t295 29) (by (with_reducible repeat first | apply bd | apply be | apply ba); refine blk_put (cs := q5_ t291 t292 t293 t294 false) ?_ 4 _ rfl; (with_reducible repeat first | apply bd | apply be | apply ba); refine blk_put (cs := q5_ t291 t292 t293 false false) ?_ 3 _ rfl; (with_reducible repeat first | apply bd | apply be | apply ba); refine blk_put (cs := q5_ t291 t292 false false false) ?_ 2 _ rfl; (with_reducible repeat first | apply bd | apply be | apply ba); refine blk_put (cs := q5_ t291 false false false false) ?_ 1 _ rfl; (with_reducible repeat first | apply bd | apply be | apply ba); refine blk_put (cs := F5) ?_ 0 _ rfl; (with_reducible repeat first | apply bd | apply be | apply ba); exact BK296.out) hb); have n1_ := Aside0.mk (below_step (bl1 HB.out GE296.out) hb); clear BK296; clear HB; have BK296 := n0_; have HB := n1_; clear n0_ n1_) | ((with_reducible refine gate_dst (N := 4) rfl ?_); refine box_event ?hg (N := 4) ?hd (cs := F5) (t := 29) ?hr ?_; (case hd => rfl); (case hg => rfl); (case hr => first | (go_simp; done) | (go_simp; rfl)); intro gb303 hg w26 hbox hb; have n0_ := Aside0.mk (blk_below (g := gb296) (o := o5_ t291 t292 t293 t294 t295 29) (bv BK296.out) hb); have n1_ := Aside0.mk (below_step (bl1 HB.out GE296.out) hb); have n2_ := Aside0.mk (hbox); have n3_ := Aside0.mk ((by rw [hg]; exact (below_size (bl1 HB.out GE296.out)) : w.heap.size ≤ gb303)); have n4_ := n3_; have n5_ := Aside0.mk ((by rw [hg]; exact Nat.ne_of_lt (blk_lt (g := gb296) (o := o5_ t291 t292 t293 t294 t295 29) (bv BK296.out)) : gb296 ≠ gb303)); have n6_ := Aside0.mk (Ne.symm n5_.out); clear BK296; clear HB; have BK296 := n0_; have HB := n1_; have BK303 := n2_; have GW303 := n3_; have GE303 := n4_; have NB296_303 := n5_; have NB303_296 := n6_; clear n0_ n1_ n2_ n3_ n4_ n5_ n6_; clear hb hbox hg; have hnb27 := NB303_296.out; have hnc27 := NB296_303.out; obtain ⟨hcz28_0, hcz28_1, hcz28_2, hcz28_3, hcz28_4⟩ := bc5 BK303.out; obtain ⟨hfz28_0, hfz28_1, hfz28_2, hfz28_3, hfz28_4⟩ := bf5 BK303.out; obtain ⟨hcz29_0, hcz29_1, hcz29_2, hcz29_3, hcz29_4⟩ := bc5 BK296.out; obtain ⟨hfz29_0, hfz29_1, hfz29_2, hfz29_3, hfz29_4⟩ := bf5 BK296.out))
   go_ret
   exact ⟨by first | rfl | (simp [errW_none, errW_some] <;> rfl) | (simp [*, errW_none, errW_some] <;> rfl), bl2 HB.out GE296.out GE303.out⟩
 ·rw [if_neg c3] at H
  have c3b0 : (t290 == 1073741824) = false := beq_eq_false_iff_ne.mpr c3
  have c3b1 : (t290 != 1073741824) = true := bne_iff_ne.mpr c3
  obtain rfl := Option.some.inj H
  go_enter Try.func6, Try.ntmps6
  go_wp2_with (first | ((with_reducible refine gate_callee (f := 10) rfl ?_); refine goesL_ (some 6) rfl rfl Try.func10 (by kernel_rfl) rfl #[.int .i64 2, .int .i64 0, .int .u32 1065353216, .int .u32 1065353216] rfl gl ?_; (with_reducible refine (sum_Add.calls k 2 0 1065353216 1065353216 t290 t291 t292 t293 t294 t295 _ A1.out).mono ?_); rintro e w30 ⟨rfl, hb⟩; refine ⟨_, rfl, ?_⟩; have n0_ := Aside0.mk (below_step (bl0 HB.out) hb); clear HB; have HB := n0_; clear n0_) | ((with_reducible refine gate_dst (N := 2) rfl ?_); refine box_event ?hg (N := 2) ?hd (cs := F5) (t := 29) ?hr ?_; (case hd => rfl); (case hg => rfl); (case hr => first | (go_simp; done) | (go_simp; rfl)); intro gb296 hg w31 hbox hb; have n0_ := Aside0.mk (below_step (bl0 HB.out) hb); have n1_ := Aside0.mk (hbox); have n2_ := Aside0.mk ((by rw [hg]; exact (below_size (bl0 HB.out)) : w.heap.size ≤ gb296)); have n3_ := n2_; clear HB; have HB := n0_; have BK296 := n1_; have GW296 := n2_; have GE296 := n3_; clear n0_ n1_ n2_ n3_; clear hb hbox hg; obtain ⟨hcz32_0, hcz32_1, hcz32_2, hcz32_3, hcz32_4⟩ := bc5 BK296.out; obtain ⟨hfz32_0, hfz32_1, hfz32_2, hfz32_3, hfz32_4⟩ := bf5 BK296.out) | ((with_reducible refine gate_callee (f := 12) rfl ?_); refine goesL_ (some 10) rfl rfl Try.func12 (by kernel_rfl) rfl #[.int .i64 0, .int .i64 0, .int .u32 31744, .int .u32 31744] rfl gl ?_; (with_reducible refine (sum_Sub.calls k 0 0 31744 31744 t297 t298 t299 t300 t301 t302 _ A2.out).mono ?_); rintro e w33 ⟨rfl, hb⟩; refine ⟨_, rfl, ?_⟩; have n0_ := Aside0.mk (blk_below (g := gb296) (o := o5_ t291 t292 t293 t294 t295 29) (by (with_reducible repeat first | apply bd | apply be | apply ba); refine blk_put (cs := q5_ t291 t292 t293 t294 false) ?_ 4 _ rfl; (with_reducible repeat first | apply bd | apply be | apply ba); refine blk_put (cs := q5_ t291 t292 t293 false false) ?_ 3 _ rfl; (with_reducible repeat first | apply bd | apply be | apply ba); refine blk_put (cs := q5_ t291 t292 false false false) ?_ 2 _ rfl; (with_reducible repeat first | apply bd | apply be | apply ba); refine blk_put (cs := q5_ t291 false false false false) ?_ 1 _ rfl; (with_reducible repeat first | apply bd | apply be | apply ba); refine blk_put (cs := F5) ?_ 0 _ rfl; (with_reducible repeat first | apply bd | apply be | apply ba); exact BK296.out) hb); have n1_ := Aside0.mk (below_step (bl1 HB.out GE296.out) hb); clear BK296; clear HB; have BK296 := n0_; have HB := n1_; clear n0_ n1_) | ((with_reducible refine gate_dst (N := 4) rfl ?_); refine box_event ?hg (N := 4) ?hd (cs := F5) (t := 29) ?hr ?_; (case hd => rfl); (case hg => rfl); (case hr => first | (go_simp; done) | (go_simp; rfl)); intro gb303 hg w34 hbox hb; have n0_ := Aside0.mk (blk_below (g := gb296) (o := o5_ t291 t292 t293 t294 t295 29) (bv BK296.out) hb); have n1_ := Aside0.mk (below_step (bl1 HB.out GE296.out) hb); have n2_ := Aside0.mk (hbox); have n3_ := Aside0.mk ((by rw [hg]; exact (below_size (bl1 HB.out GE296.out)) : w.heap.size ≤ gb303)); have n4_ := n3_; have n5_ := Aside0.mk ((by rw [hg]; exact Nat.ne_of_lt (blk_lt (g := gb296) (o := o5_ t291 t292 t293 t294 t295 29) (bv BK296.out)) : gb296 ≠ gb303)); have n6_ := Aside0.mk (Ne.symm n5_.out); clear BK296; clear HB; have BK296 := n0_; have HB := n1_; have BK303 := n2_; have GW303 := n3_; have GE303 := n4_; have NB296_303 := n5_; have NB303_296 := n6_; clear n0_ n1_ n2_ n3_ n4_ n5_ n6_; clear hb hbox hg; have hnb35 := NB303_296.out; have hnc35 := NB296_303.out; obtain ⟨hcz36_0, hcz36_1, hcz36_2, hcz36_3, hcz36_4⟩ := bc5 BK303.out; obtain ⟨hfz36_0, hfz36_1, hfz36_2, hfz36_3, hfz36_4⟩ := bf5 BK303.out))
  go_ret
  exact ⟨by first | rfl | (simp [errW_none, errW_some] <;> rfl) | (simp [*, errW_none, errW_some] <;> rfl), bl2 HB.out GE296.out GE303.out⟩


-- EVALUATED
/-! ### annealref1_Sub: function 13 -/
noncomputable def annealref1_Sub.f (k : Nat) (a0 : Int) (a1 : Int) (a2 : Int) (a3 : Int) : Option (Int × Bool × Bool × Bool × Bool × Bool) := Go.Proofs.Ytejkemahdincjaa.E.annealref1_Sub.f k a0 a1 a2 a3
theorem annealref1_Sub.calls (k : Nat) (a0 : Int) (a1 : Int) (a2 : Int) (a3 : Int) (r1 : Int) (r2 : Bool) (r3 : Bool) (r4 : Bool) (r5 : Bool) (r6 : Bool) (w : World) (h : annealref1_Sub.f k a0 a1 a2 a3 = some (r1, r2, r3, r4, r5, r6)) :
  Calls Try.prog 13 #[.int .i64 a0, .int .i64 a1, .int .u32 a2, .int .u32 a3] w fun e w' => e = .returned (.tuple #[.int .u32 r1, .agg #[.bool r2, .bool r3, .bool r4, .bool r5, .bool r6]]) ∧ Below w.heap.size w w' :=
 Go.Proofs.Ytejkemahdincjaa.Ek.calls_of Go.Proofs.Ytejkemahdincjaa.E.annealref1_Sub.ok k ((a0, ()), (a1, ()), (a2, ()), (a3, ()), ()) (r1, r2, r3, r4, r5, r6) rfl h w

end Go.Proofs.Ytejkemahdincjaa.P
