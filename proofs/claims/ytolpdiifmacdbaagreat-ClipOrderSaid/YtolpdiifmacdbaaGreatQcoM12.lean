import Derived.Test.YtolpdiifmacdbaaGreatQcoPartsN
import Derived.Test.YtolpdiifmacdbaaGreatQcoM11
import Derived.Test.YtolpdiifmacdbaaGreatQcoM8
import Derived.Test.YtolpdiifmacdbaaGreatQcoZ
import Derived.Test.YtolpdiifmacdbaaGreatQcoM5
import Derived.Test.YtolpdiifmacdbaaGreatQcoM6
import Derived.Test.YtolpdiifmacdbaaGreatQcoM4
import Derived.Test.YtolpdiifmacdbaaGreatProg
import Derived.Test.YtolpdiifmacdbaaGreatQcoM7
import Derived.Test.YtolpdiifmacdbaaGreatQcoM10
import Derived.Test.YtolpdiifmacdbaaGreatQcoM3
/- Bounds of single numbers: sums, products, quotients of what is bounded: plain numbers alone. -/
set_option linter.unusedVariables false
set_option linter.unusedSimpArgs false
set_option maxRecDepth 100000
set_option maxHeartbeats 8000000
namespace Go.Proofs.YtolpdiifmacdbaaGreat.Round
open Go.RowKit Go.Proofs.YtolpdiifmacdbaaGreat.P Go.Proofs.YtolpdiifmacdbaaGreat.Num Go.Proofs.YtolpdiifmacdbaaGreat.BitsF Go.Proofs.YtolpdiifmacdbaaGreat.Fmt Go.Proofs.YtolpdiifmacdbaaGreatW.PrintWords Go.Proofs.YtolpdiifmacdbaaGreatW.PrintLast Go.Proofs.YtolpdiifmacdbaaGreatW.PrintMore

end Go.Proofs.YtolpdiifmacdbaaGreat.Round

-- Printed by a program of this session's out of Lean's print of the translation; Lean checks it.
namespace Go.Proofs.YtolpdiifmacdbaaGreat.P
open Go.RowKit Go.Proofs.YtolpdiifmacdbaaGreatW.PrintWords Go.Proofs.YtolpdiifmacdbaaGreatW.PrintLast Go.Proofs.YtolpdiifmacdbaaGreatW.PrintMore
attribute [local go_sem] max2_int min2_int max_two min_two max_three min_three max_four min_four

-- NEED 2
/-! ### dV: function 101 -/
def dV.f (k : Nat) (a0 a1 a2 : Int) : Option (Int × Bool × Bool × Bool × Bool × Bool) := (bJ.f k a0 (([a2] : List Int))).bind fun bt195 => (if bt195.2.2.2.2.2.2 = true then (some (bt195.1, bt195.2.1, bt195.2.2.1, bt195.2.2.2.1, bt195.2.2.2.2.1, bt195.2.2.2.2.2.1)) else ((fD.f a0 a2).bind fun bt203 => ((bH.f k a0 a2).bind fun t208 => (if t208 = true then ((dN.f a0 bt203.1).bind fun t209 => (some (t209, false, false, false, false, false))) else (if bt203.1 = true then ((eT.f a0).bind fun bt210 => (some (bt210.1, bt210.2.1, bt210.2.2.1, bt210.2.2.2.1, bt210.2.2.2.2.1, bt210.2.2.2.2.2))) else ((aV.f k a0 a2).bind fun t216 => (if t216 = true then ((dF.f a0 false).bind fun t217 => (some (t217, false, false, false, false, false))) else ((bits_Len.f k bt203.2.2.1).bind fun t218 => (if (Int.tmod (wrap64 (bt203.2.1 - (wrap64 (62 - t218)))) 2) = 0 then ((aU.f k bt203.2.2.1 (wrap64 (-(wrap64 (62 - t218))))).bind fun bt219 => ((dL.f k bt219.1).bind fun bt221 => ((aC.f k a0 a1 false (wrap64 (Int.tdiv (wrap64 (bt203.2.1 - (wrap64 (62 - t218)))) 2)) (IntKind.u64.wrap (bt221.1)) (!bt221.2)).bind fun bt223 => (some (bt223.1, bt223.2.1, bt223.2.2.1, bt223.2.2.2.1, bt223.2.2.2.2.1, bt223.2.2.2.2.2))))) else ((aU.f k bt203.2.2.1 (wrap64 (-(wrap64 ((wrap64 (62 - t218)) - 1))))).bind fun bt229 => ((dL.f k bt229.1).bind fun bt231 => ((aC.f k a0 a1 false (wrap64 (Int.tdiv (wrap64 (bt203.2.1 - (wrap64 ((wrap64 (62 - t218)) - 1)))) 2)) (IntKind.u64.wrap (bt231.1)) (!bt231.2)).bind fun bt233 => (some (bt233.1, bt233.2.1, bt233.2.2.1, bt233.2.2.2.1, bt233.2.2.2.2.1, bt233.2.2.2.2.2))))))))))))))
end Go.Proofs.YtolpdiifmacdbaaGreat.P

/- Entries of functions. -/
namespace Go.Proofs.YtolpdiifmacdbaaGreat.L
open Go.RowKit Go.Proofs.YtolpdiifmacdbaaGreat.P Go.Proofs.YtolpdiifmacdbaaGreat.Ek Go.Proofs.YtolpdiifmacdbaaGreatW.PrintWords Go.Proofs.YtolpdiifmacdbaaGreatW.PrintLast Go.Proofs.YtolpdiifmacdbaaGreatW.PrintMore
noncomputable def bJ.c : Fc := mkFcA [.s (hI .i64), .sl .u32] [hI .u32, .agg [.b, .b, .b, .b, .b], hB] (T := Int × Bool × Bool × Bool × Bool × Bool × Bool) (fun y => ((y.1, ()), (y.2.1, y.2.2.1, y.2.2.2.1, y.2.2.2.2.1, y.2.2.2.2.2.1, ()), (y.2.2.2.2.2.2, ()), ())) fun n x => bJ.f n x.1.1 x.2.1
theorem bJ.ok : gI Tryz.prog 136 bJ.c := xU Tryz.func136 (by kernel_rfl) (by kernel_rfl) (by decide) (fun _ => dJ (by decide) _) fun n x y h m w vs ha => by obtain ⟨q0, e0, ha⟩ := ha; subst e0; obtain ⟨A1, c1, q1, e1, R1, D1, ha⟩ := ha; subst e1; subst ha; exact (bJ.calls n x.1.1 A1 c1 x.2.1 y.1 y.2.1 y.2.2.1 y.2.2.2.1 y.2.2.2.2.1 y.2.2.2.2.2.1 y.2.2.2.2.2.2 w R1 D1 h).mono fun e w' he => ⟨he.1, he.2⟩
noncomputable def fD.c : Fc := gT [hI .i64, hI .u32] [.agg [.b, .i .i64, .i .u64, .b]] (T := Bool × Int × Int × Bool) (fun y => ((y.1, y.2.1, y.2.2.1, y.2.2.2, ()), ())) fun n x => fD.f x.1.1 x.2.1.1
theorem fD.ok : gI Tryz.prog 137 fD.c := d9 Tryz.func137 (by kernel_rfl) (by kernel_rfl) (by decide) (fun _ => dJ (by decide) _) fun n x y h m w => (fD.calls x.1.1 x.2.1.1 y.1 y.2.1 y.2.2.1 y.2.2.2 w h).mono fun e w' he => ⟨he.1, he.2⟩
noncomputable def bH.c : Fc := gT [hI .i64, hI .u32] [hB] (T := Bool) (fun y => ((y, ()), ())) fun n x => bH.f n x.1.1 x.2.1.1
theorem bH.ok : gI Tryz.prog 138 bH.c := d9 Tryz.func138 (by kernel_rfl) (by kernel_rfl) (by decide) (fun _ => dJ (by decide) _) fun n x y h m w => (bH.calls n x.1.1 x.2.1.1 y w h).mono fun e w' he => ⟨he.1, he.2.below⟩
noncomputable def eT.c : Fc := gT [hI .i64] [hI .u32, .agg [.b, .b, .b, .b, .b]] (T := Int × Bool × Bool × Bool × Bool × Bool) (fun y => ((y.1, ()), (y.2.1, y.2.2.1, y.2.2.2.1, y.2.2.2.2.1, y.2.2.2.2.2, ()), ())) fun n x => eT.f x.1.1
theorem eT.ok : gI Tryz.prog 140 eT.c := d9 Tryz.func140 (by kernel_rfl) (by kernel_rfl) (by decide) (fun _ => dJ (by decide) _) fun n x y h m w => (eT.calls x.1.1 y.1 y.2.1 y.2.2.1 y.2.2.2.1 y.2.2.2.2.1 y.2.2.2.2.2 w h).mono fun e w' he => ⟨he.1, he.2⟩
noncomputable def aV.c : Fc := gT [hI .i64, hI .u32] [hB] (T := Bool) (fun y => ((y, ()), ())) fun n x => aV.f n x.1.1 x.2.1.1
theorem aV.ok : gI Tryz.prog 141 aV.c := d9 Tryz.func141 (by kernel_rfl) (by kernel_rfl) (by decide) (fun _ => dJ (by decide) _) fun n x y h m w => (aV.calls n x.1.1 x.2.1.1 y w h).mono fun e w' he => ⟨he.1, he.2.below⟩
noncomputable def dL.c : Fc := gT [hI .u64] [hI .u32, hB] (T := Int × Bool) (fun y => ((y.1, ()), (y.2, ()), ())) fun n x => dL.f n x.1.1
theorem dL.ok : gI Tryz.prog 145 dL.c := d9 Tryz.func145 (by kernel_rfl) (by kernel_rfl) (by decide) (fun _ => dJ (by decide) _) fun n x y h m w => (dL.calls n x.1.1 y.1 y.2 w h).mono fun e w' he => ⟨he.1, he.2.below⟩
noncomputable def dV.cls : Cls := [(136, bJ.c), (137, fD.c), (138, bH.c), (139, dN.c), (140, eT.c), (141, aV.c), (142, dF.c), (143, bits_Len.c), (144, aU.c), (145, dL.c), (104, aC.c)]
theorem dV.gU : dG Tryz.prog dV.cls := dG.cons bJ.ok (dG.cons fD.ok (dG.cons bH.ok (dG.cons dN.ok (dG.cons eT.ok (dG.cons aV.ok (dG.cons dF.ok (dG.cons bits_Len.ok (dG.cons aU.ok (dG.cons dL.ok (dG.cons aC.ok (dG.nil)))))))))))
noncomputable def dV.K (v : SV) : Option (Int × Bool × Bool × Bool × Bool × Bool) := (kT [hI .u32, .agg [.b, .b, .b, .b, .b]] v).map (fun z => (z.1.1, z.2.1.1, z.2.1.2.1, z.2.1.2.2.1, z.2.1.2.2.2.1, z.2.1.2.2.2.2.1))
noncomputable def dV.cuts : List Nat := []
noncomputable def dV.f (k : Nat) (a0 a1 a2 : Int) : Option (Int × Bool × Bool × Bool × Bool × Bool) := evF Tryz.prog dV.cls Tryz.f101 dV.cuts k [.one (.i .i64 (.x a0)), .one (.i .i64 (.x a1)), .one (.i .u32 (.x a2))] dV.K
noncomputable def dV.c : Fc := gT [hI .i64, hI .i64, hI .u32] [hI .u32, .agg [.b, .b, .b, .b, .b]] (T := Int × Bool × Bool × Bool × Bool × Bool) (fun y => ((y.1, ()), (y.2.1, y.2.2.1, y.2.2.2.1, y.2.2.2.2.1, y.2.2.2.2.2, ()), ())) fun n x => dV.f n x.1.1 x.2.1.1 x.2.2.1.1
theorem dV.ok : gI Tryz.prog 101 dV.c := uT dV.gU Tryz.func101 (by kernel_rfl) (by kernel_rfl) (by decide) (fun _ => rfl) (fun _ _ => rfl)
noncomputable def dR.c : Fc := gT [hI .i64, hI .u32, hI .u32] [hB] (T := Bool) (fun y => ((y, ()), ())) fun n x => dR.f n x.1.1 x.2.1.1 x.2.2.1.1
theorem dR.ok : gI Tryz.prog 158 dR.c := d9 Tryz.func158 (by kernel_rfl) (by kernel_rfl) (by decide) (fun _ => dJ (by decide) _) fun n x y h m w => (dR.calls n x.1.1 x.2.1.1 x.2.2.1.1 y w h).mono fun e w' he => ⟨he.1, he.2.below⟩
noncomputable def dQ.c : Fc := gT [hI .i64, hI .u32] [hB] (T := Bool) (fun y => ((y, ()), ())) fun n x => dQ.f x.1.1 x.2.1.1
theorem dQ.ok : gI Tryz.prog 146 dQ.c := d9 Tryz.func146 (by kernel_rfl) (by kernel_rfl) (by decide) (fun _ => dJ (by decide) _) fun n x y h m w => (dQ.calls x.1.1 x.2.1.1 y w h).mono fun e w' he => ⟨he.1, he.2.below⟩
noncomputable def bC.c : Fc := gT [hI .i64, hB, hB, hB, hB] [hI .u32, .agg [.b, .b, .b, .b, .b]] (T := Int × Bool × Bool × Bool × Bool × Bool) (fun y => ((y.1, ()), (y.2.1, y.2.2.1, y.2.2.2.1, y.2.2.2.2.1, y.2.2.2.2.2, ()), ())) fun n x => bC.f n x.1.1 x.2.1.1 x.2.2.1.1 x.2.2.2.1.1 x.2.2.2.2.1.1
theorem bC.ok : gI Tryz.prog 161 bC.c := d9 Tryz.func161 (by kernel_rfl) (by kernel_rfl) (by decide) (fun _ => dJ (by decide) _) fun n x y h m w => (bC.calls n x.1.1 x.2.1.1 x.2.2.1.1 x.2.2.2.1.1 x.2.2.2.2.1.1 y.1 y.2.1 y.2.2.1 y.2.2.2.1 y.2.2.2.2.1 y.2.2.2.2.2 w h).mono fun e w' he => ⟨he.1, he.2⟩
noncomputable def dY.c : Fc := gT [hI .i64, hI .u32, hI .u32] [.agg [.b, .i .i64, .i .u64, .b]] (T := Bool × Int × Int × Bool) (fun y => ((y.1, y.2.1, y.2.2.1, y.2.2.2, ()), ())) fun n x => dY.f x.1.1 x.2.1.1 x.2.2.1.1
theorem dY.ok : gI Tryz.prog 159 dY.c := d9 Tryz.func159 (by kernel_rfl) (by kernel_rfl) (by decide) (fun _ => dJ (by decide) _) fun n x y h m w => (dY.calls x.1.1 x.2.1.1 x.2.2.1.1 y.1 y.2.1 y.2.2.1 y.2.2.2 w h).mono fun e w' he => ⟨he.1, he.2⟩
noncomputable def fB.c : Fc := gT [hI .i64, hI .i64, hB, hB] [hI .u32] (T := Int) (fun y => ((y, ()), ())) fun n x => fB.f x.1.1 x.2.1.1 x.2.2.1.1 x.2.2.2.1.1
theorem fB.ok : gI Tryz.prog 163 fB.c := d9 Tryz.func163 (by kernel_rfl) (by kernel_rfl) (by decide) (fun _ => dJ (by decide) _) fun n x y h m w => (fB.calls x.1.1 x.2.1.1 x.2.2.1.1 x.2.2.2.1.1 y w h).mono fun e w' he => ⟨he.1, he.2.below⟩
noncomputable def aY.cls : Cls := [(158, dR.c), (136, bJ.c), (140, eT.c), (146, dQ.c), (141, aV.c), (161, bC.c), (159, dY.c), (137, fD.c), (162, aT.c), (163, fB.c), (104, aC.c)]
theorem aY.gU : dG Tryz.prog aY.cls := dG.cons dR.ok (dG.cons bJ.ok (dG.cons eT.ok (dG.cons dQ.ok (dG.cons aV.ok (dG.cons bC.ok (dG.cons dY.ok (dG.cons fD.ok (dG.cons aT.ok (dG.cons fB.ok (dG.cons aC.ok (dG.nil)))))))))))
noncomputable def aY.K (v : SV) : Option (Int × Bool × Bool × Bool × Bool × Bool) := (kT [hI .u32, .agg [.b, .b, .b, .b, .b]] v).map (fun z => (z.1.1, z.2.1.1, z.2.1.2.1, z.2.1.2.2.1, z.2.1.2.2.2.1, z.2.1.2.2.2.2.1))
noncomputable def aY.cuts : List Nat := [10, 11, 15]
noncomputable def aY.f (k : Nat) (a0 a1 : Int) (a2 a3 a4 : Int) : Option (Int × Bool × Bool × Bool × Bool × Bool) := evF Tryz.prog aY.cls Tryz.f131 aY.cuts k [.one (.i .i64 (.x a0)), .one (.i .i64 (.x a1)), .one (.i .u32 (.x a2)), .one (.i .u32 (.x a3)), .one (.i .u32 (.x a4))] aY.K
noncomputable def aY.c : Fc := gT [hI .i64, hI .i64, hI .u32, hI .u32, hI .u32] [hI .u32, .agg [.b, .b, .b, .b, .b]] (T := Int × Bool × Bool × Bool × Bool × Bool) (fun y => ((y.1, ()), (y.2.1, y.2.2.1, y.2.2.2.1, y.2.2.2.2.1, y.2.2.2.2.2, ()), ())) fun n x => aY.f n x.1.1 x.2.1.1 x.2.2.1.1 x.2.2.2.1.1 x.2.2.2.2.1.1
theorem aY.ok : gI Tryz.prog 131 aY.c := uT aY.gU Tryz.func131 (by kernel_rfl) (by kernel_rfl) (by decide) (fun _ => rfl) (fun _ _ => rfl)
noncomputable def aW.c : Fc := gT [hI .i64, hI .u32] [hI .i64] (T := Int) (fun y => ((y, ()), ())) fun n x => aW.f n x.1.1 x.2.1.1
theorem aW.ok : gI Tryz.prog 147 aW.c := d9 Tryz.func147 (by kernel_rfl) (by kernel_rfl) (by decide) (fun _ => dJ (by decide) _) fun n x y h m w => (aW.calls n x.1.1 x.2.1.1 y w h).mono fun e w' he => ⟨he.1, he.2.below⟩
noncomputable def bN.cls : Cls := [(136, bJ.c), (146, dQ.c), (147, aW.c), (140, eT.c), (142, dF.c), (139, dN.c), (137, fD.c), (143, bits_Len.c), (144, aU.c), (104, aC.c)]
theorem bN.gU : dG Tryz.prog bN.cls := dG.cons bJ.ok (dG.cons dQ.ok (dG.cons aW.ok (dG.cons eT.ok (dG.cons dF.ok (dG.cons dN.ok (dG.cons fD.ok (dG.cons bits_Len.ok (dG.cons aU.ok (dG.cons aC.ok (dG.nil))))))))))
noncomputable def bN.K (v : SV) : Option (Int × Bool × Bool × Bool × Bool × Bool) := (kT [hI .u32, .agg [.b, .b, .b, .b, .b]] v).map (fun z => (z.1.1, z.2.1.1, z.2.1.2.1, z.2.1.2.2.1, z.2.1.2.2.2.1, z.2.1.2.2.2.2.1))
noncomputable def bN.cuts : List Nat := [7, 11]
noncomputable def bN.f (k : Nat) (a0 a1 : Int) (a2 a3 : Int) : Option (Int × Bool × Bool × Bool × Bool × Bool) := evF Tryz.prog bN.cls Tryz.f102 bN.cuts k [.one (.i .i64 (.x a0)), .one (.i .i64 (.x a1)), .one (.i .u32 (.x a2)), .one (.i .u32 (.x a3))] bN.K
noncomputable def bN.c : Fc := gT [hI .i64, hI .i64, hI .u32, hI .u32] [hI .u32, .agg [.b, .b, .b, .b, .b]] (T := Int × Bool × Bool × Bool × Bool × Bool) (fun y => ((y.1, ()), (y.2.1, y.2.2.1, y.2.2.2.1, y.2.2.2.2.1, y.2.2.2.2.2, ()), ())) fun n x => bN.f n x.1.1 x.2.1.1 x.2.2.1.1 x.2.2.2.1.1
theorem bN.ok : gI Tryz.prog 102 bN.c := uT bN.gU Tryz.func102 (by kernel_rfl) (by kernel_rfl) (by decide) (fun _ => rfl) (fun _ _ => rfl)
noncomputable def dI.cls : Cls := [(136, bJ.c), (158, dR.c), (140, eT.c), (146, dQ.c), (141, aV.c), (142, dF.c), (159, dY.c), (104, aC.c)]
theorem dI.gU : dG Tryz.prog dI.cls := dG.cons bJ.ok (dG.cons dR.ok (dG.cons eT.ok (dG.cons dQ.ok (dG.cons aV.ok (dG.cons dF.ok (dG.cons dY.ok (dG.cons aC.ok (dG.nil))))))))
noncomputable def dI.K (v : SV) : Option (Int × Bool × Bool × Bool × Bool × Bool) := (kT [hI .u32, .agg [.b, .b, .b, .b, .b]] v).map (fun z => (z.1.1, z.2.1.1, z.2.1.2.1, z.2.1.2.2.1, z.2.1.2.2.2.1, z.2.1.2.2.2.2.1))
noncomputable def dI.cuts : List Nat := [8]
noncomputable def dI.f (k : Nat) (a0 a1 : Int) (a2 a3 : Int) : Option (Int × Bool × Bool × Bool × Bool × Bool) := evF Tryz.prog dI.cls Tryz.f106 dI.cuts k [.one (.i .i64 (.x a0)), .one (.i .i64 (.x a1)), .one (.i .u32 (.x a2)), .one (.i .u32 (.x a3))] dI.K
noncomputable def dI.c : Fc := gT [hI .i64, hI .i64, hI .u32, hI .u32] [hI .u32, .agg [.b, .b, .b, .b, .b]] (T := Int × Bool × Bool × Bool × Bool × Bool) (fun y => ((y.1, ()), (y.2.1, y.2.2.1, y.2.2.2.1, y.2.2.2.2.1, y.2.2.2.2.2, ()), ())) fun n x => dI.f n x.1.1 x.2.1.1 x.2.2.1.1 x.2.2.2.1.1
theorem dI.ok : gI Tryz.prog 106 dI.c := uT dI.gU Tryz.func106 (by kernel_rfl) (by kernel_rfl) (by decide) (fun _ => rfl) (fun _ _ => rfl)
/- Functions' trees, printed by a tool of mine out of the reckoner; Lean's kernel checks each. -/
set_option maxRecDepth 100000
theorem dV.eq (n0 : Nat) (a0 a1 a2 : Int) : dV.f n0 a0 a1 a2 = ((bJ.f n0 a0 [a2]).bind fun t0 => (if t0.2.2.2.2.2.2 = true then (some ((t0.1, t0.2.1, t0.2.2.1, t0.2.2.2.1, t0.2.2.2.2.1, t0.2.2.2.2.2.1))) else ((fD.f a0 a2).bind fun t1 => ((bH.f n0 a0 a2).bind fun t2 => (if t2 = true then ((dN.f a0 t1.1).bind fun t3 => (some ((t3, false, false, false, false, false)))) else (if t1.1 = true then ((eT.f a0).bind fun t3 => (some ((t3.1, t3.2.1, t3.2.2.1, t3.2.2.2.1, t3.2.2.2.2.1, t3.2.2.2.2.2)))) else ((aV.f n0 a0 a2).bind fun t3 => (if t3 = true then ((dF.f a0 false).bind fun t4 => (some ((t4, false, false, false, false, false)))) else ((bits_Len.f n0 t1.2.2.1).bind fun t4 => (if Int.tmod (wrap64 (t1.2.1 - wrap64 (62 - t4))) 2 = 0 then ((aU.f n0 t1.2.2.1 (wrap64 (-wrap64 (62 - t4)))).bind fun t5 => ((dL.f n0 t5.1).bind fun t6 => ((aC.f n0 a0 a1 false (wrap64 (Int.tdiv (wrap64 (t1.2.1 - wrap64 (62 - t4))) 2)) (IntKind.wrap IntKind.u64 t6.1) !t6.2).bind fun t7 => (some ((t7.1, t7.2.1, t7.2.2.1, t7.2.2.2.1, t7.2.2.2.2.1, t7.2.2.2.2.2)))))) else ((aU.f n0 t1.2.2.1 (wrap64 (-wrap64 (wrap64 (62 - t4) - 1)))).bind fun t5 => ((dL.f n0 t5.1).bind fun t6 => ((aC.f n0 a0 a1 false (wrap64 (Int.tdiv (wrap64 (t1.2.1 - wrap64 (wrap64 (62 - t4) - 1))) 2)) (IntKind.wrap IntKind.u64 t6.1) !t6.2).bind fun t7 => (some ((t7.1, t7.2.1, t7.2.2.1, t7.2.2.2.1, t7.2.2.2.2.1, t7.2.2.2.2.2)))))))))))))))) := by kernel_rfl
noncomputable def aY.j10 (n0 : Nat) (x0 x1 x2 : Bool) (x3 x4 : Int) (x5 x6 x7 : Int) (x8 x9 : Bool) (x10 x11 x12 : Bool) := kE Tryz.prog aY.cls Tryz.f131 aY.cuts [1, 1, 1, 1, 1, 1] [n0] n0 ⟨[(18, (.pv (.one (.b (.q x0))))), (17, (.pv (.one (.b (.q x1))))), (16, (.pv (.one (.b (.q x2))))), (11, (.pv (.one (.p 0 0)))), (4, (.pv (.one (.i .u32 (.x x3))))), (3, (.pv (.one (.i .u32 (.x x4))))), (2, (.pv (.one (.i .u32 (.x x5))))), (1, (.pv (.one (.i .i64 (.x x6))))), (0, (.pv (.one (.i .i64 (.x x7)))))], [(0, (62, [(.c (.b (.q x8))), (.c (.b (.q x9))), (.c (.b (.q x10))), (.c (.b (.q x11))), (.c (.b (.q x12)))]))], 1⟩ aY.K
noncomputable def aY.j11 (n0 : Nat) (x0 x1 : Bool) (x2 x3 : Bool) (x4 x5 : Int) (x6 x7 x8 : Int) (x9 x10 : Bool) (x11 x12 x13 : Bool) := kE Tryz.prog aY.cls Tryz.f131 aY.cuts [1, 1, 1, 1, 1, 1, 0, 1] [n0] n0 ⟨[(71, (.pv (.one (.b (.q x0))))), (18, (.pv (.one (.b (.q x1))))), (17, (.pv (.one (.b (.q x2))))), (16, (.pv (.one (.b (.q x3))))), (11, (.pv (.one (.p 0 0)))), (4, (.pv (.one (.i .u32 (.x x4))))), (3, (.pv (.one (.i .u32 (.x x5))))), (2, (.pv (.one (.i .u32 (.x x6))))), (1, (.pv (.one (.i .i64 (.x x7))))), (0, (.pv (.one (.i .i64 (.x x8)))))], [(0, (62, [(.c (.b (.q x9))), (.c (.b (.q x10))), (.c (.b (.q x11))), (.c (.b (.q x12))), (.c (.b (.q x13)))]))], 1⟩ aY.K
noncomputable def aY.j15 (n0 : Nat) (x0 x1 : Bool) (x2 x3 : Int) (x4 : Bool) (x5 x6 : Int) (x7 x8 : Bool) (x9 x10 : Int) (x11 x12 : Bool) (x13 x14 : Bool) (x15 x16 : Bool) := kE Tryz.prog aY.cls Tryz.f131 aY.cuts [1, 1, 1, 1, 1, 1, 1, 1, 1, 0, 1] [n0] n0 ⟨[(99, (.pv (.one (.b (.q x0))))), (21, (.pv (.one (.p 3 0)))), (20, (.pv (.one (.p 2 0)))), (16, (.pv (.one (.b (.q x1))))), (11, (.pv (.one (.p 0 0)))), (1, (.pv (.one (.i .i64 (.x x2))))), (0, (.pv (.one (.i .i64 (.x x3)))))], [(3, (131, [(.c (.b (.q x4))), (.c (.i .i64 (.x x5))), (.c (.i .u64 (.x x6))), (.c (.b (.q x7)))])), (2, (131, [(.c (.b (.q x8))), (.c (.i .i64 (.x x9))), (.c (.i .u64 (.x x10))), (.c (.b (.q x11)))])), (0, (62, [(.c (.b (.q x12))), (.c (.b (.q x13))), (.c (.b (.q x14))), (.c (.b (.q x15))), (.c (.b (.q x16)))]))], 4⟩ aY.K
theorem aY.eq (n0 : Nat) (a0 a1 : Int) (a2 a3 a4 : Int) : aY.f n0 a0 a1 a2 a3 a4 = ((dR.f n0 a0 a2 a3).bind fun t0 => ((bJ.f n0 a0 [a2, a3, a4]).bind fun t1 => (if t1.2.2.2.2.2.2 = true then (if t1.2.1 = true then (some ((t1.1, true, t1.2.2.1, t1.2.2.2.1, t1.2.2.2.2.1, t1.2.2.2.2.2.1))) else (some ((t1.1, t0, t1.2.2.1, t1.2.2.2.1, t1.2.2.2.2.1, t1.2.2.2.2.2.1)))) else (if t0 = true then ((eT.f a0).bind fun t2 => (some ((t2.1, t2.2.1, t2.2.2.1, t2.2.2.2.1, t2.2.2.2.2.1, t2.2.2.2.2.2)))) else ((dQ.f a0 a2).bind fun t2 => ((dQ.f a0 a3).bind fun t3 => ((aV.f n0 a0 a2).bind fun t4 => (if t4 = true then ((aV.f n0 a0 a4).bind fun t5 => (aY.j10 n0 (t5) (true) (!(t2 == t3)) (a4) (a3) (a2) (a1) (a0) (false) (false) (false) (false) (false))) else ((aV.f n0 a0 a3).bind fun t5 => ((aV.f n0 a0 a4).bind fun t6 => (aY.j10 n0 (t6) (t5) (!(t2 == t3)) (a4) (a3) (a2) (a1) (a0) (false) (false) (false) (false) (false)))))))))))) := by kernel_rfl
theorem aY.j10_eq (n0 : Nat) (x0 x1 x2 : Bool) (x3 x4 : Int) (x5 x6 x7 : Int) (x8 x9 : Bool) (x10 x11 x12 : Bool) : aY.j10 n0 x0 x1 x2 x3 x4 x5 x6 x7 x8 x9 x10 x11 x12 = (if x1 = true then (aY.j11 n0 (true) (x0) (x1) (x2) (x3) (x4) (x5) (x6) (x7) (x8) (x9) (x10) (x11) (x12)) else (aY.j11 n0 (x0) (x0) (x1) (x2) (x3) (x4) (x5) (x6) (x7) (x8) (x9) (x10) (x11) (x12))) := by kernel_rfl
theorem aY.vF (n0 : Nat) (x0 x1 : Bool) (x2 x3 : Bool) (x4 x5 : Int) (x6 x7 x8 : Int) (x9 x10 : Bool) (x11 x12 x13 : Bool) : aY.j11 n0 x0 x1 x2 x3 x4 x5 x6 x7 x8 x9 x10 x11 x12 x13 = (if x0 = true then ((dQ.f x8 x4).bind fun t0 => ((bC.f n0 x8 x3 t0 x2 x1).bind fun t1 => (some ((t1.1, t1.2.1, t1.2.2.1, t1.2.2.2.1, t1.2.2.2.2.1, t1.2.2.2.2.2))))) else ((dY.f x8 x6 x5).bind fun t0 => ((fD.f x8 x4).bind fun t1 => ((YtolpdiifmacdbaaGreat.L.aT.f n0 t0.1 t0.2.1 t0.2.2.1 t0.2.2.2 t1.1 t1.2.1 t1.2.2.1 t1.2.2.2).bind fun t2 => (if t2.2.2.1 = 0 then (aY.j15 n0 (!t2.2.2.2) (x3) (x7) (x8) (t2.1) t2.2.1 t2.2.2.1 (t2.2.2.2) (t1.1) t1.2.1 t1.2.2.1 (t1.2.2.2) (x9) (x10) (x11) (x12) (x13)) else (aY.j15 n0 (false) (x3) (x7) (x8) (t2.1) t2.2.1 t2.2.2.1 (t2.2.2.2) (t1.1) t1.2.1 t1.2.2.1 (t1.2.2.2) (x9) (x10) (x11) (x12) (x13))))))) := by kernel_rfl
theorem aY.aAD (n0 : Nat) (x0 x1 : Bool) (x2 x3 : Int) (x4 : Bool) (x5 x6 : Int) (x7 x8 : Bool) (x9 x10 : Int) (x11 x12 : Bool) (x13 x14 : Bool) (x15 x16 : Bool) : aY.j15 n0 x0 x1 x2 x3 x4 x5 x6 x7 x8 x9 x10 x11 x12 x13 x14 x15 x16 = (if x0 = true then ((fB.f x3 x2 x1 x8).bind fun t0 => (some ((t0, false, false, false, false, false)))) else ((aC.f n0 x3 x2 x4 x5 x6 x7).bind fun t0 => (some ((t0.1, t0.2.1, t0.2.2.1, t0.2.2.2.1, t0.2.2.2.2.1, t0.2.2.2.2.2))))) := by kernel_rfl
noncomputable def bN.j7 (n0 : Nat) (x0 : Bool) (x1 x2 : Int) (x3 : Bool) (x4 x5 : Int) (x6 x7 : Int) (x8 x9 : Bool) (x10 x11 x12 : Bool) := kE Tryz.prog bN.cls Tryz.f102 bN.cuts [1, 1, 1, 1, 0, 0, 1] [n0] n0 ⟨[(46, (.pv (.one (.b (.q x0))))), (15, (.pv (.one (.i .i64 (.x x1))))), (14, (.pv (.one (.i .i64 (.x x2))))), (13, (.pv (.one (.b (.q x3))))), (9, (.pv (.one (.p 0 0)))), (3, (.pv (.one (.i .u32 (.x x4))))), (2, (.pv (.one (.i .u32 (.x x5))))), (1, (.pv (.one (.i .i64 (.x x6))))), (0, (.pv (.one (.i .i64 (.x x7)))))], [(0, (62, [(.c (.b (.q x8))), (.c (.b (.q x9))), (.c (.b (.q x10))), (.c (.b (.q x11))), (.c (.b (.q x12)))]))], 1⟩ bN.K
noncomputable def bN.j11 (n0 : Nat) (x0 : Bool) (x1 : Int) (x2 : Bool) (x3 x4 : Int) (x5 x6 : Int) (x7 x8 : Bool) (x9 x10 x11 : Bool) := kE Tryz.prog bN.cls Tryz.f102 bN.cuts [1, 1, 1, 1, 0, 0, 1, 1, 1, 1, 1] [n0] n0 ⟨[(69, (.pv (.one (.b (.q x0))))), (15, (.pv (.one (.i .i64 (.x x1))))), (13, (.pv (.one (.b (.q x2))))), (9, (.pv (.one (.p 0 0)))), (3, (.pv (.one (.i .u32 (.x x3))))), (2, (.pv (.one (.i .u32 (.x x4))))), (1, (.pv (.one (.i .i64 (.x x5))))), (0, (.pv (.one (.i .i64 (.x x6)))))], [(0, (62, [(.c (.b (.q x7))), (.c (.b (.q x8))), (.c (.b (.q x9))), (.c (.b (.q x10))), (.c (.b (.q x11)))]))], 1⟩ bN.K
theorem bN.eq (n0 : Nat) (a0 a1 : Int) (a2 a3 : Int) : bN.f n0 a0 a1 a2 a3 = ((bJ.f n0 a0 [a2, a3]).bind fun t0 => (if t0.2.2.2.2.2.2 = true then (some ((t0.1, t0.2.1, t0.2.2.1, t0.2.2.2.1, t0.2.2.2.2.1, t0.2.2.2.2.2.1))) else ((dQ.f a0 a2).bind fun t1 => ((dQ.f a0 a3).bind fun t2 => ((aW.f n0 a0 a2).bind fun t3 => ((aW.f n0 a0 a3).bind fun t4 => (if t3 = t4 then (if t3 = 0 then (bN.j7 n0 (true) (t4) (t3) (!(t1 == t2)) (a3) (a2) (a1) (a0) (false) (false) (false) (false) (false)) else (bN.j7 n0 (Decidable.rec (fun h => false) (fun h => true) (Int.instDecidableEq t3 3)) (t4) (t3) (!(t1 == t2)) (a3) (a2) (a1) (a0) (false) (false) (false) (false) (false))) else (bN.j7 n0 (false) (t4) (t3) (!(t1 == t2)) (a3) (a2) (a1) (a0) (false) (false) (false) (false) (false))))))))) := by kernel_rfl
theorem bN.j7_eq (n0 : Nat) (x0 : Bool) (x1 x2 : Int) (x3 : Bool) (x4 x5 : Int) (x6 x7 : Int) (x8 x9 : Bool) (x10 x11 x12 : Bool) : bN.j7 n0 x0 x1 x2 x3 x4 x5 x6 x7 x8 x9 x10 x11 x12 = (if x0 = true then ((eT.f x7).bind fun t0 => (some ((t0.1, t0.2.1, t0.2.2.1, t0.2.2.2.1, t0.2.2.2.2.1, t0.2.2.2.2.2)))) else (if x2 = 3 then ((dF.f x7 x3).bind fun t0 => (some ((t0, false, false, false, false, false)))) else (if x1 = 3 then (bN.j11 n0 (true) (x1) (x3) (x4) (x5) (x6) (x7) (x8) (x9) (x10) (x11) (x12)) else (bN.j11 n0 (Decidable.rec (fun h => false) (fun h => true) (Int.instDecidableEq x2 0)) (x1) (x3) (x4) (x5) (x6) (x7) (x8) (x9) (x10) (x11) (x12))))) := by kernel_rfl
theorem bN.vF (n0 : Nat) (x0 : Bool) (x1 : Int) (x2 : Bool) (x3 x4 : Int) (x5 x6 : Int) (x7 x8 : Bool) (x9 x10 x11 : Bool) : bN.j11 n0 x0 x1 x2 x3 x4 x5 x6 x7 x8 x9 x10 x11 = (if x0 = true then ((dN.f x6 x2).bind fun t0 => (some ((t0, false, false, false, false, false)))) else (if x1 = 0 then ((dF.f x6 x2).bind fun t0 => (some ((t0, false, true, false, false, false)))) else ((fD.f x6 x4).bind fun t0 => ((fD.f x6 x3).bind fun t1 => ((bits_Len.f n0 t0.2.2.1).bind fun t2 => ((aU.f n0 t0.2.2.1 (wrap64 (-wrap64 (62 - t2)))).bind fun t3 => (if t1.2.2.1 = 0 then none else (if t1.2.2.1 = 0 then none else ((aC.f n0 x6 x5 x2 (wrap64 (wrap64 (t0.2.1 - wrap64 (62 - t2)) - t1.2.1)) (IntKind.wrap IntKind.u64 (Int.tdiv t3.1 t1.2.2.1)) !Int.tmod t3.1 t1.2.2.1 == 0).bind fun t4 => (some ((t4.1, t4.2.1, t4.2.2.1, t4.2.2.2.1, t4.2.2.2.2.1, t4.2.2.2.2.2)))))))))))) := by kernel_rfl
noncomputable def dI.j8 (n0 : Nat) (x0 x1 : Bool) (x2 x3 : Int) (x4 x5 : Int) (x6 x7 : Bool) (x8 x9 x10 : Bool) := kE Tryz.prog dI.cls Tryz.f106 dI.cuts [1, 1, 1, 1, 0, 1] [n0] n0 ⟨[(49, (.pv (.one (.b (.q x0))))), (13, (.pv (.one (.b (.q x1))))), (9, (.pv (.one (.p 0 0)))), (3, (.pv (.one (.i .u32 (.x x2))))), (2, (.pv (.one (.i .u32 (.x x3))))), (1, (.pv (.one (.i .i64 (.x x4))))), (0, (.pv (.one (.i .i64 (.x x5)))))], [(0, (62, [(.c (.b (.q x6))), (.c (.b (.q x7))), (.c (.b (.q x8))), (.c (.b (.q x9))), (.c (.b (.q x10)))]))], 1⟩ dI.K
theorem dI.eq (n0 : Nat) (a0 a1 : Int) (a2 a3 : Int) : dI.f n0 a0 a1 a2 a3 = ((bJ.f n0 a0 [a2, a3]).bind fun t0 => (if t0.2.2.2.2.2.2 = true then (some ((t0.1, t0.2.1, t0.2.2.1, t0.2.2.2.1, t0.2.2.2.2.1, t0.2.2.2.2.2.1))) else ((dR.f n0 a0 a2 a3).bind fun t1 => (if t1 = true then ((eT.f a0).bind fun t2 => (some ((t2.1, t2.2.1, t2.2.2.1, t2.2.2.2.1, t2.2.2.2.2.1, t2.2.2.2.2.2)))) else ((dQ.f a0 a2).bind fun t2 => ((dQ.f a0 a3).bind fun t3 => ((aV.f n0 a0 a2).bind fun t4 => (if t4 = true then (dI.j8 n0 (true) (!(t2 == t3)) (a3) (a2) (a1) (a0) (false) (false) (false) (false) (false)) else ((aV.f n0 a0 a3).bind fun t5 => (dI.j8 n0 (t5) (!(t2 == t3)) (a3) (a2) (a1) (a0) (false) (false) (false) (false) (false))))))))))) := by kernel_rfl
theorem dI.j8_eq (n0 : Nat) (x0 x1 : Bool) (x2 x3 : Int) (x4 x5 : Int) (x6 x7 : Bool) (x8 x9 x10 : Bool) : dI.j8 n0 x0 x1 x2 x3 x4 x5 x6 x7 x8 x9 x10 = (if x0 = true then ((dF.f x5 x1).bind fun t0 => (some ((t0, false, false, false, false, false)))) else ((dY.f x5 x3 x2).bind fun t0 => ((aC.f n0 x5 x4 x1 t0.2.1 t0.2.2.1 false).bind fun t1 => (some ((t1.1, t1.2.1, t1.2.2.1, t1.2.2.2.1, t1.2.2.2.2.1, t1.2.2.2.2.2)))))) := by kernel_rfl
end Go.Proofs.YtolpdiifmacdbaaGreat.L

/- What the reckoner tells of printed functions. -/
namespace Go.Proofs.YtolpdiifmacdbaaGreat.P
open Go.RowKit Go.Proofs.YtolpdiifmacdbaaGreatW.PrintWords Go.Proofs.YtolpdiifmacdbaaGreatW.PrintLast Go.Proofs.YtolpdiifmacdbaaGreatW.PrintMore
set_option maxRecDepth 100000
set_option maxHeartbeats 4000000 in
theorem dV.le {k n : Nat} (hk : k ≤ n) {a0 a1 a2 : Int} : LeO (dV.f k a0 a1 a2) (L.dV.f n a0 a1 a2) := by
 unfold dV.f
 rw [L.dV.eq]
 try simp only [Bool.and_true]
 repeat' first
  |(with_reducible exact LeO.refl _)
  |exact LeO.none _
  |(with_reducible first|exact fun r h => at_rounds (bJ.mono _ _) hk h|exact fun r h => at_rounds (bH.mono _ _) hk h|exact fun r h => at_rounds (aV.mono _ _) hk h|exact fun r h => at_rounds (bits_Len.mono _) hk h|exact fun r h => at_rounds (aU.mono _ _) hk h|exact fun r h => at_rounds (dL.mono _) hk h|exact aC.le hk|refine LeO.bind ?_ (fun _ => ?_)|refine LeO.iI Iff.rfl (fun _ => ?_) (fun _ => ?_))
  |exact fun r h => at_rounds (bJ.mono _ _) hk h
  |exact fun r h => at_rounds (bH.mono _ _) hk h
  |exact fun r h => at_rounds (aV.mono _ _) hk h
  |exact fun r h => at_rounds (bits_Len.mono _) hk h
  |exact fun r h => at_rounds (aU.mono _ _) hk h
  |exact fun r h => at_rounds (dL.mono _) hk h
  |exact aC.le hk
  |exact LeO.refl _
  |(with_reducible first|refine LeO.pos (by assumption) ?_|refine LeO.neg (by assumption) ?_|refine LeO.mY (by assumption) ?_|refine LeO.mZ (by assumption) ?_|refine LeO.iI (by omega) (fun _ => ?_) (fun _ => ?_))
theorem dV.calls (k : Nat) (a0 a1 : Int) (a2 r1 : Int) (r2 r3 : Bool) (r4 r5 r6 : Bool) (w : World) (h : dV.f k a0 a1 a2 = some (r1, r2, r3, r4, r5, r6)) :
  Calls Tryz.prog 101 #[.int .i64 a0, .int .i64 a1, .int .u32 a2] w fun e w' => e = .returned (.tuple #[.int .u32 r1, .agg #[.bool r2, .bool r3, .bool r4, .bool r5, .bool r6]]) ∧ Below w.heap.size w w' :=
 Go.Proofs.YtolpdiifmacdbaaGreat.Ek.kI L.dV.ok k ((a0, ()), (a1, ()), (a2, ()), ()) (r1, r2, r3, r4, r5, r6) rfl (dV.le (Nat.le_refl _) _ h) w
theorem aY.iV {k n : Nat} (hk : k ≤ n) {x0 x1 : Int} {x16 x99 x337000 : Bool} {x337001 x337002 : Int} {x337003 x342000 : Bool} {x342001 x342002 : Int} {x342003 ex12 : Bool} {ex13 ex14 : Bool} {ex15 ex16 : Bool} : LeO (aY.j2 k x0 x1 x16 x99 x337000 x337001 x337002 x337003 x342000 x342001 x342002 x342003) (L.aY.j15 n x99 x16 x1 x0 x342000 x342001 x342002 x342003 x337000 x337001 x337002 x337003 ex12 ex13 ex14 ex15 ex16) := by
 cases k with
 |zero => rw [aY.j2]; exact LeO.none _
 |succ k =>
 replace hk := Nat.le_of_succ_le hk
 rw [aY.j2, L.aY.aAD]
 repeat' first
  |(with_reducible exact LeO.refl _)
  |exact LeO.none _
  |(with_reducible first|exact fun r h => at_rounds (dR.mono _ _ _) hk h|exact fun r h => at_rounds (bJ.mono _ _) hk h|exact fun r h => at_rounds (aV.mono _ _) hk h|exact fun r h => at_rounds (bC.mono _ _ _ _ _) hk h|exact aT.le hk|exact aC.le hk|refine LeO.bind ?_ (fun _ => ?_)|refine LeO.iI Iff.rfl (fun _ => ?_) (fun _ => ?_))
  |exact fun r h => at_rounds (dR.mono _ _ _) hk h
  |exact fun r h => at_rounds (bJ.mono _ _) hk h
  |exact fun r h => at_rounds (aV.mono _ _) hk h
  |exact fun r h => at_rounds (bC.mono _ _ _ _ _) hk h
  |exact aT.le hk
  |exact aC.le hk
  |exact LeO.refl _
  |(with_reducible first|refine LeO.pos (by assumption) ?_|refine LeO.neg (by assumption) ?_|refine LeO.mY (by assumption) ?_|refine LeO.mZ (by assumption) ?_|refine LeO.iI (by omega) (fun _ => ?_) (fun _ => ?_))
theorem aY.jR {k n : Nat} (hk : k ≤ n) {x0 x1 : Int} {x2 x3 x4 : Int} {x16 x17 : Bool} {x18 x71 : Bool} {ex9 ex10 : Bool} {ex11 ex12 ex13 : Bool} : LeO (aY.j1 k x0 x1 x2 x3 x4 x16 x17 x18 x71) (L.aY.j11 n x71 x18 x17 x16 x4 x3 x2 x1 x0 ex9 ex10 ex11 ex12 ex13) := by
 cases k with
 |zero => rw [aY.j1]; exact LeO.none _
 |succ k =>
 replace hk := Nat.le_of_succ_le hk
 rw [aY.j1, L.aY.vF]
 repeat' first
  |(with_reducible exact LeO.refl _)
  |exact LeO.none _
  |(with_reducible first|exact aY.iV hk|exact fun r h => at_rounds (dR.mono _ _ _) hk h|exact fun r h => at_rounds (bJ.mono _ _) hk h|exact fun r h => at_rounds (aV.mono _ _) hk h|exact fun r h => at_rounds (bC.mono _ _ _ _ _) hk h|exact aT.le hk|exact aC.le hk|refine LeO.bind ?_ (fun _ => ?_)|refine LeO.iI Iff.rfl (fun _ => ?_) (fun _ => ?_))
  |exact aY.iV hk
  |exact fun r h => at_rounds (dR.mono _ _ _) hk h
  |exact fun r h => at_rounds (bJ.mono _ _) hk h
  |exact fun r h => at_rounds (aV.mono _ _) hk h
  |exact fun r h => at_rounds (bC.mono _ _ _ _ _) hk h
  |exact aT.le hk
  |exact aC.le hk
  |exact LeO.refl _
  |(with_reducible first|refine LeO.pos (by assumption) ?_|refine LeO.neg (by assumption) ?_|refine LeO.mY (by assumption) ?_|refine LeO.mZ (by assumption) ?_|refine LeO.iI (by omega) (fun _ => ?_) (fun _ => ?_))
theorem aY.mF {k n : Nat} (hk : k ≤ n) {x0 x1 : Int} {x2 x3 x4 : Int} {x16 x17 : Bool} {x18 ex8 : Bool} {ex9 ex10 : Bool} {ex11 ex12 : Bool} : LeO (aY.j0 k x0 x1 x2 x3 x4 x16 x17 x18) (L.aY.j10 n x18 x17 x16 x4 x3 x2 x1 x0 ex8 ex9 ex10 ex11 ex12) := by
 cases k with
 |zero => rw [aY.j0]; exact LeO.none _
 |succ k =>
 replace hk := Nat.le_of_succ_le hk
 rw [aY.j0, L.aY.j10_eq]
 repeat' first
  |(with_reducible exact LeO.refl _)
  |exact LeO.none _
  |(with_reducible first|exact aY.iV hk|exact aY.jR hk|exact fun r h => at_rounds (dR.mono _ _ _) hk h|exact fun r h => at_rounds (bJ.mono _ _) hk h|exact fun r h => at_rounds (aV.mono _ _) hk h|exact fun r h => at_rounds (bC.mono _ _ _ _ _) hk h|exact aT.le hk|exact aC.le hk|refine LeO.bind ?_ (fun _ => ?_)|refine LeO.iI Iff.rfl (fun _ => ?_) (fun _ => ?_))
  |exact aY.iV hk
  |exact aY.jR hk
  |exact fun r h => at_rounds (dR.mono _ _ _) hk h
  |exact fun r h => at_rounds (bJ.mono _ _) hk h
  |exact fun r h => at_rounds (aV.mono _ _) hk h
  |exact fun r h => at_rounds (bC.mono _ _ _ _ _) hk h
  |exact aT.le hk
  |exact aC.le hk
  |exact LeO.refl _
  |(with_reducible first|refine LeO.pos (by assumption) ?_|refine LeO.neg (by assumption) ?_|refine LeO.mY (by assumption) ?_|refine LeO.mZ (by assumption) ?_|refine LeO.iI (by omega) (fun _ => ?_) (fun _ => ?_))
set_option maxHeartbeats 4000000 in
theorem aY.le {k n : Nat} (hk : k ≤ n) {a0 a1 : Int} {a2 a3 a4 : Int} : LeO (aY.f k a0 a1 a2 a3 a4) (L.aY.f n a0 a1 a2 a3 a4) := by
 unfold aY.f
 rw [L.aY.eq]
 try simp only [Bool.and_true]
 repeat' first
  |(with_reducible exact LeO.refl _)
  |exact LeO.none _
  |(with_reducible first|exact aY.iV hk|exact aY.jR hk|exact aY.mF hk|exact fun r h => at_rounds (dR.mono _ _ _) hk h|exact fun r h => at_rounds (bJ.mono _ _) hk h|exact fun r h => at_rounds (aV.mono _ _) hk h|exact fun r h => at_rounds (bC.mono _ _ _ _ _) hk h|exact aT.le hk|exact aC.le hk|refine LeO.bind ?_ (fun _ => ?_)|refine LeO.iI Iff.rfl (fun _ => ?_) (fun _ => ?_))
  |exact aY.iV hk
  |exact aY.jR hk
  |exact aY.mF hk
  |exact fun r h => at_rounds (dR.mono _ _ _) hk h
  |exact fun r h => at_rounds (bJ.mono _ _) hk h
  |exact fun r h => at_rounds (aV.mono _ _) hk h
  |exact fun r h => at_rounds (bC.mono _ _ _ _ _) hk h
  |exact aT.le hk
  |exact aC.le hk
  |exact LeO.refl _
  |(with_reducible first|refine LeO.pos (by assumption) ?_|refine LeO.neg (by assumption) ?_|refine LeO.mY (by assumption) ?_|refine LeO.mZ (by assumption) ?_|refine LeO.iI (by omega) (fun _ => ?_) (fun _ => ?_))
theorem aY.calls (k : Nat) (a0 a1 : Int) (a2 a3 : Int) (a4 r1 : Int) (r2 r3 : Bool) (r4 r5 r6 : Bool) (w : World) (h : aY.f k a0 a1 a2 a3 a4 = some (r1, r2, r3, r4, r5, r6)) :
  Calls Tryz.prog 131 #[.int .i64 a0, .int .i64 a1, .int .u32 a2, .int .u32 a3, .int .u32 a4] w fun e w' => e = .returned (.tuple #[.int .u32 r1, .agg #[.bool r2, .bool r3, .bool r4, .bool r5, .bool r6]]) ∧ Below w.heap.size w w' :=
 Go.Proofs.YtolpdiifmacdbaaGreat.Ek.kI L.aY.ok k ((a0, ()), (a1, ()), (a2, ()), (a3, ()), (a4, ()), ()) (r1, r2, r3, r4, r5, r6) rfl (aY.le (Nat.le_refl _) _ h) w
theorem bN.jR {k n : Nat} (hk : k ≤ n) {x0 x1 : Int} {x2 x3 : Int} {x13 : Bool} {x15 : Int} {x69 ex7 : Bool} {ex8 ex9 : Bool} {ex10 ex11 : Bool} : LeO (bN.j1 k x0 x1 x2 x3 x13 x15 x69) (L.bN.j11 n x69 x15 x13 x3 x2 x1 x0 ex7 ex8 ex9 ex10 ex11) := by
 cases k with
 |zero => rw [bN.j1]; exact LeO.none _
 |succ k =>
 replace hk := Nat.le_of_succ_le hk
 rw [bN.j1, L.bN.vF]
 repeat' first
  |(with_reducible exact LeO.refl _)
  |exact LeO.none _
  |(with_reducible first|exact fun r h => at_rounds (bJ.mono _ _) hk h|exact fun r h => at_rounds (aW.mono _ _) hk h|exact fun r h => at_rounds (bits_Len.mono _) hk h|exact fun r h => at_rounds (aU.mono _ _) hk h|exact aC.le hk|refine LeO.bind ?_ (fun _ => ?_)|refine LeO.iI Iff.rfl (fun _ => ?_) (fun _ => ?_))
  |exact fun r h => at_rounds (bJ.mono _ _) hk h
  |exact fun r h => at_rounds (aW.mono _ _) hk h
  |exact fun r h => at_rounds (bits_Len.mono _) hk h
  |exact fun r h => at_rounds (aU.mono _ _) hk h
  |exact aC.le hk
  |exact LeO.refl _
  |(with_reducible first|refine LeO.pos (by assumption) ?_|refine LeO.neg (by assumption) ?_|refine LeO.mY (by assumption) ?_|refine LeO.mZ (by assumption) ?_|refine LeO.iI (by omega) (fun _ => ?_) (fun _ => ?_))
theorem bN.mF {k n : Nat} (hk : k ≤ n) {x0 x1 : Int} {x2 x3 : Int} {x13 : Bool} {x14 x15 : Int} {x46 ex8 : Bool} {ex9 ex10 : Bool} {ex11 ex12 : Bool} : LeO (bN.j0 k x0 x1 x2 x3 x13 x14 x15 x46) (L.bN.j7 n x46 x15 x14 x13 x3 x2 x1 x0 ex8 ex9 ex10 ex11 ex12) := by
 cases k with
 |zero => rw [bN.j0]; exact LeO.none _
 |succ k =>
 replace hk := Nat.le_of_succ_le hk
 rw [bN.j0, L.bN.j7_eq]
 repeat' first
  |(with_reducible exact LeO.refl _)
  |exact LeO.none _
  |(with_reducible first|exact bN.jR hk|exact fun r h => at_rounds (bJ.mono _ _) hk h|exact fun r h => at_rounds (aW.mono _ _) hk h|exact fun r h => at_rounds (bits_Len.mono _) hk h|exact fun r h => at_rounds (aU.mono _ _) hk h|exact aC.le hk|refine LeO.bind ?_ (fun _ => ?_)|refine LeO.iI Iff.rfl (fun _ => ?_) (fun _ => ?_))
  |exact bN.jR hk
  |exact fun r h => at_rounds (bJ.mono _ _) hk h
  |exact fun r h => at_rounds (aW.mono _ _) hk h
  |exact fun r h => at_rounds (bits_Len.mono _) hk h
  |exact fun r h => at_rounds (aU.mono _ _) hk h
  |exact aC.le hk
  |exact LeO.refl _
  |(with_reducible first|refine LeO.pos (by assumption) ?_|refine LeO.neg (by assumption) ?_|refine LeO.mY (by assumption) ?_|refine LeO.mZ (by assumption) ?_|refine LeO.iI (by omega) (fun _ => ?_) (fun _ => ?_))
set_option maxHeartbeats 4000000 in
theorem bN.le {k n : Nat} (hk : k ≤ n) {a0 a1 : Int} {a2 a3 : Int} : LeO (bN.f k a0 a1 a2 a3) (L.bN.f n a0 a1 a2 a3) := by
 unfold bN.f
 rw [L.bN.eq]
 try simp only [Bool.and_true]
 repeat' first
  |(with_reducible exact LeO.refl _)
  |exact LeO.none _
  |(with_reducible first|exact bN.jR hk|exact bN.mF hk|exact fun r h => at_rounds (bJ.mono _ _) hk h|exact fun r h => at_rounds (aW.mono _ _) hk h|exact fun r h => at_rounds (bits_Len.mono _) hk h|exact fun r h => at_rounds (aU.mono _ _) hk h|exact aC.le hk|refine LeO.bind ?_ (fun _ => ?_)|refine LeO.iI Iff.rfl (fun _ => ?_) (fun _ => ?_))
  |exact bN.jR hk
  |exact bN.mF hk
  |exact fun r h => at_rounds (bJ.mono _ _) hk h
  |exact fun r h => at_rounds (aW.mono _ _) hk h
  |exact fun r h => at_rounds (bits_Len.mono _) hk h
  |exact fun r h => at_rounds (aU.mono _ _) hk h
  |exact aC.le hk
  |exact LeO.refl _
  |(with_reducible first|refine LeO.pos (by assumption) ?_|refine LeO.neg (by assumption) ?_|refine LeO.mY (by assumption) ?_|refine LeO.mZ (by assumption) ?_|refine LeO.iI (by omega) (fun _ => ?_) (fun _ => ?_))
theorem bN.calls (k : Nat) (a0 a1 : Int) (a2 a3 r1 : Int) (r2 r3 : Bool) (r4 r5 r6 : Bool) (w : World) (h : bN.f k a0 a1 a2 a3 = some (r1, r2, r3, r4, r5, r6)) :
  Calls Tryz.prog 102 #[.int .i64 a0, .int .i64 a1, .int .u32 a2, .int .u32 a3] w fun e w' => e = .returned (.tuple #[.int .u32 r1, .agg #[.bool r2, .bool r3, .bool r4, .bool r5, .bool r6]]) ∧ Below w.heap.size w w' :=
 Go.Proofs.YtolpdiifmacdbaaGreat.Ek.kI L.bN.ok k ((a0, ()), (a1, ()), (a2, ()), (a3, ()), ()) (r1, r2, r3, r4, r5, r6) rfl (bN.le (Nat.le_refl _) _ h) w
theorem dI.mF {k n : Nat} (hk : k ≤ n) {x0 x1 : Int} {x2 x3 : Int} {x13 x49 : Bool} {ex6 ex7 : Bool} {ex8 ex9 ex10 : Bool} : LeO (dI.j0 k x0 x1 x2 x3 x13 x49) (L.dI.j8 n x49 x13 x3 x2 x1 x0 ex6 ex7 ex8 ex9 ex10) := by
 cases k with
 |zero => rw [dI.j0]; exact LeO.none _
 |succ k =>
 replace hk := Nat.le_of_succ_le hk
 rw [dI.j0, L.dI.j8_eq]
 repeat' first
  |(with_reducible exact LeO.refl _)
  |exact LeO.none _
  |(with_reducible first|exact fun r h => at_rounds (bJ.mono _ _) hk h|exact fun r h => at_rounds (dR.mono _ _ _) hk h|exact fun r h => at_rounds (aV.mono _ _) hk h|exact aC.le hk|refine LeO.bind ?_ (fun _ => ?_)|refine LeO.iI Iff.rfl (fun _ => ?_) (fun _ => ?_))
  |exact fun r h => at_rounds (bJ.mono _ _) hk h
  |exact fun r h => at_rounds (dR.mono _ _ _) hk h
  |exact fun r h => at_rounds (aV.mono _ _) hk h
  |exact aC.le hk
  |exact LeO.refl _
  |(with_reducible first|refine LeO.pos (by assumption) ?_|refine LeO.neg (by assumption) ?_|refine LeO.mY (by assumption) ?_|refine LeO.mZ (by assumption) ?_|refine LeO.iI (by omega) (fun _ => ?_) (fun _ => ?_))
set_option maxHeartbeats 4000000 in
theorem dI.le {k n : Nat} (hk : k ≤ n) {a0 a1 : Int} {a2 a3 : Int} : LeO (dI.f k a0 a1 a2 a3) (L.dI.f n a0 a1 a2 a3) := by
 unfold dI.f
 rw [L.dI.eq]
 try simp only [Bool.and_true]
 repeat' first
  |(with_reducible exact LeO.refl _)
  |exact LeO.none _
  |(with_reducible first|exact dI.mF hk|exact fun r h => at_rounds (bJ.mono _ _) hk h|exact fun r h => at_rounds (dR.mono _ _ _) hk h|exact fun r h => at_rounds (aV.mono _ _) hk h|exact aC.le hk|refine LeO.bind ?_ (fun _ => ?_)|refine LeO.iI Iff.rfl (fun _ => ?_) (fun _ => ?_))
  |exact dI.mF hk
  |exact fun r h => at_rounds (bJ.mono _ _) hk h
  |exact fun r h => at_rounds (dR.mono _ _ _) hk h
  |exact fun r h => at_rounds (aV.mono _ _) hk h
  |exact aC.le hk
  |exact LeO.refl _
  |(with_reducible first|refine LeO.pos (by assumption) ?_|refine LeO.neg (by assumption) ?_|refine LeO.mY (by assumption) ?_|refine LeO.mZ (by assumption) ?_|refine LeO.iI (by omega) (fun _ => ?_) (fun _ => ?_))
theorem dI.calls (k : Nat) (a0 a1 : Int) (a2 a3 r1 : Int) (r2 r3 : Bool) (r4 r5 r6 : Bool) (w : World) (h : dI.f k a0 a1 a2 a3 = some (r1, r2, r3, r4, r5, r6)) :
  Calls Tryz.prog 106 #[.int .i64 a0, .int .i64 a1, .int .u32 a2, .int .u32 a3] w fun e w' => e = .returned (.tuple #[.int .u32 r1, .agg #[.bool r2, .bool r3, .bool r4, .bool r5, .bool r6]]) ∧ Below w.heap.size w w' :=
 Go.Proofs.YtolpdiifmacdbaaGreat.Ek.kI L.dI.ok k ((a0, ()), (a1, ()), (a2, ()), (a3, ()), ()) (r1, r2, r3, r4, r5, r6) rfl (dI.le (Nat.le_refl _) _ h) w
attribute [local go_sem] max2_int min2_int max_two min_two max_three min_three max_four min_four

-- NEED 3
/-! ### jU: function 40 -/
def jU.f (k : Nat) (a0 : Int) : Option (Int) := (dV.f k 2 0 a0).bind fun bt239 => (some bt239.1)
theorem jU.calls (k : Nat) (a0 r : Int) (w : World) (h : jU.f k a0 = some r) :
  Calls Tryz.prog 40 #[.int .u32 a0] w fun e w' => e = .returned (.int .u32 r) ∧ Below w.heap.size w w' := by
 have hu62 := Tryz.underlying62
 have HB := Aside0.mk (Below.refl w.heap.size w)
 have H : ((dV.f k 2 0 a0).bind fun bt239 => (some bt239.1)) = some r := h
 clear h
 replace H := bq_ H
 obtain ⟨⟨t239, t240, t241, t242, t243, t244⟩, A20, H⟩ := H
 replace H : (some t239) = some r := H
 have A2 := Aside0.mk A20
 clear A20
 obtain rfl := Option.some.inj H
 go_enter Tryz.func40, Tryz.ntmps40
 go_wp2_with (first | ((with_reducible refine gate_callee (f := 101) rfl ?_); refine goesL_ (some 7) rfl rfl Tryz.func101 (by kernel_rfl) rfl #[.int .i64 2, .int .i64 0, .int .u32 a0] rfl gl ?_; (with_reducible refine (dV.calls k 2 0 a0 t239 t240 t241 t242 t243 t244 _ A2.out).mono ?_); rintro e w3 ⟨rfl, hb⟩; refine ⟨_, rfl, ?_⟩; have n0_ := Aside0.mk (below_step (bl0 HB.out) hb); clear HB; have HB := n0_; clear n0_) | ((with_reducible refine gate_dst (N := 4) rfl ?_); refine box_event ?hg (N := 4) ?hd (cs := F5) (t := 62) ?hr ?_; (case hd => rfl); (case hg => rfl); (case hr => first | (go_simp; done) | (go_simp; rfl)); intro gb245 hg w4 hbox hb; have n0_ := Aside0.mk (below_step (bl0 HB.out) hb); have n1_ := Aside0.mk (hbox); have n2_ := Aside0.mk ((by rw [hg]; exact (below_size (bl0 HB.out)) : w.heap.size ≤ gb245)); have n3_ := n2_; clear HB; have HB := n0_; have BK245 := n1_; have GW245 := n2_; have GE245 := n3_; clear n0_ n1_ n2_ n3_; clear hb hbox hg; obtain ⟨hcz5_0, hcz5_1, hcz5_2, hcz5_3, hcz5_4⟩ := bc5 BK245.out; obtain ⟨hfz5_0, hfz5_1, hfz5_2, hfz5_3, hfz5_4⟩ := bf5 BK245.out))
 go_ret
 exact ⟨by first | rfl | (simp [dE, dD] <;> rfl) | (simp [*, dE, dD] <;> rfl), bl1 HB.out GE245.out⟩

attribute [local go_sem] max2_int min2_int max_two min_two max_three min_three max_four min_four

-- NEED 3
/-! ### kP: function 95 -/
def kP.f (k : Nat) (a0 a1 a2 : Int) : Option (Int) := (aY.f k 2 0 a0 a1 a2).bind fun bt349 => (some bt349.1)
theorem kP.calls (k : Nat) (a0 a1 : Int) (a2 r : Int) (w : World) (h : kP.f k a0 a1 a2 = some r) :
  Calls Tryz.prog 95 #[.int .u32 a0, .int .u32 a1, .int .u32 a2] w fun e w' => e = .returned (.int .u32 r) ∧ Below w.heap.size w w' := by
 have hu62 := Tryz.underlying62
 have HB := Aside0.mk (Below.refl w.heap.size w)
 have H : ((aY.f k 2 0 a0 a1 a2).bind fun bt349 => (some bt349.1)) = some r := h
 clear h
 replace H := bq_ H
 obtain ⟨⟨t349, t350, t351, t352, t353, t354⟩, A40, H⟩ := H
 replace H : (some t349) = some r := H
 have A4 := Aside0.mk A40
 clear A40
 obtain rfl := Option.some.inj H
 go_enter Tryz.func95, Tryz.ntmps95
 go_wp2_with (first | ((with_reducible refine gate_callee (f := 131) rfl ?_); refine goesL_ (some 13) rfl rfl Tryz.func131 (by kernel_rfl) rfl #[.int .i64 2, .int .i64 0, .int .u32 a0, .int .u32 a1, .int .u32 a2] rfl gl ?_; (with_reducible refine (aY.calls k 2 0 a0 a1 a2 t349 t350 t351 t352 t353 t354 _ A4.out).mono ?_); rintro e w5 ⟨rfl, hb⟩; refine ⟨_, rfl, ?_⟩; have n0_ := Aside0.mk (below_step (bl0 HB.out) hb); clear HB; have HB := n0_; clear n0_) | ((with_reducible refine gate_dst (N := 8) rfl ?_); refine box_event ?hg (N := 8) ?hd (cs := F5) (t := 62) ?hr ?_; (case hd => rfl); (case hg => rfl); (case hr => first | (go_simp; done) | (go_simp; rfl)); intro gb355 hg w6 hbox hb; have n0_ := Aside0.mk (below_step (bl0 HB.out) hb); have n1_ := Aside0.mk (hbox); have n2_ := Aside0.mk ((by rw [hg]; exact (below_size (bl0 HB.out)) : w.heap.size ≤ gb355)); have n3_ := n2_; clear HB; have HB := n0_; have BK355 := n1_; have GW355 := n2_; have GE355 := n3_; clear n0_ n1_ n2_ n3_; clear hb hbox hg; obtain ⟨hcz7_0, hcz7_1, hcz7_2, hcz7_3, hcz7_4⟩ := bc5 BK355.out; obtain ⟨hfz7_0, hfz7_1, hfz7_2, hfz7_3, hfz7_4⟩ := bf5 BK355.out))
 go_ret
 exact ⟨by first | rfl | (simp [dE, dD] <;> rfl) | (simp [*, dE, dD] <;> rfl), bl1 HB.out GE355.out⟩

-- NEED 3
/-! ### clip_Length: function 35 -/
attribute [local go_sem] max2_int min2_int max_two min_two max_three min_three max_four min_four

-- NEED 3
/-! ### kU: function 41 -/
def kU.f (k : Nat) (a0 a1 : Int) : Option (Int) := (bN.f k 2 0 a0 a1).bind fun bt413 => (some bt413.1)
theorem kU.calls (k : Nat) (a0 a1 r : Int) (w : World) (h : kU.f k a0 a1 = some r) :
  Calls Tryz.prog 41 #[.int .u32 a0, .int .u32 a1] w fun e w' => e = .returned (.int .u32 r) ∧ Below w.heap.size w w' := by
 have hu62 := Tryz.underlying62
 have HB := Aside0.mk (Below.refl w.heap.size w)
 have H : ((bN.f k 2 0 a0 a1).bind fun bt413 => (some bt413.1)) = some r := h
 clear h
 replace H := bq_ H
 obtain ⟨⟨t413, t414, t415, t416, t417, t418⟩, A30, H⟩ := H
 replace H : (some t413) = some r := H
 have A3 := Aside0.mk A30
 clear A30
 obtain rfl := Option.some.inj H
 go_enter Tryz.func41, Tryz.ntmps41
 go_wp2_with (first | ((with_reducible refine gate_callee (f := 102) rfl ?_); refine goesL_ (some 10) rfl rfl Tryz.func102 (by kernel_rfl) rfl #[.int .i64 2, .int .i64 0, .int .u32 a0, .int .u32 a1] rfl gl ?_; (with_reducible refine (bN.calls k 2 0 a0 a1 t413 t414 t415 t416 t417 t418 _ A3.out).mono ?_); rintro e w4 ⟨rfl, hb⟩; refine ⟨_, rfl, ?_⟩; have n0_ := Aside0.mk (below_step (bl0 HB.out) hb); clear HB; have HB := n0_; clear n0_) | ((with_reducible refine gate_dst (N := 6) rfl ?_); refine box_event ?hg (N := 6) ?hd (cs := F5) (t := 62) ?hr ?_; (case hd => rfl); (case hg => rfl); (case hr => first | (go_simp; done) | (go_simp; rfl)); intro gb419 hg w5 hbox hb; have n0_ := Aside0.mk (below_step (bl0 HB.out) hb); have n1_ := Aside0.mk (hbox); have n2_ := Aside0.mk ((by rw [hg]; exact (below_size (bl0 HB.out)) : w.heap.size ≤ gb419)); have n3_ := n2_; clear HB; have HB := n0_; have BK419 := n1_; have GW419 := n2_; have GE419 := n3_; clear n0_ n1_ n2_ n3_; clear hb hbox hg; obtain ⟨hcz6_0, hcz6_1, hcz6_2, hcz6_3, hcz6_4⟩ := bc5 BK419.out; obtain ⟨hfz6_0, hfz6_1, hfz6_2, hfz6_3, hfz6_4⟩ := bf5 BK419.out))
 go_ret
 exact ⟨by first | rfl | (simp [dE, dD] <;> rfl) | (simp [*, dE, dD] <;> rfl), bl1 HB.out GE419.out⟩

attribute [local go_sem] max2_int min2_int max_two min_two max_three min_three max_four min_four

-- NEED 3
/-! ### kM: function 47 -/
def kM.f (k : Nat) (a0 a1 : Int) : Option (Int) := (dI.f k 2 0 a0 a1).bind fun bt477 => (some bt477.1)
theorem kM.calls (k : Nat) (a0 a1 r : Int) (w : World) (h : kM.f k a0 a1 = some r) :
  Calls Tryz.prog 47 #[.int .u32 a0, .int .u32 a1] w fun e w' => e = .returned (.int .u32 r) ∧ Below w.heap.size w w' := by
 have hu62 := Tryz.underlying62
 have HB := Aside0.mk (Below.refl w.heap.size w)
 have H : ((dI.f k 2 0 a0 a1).bind fun bt477 => (some bt477.1)) = some r := h
 clear h
 replace H := bq_ H
 obtain ⟨⟨t477, t478, t479, t480, t481, t482⟩, A30, H⟩ := H
 replace H : (some t477) = some r := H
 have A3 := Aside0.mk A30
 clear A30
 obtain rfl := Option.some.inj H
 go_enter Tryz.func47, Tryz.ntmps47
 go_wp2_with (first | ((with_reducible refine gate_callee (f := 106) rfl ?_); refine goesL_ (some 10) rfl rfl Tryz.func106 (by kernel_rfl) rfl #[.int .i64 2, .int .i64 0, .int .u32 a0, .int .u32 a1] rfl gl ?_; (with_reducible refine (dI.calls k 2 0 a0 a1 t477 t478 t479 t480 t481 t482 _ A3.out).mono ?_); rintro e w4 ⟨rfl, hb⟩; refine ⟨_, rfl, ?_⟩; have n0_ := Aside0.mk (below_step (bl0 HB.out) hb); clear HB; have HB := n0_; clear n0_) | ((with_reducible refine gate_dst (N := 6) rfl ?_); refine box_event ?hg (N := 6) ?hd (cs := F5) (t := 62) ?hr ?_; (case hd => rfl); (case hg => rfl); (case hr => first | (go_simp; done) | (go_simp; rfl)); intro gb483 hg w5 hbox hb; have n0_ := Aside0.mk (below_step (bl0 HB.out) hb); have n1_ := Aside0.mk (hbox); have n2_ := Aside0.mk ((by rw [hg]; exact (below_size (bl0 HB.out)) : w.heap.size ≤ gb483)); have n3_ := n2_; clear HB; have HB := n0_; have BK483 := n1_; have GW483 := n2_; have GE483 := n3_; clear n0_ n1_ n2_ n3_; clear hb hbox hg; obtain ⟨hcz6_0, hcz6_1, hcz6_2, hcz6_3, hcz6_4⟩ := bc5 BK483.out; obtain ⟨hfz6_0, hfz6_1, hfz6_2, hfz6_3, hfz6_4⟩ := bf5 BK483.out))
 go_ret
 exact ⟨by first | rfl | (simp [dE, dD] <;> rfl) | (simp [*, dE, dD] <;> rfl), bl1 HB.out GE483.out⟩

attribute [local go_sem] max2_int min2_int max_two min_two max_three min_three max_four min_four

-- EVALUATED
/-! ### aN: function 34 -/
noncomputable def aN.f (k : Nat) (a0 a1 : Int) (a2 a3 a4 : Int) : Option (Int × Bool × Bool × Bool × Bool × Bool) := Go.Proofs.YtolpdiifmacdbaaGreat.E.aN.f k a0 a1 a2 a3 a4
theorem aN.calls (k : Nat) (a0 a1 : Int) (a2 a3 : Int) (a4 r1 : Int) (r2 r3 : Bool) (r4 r5 r6 : Bool) (w : World) (h : aN.f k a0 a1 a2 a3 a4 = some (r1, r2, r3, r4, r5, r6)) :
  Calls Tryz.prog 34 #[.int .i64 a0, .int .i64 a1, .int .u32 a2, .int .u32 a3, .int .u32 a4] w fun e w' => e = .returned (.tuple #[.int .u32 r1, .agg #[.bool r2, .bool r3, .bool r4, .bool r5, .bool r6]]) ∧ Below w.heap.size w w' :=
 Go.Proofs.YtolpdiifmacdbaaGreat.Ek.kI Go.Proofs.YtolpdiifmacdbaaGreat.E.aN.ok k ((a0, ()), (a1, ()), (a2, ()), (a3, ()), (a4, ()), ()) (r1, r2, r3, r4, r5, r6) rfl h w

attribute [local go_sem] max2_int min2_int max_two min_two max_three min_three max_four min_four

-- NEED 4
/-! ### fV: function 9 -/
noncomputable def fV.f (k : Nat) (a0 a1 a2 : Int) : Option (Int) := (aN.f k 2 0 a0 a1 a2).bind fun bt691 => (some bt691.1)
theorem fV.calls (k : Nat) (a0 a1 : Int) (a2 r : Int) (w : World) (h : fV.f k a0 a1 a2 = some r) :
  Calls Tryz.prog 9 #[.int .u32 a0, .int .u32 a1, .int .u32 a2] w fun e w' => e = .returned (.int .u32 r) ∧ Below w.heap.size w w' := by
 have hu62 := Tryz.underlying62
 have HB := Aside0.mk (Below.refl w.heap.size w)
 have H : ((aN.f k 2 0 a0 a1 a2).bind fun bt691 => (some bt691.1)) = some r := h
 clear h
 replace H := bq_ H
 obtain ⟨⟨t691, t692, t693, t694, t695, t696⟩, A40, H⟩ := H
 replace H : (some t691) = some r := H
 have A4 := Aside0.mk A40
 clear A40
 obtain rfl := Option.some.inj H
 go_enter Tryz.func9, Tryz.ntmps9
 go_wp2_with (first | ((with_reducible refine gate_callee (f := 34) rfl ?_); refine goesL_ (some 13) rfl rfl Tryz.func34 (by kernel_rfl) rfl #[.int .i64 2, .int .i64 0, .int .u32 a0, .int .u32 a1, .int .u32 a2] rfl gl ?_; (with_reducible refine (aN.calls k 2 0 a0 a1 a2 t691 t692 t693 t694 t695 t696 _ A4.out).mono ?_); rintro e w5 ⟨rfl, hb⟩; refine ⟨_, rfl, ?_⟩; have n0_ := Aside0.mk (below_step (bl0 HB.out) hb); clear HB; have HB := n0_; clear n0_) | ((with_reducible refine gate_dst (N := 8) rfl ?_); refine box_event ?hg (N := 8) ?hd (cs := F5) (t := 62) ?hr ?_; (case hd => rfl); (case hg => rfl); (case hr => first | (go_simp; done) | (go_simp; rfl)); intro gb697 hg w6 hbox hb; have n0_ := Aside0.mk (below_step (bl0 HB.out) hb); have n1_ := Aside0.mk (hbox); have n2_ := Aside0.mk ((by rw [hg]; exact (below_size (bl0 HB.out)) : w.heap.size ≤ gb697)); have n3_ := n2_; clear HB; have HB := n0_; have BK697 := n1_; have GW697 := n2_; have GE697 := n3_; clear n0_ n1_ n2_ n3_; clear hb hbox hg; obtain ⟨hcz7_0, hcz7_1, hcz7_2, hcz7_3, hcz7_4⟩ := bc5 BK697.out; obtain ⟨hfz7_0, hfz7_1, hfz7_2, hfz7_3, hfz7_4⟩ := bf5 BK697.out))
 go_ret
 exact ⟨by first | rfl | (simp [dE, dD] <;> rfl) | (simp [*, dE, dD] <;> rfl), bl1 HB.out GE697.out⟩

attribute [local go_sem] max2_int min2_int max_two min_two max_three min_three max_four min_four

-- EVALUATED
/-! ### annealref1_Add: function 71 -/
attribute [local go_sem] max2_int min2_int max_two min_two max_three min_three max_four min_four

-- NEED 4
/-! ### annealref10_Add: function 28 -/
attribute [local go_sem] max2_int min2_int max_two min_two max_three min_three max_four min_four

-- NEED 3
/-! ### funcs_Add: function 49 -/
end Go.Proofs.YtolpdiifmacdbaaGreat.P

/- Functions of single numbers: the program's and the reference's, as plain numbers. -/
namespace Go.Proofs.YtolpdiifmacdbaaGreat.Round
open Go.RowKit Go.Proofs.YtolpdiifmacdbaaGreat.P Go.Proofs.YtolpdiifmacdbaaGreat.Num Go.Proofs.YtolpdiifmacdbaaGreat.BitsF Go.Proofs.YtolpdiifmacdbaaGreat.Fmt Go.Proofs.YtolpdiifmacdbaaGreatW.PrintWords Go.Proofs.YtolpdiifmacdbaaGreatW.PrintLast Go.Proofs.YtolpdiifmacdbaaGreatW.PrintMore

theorem fmul_ev (a b : Nat) (ha : a < 4294967296) (hb : b < 4294967296) : Ev (fun k => kM.f k (a : Int) (b : Int)) ((mulN 2 0 a b : Nat) : Int) :=
 Ev.congr (fun k => by unfold kM.f; rfl) (Ev.bind (mul_ev 2 0 a b ha hb) (Ev.now _))
theorem fdiv_ev (a b : Nat) (ha : a < 4294967296) (hb : b < 4294967296) : Ev (fun k => kU.f k (a : Int) (b : Int)) ((divN 2 0 a b : Nat) : Int) :=
 Ev.congr (fun k => by unfold kU.f; rfl) (Ev.bind (div_ev 2 0 a b ha hb) (Ev.now _))
theorem ffma_ev (a b c : Nat) (ha : a < 4294967296) (hb : b < 4294967296) (hc : c < 4294967296) : Ev (fun k => kP.f k (a : Int) (b : Int) (c : Int)) ((rP 2 0 a b c : Nat) : Int) :=
 Ev.congr (fun k => by unfold kP.f; rfl) (Ev.bind (aAc 2 0 a b c ha hb hc) (Ev.now _))
theorem aBb (a b c : Nat) (ha : a < 4294967296) (hb : b < 4294967296) (hc : c < 4294967296) : Ev (fun k => fV.f k (a : Int) (b : Int) (c : Int)) ((rP 2 0 a b c : Nat) : Int) :=
 Ev.congr (fun k => by unfold fV.f; rfl) (Ev.bind (show Ev (fun k => aN.f k 2 0 (a : Int) (b : Int) (c : Int)) _ from zW 2 0 a b c ha hb hc) (Ev.now _))
end Go.Proofs.YtolpdiifmacdbaaGreat.Round

/- Roots: the program's, as plain numbers (for rounds without chapter 1). -/
namespace Go.Proofs.YtolpdiifmacdbaaGreat.BitsF
open Go.RowKit Go.Proofs.YtolpdiifmacdbaaGreat.P Go.Proofs.YtolpdiifmacdbaaGreat.Num Go.Proofs.YtolpdiifmacdbaaGreatW.PrintWords Go.Proofs.YtolpdiifmacdbaaGreatW.PrintLast Go.Proofs.YtolpdiifmacdbaaGreatW.PrintMore

def iC : Nat → Nat → Nat → Nat
 |0, _, r => r
 |j + 1, v, r => if (r + 2 ^ j) * (r + 2 ^ j) ≤ v then iC j v (r + 2 ^ j) else iC j v r
def fK (v : Nat) : Nat := iC 32 v 0
theorem aBe (j : Nat) : ∀ v r, r * r ≤ v → v < (r + 2 ^ j) * (r + 2 ^ j) → iC j v r * iC j v r ≤ v ∧ v < (iC j v r + 1) * (iC j v r + 1) := by
 induction j with
 |zero => intro v r h h'; exact ⟨h, h'⟩
 |succ j ih =>
  intro v r h h'
  unfold iC
  by_cases c : (r + 2 ^ j) * (r + 2 ^ j) ≤ v
  ·rw [if_pos c]; exact ih v _ c (by rw [Nat.add_assoc, ← Nat.mul_two, ← Nat.pow_succ]; exact h')
  ·rw [if_neg c]; exact ih v r h (by omega)
theorem aBn (j : Nat) : ∀ v r n, r + 2 ^ j ≤ n → iC j v r < n := by
 induction j with
 |zero => intro v r n h; unfold iC; have := Nat.two_pow_pos 0; omega
 |succ j ih =>
  intro v r n h
  rw [Nat.pow_succ] at h
  unfold iC
  split
  ·exact ih _ _ _ (by omega)
  ·exact ih _ _ _ (by omega)
theorem tJ (v : Nat) (hv : v < 18446744073709551616) : fK v * fK v ≤ v ∧ v < (fK v + 1) * (fK v + 1) := aBe 32 v 0 (by omega) (by omega)
theorem yD (v : Nat) : fK v < 4294967296 := aBn 32 v 0 _ (by decide)
theorem sq_lt {a b : Nat} (h : a < b) : a * a < b * b := Nat.mul_self_lt_mul_self h
theorem sq32 {a : Nat} (h : a < 4294967296) : a * a < 18446744073709551616 := sq_lt (b := 4294967296) h
theorem yQ (a b : Nat) : (((a : Int) == (b : Int)) : Bool) = decide (a = b) := by
 by_cases h : a = b
 ·subst h; simp
 ·rw [beq_eq_false_iff_ne.mpr (by omega)]; simp [h]
theorem root_l0 (v j : Nat) : ∀ r k : Nat, r % 2 ^ j = 0 → r + 2 ^ j ≤ 4294967296 →
  dL.l0 (j + 1 + k) (v : Int) (r : Int) ((2 ^ j / 2 : Nat) : Int) = some ((iC j v r : Int), decide (iC j v r * iC j v r = v)) := by
 induction j with
 |zero =>
  intro r k h h'
  rw [show 0 + 1 + k = k + 1 by omega, dL.l0, if_neg (by decide)]
  rw [Nat.pow_zero] at h'
  unfold iC
  rw [show (r : Int) * (r : Int) = ((r * r : Nat) : Int) by simp, fH _ (sq32 (by omega)), yQ, Int.emod_eq_of_lt (by omega) (by omega)]
 |succ j ih =>
  intro r k h h'
  have hp := Nat.two_pow_pos j
  have e : 2 ^ (j + 1) / 2 = 2 ^ j := by rw [Nat.pow_succ, Nat.mul_div_cancel _ (by decide)]
  have e2 : ((2 ^ j : Nat) : Int) / 2 = ((2 ^ j / 2 : Nat) : Int) := by omega
  have hh : r % 2 ^ j = 0 := by
   rw [Nat.pow_succ] at h
   have := Nat.mod_mul_right_mod r (2 ^ j) 2
   rw [h] at this; simpa using this.symm
  rw [Nat.pow_succ] at h'
  rw [show j + 1 + 1 + k = (j + 1 + k) + 1 by omega, dL.l0, e, if_pos (by omega), yI _ _ (by omega) (by omega), lX r (2 ^ j) (j + 1) h (by rw [Nat.pow_succ]; omega)]
  rw [show ((r + 2 ^ j : Nat) : Int) * ((r + 2 ^ j : Nat) : Int) = (((r + 2 ^ j) * (r + 2 ^ j) : Nat) : Int) by simp, fH _ (sq32 (by omega)), e2]
  unfold iC
  by_cases c : (r + 2 ^ j) * (r + 2 ^ j) ≤ v
  ·rw [if_pos (by omega), if_pos c]
   exact ih (r + 2 ^ j) k (by rw [Nat.add_mod_right]; exact hh) (by omega)
  ·rw [if_neg (by omega), if_neg c]
   exact ih r k hh (by omega)
theorem root_ev (v : Nat) : Ev (fun k => dL.f k (v : Int)) ((fK v : Int), decide (fK v * fK v = v)) :=
 Ev.of (dL.mono _) (k := 33) (by
  have h := root_l0 v 32 0 0 (by decide) (by decide)
  rw [show ((2 ^ 32 / 2 : Nat) : Int) = 2147483648 by decide, show ((0 : Nat) : Int) = 0 from rfl] at h
  exact h)
end Go.Proofs.YtolpdiifmacdbaaGreat.BitsF

/- Roots of numbers: the program's, as plain numbers. -/
namespace Go.Proofs.YtolpdiifmacdbaaGreat.Round
open Go.RowKit Go.Proofs.YtolpdiifmacdbaaGreat.P Go.Proofs.YtolpdiifmacdbaaGreat.Num Go.Proofs.YtolpdiifmacdbaaGreat.BitsF Go.Proofs.YtolpdiifmacdbaaGreat.Fmt Go.Proofs.YtolpdiifmacdbaaGreatW.PrintWords Go.Proofs.YtolpdiifmacdbaaGreatW.PrintLast Go.Proofs.YtolpdiifmacdbaaGreatW.PrintMore

theorem nM (x : Int) : Int.tmod x 2 = 0 ↔ x % 2 = 0 := by
 constructor
 ·intro h
  have := Int.mul_tdiv_add_tmod x 2
  omega
 ·intro h
  obtain ⟨y, rfl⟩ : ∃ y, x = 2 * y := ⟨x / 2, by omega⟩
  exact Int.mul_tmod_right ..
theorem rA (x : Int) (h : x % 2 = 0) : Int.tdiv x 2 = x / 2 := by
 obtain ⟨y, rfl⟩ : ∃ y, x = 2 * y := ⟨x / 2, by omega⟩
 rw [Int.mul_tdiv_cancel_left y (by decide)]; omega
theorem wG (f mode x : Int) (V j : Nat) (hV : V * 2 ^ (j + j) < 18446744073709551616) (hs : 2 ^ (fm f + 1) ≤ fK V) :
  gD f mode false x (fK (V * 2 ^ (j + j))) (!decide (fK (V * 2 ^ (j + j)) * fK (V * 2 ^ (j + j)) = V * 2 ^ (j + j))) = gD f mode false (x + j) (fK V) (!decide (fK V * fK V = V)) ∧
  kY f mode false x (fK (V * 2 ^ (j + j))) (!decide (fK (V * 2 ^ (j + j)) * fK (V * 2 ^ (j + j)) = V * 2 ^ (j + j))) = kY f mode false (x + j) (fK V) (!decide (fK V * fK V = V)) := by
 have hp := Nat.two_pow_pos j
 have hV' : V < 18446744073709551616 := Nat.lt_of_le_of_lt (Nat.le_mul_of_pos_right V (Nat.two_pow_pos _)) hV
 obtain ⟨s1, s2⟩ := tJ V hV'
 obtain ⟨r1, r2⟩ := tJ _ hV
 generalize fK (V * 2 ^ (j + j)) = R at *
 generalize fK V = s at *
 rw [Nat.pow_add] at *
 generalize hP : 2 ^ j = P at *
 have sq : ∀ u : Nat, (u * P) * (u * P) = u * u * (P * P) := fun u => Nat.mul_mul_mul_comm ..
 have hPP : 0 < P * P := Nat.mul_pos hp hp
 have lo : s * P ≤ R := by
  rcases Nat.lt_or_ge R (s * P) with c | c
  ·have := Nat.mul_self_le_mul_self (show R + 1 ≤ s * P from c)
   rw [sq] at this
   have := Nat.mul_le_mul_right (P * P) s1
   omega
  ·exact c
 have hi : R < (s + 1) * P := by
  rcases Nat.lt_or_ge R ((s + 1) * P) with c | c
  ·exact c
  ·have := Nat.mul_self_le_mul_self c
   rw [sq] at this
   have := Nat.mul_lt_mul_of_pos_right s2 hPP
   omega
 obtain ⟨t, rfl⟩ := Nat.exists_eq_add_of_le lo
 rw [Nat.add_mul, Nat.one_mul] at hi
 have ht : t < 2 ^ j := by omega
 have h := kZ f mode false x s t j (!decide ((s * P + t) * (s * P + t) = V * (P * P))) ht hs
 rw [hP] at h
 have hm : (!decide ((s * P + t) * (s * P + t) = V * (P * P)) || decide (t ≠ 0)) = !decide (s * s = V) := by
  by_cases c : s * s = V
  ·have t0 : t = 0 := by
    rcases Nat.eq_zero_or_pos t with c' | c'
    ·exact c'
    ·have : s * P * (s * P) < (s * P + t) * (s * P + t) := Nat.mul_self_lt_mul_self (by omega)
     rw [sq, c] at this; omega
   rw [t0, Nat.add_zero, sq, c]; simp
  ·by_cases c' : t = 0
   ·have : ¬ (s * P + t) * (s * P + t) = V * (P * P) := by
     rw [c', Nat.add_zero, sq]
     intro e; exact c (Nat.eq_of_mul_eq_mul_right hPP e)
    rw [decide_eq_false this, decide_eq_false c]; simp
   ·rw [decide_eq_true c', decide_eq_false c]; simp
 rw [h.1, h.2, hm]; exact ⟨rfl, rfl⟩
def jW (f : Int) (a : Nat) : Nat := if (bT f a - (eO f a : Int)) % 2 = 0 then eO f a else eO f a - 1
def iA (f : Int) (a : Nat) : Nat := bZ f a * 2 ^ jW f a
def aBy (f mode : Int) (a : Nat) : Nat := gD f mode false ((bT f a - (jW f a : Int)) / 2) (fK (iA f a)) (!decide (fK (iA f a) * fK (iA f a) = iA f a))
def sideX (f mode : Int) (a : Nat) : Bool × Bool × Bool := kY f mode false ((bT f a - (jW f a : Int)) / 2) (fK (iA f a)) (!decide (fK (iA f a) * fK (iA f a) = iA f a))
def pJ (f mode : Int) (a : Nat) : Nat :=
 if 4 ≤ dA f a then rO f else if dA f a = 0 then eQ f (dU f a) else if dU f a = true then rO f else if dA f a = 3 then nD f false else aBy f mode a
def sqrtX (f mode : Int) (a : Nat) : Bool × Bool × Bool × Bool × Bool :=
 if 4 ≤ dA f a then (fM f a, false, false, false, false) else if dA f a = 0 then (false, false, false, false, false) else if dU f a = true then (true, false, false, false, false) else if dA f a = 3 then (false, false, false, false, false) else (false, false, sideX f mode a)
theorem qR (f : Int) (a : Nat) (h : bZ f a ≠ 0) : (bT f a - (jW f a : Int)) % 2 = 0 ∧ jW f a ≤ eO f a ∧ eO f a ≤ jW f a + 1 ∧ 1152921504606846976 ≤ iA f a ∧ iA f a < 4611686018427387904 ∧ 1073741824 ≤ fK (iA f a) := by
 obtain ⟨k1, k2, k3, k4, k5⟩ := jZ f a h
 have main : (bT f a - (jW f a : Int)) % 2 = 0 ∧ jW f a ≤ eO f a ∧ eO f a ≤ jW f a + 1 := by
  unfold jW; split <;> omega
 obtain ⟨m1, m2, m3⟩ := main
 have v1 : iA f a ≤ bZ f a * 2 ^ eO f a := Nat.mul_le_mul_left _ (Nat.pow_le_pow_right (by decide) m2)
 have v2 : bZ f a * 2 ^ eO f a ≤ iA f a * 2 := by
  unfold iA
  rw [Nat.mul_assoc, ← Nat.pow_succ]
  exact Nat.mul_le_mul_left _ (Nat.pow_le_pow_right (by decide) m3)
 have v3 : 1152921504606846976 ≤ iA f a := by omega
 refine ⟨m1, m2, m3, v3, by omega, ?_⟩
 obtain ⟨_, r2⟩ := tJ (iA f a) (by omega)
 rcases Nat.lt_or_ge (fK (iA f a)) 1073741824 with c | c
 ·have := Nat.mul_self_le_mul_self (show fK (iA f a) + 1 ≤ 1073741824 from c)
  omega
 ·exact c
theorem of_inf (f : Int) (v : Nat) (hv : v < 4294967296) (h : dA f v = 3) : fD.f f (v : Int) = some (dU f v, 0, 0, false) := by
 have he := yB f v
 have hx : ¬ lK f v < gF f := fun c => by have := (oV f v).mpr c; omega
 have ht := gJ f
 unfold fD.f fF.f
 rw [iL, Option.bind_some, uO f v hv, Option.bind_some]
 dsimp only
 rw [if_neg (by omega), xK, Option.bind_some, if_pos (by omega)]; rfl
theorem aAv (f mode : Int) (a : Nat) (ha : a < 4294967296) (h0 : dA f a ≠ 0) (h3 : dA f a < 3) (k0 : Int × Bool × Bool × Bool × Bool × Bool → Option (Int × Bool × Bool × Bool × Bool × Bool)) (hk : ∀ r, k0 r = some r) (c : Nat) (hc : c = jW f a) :
  Ev (fun k => (aU.f k (bZ f a : Int) (-(c : Int))).bind fun bt636 => ((dL.f k bt636.1).bind fun bt638 => ((aC.f k f mode false ((bT f a - (c : Int)) / 2) (IntKind.u64.wrap (bt638.1)) (!bt638.2)).bind fun bt640 => k0 bt640))) ((aBy f mode a : Int), false, false, sideX f mode a) := by
 subst hc
 have hw := lZ f a h0 h3
 obtain ⟨m1, m2, m3, v1, v2, v3⟩ := qR f a hw
 obtain ⟨k1, k2, k3, k4, k5⟩ := jZ f a hw
 obtain ⟨l1, l2⟩ := eZ f a
 have hs := uH f a
 have hr := yD (iA f a)
 refine Ev.bind (qB _ hs (-(jW f a : Int)) (by omega) (by omega)) ?_
 dsimp only
 rw [yH _ _ (show bZ f a * 2 ^ jW f a < 18446744073709551616 by unfold iA at v2; omega)]
 refine Ev.bind (root_ev (iA f a)) ?_
 dsimp only
 have hp := qE f mode false ((bT f a - (jW f a : Int)) / 2) (fK (iA f a)) (!decide (fK (iA f a) * fK (iA f a) = iA f a)) (by omega)
 rw [iP _ (by omega) (by omega)] at hp
 rw [fH _ (by omega)]
 refine Ev.bind hp (Ev.congr (fun k => by rw [hk]; rfl) (Ev.now _))
theorem sqrt_ev (f mode : Int) (a : Nat) (ha : a < 4294967296) : Ev (fun k => dV.f k f mode (a : Int)) ((pJ f mode a : Int), sqrtX f mode a) := by
 refine Ev.congr (fun k => by unfold dV.f; rfl) (Ev.bind (aAY f a ha) ?_)
 have hle := sI f a
 unfold pJ sqrtX
 by_cases c4 : 4 ≤ dA f a
 ·rw [if_pos c4, if_pos c4]
  exact Ev.congr (fun k => by rw [if_pos (show fE f a = true from decide_eq_true c4)]) (Ev.now _)
 ·rw [if_neg c4, if_neg c4]
  have n4 : ¬ fE f a = true := by unfold fE; simp; omega
  by_cases c3 : dA f a = 3
  ·refine Ev.congr (fun k => by rw [if_neg n4, of_inf f a ha c3, Option.bind_some]) (Ev.bind (pY f a ha) ?_)
   rw [if_neg (show ¬ dA f a = 0 by omega), if_neg (show ¬ dA f a = 0 by omega), decide_eq_false (show ¬ dA f a = 0 by omega)]
   dsimp only
   cases hn : dU f a
   ·rw [if_neg (show ¬ false = true by decide), if_neg (show ¬ false = true by decide), if_pos c3, if_pos c3]
    exact Ev.congr (fun k => by rw [if_neg (show ¬ false = true by decide), if_neg (show ¬ false = true by decide)]) (Ev.bind (iM f a ha) (Ev.congr (fun k => by rw [if_pos (decide_eq_true c3), wE]; rfl) (Ev.now _)))
   ·rw [if_pos (show true = true from rfl), if_pos (show true = true from rfl)]
    exact Ev.congr (fun k => by rw [if_neg (show ¬ false = true by decide), if_pos (show true = true from rfl), zV]; rfl) (Ev.now _)
  ·refine Ev.congr (fun k => by rw [if_neg n4, of_f f a ha (jK f a (by omega)), Option.bind_some]) (Ev.bind (pY f a ha) ?_)
   dsimp only
   by_cases c0 : dA f a = 0
   ·rw [if_pos c0, if_pos c0]
    exact Ev.congr (fun k => by rw [if_pos (decide_eq_true c0), sV]; rfl) (Ev.now _)
   ·rw [if_neg c0, if_neg c0, decide_eq_false c0]
    cases hn : dU f a
    ·rw [if_neg (show ¬ false = true by decide), if_neg (show ¬ false = true by decide), if_neg c3, if_neg c3]
     refine Ev.congr (fun k => by rw [if_neg (show ¬ false = true by decide), if_neg (show ¬ false = true by decide)]) (Ev.bind (iM f a ha) ?_)
     have hs := uH f a
     have hw := lZ f a c0 (by omega)
     obtain ⟨k1, k2, k3, k4, k5⟩ := jZ f a hw
     obtain ⟨l1, l2⟩ := eZ f a
     refine Ev.congr (fun k => by rw [if_neg (by simp [c3])]) (Ev.bind (aA5 _ hs) ?_)
     have e1 : wrap64 (62 - (fT (bZ f a) : Int)) = (eO f a : Int) := by rw [bS _ (by omega) (by omega)]; omega
     have e2 : wrap64 (bT f a - (eO f a : Int)) = bT f a - (eO f a : Int) := bS _ (by omega) (by omega)
     have e3 : wrap64 (-(eO f a : Int)) = -(eO f a : Int) := bS _ (by omega) (by omega)
     have e4 : wrap64 ((eO f a : Int) - 1) = ((eO f a - 1 : Nat) : Int) := by rw [bS _ (by omega) (by omega)]; omega
     have e5 : wrap64 (-((eO f a - 1 : Nat) : Int)) = -((eO f a - 1 : Nat) : Int) := bS _ (by omega) (by omega)
     have e6 : wrap64 (bT f a - ((eO f a - 1 : Nat) : Int)) = bT f a - ((eO f a - 1 : Nat) : Int) := bS _ (by omega) (by omega)
     by_cases ev : (bT f a - (eO f a : Int)) % 2 = 0
     ·have hl : eO f a = jW f a := by unfold jW; rw [if_pos ev]
      have e7 : wrap64 (Int.tdiv (bT f a - (eO f a : Int)) 2) = (bT f a - (eO f a : Int)) / 2 := by rw [rA _ ev, bS _ (by omega) (by omega)]
      have h := aAv f mode a ha c0 (by omega) some (fun r => rfl) _ hl
      refine Ev.congr (fun k => ?_) h
      rw [e1, e2, if_pos ((nM _).mpr ev), e3, e7]
     ·have hl : eO f a - 1 = jW f a := by unfold jW; rw [if_neg ev]
      have e7 : wrap64 (Int.tdiv (bT f a - ((eO f a - 1 : Nat) : Int)) 2) = (bT f a - ((eO f a - 1 : Nat) : Int)) / 2 := by rw [rA _ (by omega), bS _ (by omega) (by omega)]
      have h := aAv f mode a ha c0 (by omega) some (fun r => rfl) _ hl
      refine Ev.congr (fun k => ?_) h
      rw [e1, e2, if_neg (fun h => ev ((nM _).mp h)), e4, e5, e6, e7]
    ·rw [if_pos (show true = true from rfl), if_pos (show true = true from rfl)]
     exact Ev.congr (fun k => by rw [if_neg (show ¬ false = true by decide), if_pos (show true = true from rfl), zV]; rfl) (Ev.now _)
end Go.Proofs.YtolpdiifmacdbaaGreat.Round

/- Roots: the reference's, as the program's plain numbers (for rounds without chapter 1). -/
namespace Go.Proofs.YtolpdiifmacdbaaGreat.BitsF
open Go.RowKit Go.Proofs.YtolpdiifmacdbaaGreat.P Go.Proofs.YtolpdiifmacdbaaGreat.Num Go.Proofs.YtolpdiifmacdbaaGreatW.PrintWords Go.Proofs.YtolpdiifmacdbaaGreatW.PrintLast Go.Proofs.YtolpdiifmacdbaaGreatW.PrintMore

theorem xI (v j : Nat) : ∀ r k : Nat, r % 2 ^ j = 0 → r + 2 ^ j ≤ 4294967296 → j ≤ 32 →
  bA.l0 (j + 1 + k) (v : Int) (r : Int) ((j : Int) - 1) = some ((iC j v r : Int), decide (iC j v r * iC j v r = v)) := by
 induction j with
 |zero =>
  intro r k h h' _
  rw [show 0 + 1 + k = k + 1 by omega, bA.l0, if_neg (by decide)]
  rw [Nat.pow_zero] at h'
  unfold iC
  rw [show (r : Int) * (r : Int) = ((r * r : Nat) : Int) by simp, fH _ (sq32 (by omega)), yQ, Int.emod_eq_of_lt (by omega) (by omega)]
 |succ j ih =>
  intro r k h h' hj
  have hp := Nat.two_pow_pos j
  have hh : r % 2 ^ j = 0 := by
   rw [Nat.pow_succ] at h
   have := Nat.mod_mul_right_mod r (2 ^ j) 2
   rw [h] at this; simpa using this.symm
  rw [Nat.pow_succ] at h'
  have es : shl .u64 1 (j : Int) = ((2 ^ j : Nat) : Int) := by rw [show (1 : Int) = ((1 : Nat) : Int) from rfl, jM, Nat.one_mul, Nat.mod_eq_of_lt (by omega)]
  rw [show j + 1 + 1 + k = (j + 1 + k) + 1 by omega, bA.l0, show (((j + 1 : Nat) : Int) - 1) = (j : Int) by omega, if_pos (by omega), if_pos (by omega), es, yI _ _ (by omega) (by omega), lX r (2 ^ j) (j + 1) h (by rw [Nat.pow_succ]; omega)]
  rw [show ((r + 2 ^ j : Nat) : Int) * ((r + 2 ^ j : Nat) : Int) = (((r + 2 ^ j) * (r + 2 ^ j) : Nat) : Int) by simp, fH _ (sq32 (by omega)), bS _ (by omega) (by omega)]
  unfold iC
  by_cases c : (r + 2 ^ j) * (r + 2 ^ j) ≤ v
  ·rw [if_pos (by omega), if_pos c]
   exact ih (r + 2 ^ j) k (by rw [Nat.add_mod_right]; exact hh) (by omega) (by omega)
  ·rw [if_neg (by omega), if_neg c]
   exact ih r k hh (by omega) (by omega)
theorem xL (v : Nat) : Ev (fun k => bA.f k (v : Int)) ((fK v : Int), decide (fK v * fK v = v)) :=
 Ev.of (bA.mono _) (k := 33) (by
  have h := xI v 32 0 0 (by decide) (by decide) (by decide)
  rw [show ((32 : Nat) : Int) - 1 = 31 by decide, show ((0 : Nat) : Int) = 0 from rfl] at h
  exact h)

end Go.Proofs.YtolpdiifmacdbaaGreat.BitsF

/- Roots of numbers: the reference's, as the program's plain numbers. -/
namespace Go.Proofs.YtolpdiifmacdbaaGreat.Round
open Go.RowKit Go.Proofs.YtolpdiifmacdbaaGreat.P Go.Proofs.YtolpdiifmacdbaaGreat.Num Go.Proofs.YtolpdiifmacdbaaGreat.BitsF Go.Proofs.YtolpdiifmacdbaaGreat.Fmt Go.Proofs.YtolpdiifmacdbaaGreatW.PrintWords Go.Proofs.YtolpdiifmacdbaaGreatW.PrintLast Go.Proofs.YtolpdiifmacdbaaGreatW.PrintMore

theorem wL (f mode : Int) (r : Int × Bool × Bool × Bool × Bool × Bool) (i : Nat) : ∀ (x : Int) (m : Nat), m ≠ 0 → fT m + i = 62 → -100000 ≤ x - i → x ≤ 100000 →
  Ev (fun k => aQ.l0 k f mode (x - (i : Int)) ((m * 2 ^ i : Nat) : Int)) r → Ev (fun k => aQ.l0 k f mode x (m : Int)) r := by
 induction i with
 |zero => intro x m _ _ _ _ h; simpa using h
 |succ i ih =>
  intro x m h0 hl h1 h2 h
  have hn := Nat.lt_of_lt_of_le (nA m) (Nat.pow_le_pow_right (show 0 < 2 by decide) (show fT m ≤ 61 by omega))
  have hl2 := uB m 1 h0
  rw [Nat.pow_one] at hl2
  have hw : IntKind.u64.wrap ((m : Int) * 2) = ((m * 2 : Nat) : Int) := by rw [show (m : Int) * 2 = ((m * 2 : Nat) : Int) by omega, fH _ (by omega)]
  refine Ev.step (fun k => by rw [aQ.l0, if_pos (by omega), hw, bS (x - 1) (by omega) (by omega)]) (ih (x - 1) (m * 2) (by omega) (by omega) (by omega) (by omega) ?_)
  rw [show x - 1 - (i : Int) = x - ((i + 1 : Nat) : Int) by omega, Nat.mul_assoc, ← Nat.pow_succ']
  exact h
theorem pE (f mode x : Int) (V : Nat) (h1 : 2305843009213693952 ≤ V) (h2 : V < 9223372036854775808) (hx : x % 2 = 0) (l1 : -1000 ≤ x) (l2 : x ≤ 1000) :
  Ev (fun k => aQ.l0 k f mode x (V : Int)) ((gD f mode false (x / 2) (fK V) (!decide (fK V * fK V = V)) : Int), false, false, kY f mode false (x / 2) (fK V) (!decide (fK V * fK V = V))) := by
 have hr := yD V
 have hp := mW f mode false (x / 2) (fK V) (!decide (fK V * fK V = V)) (by omega)
 rw [iP _ (by omega) (by omega)] at hp
 refine Ev.step (fun k => by rw [aQ.l0, if_neg (by omega), if_pos ((nM x).mpr hx), rA x hx, bS (x / 2) (by omega) (by omega)]) (Ev.bind (xL V) ?_)
 dsimp only
 rw [fH _ (by omega)]
 exact Ev.bind hp (Ev.now _)
theorem wU (f mode : Int) (a : Nat) (h0 : dA f a ≠ 0) (h3 : dA f a < 3) : Ev (fun k => aQ.l0 k f mode (bT f a) (bZ f a : Int)) ((aBy f mode a : Int), false, false, sideX f mode a) := by
 have hw := lZ f a h0 h3
 obtain ⟨m1, m2, m3, v1, v2, v3⟩ := qR f a hw
 obtain ⟨k1, k2, k3, k4, k5⟩ := jZ f a hw
 obtain ⟨l1, l2⟩ := eZ f a
 refine wL f mode _ (eO f a) _ _ hw k3 (by omega) (by omega) ?_
 by_cases ev : (bT f a - (eO f a : Int)) % 2 = 0
 ·have hl : jW f a = eO f a := by unfold jW; rw [if_pos ev]
  have hv : iA f a = bZ f a * 2 ^ eO f a := by unfold iA; rw [hl]
  unfold aBy sideX
  rw [hv, hl]
  exact pE f mode _ _ k4 (by omega) ev (by omega) (by omega)
 ·have hl : eO f a = jW f a + 1 := by unfold jW; rw [if_neg ev]; omega
  have hv : bZ f a * 2 ^ eO f a * 2 = iA f a * 2 ^ (1 + 1) := by unfold iA; rw [hl, Nat.pow_succ, ← Nat.mul_assoc]; omega
  have hb := dS f
  have hf : 2 ^ (fm f + 1) ≤ 16777216 := Nat.pow_le_pow_right (show 0 < 2 by decide) (show fm f + 1 ≤ 24 by omega)
  obtain ⟨r1, r2⟩ := wG f mode ((bT f a - (eO f a : Int) - 1) / 2) (iA f a) 1 (by omega) (by omega)
  have hu : IntKind.u64.wrap (((bZ f a * 2 ^ eO f a : Nat) : Int) * 2) = ((iA f a * 2 ^ (1 + 1) : Nat) : Int) := by
   rw [← hv, show ((bZ f a * 2 ^ eO f a : Nat) : Int) * 2 = ((bZ f a * 2 ^ eO f a * 2 : Nat) : Int) by omega, fH _ (by omega)]
  refine Ev.step (fun k => by rw [aQ.l0, if_neg (by omega), if_neg (fun h => ev ((nM _).mp h)), hu, bS _ (by omega) (by omega)]) ?_
  have h := pE f mode (bT f a - (eO f a : Int) - 1) (iA f a * 2 ^ (1 + 1)) (by omega) (by omega) (by omega) (by omega) (by omega)
  rw [r1, r2, show (bT f a - (eO f a : Int) - 1) / 2 + ((1 : Nat) : Int) = (bT f a - (jW f a : Int)) / 2 by omega] at h
  exact h
theorem wH (f mode : Int) (a : Nat) (ha : a < 4294967296) : Ev (fun k => aQ.f k f mode (a : Int)) ((pJ f mode a : Int), sqrtX f mode a) := by
 refine Ev.congr (fun k => by unfold aQ.f; rfl) (Ev.bind (nans1_ev f a ha) ?_)
 have hle := sI f a
 unfold pJ sqrtX
 by_cases c4 : 4 ≤ dA f a
 ·rw [if_pos c4, if_pos c4]
  exact Ev.congr (fun k => by rw [if_pos (show fE f a = true from decide_eq_true c4), lU]; rfl) (Ev.now _)
 ·rw [if_neg c4, if_neg c4]
  have n4 : ¬ fE f a = true := by unfold fE; simp; omega
  refine Ev.congr (fun k => by rw [if_neg n4]) (Ev.bind (mI f a ha) ?_)
  by_cases c0 : dA f a = 0
  ·rw [if_pos c0, if_pos c0, ← (p8 f a c0).1]
   exact Ev.congr (fun k => by rw [if_pos (decide_eq_true c0), iZ, Option.bind_some, pU f a ha]) (Ev.now _)
  ·rw [if_neg c0, if_neg c0]
   refine Ev.congr (fun k => by rw [if_neg (by simp [c0]), vP f a ha, Option.bind_some]) ?_
   cases hn : dU f a
   ·rw [if_neg (show ¬ false = true by decide), if_neg (show ¬ false = true by decide)]
    refine Ev.congr (fun k => by rw [if_neg (show ¬ false = true by decide)]) (Ev.bind (mO f a ha) ?_)
    by_cases c3 : dA f a = 3
    ·have hi := aAr f a c3
     rw [hn] at hi
     rw [if_pos c3, if_pos c3, ← hi]
     exact Ev.congr (fun k => by rw [if_pos (decide_eq_true c3), iZ, Option.bind_some, pU f a ha]) (Ev.now _)
    ·rw [if_neg c3, if_neg c3]
     exact Ev.congr (fun k => by rw [if_neg (by simp [c3])]) (Ev.bind (mK f a ha (jK f a (by omega))) (wU f mode a c0 (by omega)))
   ·rw [if_pos (show true = true from rfl), if_pos (show true = true from rfl)]
    exact Ev.congr (fun k => by rw [if_pos (show true = true from rfl), lU]; rfl) (Ev.now _)
end Go.Proofs.YtolpdiifmacdbaaGreat.Round

/- annealseat.Params as the closed reckoner has it: of known widths, of whatever numbers. -/
namespace Go.Proofs.YtolpdiifmacdbaaGreat.Xe
open Go.RowKit Go.Proofs.YtolpdiifmacdbaaGreatW.PrintWords Go.Proofs.YtolpdiifmacdbaaGreatW.PrintLast Go.Proofs.YtolpdiifmacdbaaGreatW.PrintMore
def parT (id : Nat) (l m : Tm) (i j : Nat) : Tm := .f id (.c l (.c m (.c (.l (.ofNat i)) (.l (.ofNat j)))))
def parN (id : Nat) (l m : Tm) (i : Nat) : Nat → Nat → List C
 |0, _ => []
 |n + 1, j => .i .u32 (parT id l m i j) :: parN id l m i n (j + 1)
def aAN (id : Nat) (l m : Tm) (i : Nat) : Nat → Nat → (List C → Bool) → Bool
 |0, _, K => K []
 |n + 1, j, K => gG (Nat.succ j) fun j' => aAN id l m i n j' fun r => K (.i .u32 (.f id (.c l (.c m (.c (.l (.ofNat i)) (.l (.ofNat j)))))) :: r)
theorem aBi (id : Nat) (l m : Tm) (i : Nat) : ∀ (n j : Nat) (K : List C → Bool), aAN id l m i n j K = K (parN id l m i n j) := by
 intro n
 induction n with
 |zero => intro j K; rfl
 |succ n ih => intro j K; rw [aAN, eY, ih]; rfl
def numV (g : Nat → Int) : Nat → Nat → List Value
 |0, _ => []
 |n + 1, j => .int .u32 (g j) :: numV g n (j + 1)
def ParC (w : World) (base e : Nat) (g : Nat → Nat → Int) : List Nat → Nat → List Value → Prop
 |a :: b :: r, i, cs => ∃ vw vb q, cs = .int .i64 (b : Int) :: .int .i64 (a : Int) :: .int .i64 2 :: vw :: .int .i64 1 :: .int .i64 (b : Int) :: .int .i64 2 :: vb :: q ∧
  w.ownsRow base e 1 vw (a * b) (numV (g i) (a * b) 0) ∧ w.ownsRow base e 1 vb b (numV (g i) b 0) ∧ ParC w base e g (b :: r) (i + 1) q
 |_, _, cs => cs = []
noncomputable def parK (id e : Nat) (l m : Tm) : List Nat → Nat → Hp → (List C → Hp → Bool) → Bool
 |a :: q, i, h, K => match q with
  |b :: r => gG (Nat.mul a b) fun ab => aAN id l m i ab 0 fun ws => aAN id l m i b 0 fun bs =>
   addK h e 1 ws fun g h => addK h e 1 bs fun g' h => gG (Nat.succ i) fun i' => parK id e l m (b :: r) i' h fun cs h =>
    K (.i .i64 (.l (.ofNat b)) :: .i .i64 (.l (.ofNat a)) :: .i .i64 (.l 2) :: .sl g 0 1 ab :: .i .i64 (.l 1) :: .i .i64 (.l (.ofNat b)) :: .i .i64 (.l 2) :: .sl g' 0 1 b :: cs) h
  |[] => K [] h
 |[], _, h, K => K [] h
def litsK : List C → (List Nat → Bool) → Bool
 |[], K => K []
 |.i k (.l (.ofNat n)) :: r, K => cnd (Nat.beq (iJ k) 3 && Nat.blt 0 n && Nat.ble n 1000) (gG n fun n => litsK r fun q => K (n :: q)) false
 |_, _ => false
def boolT : BE → Option Tm
 |.tt => some (.l 1)
 |.ff => some (.l 0)
 |.q t => some t
 |_ => none
def isF : Option Bool → Bool
 |some false => true
 |_ => false
noncomputable def rowT (mx : Nat) (h : Hp) : C → Option Tm
 |.u g => match look h.us g with
  |some (.ro k t) => cnd (Nat.beq (iJ k) 6 && isF (known h.pc (.lt (.l (.ofNat mx)) (.len t)))) (some t) none
  |_ => none
 |_ => none
noncomputable def parE (mx id e e' : Nat) : Fc := fun args h K => match args with
 |[.one w, .one l, .one (.b m)] => match w with
  |.sl wg wo wz wn => match iU h 1 (.sl wg wo wz wn) with
   |some cs => litsK cs fun ws => match rowT mx h l with
    |some t => match boolT m with
     |some m => cnd (Nat.blt 1 ws.length && Nat.ble ws.length 1000) (parK id e t m ws 0 h fun cs h => addK h e' 8 cs fun g h => gG (Nat.sub ws.length 1) fun n => K (.pv (.one (.sl g 0 8 n))) h) false
     |none => false
    |none => false
   |none => false
  |_ => false
 |_ => false
section
variable [Rho] {w0 : World} {A : Nat → Prop} {m : M} {h : Hp} {w : World}
theorem uV (m : M) (id : Nat) (l mt : Tm) (i : Nat) : ∀ n j, vals m (parN id l mt i n j) = numV (fun j => (parT id l mt i j).d) n j := by
 intro n
 induction n with
 |zero => intro j; rfl
 |succ n ih => intro j; show _ :: vals m (parN id l mt i n (j + 1)) = _; rw [ih]; rfl
theorem yT {id : Nat} {l mt : Tm} {i : Nat} (hr : ∀ j, IntKind.u32.has (parT id l mt i j).d) : ∀ n j, oks A (parN id l mt i n j) := by
 intro n
 induction n with
 |zero => intro j c hc; cases hc
 |succ n ih =>
  intro j c hc
  rcases List.mem_cons.1 hc with rfl | hc
  ·exact hr j
  ·exact ih _ c hc
theorem parK_v {id e base : Nat} {l mt : Tm} {g : Nat → Nat → Int} (hg : ∀ i j, (parT id l mt i j).d = g i j) (hr : ∀ i j, IntKind.u32.has (g i j)) : ∀ (ws : List Nat) (i : Nat) (h : Hp) (A : Nat → Prop) (m : M) (K : List C → Hp → Bool) (cs : List Value),
  (∀ a ∈ ws, 0 < a ∧ a ≤ 1000) → jH w0 A m h w → (∀ j x, look h.heap j = some x → x.2.2.1 = true → m.b j < base) → ParC w base e g ws i cs → parK id e l mt ws i h K = true →
  ∃ (A' : Nat → Prop) (m' : M) (h' : Hp) (q : List C), K q h' = true ∧ jH w0 A' m' h' w ∧ Grow none A A' m m' h h' ∧ oks A' q ∧ vals m' q = cs ∧ (∀ j x, look h'.heap j = some x → x.2.2.1 = true → m'.b j < base) := by
 intro ws
 induction ws with
 |nil => intro i h A m K cs _ r hf hc hk; exact ⟨A, m, h, [], hk, r, .refl _ _ _ _, fun c hc => (by cases hc), hc.symm, hf⟩
 |cons a ws ih =>
  intro i h A m K cs hp r hf hc hk
  cases ws with
  |nil => exact ⟨A, m, h, [], hk, r, .refl _ _ _ _, fun c hc => (by cases hc), hc.symm, hf⟩
  |cons b ws =>
   obtain ⟨vw, vb, q, rfl, c1, c2, c3⟩ := hc
   have ha := hp a (by simp)
   have hb := hp b (by simp)
   have fit : ∀ n : Nat, n ≤ 1000 → IntKind.i64.has (n : Int) := fun n hn => by
    show (-9223372036854775808 : Int) ≤ n ∧ (n : Int) ≤ 9223372036854775807
    omega
   rw [parK, eY, aBi, aBi] at hk
   have eg : ∀ n, vals m (parN id l mt i n 0) = numV (g i) n 0 := fun n => by rw [uV]; simp only [hg]
   obtain ⟨A1, m1, h1, g1, k1, r1, w1, a1, e1, f1⟩ := wJ (n := a * b) r (yT (fun j => by rw [hg]; exact hr i j) _ _) (by rw [show Nat.mul a b = a * b from rfl, eg]; exact c1) (Nat.mul_pos ha.1 hb.1) hf hk
   have eg1 : ∀ n, vals m1 (parN id l mt i n 0) = numV (g i) n 0 := fun n => by rw [uV]; simp only [hg]
   obtain ⟨A2, m2, h2, g2, k2, r2, w2, a2, e2, f2⟩ := wJ (n := b) r1 (yT (fun j => by rw [hg]; exact hr i j) _ _) (by rw [eg1]; exact c2) hb.1 f1 k1
   rw [eY] at k2
   obtain ⟨A3, m3, h3, p, k3, r3, w3, a3, e3, f3⟩ := ih (i + 1) h2 A2 m2 _ q (fun x hx => hp x (List.mem_cons_of_mem _ hx)) r2 f2 c3 k2
   have g12 := w1.trans w2
   have g13 := g12.trans w3
   refine ⟨A3, m3, h3, _, k3, r3, g13, ?_, ?_, f3⟩
   ·intro c hc
    simp only [List.mem_cons] at hc
    rcases hc with rfl | rfl | rfl | rfl | rfl | rfl | rfl | rfl | hc
    ·exact fit b hb.2
    ·exact fit a ha.2
    ·exact fit 2 (by decide)
    ·exact w3.sub _ (w2.sub _ a1)
    ·exact fit 1 (by decide)
    ·exact fit b hb.2
    ·exact fit 2 (by decide)
    ·exact w3.sub _ a2
    ·exact a3 c hc
   ·have x1 : (C.sl g1 0 1 (a * b)).v m3 = vw := by
     rw [e1]
     exact C.fQ ((w2.trans w3).ext) (show (C.sl g1 0 1 (a * b)).ok A1 from a1)
    have x2 : (C.sl g2 0 1 b).v m3 = vb := by
     rw [e2]
     exact C.fQ w3.ext (show (C.sl g2 0 1 b).ok A2 from a2)
    show Value.int .i64 (b : Int) :: Value.int .i64 (a : Int) :: Value.int .i64 2 :: (C.sl g1 0 1 (a * b)).v m3 :: Value.int .i64 1 :: Value.int .i64 (b : Int) :: Value.int .i64 2 :: (C.sl g2 0 1 b).v m3 :: vals m3 p = _
    rw [x1, x2, e3]
theorem litsK_v : ∀ {cs : List C} {K : List Nat → Bool}, litsK cs K = true → ∃ ws : List Nat, K ws = true ∧ (∀ a ∈ ws, 0 < a ∧ a ≤ 1000) ∧ ∀ m : M, vals m cs = ws.map fun n : Nat => Value.int .i64 n := by
 intro cs
 induction cs with
 |nil => intro K hk; exact ⟨[], hk, fun a ha => (by cases ha), fun _ => rfl⟩
 |cons c r ih =>
  intro K hk
  unfold litsK at hk
  split at hk
  ·next e => cases e
  ·next k n r' e =>
   cases e
   have h9 := btf hk
   clear hk
   obtain ⟨h1, hk⟩ := h9
   rw [eY] at hk
   simp only [Bool.and_eq_true] at h1
   obtain ⟨⟨h1, h2⟩, h3⟩ := h1
   obtain rfl : k = .i64 := iO (k' := .i64) h1
   have h2 : 0 < n := Nat.le_of_ble_eq_true h2
   have h3 := Nat.le_of_ble_eq_true h3
   obtain ⟨q, k1, k2, k3⟩ := ih hk
   refine ⟨n :: q, k1, fun a ha => ?_, fun m => ?_⟩
   ·rcases List.mem_cons.1 ha with rfl | ha
    ·exact ⟨h2, h3⟩
    ·exact k2 a ha
   ·show _ :: vals m _ = _; rw [k3]; rfl
  ·cases hk
theorem yZ (r : jH w0 A m h w) {g o n : Nat} {cs : List C} (hs : iU h 1 (.sl g o 1 n) = some cs) {k : IntKind} {xs : List Int} (hv : vals m cs = xs.map (Value.int k)) : ∃ ad c, (C.sl g o 1 n).v m = .slice ad xs.length c ∧ xs.length ≤ c ∧ Kd.C (Kd.int k) w ad xs.length xs := by
 obtain ⟨h1, h2, h3, h4, h5, h6⟩ := jT (s := ⟨.e, h⟩) r (by decide) hs
 have e : xs.length = n := by
  have := congrArg List.length hv
  rw [cZ, h3, List.length_map] at this
  omega
 refine ⟨_, _, by rw [e]; rfl, by omega, rfl, ?_, fun _ => ⟨_, rfl, fun j p hj => ⟨[.int k p], rfl, rfl, fun i u hu => ?_⟩⟩⟩
 ·simp only [maxLen] at h5
  omega
 ·have hi : i = 0 := by
   cases i with
   |zero => rfl
   |succ i => cases hu
  subst hi
  cases hu
  have hk : (Kd.int k).sz = 1 := rfl
  have e9 : j * (Kd.int k).sz + 0 = j := by rw [hk, Nat.mul_one]; rfl
  rw [e9]
  refine h6 j _ ?_
  rw [hv, List.getElem?_map, hj]
  rfl
end
theorem aAk {h : Hp} {z g o z' n : Nat} {cs : List C} (hs : iU h z (.sl g o z' n) = some cs) : z' = z := by
 unfold iU at hs
 exact (Nat.eq_of_beq_eq_true (fI hs).1).symm
section
variable [Rho] {P : Program}
theorem parE_ok {f : Nat} {fn : Func} (hf : P.funcs[f]? = some fn) (hb : fn.body.isSome = true) (hn : (fn.name == "runtime.NumGoroutine") = false) {mx id e e' : Nat} (hmx : mx ≤ 1000) {G : List Int → Bool → Nat → Nat → Int}
  (hF : ∀ (l m : U) (i j : Nat), (Rho.f id (.p l (.p m (.p (.n i) (.n j))))).int = G l.lst (!(m.int == 0)) i j) (hr : ∀ l b i j, IntKind.u32.has (G l b i j))
  (hc : ∀ (ws : List Nat) (l : List Int) (b : Bool) (aw al : Option Addr) (cw cl : Nat) (W : World), 1 < ws.length → ws.length ≤ cw → l.length ≤ cl → (∀ a ∈ ws, 0 < a ∧ a ≤ 1000) → ws.length ≤ 1000 → l.length ≤ 1000 → Kd.C (Kd.int .i64) W aw ws.length (ws.map fun n : Nat => (n : Int)) → Kd.C (Kd.int .u32) W al l.length l →
   Calls P f #[.slice aw ws.length cw, .slice al l.length cl, .bool b] W fun en W' => ∃ v cs, en = .returned v ∧ W'.ownsRow W.heap.size e' 8 v (ws.length - 1) cs ∧ ParC W' W.heap.size e (G l b) ws 0 cs ∧ Below W.heap.size W W') : nR P f (parE mx id e e') := by
 intro vs h K A m w w0 hrel hv hk
 refine ⟨⟨fn, hf, hb, hn⟩, ?_⟩
 unfold parE at hk
 split at hk
 ·next wc lc mb =>
  split at hk
  ·next wg wo wz wn =>
   split at hk
   ·next cs hcs =>
    obtain rfl := aAk hcs
    obtain ⟨ws, k1, k2, k3⟩ := litsK_v hk
    split at k1
    ·next t ht =>
     split at k1
     ·next mt hmt =>
      have h9 := btf k1
      obtain ⟨l1, k4⟩ := h9
      rw [Bool.and_eq_true] at l1
      have l2 := Nat.le_of_ble_eq_true l1.2
      have l1 : 1 < ws.length := Nat.le_of_ble_eq_true l1.1
      -- the widths
      obtain ⟨aw, cw, v1, v3, v2⟩ := yZ hrel hcs (k := .i64) (xs := ws.map fun n : Nat => (n : Int)) (by rw [k3, List.map_map]; rfl)
      rw [List.length_map] at v1 v2 v3
      -- the numbers
      obtain ⟨al, cl, u1, u2, u3, u4⟩ : ∃ al cl, lc.v m = .slice al t.u.lst.length cl ∧ Kd.C (Kd.int .u32) w al t.u.lst.length t.u.lst ∧ t.u.lst.length ≤ 1000 ∧ t.u.lst.length ≤ cl := by
       unfold rowT at ht
       split at ht
       ·next g =>
        split at ht
        ·next k t' hl =>
         obtain ⟨q1, q2⟩ := fI ht
         cases q2
         rw [Bool.and_eq_true] at q1
         obtain rfl : k = .u32 := iO (k' := .u32) q1.1
         have q3 : known h.pc (.lt (.l (.ofNat mx)) (.len t)) = some false := by
          have q4 := q1.2
          unfold isF at q4
          split at q4
          ·next e => exact e
          ·cases q4
         have q5 : decide ((Int.ofNat mx : Int) < ((min t.u.lst.length zI : Nat) : Int)) = false := uR hrel.pc q3
         have q6 := of_decide_eq_false q5
         have q7 : t.u.lst.length ≤ 1000 := by
          unfold zI at q6
          have : (Int.ofNat mx : Int) = (mx : Int) := rfl
          omega
         obtain ⟨_, _, ad, c, x1, x2, _, _, x4⟩ := hrel.us _ _ hl
         exact ⟨ad, c, x1, Kd.C_below x2 hrel.bel, q7, x4⟩
        ·cases ht
       ·cases ht
      -- the truth value
      have hbd : mb.d = !(mt.d == 0) := by
       unfold boolT at hmt
       split at hmt
       ·cases hmt; rfl
       ·cases hmt; rfl
       ·cases hmt; rfl
       ·cases hmt
      have ea : (([.one (.sl wg wo 1 wn), .one lc, .one (.b mb)] : List PV).map (PV.v m)).toArray = #[.slice aw ws.length cw, .slice al t.u.lst.length cl, .bool (!(mt.d == 0))] := by
       show #[(C.sl wg wo 1 wn).v m, lc.v m, Value.bool mb.d] = _
       rw [v1, u1, hbd]
      rw [ea]
      refine (hc ws t.u.lst _ aw al cw cl w l1 v3 u4 k2 l2 u3 v2 u2).mono ?_
      rintro en w' ⟨v, cs', rfl, c1, c2, c3⟩
      have r1 := hrel.grow c3
      have hfr : ∀ j x, look h.heap j = some x → x.2.2.1 = true → m.b j < w.heap.size := by
       intro j x hj _
       obtain ⟨e1, z1, wr1, cs1⟩ := x
       obtain ⟨_, _, _, _, rest, a5, _⟩ := hrel.heap j e1 z1 wr1 cs1 hj
       exact blk_lt a5
      obtain ⟨A1, m1, h1, q, k5, r2, w2, o2, e2, f2⟩ := parK_v (g := G t.u.lst (!(mt.d == 0))) (fun i j => hF _ _ i j) (fun i j => hr _ _ i j) ws 0 h A m _ cs' k2 r1 hfr c2 k4
      obtain ⟨A2, m2, h2, g2, k6, r3, w3, a3, e3, _⟩ := wJ (n := ws.length - 1) r2 o2 (by rw [e2]; exact c1) (by omega) f2 k5
      rw [eY] at k6
      exact ⟨_, A2, m2, h2, k6, by rw [e3]; rfl, a3, r3, w2.trans w3⟩
     ·cases k1
    ·cases k1
   ·cases hk
  ·cases hk
 ·cases hk
end
end Go.Proofs.YtolpdiifmacdbaaGreat.Xe

/- Numbers drawn, of any format at all: plain numbers. -/
namespace Go.Proofs.YtolpdiifmacdbaaGreat.Round
open Go.RowKit Go.Proofs.YtolpdiifmacdbaaGreat.P Go.Proofs.YtolpdiifmacdbaaGreat.Num Go.Proofs.YtolpdiifmacdbaaGreat.BitsF Go.Proofs.YtolpdiifmacdbaaGreat.Fmt Go.Proofs.YtolpdiifmacdbaaGreatW.PrintWords Go.Proofs.YtolpdiifmacdbaaGreatW.PrintLast Go.Proofs.YtolpdiifmacdbaaGreatW.PrintMore

theorem any_in (n : Int) : ∃ m : Nat, IntKind.u32.wrap n = (m : Int) ∧ m < 4294967296 := by
 rw [qC]
 exact ⟨(n % 4294967296).toNat, by omega, by omega⟩
theorem yL (op : BinOp) (a b : Int) (h : op = .and ∨ op = .or) : ∃ m : Nat, Go.bits op .u32 a b = (m : Int) ∧ m < 4294967296 := by
 rcases h with rfl | rfl
 ·exact any_in _
 ·exact any_in _
theorem num_any (f : Int) (a : Nat) : ∃ x : Nat, bP.f f (a : Int) = some (x : Int) ∧ x < 4294967296 := by
 have e := Int.tmod_eq_emod_of_nonneg (b := 15) (Int.natCast_nonneg a)
 have hp : 0 ≤ Int.tmod (a : Int) 15 ∧ Int.tmod (a : Int) 15 < 15 := by rw [e]; omega
 have fin : ∀ y : Int, ∃ x : Nat, (if (a : Int) / 2147483648 = 1 then (some (eQ f true : Int)).bind (fun t => some (Go.bits .or .u32 (Go.bits .and .u32 y (maskN f : Int)) t)) else some (Go.bits .and .u32 y (maskN f : Int))) = some (x : Int) ∧ x < 4294967296 := by
  intro y
  by_cases c : (a : Int) / 2147483648 = 1
  ·rw [if_pos c, Option.bind_some]
   obtain ⟨m, h1, h2⟩ := yL .or (Go.bits .and .u32 y (maskN f : Int)) (eQ f true : Int) (.inr rfl)
   exact ⟨m, by rw [h1], h2⟩
  ·rw [if_neg c]
   obtain ⟨m, h1, h2⟩ := yL .and y (maskN f : Int) (.inl rfl)
   exact ⟨m, by rw [h1], h2⟩
 unfold bP.f
 rw [eU, Option.bind_some]
 dsimp only
 rcases qK f with ⟨h1, h2⟩ | ⟨h1, h2⟩ | ⟨h1, h2⟩
 ·rw [h1, h2, if_pos (by decide), if_pos (by decide), if_neg (by decide), if_pos (show (0 : Int) ≤ wrap64 (((10 : Nat) : Int) - 1) by unfold wrap64; omega), if_neg (by decide), Option.bind_some, if_pos hp.1, if_pos (by exact hp.2), iZ, Option.bind_some, jA]
  exact fin _
 ·rw [h1, h2, if_pos (by decide), if_pos (by decide), if_neg (by decide), if_pos (show (0 : Int) ≤ wrap64 (((7 : Nat) : Int) - 1) by unfold wrap64; omega), if_neg (by decide), Option.bind_some, if_pos hp.1, if_pos (by exact hp.2), iZ, Option.bind_some, jA]
  exact fin _
 ·rw [h1, h2, if_pos (by decide), if_pos (by decide), if_neg (by decide), if_pos (show (0 : Int) ≤ wrap64 (((23 : Nat) : Int) - 1) by unfold wrap64; omega), if_neg (by decide), Option.bind_some, if_pos hp.1, if_pos (by exact hp.2), iZ, Option.bind_some, jA]
  exact fin _
end Go.Proofs.YtolpdiifmacdbaaGreat.Round
