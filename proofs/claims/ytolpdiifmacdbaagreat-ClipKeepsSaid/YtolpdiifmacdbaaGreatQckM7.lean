import Derived.Test.YtolpdiifmacdbaaGreatQckM6
set_option linter.unusedVariables false
set_option linter.unusedSimpArgs false
set_option maxRecDepth 100000
set_option maxHeartbeats 8000000
namespace Go.Proofs.YtolpdiifmacdbaaGreat
noncomputable section
open Go.RowKit YtolpdiifmacdbaaGreatW.PrintWords YtolpdiifmacdbaaGreatW.PrintLast YtolpdiifmacdbaaGreatW.PrintMore
namespace L
open P Ek
def aR.cls : Cls := []
theorem aR.fE : bR Tryz.prog aR.cls := bR.nil
def aR.K (v : SV) : Option (Int × Bool) := (iL [hI .u64, hB] v).map (fun z => (z.1.1, z.2.1.1))
def aR.cuts : List Nat := [2]
def aR.f (k : Nat) (a0 a1 : Int) : Option (Int × Bool) := evF Tryz.prog aR.cls Tryz.f144 aR.cuts k [.one (.i .u64 (.x a0)), .one (.i .i64 (.x a1))] aR.K
def aR.c : Fc := gZ [hI .u64, hI .i64] [hI .u64, hB] (T := Int × Bool) (fun y => ((y.1, ()), (y.2, ()), ())) fun n x => aR.f n x.1.1 x.2.1.1
theorem aR.ok : gW Tryz.prog 144 aR.c := nR aR.fE Tryz.func144 kr kr (by decide) (fun _ => rfl) (fun _ _ => rfl)
def eU.cls : Cls := []
theorem eU.fE : bR Tryz.prog eU.cls := bR.nil
def eU.K (v : SV) : Option (Bool) := (iL [hB] v).map (fun z => (z.1.1))
def eU.cuts : List Nat := []
def eU.f (k : Nat) (a0 : Int) (a1 : Bool) (a2 a3 : Int) : Option (Bool) := evF Tryz.prog eU.cls Tryz.f152 eU.cuts k [.one (.i .i64 (.x a0)), .one (.b (.q a1)), .one (.i .u64 (.x a2)), .one (.i .i64 (.x a3))] eU.K
def eU.c : Fc := gZ [hI .i64, hB, hI .u64, hI .i64] [hB] (T := Bool) (fun y => ((y, ()), ())) fun n x => eU.f n x.1.1 x.2.1.1 x.2.2.1.1 x.2.2.2.1.1
theorem eU.ok : gW Tryz.prog 152 eU.c := nR eU.fE Tryz.func152 kr kr (by decide) (fun _ => rfl) (fun _ _ => rfl)
def eH.c : Fc := gZ [hI .i64, hB] [hI .u32] (T := Int) (fun y => ((y, ()), ())) fun n x => eH.f x.1.1 x.2.1.1
theorem eH.ok : gW Tryz.prog 173 eH.c := fG Tryz.func173 kr kr (by decide) (fun _ => dW (by decide) _) fun n x y h m w => (eH.calls x.1.1 x.2.1.1 y w h).mono fun e w' he => ⟨he.1, he.2.below⟩
def dQ.c : Fc := gZ [hI .i64, hB] [hI .u32] (T := Int) (fun y => ((y, ()), ())) fun n x => dQ.f x.1.1 x.2.1.1
theorem dQ.ok : gW Tryz.prog 142 dQ.c := fG Tryz.func142 kr kr (by decide) (fun _ => dW (by decide) _) fun n x y h m w => (dQ.calls x.1.1 x.2.1.1 y w h).mono fun e w' he => ⟨he.1, he.2.below⟩
def dE.cls : Cls := [(173, eH.c), (142, dQ.c)]
theorem dE.fE : bR Tryz.prog dE.cls := bR.cons eH.ok (bR.cons dQ.ok (bR.nil))
def dE.K (v : SV) : Option (Int × Bool × Bool × Bool × Bool × Bool) := (iL [hI .u32, .agg [.b, .b, .b, .b, .b]] v).map (fun z => (z.1.1, z.2.1.1, z.2.1.2.1, z.2.1.2.2.1, z.2.1.2.2.2.1, z.2.1.2.2.2.2.1))
def dE.cuts : List Nat := []
def dE.f (k : Nat) (a0 a1 : Int) (a2 : Bool) : Option (Int × Bool × Bool × Bool × Bool × Bool) := evF Tryz.prog dE.cls Tryz.f154 dE.cuts k [.one (.i .i64 (.x a0)), .one (.i .i64 (.x a1)), .one (.b (.q a2))] dE.K
def dE.c : Fc := gZ [hI .i64, hI .i64, hB] [hI .u32, .agg [.b, .b, .b, .b, .b]] (T := Int × Bool × Bool × Bool × Bool × Bool) (fun y => ((y.1, ()), (y.2.1, y.2.2.1, y.2.2.2.1, y.2.2.2.2.1, y.2.2.2.2.2, ()), ())) fun n x => dE.f n x.1.1 x.2.1.1 x.2.2.1.1
theorem dE.ok : gW Tryz.prog 154 dE.c := nR dE.fE Tryz.func154 kr kr (by decide) (fun _ => rfl) (fun _ _ => rfl)
def bJ.c : Fc := gZ [hI .i64] [hI .i64, hI .i64] (T := Int × Int) (fun y => ((y.1, ()), (y.2, ()), ())) fun n x => bJ.f x.1.1
theorem bJ.ok : gW Tryz.prog 149 bJ.c := fG Tryz.func149 kr kr (by decide) (fun _ => dW (by decide) _) fun n x y h m w => (bJ.calls x.1.1 y.1 y.2 w h).mono fun e w' he => ⟨he.1, he.2.below⟩
def eT.c : Fc := gZ [hI .i64, hI .u32] [hB, hI .i64, hI .u32] (T := Bool × Int × Int) (fun y => ((y.1, ()), (y.2.1, ()), (y.2.2, ()), ())) fun n x => eT.f x.1.1 x.2.1.1
theorem eT.ok : gW Tryz.prog 115 eT.c := fG Tryz.func115 kr kr (by decide) (fun _ => dW (by decide) _) fun n x y h m w => (eT.calls x.1.1 x.2.1.1 y.1 y.2.1 y.2.2 w h).mono fun e w' he => ⟨he.1, he.2.below⟩
def dX.c : Fc := gZ [hI .i64] [hI .i64] (T := Int) (fun y => ((y, ()), ())) fun n x => dX.f x.1.1
theorem dX.ok : gW Tryz.prog 153 dX.c := fG Tryz.func153 kr kr (by decide) (fun _ => dW (by decide) _) fun n x y h m w => (dX.calls x.1.1 y w h).mono fun e w' he => ⟨he.1, he.2.below⟩
def dY.c : Fc := gZ [hI .i64] [hI .i64] (T := Int) (fun y => ((y, ()), ())) fun n x => dY.f x.1.1
theorem dY.ok : gW Tryz.prog 116 dY.c := fG Tryz.func116 kr kr (by decide) (fun _ => dW (by decide) _) fun n x y h m w => (dY.calls x.1.1 y w h).mono fun e w' he => ⟨he.1, he.2.below⟩
def dG.cls : Cls := [(149, bJ.c), (115, eT.c), (153, dX.c), (116, dY.c)]
theorem dG.fE : bR Tryz.prog dG.cls := bR.cons bJ.ok (bR.cons eT.ok (bR.cons dX.ok (bR.cons dY.ok (bR.nil))))
def dG.K (v : SV) : Option (Bool × Int × Int) := (iL [hB, hI .i64, hI .u64] v).map (fun z => (z.1.1, z.2.1.1, z.2.2.1.1))
def dG.cuts : List Nat := []
def dG.f (k : Nat) (a0 a1 : Int) : Option (Bool × Int × Int) := evF Tryz.prog dG.cls Tryz.f171 dG.cuts k [.one (.i .i64 (.x a0)), .one (.i .u32 (.x a1))] dG.K
def dG.c : Fc := gZ [hI .i64, hI .u32] [hB, hI .i64, hI .u64] (T := Bool × Int × Int) (fun y => ((y.1, ()), (y.2.1, ()), (y.2.2, ()), ())) fun n x => dG.f n x.1.1 x.2.1.1
theorem dG.ok : gW Tryz.prog 171 dG.c := nR dG.fE Tryz.func171 kr kr (by decide) (fun _ => rfl) (fun _ _ => rfl)
def bM.c : Fc := gZ [hI .i64, hI .u32] [hB] (T := Bool) (fun y => ((y, ()), ())) fun n x => bM.f n x.1.1 x.2.1.1
theorem bM.ok : gW Tryz.prog 138 bM.c := fG Tryz.func138 kr kr (by decide) (fun _ => dW (by decide) _) fun n x y h m w => (bM.calls n x.1.1 x.2.1.1 y w h).mono fun e w' he => ⟨he.1, he.2.below⟩
def aW.c : Fc := gZ [hI .i64, hI .u32] [hB] (T := Bool) (fun y => ((y, ()), ())) fun n x => aW.f n x.1.1 x.2.1.1
theorem aW.ok : gW Tryz.prog 141 aW.c := fG Tryz.func141 kr kr (by decide) (fun _ => dW (by decide) _) fun n x y h m w => (aW.calls n x.1.1 x.2.1.1 y w h).mono fun e w' he => ⟨he.1, he.2.below⟩
def dS.cls : Cls := [(138, bM.c), (141, aW.c)]
theorem dS.fE : bR Tryz.prog dS.cls := bR.cons bM.ok (bR.cons aW.ok (bR.nil))
def dS.K (v : SV) : Option (Bool) := (iL [hB] v).map (fun z => (z.1.1))
def dS.cuts : List Nat := []
def dS.f (k : Nat) (a0 a1 a2 : Int) : Option (Bool) := evF Tryz.prog dS.cls Tryz.f158 dS.cuts k [.one (.i .i64 (.x a0)), .one (.i .u32 (.x a1)), .one (.i .u32 (.x a2))] dS.K
def dS.c : Fc := gZ [hI .i64, hI .u32, hI .u32] [hB] (T := Bool) (fun y => ((y, ()), ())) fun n x => dS.f n x.1.1 x.2.1.1 x.2.2.1.1
theorem dS.ok : gW Tryz.prog 158 dS.c := nR dS.fE Tryz.func158 kr kr (by decide) (fun _ => rfl) (fun _ _ => rfl)
def fM.c : Fc := gZ [hI .i64] [hI .u32, .agg [.b, .b, .b, .b, .b]] (T := Int × Bool × Bool × Bool × Bool × Bool) (fun y => ((y.1, ()), (y.2.1, y.2.2.1, y.2.2.2.1, y.2.2.2.2.1, y.2.2.2.2.2, ()), ())) fun n x => fM.f x.1.1
theorem fM.ok : gW Tryz.prog 140 fM.c := fG Tryz.func140 kr kr (by decide) (fun _ => dW (by decide) _) fun n x y h m w => (fM.calls x.1.1 y.1 y.2.1 y.2.2.1 y.2.2.2.1 y.2.2.2.2.1 y.2.2.2.2.2 w h).mono fun e w' he => ⟨he.1, he.2⟩
def aZ.cls : Cls := [(140, fM.c), (142, dQ.c)]
theorem aZ.fE : bR Tryz.prog aZ.cls := bR.cons fM.ok (bR.cons dQ.ok (bR.nil))
def aZ.K (v : SV) : Option (Int × Bool × Bool × Bool × Bool × Bool) := (iL [hI .u32, .agg [.b, .b, .b, .b, .b]] v).map (fun z => (z.1.1, z.2.1.1, z.2.1.2.1, z.2.1.2.2.1, z.2.1.2.2.2.1, z.2.1.2.2.2.2.1))
def aZ.cuts : List Nat := [2]
def aZ.f (k : Nat) (a0 : Int) (a1 a2 : Bool) (a3 a4 : Bool) : Option (Int × Bool × Bool × Bool × Bool × Bool) := evF Tryz.prog aZ.cls Tryz.f161 aZ.cuts k [.one (.i .i64 (.x a0)), .one (.b (.q a1)), .one (.b (.q a2)), .one (.b (.q a3)), .one (.b (.q a4))] aZ.K
def aZ.c : Fc := gZ [hI .i64, hB, hB, hB, hB] [hI .u32, .agg [.b, .b, .b, .b, .b]] (T := Int × Bool × Bool × Bool × Bool × Bool) (fun y => ((y.1, ()), (y.2.1, y.2.2.1, y.2.2.2.1, y.2.2.2.2.1, y.2.2.2.2.2, ()), ())) fun n x => aZ.f n x.1.1 x.2.1.1 x.2.2.1.1 x.2.2.2.1.1 x.2.2.2.2.1.1
theorem aZ.ok : gW Tryz.prog 161 aZ.c := nR aZ.fE Tryz.func161 kr kr (by decide) (fun _ => rfl) (fun _ _ => rfl)
def eB.c : Fc := gZ [hI .i64, hI .u32] [hB] (T := Bool) (fun y => ((y, ()), ())) fun n x => eB.f n x.1.1 x.2.1.1
theorem eB.ok : gW Tryz.prog 176 eB.c := fG Tryz.func176 kr kr (by decide) (fun _ => dW (by decide) _) fun n x y h m w => (eB.calls n x.1.1 x.2.1.1 y w h).mono fun e w' he => ⟨he.1, he.2.below⟩
def gI.c : Fc := gZ [hI .i64, hI .u32] [hI .i64] (T := Int) (fun y => ((y, ()), ())) fun n x => gI.f x.1.1 x.2.1.1
theorem gI.ok : gW Tryz.prog 177 gI.c := fG Tryz.func177 kr kr (by decide) (fun _ => dW (by decide) _) fun n x y h m w => (gI.calls x.1.1 x.2.1.1 y w h).mono fun e w' he => ⟨he.1, he.2.below⟩
def aM.cls : Cls := [(176, eB.c), (177, gI.c), (138, bM.c)]
theorem aM.fE : bR Tryz.prog aM.cls := bR.cons eB.ok (bR.cons gI.ok (bR.cons bM.ok (bR.nil)))
def aM.K (v : SV) : Option (Int × Bool) := (iL [hI .i64, hB] v).map (fun z => (z.1.1, z.2.1.1))
def aM.cuts : List Nat := [2, 5]
def aM.f (k : Nat) (a0 a1 a2 : Int) : Option (Int × Bool) := evF Tryz.prog aM.cls Tryz.f165 aM.cuts k [.one (.i .i64 (.x a0)), .one (.i .u32 (.x a1)), .one (.i .u32 (.x a2))] aM.K
def aM.c : Fc := gZ [hI .i64, hI .u32, hI .u32] [hI .i64, hB] (T := Int × Bool) (fun y => ((y.1, ()), (y.2, ()), ())) fun n x => aM.f n x.1.1 x.2.1.1 x.2.2.1.1
theorem aM.ok : gW Tryz.prog 165 aM.c := nR aM.fE Tryz.func165 kr kr (by decide) (fun _ => rfl) (fun _ _ => rfl)
def aI.c : Fc := gZ [hI .i64] [hI .i64, hI .i64] (T := Int × Int) (fun y => ((y.1, ()), (y.2, ()), ())) fun n x => aI.f x.1.1
theorem aI.ok : gW Tryz.prog 125 aI.c := fG Tryz.func125 kr kr (by decide) (fun _ => dW (by decide) _) fun n x y h m w => (aI.calls x.1.1 y.1 y.2 w h).mono fun e w' he => ⟨he.1, he.2.below⟩
def bU.c : Fc := gZ [hI .i64, hB] [hI .u32] (T := Int) (fun y => ((y, ()), ())) fun n x => bU.f x.1.1 x.2.1.1
theorem bU.ok : gW Tryz.prog 91 bU.c := fG Tryz.func91 kr kr (by decide) (fun _ => dW (by decide) _) fun n x y h m w => (bU.calls x.1.1 x.2.1.1 y w h).mono fun e w' he => ⟨he.1, he.2.below⟩
def bX.cls : Cls := [(125, aI.c), (91, bU.c)]
theorem bX.fE : bR Tryz.prog bX.cls := bR.cons aI.ok (bR.cons bU.ok (bR.nil))
def bX.K (v : SV) : Option (Int) := (iL [hI .u32] v).map (fun z => (z.1.1))
def bX.cuts : List Nat := []
def bX.f (k : Nat) (a0 a1 : Int) : Option (Int) := evF Tryz.prog bX.cls Tryz.f84 bX.cuts k [.one (.i .i64 (.x a0)), .one (.i .u32 (.x a1))] bX.K
def bX.c : Fc := gZ [hI .i64, hI .u32] [hI .u32] (T := Int) (fun y => ((y, ()), ())) fun n x => bX.f n x.1.1 x.2.1.1
theorem bX.ok : gW Tryz.prog 84 bX.c := nR bX.fE Tryz.func84 kr kr (by decide) (fun _ => rfl) (fun _ _ => rfl)
def bG.c : Fc := gZ [hI .i64] [hI .u32] (T := Int) (fun y => ((y, ()), ())) fun n x => bG.f x.1.1
theorem bG.ok : gW Tryz.prog 90 bG.c := fG Tryz.func90 kr kr (by decide) (fun _ => dW (by decide) _) fun n x y h m w => (bG.calls x.1.1 y w h).mono fun e w' he => ⟨he.1, he.2.below⟩
def dA.cls : Cls := [(125, aI.c), (90, bG.c), (91, bU.c)]
theorem dA.fE : bR Tryz.prog dA.cls := bR.cons aI.ok (bR.cons bG.ok (bR.cons bU.ok (bR.nil)))
def dA.K (v : SV) : Option (Int) := (iL [hI .u32] v).map (fun z => (z.1.1))
def dA.cuts : List Nat := []
def dA.f (k : Nat) (a0 a1 : Int) : Option (Int) := evF Tryz.prog dA.cls Tryz.f85 dA.cuts k [.one (.i .i64 (.x a0)), .one (.i .u32 (.x a1))] dA.K
def dA.c : Fc := gZ [hI .i64, hI .u32] [hI .u32] (T := Int) (fun y => ((y, ()), ())) fun n x => dA.f n x.1.1 x.2.1.1
theorem dA.ok : gW Tryz.prog 85 dA.c := nR dA.fE Tryz.func85 kr kr (by decide) (fun _ => rfl) (fun _ _ => rfl)
def aD.cls : Cls := []
theorem aD.fE : bR Tryz.prog aD.cls := bR.nil
def aD.K (v : SV) : Option (Int × Bool) := (iL [hI .u64, hB] v).map (fun z => (z.1.1, z.2.1.1))
def aD.cuts : List Nat := []
def aD.f (k : Nat) (a0 a1 : Int) : Option (Int × Bool) := evF Tryz.prog aD.cls Tryz.f168 aD.cuts k [.one (.i .u64 (.x a0)), .one (.i .i64 (.x a1))] aD.K
def aD.c : Fc := gZ [hI .u64, hI .i64] [hI .u64, hB] (T := Int × Bool) (fun y => ((y.1, ()), (y.2, ()), ())) fun n x => aD.f n x.1.1 x.2.1.1
theorem aD.ok : gW Tryz.prog 168 aD.c := nR aD.fE Tryz.func168 kr kr (by decide) (fun _ => rfl) (fun _ _ => rfl)
def bQ.cls : Cls := []
theorem bQ.fE : bR Tryz.prog bQ.cls := bR.nil
def bQ.K (v : SV) : Option (Bool) := (iL [hB] v).map (fun z => (z.1.1))
def bQ.cuts : List Nat := []
def bQ.f (k : Nat) (a0 : Int) (a1 a2 : Bool) (a3 a4 : Bool) : Option (Bool) := evF Tryz.prog bQ.cls Tryz.f134 bQ.cuts k [.one (.i .i64 (.x a0)), .one (.b (.q a1)), .one (.b (.q a2)), .one (.b (.q a3)), .one (.b (.q a4))] bQ.K
def bQ.c : Fc := gZ [hI .i64, hB, hB, hB, hB] [hB] (T := Bool) (fun y => ((y, ()), ())) fun n x => bQ.f n x.1.1 x.2.1.1 x.2.2.1.1 x.2.2.2.1.1 x.2.2.2.2.1.1
theorem bQ.ok : gW Tryz.prog 134 bQ.c := nR bQ.fE Tryz.func134 kr kr (by decide) (fun _ => rfl) (fun _ _ => rfl)
def eD.c : Fc := gZ [hI .i64, hB] [hI .u32] (T := Int) (fun y => ((y, ()), ())) fun n x => eD.f x.1.1 x.2.1.1
theorem eD.ok : gW Tryz.prog 169 eD.c := fG Tryz.func169 kr kr (by decide) (fun _ => dW (by decide) _) fun n x y h m w => (eD.calls x.1.1 x.2.1.1 y w h).mono fun e w' he => ⟨he.1, he.2.below⟩
def bZ.c : Fc := gZ [hI .i64, hB] [hI .u32] (T := Int) (fun y => ((y, ()), ())) fun n x => bZ.f x.1.1 x.2.1.1
theorem bZ.ok : gW Tryz.prog 89 bZ.c := fG Tryz.func89 kr kr (by decide) (fun _ => dW (by decide) _) fun n x y h m w => (bZ.calls x.1.1 x.2.1.1 y w h).mono fun e w' he => ⟨he.1, he.2.below⟩
def aK.cls : Cls := [(169, eD.c), (89, bZ.c)]
theorem aK.fE : bR Tryz.prog aK.cls := bR.cons eD.ok (bR.cons bZ.ok (bR.nil))
def aK.K (v : SV) : Option (Int) := (iL [hI .u32] v).map (fun z => (z.1.1))
def aK.cuts : List Nat := [2]
def aK.f (k : Nat) (a0 a1 : Int) (a2 : Bool) : Option (Int) := evF Tryz.prog aK.cls Tryz.f135 aK.cuts k [.one (.i .i64 (.x a0)), .one (.i .i64 (.x a1)), .one (.b (.q a2))] aK.K
def aK.c : Fc := gZ [hI .i64, hI .i64, hB] [hI .u32] (T := Int) (fun y => ((y, ()), ())) fun n x => aK.f n x.1.1 x.2.1.1 x.2.2.1.1
theorem aK.ok : gW Tryz.prog 135 aK.c := nR aK.fE Tryz.func135 kr kr (by decide) (fun _ => rfl) (fun _ _ => rfl)
def bH.c : Fc := mkFcA [.s (hI .i64), .sl .u32] [hI .u32, .agg [.b, .b, .b, .b, .b], hB] (T := Int × Bool × Bool × Bool × Bool × Bool × Bool) (fun y => ((y.1, ()), (y.2.1, y.2.2.1, y.2.2.2.1, y.2.2.2.2.1, y.2.2.2.2.2.1, ()), (y.2.2.2.2.2.2, ()), ())) fun n x => bH.f n x.1.1 x.2.1
theorem bH.ok : gW Tryz.prog 136 bH.c := zJ Tryz.func136 kr kr (by decide) (fun _ => dW (by decide) _) fun n x y h m w vs ha => by obtain ⟨q0, e0, ha⟩ := ha; subst e0; obtain ⟨A1, c1, q1, e1, R1, D1, ha⟩ := ha; subst e1; subst ha; exact (bH.calls n x.1.1 A1 c1 x.2.1 y.1 y.2.1 y.2.2.1 y.2.2.2.1 y.2.2.2.2.1 y.2.2.2.2.2.1 y.2.2.2.2.2.2 w R1 D1 h).mono fun e w' he => ⟨he.1, he.2⟩
def fB.c : Fc := gZ [hI .i64] [hI .u32] (T := Int) (fun y => ((y, ()), ())) fun n x => fB.f x.1.1
theorem fB.ok : gW Tryz.prog 174 fB.c := fG Tryz.func174 kr kr (by decide) (fun _ => dW (by decide) _) fun n x y h m w => (fB.calls x.1.1 y w h).mono fun e w' he => ⟨he.1, he.2.below⟩
def d9.cls : Cls := [(136, bH.c), (174, fB.c), (141, aW.c), (138, bM.c)]
theorem d9.fE : bR Tryz.prog d9.cls := bR.cons bH.ok (bR.cons fB.ok (bR.cons aW.ok (bR.cons bM.ok (bR.nil))))
def d9.K (v : SV) : Option (Int × Bool × Bool × Bool × Bool × Bool × Bool) := (iL [hI .u32, .agg [.b, .b, .b, .b, .b], hB] v).map (fun z => (z.1.1, z.2.1.1, z.2.1.2.1, z.2.1.2.2.1, z.2.1.2.2.2.1, z.2.1.2.2.2.2.1, z.2.2.1.1))
def d9.cuts : List Nat := []
def d9.f (k : Nat) (a0 a1 : Int) : Option (Int × Bool × Bool × Bool × Bool × Bool × Bool) := evF Tryz.prog d9.cls Tryz.f166 d9.cuts k [.one (.i .i64 (.x a0)), .one (.i .u32 (.x a1))] d9.K
def d9.c : Fc := gZ [hI .i64, hI .u32] [hI .u32, .agg [.b, .b, .b, .b, .b], hB] (T := Int × Bool × Bool × Bool × Bool × Bool × Bool) (fun y => ((y.1, ()), (y.2.1, y.2.2.1, y.2.2.2.1, y.2.2.2.2.1, y.2.2.2.2.2.1, ()), (y.2.2.2.2.2.2, ()), ())) fun n x => d9.f n x.1.1 x.2.1.1
theorem d9.ok : gW Tryz.prog 166 d9.c := nR d9.fE Tryz.func166 kr kr (by decide) (fun _ => rfl) (fun _ _ => rfl)
def aG.c : Fc := mkFcA [.s (hI .i64), .sl .u32] [hB, hB] (T := Bool × Bool) (fun y => ((y.1, ()), (y.2, ()), ())) fun n x => aG.f n x.1.1 x.2.1
theorem aG.ok : gW Tryz.prog 77 aG.c := zJ Tryz.func77 kr kr (by decide) (fun _ => dW (by decide) _) fun n x y h m w vs ha => by obtain ⟨q0, e0, ha⟩ := ha; subst e0; obtain ⟨A1, c1, q1, e1, R1, D1, ha⟩ := ha; subst e1; subst ha; exact (aG.calls n x.1.1 A1 c1 x.2.1 y.1 y.2 w R1 D1 h).mono fun e w' he => ⟨he.1, he.2.below⟩
def bA.c : Fc := gZ [hI .i64, hI .u32] [hB] (T := Bool) (fun y => ((y, ()), ())) fun n x => bA.f n x.1.1 x.2.1.1
theorem bA.ok : gW Tryz.prog 78 bA.c := fG Tryz.func78 kr kr (by decide) (fun _ => dW (by decide) _) fun n x y h m w => (bA.calls n x.1.1 x.2.1.1 y w h).mono fun e w' he => ⟨he.1, he.2.below⟩
def fA.c : Fc := gZ [hI .i64, hI .u32] [hI .i64] (T := Int) (fun y => ((y, ()), ())) fun n x => fA.f x.1.1 x.2.1.1
theorem fA.ok : gW Tryz.prog 79 fA.c := fG Tryz.func79 kr kr (by decide) (fun _ => dW (by decide) _) fun n x y h m w => (fA.calls x.1.1 x.2.1.1 y w h).mono fun e w' he => ⟨he.1, he.2.below⟩
def aN.cls : Cls := [(77, aG.c), (78, bA.c), (79, fA.c)]
theorem aN.fE : bR Tryz.prog aN.cls := bR.cons aG.ok (bR.cons bA.ok (bR.cons fA.ok (bR.nil)))
def aN.K (v : SV) : Option (Int × Bool) := (iL [hI .i64, hB] v).map (fun z => (z.1.1, z.2.1.1))
def aN.cuts : List Nat := [5]
def aN.f (k : Nat) (a0 a1 a2 : Int) : Option (Int × Bool) := evF Tryz.prog aN.cls Tryz.f31 aN.cuts k [.one (.i .i64 (.x a0)), .one (.i .u32 (.x a1)), .one (.i .u32 (.x a2))] aN.K
def aN.c : Fc := gZ [hI .i64, hI .u32, hI .u32] [hI .i64, hB] (T := Int × Bool) (fun y => ((y.1, ()), (y.2, ()), ())) fun n x => aN.f n x.1.1 x.2.1.1 x.2.2.1.1
theorem aN.ok : gW Tryz.prog 31 aN.c := nR aN.fE Tryz.func31 kr kr (by decide) (fun _ => rfl) (fun _ _ => rfl)
set_option maxRecDepth 100000
def aR.j2 (n0 : Nat) (x0 : Bool) (x1 x2 : Int) := jK Tryz.prog aR.cls Tryz.f144 aR.cuts [1, 0, 0, 1] [n0] n0 ⟨[(8, (.pv (.one (.b (.q x0))))), (1, (.pv (.one (.i .i64 (.x x1))))), (0, (.pv (.one (.i .u64 (.x x2)))))], [], 0⟩ aR.K
theorem aR.eq (n0 : Nat) (a0 a1 : Int) : aR.f n0 a0 a1 = (if 64 ≤ a1 then (aR.j2 n0 (true) (a1) (a0)) else (aR.j2 n0 (Decidable.rec (fun h => false) (fun h => true) (Int.decLe a1 (-64))) (a1) (a0))) := by kernel_rfl
theorem aR.wV (n0 : Nat) (x0 : Bool) (x1 x2 : Int) : aR.j2 n0 x0 x1 x2 = (if x0 = true then (some ((0, !x2 == 0))) else (if 0 ≤ x1 then (if 0 ≤ IntKind.wrap IntKind.u64 x1 then (if 0 ≤ IntKind.wrap IntKind.u64 x1 then (some ((shr IntKind.u64 x2 (IntKind.wrap IntKind.u64 x1), !shl IntKind.u64 (shr IntKind.u64 x2 (IntKind.wrap IntKind.u64 x1)) (IntKind.wrap IntKind.u64 x1) == x2))) else none) else none) else (if 0 ≤ IntKind.wrap IntKind.u64 (wrap64 (-x1)) then (if 0 ≤ IntKind.wrap IntKind.u64 (wrap64 (-x1)) then (some ((shl IntKind.u64 x2 (IntKind.wrap IntKind.u64 (wrap64 (-x1))), !shr IntKind.u64 (shl IntKind.u64 x2 (IntKind.wrap IntKind.u64 (wrap64 (-x1)))) (IntKind.wrap IntKind.u64 (wrap64 (-x1))) == x2))) else none) else none))) := by kernel_rfl
theorem eU.eq (n0 : Nat) (a0 : Int) (a1 : Bool) (a2 a3 : Int) : eU.f n0 a0 a1 a2 a3 = (if a0 = 1 then (some (false)) else (if a0 = 2 then (if a1 = true then (some (false)) else (some (!a3 == 0))) else (if a0 = 3 then (if a1 = true then (some (!a3 == 0)) else (some (false))) else (if a0 = 4 then (some (decide (2 ≤ a3))) else (if a3 = 3 then (some (true)) else (if a3 = 2 then (some (bits BinOp.and IntKind.u64 a2 1 == 1)) else (some (false)))))))) := by kernel_rfl
theorem dE.eq (n0 : Nat) (a0 a1 : Int) (a2 : Bool) : dE.f n0 a0 a1 a2 = (if a1 = 1 then ((eH.f a0 a2).bind fun t0 => (some ((t0, false, false, true, false, true)))) else (if a1 = 2 then (if a2 = true then ((eH.f a0 a2).bind fun t0 => (some ((t0, false, false, true, false, true)))) else ((dQ.f a0 a2).bind fun t0 => (some ((t0, false, false, true, false, true))))) else (if a1 = 3 then (if a2 = true then ((dQ.f a0 a2).bind fun t0 => (some ((t0, false, false, true, false, true)))) else ((eH.f a0 a2).bind fun t0 => (some ((t0, false, false, true, false, true))))) else ((dQ.f a0 a2).bind fun t0 => (some ((t0, false, false, true, false, true))))))) := by kernel_rfl
theorem dG.eq (n0 : Nat) (a0 a1 : Int) : dG.f n0 a0 a1 = ((bJ.f a0).bind fun t0 => ((eT.f a0 a1).bind fun t1 => (if t1.2.1 = 0 then ((dX.f a0).bind fun t2 => (some ((t1.1, wrap64 (t2 - t0.2), IntKind.wrap IntKind.u64 t1.2.2)))) else ((dY.f a0).bind fun t2 => (if t1.2.1 = t2 then (some ((t1.1, 0, 0))) else ((dX.f a0).bind fun t3 => (if 0 ≤ IntKind.wrap IntKind.u64 t0.2 then (some ((t1.1, wrap64 (wrap64 (wrap64 (t3 - t0.2) + t1.2.1) - 1), bits BinOp.or IntKind.u64 (IntKind.wrap IntKind.u64 t1.2.2) (shl IntKind.u64 1 (IntKind.wrap IntKind.u64 t0.2))))) else none))))))) := by kernel_rfl
theorem dS.eq (n0 : Nat) (a0 a1 a2 : Int) : dS.f n0 a0 a1 a2 = ((bM.f n0 a0 a1).bind fun t0 => (if t0 = true then ((aW.f n0 a0 a2).bind fun t1 => (if t1 = true then (some (true)) else ((aW.f n0 a0 a1).bind fun t2 => (if t2 = true then ((bM.f n0 a0 a2).bind fun t3 => (some (t3))) else (some (false)))))) else ((aW.f n0 a0 a1).bind fun t1 => (if t1 = true then ((bM.f n0 a0 a2).bind fun t2 => (some (t2))) else (some (false)))))) := by kernel_rfl
def aZ.j2 (n0 : Nat) (x0 x1 : Bool) (x2 x3 : Bool) (x4 : Int) (x5 x6 : Bool) (x7 x8 x9 : Bool) := jK Tryz.prog aZ.cls Tryz.f161 aZ.cuts [1, 0, 0, 1] [n0] n0 ⟨[(12, (.pv (.one (.b (.q x0))))), (11, (.pv (.one (.p 0 0)))), (3, (.pv (.one (.b (.q x1))))), (2, (.pv (.one (.b (.q x2))))), (1, (.pv (.one (.b (.q x3))))), (0, (.pv (.one (.i .i64 (.x x4)))))], [(0, (62, [(.c (.b (.q x5))), (.c (.b (.q x6))), (.c (.b (.q x7))), (.c (.b (.q x8))), (.c (.b (.q x9)))]))], 1⟩ aZ.K
theorem aZ.eq (n0 : Nat) (a0 : Int) (a1 a2 : Bool) (a3 a4 : Bool) : aZ.f n0 a0 a1 a2 a3 a4 = (if a3 = true then (if a4 = true then (aZ.j2 n0 (!(a1 == a2)) (a3) (a2) (a1) (a0) (false) (false) (false) (false) (false)) else (aZ.j2 n0 (false) (a3) (a2) (a1) (a0) (false) (false) (false) (false) (false))) else (aZ.j2 n0 (false) (a3) (a2) (a1) (a0) (false) (false) (false) (false) (false))) := by kernel_rfl
theorem aZ.wV (n0 : Nat) (x0 x1 : Bool) (x2 x3 : Bool) (x4 : Int) (x5 x6 : Bool) (x7 x8 x9 : Bool) : aZ.j2 n0 x0 x1 x2 x3 x4 x5 x6 x7 x8 x9 = (if x0 = true then ((fM.f x4).bind fun t0 => (some ((t0.1, t0.2.1, t0.2.2.1, t0.2.2.2.1, t0.2.2.2.2.1, t0.2.2.2.2.2)))) else (if x1 = true then ((dQ.f x4 x3).bind fun t0 => (some ((t0, false, false, false, false, false)))) else ((dQ.f x4 x2).bind fun t0 => (some ((t0, false, false, false, false, false)))))) := by kernel_rfl
def aM.j2 (n0 : Nat) (x0 : Bool) (x1 x2 x3 : Int) := jK Tryz.prog aM.cls Tryz.f165 aM.cuts [1, 0, 1] [n0] n0 ⟨[(17, (.pv (.one (.b (.q x0))))), (2, (.pv (.one (.i .u32 (.x x1))))), (1, (.pv (.one (.i .u32 (.x x2))))), (0, (.pv (.one (.i .i64 (.x x3)))))], [], 0⟩ aM.K
def aM.j5 (n0 : Nat) (x0 : Bool) (x1 x2 : Int) := jK Tryz.prog aM.cls Tryz.f165 aM.cuts [1, 1, 1, 0, 0, 1] [n0] n0 ⟨[(24, (.pv (.one (.b (.q x0))))), (9, (.pv (.one (.i .i64 (.x x1))))), (8, (.pv (.one (.i .i64 (.x x2)))))], [], 0⟩ aM.K
theorem aM.eq (n0 : Nat) (a0 a1 a2 : Int) : aM.f n0 a0 a1 a2 = ((eB.f n0 a0 a1).bind fun t0 => (if t0 = true then (aM.j2 n0 (true) (a2) (a1) (a0)) else ((eB.f n0 a0 a2).bind fun t1 => (aM.j2 n0 (t1) (a2) (a1) (a0))))) := by kernel_rfl
theorem aM.wV (n0 : Nat) (x0 : Bool) (x1 x2 x3 : Int) : aM.j2 n0 x0 x1 x2 x3 = (if x0 = true then (some ((0, false))) else ((gI.f x3 x2).bind fun t0 => ((gI.f x3 x1).bind fun t1 => ((bM.f n0 x3 x2).bind fun t2 => (if t2 = true then ((bM.f n0 x3 x1).bind fun t3 => (aM.j5 n0 (t3) (t1) (t0))) else (aM.j5 n0 (false) (t1) (t0))))))) := by kernel_rfl
theorem aM.aCo (n0 : Nat) (x0 : Bool) (x1 x2 : Int) : aM.j5 n0 x0 x1 x2 = (if x0 = true then (some ((0, true))) else (if x2 < x1 then (some ((-1, true))) else (if x1 < x2 then (some ((1, true))) else (some ((0, true)))))) := by kernel_rfl
theorem bX.eq (n0 : Nat) (a0 a1 : Int) : bX.f n0 a0 a1 = (if Int.tmod a1 7 = 0 then (some (Int.ofNat 0)) else ((aI.f a0).bind fun t0 => (if 0 ≤ t0.1 then (if 0 ≤ t0.2 then (if 0 ≤ t0.2 then (if 0 ≤ t0.2 then (if shl IntKind.u32 4 t0.2 = 0 then none else (if bits BinOp.and IntKind.u32 a1 1 = 1 then ((bU.f a0 true).bind fun t1 => (some (bits BinOp.or IntKind.u32 (((shl IntKind.u32 (shr IntKind.u32 ((shl IntKind.u32 1 t0.1 - 1) % 4294967296) 1) t0.2 - shl IntKind.u32 2 t0.2) % 4294967296 + Int.tmod (shr IntKind.u32 a1 3) (shl IntKind.u32 4 t0.2)) % 4294967296) t1))) else (some (((shl IntKind.u32 (shr IntKind.u32 ((shl IntKind.u32 1 t0.1 - 1) % 4294967296) 1) t0.2 - shl IntKind.u32 2 t0.2) % 4294967296 + Int.tmod (shr IntKind.u32 a1 3) (shl IntKind.u32 4 t0.2)) % 4294967296)))) else none) else none) else none) else none))) := by kernel_rfl
theorem dA.eq (n0 : Nat) (a0 a1 : Int) : dA.f n0 a0 a1 = ((aI.f a0).bind fun t0 => (if 0 ≤ t0.1 then (if 0 ≤ t0.2 then (if 0 ≤ t0.2 then (if 0 ≤ t0.2 then (if 0 ≤ t0.2 then (if 0 ≤ t0.2 then (if shl IntKind.u32 3 t0.2 = 0 then none else (if 0 ≤ t0.2 then (if 0 ≤ t0.2 then (if 0 ≤ t0.2 then (if 0 ≤ t0.2 then (if 0 ≤ wrap64 (t0.2 - 1) then (if 0 ≤ t0.2 then (if shl IntKind.u32 9 t0.2 = 0 then none else (if 0 ≤ Int.tmod a1 15 then (if Int.tmod a1 15 < ↑15 then ((bG.f a0).bind fun t1 => (if shr IntKind.u32 a1 31 = 1 then ((bU.f a0 true).bind fun t2 => (some (bits BinOp.or IntKind.u32 (bits BinOp.and IntKind.u32 (rd [0, 1, (shl IntKind.u32 1 t0.2 - 1) % 4294967296, shl IntKind.u32 1 t0.2, shl IntKind.u32 (shr IntKind.u32 ((shl IntKind.u32 1 t0.1 - 1) % 4294967296) 1) t0.2, (shl IntKind.u32 (shr IntKind.u32 ((shl IntKind.u32 1 t0.1 - 1) % 4294967296) 1) t0.2 + 1) % 4294967296, (shl IntKind.u32 (shr IntKind.u32 ((shl IntKind.u32 1 t0.1 - 1) % 4294967296) 1) t0.2 - 1) % 4294967296, (shl IntKind.u32 (shr IntKind.u32 ((shl IntKind.u32 1 t0.1 - 1) % 4294967296) 1) t0.2 + shl IntKind.u32 1 t0.2) % 4294967296, (shl IntKind.u32 (shr IntKind.u32 ((shl IntKind.u32 1 t0.1 - 1) % 4294967296) 1) t0.2 + Int.tmod (shr IntKind.u32 a1 4) (shl IntKind.u32 3 t0.2)) % 4294967296, (shl IntKind.u32 ((shl IntKind.u32 1 t0.1 - 1) % 4294967296) t0.2 - 1) % 4294967296, shl IntKind.u32 ((shl IntKind.u32 1 t0.1 - 1) % 4294967296) t0.2, bits BinOp.or IntKind.u32 (shl IntKind.u32 ((shl IntKind.u32 1 t0.1 - 1) % 4294967296) t0.2) 1, bits BinOp.or IntKind.u32 (shl IntKind.u32 ((shl IntKind.u32 1 t0.1 - 1) % 4294967296) t0.2) (shl IntKind.u32 1 (wrap64 (t0.2 - 1))), (shl IntKind.u32 (shr IntKind.u32 ((shl IntKind.u32 1 t0.1 - 1) % 4294967296) 1) t0.2 - Int.tmod (shr IntKind.u32 a1 4) (shl IntKind.u32 9 t0.2)) % 4294967296, shr IntKind.u32 a1 4] (Int.tmod a1 15)) t1) t2))) else (some (bits BinOp.and IntKind.u32 (rd [0, 1, (shl IntKind.u32 1 t0.2 - 1) % 4294967296, shl IntKind.u32 1 t0.2, shl IntKind.u32 (shr IntKind.u32 ((shl IntKind.u32 1 t0.1 - 1) % 4294967296) 1) t0.2, (shl IntKind.u32 (shr IntKind.u32 ((shl IntKind.u32 1 t0.1 - 1) % 4294967296) 1) t0.2 + 1) % 4294967296, (shl IntKind.u32 (shr IntKind.u32 ((shl IntKind.u32 1 t0.1 - 1) % 4294967296) 1) t0.2 - 1) % 4294967296, (shl IntKind.u32 (shr IntKind.u32 ((shl IntKind.u32 1 t0.1 - 1) % 4294967296) 1) t0.2 + shl IntKind.u32 1 t0.2) % 4294967296, (shl IntKind.u32 (shr IntKind.u32 ((shl IntKind.u32 1 t0.1 - 1) % 4294967296) 1) t0.2 + Int.tmod (shr IntKind.u32 a1 4) (shl IntKind.u32 3 t0.2)) % 4294967296, (shl IntKind.u32 ((shl IntKind.u32 1 t0.1 - 1) % 4294967296) t0.2 - 1) % 4294967296, shl IntKind.u32 ((shl IntKind.u32 1 t0.1 - 1) % 4294967296) t0.2, bits BinOp.or IntKind.u32 (shl IntKind.u32 ((shl IntKind.u32 1 t0.1 - 1) % 4294967296) t0.2) 1, bits BinOp.or IntKind.u32 (shl IntKind.u32 ((shl IntKind.u32 1 t0.1 - 1) % 4294967296) t0.2) (shl IntKind.u32 1 (wrap64 (t0.2 - 1))), (shl IntKind.u32 (shr IntKind.u32 ((shl IntKind.u32 1 t0.1 - 1) % 4294967296) 1) t0.2 - Int.tmod (shr IntKind.u32 a1 4) (shl IntKind.u32 9 t0.2)) % 4294967296, shr IntKind.u32 a1 4] (Int.tmod a1 15)) t1)))) else none) else none)) else none) else none) else none) else none) else none) else none)) else none) else none) else none) else none) else none) else none)) := by kernel_rfl
def aD.l3 (k n0 : Nat) (x0 : Bool) (x1 x2 : Int) := evIn Tryz.prog aD.cls Tryz.f168 aD.cuts [1, 1, 1, 0, 0] [n0] k ⟨[(6, (.pv (.one (.b (.q x0))))), (1, (.pv (.one (.i .i64 (.x x1))))), (0, (.pv (.one (.i .u64 (.x x2)))))], [], 0⟩ aD.K
def aD.l7 (k n0 : Nat) (x0 : Bool) (x1 x2 : Int) := evIn Tryz.prog aD.cls Tryz.f168 aD.cuts [1, 1, 1, 1, 0, 0] [n0] k ⟨[(6, (.pv (.one (.b (.q x0))))), (1, (.pv (.one (.i .i64 (.x x1))))), (0, (.pv (.one (.i .u64 (.x x2)))))], [], 0⟩ aD.K
theorem aD.eq (n0 : Nat) (a0 a1 : Int) : aD.f n0 a0 a1 = (aD.l3 n0 n0 (false) (mn (mx a1 (-64)) 64) (a0)) := by kernel_rfl
theorem aD.l3_eq (k n0 : Nat) (x0 : Bool) (x1 x2 : Int) : aD.l3 (k + 1) n0 x0 x1 x2 = (if 0 < x1 then (if x0 = true then (aD.l3 k n0 (true) (wrap64 (x1 - 1)) (shr IntKind.u64 x2 1)) else (aD.l3 k n0 (Decidable.rec (fun h => false) (fun h => true) (Int.instDecidableEq (bits BinOp.and IntKind.u64 x2 1) 1)) (wrap64 (x1 - 1)) (shr IntKind.u64 x2 1))) else (aD.l7 n0 n0 (x0) (x1) (x2))) := by kernel_rfl
theorem aD.l7_eq (k n0 : Nat) (x0 : Bool) (x1 x2 : Int) : aD.l7 (k + 1) n0 x0 x1 x2 = (if x1 < 0 then (if x0 = true then (aD.l7 k n0 (true) (wrap64 (x1 + 1)) (shl IntKind.u64 x2 1)) else (aD.l7 k n0 (Decidable.rec (fun h => false) (fun h => true) (Int.instDecidableEq (shr IntKind.u64 x2 63) 1)) (wrap64 (x1 + 1)) (shl IntKind.u64 x2 1))) else (some ((x2, x0)))) := by kernel_rfl
theorem bQ.eq (n0 : Nat) (a0 : Int) (a1 a2 : Bool) (a3 a4 : Bool) : bQ.f n0 a0 a1 a2 a3 a4 = (if a0 = 1 then (some (false)) else (if a0 = 2 then (if a1 = true then (some (false)) else (if a3 = true then (some (true)) else (some (a4)))) else (if a0 = 3 then (if a1 = true then (if a3 = true then (some (true)) else (some (a4))) else (some (false))) else (if a0 = 4 then (some (a3)) else (if a3 = true then (if a4 = true then (some (true)) else (some (a2))) else (some (false))))))) := by kernel_rfl
def aK.j2 (n0 : Nat) (x0 x1 : Bool) (x2 : Int) := jK Tryz.prog aK.cls Tryz.f135 aK.cuts [1, 0, 1] [n0] n0 ⟨[(23, (.pv (.one (.b (.q x0))))), (2, (.pv (.one (.b (.q x1))))), (0, (.pv (.one (.i .i64 (.x x2)))))], [], 0⟩ aK.K
theorem aK.eq (n0 : Nat) (a0 a1 : Int) (a2 : Bool) : aK.f n0 a0 a1 a2 = (if a1 = 1 then (aK.j2 n0 (true) (a2) (a0)) else (if a1 = 2 then (if a2 = true then (aK.j2 n0 (true) (a2) (a0)) else (if a1 = 3 then (aK.j2 n0 (!(a2)) (a2) (a0)) else (aK.j2 n0 (false) (a2) (a0)))) else (if a1 = 3 then (aK.j2 n0 (!(a2)) (a2) (a0)) else (aK.j2 n0 (false) (a2) (a0))))) := by kernel_rfl
theorem aK.wV (n0 : Nat) (x0 x1 : Bool) (x2 : Int) : aK.j2 n0 x0 x1 x2 = (if x0 = true then ((eD.f x2 x1).bind fun t0 => (some (t0))) else ((bZ.f x2 x1).bind fun t0 => (some (t0)))) := by kernel_rfl
theorem d9.eq (n0 : Nat) (a0 a1 : Int) : d9.f n0 a0 a1 = ((bH.f n0 a0 [a1]).bind fun t0 => (if t0.2.2.2.2.2.2 = true then (some ((t0.1, t0.2.1, t0.2.2.1, t0.2.2.2.1, t0.2.2.2.2.1, t0.2.2.2.2.2.1, true))) else ((fB.f a0).bind fun t1 => ((aW.f n0 a0 a1).bind fun t2 => (if t2 = true then (some ((bits BinOp.and IntKind.u32 a1 t1, false, false, false, false, false, true))) else ((bM.f n0 a0 a1).bind fun t3 => (some ((bits BinOp.and IntKind.u32 a1 t1, false, false, false, false, false, t3))))))))) := by kernel_rfl
def aN.j5 (n0 : Nat) (x0 : Bool) (x1 x2 x3 : Int) := jK Tryz.prog aN.cls Tryz.f31 aN.cuts [1, 1, 0, 1] [n0] n0 ⟨[(28, (.pv (.one (.b (.q x0))))), (2, (.pv (.one (.i .u32 (.x x1))))), (1, (.pv (.one (.i .u32 (.x x2))))), (0, (.pv (.one (.i .i64 (.x x3)))))], [], 0⟩ aN.K
theorem aN.eq (n0 : Nat) (a0 a1 a2 : Int) : aN.f n0 a0 a1 a2 = ((aG.f n0 a0 [a1, a2]).bind fun t0 => (if t0.1 = true then (some ((0, false))) else ((bA.f n0 a0 a1).bind fun t1 => (if t1 = true then ((bA.f n0 a0 a2).bind fun t2 => (aN.j5 n0 (t2) (a2) (a1) (a0))) else (aN.j5 n0 (false) (a2) (a1) (a0)))))) := by kernel_rfl
theorem aN.aCo (n0 : Nat) (x0 : Bool) (x1 x2 x3 : Int) : aN.j5 n0 x0 x1 x2 x3 = (if x0 = true then (some ((0, true))) else ((fA.f x3 x2).bind fun t0 => ((fA.f x3 x1).bind fun t1 => (if t0 < t1 then (some ((-1, true))) else (if t1 < t0 then (some ((1, true))) else (some ((0, true)))))))) := by kernel_rfl
end L
namespace P
attribute [local go_sem] max2_int min2_int max_two min_two max_three min_three max_four min_four
def aZ.j0 : Nat → Int → Bool → Bool → Bool → Bool → Option (Int × Bool × Bool × Bool × Bool × Bool)
 |0, _, _, _, _, _ => none
 |k + 1, x0, x1, x2, x3, x12 => if x12 = true then ((fM.f x0).bind fun bt267 => (some (bt267.1, bt267.2.1, bt267.2.2.1, bt267.2.2.2.1, bt267.2.2.2.2.1, bt267.2.2.2.2.2))) else (if x3 = true then ((dQ.f x0 x1).bind fun t273 => (some (t273, false, false, false, false, false))) else ((dQ.f x0 x2).bind fun t274 => (some (t274, false, false, false, false, false))))
def aZ.f (k : Nat) (a0 : Int) (a1 a2 : Bool) (a3 a4 : Bool) : Option (Int × Bool × Bool × Bool × Bool × Bool) := if a3 = true then (if a4 = true then (aZ.j0 k a0 a1 a2 a3 (a1 != a2)) else (aZ.j0 k a0 a1 a2 a3 false)) else (aZ.j0 k a0 a1 a2 a3 false)
section
variable {P : Program} {d c i o : Nat} {e : TypeId} {xs ys : Array Value} {is : List Nat} {a b : Value} {r s : Bool} {w : World}
theorem kR (ho : i * c = o) (ha : (part e xs o).run P w = .ok a w) (hb : (part e ys o).run P w = .ok b w) (he : (Op.equalIn d e a b).run P w = .ok r w) (hr : (Op.eqItems d e c xs ys is).run P w = .ok s w) : (Op.eqItems d e c xs ys (i :: is)).run P w = .ok (r && s) w := by
 simp only [Op.eqItems, Sem.run_bind, ho, ha, hb, he, Result.andThen_ok]
 cases r
 ·simp
 ·simpa using hr
theorem eqi_last (ho : i * c = o) (ha : (part e xs o).run P w = .ok a w) (hb : (part e ys o).run P w = .ok b w) (he : (Op.equalIn d e a b).run P w = .ok r w) : (Op.eqItems d e c xs ys [i]).run P w = .ok r w := by
 have h := kR (is := []) ho ha hb he (s := true) (by simp [Op.eqItems])
 rwa [Bool.and_true] at h
theorem eqArr_of {t : TypeId} {n : Nat} (hc : P.cellsOf e = c) (hu : P.underlying t = some (.array n e)) (hi : (P.info? e).isSome = true) (h : (Op.eqItems d e c xs ys (List.range n)).run P w = .ok r w) : (Op.equalIn (d + 1) t (.agg xs) (.agg ys)).run P w = .ok r w := by
 rw [run_equalIn_array w d xs ys hu (Option.some_get hi).symm, hc]; exact h
end
theorem eqA99 (d : Nat) (w : World) (x0 y0 : Int) (x1 y1 : Int) (x2 y2 : Int) (x3 y3 : Int) (x4 y4 : Int) (x5 y5 : Int) (x6 y6 : Int) (x7 y7 : Int) (x8 y8 : Int) (x9 y9 : Int) :
  (Op.equalIn (d + 2) 99 (.agg #[.int .u64 x0, .int .u64 x1, .int .u64 x2, .int .u64 x3, .int .u64 x4, .int .u64 x5, .int .u64 x6, .int .u64 x7, .int .u64 x8, .int .u64 x9]) (.agg #[.int .u64 y0, .int .u64 y1, .int .u64 y2, .int .u64 y3, .int .u64 y4, .int .u64 y5, .int .u64 y6, .int .u64 y7, .int .u64 y8, .int .u64 y9])).run Tryz.prog w = .ok (x0 == y0 && (x1 == y1 && (x2 == y2 && (x3 == y3 && (x4 == y4 && (x5 == y5 && (x6 == y6 && (x7 == y7 && (x8 == y8 && (x9 == y9)))))))))) w := by
 first
 |refine eqA_of Tryz.underlying99 kr ?_
  refine eqf_cons (by rfl) (by go_simp; rfl) (by go_simp; rfl) (by go_simp) ?_
  refine eqf_cons (by rfl) (by go_simp; rfl) (by go_simp; rfl) (by go_simp) ?_
  refine eqf_cons (by rfl) (by go_simp; rfl) (by go_simp; rfl) (by go_simp) ?_
  refine eqf_cons (by rfl) (by go_simp; rfl) (by go_simp; rfl) (by go_simp) ?_
  refine eqf_cons (by rfl) (by go_simp; rfl) (by go_simp; rfl) (by go_simp) ?_
  refine eqf_cons (by rfl) (by go_simp; rfl) (by go_simp; rfl) (by go_simp) ?_
  refine eqf_cons (by rfl) (by go_simp; rfl) (by go_simp; rfl) (by go_simp) ?_
  refine eqf_cons (by rfl) (by go_simp; rfl) (by go_simp; rfl) (by go_simp) ?_
  refine eqf_cons (by rfl) (by go_simp; rfl) (by go_simp; rfl) (by go_simp) ?_
  exact eqf_last (by rfl) (by go_simp; rfl) (by go_simp; rfl) (by go_simp)
 |refine eqArr_of (c := 1) kr Tryz.underlying99 kr ?_
  rw [show List.range 10 = [0, 1, 2, 3, 4, 5, 6, 7, 8, 9] from rfl]
  refine kR rfl (by go_simp; rfl) (by go_simp; rfl) (by go_simp) ?_
  refine kR rfl (by go_simp; rfl) (by go_simp; rfl) (by go_simp) ?_
  refine kR rfl (by go_simp; rfl) (by go_simp; rfl) (by go_simp) ?_
  refine kR rfl (by go_simp; rfl) (by go_simp; rfl) (by go_simp) ?_
  refine kR rfl (by go_simp; rfl) (by go_simp; rfl) (by go_simp) ?_
  refine kR rfl (by go_simp; rfl) (by go_simp; rfl) (by go_simp) ?_
  refine kR rfl (by go_simp; rfl) (by go_simp; rfl) (by go_simp) ?_
  refine kR rfl (by go_simp; rfl) (by go_simp; rfl) (by go_simp) ?_
  refine kR rfl (by go_simp; rfl) (by go_simp; rfl) (by go_simp) ?_
  exact eqi_last rfl (by go_simp; rfl) (by go_simp; rfl) (by go_simp)
attribute [local go_sem high] eqA99
def dI.f (a0_0 : Bool) (a0_1 a0_2 : Int) (a0_3 a0_4 : Int) (a0_5 a0_6 : Int) (a0_7 a0_8 : Int) (a0_9 a0_10 : Int) : Option (Bool) := some (a0_1 == 0 && (a0_2 == 0 && (a0_3 == 0 && (a0_4 == 0 && (a0_5 == 0 && (a0_6 == 0 && (a0_7 == 0 && (a0_8 == 0 && (a0_9 == 0 && (a0_10 == 0))))))))))
def aX.l0 : Nat → Int → Int → Option (Int)
 |0, _, _ => none
 |k + 1, x0, x3 => if x0 > 0 then (aX.l0 k (x0 / 2) (wrap64 (x3 + 1))) else (some x3)
def aX.f (k : Nat) (a0 : Int) : Option (Int) := aX.l0 k a0 0
theorem aX.gM : ∀ k, (∀ y0 y1, LeO (aX.l0 k y0 y1) (aX.l0 (k + 1) y0 y1))
 |0 => fun _ _ r h => by simp [aX.l0] at h
 |k + 1 => by
  have ih0 := aX.gM k
  ·intro y0 y1
   unfold aX.l0
   repeat' first
   |(with_reducible first|exact ih0 _ _|exact LeO.refl _|exact LeO.none _|refine LeO.ite ?_ ?_|refine LeO.bind ?_ (fun _ => ?_))
   |exact ih0 _ _
   |exact LeO.none _
   |refine LeO.ite ?_ ?_
   |refine LeO.bind ?_ (fun _ => ?_)
theorem aX.mono : ∀ a0 k, LeO (aX.f k a0) (aX.f (k + 1) a0) := by
 intro a0 k
 have ih0 := aX.gM k
 unfold aX.f
 repeat' first
   |(with_reducible first|exact ih0 _ _|exact LeO.refl _|exact LeO.none _|refine LeO.ite ?_ ?_|refine LeO.bind ?_ (fun _ => ?_))
   |exact ih0 _ _
   |exact LeO.none _
   |refine LeO.ite ?_ ?_
   |refine LeO.bind ?_ (fun _ => ?_)
theorem aX.calls (k : Nat) (a0 r : Int) (w : World) (h : aX.f k a0 = some r) :
  Calls Tryz.prog 132 #[.int .u64 a0] w fun e w' => e = .returned (.int .i64 r) ∧ Drawn0 w w' := by
 have H : (aX.l0 k a0 0) = some r := h
 clear h
 have H' := Aside0.mk H
 clear H
 go_enter Tryz.func132, Tryz.ntmps132
 go_wp2
 go_loopg [0, 3] k (fun kq v0 v3 w' => ∃ (x0_1 : Int) (x3_1 : Int), v0 = .int .u64 x0_1 ∧ v3 = .int .i64 x3_1 ∧ Aside0 (aX.l0 kq x0_1 x3_1 = some r) ∧ Aside0 (kq ≤ k) ∧ Drawn0 w w')
 case atStart => exact ⟨(a0), (0), (gr_), (gr_), H', ⟨Nat.le_refl _⟩, gd_⟩
 case round =>
  clear H'
  try clear c1
  obtain ⟨x0_1, x3_1, rfl, rfl, HA, HK1, ⟨m1, rfl⟩⟩ := hrel
  cases gk with
  |zero => exact absurd HA.out (by simp [aX.l0])
  |succ k1 =>
   have H := HA.out
   clear HA
   simp only [aX.l0] at H
   by_cases c2 : x0_1 > 0
   ·rw [if_pos c2] at H
    have c2b0 : decide (0 < x0_1) = true := decide_eq_true c2
    clear c2
    have H' := Aside0.mk H
    clear H
    go_wp2
    go_roundg k1
    case measure => have := HK1.out; omega
    case rel => exact ⟨(x0_1 / 2), (wrap64 (x3_1 + 1)), (gr_), (gr_), H', ⟨by have := HK1.out; omega⟩, gd_⟩
   ·rw [if_neg c2] at H
    have c2b0 : decide (0 < x0_1) = false := decide_eq_false c2
    clear c2
    obtain rfl := Option.some.inj H
    go_wp2
    go_ret
    exact ⟨gr_, gd_⟩
mutual
def aD.l0 : Nat → Int → Int → Bool → Option (Int × Bool)
 |0, _, _, _ => none
 |k + 1, x0, x1, x6 => if x1 > 0 then (if x6 = true then (aD.l0 k (x0 / 2) (wrap64 (x1 - 1)) true) else (aD.l0 k (x0 / 2) (wrap64 (x1 - 1)) ((Go.bits .and .u64 x0 1) == 1))) else (aD.l1 k x0 x1 x6)
def aD.l1 : Nat → Int → Int → Bool → Option (Int × Bool)
 |0, _, _, _ => none
 |k + 1, x0, x1, x6 => if x1 < 0 then (if x6 = true then (aD.l1 k (IntKind.u64.wrap (x0 * 2)) (wrap64 (x1 + 1)) true) else (aD.l1 k (IntKind.u64.wrap (x0 * 2)) (wrap64 (x1 + 1)) ((x0 / 9223372036854775808) == 1))) else (some (x0, x6))
end
def aD.f (k : Nat) (a0 a1 : Int) : Option (Int × Bool) := aD.l0 k a0 (mn (mx a1 (-64)) 64) false
theorem aD.gM : ∀ k, (∀ y0 y1 y2, LeO (aD.l0 k y0 y1 y2) (aD.l0 (k + 1) y0 y1 y2)) ∧ (∀ y0 y1 y2, LeO (aD.l1 k y0 y1 y2) (aD.l1 (k + 1) y0 y1 y2))
 |0 => ⟨fun _ _ _ r h => by simp [aD.l0] at h, fun _ _ _ r h => by simp [aD.l1] at h⟩
 |k + 1 => by
  obtain ⟨ih0, ih1⟩ := aD.gM k
  refine ⟨?_, ?_⟩
  ·intro y0 y1 y2
   unfold aD.l0
   repeat' first
   |(with_reducible first|exact ih0 _ _ _|exact ih1 _ _ _|exact LeO.refl _|exact LeO.none _|refine LeO.ite ?_ ?_|refine LeO.bind ?_ (fun _ => ?_))
   |exact ih0 _ _ _
   |exact ih1 _ _ _
   |exact LeO.none _
   |refine LeO.ite ?_ ?_
   |refine LeO.bind ?_ (fun _ => ?_)
  ·intro y0 y1 y2
   unfold aD.l1
   repeat' first
   |(with_reducible first|exact ih0 _ _ _|exact ih1 _ _ _|exact LeO.refl _|exact LeO.none _|refine LeO.ite ?_ ?_|refine LeO.bind ?_ (fun _ => ?_))
   |exact ih0 _ _ _
   |exact ih1 _ _ _
   |exact LeO.none _
   |refine LeO.ite ?_ ?_
   |refine LeO.bind ?_ (fun _ => ?_)
theorem aD.mono : ∀ a0 a1 k, LeO (aD.f k a0 a1) (aD.f (k + 1) a0 a1) := by
 intro a0 a1 k
 obtain ⟨ih0, ih1⟩ := aD.gM k
 unfold aD.f
 repeat' first
   |(with_reducible first|exact ih0 _ _ _|exact ih1 _ _ _|exact LeO.refl _|exact LeO.none _|refine LeO.ite ?_ ?_|refine LeO.bind ?_ (fun _ => ?_))
   |exact ih0 _ _ _
   |exact ih1 _ _ _
   |exact LeO.none _
   |refine LeO.ite ?_ ?_
   |refine LeO.bind ?_ (fun _ => ?_)
def d9.f (k : Nat) (a0 a1 : Int) : Option (Int × Bool × Bool × Bool × Bool × Bool × Bool) := (bH.f k a0 (([a1] : List Int))).bind fun bt788 => (if bt788.2.2.2.2.2.2 = true then (some (bt788.1, bt788.2.1, bt788.2.2.1, bt788.2.2.2.1, bt788.2.2.2.2.1, bt788.2.2.2.2.2.1, true)) else ((fB.f a0).bind fun t796 => ((aW.f k a0 a1).bind fun t797 => (if t797 = true then (some (Go.bits .and .u32 a1 t796, false, false, false, false, false, true)) else ((bM.f k a0 a1).bind fun t798 => (some (Go.bits .and .u32 a1 t796, false, false, false, false, false, t798)))))))
set_option maxRecDepth 100000
theorem aR.iT {k n : Nat} (hk : k ≤ n) {x0 x1 : Int} {x8 : Bool} : LeO (aR.j0 k x0 x1 x8) (L.aR.j2 n x8 x1 x0) := by
 cases k with
 |zero => rw [aR.j0]; exact LeO.none _
 |succ k =>
 replace hk := Nat.le_of_succ_le hk
 rw [aR.j0, L.aR.wV]
 repeat' first
  |(with_reducible exact LeO.refl _)
  |exact LeO.none _
  |(with_reducible first|refine LeO.bind ?_ (fun _ => ?_)|refine LeO.fT Iff.rfl (fun _ => ?_) (fun _ => ?_))
  |exact LeO.refl _
  |(with_reducible first|refine LeO.pos (by assumption) ?_|refine LeO.neg (by assumption) ?_|refine LeO.jT (by assumption) ?_|refine LeO.jW (by assumption) ?_|refine LeO.fT (by omega) (fun _ => ?_) (fun _ => ?_))
  |exact LeO.swap
  |(rw [shl_small rfl (by show (_ : Int) ≤ 64; unfold mn; split <;> omega)]; exact LeO.refl _)
set_option maxHeartbeats 4000000 in
theorem aR.le {k n : Nat} (hk : k ≤ n) {a0 a1 : Int} : LeO (aR.f k a0 a1) (L.aR.f n a0 a1) := by
 unfold aR.f
 rw [L.aR.eq]
 try simp only [Bool.and_true]
 repeat' first
  |(with_reducible exact LeO.refl _)
  |exact LeO.none _
  |(with_reducible first|exact aR.iT hk|refine LeO.bind ?_ (fun _ => ?_)|refine LeO.fT Iff.rfl (fun _ => ?_) (fun _ => ?_))
  |exact aR.iT hk
  |exact LeO.refl _
  |(with_reducible first|refine LeO.pos (by assumption) ?_|refine LeO.neg (by assumption) ?_|refine LeO.jT (by assumption) ?_|refine LeO.jW (by assumption) ?_|refine LeO.fT (by omega) (fun _ => ?_) (fun _ => ?_))
  |exact LeO.swap
  |(rw [shl_small rfl (by show (_ : Int) ≤ 64; unfold mn; split <;> omega)]; exact LeO.refl _)
set_option maxHeartbeats 4000000 in
theorem eU.le {k n : Nat} (hk : k ≤ n) {a0 : Int} {a1 : Bool} {a2 a3 : Int} : LeO (eU.f a0 a1 a2 a3) (L.eU.f n a0 a1 a2 a3) := by
 unfold eU.f
 rw [L.eU.eq]
 try simp only [Bool.and_true]
 repeat' first
  |(with_reducible exact LeO.refl _)
  |exact LeO.none _
  |(with_reducible first|refine LeO.bind ?_ (fun _ => ?_)|refine LeO.fT Iff.rfl (fun _ => ?_) (fun _ => ?_))
  |exact LeO.refl _
  |(with_reducible first|refine LeO.pos (by assumption) ?_|refine LeO.neg (by assumption) ?_|refine LeO.jT (by assumption) ?_|refine LeO.jW (by assumption) ?_|refine LeO.fT (by omega) (fun _ => ?_) (fun _ => ?_))
  |exact LeO.swap
  |(rw [shl_small rfl (by show (_ : Int) ≤ 64; unfold mn; split <;> omega)]; exact LeO.refl _)
set_option maxHeartbeats 4000000 in
theorem dE.le {k n : Nat} (hk : k ≤ n) {a0 a1 : Int} {a2 : Bool} : LeO (dE.f a0 a1 a2) (L.dE.f n a0 a1 a2) := by
 unfold dE.f
 rw [L.dE.eq]
 try simp only [Bool.and_true]
 repeat' first
  |(with_reducible exact LeO.refl _)
  |exact LeO.none _
  |(with_reducible first|refine LeO.bind ?_ (fun _ => ?_)|refine LeO.fT Iff.rfl (fun _ => ?_) (fun _ => ?_))
  |exact LeO.refl _
  |(with_reducible first|refine LeO.pos (by assumption) ?_|refine LeO.neg (by assumption) ?_|refine LeO.jT (by assumption) ?_|refine LeO.jW (by assumption) ?_|refine LeO.fT (by omega) (fun _ => ?_) (fun _ => ?_))
  |exact LeO.swap
  |(rw [shl_small rfl (by show (_ : Int) ≤ 64; unfold mn; split <;> omega)]; exact LeO.refl _)
set_option maxHeartbeats 4000000 in
theorem dG.le {k n : Nat} (hk : k ≤ n) {a0 a1 : Int} : LeO (dG.f a0 a1) (L.dG.f n a0 a1) := by
 unfold dG.f
 rw [L.dG.eq]
 try simp only [Bool.and_true]
 repeat' first
  |(with_reducible exact LeO.refl _)
  |exact LeO.none _
  |(with_reducible first|refine LeO.bind ?_ (fun _ => ?_)|refine LeO.fT Iff.rfl (fun _ => ?_) (fun _ => ?_))
  |exact LeO.refl _
  |(with_reducible first|refine LeO.pos (by assumption) ?_|refine LeO.neg (by assumption) ?_|refine LeO.jT (by assumption) ?_|refine LeO.jW (by assumption) ?_|refine LeO.fT (by omega) (fun _ => ?_) (fun _ => ?_))
  |exact LeO.swap
  |(rw [shl_small rfl (by show (_ : Int) ≤ 64; unfold mn; split <;> omega)]; exact LeO.refl _)
theorem dG.calls (a0 a1 : Int) (r1 : Bool) (r2 r3 : Int) (w : World) (h : dG.f a0 a1 = some (r1, r2, r3)) :
  Calls Tryz.prog 171 #[.int .i64 a0, .int .u32 a1] w fun e w' => e = .returned (.tuple #[.bool r1, .int .i64 r2, .int .u64 r3]) ∧ Below w.heap.size w w' :=
 Ek.iK L.dG.ok 0 ((a0, ()), (a1, ()), ()) (r1, r2, r3) rfl (dG.le (Nat.le_refl _) _ h) w
set_option maxHeartbeats 4000000 in
theorem dS.le {k n : Nat} (hk : k ≤ n) {a0 a1 a2 : Int} : LeO (dS.f k a0 a1 a2) (L.dS.f n a0 a1 a2) := by
 unfold dS.f
 rw [L.dS.eq]
 try simp only [Bool.and_true]
 repeat' first
  |(with_reducible exact LeO.refl _)
  |exact LeO.none _
  |(with_reducible first|exact fun r h => at_rounds (bM.mono _ _) hk h|exact fun r h => at_rounds (aW.mono _ _) hk h|refine LeO.bind ?_ (fun _ => ?_)|refine LeO.fT Iff.rfl (fun _ => ?_) (fun _ => ?_))
  |exact fun r h => at_rounds (bM.mono _ _) hk h
  |exact fun r h => at_rounds (aW.mono _ _) hk h
  |exact LeO.refl _
  |(with_reducible first|refine LeO.pos (by assumption) ?_|refine LeO.neg (by assumption) ?_|refine LeO.jT (by assumption) ?_|refine LeO.jW (by assumption) ?_|refine LeO.fT (by omega) (fun _ => ?_) (fun _ => ?_))
  |exact LeO.swap
  |(rw [shl_small rfl (by show (_ : Int) ≤ 64; unfold mn; split <;> omega)]; exact LeO.refl _)
theorem aZ.iT {k n : Nat} (hk : k ≤ n) {x0 : Int} {x1 x2 : Bool} {x3 x12 : Bool} {ex5 ex6 : Bool} {ex7 ex8 ex9 : Bool} : LeO (aZ.j0 k x0 x1 x2 x3 x12) (L.aZ.j2 n x12 x3 x2 x1 x0 ex5 ex6 ex7 ex8 ex9) := by
 cases k with
 |zero => rw [aZ.j0]; exact LeO.none _
 |succ k =>
 replace hk := Nat.le_of_succ_le hk
 rw [aZ.j0, L.aZ.wV]
 repeat' first
  |(with_reducible exact LeO.refl _)
  |exact LeO.none _
  |(with_reducible first|refine LeO.bind ?_ (fun _ => ?_)|refine LeO.fT Iff.rfl (fun _ => ?_) (fun _ => ?_))
  |exact LeO.refl _
  |(with_reducible first|refine LeO.pos (by assumption) ?_|refine LeO.neg (by assumption) ?_|refine LeO.jT (by assumption) ?_|refine LeO.jW (by assumption) ?_|refine LeO.fT (by omega) (fun _ => ?_) (fun _ => ?_))
  |exact LeO.swap
  |(rw [shl_small rfl (by show (_ : Int) ≤ 64; unfold mn; split <;> omega)]; exact LeO.refl _)
set_option maxHeartbeats 4000000 in
theorem aZ.le {k n : Nat} (hk : k ≤ n) {a0 : Int} {a1 a2 : Bool} {a3 a4 : Bool} : LeO (aZ.f k a0 a1 a2 a3 a4) (L.aZ.f n a0 a1 a2 a3 a4) := by
 unfold aZ.f
 rw [L.aZ.eq]
 try simp only [Bool.and_true]
 repeat' first
  |(with_reducible exact LeO.refl _)
  |exact LeO.none _
  |(with_reducible first|exact aZ.iT hk|refine LeO.bind ?_ (fun _ => ?_)|refine LeO.fT Iff.rfl (fun _ => ?_) (fun _ => ?_))
  |exact aZ.iT hk
  |exact LeO.refl _
  |(with_reducible first|refine LeO.pos (by assumption) ?_|refine LeO.neg (by assumption) ?_|refine LeO.jT (by assumption) ?_|refine LeO.jW (by assumption) ?_|refine LeO.fT (by omega) (fun _ => ?_) (fun _ => ?_))
  |exact LeO.swap
  |(rw [shl_small rfl (by show (_ : Int) ≤ 64; unfold mn; split <;> omega)]; exact LeO.refl _)
theorem aM.iY {k n : Nat} (hk : k ≤ n) {x8 x9 : Int} {x24 : Bool} : LeO (aM.j1 k x8 x9 x24) (L.aM.j5 n x24 x9 x8) := by
 cases k with
 |zero => rw [aM.j1]; exact LeO.none _
 |succ k =>
 replace hk := Nat.le_of_succ_le hk
 rw [aM.j1, L.aM.aCo]
 repeat' first
  |(with_reducible exact LeO.refl _)
  |exact LeO.none _
  |(with_reducible first|exact fun r h => at_rounds (eB.mono _ _) hk h|exact fun r h => at_rounds (bM.mono _ _) hk h|refine LeO.bind ?_ (fun _ => ?_)|refine LeO.fT Iff.rfl (fun _ => ?_) (fun _ => ?_))
  |exact fun r h => at_rounds (eB.mono _ _) hk h
  |exact fun r h => at_rounds (bM.mono _ _) hk h
  |exact LeO.refl _
  |(with_reducible first|refine LeO.pos (by assumption) ?_|refine LeO.neg (by assumption) ?_|refine LeO.jT (by assumption) ?_|refine LeO.jW (by assumption) ?_|refine LeO.fT (by omega) (fun _ => ?_) (fun _ => ?_))
  |exact LeO.swap
  |(rw [shl_small rfl (by show (_ : Int) ≤ 64; unfold mn; split <;> omega)]; exact LeO.refl _)
theorem aM.iT {k n : Nat} (hk : k ≤ n) {x0 x1 x2 : Int} {x17 : Bool} : LeO (aM.j0 k x0 x1 x2 x17) (L.aM.j2 n x17 x2 x1 x0) := by
 cases k with
 |zero => rw [aM.j0]; exact LeO.none _
 |succ k =>
 replace hk := Nat.le_of_succ_le hk
 rw [aM.j0, L.aM.wV]
 repeat' first
  |(with_reducible exact LeO.refl _)
  |exact LeO.none _
  |(with_reducible first|exact aM.iY hk|exact fun r h => at_rounds (eB.mono _ _) hk h|exact fun r h => at_rounds (bM.mono _ _) hk h|refine LeO.bind ?_ (fun _ => ?_)|refine LeO.fT Iff.rfl (fun _ => ?_) (fun _ => ?_))
  |exact aM.iY hk
  |exact fun r h => at_rounds (eB.mono _ _) hk h
  |exact fun r h => at_rounds (bM.mono _ _) hk h
  |exact LeO.refl _
  |(with_reducible first|refine LeO.pos (by assumption) ?_|refine LeO.neg (by assumption) ?_|refine LeO.jT (by assumption) ?_|refine LeO.jW (by assumption) ?_|refine LeO.fT (by omega) (fun _ => ?_) (fun _ => ?_))
  |exact LeO.swap
  |(rw [shl_small rfl (by show (_ : Int) ≤ 64; unfold mn; split <;> omega)]; exact LeO.refl _)
set_option maxHeartbeats 4000000 in
theorem aM.le {k n : Nat} (hk : k ≤ n) {a0 a1 a2 : Int} : LeO (aM.f k a0 a1 a2) (L.aM.f n a0 a1 a2) := by
 unfold aM.f
 rw [L.aM.eq]
 try simp only [Bool.and_true]
 repeat' first
  |(with_reducible exact LeO.refl _)
  |exact LeO.none _
  |(with_reducible first|exact aM.iY hk|exact aM.iT hk|exact fun r h => at_rounds (eB.mono _ _) hk h|exact fun r h => at_rounds (bM.mono _ _) hk h|refine LeO.bind ?_ (fun _ => ?_)|refine LeO.fT Iff.rfl (fun _ => ?_) (fun _ => ?_))
  |exact aM.iY hk
  |exact aM.iT hk
  |exact fun r h => at_rounds (eB.mono _ _) hk h
  |exact fun r h => at_rounds (bM.mono _ _) hk h
  |exact LeO.refl _
  |(with_reducible first|refine LeO.pos (by assumption) ?_|refine LeO.neg (by assumption) ?_|refine LeO.jT (by assumption) ?_|refine LeO.jW (by assumption) ?_|refine LeO.fT (by omega) (fun _ => ?_) (fun _ => ?_))
  |exact LeO.swap
  |(rw [shl_small rfl (by show (_ : Int) ≤ 64; unfold mn; split <;> omega)]; exact LeO.refl _)
theorem aM.calls (k : Nat) (a0 a1 : Int) (a2 r1 : Int) (r2 : Bool) (w : World) (h : aM.f k a0 a1 a2 = some (r1, r2)) :
  Calls Tryz.prog 165 #[.int .i64 a0, .int .u32 a1, .int .u32 a2] w fun e w' => e = .returned (.tuple #[.int .i64 r1, .bool r2]) ∧ Below w.heap.size w w' :=
 Ek.iK L.aM.ok k ((a0, ()), (a1, ()), (a2, ()), ()) (r1, r2) rfl (aM.le (Nat.le_refl _) _ h) w
set_option maxHeartbeats 4000000 in
theorem bX.le {k n : Nat} (hk : k ≤ n) {a0 a1 : Int} : LeO (bX.f a0 a1) (L.bX.f n a0 a1) := by
 unfold bX.f
 rw [L.bX.eq]
 try simp only [Bool.and_true]
 repeat' first
  |(with_reducible exact LeO.refl _)
  |exact LeO.none _
  |(with_reducible first|refine LeO.bind ?_ (fun _ => ?_)|refine LeO.fT Iff.rfl (fun _ => ?_) (fun _ => ?_))
  |exact LeO.refl _
  |(with_reducible first|refine LeO.pos (by assumption) ?_|refine LeO.neg (by assumption) ?_|refine LeO.jT (by assumption) ?_|refine LeO.jW (by assumption) ?_|refine LeO.fT (by omega) (fun _ => ?_) (fun _ => ?_))
  |exact LeO.swap
  |(rw [shl_small rfl (by show (_ : Int) ≤ 64; unfold mn; split <;> omega)]; exact LeO.refl _)
theorem bX.calls (a0 a1 r : Int) (w : World) (h : bX.f a0 a1 = some r) :
  Calls Tryz.prog 84 #[.int .i64 a0, .int .u32 a1] w fun e w' => e = .returned (.int .u32 r) ∧ Below w.heap.size w w' :=
 Ek.iK L.bX.ok 0 ((a0, ()), (a1, ()), ()) r rfl (bX.le (Nat.le_refl _) _ h) w
set_option maxHeartbeats 4000000 in
theorem dA.le {k n : Nat} (hk : k ≤ n) {a0 a1 : Int} : LeO (dA.f a0 a1) (L.dA.f n a0 a1) := by
 unfold dA.f
 rw [L.dA.eq]
 try simp only [Bool.and_true]
 repeat' first
  |(with_reducible exact LeO.refl _)
  |exact LeO.none _
  |(with_reducible first|refine LeO.bind ?_ (fun _ => ?_)|refine LeO.fT Iff.rfl (fun _ => ?_) (fun _ => ?_))
  |exact LeO.refl _
  |(with_reducible first|refine LeO.pos (by assumption) ?_|refine LeO.neg (by assumption) ?_|refine LeO.jT (by assumption) ?_|refine LeO.jW (by assumption) ?_|refine LeO.fT (by omega) (fun _ => ?_) (fun _ => ?_))
  |exact LeO.swap
  |(rw [shl_small rfl (by show (_ : Int) ≤ 64; unfold mn; split <;> omega)]; exact LeO.refl _)
theorem dA.calls (a0 a1 r : Int) (w : World) (h : dA.f a0 a1 = some r) :
  Calls Tryz.prog 85 #[.int .i64 a0, .int .u32 a1] w fun e w' => e = .returned (.int .u32 r) ∧ Below w.heap.size w w' :=
 Ek.iK L.dA.ok 0 ((a0, ()), (a1, ()), ()) r rfl (dA.le (Nat.le_refl _) _ h) w
theorem aD.l1_le {k m n : Nat} (hm : k ≤ m) (hk : k ≤ n) {x0 x1 : Int} {x6 : Bool} : LeO (aD.l1 k x0 x1 x6) (L.aD.l7 m n x6 x1 x0) := by
 induction k generalizing m x0 x1 x6 with
 |zero => rw [aD.l1]; exact LeO.none _
 |succ k ih =>
 obtain ⟨m, rfl⟩ : ∃ q, m = q + 1 := ⟨m - 1, by omega⟩
 replace hm := Nat.le_of_succ_le_succ hm
 replace hk := Nat.le_of_succ_le hk
 rw [aD.l1, L.aD.l7_eq]
 repeat' first
  |(with_reducible exact LeO.refl _)
  |exact LeO.none _
  |(with_reducible first|exact ih hm hk|refine LeO.bind ?_ (fun _ => ?_)|refine LeO.fT Iff.rfl (fun _ => ?_) (fun _ => ?_))
  |exact ih hm hk
  |exact LeO.refl _
  |(with_reducible first|refine LeO.pos (by assumption) ?_|refine LeO.neg (by assumption) ?_|refine LeO.jT (by assumption) ?_|refine LeO.jW (by assumption) ?_|refine LeO.fT (by omega) (fun _ => ?_) (fun _ => ?_))
  |exact LeO.swap
  |(rw [shl_small rfl (by show (_ : Int) ≤ 64; unfold mn; split <;> omega)]; exact LeO.refl _)
theorem aD.aDl {k m n : Nat} (hm : k ≤ m) (hk : k ≤ n) {x0 x1 : Int} {x6 : Bool} : LeO (aD.l0 k x0 x1 x6) (L.aD.l3 m n x6 x1 x0) := by
 induction k generalizing m x0 x1 x6 with
 |zero => rw [aD.l0]; exact LeO.none _
 |succ k ih =>
 obtain ⟨m, rfl⟩ : ∃ q, m = q + 1 := ⟨m - 1, by omega⟩
 replace hm := Nat.le_of_succ_le_succ hm
 replace hk := Nat.le_of_succ_le hk
 rw [aD.l0, L.aD.l3_eq]
 repeat' first
  |(with_reducible exact LeO.refl _)
  |exact LeO.none _
  |(with_reducible first|exact ih hm hk|exact aD.l1_le hk hk|refine LeO.bind ?_ (fun _ => ?_)|refine LeO.fT Iff.rfl (fun _ => ?_) (fun _ => ?_))
  |exact ih hm hk
  |exact aD.l1_le hk hk
  |exact LeO.refl _
  |(with_reducible first|refine LeO.pos (by assumption) ?_|refine LeO.neg (by assumption) ?_|refine LeO.jT (by assumption) ?_|refine LeO.jW (by assumption) ?_|refine LeO.fT (by omega) (fun _ => ?_) (fun _ => ?_))
  |exact LeO.swap
  |(rw [shl_small rfl (by show (_ : Int) ≤ 64; unfold mn; split <;> omega)]; exact LeO.refl _)
set_option maxHeartbeats 4000000 in
theorem aD.le {k n : Nat} (hk : k ≤ n) {a0 a1 : Int} : LeO (aD.f k a0 a1) (L.aD.f n a0 a1) := by
 unfold aD.f
 rw [L.aD.eq]
 try simp only [Bool.and_true]
 repeat' first
  |(with_reducible exact LeO.refl _)
  |exact LeO.none _
  |(with_reducible first|exact aD.l1_le hk hk|exact aD.aDl hk hk|refine LeO.bind ?_ (fun _ => ?_)|refine LeO.fT Iff.rfl (fun _ => ?_) (fun _ => ?_))
  |exact aD.l1_le hk hk
  |exact aD.aDl hk hk
  |exact LeO.refl _
  |(with_reducible first|refine LeO.pos (by assumption) ?_|refine LeO.neg (by assumption) ?_|refine LeO.jT (by assumption) ?_|refine LeO.jW (by assumption) ?_|refine LeO.fT (by omega) (fun _ => ?_) (fun _ => ?_))
  |exact LeO.swap
  |(rw [shl_small rfl (by show (_ : Int) ≤ 64; unfold mn; split <;> omega)]; exact LeO.refl _)
set_option maxHeartbeats 4000000 in
theorem bQ.le {k n : Nat} (hk : k ≤ n) {a0 : Int} {a1 a2 : Bool} {a3 a4 : Bool} : LeO (bQ.f a0 a1 a2 a3 a4) (L.bQ.f n a0 a1 a2 a3 a4) := by
 unfold bQ.f
 rw [L.bQ.eq]
 try simp only [Bool.and_true]
 repeat' first
  |(with_reducible exact LeO.refl _)
  |exact LeO.none _
  |(with_reducible first|refine LeO.bind ?_ (fun _ => ?_)|refine LeO.fT Iff.rfl (fun _ => ?_) (fun _ => ?_))
  |exact LeO.refl _
  |(with_reducible first|refine LeO.pos (by assumption) ?_|refine LeO.neg (by assumption) ?_|refine LeO.jT (by assumption) ?_|refine LeO.jW (by assumption) ?_|refine LeO.fT (by omega) (fun _ => ?_) (fun _ => ?_))
  |exact LeO.swap
  |(rw [shl_small rfl (by show (_ : Int) ≤ 64; unfold mn; split <;> omega)]; exact LeO.refl _)
theorem aK.iT {k n : Nat} (hk : k ≤ n) {x0 : Int} {x2 x23 : Bool} : LeO (aK.j0 k x0 x2 x23) (L.aK.j2 n x23 x2 x0) := by
 cases k with
 |zero => rw [aK.j0]; exact LeO.none _
 |succ k =>
 replace hk := Nat.le_of_succ_le hk
 rw [aK.j0, L.aK.wV]
 repeat' first
  |(with_reducible exact LeO.refl _)
  |exact LeO.none _
  |(with_reducible first|refine LeO.bind ?_ (fun _ => ?_)|refine LeO.fT Iff.rfl (fun _ => ?_) (fun _ => ?_))
  |exact LeO.refl _
  |(with_reducible first|refine LeO.pos (by assumption) ?_|refine LeO.neg (by assumption) ?_|refine LeO.jT (by assumption) ?_|refine LeO.jW (by assumption) ?_|refine LeO.fT (by omega) (fun _ => ?_) (fun _ => ?_))
  |exact LeO.swap
  |(rw [shl_small rfl (by show (_ : Int) ≤ 64; unfold mn; split <;> omega)]; exact LeO.refl _)
set_option maxHeartbeats 4000000 in
theorem aK.le {k n : Nat} (hk : k ≤ n) {a0 a1 : Int} {a2 : Bool} : LeO (aK.f k a0 a1 a2) (L.aK.f n a0 a1 a2) := by
 unfold aK.f
 rw [L.aK.eq]
 try simp only [Bool.and_true]
 repeat' first
  |(with_reducible exact LeO.refl _)
  |exact LeO.none _
  |(with_reducible first|exact aK.iT hk|refine LeO.bind ?_ (fun _ => ?_)|refine LeO.fT Iff.rfl (fun _ => ?_) (fun _ => ?_))
  |exact aK.iT hk
  |exact LeO.refl _
  |(with_reducible first|refine LeO.pos (by assumption) ?_|refine LeO.neg (by assumption) ?_|refine LeO.jT (by assumption) ?_|refine LeO.jW (by assumption) ?_|refine LeO.fT (by omega) (fun _ => ?_) (fun _ => ?_))
  |exact LeO.swap
  |(rw [shl_small rfl (by show (_ : Int) ≤ 64; unfold mn; split <;> omega)]; exact LeO.refl _)
set_option maxHeartbeats 4000000 in
theorem d9.le {k n : Nat} (hk : k ≤ n) {a0 a1 : Int} : LeO (d9.f k a0 a1) (L.d9.f n a0 a1) := by
 unfold d9.f
 rw [L.d9.eq]
 try simp only [Bool.and_true]
 repeat' first
  |(with_reducible exact LeO.refl _)
  |exact LeO.none _
  |(with_reducible first|exact fun r h => at_rounds (bH.mono _ _) hk h|exact fun r h => at_rounds (aW.mono _ _) hk h|exact fun r h => at_rounds (bM.mono _ _) hk h|refine LeO.bind ?_ (fun _ => ?_)|refine LeO.fT Iff.rfl (fun _ => ?_) (fun _ => ?_))
  |exact fun r h => at_rounds (bH.mono _ _) hk h
  |exact fun r h => at_rounds (aW.mono _ _) hk h
  |exact fun r h => at_rounds (bM.mono _ _) hk h
  |exact LeO.refl _
  |(with_reducible first|refine LeO.pos (by assumption) ?_|refine LeO.neg (by assumption) ?_|refine LeO.jT (by assumption) ?_|refine LeO.jW (by assumption) ?_|refine LeO.fT (by omega) (fun _ => ?_) (fun _ => ?_))
  |exact LeO.swap
  |(rw [shl_small rfl (by show (_ : Int) ≤ 64; unfold mn; split <;> omega)]; exact LeO.refl _)
theorem aN.iT {k n : Nat} (hk : k ≤ n) {x0 x1 x2 : Int} {x28 : Bool} : LeO (aN.j0 k x0 x1 x2 x28) (L.aN.j5 n x28 x2 x1 x0) := by
 cases k with
 |zero => rw [aN.j0]; exact LeO.none _
 |succ k =>
 replace hk := Nat.le_of_succ_le hk
 rw [aN.j0, L.aN.aCo]
 repeat' first
  |(with_reducible exact LeO.refl _)
  |exact LeO.none _
  |(with_reducible first|exact fun r h => at_rounds (aG.mono _ _) hk h|exact fun r h => at_rounds (bA.mono _ _) hk h|refine LeO.bind ?_ (fun _ => ?_)|refine LeO.fT Iff.rfl (fun _ => ?_) (fun _ => ?_))
  |exact fun r h => at_rounds (aG.mono _ _) hk h
  |exact fun r h => at_rounds (bA.mono _ _) hk h
  |exact LeO.refl _
  |(with_reducible first|refine LeO.pos (by assumption) ?_|refine LeO.neg (by assumption) ?_|refine LeO.jT (by assumption) ?_|refine LeO.jW (by assumption) ?_|refine LeO.fT (by omega) (fun _ => ?_) (fun _ => ?_))
  |exact LeO.swap
  |(rw [shl_small rfl (by show (_ : Int) ≤ 64; unfold mn; split <;> omega)]; exact LeO.refl _)
set_option maxHeartbeats 4000000 in
theorem aN.le {k n : Nat} (hk : k ≤ n) {a0 a1 a2 : Int} : LeO (aN.f k a0 a1 a2) (L.aN.f n a0 a1 a2) := by
 unfold aN.f
 rw [L.aN.eq]
 try simp only [Bool.and_true]
 repeat' first
  |(with_reducible exact LeO.refl _)
  |exact LeO.none _
  |(with_reducible first|exact aN.iT hk|exact fun r h => at_rounds (aG.mono _ _) hk h|exact fun r h => at_rounds (bA.mono _ _) hk h|refine LeO.bind ?_ (fun _ => ?_)|refine LeO.fT Iff.rfl (fun _ => ?_) (fun _ => ?_))
  |exact aN.iT hk
  |exact fun r h => at_rounds (aG.mono _ _) hk h
  |exact fun r h => at_rounds (bA.mono _ _) hk h
  |exact LeO.refl _
  |(with_reducible first|refine LeO.pos (by assumption) ?_|refine LeO.neg (by assumption) ?_|refine LeO.jT (by assumption) ?_|refine LeO.jW (by assumption) ?_|refine LeO.fT (by omega) (fun _ => ?_) (fun _ => ?_))
  |exact LeO.swap
  |(rw [shl_small rfl (by show (_ : Int) ≤ 64; unfold mn; split <;> omega)]; exact LeO.refl _)
theorem aN.calls (k : Nat) (a0 a1 : Int) (a2 r1 : Int) (r2 : Bool) (w : World) (h : aN.f k a0 a1 a2 = some (r1, r2)) :
  Calls Tryz.prog 31 #[.int .i64 a0, .int .u32 a1, .int .u32 a2] w fun e w' => e = .returned (.tuple #[.int .i64 r1, .bool r2]) ∧ Below w.heap.size w w' :=
 Ek.iK L.aN.ok k ((a0, ()), (a1, ()), (a2, ()), ()) (r1, r2) rfl (aN.le (Nat.le_refl _) _ h) w
def fJ.f (a0 a1 : Int) : Option (Bool × Int × Int × Bool) := (dG.f a0 a1).bind fun bt184 => (some (bt184.1, bt184.2.1, bt184.2.2, false))
theorem fJ.calls (a0 a1 : Int) (r1 : Bool) (r2 r3 : Int) (r4 : Bool) (w : World) (h : fJ.f a0 a1 = some (r1, r2, r3, r4)) :
  Calls Tryz.prog 137 #[.int .i64 a0, .int .u32 a1] w fun e w' => e = .returned (.agg #[.bool r1, .int .i64 r2, .int .u64 r3, .bool r4]) ∧ Below w.heap.size w w' := by
 have hu131 := Tryz.underlying131
 have HB := Aside0.mk (Below.refl w.heap.size w)
 have H : ((dG.f a0 a1).bind fun bt184 => (some (bt184.1, bt184.2.1, bt184.2.2, false))) = some (r1, r2, r3, r4) := h
 clear h
 replace H := bq_ H
 obtain ⟨⟨t184, t185, t186⟩, A30, H⟩ := H
 replace H : (some (t184, t185, t186, false)) = some (r1, r2, r3, r4) := H
 have A3 := Aside0.mk A30
 clear A30
 simp only [Option.some.injEq, Prod.mk.injEq] at H
 obtain ⟨rfl, rfl, rfl, rfl⟩ := H
 go_enter Tryz.func137, Tryz.ntmps137
 go_wp2_with (first | ((with_reducible refine gate_dst (N := 4) rfl ?_); refine box_event ?hg (N := 4) ?hd (cs := #[.bool false, .int .i64 0, .int .u64 0, .bool false]) (t := 131) ?hr ?_; (case hd => rfl); (case hg => rfl); (case hr => first | (go_simp; done) | (go_simp; rfl)); intro gb183 hg w4 hbox hb; have n0_ := Aside0.mk (below_step (bl0 HB.out) hb); have n1_ := Aside0.mk (hbox); have n2_ := Aside0.mk ((by rw [hg]; exact (below_size (bl0 HB.out)) : w.heap.size ≤ gb183)); have n3_ := n2_; clear HB; have HB := n0_; have BK183 := n1_; have GW183 := n2_; have GE183 := n3_; clear n0_ n1_ n2_ n3_; clear hb hbox hg) | ((with_reducible refine gate_callee (f := 171) rfl ?_); refine goesL_ (some 11) rfl rfl Tryz.func171 kr rfl #[.int .i64 a0, .int .u32 a1] rfl gl ?_; (with_reducible refine (dG.calls a0 a1 t184 t185 t186 _ A3.out).mono ?_); rintro e w5 ⟨rfl, hb⟩; refine ⟨_, rfl, ?_⟩; have n0_ := Aside0.mk (blk_below (g := gb183) (o := .cells #[.bool false, .int .i64 0, .int .u64 0, .bool false] 131 (0, 0)) (bv BK183.out) hb); have n1_ := Aside0.mk (below_step (bl1 HB.out GE183.out) hb); clear BK183; clear HB; have BK183 := n0_; have HB := n1_; clear n0_ n1_; obtain ⟨hcz6_0, hcz6_1, hcz6_2, hcz6_3⟩ := bc4 BK183.out; obtain ⟨hfz6_0, hfz6_1, hfz6_2, hfz6_3⟩ := bf4 BK183.out))
 refine bodyPost_ret (results_cell_row rfl _ _ gb183 131 #[.bool t184, .int .i64 t185, .int .u64 t186, .bool false] (0, 0) _ rfl (by (with_reducible repeat first | apply bd | apply be | apply ba); refine blk_put (cs := #[.bool t184, .int .i64 t185, .int .u64 t186, .bool false]) ?_ 3 _ rfl; (with_reducible repeat first | apply bd | apply be | apply ba); refine blk_put (cs := #[.bool t184, .int .i64 t185, .int .u64 0, .bool false]) ?_ 2 _ rfl; (with_reducible repeat first | apply bd | apply be | apply ba); refine blk_put (cs := #[.bool t184, .int .i64 0, .int .u64 0, .bool false]) ?_ 1 _ rfl; (with_reducible repeat first | apply bd | apply be | apply ba); refine blk_put (cs := #[.bool false, .int .i64 0, .int .u64 0, .bool false]) ?_ 0 _ rfl; (with_reducible repeat first | apply bd | apply be | apply ba); exact BK183.out) Tryz.underlying131 rfl kr) rfl ?_
 exact ⟨by first | rfl | (simp [eG, eO] <;> rfl) | (simp [*, eG, eO] <;> rfl), bl1 HB.out GE183.out⟩
end P
namespace Round
open P Num BitsF Fmt
theorem sum_w (f : Int) : IntKind.u64.wrap (wrap64 ((fe f : Int) + (fm f : Int))) = ((fe f + fm f : Nat) : Int) := by
 have h := eP f
 rw [show (fe f : Int) + (fm f : Int) = ((fe f + fm f : Nat) : Int) by omega, wu _ (by omega)]
theorem wG (f : Int) (v : Nat) (hv : v < 4294967296) : eT.f f (v : Int) = some (dO f v, (mE f v : Int), (jY f v : Int)) := by
 unfold eT.f
 have h := eP f
 have hd : v / 2 ^ (fe f + fm f) < 4294967296 := Nat.lt_of_le_of_lt (Nat.div_le_self _ _) hv
 have hd' : v / 2 ^ fm f < 4294967296 := Nat.lt_of_le_of_lt (Nat.div_le_self _ _) hv
 rw [jD, Option.bind_some]
 dsimp only
 rw [sum_w, gL (fm f) (by omega), gL (fe f) (by omega), if_pos (Int.natCast_nonneg _), if_pos (Int.natCast_nonneg _), if_pos (Int.natCast_nonneg _), tK _ _ hv, tK _ _ hv, and1_u32 _ hd, tF _ _ hd' (by omega), tF _ _ hv (by omega), xM _ _ (by omega)]
 rw [show (1 : Int) = ((1 : Nat) : Int) from rfl, oI]
 unfold dO mE jY
 exact Eq.refl _
theorem aAD (k : Nat) (f : Int) (e m : Nat) (he : e ≤ gN f) (hm : m < 2 ^ fm f) (hz : ¬ (e = 0 ∧ m = 0)) :
  aY.j0 (k + 1) f (fm f : Int) (e : Int) (m : Int) false = some (((if e = 0 then (if m = 0 then 0 else 1) else if e < gN f then 2 else if m = 0 then 3 else if m / 2 ^ (fm f - 1) = 1 then 4 else 5 : Nat)) : Int) := by
 have h := eP f
 have h31 := eZ (show fm f ≤ 31 by omega)
 rw [aY.j0, if_neg (by decide)]
 by_cases c : e = 0
 ·subst c
  rw [if_pos (by rfl), if_pos rfl, if_neg (fun h => hz ⟨rfl, h⟩)]; rfl
 ·rw [if_neg (by omega), if_neg c, zS, Option.bind_some]
  by_cases c2 : e < gN f
  ·rw [if_pos (by omega), if_pos c2]; rfl
  ·rw [if_neg (by omega), if_neg c2]
   by_cases c3 : m = 0
   ·rw [if_pos (by omega), if_pos c3]; rfl
   ·rw [if_neg (by omega), if_neg c3, show (fm f : Int) - 1 = ((fm f - 1 : Nat) : Int) by omega, wu _ (by omega), if_pos (Int.natCast_nonneg _), tK _ _ (by omega)]
    by_cases c4 : m / 2 ^ (fm f - 1) = 1
    ·rw [if_pos (by rw [c4]; rfl), if_pos c4]; rfl
    ·rw [if_neg (by omega), if_neg c4]; rfl
theorem oZ (f : Int) (v : Nat) (hv : v < 4294967296) : Ev (fun k => aY.f k f (v : Int)) (cO f v : Int) := by
 have he := aAt f v
 have hm := rJ f v
 refine ⟨1, fun k hk => ?_⟩
 obtain ⟨k, rfl⟩ : ∃ j, k = j + 1 := ⟨k - 1, by omega⟩
 show aY.f (k + 1) f (v : Int) = _
 unfold aY.f cO
 rw [jD, Option.bind_some, wG f v hv, Option.bind_some]
 dsimp only
 generalize mE f v = e at *
 generalize jY f v = m at *
 by_cases c : e = 0 ∧ m = 0
 ·obtain ⟨rfl, rfl⟩ := c
  rw [if_pos (by rfl), aY.j0, if_pos (by rfl), if_pos rfl, if_pos rfl]; rfl
 ·by_cases c2 : e = 0
  ·have e2 : (((m : Int) == 0) : Bool) = false := by simp; omega
   rw [if_pos (by omega), e2, aAD k f e m he hm c]
  ·rw [if_neg (by omega), aAD k f e m he hm c]
theorem sI (f : Int) (v : Nat) (hv : v < 4294967296) : dL.f f (v : Int) = some (dO f v) := by
 unfold dL.f; rw [wG f v hv]; rfl
def pU (f : Int) : Nat := gN f * 2 ^ fm f + 2 ^ (fm f - 1)
theorem yA (f : Int) : 2 ^ (fm f - 1) < 2 ^ fm f := by
 have h := eP f
 exact Nat.pow_lt_pow_right (by decide) (by omega)
theorem nan_f (f : Int) : iP.f f = some (pU f : Int) := by
 unfold iP.f
 have h := eP f
 rw [jD, Option.bind_some, zS, Option.bind_some]
 dsimp only
 rw [show (fm f : Int) - 1 = ((fm f - 1 : Nat) : Int) by omega, wu _ (by omega), if_pos (Int.natCast_nonneg _), oF _ (by omega), xP f false _ _ (Nat.le_refl _) (yA f), Option.bind_some]
 unfold aBs pU
 simp [eQ]
theorem aBr (f : Int) : fM.f f = some ((pU f : Int), true, false, false, false, false) := by
 unfold fM.f; rw [nan_f]; rfl
theorem lT (f : Int) : dD.f f = some (pU f : Int) := by
 unfold dD.f
 have h := eP f
 obtain ⟨hi, _⟩ := l9 f false
 have hh := yA f
 have h31 := eZ (show fm f ≤ 31 by omega)
 rw [fU, Option.bind_some, oC, Option.bind_some]
 dsimp only
 rw [show (fm f : Int) - 1 = ((fm f - 1 : Nat) : Int) by omega, cZ _ (by omega) (by omega), if_pos (Int.natCast_nonneg _), oF _ (by omega), qB _ _ hi (by omega)]
 unfold oW pU
 rw [show eQ f false = 0 from rfl, Nat.add_zero, nO _ _ (fm f) (Nat.mul_mod_left ..) hh]
theorem unpack_f (f : Int) (v : Nat) (hv : v < 4294967296) (h : mE f v < gN f) : dG.f f (v : Int) = some (dO f v, bN f v, (bT f v : Int)) := by
 unfold dG.f bN bT
 obtain ⟨b1, b2, b3, b4, b5⟩ := eP f
 have hm := rJ f v
 have h31 := eZ (show fm f ≤ 31 by omega)
 have hl := iJ f
 have ht := gU f
 rw [jD, Option.bind_some, wG f v hv, Option.bind_some]
 dsimp only
 generalize mE f v = e at *
 generalize jY f v = m at *
 by_cases c : e = 0
 ·subst c
  rw [if_pos (by rfl), rE, Option.bind_some, if_pos rfl, cZ (dM f - fm f) (by omega) (by omega), gL m (by omega)]
  simp
 ·rw [if_neg (by omega), zS, Option.bind_some, if_neg (by omega), rE, Option.bind_some, if_neg c, gL (fm f) (by omega), if_pos (Int.natCast_nonneg _), gL m (by omega), or_top m _ hm (by omega), cZ (dM f - fm f) (by omega) (by omega), cZ (dM f - fm f + e) (by omega) (by omega), cZ _ (by omega) (by omega), show dM f - (fm f : Int) + (e : Int) - 1 = dM f - fm f + ((e - 1 : Nat) : Int) by omega]
theorem of_f (f : Int) (v : Nat) (hv : v < 4294967296) (h : mE f v < gN f) : fJ.f f (v : Int) = some (dO f v, bN f v, (bT f v : Int), false) := by
 unfold fJ.f; rw [unpack_f f v hv h]; rfl
theorem lI (f : Int) (v : Nat) (hv : v < 4294967296) (h : mE f v < gN f) : Ev (fun k => bE.f k f (v : Int)) (dO f v, bN f v, (bT f v : Int)) := by
 have := xJ f v hv (by rw [rP]; exact h); rw [rM, aBw, aDc] at this; exact this
theorem lX (f : Int) (v : Nat) (hv : v < 4294967296) : Ev (fun k => bK.f k f (v : Int)) (decide (cO f v = 3)) := by
 refine Ev.congr (fun k => by unfold bK.f; rfl) (Ev.bind (tL f v hv) (Ev.congr (fun k => ?_) (Ev.now _)))
 rw [show (3 : Int) = ((3 : Nat) : Int) from rfl, oI]
end Round
namespace P
attribute [local go_sem] max2_int min2_int max_two min_two max_three min_three max_four min_four
def bV.f (k : Nat) (a0 a1 : Int) (a2 : Bool) : Option (Int × Int) := if a1 ≤ 0 then ((aR.f k a0 a1).bind fun bt113 => (if a2 = true then (some (bt113.1, 1)) else (some (bt113.1, 0)))) else ((aR.f k a0 a1).bind fun bt115 => (if bt115.2 = true then ((aR.f k a0 (wrap64 (a1 - 1))).bind fun bt117 => (if (Go.bits .and .u64 bt117.1 1) = 0 then (some (bt115.1, 1)) else (if bt117.2 = true then (some (bt115.1, 3)) else (if a2 = true then (some (bt115.1, 3)) else (some (bt115.1, 2)))))) else (if a2 = true then (some (bt115.1, 1)) else (some (bt115.1, 0)))))
theorem bV.mono : ∀ a0 a1 a2 k, LeO (bV.f k a0 a1 a2) (bV.f (k + 1) a0 a1 a2) := by
 intro a0 a1 a2 k
 unfold bV.f
 repeat' first
   |(with_reducible first|exact aR.mono _ _ _|exact LeO.refl _|exact LeO.none _|refine LeO.ite ?_ ?_|refine LeO.bind ?_ (fun _ => ?_))
   |exact aR.mono _ _ _
   |exact LeO.none _
   |refine LeO.ite ?_ ?_
   |refine LeO.bind ?_ (fun _ => ?_)
mutual
def aC.j0 : Nat → Int → Int → Bool → Int → Int → Bool → Bool → Option (Int × Bool × Bool × Bool × Bool × Bool)
 |0, _, _, _, _, _, _, _ => none
 |k + 1, x0, x1, x2, x3, x4, x5, x29 => if x29 = true then ((eF.f x0 x2).bind fun t134 => (some (t134, false, false, false, false, false))) else ((bJ.f x0).bind fun bt135 => ((dP.f k x0 x3 x4).bind fun t137 => ((bV.f k x4 (wrap64 (t137 - x3)) x5).bind fun bt138 => ((eU.f x1 x2 bt138.1 bt138.2).bind fun t140 => (if t140 = true then (aC.j1 k x0 x1 x2 x3 x4 bt135.2 t137 (IntKind.u64.wrap (bt138.1 + 1)) bt138.2) else (aC.j1 k x0 x1 x2 x3 x4 bt135.2 t137 bt138.1 bt138.2))))))
def aC.j1 : Nat → Int → Int → Bool → Int → Int → Int → Int → Int → Int → Option (Int × Bool × Bool × Bool × Bool × Bool)
 |0, _, _, _, _, _, _, _, _, _ => none
 |k + 1, x0, x1, x2, x3, x4, x15, x16, x17, x18 => if 0 ≤ (IntKind.u64.wrap (wrap64 (x15 + 1))) then (if (shr .u64 x17 (IntKind.u64.wrap (wrap64 (x15 + 1)))) = 0 then (aC.j2 k x0 x1 x2 x3 x4 x15 x16 x17 x18) else (aC.j2 k x0 x1 x2 x3 x4 x15 (wrap64 (x16 + 1)) (x17 / 2) x18)) else (none)
def aC.j2 : Nat → Int → Int → Bool → Int → Int → Int → Int → Int → Int → Option (Int × Bool × Bool × Bool × Bool × Bool)
 |0, _, _, _, _, _, _, _, _, _ => none
 |k + 1, x0, x1, x2, x3, x4, x15, x16, x17, x18 => (dX.f x0).bind fun t141 => (if 0 ≤ (IntKind.u64.wrap (x15)) then (if (shr .u64 x17 (IntKind.u64.wrap (x15))) = 0 then (aC.j3 k x0 x1 x2 x3 x4 x15 x17 x18 0) else (aC.j3 k x0 x1 x2 x3 x4 x15 x17 x18 (wrap64 ((wrap64 ((wrap64 (x16 + x15)) - t141)) + 1)))) else (none))
def aC.j3 : Nat → Int → Int → Bool → Int → Int → Int → Int → Int → Int → Option (Int × Bool × Bool × Bool × Bool × Bool)
 |0, _, _, _, _, _, _, _, _, _ => none
 |k + 1, x0, x1, x2, x3, x4, x15, x17, x18, x19 => (dY.f x0).bind fun t142 => (if x19 ≥ t142 then ((dE.f x0 x1 x2).bind fun bt143 => (some (bt143.1, bt143.2.1, bt143.2.2.1, bt143.2.2.2.1, bt143.2.2.2.2.1, bt143.2.2.2.2.2))) else (if x18 = 0 then ((gJ.f x17 x15).bind fun t150 => ((dF.f x0 x2 x19 ((t150) % 4294967296)).bind fun t151 => (some (t151, false, false, false, false, (x18 != 0))))) else (if x4 = 0 then ((gJ.f x17 x15).bind fun t152 => ((dF.f x0 x2 x19 ((t152) % 4294967296)).bind fun t153 => (some (t153, false, false, false, true, (x18 != 0))))) else ((bits_Len.f k x4).bind fun t154 => ((dX.f x0).bind fun t155 => ((gJ.f x17 x15).bind fun t156 => ((dF.f x0 x2 x19 ((t156) % 4294967296)).bind fun t157 => (some (t157, false, false, false, decide ((wrap64 ((wrap64 (x3 + t154)) - 1)) < t155), (x18 != 0))))))))))
end
def aC.f (k : Nat) (a0 a1 : Int) (a2 : Bool) (a3 a4 : Int) (a5 : Bool) : Option (Int × Bool × Bool × Bool × Bool × Bool) := if a4 = 0 then (aC.j0 k a0 a1 a2 (mn (mx a3 (-10000)) 10000) a4 a5 (!a5)) else (aC.j0 k a0 a1 a2 (mn (mx a3 (-10000)) 10000) a4 a5 false)
theorem aC.gM : ∀ k, (∀ y0 y1 y2 y3 y4 y5 y6, LeO (aC.j0 k y0 y1 y2 y3 y4 y5 y6) (aC.j0 (k + 1) y0 y1 y2 y3 y4 y5 y6)) ∧ (∀ y0 y1 y2 y3 y4 y5 y6 y7 y8, LeO (aC.j1 k y0 y1 y2 y3 y4 y5 y6 y7 y8) (aC.j1 (k + 1) y0 y1 y2 y3 y4 y5 y6 y7 y8)) ∧ (∀ y0 y1 y2 y3 y4 y5 y6 y7 y8, LeO (aC.j2 k y0 y1 y2 y3 y4 y5 y6 y7 y8) (aC.j2 (k + 1) y0 y1 y2 y3 y4 y5 y6 y7 y8)) ∧ (∀ y0 y1 y2 y3 y4 y5 y6 y7 y8, LeO (aC.j3 k y0 y1 y2 y3 y4 y5 y6 y7 y8) (aC.j3 (k + 1) y0 y1 y2 y3 y4 y5 y6 y7 y8))
 |0 => ⟨fun _ _ _ _ _ _ _ r h => by simp [aC.j0] at h, fun _ _ _ _ _ _ _ _ _ r h => by simp [aC.j1] at h, fun _ _ _ _ _ _ _ _ _ r h => by simp [aC.j2] at h, fun _ _ _ _ _ _ _ _ _ r h => by simp [aC.j3] at h⟩
 |k + 1 => by
  obtain ⟨ih0, ih1, ih2, ih3⟩ := aC.gM k
  refine ⟨?_, ?_, ?_, ?_⟩
  ·intro y0 y1 y2 y3 y4 y5 y6
   unfold aC.j0
   repeat' first
   |(with_reducible first|exact ih0 _ _ _ _ _ _ _|exact ih1 _ _ _ _ _ _ _ _ _|exact ih2 _ _ _ _ _ _ _ _ _|exact ih3 _ _ _ _ _ _ _ _ _|exact bits_Len.mono _ _|exact dP.mono _ _ _ _|exact bV.mono _ _ _ _|exact LeO.refl _|exact LeO.none _|refine LeO.ite ?_ ?_|refine LeO.bind ?_ (fun _ => ?_))
   |exact ih0 _ _ _ _ _ _ _
   |exact ih1 _ _ _ _ _ _ _ _ _
   |exact ih2 _ _ _ _ _ _ _ _ _
   |exact ih3 _ _ _ _ _ _ _ _ _
   |exact bits_Len.mono _ _
   |exact dP.mono _ _ _ _
   |exact bV.mono _ _ _ _
   |exact LeO.none _
   |refine LeO.ite ?_ ?_
   |refine LeO.bind ?_ (fun _ => ?_)
  ·intro y0 y1 y2 y3 y4 y5 y6 y7 y8
   unfold aC.j1
   repeat' first
   |(with_reducible first|exact ih0 _ _ _ _ _ _ _|exact ih1 _ _ _ _ _ _ _ _ _|exact ih2 _ _ _ _ _ _ _ _ _|exact ih3 _ _ _ _ _ _ _ _ _|exact bits_Len.mono _ _|exact dP.mono _ _ _ _|exact bV.mono _ _ _ _|exact LeO.refl _|exact LeO.none _|refine LeO.ite ?_ ?_|refine LeO.bind ?_ (fun _ => ?_))
   |exact ih0 _ _ _ _ _ _ _
   |exact ih1 _ _ _ _ _ _ _ _ _
   |exact ih2 _ _ _ _ _ _ _ _ _
   |exact ih3 _ _ _ _ _ _ _ _ _
   |exact bits_Len.mono _ _
   |exact dP.mono _ _ _ _
   |exact bV.mono _ _ _ _
   |exact LeO.none _
   |refine LeO.ite ?_ ?_
   |refine LeO.bind ?_ (fun _ => ?_)
  ·intro y0 y1 y2 y3 y4 y5 y6 y7 y8
   unfold aC.j2
   repeat' first
   |(with_reducible first|exact ih0 _ _ _ _ _ _ _|exact ih1 _ _ _ _ _ _ _ _ _|exact ih2 _ _ _ _ _ _ _ _ _|exact ih3 _ _ _ _ _ _ _ _ _|exact bits_Len.mono _ _|exact dP.mono _ _ _ _|exact bV.mono _ _ _ _|exact LeO.refl _|exact LeO.none _|refine LeO.ite ?_ ?_|refine LeO.bind ?_ (fun _ => ?_))
   |exact ih0 _ _ _ _ _ _ _
   |exact ih1 _ _ _ _ _ _ _ _ _
   |exact ih2 _ _ _ _ _ _ _ _ _
   |exact ih3 _ _ _ _ _ _ _ _ _
   |exact bits_Len.mono _ _
   |exact dP.mono _ _ _ _
   |exact bV.mono _ _ _ _
   |exact LeO.none _
   |refine LeO.ite ?_ ?_
   |refine LeO.bind ?_ (fun _ => ?_)
  ·intro y0 y1 y2 y3 y4 y5 y6 y7 y8
   unfold aC.j3
   repeat' first
   |(with_reducible first|exact ih0 _ _ _ _ _ _ _|exact ih1 _ _ _ _ _ _ _ _ _|exact ih2 _ _ _ _ _ _ _ _ _|exact ih3 _ _ _ _ _ _ _ _ _|exact bits_Len.mono _ _|exact dP.mono _ _ _ _|exact bV.mono _ _ _ _|exact LeO.refl _|exact LeO.none _|refine LeO.ite ?_ ?_|refine LeO.bind ?_ (fun _ => ?_))
   |exact ih0 _ _ _ _ _ _ _
   |exact ih1 _ _ _ _ _ _ _ _ _
   |exact ih2 _ _ _ _ _ _ _ _ _
   |exact ih3 _ _ _ _ _ _ _ _ _
   |exact bits_Len.mono _ _
   |exact dP.mono _ _ _ _
   |exact bV.mono _ _ _ _
   |exact LeO.none _
   |refine LeO.ite ?_ ?_
   |refine LeO.bind ?_ (fun _ => ?_)
theorem aC.mono : ∀ a0 a1 a2 a3 a4 a5 k, LeO (aC.f k a0 a1 a2 a3 a4 a5) (aC.f (k + 1) a0 a1 a2 a3 a4 a5) := by
 intro a0 a1 a2 a3 a4 a5 k
 obtain ⟨ih0, ih1, ih2, ih3⟩ := aC.gM k
 unfold aC.f
 repeat' first
   |(with_reducible first|exact ih0 _ _ _ _ _ _ _|exact ih1 _ _ _ _ _ _ _ _ _|exact ih2 _ _ _ _ _ _ _ _ _|exact ih3 _ _ _ _ _ _ _ _ _|exact bits_Len.mono _ _|exact dP.mono _ _ _ _|exact bV.mono _ _ _ _|exact LeO.refl _|exact LeO.none _|refine LeO.ite ?_ ?_|refine LeO.bind ?_ (fun _ => ?_))
   |exact ih0 _ _ _ _ _ _ _
   |exact ih1 _ _ _ _ _ _ _ _ _
   |exact ih2 _ _ _ _ _ _ _ _ _
   |exact ih3 _ _ _ _ _ _ _ _ _
   |exact bits_Len.mono _ _
   |exact dP.mono _ _ _ _
   |exact bV.mono _ _ _ _
   |exact LeO.none _
   |refine LeO.ite ?_ ?_
   |refine LeO.bind ?_ (fun _ => ?_)
end P
namespace Round
open P Num BitsF Fmt
def iM (s : Nat) (d : Int) : Nat := if d ≤ 0 then s * 2 ^ (-d).toNat else s / 2 ^ d.toNat
def gD (s : Nat) (d : Int) (more : Bool) : Nat :=
 if d ≤ 0 ∨ s % 2 ^ d.toNat = 0 then (if more then 1 else 0)
 else if s / 2 ^ (d.toNat - 1) % 2 = 0 then 1 else if s % 2 ^ (d.toNat - 1) ≠ 0 ∨ more = true then 3 else 2
def upN (mode : Int) (neg : Bool) (q left : Nat) : Bool :=
 if mode = 1 then false else if mode = 2 then (!neg && decide (left ≠ 0)) else if mode = 3 then (neg && decide (left ≠ 0))
 else if mode = 4 then decide (2 ≤ left) else (decide (left = 3) || (decide (left = 2) && decide (q % 2 = 1)))
def gV (f x : Int) (s : Nat) : Nat := if s = 0 then 0 else (x + iA s - 1 - dM f).toNat
def dU (f x : Int) (s : Nat) : Int := dM f - fm f + gV f x s
def pO (f mode : Int) (neg : Bool) (x : Int) (s : Nat) (more : Bool) : Nat :=
 gV f x s * 2 ^ fm f + iM s (dU f x s - x) + (if upN mode neg (iM s (dU f x s - x)) (gD s (dU f x s - x) more) then 1 else 0)
def iZ (f : Int) (k : Nat) : Bool := decide (gN f * 2 ^ fm f ≤ k)
def jM (mode : Int) (neg : Bool) : Bool := if mode = 1 then false else if mode = 2 then !neg else if mode = 3 then neg else true
def kY (f x : Int) (s : Nat) (more : Bool) : Bool := decide (gD s (dU f x s - x) more ≠ 0)
def mD (f x : Int) (s : Nat) (more : Bool) : Bool := kY f x s more && (decide (s = 0) || decide (x + iA s - 1 < dM f))
def gB (f mode : Int) (neg : Bool) (x : Int) (s : Nat) (more : Bool) : Nat :=
 (if iZ f (pO f mode neg x s more) then (if jM mode neg then gN f * 2 ^ fm f else gN f * 2 ^ fm f - 1) else pO f mode neg x s more) + eQ f neg
def lZ (f mode : Int) (neg : Bool) (x : Int) (s : Nat) (more : Bool) : Bool × Bool × Bool :=
 if iZ f (pO f mode neg x s more) then (true, false, true) else (false, mD f x s more, kY f x s more)
def lW (x : Int) : Int := mn (mx x (-10000)) 10000
theorem qH (x : Int) : -10000 ≤ lW x ∧ lW x ≤ 10000 := by
 unfold lW mn mx; split <;> split <;> omega
theorem iX (x : Int) (h : -10000 ≤ x) (h' : x ≤ 10000) : lW x = x := by
 unfold lW mn mx; split <;> split <;> omega
theorem unit_f (k : Nat) (f x : Int) (s : Nat) (hs : s < 18446744073709551616) (h1 : -10000 ≤ x) (h2 : x ≤ 10000) : dP.f (k + 1) f x (s : Int) = some (dU f x s) := by
 unfold dP.f dU gV
 obtain ⟨b1, b2, b3, b4, b5⟩ := eP f
 have hl := iJ f
 have hn := oU s hs
 simp only [jD, rE, Option.bind_some]
 by_cases c : s = 0
 ·subst c
  rw [if_neg (by decide), if_pos rfl, cZ _ (by omega) (by omega)]; simp
 ·rw [if_pos (by omega), if_neg c, len_f k s hs]
  simp only [Option.bind_some]
  rw [cZ (x + _) (by omega) (by omega), cZ (x + _ - 1) (by omega) (by omega)]
  unfold mx
  split
  ·rw [cZ _ (by omega) (by omega)]; congr 1; omega
  ·rw [cZ _ (by omega) (by omega)]; congr 1; omega
theorem quo_lt (s : Nat) (d : Int) (h : d ≤ 0) (h' : s * 2 ^ (-d).toNat < 18446744073709551616) : s * 2 ^ (-d).toNat % 18446744073709551616 = iM s d := by
 unfold iM; rw [if_pos h, Nat.mod_eq_of_lt h']
theorem wW (s : Nat) (d : Int) (more : Bool) : gD s d more ≤ 3 := by
 unfold gD; split
 ·split <;> omega
 ·split
  ·omega
  ·split <;> omega
theorem aBp (v : Nat) (n : Int) : (lN v n).1 = if 0 ≤ n then v / 2 ^ n.toNat else v * 2 ^ (-n).toNat % 18446744073709551616 := by
 unfold lN; split <;> rfl
theorem gH {s : Nat} {d : Int} (more : Bool) (h : d ≤ 0 ∨ s % 2 ^ d.toNat = 0) : gD s d more = if more then 1 else 0 := by
 unfold gD; rw [if_pos h]
theorem nC {s : Nat} {d : Int} (more : Bool) (h : ¬ d ≤ 0) (h' : ¬ s % 2 ^ d.toNat = 0) :
  gD s d more = if s / 2 ^ (d.toNat - 1) % 2 = 0 then 1 else if s % 2 ^ (d.toNat - 1) ≠ 0 ∨ more = true then 3 else 2 := by
 unfold gD; rw [if_neg (not_or.mpr ⟨h, h'⟩)]
theorem units_f (k s : Nat) (hs : s < 18446744073709551616) (d : Int) (h1 : -100000 ≤ d) (h2 : d ≤ 100000) (more : Bool) (hq : d ≤ 0 → s * 2 ^ (-d).toNat < 18446744073709551616) :
  bV.f (k + 1) (s : Int) d more = some ((iM s d : Int), (gD s d more : Int)) := by
 unfold bV.f
 by_cases c : d ≤ 0
 ·rw [if_pos c, xG s hs d (by omega) (by omega)]
  have e : (lN s d).1 = iM s d := by
   rw [aBp]
   by_cases c0 : 0 ≤ d
   ·obtain rfl : d = 0 := by omega
    unfold iM; simp
   ·rw [if_neg c0]; exact quo_lt s d c (hq c)
  simp only [Option.bind_some, e]
  rw [gH more (.inl c)]
  cases more <;> rfl
 ·rw [if_neg c]
  obtain ⟨m, rfl⟩ := mG (show 0 ≤ d by omega)
  have hm : (m : Int) - 1 = ((m - 1 : Nat) : Int) := by omega
  rw [xG s hs _ (by omega) (by omega), cZ _ (by omega) (by omega), hm, xG s hs _ (by omega) (by omega)]
  simp only [Option.bind_some, jO]
  have hqe : iM s (m : Int) = s / 2 ^ m := by unfold iM; rw [if_neg c, Int.toNat_natCast]
  have hd : s / 2 ^ (m - 1) < 18446744073709551616 := Nat.lt_of_le_of_lt (Nat.div_le_self _ _) hs
  rw [hqe]
  by_cases z : s % 2 ^ m = 0
  ·have hl : gD s (m : Int) more = if more then 1 else 0 := gH more (.inr (by rw [Int.toNat_natCast]; exact z))
   rw [hl, if_neg (by simp [z])]
   cases more <;> rfl
  ·have hl : gD s (m : Int) more = _ := nC more c (by rw [Int.toNat_natCast]; exact z)
   rw [Int.toNat_natCast] at hl
   rw [hl, if_pos (by simp [z]), qC _ hd]
   by_cases y : s / 2 ^ (m - 1) % 2 = 0
   ·simp only [y, if_true, Int.natCast_zero]; rfl
   ·simp only [y, if_false]
    rw [if_neg (by omega)]
    by_cases w : s % 2 ^ (m - 1) = 0
    ·simp only [w, ne_eq, not_true_eq_false, decide_false, Bool.false_eq_true, if_false, false_or]
     cases more <;> rfl
    ·simp only [w, ne_eq, not_false_eq_true, decide_true, if_true, true_or]; rfl
theorem up_f (mode : Int) (neg : Bool) (q left : Nat) (hq : q < 18446744073709551616) : eU.f mode neg (q : Int) (left : Int) = some (upN mode neg q left) := by
 unfold eU.f upN
 have eb : (((left : Int) != 0) : Bool) = decide (left ≠ 0) := by rw [show (0 : Int) = ((0 : Nat) : Int) from rfl, bne_cast]
 have e1 : ((Go.bits .and .u64 (q : Int) 1 == 1) : Bool) = decide (q % 2 = 1) := by
  rw [qC q hq, show (1 : Int) = ((1 : Nat) : Int) from rfl]
  by_cases h : q % 2 = 1
  ·rw [h]; rfl
  ·rw [decide_eq_false h, beq_eq_false_iff_ne]; omega
 rw [eb, e1]
 by_cases m1 : mode = 1
 ·rw [if_pos m1, if_pos m1]
 ·rw [if_neg m1, if_neg m1]
  by_cases m2 : mode = 2
  ·rw [if_pos m2, if_pos m2]; cases neg <;> simp
  ·rw [if_neg m2, if_neg m2]
   by_cases m3 : mode = 3
   ·rw [if_pos m3, if_pos m3]; cases neg <;> simp
   ·rw [if_neg m3, if_neg m3]
    by_cases m4 : mode = 4
    ·rw [if_pos m4, if_pos m4]; congr 1; apply decide_eq_decide.mpr; omega
    ·rw [if_neg m4, if_neg m4]
     by_cases l3 : left = 3
     ·subst l3; rfl
     ·rw [if_neg (by omega), decide_eq_false l3, Bool.false_or]
      by_cases l2 : left = 2
      ·subst l2; simp
      ·rw [if_neg (by omega), decide_eq_false l2, Bool.false_and]
theorem beyond_f (f mode : Int) (neg : Bool) : dE.f f mode neg = some (((if jM mode neg then oW f neg else qN f neg : Nat) : Int), false, false, true, false, true) := by
 unfold dE.f jM
 simp only [aBh, aAk, Option.bind_some]
 by_cases m1 : mode = 1
 ·rw [if_pos m1, if_pos m1]; rfl
 ·rw [if_neg m1, if_neg m1]
  by_cases m2 : mode = 2
  ·rw [if_pos m2, if_pos m2]; cases neg <;> rfl
  ·rw [if_neg m2, if_neg m2]
   by_cases m3 : mode = 3
   ·rw [if_pos m3, if_pos m3]; cases neg <;> rfl
   ·rw [if_neg m3, if_neg m3]; rfl
theorem oQ (f x : Int) (s : Nat) : iM s (dU f x s - x) < 2 ^ (fm f + 1) ∧ (gV f x s ≠ 0 → 2 ^ fm f ≤ iM s (dU f x s - x)) := by
 obtain ⟨b1, b2, b3, b4, b5⟩ := eP f
 by_cases c : s = 0
 ·subst c
  have : gV f x 0 = 0 := by unfold gV; rw [if_pos rfl]
  refine ⟨?_, fun h => absurd this h⟩
  have h0 := Nat.two_pow_pos (fm f + 1)
  unfold iM; split <;> simp [h0]
 ·have hlt := nV s
  have hle := uR s c
  have hpos := nG s c
  have hr : gV f x s = (x + iA s - 1 - dM f).toNat := by unfold gV; rw [if_neg c]
  unfold dU iM
  generalize iA s = L at *
  by_cases d : dM f - (fm f : Int) + (gV f x s : Int) - x ≤ 0
  ·rw [if_pos d]
   obtain ⟨j, hj⟩ := mG (show 0 ≤ -(dM f - (fm f : Int) + (gV f x s : Int) - x) by omega)
   rw [hj, Int.toNat_natCast]
   have hjL : L + j ≤ fm f + 1 := by omega
   constructor
   ·calc s * 2 ^ j < 2 ^ L * 2 ^ j := Nat.mul_lt_mul_of_pos_right hlt (Nat.two_pow_pos _)
     _ = 2 ^ (L + j) := (Nat.pow_add ..).symm
     _ ≤ 2 ^ (fm f + 1) := Nat.pow_le_pow_right (by decide) hjL
   ·intro h
    calc 2 ^ fm f = 2 ^ (L - 1) * 2 ^ j := by rw [← Nat.pow_add]; congr 1; omega
     _ ≤ s * 2 ^ j := Nat.mul_le_mul_right _ hle
  ·rw [if_neg d]
   obtain ⟨j, hj⟩ := mG (show 0 ≤ dM f - (fm f : Int) + (gV f x s : Int) - x by omega)
   rw [hj, Int.toNat_natCast]
   constructor
   ·rw [Nat.div_lt_iff_lt_mul (Nat.two_pow_pos _), ← Nat.pow_add]
    exact Nat.lt_of_lt_of_le hlt (Nat.pow_le_pow_right (by decide) (by omega))
   ·intro h
    rw [Nat.le_div_iff_mul_le (Nat.two_pow_pos _), ← Nat.pow_add]
    exact Nat.le_trans (Nat.pow_le_pow_right (by decide) (by omega)) hle
theorem uY (f x : Int) (s : Nat) (hs : s < 18446744073709551616) (h1 : -10000 ≤ x) (h2 : x ≤ 10000) : -200 ≤ dU f x s ∧ dU f x s ≤ 10100 ∧ gV f x s ≤ 10200 := by
 obtain ⟨b1, b2, b3, b4, b5⟩ := eP f
 have hl := iJ f
 have hn := oU s hs
 unfold dU
 have hr : gV f x s = 0 ∨ (gV f x s : Int) = x + iA s - 1 - dM f := by
  unfold gV; split
  ·left; rfl
  ·omega
 omega
theorem exc_cast (l : Nat) : (((l : Int) != 0) : Bool) = decide (l ≠ 0) := by rw [show (0 : Int) = ((0 : Nat) : Int) from rfl, bne_cast]
theorem aAc (k : Nat) (f mode : Int) (neg : Bool) (x : Int) (s q l a : Nat) (hs : s < 18446744073709551616) (hq : q < 18446744073709551616) (h1 : -10000 ≤ x) (h2 : x ≤ 10000) (K : Nat)
  (hK : K = a * 2 ^ fm f + q % 2 ^ fm f) :
  aC.j3 (k + 2) f mode neg x (s : Int) (fm f : Int) (q : Int) (l : Int) (a : Int) = some
   ((((if iZ f K then (if jM mode neg then gN f * 2 ^ fm f else gN f * 2 ^ fm f - 1) else K) + eQ f neg : Nat) : Int), false, false,
    iZ f K, !iZ f K && (decide (l ≠ 0) && (decide (s = 0) || decide (x + iA s - 1 < dM f))), iZ f K || decide (l ≠ 0)) := by
 obtain ⟨b1, b2, b3, b4, b5⟩ := eP f
 have hp := Nat.two_pow_pos (fm f)
 have hm : q % 2 ^ fm f < 2 ^ fm f := Nat.mod_lt _ hp
 have h31 := eZ (show fm f ≤ 31 by omega)
 have ho : (a : Int) ≥ (gN f : Int) ↔ iZ f K = true := by
  unfold iZ
  rw [decide_eq_true_iff, hK]
  constructor
  ·intro h
   have : gN f * 2 ^ fm f ≤ a * 2 ^ fm f := Nat.mul_le_mul_right _ (by omega)
   omega
  ·intro h
   rcases Nat.lt_or_ge a (gN f) with c | c
   ·have : (a + 1) * 2 ^ fm f ≤ gN f * 2 ^ fm f := Nat.mul_le_mul_right _ c
    rw [Nat.add_mul, Nat.one_mul] at this; omega
   ·omega
 rw [aC.j3, zS]
 simp only [Option.bind_some]
 by_cases c : (a : Int) ≥ (gN f : Int)
 ·rw [if_pos c, beyond_f, ho.mp c]
  simp only [Option.bind_some, if_true, Bool.not_true, Bool.false_and, Bool.true_or]
  congr 2
  unfold oW qN
  split <;> rfl
 ·rw [if_neg c]
  have co : iZ f K = false := by simpa using fun h => c (ho.mpr h)
  have ec : gJ.f (q : Int) (fm f : Int) = some ((q % 2 ^ fm f : Nat) : Int) := by
   rw [cut_f q hq _ (by omega)]; unfold cutN; rw [if_neg (by omega), Int.toNat_natCast]
  have ej : dF.f f neg (a : Int) (((q % 2 ^ fm f : Nat) : Int) % 4294967296) = some ((K + eQ f neg : Nat) : Int) := by
   rw [show ((q % 2 ^ fm f : Nat) : Int) % 4294967296 = ((q % 2 ^ fm f : Nat) : Int) by omega, xP f neg _ _ (by omega) hm, hK]; rfl
  rw [co, ec]
  simp only [Option.bind_some, ej, Bool.false_eq_true, if_false, Bool.not_false, Bool.true_and, Bool.false_or, exc_cast]
  by_cases l0 : l = 0
  ·subst l0; simp
  ·rw [if_neg (by omega)]
   by_cases s0 : s = 0
   ·subst s0; simp [l0]
   ·have hn := oU s hs
    rw [if_neg (by omega), len_f (k) s hs, rE]
    simp only [Option.bind_some]
    rw [cZ (x + _) (by omega) (by omega), cZ _ (by omega) (by omega)]
    simp [l0, s0]
theorem pack_j1 (k : Nat) (f mode : Int) (neg : Bool) (x : Int) (s q l U : Nat) (hU : U ≤ 10200) (hs : s < 18446744073709551616) (hq : q ≤ 2 ^ (fm f + 1)) (hq' : U ≠ 0 → 2 ^ fm f ≤ q) (h1 : -10000 ≤ x) (h2 : x ≤ 10000) (K : Nat)
  (hK : K = U * 2 ^ fm f + q) :
  aC.j1 (k + 4) f mode neg x (s : Int) (fm f : Int) (dM f - fm f + U) (q : Int) (l : Int) = some
   ((((if iZ f K then (if jM mode neg then gN f * 2 ^ fm f else gN f * 2 ^ fm f - 1) else K) + eQ f neg : Nat) : Int), false, false,
    iZ f K, !iZ f K && (decide (l ≠ 0) && (decide (s = 0) || decide (x + iA s - 1 < dM f))), iZ f K || decide (l ≠ 0)) := by
 obtain ⟨b1, b2, b3, b4, b5⟩ := eP f
 have hl := iJ f
 have hp := Nat.two_pow_pos (fm f)
 have h31 := eZ (show fm f + 1 ≤ 31 by omega)
 have hq64 : q < 18446744073709551616 := by omega
 have e1 : wrap64 ((fm f : Int) + 1) = ((fm f + 1 : Nat) : Int) := by rw [cZ] <;> omega
 have hsucc : 2 ^ (fm f + 1) = 2 * 2 ^ fm f := by rw [Nat.pow_succ, Nat.mul_comm]
 rw [aC.j1, e1, gL _ (by omega), if_pos (by omega), oH _ _ hq64]
 by_cases c : q = 2 ^ (fm f + 1)
 ·have hd : q / 2 ^ (fm f + 1) = 1 := by rw [c, Nat.div_self (by omega)]
  rw [hd, if_neg (by decide), cZ _ (by omega) (by omega), show (q : Int) / 2 = ((2 ^ fm f : Nat) : Int) by omega, aC.j2, rE]
  simp only [Option.bind_some]
  rw [gL _ (by omega), if_pos (by omega), oH _ _ (by omega), Nat.div_self hp, if_neg (by decide)]
  rw [show dM f - (fm f : Int) + (U : Int) + 1 + (fm f : Int) = dM f + (U : Int) + 1 by omega, cZ (dM f + (U : Int) + 1) (by omega) (by omega), cZ (dM f + (U : Int) + 1 - dM f) (by omega) (by omega), cZ _ (by omega) (by omega), show dM f + (U : Int) + 1 - dM f + 1 = ((U + 2 : Nat) : Int) by omega]
  exact aAc k f mode neg x s _ l (U + 2) hs (by omega) h1 h2 K (by rw [hK, c, hsucc, Nat.mod_self, Nat.add_mul]; omega)
 ·have hd : q / 2 ^ (fm f + 1) = 0 := Nat.div_eq_of_lt (by omega)
  rw [hd, if_pos (by decide), aC.j2, rE]
  simp only [Option.bind_some]
  rw [gL _ (by omega), if_pos (by omega), oH _ _ hq64]
  by_cases c2 : q < 2 ^ fm f
  ·have hU0 : U = 0 := by
    rcases Nat.eq_zero_or_pos U with h | h
    ·exact h
    ·have := hq' (by omega); omega
   subst hU0
   rw [Nat.div_eq_of_lt c2, if_pos (by decide)]
   have h := aAc k f mode neg x s q l 0 hs hq64 h1 h2 K (by rw [hK, Nat.mod_eq_of_lt c2])
   rw [show ((0 : Nat) : Int) = 0 from rfl] at h
   exact h
  ·have hd1 : q / 2 ^ fm f = 1 := Nat.div_eq_of_lt_le (by omega) (by omega)
   rw [hd1, if_neg (by decide)]
   rw [show dM f - (fm f : Int) + (U : Int) + (fm f : Int) = dM f + (U : Int) by omega, cZ (dM f + (U : Int)) (by omega) (by omega), cZ (dM f + (U : Int) - dM f) (by omega) (by omega), cZ _ (by omega) (by omega), show dM f + (U : Int) - dM f + 1 = ((U + 1 : Nat) : Int) by omega]
   have hm1 : q % 2 ^ fm f = q - 2 ^ fm f := by
    have := Nat.div_add_mod q (2 ^ fm f)
    rw [hd1, Nat.mul_one] at this; omega
   exact aAc k f mode neg x s q l (U + 1) hs hq64 h1 h2 K (by rw [hK, hm1, Nat.add_mul]; omega)
theorem pack_f (k : Nat) (f mode : Int) (neg : Bool) (x : Int) (s : Nat) (more : Bool) (hs : s < 18446744073709551616) :
  aC.f (k + 5) f mode neg x (s : Int) more = some ((gB f mode neg (lW x) s more : Int), false, false, lZ f mode neg (lW x) s more) := by
 unfold aC.f
 have hc : mn (mx x (-10000)) 10000 = lW x := rfl
 obtain ⟨h1, h2⟩ := qH x
 rw [hc]
 generalize lW x = x at *
 by_cases z : s = 0 ∧ more = false
 ·obtain ⟨rfl, rfl⟩ := z
  rw [if_pos (by decide), aC.j0]
  simp only [Bool.not_false, if_true]
  rw [wD]
  have hk : pO f mode neg x 0 false = 0 := by
   unfold pO
   have hr : gV f x 0 = 0 := by unfold gV; rw [if_pos rfl]
   have hq : iM 0 (dU f x 0 - x) = 0 := by unfold iM; split <;> simp
   have hl : gD 0 (dU f x 0 - x) false = 0 := by rw [gH _ (.inr (by simp))]; rfl
   rw [hr, hq, hl]
   have : upN mode neg 0 0 = false := by unfold upN; simp
   rw [this]; simp
  have hl : gD 0 (dU f x 0 - x) false = 0 := by rw [gH _ (.inr (by simp))]; rfl
  have ho : iZ f 0 = false := by
   unfold iZ
   have := gU f
   have := Nat.two_pow_pos (fm f)
   rw [decide_eq_false_iff_not]
   have : 0 < gN f * 2 ^ fm f := Nat.mul_pos (by omega) (by omega)
   omega
  unfold gB lZ mD kY
  rw [hk, ho, hl]; simp
 ·have hj : (if (s : Int) = 0 then aC.j0 (k + 5) f mode neg x (s : Int) more (!more) else aC.j0 (k + 5) f mode neg x (s : Int) more false) = aC.j0 (k + 5) f mode neg x (s : Int) more false := by
   by_cases c : (s : Int) = 0
   ·rw [if_pos c]
    cases more
    ·exact absurd ⟨by omega, rfl⟩ z
    ·rfl
   ·rw [if_neg c]
  rw [hj, aC.j0, if_neg (by decide), jD]
  obtain ⟨u1, u2, u3⟩ := uY f x s hs h1 h2
  obtain ⟨q1, q2⟩ := oQ f x s
  obtain ⟨b1, b2, b3, b4, b5⟩ := eP f
  have h31 := eZ (show fm f + 1 ≤ 31 by omega)
  have hll := wW s (dU f x s - x) more
  have hq64 : iM s (dU f x s - x) < 18446744073709551616 := by omega
  have hd : dU f x s - x ≤ 0 → s * 2 ^ (-(dU f x s - x)).toNat < 18446744073709551616 := by
   intro h; have := hq64; unfold iM at this; rw [if_pos h] at this; exact this
  simp only [Option.bind_some]
  rw [unit_f _ f x s hs h1 h2]
  simp only [Option.bind_some]
  rw [cZ _ (by omega) (by omega), units_f _ s hs _ (by omega) (by omega) more hd]
  simp only [Option.bind_some]
  rw [up_f _ _ _ _ hq64]
  simp only [Option.bind_some]
  have hun : dU f x s = dM f - fm f + (gV f x s : Nat) := rfl
  have key : ∀ up : Bool, aC.j1 (k + 4) f mode neg x (s : Int) (fm f : Int) (dU f x s) ((iM s (dU f x s - x) + (if up then 1 else 0) : Nat) : Int) (gD s (dU f x s - x) more : Int) = _ :=
   fun up => pack_j1 k f mode neg x s _ _ (gV f x s) u3 hs (by split <;> omega) (fun h => Nat.le_trans (q2 h) (Nat.le_add_right _ _)) h1 h2 _ rfl
  have res : ∀ up : Bool, up = upN mode neg (iM s (dU f x s - x)) (gD s (dU f x s - x) more) → aC.j1 (k + 4) f mode neg x (s : Int) (fm f : Int) (dU f x s) ((iM s (dU f x s - x) + (if up then 1 else 0) : Nat) : Int) (gD s (dU f x s - x) more : Int) = some ((gB f mode neg x s more : Int), false, false, lZ f mode neg x s more) := by
   intro up hup
   rw [key up]
   subst hup
   unfold gB lZ mD kY pO
   rw [← Nat.add_assoc]
   by_cases o : iZ f (gV f x s * 2 ^ fm f + iM s (dU f x s - x) + if upN mode neg (iM s (dU f x s - x)) (gD s (dU f x s - x) more) = true then 1 else 0) = true
   ·rw [o]; simp
   ·rw [Bool.not_eq_true] at o; rw [o]; simp
  by_cases hu : upN mode neg (iM s (dU f x s - x)) (gD s (dU f x s - x) more) = true
  ·rw [if_pos hu]
   have h := res true hu.symm
   rw [if_pos rfl] at h
   rw [show ((iM s (dU f x s - x) : Nat) : Int) + 1 = ((iM s (dU f x s - x) + 1 : Nat) : Int) by omega, gL _ (by omega)]
   exact h
  ·rw [if_neg hu]
   rw [Bool.not_eq_true] at hu
   have h := res false hu.symm
   rw [if_neg (by decide), Nat.add_zero] at h
   exact h
theorem up_none (mode : Int) (neg : Bool) (q : Nat) : upN mode neg q 0 = false := by unfold upN; simp
theorem aDm (f : Int) (M s r : Nat) (hM : M < 2 ^ (fm f + 1)) (hr : r = 0 ∨ 2 ^ fm f ≤ M) :
  gV f (dM f - fm f + r - s) (M * 2 ^ s) = r ∧ iM (M * 2 ^ s) (dU f (dM f - fm f + r - s) (M * 2 ^ s) - (dM f - fm f + r - s)) = M ∧ gD (M * 2 ^ s) (dU f (dM f - fm f + r - s) (M * 2 ^ s) - (dM f - fm f + r - s)) false = 0 := by
 have hrise : gV f (dM f - fm f + r - s) (M * 2 ^ s) = r := by
  unfold gV
  by_cases c : M = 0
  ·subst c
   rw [Nat.zero_mul, if_pos rfl]
   rcases hr with h | h
   ·exact h.symm
   ·have := Nat.two_pow_pos (fm f); omega
  ·rw [if_neg (Nat.mul_ne_zero c (Nat.ne_of_gt (Nat.two_pow_pos s))), tH M s c]
   have h1 := gP M (fm f + 1) hM
   have h2 := nG M c
   have h3 : r ≠ 0 → fm f < iA M := fun h => aCf M (fm f) (hr.resolve_left h)
   omega
 have hu : dU f (dM f - fm f + r - s) (M * 2 ^ s) - (dM f - fm f + r - s) = (s : Int) := by
  unfold dU; rw [hrise]; omega
 rw [hu]
 have hp := Nat.two_pow_pos s
 refine ⟨hrise, ?_, gH _ (.inr ?_)⟩
 ·unfold iM
  by_cases c : (s : Int) ≤ 0
  ·obtain rfl : s = 0 := by omega
   simp
  ·rw [if_neg c, Int.toNat_natCast, Nat.mul_div_cancel _ hp]
 ·rw [Int.toNat_natCast, Nat.mul_mod_left]
theorem qW (f mode : Int) (neg : Bool) (M s r : Nat) (hM : M < 2 ^ (fm f + 1)) (hr : r = 0 ∨ 2 ^ fm f ≤ M) (ht : r * 2 ^ fm f + M < gN f * 2 ^ fm f) :
  gB f mode neg (dM f - fm f + r - s) (M * 2 ^ s) false = r * 2 ^ fm f + M + eQ f neg ∧ lZ f mode neg (dM f - fm f + r - s) (M * 2 ^ s) false = (false, false, false) := by
 obtain ⟨h1, h2, h3⟩ := aDm f M s r hM hr
 have hk : pO f mode neg (dM f - fm f + r - s) (M * 2 ^ s) false = r * 2 ^ fm f + M := by
  unfold pO; rw [h3, up_none, h1, h2]; simp
 have ho : iZ f (r * 2 ^ fm f + M) = false := by unfold iZ; rw [decide_eq_false_iff_not]; omega
 constructor
 ·unfold gB; rw [hk, ho]; simp
 ·unfold lZ mD kY; rw [hk, ho, h3]; simp
theorem zK (f mode : Int) (v s : Nat) (h : mE f (iH f v) < gN f) :
  gB f mode (dO f (iH f v)) (bN f (iH f v) - s) (bT f (iH f v) * 2 ^ s) false = iH f v ∧ lZ f mode (dO f (iH f v)) (bN f (iH f v) - s) (bT f (iH f v) * 2 ^ s) false = (false, false, false) := by
 have hf := rJ f (iH f v)
 have hp := tT f v
 unfold bN bT
 generalize hx : iH f v = x at *
 generalize mE f x = e at *
 generalize jY f x = m at *
 generalize dO f x = neg at *
 have hs : 2 ^ (fm f + 1) = 2 * 2 ^ fm f := by rw [Nat.pow_succ, Nat.mul_comm]
 by_cases c : e = 0
 ·subst c
  rw [if_pos rfl]
  have ht : 0 < gN f * 2 ^ fm f := by
   have := gU f; exact Nat.mul_pos (by omega) (Nat.two_pow_pos _)
  have h1 : 2 ^ fm f ≤ gN f * 2 ^ fm f := Nat.le_mul_of_pos_left _ (by omega)
  have := qW f mode neg m s 0 (by omega) (.inl rfl) (by omega)
  rw [hp, Nat.zero_mul] at *
  exact this
 ·rw [if_neg c]
  have h1 : (e + 1) * 2 ^ fm f ≤ gN f * 2 ^ fm f := Nat.mul_le_mul_right _ h
  rw [Nat.add_mul, Nat.one_mul] at h1
  have h2 : e * 2 ^ fm f = (e - 1) * 2 ^ fm f + 2 ^ fm f := by rw [← Nat.succ_mul]; congr 1; omega
  have h3 : (e - 1) * 2 ^ fm f + (m + 2 ^ fm f) = e * 2 ^ fm f + m := by omega
  have := qW f mode neg (m + 2 ^ fm f) s (e - 1) (by omega) (.inr (by omega)) (by omega)
  rw [h3] at this
  rw [hp]
  exact this
theorem kM (f : Int) (v : Nat) : bT f v < 2 ^ (fm f + 1) := by
 have hf := rJ f v
 have hs : 2 ^ (fm f + 1) = 2 * 2 ^ fm f := by rw [Nat.pow_succ, Nat.mul_comm]
 unfold bT; split <;> omega
def sM (r h : Nat) (more : Bool) : Nat := if r < h then (if r = 0 ∧ more = false then 0 else 1) else if r = h ∧ more = false then 2 else 3
theorem mV (s : Nat) (d : Int) (more : Bool) (hd : ¬ d ≤ 0) : gD s d more = sM (s % 2 ^ d.toNat) (2 ^ (d.toNat - 1)) more := by
 obtain ⟨m, hm⟩ : ∃ m, d.toNat = m + 1 := ⟨d.toNat - 1, by omega⟩
 have hh := Nat.two_pow_pos m
 have hs : 2 ^ (m + 1) = 2 ^ m * 2 := Nat.pow_succ ..
 have h1 := Nat.mod_lt s (Nat.two_pow_pos (m + 1))
 have h3 : s / 2 ^ m = (s / 2 ^ (m + 1)) * 2 + (s % 2 ^ (m + 1)) / 2 ^ m := by
  have h2 := Nat.div_add_mod s (2 ^ (m + 1))
  rw [hs] at h2 ⊢
  have e : s = 2 ^ m * (s / (2 ^ m * 2) * 2) + s % (2 ^ m * 2) := by
   rw [← Nat.mul_assoc, Nat.mul_right_comm]; exact h2.symm
  exact (congrArg (· / 2 ^ m) e).trans (Nat.mul_add_div hh _ _)
 have h4 : s % 2 ^ m = s % 2 ^ (m + 1) % 2 ^ m := by rw [hs, Nat.mod_mul_right_mod]
 have hz : ¬ s % 2 ^ (m + 1) = 0 → gD s d more = if s / 2 ^ m % 2 = 0 then 1 else if s % 2 ^ m ≠ 0 ∨ more = true then 3 else 2 := by
  intro h'
  have := nC more hd (by rw [hm]; exact h')
  rw [hm, Nat.add_sub_cancel] at this; exact this
 rw [hm, Nat.add_sub_cancel]
 by_cases c : s % 2 ^ (m + 1) = 0
 ·rw [gH _ (.inr (by rw [hm]; exact c)), c]
  unfold sM
  rw [if_pos hh]
  cases more <;> simp
 ·rw [hz c, h3, h4]
  generalize s % 2 ^ (m + 1) = r at *
  unfold sM
  by_cases lt : r < 2 ^ m
  ·rw [if_pos lt, Nat.div_eq_of_lt lt, if_pos (by omega), if_neg (by omega)]
  ·have e1 : r / 2 ^ m = 1 := Nat.div_eq_of_lt_le (by omega) (by omega)
   have e2 : r % 2 ^ m = r - 2 ^ m := by rw [Nat.mod_eq_sub_mod (by omega), Nat.mod_eq_of_lt (by omega)]
   rw [if_neg lt, e1, e2, if_neg (by omega)]
   by_cases e3 : r = 2 ^ m
   ·subst e3; cases more <;> simp
   ·rw [if_pos (.inl (by omega)), if_neg (by omega)]
theorem aC3 {r r' h : Nat} {more less : Bool} (hr : r ≤ r') (hm : r = r' → more = true → less = true) : sM r h more ≤ sM r' h less := by
 unfold sM
 rcases Nat.lt_or_eq_of_le hr with c | c
 ·split <;> split <;> (first | (split <;> split <;> omega) | (split <;> omega) | omega)
 ·subst c
  have := hm rfl
  split <;> cases more <;> cases less <;> simp_all <;> split <;> omega
theorem up_mono (mode : Int) (neg : Bool) (q l l' : Nat) (hl : l ≤ l') (hl' : l' ≤ 3) (h : upN mode neg q l = true) : upN mode neg q l' = true := by
 unfold upN at *
 by_cases m1 : mode = 1
 ·simp [m1] at h
 ·by_cases m2 : mode = 2
  ·simp [m2] at h ⊢; exact ⟨h.1, by omega⟩
  ·by_cases m3 : mode = 3
   ·simp [m3] at h ⊢; exact ⟨h.1, by omega⟩
   ·by_cases m4 : mode = 4
    ·simp [m4] at h ⊢; omega
    ·simp [m1, m2, m3, m4] at h ⊢; omega
theorem len_mono {a b : Nat} (h : a ≤ b) : iA a ≤ iA b := gP a _ (Nat.lt_of_le_of_lt h (nV b))
theorem aCS (f x : Int) {a b : Nat} (h : a ≤ b) : gV f x a ≤ gV f x b := by
 have hl := len_mono h
 unfold gV
 split
 ·omega
 ·rw [if_neg (by omega)]; omega
theorem quo_mono (d : Int) {a b : Nat} (h : a ≤ b) : iM a d ≤ iM b d := by
 unfold iM; split
 ·exact Nat.mul_le_mul_right _ h
 ·exact Nat.div_le_div_right h
theorem aBB (d : Int) {a b : Nat} {more less : Bool} (h : a ≤ b) (hm : a = b → more = true → less = true) (hq : iM a d = iM b d) : gD a d more ≤ gD b d less := by
 by_cases c : d ≤ 0
 ·have e : a = b := by
   unfold iM at hq; rw [if_pos c, if_pos c] at hq
   exact Nat.eq_of_mul_eq_mul_right (Nat.two_pow_pos _) hq
  subst e
  rw [gH _ (.inl c), gH _ (.inl c)]
  have := hm rfl
  cases more <;> cases less <;> simp_all
 ·rw [mV a d _ c, mV b d _ c]
  unfold iM at hq; rw [if_neg c, if_neg c] at hq
  have h1 := Nat.div_add_mod a (2 ^ d.toNat)
  have h2 := Nat.div_add_mod b (2 ^ d.toNat)
  rw [hq] at h1
  apply aC3
  ·omega
  ·intro e; exact hm (by omega)
theorem key_mono (f mode : Int) (neg : Bool) (x : Int) {a b : Nat} {more less : Bool} (h : a ≤ b) (hm : a = b → more = true → less = true) : pO f mode neg x a more ≤ pO f mode neg x b less := by
 have hr := aCS f x h
 obtain ⟨qa, _⟩ := oQ f x a
 obtain ⟨_, qb⟩ := oQ f x b
 have hs : 2 ^ (fm f + 1) = 2 * 2 ^ fm f := by rw [Nat.pow_succ, Nat.mul_comm]
 unfold pO
 rcases Nat.lt_or_eq_of_le hr with c | c
 ·have q := qb (by omega)
  have h1 : (gV f x a + 1) * 2 ^ fm f ≤ gV f x b * 2 ^ fm f := Nat.mul_le_mul_right _ c
  rw [Nat.add_mul, Nat.one_mul] at h1
  generalize iM a (dU f x a - x) = u at *
  generalize iM b (dU f x b - x) = w at *
  split <;> split <;> omega
 ·have hu : dU f x a = dU f x b := by unfold dU; rw [c]
  rw [hu, c]
  have hq := quo_mono (dU f x b - x) h
  rcases Nat.lt_or_eq_of_le hq with d | d
  ·split <;> split <;> omega
  ·have hl := aBB (dU f x b - x) h hm d
   have hl3 := wW b (dU f x b - x) less
   rw [d]
   by_cases u : upN mode neg (iM b (dU f x b - x)) (gD a (dU f x b - x) more) = true
   ·rw [if_pos u, if_pos (up_mono mode neg _ _ _ hl hl3 u)]
    exact Nat.le_refl _
   ·rw [if_neg u]; split <;> omega
theorem aCd (f mode : Int) (neg : Bool) (x : Int) {a b : Nat} {more less : Bool} (h : a ≤ b) (hm : a = b → more = true → less = true) : gB f mode neg x a more ≤ gB f mode neg x b less := by
 have hk := key_mono f mode neg x h hm
 unfold gB iZ
 generalize pO f mode neg x a more = K at *
 generalize pO f mode neg x b less = K' at *
 generalize gN f * 2 ^ fm f = T at *
 cases jM mode neg
 ·by_cases c : T ≤ K <;> by_cases c' : T ≤ K' <;> simp [c, c'] <;> omega
 ·by_cases c : T ≤ K <;> by_cases c' : T ≤ K' <;> simp [c, c'] <;> omega
theorem nL (f : Int) (v : Nat) (hv : v < 4294967296) : Ev (fun k => bM.f k f (v : Int)) (decide (cO f v = 0)) := by
 refine Ev.congr (fun k => by unfold bM.f; rfl) (Ev.bind (oZ f v hv) (Ev.congr (fun k => ?_) (Ev.now _)))
 rw [show (0 : Int) = ((0 : Nat) : Int) from rfl, oI]
theorem iR (f : Int) (v : Nat) (hv : v < 4294967296) : Ev (fun k => aW.f k f (v : Int)) (decide (cO f v = 3)) := by
 refine Ev.congr (fun k => by unfold aW.f; rfl) (Ev.bind (oZ f v hv) (Ev.congr (fun k => ?_) (Ev.now _)))
 rw [show (3 : Int) = ((3 : Nat) : Int) from rfl, oI]
theorem zT (f : Int) : fB.f f = some (maskN f : Int) := by
 unfold fB.f maskN
 have h := eP f
 rw [jD, Option.bind_some]
 dsimp only
 rw [show (fe f : Int) + (fm f : Int) = ((fe f + fm f : Nat) : Int) by omega, cZ ((fe f + fm f : Nat) : Int) (by omega) (by omega), show ((fe f + fm f : Nat) : Int) + 1 = ((fe f + fm f + 1 : Nat) : Int) by omega, wu _ (by omega), if_pos (Int.natCast_nonneg _)]
 have e := uF 1 (fe f + fm f + 1)
 rw [Nat.one_mul] at e
 rw [show (1 : Int) = ((1 : Nat) : Int) from rfl, e]
 have h32 := nK (show fe f + fm f + 1 ≤ 32 by omega)
 have h0 := Nat.two_pow_pos (fe f + fm f + 1)
 generalize 2 ^ (fe f + fm f + 1) = P at *
 congr 1; omega
theorem lM (f : Int) (L : List Int) (i v : Nat) (b c : Bool) (r : Int × Bool × Bool × Bool × Bool × Bool × Bool) (hi : i < L.length) (hn : L.length ≤ 100) (hv : v < 4294967296) (hr : rd L (i : Int) = (v : Int))
  (h : Ev (fun k => bH.l0 k f (b || fC f v) L (L.length : Int) ((i + 1 : Nat) : Int) (c || fV f v) false false false false) r) : Ev (fun k => bH.l0 k f b L (L.length : Int) (i : Int) c false false false false) r := by
 have hw : wrap64 ((i : Int) + 1) = ((i + 1 : Nat) : Int) := by rw [cZ _ (by omega) (by omega)]; omega
 refine Ev.step (fun k => by rw [bH.l0, if_pos (by omega), if_pos (Int.natCast_nonneg _), if_pos (by omega), hr, hw]) (Ev.bind (oZ f v hv) (Ev.congr (fun k => ?_) h))
 have e5 : (((cO f v : Nat) : Int) == 5) = fV f v := by rw [show (5 : Int) = ((5 : Nat) : Int) from rfl, oI]; rfl
 have e4 : decide (((cO f v : Nat) : Int) ≥ 4) = fC f v := by unfold fC; apply decide_eq_decide.mpr; omega
 rw [e5, e4]
 cases b <;> cases c <;> simp
theorem uP (f : Int) (L : List Int) (b c : Bool) : Ev (fun k => bH.l0 k f b L (L.length : Int) (L.length : Int) c false false false false) ((pU f : Int), c, false, false, false, false, b) :=
 Ev.step (fun k => by rw [bH.l0, if_neg (by omega), nan_f]; rfl) (Ev.now _)
theorem yO (f : Int) (v : Nat) (hv : v < 4294967296) : Ev (fun k => bH.f k f [(v : Int)]) ((pU f : Int), fV f v, false, false, false, false, fC f v) := by
 refine Ev.congr (fun k => by unfold bH.f; rfl) (lM f _ 0 v false false _ (by simp) (by simp) hv rfl ?_)
 rw [Bool.false_or, Bool.false_or]
 exact uP f [(v : Int)] _ _
theorem uD (f : Int) (a b : Nat) (ha : a < 4294967296) (hb : b < 4294967296) : Ev (fun k => bH.f k f [(a : Int), (b : Int)]) ((pU f : Int), fV f a || fV f b, false, false, false, false, fC f a || fC f b) := by
 refine Ev.congr (fun k => by unfold bH.f; rfl) (lM f _ 0 a false false _ (by simp) (by simp) ha rfl (lM f _ 1 b _ _ _ (by simp) (by simp) hb rfl ?_))
 rw [Bool.false_or, Bool.false_or]
 exact uP f [(a : Int), (b : Int)] _ _
theorem kN (f : Int) (v : Nat) (h : cO f v = 0) : iH f v = eQ f (dO f v) ∧ bT f v = 0 := by
 have hz : mE f v = 0 ∧ jY f v = 0 := by
  unfold cO at h
  by_cases c : mE f v = 0
  ·rw [if_pos c] at h
   by_cases d : jY f v = 0
   ·exact ⟨c, d⟩
   ·rw [if_neg d] at h; omega
  ·rw [if_neg c] at h
   split at h
   ·omega
   ·split at h
    ·omega
    ·split at h <;> omega
 have hp := tT f v
 rw [rP, sU, rM, hz.1, hz.2] at hp
 refine ⟨by omega, ?_⟩
 unfold bT; rw [if_pos hz.1, hz.2]
theorem wO (f : Int) (v : Nat) (h : cO f v = 3) : iH f v = oW f (dO f v) := by
 have hz : mE f v = gN f ∧ jY f v = 0 := by
  have he := aAt f v
  unfold cO at h
  by_cases c : mE f v = 0
  ·rw [if_pos c] at h
   split at h <;> omega
  ·rw [if_neg c] at h
   by_cases d : mE f v < gN f
   ·rw [if_pos d] at h; omega
   ·rw [if_neg d] at h
    by_cases z : jY f v = 0
    ·exact ⟨by omega, z⟩
    ·rw [if_neg z] at h; split at h <;> omega
 have hp := tT f v
 rw [rP, sU, rM, hz.1, hz.2] at hp
 unfold oW; omega
theorem key_none (f mode : Int) (neg : Bool) (x : Int) : pO f mode neg x 0 false = 0 := by
 unfold pO
 have hr : gV f x 0 = 0 := by unfold gV; rw [if_pos rfl]
 have hq : iM 0 (dU f x 0 - x) = 0 := by unfold iM; split <;> simp
 have hl : gD 0 (dU f x 0 - x) false = 0 := gH _ (.inr (by simp))
 unfold upN
 rw [hr, hq, hl]; simp
theorem uV (f mode : Int) (neg : Bool) (x : Int) : gB f mode neg x 0 false = eQ f neg ∧ lZ f mode neg x 0 false = (false, false, false) := by
 have ht := gU f
 have hi : 0 < gN f * 2 ^ fm f := Nat.mul_pos (by omega) (Nat.two_pow_pos _)
 have ho : iZ f 0 = false := by unfold iZ; rw [decide_eq_false_iff_not]; omega
 have hl : gD 0 (dU f x 0 - x) false = 0 := gH _ (.inr (by simp))
 have hin : kY f x 0 false = false := by unfold kY; rw [hl]; rfl
 unfold gB lZ mD
 rw [key_none, ho, hin]; simp
theorem sZ (f : Int) (v : Nat) : bT f v < 18446744073709551616 := by
 have h := eP f
 have h1 := kM f v
 have h2 := eZ (show fm f + 1 ≤ 31 by omega)
 omega
theorem fD (f : Int) (v : Nat) : -200 ≤ bN f v ∧ bN f v ≤ 300 := by
 have := iJ f; have := gU f; have := eP f; have := aAt f v
 unfold bN; omega
theorem iQ (f : Int) (v : Nat) (h : cO f v < 3) : mE f v < gN f := (o7 f v).mp h
def jQ (s : Nat) : Nat := 62 - iA s
def iC (na : Bool) (Ea : Int) (A : Nat) (nb : Bool) (Eb : Int) (B : Nat) : Bool × Int × Nat × Bool :=
 if na = nb then (na, Ea, A + B / 2 ^ (Ea - Eb).toNat, decide (B % 2 ^ (Ea - Eb).toNat ≠ 0))
 else (na, Ea, A - B / 2 ^ (Ea - Eb).toNat - (if B % 2 ^ (Ea - Eb).toNat ≠ 0 then 1 else 0), decide (B % 2 ^ (Ea - Eb).toNat ≠ 0))
def kT (n1 : Bool) (e1 : Int) (s1 : Nat) (n2 : Bool) (e2 : Int) (s2 : Nat) : Bool × Int × Nat × Bool :=
 if s1 = 0 then (n2, e2, s2, false) else if s2 = 0 then (n1, e1, s1, false)
 else if e1 - (jQ s1 : Int) < e2 - (jQ s2 : Int) ∨ e1 - (jQ s1 : Int) = e2 - (jQ s2 : Int) ∧ s1 * 2 ^ jQ s1 < s2 * 2 ^ jQ s2 then iC n2 (e2 - (jQ s2 : Int)) (s2 * 2 ^ jQ s2) n1 (e1 - (jQ s1 : Int)) (s1 * 2 ^ jQ s1)
 else iC n1 (e1 - (jQ s1 : Int)) (s1 * 2 ^ jQ s1) n2 (e2 - (jQ s2 : Int)) (s2 * 2 ^ jQ s2)
theorem kG (s : Nat) (h : s ≠ 0) (h' : s < 4611686018427387904) : jQ s ≤ 61 ∧ iA s + jQ s = 62 ∧ 2305843009213693952 ≤ s * 2 ^ jQ s ∧ s * 2 ^ jQ s < 4611686018427387904 := by
 have h1 := gP s 62 h'
 have h2 := nG s h
 have e : iA s + jQ s = 62 := by unfold jQ; omega
 have hp := Nat.two_pow_pos (jQ s)
 have l1 := Nat.mul_le_mul_right (2 ^ jQ s) (uR s h)
 have l2 := Nat.mul_lt_mul_of_pos_right (nV s) hp
 rw [← Nat.pow_add, show iA s - 1 + jQ s = 61 by omega] at l1
 rw [← Nat.pow_add, e] at l2
 exact ⟨by omega, e, l1, l2⟩
def lY (f mode : Int) (a b : Bool) : Nat := if a = b then eQ f a else eQ f (decide (mode = 3))
def fP (f mode : Int) (a b : Bool) (r : Bool × Int × Nat × Bool) : Nat := if r.2.2 = (0, false) then lY f mode a b else gB f mode r.1 r.2.1 r.2.2.1 r.2.2.2
def gK (f mode : Int) (r : Bool × Int × Nat × Bool) : Bool × Bool × Bool := if r.2.2 = (0, false) then (false, false, false) else lZ f mode r.1 r.2.1 r.2.2.1 r.2.2.2
def tV (f : Int) (a b : Nat) : Bool × Int × Nat × Bool := kT (dO f a) (bN f a) (bT f a) (dO f b) (bN f b) (bT f b)
def pV (f mode : Int) (a b : Nat) : Nat :=
 if 4 ≤ cO f a ∨ 4 ≤ cO f b then pU f else if cO f a = 3 ∧ cO f b = 3 ∧ dO f a ≠ dO f b then pU f else if cO f a = 3 then oW f (dO f a) else if cO f b = 3 then oW f (dO f b)
 else fP f mode (dO f a) (dO f b) (tV f a b)
def sumX (f mode : Int) (a b : Nat) : Bool × Bool × Bool × Bool × Bool :=
 if 4 ≤ cO f a ∨ 4 ≤ cO f b then (fV f a || fV f b, false, false, false, false) else if cO f a = 3 ∧ cO f b = 3 ∧ dO f a ≠ dO f b then (true, false, false, false, false) else if cO f a = 3 ∨ cO f b = 3 then (false, false, false, false, false)
 else (false, false, gK f mode (tV f a b))
end Round
namespace P
attribute [local go_sem] max2_int min2_int max_two min_two max_three min_three max_four min_four
def eX.f (k : Nat) (a0_0 : Bool) (a0_1 a0_2 : Int) (a0_3 : Bool) : Option (Bool × Int × Int × Bool) := (bits_Len.f k a0_2).bind fun t277 => ((aR.f k a0_2 (wrap64 (-(wrap64 (62 - t277))))).bind fun bt278 => (some (a0_0, wrap64 (a0_1 - (wrap64 (62 - t277))), bt278.1, a0_3)))
mutual
def aU.j0 : Nat → Bool → Bool → Int → Int → Bool → Bool → Int → Int → Bool → Option (Bool × Int × Int × Bool)
 |0, _, _, _, _, _, _, _, _, _ => none
 |k + 1, x39, x281000, x281001, x281002, x281003, x282000, x282001, x282002, x282003 => if x39 = true then (aU.j1 k x282000 x282001 x282002 x282003 x281000 x281001 x281002 x281003) else (aU.j1 k x281000 x281001 x281002 x281003 x282000 x282001 x282002 x282003)
def aU.j1 : Nat → Bool → Int → Int → Bool → Bool → Int → Int → Bool → Option (Bool × Int × Int × Bool)
 |0, _, _, _, _, _, _, _, _ => none
 |k + 1, x281000, x281001, x281002, x281003, x282000, x282001, x282002, x282003 => (aR.f k x282002 (wrap64 (x281001 - x282001))).bind fun bt291 => (if (x281000 == x282000) = true then (some (x281000, x281001, IntKind.u64.wrap (x281002 + bt291.1), bt291.2)) else (if bt291.2 = true then (aU.j2 k x281000 x281001 (IntKind.u64.wrap ((IntKind.u64.wrap (x281002 - bt291.1)) - 1)) bt291.2) else (aU.j2 k x281000 x281001 (IntKind.u64.wrap (x281002 - bt291.1)) bt291.2)))
def aU.j2 : Nat → Bool → Int → Int → Bool → Option (Bool × Int × Int × Bool)
 |0, _, _, _, _ => none
 |k + 1, x281000, x281001, x281002, x281003 => some (x281000, x281001, x281002, x281003)
end
def aU.f (k : Nat) (a0_0 : Bool) (a0_1 a0_2 : Int) (a0_3 a1_0 : Bool) (a1_1 a1_2 : Int) (a1_3 : Bool) : Option (Bool × Int × Int × Bool) := if a0_2 = 0 then (some (a1_0, a1_1, a1_2, a1_3)) else (if a1_2 = 0 then (some (a0_0, a0_1, a0_2, a0_3)) else ((eX.f k a0_0 a0_1 a0_2 a0_3).bind fun bt283 => ((eX.f k a1_0 a1_1 a1_2 a1_3).bind fun bt287 => (if bt283.2.1 < bt287.2.1 then (aU.j0 k true bt283.1 bt283.2.1 bt283.2.2.1 bt283.2.2.2 bt287.1 bt287.2.1 bt287.2.2.1 bt287.2.2.2) else (if bt283.2.1 = bt287.2.1 then (aU.j0 k (decide (bt283.2.2.1 < bt287.2.2.1)) bt283.1 bt283.2.1 bt283.2.2.1 bt283.2.2.2 bt287.1 bt287.2.1 bt287.2.2.1 bt287.2.2.2) else (aU.j0 k false bt283.1 bt283.2.1 bt283.2.2.1 bt283.2.2.2 bt287.1 bt287.2.1 bt287.2.2.1 bt287.2.2.2))))))
end P
end
end Go.Proofs.YtolpdiifmacdbaaGreat
