import Derived.Test.YtolpdiifmacdbaaGreatQcoZ
import Derived.Test.YtolpdiifmacdbaaGreatQcoM5
import Derived.Test.YtolpdiifmacdbaaGreatQcoM11
import Derived.Test.YtolpdiifmacdbaaGreatQcoM3
import Derived.Test.YtolpdiifmacdbaaGreatQcoM12
import Derived.Test.YtolpdiifmacdbaaGreatQcoParF
-- Printed by a program of this session's out of Lean's print of the translation; Lean checks it.
set_option linter.unusedVariables false
set_option linter.unusedSimpArgs false
set_option maxRecDepth 100000
namespace Go.Proofs.YtolpdiifmacdbaaGreat.P
open Go.RowKit Go.Proofs.YtolpdiifmacdbaaGreatW.PrintWords Go.Proofs.YtolpdiifmacdbaaGreatW.PrintLast Go.Proofs.YtolpdiifmacdbaaGreatW.PrintMore
attribute [local go_sem] max2_int min2_int max_two min_two max_three min_three max_four min_four

-- NEED 2
/-! ### fP: function 11 -/
def fP.f (k : Nat) (a0 : Int) : Option (Int) := (aQ.f k 2 0 a0).bind fun bt722 => (some bt722.1)
set_option maxHeartbeats 8000000 in
theorem fP.calls (k : Nat) (a0 r : Int) (w : World) (h : fP.f k a0 = some r) :
  Calls Tryz.prog 11 #[.int .u32 a0] w fun e w' => e = .returned (.int .u32 r) ∧ Below w.heap.size w w' := by
 have hu62 := Tryz.underlying62
 have HB := Aside0.mk (Below.refl w.heap.size w)
 have H : ((aQ.f k 2 0 a0).bind fun bt722 => (some bt722.1)) = some r := h
 clear h
 replace H := bq_ H
 obtain ⟨⟨t722, t723, t724, t725, t726, t727⟩, A20, H⟩ := H
 replace H : (some t722) = some r := H
 have A2 := Aside0.mk A20
 clear A20
 obtain rfl := Option.some.inj H
 go_enter Tryz.func11, Tryz.ntmps11
 go_wp2_with (first | ((with_reducible refine gate_callee (f := 36) rfl ?_); refine goesL_ (some 7) rfl rfl Tryz.func36 (by kernel_rfl) rfl #[.int .i64 2, .int .i64 0, .int .u32 a0] rfl gl ?_; (with_reducible refine (aQ.calls k 2 0 a0 t722 t723 t724 t725 t726 t727 _ A2.out).mono ?_); rintro e w3 ⟨rfl, hb⟩; refine ⟨_, rfl, ?_⟩; have n0_ := Aside0.mk (below_step (bl0 HB.out) hb); clear HB; have HB := n0_; clear n0_) | ((with_reducible refine gate_dst (N := 4) rfl ?_); refine box_event ?hg (N := 4) ?hd (cs := F5) (t := 62) ?hr ?_; (case hd => rfl); (case hg => rfl); (case hr => first | (go_simp; done) | (go_simp; rfl)); intro gb728 hg w4 hbox hb; have n0_ := Aside0.mk (below_step (bl0 HB.out) hb); have n1_ := Aside0.mk (hbox); have n2_ := Aside0.mk ((by rw [hg]; exact (below_size (bl0 HB.out)) : w.heap.size ≤ gb728)); have n3_ := n2_; clear HB; have HB := n0_; have BK728 := n1_; have GW728 := n2_; have GE728 := n3_; clear n0_ n1_ n2_ n3_; clear hb hbox hg; obtain ⟨hcz5_0, hcz5_1, hcz5_2, hcz5_3, hcz5_4⟩ := bc5 BK728.out; obtain ⟨hfz5_0, hfz5_1, hfz5_2, hfz5_3, hfz5_4⟩ := bf5 BK728.out))
 go_ret
 exact ⟨by first | rfl | (simp [dE, dD] <;> rfl) | (simp [*, dE, dD] <;> rfl), bl1 HB.out GE728.out⟩

end Go.Proofs.YtolpdiifmacdbaaGreat.P

/- ClipOrder's whole walk, by the closed reckoner. -/
namespace Go.Proofs.YtolpdiifmacdbaaGreat.XwCo
open Go.RowKit Go.Proofs.YtolpdiifmacdbaaGreat.P Go.Proofs.YtolpdiifmacdbaaGreat.Xe Go.Proofs.YtolpdiifmacdbaaGreat.Num Go.Proofs.YtolpdiifmacdbaaGreat.BitsF Go.Proofs.YtolpdiifmacdbaaGreat.Fmt Go.Proofs.YtolpdiifmacdbaaGreat.Round Go.Proofs.YtolpdiifmacdbaaGreatW.PrintWords Go.Proofs.YtolpdiifmacdbaaGreatW.PrintLast Go.Proofs.YtolpdiifmacdbaaGreatW.PrintMore
theorem fsqrt_ev (a : Nat) (ha : a < 4294967296) : Ev (fun k => jU.f k (a : Int)) ((pJ 2 0 a : Nat) : Int) :=
  Ev.congr (fun k => by unfold jU.f; rfl) (Ev.bind (sqrt_ev 2 0 a ha) (Ev.now _))
theorem zU (a : Nat) (ha : a < 4294967296) : Ev (fun k => fP.f k (a : Int)) ((pJ 2 0 a : Nat) : Int) :=
  Ev.congr (fun k => by unfold fP.f; rfl) (Ev.bind (wH 2 0 a ha) (Ev.now _))
theorem aAf (a : Nat) : pJ 2 0 a < 4294967296 := by
  unfold pJ
  split
  · exact oC 2
  · split
    · exact xJ 2 _
    · split
      · exact oC 2
      · split
        · exact (inf_all 2 false).2.2
        · unfold aBy; exact tO ..
def n32 (x : Int) : Nat := (IntKind.u32.wrap x).toNat
theorem lG {x : Int} (h : IntKind.u32.has x) : ((n32 x : Nat) : Int) = x := by
  have := jC h
  unfold n32
  rw [this]
  exact Int.toNat_of_nonneg h.1
theorem pK (x : Int) : n32 x < 4294967296 := by
  have h : IntKind.u32.has (IntKind.u32.wrap x) := kX .u32 x
  have h1 : (0 : Int) ≤ IntKind.u32.wrap x := h.1
  have h2 : IntKind.u32.wrap x ≤ 4294967295 := h.2
  unfold n32
  omega
theorem oM {x : Nat} (h : x < 4294967296) : IntKind.u32.has (x : Int) := by
  show (0 : Int) ≤ x ∧ (x : Int) ≤ 4294967295
  omega
noncomputable def F (i : Nat) (u : U) : U := match i, u with
  | 0, .p a (.p b c) => .n ((rP 2 0 (n32 a.int) (n32 b.int) (n32 c.int) : Nat) : Int)
  | 1, .p a b => .n ((mulN 2 0 (n32 a.int) (n32 b.int) : Nat) : Int)
  | 3, .p a b => .n ((divN 2 0 (n32 a.int) (n32 b.int) : Nat) : Int)
  | 5, a => .n ((pJ 2 0 (n32 a.int) : Nat) : Int)
  | 20, .p l (.p m (.p i j)) => .n (ParF.G l.lst (!(m.int == 0)) i.int.toNat j.int.toNat)
  | _, _ => .n 0
theorem F_range (i : Nat) (u : U) : 0 ≤ (F i u).int ∧ (F i u).int ≤ 4294967295 := by
  have ok : ∀ n : Nat, n < 4294967296 → (0 : Int) ≤ (n : Int) ∧ (n : Int) ≤ 4294967295 := fun n h => by omega
  unfold F
  split
  · exact ok _ (aBB ..)
  · exact ok _ (mul_32 ..)
  · exact ok _ (div_32 ..)
  · exact ok _ (aAf _)
  · exact ParF.tv_u _ _
  · exact ok 0 (by decide)
def frc (n : Nat) : Option Tm := match n with
  | 0 => some (.l (.ofNat 0))
  | m + 1 => some (.l (.ofNat (Nat.succ m)))
theorem frc_v [Rho] {n : Nat} {t : Tm} (h : frc n = some t) : t.d = (n : Int) := by
  cases n with
  | zero => cases h; rfl
  | succ n => cases h; rfl
def cl (t : Tm) : Option Tm := match t with
  | .f 0 (.c (.l a) (.c (.l b) (.l c))) => frc (rP 2 0 (n32 a) (n32 b) (n32 c))
  | .f 1 (.c (.l a) (.l b)) => frc (mulN 2 0 (n32 a) (n32 b))
  | .f 3 (.c (.l a) (.l b)) => frc (divN 2 0 (n32 a) (n32 b))
  | .f 5 (.l a) => frc (pJ 2 0 (n32 a))
  | _ => none
theorem cl_v [r : Rho] (hr : ∀ i u, r.f i u = F i u) {t t' : Tm} (h : cl t = some t') : t'.d = t.d := by
  unfold cl at h
  split at h
  · next a b c => rw [frc_v h]; show _ = (r.f 0 _).int; rw [hr]; rfl
  · next a b => rw [frc_v h]; show _ = (r.f 1 _).int; rw [hr]; rfl
  · next a b => rw [frc_v h]; show _ = (r.f 3 _).int; rw [hr]; rfl
  · next a => rw [frc_v h]; show _ = (r.f 5 _).int; rw [hr]; rfl
  · cases h
def simpU (_ : Tm) : Option Tm := none
def decU (_ : Facts) (_ : BE) : Option Bool := none
def simpA (t : Tm) : Option Tm := match simpU t with
  | some u => some u
  | none => cl t
def hrv (i : Nat) : Int × Int := match i with
  | 0 => (0, 255)
  | 1 => (0, 0)
  | _ => (0, 0)
def hcz (t : Tm) : Bool := match t with
  | .o .rem .u8 (.v 0) (.l 4) => true
  | _ => false
def oD : vE := { s := simpA, d := decU, rv := hrv, rf := fun _ => (0, 4294967295), cz := hcz }
noncomputable def en : Ents := [(8, parE 30 20 27 31), (9, op3 oD 0 .u32 .u32 .u32 .u32), (11, op1 oD 5 .u32 .u32), (40, op1 oD 5 .u32 .u32), (41, op2 oD 3 .u32 .u32 .u32), (47, op2 oD 1 .u32 .u32 .u32), (95, op3 oD 0 .u32 .u32 .u32 .u32)]
noncomputable def fs : Fns := [(3, Tryz.f3), (10, Tryz.f10), (35, Tryz.f35)]
theorem fs_ok : fU Tryz.prog fs := fU.cons Tryz.func3 (by kernel_rfl) (fU.cons Tryz.func10 (by kernel_rfl) (fU.cons Tryz.func35 (by kernel_rfl) (fU.nil)))
noncomputable def fk : Fns := [(7, Tryz.f7), (10, Tryz.f10), (27, Tryz.f27), (32, Tryz.f32), (35, Tryz.f35), (67, Tryz.f67), (68, Tryz.f68), (69, Tryz.f69), (70, Tryz.f70), (80, Tryz.f80), (81, Tryz.f81), (82, Tryz.f82), (83, Tryz.f83), (99, Tryz.f99), (114, Tryz.f114), (115, Tryz.f115), (116, Tryz.f116), (117, Tryz.f117), (123, Tryz.f123), (124, Tryz.f124), (138, Tryz.f138), (146, Tryz.f146), (147, Tryz.f147), (149, Tryz.f149), (165, Tryz.f165), (174, Tryz.f174), (176, Tryz.f176), (177, Tryz.f177)]
theorem fk_ok : fU Tryz.prog fk := fU.cons Tryz.func7 (by kernel_rfl) (fU.cons Tryz.func10 (by kernel_rfl) (fU.cons Tryz.func27 (by kernel_rfl) (fU.cons Tryz.func32 (by kernel_rfl) (fU.cons Tryz.func35 (by kernel_rfl) (fU.cons Tryz.func67 (by kernel_rfl) (fU.cons Tryz.func68 (by kernel_rfl) (fU.cons Tryz.func69 (by kernel_rfl) (fU.cons Tryz.func70 (by kernel_rfl) (fU.cons Tryz.func80 (by kernel_rfl) (fU.cons Tryz.func81 (by kernel_rfl) (fU.cons Tryz.func82 (by kernel_rfl) (fU.cons Tryz.func83 (by kernel_rfl) (fU.cons Tryz.func99 (by kernel_rfl) (fU.cons Tryz.func114 (by kernel_rfl) (fU.cons Tryz.func115 (by kernel_rfl) (fU.cons Tryz.func116 (by kernel_rfl) (fU.cons Tryz.func117 (by kernel_rfl) (fU.cons Tryz.func123 (by kernel_rfl) (fU.cons Tryz.func124 (by kernel_rfl) (fU.cons Tryz.func138 (by kernel_rfl) (fU.cons Tryz.func146 (by kernel_rfl) (fU.cons Tryz.func147 (by kernel_rfl) (fU.cons Tryz.func149 (by kernel_rfl) (fU.cons Tryz.func165 (by kernel_rfl) (fU.cons Tryz.func174 (by kernel_rfl) (fU.cons Tryz.func176 (by kernel_rfl) (fU.cons Tryz.func177 (by kernel_rfl) (fU.nil))))))))))))))))))))))))))))
theorem aBx : evFn oD Tryz.prog en fk 1000 40 7 [] ⟨.e, .e, 1, [], 0⟩ (Kt oD) = true := by kernel_rfl
noncomputable def en1 : Ents := (7, yes0) :: en
def args : List PV := [.one (.i .u8 (.v 0)), .one (.u 0)]
noncomputable def st (pc : Facts) : Hp := ⟨.e, (.n .e (some (.ro .u32 (.v 1))) .e), 1, pc, 0⟩
theorem run0 : evFn oD Tryz.prog en1 fs 1000 40 3 args (st []) (Kt oD) = true := by kernel_rfl
theorem ent95 [r : Rho] (hr : ∀ i u, r.f i u = F i u) (hH : oD.Ok) : nR Tryz.prog 95 (op3 oD 0 .u32 .u32 .u32 .u32) := by
  refine op3_ok hH Tryz.func95 (by kernel_rfl) (by kernel_rfl) (F := fun x y z => ((rP 2 0 (n32 x) (n32 y) (n32 z) : Nat) : Int)) (fun _ _ _ => by rw [hr]; rfl) (fun _ _ _ _ _ _ => oM (aBB ..)) fun x y z hx hy hz w => ?_
  obtain ⟨k, hk⟩ := (ffma_ev (n32 x) (n32 y) (n32 z) (pK x) (pK y) (pK z)).rounds
  rw [lG hx, lG hy, lG hz] at hk
  exact (kP.calls k x y z _ w hk).mono fun e w' he => he
theorem ent9 [r : Rho] (hr : ∀ i u, r.f i u = F i u) (hH : oD.Ok) : nR Tryz.prog 9 (op3 oD 0 .u32 .u32 .u32 .u32) := by
  refine op3_ok hH Tryz.func9 (by kernel_rfl) (by kernel_rfl) (F := fun x y z => ((rP 2 0 (n32 x) (n32 y) (n32 z) : Nat) : Int)) (fun _ _ _ => by rw [hr]; rfl) (fun _ _ _ _ _ _ => oM (aBB ..)) fun x y z hx hy hz w => ?_
  obtain ⟨k, hk⟩ := (aBb (n32 x) (n32 y) (n32 z) (pK x) (pK y) (pK z)).rounds
  rw [lG hx, lG hy, lG hz] at hk
  exact (fV.calls k x y z _ w hk).mono fun e w' he => he
theorem ent40 [r : Rho] (hr : ∀ i u, r.f i u = F i u) (hH : oD.Ok) : nR Tryz.prog 40 (op1 oD 5 .u32 .u32) := by
  refine op1_ok hH Tryz.func40 (by kernel_rfl) (by kernel_rfl) (F := fun x => ((pJ 2 0 (n32 x) : Nat) : Int)) (fun _ => by rw [hr]; rfl) (fun _ _ => oM (aAf _)) fun x hx w => ?_
  obtain ⟨k, hk⟩ := (fsqrt_ev (n32 x) (pK x)).rounds
  rw [lG hx] at hk
  exact (jU.calls k x _ w hk).mono fun e w' he => he
theorem ent11 [r : Rho] (hr : ∀ i u, r.f i u = F i u) (hH : oD.Ok) : nR Tryz.prog 11 (op1 oD 5 .u32 .u32) := by
  refine op1_ok hH Tryz.func11 (by kernel_rfl) (by kernel_rfl) (F := fun x => ((pJ 2 0 (n32 x) : Nat) : Int)) (fun _ => by rw [hr]; rfl) (fun _ _ => oM (aAf _)) fun x hx w => ?_
  obtain ⟨k, hk⟩ := (zU (n32 x) (pK x)).rounds
  rw [lG hx] at hk
  exact (fP.calls k x _ w hk).mono fun e w' he => he
theorem ent41 [r : Rho] (hr : ∀ i u, r.f i u = F i u) (hH : oD.Ok) : nR Tryz.prog 41 (op2 oD 3 .u32 .u32 .u32) := by
  refine op2_ok hH Tryz.func41 (by kernel_rfl) (by kernel_rfl) (F := fun x y => ((divN 2 0 (n32 x) (n32 y) : Nat) : Int)) (fun _ _ => by rw [hr]; rfl) (fun _ _ _ _ => oM (div_32 ..)) fun x y hx hy w => ?_
  obtain ⟨k, hk⟩ := (fdiv_ev (n32 x) (n32 y) (pK x) (pK y)).rounds
  rw [lG hx, lG hy] at hk
  exact (kU.calls k x y _ w hk).mono fun e w' he => he
theorem ent47 [r : Rho] (hr : ∀ i u, r.f i u = F i u) (hH : oD.Ok) : nR Tryz.prog 47 (op2 oD 1 .u32 .u32 .u32) := by
  refine op2_ok hH Tryz.func47 (by kernel_rfl) (by kernel_rfl) (F := fun x y => ((mulN 2 0 (n32 x) (n32 y) : Nat) : Int)) (fun _ _ => by rw [hr]; rfl) (fun _ _ _ _ => oM (mul_32 ..)) fun x y hx hy w => ?_
  obtain ⟨k, hk⟩ := (fmul_ev (n32 x) (n32 y) (pK x) (pK y)).rounds
  rw [lG hx, lG hy] at hk
  exact (kM.calls k x y _ w hk).mono fun e w' he => he
theorem ent8 [r : Rho] (hr : ∀ i u, r.f i u = F i u) : nR Tryz.prog 8 (parE 30 20 27 31) :=
  parE_ok Tryz.func8 (by kernel_rfl) (by kernel_rfl) (by decide) (fun _ _ _ _ => by rw [hr]; rfl) (fun _ _ _ _ => ParF.tv_u _ _) ParF.aBG
theorem aBk [r : Rho] (hr : ∀ i u, r.f i u = F i u) (hH : oD.Ok) : iT Tryz.prog en := by
  unfold en
  exact iT.cons (ent8 hr) (iT.cons (ent9 hr hH) (iT.cons (ent11 hr hH) (iT.cons (ent40 hr hH) (iT.cons (ent41 hr hH) (iT.cons (ent47 hr hH) (iT.cons (ent95 hr hH) (iT.nil)))))))
noncomputable abbrev rho (a0 : Int) (len1 : Nat) (z1 : List Int) : Rho := ⟨fun i => match i with
  | 0 => .n a0
  | 1 => .s (z1.take len1)
  | _ => .n 0, F⟩
theorem simpU_v [r : Rho] (_ : ∀ i u, r.f i u = F i u) {t t' : Tm} (h : simpU t = some t') : t'.d = t.d := by cases h
theorem decU_v [r : Rho] (_ : ∀ i u, r.f i u = F i u) {pc : Facts} (_ : lJ pc) {b : BE} {v : Bool} (h : decU pc b = some v) : b.d = v := by cases h
theorem hook_ok (a0 : Int) (len1 : Nat) (z1 : List Int) (h0 : IntKind.u8.has a0) : letI := rho a0 len1 z1; oD.Ok := by
  letI := rho a0 len1 z1
  refine ⟨fun t t' h => ?_, fun pc b r hp h => ?_, fun i => ?_, fun i x => F_range i _⟩
  · change simpA t = some t' at h
    unfold simpA at h
    split at h
    · next e => cases h; exact simpU_v (fun _ _ => rfl) e
    · exact cl_v (fun _ _ => rfl) h
  · exact decU_v (fun _ _ => rfl) hp h
  · match i with
    | 0 => exact h0
    | 1 => exact ⟨Int.le_refl _, Int.le_refl _⟩
    | n + 2 => exact ⟨Int.le_refl _, Int.le_refl _⟩
theorem uR [r : Rho] (hr : ∀ i u, r.f i u = F i u) (hH : oD.Ok) (w : World) : Calls Tryz.prog 7 #[] w fun e w' => e = .returned (.bool true) ∧ Below w.heap.size w w' := by
  have hv : ∀ v ∈ ([] : List PV), v.ok (fun _ => False) := fun v hv => by cases hv
  have hc := law_v hH (aBk hr hH) fk_ok (start_pc w [] (fun p hp => by cases hp)) hv aBx
  have e : (([] : List PV).map (PV.v m00)).toArray = #[] := rfl
  rw [e] at hc
  exact hc
theorem walk (a0 : Int) (a1 : Option Addr) (len1 cap1 : Nat) (z1 : List Int) (W : World) (w0 : (Lit.int .u8 a0).wf = true) (w1 : vM .u32 W a1 len1 cap1 z1) :
    Calls Tryz.prog 3 #[.int .u8 a0, .slice a1 len1 cap1] W fun e W' => e = .returned (.bool true) ∧ Below W.heap.size W W' := by
  letI := rho a0 len1 z1
  have h0 := aAQ.1 w0
  have hH : oD.Ok := hook_ok a0 len1 z1 h0
  have hen : iT Tryz.prog en1 := iT.cons (yes0_ok Tryz.func7 (by kernel_rfl) (by kernel_rfl) fun w => uR (fun _ _ => rfl) hH w) (aBk (fun _ _ => rfl) hH)
  have hv : ∀ v ∈ args, v.ok (fun j => j = 0) := by
    intro v hv
    simp only [args, List.mem_cons, List.not_mem_nil, or_false] at hv
    rcases hv with rfl | rfl
    · exact h0
    · exact rfl
  have e : (args.map (PV.v (m1 a1 len1 cap1))).toArray = #[.int .u8 a0, .slice a1 len1 cap1] := by
    simp only [args, List.map]
    show #[Value.int .u8 a0, Value.slice a1 len1 cap1] = _
    rfl
  have fin : ∀ pc : Facts, lJ pc → evFn oD Tryz.prog en1 fs 1000 40 3 args (st pc) (Kt oD) = true → Calls Tryz.prog 3 #[.int .u8 a0, .slice a1 len1 cap1] W fun e W' => e = .returned (.bool true) ∧ Below W.heap.size W W' := by
    intro pc hpc hrun
    have hc := law_v hH hen fs_ok (aAl W pc hpc w1 rfl) hv hrun
    rw [e] at hc
    exact hc
  exact fin [] (fun p hp => by cases hp) run0
end Go.Proofs.YtolpdiifmacdbaaGreat.XwCo
