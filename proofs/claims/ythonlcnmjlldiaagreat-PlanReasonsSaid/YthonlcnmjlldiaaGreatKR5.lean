/- potbanklaw06.PlanReasons returns true for every input, and what comes in reads as it did. Conditions: none. Part 5 of the proof. -/
import Derived.Test.YthonlcnmjlldiaaGreatKR4
import Derived.IntWalk
set_option linter.unusedVariables false
set_option linter.unusedSimpArgs false
namespace Go.Proofs.YthonlcnmjlldiaaGreat.P
open Go.Shelf Go.RowKit Go.Proofs.YthonlcnmjlldiaaGreatW.PrintWords Go.Proofs.YthonlcnmjlldiaaGreatW.PrintLast Go.Proofs.YthonlcnmjlldiaaGreatW.PrintMore
attribute [local go_sem] Oper.semAt_some max2_mx min2_mn max_two min_two
def ownN (l : List Order) : Nat := 2 ^ l.length
def spareRest (k : List Seat) (l : List Order) (x : Order) (p : Nat) : Int := roomI k (l ++ [x]) ((p ||| ownN l : Nat) : Int) - needI l (p : Int)
def spareOf (k : List Seat) (l : List Order) (x : Order) (ps : List Nat) : Int := ps.foldl (fun n p => mn n (spareRest k l x p)) (roomI k (l ++ [x]) ((ownN l : Nat) : Int))
theorem spareOf_snoc (k : List Seat) (l : List Order) (x : Order) (ps : List Nat) (p : Nat) : spareOf k l x (ps ++ [p]) = mn (spareOf k l x ps) (spareRest k l x p) := by
 unfold spareOf
 rw [List.foldl_append]
 rfl
def spareN (k : List Seat) (l : List Order) (m : Nat) (x : Order) : Int := spareOf k l x ((partsF m).map (·.val))
def spareR (k : List Seat) (l : List Order) (s : List Int) (x : Order) : Int × Int :=
 if askSetErr k l s = 0 then (if orderOk x then (if fitsB k l (maskOf s) then (spareN k l (maskOf s) x, 0) else (0, 63)) else (0, 60)) else (0, askSetErr k l s)
def plan_Spare.f (l0 : List Seat) (l1 : List Order) (l2 : List Int) (a0 a1 a2 a3 a4 : Int) : Option (Int × Int) := some (spareR l0 l1 l2 ⟨a0, a1, ⟨a2, a3⟩, a4⟩)
theorem Fine.snoc {k : List Seat} {l : List Order} (h : Fine k l) (h8 : l.length ≤ 8) {x : Order} (hx : orderOk x = true) : Fine k (l ++ [x]) :=
 ⟨h.hk, fun o ho => by
  rcases List.mem_append.1 ho with ho | ho
  ·exact h.hl o ho
  ·rw [List.mem_singleton.1 ho]
   unfold orderOk inB at hx
   simp only [Bool.and_eq_true, decide_eq_true_eq] at hx
   omega, by simp; omega⟩
theorem spareOf_bd {k : List Seat} {l : List Order} (hF : Fine k l) (h8 : l.length ≤ 8) {x : Order} (hx : orderOk x = true) (ps : List Nat) : -9000 ≤ spareOf k l x ps ∧ spareOf k l x ps ≤ 24000 := by
 have hr := fun m => roomI_bd hF.hk (l ++ [x]) m
 have hn := fun m : Int => needTo_bd hF.hl m l.length (Nat.le_refl _)
 have aux : ∀ (ps : List Nat) (b : Int), -9000 ≤ b ∧ b ≤ 24000 → -9000 ≤ ps.foldl (fun n p => mn n (spareRest k l x p)) b ∧ ps.foldl (fun n p => mn n (spareRest k l x p)) b ≤ 24000 := by
  intro ps
  induction ps with
  | nil => intro b h; exact h
  | cons p ps ih =>
   intro b h
   refine ih _ ?_
   have h1 := hr ((p ||| ownN l : Nat) : Int)
   have h2 := hn (p : Int)
   have : -9000 ≤ spareRest k l x p ∧ spareRest k l x p ≤ 24000 := by unfold spareRest needI; omega
   show -9000 ≤ mn b (spareRest k l x p) ∧ mn b (spareRest k l x p) ≤ 24000
   unfold mn
   split <;> omega
 exact aux ps _ (by have := hr ((ownN l : Nat) : Int); omega)
theorem StepAll.nil {n : Nat} {P : Program} {os : List Oper} {Q : Exit → Act → World → Prop} {I : List Bool → Act → World → Prop} {k : Nat} : StepAll n P os Q I k [] := trivial
theorem StepAll.cons {n : Nat} {P : Program} {os : List Oper} {Q : Exit → Act → World → Prop} {I : List Bool → Act → World → Prop} {k : Nat} {o : Oper} {r : List Oper} (h : ∀ ls a w, ls[k]? = some false → Ahead ls o → I ls a w → Region.wanted o (yielded os.toArray a.tmps) = true ∧ Oper.wpIn Fence.wide n P o a w (I (ls.set k true)) Q) (hs : StepAll n P os Q I (k + 1) r) : StepAll n P os Q I k (o :: r) := ⟨h, hs⟩
structure R9 (base : Nat) (W0 : World) (A0 : Option Addr) (c0 : Nat) (l0 : List Seat) (A1 : Option Addr) (c1 : Nat) (l1 lx : List Order) (x : Order) (W : World) (b0 b1 b2 b3 b4 b5 b6 b7 b8 b9 b10 : Bool) (s14 s38 s39 s40 s41 s42 s43 s44 s45 s46 : Value) : Prop where
 hb : Below base W0 W
 f0 : b0 = true → s38 = .slice A0 l0.length c0
 f1 : b1 = true → s39 = .slice A1 l1.length c1
 f2 : b2 = true → b5 = false → RO W base s40 l1
 f3 : b3 = true → s41 = ordV x
 f4 : b4 = true → b5 = false → ∃ g, s42 = .slice (some ⟨g, 0, none⟩) 1 1 ∧ base ≤ g ∧ W.heap[g]? = some (.cells #[.int .i64 x.f0, .int .i64 x.f1, .int .i64 x.f2.f0, .int .i64 x.f2.f1, .int .i64 x.f3] 72 (0, 0))
 f5 : b5 = true → ∃ A c, s43 = .slice A lx.length c ∧ RO W base (.slice A lx.length c) lx
 f6 : b6 = true → ∃ mb, s44 = .map (some mb) ∧ base ≤ mb ∧ RMap W mb (fun _ => none)
 f7 : b7 = true → b5 = true ∧ ∃ A c mb, s45 = .agg #[.slice A0 l0.length c0, .slice A lx.length c, .map (some mb)] ∧ RO W base (.slice A lx.length c) lx ∧ base ≤ mb ∧ RMap W mb (fun _ => none)
 f8 : b8 = true → b5 = true ∧ ∃ A c mb ob, s46 = .pointer (some ⟨ob, 0, none⟩) ∧ base ≤ ob ∧ W.heap[ob]? = some (.cells #[.slice A0 l0.length c0, .slice A lx.length c, .map (some mb)] 129 (0, 0)) ∧ RO W base (.slice A lx.length c) lx ∧ base ≤ mb ∧ RMap W mb (fun _ => none)
 f9 : b9 = true → b10 = false → ∃ B, s14 = .pointer (some ⟨B, 0, none⟩) ∧ base ≤ B ∧ Boxed W B 80 (.pointer none)
 f10 : b10 = true → b9 = true ∧ b5 = true ∧ ∃ A c mb ob B, s14 = .pointer (some ⟨B, 0, none⟩) ∧ base ≤ B ∧ Boxed W B 80 (.pointer (some ⟨ob, 0, none⟩)) ∧ base ≤ ob ∧ W.heap[ob]? = some (.cells #[.slice A0 l0.length c0, .slice A lx.length c, .map (some mb)] 129 (0, 0)) ∧ RO W base (.slice A lx.length c) lx ∧ base ≤ mb ∧ RMap W mb (fun _ => none)
section
variable {base : Nat} {W0 : World} {A0 : Option Addr} {c0 : Nat} {l0 : List Seat} {A1 : Option Addr} {c1 : Nat} {l1 lx : List Order} {x : Order} {W W' : World} {b0 b1 b2 b3 b4 b5 b6 b7 b8 b9 b10 : Bool} {s14 s38 s39 s40 s41 s42 s43 s44 s45 s46 : Value}
theorem R9.below (h : R9 base W0 A0 c0 l0 A1 c1 l1 lx x W b0 b1 b2 b3 b4 b5 b6 b7 b8 b9 b10 s14 s38 s39 s40 s41 s42 s43 s44 s45 s46) (hs : base ≤ W.heap.size) (hW : Below W.heap.size W W') : R9 base W0 A0 c0 l0 A1 c1 l1 lx x W' b0 b1 b2 b3 b4 b5 b6 b7 b8 b9 b10 s14 s38 s39 s40 s41 s42 s43 s44 s45 s46 where
 hb := h.hb.trans (hW.mono hs)
 f0 := h.f0
 f1 := h.f1
 f2 a b := Kd.R_below (h.f2 a b) hW
 f3 := h.f3
 f4 a b := by obtain ⟨g, h1, h2, h3⟩ := h.f4 a b; exact ⟨g, h1, h2, (hW.block g (blk_lt h3)).trans h3⟩
 f5 a := by obtain ⟨A, c, h1, h2⟩ := h.f5 a; exact ⟨A, c, h1, Kd.R_below h2 hW⟩
 f6 a := by obtain ⟨mb, h1, h2, h3⟩ := h.f6 a; exact ⟨mb, h1, h2, h3.below hW⟩
 f7 a := by obtain ⟨h0, A, c, mb, h1, h2, h3, h4⟩ := h.f7 a; exact ⟨h0, A, c, mb, h1, Kd.R_below h2 hW, h3, h4.below hW⟩
 f8 a := by obtain ⟨h0, A, c, mb, ob, h1, h2, h3, h4, h5, h6⟩ := h.f8 a; exact ⟨h0, A, c, mb, ob, h1, h2, (hW.block ob (blk_lt h3)).trans h3, Kd.R_below h4 hW, h5, h6.below hW⟩
 f9 a b := by obtain ⟨B, h1, h2, h3⟩ := h.f9 a b; exact ⟨B, h1, h2, h3.kept (grown_of_below hW none) (by simp)⟩
 f10 a := by obtain ⟨h00, h0, A, c, mb, ob, B, h1, h2, h3, h4, h5, h6, h7, h8⟩ := h.f10 a; exact ⟨h00, h0, A, c, mb, ob, B, h1, h2, h3.kept (grown_of_below hW none) (by simp), h4, (hW.block ob (blk_lt h5)).trans h5, Kd.R_below h6 hW, h7, h8.below hW⟩
end
theorem shl_own : ∀ n : Fin 10, (IntKind.u64.wrap (2 ^ n.val) : Int) = ((2 ^ n.val : Nat) : Int) := by decide
theorem or_own_all : ∀ a : Fin 512, ∀ n : Fin 9, Go.bits .or .u64 (a.val : Int) ((2 ^ n.val : Nat) : Int) = ((a.val ||| 2 ^ n.val : Nat) : Int) := by decide +kernel
structure R14 (V : World) (mb nb : Nat) (k : List Seat) (lx : List Order) (v0 v1 v2 v3 v4 v5 v6 v7 v8 v9 v10 : Value) (W : World) (b0 b1 b2 b3 b4 b5 b6 b7 b8 b9 b10 b11 : Bool) (s0 s1 s2 s3 s4 s5 s6 s7 s8 s9 s10 : Value) : Prop where
 f0 : b0 = true → s0 = v0
 f1 : b1 = true → s1 = v1
 f2 : b2 = true → s2 = v2
 f3 : b3 = true → s3 = v3
 f4 : b4 = true → s4 = v4
 f5 : b5 = true → s5 = v5
 f6 : b6 = true → s6 = v6
 f7 : b7 = true → s7 = v7
 f8 : b8 = true → s8 = v8
 f9 : b9 = true → s9 = v9
 f10 : b10 = true → s10 = v10
 w0 : b11 = false → V.grownBy W (some mb) ∧ RM W mb k lx
 w2 : b11 = true → (b0 && b1 && b2 && b3 && b4 && b5 && b6 && b7 && b8 && b9 && b10) = true
 w1 : b11 = true → ∃ Wp, V.grownBy Wp (some mb) ∧ RM Wp mb k lx ∧ W = Wp.setCell ⟨nb, 0, none⟩ v10
theorem if_want {c : Prop} [Decidable c] {A B : Prop} (hc : c) (h : if c then A else B) : A := by rwa [if_pos hc] at h
theorem C_one {W : World} {g : Nat} {x : Order} (h : W.heap[g]? = some (.cells #[.int .i64 x.f0, .int .i64 x.f1, .int .i64 x.f2.f0, .int .i64 x.f2.f1, .int .i64 x.f3] 72 (0, 0))) : Kd.C k72 W (some ⟨g, 0, none⟩) 1 [x] := by
 refine ⟨rfl, by simp, fun _ => ⟨_, rfl, fun j p hp => ?_⟩⟩
 obtain ⟨hj, rfl⟩ := List.getElem?_eq_some_iff.1 hp
 have hj0 : j = 0 := by simp at hj; exact hj
 subst hj0
 refine ⟨_, rfl, k72_mk W x, fun i u hu => ?_⟩
 have e : (⟨g, 0, none⟩ : Addr).add (0 * k72.sz + i) = ⟨g, i, none⟩ := by
  unfold Addr.add
  simp
  exact fun h => h.symm
 rw [e, blk_cell h i, List.getElem?_toArray]
 exact hu
theorem own_map_ne {W : World} {base mb : Nat} {v : Value} {l : List Order} {g : Int → Option Int} (h : RO W base v l) (hm : RMap W mb g) : some mb ≠ v.ownBlock := by
 intro e
 obtain ⟨_, inner, ho, _⟩ := h
 obtain ⟨cells, hc⟩ := own_typed ho mb e.symm
 obtain ⟨es, cl, hm'⟩ := hm.isMap
 rw [hc] at hm'
 cases hm'
theorem own_box_ne {W : World} {base B : Nat} {v u : Value} {l : List Order} (h : RO W base v l) (hB : Boxed W B 80 u) : some B ≠ v.ownBlock := by
 intro e
 obtain ⟨_, inner, ho, _⟩ := h
 exact hB.not_row (by decide) ho e
theorem RO_box {W : World} {base B : Nat} {v u u' : Value} {l : List Order} (h : RO W base v l) (hB : Boxed W B 80 u) : RO (W.setCell ⟨B, 0, none⟩ u') base v l :=
 Kd.R_mono (Kd.R_far (Kd.R_types h hB (by intro q hq; simp [k72, Kd.iso, Kd.pair, Kd.int, Kd.scalar, k68] at hq; omega)) (fun k hk => hk.2) u') (fun _ _ => trivial)
set_option maxHeartbeats 4000000 in
set_option maxRecDepth 100000 in
theorem plan_Spare.calls (A0 : Option Addr) (c0 : Nat) (l0 : List Seat) (A1 : Option Addr) (c1 : Nat) (l1 : List Order) (A2 : Option Addr) (c2 : Nat) (l2 : List Int) (x0 x1 x2 x3 x4 : Int) (r1 : Int) (r2 : Int) (w : World) (hr0 : KS w A0 l0) (hc0 : l0.length ≤ c0) (hr1 : KO w A1 l1) (hc1 : l1.length ≤ c1) (hr2 : KI w A2 l2) (hc2 : l2.length ≤ c2) (h : plan_Spare.f l0 l1 l2 x0 x1 x2 x3 x4 = some (r1, r2)) :
  Calls Tryz.prog 38 #[.slice A0 l0.length c0, .slice A1 l1.length c1, .slice A2 l2.length c2, .agg #[.int .i64 x0, .int .i64 x1, .int .i64 x2, .int .i64 x3, .int .i64 x4]] w fun e w' => e = .returned (.tuple #[.int .i64 r1, .int .i64 r2]) ∧ Below w.heap.size w w' := by
 replace h := Option.some.inj h
 obtain ⟨x, hx⟩ : ∃ x : Order, x = ⟨x0, x1, ⟨x2, x3⟩, x4⟩ := ⟨_, rfl⟩
 rw [← hx] at h
 rw [show x0 = x.f0 by rw [hx], show x1 = x.f1 by rw [hx], show x2 = x.f2.f0 by rw [hx], show x3 = x.f2.f1 by rw [hx], show x4 = x.f3 by rw [hx]]
 clear hx x0 x1 x2 x3 x4
 unfold spareR at h
 have hbx := fun o1 o2 => (below_alloc (below_alloc (Below.refl w.heap.size w) o1) o2)
 by_cases he : askSetErr l0 l1 l2 = 0
 ·rw [if_pos he] at h
  obtain ⟨ha, hs⟩ := askSet_split he
  have hF := (fine_ask ha).1
  have h8 := (fine_ask ha).2
  have hm := maskOf_lt l2 (setFrom_mem hs)
  have hA := fun o1 o2 => askedSet_ok (Kd.C_below hr0 (hbx o1 o2)) hc0 (Kd.C_below hr1 (hbx o1 o2)) hc1 (Kd.C_below hr2 (hbx o1 o2)) hc2 ha hs
  have HA := Aside0.mk (hA (.cells #[.slice A1 l1.length c1] 23) (.cells #[.int .i64 x.f0, .int .i64 x.f1, .int .i64 x.f2.f0, .int .i64 x.f2.f1, .int .i64 x.f3] 72))
  have hm512 := two_lt hF.h9 hm
  have hmix : Tryz.prog.follows .mixedOrders = true := by kernel_rfl
  have HF := Aside0.mk hF
  have HR0 := Aside0.mk hr0
  have HR1 := Aside0.mk hr1
  have HM := Aside0.mk hm
  have HM5 := Aside0.mk hm512
  have HX := Aside0.mk (fun V => checkOrder_b x V)
  clear hA he ha hs hF hr0 hr1 hr2 hm hbx hm512
  generalize maskOf l2 = m at *
  cases hx : orderOk x
  ·rw [hx] at h HX
   simp only [Bool.false_eq_true, if_false, Prod.mk.injEq] at h HX
   obtain ⟨rfl, rfl⟩ := h
   clear hx HM HM5 HR0 HR1 HF
   go_enter Tryz.func38, Tryz.ntmps38
   go_wp2_with fail
   refine HA.out.mono ?_
   rintro e w2 ⟨ob, mb, rfl, hO, hb, hl1, hl2⟩
   have HB := Aside0.mk hb
   have hbx2 : w2.heap[w.heap.size + 1]? = some (.cells #[.int .i64 x.f0, .int .i64 x.f1, .int .i64 x.f2.f0, .int .i64 x.f2.f1, .int .i64 x.f3] 72 (0, 0)) := (hb.block (w.heap.size + 1) (by simp)).trans (by
    have h := heap_alloc_new (w.alloc (.cells #[.slice A1 l1.length c1] 23)) (.cells #[.int .i64 x.f0, .int .i64 x.f1, .int .i64 x.f2.f0, .int .i64 x.f2.f1, .int .i64 x.f3] 72)
    rwa [World.size_alloc] at h)
   have d0 := (blk_cell hbx2 0).trans rfl
   have d1 := (blk_cell hbx2 1).trans rfl
   have d2 := (blk_cell hbx2 2).trans rfl
   have d3 := (blk_cell hbx2 3).trans rfl
   have d4 := (blk_cell hbx2 4).trans rfl
   clear hO hb hbx2
   go_wp2_with fail
   refine (HX.out _).mono ?_
   rintro e w3 ⟨rfl, hb3⟩
   have HB3 := Aside0.mk hb3
   clear hb3
   go_wp2
   go_ret2
   exact ⟨rfl, below_refl_trans (below_refl_trans (below_alloc (below_alloc (Below.refl _ _) _) _) HB.out) HB3.out⟩
  ·cases hft : fitsB l0 l1 m
   ·rw [hx, hft] at h
    rw [hx] at HX
    simp only [Bool.false_eq_true, if_false, if_true, Prod.mk.injEq] at h HX
    obtain ⟨rfl, rfl⟩ := h
    have HFT := Aside0.mk (fun (V : World) ob mb (hV : Off V ob mb l0 l1) => fits_b hV HF.out HM.out)
    rw [hft] at HFT
    clear hx hft HM5 HR0 HR1
    go_enter Tryz.func38, Tryz.ntmps38
    go_wp2_with fail
    refine HA.out.mono ?_
    rintro e w2 ⟨ob, mb, rfl, hO, hb, hl1, hl2⟩
    have HO := Aside0.mk hO
    have HB := Aside0.mk hb
    have hw2 := hb.size
    rw [World.size_alloc, World.size_alloc] at hw2 hl1 hl2
    have hbx2 : w2.heap[w.heap.size + 1]? = some (.cells #[.int .i64 x.f0, .int .i64 x.f1, .int .i64 x.f2.f0, .int .i64 x.f2.f1, .int .i64 x.f3] 72 (0, 0)) := (hb.block (w.heap.size + 1) (by simp)).trans (by
     have h := heap_alloc_new (w.alloc (.cells #[.slice A1 l1.length c1] 23)) (.cells #[.int .i64 x.f0, .int .i64 x.f1, .int .i64 x.f2.f0, .int .i64 x.f2.f1, .int .i64 x.f3] 72)
     rwa [World.size_alloc] at h)
    have d0 := (blk_cell hbx2 0).trans rfl
    have d1 := (blk_cell hbx2 1).trans rfl
    have d2 := (blk_cell hbx2 2).trans rfl
    have d3 := (blk_cell hbx2 3).trans rfl
    have d4 := (blk_cell hbx2 4).trans rfl
    clear hO hb hbx2
    go_wp2_with fail
    refine (HX.out _).mono ?_
    rintro e w3 ⟨rfl, hb3⟩
    have HB3 := Aside0.mk hb3
    clear hb3
    go_wp2_with fail
    refine (HFT.out _ ob mb (HO.out.below HB3.out)).mono ?_
    rintro e w4 ⟨rfl, hO4, hg4⟩
    have HG4 := Aside0.mk hg4
    clear hO4 hg4
    go_wp2
    go_ret2
    exact ⟨rfl, (below_refl_trans (below_refl_trans (below_alloc (below_alloc (Below.refl _ _) _) _) HB.out) HB3.out).grown HG4.out (by have := HB3.out.size; omega) (fun j e => by cases e; omega)⟩
   ·rw [hx, hft] at h
    simp only [if_true, Prod.mk.injEq] at h
    obtain ⟨h1, rfl⟩ := h
    rw [hx] at HX
    simp only [if_true] at HX
    have HXO := Aside0.mk hx
    have H1 := Aside0.mk h1
    have HFT := Aside0.mk (fun (V : World) ob mb (hV : Off V ob mb l0 l1) => fits_b hV HF.out HM.out)
    rw [hft] at HFT
    have hmm := @run_makeMap Tryz.prog
    have hF9 := HF.out.h9
    clear hx hft h1
    refine (callsIn_wide (n := 7)).1 ?_
    refine callsIn_of_wp_marks Tryz.func38 rfl trivial ?_ rfl
    simp only [Tryz.ntmps38, List.size_toArray, List.length_cons, List.length_nil, Nat.reduceAdd, Nat.reduceSub, Array.replicate_succ, Array.replicate_zero, List.push_toArray, List.append_toArray, List.nil_append, List.cons_append]
    gi_wp2_with fail
    refine ⟨trivial, (callsIn_wide.2 HA.out).mono ?_⟩
    rintro e w2 ⟨ob, mb, rfl, hO, hb, hl1, hl2⟩
    have HO := Aside0.mk hO
    have HB := Aside0.mk hb
    have hbx1 := ((Boxed.new w 23 (.slice A1 l1.length c1)).alloc (.cells #[.int .i64 x.f0, .int .i64 x.f1, .int .i64 x.f2.f0, .int .i64 x.f2.f1, .int .i64 x.f3] 72)).kept (grown_of_below hb none) (by simp)
    have hbx2 : w2.heap[w.heap.size + 1]? = some (.cells #[.int .i64 x.f0, .int .i64 x.f1, .int .i64 x.f2.f0, .int .i64 x.f2.f1, .int .i64 x.f3] 72 (0, 0)) := (hb.block (w.heap.size + 1) (by simp)).trans (by
     have h := heap_alloc_new (w.alloc (.cells #[.slice A1 l1.length c1] 23)) (.cells #[.int .i64 x.f0, .int .i64 x.f1, .int .i64 x.f2.f0, .int .i64 x.f2.f1, .int .i64 x.f3] 72)
     rwa [World.size_alloc] at h)
    have hw2 := hb.size
    rw [World.size_alloc, World.size_alloc] at hw2 hl1 hl2
    have hbw2 : Below w.heap.size w w2 := below_refl_trans (below_alloc (below_alloc (Below.refl _ _) _) _) hb
    have d0 := (blk_cell hbx2 0).trans rfl
    have d1 := (blk_cell hbx2 1).trans rfl
    have d2 := (blk_cell hbx2 2).trans rfl
    have d3 := (blk_cell hbx2 3).trans rfl
    have d4 := (blk_cell hbx2 4).trans rfl
    have HBW2 := Aside0.mk hbw2
    have HBX1 := Aside0.mk hbx1
    have HBX2 := Aside0.mk hbx2
    clear hO hb hbw2 hbx1 hbx2
    gi_wp2_with fail
    refine ⟨trivial, (callsIn_wide.2 (HX.out _)).mono ?_⟩
    rintro e w3 ⟨rfl, hb3⟩
    have HB3 := Aside0.mk hb3
    clear hb3
    gi_wp2_with fail
    refine ⟨trivial, (callsIn_wide.2 (HFT.out _ ob mb (HO.out.below HB3.out))).mono ?_⟩
    rintro e w4 ⟨rfl, hO4, hg4⟩
    have HO4 := Aside0.mk hO4
    have HG4 := Aside0.mk hg4
    clear hO4 hg4
    gi_wp2
    obtain ⟨lx, hlx⟩ : ∃ lx, lx = l1 ++ [x] := ⟨_, rfl⟩
    have HLX := Aside0.mk hlx
    clear hlx
    refine wpIn_mono (Q := fun e a' Z => e = .normal ∧ ∃ s38 s39 s40 s41 s42 s43 s44 s45 s46 A c mb2 ob2 B, a' = { tmps := #[.slice A0 l0.length c0, .slice A1 l1.length c1, .slice A2 l2.length c2, .agg #[.int .i64 x.f0, .int .i64 x.f1, .int .i64 x.f2.f0, .int .i64 x.f2.f1, .int .i64 x.f3], undef, .pointer (some ⟨w.heap.size, 0, none⟩), undef, .pointer (some ⟨w.heap.size + 1, 0, none⟩), .int .i64 0, .int .i64 0, .pointer (some ⟨ob, 0, none⟩), .int .u64 (m : Int), .int .i64 0, .int .i64 0, .pointer (some ⟨B, 0, none⟩), undef, undef, undef, .tuple #[.pointer (some ⟨ob, 0, none⟩), .int .u64 (m : Int), .int .i64 0], .slice A0 l0.length c0, .slice A1 l1.length c1, .slice A2 l2.length c2, .tuple #[.pointer (some ⟨ob, 0, none⟩), .int .u64 (m : Int), .int .i64 0], .pointer (some ⟨ob, 0, none⟩), .int .u64 (m : Int), .int .i64 0, .int .i64 0, .bool false, undef, .agg #[.int .i64 x.f0, .int .i64 x.f1, .int .i64 x.f2.f0, .int .i64 x.f2.f1, .int .i64 x.f3], .int .i64 0, .int .i64 0, .bool false, undef, .pointer (some ⟨ob, 0, none⟩), .int .u64 (m : Int), .bool true, .bool false, s38, s39, s40, s41, s42, s43, s44, s45, s46, undef, undef, undef, undef, undef, undef, undef, undef, undef, undef, undef, undef, undef, undef, undef, undef, undef, undef, undef, undef, undef], defers := [] } ∧ Below w4.heap.size w4 Z ∧ w4.heap.size ≤ B ∧ Boxed Z B 80 (.pointer (some ⟨ob2, 0, none⟩)) ∧ w4.heap.size ≤ ob2 ∧ Z.heap[ob2]? = some (.cells #[.slice A0 l0.length c0, .slice A lx.length c, .map (some mb2)] 129 (0, 0)) ∧ RO Z w4.heap.size (.slice A lx.length c) lx ∧ w4.heap.size ≤ mb2 ∧ RMap Z mb2 (fun _ => none)) ?r9 ?rest
    case r9 =>
     obtain ⟨I, hI⟩ : ∃ I : List Bool → Act → World → Prop, ∀ ls a W, I ls a W ↔ ∃ b0 b1 b2 b3 b4 b5 b6 b7 b8 b9 b10 s14 s38 s39 s40 s41 s42 s43 s44 s45 s46, ls = [b0, b1, b2, b3, b4, b5, b6, b7, b8, b9, b10] ∧ a = { tmps := #[.slice A0 l0.length c0, .slice A1 l1.length c1, .slice A2 l2.length c2, .agg #[.int .i64 x.f0, .int .i64 x.f1, .int .i64 x.f2.f0, .int .i64 x.f2.f1, .int .i64 x.f3], undef, .pointer (some ⟨w.heap.size, 0, none⟩), undef, .pointer (some ⟨w.heap.size + 1, 0, none⟩), .int .i64 0, .int .i64 0, .pointer (some ⟨ob, 0, none⟩), .int .u64 (m : Int), .int .i64 0, .int .i64 0, s14, undef, undef, undef, .tuple #[.pointer (some ⟨ob, 0, none⟩), .int .u64 (m : Int), .int .i64 0], .slice A0 l0.length c0, .slice A1 l1.length c1, .slice A2 l2.length c2, .tuple #[.pointer (some ⟨ob, 0, none⟩), .int .u64 (m : Int), .int .i64 0], .pointer (some ⟨ob, 0, none⟩), .int .u64 (m : Int), .int .i64 0, .int .i64 0, .bool false, undef, .agg #[.int .i64 x.f0, .int .i64 x.f1, .int .i64 x.f2.f0, .int .i64 x.f2.f1, .int .i64 x.f3], .int .i64 0, .int .i64 0, .bool false, undef, .pointer (some ⟨ob, 0, none⟩), .int .u64 (m : Int), .bool true, .bool false, s38, s39, s40, s41, s42, s43, s44, s45, s46, undef, undef, undef, undef, undef, undef, undef, undef, undef, undef, undef, undef, undef, undef, undef, undef, undef, undef, undef, undef, undef], defers := [] } ∧ R9 w4.heap.size w4 A0 c0 l0 A1 c1 l1 lx x W b0 b1 b2 b3 b4 b5 b6 b7 b8 b9 b10 s14 s38 s39 s40 s41 s42 s43 s44 s45 s46 := ⟨_, fun _ _ _ => Iff.rfl⟩
     have HI := Aside0.mk hI
     clear hI
     have HB4 := Aside0.mk (show Below w.heap.size w w4 from (below_refl_trans HBW2.out HB3.out).grown HG4.out (by have := HB3.out.size; omega) (fun j hj => by cases hj; omega))
     have hs24 : w2.heap.size ≤ w4.heap.size := Nat.le_trans HB3.out.size HG4.out.size
     have hwm : ob ≠ mb ∧ w.heap.size ≠ mb ∧ w.heap.size + 1 ≠ mb := ⟨HO.out.lt.2.2, by omega, by omega⟩
     have HX1 := Aside0.mk ((HBX1.out.kept (grown_of_below HB3.out none) (by simp)).kept HG4.out (by simp; omega))
     have HX2 := Aside0.mk ((HG4.out.block _ (by have := HB3.out.size; omega) (by simp; omega)).trans ((HB3.out.block _ (by omega)).trans HBX2.out))
     clear d0 d1 d2 d3 d4
     refine reg_start0 hmix 11 [false, false, false, false, false, false, false, false, false, false, false] rfl rfl ?_
     refine reg_inv I (StepAll.cons ?o0 (StepAll.cons ?o1 (StepAll.cons ?o2 (StepAll.cons ?o3 (StepAll.cons ?o4 (StepAll.cons ?o5 (StepAll.cons ?o6 (StepAll.cons ?o7 (StepAll.cons ?o8 (StepAll.cons ?o9 (StepAll.cons ?o10 (StepAll.nil)))))))))))) ?fin 11 _ _ _ rfl (by simp) ((HI.out _ _ _).2 ⟨false, false, false, false, false, false, false, false, false, false, false, undef, undef, undef, undef, undef, undef, undef, undef, undef, undef, rfl, rfl, ⟨below_drew (Below.refl _ _), (fun h => by cases h), (fun h => by cases h), (fun h => by cases h), (fun h => by cases h), (fun h => by cases h), (fun h => by cases h), (fun h => by cases h), (fun h => by cases h), (fun h => by cases h), (fun h => by cases h), (fun h => by cases h)⟩⟩)
     case o0 =>
      intro ls a W hk hah hi
      obtain ⟨b0, b1, b2, b3, b4, b5, b6, b7, b8, b9, b10, s14, s38, s39, s40, s41, s42, s43, s44, s45, s46, rfl, rfl, hR⟩ := (HI.out _ _ _).1 hi
      obtain rfl : b0 = false := by simpa using hk
      clear hah
      clear hi hk
      have HR := Aside0.mk hR
      have hsW := hR.hb.size
      clear hR
      refine ⟨rfl, ?_⟩
      go_simp
      exact (HI.out _ _ _).2 ⟨true, b1, b2, b3, b4, b5, b6, b7, b8, b9, b10, _, _, _, _, _, _, _, _, _, _, rfl, rfl, ⟨HR.out.hb, (fun _ => rfl), (HR.out.f1), (HR.out.f2), (HR.out.f3), (HR.out.f4), (HR.out.f5), (HR.out.f6), (HR.out.f7), (HR.out.f8), (HR.out.f9), (HR.out.f10)⟩⟩
     case o1 =>
      intro ls a W hk hah hi
      obtain ⟨b0, b1, b2, b3, b4, b5, b6, b7, b8, b9, b10, s14, s38, s39, s40, s41, s42, s43, s44, s45, s46, rfl, rfl, hR⟩ := (HI.out _ _ _).1 hi
      obtain rfl : b1 = false := by simpa using hk
      clear hah
      clear hi hk
      have HR := Aside0.mk hR
      have hsW := hR.hb.size
      clear hR
      refine ⟨rfl, ?_⟩
      have e1 := (HX1.out.kept (grown_of_below HR.out.hb none) (by simp)).cell
      go_simp
      exact (HI.out _ _ _).2 ⟨b0, true, b2, b3, b4, b5, b6, b7, b8, b9, b10, _, _, _, _, _, _, _, _, _, _, rfl, rfl, ⟨HR.out.hb, (HR.out.f0), (fun _ => rfl), (HR.out.f2), (HR.out.f3), (HR.out.f4), (HR.out.f5), (HR.out.f6), (HR.out.f7), (HR.out.f8), (HR.out.f9), (HR.out.f10)⟩⟩
     case o2 =>
      intro ls a W hk hah hi
      obtain ⟨b0, b1, b2, b3, b4, b5, b6, b7, b8, b9, b10, s14, s38, s39, s40, s41, s42, s43, s44, s45, s46, rfl, rfl, hR⟩ := (HI.out _ _ _).1 hi
      obtain rfl : b2 = false := by simpa using hk
      simp [Ahead, Region.binds] at hah
      obtain rfl := hah
      clear hi hk
      have HR := Aside0.mk hR
      have hsW := hR.hb.size
      clear hR
      refine ⟨rfl, ?_⟩
      have e1 := HR.out.f1 rfl
      subst e1
      have hcl := clone_b (c := c1) (Kd.C_below HR1.out (HB4.out.trans (HR.out.hb.mono HB4.out.size))) hF9
      have HCL := Aside0.mk hcl
      clear hcl
      go_simp
      refine ⟨trivial, (callsIn_wide.2 HCL.out).mono ?_⟩
      rintro e W' ⟨v, rfl, hv, hb'⟩
      have h' := HR.out.below hsW hb'
      exact (HI.out _ _ _).2 ⟨b0, true, true, b3, b4, b5, b6, b7, b8, b9, b10, _, _, _, _, _, _, _, _, _, _, rfl, rfl, ⟨h'.hb, (h'.f0), (h'.f1), (fun _ _ => Kd.R_lower hv hsW), (h'.f3), (h'.f4), (h'.f5), (h'.f6), (h'.f7), (h'.f8), (h'.f9), (h'.f10)⟩⟩
     case o3 =>
      intro ls a W hk hah hi
      obtain ⟨b0, b1, b2, b3, b4, b5, b6, b7, b8, b9, b10, s14, s38, s39, s40, s41, s42, s43, s44, s45, s46, rfl, rfl, hR⟩ := (HI.out _ _ _).1 hi
      obtain rfl : b3 = false := by simpa using hk
      clear hah
      clear hi hk
      have HR := Aside0.mk hR
      have hsW := hR.hb.size
      clear hR
      refine ⟨rfl, ?_⟩
      have d0 := (blk_cell ((HR.out.hb.block _ (blk_lt HX2.out)).trans HX2.out) 0).trans rfl
      have d1 := (blk_cell ((HR.out.hb.block _ (blk_lt HX2.out)).trans HX2.out) 1).trans rfl
      have d2 := (blk_cell ((HR.out.hb.block _ (blk_lt HX2.out)).trans HX2.out) 2).trans rfl
      have d3 := (blk_cell ((HR.out.hb.block _ (blk_lt HX2.out)).trans HX2.out) 3).trans rfl
      have d4 := (blk_cell ((HR.out.hb.block _ (blk_lt HX2.out)).trans HX2.out) 4).trans rfl
      go_simp
      exact (HI.out _ _ _).2 ⟨b0, b1, b2, true, b4, b5, b6, b7, b8, b9, b10, _, _, _, _, _, _, _, _, _, _, rfl, rfl, ⟨HR.out.hb, (HR.out.f0), (HR.out.f1), (HR.out.f2), (fun _ => rfl), (HR.out.f4), (HR.out.f5), (HR.out.f6), (HR.out.f7), (HR.out.f8), (HR.out.f9), (HR.out.f10)⟩⟩
     case o4 =>
      intro ls a W hk hah hi
      obtain ⟨b0, b1, b2, b3, b4, b5, b6, b7, b8, b9, b10, s14, s38, s39, s40, s41, s42, s43, s44, s45, s46, rfl, rfl, hR⟩ := (HI.out _ _ _).1 hi
      obtain rfl : b4 = false := by simpa using hk
      simp [Ahead, Region.binds] at hah
      obtain rfl := hah
      clear hi hk
      have HR := Aside0.mk hR
      have hsW := hR.hb.size
      clear hR
      refine ⟨rfl, ?_⟩
      have e3 := HR.out.f3 rfl
      subst e3
      go_simp
      have h' := HR.out.below hsW (below_alloc (Below.refl W.heap.size W) (.cells #[.int .i64 x.f0, .int .i64 x.f1, .int .i64 x.f2.f0, .int .i64 x.f2.f1, .int .i64 x.f3] 72))
      exact (HI.out _ _ _).2 ⟨b0, b1, b2, true, true, b5, b6, b7, b8, b9, b10, _, _, _, _, _, _, _, _, _, _, rfl, rfl, ⟨h'.hb, (h'.f0), (h'.f1), (h'.f2), (h'.f3), (fun _ _ => ⟨_, rfl, hsW, heap_alloc_new _ _⟩), (h'.f5), (h'.f6), (h'.f7), (h'.f8), (h'.f9), (h'.f10)⟩⟩
     case o5 =>
      intro ls a W hk hah hi
      obtain ⟨b0, b1, b2, b3, b4, b5, b6, b7, b8, b9, b10, s14, s38, s39, s40, s41, s42, s43, s44, s45, s46, rfl, rfl, hR⟩ := (HI.out _ _ _).1 hi
      obtain rfl : b5 = false := by simpa using hk
      simp [Ahead, Region.binds] at hah
      obtain ⟨rfl, rfl, _⟩ := hah
      clear hi hk
      have HR := Aside0.mk hR
      have hsW := hR.hb.size
      clear hR
      refine ⟨rfl, ?_⟩
      obtain ⟨g, e4, hg1, hg2⟩ := HR.out.f4 rfl rfl
      subst e4
      have hro := HR.out.f2 rfl rfl
      refine op_wide (if_want (by rfl) (Kd.R_append_rows_step (ops := #[]) (Rr := k72.K W) k72 (w0 := w4) w4.heap.size (by rfl) (.tmp 40) (.tmp 42) 23 72 _ 40 rfl Tryz.underlying23 info72 rfl (by decide) (by omega) s40 l1 [x] _ _ _ (fun _ => True) (fun _ => False) rfl rfl hro ?aR (fun x cs h => kO_M x cs h) (fun _ h => h.elim) (fun _ _ => trivial) HR.out.hb hsW ?aL ?aK))
      case aR => exact C_one hg2
      case aL => omega
      intro v1 w1 ho1 hb1 hg1' hat1
      rw [← HLX.out] at ho1
      obtain ⟨A, c, rfl, hc, hC⟩ := Kd.R_reads ho1
      exact (HI.out _ _ _).2 ⟨b0, b1, true, b3, true, true, b6, b7, b8, b9, b10, _, _, _, _, _, _, _, _, _, _, rfl, rfl, ⟨hb1, HR.out.f0, HR.out.f1, fun _ h => (by cases h), HR.out.f3, fun _ h => (by cases h), fun _ => ⟨A, c, rfl, ho1⟩, fun h => (by obtain ⟨mb2, e1, e2, e3⟩ := HR.out.f6 h; exact ⟨mb2, e1, e2, e3.step (hg1'.block mb2 e3.lt (own_map_ne hro e3))⟩), fun h => (by cases (HR.out.f7 h).1), fun h => (by cases (HR.out.f8 h).1), fun h h2 => (by obtain ⟨B, e1, e2, e3⟩ := HR.out.f9 h h2; exact ⟨B, e1, e2, e3.kept hg1' (own_box_ne hro e3)⟩), fun h => (by cases (HR.out.f10 h).2.1)⟩⟩
     case o6 =>
      intro ls a W hk hah hi
      obtain ⟨b0, b1, b2, b3, b4, b5, b6, b7, b8, b9, b10, s14, s38, s39, s40, s41, s42, s43, s44, s45, s46, rfl, rfl, hR⟩ := (HI.out _ _ _).1 hi
      obtain rfl : b6 = false := by simpa using hk
      clear hah
      clear hi hk
      have HR := Aside0.mk hR
      have hsW := hR.hb.size
      clear hR
      refine ⟨rfl, ?_⟩
      go_simp
      have h' := HR.out.below hsW (below_alloc (Below.refl W.heap.size W) (.map #[] 0))
      exact (HI.out _ _ _).2 ⟨b0, b1, b2, b3, b4, b5, true, b7, b8, b9, b10, _, _, _, _, _, _, _, _, _, _, rfl, rfl, ⟨h'.hb, (h'.f0), (h'.f1), (h'.f2), (h'.f3), (h'.f4), (h'.f5), (fun _ => ⟨_, rfl, hsW, (IMap.made W).mono (by omega)⟩), (h'.f7), (h'.f8), (h'.f9), (h'.f10)⟩⟩
     case o7 =>
      intro ls a W hk hah hi
      obtain ⟨b0, b1, b2, b3, b4, b5, b6, b7, b8, b9, b10, s14, s38, s39, s40, s41, s42, s43, s44, s45, s46, rfl, rfl, hR⟩ := (HI.out _ _ _).1 hi
      obtain rfl : b7 = false := by simpa using hk
      simp [Ahead, Region.binds] at hah
      obtain ⟨rfl, rfl, rfl⟩ := hah
      clear hi hk
      have HR := Aside0.mk hR
      have hsW := hR.hb.size
      clear hR
      refine ⟨rfl, ?_⟩
      have e0 := HR.out.f0 rfl
      obtain ⟨A, c, e5, h5⟩ := HR.out.f5 rfl
      obtain ⟨mb2, e6, h6, h6'⟩ := HR.out.f6 rfl
      subst e0 e5 e6
      go_simp
      exact (HI.out _ _ _).2 ⟨true, b1, b2, b3, b4, true, true, true, b8, b9, b10, _, _, _, _, _, _, _, _, _, _, rfl, rfl, ⟨HR.out.hb, (HR.out.f0), (HR.out.f1), (HR.out.f2), (HR.out.f3), (HR.out.f4), (HR.out.f5), (HR.out.f6), (fun _ => ⟨rfl, A, c, mb2, rfl, h5, h6, h6'⟩), (HR.out.f8), (HR.out.f9), (HR.out.f10)⟩⟩
     case o8 =>
      intro ls a W hk hah hi
      obtain ⟨b0, b1, b2, b3, b4, b5, b6, b7, b8, b9, b10, s14, s38, s39, s40, s41, s42, s43, s44, s45, s46, rfl, rfl, hR⟩ := (HI.out _ _ _).1 hi
      obtain rfl : b8 = false := by simpa using hk
      simp [Ahead, Region.binds] at hah
      obtain rfl := hah
      clear hi hk
      have q5 := (hR.f7 rfl).1
      subst q5
      have HR := Aside0.mk hR
      have hsW := hR.hb.size
      clear hR
      refine ⟨rfl, ?_⟩
      obtain ⟨_, A, c, mb2, e7, h7, h6, h6'⟩ := HR.out.f7 rfl
      subst e7
      go_simp
      have hbn := below_alloc (Below.refl W.heap.size W) (.cells #[.slice A0 l0.length c0, .slice A lx.length c, .map (some mb2)] 129)
      have h' := HR.out.below hsW hbn
      exact (HI.out _ _ _).2 ⟨b0, b1, b2, b3, b4, true, b6, true, true, b9, b10, _, _, _, _, _, _, _, _, _, _, rfl, rfl, ⟨h'.hb, (h'.f0), (h'.f1), (h'.f2), (h'.f3), (h'.f4), (h'.f5), (h'.f6), (h'.f7), (fun _ => ⟨(HR.out.f7 rfl).1, A, c, mb2, _, rfl, hsW, heap_alloc_new _ _, Kd.R_below h7 hbn, h6, h6'.below hbn⟩), (h'.f9), (h'.f10)⟩⟩
     case o9 =>
      intro ls a W hk hah hi
      obtain ⟨b0, b1, b2, b3, b4, b5, b6, b7, b8, b9, b10, s14, s38, s39, s40, s41, s42, s43, s44, s45, s46, rfl, rfl, hR⟩ := (HI.out _ _ _).1 hi
      obtain rfl : b9 = false := by simpa using hk
      clear hah
      clear hi hk
      have HR := Aside0.mk hR
      have hsW := hR.hb.size
      clear hR
      refine ⟨rfl, ?_⟩
      go_simp
      have hbn := below_alloc (Below.refl W.heap.size W) (.cells #[.pointer none] 80)
      have h' := HR.out.below hsW hbn
      exact (HI.out _ _ _).2 ⟨b0, b1, b2, b3, b4, b5, b6, b7, b8, true, b10, _, _, _, _, _, _, _, _, _, _, rfl, rfl, ⟨h'.hb, (h'.f0), (h'.f1), (h'.f2), (h'.f3), (h'.f4), (h'.f5), (h'.f6), (h'.f7), (h'.f8), (fun _ _ => ⟨_, rfl, hsW, Boxed.new W _ _⟩), (fun h => (by cases (h'.f10 h).1))⟩⟩
     case o10 =>
      intro ls a W hk hah hi
      obtain ⟨b0, b1, b2, b3, b4, b5, b6, b7, b8, b9, b10, s14, s38, s39, s40, s41, s42, s43, s44, s45, s46, rfl, rfl, hR⟩ := (HI.out _ _ _).1 hi
      obtain rfl : b10 = false := by simpa using hk
      simp [Ahead, Region.binds] at hah
      obtain ⟨rfl, rfl, rfl, rfl, rfl, rfl, rfl, rfl, _, rfl, rfl, _, _⟩ := hah
      clear hi hk
      have HR := Aside0.mk hR
      have hsW := hR.hb.size
      clear hR
      refine ⟨rfl, ?_⟩
      obtain ⟨B, e9, h9, hB⟩ := HR.out.f9 rfl rfl
      obtain ⟨_, A, c, mb2, ob2, e8, q1, q2, q3, q4, q5⟩ := HR.out.f8 rfl
      subst e9 e8
      have z1 := hB.cell
      have z2 := hB.frozen
      have HBX := Aside0.mk hB
      clear hB
      go_simp
      have k1 := grownBy_setCell' W B (.pointer (some ⟨ob2, 0, none⟩))
      have hob : ob2 ≠ B := by rintro rfl; have h := HBX.out; unfold Boxed at h; rw [q2] at h; cases h
      have hmb : ∀ {mb'} {g'}, RMap W mb' g' → RMap (W.setCell ⟨B, 0, none⟩ (.pointer (some ⟨ob2, 0, none⟩))) mb' g' := fun {mb' g'} h => h.step (k1.block mb' h.lt (by intro e; injection e with e; subst e; obtain ⟨es, cl, hm⟩ := h.isMap; have h2 := HBX.out; unfold Boxed at h2; rw [hm] at h2; cases h2))
      exact (HI.out _ _ _).2 ⟨true, true, true, true, true, true, true, true, true, true, true, _, _, _, _, _, _, _, _, _, _, rfl, rfl, ⟨HR.out.hb.setCell (p := ⟨B, 0, none⟩) h9 _, HR.out.f0, HR.out.f1, fun _ h => (by cases h), HR.out.f3, fun _ h => (by cases h), fun h => (by obtain ⟨A', c', e1, e2⟩ := HR.out.f5 h; exact ⟨A', c', e1, RO_box e2 HBX.out⟩), fun h => (by obtain ⟨mb', e1, e2, e3⟩ := HR.out.f6 h; exact ⟨mb', e1, e2, hmb e3⟩), fun h => (by obtain ⟨e0, A', c', mb', e1, e2, e3, e4⟩ := HR.out.f7 h; exact ⟨e0, A', c', mb', e1, RO_box e2 HBX.out, e3, hmb e4⟩), fun _ => ⟨rfl, A, c, mb2, ob2, rfl, q1, (k1.block ob2 (blk_lt q2) (by simp; exact hob)).trans q2, RO_box q3 HBX.out, q4, hmb q5⟩, fun _ h => (by cases h), fun _ => ⟨rfl, rfl, A, c, mb2, ob2, B, rfl, h9, HBX.out.set _, q1, (k1.block ob2 (blk_lt q2) (by simp; exact hob)).trans q2, RO_box q3 HBX.out, q4, hmb q5⟩⟩⟩
     case fin =>
      intro ls a W hi hst
      obtain ⟨b0, b1, b2, b3, b4, b5, b6, b7, b8, b9, b10, s14, s38, s39, s40, s41, s42, s43, s44, s45, s46, rfl, rfl, hR⟩ := (HI.out _ _ _).1 hi
      clear hi
      obtain rfl : b0 = true := by
       cases b0 with
       | true => rfl
       | false =>
        exfalso
        obtain ⟨e, he, hbd, hne⟩ := hst 0 rfl _ rfl
        simp at he
      obtain rfl : b1 = true := by
       cases b1 with
       | true => rfl
       | false =>
        exfalso
        obtain ⟨e, he, hbd, hne⟩ := hst 1 rfl _ rfl
        simp at he
      obtain rfl : b2 = true := by
       cases b2 with
       | true => rfl
       | false =>
        exfalso
        obtain ⟨e, he, hbd, hne⟩ := hst 2 rfl _ rfl
        simp at he
        subst he
        simp at hne
      obtain rfl : b3 = true := by
       cases b3 with
       | true => rfl
       | false =>
        exfalso
        obtain ⟨e, he, hbd, hne⟩ := hst 3 rfl _ rfl
        simp at he
      obtain rfl : b4 = true := by
       cases b4 with
       | true => rfl
       | false =>
        exfalso
        obtain ⟨e, he, hbd, hne⟩ := hst 4 rfl _ rfl
        simp at he
        subst he
        simp at hne
      obtain rfl : b5 = true := by
       cases b5 with
       | true => rfl
       | false =>
        exfalso
        obtain ⟨e, he, hbd, hne⟩ := hst 5 rfl _ rfl
        simp at he
        rcases he with rfl | rfl | rfl <;> simp at hne
      obtain rfl : b6 = true := by
       cases b6 with
       | true => rfl
       | false =>
        exfalso
        obtain ⟨e, he, hbd, hne⟩ := hst 6 rfl _ rfl
        simp at he
      obtain rfl : b7 = true := by
       cases b7 with
       | true => rfl
       | false =>
        exfalso
        obtain ⟨e, he, hbd, hne⟩ := hst 7 rfl _ rfl
        simp at he
        rcases he with rfl | rfl | rfl <;> simp at hne
      obtain rfl : b8 = true := by
       cases b8 with
       | true => rfl
       | false =>
        exfalso
        obtain ⟨e, he, hbd, hne⟩ := hst 8 rfl _ rfl
        simp at he
        subst he
        simp at hne
      obtain rfl : b9 = true := by
       cases b9 with
       | true => rfl
       | false =>
        exfalso
        obtain ⟨e, he, hbd, hne⟩ := hst 9 rfl _ rfl
        simp at he
      obtain rfl : b10 = true := by
       cases b10 with
       | true => rfl
       | false =>
        exfalso
        obtain ⟨e, he, hbd, hne⟩ := hst 10 rfl _ rfl
        simp at he
        rcases he with rfl | rfl | rfl | rfl | rfl | rfl | rfl | rfl | rfl | rfl | rfl | rfl | rfl <;> simp at hne
      obtain ⟨_, _, A, c, mb2, ob2, B, rfl, h⟩ := hR.f10 rfl
      exact ⟨rfl, _, _, _, _, _, _, _, _, _, A, c, mb2, ob2, B, rfl, hR.hb, h⟩
    case rest =>
     rintro e a' Z ⟨rfl, s38, s39, s40, s41, s42, s43, s44, s45, s46, A, c, mb2, ob2, B, rfl, hbZ, hB, hBx, hob2, hoff, hro, hmb2, hrm⟩
     have hbw4 : Below w.heap.size w w4 := (below_refl_trans HBW2.out HB3.out).grown HG4.out (by have := HB3.out.size; omega) (fun j hj => by cases hj; omega)
     have hs24 : w2.heap.size ≤ w4.heap.size := Nat.le_trans HB3.out.size HG4.out.size
     have hbZw := below_refl_trans hbw4 hbZ
     have hx5 := (((HBX1.out.kept (grown_of_below HB3.out none) (by simp)).kept HG4.out (by simp; omega)).kept (grown_of_below hbZ none) (by simp))
     have hlxl : lx.length = l1.length + 1 := by rw [HLX.out]; simp
     have hFx : Fine l0 lx := by rw [HLX.out]; exact HF.out.snoc h8 HXO.out
     obtain ⟨A', c', e1, hcx, hCx⟩ := Kd.R_reads hro
     injection e1 with e1 _ e3
     subst e1 e3
     have hOf : Off Z ob2 mb2 l0 lx := ⟨A0, c0, A, c, fun _ => none, hoff, Kd.C_below HR0.out hbZw, hc0, hCx, hcx, hrm, fun x y h => by cases h⟩
     have HOF := Aside0.mk hOf
     have HFX := Aside0.mk hFx
     have HBZ := Aside0.mk hbZ
     have HBZW := Aside0.mk hbZw
     have HX5 := Aside0.mk hx5
     have HBX := Aside0.mk hBx
     have hlt2 := hOf.lt
     have hBlt := hBx.lt
     have hBne : B ≠ Z.heap.size := by omega
     have h5lt := hx5.lt
     have h5ne : w.heap.size ≠ Z.heap.size := by omega
     have z5 := hx5.cell
     have zB := hBx.cell
     have hsh : IntKind.u64.wrap (2 ^ l1.length) = ((ownN l1 : Nat) : Int) := shl_own ⟨l1.length, by omega⟩
     have HOWN := Aside0.mk (show ((ownN l1 : Nat) : Int) < 2 ^ lx.length from lt_two (n := lx.length) (m := ownN l1) (by unfold ownN; rw [hlxl, Nat.pow_succ]; have := Nat.two_pow_pos l1.length; omega) (Nat.le_refl _))
     clear hro hrm hCx hoff hOf hFx hbZ hbZw hx5 hBx hbw4 d0 d1 d2 d3 d4
     gi_wp2_with fail
     refine ⟨trivial, (callsIn_wide.2 (room_b (HOF.out.below (below_alloc (Below.refl _ _) _)) HFX.out.hk HFX.out.h9 (by omega) HOWN.out)).mono ?_⟩
     rintro e W5 ⟨rfl, hO5, hg5⟩
     have hOZ := HOF.out.below (below_alloc (Below.refl Z.heap.size Z) (.cells #[.int .u64 ((ownN l1 : Nat) : Int)] 93))
     obtain ⟨es, cl, hmap⟩ := HOF.out.isMap
     have hBm : B ≠ mb2 := by rintro rfl; have h := HBX.out; unfold Boxed at h; rw [hmap] at h; cases h
     have hsZ : (Z.alloc (.cells #[.int .u64 ((ownN l1 : Nat) : Int)] 93)).heap.size = Z.heap.size + 1 := by simp
     have hs5 := hg5.size
     rw [hsZ] at hs5
     have y5 := (HX5.out.alloc (.cells #[.int .u64 ((ownN l1 : Nat) : Int)] 93)).kept hg5 (by simp; omega)
     have yB := (HBX.out.alloc (.cells #[.int .u64 ((ownN l1 : Nat) : Int)] 93)).kept hg5 (by simp; omega)
     have yO := (Boxed.new Z 93 (.int .u64 ((ownN l1 : Nat) : Int))).kept hg5 (by simp; omega)
     have HG5 := Aside0.mk hg5
     have HRM5 := Aside0.mk hO5.rm
     have HOZ := Aside0.mk hOZ
     have HP := Aside0.mk (fun W => parts_b HM5.out W)
     obtain ⟨ro, hro⟩ : ∃ ro, ro = roomI l0 lx ((ownN l1 : Nat) : Int) := ⟨_, rfl⟩
     have HRO := Aside0.mk hro
     rw [← hro]
     clear hg5 hO5 hOZ hro hmap z5 zB
     gi_wp2_with fail
     refine ⟨trivial, (callsIn_wide.2 (HP.out _)).mono ?_⟩
     rintro e W6 ⟨bx, g, cap, rfl, hPA, hlg, hlb, hb6⟩
     have hs5' : (W5.alloc (.cells #[.int .i64 ro] 3)).heap.size = W5.heap.size + 1 := by simp
     have hs6 := hb6.size
     rw [hs5'] at hs6 hlg hlb
     have q5 := (y5.alloc (.cells #[.int .i64 ro] 3)).kept (grown_of_below hb6 none) (by simp)
     have qB := (yB.alloc (.cells #[.int .i64 ro] 3)).kept (grown_of_below hb6 none) (by simp)
     have qO := (yO.alloc (.cells #[.int .i64 ro] 3)).kept (grown_of_below hb6 none) (by simp)
     have qN := (Boxed.new W5 3 (.int .i64 ro)).kept (grown_of_below hb6 none) (by simp)
     have hrm6 : RM W6 mb2 l0 lx := (HRM5.out.step (heap_alloc_old W5 _ (by obtain ⟨_, h, _⟩ := HRM5.out; exact h.lt))).step (hb6.block mb2 (by rw [hs5']; obtain ⟨_, h, _⟩ := HRM5.out; have := h.lt; omega))
     have hg6 : (Z.alloc (.cells #[.int .u64 ((ownN l1 : Nat) : Int)] 93)).grownBy W6 (some mb2) := grown_below (grown_below HG5.out (below_alloc (Below.refl _ _) _)) hb6
     have HPA := Aside0.mk hPA
     have hgl := hPA.2.2
     have HMM := Aside0.mk (fun (s : Sub m) => (show s.val.val < 2 ^ l1.length from Nat.lt_of_le_of_lt s.2 HM.out))
     clear hPA hb6 y5 yB yO
     gi_wp2
     refine wpIn_rangeFunc_ownG rfl (by omega) (gf := 132) (lb := #[.pointer (some ⟨bx, 0, none⟩)]) rfl trivial (enters_of Tryz.func132 (by kernel_rfl) rfl) (values_stops Fence.wide 6 trivial rfl (by omega) HM5.out HPA.out) KeepV.trans (KeepV.putObj hgl.1 hgl.2) (Below.refl _ _) (fun _ => rfl)
      (fun pre W => RM W mb2 l0 lx ∧ (Z.alloc (.cells #[.int .u64 ((ownN l1 : Nat) : Int)] 93)).grownBy W (some mb2) ∧ Boxed W w.heap.size 23 (.slice A1 l1.length c1) ∧ Boxed W B 80 (.pointer (some ⟨ob2, 0, none⟩)) ∧ Boxed W Z.heap.size 93 (.int .u64 ((ownN l1 : Nat) : Int)) ∧ Boxed W W5.heap.size 3 (.int .i64 (spareOf l0 l1 x (valS pre))) ∧ W6.heap.size ≤ W.heap.size)
      (fun _ _ _ => False)
      ?hI (fun _ _ _ _ _ h _ _ => h) ?h0
      (fun p => { tmps := #[.slice A0 l0.length c0, .slice A1 l1.length c1, .slice A2 l2.length c2, .agg #[.int .i64 x.f0, .int .i64 x.f1, .int .i64 x.f2.f0, .int .i64 x.f2.f1, .int .i64 x.f3], undef, .pointer (some ⟨w.heap.size, 0, none⟩), undef, .pointer (some ⟨w.heap.size + 1, 0, none⟩), .int .i64 0, .int .i64 0, .pointer (some ⟨ob, 0, none⟩), .int .u64 (m : Int), .int .i64 0, .int .i64 0, .pointer (some ⟨B, 0, none⟩), .pointer (some ⟨Z.heap.size, 0, none⟩), .pointer (some ⟨W5.heap.size, 0, none⟩), .int .u64 (p.val.val : Int), .tuple #[.pointer (some ⟨ob, 0, none⟩), .int .u64 (m : Int), .int .i64 0], .slice A0 l0.length c0, .slice A1 l1.length c1, .slice A2 l2.length c2, .tuple #[.pointer (some ⟨ob, 0, none⟩), .int .u64 (m : Int), .int .i64 0], .pointer (some ⟨ob, 0, none⟩), .int .u64 (m : Int), .int .i64 0, .int .i64 0, .bool false, undef, .agg #[.int .i64 x.f0, .int .i64 x.f1, .int .i64 x.f2.f0, .int .i64 x.f2.f1, .int .i64 x.f3], .int .i64 0, .int .i64 0, .bool false, undef, .pointer (some ⟨ob, 0, none⟩), .int .u64 (m : Int), .bool true, .bool false, s38, s39, s40, s41, s42, s43, s44, s45, s46, .slice A1 l1.length c1, .int .i64 (l1.length : Int), .int .u64 ((ownN l1 : Nat) : Int), .pointer (some ⟨ob2, 0, none⟩), .int .u64 ((ownN l1 : Nat) : Int), .int .i64 ro, .int .u64 (m : Int), .func (.func 132) #[] #[.pointer (some ⟨bx, 0, none⟩)], .int .u64 (p.val.val : Int), undef, undef, undef, undef, undef, undef, undef, undef, undef, undef, undef, undef], defers := [] }) ?assign ?body ?done ?stop
     case hI =>
      rintro pre W W' row ⟨g1, g2, g3, g4, g5, g6, g7⟩ hg hr
      have hne : ∀ b : Nat, b < W6.heap.size → some b ≠ row := fun b hb e => by have := (hr _ e.symm).1; omega
      have hmz := HOZ.out.lt.2.1
      exact ⟨g1.step (hg.block mb2 (by omega) (hne _ (by omega))), grown_own g2 hg (fun x e => by have := (hr x e).1; omega), g3.kept hg (hne _ (by omega)), g4.kept hg (hne _ (by omega)), g5.kept hg (hne _ (by omega)), g6.kept hg (hne _ (by omega)), Nat.le_trans g7 hg.size⟩
     case h0 => exact ⟨hrm6, hg6, q5, qB, qO, by rw [show spareOf l0 l1 x (valS ([] : List (Sub m))) = ro by rw [HRO.out, HLX.out]; rfl]; exact qN, Nat.le_refl _⟩
     case assign =>
      intro l' p W K hK
      gi_wp2
      exact hK
     case body =>
      rintro l' pre p V ⟨g1, g2, g3, g4, g5, g6, g7⟩ hpl
      have hp := HMM.out p
      have hp5 : p.val.val < 512 := p.val.isLt
      have hacc := spareOf_bd HF.out h8 HXO.out (valS pre)
      have hsn : spareOf l0 l1 x (valS (pre ++ [p])) = mn (spareOf l0 l1 x (valS pre)) (spareRest l0 l1 x p.val.val) := by unfold valS; rw [List.map_append]; exact spareOf_snoc _ _ _ _ _
      have hro2 := roomI_bd HFX.out.hk lx ((p.val.val ||| ownN l1 : Nat) : Int)
      have hne2 : 0 ≤ needI l1 (p.val.val : Int) ∧ needI l1 (p.val.val : Int) ≤ 1000 * l1.length := needTo_bd HF.out.hl (p.val.val : Int) l1.length (Nat.le_refl _)
      have hrs : spareRest l0 l1 x p.val.val = roomI l0 lx ((p.val.val ||| ownN l1 : Nat) : Int) - needI l1 (p.val.val : Int) := by rw [HLX.out]; rfl
      rw [hrs] at hsn
      have hor : Go.bits .or .u64 (p.val.val : Int) ((ownN l1 : Nat) : Int) = ((p.val.val ||| ownN l1 : Nat) : Int) := or_own_all ⟨p.val.val, hp5⟩ ⟨l1.length, by omega⟩
      have hpo : ((p.val.val ||| ownN l1 : Nat) : Int) < 2 ^ lx.length := lt_two (n := lx.length) (m := p.val.val ||| ownN l1) (Nat.or_lt_two_pow (by rw [hlxl, Nat.pow_succ]; omega) (by unfold ownN; rw [hlxl, Nat.pow_succ]; have := Nat.two_pow_pos l1.length; omega)) (Nat.le_refl _)
      have hbV : Below w.heap.size w V := ((HBZW.out.alloc HBZW.out.size _)).grown g2 (by have := HBZW.out.size; rw [hsZ]; omega) (fun j e => by cases e; omega)
      have HND := Aside0.mk (fun (W : World) (hW : V.grownBy W (some mb2)) => need_b (c := c1) (m := (p.val.val : Int)) HF.out.hl hF9 (by omega) (by omega) (Kd.C_below HR1.out (hbV.grown hW hbV.size (fun j e => by cases e; omega))) hc1)
      have HRM2 := Aside0.mk (fun (W : World) (hW : V.grownBy W (some mb2)) (hm : RM W mb2 l0 lx) => room_b (m := ((p.val.val ||| ownN l1 : Nat) : Int)) (HOZ.out.grow (grown_trans g2 hW) hm) HFX.out.hk HFX.out.h9 (by omega) hpo)
      have hmz := HOZ.out.lt.2.1
      have G1 := Aside0.mk g1
      have G2 := Aside0.mk g2
      have hsV := g2.size
      rw [hsZ] at hsV
      have hN5 : W5.heap.size ≠ mb2 := by omega
      have hZ5 : Z.heap.size ≠ mb2 := by omega
      have HPO := Aside0.mk hpo
      have HSN := Aside0.mk hsn
      have G3 := Aside0.mk g3
      have G4 := Aside0.mk g4
      have G5 := Aside0.mk g5
      have G6 := Aside0.mk g6
      clear hrs hp g1 g2 g3 g4 g5 hsn hpo hbV q5 qB qO qN
      generalize spareOf l0 l1 x (valS pre) = acc at *
      generalize roomI l0 lx ((p.val.val ||| ownN l1 : Nat) : Int) = ro2 at *
      generalize needI l1 (p.val.val : Int) = ne at *
      obtain ⟨ha1, ha2⟩ := hacc
      obtain ⟨hr1, hr2⟩ := hro2
      obtain ⟨hn1, hn2⟩ := hne2
      obtain ⟨I, hI⟩ : ∃ I : List Bool → Act → World → Prop, ∀ ls a W, I ls a W ↔ ∃ b0 b1 b2 b3 b4 b5 b6 b7 b8 b9 b10 b11 y0 y1 y2 y3 y4 y5 y6 y7 y8 y9 y10, ls = [b0, b1, b2, b3, b4, b5, b6, b7, b8, b9, b10, b11] ∧ a = { tmps := #[.slice A0 l0.length c0, .slice A1 l1.length c1, .slice A2 l2.length c2, .agg #[.int .i64 x.f0, .int .i64 x.f1, .int .i64 x.f2.f0, .int .i64 x.f2.f1, .int .i64 x.f3], undef, .pointer (some ⟨w.heap.size, 0, none⟩), undef, .pointer (some ⟨w.heap.size + 1, 0, none⟩), .int .i64 0, .int .i64 0, .pointer (some ⟨ob, 0, none⟩), .int .u64 (m : Int), .int .i64 0, .int .i64 0, .pointer (some ⟨B, 0, none⟩), .pointer (some ⟨Z.heap.size, 0, none⟩), .pointer (some ⟨W5.heap.size, 0, none⟩), .int .u64 (p.val.val : Int), .tuple #[.pointer (some ⟨ob, 0, none⟩), .int .u64 (m : Int), .int .i64 0], .slice A0 l0.length c0, .slice A1 l1.length c1, .slice A2 l2.length c2, .tuple #[.pointer (some ⟨ob, 0, none⟩), .int .u64 (m : Int), .int .i64 0], .pointer (some ⟨ob, 0, none⟩), .int .u64 (m : Int), .int .i64 0, .int .i64 0, .bool false, undef, .agg #[.int .i64 x.f0, .int .i64 x.f1, .int .i64 x.f2.f0, .int .i64 x.f2.f1, .int .i64 x.f3], .int .i64 0, .int .i64 0, .bool false, undef, .pointer (some ⟨ob, 0, none⟩), .int .u64 (m : Int), .bool true, .bool false, s38, s39, s40, s41, s42, s43, s44, s45, s46, .slice A1 l1.length c1, .int .i64 (l1.length : Int), .int .u64 ((ownN l1 : Nat) : Int), .pointer (some ⟨ob2, 0, none⟩), .int .u64 ((ownN l1 : Nat) : Int), .int .i64 ro, .int .u64 (m : Int), .func (.func 132) #[] #[.pointer (some ⟨bx, 0, none⟩)], .int .u64 (p.val.val : Int), y0, y1, y2, y3, y4, y5, y6, y7, y8, y9, y10, undef], defers := [] } ∧ R14 V mb2 W5.heap.size l0 lx (.int .i64 acc) (.pointer (some ⟨ob2, 0, none⟩)) (.int .u64 (p.val.val : Int)) (.int .u64 ((ownN l1 : Nat) : Int)) (.int .u64 ((p.val.val ||| ownN l1 : Nat) : Int)) (.int .i64 ro2) (.slice A1 l1.length c1) (.int .u64 (p.val.val : Int)) (.int .i64 ne) (.int .i64 (ro2 - ne)) (.int .i64 (mn acc (ro2 - ne))) W b0 b1 b2 b3 b4 b5 b6 b7 b8 b9 b10 b11 y0 y1 y2 y3 y4 y5 y6 y7 y8 y9 y10 := ⟨_, fun _ _ _ => Iff.rfl⟩
      have HI := Aside0.mk hI
      clear hI
      gi_wp2
      refine reg_start l' hmix (by kernel_rfl) 12 [false, false, false, false, false, false, false, false, false, false, false, false] rfl rfl ?_
      refine reg_inv I (StepAll.cons ?p0 (StepAll.cons ?p1 (StepAll.cons ?p2 (StepAll.cons ?p3 (StepAll.cons ?p4 (StepAll.cons ?p5 (StepAll.cons ?p6 (StepAll.cons ?p7 (StepAll.cons ?p8 (StepAll.cons ?p9 (StepAll.cons ?p10 (StepAll.cons ?p11 (StepAll.nil))))))))))))) ?fin 12 _ _ _ rfl (by simp) ((HI.out _ _ _).2 ⟨false, false, false, false, false, false, false, false, false, false, false, false, undef, undef, undef, undef, undef, undef, undef, undef, undef, undef, undef, rfl, rfl, ⟨(fun h => by cases h), (fun h => by cases h), (fun h => by cases h), (fun h => by cases h), (fun h => by cases h), (fun h => by cases h), (fun h => by cases h), (fun h => by cases h), (fun h => by cases h), (fun h => by cases h), (fun h => by cases h), fun _ => ⟨grown_of_below (below_drew (Below.refl _ _)) _, G1.out.step rfl⟩, (fun h => by cases h), (fun h => by cases h)⟩⟩)
      case p0 =>
       intro ls a W hk hah hi
       obtain ⟨b0, b1, b2, b3, b4, b5, b6, b7, b8, b9, b10, b11, y0, y1, y2, y3, y4, y5, y6, y7, y8, y9, y10, rfl, rfl, hR⟩ := (HI.out _ _ _).1 hi
       obtain rfl : b0 = false := by simpa using hk
       obtain rfl : b11 = false := by cases b11 with | false => rfl | true => have h := hR.w2 rfl; simp at h
       clear hah
       clear hi hk
       have HR := Aside0.mk hR
       have hw := hR.w0 rfl
       have HW := Aside0.mk hw
       clear hR hw
       refine ⟨rfl, ?_⟩
       have c1' := (G6.out.kept HW.out.1 (by simp; omega)).cell
       go_simp
       exact (HI.out _ _ _).2 ⟨true, b1, b2, b3, b4, b5, b6, b7, b8, b9, b10, false, _, _, _, _, _, _, _, _, _, _, _, rfl, rfl, ⟨fun _ => rfl, HR.out.f1, HR.out.f2, HR.out.f3, HR.out.f4, HR.out.f5, HR.out.f6, HR.out.f7, HR.out.f8, HR.out.f9, HR.out.f10, HR.out.w0, fun h => (by cases h), fun h => (by cases h)⟩⟩
      case p1 =>
       intro ls a W hk hah hi
       obtain ⟨b0, b1, b2, b3, b4, b5, b6, b7, b8, b9, b10, b11, y0, y1, y2, y3, y4, y5, y6, y7, y8, y9, y10, rfl, rfl, hR⟩ := (HI.out _ _ _).1 hi
       obtain rfl : b1 = false := by simpa using hk
       obtain rfl : b11 = false := by cases b11 with | false => rfl | true => have h := hR.w2 rfl; simp at h
       clear hah
       clear hi hk
       have HR := Aside0.mk hR
       have hw := hR.w0 rfl
       have HW := Aside0.mk hw
       clear hR hw
       refine ⟨rfl, ?_⟩
       have c1' := (G4.out.kept HW.out.1 (by simp; omega)).cell
       go_simp
       exact (HI.out _ _ _).2 ⟨b0, true, b2, b3, b4, b5, b6, b7, b8, b9, b10, false, _, _, _, _, _, _, _, _, _, _, _, rfl, rfl, ⟨HR.out.f0, fun _ => rfl, HR.out.f2, HR.out.f3, HR.out.f4, HR.out.f5, HR.out.f6, HR.out.f7, HR.out.f8, HR.out.f9, HR.out.f10, HR.out.w0, fun h => (by cases h), fun h => (by cases h)⟩⟩
      case p2 =>
       intro ls a W hk hah hi
       obtain ⟨b0, b1, b2, b3, b4, b5, b6, b7, b8, b9, b10, b11, y0, y1, y2, y3, y4, y5, y6, y7, y8, y9, y10, rfl, rfl, hR⟩ := (HI.out _ _ _).1 hi
       obtain rfl : b2 = false := by simpa using hk
       obtain rfl : b11 = false := by cases b11 with | false => rfl | true => have h := hR.w2 rfl; simp at h
       clear hah
       clear hi hk
       have HR := Aside0.mk hR
       have hw := hR.w0 rfl
       have HW := Aside0.mk hw
       clear hR hw
       refine ⟨rfl, ?_⟩
       go_simp
       exact (HI.out _ _ _).2 ⟨b0, b1, true, b3, b4, b5, b6, b7, b8, b9, b10, false, _, _, _, _, _, _, _, _, _, _, _, rfl, rfl, ⟨HR.out.f0, HR.out.f1, fun _ => rfl, HR.out.f3, HR.out.f4, HR.out.f5, HR.out.f6, HR.out.f7, HR.out.f8, HR.out.f9, HR.out.f10, HR.out.w0, fun h => (by cases h), fun h => (by cases h)⟩⟩
      case p3 =>
       intro ls a W hk hah hi
       obtain ⟨b0, b1, b2, b3, b4, b5, b6, b7, b8, b9, b10, b11, y0, y1, y2, y3, y4, y5, y6, y7, y8, y9, y10, rfl, rfl, hR⟩ := (HI.out _ _ _).1 hi
       obtain rfl : b3 = false := by simpa using hk
       obtain rfl : b11 = false := by cases b11 with | false => rfl | true => have h := hR.w2 rfl; simp at h
       clear hah
       clear hi hk
       have HR := Aside0.mk hR
       have hw := hR.w0 rfl
       have HW := Aside0.mk hw
       clear hR hw
       refine ⟨rfl, ?_⟩
       have c1' := (G5.out.kept HW.out.1 (by simp; omega)).cell
       go_simp
       exact (HI.out _ _ _).2 ⟨b0, b1, b2, true, b4, b5, b6, b7, b8, b9, b10, false, _, _, _, _, _, _, _, _, _, _, _, rfl, rfl, ⟨HR.out.f0, HR.out.f1, HR.out.f2, fun _ => rfl, HR.out.f4, HR.out.f5, HR.out.f6, HR.out.f7, HR.out.f8, HR.out.f9, HR.out.f10, HR.out.w0, fun h => (by cases h), fun h => (by cases h)⟩⟩
      case p4 =>
       intro ls a W hk hah hi
       obtain ⟨b0, b1, b2, b3, b4, b5, b6, b7, b8, b9, b10, b11, y0, y1, y2, y3, y4, y5, y6, y7, y8, y9, y10, rfl, rfl, hR⟩ := (HI.out _ _ _).1 hi
       obtain rfl : b4 = false := by simpa using hk
       obtain rfl : b11 = false := by cases b11 with | false => rfl | true => have h := hR.w2 rfl; simp at h
       simp [Ahead, Region.binds] at hah
       obtain ⟨rfl, rfl⟩ := hah
       clear hi hk
       have HR := Aside0.mk hR
       have hw := hR.w0 rfl
       have HW := Aside0.mk hw
       clear hR hw
       refine ⟨rfl, ?_⟩
       have e2 := HR.out.f2 rfl
       have e3 := HR.out.f3 rfl
       subst e2 e3
       go_simp
       exact (HI.out _ _ _).2 ⟨b0, b1, true, true, true, b5, b6, b7, b8, b9, b10, false, _, _, _, _, _, _, _, _, _, _, _, rfl, rfl, ⟨HR.out.f0, HR.out.f1, HR.out.f2, HR.out.f3, fun _ => rfl, HR.out.f5, HR.out.f6, HR.out.f7, HR.out.f8, HR.out.f9, HR.out.f10, HR.out.w0, fun h => (by cases h), fun h => (by cases h)⟩⟩
      case p5 =>
       intro ls a W hk hah hi
       obtain ⟨b0, b1, b2, b3, b4, b5, b6, b7, b8, b9, b10, b11, y0, y1, y2, y3, y4, y5, y6, y7, y8, y9, y10, rfl, rfl, hR⟩ := (HI.out _ _ _).1 hi
       obtain rfl : b5 = false := by simpa using hk
       obtain rfl : b11 = false := by cases b11 with | false => rfl | true => have h := hR.w2 rfl; simp at h
       simp [Ahead, Region.binds] at hah
       obtain ⟨rfl, rfl⟩ := hah
       clear hi hk
       have HR := Aside0.mk hR
       have hw := hR.w0 rfl
       have HW := Aside0.mk hw
       clear hR hw
       refine ⟨rfl, ?_⟩
       have e1 := HR.out.f1 rfl
       have e4 := HR.out.f4 rfl
       subst e1 e4
       go_simp
       refine ⟨trivial, (callsIn_wide.2 (HRM2.out _ HW.out.1 HW.out.2)).mono ?_⟩
       rintro e W' ⟨rfl, hO', hg'⟩
       exact (HI.out _ _ _).2 ⟨b0, true, b2, b3, true, true, b6, b7, b8, b9, b10, false, _, _, _, _, _, _, _, _, _, _, _, rfl, rfl, ⟨HR.out.f0, HR.out.f1, HR.out.f2, HR.out.f3, HR.out.f4, fun _ => rfl, HR.out.f6, HR.out.f7, HR.out.f8, HR.out.f9, HR.out.f10, fun _ => ⟨grown_trans HW.out.1 hg', hO'.rm⟩, fun h => (by cases h), fun h => (by cases h)⟩⟩
      case p6 =>
       intro ls a W hk hah hi
       obtain ⟨b0, b1, b2, b3, b4, b5, b6, b7, b8, b9, b10, b11, y0, y1, y2, y3, y4, y5, y6, y7, y8, y9, y10, rfl, rfl, hR⟩ := (HI.out _ _ _).1 hi
       obtain rfl : b6 = false := by simpa using hk
       obtain rfl : b11 = false := by cases b11 with | false => rfl | true => have h := hR.w2 rfl; simp at h
       clear hah
       clear hi hk
       have HR := Aside0.mk hR
       have hw := hR.w0 rfl
       have HW := Aside0.mk hw
       clear hR hw
       refine ⟨rfl, ?_⟩
       have c1' := (G3.out.kept HW.out.1 (by simp; omega)).cell
       go_simp
       exact (HI.out _ _ _).2 ⟨b0, b1, b2, b3, b4, b5, true, b7, b8, b9, b10, false, _, _, _, _, _, _, _, _, _, _, _, rfl, rfl, ⟨HR.out.f0, HR.out.f1, HR.out.f2, HR.out.f3, HR.out.f4, HR.out.f5, fun _ => rfl, HR.out.f7, HR.out.f8, HR.out.f9, HR.out.f10, HR.out.w0, fun h => (by cases h), fun h => (by cases h)⟩⟩
      case p7 =>
       intro ls a W hk hah hi
       obtain ⟨b0, b1, b2, b3, b4, b5, b6, b7, b8, b9, b10, b11, y0, y1, y2, y3, y4, y5, y6, y7, y8, y9, y10, rfl, rfl, hR⟩ := (HI.out _ _ _).1 hi
       obtain rfl : b7 = false := by simpa using hk
       obtain rfl : b11 = false := by cases b11 with | false => rfl | true => have h := hR.w2 rfl; simp at h
       clear hah
       clear hi hk
       have HR := Aside0.mk hR
       have hw := hR.w0 rfl
       have HW := Aside0.mk hw
       clear hR hw
       refine ⟨rfl, ?_⟩
       go_simp
       exact (HI.out _ _ _).2 ⟨b0, b1, b2, b3, b4, b5, b6, true, b8, b9, b10, false, _, _, _, _, _, _, _, _, _, _, _, rfl, rfl, ⟨HR.out.f0, HR.out.f1, HR.out.f2, HR.out.f3, HR.out.f4, HR.out.f5, HR.out.f6, fun _ => rfl, HR.out.f8, HR.out.f9, HR.out.f10, HR.out.w0, fun h => (by cases h), fun h => (by cases h)⟩⟩
      case p8 =>
       intro ls a W hk hah hi
       obtain ⟨b0, b1, b2, b3, b4, b5, b6, b7, b8, b9, b10, b11, y0, y1, y2, y3, y4, y5, y6, y7, y8, y9, y10, rfl, rfl, hR⟩ := (HI.out _ _ _).1 hi
       obtain rfl : b8 = false := by simpa using hk
       obtain rfl : b11 = false := by cases b11 with | false => rfl | true => have h := hR.w2 rfl; simp at h
       simp [Ahead, Region.binds] at hah
       obtain ⟨rfl, rfl, rfl⟩ := hah
       clear hi hk
       have HR := Aside0.mk hR
       have hw := hR.w0 rfl
       have HW := Aside0.mk hw
       clear hR hw
       refine ⟨rfl, ?_⟩
       have e5 := HR.out.f5 rfl
       have e6 := HR.out.f6 rfl
       have e7 := HR.out.f7 rfl
       subst e5 e6 e7
       go_simp
       refine ⟨trivial, (callsIn_wide.2 (HND.out _ HW.out.1)).mono ?_⟩
       rintro e W' ⟨rfl, hb'⟩
       exact (HI.out _ _ _).2 ⟨b0, b1, b2, b3, b4, true, true, true, true, b9, b10, false, _, _, _, _, _, _, _, _, _, _, _, rfl, rfl, ⟨HR.out.f0, HR.out.f1, HR.out.f2, HR.out.f3, HR.out.f4, HR.out.f5, HR.out.f6, HR.out.f7, fun _ => rfl, HR.out.f9, HR.out.f10, fun _ => ⟨grown_below HW.out.1 hb', HW.out.2.step (hb'.block mb2 (by obtain ⟨_, h, _⟩ := HW.out.2; exact h.lt))⟩, fun h => (by cases h), fun h => (by cases h)⟩⟩
      case p9 =>
       intro ls a W hk hah hi
       obtain ⟨b0, b1, b2, b3, b4, b5, b6, b7, b8, b9, b10, b11, y0, y1, y2, y3, y4, y5, y6, y7, y8, y9, y10, rfl, rfl, hR⟩ := (HI.out _ _ _).1 hi
       obtain rfl : b9 = false := by simpa using hk
       obtain rfl : b11 = false := by cases b11 with | false => rfl | true => have h := hR.w2 rfl; simp at h
       simp [Ahead, Region.binds] at hah
       obtain ⟨rfl, rfl⟩ := hah
       clear hi hk
       have HR := Aside0.mk hR
       have hw := hR.w0 rfl
       have HW := Aside0.mk hw
       clear hR hw
       refine ⟨rfl, ?_⟩
       have e5 := HR.out.f5 rfl
       have e8 := HR.out.f8 rfl
       subst e5 e8
       have hwr : IntKind.i64.wrap (ro2 - ne) = ro2 - ne := IntWalk.i64_in _ (by omega)
       go_simp
       exact (HI.out _ _ _).2 ⟨b0, b1, b2, b3, b4, true, b6, b7, true, true, b10, false, _, _, _, _, _, _, _, _, _, _, _, rfl, rfl, ⟨HR.out.f0, HR.out.f1, HR.out.f2, HR.out.f3, HR.out.f4, HR.out.f5, HR.out.f6, HR.out.f7, HR.out.f8, fun _ => rfl, HR.out.f10, HR.out.w0, fun h => (by cases h), fun h => (by cases h)⟩⟩
      case p10 =>
       intro ls a W hk hah hi
       obtain ⟨b0, b1, b2, b3, b4, b5, b6, b7, b8, b9, b10, b11, y0, y1, y2, y3, y4, y5, y6, y7, y8, y9, y10, rfl, rfl, hR⟩ := (HI.out _ _ _).1 hi
       obtain rfl : b10 = false := by simpa using hk
       obtain rfl : b11 = false := by cases b11 with | false => rfl | true => have h := hR.w2 rfl; simp at h
       simp [Ahead, Region.binds] at hah
       obtain ⟨rfl, rfl⟩ := hah
       clear hi hk
       have HR := Aside0.mk hR
       have hw := hR.w0 rfl
       have HW := Aside0.mk hw
       clear hR hw
       refine ⟨rfl, ?_⟩
       have e0 := HR.out.f0 rfl
       have e9 := HR.out.f9 rfl
       subst e0 e9
       go_simp
       exact (HI.out _ _ _).2 ⟨true, b1, b2, b3, b4, b5, b6, b7, b8, true, true, false, _, _, _, _, _, _, _, _, _, _, _, rfl, rfl, ⟨HR.out.f0, HR.out.f1, HR.out.f2, HR.out.f3, HR.out.f4, HR.out.f5, HR.out.f6, HR.out.f7, HR.out.f8, HR.out.f9, fun _ => rfl, HR.out.w0, fun h => (by cases h), fun h => (by cases h)⟩⟩
      case p11 =>
       intro ls a W hk hah hi
       obtain ⟨b0, b1, b2, b3, b4, b5, b6, b7, b8, b9, b10, b11, y0, y1, y2, y3, y4, y5, y6, y7, y8, y9, y10, rfl, rfl, hR⟩ := (HI.out _ _ _).1 hi
       obtain rfl : b11 = false := by simpa using hk
       simp [Ahead, Region.binds] at hah
       obtain ⟨rfl, rfl, rfl, rfl, rfl, rfl, rfl, rfl, rfl, rfl, _, rfl, _⟩ := hah
       clear hi hk
       have HR := Aside0.mk hR
       have hw := hR.w0 rfl
       have HW := Aside0.mk hw
       clear hR hw
       refine ⟨rfl, ?_⟩
       have e0 := HR.out.f0 rfl
       have e1 := HR.out.f1 rfl
       have e2 := HR.out.f2 rfl
       have e3 := HR.out.f3 rfl
       have e4 := HR.out.f4 rfl
       have e5 := HR.out.f5 rfl
       have e6 := HR.out.f6 rfl
       have e7 := HR.out.f7 rfl
       have e8 := HR.out.f8 rfl
       have e9 := HR.out.f9 rfl
       have e10 := HR.out.f10 rfl
       subst e0 e1 e2 e3 e4 e5 e6 e7 e8 e9 e10
       have hN := G6.out.kept HW.out.1 (by simp; omega)
       have c1' := hN.cell
       have c2' := hN.frozen
       clear hN
       go_simp
       exact (HI.out _ _ _).2 ⟨true, true, true, true, true, true, true, true, true, true, true, true, _, _, _, _, _, _, _, _, _, _, _, rfl, rfl, ⟨HR.out.f0, HR.out.f1, HR.out.f2, HR.out.f3, HR.out.f4, HR.out.f5, HR.out.f6, HR.out.f7, HR.out.f8, HR.out.f9, HR.out.f10, (fun h => by cases h), (fun _ => rfl), fun _ => ⟨W, HW.out.1, HW.out.2, rfl⟩⟩⟩
      case fin =>
       intro ls a W hi hst
       obtain ⟨b0, b1, b2, b3, b4, b5, b6, b7, b8, b9, b10, b11, y0, y1, y2, y3, y4, y5, y6, y7, y8, y9, y10, rfl, rfl, hR⟩ := (HI.out _ _ _).1 hi
       clear hi
       obtain rfl : b0 = true := by
        cases b0 with
        | true => rfl
        | false =>
         exfalso
         obtain ⟨e, he, hbd, hne⟩ := hst 0 rfl _ rfl
         simp at he
       obtain rfl : b1 = true := by
        cases b1 with
        | true => rfl
        | false =>
         exfalso
         obtain ⟨e, he, hbd, hne⟩ := hst 1 rfl _ rfl
         simp at he
       obtain rfl : b2 = true := by
        cases b2 with
        | true => rfl
        | false =>
         exfalso
         obtain ⟨e, he, hbd, hne⟩ := hst 2 rfl _ rfl
         simp at he
       obtain rfl : b3 = true := by
        cases b3 with
        | true => rfl
        | false =>
         exfalso
         obtain ⟨e, he, hbd, hne⟩ := hst 3 rfl _ rfl
         simp at he
       obtain rfl : b4 = true := by
        cases b4 with
        | true => rfl
        | false =>
         exfalso
         obtain ⟨e, he, hbd, hne⟩ := hst 4 rfl _ rfl
         simp at he
         rcases he with rfl | rfl <;> simp at hne
       obtain rfl : b5 = true := by
        cases b5 with
        | true => rfl
        | false =>
         exfalso
         obtain ⟨e, he, hbd, hne⟩ := hst 5 rfl _ rfl
         simp at he
         rcases he with rfl | rfl <;> simp at hne
       obtain rfl : b6 = true := by
        cases b6 with
        | true => rfl
        | false =>
         exfalso
         obtain ⟨e, he, hbd, hne⟩ := hst 6 rfl _ rfl
         simp at he
       obtain rfl : b7 = true := by
        cases b7 with
        | true => rfl
        | false =>
         exfalso
         obtain ⟨e, he, hbd, hne⟩ := hst 7 rfl _ rfl
         simp at he
       obtain rfl : b8 = true := by
        cases b8 with
        | true => rfl
        | false =>
         exfalso
         obtain ⟨e, he, hbd, hne⟩ := hst 8 rfl _ rfl
         simp at he
         rcases he with rfl | rfl | rfl <;> simp at hne
       obtain rfl : b9 = true := by
        cases b9 with
        | true => rfl
        | false =>
         exfalso
         obtain ⟨e, he, hbd, hne⟩ := hst 9 rfl _ rfl
         simp at he
         rcases he with rfl | rfl <;> simp at hne
       obtain rfl : b10 = true := by
        cases b10 with
        | true => rfl
        | false =>
         exfalso
         obtain ⟨e, he, hbd, hne⟩ := hst 10 rfl _ rfl
         simp at he
         rcases he with rfl | rfl <;> simp at hne
       obtain rfl : b11 = true := by
        cases b11 with
        | true => rfl
        | false =>
         exfalso
         obtain ⟨e, he, hbd, hne⟩ := hst 11 rfl _ rfl
         simp at he
         rcases he with rfl | rfl | rfl | rfl | rfl | rfl | rfl | rfl | rfl | rfl | rfl | rfl | rfl <;> simp at hne
       obtain ⟨Wp, hgp, hrp, rfl⟩ := hR.w1 rfl
       clear hR hst
       have HGP := Aside0.mk hgp
       have HRP := Aside0.mk hrp
       clear hgp hrp
       gi_wp2
       have k1 := grownBy_setCell' Wp W5.heap.size (.int .i64 (mn acc (ro2 - ne)))
       have hsp := HGP.out.size
       have hs1 := k1.size
       have kv : ∀ j, j < V.heap.size → j ≠ mb2 → j ≠ W5.heap.size → (Wp.setCell ⟨W5.heap.size, 0, none⟩ (.int .i64 (mn acc (ro2 - ne)))).heap[j]? = V.heap[j]? := fun j h1 h2 h3 => (k1.block j (by omega) (by simp; exact h3)).trans (HGP.out.block j h1 (by simp; exact h2))
       refine ⟨(KeepsFrom.of_grownBy HGP.out (fun j e => by cases e; omega)).trans ((KeepsOthers.setCell _ _ _).from _), ⟨kv _ (by omega) (by omega) (by omega), kv _ (by omega) (by omega) (by omega)⟩, HRP.out.step (k1.block mb2 (by omega) (by simp; omega)), grown_own (grown_trans G2.out HGP.out) k1 (fun x e => by cases e; rw [hsZ]; omega), (G3.out.kept HGP.out (by simp; omega)).kept k1 (by simp; omega), (G4.out.kept HGP.out (by simp; omega)).kept k1 (by simp; omega), (G5.out.kept HGP.out (by simp; omega)).kept k1 (by simp; omega), ?_, by omega⟩
       rw [HSN.out]
       exact (G6.out.kept HGP.out (by simp; omega)).set _
     case done =>
      rintro D ys W hD rfl ⟨g1, g2, g3, g4, g5, g6, g7⟩ hK
      have hv : spareOf l0 l1 x (valS (partsS HM5.out)) = r1 := by rw [valS_all]; exact H1.out
      rw [hv] at g6
      have e6 := g6.cell
      have G2 := Aside0.mk g2
      clear hv g1 g2 g3 g4 g5 g6
      gi_wp2
      refine ⟨by simp, .inl ⟨_, _, rfl, run_takeDeferred hK, ?_⟩⟩
      have k3 := grownBy_putObj' W D (.deferred none)
      have hmz := HOZ.out.lt.2.1
      have hbV : Below w.heap.size w W := ((HBZW.out.alloc HBZW.out.size _)).grown G2.out (by have := HBZW.out.size; rw [hsZ]; omega) (fun j e => by cases e; omega)
      exact ⟨_, results_tmp2 rfl _ _ _, rfl, hbV.grown k3 hbV.size (fun j e => by cases e; omega)⟩
     case stop =>
      rintro D c pre W hD hp h hK
      exact h.elim
 ·rw [if_neg he] at h
  simp only [Prod.mk.injEq] at h
  obtain ⟨rfl, rfl⟩ := h
  have hA := fun o1 o2 => askedSet_no (Kd.C_below hr0 (hbx o1 o2)) hc0 (Kd.C_below hr1 (hbx o1 o2)) hc1 (Kd.C_below hr2 (hbx o1 o2)) hc2 he
  have HA := Aside0.mk (hA (.cells #[.slice A1 l1.length c1] 23) (.cells #[.int .i64 x.f0, .int .i64 x.f1, .int .i64 x.f2.f0, .int .i64 x.f2.f1, .int .i64 x.f3] 72))
  have hbn : (askSetErr l0 l1 l2 != 0) = true := by simpa using he
  have hbe : (askSetErr l0 l1 l2 == 0) = false := by simpa using he
  generalize askSetErr l0 l1 l2 = z at *
  clear hA he hr0 hr1 hr2 hbx
  go_enter Tryz.func38, Tryz.ntmps38
  go_wp2_with fail
  refine HA.out.mono ?_
  rintro e w2 ⟨p, rfl, hb⟩
  have HB := Aside0.mk hb
  clear hb
  go_wp2
  go_ret2
  exact ⟨rfl, below_refl_trans (below_alloc (below_alloc (Below.refl _ _) _) _) HB.out⟩
end Go.Proofs.YthonlcnmjlldiaaGreat.P
namespace Go.Proofs.YthonlcnmjlldiaaGreat.P
open Go.Shelf Go.RowKit Go.Proofs.YthonlcnmjlldiaaGreatW.PrintWords Go.Proofs.YthonlcnmjlldiaaGreatW.PrintLast Go.Proofs.YthonlcnmjlldiaaGreatW.PrintMore
def leF (x y : M9) : Bool := !(ltOf cmpF) y x
theorem leF_total (x y : M9) : (leF x y || leF y x) = true := by
 unfold leF
 cases h1 : ltOf cmpF y x
 ·rfl
 ·cases h2 : ltOf cmpF x y
  ·rfl
  ·have := swoF.trans _ _ _ h1 h2
   rw [swoF.irrefl] at this
   cases this
theorem leF_trans (x y z : M9) (h1 : leF x y = true) (h2 : leF y z = true) : leF x z = true := by
 unfold leF at *
 rw [Bool.not_eq_true'] at *
 exact swoF.ntrans _ _ _ h2 h1
theorem leF_anti (x y : M9) (h1 : leF x y = true) (h2 : leF y x = true) : x = y := by
 unfold leF at *
 rw [Bool.not_eq_true'] at *
 exact totF _ _ h2 h1
def insM (x : M9) : List M9 → List M9
 | [] => [x]
 | y :: ys => if leF x y then x :: y :: ys else y :: insM x ys
def sortM : List M9 → List M9
 | [] => []
 | x :: xs => insM x (sortM xs)
theorem insM_perm (x : M9) (l : List M9) : (insM x l).Perm (x :: l) := by
 induction l with
 | nil => exact List.Perm.refl _
 | cons y ys ih =>
  unfold insM
  split
  ·exact List.Perm.refl _
  ·exact (List.Perm.cons y ih).trans (List.Perm.swap x y ys)
theorem sortM_perm (l : List M9) : (sortM l).Perm l := by
 induction l with
 | nil => exact List.Perm.refl _
 | cons x xs ih => exact (insM_perm x _).trans (List.Perm.cons x ih)
theorem insM_sorted (x : M9) (l : List M9) (h : l.Pairwise (fun a b => leF a b = true)) : (insM x l).Pairwise (fun a b => leF a b = true) := by
 induction l with
 | nil => simp [insM]
 | cons y ys ih =>
  rw [List.pairwise_cons] at h
  unfold insM
  split
  ·rename_i hxy
   rw [List.pairwise_cons]
   refine ⟨fun z hz => ?_, by rw [List.pairwise_cons]; exact h⟩
   rcases List.mem_cons.1 hz with rfl | hz
   ·exact hxy
   ·exact leF_trans _ _ _ hxy (h.1 z hz)
  ·rename_i hxy
   rw [List.pairwise_cons]
   refine ⟨fun z hz => ?_, ih h.2⟩
   rcases List.mem_cons.1 ((insM_perm x ys).mem_iff.1 hz) with rfl | hz
   ·have := leF_total z y
    simpa [hxy] using this
   ·exact h.1 z hz
theorem sortM_sorted (l : List M9) : (sortM l).Pairwise (fun a b => leF a b = true) := by
 induction l with
 | nil => simp [sortM]
 | cons x xs ih => exact insM_sorted x _ ih
def partsC (m : Nat) : List M9 := sortM ((subsN m (m + 1)).map (Fin.ofNat 512))
theorem partsF_sorted (m : Nat) : (partsF m).Pairwise (fun a b => leF a b = true) := List.pairwise_mergeSort leF_trans leF_total _
theorem partsF_c (m : Nat) : partsF m = partsC m :=
 List.Perm.eq_of_pairwise (fun a b _ _ => leF_anti a b) (partsF_sorted m) (sortM_sorted _) ((List.mergeSort_perm _ _).trans (sortM_perm _).symm)
def crowdC (k : List Seat) (l : List Order) (m : Nat) : Option M9 := (partsC m).find? (fun s => crowdB k l (s.val : Int))
theorem crowdI_c : crowdI = crowdC := by funext k l m; unfold crowdI crowdC; rw [partsF_c]
def fitsC (k : List Seat) (l : List Order) (m : Nat) : Bool := (crowdC k l m).isNone
theorem fitsB_c : fitsB = fitsC := by funext k l m; unfold fitsB fitsC; rw [crowdI_c]
def crowdsC (k : List Seat) (l : List Order) : List Nat := crowdsOf k l ((partsC (allN l)).map (·.val))
theorem crowdsN_c : crowdsN = crowdsC := by funext k l; unfold crowdsN crowdsC; rw [partsF_c]
def fullStepC (k : List Seat) (l : List Order) (best s : Nat) : Nat := if aheadB l s best && fitsC k l s then s else best
theorem fullStep_c : fullStep = fullStepC := by funext k l b s; unfold fullStep fullStepC; rw [fitsB_c]
def fullC (k : List Seat) (l : List Order) : Nat := ((partsC (allN l)).map (·.val)).foldl (fullStepC k l) 0
theorem fullN_c : fullN = fullC := by funext k l; unfold fullN fullOf fullC; rw [partsF_c, fullStep_c]
def fewestOfC (k : List Seat) (l : List Order) (most : Nat) : Option (List Nat) := ((waysL l.length most 0 []).find? (fun of => (firN of).all (fitsC k l))).map firN
theorem fewestOf_c : fewestOf = fewestOfC := by funext k l m; unfold fewestOf fewestOfC; rw [fitsB_c]
def fewestC (k : List Seat) (l : List Order) : Option (List Nat) := (List.range (l.length + 1)).findSome? (fewestOfC k l)
theorem fewestN_c : fewestN = fewestC := by funext k l; unfold fewestN fewestC; rw [fewestOf_c]
def spareC (k : List Seat) (l : List Order) (m : Nat) (x : Order) : Int := spareOf k l x ((partsC m).map (·.val))
theorem spareN_c : spareN = spareC := by funext k l m x; unfold spareN spareC; rw [partsF_c]
def kilnL : List Seat := [⟨⟨1000, 1050⟩, 5, 10⟩, ⟨⟨1040, 1100⟩, 5, 6⟩, ⟨⟨1000, 1020⟩, 1, 20⟩]
def ordersL : List Order := [⟨1, 8, ⟨990, 1060⟩, 3⟩, ⟨2, 12, ⟨1000, 1120⟩, 4⟩, ⟨3, 5, ⟨1000, 1050⟩, 5⟩, ⟨4, 20, ⟨900, 1100⟩, 0⟩]
theorem ex_room : plan_Room.f kilnL ordersL [0, 1] = some (16, 0) := by decide +kernel
theorem ex_crowd : plan_Crowd.f kilnL ordersL [0, 1, 2] = some ([0, 1], 0) := by unfold plan_Crowd.f; rw [crowdI_c]; decide +kernel
theorem ex_spare : plan_Spare.f kilnL ordersL [0] 3 5 1000 1050 5 = some (2, 0) := by unfold plan_Spare.f spareR; rw [spareN_c, fitsB_c]; decide +kernel
theorem ex_full : plan_Fullest.f kilnL ordersL = some ([1, 3], 0) := by unfold plan_Fullest.f; rw [fullN_c]; decide +kernel
theorem ex_fewest : plan_Fewest.f kilnL ordersL = some ([[0, 3], [1], [2]], 0) := by unfold plan_Fewest.f; rw [fewestN_c]; decide +kernel
theorem ex_reason : plan_Reason.f kilnL ordersL 2 = some ([[0, 1], [0, 2], [1, 2]], 0) := by unfold plan_Reason.f reasonR fittedB crowdsL; rw [fewestN_c, crowdsN_c]; decide +kernel
theorem ex_moves : plan_Moves.f kilnL ordersL = some ([0, 1, 2], 0) := by unfold plan_Moves.f movesL movesTo moveB; rw [fewestN_c]; decide +kernel
theorem ex_check : plan_CheckReason.f kilnL ordersL 2 [[0, 1], [0, 2], [1, 2]] = some 0 := by decide +kernel
end Go.Proofs.YthonlcnmjlldiaaGreat.P
namespace Go.Proofs.YthonlcnmjlldiaaGreat.P
open Go.RowKit Go.Proofs.YthonlcnmjlldiaaGreatW.PrintWords Go.Proofs.YthonlcnmjlldiaaGreatW.PrintLast Go.Proofs.YthonlcnmjlldiaaGreatW.PrintMore
theorem subB_bits {a b : Nat} : subB a b = true ↔ ∀ i, a.testBit i = true → b.testBit i = true := by
 unfold subB
 rw [beq_iff_eq]
 constructor
 ·intro h i hi
  have := congrArg (fun n => n.testBit i) h
  simp only [Nat.testBit_and, hi, Bool.true_and] at this
  exact this
 ·intro h
  apply Nat.eq_of_testBit_eq
  intro i
  rw [Nat.testBit_and]
  cases ha : a.testBit i
  ·rfl
  ·simp [h i ha]
theorem subB_refl (a : Nat) : subB a a = true := subB_bits.2 fun _ h => h
theorem subB_trans {a b c : Nat} (h1 : subB a b = true) (h2 : subB b c = true) : subB a c = true := subB_bits.2 fun i h => subB_bits.1 h2 i (subB_bits.1 h1 i h)
theorem subB_anti {a b : Nat} (h1 : subB a b = true) (h2 : subB b a = true) : a = b := Nat.le_antisymm (subB_le h1) (subB_le h2)
theorem filter_lt {α : Type} {p q : α → Bool} (hpq : ∀ x, p x = true → q x = true) : ∀ {l : List α}, (∃ x ∈ l, q x = true ∧ p x = false) → (l.filter p).length < (l.filter q).length
 | [], ⟨_, h, _⟩ => by simp at h
 | y :: ys, ⟨x, hx, h1, h2⟩ => by
  have le : ∀ l : List α, (l.filter p).length ≤ (l.filter q).length := by
   intro l
   induction l with
   | nil => simp
   | cons z zs ih =>
    rw [List.filter_cons, List.filter_cons]
    cases hp : p z
    ·cases hq : q z <;> simp <;> omega
    ·simp [hpq z hp]; omega
  rw [List.filter_cons, List.filter_cons]
  rcases List.mem_cons.1 hx with rfl | hx
  ·have := le ys
   simp [h1, h2]
   omega
  ·have ih := filter_lt hpq ⟨x, hx, h1, h2⟩
   cases hp : p y
   ·cases hq : q y <;> simp <;> omega
   ·simp [hpq y hp]; omega
theorem subB_shorter {a b : Nat} (ha : a < 512) (hb : b < 512) (h : subB a b = true) (hn : a ≠ b) : (bitsL (a : Int)).length < (bitsL (b : Int)).length := by
 unfold bitsL
 rw [List.length_map, List.length_map]
 simp only [Int.toNat_natCast]
 refine filter_lt (subB_bits.1 h) ?_
 refine Classical.byContradiction fun hc => hn ?_
 refine subB_anti h (subB_bits.2 fun i hi => ?_)
 refine Classical.byContradiction fun hf => hc ?_
 have hi9 : i < 9 := by
  refine Classical.byContradiction fun h9 => ?_
  have h1 := Nat.ge_two_pow_of_testBit hi
  have h2 : 2 ^ 9 ≤ 2 ^ i := Nat.pow_le_pow_right (by omega) (by omega)
  omega
 exact ⟨i, List.mem_range.2 hi9, hi, by simpa using hf⟩
theorem subB_before {a b : Nat} (ha : a < 512) (hb : b < 512) (h : subB a b = true) (hn : a ≠ b) : cmpM (a : Int) (b : Int) < 0 := by
 have := subB_shorter ha hb h hn
 unfold cmpM
 rw [if_neg (by omega)]
 omega
theorem leF_cmp {a b : M9} (h : leF a b = true) (hn : cmpM (b.val : Int) (a.val : Int) < 0) : False := by
 unfold leF ltOf cmpF at h
 simp at h
 omega
def masksC (k : List Seat) (l : List Order) : List Nat := (List.range (2 ^ l.length)).filter (fun m : Nat => crowdB k l (m : Int))
def leastB (k : List Seat) (l : List Order) (s : Nat) : Bool := crowdB k l (s : Int) && (masksC k l).all (fun t => t == s || !(subB t s))
theorem masksC_mem {k : List Seat} {l : List Order} {m : Nat} : m ∈ masksC k l ↔ m < 2 ^ l.length ∧ crowdB k l (m : Int) = true := by simp [masksC]
theorem leastB_iff {k : List Seat} {l : List Order} {s : Nat} : leastB k l s = true ↔ crowdB k l (s : Int) = true ∧ ∀ t : Nat, t < 2 ^ l.length → crowdB k l (t : Int) = true → subB t s = true → t = s := by
 unfold leastB
 rw [Bool.and_eq_true, List.all_eq_true]
 refine and_congr_right fun _ => ⟨fun h t h1 h2 h3 => ?_, fun h t ht => ?_⟩
 ·have := h t (masksC_mem.2 ⟨h1, h2⟩)
  simpa [h3] using this
 ·obtain ⟨h1, h2⟩ := masksC_mem.1 ht
  cases h3 : subB t s
  ·simp
  ·simp [h t h1 h2 h3]
theorem least_in {k : List Seat} {l : List Order} : ∀ (q s : Nat), s ≤ q → s < 2 ^ l.length → crowdB k l (s : Int) = true → ∃ t : Nat, t < 2 ^ l.length ∧ leastB k l t = true ∧ subB t s = true := by
 intro q
 induction q with
 | zero =>
  intro s hq hs hc
  refine ⟨s, hs, leastB_iff.2 ⟨hc, fun t h1 h2 h3 => ?_⟩, subB_refl s⟩
  have := subB_le h3
  omega
 | succ q ih =>
  intro s hq hs hc
  cases hl : leastB k l s
  ·have : ∃ t : Nat, t < 2 ^ l.length ∧ crowdB k l (t : Int) = true ∧ subB t s = true ∧ t ≠ s := by
    refine Classical.byContradiction fun hn => ?_
    have : leastB k l s = true := leastB_iff.2 ⟨hc, fun t h1 h2 h3 => Classical.byContradiction fun h4 => hn ⟨t, h1, h2, h3, h4⟩⟩
    rw [hl] at this
    cases this
   obtain ⟨t, h1, h2, h3, h4⟩ := this
   have := subB_le h3
   obtain ⟨u, h5, h6, h7⟩ := ih t (by omega) h1 h2
   exact ⟨u, h5, h6, subB_trans h7 h3⟩
  ·exact ⟨s, hs, hl, subB_refl s⟩
def leastF (k : List Seat) (l : List Order) : List M9 := (partsF (allN l)).filter (fun x => leastB k l x.val)
theorem allN9 {l : List Order} (h9 : l.length ≤ 9) : allN l < 512 := by
 have h : 2 ^ l.length ≤ 2 ^ 9 := Nat.pow_le_pow_right (by omega) h9
 unfold allN
 omega
theorem sub_allN (l : List Order) {s : Nat} : subB s (allN l) = true ↔ s < 2 ^ l.length := by
 unfold subB allN
 rw [beq_iff_eq, Nat.and_two_pow_sub_one_eq_mod]
 constructor
 ·intro h
  rw [← h]
  exact Nat.mod_lt _ (Nat.two_pow_pos _)
 ·exact Nat.mod_eq_of_lt
theorem partsF_all {l : List Order} (h9 : l.length ≤ 9) {s : M9} : s ∈ partsF (allN l) ↔ s.val < 2 ^ l.length := by
 rw [partsF_mem (allN9 h9), sub_allN]
theorem ofNat_val {n : Nat} (h : n < 512) : (Fin.ofNat 512 n : M9).val = n := by simp [Fin.ofNat]; omega
theorem map_nodup {α β : Type} {f : α → β} : ∀ {xs : List α}, xs.Nodup → (∀ x ∈ xs, ∀ y ∈ xs, f x = f y → x = y) → (xs.map f).Nodup
 | [], _, _ => by simp
 | x :: xs, h, hf => by
  rw [List.nodup_cons] at h
  rw [List.map_cons, List.nodup_cons]
  refine ⟨fun hm => ?_, map_nodup h.2 (fun a ha b hb => hf a (by simp [ha]) b (by simp [hb]))⟩
  obtain ⟨y, hy, e⟩ := List.mem_map.1 hm
  have := hf y (by simp [hy]) x (by simp) e
  subst this
  exact h.1 hy
theorem partsF_nodup {m : Nat} (hm : m < 512) : (partsF m).Nodup := by
 refine (List.mergeSort_perm _ _).nodup_iff.2 (map_nodup ?_ ?_)
 ·unfold subsN
  exact List.nodup_range.sublist List.filter_sublist
 ·intro x hx y hy e
  have h1 := (subsN_mem.1 hx).1
  have h2 := (subsN_mem.1 hy).1
  have := congrArg Fin.val e
  rw [ofNat_val (by omega), ofNat_val (by omega)] at this
  exact this
theorem crowds_pre {k : List Seat} {l : List Order} (h9 : l.length ≤ 9) : ∀ (post pre : List M9), partsF (allN l) = pre ++ post → crowdsOf k l (pre.map (·.val)) = (pre.filter (fun x => leastB k l x.val)).map (·.val) → crowdsOf k l ((partsF (allN l)).map (·.val)) = (leastF k l).map (·.val)
 | [], pre, h, h2 => by
  rw [List.append_nil] at h
  unfold leastF
  rw [h]
  exact h2
 | s :: post, pre, h, h2 => by
  refine crowds_pre h9 post (pre ++ [s]) (by rw [h]; simp) ?_
  have hs : s.val < 2 ^ l.length := (partsF_all h9).1 (by rw [h]; simp)
  have hsorted := partsF_sorted (allN l)
  rw [h] at hsorted
  have hnd : (pre ++ s :: post).Nodup := by rw [← h]; exact partsF_nodup (allN9 h9)
  rw [List.map_append, List.map_cons, List.map_nil, crowdsOf_snoc, h2, List.filter_append, List.map_append]
  unfold crowdStep
  have key : (crowdB k l ((s.val : Nat) : Int) && !(((pre.filter (fun x => leastB k l x.val)).map (·.val)).any (fun c => subB c s.val))) = leastB k l s.val := by
   cases hc : crowdB k l ((s.val : Nat) : Int)
   ·simp [leastB, hc]
   ·rw [Bool.true_and, Bool.eq_iff_iff, Bool.not_eq_true', leastB_iff]
    constructor
    ·intro ha
     refine ⟨hc, fun t h1 h3 h4 => Classical.byContradiction fun h5 => ?_⟩
     obtain ⟨u, hu1, hu2, hu3⟩ := least_in (k := k) (l := l) t t (Nat.le_refl _) h1 h3
     have hus : subB u s.val = true := subB_trans hu3 h4
     have h512 : 2 ^ l.length ≤ 512 := Nat.pow_le_pow_right (n := 2) (by omega) h9
     have hne : u ≠ s.val := by
      intro e
      have e1 := subB_le hu3
      have e2 := subB_le h4
      omega
     have hmem : (⟨u, by omega⟩ : M9) ∈ pre ++ s :: post := by rw [← h]; exact (partsF_all h9).2 hu1
     have hb := subB_before (by omega) s.isLt hus hne
     rcases List.mem_append.1 hmem with hp | hp
     ·have : (((pre.filter (fun x => leastB k l x.val)).map (·.val)).any (fun c => subB c s.val)) = true := by
       rw [List.any_eq_true]
       exact ⟨u, List.mem_map.2 ⟨_, List.mem_filter.2 ⟨hp, hu2⟩, rfl⟩, hus⟩
      rw [ha] at this
      cases this
     ·rcases List.mem_cons.1 hp with hp | hp
      ·exact hne (congrArg Fin.val hp)
      ·have h6 := (List.pairwise_append.1 hsorted).2.1
       rw [List.pairwise_cons] at h6
       exact leF_cmp (h6.1 _ hp) hb
    ·rintro ⟨_, hl⟩
     rw [List.any_eq_false]
     intro c hc2 hsub
     obtain ⟨x, hx, rfl⟩ := List.mem_map.1 hc2
     obtain ⟨hx1, hx2⟩ := List.mem_filter.1 hx
     have hxl : x.val < 2 ^ l.length := (partsF_all h9).1 (by rw [h]; simp [hx1])
     have e := hl x.val hxl (leastB_iff.1 hx2).1 hsub
     have e2 : x = s := Fin.ext e
     subst e2
     exact (List.nodup_append.1 hnd).2.2 x hx1 x (by simp) rfl
  rw [key]
  cases hl : leastB k l s.val <;> simp [hl]
theorem crowdsN_least (k : List Seat) {l : List Order} (h9 : l.length ≤ 9) : crowdsN k l = (leastF k l).map (·.val) :=
 crowds_pre h9 _ [] rfl rfl
theorem leastF_sorted (k : List Seat) (l : List Order) : (leastF k l).Pairwise (fun a b => leF a b = true) := (partsF_sorted _).sublist List.filter_sublist
def insAll (acc : List M9) : List Nat → List M9
 | [] => acc
 | m :: ms => insAll (insM (Fin.ofNat 512 m) acc) ms
theorem insAll_perm : ∀ (ms : List Nat) (acc : List M9), (insAll acc ms).Perm (ms.map (Fin.ofNat 512) ++ acc)
 | [], acc => List.Perm.refl _
 | m :: ms, acc => by
  unfold insAll
  refine (insAll_perm ms _).trans ?_
  refine ((insM_perm (Fin.ofNat 512 m) acc).append_left (ms.map (Fin.ofNat 512))).trans ?_
  exact List.perm_middle
theorem insAll_sorted : ∀ (ms : List Nat) (acc : List M9), acc.Pairwise (fun a b => leF a b = true) → (insAll acc ms).Pairwise (fun a b => leF a b = true)
 | [], acc, h => h
 | m :: ms, acc, h => insAll_sorted ms _ (insM_sorted _ _ h)
theorem filter_map_ofNat {p : Nat → Bool} : ∀ {xs : List Nat}, (∀ x ∈ xs, x < 512) → (xs.map (Fin.ofNat 512)).filter (fun x : M9 => p x.val) = (xs.filter p).map (Fin.ofNat 512)
 | [], _ => rfl
 | x :: xs, h => by
  have hx : (Fin.ofNat 512 x : M9).val = x := ofNat_val (h x (by simp))
  rw [List.map_cons, List.filter_cons, List.filter_cons, filter_map_ofNat (fun y hy => h y (by simp [hy])), hx]
  split <;> simp
theorem leastF_put (k : List Seat) {l : List Order} (h9 : l.length ≤ 9) : insAll [] ((masksC k l).filter (leastB k l)) = leastF k l := by
 have h512 : 2 ^ l.length ≤ 512 := Nat.pow_le_pow_right (n := 2) (by omega) h9
 have hpos := Nat.two_pow_pos l.length
 refine List.Perm.eq_of_pairwise (fun a b _ _ => leF_anti a b) (insAll_sorted _ _ List.Pairwise.nil) (leastF_sorted k l) ?_
 refine (insAll_perm _ _).trans ?_
 rw [List.append_nil]
 have e1 : (masksC k l).filter (leastB k l) = (List.range (2 ^ l.length)).filter (leastB k l) := by
  unfold masksC
  rw [List.filter_filter]
  refine List.filter_congr (fun m _ => ?_)
  unfold leastB
  cases crowdB k l (m : Int) <;> simp
 have e2 : subsN (allN l) (allN l + 1) = List.range (2 ^ l.length) := by
  have : allN l + 1 = 2 ^ l.length := by unfold allN; omega
  rw [this]
  unfold subsN
  rw [List.filter_eq_self]
  intro s hs
  exact (sub_allN l).2 (List.mem_range.1 hs)
 rw [e1, ← filter_map_ofNat (p := leastB k l) (fun x hx => by have := List.mem_range.1 hx; omega)]
 unfold leastF
 refine List.Perm.filter _ ?_
 rw [← e2]
 exact (List.mergeSort_perm _ _).symm
end Go.Proofs.YthonlcnmjlldiaaGreat.P
namespace Go.Proofs.YthonlcnmjlldiaaGreat.P
open Go.RowKit Go.Proofs.YthonlcnmjlldiaaGreatW.PrintWords Go.Proofs.YthonlcnmjlldiaaGreatW.PrintLast Go.Proofs.YthonlcnmjlldiaaGreatW.PrintMore
attribute [local go_sem] max2_int min2_int max_two min_two max_three min_three max_four min_four
mutual
def potbankref06_first.l0 : Nat → List Int → List Int → Int → Option (Bool)
 | 0, _, _, _ => none
 | k + 1, x0, x1, x5 => if x5 < (x0.length : Int) then (potbankref06_first.j1 k x0 x1 x5 (decide (x5 < (x1.length : Int)))) else (potbankref06_first.j1 k x0 x1 x5 false)
def potbankref06_first.j1 : Nat → List Int → List Int → Int → Bool → Option (Bool)
 | 0, _, _, _, _ => none
 | k + 1, x0, x1, x5, x15 => if x15 = true then (if 0 ≤ x5 then (if x5 < (x0.length : Int) then (if x5 < (x1.length : Int) then (if (rd x0 x5) = (rd x1 x5) then (potbankref06_first.l0 k x0 x1 (wrap64 (x5 + 1))) else (some (decide ((rd x0 x5) < (rd x1 x5))))) else (none)) else (none)) else (none)) else (some (decide ((x0.length : Int) < (x1.length : Int))))
end
def potbankref06_first.f (k : Nat) (l0 : List Int) (l1 : List Int) : Option (Bool) := potbankref06_first.l0 k l0 l1 0
set_option maxHeartbeats 8000000 in
set_option maxRecDepth 100000 in
theorem potbankref06_first.calls (k : Nat) (A0 : Option Addr) (c0 : Nat) (l0 : List Int) (A1 : Option Addr) (c1 : Nat) (l1 : List Int) (r : Bool) (w : World) (hr0 : Kd.C (Kd.int .i64) w A0 l0.length l0) (hc0 : l0.length ≤ c0) (hr1 : Kd.C (Kd.int .i64) w A1 l1.length l1) (hc1 : l1.length ≤ c1) (h : potbankref06_first.f k l0 l1 = some r) :
  Calls Tryz.prog 109 #[.slice A0 l0.length c0, .slice A1 l1.length c1] w fun e w' => e = .returned (.bool r) ∧ Drawn0 w w' := by
 have HR0 := Aside0.mk hr0
 have HC0 := Aside0.mk hc0
 clear hr0 hc0
 have HR1 := Aside0.mk hr1
 have HC1 := Aside0.mk hc1
 clear hr1 hc1
 have H : (potbankref06_first.l0 k l0 l1 0) = some r := h
 clear h
 have H' := Aside0.mk H
 clear H
 go_enter Tryz.func109, Tryz.ntmps109
 go_wp2
 repeat (go_quiet (fail); try go_wp2)
 go_loopg [5] k (fun kq v5 w' => ∃ (x5_1 : Int), v5 = .int .i64 x5_1 ∧ Aside0 (potbankref06_first.l0 kq l0 l1 x5_1 = some r) ∧ Aside0 (kq ≤ k) ∧ Drawn0 w w')
 case atStart => exact ⟨(0), (by first | rfl | (simp; done) | (simp [*]; done)), H', ⟨Nat.le_refl _⟩, by repeat (first | exact Drawn0.refl _ | apply Drawn0.step)⟩
 case round =>
  clear H'
  try clear c1
  try clear p2
  obtain ⟨x5_1, rfl, HA, HK1, ⟨m1, rfl⟩⟩ := hrel
  cases gk with
  | zero => exact absurd HA.out (by simp [potbankref06_first.l0])
  | succ k1 =>
   have H := HA.out
   clear HA
   simp only [potbankref06_first.l0] at H
   have HC3 := Aside0.mk H
   clear H
   go_upto_region 2 with (fail)
   repeat (go_quiet (fail); go_upto_region 2 with (fail))
   go_cut [15] (fun v15 wc => ∃ (kq : Nat) (x15_2 : Bool), v15 = .bool x15_2 ∧ Aside0 (potbankref06_first.j1 kq l0 l1 x5_1 x15_2 = some r) ∧ Aside0 (kq ≤ k1) ∧ Drawn0 w wc)
   case first =>
    have H := HC3.out
    clear HC3
    by_cases c4 : x5_1 < (l0.length : Int)
    ·rw [if_pos c4] at H
     have c4b0 : decide (x5_1 < (l0.length : Int)) = true := decide_eq_true c4
     clear c4
     (first | rw [c4b0] | (simp only [i64_w, i32_w]; rw [c4b0]) | skip)
     have H' := Aside0.mk H
     clear H
     go_wp2
     repeat (go_quiet (fail); try go_wp2)
     go_meet
     case rel => exact ⟨_, (decide (x5_1 < (l1.length : Int))), (by first | rfl | (simp; done) | (simp [*]; done)), H', ⟨by have := HK1.out; first | omega | exact Nat.le_refl _⟩, by repeat (first | exact Drawn0.refl _ | apply Drawn0.step)⟩
    ·rw [if_neg c4] at H
     have c4b0 : decide (x5_1 < (l0.length : Int)) = false := decide_eq_false c4
     clear c4
     (first | rw [c4b0] | (simp only [i64_w, i32_w]; rw [c4b0]) | skip)
     have H' := Aside0.mk H
     clear H
     go_wp2
     repeat (go_quiet (fail); try go_wp2)
     go_meet
     case rel => exact ⟨_, (false), (by first | rfl | (simp; done) | (simp [*]; done)), H', ⟨by have := HK1.out; first | omega | exact Nat.le_refl _⟩, by repeat (first | exact Drawn0.refl _ | apply Drawn0.step)⟩
   case rest =>
    clear HC3
    try clear c1
    try clear p2
    try clear c4
    try clear c4b0
    try clear p2
    obtain ⟨kq, x15_2, rfl, HA, HJ2, ⟨mc2, rfl⟩⟩ := hcut
    cases kq with
    | zero => exact absurd HA.out (by simp [potbankref06_first.j1])
    | succ kj2 =>
     have H := HA.out
     clear HA
     simp only [potbankref06_first.j1] at H
     by_cases c5 : x15_2 = true
     ·subst c5
      rw [if_pos rfl] at H
      by_cases c6 : 0 ≤ x5_1
      ·rw [if_pos c6] at H
       have c6b0 : decide (0 ≤ x5_1) = true := decide_eq_true c6
       clear c6
       by_cases c7 : x5_1 < (l0.length : Int)
       ·rw [if_pos c7] at H
        have c7b0 : decide (x5_1 < (l0.length : Int)) = true := decide_eq_true c7
        clear c7
        by_cases c8 : x5_1 < (l1.length : Int)
        ·rw [if_pos c8] at H
         have c8b0 : decide (x5_1 < (l1.length : Int)) = true := decide_eq_true c8
         clear c8
         by_cases c9 : (rd l0 x5_1) = (rd l1 x5_1)
         ·rw [if_pos c9] at H
          have c9b0 : ((rd l0 x5_1) == (rd l1 x5_1)) = true := beq_iff_eq.mpr c9
          have c9b1 : ((rd l0 x5_1) != (rd l1 x5_1)) = false := bne_eq_false_iff_eq.mpr c9
          clear c9
          have H' := Aside0.mk H
          clear H
          have p241 : 0 ≤ (x5_1 : Int) := of_decide_eq_true (by first | (with_reducible assumption) | assumption)
          have q241 : x5_1 < (l0.length : Int) := of_decide_eq_true (by first | (with_reducible assumption) | assumption)
          obtain ⟨ad241, e241, hx241_0⟩ := Kd.at_int HR0.out x5_1 p241 q241
          cases e241
          replace p241 := eq_true p241
          replace q241 := eq_true q241
          have p242 : 0 ≤ (x5_1 : Int) := of_decide_eq_true (by first | (with_reducible assumption) | assumption)
          have q242 : x5_1 < (l1.length : Int) := of_decide_eq_true (by first | (with_reducible assumption) | assumption)
          obtain ⟨ad242, e242, hx242_0⟩ := Kd.at_int HR1.out x5_1 p242 q242
          cases e242
          replace p242 := eq_true p242
          replace q242 := eq_true q242
          go_wp2
          repeat (go_quiet (fail); try go_wp2)
          go_roundg kj2
          case measure => have := HK1.out; have := HJ2.out; omega
          case rel => exact ⟨(wrap64 (x5_1 + 1)), (by first | rfl | (simp; done) | (simp [*]; done)), H', ⟨by have := HK1.out; have := HJ2.out; omega⟩, by repeat (first | exact Drawn0.refl _ | apply Drawn0.step)⟩
         ·rw [if_neg c9] at H
          have c9b0 : ((rd l0 x5_1) == (rd l1 x5_1)) = false := beq_eq_false_iff_ne.mpr c9
          have c9b1 : ((rd l0 x5_1) != (rd l1 x5_1)) = true := bne_iff_ne.mpr c9
          obtain rfl := Option.some.inj H
          have p241 : 0 ≤ (x5_1 : Int) := of_decide_eq_true (by first | (with_reducible assumption) | assumption)
          have q241 : x5_1 < (l0.length : Int) := of_decide_eq_true (by first | (with_reducible assumption) | assumption)
          obtain ⟨ad241, e241, hx241_0⟩ := Kd.at_int HR0.out x5_1 p241 q241
          cases e241
          replace p241 := eq_true p241
          replace q241 := eq_true q241
          have p242 : 0 ≤ (x5_1 : Int) := of_decide_eq_true (by first | (with_reducible assumption) | assumption)
          have q242 : x5_1 < (l1.length : Int) := of_decide_eq_true (by first | (with_reducible assumption) | assumption)
          obtain ⟨ad242, e242, hx242_0⟩ := Kd.at_int HR1.out x5_1 p242 q242
          cases e242
          replace p242 := eq_true p242
          replace q242 := eq_true q242
          have p243 : 0 ≤ (x5_1 : Int) := of_decide_eq_true (by first | (with_reducible assumption) | assumption)
          have q243 : x5_1 < (l0.length : Int) := of_decide_eq_true (by first | (with_reducible assumption) | assumption)
          obtain ⟨ad243, e243, hx243_0⟩ := Kd.at_int HR0.out x5_1 p243 q243
          obtain rfl : ad241 = ad243 := (by injection e243)
          replace p243 := eq_true p243
          replace q243 := eq_true q243
          have p244 : 0 ≤ (x5_1 : Int) := of_decide_eq_true (by first | (with_reducible assumption) | assumption)
          have q244 : x5_1 < (l1.length : Int) := of_decide_eq_true (by first | (with_reducible assumption) | assumption)
          obtain ⟨ad244, e244, hx244_0⟩ := Kd.at_int HR1.out x5_1 p244 q244
          obtain rfl : ad242 = ad244 := (by injection e244)
          replace p244 := eq_true p244
          replace q244 := eq_true q244
          go_wp2
          repeat (go_quiet (fail); try go_wp2)
          go_ret
          exact ⟨by first | rfl | (simp; done) | (simp [*]; done), by repeat (first | exact Drawn0.refl _ | apply Drawn0.step)⟩
        ·rw [if_neg c8] at H
         exact absurd H (by simp)
       ·rw [if_neg c7] at H
        exact absurd H (by simp)
      ·rw [if_neg c6] at H
       exact absurd H (by simp)
     ·replace c5 := Bool.eq_false_iff.mpr c5
      subst c5
      rw [if_neg (show ¬ (false = true) by decide)] at H
      obtain rfl := Option.some.inj H
      go_wp2
      repeat (go_quiet (fail); try go_wp2)
      go_ret
      exact ⟨by first | rfl | (simp; done) | (simp [*]; done), by repeat (first | exact Drawn0.refl _ | apply Drawn0.step)⟩
def potbankref06_ahead.f (k : Nat) (l0 : List Int) (l1 : List Int) : Option (Bool) := if (l0.length : Int) = (l1.length : Int) then ((potbankref06_first.f k l0 l1).bind fun t245 => (some t245)) else (some (decide ((l0.length : Int) < (l1.length : Int))))
set_option maxHeartbeats 8000000 in
set_option maxRecDepth 100000 in
theorem potbankref06_ahead.calls (k : Nat) (A0 : Option Addr) (c0 : Nat) (l0 : List Int) (A1 : Option Addr) (c1 : Nat) (l1 : List Int) (r : Bool) (w : World) (hr0 : Kd.C (Kd.int .i64) w A0 l0.length l0) (hc0 : l0.length ≤ c0) (hr1 : Kd.C (Kd.int .i64) w A1 l1.length l1) (hc1 : l1.length ≤ c1) (h : potbankref06_ahead.f k l0 l1 = some r) :
  Calls Tryz.prog 76 #[.slice A0 l0.length c0, .slice A1 l1.length c1] w fun e w' => e = .returned (.bool r) ∧ Drawn0 w w' := by
 have HR0 := Aside0.mk hr0
 have HC0 := Aside0.mk hc0
 clear hr0 hc0
 have HR1 := Aside0.mk hr1
 have HC1 := Aside0.mk hc1
 clear hr1 hc1
 have H : (if (l0.length : Int) = (l1.length : Int) then ((potbankref06_first.f k l0 l1).bind fun t245 => (some t245)) else (some (decide ((l0.length : Int) < (l1.length : Int))))) = some r := h
 clear h
 by_cases c3 : (l0.length : Int) = (l1.length : Int)
 ·rw [if_pos c3] at H
  have c3b0 : ((l0.length : Int) == (l1.length : Int)) = true := beq_iff_eq.mpr c3
  have c3b1 : ((l0.length : Int) != (l1.length : Int)) = false := bne_eq_false_iff_eq.mpr c3
  have c3b2 : (l0.length == l1.length) = true := by first | simpa using c3 | (simp at c3 ⊢; omega)
  clear c3
  replace H := Option.bind_eq_some_iff.mp H
  obtain ⟨t245, A40, H⟩ := H
  replace H : (some t245) = some r := H
  have A4 := Aside0.mk A40
  clear A40
  obtain rfl := Option.some.inj H
  go_enter Tryz.func76, Tryz.ntmps76
  go_wp2_with (first | ((with_reducible refine gate_callee (f := 109) rfl ?_); refine goesL_ (some 17) rfl rfl Tryz.func109 (by kernel_rfl) rfl #[.slice A0 l0.length c0, .slice A1 l1.length c1] rfl (by (try simp only [List.map_toArray, List.map_cons, List.map_nil]); first | done | rfl | (simp only [List.length_drop, List.length_take]; rfl)) ?_; (with_reducible refine (potbankref06_first.calls k _ _ l0 _ _ l1 t245 _ ?side1 ?side2 ?side3 ?side4 A4.out).mono ?_); (case side1 => repeat (first | exact HR0.out | (with_reducible refine Kd.C_alloc ?_ _) | (with_reducible refine Kd.C_drewN ?_ _) | (with_reducible refine Kd.C_drew ?_))); (case side2 => exact HC0.out); (case side3 => repeat (first | exact HR1.out | (with_reducible refine Kd.C_alloc ?_ _) | (with_reducible refine Kd.C_drewN ?_ _) | (with_reducible refine Kd.C_drew ?_))); (case side4 => exact HC1.out); rintro e w' ⟨rfl, ⟨nd, rfl⟩⟩; refine ⟨_, rfl, ?_⟩))
  go_ret
  exact ⟨by first | rfl | (simp; done) | (simp [*]; done), by repeat (first | exact Drawn0.refl _ | apply Drawn0.step)⟩
 ·rw [if_neg c3] at H
  have c3b0 : ((l0.length : Int) == (l1.length : Int)) = false := beq_eq_false_iff_ne.mpr c3
  have c3b1 : ((l0.length : Int) != (l1.length : Int)) = true := bne_iff_ne.mpr c3
  have c3b2 : (l0.length == l1.length) = false := by first | simpa using c3 | (simp at c3 ⊢; omega)
  obtain rfl := Option.some.inj H
  go_enter Tryz.func76, Tryz.ntmps76
  go_wp2
  go_ret
  exact ⟨by first | rfl | (simp; done) | (simp [*]; done), by repeat (first | exact Drawn0.refl _ | apply Drawn0.step)⟩
def potbankref06_put.l0 : Nat → List (List Int) → List Int → Int → Option ((List (List Int)))
 | 0, _, _, _ => none
 | k + 1, x0, x1, x5 => if x5 < (x0.length : Int) then (if 0 ≤ x5 then ((potbankref06_ahead.f k (rd_L5 x0 x5) x1).bind fun t247 => (if t247 = true then (potbankref06_put.l0 k x0 x1 (wrap64 (x5 + 1))) else ((some (([] : List (List Int)) : List (List Int))).bind fun y248 => (if x5 ≤ (x0.length : Int) then ((some (x0.take (x5 : Int).toNat : List (List Int))).bind fun y251 => (if y248.length + y251.length < 5864062014805 then ((some (y248 ++ y251 : List (List Int))).bind fun y256 => ((some (([x1] : List (List Int)) : List (List Int))).bind fun y259 => (if y256.length + y259.length < 5864062014805 then ((some (y256 ++ y259 : List (List Int))).bind fun y262 => ((some (x0.drop (x5 : Int).toNat : List (List Int))).bind fun y265 => (if y262.length + y265.length < 5864062014805 then (some (y262 ++ y265)) else (none)))) else (none)))) else (none))) else (none))))) else (none)) else ((some (([] : List (List Int)) : List (List Int))).bind fun y273 => (if 0 ≤ x5 then (if x5 ≤ (x0.length : Int) then ((some (x0.take (x5 : Int).toNat : List (List Int))).bind fun y276 => (if y273.length + y276.length < 5864062014805 then ((some (y273 ++ y276 : List (List Int))).bind fun y281 => ((some (([x1] : List (List Int)) : List (List Int))).bind fun y284 => (if y281.length + y284.length < 5864062014805 then ((some (y281 ++ y284 : List (List Int))).bind fun y287 => ((some (x0.drop (x5 : Int).toNat : List (List Int))).bind fun y290 => (if y287.length + y290.length < 5864062014805 then (some (y287 ++ y290)) else (none)))) else (none)))) else (none))) else (none)) else (none)))
def potbankref06_put.f (k : Nat) (l0 : List (List Int)) (l1 : List Int) : Option ((List (List Int))) := potbankref06_put.l0 k l0 l1 0
def potbankref06_put.T4 : Bool × List (List Nat × List Nat) := (true, [([], []), ([], []), ([], []), ([1, 2], [1, 2]), ([0, 3], [0, 3]), ([], []), ([5], [5]), ([4, 6, 4], [4, 6]), ([], []), ([], []), ([8, 9], [8, 9]), ([7, 10, 7], [7, 10]), ([11, 11, 0, 1, 2, 3, 4, 5, 6, 7, 8, 9, 10, 11], [11])])
def potbankref06_put.B4 : List Nat := [0, 0, 0, 6, 15, 0, 32, 127, 0, 0, 768, 2047, 4095]
theorem potbankref06_put.tab4 : rtab .any (opsOf Tryz.f98 4) = potbankref06_put.T4 := by kernel_rfl
theorem potbankref06_put.bits4 : waitsOk potbankref06_put.T4.2 potbankref06_put.B4 = true := by kernel_rfl
set_option maxHeartbeats 8000000 in
set_option maxRecDepth 100000 in
theorem potbankref06_put.calls (k : Nat) (P0_ : Nat → Prop) (A0 : Option Addr) (c0 : Nat) (l0 : List (List Int)) (P1_ : Nat → Prop) (A1 : Option Addr) (c1 : Nat) (l1 : List Int) (r : List (List Int)) (w : World) (hs0 : Kd.V (Kd.slice 3 (Kd.int .i64)) 41 w w.heap.size (fun k_ => P0_ k_) (.slice A0 l0.length c0) l0) (hs1 : Kd.V (Kd.int .i64) 3 w w.heap.size (fun k_ => P1_ k_) (.slice A1 l1.length c1) l1) (h : potbankref06_put.f k l0 l1 = some r) :
  Calls Tryz.prog 98 #[.slice A0 l0.length c0, .slice A1 l1.length c1] w fun e w' => ∃ v0_ : Value, e = .returned (v0_) ∧ Kd.N (Kd.slice 3 (Kd.int .i64)) 41 w' w.heap.size (fun k_ => ((P0_ k_ ∨ P1_ k_) ∨ w.heap.size ≤ k_)) v0_ r ∧ Below w.heap.size w w' := by
 have HO0 := Aside0.mk (show Kd.V (Kd.slice 3 (Kd.int .i64)) 41 w w.heap.size (fun k_ => ((P0_ k_ ∨ P1_ k_) ∨ w.heap.size ≤ k_)) (.slice A0 l0.length c0) l0 from Kd.V_mono hs0 (fun k_ hk => .inl (.inl hk)))
 have HO1 := Aside0.mk (show Kd.V (Kd.int .i64) 3 w w.heap.size (fun k_ => ((P0_ k_ ∨ P1_ k_) ∨ w.heap.size ≤ k_)) (.slice A1 l1.length c1) l1 from Kd.V_mono hs1 (fun k_ hk => .inl (.inr hk)))
 have HB := Aside0.mk (Below.refl w.heap.size w)
 have H : (potbankref06_put.l0 k l0 l1 0) = some r := h
 clear h
 have H' := Aside0.mk H
 clear H
 go_enter Tryz.func98, Tryz.ntmps98
 go_wp2
 go_loopg [5] k (fun kq v5 w' => ∃ (x5_1 : Int), v5 = .int .i64 x5_1 ∧ Aside0 (potbankref06_put.l0 kq l0 l1 x5_1 = some r) ∧ Aside0 (kq ≤ k) ∧ Aside0 (Kd.V (Kd.slice 3 (Kd.int .i64)) 41 w' w.heap.size (fun k_ => ((P0_ k_ ∨ P1_ k_) ∨ w.heap.size ≤ k_)) (.slice A0 l0.length c0) l0) ∧ Aside0 (Kd.V (Kd.int .i64) 3 w' w.heap.size (fun k_ => ((P0_ k_ ∨ P1_ k_) ∨ w.heap.size ≤ k_)) (.slice A1 l1.length c1) l1) ∧ Aside0 (Below w.heap.size w w'))
 case atStart => exact ⟨(0), (by first | rfl | (simp; done) | (simp [*]; done)), H', ⟨Nat.le_refl _⟩, ⟨by (with_reducible repeat (first | apply Kd.V_alloc | apply Kd.V_drewN | apply Kd.V_drew)); exact HO0.out⟩, ⟨by (with_reducible repeat (first | apply Kd.V_alloc | apply Kd.V_drewN | apply Kd.V_drew)); exact HO1.out⟩, ⟨by repeat (first | exact HB.out | apply below_alloc | apply pw_below_drewN | apply below_drew1)⟩⟩
 case round =>
  clear H'
  try clear c1
  try clear p2
  obtain ⟨x5_1, rfl, HA, HK1, HO_0, HO_1, HB⟩ := hrel
  cases gk with
  | zero => exact absurd HA.out (by simp [potbankref06_put.l0])
  | succ k1 =>
   have H := HA.out
   clear HA
   simp only [potbankref06_put.l0] at H
   by_cases c3 : x5_1 < (l0.length : Int)
   ·rw [if_pos c3] at H
    have c3b0 : decide (x5_1 < (l0.length : Int)) = true := decide_eq_true c3
    clear c3
    by_cases c4 : 0 ≤ x5_1
    ·rw [if_pos c4] at H
     have c4b0 : decide (0 ≤ x5_1) = true := decide_eq_true c4
     clear c4
     replace H := Option.bind_eq_some_iff.mp H
     obtain ⟨t247, A50, H⟩ := H
     (try dsimp only at H)
     have A5 := Aside0.mk A50
     clear A50
     by_cases c6 : t247 = true
     ·subst c6
      rw [if_pos rfl] at H
      have H' := Aside0.mk H
      clear H
      have p246 : 0 ≤ (x5_1 : Int) := of_decide_eq_true (by first | (with_reducible assumption) | assumption)
      have q246 : x5_1 < (l0.length : Int) := of_decide_eq_true (by first | (with_reducible assumption) | assumption)
      obtain ⟨ad246, A246_0, c246_0, e246, hx246_0, hl246_0, hi246_0⟩ := at_L5 (Kd.V_reads' HO_0.out).2.2 x5_1 p246 q246
      cases e246
      obtain ⟨ce246, hce246, hMe246, hcc246⟩ := Kd.V_get HO_0.out [] x5_1 p246 (by first | exact q246 | exact of_decide_eq_true (by first | (with_reducible assumption) | assumption) | (have e_ := (Kd.V_reads' HO_0.out).1; omega))
      obtain ⟨ua246_0, uc246_0, rfl, ul246_0, ge246_0⟩ := Kd.FK_slice_open hMe246
      have hv246_0 := hcc246 0 _ rfl
      rw [Nat.add_zero, show ((Kd.slice 3 (Kd.int .i64))).sz = 1 from rfl, Nat.mul_one] at hv246_0
      replace hv246_0 := Option.some.inj (hv246_0.symm.trans hx246_0)
      injection hv246_0 with hva_ hvn_ hvc_
      rw [hva_] at ge246_0
      rw [hvc_] at ul246_0
      have HL246_0 := Aside0.mk (show Kd.V (Kd.int .i64) 3 _ w.heap.size _ _ (rd_L5 l0 x5_1) from Kd.V_mk ul246_0 ge246_0)
      clear hva_ hvn_ hvc_ ge246_0 ul246_0
      clear hcc246 hce246
      have HR246_0 := Aside0.mk hi246_0
      have HC246_0 := Aside0.mk hl246_0
      clear hi246_0 hl246_0
      replace p246 := eq_true p246
      replace q246 := eq_true q246
      go_wp2_with (first | (go_at_call 76; (with_reducible refine (potbankref06_ahead.calls k1 _ _ (rd_L5 l0 x5_1) _ _ l1 true _ ?side1 ?side2 ?side3 ?side4 A5.out).mono ?_); (case side1 => repeat (first | exact (by repeat (first | (with_reducible exact HR246_0.out) | (with_reducible refine Kd.C_alloc ?_ _) | (with_reducible refine Kd.C_drewN ?_ _) | (with_reducible refine Kd.C_drew ?_) | exact HR246_0.out)) | (with_reducible refine Kd.C_alloc ?_ _) | (with_reducible refine Kd.C_drewN ?_ _) | (with_reducible refine Kd.C_drew ?_))); (case side2 => exact HC246_0.out); (case side3 => repeat (first | exact (Kd.V_reads' HO_1.out).2.2 | (with_reducible refine Kd.C_alloc ?_ _) | (with_reducible refine Kd.C_drewN ?_ _) | (with_reducible refine Kd.C_drew ?_))); (case side4 => exact (Kd.V_reads' HO_1.out).2.1); rintro e w' ⟨rfl, ⟨nd, rfl⟩⟩))
      go_roundg k1
      case measure => have := HK1.out; omega
      case rel => exact ⟨(wrap64 (x5_1 + 1)), (by first | rfl | (simp; done) | (simp [*]; done)), H', ⟨by have := HK1.out; omega⟩, ⟨by (with_reducible repeat (first | apply Kd.V_alloc | apply Kd.V_drewN | apply Kd.V_drew)); exact HO_0.out⟩, ⟨by (with_reducible repeat (first | apply Kd.V_alloc | apply Kd.V_drewN | apply Kd.V_drew)); exact HO_1.out⟩, ⟨by repeat (first | exact HB.out | apply below_alloc | apply pw_below_drewN | apply below_drew1)⟩⟩
     ·replace c6 := Bool.eq_false_iff.mpr c6
      subst c6
      rw [if_neg (show ¬ (false = true) by decide)] at H
      obtain ⟨y248, hy248⟩ : ∃ y_ : List (List Int), y_ = (([] : List (List Int))) := ⟨_, rfl⟩
      replace H : (if x5_1 ≤ (l0.length : Int) then ((some (l0.take (x5_1 : Int).toNat : List (List Int))).bind fun y251 => (if y248.length + y251.length < 5864062014805 then ((some (y248 ++ y251 : List (List Int))).bind fun y256 => ((some (([l1] : List (List Int)) : List (List Int))).bind fun y259 => (if y256.length + y259.length < 5864062014805 then ((some (y256 ++ y259 : List (List Int))).bind fun y262 => ((some (l0.drop (x5_1 : Int).toNat : List (List Int))).bind fun y265 => (if y262.length + y265.length < 5864062014805 then (some (y262 ++ y265)) else (none)))) else (none)))) else (none))) else (none)) = some r := by first | (rw [hy248]; with_reducible exact H) | (have H2_ := (Option.bind_some _ _).symm.trans H; rw [hy248]; with_reducible exact H2_) | (have H2_ := (Option.bind_some _ _).symm.trans H; with_reducible exact H2_) | with_reducible exact H | (rw [hy248]; exact H) | exact H
      have Ny248 := Aside0.mk hy248
      clear hy248
      have c7b0 := eq_true (of_decide_eq_true (by first | (with_reducible assumption) | assumption) : 0 ≤ x5_1)
      by_cases c8 : x5_1 ≤ (l0.length : Int)
      ·rw [if_pos c8] at H
       have c8b0 := eq_true c8
       have c8b1 : decide (x5_1 ≤ (l0.length : Int)) = true := decide_eq_true c8
       clear c8
       obtain ⟨y251, hy251⟩ : ∃ y_ : List (List Int), y_ = (l0.take (x5_1 : Int).toNat) := ⟨_, rfl⟩
       replace H : (if y248.length + y251.length < 5864062014805 then ((some (y248 ++ y251 : List (List Int))).bind fun y256 => ((some (([l1] : List (List Int)) : List (List Int))).bind fun y259 => (if y256.length + y259.length < 5864062014805 then ((some (y256 ++ y259 : List (List Int))).bind fun y262 => ((some (l0.drop (x5_1 : Int).toNat : List (List Int))).bind fun y265 => (if y262.length + y265.length < 5864062014805 then (some (y262 ++ y265)) else (none)))) else (none)))) else (none)) = some r := by first | (rw [hy251]; with_reducible exact H) | (have H2_ := (Option.bind_some _ _).symm.trans H; rw [hy251]; with_reducible exact H2_) | (have H2_ := (Option.bind_some _ _).symm.trans H; with_reducible exact H2_) | with_reducible exact H | (rw [hy251]; exact H) | exact H
       have Ny251 := Aside0.mk hy251
       clear hy251
       by_cases c9 : y248.length + y251.length < 5864062014805
       ·rw [if_pos c9] at H
        have LMc9 := Aside0.mk c9
        clear c9
        obtain ⟨y256, hy256⟩ : ∃ y_ : List (List Int), y_ = (y248 ++ y251) := ⟨_, rfl⟩
        replace H : ((some (([l1] : List (List Int)) : List (List Int))).bind fun y259 => (if y256.length + y259.length < 5864062014805 then ((some (y256 ++ y259 : List (List Int))).bind fun y262 => ((some (l0.drop (x5_1 : Int).toNat : List (List Int))).bind fun y265 => (if y262.length + y265.length < 5864062014805 then (some (y262 ++ y265)) else (none)))) else (none))) = some r := by first | (rw [hy256]; with_reducible exact H) | (have H2_ := (Option.bind_some _ _).symm.trans H; rw [hy256]; with_reducible exact H2_) | (have H2_ := (Option.bind_some _ _).symm.trans H; with_reducible exact H2_) | with_reducible exact H | (rw [hy256]; exact H) | exact H
        have Ny256 := Aside0.mk hy256
        clear hy256
        obtain ⟨y259, hy259⟩ : ∃ y_ : List (List Int), y_ = (([l1] : List (List Int))) := ⟨_, rfl⟩
        replace H : (if y256.length + y259.length < 5864062014805 then ((some (y256 ++ y259 : List (List Int))).bind fun y262 => ((some (l0.drop (x5_1 : Int).toNat : List (List Int))).bind fun y265 => (if y262.length + y265.length < 5864062014805 then (some (y262 ++ y265)) else (none)))) else (none)) = some r := by first | (rw [hy259]; with_reducible exact H) | (have H2_ := (Option.bind_some _ _).symm.trans H; rw [hy259]; with_reducible exact H2_) | (have H2_ := (Option.bind_some _ _).symm.trans H; with_reducible exact H2_) | with_reducible exact H | (rw [hy259]; exact H) | exact H
        have Ny259 := Aside0.mk hy259
        clear hy259
        by_cases c10 : y256.length + y259.length < 5864062014805
        ·rw [if_pos c10] at H
         have LMc10 := Aside0.mk c10
         clear c10
         obtain ⟨y262, hy262⟩ : ∃ y_ : List (List Int), y_ = (y256 ++ y259) := ⟨_, rfl⟩
         replace H : ((some (l0.drop (x5_1 : Int).toNat : List (List Int))).bind fun y265 => (if y262.length + y265.length < 5864062014805 then (some (y262 ++ y265)) else (none))) = some r := by first | (rw [hy262]; with_reducible exact H) | (have H2_ := (Option.bind_some _ _).symm.trans H; rw [hy262]; with_reducible exact H2_) | (have H2_ := (Option.bind_some _ _).symm.trans H; with_reducible exact H2_) | with_reducible exact H | (rw [hy262]; exact H) | exact H
         have Ny262 := Aside0.mk hy262
         clear hy262
         have c11b0 := eq_true (of_decide_eq_true (by first | (with_reducible assumption) | assumption) : 0 ≤ x5_1)
         have c12b0 := eq_true (of_decide_eq_true (by first | (with_reducible assumption) | assumption) : x5_1 ≤ (l0.length : Int))
         obtain ⟨y265, hy265⟩ : ∃ y_ : List (List Int), y_ = (l0.drop (x5_1 : Int).toNat) := ⟨_, rfl⟩
         replace H : (if y262.length + y265.length < 5864062014805 then (some (y262 ++ y265)) else (none)) = some r := by first | (rw [hy265]; with_reducible exact H) | (have H2_ := (Option.bind_some _ _).symm.trans H; rw [hy265]; with_reducible exact H2_) | (have H2_ := (Option.bind_some _ _).symm.trans H; with_reducible exact H2_) | with_reducible exact H | (rw [hy265]; exact H) | exact H
         have Ny265 := Aside0.mk hy265
         clear hy265
         by_cases c13 : y262.length + y265.length < 5864062014805
         ·rw [if_pos c13] at H
          have LMc13 := Aside0.mk c13
          clear c13
          obtain ⟨y270, hy270⟩ : ∃ y_ : List (List Int), y_ = (y262 ++ y265) := ⟨_, rfl⟩
          replace H : (some y270) = some r := by first | (rw [hy270]; with_reducible exact H) | (have H2_ := (Option.bind_some _ _).symm.trans H; rw [hy270]; with_reducible exact H2_) | (have H2_ := (Option.bind_some _ _).symm.trans H; with_reducible exact H2_) | with_reducible exact H | (rw [hy270]; exact H) | exact H
          have Ny270 := Aside0.mk hy270
          clear hy270
          obtain rfl := Option.some.inj H
          have p246 : 0 ≤ (x5_1 : Int) := of_decide_eq_true (by first | (with_reducible assumption) | assumption)
          have q246 : x5_1 < (l0.length : Int) := of_decide_eq_true (by first | (with_reducible assumption) | assumption)
          obtain ⟨ad246, A246_0, c246_0, e246, hx246_0, hl246_0, hi246_0⟩ := at_L5 (Kd.V_reads' HO_0.out).2.2 x5_1 p246 q246
          cases e246
          obtain ⟨ce246, hce246, hMe246, hcc246⟩ := Kd.V_get HO_0.out [] x5_1 p246 (by first | exact q246 | exact of_decide_eq_true (by first | (with_reducible assumption) | assumption) | (have e_ := (Kd.V_reads' HO_0.out).1; omega))
          obtain ⟨ua246_0, uc246_0, rfl, ul246_0, ge246_0⟩ := Kd.FK_slice_open hMe246
          have hv246_0 := hcc246 0 _ rfl
          rw [Nat.add_zero, show ((Kd.slice 3 (Kd.int .i64))).sz = 1 from rfl, Nat.mul_one] at hv246_0
          replace hv246_0 := Option.some.inj (hv246_0.symm.trans hx246_0)
          injection hv246_0 with hva_ hvn_ hvc_
          rw [hva_] at ge246_0
          rw [hvc_] at ul246_0
          have HL246_0 := Aside0.mk (show Kd.V (Kd.int .i64) 3 _ w.heap.size _ _ (rd_L5 l0 x5_1) from Kd.V_mk ul246_0 ge246_0)
          clear hva_ hvn_ hvc_ ge246_0 ul246_0
          clear hcc246 hce246
          have HR246_0 := Aside0.mk hi246_0
          have HC246_0 := Aside0.mk hl246_0
          clear hi246_0 hl246_0
          replace p246 := eq_true p246
          replace q246 := eq_true q246
          try go_wp2_with (first | (go_at_call 76; (with_reducible refine (potbankref06_ahead.calls k1 _ _ (rd_L5 l0 x5_1) _ _ l1 false _ ?side1 ?side2 ?side3 ?side4 A5.out).mono ?_); (case side1 => repeat (first | exact (by repeat (first | (with_reducible exact HR246_0.out) | (with_reducible refine Kd.C_alloc ?_ _) | (with_reducible refine Kd.C_drewN ?_ _) | (with_reducible refine Kd.C_drew ?_) | exact HR246_0.out)) | (with_reducible refine Kd.C_alloc ?_ _) | (with_reducible refine Kd.C_drewN ?_ _) | (with_reducible refine Kd.C_drew ?_))); (case side2 => exact HC246_0.out); (case side3 => repeat (first | exact (Kd.V_reads' HO_1.out).2.2 | (with_reducible refine Kd.C_alloc ?_ _) | (with_reducible refine Kd.C_drewN ?_ _) | (with_reducible refine Kd.C_drew ?_))); (case side4 => exact (Kd.V_reads' HO_1.out).2.1); rintro e w' ⟨rfl, ⟨nd, rfl⟩⟩))
          (try (rw [drewN_self wr]; generalize hq_ : World.drewN wr _ = wr; have n0_ : Aside0 (Kd.V (Kd.int .i64) 3 wr w.heap.size (fun k_ => ((P0_ k_ ∨ P1_ k_) ∨ w.heap.size ≤ k_)) (.slice A246_0 (rd_L5 l0 x5_1).length c246_0) (rd_L5 l0 x5_1)) := ⟨by rw [← hq_]; exact (by (with_reducible repeat (first | apply Kd.V_alloc | apply Kd.V_drewN | apply Kd.V_drew)); exact HL246_0.out)⟩; have n1_ : Aside0 (Kd.V (Kd.slice 3 (Kd.int .i64)) 41 wr w.heap.size (fun k_ => ((P0_ k_ ∨ P1_ k_) ∨ w.heap.size ≤ k_)) (.slice (some ad246) l0.length c0) l0) := ⟨by rw [← hq_]; exact (by (with_reducible repeat (first | apply Kd.V_alloc | apply Kd.V_drewN | apply Kd.V_drew)); exact HO_0.out)⟩; have n2_ : Aside0 (Kd.V (Kd.int .i64) 3 wr w.heap.size (fun k_ => ((P0_ k_ ∨ P1_ k_) ∨ w.heap.size ≤ k_)) (.slice A1 l1.length c1) l1) := ⟨by rw [← hq_]; exact (by (with_reducible repeat (first | apply Kd.V_alloc | apply Kd.V_drewN | apply Kd.V_drew)); exact HO_1.out)⟩; have n3_ : Aside0 (Below w.heap.size w wr) := ⟨by rw [← hq_]; exact (by repeat (first | exact HB.out | apply below_alloc | apply pw_below_drewN | apply below_drew1))⟩; have n4_ : Aside0 (Kd.C (Kd.int .i64) wr A246_0 (rd_L5 l0 x5_1).length (rd_L5 l0 x5_1)) := ⟨by rw [← hq_]; exact (by repeat (first | (with_reducible exact HR246_0.out) | (with_reducible refine Kd.C_alloc ?_ _) | (with_reducible refine Kd.C_drewN ?_ _) | (with_reducible refine Kd.C_drew ?_) | exact HR246_0.out))⟩; clear HL246_0 HO_0 HO_1 HB HR246_0 hq_; have HL246_0 := n0_; have HO_0 := n1_; have HO_1 := n2_; have HB := n3_; have HR246_0 := n4_; clear n0_ n1_ n2_ n3_ n4_))
          have n0_ := Aside0.mk (Kd.V_drew HO_0.out)
          have n1_ := Aside0.mk (Kd.V_drew HO_1.out)
          have n2_ := Aside0.mk (Kd.V_drew HL246_0.out)
          have n3_ := Aside0.mk (Kd.C_drew HR246_0.out)
          have n4_ := Aside0.mk (below_drew1 HB.out)
          clear HO_0
          clear HO_1
          clear HL246_0
          clear HR246_0
          clear HB
          have HO_0 := n0_
          have HO_1 := n1_
          have HL246_0 := n2_
          have HR246_0 := n3_
          have HB := n4_
          clear n0_ n1_ n2_ n3_ n4_
          have q15 : (x5_1 : Int) ≤ ((l0.length : Int) : Int) := of_decide_eq_true (by first | (with_reducible assumption) | assumption)
          obtain ⟨i015, hi015, _, hsz15, _⟩ := info_parts info41
          have hroom15 : l0.length ≤ c0 := (Kd.V_reads' HO_0.out).2.1
          have hC15 : Kd.F (Kd.slice 3 (Kd.int .i64)) _ _ (some ad246) l0.length l0 := (Kd.V_at (base := w.heap.size) HO_0.out).2.2
          have hcut15 := cut_to (P := Tryz.prog) 24 41 .i64 Tryz.underlying24 hi015 (some ad246) l0.length c0 x5_1 (of_decide_eq_true (by first | (with_reducible assumption) | assumption)) q15 hroom15
          have hr15 := Kd.F_take (m := (x5_1 : Int).toNat) hC15 (by omega)
          have hy15 : y251.length = (x5_1 : Int).toNat := (by rw [Ny251.out, List.length_take]; omega)
          rw [← Ny251.out] at hr15
          rw [← hy15] at hcut15
          have HO255 := Aside0.mk (show Kd.V (Kd.slice 3 (Kd.int .i64)) 41 _ w.heap.size _ (.slice (some ad246) y251.length c0) y251 from Kd.V_mk (by omega) hr15)
          have HC255 := Aside0.mk (show y251.length ≤ c0 from by omega)
          clear hr15 hC15 hroom15 hi015 hsz15
          have KY15 := Aside0.mk hy15
          clear hy15
          replace q15 := eq_true q15
          have q16 : (x5_1 : Int) ≤ ((l0.length : Int) : Int) := of_decide_eq_true (by first | (with_reducible assumption) | assumption)
          obtain ⟨i016, hi016, _, hsz16, _⟩ := info_parts info41
          have hroom16 : l0.length ≤ c0 := (Kd.V_reads' HO_0.out).2.1
          have hC16 : Kd.F (Kd.slice 3 (Kd.int .i64)) _ _ (some ad246) l0.length l0 := (Kd.V_at (base := w.heap.size) HO_0.out).2.2
          have q016 : (0 : Int) ≤ (x5_1 : Int) := of_decide_eq_true (by first | (with_reducible assumption) | assumption)
          have hcut16 := cut_from (P := Tryz.prog) 24 41 .i64 Tryz.underlying24 hi016 1 hsz16 (some ad246) l0.length c0 x5_1 q016 q16
          have hr16 := Kd.F_cut (m := (x5_1 : Int).toNat) (c := c0) hC16 (by omega) hroom16
          obtain ⟨A16, hA16⟩ : ∃ A1, A1 = (if c0 = (x5_1 : Int).toNat then (some ad246) else ((some ad246) : Option Addr).map (·.add ((x5_1 : Int).toNat * 1))) := ⟨_, rfl⟩
          obtain ⟨c16, hc16⟩ : ∃ c1, c1 = c0 - (x5_1 : Int).toNat := ⟨_, rfl⟩
          have hy16 : y265.length = l0.length - (x5_1 : Int).toNat := (by rw [Ny265.out, List.length_drop] <;> omega)
          rw [show (l0).drop (x5_1 : Int).toNat = y265 from Ny265.out.symm] at hr16
          replace hr16 : Kd.F (Kd.slice 3 (Kd.int .i64)) _ _ A16 y265.length y265 := (by rw [hA16]; exact hr16)
          rw [← hy16, ← hA16, ← hc16] at hcut16
          have HO269 := Aside0.mk (show Kd.V (Kd.slice 3 (Kd.int .i64)) 41 _ w.heap.size _ (.slice A16 y265.length c16) y265 from Kd.V_mk (by rw [hy16, hc16]; exact Nat.sub_le_sub_right hroom16 _) hr16)
          have HC269 := Aside0.mk (show y265.length ≤ c16 from by rw [hy16, hc16]; exact Nat.sub_le_sub_right hroom16 _)
          clear hr16 hC16 hroom16 hi016 hsz16 hc16
          have KY16 := Aside0.mk hy16
          have KA16 := Aside0.mk hA16
          clear hy16 hA16
          replace q16 := eq_true q16
          refine start_ (n := 13) (S := fun w' => True) (ds := []) #[false, false, false, false, false, false, false, false, false, false, false, false, false] (by kernel_rfl) rfl rfl trivial (fun hHeld => ?_); refine with_tabW potbankref06_put.tab4 potbankref06_put.bits4 (fun HT_ HW_ => ?_)
          generalize wr.drew = w14 at HO_0 HO_1 HL246_0 HR246_0 HB HO255 HO269 hHeld ⊢
          refine pure_ (i := 1) (N := some 21) (v := ?_) (a' := ?_) #[false, true, false, false, false, false, false, false, false, false, false, false, false] rfl rfl (any_of HT_.out (by kernel_rfl)) (fun _ _ _ h => h) (Or.inl ⟨by rfl, ?_⟩) ?_ ?_
          rotate_left
          ·intro w'
           go_simp
           with_reducible rfl
          rotate_left
          ·simp only [Act.put, List.setIfInBounds_toArray, List.set_cons_zero, List.set_cons_succ, i64_w, i32_w]
           rfl
          refine pure_ (i := 2) (N := some 22) (v := ?_) (a' := ?_) #[false, true, true, false, false, false, false, false, false, false, false, false, false] rfl rfl (any_of HT_.out (by kernel_rfl)) (fun _ _ _ h => h) (Or.inl ⟨by rfl, ?_⟩) ?_ ?_
          rotate_left
          ·intro w'
           go_simp
           with_reducible rfl
          rotate_left
          ·simp only [Act.put, List.setIfInBounds_toArray, List.set_cons_zero, List.set_cons_succ, i64_w, i32_w]
           rfl
          refine pure_ (i := 3) (N := some 23) (v := ?_) (a' := ?_) #[false, true, true, true, false, false, false, false, false, false, false, false, false] rfl rfl (any_of HT_.out (by kernel_rfl)) (fun _ _ _ h => h) (Or.inl ⟨by rfl, ?_⟩) ?_ ?_
          rotate_left
          ·intro w'
           go_simp
           with_reducible rfl
          rotate_left
          ·simp only [Act.put, List.setIfInBounds_toArray, List.set_cons_zero, List.set_cons_succ, i64_w, i32_w]
           rfl
          refine pure_ (i := 5) (N := some 25) (v := ?_) (a' := ?_) #[false, true, true, true, false, true, false, false, false, false, false, false, false] rfl rfl (any_of HT_.out (by kernel_rfl)) (fun _ _ _ h => h) (Or.inl ⟨by rfl, ?_⟩) ?_ ?_
          rotate_left
          ·intro w'
           go_simp
           with_reducible rfl
          rotate_left
          ·simp only [Act.put, List.setIfInBounds_toArray, List.set_cons_zero, List.set_cons_succ, i64_w, i32_w]
           rfl
          refine pure_ (i := 8) (N := some 28) (v := ?_) (a' := ?_) #[false, true, true, true, false, true, false, false, true, false, false, false, false] rfl rfl (any_of HT_.out (by kernel_rfl)) (fun _ _ _ h => h) (Or.inl ⟨by rfl, ?_⟩) ?_ ?_
          rotate_left
          ·intro w'
           go_simp
           with_reducible rfl
          rotate_left
          ·simp only [Act.put, List.setIfInBounds_toArray, List.set_cons_zero, List.set_cons_succ, i64_w, i32_w]
           rfl
          refine pure_ (i := 9) (N := some 29) (v := ?_) (a' := ?_) #[false, true, true, true, false, true, false, false, true, true, false, false, false] rfl rfl (any_of HT_.out (by kernel_rfl)) (fun _ _ _ h => h) (Or.inl ⟨by rfl, ?_⟩) ?_ ?_
          rotate_left
          ·intro w'
           go_simp
           with_reducible rfl
          rotate_left
          ·simp only [Act.put, List.setIfInBounds_toArray, List.set_cons_zero, List.set_cons_succ, i64_w, i32_w]
           rfl
          refine pure_ (i := 10) (N := some 30) (v := ?_) (a' := ?_) #[false, true, true, true, false, true, false, false, true, true, true, false, false] rfl rfl (any_of HT_.out (by kernel_rfl)) (fun _ _ _ h => h) (Or.inl ⟨by rfl, ?_⟩) ?_ ?_
          rotate_left
          ·intro w'
           go_simp
           with_reducible rfl
          rotate_left
          ·simp only [Act.put, List.setIfInBounds_toArray, List.set_cons_zero, List.set_cons_succ, i64_w, i32_w]
           rfl
          refine join_ (σ := Value × Value × Value) 3 #[true, true, true, true, true, true, true, false, true, true, true, false, false] (fun s_ => [(20, s_.1), (24, s_.2.1), (26, s_.2.2)]) (fun s_ w' => (Kd.V (Kd.int .i64) 3 w' w.heap.size (fun k_ => ((P0_ k_ ∨ P1_ k_) ∨ w.heap.size ≤ k_) ∧ some k_ ≠ (s_.2.1 : Value).ownBlock ∧ some k_ ≠ (s_.2.2 : Value).ownBlock) (.slice A246_0 (rd_L5 l0 x5_1).length c246_0) (rd_L5 l0 x5_1)) ∧ (Kd.V (Kd.slice 3 (Kd.int .i64)) 41 w' w.heap.size (fun k_ => ((P0_ k_ ∨ P1_ k_) ∨ w.heap.size ≤ k_) ∧ some k_ ≠ (s_.2.1 : Value).ownBlock ∧ some k_ ≠ (s_.2.2 : Value).ownBlock) (.slice (some ad246) y251.length c0) y251) ∧ (Kd.N (Kd.slice 3 (Kd.int .i64)) 41 w' w.heap.size (fun k_ => ((P0_ k_ ∨ P1_ k_) ∨ w.heap.size ≤ k_) ∧ some k_ ≠ (s_.2.2 : Value).ownBlock) s_.2.1 y256) ∧ (Kd.N (Kd.slice 3 (Kd.int .i64)) 41 w' w.heap.size (fun k_ => ((P0_ k_ ∨ P1_ k_) ∨ w.heap.size ≤ k_) ∧ some k_ ≠ (s_.2.1 : Value).ownBlock) s_.2.2 y259) ∧ (Kd.V (Kd.slice 3 (Kd.int .i64)) 41 w' w.heap.size (fun k_ => ((P0_ k_ ∨ P1_ k_) ∨ w.heap.size ≤ k_) ∧ some k_ ≠ (s_.2.1 : Value).ownBlock ∧ some k_ ≠ (s_.2.2 : Value).ownBlock) (.slice A16 y265.length c16) y265) ∧ (Kd.V (Kd.slice 3 (Kd.int .i64)) 41 w' w.heap.size (fun k_ => ((P0_ k_ ∨ P1_ k_) ∨ w.heap.size ≤ k_) ∧ some k_ ≠ (s_.2.1 : Value).ownBlock ∧ some k_ ≠ (s_.2.2 : Value).ownBlock) (.slice (some ad246) l0.length c0) l0) ∧ (Kd.V (Kd.int .i64) 3 w' w.heap.size (fun k_ => ((P0_ k_ ∨ P1_ k_) ∨ w.heap.size ≤ k_) ∧ some k_ ≠ (s_.2.1 : Value).ownBlock ∧ some k_ ≠ (s_.2.2 : Value).ownBlock) (.slice A1 l1.length c1) l1) ∧ (Below w.heap.size w w')) ?_ ?_
          rotate_left
          ·intro hCont
           refine two_ (i := 0) (j := 6) (Ni := some 20) (Nj := some 26) #[true, true, true, true, false, true, false, false, true, true, true, false, false] #[false, true, true, true, false, true, true, false, true, true, true, false, false] rfl rfl rfl rfl (two_of HT_.out (by kernel_rfl)) (by decide) (by decide) (fun K hK => ?_) (fun K hK => ?_)
           ·skip
            refine Kd.N_lit_step (Kd.slice 3 (Kd.int .i64)) _ 41 ?hg (N' := 20) ?hd (xs := ([] : List (List Int))) (inner := []) (ok := (fun k_ => ((P0_ k_ ∨ P1_ k_) ∨ w.heap.size ≤ k_))) (okp := (fun k_ => ((P0_ k_ ∨ P1_ k_) ∨ w.heap.size ≤ k_))) ?hr ?hp (fun _ hk => hk) ((show ∀ k_, w14.heap.size ≤ k_ → (fun k_ => ((P0_ k_ ∨ P1_ k_) ∨ w.heap.size ≤ k_)) k_ from fun k_ hk => (.inr (Nat.le_trans (below_size (by repeat (first | exact HB.out | apply below_alloc | apply pw_below_drewN | apply below_drew1))) hk))) _ (Nat.le_refl _)) (Below.refl _ _) (Nat.le_refl _) (by simp) ?_; (case hd => rfl); (case hg => rfl); (case hr => first | (go_simp; done) | (go_simp; rfl)); (case hp => exact (Reps.none _ _))
            intro v249 w17 ho18 hb hg_ hnew_
            clear hg_ hnew_
            (first | rw [← Ny248.out] at ho18 | (simp only [Int.reduceToNat] at ho18; rw [← Ny248.out] at ho18))
            have n0_ := Aside0.mk (Kd.V_elder' (by (with_reducible repeat (first | apply Kd.V_alloc | apply Kd.V_drewN | apply Kd.V_drew)); exact HO_0.out) (Kd.N_base ho18) hb)
            have n1_ := Aside0.mk (Kd.V_elder' (by (with_reducible repeat (first | apply Kd.V_alloc | apply Kd.V_drewN | apply Kd.V_drew)); exact HO_1.out) (Kd.N_base ho18) hb)
            have n2_ := Aside0.mk (Kd.V_elder' (by (with_reducible repeat (first | apply Kd.V_alloc | apply Kd.V_drewN | apply Kd.V_drew)); exact HL246_0.out) (Kd.N_base ho18) hb)
            have n3_ := Aside0.mk (Kd.V_elder' (by (with_reducible repeat (first | apply Kd.V_alloc | apply Kd.V_drewN | apply Kd.V_drew)); exact HO255.out) (Kd.N_base ho18) hb)
            have n4_ := Aside0.mk (Kd.V_elder' (by (with_reducible repeat (first | apply Kd.V_alloc | apply Kd.V_drewN | apply Kd.V_drew)); exact HO269.out) (Kd.N_base ho18) hb)
            have n5_ := Aside0.mk (Kd.N_lower ho18 (below_size (by repeat (first | exact HB.out | apply below_alloc | apply pw_below_drewN | apply below_drew1))))
            have n6_ := Aside0.mk (Kd.C_below (by repeat (first | (with_reducible exact HR246_0.out) | (with_reducible refine Kd.C_alloc ?_ _) | (with_reducible refine Kd.C_drewN ?_ _) | (with_reducible refine Kd.C_drew ?_) | exact HR246_0.out)) hb)
            have n7_ := Aside0.mk (below_step (by repeat (first | exact HB.out | apply below_alloc | apply pw_below_drewN | apply below_drew1)) hb)
            clear HO_0
            clear HO_1
            clear HL246_0
            clear HO255
            clear HO269
            clear HR246_0
            clear HB
            have HO_0 := n0_
            have HO_1 := n1_
            have HL246_0 := n2_
            have HO255 := n3_
            have HO269 := n4_
            have HO250 := n5_
            have HR246_0 := n6_
            have HB := n7_
            clear n0_ n1_ n2_ n3_ n4_ n5_ n6_ n7_
            clear hb ho18
            refine hK.out _ _ trivial (fun hHeld => ?_)
            clear hK K
            refine norm_ (a' := ?_) ?_ ?_
            rotate_left
            ·show Act.put _ (some 20) _ = _
             simp only [Act.put, List.setIfInBounds_toArray, List.set_cons_zero, List.set_cons_succ, i64_w, i32_w]
             rfl
            refine two_ (i := 4) (j := 6) (Ni := some 24) (Nj := some 26) #[true, true, true, true, true, true, false, false, true, true, true, false, false] #[true, true, true, true, false, true, true, false, true, true, true, false, false] rfl rfl rfl rfl (two_of HT_.out (by kernel_rfl)) (by decide) (by decide) (fun K hK => ?_) (fun K hK => ?_)
            ·skip
             refine Kd.N_append_rows_step (Kd.slice 3 (Kd.int .i64)) (w0 := w) w.heap.size (by rfl) (.tmp 20) (.tmp 23) 24 41 (.slice none 0 0) 24 rfl Tryz.underlying24 info41 rfl (by decide) (by omega) v249 y248 y251 _ _ _ (fun k_ => ((P0_ k_ ∨ P1_ k_) ∨ w.heap.size ≤ k_)) (fun k_ => ((fun k_ => ((P0_ k_ ∨ P1_ k_) ∨ w.heap.size ≤ k_))) k_ ∧ some k_ ≠ (v249 : Value).ownBlock) rfl rfl ?aO ?aR (fun _ hk => hk) ?aF ?aB ?aS ?aL ?_
             (case aR => exact (by skip; exact Kd.V_F (Kd.V_mono (ok' := (fun k_ => ((fun k_ => ((P0_ k_ ∨ P1_ k_) ∨ w.heap.size ≤ k_))) k_ ∧ some k_ ≠ (v249 : Value).ownBlock)) (HO255.out) (fun k_ hk => ⟨hk.1, hk.2⟩))))
             (case aB => exact (by repeat (first | exact HB.out | apply below_alloc | apply pw_below_drewN | apply below_drew1)))
             (case aF => exact (fun k_ hk => (.inr (Nat.le_trans (below_size (by repeat (first | exact HB.out | apply below_alloc | apply pw_below_drewN | apply below_drew1))) hk))))
             (case aO => exact (by (with_reducible repeat (first | apply Kd.N_alloc | apply Kd.N_drewN | apply Kd.N_drew)); exact HO250.out))
             (case aS => exact (below_size (by repeat (first | exact HB.out | apply below_alloc | apply pw_below_drewN | apply below_drew1))))
             (case aL => have := LMc9.out; omega)
             intro v257 w19 ho hb hg hat
             rw [← Ny256.out] at ho
             have n0_ := Aside0.mk (Kd.V_afterv (ok := (fun k_ => ((P0_ k_ ∨ P1_ k_) ∨ w.heap.size ≤ k_))) (by (with_reducible repeat (first | apply Kd.V_alloc | apply Kd.V_drewN | apply Kd.V_drew)); exact HO_0.out) hg hat)
             have n1_ := Aside0.mk (Kd.V_afterv (ok := (fun k_ => ((P0_ k_ ∨ P1_ k_) ∨ w.heap.size ≤ k_))) (by (with_reducible repeat (first | apply Kd.V_alloc | apply Kd.V_drewN | apply Kd.V_drew)); exact HO_1.out) hg hat)
             have n2_ := Aside0.mk (Kd.V_afterv (ok := (fun k_ => ((P0_ k_ ∨ P1_ k_) ∨ w.heap.size ≤ k_))) (by (with_reducible repeat (first | apply Kd.V_alloc | apply Kd.V_drewN | apply Kd.V_drew)); exact HL246_0.out) hg hat)
             have n3_ := Aside0.mk (Kd.V_afterv (ok := (fun k_ => ((P0_ k_ ∨ P1_ k_) ∨ w.heap.size ≤ k_))) (by (with_reducible repeat (first | apply Kd.V_alloc | apply Kd.V_drewN | apply Kd.V_drew)); exact HO255.out) hg hat)
             have n4_ := Aside0.mk (Kd.V_afterv (ok := (fun k_ => ((P0_ k_ ∨ P1_ k_) ∨ w.heap.size ≤ k_))) (by (with_reducible repeat (first | apply Kd.V_alloc | apply Kd.V_drewN | apply Kd.V_drew)); exact HO269.out) hg hat)
             have n5_ := Aside0.mk (hb)
             have n6_ := Aside0.mk (ho)
             clear HO_0
             clear HO_1
             clear HL246_0
             clear HO255
             clear HO269
             clear HB
             clear HO250
             have HO_0 := n0_
             have HO_1 := n1_
             have HL246_0 := n2_
             have HO255 := n3_
             have HO269 := n4_
             have HB := n5_
             have HO258 := n6_
             clear n0_ n1_ n2_ n3_ n4_ n5_ n6_
             clear ho hb hg hat
             refine hK.out _ _ trivial (fun hHeld => ?_)
             clear hK K
             refine norm_ (a' := ?_) ?_ ?_
             rotate_left
             ·show Act.put _ (some 24) _ = _
              simp only [Act.put, List.setIfInBounds_toArray, List.set_cons_zero, List.set_cons_succ, i64_w, i32_w]
              rfl
             refine one_ (i := 6) (N := some 26) #[true, true, true, true, true, true, true, false, true, true, true, false, false] rfl rfl (one_of HT_.out (by kernel_rfl)) (by decide) (fun K hK => ?_)
             refine Kd.N_lit_step (Kd.slice 3 (Kd.int .i64)) _ 41 ?hg (N' := 26) ?hd (xs := ([l1] : List (List Int))) (inner := [.slice A1 l1.length c1]) (ok := (fun k_ => ((P0_ k_ ∨ P1_ k_) ∨ w.heap.size ≤ k_) ∧ some k_ ≠ (v257 : Value).ownBlock)) (okp := (fun k_ => ((P0_ k_ ∨ P1_ k_) ∨ w.heap.size ≤ k_) ∧ some k_ ≠ (v257 : Value).ownBlock)) ?hr ?hp (fun _ hk => hk) ((show ∀ k_, w19.heap.size ≤ k_ → (fun k_ => ((P0_ k_ ∨ P1_ k_) ∨ w.heap.size ≤ k_) ∧ some k_ ≠ (v257 : Value).ownBlock) k_ from fun k_ hk => ⟨(.inr (Nat.le_trans (below_size (by repeat (first | exact HB.out | apply below_alloc | apply pw_below_drewN | apply below_drew1))) hk)), Kd.fresh' (Kd.N_lt (by (with_reducible repeat (first | apply Kd.N_alloc | apply Kd.N_drewN | apply Kd.N_drew)); exact HO258.out)) k_ hk⟩) _ (Nat.le_refl _)) (Below.refl _ _) (Nat.le_refl _) (by simp) ?_; (case hd => rfl); (case hg => rfl); (case hr => first | (go_simp; done) | (go_simp; rfl)); (case hp => exact (Reps.one (show Kd.FK (Kd.slice 3 (Kd.int .i64)) _ _ l1 [.slice A1 l1.length c1] from (Kd.FK_slice_mk (Kd.V_reads' (Kd.V_mono (ok' := (fun k_ => ((P0_ k_ ∨ P1_ k_) ∨ w.heap.size ≤ k_) ∧ some k_ ≠ (v257 : Value).ownBlock)) (HO_1.out) (fun k_ hk => ⟨hk.1, hk.2⟩))).2.1 (Kd.V_F (Kd.V_mono (ok' := (fun k_ => ((P0_ k_ ∨ P1_ k_) ∨ w.heap.size ≤ k_) ∧ some k_ ≠ (v257 : Value).ownBlock)) (HO_1.out) (fun k_ hk => ⟨hk.1, hk.2⟩))))) (Reps.none _ _)))
             intro v260 w20 ho21 hb hg_ hnew_
             clear hg_ hnew_
             (first | rw [← Ny259.out] at ho21 | (simp only [Int.reduceToNat] at ho21; rw [← Ny259.out] at ho21))
             have n0_ := Aside0.mk (Kd.V_elder' (by (with_reducible repeat (first | apply Kd.V_alloc | apply Kd.V_drewN | apply Kd.V_drew)); exact HO_0.out) (Kd.N_base ho21) hb)
             have n1_ := Aside0.mk (Kd.V_elder' (by (with_reducible repeat (first | apply Kd.V_alloc | apply Kd.V_drewN | apply Kd.V_drew)); exact HO_1.out) (Kd.N_base ho21) hb)
             have n2_ := Aside0.mk (Kd.V_elder' (by (with_reducible repeat (first | apply Kd.V_alloc | apply Kd.V_drewN | apply Kd.V_drew)); exact HL246_0.out) (Kd.N_base ho21) hb)
             have n3_ := Aside0.mk (Kd.V_elder' (by (with_reducible repeat (first | apply Kd.V_alloc | apply Kd.V_drewN | apply Kd.V_drew)); exact HO255.out) (Kd.N_base ho21) hb)
             have n4_ := Aside0.mk (Kd.V_elder' (by (with_reducible repeat (first | apply Kd.V_alloc | apply Kd.V_drewN | apply Kd.V_drew)); exact HO269.out) (Kd.N_base ho21) hb)
             have n5_ := Aside0.mk (Kd.N_elder' (by (with_reducible repeat (first | apply Kd.N_alloc | apply Kd.N_drewN | apply Kd.N_drew)); exact HO258.out) (Kd.N_base ho21) hb)
             have n6_ := Aside0.mk (Kd.N_lower ho21 (below_size (by repeat (first | exact HB.out | apply below_alloc | apply pw_below_drewN | apply below_drew1))))
             have n7_ := Aside0.mk (below_step (by repeat (first | exact HB.out | apply below_alloc | apply pw_below_drewN | apply below_drew1)) hb)
             clear HO_0
             clear HO_1
             clear HL246_0
             clear HO255
             clear HO269
             clear HO258
             clear HB
             have HO_0 := n0_
             have HO_1 := n1_
             have HL246_0 := n2_
             have HO255 := n3_
             have HO269 := n4_
             have HO258 := n5_
             have HO261 := n6_
             have HB := n7_
             clear n0_ n1_ n2_ n3_ n4_ n5_ n6_ n7_
             clear hb ho21
             refine hK.out _ _ trivial (fun hHeld => ?_)
             clear hK K
             refine norm_ (a' := ?_) ?_ ?_
             rotate_left
             ·show Act.put _ (some 26) _ = _
              simp only [Act.put, List.setIfInBounds_toArray, List.set_cons_zero, List.set_cons_succ, i64_w, i32_w]
              rfl
             exact norm_ (by simp only [putAll, Act.put, List.setIfInBounds_toArray, List.set_cons_zero, List.set_cons_succ]) (hCont (v249, v257, v260) _ ⟨(by (with_reducible repeat (first | apply Kd.V_alloc | apply Kd.V_drewN | apply Kd.V_drew)); exact Kd.V_mono HL246_0.out (fun _ hk => ⟨hk.1.1, ⟨hk.1.2, hk.2⟩⟩)), (by (with_reducible repeat (first | apply Kd.V_alloc | apply Kd.V_drewN | apply Kd.V_drew)); exact Kd.V_mono HO255.out (fun _ hk => ⟨hk.1.1, ⟨hk.1.2, hk.2⟩⟩)), (by (with_reducible repeat (first | apply Kd.N_alloc | apply Kd.N_drewN | apply Kd.N_drew)); exact HO258.out), (by (with_reducible repeat (first | apply Kd.N_alloc | apply Kd.N_drewN | apply Kd.N_drew)); exact HO261.out), (by (with_reducible repeat (first | apply Kd.V_alloc | apply Kd.V_drewN | apply Kd.V_drew)); exact Kd.V_mono HO269.out (fun _ hk => ⟨hk.1.1, ⟨hk.1.2, hk.2⟩⟩)), (by (with_reducible repeat (first | apply Kd.V_alloc | apply Kd.V_drewN | apply Kd.V_drew)); exact Kd.V_mono HO_0.out (fun _ hk => ⟨hk.1.1, ⟨hk.1.2, hk.2⟩⟩)), (by (with_reducible repeat (first | apply Kd.V_alloc | apply Kd.V_drewN | apply Kd.V_drew)); exact Kd.V_mono HO_1.out (fun _ hk => ⟨hk.1.1, ⟨hk.1.2, hk.2⟩⟩)), (by repeat (first | exact HB.out | apply below_alloc | apply pw_below_drewN | apply below_drew1))⟩)
            ·skip
             refine Kd.N_lit_step (Kd.slice 3 (Kd.int .i64)) _ 41 ?hg (N' := 26) ?hd (xs := ([l1] : List (List Int))) (inner := [.slice A1 l1.length c1]) (ok := (fun k_ => ((P0_ k_ ∨ P1_ k_) ∨ w.heap.size ≤ k_) ∧ some k_ ≠ (v249 : Value).ownBlock)) (okp := (fun k_ => ((P0_ k_ ∨ P1_ k_) ∨ w.heap.size ≤ k_) ∧ some k_ ≠ (v249 : Value).ownBlock)) ?hr ?hp (fun _ hk => hk) ((show ∀ k_, w17.heap.size ≤ k_ → (fun k_ => ((P0_ k_ ∨ P1_ k_) ∨ w.heap.size ≤ k_) ∧ some k_ ≠ (v249 : Value).ownBlock) k_ from fun k_ hk => ⟨(.inr (Nat.le_trans (below_size (by repeat (first | exact HB.out | apply below_alloc | apply pw_below_drewN | apply below_drew1))) hk)), Kd.fresh' (Kd.N_lt (by (with_reducible repeat (first | apply Kd.N_alloc | apply Kd.N_drewN | apply Kd.N_drew)); exact HO250.out)) k_ hk⟩) _ (Nat.le_refl _)) (Below.refl _ _) (Nat.le_refl _) (by simp) ?_; (case hd => rfl); (case hg => rfl); (case hr => first | (go_simp; done) | (go_simp; rfl)); (case hp => exact (Reps.one (show Kd.FK (Kd.slice 3 (Kd.int .i64)) _ _ l1 [.slice A1 l1.length c1] from (Kd.FK_slice_mk (Kd.V_reads' (Kd.V_mono (ok' := (fun k_ => ((P0_ k_ ∨ P1_ k_) ∨ w.heap.size ≤ k_) ∧ some k_ ≠ (v249 : Value).ownBlock)) (HO_1.out) (fun k_ hk => ⟨hk.1, hk.2⟩))).2.1 (Kd.V_F (Kd.V_mono (ok' := (fun k_ => ((P0_ k_ ∨ P1_ k_) ∨ w.heap.size ≤ k_) ∧ some k_ ≠ (v249 : Value).ownBlock)) (HO_1.out) (fun k_ hk => ⟨hk.1, hk.2⟩))))) (Reps.none _ _)))
             intro v260 w19 ho20 hb hg_ hnew_
             clear hg_ hnew_
             (first | rw [← Ny259.out] at ho20 | (simp only [Int.reduceToNat] at ho20; rw [← Ny259.out] at ho20))
             have n0_ := Aside0.mk (Kd.V_elder' (by (with_reducible repeat (first | apply Kd.V_alloc | apply Kd.V_drewN | apply Kd.V_drew)); exact HO_0.out) (Kd.N_base ho20) hb)
             have n1_ := Aside0.mk (Kd.V_elder' (by (with_reducible repeat (first | apply Kd.V_alloc | apply Kd.V_drewN | apply Kd.V_drew)); exact HO_1.out) (Kd.N_base ho20) hb)
             have n2_ := Aside0.mk (Kd.V_elder' (by (with_reducible repeat (first | apply Kd.V_alloc | apply Kd.V_drewN | apply Kd.V_drew)); exact HL246_0.out) (Kd.N_base ho20) hb)
             have n3_ := Aside0.mk (Kd.V_elder' (by (with_reducible repeat (first | apply Kd.V_alloc | apply Kd.V_drewN | apply Kd.V_drew)); exact HO255.out) (Kd.N_base ho20) hb)
             have n4_ := Aside0.mk (Kd.V_elder' (by (with_reducible repeat (first | apply Kd.V_alloc | apply Kd.V_drewN | apply Kd.V_drew)); exact HO269.out) (Kd.N_base ho20) hb)
             have n5_ := Aside0.mk (Kd.N_elder' (by (with_reducible repeat (first | apply Kd.N_alloc | apply Kd.N_drewN | apply Kd.N_drew)); exact HO250.out) (Kd.N_base ho20) hb)
             have n6_ := Aside0.mk (Kd.N_lower ho20 (below_size (by repeat (first | exact HB.out | apply below_alloc | apply pw_below_drewN | apply below_drew1))))
             have n7_ := Aside0.mk (Kd.C_below (by repeat (first | (with_reducible exact HR246_0.out) | (with_reducible refine Kd.C_alloc ?_ _) | (with_reducible refine Kd.C_drewN ?_ _) | (with_reducible refine Kd.C_drew ?_) | exact HR246_0.out)) hb)
             have n8_ := Aside0.mk (below_step (by repeat (first | exact HB.out | apply below_alloc | apply pw_below_drewN | apply below_drew1)) hb)
             clear HO_0
             clear HO_1
             clear HL246_0
             clear HO255
             clear HO269
             clear HO250
             clear HR246_0
             clear HB
             have HO_0 := n0_
             have HO_1 := n1_
             have HL246_0 := n2_
             have HO255 := n3_
             have HO269 := n4_
             have HO250 := n5_
             have HO261 := n6_
             have HR246_0 := n7_
             have HB := n8_
             clear n0_ n1_ n2_ n3_ n4_ n5_ n6_ n7_ n8_
             clear hb ho20
             refine hK.out _ _ trivial (fun hHeld => ?_)
             clear hK K
             refine norm_ (a' := ?_) ?_ ?_
             rotate_left
             ·show Act.put _ (some 26) _ = _
              simp only [Act.put, List.setIfInBounds_toArray, List.set_cons_zero, List.set_cons_succ, i64_w, i32_w]
              rfl
             refine one_ (i := 4) (N := some 24) #[true, true, true, true, true, true, true, false, true, true, true, false, false] rfl rfl (one_of HT_.out (by kernel_rfl)) (by decide) (fun K hK => ?_)
             refine Kd.N_append_rows_step (Kd.slice 3 (Kd.int .i64)) (w0 := w) w.heap.size (by rfl) (.tmp 20) (.tmp 23) 24 41 (.slice none 0 0) 24 rfl Tryz.underlying24 info41 rfl (by decide) (by omega) v249 y248 y251 _ _ _ (fun k_ => ((P0_ k_ ∨ P1_ k_) ∨ w.heap.size ≤ k_) ∧ some k_ ≠ (v260 : Value).ownBlock) (fun k_ => ((fun k_ => ((P0_ k_ ∨ P1_ k_) ∨ w.heap.size ≤ k_) ∧ some k_ ≠ (v260 : Value).ownBlock)) k_ ∧ some k_ ≠ (v249 : Value).ownBlock) rfl rfl ?aO ?aR (fun _ hk => hk) ?aF ?aB ?aS ?aL ?_
             (case aR => exact (by skip; exact Kd.V_F (Kd.V_mono (ok' := (fun k_ => ((fun k_ => ((P0_ k_ ∨ P1_ k_) ∨ w.heap.size ≤ k_) ∧ some k_ ≠ (v260 : Value).ownBlock)) k_ ∧ some k_ ≠ (v249 : Value).ownBlock)) (HO255.out) (fun k_ hk => ⟨⟨hk.1.1, hk.2⟩, hk.1.2⟩))))
             (case aB => exact (by repeat (first | exact HB.out | apply below_alloc | apply pw_below_drewN | apply below_drew1)))
             (case aF => exact (fun k_ hk => ⟨(.inr (Nat.le_trans (below_size (by repeat (first | exact HB.out | apply below_alloc | apply pw_below_drewN | apply below_drew1))) hk)), Kd.fresh' (Kd.N_lt (by (with_reducible repeat (first | apply Kd.N_alloc | apply Kd.N_drewN | apply Kd.N_drew)); exact HO261.out)) k_ hk⟩))
             (case aO => exact (by (with_reducible repeat (first | apply Kd.N_alloc | apply Kd.N_drewN | apply Kd.N_drew)); exact HO250.out))
             (case aS => exact (below_size (by repeat (first | exact HB.out | apply below_alloc | apply pw_below_drewN | apply below_drew1))))
             (case aL => have := LMc9.out; omega)
             intro v257 w21 ho hb hg hat
             rw [← Ny256.out] at ho
             have n0_ := Aside0.mk (Kd.V_afterv (ok := (fun k_ => ((P0_ k_ ∨ P1_ k_) ∨ w.heap.size ≤ k_) ∧ some k_ ≠ (v260 : Value).ownBlock)) (by (with_reducible repeat (first | apply Kd.V_alloc | apply Kd.V_drewN | apply Kd.V_drew)); exact Kd.V_mono HO_0.out (fun _ hk => ⟨⟨hk.1.1, hk.2⟩, hk.1.2⟩)) hg hat)
             have n1_ := Aside0.mk (Kd.V_afterv (ok := (fun k_ => ((P0_ k_ ∨ P1_ k_) ∨ w.heap.size ≤ k_) ∧ some k_ ≠ (v260 : Value).ownBlock)) (by (with_reducible repeat (first | apply Kd.V_alloc | apply Kd.V_drewN | apply Kd.V_drew)); exact Kd.V_mono HO_1.out (fun _ hk => ⟨⟨hk.1.1, hk.2⟩, hk.1.2⟩)) hg hat)
             have n2_ := Aside0.mk (Kd.V_afterv (ok := (fun k_ => ((P0_ k_ ∨ P1_ k_) ∨ w.heap.size ≤ k_) ∧ some k_ ≠ (v260 : Value).ownBlock)) (by (with_reducible repeat (first | apply Kd.V_alloc | apply Kd.V_drewN | apply Kd.V_drew)); exact Kd.V_mono HL246_0.out (fun _ hk => ⟨⟨hk.1.1, hk.2⟩, hk.1.2⟩)) hg hat)
             have n3_ := Aside0.mk (Kd.V_afterv (ok := (fun k_ => ((P0_ k_ ∨ P1_ k_) ∨ w.heap.size ≤ k_) ∧ some k_ ≠ (v260 : Value).ownBlock)) (by (with_reducible repeat (first | apply Kd.V_alloc | apply Kd.V_drewN | apply Kd.V_drew)); exact Kd.V_mono HO255.out (fun _ hk => ⟨⟨hk.1.1, hk.2⟩, hk.1.2⟩)) hg hat)
             have n4_ := Aside0.mk (Kd.V_afterv (ok := (fun k_ => ((P0_ k_ ∨ P1_ k_) ∨ w.heap.size ≤ k_) ∧ some k_ ≠ (v260 : Value).ownBlock)) (by (with_reducible repeat (first | apply Kd.V_alloc | apply Kd.V_drewN | apply Kd.V_drew)); exact Kd.V_mono HO269.out (fun _ hk => ⟨⟨hk.1.1, hk.2⟩, hk.1.2⟩)) hg hat)
             have n5_ := Aside0.mk (Kd.N_afterv (ok := (fun k_ => ((P0_ k_ ∨ P1_ k_) ∨ w.heap.size ≤ k_))) (by (with_reducible repeat (first | apply Kd.N_alloc | apply Kd.N_drewN | apply Kd.N_drew)); exact HO261.out) hg hat)
             have n6_ := Aside0.mk (hb)
             have n7_ := Aside0.mk (ho)
             clear HO_0
             clear HO_1
             clear HL246_0
             clear HO255
             clear HO269
             clear HO261
             clear HB
             clear HO250
             have HO_0 := n0_
             have HO_1 := n1_
             have HL246_0 := n2_
             have HO255 := n3_
             have HO269 := n4_
             have HO261 := n5_
             have HB := n6_
             have HO258 := n7_
             clear n0_ n1_ n2_ n3_ n4_ n5_ n6_ n7_
             clear ho hb hg hat
             refine hK.out _ _ trivial (fun hHeld => ?_)
             clear hK K
             refine norm_ (a' := ?_) ?_ ?_
             rotate_left
             ·show Act.put _ (some 24) _ = _
              simp only [Act.put, List.setIfInBounds_toArray, List.set_cons_zero, List.set_cons_succ, i64_w, i32_w]
              rfl
             exact norm_ (by simp only [putAll, Act.put, List.setIfInBounds_toArray, List.set_cons_zero, List.set_cons_succ]) (hCont (v249, v257, v260) _ ⟨(by (with_reducible repeat (first | apply Kd.V_alloc | apply Kd.V_drewN | apply Kd.V_drew)); exact Kd.V_mono HL246_0.out (fun _ hk => ⟨hk.1.1, ⟨hk.2, hk.1.2⟩⟩)), (by (with_reducible repeat (first | apply Kd.V_alloc | apply Kd.V_drewN | apply Kd.V_drew)); exact Kd.V_mono HO255.out (fun _ hk => ⟨hk.1.1, ⟨hk.2, hk.1.2⟩⟩)), (by (with_reducible repeat (first | apply Kd.N_alloc | apply Kd.N_drewN | apply Kd.N_drew)); exact HO258.out), (by (with_reducible repeat (first | apply Kd.N_alloc | apply Kd.N_drewN | apply Kd.N_drew)); exact HO261.out), (by (with_reducible repeat (first | apply Kd.V_alloc | apply Kd.V_drewN | apply Kd.V_drew)); exact Kd.V_mono HO269.out (fun _ hk => ⟨hk.1.1, ⟨hk.2, hk.1.2⟩⟩)), (by (with_reducible repeat (first | apply Kd.V_alloc | apply Kd.V_drewN | apply Kd.V_drew)); exact Kd.V_mono HO_0.out (fun _ hk => ⟨hk.1.1, ⟨hk.2, hk.1.2⟩⟩)), (by (with_reducible repeat (first | apply Kd.V_alloc | apply Kd.V_drewN | apply Kd.V_drew)); exact Kd.V_mono HO_1.out (fun _ hk => ⟨hk.1.1, ⟨hk.2, hk.1.2⟩⟩)), (by repeat (first | exact HB.out | apply below_alloc | apply pw_below_drewN | apply below_drew1))⟩)
           ·skip
            refine Kd.N_lit_step (Kd.slice 3 (Kd.int .i64)) _ 41 ?hg (N' := 26) ?hd (xs := ([l1] : List (List Int))) (inner := [.slice A1 l1.length c1]) (ok := (fun k_ => ((P0_ k_ ∨ P1_ k_) ∨ w.heap.size ≤ k_))) (okp := (fun k_ => ((P0_ k_ ∨ P1_ k_) ∨ w.heap.size ≤ k_))) ?hr ?hp (fun _ hk => hk) ((show ∀ k_, w14.heap.size ≤ k_ → (fun k_ => ((P0_ k_ ∨ P1_ k_) ∨ w.heap.size ≤ k_)) k_ from fun k_ hk => (.inr (Nat.le_trans (below_size (by repeat (first | exact HB.out | apply below_alloc | apply pw_below_drewN | apply below_drew1))) hk))) _ (Nat.le_refl _)) (Below.refl _ _) (Nat.le_refl _) (by simp) ?_; (case hd => rfl); (case hg => rfl); (case hr => first | (go_simp; done) | (go_simp; rfl)); (case hp => exact (Reps.one (show Kd.FK (Kd.slice 3 (Kd.int .i64)) _ _ l1 [.slice A1 l1.length c1] from (Kd.FK_slice_mk (Kd.V_reads' (Kd.V_mono (ok' := (fun k_ => ((P0_ k_ ∨ P1_ k_) ∨ w.heap.size ≤ k_))) (HO_1.out) (fun k_ hk => hk))).2.1 (Kd.V_F (Kd.V_mono (ok' := (fun k_ => ((P0_ k_ ∨ P1_ k_) ∨ w.heap.size ≤ k_))) (HO_1.out) (fun k_ hk => hk))))) (Reps.none _ _)))
            intro v260 w17 ho18 hb hg_ hnew_
            clear hg_ hnew_
            (first | rw [← Ny259.out] at ho18 | (simp only [Int.reduceToNat] at ho18; rw [← Ny259.out] at ho18))
            have n0_ := Aside0.mk (Kd.V_elder' (by (with_reducible repeat (first | apply Kd.V_alloc | apply Kd.V_drewN | apply Kd.V_drew)); exact HO_0.out) (Kd.N_base ho18) hb)
            have n1_ := Aside0.mk (Kd.V_elder' (by (with_reducible repeat (first | apply Kd.V_alloc | apply Kd.V_drewN | apply Kd.V_drew)); exact HO_1.out) (Kd.N_base ho18) hb)
            have n2_ := Aside0.mk (Kd.V_elder' (by (with_reducible repeat (first | apply Kd.V_alloc | apply Kd.V_drewN | apply Kd.V_drew)); exact HL246_0.out) (Kd.N_base ho18) hb)
            have n3_ := Aside0.mk (Kd.V_elder' (by (with_reducible repeat (first | apply Kd.V_alloc | apply Kd.V_drewN | apply Kd.V_drew)); exact HO255.out) (Kd.N_base ho18) hb)
            have n4_ := Aside0.mk (Kd.V_elder' (by (with_reducible repeat (first | apply Kd.V_alloc | apply Kd.V_drewN | apply Kd.V_drew)); exact HO269.out) (Kd.N_base ho18) hb)
            have n5_ := Aside0.mk (Kd.N_lower ho18 (below_size (by repeat (first | exact HB.out | apply below_alloc | apply pw_below_drewN | apply below_drew1))))
            have n6_ := Aside0.mk (Kd.C_below (by repeat (first | (with_reducible exact HR246_0.out) | (with_reducible refine Kd.C_alloc ?_ _) | (with_reducible refine Kd.C_drewN ?_ _) | (with_reducible refine Kd.C_drew ?_) | exact HR246_0.out)) hb)
            have n7_ := Aside0.mk (below_step (by repeat (first | exact HB.out | apply below_alloc | apply pw_below_drewN | apply below_drew1)) hb)
            clear HO_0
            clear HO_1
            clear HL246_0
            clear HO255
            clear HO269
            clear HR246_0
            clear HB
            have HO_0 := n0_
            have HO_1 := n1_
            have HL246_0 := n2_
            have HO255 := n3_
            have HO269 := n4_
            have HO261 := n5_
            have HR246_0 := n6_
            have HB := n7_
            clear n0_ n1_ n2_ n3_ n4_ n5_ n6_ n7_
            clear hb ho18
            refine hK.out _ _ trivial (fun hHeld => ?_)
            clear hK K
            refine norm_ (a' := ?_) ?_ ?_
            rotate_left
            ·show Act.put _ (some 26) _ = _
             simp only [Act.put, List.setIfInBounds_toArray, List.set_cons_zero, List.set_cons_succ, i64_w, i32_w]
             rfl
            refine one_ (i := 0) (N := some 20) #[true, true, true, true, false, true, true, false, true, true, true, false, false] rfl rfl (one_of HT_.out (by kernel_rfl)) (by decide) (fun K hK => ?_)
            refine Kd.N_lit_step (Kd.slice 3 (Kd.int .i64)) _ 41 ?hg (N' := 20) ?hd (xs := ([] : List (List Int))) (inner := []) (ok := (fun k_ => ((P0_ k_ ∨ P1_ k_) ∨ w.heap.size ≤ k_) ∧ some k_ ≠ (v260 : Value).ownBlock)) (okp := (fun k_ => ((P0_ k_ ∨ P1_ k_) ∨ w.heap.size ≤ k_) ∧ some k_ ≠ (v260 : Value).ownBlock)) ?hr ?hp (fun _ hk => hk) ((show ∀ k_, w17.heap.size ≤ k_ → (fun k_ => ((P0_ k_ ∨ P1_ k_) ∨ w.heap.size ≤ k_) ∧ some k_ ≠ (v260 : Value).ownBlock) k_ from fun k_ hk => ⟨(.inr (Nat.le_trans (below_size (by repeat (first | exact HB.out | apply below_alloc | apply pw_below_drewN | apply below_drew1))) hk)), Kd.fresh' (Kd.N_lt (by (with_reducible repeat (first | apply Kd.N_alloc | apply Kd.N_drewN | apply Kd.N_drew)); exact HO261.out)) k_ hk⟩) _ (Nat.le_refl _)) (Below.refl _ _) (Nat.le_refl _) (by simp) ?_; (case hd => rfl); (case hg => rfl); (case hr => first | (go_simp; done) | (go_simp; rfl)); (case hp => exact (Reps.none _ _))
            intro v249 w19 ho20 hb hg_ hnew_
            clear hg_ hnew_
            (first | rw [← Ny248.out] at ho20 | (simp only [Int.reduceToNat] at ho20; rw [← Ny248.out] at ho20))
            have n0_ := Aside0.mk (Kd.V_elder' (by (with_reducible repeat (first | apply Kd.V_alloc | apply Kd.V_drewN | apply Kd.V_drew)); exact HO_0.out) (Kd.N_base ho20) hb)
            have n1_ := Aside0.mk (Kd.V_elder' (by (with_reducible repeat (first | apply Kd.V_alloc | apply Kd.V_drewN | apply Kd.V_drew)); exact HO_1.out) (Kd.N_base ho20) hb)
            have n2_ := Aside0.mk (Kd.V_elder' (by (with_reducible repeat (first | apply Kd.V_alloc | apply Kd.V_drewN | apply Kd.V_drew)); exact HL246_0.out) (Kd.N_base ho20) hb)
            have n3_ := Aside0.mk (Kd.V_elder' (by (with_reducible repeat (first | apply Kd.V_alloc | apply Kd.V_drewN | apply Kd.V_drew)); exact HO255.out) (Kd.N_base ho20) hb)
            have n4_ := Aside0.mk (Kd.V_elder' (by (with_reducible repeat (first | apply Kd.V_alloc | apply Kd.V_drewN | apply Kd.V_drew)); exact HO269.out) (Kd.N_base ho20) hb)
            have n5_ := Aside0.mk (Kd.N_elder' (by (with_reducible repeat (first | apply Kd.N_alloc | apply Kd.N_drewN | apply Kd.N_drew)); exact HO261.out) (Kd.N_base ho20) hb)
            have n6_ := Aside0.mk (Kd.N_lower ho20 (below_size (by repeat (first | exact HB.out | apply below_alloc | apply pw_below_drewN | apply below_drew1))))
            have n7_ := Aside0.mk (Kd.C_below (by repeat (first | (with_reducible exact HR246_0.out) | (with_reducible refine Kd.C_alloc ?_ _) | (with_reducible refine Kd.C_drewN ?_ _) | (with_reducible refine Kd.C_drew ?_) | exact HR246_0.out)) hb)
            have n8_ := Aside0.mk (below_step (by repeat (first | exact HB.out | apply below_alloc | apply pw_below_drewN | apply below_drew1)) hb)
            clear HO_0
            clear HO_1
            clear HL246_0
            clear HO255
            clear HO269
            clear HO261
            clear HR246_0
            clear HB
            have HO_0 := n0_
            have HO_1 := n1_
            have HL246_0 := n2_
            have HO255 := n3_
            have HO269 := n4_
            have HO261 := n5_
            have HO250 := n6_
            have HR246_0 := n7_
            have HB := n8_
            clear n0_ n1_ n2_ n3_ n4_ n5_ n6_ n7_ n8_
            clear hb ho20
            refine hK.out _ _ trivial (fun hHeld => ?_)
            clear hK K
            refine norm_ (a' := ?_) ?_ ?_
            rotate_left
            ·show Act.put _ (some 20) _ = _
             simp only [Act.put, List.setIfInBounds_toArray, List.set_cons_zero, List.set_cons_succ, i64_w, i32_w]
             rfl
            refine one_ (i := 4) (N := some 24) #[true, true, true, true, true, true, true, false, true, true, true, false, false] rfl rfl (one_of HT_.out (by kernel_rfl)) (by decide) (fun K hK => ?_)
            refine Kd.N_append_rows_step (Kd.slice 3 (Kd.int .i64)) (w0 := w) w.heap.size (by rfl) (.tmp 20) (.tmp 23) 24 41 (.slice none 0 0) 24 rfl Tryz.underlying24 info41 rfl (by decide) (by omega) v249 y248 y251 _ _ _ (fun k_ => ((P0_ k_ ∨ P1_ k_) ∨ w.heap.size ≤ k_) ∧ some k_ ≠ (v260 : Value).ownBlock) (fun k_ => ((fun k_ => ((P0_ k_ ∨ P1_ k_) ∨ w.heap.size ≤ k_) ∧ some k_ ≠ (v260 : Value).ownBlock)) k_ ∧ some k_ ≠ (v249 : Value).ownBlock) rfl rfl ?aO ?aR (fun _ hk => hk) ?aF ?aB ?aS ?aL ?_
            (case aR => exact (by skip; exact Kd.V_F (Kd.V_mono (ok' := (fun k_ => ((fun k_ => ((P0_ k_ ∨ P1_ k_) ∨ w.heap.size ≤ k_) ∧ some k_ ≠ (v260 : Value).ownBlock)) k_ ∧ some k_ ≠ (v249 : Value).ownBlock)) (HO255.out) (fun k_ hk => ⟨⟨hk.1.1, hk.1.2⟩, hk.2⟩))))
            (case aB => exact (by repeat (first | exact HB.out | apply below_alloc | apply pw_below_drewN | apply below_drew1)))
            (case aF => exact (fun k_ hk => ⟨(.inr (Nat.le_trans (below_size (by repeat (first | exact HB.out | apply below_alloc | apply pw_below_drewN | apply below_drew1))) hk)), Kd.fresh' (Kd.N_lt (by (with_reducible repeat (first | apply Kd.N_alloc | apply Kd.N_drewN | apply Kd.N_drew)); exact HO261.out)) k_ hk⟩))
            (case aO => exact (by (with_reducible repeat (first | apply Kd.N_alloc | apply Kd.N_drewN | apply Kd.N_drew)); exact HO250.out))
            (case aS => exact (below_size (by repeat (first | exact HB.out | apply below_alloc | apply pw_below_drewN | apply below_drew1))))
            (case aL => have := LMc9.out; omega)
            intro v257 w21 ho hb hg hat
            rw [← Ny256.out] at ho
            have n0_ := Aside0.mk (Kd.V_afterv (ok := (fun k_ => ((P0_ k_ ∨ P1_ k_) ∨ w.heap.size ≤ k_) ∧ some k_ ≠ (v260 : Value).ownBlock)) (by (with_reducible repeat (first | apply Kd.V_alloc | apply Kd.V_drewN | apply Kd.V_drew)); exact HO_0.out) hg hat)
            have n1_ := Aside0.mk (Kd.V_afterv (ok := (fun k_ => ((P0_ k_ ∨ P1_ k_) ∨ w.heap.size ≤ k_) ∧ some k_ ≠ (v260 : Value).ownBlock)) (by (with_reducible repeat (first | apply Kd.V_alloc | apply Kd.V_drewN | apply Kd.V_drew)); exact HO_1.out) hg hat)
            have n2_ := Aside0.mk (Kd.V_afterv (ok := (fun k_ => ((P0_ k_ ∨ P1_ k_) ∨ w.heap.size ≤ k_) ∧ some k_ ≠ (v260 : Value).ownBlock)) (by (with_reducible repeat (first | apply Kd.V_alloc | apply Kd.V_drewN | apply Kd.V_drew)); exact HL246_0.out) hg hat)
            have n3_ := Aside0.mk (Kd.V_afterv (ok := (fun k_ => ((P0_ k_ ∨ P1_ k_) ∨ w.heap.size ≤ k_) ∧ some k_ ≠ (v260 : Value).ownBlock)) (by (with_reducible repeat (first | apply Kd.V_alloc | apply Kd.V_drewN | apply Kd.V_drew)); exact HO255.out) hg hat)
            have n4_ := Aside0.mk (Kd.V_afterv (ok := (fun k_ => ((P0_ k_ ∨ P1_ k_) ∨ w.heap.size ≤ k_) ∧ some k_ ≠ (v260 : Value).ownBlock)) (by (with_reducible repeat (first | apply Kd.V_alloc | apply Kd.V_drewN | apply Kd.V_drew)); exact HO269.out) hg hat)
            have n5_ := Aside0.mk (Kd.N_afterv (ok := (fun k_ => ((P0_ k_ ∨ P1_ k_) ∨ w.heap.size ≤ k_))) (by (with_reducible repeat (first | apply Kd.N_alloc | apply Kd.N_drewN | apply Kd.N_drew)); exact HO261.out) hg hat)
            have n6_ := Aside0.mk (hb)
            have n7_ := Aside0.mk (ho)
            clear HO_0
            clear HO_1
            clear HL246_0
            clear HO255
            clear HO269
            clear HO261
            clear HB
            clear HO250
            have HO_0 := n0_
            have HO_1 := n1_
            have HL246_0 := n2_
            have HO255 := n3_
            have HO269 := n4_
            have HO261 := n5_
            have HB := n6_
            have HO258 := n7_
            clear n0_ n1_ n2_ n3_ n4_ n5_ n6_ n7_
            clear ho hb hg hat
            refine hK.out _ _ trivial (fun hHeld => ?_)
            clear hK K
            refine norm_ (a' := ?_) ?_ ?_
            rotate_left
            ·show Act.put _ (some 24) _ = _
             simp only [Act.put, List.setIfInBounds_toArray, List.set_cons_zero, List.set_cons_succ, i64_w, i32_w]
             rfl
            exact norm_ (by simp only [putAll, Act.put, List.setIfInBounds_toArray, List.set_cons_zero, List.set_cons_succ]) (hCont (v249, v257, v260) _ ⟨(by (with_reducible repeat (first | apply Kd.V_alloc | apply Kd.V_drewN | apply Kd.V_drew)); exact Kd.V_mono HL246_0.out (fun _ hk => ⟨hk.1.1, ⟨hk.2, hk.1.2⟩⟩)), (by (with_reducible repeat (first | apply Kd.V_alloc | apply Kd.V_drewN | apply Kd.V_drew)); exact Kd.V_mono HO255.out (fun _ hk => ⟨hk.1.1, ⟨hk.2, hk.1.2⟩⟩)), (by (with_reducible repeat (first | apply Kd.N_alloc | apply Kd.N_drewN | apply Kd.N_drew)); exact HO258.out), (by (with_reducible repeat (first | apply Kd.N_alloc | apply Kd.N_drewN | apply Kd.N_drew)); exact HO261.out), (by (with_reducible repeat (first | apply Kd.V_alloc | apply Kd.V_drewN | apply Kd.V_drew)); exact Kd.V_mono HO269.out (fun _ hk => ⟨hk.1.1, ⟨hk.2, hk.1.2⟩⟩)), (by (with_reducible repeat (first | apply Kd.V_alloc | apply Kd.V_drewN | apply Kd.V_drew)); exact Kd.V_mono HO_0.out (fun _ hk => ⟨hk.1.1, ⟨hk.2, hk.1.2⟩⟩)), (by (with_reducible repeat (first | apply Kd.V_alloc | apply Kd.V_drewN | apply Kd.V_drew)); exact Kd.V_mono HO_1.out (fun _ hk => ⟨hk.1.1, ⟨hk.2, hk.1.2⟩⟩)), (by repeat (first | exact HB.out | apply below_alloc | apply pw_below_drewN | apply below_drew1))⟩)
          rintro ⟨v249, v257, v260⟩ w22 ⟨h0_, h1_, h2_, h3_, h4_, h5_, h6_, h7_⟩
          have n0_ : Aside0 (Kd.V (Kd.int .i64) 3 w22 w.heap.size (fun k_ => ((P0_ k_ ∨ P1_ k_) ∨ w.heap.size ≤ k_) ∧ some k_ ≠ (v257 : Value).ownBlock ∧ some k_ ≠ (v260 : Value).ownBlock) (.slice A246_0 (rd_L5 l0 x5_1).length c246_0) (rd_L5 l0 x5_1)) := ⟨h0_⟩
          have n1_ : Aside0 (Kd.V (Kd.slice 3 (Kd.int .i64)) 41 w22 w.heap.size (fun k_ => ((P0_ k_ ∨ P1_ k_) ∨ w.heap.size ≤ k_) ∧ some k_ ≠ (v257 : Value).ownBlock ∧ some k_ ≠ (v260 : Value).ownBlock) (.slice (some ad246) y251.length c0) y251) := ⟨h1_⟩
          have n2_ : Aside0 (Kd.N (Kd.slice 3 (Kd.int .i64)) 41 w22 w.heap.size (fun k_ => ((P0_ k_ ∨ P1_ k_) ∨ w.heap.size ≤ k_) ∧ some k_ ≠ (v260 : Value).ownBlock) v257 y256) := ⟨h2_⟩
          have n3_ : Aside0 (Kd.N (Kd.slice 3 (Kd.int .i64)) 41 w22 w.heap.size (fun k_ => ((P0_ k_ ∨ P1_ k_) ∨ w.heap.size ≤ k_) ∧ some k_ ≠ (v257 : Value).ownBlock) v260 y259) := ⟨h3_⟩
          have n4_ : Aside0 (Kd.V (Kd.slice 3 (Kd.int .i64)) 41 w22 w.heap.size (fun k_ => ((P0_ k_ ∨ P1_ k_) ∨ w.heap.size ≤ k_) ∧ some k_ ≠ (v257 : Value).ownBlock ∧ some k_ ≠ (v260 : Value).ownBlock) (.slice A16 y265.length c16) y265) := ⟨h4_⟩
          have n5_ : Aside0 (Kd.V (Kd.slice 3 (Kd.int .i64)) 41 w22 w.heap.size (fun k_ => ((P0_ k_ ∨ P1_ k_) ∨ w.heap.size ≤ k_) ∧ some k_ ≠ (v257 : Value).ownBlock ∧ some k_ ≠ (v260 : Value).ownBlock) (.slice (some ad246) l0.length c0) l0) := ⟨h5_⟩
          have n6_ : Aside0 (Kd.V (Kd.int .i64) 3 w22 w.heap.size (fun k_ => ((P0_ k_ ∨ P1_ k_) ∨ w.heap.size ≤ k_) ∧ some k_ ≠ (v257 : Value).ownBlock ∧ some k_ ≠ (v260 : Value).ownBlock) (.slice A1 l1.length c1) l1) := ⟨h6_⟩
          have n7_ : Aside0 (Below w.heap.size w w22) := ⟨h7_⟩
          clear HO_0
          clear HO_1
          clear HL246_0
          clear HR246_0
          clear HB
          clear h0_ h1_ h2_ h3_ h4_ h5_ h6_ h7_
          have HL246_0 := n0_
          have HO255 := n1_
          have HO258 := n2_
          have HO261 := n3_
          have HO269 := n4_
          have HO_0 := n5_
          have HO_1 := n6_
          have HB := n7_
          clear n0_ n1_ n2_ n3_ n4_ n5_ n6_ n7_
          have hHeld := trivial
          obtain ⟨Ao24, co24, eo24⟩ := Kd.N_slice HO261.out
          (first | subst eo24 | (injection eo24 with f1_ f2_ f3_; have f4_ := f1_.symm; have f5_ := f3_.symm; clear f1_ f2_ f3_; subst f4_; subst f5_))
          refine norm_ (a' := ?_) ?_ ?_
          rotate_left
          ·simp only [putAll, Act.put, List.setIfInBounds_toArray, List.set_cons_zero, List.set_cons_succ]
           rfl
          refine one_ (i := 7) (N := some 27) #[true, true, true, true, true, true, true, true, true, true, true, false, false] rfl rfl (one_of HT_.out (by kernel_rfl)) (by decide) (fun K hK => ?_)
          refine Kd.N_append_rows_step (Kd.slice 3 (Kd.int .i64)) (w0 := w) w.heap.size (by rfl) (.tmp 24) (.tmp 26) 24 41 (.slice none 0 0) 24 rfl Tryz.underlying24 info41 rfl (by decide) (by omega) v257 y256 y259 _ _ _ (fun k_ => ((P0_ k_ ∨ P1_ k_) ∨ w.heap.size ≤ k_)) (fun k_ => ((fun k_ => ((P0_ k_ ∨ P1_ k_) ∨ w.heap.size ≤ k_))) k_ ∧ some k_ ≠ (v257 : Value).ownBlock) rfl rfl ?aO ?aR (fun _ hk => hk) ?aF ?aB ?aS ?aL ?_
          (case aR => exact (by skip; exact Kd.N_F (Kd.N_mono (ok' := (fun k_ => ((fun k_ => ((P0_ k_ ∨ P1_ k_) ∨ w.heap.size ≤ k_))) k_ ∧ some k_ ≠ (v257 : Value).ownBlock)) (HO261.out) (fun k_ hk => ⟨hk.1, hk.2⟩))))
          (case aB => exact (by repeat (first | exact HB.out | apply below_alloc | apply pw_below_drewN | apply below_drew1)))
          (case aF => exact (fun k_ hk => (.inr (Nat.le_trans (below_size (by repeat (first | exact HB.out | apply below_alloc | apply pw_below_drewN | apply below_drew1))) hk))))
          (case aO => exact (by (with_reducible repeat (first | apply Kd.N_alloc | apply Kd.N_drewN | apply Kd.N_drew)); exact Kd.N_mono HO258.out (fun _ hk => hk.1)))
          (case aS => exact (below_size (by repeat (first | exact HB.out | apply below_alloc | apply pw_below_drewN | apply below_drew1))))
          (case aL => have := LMc10.out; omega)
          intro v263 w23 ho hb hg hat
          rw [← Ny262.out] at ho
          have n0_ := Aside0.mk (Kd.V_afterv (ok := (fun k_ => ((P0_ k_ ∨ P1_ k_) ∨ w.heap.size ≤ k_) ∧ some k_ ≠ (.slice Ao24 y259.length co24 : Value).ownBlock)) (by (with_reducible repeat (first | apply Kd.V_alloc | apply Kd.V_drewN | apply Kd.V_drew)); exact Kd.V_mono HO_0.out (fun _ hk => ⟨⟨hk.1, hk.2.2⟩, hk.2.1⟩)) hg hat)
          have n1_ := Aside0.mk (Kd.V_afterv (ok := (fun k_ => ((P0_ k_ ∨ P1_ k_) ∨ w.heap.size ≤ k_) ∧ some k_ ≠ (.slice Ao24 y259.length co24 : Value).ownBlock)) (by (with_reducible repeat (first | apply Kd.V_alloc | apply Kd.V_drewN | apply Kd.V_drew)); exact Kd.V_mono HO_1.out (fun _ hk => ⟨⟨hk.1, hk.2.2⟩, hk.2.1⟩)) hg hat)
          have n2_ := Aside0.mk (Kd.V_afterv (ok := (fun k_ => ((P0_ k_ ∨ P1_ k_) ∨ w.heap.size ≤ k_) ∧ some k_ ≠ (.slice Ao24 y259.length co24 : Value).ownBlock)) (by (with_reducible repeat (first | apply Kd.V_alloc | apply Kd.V_drewN | apply Kd.V_drew)); exact Kd.V_mono HL246_0.out (fun _ hk => ⟨⟨hk.1, hk.2.2⟩, hk.2.1⟩)) hg hat)
          have n3_ := Aside0.mk (Kd.V_afterv (ok := (fun k_ => ((P0_ k_ ∨ P1_ k_) ∨ w.heap.size ≤ k_) ∧ some k_ ≠ (.slice Ao24 y259.length co24 : Value).ownBlock)) (by (with_reducible repeat (first | apply Kd.V_alloc | apply Kd.V_drewN | apply Kd.V_drew)); exact Kd.V_mono HO255.out (fun _ hk => ⟨⟨hk.1, hk.2.2⟩, hk.2.1⟩)) hg hat)
          have n4_ := Aside0.mk (Kd.V_afterv (ok := (fun k_ => ((P0_ k_ ∨ P1_ k_) ∨ w.heap.size ≤ k_) ∧ some k_ ≠ (.slice Ao24 y259.length co24 : Value).ownBlock)) (by (with_reducible repeat (first | apply Kd.V_alloc | apply Kd.V_drewN | apply Kd.V_drew)); exact Kd.V_mono HO269.out (fun _ hk => ⟨⟨hk.1, hk.2.2⟩, hk.2.1⟩)) hg hat)
          have n5_ := Aside0.mk (Kd.N_afterv (ok := (fun k_ => ((P0_ k_ ∨ P1_ k_) ∨ w.heap.size ≤ k_))) (by (with_reducible repeat (first | apply Kd.N_alloc | apply Kd.N_drewN | apply Kd.N_drew)); exact HO261.out) hg hat)
          have n6_ := Aside0.mk (hb)
          have n7_ := Aside0.mk (ho)
          clear HO_0
          clear HO_1
          clear HL246_0
          clear HO255
          clear HO269
          clear HO261
          clear HB
          clear HO258
          have HO_0 := n0_
          have HO_1 := n1_
          have HL246_0 := n2_
          have HO255 := n3_
          have HO269 := n4_
          have HO261 := n5_
          have HB := n6_
          have HO264 := n7_
          clear n0_ n1_ n2_ n3_ n4_ n5_ n6_ n7_
          clear ho hb hg hat
          refine hK.out _ _ trivial (fun hHeld => ?_)
          clear hK K
          refine norm_ (a' := ?_) ?_ ?_
          rotate_left
          ·show Act.put _ (some 27) _ = _
           simp only [Act.put, List.setIfInBounds_toArray, List.set_cons_zero, List.set_cons_succ, i64_w, i32_w]
           rfl
          refine one_ (i := 11) (N := some 31) #[true, true, true, true, true, true, true, true, true, true, true, true, false] rfl rfl (one_of HT_.out (by kernel_rfl)) (by decide) (fun K hK => ?_)
          refine Kd.N_append_rows_step (Kd.slice 3 (Kd.int .i64)) (w0 := w) w.heap.size (by rfl) (.tmp 27) (.tmp 30) 24 41 (.slice none 0 0) 24 rfl Tryz.underlying24 info41 rfl (by decide) (by omega) v263 y262 y265 _ _ _ (fun k_ => ((P0_ k_ ∨ P1_ k_) ∨ w.heap.size ≤ k_)) (fun k_ => ((fun k_ => ((P0_ k_ ∨ P1_ k_) ∨ w.heap.size ≤ k_))) k_ ∧ some k_ ≠ (v263 : Value).ownBlock) rfl rfl ?aO ?aR (fun _ hk => hk) ?aF ?aB ?aS ?aL ?_
          (case aR => exact (by skip; exact Kd.V_F (Kd.V_mono (ok' := (fun k_ => ((fun k_ => ((P0_ k_ ∨ P1_ k_) ∨ w.heap.size ≤ k_))) k_ ∧ some k_ ≠ (v263 : Value).ownBlock)) (HO269.out) (fun k_ hk => ⟨hk.1.1, hk.2⟩))))
          (case aB => exact (by repeat (first | exact HB.out | apply below_alloc | apply pw_below_drewN | apply below_drew1)))
          (case aF => exact (fun k_ hk => (.inr (Nat.le_trans (below_size (by repeat (first | exact HB.out | apply below_alloc | apply pw_below_drewN | apply below_drew1))) hk))))
          (case aO => exact (by (with_reducible repeat (first | apply Kd.N_alloc | apply Kd.N_drewN | apply Kd.N_drew)); exact HO264.out))
          (case aS => exact (below_size (by repeat (first | exact HB.out | apply below_alloc | apply pw_below_drewN | apply below_drew1))))
          (case aL => have := LMc13.out; omega)
          intro v271 w25 ho hb hg hat
          rw [← Ny270.out] at ho
          have n0_ := Aside0.mk (Kd.V_afterv (ok := (fun k_ => ((P0_ k_ ∨ P1_ k_) ∨ w.heap.size ≤ k_) ∧ some k_ ≠ (.slice Ao24 y259.length co24 : Value).ownBlock)) (by (with_reducible repeat (first | apply Kd.V_alloc | apply Kd.V_drewN | apply Kd.V_drew)); exact HO_0.out) hg hat)
          have n1_ := Aside0.mk (Kd.V_afterv (ok := (fun k_ => ((P0_ k_ ∨ P1_ k_) ∨ w.heap.size ≤ k_) ∧ some k_ ≠ (.slice Ao24 y259.length co24 : Value).ownBlock)) (by (with_reducible repeat (first | apply Kd.V_alloc | apply Kd.V_drewN | apply Kd.V_drew)); exact HO_1.out) hg hat)
          have n2_ := Aside0.mk (Kd.V_afterv (ok := (fun k_ => ((P0_ k_ ∨ P1_ k_) ∨ w.heap.size ≤ k_) ∧ some k_ ≠ (.slice Ao24 y259.length co24 : Value).ownBlock)) (by (with_reducible repeat (first | apply Kd.V_alloc | apply Kd.V_drewN | apply Kd.V_drew)); exact HL246_0.out) hg hat)
          have n3_ := Aside0.mk (Kd.V_afterv (ok := (fun k_ => ((P0_ k_ ∨ P1_ k_) ∨ w.heap.size ≤ k_) ∧ some k_ ≠ (.slice Ao24 y259.length co24 : Value).ownBlock)) (by (with_reducible repeat (first | apply Kd.V_alloc | apply Kd.V_drewN | apply Kd.V_drew)); exact HO255.out) hg hat)
          have n4_ := Aside0.mk (Kd.V_afterv (ok := (fun k_ => ((P0_ k_ ∨ P1_ k_) ∨ w.heap.size ≤ k_) ∧ some k_ ≠ (.slice Ao24 y259.length co24 : Value).ownBlock)) (by (with_reducible repeat (first | apply Kd.V_alloc | apply Kd.V_drewN | apply Kd.V_drew)); exact HO269.out) hg hat)
          have n5_ := Aside0.mk (Kd.N_afterv (ok := (fun k_ => ((P0_ k_ ∨ P1_ k_) ∨ w.heap.size ≤ k_))) (by (with_reducible repeat (first | apply Kd.N_alloc | apply Kd.N_drewN | apply Kd.N_drew)); exact HO261.out) hg hat)
          have n6_ := Aside0.mk (hb)
          have n7_ := Aside0.mk (ho)
          clear HO_0
          clear HO_1
          clear HL246_0
          clear HO255
          clear HO269
          clear HO261
          clear HB
          clear HO264
          have HO_0 := n0_
          have HO_1 := n1_
          have HL246_0 := n2_
          have HO255 := n3_
          have HO269 := n4_
          have HO261 := n5_
          have HB := n6_
          have HO272 := n7_
          clear n0_ n1_ n2_ n3_ n4_ n5_ n6_ n7_
          clear ho hb hg hat
          refine hK.out _ _ trivial (fun hHeld => ?_)
          clear hK K
          refine norm_ (a' := ?_) ?_ ?_
          rotate_left
          ·show Act.put _ (some 31) _ = _
           simp only [Act.put, List.setIfInBounds_toArray, List.set_cons_zero, List.set_cons_succ, i64_w, i32_w]
           rfl
          refine pure_ (i := 12) (N := some 4) (v := ?_) (a' := ?_) #[true, true, true, true, true, true, true, true, true, true, true, true, true] rfl rfl (any_of HT_.out (by kernel_rfl)) (fun _ _ _ h => h) (Or.inl ⟨by rfl, ?_⟩) ?_ ?_
          rotate_left
          ·intro w'
           go_simp
           with_reducible rfl
          rotate_left
          ·simp only [Act.put, List.setIfInBounds_toArray, List.set_cons_zero, List.set_cons_succ, i64_w, i32_w]
           rfl
          refine done_ (done_of HT_.out (by kernel_rfl)) ?_
          try go_wp2
          go_ret
          exact ⟨_, by first | rfl | (simp [errW_none, errW_some] <;> rfl) | (simp [*, errW_none, errW_some] <;> rfl), by (with_reducible repeat (first | apply Kd.N_alloc | apply Kd.N_drewN | apply Kd.N_drew)); exact HO272.out, by repeat (first | exact HB.out | apply below_alloc | apply pw_below_drewN | apply below_drew1)⟩
         ·rw [if_neg c13] at H
          exact absurd H (by simp)
        ·rw [if_neg c10] at H
         exact absurd H (by simp)
       ·rw [if_neg c9] at H
        exact absurd H (by simp)
      ·rw [if_neg c8] at H
       exact absurd H (by simp)
    ·rw [if_neg c4] at H
     exact absurd H (by simp)
   ·rw [if_neg c3] at H
    have c3b0 : decide (x5_1 < (l0.length : Int)) = false := decide_eq_false c3
    clear c3
    obtain ⟨y273, hy273⟩ : ∃ y_ : List (List Int), y_ = (([] : List (List Int))) := ⟨_, rfl⟩
    replace H : (if 0 ≤ x5_1 then (if x5_1 ≤ (l0.length : Int) then ((some (l0.take (x5_1 : Int).toNat : List (List Int))).bind fun y276 => (if y273.length + y276.length < 5864062014805 then ((some (y273 ++ y276 : List (List Int))).bind fun y281 => ((some (([l1] : List (List Int)) : List (List Int))).bind fun y284 => (if y281.length + y284.length < 5864062014805 then ((some (y281 ++ y284 : List (List Int))).bind fun y287 => ((some (l0.drop (x5_1 : Int).toNat : List (List Int))).bind fun y290 => (if y287.length + y290.length < 5864062014805 then (some (y287 ++ y290)) else (none)))) else (none)))) else (none))) else (none)) else (none)) = some r := by first | (rw [hy273]; with_reducible exact H) | (have H2_ := (Option.bind_some _ _).symm.trans H; rw [hy273]; with_reducible exact H2_) | (have H2_ := (Option.bind_some _ _).symm.trans H; with_reducible exact H2_) | with_reducible exact H | (rw [hy273]; exact H) | exact H
    have Ny273 := Aside0.mk hy273
    clear hy273
    by_cases c26 : 0 ≤ x5_1
    ·rw [if_pos c26] at H
     have c26b0 := eq_true c26
     have c26b1 : decide (0 ≤ x5_1) = true := decide_eq_true c26
     clear c26
     by_cases c27 : x5_1 ≤ (l0.length : Int)
     ·rw [if_pos c27] at H
      have c27b0 := eq_true c27
      have c27b1 : decide (x5_1 ≤ (l0.length : Int)) = true := decide_eq_true c27
      clear c27
      obtain ⟨y276, hy276⟩ : ∃ y_ : List (List Int), y_ = (l0.take (x5_1 : Int).toNat) := ⟨_, rfl⟩
      replace H : (if y273.length + y276.length < 5864062014805 then ((some (y273 ++ y276 : List (List Int))).bind fun y281 => ((some (([l1] : List (List Int)) : List (List Int))).bind fun y284 => (if y281.length + y284.length < 5864062014805 then ((some (y281 ++ y284 : List (List Int))).bind fun y287 => ((some (l0.drop (x5_1 : Int).toNat : List (List Int))).bind fun y290 => (if y287.length + y290.length < 5864062014805 then (some (y287 ++ y290)) else (none)))) else (none)))) else (none)) = some r := by first | (rw [hy276]; with_reducible exact H) | (have H2_ := (Option.bind_some _ _).symm.trans H; rw [hy276]; with_reducible exact H2_) | (have H2_ := (Option.bind_some _ _).symm.trans H; with_reducible exact H2_) | with_reducible exact H | (rw [hy276]; exact H) | exact H
      have Ny276 := Aside0.mk hy276
      clear hy276
      by_cases c28 : y273.length + y276.length < 5864062014805
      ·rw [if_pos c28] at H
       have LMc28 := Aside0.mk c28
       clear c28
       obtain ⟨y281, hy281⟩ : ∃ y_ : List (List Int), y_ = (y273 ++ y276) := ⟨_, rfl⟩
       replace H : ((some (([l1] : List (List Int)) : List (List Int))).bind fun y284 => (if y281.length + y284.length < 5864062014805 then ((some (y281 ++ y284 : List (List Int))).bind fun y287 => ((some (l0.drop (x5_1 : Int).toNat : List (List Int))).bind fun y290 => (if y287.length + y290.length < 5864062014805 then (some (y287 ++ y290)) else (none)))) else (none))) = some r := by first | (rw [hy281]; with_reducible exact H) | (have H2_ := (Option.bind_some _ _).symm.trans H; rw [hy281]; with_reducible exact H2_) | (have H2_ := (Option.bind_some _ _).symm.trans H; with_reducible exact H2_) | with_reducible exact H | (rw [hy281]; exact H) | exact H
       have Ny281 := Aside0.mk hy281
       clear hy281
       obtain ⟨y284, hy284⟩ : ∃ y_ : List (List Int), y_ = (([l1] : List (List Int))) := ⟨_, rfl⟩
       replace H : (if y281.length + y284.length < 5864062014805 then ((some (y281 ++ y284 : List (List Int))).bind fun y287 => ((some (l0.drop (x5_1 : Int).toNat : List (List Int))).bind fun y290 => (if y287.length + y290.length < 5864062014805 then (some (y287 ++ y290)) else (none)))) else (none)) = some r := by first | (rw [hy284]; with_reducible exact H) | (have H2_ := (Option.bind_some _ _).symm.trans H; rw [hy284]; with_reducible exact H2_) | (have H2_ := (Option.bind_some _ _).symm.trans H; with_reducible exact H2_) | with_reducible exact H | (rw [hy284]; exact H) | exact H
       have Ny284 := Aside0.mk hy284
       clear hy284
       by_cases c29 : y281.length + y284.length < 5864062014805
       ·rw [if_pos c29] at H
        have LMc29 := Aside0.mk c29
        clear c29
        obtain ⟨y287, hy287⟩ : ∃ y_ : List (List Int), y_ = (y281 ++ y284) := ⟨_, rfl⟩
        replace H : ((some (l0.drop (x5_1 : Int).toNat : List (List Int))).bind fun y290 => (if y287.length + y290.length < 5864062014805 then (some (y287 ++ y290)) else (none))) = some r := by first | (rw [hy287]; with_reducible exact H) | (have H2_ := (Option.bind_some _ _).symm.trans H; rw [hy287]; with_reducible exact H2_) | (have H2_ := (Option.bind_some _ _).symm.trans H; with_reducible exact H2_) | with_reducible exact H | (rw [hy287]; exact H) | exact H
        have Ny287 := Aside0.mk hy287
        clear hy287
        have c30b0 := eq_true (of_decide_eq_true (by first | (with_reducible assumption) | assumption) : 0 ≤ x5_1)
        have c31b0 := eq_true (of_decide_eq_true (by first | (with_reducible assumption) | assumption) : x5_1 ≤ (l0.length : Int))
        obtain ⟨y290, hy290⟩ : ∃ y_ : List (List Int), y_ = (l0.drop (x5_1 : Int).toNat) := ⟨_, rfl⟩
        replace H : (if y287.length + y290.length < 5864062014805 then (some (y287 ++ y290)) else (none)) = some r := by first | (rw [hy290]; with_reducible exact H) | (have H2_ := (Option.bind_some _ _).symm.trans H; rw [hy290]; with_reducible exact H2_) | (have H2_ := (Option.bind_some _ _).symm.trans H; with_reducible exact H2_) | with_reducible exact H | (rw [hy290]; exact H) | exact H
        have Ny290 := Aside0.mk hy290
        clear hy290
        by_cases c32 : y287.length + y290.length < 5864062014805
        ·rw [if_pos c32] at H
         have LMc32 := Aside0.mk c32
         clear c32
         obtain ⟨y295, hy295⟩ : ∃ y_ : List (List Int), y_ = (y287 ++ y290) := ⟨_, rfl⟩
         replace H : (some y295) = some r := by first | (rw [hy295]; with_reducible exact H) | (have H2_ := (Option.bind_some _ _).symm.trans H; rw [hy295]; with_reducible exact H2_) | (have H2_ := (Option.bind_some _ _).symm.trans H; with_reducible exact H2_) | with_reducible exact H | (rw [hy295]; exact H) | exact H
         have Ny295 := Aside0.mk hy295
         clear hy295
         obtain rfl := Option.some.inj H
         try go_wp2
         have n0_ := Aside0.mk (Kd.V_drew HO_0.out)
         have n1_ := Aside0.mk (Kd.V_drew HO_1.out)
         have n2_ := Aside0.mk (below_drew1 HB.out)
         clear HO_0
         clear HO_1
         clear HB
         have HO_0 := n0_
         have HO_1 := n1_
         have HB := n2_
         clear n0_ n1_ n2_
         have q34 : (x5_1 : Int) ≤ ((l0.length : Int) : Int) := of_decide_eq_true (by first | (with_reducible assumption) | assumption)
         obtain ⟨i034, hi034, _, hsz34, _⟩ := info_parts info41
         have hroom34 : l0.length ≤ c0 := (Kd.V_reads' HO_0.out).2.1
         have hC34 : Kd.F (Kd.slice 3 (Kd.int .i64)) _ _ A0 l0.length l0 := (Kd.V_at (base := w.heap.size) HO_0.out).2.2
         have hcut34 := cut_to (P := Tryz.prog) 24 41 .i64 Tryz.underlying24 hi034 A0 l0.length c0 x5_1 (of_decide_eq_true (by first | (with_reducible assumption) | assumption)) q34 hroom34
         have hr34 := Kd.F_take (m := (x5_1 : Int).toNat) hC34 (by omega)
         have hy34 : y276.length = (x5_1 : Int).toNat := (by rw [Ny276.out, List.length_take]; omega)
         rw [← Ny276.out] at hr34
         rw [← hy34] at hcut34
         have HO280 := Aside0.mk (show Kd.V (Kd.slice 3 (Kd.int .i64)) 41 _ w.heap.size _ (.slice A0 y276.length c0) y276 from Kd.V_mk (by omega) hr34)
         have HC280 := Aside0.mk (show y276.length ≤ c0 from by omega)
         clear hr34 hC34 hroom34 hi034 hsz34
         have KY34 := Aside0.mk hy34
         clear hy34
         replace q34 := eq_true q34
         have q35 : (x5_1 : Int) ≤ ((l0.length : Int) : Int) := of_decide_eq_true (by first | (with_reducible assumption) | assumption)
         obtain ⟨i035, hi035, _, hsz35, _⟩ := info_parts info41
         have hroom35 : l0.length ≤ c0 := (Kd.V_reads' HO_0.out).2.1
         have hC35 : Kd.F (Kd.slice 3 (Kd.int .i64)) _ _ A0 l0.length l0 := (Kd.V_at (base := w.heap.size) HO_0.out).2.2
         have q035 : (0 : Int) ≤ (x5_1 : Int) := of_decide_eq_true (by first | (with_reducible assumption) | assumption)
         have hcut35 := cut_from (P := Tryz.prog) 24 41 .i64 Tryz.underlying24 hi035 1 hsz35 A0 l0.length c0 x5_1 q035 q35
         have hr35 := Kd.F_cut (m := (x5_1 : Int).toNat) (c := c0) hC35 (by omega) hroom35
         obtain ⟨A35, hA35⟩ : ∃ A1, A1 = (if c0 = (x5_1 : Int).toNat then A0 else (A0 : Option Addr).map (·.add ((x5_1 : Int).toNat * 1))) := ⟨_, rfl⟩
         obtain ⟨c35, hc35⟩ : ∃ c1, c1 = c0 - (x5_1 : Int).toNat := ⟨_, rfl⟩
         have hy35 : y290.length = l0.length - (x5_1 : Int).toNat := (by rw [Ny290.out, List.length_drop] <;> omega)
         rw [show (l0).drop (x5_1 : Int).toNat = y290 from Ny290.out.symm] at hr35
         replace hr35 : Kd.F (Kd.slice 3 (Kd.int .i64)) _ _ A35 y290.length y290 := (by rw [hA35]; exact hr35)
         rw [← hy35, ← hA35, ← hc35] at hcut35
         have HO294 := Aside0.mk (show Kd.V (Kd.slice 3 (Kd.int .i64)) 41 _ w.heap.size _ (.slice A35 y290.length c35) y290 from Kd.V_mk (by rw [hy35, hc35]; exact Nat.sub_le_sub_right hroom35 _) hr35)
         have HC294 := Aside0.mk (show y290.length ≤ c35 from by rw [hy35, hc35]; exact Nat.sub_le_sub_right hroom35 _)
         clear hr35 hC35 hroom35 hi035 hsz35 hc35
         have KY35 := Aside0.mk hy35
         have KA35 := Aside0.mk hA35
         clear hy35 hA35
         replace q35 := eq_true q35
         refine start_ (n := 13) (S := fun w' => True) (ds := []) #[false, false, false, false, false, false, false, false, false, false, false, false, false] (by kernel_rfl) rfl rfl trivial (fun hHeld => ?_); refine with_tabW potbankref06_put.tab4 potbankref06_put.bits4 (fun HT_ HW_ => ?_)
         generalize wr.drew = w33 at HO_0 HO_1 HB HO280 HO294 hHeld ⊢
         refine pure_ (i := 1) (N := some 21) (v := ?_) (a' := ?_) #[false, true, false, false, false, false, false, false, false, false, false, false, false] rfl rfl (any_of HT_.out (by kernel_rfl)) (fun _ _ _ h => h) (Or.inl ⟨by rfl, ?_⟩) ?_ ?_
         rotate_left
         ·intro w'
          go_simp
          with_reducible rfl
         rotate_left
         ·simp only [Act.put, List.setIfInBounds_toArray, List.set_cons_zero, List.set_cons_succ, i64_w, i32_w]
          rfl
         refine pure_ (i := 2) (N := some 22) (v := ?_) (a' := ?_) #[false, true, true, false, false, false, false, false, false, false, false, false, false] rfl rfl (any_of HT_.out (by kernel_rfl)) (fun _ _ _ h => h) (Or.inl ⟨by rfl, ?_⟩) ?_ ?_
         rotate_left
         ·intro w'
          go_simp
          with_reducible rfl
         rotate_left
         ·simp only [Act.put, List.setIfInBounds_toArray, List.set_cons_zero, List.set_cons_succ, i64_w, i32_w]
          rfl
         refine pure_ (i := 3) (N := some 23) (v := ?_) (a' := ?_) #[false, true, true, true, false, false, false, false, false, false, false, false, false] rfl rfl (any_of HT_.out (by kernel_rfl)) (fun _ _ _ h => h) (Or.inl ⟨by rfl, ?_⟩) ?_ ?_
         rotate_left
         ·intro w'
          go_simp
          with_reducible rfl
         rotate_left
         ·simp only [Act.put, List.setIfInBounds_toArray, List.set_cons_zero, List.set_cons_succ, i64_w, i32_w]
          rfl
         refine pure_ (i := 5) (N := some 25) (v := ?_) (a' := ?_) #[false, true, true, true, false, true, false, false, false, false, false, false, false] rfl rfl (any_of HT_.out (by kernel_rfl)) (fun _ _ _ h => h) (Or.inl ⟨by rfl, ?_⟩) ?_ ?_
         rotate_left
         ·intro w'
          go_simp
          with_reducible rfl
         rotate_left
         ·simp only [Act.put, List.setIfInBounds_toArray, List.set_cons_zero, List.set_cons_succ, i64_w, i32_w]
          rfl
         refine pure_ (i := 8) (N := some 28) (v := ?_) (a' := ?_) #[false, true, true, true, false, true, false, false, true, false, false, false, false] rfl rfl (any_of HT_.out (by kernel_rfl)) (fun _ _ _ h => h) (Or.inl ⟨by rfl, ?_⟩) ?_ ?_
         rotate_left
         ·intro w'
          go_simp
          with_reducible rfl
         rotate_left
         ·simp only [Act.put, List.setIfInBounds_toArray, List.set_cons_zero, List.set_cons_succ, i64_w, i32_w]
          rfl
         refine pure_ (i := 9) (N := some 29) (v := ?_) (a' := ?_) #[false, true, true, true, false, true, false, false, true, true, false, false, false] rfl rfl (any_of HT_.out (by kernel_rfl)) (fun _ _ _ h => h) (Or.inl ⟨by rfl, ?_⟩) ?_ ?_
         rotate_left
         ·intro w'
          go_simp
          with_reducible rfl
         rotate_left
         ·simp only [Act.put, List.setIfInBounds_toArray, List.set_cons_zero, List.set_cons_succ, i64_w, i32_w]
          rfl
         refine pure_ (i := 10) (N := some 30) (v := ?_) (a' := ?_) #[false, true, true, true, false, true, false, false, true, true, true, false, false] rfl rfl (any_of HT_.out (by kernel_rfl)) (fun _ _ _ h => h) (Or.inl ⟨by rfl, ?_⟩) ?_ ?_
         rotate_left
         ·intro w'
          go_simp
          with_reducible rfl
         rotate_left
         ·simp only [Act.put, List.setIfInBounds_toArray, List.set_cons_zero, List.set_cons_succ, i64_w, i32_w]
          rfl
         refine join_ (σ := Value × Value × Value) 3 #[true, true, true, true, true, true, true, false, true, true, true, false, false] (fun s_ => [(20, s_.1), (24, s_.2.1), (26, s_.2.2)]) (fun s_ w' => (Kd.V (Kd.slice 3 (Kd.int .i64)) 41 w' w.heap.size (fun k_ => ((P0_ k_ ∨ P1_ k_) ∨ w.heap.size ≤ k_) ∧ some k_ ≠ (s_.2.1 : Value).ownBlock ∧ some k_ ≠ (s_.2.2 : Value).ownBlock) (.slice A0 y276.length c0) y276) ∧ (Kd.N (Kd.slice 3 (Kd.int .i64)) 41 w' w.heap.size (fun k_ => ((P0_ k_ ∨ P1_ k_) ∨ w.heap.size ≤ k_) ∧ some k_ ≠ (s_.2.2 : Value).ownBlock) s_.2.1 y281) ∧ (Kd.N (Kd.slice 3 (Kd.int .i64)) 41 w' w.heap.size (fun k_ => ((P0_ k_ ∨ P1_ k_) ∨ w.heap.size ≤ k_) ∧ some k_ ≠ (s_.2.1 : Value).ownBlock) s_.2.2 y284) ∧ (Kd.V (Kd.slice 3 (Kd.int .i64)) 41 w' w.heap.size (fun k_ => ((P0_ k_ ∨ P1_ k_) ∨ w.heap.size ≤ k_) ∧ some k_ ≠ (s_.2.1 : Value).ownBlock ∧ some k_ ≠ (s_.2.2 : Value).ownBlock) (.slice A35 y290.length c35) y290) ∧ (Kd.V (Kd.slice 3 (Kd.int .i64)) 41 w' w.heap.size (fun k_ => ((P0_ k_ ∨ P1_ k_) ∨ w.heap.size ≤ k_) ∧ some k_ ≠ (s_.2.1 : Value).ownBlock ∧ some k_ ≠ (s_.2.2 : Value).ownBlock) (.slice A0 l0.length c0) l0) ∧ (Kd.V (Kd.int .i64) 3 w' w.heap.size (fun k_ => ((P0_ k_ ∨ P1_ k_) ∨ w.heap.size ≤ k_) ∧ some k_ ≠ (s_.2.1 : Value).ownBlock ∧ some k_ ≠ (s_.2.2 : Value).ownBlock) (.slice A1 l1.length c1) l1) ∧ (Below w.heap.size w w')) ?_ ?_
         rotate_left
         ·intro hCont
          refine two_ (i := 0) (j := 6) (Ni := some 20) (Nj := some 26) #[true, true, true, true, false, true, false, false, true, true, true, false, false] #[false, true, true, true, false, true, true, false, true, true, true, false, false] rfl rfl rfl rfl (two_of HT_.out (by kernel_rfl)) (by decide) (by decide) (fun K hK => ?_) (fun K hK => ?_)
          ·skip
           refine Kd.N_lit_step (Kd.slice 3 (Kd.int .i64)) _ 41 ?hg (N' := 20) ?hd (xs := ([] : List (List Int))) (inner := []) (ok := (fun k_ => ((P0_ k_ ∨ P1_ k_) ∨ w.heap.size ≤ k_))) (okp := (fun k_ => ((P0_ k_ ∨ P1_ k_) ∨ w.heap.size ≤ k_))) ?hr ?hp (fun _ hk => hk) ((show ∀ k_, w33.heap.size ≤ k_ → (fun k_ => ((P0_ k_ ∨ P1_ k_) ∨ w.heap.size ≤ k_)) k_ from fun k_ hk => (.inr (Nat.le_trans (below_size (by repeat (first | exact HB.out | apply below_alloc | apply pw_below_drewN | apply below_drew1))) hk))) _ (Nat.le_refl _)) (Below.refl _ _) (Nat.le_refl _) (by simp) ?_; (case hd => rfl); (case hg => rfl); (case hr => first | (go_simp; done) | (go_simp; rfl)); (case hp => exact (Reps.none _ _))
           intro v274 w36 ho37 hb hg_ hnew_
           clear hg_ hnew_
           (first | rw [← Ny273.out] at ho37 | (simp only [Int.reduceToNat] at ho37; rw [← Ny273.out] at ho37))
           have n0_ := Aside0.mk (Kd.V_elder' (by (with_reducible repeat (first | apply Kd.V_alloc | apply Kd.V_drewN | apply Kd.V_drew)); exact HO_0.out) (Kd.N_base ho37) hb)
           have n1_ := Aside0.mk (Kd.V_elder' (by (with_reducible repeat (first | apply Kd.V_alloc | apply Kd.V_drewN | apply Kd.V_drew)); exact HO_1.out) (Kd.N_base ho37) hb)
           have n2_ := Aside0.mk (Kd.V_elder' (by (with_reducible repeat (first | apply Kd.V_alloc | apply Kd.V_drewN | apply Kd.V_drew)); exact HO280.out) (Kd.N_base ho37) hb)
           have n3_ := Aside0.mk (Kd.V_elder' (by (with_reducible repeat (first | apply Kd.V_alloc | apply Kd.V_drewN | apply Kd.V_drew)); exact HO294.out) (Kd.N_base ho37) hb)
           have n4_ := Aside0.mk (Kd.N_lower ho37 (below_size (by repeat (first | exact HB.out | apply below_alloc | apply pw_below_drewN | apply below_drew1))))
           have n5_ := Aside0.mk (below_step (by repeat (first | exact HB.out | apply below_alloc | apply pw_below_drewN | apply below_drew1)) hb)
           clear HO_0
           clear HO_1
           clear HO280
           clear HO294
           clear HB
           have HO_0 := n0_
           have HO_1 := n1_
           have HO280 := n2_
           have HO294 := n3_
           have HO275 := n4_
           have HB := n5_
           clear n0_ n1_ n2_ n3_ n4_ n5_
           clear hb ho37
           refine hK.out _ _ trivial (fun hHeld => ?_)
           clear hK K
           refine norm_ (a' := ?_) ?_ ?_
           rotate_left
           ·show Act.put _ (some 20) _ = _
            simp only [Act.put, List.setIfInBounds_toArray, List.set_cons_zero, List.set_cons_succ, i64_w, i32_w]
            rfl
           refine two_ (i := 4) (j := 6) (Ni := some 24) (Nj := some 26) #[true, true, true, true, true, true, false, false, true, true, true, false, false] #[true, true, true, true, false, true, true, false, true, true, true, false, false] rfl rfl rfl rfl (two_of HT_.out (by kernel_rfl)) (by decide) (by decide) (fun K hK => ?_) (fun K hK => ?_)
           ·skip
            refine Kd.N_append_rows_step (Kd.slice 3 (Kd.int .i64)) (w0 := w) w.heap.size (by rfl) (.tmp 20) (.tmp 23) 24 41 (.slice none 0 0) 24 rfl Tryz.underlying24 info41 rfl (by decide) (by omega) v274 y273 y276 _ _ _ (fun k_ => ((P0_ k_ ∨ P1_ k_) ∨ w.heap.size ≤ k_)) (fun k_ => ((fun k_ => ((P0_ k_ ∨ P1_ k_) ∨ w.heap.size ≤ k_))) k_ ∧ some k_ ≠ (v274 : Value).ownBlock) rfl rfl ?aO ?aR (fun _ hk => hk) ?aF ?aB ?aS ?aL ?_
            (case aR => exact (by skip; exact Kd.V_F (Kd.V_mono (ok' := (fun k_ => ((fun k_ => ((P0_ k_ ∨ P1_ k_) ∨ w.heap.size ≤ k_))) k_ ∧ some k_ ≠ (v274 : Value).ownBlock)) (HO280.out) (fun k_ hk => ⟨hk.1, hk.2⟩))))
            (case aB => exact (by repeat (first | exact HB.out | apply below_alloc | apply pw_below_drewN | apply below_drew1)))
            (case aF => exact (fun k_ hk => (.inr (Nat.le_trans (below_size (by repeat (first | exact HB.out | apply below_alloc | apply pw_below_drewN | apply below_drew1))) hk))))
            (case aO => exact (by (with_reducible repeat (first | apply Kd.N_alloc | apply Kd.N_drewN | apply Kd.N_drew)); exact HO275.out))
            (case aS => exact (below_size (by repeat (first | exact HB.out | apply below_alloc | apply pw_below_drewN | apply below_drew1))))
            (case aL => have := LMc28.out; omega)
            intro v282 w38 ho hb hg hat
            rw [← Ny281.out] at ho
            have n0_ := Aside0.mk (Kd.V_afterv (ok := (fun k_ => ((P0_ k_ ∨ P1_ k_) ∨ w.heap.size ≤ k_))) (by (with_reducible repeat (first | apply Kd.V_alloc | apply Kd.V_drewN | apply Kd.V_drew)); exact HO_0.out) hg hat)
            have n1_ := Aside0.mk (Kd.V_afterv (ok := (fun k_ => ((P0_ k_ ∨ P1_ k_) ∨ w.heap.size ≤ k_))) (by (with_reducible repeat (first | apply Kd.V_alloc | apply Kd.V_drewN | apply Kd.V_drew)); exact HO_1.out) hg hat)
            have n2_ := Aside0.mk (Kd.V_afterv (ok := (fun k_ => ((P0_ k_ ∨ P1_ k_) ∨ w.heap.size ≤ k_))) (by (with_reducible repeat (first | apply Kd.V_alloc | apply Kd.V_drewN | apply Kd.V_drew)); exact HO280.out) hg hat)
            have n3_ := Aside0.mk (Kd.V_afterv (ok := (fun k_ => ((P0_ k_ ∨ P1_ k_) ∨ w.heap.size ≤ k_))) (by (with_reducible repeat (first | apply Kd.V_alloc | apply Kd.V_drewN | apply Kd.V_drew)); exact HO294.out) hg hat)
            have n4_ := Aside0.mk (hb)
            have n5_ := Aside0.mk (ho)
            clear HO_0
            clear HO_1
            clear HO280
            clear HO294
            clear HB
            clear HO275
            have HO_0 := n0_
            have HO_1 := n1_
            have HO280 := n2_
            have HO294 := n3_
            have HB := n4_
            have HO283 := n5_
            clear n0_ n1_ n2_ n3_ n4_ n5_
            clear ho hb hg hat
            refine hK.out _ _ trivial (fun hHeld => ?_)
            clear hK K
            refine norm_ (a' := ?_) ?_ ?_
            rotate_left
            ·show Act.put _ (some 24) _ = _
             simp only [Act.put, List.setIfInBounds_toArray, List.set_cons_zero, List.set_cons_succ, i64_w, i32_w]
             rfl
            refine one_ (i := 6) (N := some 26) #[true, true, true, true, true, true, true, false, true, true, true, false, false] rfl rfl (one_of HT_.out (by kernel_rfl)) (by decide) (fun K hK => ?_)
            refine Kd.N_lit_step (Kd.slice 3 (Kd.int .i64)) _ 41 ?hg (N' := 26) ?hd (xs := ([l1] : List (List Int))) (inner := [.slice A1 l1.length c1]) (ok := (fun k_ => ((P0_ k_ ∨ P1_ k_) ∨ w.heap.size ≤ k_) ∧ some k_ ≠ (v282 : Value).ownBlock)) (okp := (fun k_ => ((P0_ k_ ∨ P1_ k_) ∨ w.heap.size ≤ k_) ∧ some k_ ≠ (v282 : Value).ownBlock)) ?hr ?hp (fun _ hk => hk) ((show ∀ k_, w38.heap.size ≤ k_ → (fun k_ => ((P0_ k_ ∨ P1_ k_) ∨ w.heap.size ≤ k_) ∧ some k_ ≠ (v282 : Value).ownBlock) k_ from fun k_ hk => ⟨(.inr (Nat.le_trans (below_size (by repeat (first | exact HB.out | apply below_alloc | apply pw_below_drewN | apply below_drew1))) hk)), Kd.fresh' (Kd.N_lt (by (with_reducible repeat (first | apply Kd.N_alloc | apply Kd.N_drewN | apply Kd.N_drew)); exact HO283.out)) k_ hk⟩) _ (Nat.le_refl _)) (Below.refl _ _) (Nat.le_refl _) (by simp) ?_; (case hd => rfl); (case hg => rfl); (case hr => first | (go_simp; done) | (go_simp; rfl)); (case hp => exact (Reps.one (show Kd.FK (Kd.slice 3 (Kd.int .i64)) _ _ l1 [.slice A1 l1.length c1] from (Kd.FK_slice_mk (Kd.V_reads' (Kd.V_mono (ok' := (fun k_ => ((P0_ k_ ∨ P1_ k_) ∨ w.heap.size ≤ k_) ∧ some k_ ≠ (v282 : Value).ownBlock)) (HO_1.out) (fun k_ hk => ⟨hk.1, hk.2⟩))).2.1 (Kd.V_F (Kd.V_mono (ok' := (fun k_ => ((P0_ k_ ∨ P1_ k_) ∨ w.heap.size ≤ k_) ∧ some k_ ≠ (v282 : Value).ownBlock)) (HO_1.out) (fun k_ hk => ⟨hk.1, hk.2⟩))))) (Reps.none _ _)))
            intro v285 w39 ho40 hb hg_ hnew_
            clear hg_ hnew_
            (first | rw [← Ny284.out] at ho40 | (simp only [Int.reduceToNat] at ho40; rw [← Ny284.out] at ho40))
            have n0_ := Aside0.mk (Kd.V_elder' (by (with_reducible repeat (first | apply Kd.V_alloc | apply Kd.V_drewN | apply Kd.V_drew)); exact HO_0.out) (Kd.N_base ho40) hb)
            have n1_ := Aside0.mk (Kd.V_elder' (by (with_reducible repeat (first | apply Kd.V_alloc | apply Kd.V_drewN | apply Kd.V_drew)); exact HO_1.out) (Kd.N_base ho40) hb)
            have n2_ := Aside0.mk (Kd.V_elder' (by (with_reducible repeat (first | apply Kd.V_alloc | apply Kd.V_drewN | apply Kd.V_drew)); exact HO280.out) (Kd.N_base ho40) hb)
            have n3_ := Aside0.mk (Kd.V_elder' (by (with_reducible repeat (first | apply Kd.V_alloc | apply Kd.V_drewN | apply Kd.V_drew)); exact HO294.out) (Kd.N_base ho40) hb)
            have n4_ := Aside0.mk (Kd.N_elder' (by (with_reducible repeat (first | apply Kd.N_alloc | apply Kd.N_drewN | apply Kd.N_drew)); exact HO283.out) (Kd.N_base ho40) hb)
            have n5_ := Aside0.mk (Kd.N_lower ho40 (below_size (by repeat (first | exact HB.out | apply below_alloc | apply pw_below_drewN | apply below_drew1))))
            have n6_ := Aside0.mk (below_step (by repeat (first | exact HB.out | apply below_alloc | apply pw_below_drewN | apply below_drew1)) hb)
            clear HO_0
            clear HO_1
            clear HO280
            clear HO294
            clear HO283
            clear HB
            have HO_0 := n0_
            have HO_1 := n1_
            have HO280 := n2_
            have HO294 := n3_
            have HO283 := n4_
            have HO286 := n5_
            have HB := n6_
            clear n0_ n1_ n2_ n3_ n4_ n5_ n6_
            clear hb ho40
            refine hK.out _ _ trivial (fun hHeld => ?_)
            clear hK K
            refine norm_ (a' := ?_) ?_ ?_
            rotate_left
            ·show Act.put _ (some 26) _ = _
             simp only [Act.put, List.setIfInBounds_toArray, List.set_cons_zero, List.set_cons_succ, i64_w, i32_w]
             rfl
            exact norm_ (by simp only [putAll, Act.put, List.setIfInBounds_toArray, List.set_cons_zero, List.set_cons_succ]) (hCont (v274, v282, v285) _ ⟨(by (with_reducible repeat (first | apply Kd.V_alloc | apply Kd.V_drewN | apply Kd.V_drew)); exact Kd.V_mono HO280.out (fun _ hk => ⟨hk.1.1, ⟨hk.1.2, hk.2⟩⟩)), (by (with_reducible repeat (first | apply Kd.N_alloc | apply Kd.N_drewN | apply Kd.N_drew)); exact HO283.out), (by (with_reducible repeat (first | apply Kd.N_alloc | apply Kd.N_drewN | apply Kd.N_drew)); exact HO286.out), (by (with_reducible repeat (first | apply Kd.V_alloc | apply Kd.V_drewN | apply Kd.V_drew)); exact Kd.V_mono HO294.out (fun _ hk => ⟨hk.1.1, ⟨hk.1.2, hk.2⟩⟩)), (by (with_reducible repeat (first | apply Kd.V_alloc | apply Kd.V_drewN | apply Kd.V_drew)); exact Kd.V_mono HO_0.out (fun _ hk => ⟨hk.1.1, ⟨hk.1.2, hk.2⟩⟩)), (by (with_reducible repeat (first | apply Kd.V_alloc | apply Kd.V_drewN | apply Kd.V_drew)); exact Kd.V_mono HO_1.out (fun _ hk => ⟨hk.1.1, ⟨hk.1.2, hk.2⟩⟩)), (by repeat (first | exact HB.out | apply below_alloc | apply pw_below_drewN | apply below_drew1))⟩)
           ·skip
            refine Kd.N_lit_step (Kd.slice 3 (Kd.int .i64)) _ 41 ?hg (N' := 26) ?hd (xs := ([l1] : List (List Int))) (inner := [.slice A1 l1.length c1]) (ok := (fun k_ => ((P0_ k_ ∨ P1_ k_) ∨ w.heap.size ≤ k_) ∧ some k_ ≠ (v274 : Value).ownBlock)) (okp := (fun k_ => ((P0_ k_ ∨ P1_ k_) ∨ w.heap.size ≤ k_) ∧ some k_ ≠ (v274 : Value).ownBlock)) ?hr ?hp (fun _ hk => hk) ((show ∀ k_, w36.heap.size ≤ k_ → (fun k_ => ((P0_ k_ ∨ P1_ k_) ∨ w.heap.size ≤ k_) ∧ some k_ ≠ (v274 : Value).ownBlock) k_ from fun k_ hk => ⟨(.inr (Nat.le_trans (below_size (by repeat (first | exact HB.out | apply below_alloc | apply pw_below_drewN | apply below_drew1))) hk)), Kd.fresh' (Kd.N_lt (by (with_reducible repeat (first | apply Kd.N_alloc | apply Kd.N_drewN | apply Kd.N_drew)); exact HO275.out)) k_ hk⟩) _ (Nat.le_refl _)) (Below.refl _ _) (Nat.le_refl _) (by simp) ?_; (case hd => rfl); (case hg => rfl); (case hr => first | (go_simp; done) | (go_simp; rfl)); (case hp => exact (Reps.one (show Kd.FK (Kd.slice 3 (Kd.int .i64)) _ _ l1 [.slice A1 l1.length c1] from (Kd.FK_slice_mk (Kd.V_reads' (Kd.V_mono (ok' := (fun k_ => ((P0_ k_ ∨ P1_ k_) ∨ w.heap.size ≤ k_) ∧ some k_ ≠ (v274 : Value).ownBlock)) (HO_1.out) (fun k_ hk => ⟨hk.1, hk.2⟩))).2.1 (Kd.V_F (Kd.V_mono (ok' := (fun k_ => ((P0_ k_ ∨ P1_ k_) ∨ w.heap.size ≤ k_) ∧ some k_ ≠ (v274 : Value).ownBlock)) (HO_1.out) (fun k_ hk => ⟨hk.1, hk.2⟩))))) (Reps.none _ _)))
            intro v285 w38 ho39 hb hg_ hnew_
            clear hg_ hnew_
            (first | rw [← Ny284.out] at ho39 | (simp only [Int.reduceToNat] at ho39; rw [← Ny284.out] at ho39))
            have n0_ := Aside0.mk (Kd.V_elder' (by (with_reducible repeat (first | apply Kd.V_alloc | apply Kd.V_drewN | apply Kd.V_drew)); exact HO_0.out) (Kd.N_base ho39) hb)
            have n1_ := Aside0.mk (Kd.V_elder' (by (with_reducible repeat (first | apply Kd.V_alloc | apply Kd.V_drewN | apply Kd.V_drew)); exact HO_1.out) (Kd.N_base ho39) hb)
            have n2_ := Aside0.mk (Kd.V_elder' (by (with_reducible repeat (first | apply Kd.V_alloc | apply Kd.V_drewN | apply Kd.V_drew)); exact HO280.out) (Kd.N_base ho39) hb)
            have n3_ := Aside0.mk (Kd.V_elder' (by (with_reducible repeat (first | apply Kd.V_alloc | apply Kd.V_drewN | apply Kd.V_drew)); exact HO294.out) (Kd.N_base ho39) hb)
            have n4_ := Aside0.mk (Kd.N_elder' (by (with_reducible repeat (first | apply Kd.N_alloc | apply Kd.N_drewN | apply Kd.N_drew)); exact HO275.out) (Kd.N_base ho39) hb)
            have n5_ := Aside0.mk (Kd.N_lower ho39 (below_size (by repeat (first | exact HB.out | apply below_alloc | apply pw_below_drewN | apply below_drew1))))
            have n6_ := Aside0.mk (below_step (by repeat (first | exact HB.out | apply below_alloc | apply pw_below_drewN | apply below_drew1)) hb)
            clear HO_0
            clear HO_1
            clear HO280
            clear HO294
            clear HO275
            clear HB
            have HO_0 := n0_
            have HO_1 := n1_
            have HO280 := n2_
            have HO294 := n3_
            have HO275 := n4_
            have HO286 := n5_
            have HB := n6_
            clear n0_ n1_ n2_ n3_ n4_ n5_ n6_
            clear hb ho39
            refine hK.out _ _ trivial (fun hHeld => ?_)
            clear hK K
            refine norm_ (a' := ?_) ?_ ?_
            rotate_left
            ·show Act.put _ (some 26) _ = _
             simp only [Act.put, List.setIfInBounds_toArray, List.set_cons_zero, List.set_cons_succ, i64_w, i32_w]
             rfl
            refine one_ (i := 4) (N := some 24) #[true, true, true, true, true, true, true, false, true, true, true, false, false] rfl rfl (one_of HT_.out (by kernel_rfl)) (by decide) (fun K hK => ?_)
            refine Kd.N_append_rows_step (Kd.slice 3 (Kd.int .i64)) (w0 := w) w.heap.size (by rfl) (.tmp 20) (.tmp 23) 24 41 (.slice none 0 0) 24 rfl Tryz.underlying24 info41 rfl (by decide) (by omega) v274 y273 y276 _ _ _ (fun k_ => ((P0_ k_ ∨ P1_ k_) ∨ w.heap.size ≤ k_) ∧ some k_ ≠ (v285 : Value).ownBlock) (fun k_ => ((fun k_ => ((P0_ k_ ∨ P1_ k_) ∨ w.heap.size ≤ k_) ∧ some k_ ≠ (v285 : Value).ownBlock)) k_ ∧ some k_ ≠ (v274 : Value).ownBlock) rfl rfl ?aO ?aR (fun _ hk => hk) ?aF ?aB ?aS ?aL ?_
            (case aR => exact (by skip; exact Kd.V_F (Kd.V_mono (ok' := (fun k_ => ((fun k_ => ((P0_ k_ ∨ P1_ k_) ∨ w.heap.size ≤ k_) ∧ some k_ ≠ (v285 : Value).ownBlock)) k_ ∧ some k_ ≠ (v274 : Value).ownBlock)) (HO280.out) (fun k_ hk => ⟨⟨hk.1.1, hk.2⟩, hk.1.2⟩))))
            (case aB => exact (by repeat (first | exact HB.out | apply below_alloc | apply pw_below_drewN | apply below_drew1)))
            (case aF => exact (fun k_ hk => ⟨(.inr (Nat.le_trans (below_size (by repeat (first | exact HB.out | apply below_alloc | apply pw_below_drewN | apply below_drew1))) hk)), Kd.fresh' (Kd.N_lt (by (with_reducible repeat (first | apply Kd.N_alloc | apply Kd.N_drewN | apply Kd.N_drew)); exact HO286.out)) k_ hk⟩))
            (case aO => exact (by (with_reducible repeat (first | apply Kd.N_alloc | apply Kd.N_drewN | apply Kd.N_drew)); exact HO275.out))
            (case aS => exact (below_size (by repeat (first | exact HB.out | apply below_alloc | apply pw_below_drewN | apply below_drew1))))
            (case aL => have := LMc28.out; omega)
            intro v282 w40 ho hb hg hat
            rw [← Ny281.out] at ho
            have n0_ := Aside0.mk (Kd.V_afterv (ok := (fun k_ => ((P0_ k_ ∨ P1_ k_) ∨ w.heap.size ≤ k_) ∧ some k_ ≠ (v285 : Value).ownBlock)) (by (with_reducible repeat (first | apply Kd.V_alloc | apply Kd.V_drewN | apply Kd.V_drew)); exact Kd.V_mono HO_0.out (fun _ hk => ⟨⟨hk.1.1, hk.2⟩, hk.1.2⟩)) hg hat)
            have n1_ := Aside0.mk (Kd.V_afterv (ok := (fun k_ => ((P0_ k_ ∨ P1_ k_) ∨ w.heap.size ≤ k_) ∧ some k_ ≠ (v285 : Value).ownBlock)) (by (with_reducible repeat (first | apply Kd.V_alloc | apply Kd.V_drewN | apply Kd.V_drew)); exact Kd.V_mono HO_1.out (fun _ hk => ⟨⟨hk.1.1, hk.2⟩, hk.1.2⟩)) hg hat)
            have n2_ := Aside0.mk (Kd.V_afterv (ok := (fun k_ => ((P0_ k_ ∨ P1_ k_) ∨ w.heap.size ≤ k_) ∧ some k_ ≠ (v285 : Value).ownBlock)) (by (with_reducible repeat (first | apply Kd.V_alloc | apply Kd.V_drewN | apply Kd.V_drew)); exact Kd.V_mono HO280.out (fun _ hk => ⟨⟨hk.1.1, hk.2⟩, hk.1.2⟩)) hg hat)
            have n3_ := Aside0.mk (Kd.V_afterv (ok := (fun k_ => ((P0_ k_ ∨ P1_ k_) ∨ w.heap.size ≤ k_) ∧ some k_ ≠ (v285 : Value).ownBlock)) (by (with_reducible repeat (first | apply Kd.V_alloc | apply Kd.V_drewN | apply Kd.V_drew)); exact Kd.V_mono HO294.out (fun _ hk => ⟨⟨hk.1.1, hk.2⟩, hk.1.2⟩)) hg hat)
            have n4_ := Aside0.mk (Kd.N_afterv (ok := (fun k_ => ((P0_ k_ ∨ P1_ k_) ∨ w.heap.size ≤ k_))) (by (with_reducible repeat (first | apply Kd.N_alloc | apply Kd.N_drewN | apply Kd.N_drew)); exact HO286.out) hg hat)
            have n5_ := Aside0.mk (hb)
            have n6_ := Aside0.mk (ho)
            clear HO_0
            clear HO_1
            clear HO280
            clear HO294
            clear HO286
            clear HB
            clear HO275
            have HO_0 := n0_
            have HO_1 := n1_
            have HO280 := n2_
            have HO294 := n3_
            have HO286 := n4_
            have HB := n5_
            have HO283 := n6_
            clear n0_ n1_ n2_ n3_ n4_ n5_ n6_
            clear ho hb hg hat
            refine hK.out _ _ trivial (fun hHeld => ?_)
            clear hK K
            refine norm_ (a' := ?_) ?_ ?_
            rotate_left
            ·show Act.put _ (some 24) _ = _
             simp only [Act.put, List.setIfInBounds_toArray, List.set_cons_zero, List.set_cons_succ, i64_w, i32_w]
             rfl
            exact norm_ (by simp only [putAll, Act.put, List.setIfInBounds_toArray, List.set_cons_zero, List.set_cons_succ]) (hCont (v274, v282, v285) _ ⟨(by (with_reducible repeat (first | apply Kd.V_alloc | apply Kd.V_drewN | apply Kd.V_drew)); exact Kd.V_mono HO280.out (fun _ hk => ⟨hk.1.1, ⟨hk.2, hk.1.2⟩⟩)), (by (with_reducible repeat (first | apply Kd.N_alloc | apply Kd.N_drewN | apply Kd.N_drew)); exact HO283.out), (by (with_reducible repeat (first | apply Kd.N_alloc | apply Kd.N_drewN | apply Kd.N_drew)); exact HO286.out), (by (with_reducible repeat (first | apply Kd.V_alloc | apply Kd.V_drewN | apply Kd.V_drew)); exact Kd.V_mono HO294.out (fun _ hk => ⟨hk.1.1, ⟨hk.2, hk.1.2⟩⟩)), (by (with_reducible repeat (first | apply Kd.V_alloc | apply Kd.V_drewN | apply Kd.V_drew)); exact Kd.V_mono HO_0.out (fun _ hk => ⟨hk.1.1, ⟨hk.2, hk.1.2⟩⟩)), (by (with_reducible repeat (first | apply Kd.V_alloc | apply Kd.V_drewN | apply Kd.V_drew)); exact Kd.V_mono HO_1.out (fun _ hk => ⟨hk.1.1, ⟨hk.2, hk.1.2⟩⟩)), (by repeat (first | exact HB.out | apply below_alloc | apply pw_below_drewN | apply below_drew1))⟩)
          ·skip
           refine Kd.N_lit_step (Kd.slice 3 (Kd.int .i64)) _ 41 ?hg (N' := 26) ?hd (xs := ([l1] : List (List Int))) (inner := [.slice A1 l1.length c1]) (ok := (fun k_ => ((P0_ k_ ∨ P1_ k_) ∨ w.heap.size ≤ k_))) (okp := (fun k_ => ((P0_ k_ ∨ P1_ k_) ∨ w.heap.size ≤ k_))) ?hr ?hp (fun _ hk => hk) ((show ∀ k_, w33.heap.size ≤ k_ → (fun k_ => ((P0_ k_ ∨ P1_ k_) ∨ w.heap.size ≤ k_)) k_ from fun k_ hk => (.inr (Nat.le_trans (below_size (by repeat (first | exact HB.out | apply below_alloc | apply pw_below_drewN | apply below_drew1))) hk))) _ (Nat.le_refl _)) (Below.refl _ _) (Nat.le_refl _) (by simp) ?_; (case hd => rfl); (case hg => rfl); (case hr => first | (go_simp; done) | (go_simp; rfl)); (case hp => exact (Reps.one (show Kd.FK (Kd.slice 3 (Kd.int .i64)) _ _ l1 [.slice A1 l1.length c1] from (Kd.FK_slice_mk (Kd.V_reads' (Kd.V_mono (ok' := (fun k_ => ((P0_ k_ ∨ P1_ k_) ∨ w.heap.size ≤ k_))) (HO_1.out) (fun k_ hk => hk))).2.1 (Kd.V_F (Kd.V_mono (ok' := (fun k_ => ((P0_ k_ ∨ P1_ k_) ∨ w.heap.size ≤ k_))) (HO_1.out) (fun k_ hk => hk))))) (Reps.none _ _)))
           intro v285 w36 ho37 hb hg_ hnew_
           clear hg_ hnew_
           (first | rw [← Ny284.out] at ho37 | (simp only [Int.reduceToNat] at ho37; rw [← Ny284.out] at ho37))
           have n0_ := Aside0.mk (Kd.V_elder' (by (with_reducible repeat (first | apply Kd.V_alloc | apply Kd.V_drewN | apply Kd.V_drew)); exact HO_0.out) (Kd.N_base ho37) hb)
           have n1_ := Aside0.mk (Kd.V_elder' (by (with_reducible repeat (first | apply Kd.V_alloc | apply Kd.V_drewN | apply Kd.V_drew)); exact HO_1.out) (Kd.N_base ho37) hb)
           have n2_ := Aside0.mk (Kd.V_elder' (by (with_reducible repeat (first | apply Kd.V_alloc | apply Kd.V_drewN | apply Kd.V_drew)); exact HO280.out) (Kd.N_base ho37) hb)
           have n3_ := Aside0.mk (Kd.V_elder' (by (with_reducible repeat (first | apply Kd.V_alloc | apply Kd.V_drewN | apply Kd.V_drew)); exact HO294.out) (Kd.N_base ho37) hb)
           have n4_ := Aside0.mk (Kd.N_lower ho37 (below_size (by repeat (first | exact HB.out | apply below_alloc | apply pw_below_drewN | apply below_drew1))))
           have n5_ := Aside0.mk (below_step (by repeat (first | exact HB.out | apply below_alloc | apply pw_below_drewN | apply below_drew1)) hb)
           clear HO_0
           clear HO_1
           clear HO280
           clear HO294
           clear HB
           have HO_0 := n0_
           have HO_1 := n1_
           have HO280 := n2_
           have HO294 := n3_
           have HO286 := n4_
           have HB := n5_
           clear n0_ n1_ n2_ n3_ n4_ n5_
           clear hb ho37
           refine hK.out _ _ trivial (fun hHeld => ?_)
           clear hK K
           refine norm_ (a' := ?_) ?_ ?_
           rotate_left
           ·show Act.put _ (some 26) _ = _
            simp only [Act.put, List.setIfInBounds_toArray, List.set_cons_zero, List.set_cons_succ, i64_w, i32_w]
            rfl
           refine one_ (i := 0) (N := some 20) #[true, true, true, true, false, true, true, false, true, true, true, false, false] rfl rfl (one_of HT_.out (by kernel_rfl)) (by decide) (fun K hK => ?_)
           refine Kd.N_lit_step (Kd.slice 3 (Kd.int .i64)) _ 41 ?hg (N' := 20) ?hd (xs := ([] : List (List Int))) (inner := []) (ok := (fun k_ => ((P0_ k_ ∨ P1_ k_) ∨ w.heap.size ≤ k_) ∧ some k_ ≠ (v285 : Value).ownBlock)) (okp := (fun k_ => ((P0_ k_ ∨ P1_ k_) ∨ w.heap.size ≤ k_) ∧ some k_ ≠ (v285 : Value).ownBlock)) ?hr ?hp (fun _ hk => hk) ((show ∀ k_, w36.heap.size ≤ k_ → (fun k_ => ((P0_ k_ ∨ P1_ k_) ∨ w.heap.size ≤ k_) ∧ some k_ ≠ (v285 : Value).ownBlock) k_ from fun k_ hk => ⟨(.inr (Nat.le_trans (below_size (by repeat (first | exact HB.out | apply below_alloc | apply pw_below_drewN | apply below_drew1))) hk)), Kd.fresh' (Kd.N_lt (by (with_reducible repeat (first | apply Kd.N_alloc | apply Kd.N_drewN | apply Kd.N_drew)); exact HO286.out)) k_ hk⟩) _ (Nat.le_refl _)) (Below.refl _ _) (Nat.le_refl _) (by simp) ?_; (case hd => rfl); (case hg => rfl); (case hr => first | (go_simp; done) | (go_simp; rfl)); (case hp => exact (Reps.none _ _))
           intro v274 w38 ho39 hb hg_ hnew_
           clear hg_ hnew_
           (first | rw [← Ny273.out] at ho39 | (simp only [Int.reduceToNat] at ho39; rw [← Ny273.out] at ho39))
           have n0_ := Aside0.mk (Kd.V_elder' (by (with_reducible repeat (first | apply Kd.V_alloc | apply Kd.V_drewN | apply Kd.V_drew)); exact HO_0.out) (Kd.N_base ho39) hb)
           have n1_ := Aside0.mk (Kd.V_elder' (by (with_reducible repeat (first | apply Kd.V_alloc | apply Kd.V_drewN | apply Kd.V_drew)); exact HO_1.out) (Kd.N_base ho39) hb)
           have n2_ := Aside0.mk (Kd.V_elder' (by (with_reducible repeat (first | apply Kd.V_alloc | apply Kd.V_drewN | apply Kd.V_drew)); exact HO280.out) (Kd.N_base ho39) hb)
           have n3_ := Aside0.mk (Kd.V_elder' (by (with_reducible repeat (first | apply Kd.V_alloc | apply Kd.V_drewN | apply Kd.V_drew)); exact HO294.out) (Kd.N_base ho39) hb)
           have n4_ := Aside0.mk (Kd.N_elder' (by (with_reducible repeat (first | apply Kd.N_alloc | apply Kd.N_drewN | apply Kd.N_drew)); exact HO286.out) (Kd.N_base ho39) hb)
           have n5_ := Aside0.mk (Kd.N_lower ho39 (below_size (by repeat (first | exact HB.out | apply below_alloc | apply pw_below_drewN | apply below_drew1))))
           have n6_ := Aside0.mk (below_step (by repeat (first | exact HB.out | apply below_alloc | apply pw_below_drewN | apply below_drew1)) hb)
           clear HO_0
           clear HO_1
           clear HO280
           clear HO294
           clear HO286
           clear HB
           have HO_0 := n0_
           have HO_1 := n1_
           have HO280 := n2_
           have HO294 := n3_
           have HO286 := n4_
           have HO275 := n5_
           have HB := n6_
           clear n0_ n1_ n2_ n3_ n4_ n5_ n6_
           clear hb ho39
           refine hK.out _ _ trivial (fun hHeld => ?_)
           clear hK K
           refine norm_ (a' := ?_) ?_ ?_
           rotate_left
           ·show Act.put _ (some 20) _ = _
            simp only [Act.put, List.setIfInBounds_toArray, List.set_cons_zero, List.set_cons_succ, i64_w, i32_w]
            rfl
           refine one_ (i := 4) (N := some 24) #[true, true, true, true, true, true, true, false, true, true, true, false, false] rfl rfl (one_of HT_.out (by kernel_rfl)) (by decide) (fun K hK => ?_)
           refine Kd.N_append_rows_step (Kd.slice 3 (Kd.int .i64)) (w0 := w) w.heap.size (by rfl) (.tmp 20) (.tmp 23) 24 41 (.slice none 0 0) 24 rfl Tryz.underlying24 info41 rfl (by decide) (by omega) v274 y273 y276 _ _ _ (fun k_ => ((P0_ k_ ∨ P1_ k_) ∨ w.heap.size ≤ k_) ∧ some k_ ≠ (v285 : Value).ownBlock) (fun k_ => ((fun k_ => ((P0_ k_ ∨ P1_ k_) ∨ w.heap.size ≤ k_) ∧ some k_ ≠ (v285 : Value).ownBlock)) k_ ∧ some k_ ≠ (v274 : Value).ownBlock) rfl rfl ?aO ?aR (fun _ hk => hk) ?aF ?aB ?aS ?aL ?_
           (case aR => exact (by skip; exact Kd.V_F (Kd.V_mono (ok' := (fun k_ => ((fun k_ => ((P0_ k_ ∨ P1_ k_) ∨ w.heap.size ≤ k_) ∧ some k_ ≠ (v285 : Value).ownBlock)) k_ ∧ some k_ ≠ (v274 : Value).ownBlock)) (HO280.out) (fun k_ hk => ⟨⟨hk.1.1, hk.1.2⟩, hk.2⟩))))
           (case aB => exact (by repeat (first | exact HB.out | apply below_alloc | apply pw_below_drewN | apply below_drew1)))
           (case aF => exact (fun k_ hk => ⟨(.inr (Nat.le_trans (below_size (by repeat (first | exact HB.out | apply below_alloc | apply pw_below_drewN | apply below_drew1))) hk)), Kd.fresh' (Kd.N_lt (by (with_reducible repeat (first | apply Kd.N_alloc | apply Kd.N_drewN | apply Kd.N_drew)); exact HO286.out)) k_ hk⟩))
           (case aO => exact (by (with_reducible repeat (first | apply Kd.N_alloc | apply Kd.N_drewN | apply Kd.N_drew)); exact HO275.out))
           (case aS => exact (below_size (by repeat (first | exact HB.out | apply below_alloc | apply pw_below_drewN | apply below_drew1))))
           (case aL => have := LMc28.out; omega)
           intro v282 w40 ho hb hg hat
           rw [← Ny281.out] at ho
           have n0_ := Aside0.mk (Kd.V_afterv (ok := (fun k_ => ((P0_ k_ ∨ P1_ k_) ∨ w.heap.size ≤ k_) ∧ some k_ ≠ (v285 : Value).ownBlock)) (by (with_reducible repeat (first | apply Kd.V_alloc | apply Kd.V_drewN | apply Kd.V_drew)); exact HO_0.out) hg hat)
           have n1_ := Aside0.mk (Kd.V_afterv (ok := (fun k_ => ((P0_ k_ ∨ P1_ k_) ∨ w.heap.size ≤ k_) ∧ some k_ ≠ (v285 : Value).ownBlock)) (by (with_reducible repeat (first | apply Kd.V_alloc | apply Kd.V_drewN | apply Kd.V_drew)); exact HO_1.out) hg hat)
           have n2_ := Aside0.mk (Kd.V_afterv (ok := (fun k_ => ((P0_ k_ ∨ P1_ k_) ∨ w.heap.size ≤ k_) ∧ some k_ ≠ (v285 : Value).ownBlock)) (by (with_reducible repeat (first | apply Kd.V_alloc | apply Kd.V_drewN | apply Kd.V_drew)); exact HO280.out) hg hat)
           have n3_ := Aside0.mk (Kd.V_afterv (ok := (fun k_ => ((P0_ k_ ∨ P1_ k_) ∨ w.heap.size ≤ k_) ∧ some k_ ≠ (v285 : Value).ownBlock)) (by (with_reducible repeat (first | apply Kd.V_alloc | apply Kd.V_drewN | apply Kd.V_drew)); exact HO294.out) hg hat)
           have n4_ := Aside0.mk (Kd.N_afterv (ok := (fun k_ => ((P0_ k_ ∨ P1_ k_) ∨ w.heap.size ≤ k_))) (by (with_reducible repeat (first | apply Kd.N_alloc | apply Kd.N_drewN | apply Kd.N_drew)); exact HO286.out) hg hat)
           have n5_ := Aside0.mk (hb)
           have n6_ := Aside0.mk (ho)
           clear HO_0
           clear HO_1
           clear HO280
           clear HO294
           clear HO286
           clear HB
           clear HO275
           have HO_0 := n0_
           have HO_1 := n1_
           have HO280 := n2_
           have HO294 := n3_
           have HO286 := n4_
           have HB := n5_
           have HO283 := n6_
           clear n0_ n1_ n2_ n3_ n4_ n5_ n6_
           clear ho hb hg hat
           refine hK.out _ _ trivial (fun hHeld => ?_)
           clear hK K
           refine norm_ (a' := ?_) ?_ ?_
           rotate_left
           ·show Act.put _ (some 24) _ = _
            simp only [Act.put, List.setIfInBounds_toArray, List.set_cons_zero, List.set_cons_succ, i64_w, i32_w]
            rfl
           exact norm_ (by simp only [putAll, Act.put, List.setIfInBounds_toArray, List.set_cons_zero, List.set_cons_succ]) (hCont (v274, v282, v285) _ ⟨(by (with_reducible repeat (first | apply Kd.V_alloc | apply Kd.V_drewN | apply Kd.V_drew)); exact Kd.V_mono HO280.out (fun _ hk => ⟨hk.1.1, ⟨hk.2, hk.1.2⟩⟩)), (by (with_reducible repeat (first | apply Kd.N_alloc | apply Kd.N_drewN | apply Kd.N_drew)); exact HO283.out), (by (with_reducible repeat (first | apply Kd.N_alloc | apply Kd.N_drewN | apply Kd.N_drew)); exact HO286.out), (by (with_reducible repeat (first | apply Kd.V_alloc | apply Kd.V_drewN | apply Kd.V_drew)); exact Kd.V_mono HO294.out (fun _ hk => ⟨hk.1.1, ⟨hk.2, hk.1.2⟩⟩)), (by (with_reducible repeat (first | apply Kd.V_alloc | apply Kd.V_drewN | apply Kd.V_drew)); exact Kd.V_mono HO_0.out (fun _ hk => ⟨hk.1.1, ⟨hk.2, hk.1.2⟩⟩)), (by (with_reducible repeat (first | apply Kd.V_alloc | apply Kd.V_drewN | apply Kd.V_drew)); exact Kd.V_mono HO_1.out (fun _ hk => ⟨hk.1.1, ⟨hk.2, hk.1.2⟩⟩)), (by repeat (first | exact HB.out | apply below_alloc | apply pw_below_drewN | apply below_drew1))⟩)
         rintro ⟨v274, v282, v285⟩ w41 ⟨h0_, h1_, h2_, h3_, h4_, h5_, h6_⟩
         have n0_ : Aside0 (Kd.V (Kd.slice 3 (Kd.int .i64)) 41 w41 w.heap.size (fun k_ => ((P0_ k_ ∨ P1_ k_) ∨ w.heap.size ≤ k_) ∧ some k_ ≠ (v282 : Value).ownBlock ∧ some k_ ≠ (v285 : Value).ownBlock) (.slice A0 y276.length c0) y276) := ⟨h0_⟩
         have n1_ : Aside0 (Kd.N (Kd.slice 3 (Kd.int .i64)) 41 w41 w.heap.size (fun k_ => ((P0_ k_ ∨ P1_ k_) ∨ w.heap.size ≤ k_) ∧ some k_ ≠ (v285 : Value).ownBlock) v282 y281) := ⟨h1_⟩
         have n2_ : Aside0 (Kd.N (Kd.slice 3 (Kd.int .i64)) 41 w41 w.heap.size (fun k_ => ((P0_ k_ ∨ P1_ k_) ∨ w.heap.size ≤ k_) ∧ some k_ ≠ (v282 : Value).ownBlock) v285 y284) := ⟨h2_⟩
         have n3_ : Aside0 (Kd.V (Kd.slice 3 (Kd.int .i64)) 41 w41 w.heap.size (fun k_ => ((P0_ k_ ∨ P1_ k_) ∨ w.heap.size ≤ k_) ∧ some k_ ≠ (v282 : Value).ownBlock ∧ some k_ ≠ (v285 : Value).ownBlock) (.slice A35 y290.length c35) y290) := ⟨h3_⟩
         have n4_ : Aside0 (Kd.V (Kd.slice 3 (Kd.int .i64)) 41 w41 w.heap.size (fun k_ => ((P0_ k_ ∨ P1_ k_) ∨ w.heap.size ≤ k_) ∧ some k_ ≠ (v282 : Value).ownBlock ∧ some k_ ≠ (v285 : Value).ownBlock) (.slice A0 l0.length c0) l0) := ⟨h4_⟩
         have n5_ : Aside0 (Kd.V (Kd.int .i64) 3 w41 w.heap.size (fun k_ => ((P0_ k_ ∨ P1_ k_) ∨ w.heap.size ≤ k_) ∧ some k_ ≠ (v282 : Value).ownBlock ∧ some k_ ≠ (v285 : Value).ownBlock) (.slice A1 l1.length c1) l1) := ⟨h5_⟩
         have n6_ : Aside0 (Below w.heap.size w w41) := ⟨h6_⟩
         clear HO_0
         clear HO_1
         clear HB
         clear h0_ h1_ h2_ h3_ h4_ h5_ h6_
         have HO280 := n0_
         have HO283 := n1_
         have HO286 := n2_
         have HO294 := n3_
         have HO_0 := n4_
         have HO_1 := n5_
         have HB := n6_
         clear n0_ n1_ n2_ n3_ n4_ n5_ n6_
         have hHeld := trivial
         obtain ⟨Ao43, co43, eo43⟩ := Kd.N_slice HO286.out
         (first | subst eo43 | (injection eo43 with f1_ f2_ f3_; have f4_ := f1_.symm; have f5_ := f3_.symm; clear f1_ f2_ f3_; subst f4_; subst f5_))
         refine norm_ (a' := ?_) ?_ ?_
         rotate_left
         ·simp only [putAll, Act.put, List.setIfInBounds_toArray, List.set_cons_zero, List.set_cons_succ]
          rfl
         refine one_ (i := 7) (N := some 27) #[true, true, true, true, true, true, true, true, true, true, true, false, false] rfl rfl (one_of HT_.out (by kernel_rfl)) (by decide) (fun K hK => ?_)
         refine Kd.N_append_rows_step (Kd.slice 3 (Kd.int .i64)) (w0 := w) w.heap.size (by rfl) (.tmp 24) (.tmp 26) 24 41 (.slice none 0 0) 24 rfl Tryz.underlying24 info41 rfl (by decide) (by omega) v282 y281 y284 _ _ _ (fun k_ => ((P0_ k_ ∨ P1_ k_) ∨ w.heap.size ≤ k_)) (fun k_ => ((fun k_ => ((P0_ k_ ∨ P1_ k_) ∨ w.heap.size ≤ k_))) k_ ∧ some k_ ≠ (v282 : Value).ownBlock) rfl rfl ?aO ?aR (fun _ hk => hk) ?aF ?aB ?aS ?aL ?_
         (case aR => exact (by skip; exact Kd.N_F (Kd.N_mono (ok' := (fun k_ => ((fun k_ => ((P0_ k_ ∨ P1_ k_) ∨ w.heap.size ≤ k_))) k_ ∧ some k_ ≠ (v282 : Value).ownBlock)) (HO286.out) (fun k_ hk => ⟨hk.1, hk.2⟩))))
         (case aB => exact (by repeat (first | exact HB.out | apply below_alloc | apply pw_below_drewN | apply below_drew1)))
         (case aF => exact (fun k_ hk => (.inr (Nat.le_trans (below_size (by repeat (first | exact HB.out | apply below_alloc | apply pw_below_drewN | apply below_drew1))) hk))))
         (case aO => exact (by (with_reducible repeat (first | apply Kd.N_alloc | apply Kd.N_drewN | apply Kd.N_drew)); exact Kd.N_mono HO283.out (fun _ hk => hk.1)))
         (case aS => exact (below_size (by repeat (first | exact HB.out | apply below_alloc | apply pw_below_drewN | apply below_drew1))))
         (case aL => have := LMc29.out; omega)
         intro v288 w42 ho hb hg hat
         rw [← Ny287.out] at ho
         have n0_ := Aside0.mk (Kd.V_afterv (ok := (fun k_ => ((P0_ k_ ∨ P1_ k_) ∨ w.heap.size ≤ k_) ∧ some k_ ≠ (.slice Ao43 y284.length co43 : Value).ownBlock)) (by (with_reducible repeat (first | apply Kd.V_alloc | apply Kd.V_drewN | apply Kd.V_drew)); exact Kd.V_mono HO_0.out (fun _ hk => ⟨⟨hk.1, hk.2.2⟩, hk.2.1⟩)) hg hat)
         have n1_ := Aside0.mk (Kd.V_afterv (ok := (fun k_ => ((P0_ k_ ∨ P1_ k_) ∨ w.heap.size ≤ k_) ∧ some k_ ≠ (.slice Ao43 y284.length co43 : Value).ownBlock)) (by (with_reducible repeat (first | apply Kd.V_alloc | apply Kd.V_drewN | apply Kd.V_drew)); exact Kd.V_mono HO_1.out (fun _ hk => ⟨⟨hk.1, hk.2.2⟩, hk.2.1⟩)) hg hat)
         have n2_ := Aside0.mk (Kd.V_afterv (ok := (fun k_ => ((P0_ k_ ∨ P1_ k_) ∨ w.heap.size ≤ k_) ∧ some k_ ≠ (.slice Ao43 y284.length co43 : Value).ownBlock)) (by (with_reducible repeat (first | apply Kd.V_alloc | apply Kd.V_drewN | apply Kd.V_drew)); exact Kd.V_mono HO280.out (fun _ hk => ⟨⟨hk.1, hk.2.2⟩, hk.2.1⟩)) hg hat)
         have n3_ := Aside0.mk (Kd.V_afterv (ok := (fun k_ => ((P0_ k_ ∨ P1_ k_) ∨ w.heap.size ≤ k_) ∧ some k_ ≠ (.slice Ao43 y284.length co43 : Value).ownBlock)) (by (with_reducible repeat (first | apply Kd.V_alloc | apply Kd.V_drewN | apply Kd.V_drew)); exact Kd.V_mono HO294.out (fun _ hk => ⟨⟨hk.1, hk.2.2⟩, hk.2.1⟩)) hg hat)
         have n4_ := Aside0.mk (Kd.N_afterv (ok := (fun k_ => ((P0_ k_ ∨ P1_ k_) ∨ w.heap.size ≤ k_))) (by (with_reducible repeat (first | apply Kd.N_alloc | apply Kd.N_drewN | apply Kd.N_drew)); exact HO286.out) hg hat)
         have n5_ := Aside0.mk (hb)
         have n6_ := Aside0.mk (ho)
         clear HO_0
         clear HO_1
         clear HO280
         clear HO294
         clear HO286
         clear HB
         clear HO283
         have HO_0 := n0_
         have HO_1 := n1_
         have HO280 := n2_
         have HO294 := n3_
         have HO286 := n4_
         have HB := n5_
         have HO289 := n6_
         clear n0_ n1_ n2_ n3_ n4_ n5_ n6_
         clear ho hb hg hat
         refine hK.out _ _ trivial (fun hHeld => ?_)
         clear hK K
         refine norm_ (a' := ?_) ?_ ?_
         rotate_left
         ·show Act.put _ (some 27) _ = _
          simp only [Act.put, List.setIfInBounds_toArray, List.set_cons_zero, List.set_cons_succ, i64_w, i32_w]
          rfl
         refine one_ (i := 11) (N := some 31) #[true, true, true, true, true, true, true, true, true, true, true, true, false] rfl rfl (one_of HT_.out (by kernel_rfl)) (by decide) (fun K hK => ?_)
         refine Kd.N_append_rows_step (Kd.slice 3 (Kd.int .i64)) (w0 := w) w.heap.size (by rfl) (.tmp 27) (.tmp 30) 24 41 (.slice none 0 0) 24 rfl Tryz.underlying24 info41 rfl (by decide) (by omega) v288 y287 y290 _ _ _ (fun k_ => ((P0_ k_ ∨ P1_ k_) ∨ w.heap.size ≤ k_)) (fun k_ => ((fun k_ => ((P0_ k_ ∨ P1_ k_) ∨ w.heap.size ≤ k_))) k_ ∧ some k_ ≠ (v288 : Value).ownBlock) rfl rfl ?aO ?aR (fun _ hk => hk) ?aF ?aB ?aS ?aL ?_
         (case aR => exact (by skip; exact Kd.V_F (Kd.V_mono (ok' := (fun k_ => ((fun k_ => ((P0_ k_ ∨ P1_ k_) ∨ w.heap.size ≤ k_))) k_ ∧ some k_ ≠ (v288 : Value).ownBlock)) (HO294.out) (fun k_ hk => ⟨hk.1.1, hk.2⟩))))
         (case aB => exact (by repeat (first | exact HB.out | apply below_alloc | apply pw_below_drewN | apply below_drew1)))
         (case aF => exact (fun k_ hk => (.inr (Nat.le_trans (below_size (by repeat (first | exact HB.out | apply below_alloc | apply pw_below_drewN | apply below_drew1))) hk))))
         (case aO => exact (by (with_reducible repeat (first | apply Kd.N_alloc | apply Kd.N_drewN | apply Kd.N_drew)); exact HO289.out))
         (case aS => exact (below_size (by repeat (first | exact HB.out | apply below_alloc | apply pw_below_drewN | apply below_drew1))))
         (case aL => have := LMc32.out; omega)
         intro v296 w44 ho hb hg hat
         rw [← Ny295.out] at ho
         have n0_ := Aside0.mk (Kd.V_afterv (ok := (fun k_ => ((P0_ k_ ∨ P1_ k_) ∨ w.heap.size ≤ k_) ∧ some k_ ≠ (.slice Ao43 y284.length co43 : Value).ownBlock)) (by (with_reducible repeat (first | apply Kd.V_alloc | apply Kd.V_drewN | apply Kd.V_drew)); exact HO_0.out) hg hat)
         have n1_ := Aside0.mk (Kd.V_afterv (ok := (fun k_ => ((P0_ k_ ∨ P1_ k_) ∨ w.heap.size ≤ k_) ∧ some k_ ≠ (.slice Ao43 y284.length co43 : Value).ownBlock)) (by (with_reducible repeat (first | apply Kd.V_alloc | apply Kd.V_drewN | apply Kd.V_drew)); exact HO_1.out) hg hat)
         have n2_ := Aside0.mk (Kd.V_afterv (ok := (fun k_ => ((P0_ k_ ∨ P1_ k_) ∨ w.heap.size ≤ k_) ∧ some k_ ≠ (.slice Ao43 y284.length co43 : Value).ownBlock)) (by (with_reducible repeat (first | apply Kd.V_alloc | apply Kd.V_drewN | apply Kd.V_drew)); exact HO280.out) hg hat)
         have n3_ := Aside0.mk (Kd.V_afterv (ok := (fun k_ => ((P0_ k_ ∨ P1_ k_) ∨ w.heap.size ≤ k_) ∧ some k_ ≠ (.slice Ao43 y284.length co43 : Value).ownBlock)) (by (with_reducible repeat (first | apply Kd.V_alloc | apply Kd.V_drewN | apply Kd.V_drew)); exact HO294.out) hg hat)
         have n4_ := Aside0.mk (Kd.N_afterv (ok := (fun k_ => ((P0_ k_ ∨ P1_ k_) ∨ w.heap.size ≤ k_))) (by (with_reducible repeat (first | apply Kd.N_alloc | apply Kd.N_drewN | apply Kd.N_drew)); exact HO286.out) hg hat)
         have n5_ := Aside0.mk (hb)
         have n6_ := Aside0.mk (ho)
         clear HO_0
         clear HO_1
         clear HO280
         clear HO294
         clear HO286
         clear HB
         clear HO289
         have HO_0 := n0_
         have HO_1 := n1_
         have HO280 := n2_
         have HO294 := n3_
         have HO286 := n4_
         have HB := n5_
         have HO297 := n6_
         clear n0_ n1_ n2_ n3_ n4_ n5_ n6_
         clear ho hb hg hat
         refine hK.out _ _ trivial (fun hHeld => ?_)
         clear hK K
         refine norm_ (a' := ?_) ?_ ?_
         rotate_left
         ·show Act.put _ (some 31) _ = _
          simp only [Act.put, List.setIfInBounds_toArray, List.set_cons_zero, List.set_cons_succ, i64_w, i32_w]
          rfl
         refine pure_ (i := 12) (N := some 4) (v := ?_) (a' := ?_) #[true, true, true, true, true, true, true, true, true, true, true, true, true] rfl rfl (any_of HT_.out (by kernel_rfl)) (fun _ _ _ h => h) (Or.inl ⟨by rfl, ?_⟩) ?_ ?_
         rotate_left
         ·intro w'
          go_simp
          with_reducible rfl
         rotate_left
         ·simp only [Act.put, List.setIfInBounds_toArray, List.set_cons_zero, List.set_cons_succ, i64_w, i32_w]
          rfl
         refine done_ (done_of HT_.out (by kernel_rfl)) ?_
         try go_wp2
         go_ret
         exact ⟨_, by first | rfl | (simp [errW_none, errW_some] <;> rfl) | (simp [*, errW_none, errW_some] <;> rfl), by (with_reducible repeat (first | apply Kd.N_alloc | apply Kd.N_drewN | apply Kd.N_drew)); exact HO297.out, by repeat (first | exact HB.out | apply below_alloc | apply pw_below_drewN | apply below_drew1)⟩
        ·rw [if_neg c32] at H
         exact absurd H (by simp)
       ·rw [if_neg c29] at H
        exact absurd H (by simp)
      ·rw [if_neg c28] at H
       exact absurd H (by simp)
     ·rw [if_neg c27] at H
      exact absurd H (by simp)
    ·rw [if_neg c26] at H
     exact absurd H (by simp)
end Go.Proofs.YthonlcnmjlldiaaGreat.P
