/- potbanklaw06.PlanCrowds returns true for every input, and what comes in reads as it did. Conditions: none. Part 3 of the proof: its own texts, joined, and of the kit's printed words those that it uses. -/
import Derived.Test.YthonlcnmjlldiaaGreatKC1
import Derived.Test.YthonlcnmjlldiaaGreatKC2
import Derived.StillTailTactics
import Derived.Deep.QuietTactic
import Derived.BigQuiet
import Derived.Sort.Grow
namespace Go.Proofs.YthonlcnmjlldiaaGreat.P
open Go.RowKit Go.Proofs.YthonlcnmjlldiaaGreatW.PrintWords Go.Proofs.YthonlcnmjlldiaaGreatW.PrintLast Go.Proofs.YthonlcnmjlldiaaGreatW.PrintMore
attribute [local go_sem] max2_int min2_int max_two min_two max_three min_three max_four min_four
set_option linter.unusedVariables false
set_option linter.unusedSimpArgs false
def plan_need.l0 : Nat → Int → Int → List (S72) → Int → Int → Option (Int)
  | 0, _, _, _, _, _ => none
  | k + 1, x1, x5, x8, x9, x10 => if x10 < x9 then (if 0 ≤ x10 then (if x10 < (x8.length : Int) then ((plan_mask_has.f x1 x10).bind fun t124 => (if t124 = true then (plan_need.l0 k x1 (wrap64 (x5 + ((rd_T72 x8 x10).f1))) x8 x9 (wrap64 (x10 + 1))) else (plan_need.l0 k x1 x5 x8 x9 (wrap64 (x10 + 1))))) else (none)) else (none)) else (some x5)
def plan_need.f (k : Nat) (l0 : List (S72)) (a1 : Int) : Option (Int) := plan_need.l0 k a1 0 l0 (l0.length : Int) 0
set_option maxHeartbeats 8000000 in
set_option maxRecDepth 100000 in
theorem plan_need.calls (k : Nat) (A0 : Option Addr) (c0 : Nat) (l0 : List (S72)) (a1 : Int) (r : Int) (w : World) (hr0 : Kd.C k72 w A0 l0.length l0) (hc0 : l0.length ≤ c0) (h : plan_need.f k l0 a1 = some r) :
    Calls Tryz.prog 71 #[.slice A0 l0.length c0, .int .u64 a1] w fun e w' => e = .returned (.int .i64 r) ∧ Below w.heap.size w w' := by
  have hu72 := Tryz.underlying72
  have HR0 := Aside0.mk hr0
  have HC0 := Aside0.mk hc0
  clear hr0 hc0
  have HB := Aside0.mk (Below.refl w.heap.size w)
  have H : (plan_need.l0 k a1 0 l0 (l0.length : Int) 0) = some r := h
  clear h
  have H' := Aside0.mk H
  clear H
  go_enter Tryz.func71, Tryz.ntmps71
  go_wp2
  go_loopg [5, 10] k (fun kq v5 v10 w' => ∃ (x5_1 : Int) (x10_1 : Int), v5 = .int .i64 x5_1 ∧ v10 = .int .i64 x10_1 ∧ Aside0 (plan_need.l0 kq a1 x5_1 l0 (l0.length : Int) x10_1 = some r) ∧ Aside0 (kq ≤ k) ∧ Aside0 (Below w.heap.size w w'))
  case atStart => exact ⟨(0), (0), (by first | rfl | (simp; done) | (simp [*]; done)), (by first | rfl | (simp; done) | (simp [*]; done)), H', ⟨Nat.le_refl _⟩, ⟨by repeat (first | (with_reducible first | exact HB.out | apply below_alloc | apply pw_below_drewN | apply below_drew1) | exact HB.out)⟩⟩
  case round =>
    clear H'
    try clear p2
    obtain ⟨x5_1, x10_1, rfl, rfl, HA, HK1, HB⟩ := hrel
    cases gk with
    | zero => exact absurd HA.out (by simp [plan_need.l0])
    | succ k1 =>
      have H := HA.out
      clear HA
      simp only [plan_need.l0] at H
      by_cases c3 : x10_1 < (l0.length : Int)
      · rw [if_pos c3] at H
        have c3b0 : decide (x10_1 < (l0.length : Int)) = true := decide_eq_true c3
        clear c3
        by_cases c4 : 0 ≤ x10_1
        · rw [if_pos c4] at H
          have c4b0 : decide (0 ≤ x10_1) = true := decide_eq_true c4
          clear c4
          by_cases c5 : x10_1 < (l0.length : Int)
          · rw [if_pos c5] at H
            have c5b0 : decide (x10_1 < (l0.length : Int)) = true := decide_eq_true c5
            clear c5
            replace H := Option.bind_eq_some_iff.mp H
            obtain ⟨t124, A60, H⟩ := H
            replace H : (if t124 = true then (plan_need.l0 k1 a1 (wrap64 (x5_1 + ((rd_T72 l0 x10_1).f1))) l0 (l0.length : Int) (wrap64 (x10_1 + 1))) else (plan_need.l0 k1 a1 x5_1 l0 (l0.length : Int) (wrap64 (x10_1 + 1)))) = some r := H
            have A6 := Aside0.mk A60
            clear A60
            by_cases c7 : t124 = true
            · subst c7
              have H1 : (plan_need.l0 k1 a1 (wrap64 (x5_1 + ((rd_T72 l0 x10_1).f1))) l0 (l0.length : Int) (wrap64 (x10_1 + 1))) = some r := by rw [if_pos rfl] at H; exact H
              clear H
              have H := H1
              clear H1
              have H' := Aside0.mk H
              clear H
              have p122 : 0 ≤ (x10_1 : Int) := of_decide_eq_true (by first | (with_reducible assumption) | assumption)
              have q122 : x10_1 < (l0.length : Int) := of_decide_eq_true (by first | (with_reducible assumption) | assumption)
              obtain ⟨ad122, e122, hx122_0, hx122_1, hx122_2, hx122_3, hx122_4⟩ := at_T72 HR0.out x10_1 p122 q122
              cases e122
              replace hx122_0 := (HB.out.cell (World.block_lt_of_cell? w _ hx122_0)).trans hx122_0
              replace hx122_1 := (HB.out.cell (World.block_lt_of_cell? w _ hx122_1)).trans hx122_1
              replace hx122_2 := (HB.out.cell (World.block_lt_of_cell? w _ hx122_2)).trans hx122_2
              replace hx122_3 := (HB.out.cell (World.block_lt_of_cell? w _ hx122_3)).trans hx122_3
              replace hx122_4 := (HB.out.cell (World.block_lt_of_cell? w _ hx122_4)).trans hx122_4
              replace p122 := eq_true p122
              replace q122 := eq_true q122
              go_wp2_with (first | ((with_reducible refine gate_dst (N := 7) rfl ?_); refine box_event ?hg (N := 7) ?hd (cs := #[.int .i64 0, .int .i64 0, .int .i64 0, .int .i64 0, .int .i64 0]) (t := 72) ?hr ?_; (case hd => rfl); (case hg => rfl); (case hr => first | (go_simp; done) | (go_simp; rfl)); intro gb123 hg w8 hbox hb; have n0_ := Aside0.mk (below_step (by repeat (first | (with_reducible first | exact HB.out | apply below_alloc | apply pw_below_drewN | apply below_drew1) | exact HB.out)) hb); have n1_ := Aside0.mk (hbox); have n2_ := Aside0.mk ((by rw [hg]; exact (below_size (by repeat (first | (with_reducible first | exact HB.out | apply below_alloc | apply pw_below_drewN | apply below_drew1) | exact HB.out))) : w.heap.size ≤ gb123)); have n3_ := Aside0.mk ((by rw [hg]; exact (below_size (by repeat (first | (with_reducible first | exact HB.out | apply below_alloc | apply pw_below_drewN | apply below_drew1) | exact HB.out))) : w.heap.size ≤ gb123)); clear HB; have HB := n0_; have BK123 := n1_; have GW123 := n2_; have GE123 := n3_; clear n0_ n1_ n2_ n3_; clear hb hbox hg; have hcz9_0 : w8.cell? ⟨gb123, 0, none⟩ = some (.int .i64 0) := (blk_cell BK123.out 0).trans rfl; have hcz9_1 : w8.cell? ⟨gb123, 1, none⟩ = some (.int .i64 0) := (blk_cell BK123.out 1).trans rfl; have hcz9_2 : w8.cell? ⟨gb123, 2, none⟩ = some (.int .i64 0) := (blk_cell BK123.out 2).trans rfl; have hcz9_3 : w8.cell? ⟨gb123, 3, none⟩ = some (.int .i64 0) := (blk_cell BK123.out 3).trans rfl; have hcz9_4 : w8.cell? ⟨gb123, 4, none⟩ = some (.int .i64 0) := (blk_cell BK123.out 4).trans rfl; have hfz9_0 := blk_frozen BK123.out 0; have hfz9_1 := blk_frozen BK123.out 1; have hfz9_2 := blk_frozen BK123.out 2; have hfz9_3 := blk_frozen BK123.out 3; have hfz9_4 := blk_frozen BK123.out 4) | ((with_reducible refine gate_callee (f := 107) rfl ?_); refine goesL_ (some 17) rfl rfl Tryz.func107 (by kernel_rfl) rfl #[.int .u64 a1, .int .i64 x10_1] rfl (by (try simp only [List.map_toArray, List.map_cons, List.map_nil]); first | done | rfl | (simp only [List.length_drop, List.length_take]; rfl)) ?_; (with_reducible refine (plan_mask_has.calls a1 x10_1 true _ A6.out).mono ?_); rintro e w' ⟨rfl, ⟨nd, rfl⟩⟩; refine ⟨_, rfl, ?_⟩))
              go_roundg k1
              case measure => have := HK1.out; omega
              case rel => exact ⟨(wrap64 (x5_1 + ((rd_T72 l0 x10_1).f1))), (wrap64 (x10_1 + 1)), (by first | rfl | (simp; done) | (simp [*]; done)), (by first | rfl | (simp; done) | (simp [*]; done)), H', ⟨by have := HK1.out; omega⟩, ⟨by repeat (first | (with_reducible first | exact HB.out | apply below_alloc | apply pw_below_drewN | apply below_drew1 | refine below_set ?_ GE123.out) | exact HB.out)⟩⟩
            · replace c7 := Bool.eq_false_iff.mpr c7
              subst c7
              have H1 : (plan_need.l0 k1 a1 x5_1 l0 (l0.length : Int) (wrap64 (x10_1 + 1))) = some r := by rw [if_neg (show ¬ (false = true) by decide)] at H; exact H
              clear H
              have H := H1
              clear H1
              have H' := Aside0.mk H
              clear H
              have p122 : 0 ≤ (x10_1 : Int) := of_decide_eq_true (by first | (with_reducible assumption) | assumption)
              have q122 : x10_1 < (l0.length : Int) := of_decide_eq_true (by first | (with_reducible assumption) | assumption)
              obtain ⟨ad122, e122, hx122_0, hx122_1, hx122_2, hx122_3, hx122_4⟩ := at_T72 HR0.out x10_1 p122 q122
              cases e122
              replace hx122_0 := (HB.out.cell (World.block_lt_of_cell? w _ hx122_0)).trans hx122_0
              replace hx122_1 := (HB.out.cell (World.block_lt_of_cell? w _ hx122_1)).trans hx122_1
              replace hx122_2 := (HB.out.cell (World.block_lt_of_cell? w _ hx122_2)).trans hx122_2
              replace hx122_3 := (HB.out.cell (World.block_lt_of_cell? w _ hx122_3)).trans hx122_3
              replace hx122_4 := (HB.out.cell (World.block_lt_of_cell? w _ hx122_4)).trans hx122_4
              replace p122 := eq_true p122
              replace q122 := eq_true q122
              go_wp2_with (first | ((with_reducible refine gate_dst (N := 7) rfl ?_); refine box_event ?hg (N := 7) ?hd (cs := #[.int .i64 0, .int .i64 0, .int .i64 0, .int .i64 0, .int .i64 0]) (t := 72) ?hr ?_; (case hd => rfl); (case hg => rfl); (case hr => first | (go_simp; done) | (go_simp; rfl)); intro gb123 hg w10 hbox hb; have n0_ := Aside0.mk (below_step (by repeat (first | (with_reducible first | exact HB.out | apply below_alloc | apply pw_below_drewN | apply below_drew1) | exact HB.out)) hb); have n1_ := Aside0.mk (hbox); have n2_ := Aside0.mk ((by rw [hg]; exact (below_size (by repeat (first | (with_reducible first | exact HB.out | apply below_alloc | apply pw_below_drewN | apply below_drew1) | exact HB.out))) : w.heap.size ≤ gb123)); have n3_ := Aside0.mk ((by rw [hg]; exact (below_size (by repeat (first | (with_reducible first | exact HB.out | apply below_alloc | apply pw_below_drewN | apply below_drew1) | exact HB.out))) : w.heap.size ≤ gb123)); clear HB; have HB := n0_; have BK123 := n1_; have GW123 := n2_; have GE123 := n3_; clear n0_ n1_ n2_ n3_; clear hb hbox hg; have hcz11_0 : w10.cell? ⟨gb123, 0, none⟩ = some (.int .i64 0) := (blk_cell BK123.out 0).trans rfl; have hcz11_1 : w10.cell? ⟨gb123, 1, none⟩ = some (.int .i64 0) := (blk_cell BK123.out 1).trans rfl; have hcz11_2 : w10.cell? ⟨gb123, 2, none⟩ = some (.int .i64 0) := (blk_cell BK123.out 2).trans rfl; have hcz11_3 : w10.cell? ⟨gb123, 3, none⟩ = some (.int .i64 0) := (blk_cell BK123.out 3).trans rfl; have hcz11_4 : w10.cell? ⟨gb123, 4, none⟩ = some (.int .i64 0) := (blk_cell BK123.out 4).trans rfl; have hfz11_0 := blk_frozen BK123.out 0; have hfz11_1 := blk_frozen BK123.out 1; have hfz11_2 := blk_frozen BK123.out 2; have hfz11_3 := blk_frozen BK123.out 3; have hfz11_4 := blk_frozen BK123.out 4) | ((with_reducible refine gate_callee (f := 107) rfl ?_); refine goesL_ (some 17) rfl rfl Tryz.func107 (by kernel_rfl) rfl #[.int .u64 a1, .int .i64 x10_1] rfl (by (try simp only [List.map_toArray, List.map_cons, List.map_nil]); first | done | rfl | (simp only [List.length_drop, List.length_take]; rfl)) ?_; (with_reducible refine (plan_mask_has.calls a1 x10_1 false _ A6.out).mono ?_); rintro e w' ⟨rfl, ⟨nd, rfl⟩⟩; refine ⟨_, rfl, ?_⟩))
              go_roundg k1
              case measure => have := HK1.out; omega
              case rel => exact ⟨(x5_1), (wrap64 (x10_1 + 1)), (by first | rfl | (simp; done) | (simp [*]; done)), (by first | rfl | (simp; done) | (simp [*]; done)), H', ⟨by have := HK1.out; omega⟩, ⟨by repeat (first | (with_reducible first | exact HB.out | apply below_alloc | apply pw_below_drewN | apply below_drew1 | refine below_set ?_ GE123.out) | exact HB.out)⟩⟩
          · rw [if_neg c5] at H
            exact absurd H (by simp)
        · rw [if_neg c4] at H
          exact absurd H (by simp)
      · rw [if_neg c3] at H
        have c3b0 : decide (x10_1 < (l0.length : Int)) = false := decide_eq_false c3
        clear c3
        obtain rfl := Option.some.inj H
        go_wp2
        go_ret
        exact ⟨by first | rfl | (simp [errW_none, errW_some] <;> rfl) | (simp [*, errW_none, errW_some] <;> rfl), by repeat (first | (with_reducible first | exact HB.out | apply below_alloc | apply pw_below_drewN | apply below_drew1) | exact HB.out)⟩
mutual
def plan_firings.l0 : Nat → List Int → List Int → Int → Int → Option (List Int)
  | 0, _, _, _, _ => none
  | k + 1, x3, x6, x7, x8 => if x8 < x7 then (if 0 ≤ x8 then (if x8 < (x6.length : Int) then (plan_firings.l1 k x3 x8 (rd x6 x8) x6 x7 x8) else (none)) else (none)) else (some x3)
def plan_firings.l1 : Nat → List Int → Int → Int → List Int → Int → Int → Option (List Int)
  | 0, _, _, _, _, _, _ => none
  | k + 1, x3, x4, x5, x6, x7, x8 => if (x3.length : Int) ≤ x5 then (if x3.length < 17592186044416 then (plan_firings.l1 k (x3 ++ [0]) x4 x5 x6 x7 x8) else (none)) else (if 0 ≤ x5 then (if x5 < (x3.length : Int) then (if 0 ≤ x4 then (plan_firings.l0 k (x3.set (x5 : Int).toNat (Go.bits .or .u64 (rd x3 x5) (shl .u64 1 x4))) x6 x7 (wrap64 (x8 + 1))) else (none)) else (none)) else (none))
end
def plan_firings.f (k : Nat) (l0 : List Int) : Option (List Int) := plan_firings.l0 k ([] : List Int) l0 (l0.length : Int) 0
def plan_firings.T7 : Bool × List (List Nat × List Nat) := (true, [([], []), ([], []), ([0, 1], [0, 1]), ([2], [2]), ([], []), ([4], [4]), ([3, 5], [3, 5]), ([0, 1, 0, 1, 2, 3, 4, 5, 6], [0, 1]), ([7, 6, 0, 1, 2, 3, 4, 5, 6], [6, 7])])
def plan_firings.B7 : List Nat := [0, 0, 3, 7, 0, 16, 63, 127, 255]
theorem plan_firings.tab7 : rtab .any (opsOf Tryz.f91 7) = plan_firings.T7 := by kernel_rfl
theorem plan_firings.bits7 : waitsOk plan_firings.T7.2 plan_firings.B7 = true := by kernel_rfl
set_option maxHeartbeats 8000000 in
set_option maxRecDepth 100000 in
theorem plan_firings.calls (k : Nat) (A0 : Option Addr) (c0 : Nat) (l0 : List Int) (r : List Int) (w : World) (hr0 : Kd.C (Kd.int .i64) w A0 l0.length l0) (hc0 : l0.length ≤ c0) (h : plan_firings.f k l0 = some r) :
    Calls Tryz.prog 91 #[.slice A0 l0.length c0] w fun e w' => ∃ v0_ : Value, e = .returned (v0_) ∧ Kd.R (Kd.int .u64) 93 w' w.heap.size (fun _ => True) v0_ r ∧ Below w.heap.size w w' := by
  have HR0 := Aside0.mk hr0
  have HC0 := Aside0.mk hc0
  clear hr0 hc0
  have HB := Aside0.mk (Below.refl w.heap.size w)
  have H : (plan_firings.l0 k ([] : List Int) l0 (l0.length : Int) 0) = some r := h
  clear h
  have H' := Aside0.mk H
  clear H
  go_enter Tryz.func91, Tryz.ntmps91
  go_wp2
  go_loopg [3, 8] k (fun kq v3 v8 w' => ∃ (x3_1 : List Int) (x8_1 : Int), v8 = .int .i64 x8_1 ∧ Aside0 (plan_firings.l0 kq x3_1 l0 (l0.length : Int) x8_1 = some r) ∧ Aside0 (kq ≤ k) ∧ Aside0 (Kd.R (Kd.int .u64) 93 w' w.heap.size (fun _ => True) v3 x3_1) ∧ Aside0 (Below w.heap.size w w'))
  case atStart => exact ⟨(([] : List Int)), (0), (by first | rfl | (simp; done) | (simp [*]; done)), H', ⟨Nat.le_refl _⟩, ⟨by first | exact Kd.R_nil _ _ _ _ _ | exact Kd.N_nil _ _ _ _ _ | exact Kd.V_nil _ _ _ _ _ | exact Kd.Q_nil _ _ _ _ _ | exact Kd.S_nil _ _ _ _ _⟩, ⟨by repeat (first | (with_reducible first | exact HB.out | apply below_alloc | apply pw_below_drewN | apply below_drew1) | exact HB.out)⟩⟩
  case round =>
    clear H'
    obtain ⟨x3_1, x8_1, rfl, HA, HK1, HO_3, HB⟩ := hrel
    cases gk with
    | zero => exact absurd HA.out (by simp [plan_firings.l0])
    | succ k1 =>
      have H := HA.out
      clear HA
      simp only [plan_firings.l0] at H
      by_cases c2 : x8_1 < (l0.length : Int)
      · rw [if_pos c2] at H
        have c2b0 : decide (x8_1 < (l0.length : Int)) = true := decide_eq_true c2
        clear c2
        by_cases c3 : 0 ≤ x8_1
        · rw [if_pos c3] at H
          have c3b0 : decide (0 ≤ x8_1) = true := decide_eq_true c3
          clear c3
          by_cases c4 : x8_1 < (l0.length : Int)
          · rw [if_pos c4] at H
            have c4b0 : decide (x8_1 < (l0.length : Int)) = true := decide_eq_true c4
            clear c4
            have H' := Aside0.mk H
            clear H
            have p125 : 0 ≤ (x8_1 : Int) := of_decide_eq_true (by first | (with_reducible assumption) | assumption)
            have q125 : x8_1 < (l0.length : Int) := of_decide_eq_true (by first | (with_reducible assumption) | assumption)
            obtain ⟨ad125, e125, hx125_0⟩ := Kd.at_int HR0.out x8_1 p125 q125
            cases e125
            replace hx125_0 := (HB.out.cell (World.block_lt_of_cell? w _ hx125_0)).trans hx125_0
            replace p125 := eq_true p125
            replace q125 := eq_true q125
            go_wp2
            go_loopg [3] k1 (fun kq v3 w' => ∃ (x3_2 : List Int), Aside0 (plan_firings.l1 kq x3_2 x8_1 (rd l0 x8_1) l0 (l0.length : Int) x8_1 = some r) ∧ Aside0 (kq ≤ k1) ∧ Aside0 (Kd.R (Kd.int .u64) 93 w' w.heap.size (fun _ => True) v3 x3_2) ∧ Aside0 (Below w.heap.size w w'))
            case atStart => exact ⟨(x3_1), H', ⟨Nat.le_refl _⟩, ⟨by (with_reducible repeat (first | apply Kd.R_alloc | apply Kd.R_drewN | apply Kd.R_drew)); exact HO_3.out⟩, ⟨by repeat (first | (with_reducible first | exact HB.out | apply below_alloc | apply pw_below_drewN | apply below_drew1) | exact HB.out)⟩⟩
            case round =>
              clear H'
              try clear p1
              try clear q1
              try clear hx1
              try clear c2
              try clear c2b0
              try clear p2
              try clear c3
              try clear c3b0
              try clear c4
              try clear c4b0
              try clear hx125_0
              try clear p125
              try clear q125
              obtain ⟨x3_2, HA, HK2, HO_3, HB⟩ := hrel
              cases gk with
              | zero => exact absurd HA.out (by simp [plan_firings.l1])
              | succ k2 =>
                have H := HA.out
                clear HA
                simp only [plan_firings.l1] at H
                by_cases c5 : (x3_2.length : Int) ≤ (rd l0 x8_1)
                · rw [if_pos c5] at H
                  have c5b0 : decide ((x3_2.length : Int) ≤ (rd l0 x8_1)) = true := decide_eq_true c5
                  clear c5
                  by_cases c6 : x3_2.length < 17592186044416
                  · rw [if_pos c6] at H
                    have LMc6 := Aside0.mk c6
                    clear c6
                    obtain ⟨y126, hy126⟩ : ∃ y_ : List Int, y_ = (x3_2 ++ [0]) := ⟨_, rfl⟩
                    replace H : (plan_firings.l1 k2 y126 x8_1 (rd l0 x8_1) l0 (l0.length : Int) x8_1) = some r := by first | (rw [hy126]; with_reducible exact H) | (have H2_ := (Option.bind_some _ _).symm.trans H; rw [hy126]; with_reducible exact H2_) | (have H2_ := (Option.bind_some _ _).symm.trans H; with_reducible exact H2_) | with_reducible exact H | (rw [hy126]; exact H) | exact H
                    have Ny126 := Aside0.mk hy126
                    clear hy126
                    have H' := Aside0.mk H
                    clear H
                    obtain ⟨Ao7, co7, eo7⟩ := Kd.R_slice HO_3.out
                    subst eo7
                    go_wp2_with (first | ((with_reducible refine gate_builtin (b := .append) (xs := #[.tmp 17, .tmp 18]) rfl ?_); at_builtin; refine Kd.R_append (Kd.int .u64) (w0 := w) w.heap.size rfl (.tmp 17) (.tmp 18) 84 93 (.int .u64 0) 8 rfl Tryz.underlying84 info93 rfl (by decide) (by omega) (.slice Ao7 x3_2.length co7) x3_2 0 [.int .u64 0] (fun _ => True) (fun _ => False) rfl rfl ?aP (fun _ hk => hk.elim) ?aF ?aO ?aB ?aS ?aL ?_; (case aP => exact rfl); (case aB => exact (by repeat (first | (with_reducible first | exact HB.out | apply below_alloc | apply pw_below_drewN | apply below_drew1) | exact HB.out))); (case aF => exact (fun _ _ => trivial)); (case aO => exact (by (with_reducible repeat (first | apply Kd.R_alloc | apply Kd.R_drewN | apply Kd.R_drew)); exact HO_3.out)); (case aS => exact (below_size (by repeat (first | (with_reducible first | exact HB.out | apply below_alloc | apply pw_below_drewN | apply below_drew1) | exact HB.out)))); (case aL => have := LMc6.out; omega); intro v127 w8 ho hb hg hat; rw [← Ny126.out] at ho; have n0_ := Aside0.mk (hb); have n1_ := Aside0.mk (ho); clear HB; clear HO_3; have HB := n0_; have HO128 := n1_; clear n0_ n1_; clear ho hb hg hat))
                    go_roundg k2
                    case measure => have := HK1.out; have := HK2.out; omega
                    case rel => exact ⟨(y126), H', ⟨by have := HK1.out; have := HK2.out; omega⟩, ⟨by (with_reducible repeat (first | apply Kd.R_alloc | apply Kd.R_drewN | apply Kd.R_drew)); exact HO128.out⟩, ⟨by repeat (first | (with_reducible first | exact HB.out | apply below_alloc | apply pw_below_drewN | apply below_drew1) | exact HB.out)⟩⟩
                  · rw [if_neg c6] at H
                    exact absurd H (by simp)
                · rw [if_neg c5] at H
                  have c5b0 : decide ((x3_2.length : Int) ≤ (rd l0 x8_1)) = false := decide_eq_false c5
                  clear c5
                  by_cases c9 : 0 ≤ (rd l0 x8_1)
                  · rw [if_pos c9] at H
                    have c9b0 : decide (0 ≤ (rd l0 x8_1)) = true := decide_eq_true c9
                    clear c9
                    by_cases c10 : (rd l0 x8_1) < (x3_2.length : Int)
                    · rw [if_pos c10] at H
                      have c10b0 : decide ((rd l0 x8_1) < (x3_2.length : Int)) = true := decide_eq_true c10
                      clear c10
                      by_cases c11 : 0 ≤ x8_1
                      · rw [if_pos c11] at H
                        have c11b0 := eq_true c11
                        have c11b1 : decide (0 ≤ x8_1) = true := decide_eq_true c11
                        clear c11
                        obtain ⟨ji12, hji12⟩ : ∃ j_ : Int, (shl .u64 1 x8_1) = j_ := ⟨_, rfl⟩
                        replace H : (plan_firings.l0 k2 (x3_2.set ((rd l0 x8_1) : Int).toNat (Go.bits .or .u64 (rd x3_2 (rd l0 x8_1)) (ji12))) l0 (l0.length : Int) (wrap64 (x8_1 + 1))) = some r := by first | (rw [hji12] at H; exact H) | (simp only [hji12] at H ⊢; exact H)
                        have hji12_ : (IntKind.u64.wrap (1 * 2 ^ min x8_1.toNat 64)) = ji12 := hji12
                        have hji12z : x8_1 ≤ 64 → (IntKind.u64.wrap (1 * 2 ^ x8_1.toNat)) = ji12 := shl_small hji12
                        have hji12u : (IntKind.u64.wrap (2 ^ min x8_1.toNat 64)) = ji12 := by have h_ := hji12_; rw [Int.one_mul] at h_; exact h_
                        have hji12v : x8_1 ≤ 64 → (IntKind.u64.wrap (2 ^ x8_1.toNat)) = ji12 := fun hle_ => by have h_ := hji12z hle_; rw [Int.one_mul] at h_; exact h_
                        obtain ⟨y130, hy130⟩ : ∃ y_ : List Int, y_ = (x3_2.set ((rd l0 x8_1) : Int).toNat (Go.bits .or .u64 (rd x3_2 (rd l0 x8_1)) (ji12))) := ⟨_, rfl⟩
                        replace H : (plan_firings.l0 k2 y130 l0 (l0.length : Int) (wrap64 (x8_1 + 1))) = some r := by first | (rw [hy130]; with_reducible exact H) | (have H2_ := (Option.bind_some _ _).symm.trans H; rw [hy130]; with_reducible exact H2_) | (have H2_ := (Option.bind_some _ _).symm.trans H; with_reducible exact H2_) | with_reducible exact H | (rw [hy130]; exact H) | exact H
                        have Ny130 := Aside0.mk hy130
                        clear hy130
                        have H' := Aside0.mk H
                        clear H
                        obtain ⟨Ao14, co14, eo14⟩ := Kd.R_slice HO_3.out
                        subst eo14
                        try go_wp2
                        have n0_ := Aside0.mk (Kd.R_drew HO_3.out)
                        have n1_ := Aside0.mk (below_drew1 HB.out)
                        clear HO_3
                        clear HB
                        have HO_3 := n0_
                        have HB := n1_
                        clear n0_ n1_
                        have p129 : 0 ≤ ((rd l0 x8_1) : Int) := of_decide_eq_true (by first | (with_reducible assumption) | assumption)
                        have q129 : (rd l0 x8_1) < (x3_2.length : Int) := of_decide_eq_true (by first | (with_reducible assumption) | assumption)
                        obtain ⟨ad129, e129, hx129_0⟩ := Kd.at_int (Kd.R_reads' HO_3.out).2.2 (rd l0 x8_1) p129 q129
                        cases e129
                        replace p129 := eq_true p129
                        replace q129 := eq_true q129
                        have p13 : 0 ≤ ((rd l0 x8_1) : Int) := of_decide_eq_true (by first | (with_reducible assumption) | assumption)
                        have q13 : ((rd l0 x8_1) : Int) < ((x3_2.length : Int) : Int) := of_decide_eq_true (by first | (with_reducible assumption) | assumption)
                        obtain ⟨go13, co13, eo13, gb13, gl13, cl13, HG13⟩ := Kd.R_form HO_3.out (by omega)
                        (first | cases eo13 | (injection eo13 with ea_ en_ ec_; (first | subst ea_ | (injection ea_ with ea_; subst ea_)); subst ec_; clear en_))
                        have GB13 := Aside0.mk gb13
                        have GG13 := Aside0.mk HG13
                        clear gb13 gl13 HG13
                        (first | simp only [add_plain] at hx129_0 | skip)
                        obtain ⟨hx13_0, hf13_0⟩ := Kd.R_celln 0 HO_3.out ((rd l0 x8_1) : Int) p13 q13
                        replace p13 := eq_true p13
                        replace q13 := eq_true q13
                        have HP16 := Kd.R_putn HO_3.out ((rd l0 x8_1) : Int) (Go.bits .or .u64 (rd x3_2 (rd l0 x8_1)) (ji12))
                        rw [← Ny130.out] at HP16
                        have HQ16 := Aside0.mk HP16
                        clear HP16
                        refine start_ (n := 9) (S := fun w' => w'.cell? ⟨go13, ((rd l0 x8_1)).toNat, none⟩ = some (.int .u64 (rd x3_2 (rd l0 x8_1)))) (ds := [8]) #[false, false, false, false, false, false, false, false, false] (by kernel_rfl) rfl rfl (hx129_0) (fun hHeld => ?_); refine with_tabW plan_firings.tab7 plan_firings.bits7 (fun HT_ HW_ => ?_)
                        generalize wr.drew = w15 at HO_3 HB GG13 HQ16 hf13_0 hx129_0 hx13_0 hHeld ⊢
                        refine pure_ (i := 0) (N := some 20) (v := ?_) (a' := ?_) #[true, false, false, false, false, false, false, false, false] rfl rfl (any_of HT_.out (by kernel_rfl)) (fun _ _ _ h => h) (Or.inl ⟨by rfl, ?_⟩) ?_ ?_
                        rotate_left
                        · intro w'
                          go_simp
                          with_reducible rfl
                        rotate_left
                        · simp only [Act.put, List.setIfInBounds_toArray, List.set_cons_zero, List.set_cons_succ, i64_w, i32_w]
                          rfl
                        refine pure_ (i := 1) (N := some 21) (v := ?_) (a' := ?_) #[true, true, false, false, false, false, false, false, false] rfl rfl (any_of HT_.out (by kernel_rfl)) (fun _ _ _ h => h) (Or.inl ⟨by rfl, ?_⟩) ?_ ?_
                        rotate_left
                        · intro w'
                          go_simp
                          with_reducible rfl
                        rotate_left
                        · simp only [Act.put, List.setIfInBounds_toArray, List.set_cons_zero, List.set_cons_succ, i64_w, i32_w]
                          rfl
                        refine pure_ (i := 2) (N := some 22) (v := ?_) (a' := ?_) #[true, true, true, false, false, false, false, false, false] rfl rfl (any_of HT_.out (by kernel_rfl)) (fun _ _ _ h => h) (Or.inl ⟨by rfl, ?_⟩) ?_ ?_
                        rotate_left
                        · intro w'
                          go_simp
                          with_reducible rfl
                        rotate_left
                        · simp only [Act.put, List.setIfInBounds_toArray, List.set_cons_zero, List.set_cons_succ, i64_w, i32_w]
                          rfl
                        refine pure_ (i := 4) (N := some 24) (v := ?_) (a' := ?_) #[true, true, true, false, true, false, false, false, false] rfl rfl (any_of HT_.out (by kernel_rfl)) (fun _ _ _ h => h) (Or.inl ⟨by rfl, ?_⟩) ?_ ?_
                        rotate_left
                        · intro w'
                          go_simp
                          with_reducible rfl
                        rotate_left
                        · simp only [Act.put, List.setIfInBounds_toArray, List.set_cons_zero, List.set_cons_succ, i64_w, i32_w]
                          rfl
                        refine pure_ (i := 5) (N := some 25) (v := ?_) (a' := ?_) #[true, true, true, false, true, true, false, false, false] rfl rfl (any_of HT_.out (by kernel_rfl)) (fun _ _ _ h => h) (Or.inl ⟨by rfl, ?_⟩) ?_ ?_
                        rotate_left
                        · intro w'
                          go_simp
                          with_reducible rfl
                        rotate_left
                        · simp only [Act.put, List.setIfInBounds_toArray, List.set_cons_zero, List.set_cons_succ, i64_w, i32_w]
                          rfl
                        refine take_ (i := 3) (N := some 23) (v := ?_) (a' := ?_) #[true, true, true, true, true, true, false, false, false] rfl rfl (take_ofW HT_.out HW_.out (by kernel_rfl)) (fun _ _ _ h => h) (Or.inl ⟨by rfl, ?_⟩) hHeld ?_ ?_
                        rotate_left
                        · intro w' s0
                          go_simp
                          with_reducible rfl
                        rotate_left
                        · simp only [Act.put, List.setIfInBounds_toArray, List.set_cons_zero, List.set_cons_succ, i64_w, i32_w]
                          rfl
                        refine pure_ (i := 6) (N := some 26) (v := ?_) (a' := ?_) #[true, true, true, true, true, true, true, false, false] rfl rfl (any_of HT_.out (by kernel_rfl)) (fun _ _ _ h => h) (Or.inl ⟨by rfl, ?_⟩) ?_ ?_
                        rotate_left
                        · intro w'
                          go_simp
                          with_reducible rfl
                        rotate_left
                        · simp only [Act.put, List.setIfInBounds_toArray, List.set_cons_zero, List.set_cons_succ, i64_w, i32_w]
                          rfl
                        refine pure_ (i := 7) (N := some 27) (v := ?_) (a' := ?_) #[true, true, true, true, true, true, true, true, false] rfl rfl (any_of HT_.out (by kernel_rfl)) (fun _ _ _ h => h) (Or.inl ⟨by rfl, ?_⟩) ?_ ?_
                        rotate_left
                        · intro w'
                          go_simp
                          with_reducible rfl
                        rotate_left
                        · simp only [Act.put, List.setIfInBounds_toArray, List.set_cons_zero, List.set_cons_succ, i64_w, i32_w]
                          rfl
                        refine last_ (i := 8) (N := none) #[true, true, true, true, true, true, true, true, true] rfl rfl (one_of HT_.out (by kernel_rfl)) (by decide) (fun K hK => ?_)
                        refine skip_ (w1 := ?_) (by rfl) rfl ?_ ?_
                        rotate_left
                        · go_simp
                          rfl
                        refine hK.out _ _ ?_
                        clear hK K
                        refine done_ (done_of HT_.out (by kernel_rfl)) ?_
                        try go_wp2
                        go_roundg k2
                        case measure => have := HK1.out; have := HK2.out; omega
                        case rel => exact ⟨(y130), (wrap64 (x8_1 + 1)), (by first | rfl | (simp; done) | (simp [*]; done)), H', ⟨by have := HK1.out; have := HK2.out; omega⟩, ⟨by (with_reducible repeat (first | apply Kd.R_alloc | apply Kd.R_drewN | apply Kd.R_drew)); exact HQ16.out⟩, ⟨by repeat (first | (with_reducible first | exact HB.out | apply below_alloc | apply pw_below_drewN | apply below_drew1 | refine below_set ?_ GB13.out) | exact HB.out)⟩⟩
                      · rw [if_neg c11] at H
                        exact absurd H (by simp)
                    · rw [if_neg c10] at H
                      exact absurd H (by simp)
                  · rw [if_neg c9] at H
                    exact absurd H (by simp)
          · rw [if_neg c4] at H
            exact absurd H (by simp)
        · rw [if_neg c3] at H
          exact absurd H (by simp)
      · rw [if_neg c2] at H
        have c2b0 : decide (x8_1 < (l0.length : Int)) = false := decide_eq_false c2
        clear c2
        obtain rfl := Option.some.inj H
        go_wp2
        go_ret
        exact ⟨_, by first | rfl | (simp [errW_none, errW_some] <;> rfl) | (simp [*, errW_none, errW_some] <;> rfl), by (with_reducible repeat (first | apply Kd.R_alloc | apply Kd.R_drewN | apply Kd.R_drew)); exact HO_3.out, by repeat (first | (with_reducible first | exact HB.out | apply below_alloc | apply pw_below_drewN | apply below_drew1) | exact HB.out)⟩
def plan_lists.l0 : Nat → List (List Int) → List Int → Int → Int → Option ((List (List Int)))
  | 0, _, _, _, _ => none
  | k + 1, x3, x6, x7, x8 => if x8 < x7 then (if 0 ≤ x8 then (if x8 < (x6.length : Int) then ((plan_mask_list.f k (rd x6 x8)).bind fun t132 => (if x3.length < 5864062014805 then (plan_lists.l0 k (x3 ++ [t132]) x6 x7 (wrap64 (x8 + 1))) else (none))) else (none)) else (none)) else (some x3)
def plan_lists.f (k : Nat) (l0 : List Int) : Option ((List (List Int))) := plan_lists.l0 k ([] : List (List Int)) l0 (l0.length : Int) 0
theorem plan_lists.mono_l : ∀ k, (∀ y0 y1 y2 y3, LeO (plan_lists.l0 k y0 y1 y2 y3) (plan_lists.l0 (k + 1) y0 y1 y2 y3))
  | 0 => fun _ _ _ _ r h => by simp [plan_lists.l0] at h
  | k + 1 => by
    have ih0 := plan_lists.mono_l k
    · intro y0 y1 y2 y3
      unfold plan_lists.l0
      repeat' first
      | (with_reducible exact ih0 _ _ _ _)
      | (with_reducible exact plan_mask_list.mono _ _)
      | (with_reducible exact LeO.refl _)
      | (with_reducible exact LeO.none _)
      | (with_reducible refine LeO.ite ?_ ?_)
      | (with_reducible refine LeO.bind ?_ (fun _ => ?_))
      | exact ih0 _ _ _ _
      | exact plan_mask_list.mono _ _
      | exact LeO.none _
      | refine LeO.ite ?_ ?_
      | refine LeO.bind ?_ (fun _ => ?_)
theorem plan_lists.mono : ∀ a0 k, LeO (plan_lists.f k a0) (plan_lists.f (k + 1) a0) := by
  intro a0 k
  have ih0 := plan_lists.mono_l k
  unfold plan_lists.f
  repeat' first
      | (with_reducible exact ih0 _ _ _ _)
      | (with_reducible exact plan_mask_list.mono _ _)
      | (with_reducible exact LeO.refl _)
      | (with_reducible exact LeO.none _)
      | (with_reducible refine LeO.ite ?_ ?_)
      | (with_reducible refine LeO.bind ?_ (fun _ => ?_))
      | exact ih0 _ _ _ _
      | exact plan_mask_list.mono _ _
      | exact LeO.none _
      | refine LeO.ite ?_ ?_
      | refine LeO.bind ?_ (fun _ => ?_)
set_option maxHeartbeats 8000000 in
set_option maxRecDepth 100000 in
theorem plan_lists.calls (k : Nat) (A0 : Option Addr) (c0 : Nat) (l0 : List Int) (r : List (List Int)) (w : World) (hr0 : Kd.C (Kd.int .u64) w A0 l0.length l0) (hc0 : l0.length ≤ c0) (h : plan_lists.f k l0 = some r) :
    Calls Tryz.prog 45 #[.slice A0 l0.length c0] w fun e w' => ∃ v0_ : Value, e = .returned (v0_) ∧ Kd.S (Kd.slice 3 (Kd.int .i64)) 41 w' w.heap.size (fun _ => True) v0_ r ∧ Below w.heap.size w w' := by
  have HR0 := Aside0.mk hr0
  have HC0 := Aside0.mk hc0
  clear hr0 hc0
  have HB := Aside0.mk (Below.refl w.heap.size w)
  have H : (plan_lists.l0 k ([] : List (List Int)) l0 (l0.length : Int) 0) = some r := h
  clear h
  have H' := Aside0.mk H
  clear H
  go_enter Tryz.func45, Tryz.ntmps45
  go_wp2
  go_loopg [3, 8] k (fun kq v3 v8 w' => ∃ (x3_1 : List (List Int)) (x8_1 : Int), v8 = .int .i64 x8_1 ∧ Aside0 (plan_lists.l0 kq x3_1 l0 (l0.length : Int) x8_1 = some r) ∧ Aside0 (kq ≤ k) ∧ Aside0 (Kd.S (Kd.slice 3 (Kd.int .i64)) 41 w' w.heap.size (fun _ => True) v3 x3_1) ∧ Aside0 (Below w.heap.size w w'))
  case atStart => exact ⟨(([] : List (List Int))), (0), (by first | rfl | (simp; done) | (simp [*]; done)), H', ⟨Nat.le_refl _⟩, ⟨by first | exact Kd.S_nil _ _ _ _ _ | exact Kd.N_nil _ _ _ _ _ | exact Kd.V_nil _ _ _ _ _ | exact Kd.Q_nil _ _ _ _ _ | exact Kd.R_nil _ _ _ _ _⟩, ⟨by repeat (first | (with_reducible first | exact HB.out | apply below_alloc | apply pw_below_drewN | apply below_drew1) | exact HB.out)⟩⟩
  case round =>
    clear H'
    obtain ⟨x3_1, x8_1, rfl, HA, HK1, HO_3, HB⟩ := hrel
    cases gk with
    | zero => exact absurd HA.out (by simp [plan_lists.l0])
    | succ k1 =>
      have H := HA.out
      clear HA
      simp only [plan_lists.l0] at H
      by_cases c2 : x8_1 < (l0.length : Int)
      · rw [if_pos c2] at H
        have c2b0 : decide (x8_1 < (l0.length : Int)) = true := decide_eq_true c2
        clear c2
        by_cases c3 : 0 ≤ x8_1
        · rw [if_pos c3] at H
          have c3b0 : decide (0 ≤ x8_1) = true := decide_eq_true c3
          clear c3
          by_cases c4 : x8_1 < (l0.length : Int)
          · rw [if_pos c4] at H
            have c4b0 : decide (x8_1 < (l0.length : Int)) = true := decide_eq_true c4
            clear c4
            replace H := Option.bind_eq_some_iff.mp H
            obtain ⟨t132, A50, H⟩ := H
            replace H : (if x3_1.length < 5864062014805 then (plan_lists.l0 k1 (x3_1 ++ [t132]) l0 (l0.length : Int) (wrap64 (x8_1 + 1))) else (none)) = some r := H
            have A5 := Aside0.mk A50
            clear A50
            by_cases c6 : x3_1.length < 5864062014805
            · rw [if_pos c6] at H
              have LMc6 := Aside0.mk c6
              clear c6
              obtain ⟨y135, hy135⟩ : ∃ y_ : List (List Int), y_ = (x3_1 ++ [t132]) := ⟨_, rfl⟩
              replace H : (plan_lists.l0 k1 y135 l0 (l0.length : Int) (wrap64 (x8_1 + 1))) = some r := by first | (rw [hy135]; with_reducible exact H) | (have H2_ := (Option.bind_some _ _).symm.trans H; rw [hy135]; with_reducible exact H2_) | (have H2_ := (Option.bind_some _ _).symm.trans H; with_reducible exact H2_) | with_reducible exact H | (rw [hy135]; exact H) | exact H
              have Ny135 := Aside0.mk hy135
              clear hy135
              have H' := Aside0.mk H
              clear H
              have p131 : 0 ≤ (x8_1 : Int) := of_decide_eq_true (by first | (with_reducible assumption) | assumption)
              have q131 : x8_1 < (l0.length : Int) := of_decide_eq_true (by first | (with_reducible assumption) | assumption)
              obtain ⟨ad131, e131, hx131_0⟩ := Kd.at_int HR0.out x8_1 p131 q131
              cases e131
              replace hx131_0 := (HB.out.cell (World.block_lt_of_cell? w _ hx131_0)).trans hx131_0
              replace p131 := eq_true p131
              replace q131 := eq_true q131
              go_wp2_with (first | ((with_reducible refine gate_callee (f := 74) rfl ?_); refine goesL_ (some 14) rfl rfl Tryz.func74 (by kernel_rfl) rfl #[.int .u64 (rd l0 x8_1)] rfl (by (try simp only [List.map_toArray, List.map_cons, List.map_nil]); first | done | rfl | (simp only [List.length_drop, List.length_take]; rfl)) ?_; (with_reducible refine (plan_mask_list.calls k1 (rd l0 x8_1) t132 _ A5.out).mono ?_); rintro e w7 ⟨v133, rfl, ho0, hb⟩; refine ⟨_, rfl, ?_⟩; have n0_ := Aside0.mk (Kd.S_elder' (by (with_reducible repeat (first | apply Kd.S_alloc | apply Kd.S_drewN | apply Kd.S_drew)); exact HO_3.out) (Kd.R_base ho0) hb); have n1_ := Aside0.mk (Kd.R_lower ho0 (below_size (by repeat (first | (with_reducible first | exact HB.out | apply below_alloc | apply pw_below_drewN | apply below_drew1) | exact HB.out)))); have n2_ := Aside0.mk (below_step (by repeat (first | (with_reducible first | exact HB.out | apply below_alloc | apply pw_below_drewN | apply below_drew1) | exact HB.out)) hb); clear HO_3; clear HB; have HO_3 := n0_; have HO134 := n1_; have HB := n2_; clear n0_ n1_ n2_; (try clear hb); (try clear hb2); (try clear hk); (try clear hi); (try clear ho0); obtain ⟨Ao9, co9, eo9⟩ := Kd.R_slice HO134.out; subst eo9) | ((with_reducible refine gate_builtin (b := .append) (xs := #[.tmp 12, .tmp 15]) rfl ?_); at_builtin; refine Kd.S_append (Kd.slice 3 (Kd.int .i64)) (w0 := w) w.heap.size rfl (.tmp 12) (.tmp 15) 24 41 (.slice none 0 0) 24 rfl Tryz.underlying24 info41 rfl (by decide) (by omega) u3 x3_1 t132 [.slice Ao9 t132.length co9] (fun _ => True) (fun k_ => some k_ = (.slice Ao9 t132.length co9 : Value).ownBlock) rfl rfl ?aP (fun k_ hk_ => ((Kd.R_mono (ok' := fun k_ => ((fun _ => True)) k_ ∧ some k_ ≠ (u3 : Value).ownBlock) (Kd.R_apart' (HO134.out) (Kd.S_typed HO_3.out) (by decide)) (fun k_ hk => ⟨trivial, hk.2⟩))).1 k_ hk_.symm) ?aF ?aO ?aB ?aS ?aL ?_; (case aP => exact Kd.M_row (Kd.R_mono (Kd.R_tight rfl (Kd.R_mono (ok' := fun k_ => ((fun _ => True)) k_ ∧ some k_ ≠ (u3 : Value).ownBlock) (Kd.R_apart' (HO134.out) (Kd.S_typed HO_3.out) (by decide)) (fun k_ hk => ⟨trivial, hk.2⟩))) (fun _ h_ => h_))); (case aB => exact (by repeat (first | (with_reducible first | exact HB.out | apply below_alloc | apply pw_below_drewN | apply below_drew1) | exact HB.out))); (case aF => exact (fun _ _ => trivial)); (case aO => exact (by (with_reducible repeat (first | apply Kd.S_alloc | apply Kd.S_drewN | apply Kd.S_drew)); exact Kd.S_mono HO_3.out (fun k_ hk => ⟨trivial, fun e_ => hk.2 e_⟩))); (case aS => exact (below_size (by repeat (first | (with_reducible first | exact HB.out | apply below_alloc | apply pw_below_drewN | apply below_drew1) | exact HB.out)))); (case aL => have := LMc6.out; omega); intro v136 w8 ho hb hg hat; rw [← Ny135.out] at ho; have n0_ := Aside0.mk (hb); have n1_ := Aside0.mk (ho); clear HB; clear HO_3; clear HO134; have HB := n0_; have HO137 := n1_; clear n0_ n1_; clear ho hb hg hat))
              go_roundg k1
              case measure => have := HK1.out; omega
              case rel => exact ⟨(y135), (wrap64 (x8_1 + 1)), (by first | rfl | (simp; done) | (simp [*]; done)), H', ⟨by have := HK1.out; omega⟩, ⟨by (with_reducible repeat (first | apply Kd.S_alloc | apply Kd.S_drewN | apply Kd.S_drew)); exact HO137.out⟩, ⟨by repeat (first | (with_reducible first | exact HB.out | apply below_alloc | apply pw_below_drewN | apply below_drew1) | exact HB.out)⟩⟩
            · rw [if_neg c6] at H
              exact absurd H (by simp)
          · rw [if_neg c4] at H
            exact absurd H (by simp)
        · rw [if_neg c3] at H
          exact absurd H (by simp)
      · rw [if_neg c2] at H
        have c2b0 : decide (x8_1 < (l0.length : Int)) = false := decide_eq_false c2
        clear c2
        obtain rfl := Option.some.inj H
        go_wp2
        go_ret
        exact ⟨_, by first | rfl | (simp [errW_none, errW_some] <;> rfl) | (simp [*, errW_none, errW_some] <;> rfl), by (with_reducible repeat (first | apply Kd.S_alloc | apply Kd.S_drewN | apply Kd.S_drew)); exact HO_3.out, by repeat (first | (with_reducible first | exact HB.out | apply below_alloc | apply pw_below_drewN | apply below_drew1) | exact HB.out)⟩
def potbankref01_Same.l0 : Nat → List Int → List Int → Int → Option (Bool)
  | 0, _, _, _ => none
  | k + 1, x0, x1, x5 => if x5 < (x0.length : Int) then (if 0 ≤ x5 then (if x5 < (x1.length : Int) then (if (rd x0 x5) = (rd x1 x5) then (potbankref01_Same.l0 k x0 x1 (wrap64 (x5 + 1))) else (some false)) else (none)) else (none)) else (some true)
def potbankref01_Same.f (k : Nat) (l0 : List Int) (l1 : List Int) : Option (Bool) := if (l0.length : Int) = (l1.length : Int) then (potbankref01_Same.l0 k l0 l1 0) else (some false)
set_option maxHeartbeats 8000000 in
set_option maxRecDepth 100000 in
theorem potbankref01_Same.calls (k : Nat) (A0 : Option Addr) (c0 : Nat) (l0 : List Int) (A1 : Option Addr) (c1 : Nat) (l1 : List Int) (r : Bool) (w : World) (hr0 : Kd.C (Kd.int .i64) w A0 l0.length l0) (hc0 : l0.length ≤ c0) (hr1 : Kd.C (Kd.int .i64) w A1 l1.length l1) (hc1 : l1.length ≤ c1) (h : potbankref01_Same.f k l0 l1 = some r) :
    Calls Tryz.prog 27 #[.slice A0 l0.length c0, .slice A1 l1.length c1] w fun e w' => e = .returned (.bool r) ∧ Drawn0 w w' := by
  have HR0 := Aside0.mk hr0
  have HC0 := Aside0.mk hc0
  clear hr0 hc0
  have HR1 := Aside0.mk hr1
  have HC1 := Aside0.mk hc1
  clear hr1 hc1
  have H : (if (l0.length : Int) = (l1.length : Int) then (potbankref01_Same.l0 k l0 l1 0) else (some false)) = some r := h
  clear h
  by_cases c3 : (l0.length : Int) = (l1.length : Int)
  · rw [if_pos c3] at H
    have c3b0 : ((l0.length : Int) == (l1.length : Int)) = true := beq_iff_eq.mpr c3
    have c3b1 : ((l0.length : Int) != (l1.length : Int)) = false := bne_eq_false_iff_eq.mpr c3
    have c3b2 : (l0.length == l1.length) = true := by first | simpa using c3 | (simp at c3 ⊢; omega)
    clear c3
    have H' := Aside0.mk H
    clear H
    go_enter Tryz.func27, Tryz.ntmps27
    go_wp2
    repeat (go_quiet (fail); try go_wp2)
    go_loopg [5] k (fun kq v5 w' => ∃ (x5_1 : Int), v5 = .int .i64 x5_1 ∧ Aside0 (potbankref01_Same.l0 kq l0 l1 x5_1 = some r) ∧ Aside0 (kq ≤ k) ∧ Drawn0 w w')
    case atStart => exact ⟨(0), (by first | rfl | (simp; done) | (simp [*]; done)), H', ⟨Nat.le_refl _⟩, by repeat (first | exact Drawn0.refl _ | apply Drawn0.step)⟩
    case round =>
      clear H'
      try clear c1
      try clear c2
      try clear p2
      try clear c3
      try clear c3b0
      try clear c3b1
      try clear c3b2
      obtain ⟨x5_1, rfl, HA, HK1, ⟨m1, rfl⟩⟩ := hrel
      cases gk with
      | zero => exact absurd HA.out (by simp [potbankref01_Same.l0])
      | succ k1 =>
        have H := HA.out
        clear HA
        simp only [potbankref01_Same.l0] at H
        by_cases c4 : x5_1 < (l0.length : Int)
        · rw [if_pos c4] at H
          have c4b0 : decide (x5_1 < (l0.length : Int)) = true := decide_eq_true c4
          clear c4
          by_cases c5 : 0 ≤ x5_1
          · rw [if_pos c5] at H
            have c5b0 : decide (0 ≤ x5_1) = true := decide_eq_true c5
            clear c5
            by_cases c6 : x5_1 < (l1.length : Int)
            · rw [if_pos c6] at H
              have c6b0 : decide (x5_1 < (l1.length : Int)) = true := decide_eq_true c6
              clear c6
              by_cases c7 : (rd l0 x5_1) = (rd l1 x5_1)
              · rw [if_pos c7] at H
                have c7b0 : ((rd l0 x5_1) == (rd l1 x5_1)) = true := beq_iff_eq.mpr c7
                have c7b1 : ((rd l0 x5_1) != (rd l1 x5_1)) = false := bne_eq_false_iff_eq.mpr c7
                clear c7
                have H' := Aside0.mk H
                clear H
                have p138 : 0 ≤ (x5_1 : Int) := of_decide_eq_true (by first | (with_reducible assumption) | assumption)
                have q138 : x5_1 < (l0.length : Int) := of_decide_eq_true (by first | (with_reducible assumption) | assumption)
                obtain ⟨ad138, e138, hx138_0⟩ := Kd.at_int HR0.out x5_1 p138 q138
                cases e138
                replace p138 := eq_true p138
                replace q138 := eq_true q138
                have p139 : 0 ≤ (x5_1 : Int) := of_decide_eq_true (by first | (with_reducible assumption) | assumption)
                have q139 : x5_1 < (l1.length : Int) := of_decide_eq_true (by first | (with_reducible assumption) | assumption)
                obtain ⟨ad139, e139, hx139_0⟩ := Kd.at_int HR1.out x5_1 p139 q139
                cases e139
                replace p139 := eq_true p139
                replace q139 := eq_true q139
                go_wp2
                repeat (go_quiet (fail); try go_wp2)
                go_roundg k1
                case measure => have := HK1.out; omega
                case rel => exact ⟨(wrap64 (x5_1 + 1)), (by first | rfl | (simp; done) | (simp [*]; done)), H', ⟨by have := HK1.out; omega⟩, by repeat (first | exact Drawn0.refl _ | apply Drawn0.step)⟩
              · rw [if_neg c7] at H
                have c7b0 : ((rd l0 x5_1) == (rd l1 x5_1)) = false := beq_eq_false_iff_ne.mpr c7
                have c7b1 : ((rd l0 x5_1) != (rd l1 x5_1)) = true := bne_iff_ne.mpr c7
                obtain rfl := Option.some.inj H
                have p138 : 0 ≤ (x5_1 : Int) := of_decide_eq_true (by first | (with_reducible assumption) | assumption)
                have q138 : x5_1 < (l0.length : Int) := of_decide_eq_true (by first | (with_reducible assumption) | assumption)
                obtain ⟨ad138, e138, hx138_0⟩ := Kd.at_int HR0.out x5_1 p138 q138
                cases e138
                replace p138 := eq_true p138
                replace q138 := eq_true q138
                have p139 : 0 ≤ (x5_1 : Int) := of_decide_eq_true (by first | (with_reducible assumption) | assumption)
                have q139 : x5_1 < (l1.length : Int) := of_decide_eq_true (by first | (with_reducible assumption) | assumption)
                obtain ⟨ad139, e139, hx139_0⟩ := Kd.at_int HR1.out x5_1 p139 q139
                cases e139
                replace p139 := eq_true p139
                replace q139 := eq_true q139
                go_wp2
                repeat (go_quiet (fail); try go_wp2)
                go_ret
                exact ⟨by first | rfl | (simp; done) | (simp [*]; done), by repeat (first | exact Drawn0.refl _ | apply Drawn0.step)⟩
            · rw [if_neg c6] at H
              exact absurd H (by simp)
          · rw [if_neg c5] at H
            exact absurd H (by simp)
        · rw [if_neg c4] at H
          have c4b0 : decide (x5_1 < (l0.length : Int)) = false := decide_eq_false c4
          clear c4
          obtain rfl := Option.some.inj H
          go_wp2
          repeat (go_quiet (fail); try go_wp2)
          go_ret
          exact ⟨by first | rfl | (simp; done) | (simp [*]; done), by repeat (first | exact Drawn0.refl _ | apply Drawn0.step)⟩
  · rw [if_neg c3] at H
    have c3b0 : ((l0.length : Int) == (l1.length : Int)) = false := beq_eq_false_iff_ne.mpr c3
    have c3b1 : ((l0.length : Int) != (l1.length : Int)) = true := bne_iff_ne.mpr c3
    have c3b2 : (l0.length == l1.length) = false := by first | simpa using c3 | (simp at c3 ⊢; omega)
    obtain rfl := Option.some.inj H
    go_enter Tryz.func27, Tryz.ntmps27
    go_wp2
    repeat (go_quiet (fail); try go_wp2)
    go_ret
    exact ⟨by first | rfl | (simp; done) | (simp [*]; done), by repeat (first | exact Drawn0.refl _ | apply Drawn0.step)⟩
def potbankref06_SameSets.l0 : Nat → List (List Int) → List (List Int) → Bool → Int → Option (Bool)
  | 0, _, _, _, _ => none
  | k + 1, x0, x1, x5, x6 => if x6 < (x0.length : Int) then (if x5 = true then (if 0 ≤ x6 then (if x6 < (x1.length : Int) then ((potbankref01_Same.f k (rd_L5 x0 x6) (rd_L5 x1 x6)).bind fun t142 => (potbankref06_SameSets.l0 k x0 x1 t142 (wrap64 (x6 + 1)))) else (none)) else (none)) else (some x5)) else (some x5)
def potbankref06_SameSets.f (k : Nat) (l0 : List (List Int)) (l1 : List (List Int)) : Option (Bool) := potbankref06_SameSets.l0 k l0 l1 ((l0.length : Int) == (l1.length : Int)) 0
set_option maxHeartbeats 8000000 in
set_option maxRecDepth 100000 in
theorem potbankref06_SameSets.calls (k : Nat) (A0 : Option Addr) (c0 : Nat) (l0 : List (List Int)) (A1 : Option Addr) (c1 : Nat) (l1 : List (List Int)) (r : Bool) (w : World) (hr0 : Kd.C (Kd.slice 3 (Kd.int .i64)) w A0 l0.length l0) (hc0 : l0.length ≤ c0) (hr1 : Kd.C (Kd.slice 3 (Kd.int .i64)) w A1 l1.length l1) (hc1 : l1.length ≤ c1) (h : potbankref06_SameSets.f k l0 l1 = some r) :
    Calls Tryz.prog 12 #[.slice A0 l0.length c0, .slice A1 l1.length c1] w fun e w' => e = .returned (.bool r) ∧ Drawn0 w w' := by
  have HR0 := Aside0.mk hr0
  have HC0 := Aside0.mk hc0
  clear hr0 hc0
  have HR1 := Aside0.mk hr1
  have HC1 := Aside0.mk hc1
  clear hr1 hc1
  have H : (potbankref06_SameSets.l0 k l0 l1 ((l0.length : Int) == (l1.length : Int)) 0) = some r := h
  clear h
  have H' := Aside0.mk H
  clear H
  go_enter Tryz.func12, Tryz.ntmps12
  go_wp2
  repeat (go_quiet (fail); try go_wp2)
  go_loopg [5, 6] k (fun kq v5 v6 w' => ∃ (x5_1 : Bool) (x6_1 : Int), v5 = .bool x5_1 ∧ v6 = .int .i64 x6_1 ∧ Aside0 (potbankref06_SameSets.l0 kq l0 l1 x5_1 x6_1 = some r) ∧ Aside0 (kq ≤ k) ∧ Drawn0 w w')
  case atStart => exact ⟨(((l0.length : Int) == (l1.length : Int))), (0), (by first | rfl | (simp; done) | (simp [*]; done)), (by first | rfl | (simp; done) | (simp [*]; done)), H', ⟨Nat.le_refl _⟩, by repeat (first | exact Drawn0.refl _ | apply Drawn0.step)⟩
  case round =>
    clear H'
    try clear c1
    try clear p2
    obtain ⟨x5_1, x6_1, rfl, rfl, HA, HK1, ⟨m1, rfl⟩⟩ := hrel
    cases gk with
    | zero => exact absurd HA.out (by simp [potbankref06_SameSets.l0])
    | succ k1 =>
      have H := HA.out
      clear HA
      simp only [potbankref06_SameSets.l0] at H
      by_cases c3 : x6_1 < (l0.length : Int)
      · rw [if_pos c3] at H
        have c3b0 : decide (x6_1 < (l0.length : Int)) = true := decide_eq_true c3
        clear c3
        by_cases c4 : x5_1 = true
        · subst c4
          have H1 : (if 0 ≤ x6_1 then (if x6_1 < (l1.length : Int) then ((potbankref01_Same.f k1 (rd_L5 l0 x6_1) (rd_L5 l1 x6_1)).bind fun t142 => (potbankref06_SameSets.l0 k1 l0 l1 t142 (wrap64 (x6_1 + 1)))) else (none)) else (none)) = some r := by rw [if_pos rfl] at H; exact H
          clear H
          have H := H1
          clear H1
          by_cases c5 : 0 ≤ x6_1
          · rw [if_pos c5] at H
            have c5b0 : decide (0 ≤ x6_1) = true := decide_eq_true c5
            clear c5
            by_cases c6 : x6_1 < (l1.length : Int)
            · rw [if_pos c6] at H
              have c6b0 : decide (x6_1 < (l1.length : Int)) = true := decide_eq_true c6
              clear c6
              replace H := Option.bind_eq_some_iff.mp H
              obtain ⟨t142, A70, H⟩ := H
              replace H : (potbankref06_SameSets.l0 k1 l0 l1 t142 (wrap64 (x6_1 + 1))) = some r := H
              have A7 := Aside0.mk A70
              clear A70
              have H' := Aside0.mk H
              clear H
              have p140 : 0 ≤ (x6_1 : Int) := of_decide_eq_true (by first | (with_reducible assumption) | assumption)
              have q140 : x6_1 < (l0.length : Int) := of_decide_eq_true (by first | (with_reducible assumption) | assumption)
              obtain ⟨ad140, A140_0, c140_0, e140, hx140_0, hl140_0, hi140_0⟩ := at_L5 HR0.out x6_1 p140 q140
              cases e140
              have HR140_0 := Aside0.mk hi140_0
              have HC140_0 := Aside0.mk hl140_0
              clear hi140_0 hl140_0
              replace p140 := eq_true p140
              replace q140 := eq_true q140
              have p141 : 0 ≤ (x6_1 : Int) := of_decide_eq_true (by first | (with_reducible assumption) | assumption)
              have q141 : x6_1 < (l1.length : Int) := of_decide_eq_true (by first | (with_reducible assumption) | assumption)
              obtain ⟨ad141, A141_0, c141_0, e141, hx141_0, hl141_0, hi141_0⟩ := at_L5 HR1.out x6_1 p141 q141
              cases e141
              have HR141_0 := Aside0.mk hi141_0
              have HC141_0 := Aside0.mk hl141_0
              clear hi141_0 hl141_0
              replace p141 := eq_true p141
              replace q141 := eq_true q141
              go_wp2_with (first | (go_at_call 27; (with_reducible refine (potbankref01_Same.calls k1 _ _ (rd_L5 l0 x6_1) _ _ (rd_L5 l1 x6_1) t142 _ ?side1 ?side2 ?side3 ?side4 A7.out).mono ?_); (case side1 => repeat (first | exact HR140_0.out | (with_reducible refine Kd.C_alloc ?_ _) | (with_reducible refine Kd.C_drewN ?_ _) | (with_reducible refine Kd.C_drew ?_))); (case side2 => exact HC140_0.out); (case side3 => repeat (first | exact HR141_0.out | (with_reducible refine Kd.C_alloc ?_ _) | (with_reducible refine Kd.C_drewN ?_ _) | (with_reducible refine Kd.C_drew ?_))); (case side4 => exact HC141_0.out); rintro e w' ⟨rfl, ⟨nd, rfl⟩⟩; (try first | exact ⟨rfl, _, World.drewN_drewN _ _ _⟩ | exact ⟨rfl, _, Eq.trans (World.drewN_drewN _ _ _) (congrArg (World.drewN _) (Nat.add_assoc _ _ _))⟩)))
              repeat (go_quiet (first | (go_at_call 27; (with_reducible refine (potbankref01_Same.calls k1 _ _ (rd_L5 l0 x6_1) _ _ (rd_L5 l1 x6_1) t142 _ ?side1 ?side2 ?side3 ?side4 A7.out).mono ?_); (case side1 => repeat (first | exact HR140_0.out | (with_reducible refine Kd.C_alloc ?_ _) | (with_reducible refine Kd.C_drewN ?_ _) | (with_reducible refine Kd.C_drew ?_))); (case side2 => exact HC140_0.out); (case side3 => repeat (first | exact HR141_0.out | (with_reducible refine Kd.C_alloc ?_ _) | (with_reducible refine Kd.C_drewN ?_ _) | (with_reducible refine Kd.C_drew ?_))); (case side4 => exact HC141_0.out); rintro e w' ⟨rfl, ⟨nd, rfl⟩⟩; (try first | exact ⟨rfl, _, World.drewN_drewN _ _ _⟩ | exact ⟨rfl, _, Eq.trans (World.drewN_drewN _ _ _) (congrArg (World.drewN _) (Nat.add_assoc _ _ _))⟩))); try go_wp2_with (first | (go_at_call 27; (with_reducible refine (potbankref01_Same.calls k1 _ _ (rd_L5 l0 x6_1) _ _ (rd_L5 l1 x6_1) t142 _ ?side1 ?side2 ?side3 ?side4 A7.out).mono ?_); (case side1 => repeat (first | exact HR140_0.out | (with_reducible refine Kd.C_alloc ?_ _) | (with_reducible refine Kd.C_drewN ?_ _) | (with_reducible refine Kd.C_drew ?_))); (case side2 => exact HC140_0.out); (case side3 => repeat (first | exact HR141_0.out | (with_reducible refine Kd.C_alloc ?_ _) | (with_reducible refine Kd.C_drewN ?_ _) | (with_reducible refine Kd.C_drew ?_))); (case side4 => exact HC141_0.out); rintro e w' ⟨rfl, ⟨nd, rfl⟩⟩; (try first | exact ⟨rfl, _, World.drewN_drewN _ _ _⟩ | exact ⟨rfl, _, Eq.trans (World.drewN_drewN _ _ _) (congrArg (World.drewN _) (Nat.add_assoc _ _ _))⟩))))
              go_roundg k1
              case measure => have := HK1.out; omega
              case rel => exact ⟨(t142), (wrap64 (x6_1 + 1)), (by first | rfl | (simp; done) | (simp [*]; done)), (by first | rfl | (simp; done) | (simp [*]; done)), H', ⟨by have := HK1.out; omega⟩, by repeat (first | exact Drawn0.refl _ | apply Drawn0.step)⟩
            · rw [if_neg c6] at H
              exact absurd H (by simp)
          · rw [if_neg c5] at H
            exact absurd H (by simp)
        · replace c4 := Bool.eq_false_iff.mpr c4
          subst c4
          have H1 : (some false) = some r := by rw [if_neg (show ¬ (false = true) by decide)] at H; exact H
          clear H
          have H := H1
          clear H1
          obtain rfl := Option.some.inj H
          go_wp2
          repeat (go_quiet (fail); try go_wp2)
          go_ret
          exact ⟨by first | rfl | (simp; done) | (simp [*]; done), by repeat (first | exact Drawn0.refl _ | apply Drawn0.step)⟩
      · rw [if_neg c3] at H
        have c3b0 : decide (x6_1 < (l0.length : Int)) = false := decide_eq_false c3
        clear c3
        obtain rfl := Option.some.inj H
        go_wp2
        repeat (go_quiet (fail); try go_wp2)
        go_ret
        exact ⟨by first | rfl | (simp; done) | (simp [*]; done), by repeat (first | exact Drawn0.refl _ | apply Drawn0.step)⟩
end Go.Proofs.YthonlcnmjlldiaaGreat.P
namespace Go.Proofs.YthonlcnmjlldiaaGreat.P
open Go.Shelf Go.RowKit Go.Proofs.YthonlcnmjlldiaaGreatW.PrintWords Go.Proofs.YthonlcnmjlldiaaGreatW.PrintLast Go.Proofs.YthonlcnmjlldiaaGreatW.PrintMore
set_option linter.unusedVariables false
set_option linter.unusedSimpArgs false
def suitsB (o : Order) (s : Seat) : Bool := decide (o.f2.f0 ≤ s.f0.f0 ∧ s.f0.f1 ≤ o.f2.f1 ∧ o.f3 ≤ s.f1)
abbrev ordV (o : Order) : Value := .agg #[.int .i64 o.f0, .int .i64 o.f1, .int .i64 o.f2.f0, .int .i64 o.f2.f1, .int .i64 o.f3]
abbrev seatV (s : Seat) : Value := .agg #[.int .i64 s.f0.f0, .int .i64 s.f0.f1, .int .i64 s.f1, .int .i64 s.f2]
theorem suits_b (o : Order) (s : Seat) (w : World) : Calls Tryz.prog 106 #[ordV o, seatV s] w fun e w' => e = .returned (.bool (suitsB o s)) ∧ Below w.heap.size w w' := by
  refine plan_suits.calls _ _ _ _ _ _ _ _ _ _ w ?_
  unfold plan_suits.f suitsB
  by_cases h1 : o.f2.f0 ≤ s.f0.f0 <;> by_cases h2 : s.f0.f1 ≤ o.f2.f1 <;> simp [h1, h2]
set_option maxHeartbeats 1000000 in
set_option maxRecDepth 100000 in
theorem room1_b {W : World} {B : Option Addr} {c1 ob bo bs : Nat} {l : List Order} {s : Seat} {q : Value} (hbo : W.cell? ⟨bo, 0, none⟩ = some (.pointer (some ⟨ob, 0, none⟩))) (hob : W.cell? ⟨ob, 1, none⟩ = some (.slice B l.length c1)) (hob0 : W.cell? ⟨ob, 0, none⟩ = some q)
    (hC : Kd.C k72 W B l.length l) (hs0 : W.cell? ⟨bs, 0, none⟩ = some (.int .i64 s.f0.f0)) (hs1 : W.cell? ⟨bs, 1, none⟩ = some (.int .i64 s.f0.f1)) (hs2 : W.cell? ⟨bs, 2, none⟩ = some (.int .i64 s.f1)) (hs3 : W.cell? ⟨bs, 3, none⟩ = some (.int .i64 s.f2))
    (i : Int) (h0 : 0 ≤ i) (h1 : i < l.length) :
    Calls Tryz.prog 105 #[.int .i64 i, .pointer (some ⟨bo, 0, none⟩), .pointer (some ⟨bs, 0, none⟩)] W fun e W' => e = .returned (.bool (suitsB (rd_T72 l i) s)) ∧ Below W.heap.size W W' := by
  have hu := Tryz.underlying72
  have hu2 := Tryz.underlying70
  have hu3 := Tryz.underlying129
  have hmax := hC.2.1
  obtain ⟨ad, rfl, l0, l1, l2, l3, l4⟩ := at_T72 hC i h0 h1
  have hcall := suits_b (rd_T72 l i) s
  generalize rd_T72 l i = o at *
  generalize suitsB o s = r at *
  have HC := Aside0.mk hcall
  clear hcall hC
  go_enter Tryz.func105, Tryz.ntmps105
  go_wp2
  go_still_tail 8, (by kernel_rfl)
  change wpList _ _ _ _ _ W.drew
  go_wp2_with (go_at_call 106; refine (HC.out _).mono ?_; rintro e w' ⟨rfl, hb⟩)
  go_ret
  exact ⟨rfl, ⟨hb.os, hb.tape, hb.output, hb.size, hb.block⟩⟩
def bitsL (m : Int) : List Int := ((List.range 9).filter (fun i => m.toNat.testBit i)).map Int.ofNat
theorem list_all : ∀ m : Fin 512, plan_mask_list.f 12 (m.val : Int) = some (bitsL (m.val : Int)) := by decide +kernel
theorem has_all : ∀ m : Fin 512, ∀ i : Fin 9, plan_mask_has.f (m.val : Int) (i.val : Int) = some (m.val.testBit i.val) := by decide +kernel
theorem list_some {m : Int} (h0 : 0 ≤ m) (h1 : m < 512) : plan_mask_list.f 12 m = some (bitsL m) := by
  have := list_all ⟨m.toNat, by omega⟩
  simpa [Int.toNat_of_nonneg h0] using this
theorem has_some {m i : Int} (h0 : 0 ≤ m) (h1 : m < 512) (i0 : 0 ≤ i) (i1 : i < 9) : plan_mask_has.f m i = some (m.toNat.testBit i.toNat) := by
  have := has_all ⟨m.toNat, by omega⟩ ⟨i.toNat, by omega⟩
  simpa [Int.toNat_of_nonneg h0, Int.toNat_of_nonneg i0] using this
theorem mem_bitsL {m i : Int} : i ∈ bitsL m ↔ 0 ≤ i ∧ i < 9 ∧ m.toNat.testBit i.toNat = true := by
  unfold bitsL
  simp only [List.mem_map, List.mem_filter, List.mem_range]
  constructor
  · rintro ⟨j, ⟨h1, h2⟩, rfl⟩
    exact ⟨by simp, by simp; omega, by simpa using h2⟩
  · rintro ⟨h0, h1, h2⟩
    exact ⟨i.toNat, ⟨by omega, h2⟩, by simp [Int.toNat_of_nonneg h0]⟩
theorem bitsL_lt {m i : Int} {n : Nat} (hm : m < 2 ^ n) (h0 : 0 ≤ m) (hi : i ∈ bitsL m) : 0 ≤ i ∧ i < n := by
  obtain ⟨h1, h2, h3⟩ := mem_bitsL.1 hi
  refine ⟨h1, ?_⟩
  have h4 := Nat.ge_two_pow_of_testBit h3
  have h5 : m.toNat < 2 ^ n := by
    have : (m.toNat : Int) < ((2 ^ n : Nat) : Int) := by rw [Int.toNat_of_nonneg h0]; push_cast; exact hm
    exact Int.ofNat_lt.1 this
  have h6 : 2 ^ i.toNat < 2 ^ n := by omega
  have := (Nat.pow_lt_pow_iff_right (by omega)).1 h6
  omega
theorem list_b {m : Int} (h0 : 0 ≤ m) (h1 : m < 512) (w : World) : Calls Tryz.prog 74 #[.int .u64 m] w fun e w' => ∃ A c, e = .returned (.slice A (bitsL m).length c) ∧ (bitsL m).length ≤ c ∧ Kd.C (Kd.int .i64) w' A (bitsL m).length (bitsL m) ∧ Below w.heap.size w w' :=
  (plan_mask_list.calls 12 m _ w (list_some h0 h1)).mono fun e w' ⟨v, he, hR, hb⟩ => by
    obtain ⟨A, c, rfl, hc, hC⟩ := Kd.R_reads hR
    exact ⟨A, c, he, hc, hC, hb⟩
def needTo (l : List Order) (m : Int) (k : Nat) : Int := ((List.range k).map fun i => if m.toNat.testBit i then (rd_T72 l (i : Int)).f1 else 0).sum
def needI (l : List Order) (m : Int) : Int := needTo l m l.length
def ManyOk (l : List Order) : Prop := ∀ o ∈ l, 0 ≤ o.f1 ∧ o.f1 ≤ 1000
theorem rdT_mem {l : List Order} {i : Nat} (h : i < l.length) : rd_T72 l (i : Int) ∈ l := by
  have : l[i]? = some (rd_T72 l (i : Int)) := by simp [rd_T72, List.getD_eq_getElem?_getD, h]
  exact List.mem_of_getElem? this
theorem needTo_succ (l : List Order) (m : Int) (k : Nat) : needTo l m (k + 1) = needTo l m k + (if m.toNat.testBit k then (rd_T72 l (k : Int)).f1 else 0) := by
  unfold needTo
  rw [List.range_succ, List.map_append, List.sum_append]
  simp
theorem needTo_bd {l : List Order} (hl : ManyOk l) (m : Int) (k : Nat) (hk : k ≤ l.length) : 0 ≤ needTo l m k ∧ needTo l m k ≤ 1000 * k := by
  induction k with
  | zero => simp [needTo]
  | succ k ih =>
    obtain ⟨h1, h2⟩ := ih (by omega)
    obtain ⟨h3, h4⟩ := hl _ (rdT_mem (l := l) (i := k) (by omega))
    rw [needTo_succ]
    split <;> constructor <;> push_cast <;> omega
theorem need_loop {l : List Order} (hl : ManyOk l) (h9 : l.length ≤ 9) {m : Int} (h0 : 0 ≤ m) (h1 : m < 512) (d : Nat) : ∀ (k i : Nat), i ≤ l.length → l.length - i = d → d < k → plan_need.l0 k m (needTo l m i) l (l.length : Int) (i : Int) = some (needI l m) := by
  induction d with
  | zero =>
    intro k i hi hd hk
    obtain ⟨k, rfl⟩ : ∃ m, k = m + 1 := ⟨k - 1, by omega⟩
    simp only [plan_need.l0]
    rw [if_neg (by omega)]
    have : i = l.length := by omega
    subst this
    rfl
  | succ d ih =>
    intro k i hi hd hk
    obtain ⟨k, rfl⟩ : ∃ m, k = m + 1 := ⟨k - 1, by omega⟩
    have hlt : (i : Int) < (l.length : Int) := by omega
    simp only [plan_need.l0]
    rw [if_pos hlt, if_pos (by omega), if_pos hlt, has_some h0 h1 (by omega) (by omega)]
    have hb := needTo_bd hl m (i + 1) (by omega)
    have hb2 := needTo_bd hl m i (by omega)
    have hs := needTo_succ l m i
    have hw : wrap64 ((i : Int) + 1) = ((i + 1 : Nat) : Int) := by unfold wrap64; push_cast; omega
    have hr := ih k (i + 1) (by omega) (by omega) (by omega)
    simp only [Option.bind_some, Int.toNat_natCast]
    rw [hw]
    by_cases e : m.toNat.testBit i = true
    · rw [if_pos e]
      rw [if_pos e] at hs
      have : wrap64 (needTo l m i + (rd_T72 l (i : Int)).f1) = needTo l m (i + 1) := by rw [← hs]; unfold wrap64; omega
      rw [this]
      exact hr
    · rw [if_neg e]
      rw [if_neg e] at hs
      rw [show needTo l m i = needTo l m (i + 1) by omega]
      exact hr
theorem need_some {l : List Order} (hl : ManyOk l) (h9 : l.length ≤ 9) {m : Int} (h0 : 0 ≤ m) (h1 : m < 512) : plan_need.f 10 l m = some (needI l m) :=
  need_loop hl h9 h0 h1 l.length 10 0 (by omega) (by omega) (by omega)
theorem need_b {A : Option Addr} {c : Nat} {l : List Order} {m : Int} {w : World} (hl : ManyOk l) (h9 : l.length ≤ 9) (h0 : 0 ≤ m) (h1 : m < 512) (hr : Kd.C k72 w A l.length l) (hc : l.length ≤ c) :
    Calls Tryz.prog 71 #[.slice A l.length c, .int .u64 m] w fun e w' => e = .returned (.int .i64 (needI l m)) ∧ Below w.heap.size w w' :=
  plan_need.calls 10 A c l m _ w hr hc (need_some hl h9 h0 h1)
end Go.Proofs.YthonlcnmjlldiaaGreat.P
namespace Go.Proofs.YthonlcnmjlldiaaGreat.P
open Go.Shelf Go.RowKit Go.Proofs.YthonlcnmjlldiaaGreatW.PrintWords Go.Proofs.YthonlcnmjlldiaaGreatW.PrintLast Go.Proofs.YthonlcnmjlldiaaGreatW.PrintMore
set_option linter.unusedVariables false
set_option linter.unusedSimpArgs false
def seatIn (l : List Order) (m : Int) (s : Seat) : Bool := (bitsL m).any (fun i => suitsB (rd_T72 l i) s)
def roomTo (k : List Seat) (l : List Order) (m : Int) (j : Nat) : Int := ((k.take j).map fun s => if seatIn l m s then s.f2 else 0).sum
def roomI (k : List Seat) (l : List Order) (m : Int) : Int := roomTo k l m k.length
def HoldsOk (k : List Seat) : Prop := k.length ≤ 24 ∧ ∀ s ∈ k, 0 ≤ s.f2 ∧ s.f2 ≤ 1000
theorem roomTo_succ {k : List Seat} {l : List Order} {m : Int} {j : Nat} {s : Seat} (h : k[j]? = some s) : roomTo k l m (j + 1) = roomTo k l m j + (if seatIn l m s then s.f2 else 0) := by
  unfold roomTo
  rw [List.take_add_one, h, List.map_append, List.sum_append]
  simp
theorem roomTo_bd {k : List Seat} (hk : HoldsOk k) (l : List Order) (m : Int) (j : Nat) (hj : j ≤ k.length) : 0 ≤ roomTo k l m j ∧ roomTo k l m j ≤ 1000 * j := by
  induction j with
  | zero => simp [roomTo]
  | succ j ih =>
    obtain ⟨h1, h2⟩ := ih (by omega)
    have hs : k[j]? = some k[j] := List.getElem?_eq_getElem (by omega)
    obtain ⟨h3, h4⟩ := hk.2 _ (List.mem_of_getElem? hs)
    rw [roomTo_succ hs]
    split <;> constructor <;> push_cast <;> omega
theorem roomI_bd {k : List Seat} (hk : HoldsOk k) (l : List Order) (m : Int) : 0 ≤ roomI k l m ∧ roomI k l m ≤ 24000 := by
  have := roomTo_bd hk l m k.length (Nat.le_refl _)
  have := hk.1
  unfold roomI
  omega
theorem grown_trans {a b c : World} {r : Option Nat} (h : a.grownBy b r) (k : b.grownBy c r) : a.grownBy c r :=
  ⟨k.os.trans h.os, k.tape.trans h.tape, k.output.trans h.output, Nat.le_trans h.size k.size, fun i hi hr => (k.block i (Nat.lt_of_lt_of_le hi h.size) hr).trans (h.block i hi hr)⟩
theorem grown_below {a b c : World} {r : Option Nat} (h : a.grownBy b r) (k : Below b.heap.size b c) : a.grownBy c r := grown_trans h (grown_of_below k r)
theorem below_grown' {a b c : World} {r : Option Nat} (h : Below a.heap.size a b) (k : b.grownBy c r) : a.grownBy c r := grown_trans (grown_of_below h r) k
theorem cell_of_heap {w w' : World} {a : Addr} (h : w'.heap[a.block]? = w.heap[a.block]?) : w'.cell? a = w.cell? a := by
  unfold World.cell?
  rw [h]
theorem C_grown_map {α : Type} {d : Kd α} (hd : ∀ {W W' : World} {x : α} {cs : List Value}, d.K W x cs → d.K W' x cs) {w w' : World} {A : Option Addr} {n : Nat} {xs : List α} {mb : Nat} (hz : 0 < d.sz) (h : d.C w A n xs) (hg : w.grownBy w' (some mb))
    (hm : ∃ es cl, w.heap[mb]? = some (.map es cl)) : d.C w' A n xs := by
  refine ⟨h.1, h.2.1, fun hn => ?_⟩
  obtain ⟨ad, e, hc⟩ := h.2.2 hn
  refine ⟨ad, e, fun j p hp => ?_⟩
  obtain ⟨c, h1, h2, h3⟩ := hc j p hp
  refine ⟨c, h1, hd h2, fun i u hu => ?_⟩
  have h4 := h3 i u hu
  refine (cell_of_heap ?_).trans h4
  refine hg.block _ (World.block_lt_of_cell? w _ h4) ?_
  intro e2
  obtain ⟨es, cl, hm⟩ := hm
  have e3 : (ad.add (j * d.sz + i)).block = mb := by injection e2
  unfold World.cell? at h4
  rw [e3, hm] at h4
  cases h4
theorem k70_any {W W' : World} {x : Seat} {cs : List Value} (h : k70.K W x cs) : k70.K W' x cs := by rw [k70_open h]; exact k70_mk W' x
theorem k72_any {W W' : World} {x : Order} {cs : List Value} (h : k72.K W x cs) : k72.K W' x cs := by rw [k72_open h]; exact k72_mk W' x
abbrev RMap (w : World) (mb : Nat) (g : Int → Option Int) : Prop := IMap Tryz.prog 93 3 .u64 (Lit.int .i64) w mb 512 g
def Off (w : World) (ob mb : Nat) (k : List Seat) (l : List Order) : Prop :=
  ∃ A c0 B c1 g, w.heap[ob]? = some (.cells #[.slice A k.length c0, .slice B l.length c1, .map (some mb)] 129 (0, 0)) ∧ Kd.C k70 w A k.length k ∧ k.length ≤ c0 ∧ Kd.C k72 w B l.length l ∧ l.length ≤ c1 ∧
    RMap w mb g ∧ ∀ x y, g x = some y → 0 ≤ x ∧ x < 512 ∧ y = roomI k l x
theorem IMap.isMap {P : Program} {kt et : TypeId} {q : IntKind} {β : Type} {lit : β → Lit} {w : World} {b n : Nat} {g : Int → Option β} (h : IMap P kt et q lit w b n g) : ∃ es cl, w.heap[b]? = some (.map es cl) := by
  obtain ⟨D, ⟨es, cl, h1, _⟩, _⟩ := h
  exact ⟨es, cl, h1⟩
theorem Off.below {w w' : World} {ob mb : Nat} {k : List Seat} {l : List Order} (h : Off w ob mb k l) (hb : Below w.heap.size w w') : Off w' ob mb k l := by
  obtain ⟨A, c0, B, c1, g, h1, h2, h3, h4, h5, h6, h7⟩ := h
  exact ⟨A, c0, B, c1, g, (hb.block ob (blk_lt h1)).trans h1, Kd.C_below h2 hb, h3, Kd.C_below h4 hb, h5, h6.below hb, h7⟩
theorem Off.isMap {w : World} {ob mb : Nat} {k : List Seat} {l : List Order} (h : Off w ob mb k l) : ∃ es cl, w.heap[mb]? = some (.map es cl) := by
  obtain ⟨A, c0, B, c1, g, h1, h2, h3, h4, h5, h6, h7⟩ := h
  exact h6.isMap
theorem Off.lt {w : World} {ob mb : Nat} {k : List Seat} {l : List Order} (h : Off w ob mb k l) : ob < w.heap.size ∧ mb < w.heap.size ∧ ob ≠ mb := by
  have hm := h.isMap
  obtain ⟨A, c0, B, c1, g, h1, h2, h3, h4, h5, h6, h7⟩ := h
  refine ⟨blk_lt h1, h6.lt, ?_⟩
  rintro rfl
  obtain ⟨es, cl, hm⟩ := hm
  rw [h1] at hm
  cases hm
theorem nodup_lt : ∀ (n : Nat) (l : List Nat), l.Nodup → (∀ x ∈ l, x < n) → l.length ≤ n
  | 0, l, _, h => by
    cases l with
    | nil => simp
    | cons x xs => exact absurd (h x (by simp)) (by omega)
  | n + 1, l, hd, h => by
    have h1 := nodup_lt n (l.erase n) (hd.erase n) (fun x hx => by
      have := (hd.mem_erase_iff).1 hx
      have := h x this.2
      omega)
    have := List.length_erase_of_mem (a := n) (l := l)
    by_cases e : n ∈ l
    · have := this e; omega
    · rw [List.erase_of_not_mem e] at h1; omega
theorem any_sorted {H : Type} (f : Lit × DataW H → Bool) : ∀ l : List (Lit × DataW H), (l.foldr DataW.insert []).any f = l.any f
  | [] => rfl
  | x :: l => by rw [List.foldr_cons, Maps.any_insert, any_sorted f l]; rfl
theorem IMap.tight {β : Type} {lit : β → Lit} {kt et : TypeId} {w : World} {b n : Nat} {g : Int → Option β} (hk : Tryz.prog.underlying kt = some (.int .u64)) (h : IMap Tryz.prog kt et .u64 lit w b n g) (hg : ∀ x y, g x = some y → 0 ≤ x ∧ x < 512) : IMap Tryz.prog kt et .u64 lit w b 512 g := by
  obtain ⟨D, ⟨es, clock, hb, F, hs, rfl⟩, hM, hD⟩ := h
  refine ⟨_, ⟨es, clock, hb, F, ?_, rfl⟩, hM, hD⟩
  have hap := Maps.fit_apart (Maps.int_keyed hk) F
  have hks : ∀ p ∈ es.toList.map (WideElems.rg Tryz.prog kt (plainElem (H := Unit) Tryz.prog et)), ∃ a : Nat, a < 512 ∧ p.1 = .int .u64 (a : Int) := by
    intro p hp
    obtain ⟨v, hv⟩ := Maps.fit_keys F p hp
    have : ∃ a : Int, p.1 = .int .u64 a ∧ (Lit.int .u64 a).wf = true := by
      unfold keyOf at hv
      rw [hk] at hv
      unfold mapKey at hv
      rw [hk] at hv
      cases v <;> simp at hv
      obtain ⟨⟨rfl, hw⟩, e⟩ := hv
      exact ⟨_, e.symm, hw⟩
    obtain ⟨a, ha, hw⟩ := this
    have h1 := (hD a hw).1
    rw [Maps.has_eq, any_sorted] at h1
    have h2 : (es.toList.map (WideElems.rg Tryz.prog kt (plainElem (H := Unit) Tryz.prog et))).any (fun q => q.1.sameKey (.int .u64 a)) = true := by
      rw [List.any_eq_true]
      exact ⟨p, hp, by rw [ha]; simp [Lit.sameKey]⟩
    rw [h2] at h1
    cases hga : g a with
    | none => rw [hga] at h1; simp at h1
    | some y =>
      obtain ⟨h3, h4⟩ := hg a y hga
      exact ⟨a.toNat, by omega, by rw [ha, Int.toNat_of_nonneg h3]⟩
  let keyN : Lit × DataW Unit → Nat := fun p => match p.1 with | .int _ a => a.toNat | _ => 0
  have hn : ((es.toList.map (WideElems.rg Tryz.prog kt (plainElem (H := Unit) Tryz.prog et))).map keyN).Nodup := by
    rw [List.Nodup, List.pairwise_map]
    refine List.Pairwise.imp_of_mem ?_ hap
    intro p q hp hq hne e
    obtain ⟨a, _, ha⟩ := hks p hp
    obtain ⟨c, _, hc⟩ := hks q hq
    apply hne
    simp only [keyN, ha, hc, Int.toNat_natCast] at e
    rw [ha, hc, e]
  have := nodup_lt 512 _ hn (fun x hx => by
    obtain ⟨p, hp, rfl⟩ := List.mem_map.1 hx
    obtain ⟨a, h1, ha⟩ := hks p hp
    simp only [keyN, ha, Int.toNat_natCast]
    exact h1)
  simpa using this
theorem Off.store {w w' : World} {ob mb : Nat} {k : List Seat} {l : List Order} (h : Off w ob mb k l) {g : Int → Option Int} (hg : ∀ x y, g x = some y → 0 ≤ x ∧ x < 512 ∧ y = roomI k l x) {n : Nat} (hm : IMap Tryz.prog 93 3 .u64 (Lit.int .i64) w' mb n g) (hgr : w.grownBy w' (some mb)) : Off w' ob mb k l := by
  have hlt := h.lt
  have hM := h.isMap
  obtain ⟨A, c0, B, c1, g0, h1, h2, h3, h4, h5, h6, h7⟩ := h
  exact ⟨A, c0, B, c1, g, (hgr.block ob (blk_lt h1) (by simp; exact hlt.2.2)).trans h1, C_grown_map k70_any (by decide) h2 hgr hM, h3, C_grown_map k72_any (by decide) h4 hgr hM, h5, hm.tight Tryz.underlying93 (fun x y hx => ⟨(hg x y hx).1, (hg x y hx).2.1⟩), hg⟩
end Go.Proofs.YthonlcnmjlldiaaGreat.P
namespace Go.Proofs.YthonlcnmjlldiaaGreat.P
open Go.Shelf Go.RowKit Go.Proofs.YthonlcnmjlldiaaGreatW.PrintWords Go.Proofs.YthonlcnmjlldiaaGreatW.PrintLast Go.Proofs.YthonlcnmjlldiaaGreatW.PrintMore
set_option linter.unusedVariables false
set_option linter.unusedSimpArgs false
set_option maxRecDepth 100000 in
theorem roomAny {w2 : World} {A' : Option Addr} {c' ob bo bs : Nat} {l : List Order} {m : Int} {s : Seat} {t1 t2 t3 : TypeId} {B : Option Addr} {c1 : Nat} {q r : Value} (h0 : 0 ≤ m) (h1 : m < 2 ^ l.length)
    (hbo : w2.heap[bo]? = some (.cells #[.pointer (some ⟨ob, 0, none⟩)] t1 (0, 0))) (hob : w2.heap[ob]? = some (.cells #[q, .slice B l.length c1, r] t2 (0, 0))) (hC : Kd.C k72 w2 B l.length l)
    (hbs : w2.heap[bs]? = some (.cells #[.int .i64 s.f0.f0, .int .i64 s.f0.f1, .int .i64 s.f1, .int .i64 s.f2] t3 (0, 0))) (hL : Kd.C (Kd.int .i64) w2 A' (bitsL m).length (bitsL m)) :
    Calls Tryz.prog 104 #[.slice A' (bitsL m).length c', .func (.func 105) #[] #[.pointer (some ⟨bo, 0, none⟩), .pointer (some ⟨bs, 0, none⟩)]] w2 fun e w' => e = .returned (.bool (seatIn l m s)) ∧ Below w2.heap.size w2 w' :=
  idxIntAny.calls (xs := bitsL m) (p := fun i => suitsB (rd_T72 l i) s) (R := fun W W' => Below W.heap.size W W')
    { eg := enters_of Tryz.func105 (by kernel_rfl) rfl, refl := Below.refl _ _, call := fun x W hx hW => by
        have hi := bitsL_lt h1 h0 hx
        have e1 := (hW.block bo (blk_lt hbo)).trans hbo
        have e2 := (hW.block ob (blk_lt hob)).trans hob
        have e3 := (hW.block bs (blk_lt hbs)).trans hbs
        exact (room1_b (W := W) (l := l) (s := s) ((blk_cell e1 0).trans rfl) ((blk_cell e2 1).trans rfl) ((blk_cell e2 0).trans rfl) (Kd.C_below hC hW) ((blk_cell e3 0).trans rfl) ((blk_cell e3 1).trans rfl) ((blk_cell e3 2).trans rfl) ((blk_cell e3 3).trans rfl) x hi.1 hi.2).mono fun e W' ⟨g1, g2⟩ => ⟨g1, below_refl_trans hW g2⟩ }
    (fun W hW => Kd.C_below hL hW)
theorem pow_le9 {n : Nat} (h : n ≤ 9) : (2 : Int) ^ n ≤ 512 := by
  have : 2 ^ n ≤ 2 ^ 9 := Nat.pow_le_pow_right (by omega) h
  have e : (2 : Int) ^ n = ((2 ^ n : Nat) : Int) := by rw [Int.natCast_pow]; rfl
  rw [e]
  exact Int.ofNat_le.2 this
set_option maxHeartbeats 4000000 in
set_option maxRecDepth 100000 in
theorem room_b {w : World} {ob mb : Nat} {k : List Seat} {l : List Order} {m : Int} (hO : Off w ob mb k l) (hk : HoldsOk k) (h9 : l.length ≤ 9) (h0 : 0 ≤ m) (h1 : m < 2 ^ l.length) :
    Calls Tryz.prog 68 #[.pointer (some ⟨ob, 0, none⟩), .int .u64 m] w fun e w' => e = .returned (.int .i64 (roomI k l m)) ∧ Off w' ob mb k l ∧ w.grownBy w' (some mb) := by
  have h512 : m < 512 := Int.lt_of_lt_of_le h1 (pow_le9 h9)
  have HO := Aside0.mk hO
  have hlt := hO.lt
  obtain ⟨A, c0, B, c1, g, hblk, hCk, hck, hCl, hcl, hM, hg⟩ := hO
  have hM1 := hM.below (below_alloc (Below.refl _ _) (.cells #[.pointer (some ⟨ob, 0, none⟩)] 80))
  have hwf : (Lit.int .u64 m).wf = true := wf_u64 h0 (by omega)
  have hlook := hM1.look_ok Tryz.underlying93 Tryz.underlying127 Tryz.underlying3 (Tryz.zeroValue3 _) hwf
  have hb0 := (blk_cell hblk 0).trans rfl
  have hb1 := (blk_cell hblk 1).trans rfl
  have hb2 := (blk_cell hblk 2).trans rfl
  have hu := Tryz.underlying129
  have hu2 := Tryz.underlying70
  have HM := Aside0.mk hM
  have HG := Aside0.mk hg
  have HCk := Aside0.mk hCk
  have HCl := Aside0.mk hCl
  have HB := Aside0.mk hblk
  have HW := Aside0.mk hwf
  have hlk := hk.1
  have HK := Aside0.mk hk
  have HH1 := Aside0.mk h1
  clear hM hM1 hg hCk hCl hblk hwf hk h1
  cases hgm : g m with
  | some y =>
    rw [hgm] at hlook
    have hy := (HG.out m y hgm).2.2
    have HY := Aside0.mk hy
    clear hy hgm
    simp only [Option.getD_some, Option.isSome_some] at hlook
    go_enter Tryz.func68, Tryz.ntmps68
    go_wp2
    go_ret
    exact ⟨by rw [← HY.out]; rfl, HO.out.below (below_alloc (Below.refl _ _) _), grown_of_below (below_alloc (Below.refl _ _) _) _⟩
  | none =>
    rw [hgm] at hlook
    have HGM := Aside0.mk hgm
    clear hgm
    simp only [Option.getD_none, Option.isSome_none] at hlook
    have hlk2 : k.length ≤ 9223372036854775807 := by omega
    go_enter Tryz.func68, Tryz.ntmps68
    go_wp2
    have HL0 := Aside0.mk hlook
    clear hlook
    go_loopg [5, 8, 25] k.length (fun gg s5 s8 s25 wr => ∃ (kk : Nat) (x : Int), kk ≤ k.length ∧ k.length - kk ≤ gg ∧ s25 = .int .i64 kk ∧ s5 = .int .i64 x ∧ 0 ≤ x ∧ x ≤ 24000 ∧ Aside0 (x = roomTo k l m kk) ∧ Aside0 (Below (w.heap.size + 1) (w.alloc (.cells #[.pointer (some ⟨ob, 0, none⟩)] 80)) wr))
    case atStart => exact ⟨0, 0, Nat.zero_le _, by omega, rfl, rfl, by omega, by omega, ⟨by simp [roomTo]⟩, ⟨Below.refl _ _⟩⟩
    case round =>
      obtain ⟨kk, x, hkk, hgk, rfl, rfl, hx0, hx1, HX, HB1⟩ := hrel
      have HBw : Aside0 (Below w.heap.size w wr) := ⟨(below_alloc (Below.refl _ _) _).trans (HB1.out.mono (by omega))⟩
      have hsz : w.heap.size + 1 ≤ wr.heap.size := by have := HB1.out.size; simpa using this
      by_cases hlt2 : kk < k.length
      · have hltz : (kk : Int) < (k.length : Int) := by omega
        have hs : k[kk]? = some (rd_T70 k (kk : Int)) := by simp [rd_T70, List.getD_eq_getElem?_getD, hlt2]
        obtain ⟨ad, rfl, l0', l1, l2, l3⟩ := at_T70 (Kd.C_below HCk.out HBw.out) (kk : Int) (by omega) hltz
        simp only [Int.toNat_natCast] at l0' l1 l2 l3
        have hh := HK.out.2 _ (List.mem_of_getElem? hs)
        have hsc := roomTo_succ (l := l) (m := m) hs
        generalize rd_T70 k (kk : Int) = s at *
        obtain ⟨hh0, hh1⟩ := hh
        have HSC := Aside0.mk hsc
        have hbo := (HB1.out.block w.heap.size (by omega)).trans (heap_alloc_new w _)
        have hob := (HBw.out.block ob hlt.1).trans HB.out
        have HBO := Aside0.mk hbo
        have HOB := Aside0.mk hob
        clear hs hsc hbo hob
        go_wp2_with fail
        refine (list_b h0 h512 _).mono ?_
        rintro e w2 ⟨A', c', rfl, hc', hL, hb2⟩
        have hbs := (hb2.block wr.heap.size (by simp)).trans (heap_alloc_new wr _)
        have HBx := below_then (HB1.out.alloc hsz _) (by simp; omega) hb2
        have hbo2 := (hb2.block w.heap.size (by have := HBw.out.size; have := HB1.out.size; simp; omega)).trans ((Below.heap_alloc _ _ _ (by omega)).trans HBO.out)
        have hob2 := (hb2.block ob (by have := HBw.out.size; simp; omega)).trans ((Below.heap_alloc _ _ _ (by have := HBw.out.size; omega)).trans HOB.out)
        have hCl2 := Kd.C_below HCl.out (below_refl_trans (below_alloc HBw.out _) hb2)
        have hcall := roomAny (s := s) (c' := c') h0 HH1.out hbo2 hob2 hCl2 hbs hL
        have HBX := Aside0.mk HBx
        have HB2 := Aside0.mk hb2
        have HBS := Aside0.mk hbs
        clear hb2 hbo2 hob2 hCl2 hbs hL HBx
        cases hin : seatIn l m s
        all_goals
          rw [hin] at hcall
          have HSC2 := HSC.out
          rw [hin] at HSC2
          have HC3 := Aside0.mk hcall
          have HSC3 := Aside0.mk HSC2
          clear hcall HSC2 hin
          go_wp2_with fail
          refine HC3.out.mono ?_
          rintro e w3 ⟨rfl, hb3⟩
          have HBY := Aside0.mk (HBX.out.trans (hb3.mono (by have := HBX.out.size; simpa using this)))
          have hbs3 := (hb3.block wr.heap.size (blk_lt HBS.out)).trans HBS.out
          have hc2 := (blk_cell hbs3 3).trans rfl
          have HBS3 := Aside0.mk hbs3
          clear hb3 hbs3
          go_wp2
        · go_roundg (k.length - (kk + 1))
          case measure => omega
          case rel => exact ⟨kk + 1, x, by omega, by omega, by go_num, rfl, hx0, hx1, ⟨by rw [HSC3.out, HX.out]; simp⟩, HBY⟩
        · go_roundg (k.length - (kk + 1))
          case measure => omega
          case rel => exact ⟨kk + 1, x + s.f2, by omega, by omega, by go_num, rfl, by omega, by have := roomTo_bd HK.out l m (kk + 1) (by omega); have h5 := HSC3.out; have h6 := HX.out; simp at h5; omega, ⟨by rw [HSC3.out, HX.out]; simp⟩, HBY⟩
      · have hltz : ¬ (kk : Int) < (k.length : Int) := by omega
        have hd1 : decide (kk < k.length) = false := decide_eq_false hlt2
        have hd2 : decide ((kk : Int) < (k.length : Int)) = false := decide_eq_false hltz
        have hge : k.length ≤ kk := by omega
        clear hlt2 hltz
        have hX : x = roomI k l m := by rw [HX.out]; unfold roomI; congr 1; omega
        have HX2 := Aside0.mk hX
        clear hX HX
        have hob := (HBw.out.block ob hlt.1).trans HB.out
        have hb0' := (blk_cell hob 0).trans rfl
        have hb1' := (blk_cell hob 1).trans rfl
        have hb2' := (blk_cell hob 2).trans rfl
        have hbo := (blk_cell ((HB1.out.block w.heap.size (by omega)).trans (heap_alloc_new w _)) 0).trans rfl
        clear hob
        go_wp2_with (at_mapUpdate; refine wpList_store_imap rfl _ _ _ 127 rfl (HM.out.below HBw.out) Tryz.underlying93 Tryz.underlying127 (by unfold maxLen; omega) rfl rfl HW.out rfl (plainElem_int Tryz.underlying3 (wf_i64 (by omega) (by omega))) ?_; intro w2 hm2 hgr2)
        go_ret
        refine ⟨by rw [← HX2.out]; rfl, (HO.out.below HBw.out).store (g := fun z => if z = m then some x else g z) ?_ hm2 hgr2, below_grown' HBw.out hgr2⟩
        intro z y hz
        by_cases e : z = m
        · rw [if_pos e] at hz; cases hz; rw [e]; exact ⟨h0, h512, HX2.out⟩
        · rw [if_neg e] at hz; exact HG.out z y hz
end Go.Proofs.YthonlcnmjlldiaaGreat.P
namespace Go.Proofs.YthonlcnmjlldiaaGreat.P
open Go.Shelf Go.RowKit Go.Proofs.YthonlcnmjlldiaaGreatW.PrintWords Go.Proofs.YthonlcnmjlldiaaGreatW.PrintLast Go.Proofs.YthonlcnmjlldiaaGreatW.PrintMore
set_option linter.unusedVariables false
set_option linter.unusedSimpArgs false
structure Fine (k : List Seat) (l : List Order) : Prop where
  hk : HoldsOk k
  hl : ManyOk l
  h9 : l.length ≤ 9
theorem fine_of {k : List Seat} {l : List Order} (h1 : seatsOk k = true) (h2 : ordersOk l = true) : Fine k l ∧ l.length ≤ 8 := by
  unfold seatsOk at h1
  simp only [Bool.and_eq_true, decide_eq_true_eq, Bool.not_eq_true', List.any_eq_false] at h1
  obtain ⟨h3, h4, _⟩ := (ordersOk_iff l).1 h2
  refine ⟨⟨⟨h1.1, fun s hs => ?_⟩, fun o ho => ?_, by omega⟩, h3⟩
  · have : seatOk s = true := by simpa using h1.2 s hs
    unfold seatOk inB at this
    simp only [Bool.and_eq_true, decide_eq_true_eq] at this
    exact this.2.2
  · have := h4 o ho
    unfold orderOk inB at this
    simp only [Bool.and_eq_true, decide_eq_true_eq] at this
    omega
def crowdB (k : List Seat) (l : List Order) (m : Int) : Bool := decide (roomI k l m < needI l m)
set_option maxHeartbeats 1000000 in
set_option maxRecDepth 100000 in
theorem isCrowd_b {w : World} {ob mb : Nat} {k : List Seat} {l : List Order} {m : Int} (hO : Off w ob mb k l) (hF : Fine k l) (h0 : 0 ≤ m) (h1 : m < 2 ^ l.length) :
    Calls Tryz.prog 54 #[.pointer (some ⟨ob, 0, none⟩), .int .u64 m] w fun e w' => e = .returned (.bool (crowdB k l m)) ∧ Off w' ob mb k l ∧ w.grownBy w' (some mb) := by
  have h512 : m < 512 := Int.lt_of_lt_of_le h1 (pow_le9 hF.h9)
  have HO := Aside0.mk hO
  have HF := Aside0.mk hF
  have H1 := Aside0.mk h1
  obtain ⟨A, c0, B, c1, g, hblk, hCk, hck, hCl, hcl, hM, hg⟩ := hO
  have hn := need_b (m := m) hF.hl hF.h9 h0 h512 hCl hcl
  have HE := Aside0.mk (show crowdB k l m = decide (roomI k l m < needI l m) from rfl)
  have hb0 := (blk_cell hblk 0).trans rfl
  have hb1 := (blk_cell hblk 1).trans rfl
  have hu := Tryz.underlying129
  have HN := Aside0.mk hn
  clear hn hF hM hg hCk hCl hblk h1
  generalize crowdB k l m = r at *
  go_enter Tryz.func54, Tryz.ntmps54
  go_wp2_with fail
  refine HN.out.mono ?_
  rintro e w2 ⟨rfl, hb⟩
  have HB := Aside0.mk hb
  clear hb
  go_wp2_with fail
  refine (room_b (HO.out.below HB.out) HF.out.hk HF.out.h9 h0 H1.out).mono ?_
  rintro e w3 ⟨rfl, hO3, hg3⟩
  have HO3 := Aside0.mk hO3
  have HG3 := Aside0.mk hg3
  clear hO3 hg3
  go_wp2
  go_ret
  exact ⟨congrArg (fun z => Ending.returned (.bool z)) HE.out.symm, HO3.out, below_grown' HB.out HG3.out⟩
def allI (l : List Order) : Int := 2 ^ l.length - 1
theorem all_small : ∀ n : Fin 10, (IntKind.u64.wrap (IntKind.u64.wrap (2 ^ n.val) - 1) : Int) = 2 ^ n.val - 1 := by decide
set_option maxHeartbeats 1000000 in
set_option maxRecDepth 100000 in
theorem all_b {w : World} {ob mb : Nat} {k : List Seat} {l : List Order} (hO : Off w ob mb k l) (hF : Fine k l) :
    Calls Tryz.prog 62 #[.pointer (some ⟨ob, 0, none⟩)] w fun e w' => e = .returned (.int .u64 (allI l)) ∧ w' = w := by
  have h9 := hF.h9
  obtain ⟨A, c0, B, c1, g, hblk, hCk, hck, hCl, hcl, hM, hg⟩ := hO
  have hb0 := (blk_cell hblk 0).trans rfl
  have hb1 := (blk_cell hblk 1).trans rfl
  have hu := Tryz.underlying129
  have HA := Aside0.mk (all_small ⟨l.length, by omega⟩)
  clear hM hg hCk hCl hblk hF
  go_enter Tryz.func62, Tryz.ntmps62
  go_wp2
  go_ret
  exact ⟨congrArg (fun z => Ending.returned (.int .u64 z)) HA.out, rfl⟩
theorem Off.made {w : World} {A B : Option Addr} {c0 c1 : Nat} {k : List Seat} {l : List Order} (h2 : Kd.C k70 w A k.length k) (h3 : k.length ≤ c0) (h4 : Kd.C k72 w B l.length l) (h5 : l.length ≤ c1) :
    Off ((w.alloc (.map #[] 0)).alloc (.cells #[.slice A k.length c0, .slice B l.length c1, .map (some w.heap.size)] 129)) (w.heap.size + 1) w.heap.size k l := by
  have hb : Below w.heap.size w ((w.alloc (.map #[] 0)).alloc (.cells #[.slice A k.length c0, .slice B l.length c1, .map (some w.heap.size)] 129)) := (below_alloc (Below.refl _ _) _).alloc (by simp) _
  refine ⟨A, c0, B, c1, fun _ => none, by simpa using heap_alloc_new (w.alloc (.map #[] 0)) _, Kd.C_below h2 hb, h3, Kd.C_below h4 hb, h5, ((IMap.made w).mono (by omega)).below (below_alloc (Below.refl _ _) _), fun x y h => by cases h⟩
def askErr (k : List Seat) (l : List Order) : Int := if seatsOk k then (if ordersOk l then 0 else 60) else 61
set_option maxHeartbeats 1000000 in
set_option maxRecDepth 100000 in
theorem asked_ok {w : World} {A B : Option Addr} {c0 c1 : Nat} {k : List Seat} {l : List Order} (hr0 : Kd.C k70 w A k.length k) (hc0 : k.length ≤ c0) (hr1 : Kd.C k72 w B l.length l) (hc1 : l.length ≤ c1) (h1 : seatsOk k = true) (h2 : ordersOk l = true) :
    Calls Tryz.prog 42 #[.slice A k.length c0, .slice B l.length c1] w fun e w' => ∃ ob mb, e = .returned (.tuple #[.pointer (some ⟨ob, 0, none⟩), .int .i64 0]) ∧ Off w' ob mb k l ∧ Below w.heap.size w w' ∧ w.heap.size ≤ ob ∧ w.heap.size ≤ mb := by
  have hs := plan_CheckSeats.calls A c0 k 0 w hr0 hc0 (by unfold plan_CheckSeats.f; rw [h1]; rfl)
  have ho := fun w2 (hb : Below w.heap.size w w2) => plan_CheckOrders.calls B c1 l 0 w2 (Kd.C_below hr1 hb) hc1 (by unfold plan_CheckOrders.f; rw [h2]; rfl)
  have hmm := @run_makeMap Tryz.prog
  have hu := Tryz.underlying129
  have HR0 := Aside0.mk hr0
  have HR1 := Aside0.mk hr1
  have HS := Aside0.mk hs
  have HO := Aside0.mk ho
  clear hs ho hr0 hr1 h1 h2
  go_enter Tryz.func42, Tryz.ntmps42
  go_wp2_with fail
  refine HS.out.mono ?_
  rintro e w2 ⟨rfl, hb⟩
  have HB := Aside0.mk hb
  clear hb
  go_wp2_with fail
  refine (HO.out _ HB.out).mono ?_
  rintro e w3 ⟨rfl, hb⟩
  have HB3 := Aside0.mk (below_refl_trans HB.out hb)
  clear hb
  go_wp2
  go_ret2
  have hsz := HB3.out.size
  exact ⟨_, _, rfl, Off.made (Kd.C_below HR0.out HB3.out) hc0 (Kd.C_below HR1.out HB3.out) hc1, (below_alloc HB3.out _).alloc (by simp; omega) _, by omega, hsz⟩
set_option maxHeartbeats 1000000 in
set_option maxRecDepth 100000 in
theorem asked_no {w : World} {A B : Option Addr} {c0 c1 : Nat} {k : List Seat} {l : List Order} (hr0 : Kd.C k70 w A k.length k) (hc0 : k.length ≤ c0) (hr1 : Kd.C k72 w B l.length l) (hc1 : l.length ≤ c1) (h : askErr k l ≠ 0) :
    Calls Tryz.prog 42 #[.slice A k.length c0, .slice B l.length c1] w fun e w' => e = .returned (.tuple #[.pointer none, .int .i64 (askErr k l)]) ∧ Below w.heap.size w w' := by
  unfold askErr at *
  cases h1 : seatsOk k
  · have hs := plan_CheckSeats.calls A c0 k 61 w hr0 hc0 (by unfold plan_CheckSeats.f; rw [h1]; rfl)
    simp only [Bool.false_eq_true, if_false]
    have HS := Aside0.mk hs
    clear hs hr0 hr1 h h1
    go_enter Tryz.func42, Tryz.ntmps42
    go_wp2_with fail
    refine HS.out.mono ?_
    rintro e w2 ⟨rfl, hb⟩
    have HB := Aside0.mk hb
    clear hb
    go_wp2
    go_ret2
    exact ⟨rfl, HB.out⟩
  · rw [h1] at h
    cases h2 : ordersOk l
    · have hs := plan_CheckSeats.calls A c0 k 0 w hr0 hc0 (by unfold plan_CheckSeats.f; rw [h1]; rfl)
      have ho := fun w2 (hb : Below w.heap.size w w2) => plan_CheckOrders.calls B c1 l 60 w2 (Kd.C_below hr1 hb) hc1 (by unfold plan_CheckOrders.f; rw [h2]; rfl)
      simp only [Bool.false_eq_true, if_false, if_true]
      have HS := Aside0.mk hs
      have HO := Aside0.mk ho
      clear hs ho hr0 hr1 h h1 h2
      go_enter Tryz.func42, Tryz.ntmps42
      go_wp2_with fail
      refine HS.out.mono ?_
      rintro e w2 ⟨rfl, hb⟩
      have HB := Aside0.mk hb
      clear hb
      go_wp2_with fail
      refine (HO.out _ HB.out).mono ?_
      rintro e w3 ⟨rfl, hb⟩
      have HB3 := Aside0.mk (below_refl_trans HB.out hb)
      clear hb
      go_wp2
      go_ret2
      exact ⟨rfl, HB3.out⟩
    · rw [h2] at h
      simp at h
end Go.Proofs.YthonlcnmjlldiaaGreat.P
namespace Go.Proofs.YthonlcnmjlldiaaGreat.P
open Go.Shelf Go.RowKit Go.Proofs.YthonlcnmjlldiaaGreatW.PrintWords Go.Proofs.YthonlcnmjlldiaaGreatW.PrintLast Go.Proofs.YthonlcnmjlldiaaGreatW.PrintMore
set_option linter.unusedVariables false
set_option linter.unusedSimpArgs false
def setFrom (n : Nat) : Int → List Int → Bool
  | _, [] => true
  | p, x :: xs => decide (0 ≤ x ∧ x < n ∧ p < x) && setFrom n x xs
def setOk (n : Nat) (s : List Int) : Bool := setFrom n (-1) s
def maskOf (s : List Int) : Nat := s.foldl (fun a x => a ||| 2 ^ x.toNat) 0
theorem maskOf_snoc (s : List Int) (x : Int) : maskOf (s ++ [x]) = maskOf s ||| 2 ^ x.toNat := by simp [maskOf, List.foldl_append]
theorem maskOf_lt {n : Nat} (s : List Int) (h : ∀ x ∈ s, 0 ≤ x ∧ x < n) : maskOf s < 2 ^ n := by
  unfold maskOf
  suffices ∀ (s : List Int) (a : Nat), a < 2 ^ n → (∀ x ∈ s, 0 ≤ x ∧ x < n) → s.foldl (fun a x => a ||| 2 ^ x.toNat) a < 2 ^ n from this s 0 (Nat.two_pow_pos n) h
  intro s
  induction s with
  | nil => intro a ha _; exact ha
  | cons x xs ih =>
    intro a ha h
    have hx := h x (by simp)
    exact ih _ (Nat.or_lt_two_pow ha (Nat.pow_lt_pow_right (by omega) (by omega))) (fun y hy => h y (by simp [hy]))
theorem setFrom_mem {n : Nat} {s : List Int} : ∀ {p : Int}, setFrom n p s = true → ∀ x ∈ s, 0 ≤ x ∧ x < n := by
  induction s with
  | nil => intro p _ x hx; cases hx
  | cons y ys ih =>
    intro p h x hx
    simp only [setFrom, Bool.and_eq_true, decide_eq_true_eq] at h
    rcases List.mem_cons.1 hx with rfl | hx
    · exact ⟨h.1.1, h.1.2.1⟩
    · exact ih h.2 x hx
def setI (n : Nat) (s : List Int) : Int × Int := if setOk n s then ((maskOf s : Int), 0) else (0, 62)
theorem or_all : ∀ a : Fin 512, ∀ x : Fin 9, Go.bits .or .u64 (a.val : Int) (shl .u64 1 (x.val : Int)) = ((a.val ||| 2 ^ x.val : Nat) : Int) := by decide +kernel
theorem or_some {a : Nat} {x : Int} (h : a < 512) (h0 : 0 ≤ x) (h1 : x < 9) : Go.bits .or .u64 (a : Int) (shl .u64 1 x) = ((a ||| 2 ^ x.toNat : Nat) : Int) := by
  have := or_all ⟨a, h⟩ ⟨x.toNat, by omega⟩
  simpa [Int.toNat_of_nonneg h0] using this
def lastI (s : List Int) : Int := s.getLastD (-1)
theorem rd_mid (pre : List Int) (x : Int) (xs : List Int) : rd (pre ++ x :: xs) (pre.length : Int) = x := by simp [rd, List.getD_eq_getElem?_getD]
theorem set_loop {n : Nat} (hn : n ≤ 9) (s : List Int) (hs : s.length ≤ 9223372036854775807) : ∀ (suf pre : List Int) (k : Nat), s = pre ++ suf → (∀ x ∈ pre, 0 ≤ x ∧ x < n) → suf.length < k →
    plan_set.l0 k (n : Int) s (maskOf pre : Int) s (s.length : Int) (pre.length : Int) = some (if setFrom n (lastI pre) suf then ((maskOf s : Int), 0) else (0, 62)) := by
  intro suf
  induction suf with
  | nil =>
    intro pre k he hp hk
    obtain ⟨k, rfl⟩ : ∃ m, k = m + 1 := ⟨k - 1, by omega⟩
    simp only [plan_set.l0]
    have e : s = pre := by simpa using he
    subst e
    rw [if_neg (by omega)]
    simp [setFrom]
  | cons x xs ih =>
    intro pre k he hp hk
    obtain ⟨k, rfl⟩ : ∃ m, k = m + 1 := ⟨k - 1, by omega⟩
    have hl : s.length = pre.length + (xs.length + 1) := by rw [he]; simp
    have hr : rd s (pre.length : Int) = x := by rw [he]; exact rd_mid pre x xs
    simp only [plan_set.l0]
    rw [if_pos (by omega), if_pos (by omega), if_pos (by omega), hr]
    have hr := Aside0.mk hr
    have hw1 : wrap64 ((n : Int) - 1) = (n : Int) - 1 := by unfold wrap64; omega
    rw [hw1]
    have hw : plan_isWithin.f x 0 ((n : Int) - 1) = some (decide (0 ≤ x ∧ x < n)) := by
      unfold plan_isWithin.f
      by_cases h : 0 ≤ x
      · simp [h]; omega
      · simp [h]
    rw [hw]
    simp only [Option.bind_some, setFrom]
    by_cases h : 0 ≤ x ∧ x < n
    · rw [decide_eq_true h]
      simp only [if_true]
      have hmlt : maskOf pre < 512 := Nat.lt_of_lt_of_le (maskOf_lt pre hp) (by have := Nat.pow_le_pow_right (n := 2) (by omega) hn; omega)
      have hp2 : ∀ y ∈ pre ++ [x], 0 ≤ y ∧ y < n := by
        intro y hy
        rcases List.mem_append.1 hy with hy | hy
        · exact hp y hy
        · simp at hy; subst hy; exact h
      have hih := ih (pre ++ [x]) k (by rw [he]; simp) hp2 (by simp at hk; omega)
      rw [show lastI (pre ++ [x]) = x by simp [lastI, List.getLastD_eq_getLast?], maskOf_snoc, show ((pre ++ [x]).length : Int) = (pre.length : Int) + 1 by simp] at hih
      have hih := Aside0.mk hih
      have hwp : wrap64 ((pre.length : Int) + 1) = (pre.length : Int) + 1 := by unfold wrap64; omega
      have hor := Aside0.mk (or_some hmlt h.1 (by omega))
      clear hmlt
      by_cases hz : 0 < pre.length
      · have hzz : (pre.length : Int) > 0 := Int.natCast_pos.2 hz
        have hwm : wrap64 ((pre.length : Int) - 1) = (pre.length : Int) - 1 := by unfold wrap64; omega
        rw [if_pos hzz, hwm, if_pos (by omega), if_pos (by omega)]
        have hprev : rd s ((pre.length : Int) - 1) = lastI pre := by
          rw [he]
          unfold rd lastI
          rw [List.getLastD_eq_getLast?, List.getLast?_eq_getElem?, List.getD_eq_getElem?_getD]
          rw [show ((pre.length : Int) - 1).toNat = pre.length - 1 by omega, List.getElem?_append_left (by omega)]
          rw [List.getElem?_eq_getElem (by omega)]
          rfl
        rw [hprev]
        by_cases hlt : lastI pre < x
        · rw [if_neg (by omega), if_pos h.1, hor.out, hwp, hih.out]
          simp [h, hlt]
        · rw [if_pos (by omega)]
          simp [hlt]
      · have e : pre = [] := List.eq_nil_of_length_eq_zero (by omega)
        subst e
        rw [if_neg (by simp), if_pos h.1, hor.out, hwp, hih.out]
        have : lastI [] < x := by simp [lastI]; omega
        simp [h, this]
    · rw [decide_eq_false h]
      simp
      intro h1 h2
      exact absurd ⟨h1, h2⟩ h
theorem set_some {n : Nat} (hn : n ≤ 9) (s : List Int) (hs : s.length ≤ 9223372036854775807) : plan_set.f (s.length + 1) (n : Int) s = some (setI n s) := by
  have := set_loop hn s hs s [] (s.length + 1) (by simp) (by simp) (by omega)
  exact this
end Go.Proofs.YthonlcnmjlldiaaGreat.P
namespace Go.Proofs.YthonlcnmjlldiaaGreat.P
open Go.Shelf Go.RowKit Go.Proofs.YthonlcnmjlldiaaGreatW.PrintWords Go.Proofs.YthonlcnmjlldiaaGreatW.PrintLast Go.Proofs.YthonlcnmjlldiaaGreatW.PrintMore
set_option linter.unusedVariables false
set_option linter.unusedSimpArgs false
def potbankref06_IsSet.f (l0 : List Order) (l1 : List Int) : Option Bool := some (setOk l0.length l1)
def prevI (s : List Int) (k : Nat) : Int := if k = 0 then -1 else rd s ((k : Int) - 1)
theorem drop_rd {s : List Int} {k : Nat} (h : k < s.length) : s.drop k = rd s (k : Int) :: s.drop (k + 1) := by
  rw [List.drop_eq_getElem_cons h]
  congr 1
  simp [rd, h]
theorem In_f (x hi : Int) : potbankref06_In.f x 0 hi = some (decide (0 ≤ x ∧ x ≤ hi)) := by
  unfold potbankref06_In.f
  by_cases h : x ≥ 0
  · rw [if_pos h]; simp; omega
  · rw [if_neg h]; simp; omega
theorem quiet_drawn {P : Program} {f : FuncId} {args : Array Value} {w : World} {n : Nat} {v : Value} (h : Calls P f args (w.drewN n) fun e w' => e = .returned v ∧ Drawn0 (w.drewN n) w') : Calls P f args (w.drewN n) fun e w'' => e = .returned v ∧ ∃ m, w'' = w.drewN m :=
  Calls.quiet_of (h.mono fun _ _ ⟨a, b⟩ => ⟨a, b.out⟩)
set_option maxHeartbeats 2000000 in
set_option maxRecDepth 100000 in
theorem potbankref06_IsSet.calls (A0 : Option Addr) (c0 : Nat) (l0 : List Order) (A1 : Option Addr) (c1 : Nat) (l1 : List Int) (r : Bool) (w : World) (hr0 : Kd.C k72 w A0 l0.length l0) (hc0 : l0.length ≤ c0) (hr1 : Kd.C (Kd.int .i64) w A1 l1.length l1) (hc1 : l1.length ≤ c1) (h : potbankref06_IsSet.f l0 l1 = some r) :
    Calls Tryz.prog 56 #[.slice A0 l0.length c0, .slice A1 l1.length c1] w fun e w' => e = .returned (.bool r) ∧ Below w.heap.size w w' := by
  have HE := Aside0.mk (Option.some.inj h)
  have hlen := hr1.2.1
  have hlen0 := hr0.2.1
  obtain ⟨n, hn⟩ : ∃ n, n = l0.length := ⟨_, rfl⟩
  rw [← hn] at HE hlen0 ⊢
  have HR := Aside0.mk hr1
  have hmix : Tryz.prog.follows .mixedOrders = true := by kernel_rfl
  clear h hr0 hr1 hn hc0
  have hnn : IntKind.i64.wrap ((n : Int) - 1) = (n : Int) - 1 := by rw [IntKind.wrap_i64]; omega
  have hnn2 : wrap64 ((n : Int) - 1) = (n : Int) - 1 := by unfold wrap64; omega
  go_enter Tryz.func56, Tryz.ntmps56
  go_wp2
  go_loopg [5] l1.length (fun gg s5 wr => ∃ kk : Nat, kk ≤ l1.length ∧ l1.length - kk ≤ gg ∧ s5 = .int .i64 (kk : Int) ∧ Aside0 (Below w.heap.size w wr) ∧ Aside0 (setFrom n (prevI l1 kk) (l1.drop kk) = r))
  case atStart => exact ⟨0, Nat.zero_le _, by omega, rfl, ⟨Below.refl _ _⟩, HE⟩
  case round =>
    clear HE
    obtain ⟨kk, hkk, hg, rfl, HB, HS⟩ := hrel
    by_cases hlt : kk < l1.length
    · have hltz : (kk : Int) < (l1.length : Int) := by omega
      have hdr := drop_rd hlt
      obtain ⟨ad, rfl, q0⟩ := Kd.at_int (Kd.C_below HR.out HB.out) (kk : Int) (by omega) hltz
      simp only [Int.toNat_natCast] at q0
      have hs := HS.out
      rw [hdr] at hs
      have hIn := fun V => potbankref06_In.calls (rd l1 (kk : Int)) 0 ((n : Int) - 1) _ V (In_f _ _)
      have hpv : prevI l1 (kk + 1) = rd l1 (kk : Int) := by unfold prevI; rw [if_neg (by omega)]; congr 1; omega
      have hp0 : kk ≠ 0 → prevI l1 kk = rd l1 ((kk : Int) - 1) := fun h => by unfold prevI; rw [if_neg h]
      have hp1 : kk = 0 → prevI l1 kk = -1 := fun h => by unfold prevI; rw [if_pos h]
      have hq1 : kk ≠ 0 → (∃ W1 : World, W1 = wr) → wr.cell? (ad.add (kk - 1)) = some (.int .i64 (rd l1 ((kk : Int) - 1))) := fun h _ => by
        obtain ⟨ad2, e, q1⟩ := Kd.at_int (Kd.C_below HR.out HB.out) ((kk : Int) - 1) (by omega) (by omega)
        injection e with e
        subst e
        rw [show ((kk : Int) - 1).toNat = kk - 1 by omega] at q1
        exact q1
      simp only [setFrom] at hs
      generalize rd l1 (kk : Int) = x at *
      generalize rd l1 ((kk : Int) - 1) = y at *
      generalize prevI l1 kk = pv at *
      have HIN := Aside0.mk hIn
      have HPV := Aside0.mk hpv
      clear HS hdr hIn hpv
      by_cases hin : 0 ≤ x ∧ x ≤ (n : Int) - 1
      · have hd : decide (0 ≤ x ∧ x ≤ (n : Int) - 1) = true := decide_eq_true hin
        rw [hd] at HIN
        clear hd
        by_cases hz : kk = 0
        · have hz1 : decide ((kk : Int) > 0) = false := decide_eq_false (by omega)
          have hz2 : decide (0 < kk) = false := decide_eq_false (by omega)
          have hpx := hp1 hz
          subst hpx
          have hok : (decide (0 ≤ x ∧ x < (n : Int) ∧ -1 < x)) = true := decide_eq_true (by omega)
          rw [hok, Bool.true_and] at hs
          have HS2 := Aside0.mk hs
          clear hp0 hp1 hq1 hs hok hin
          subst hz
          have q0' : wr.cell? ad = some (.int .i64 x) := q0
          clear q0
          go_wp2_with fail
          go_quiet ((go_at_call 48; exact quiet_drawn (HIN.out _)))
          go_wp2
          go_roundg (l1.length - 1)
          case measure => omega
          case rel => exact ⟨0 + 1, by omega, by omega, by go_num, ⟨pw_below_drewN HB.out _⟩, ⟨by rw [HPV.out]; exact HS2.out⟩⟩
        · have hz1 : decide ((kk : Int) > 0) = true := decide_eq_true (by omega)
          have hz2 : decide (0 < kk) = true := decide_eq_true (by omega)
          have hpx := hp0 hz
          subst hpx
          have q1 := hq1 hz ⟨_, rfl⟩
          have hkw : wrap64 ((kk : Int) - 1) = (kk : Int) - 1 := by unfold wrap64; omega
          have hkw2 : IntKind.i64.wrap ((kk : Int) - 1) = (kk : Int) - 1 := by rw [IntKind.wrap_i64]; omega
          have hkt : ((kk : Int) - 1).toNat = kk - 1 := by omega
          have hk0 : 0 ≤ (kk : Int) - 1 := by omega
          have hk1 : (kk : Int) - 1 < (l1.length : Int) := by omega
          have hk2 : kk - 1 < l1.length := by omega
          by_cases hyx : pv < x
          · have hok : (decide (0 ≤ x ∧ x < (n : Int) ∧ pv < x)) = true := decide_eq_true (by omega)
            rw [hok, Bool.true_and] at hs
            have hge : decide (pv ≥ x) = false := decide_eq_false (by omega)
            have hge2 : decide (x ≤ pv) = false := decide_eq_false (by omega)
            have HS2 := Aside0.mk hs
            clear hp0 hp1 hq1 hs hok hz
            go_wp2_with fail
            go_quiet ((go_at_call 48; exact quiet_drawn (HIN.out _)))
            go_wp2
            go_roundg (l1.length - (kk + 1))
            case measure => omega
            case rel => exact ⟨kk + 1, by omega, by omega, by go_num, ⟨pw_below_drewN HB.out _⟩, ⟨by rw [HPV.out]; exact HS2.out⟩⟩
          · have hok : (decide (0 ≤ x ∧ x < (n : Int) ∧ pv < x)) = false := decide_eq_false (by omega)
            rw [hok, Bool.false_and] at hs
            have hge : decide (pv ≥ x) = true := decide_eq_true (by omega)
            have hge2 : decide (x ≤ pv) = true := decide_eq_true (by omega)
            have HS2 := Aside0.mk hs
            clear hp0 hp1 hq1 hs hok hz
            go_wp2_with fail
            go_quiet ((go_at_call 48; exact quiet_drawn (HIN.out _)))
            go_wp2
            go_ret
            exact ⟨by rw [← HS2.out]; rfl, pw_below_drewN HB.out _⟩
      · have hd : decide (0 ≤ x ∧ x ≤ (n : Int) - 1) = false := decide_eq_false hin
        rw [hd] at HIN
        have hok : (decide (0 ≤ x ∧ x < (n : Int) ∧ pv < x)) = false := decide_eq_false (by omega)
        rw [hok, Bool.false_and] at hs
        have HS2 := Aside0.mk hs
        clear hp0 hp1 hq1 hs hok hd hin
        go_wp2_with fail
        go_quiet ((go_at_call 48; exact quiet_drawn (HIN.out _)))
        go_wp2
        go_ret
        exact ⟨by rw [← HS2.out]; rfl, pw_below_drewN HB.out _⟩
    · have hltz : ¬ (kk : Int) < (l1.length : Int) := by omega
      have hd1 : decide (kk < l1.length) = false := decide_eq_false hlt
      have hd2 : decide ((kk : Int) < (l1.length : Int)) = false := decide_eq_false hltz
      have hs := HS.out
      rw [List.drop_eq_nil_iff.2 (by omega)] at hs
      have HS2 := Aside0.mk (show true = r from hs)
      clear hs hlt hltz
      go_wp2
      go_ret
      exact ⟨by rw [← HS2.out]; rfl, HB.out⟩
end Go.Proofs.YthonlcnmjlldiaaGreat.P
namespace Go.Proofs.YthonlcnmjlldiaaGreat.P
open Go.RowKit Go.Proofs.YthonlcnmjlldiaaGreatW.PrintWords Go.Proofs.YthonlcnmjlldiaaGreatW.PrintLast Go.Proofs.YthonlcnmjlldiaaGreatW.PrintMore
attribute [local go_sem] max2_int min2_int max_two min_two max_three min_three max_four min_four
set_option linter.unusedVariables false
set_option linter.unusedSimpArgs false
def potbankref06_checked.f (k : Nat) (l0 : List (S70)) (l1 : List (S72)) (l2 : List Int) : Option (Int) := (potbankref06_CheckSeats.f k l0).bind fun t173 => (if t173 = 0 then ((potbankref06_CheckOrders.f k l1).bind fun t174 => (if t174 = 0 then ((potbankref06_IsSet.f l1 l2).bind fun t175 => (if t175 = true then (some 0) else (some 62))) else (some 60))) else (some 61))
set_option maxHeartbeats 8000000 in
set_option maxRecDepth 100000 in
theorem potbankref06_checked.calls (k : Nat) (A0 : Option Addr) (c0 : Nat) (l0 : List (S70)) (A1 : Option Addr) (c1 : Nat) (l1 : List (S72)) (A2 : Option Addr) (c2 : Nat) (l2 : List Int) (r : Int) (w : World) (hr0 : Kd.C k70 w A0 l0.length l0) (hc0 : l0.length ≤ c0) (hr1 : Kd.C k72 w A1 l1.length l1) (hc1 : l1.length ≤ c1) (hr2 : Kd.C (Kd.int .i64) w A2 l2.length l2) (hc2 : l2.length ≤ c2) (h : potbankref06_checked.f k l0 l1 l2 = some r) :
    Calls Tryz.prog 47 #[.slice A0 l0.length c0, .slice A1 l1.length c1, .slice A2 l2.length c2] w fun e w' => e = .returned (.int .i64 r) ∧ Below w.heap.size w w' := by
  have HR0 := Aside0.mk hr0
  have HC0 := Aside0.mk hc0
  clear hr0 hc0
  have HR1 := Aside0.mk hr1
  have HC1 := Aside0.mk hc1
  clear hr1 hc1
  have HR2 := Aside0.mk hr2
  have HC2 := Aside0.mk hc2
  clear hr2 hc2
  have HB := Aside0.mk (Below.refl w.heap.size w)
  have H : ((potbankref06_CheckSeats.f k l0).bind fun t173 => (if t173 = 0 then ((potbankref06_CheckOrders.f k l1).bind fun t174 => (if t174 = 0 then ((potbankref06_IsSet.f l1 l2).bind fun t175 => (if t175 = true then (some 0) else (some 62))) else (some 60))) else (some 61))) = some r := h
  clear h
  replace H := Option.bind_eq_some_iff.mp H
  obtain ⟨t173, A40, H⟩ := H
  replace H : (if t173 = 0 then ((potbankref06_CheckOrders.f k l1).bind fun t174 => (if t174 = 0 then ((potbankref06_IsSet.f l1 l2).bind fun t175 => (if t175 = true then (some 0) else (some 62))) else (some 60))) else (some 61)) = some r := H
  have A4 := Aside0.mk A40
  clear A40
  by_cases c5 : t173 = 0
  · rw [if_pos c5] at H
    have c5b0 : (t173 == 0) = true := beq_iff_eq.mpr c5
    have c5b1 : (t173 != 0) = false := bne_eq_false_iff_eq.mpr c5
    clear c5
    replace H := Option.bind_eq_some_iff.mp H
    obtain ⟨t174, A60, H⟩ := H
    replace H : (if t174 = 0 then ((potbankref06_IsSet.f l1 l2).bind fun t175 => (if t175 = true then (some 0) else (some 62))) else (some 60)) = some r := H
    have A6 := Aside0.mk A60
    clear A60
    by_cases c7 : t174 = 0
    · rw [if_pos c7] at H
      have c7b0 : (t174 == 0) = true := beq_iff_eq.mpr c7
      have c7b1 : (t174 != 0) = false := bne_eq_false_iff_eq.mpr c7
      clear c7
      replace H := Option.bind_eq_some_iff.mp H
      obtain ⟨t175, A80, H⟩ := H
      replace H : (if t175 = true then (some 0) else (some 62)) = some r := H
      have A8 := Aside0.mk A80
      clear A80
      by_cases c9 : t175 = true
      · subst c9
        have H1 : (some 0) = some r := by rw [if_pos rfl] at H; exact H
        clear H
        have H := H1
        clear H1
        obtain rfl := Option.some.inj H
        go_enter Tryz.func47, Tryz.ntmps47
        go_wp2_with (first | ((with_reducible refine gate_callee (f := 94) rfl ?_); refine goesL_ (some 8) rfl rfl Tryz.func94 (by kernel_rfl) rfl #[.slice A0 l0.length c0] rfl (by (try simp only [List.map_toArray, List.map_cons, List.map_nil]); first | done | rfl | (simp only [List.length_drop, List.length_take]; rfl)) ?_; (with_reducible refine (potbankref06_CheckSeats.calls k _ _ l0 t173 _ ?side1 ?side2 A4.out).mono ?_); (case side1 => repeat (first | exact HR0.out | (with_reducible refine Kd.C_alloc ?_ _) | (with_reducible refine Kd.C_drewN ?_ _) | (with_reducible refine Kd.C_drew ?_))); (case side2 => exact HC0.out); rintro e w10 ⟨rfl, hb⟩; refine ⟨_, rfl, ?_⟩; have n0_ := Aside0.mk (below_step (by repeat (first | (with_reducible first | exact HB.out | apply below_alloc | apply pw_below_drewN | apply below_drew1) | exact HB.out)) hb); clear HB; have HB := n0_; clear n0_; (try clear hb); (try clear hb2); (try clear hk); (try clear hi)) | ((with_reducible refine gate_callee (f := 95) rfl ?_); refine goesL_ (some 11) rfl rfl Tryz.func95 (by kernel_rfl) rfl #[.slice A1 l1.length c1] rfl (by (try simp only [List.map_toArray, List.map_cons, List.map_nil]); first | done | rfl | (simp only [List.length_drop, List.length_take]; rfl)) ?_; (with_reducible refine (potbankref06_CheckOrders.calls k _ _ l1 t174 _ ?side1 ?side2 A6.out).mono ?_); (case side1 => repeat (first | exact (Kd.C_below HR1.out HB.out) | (with_reducible refine Kd.C_alloc ?_ _) | (with_reducible refine Kd.C_drewN ?_ _) | (with_reducible refine Kd.C_drew ?_))); (case side2 => exact HC1.out); rintro e w11 ⟨rfl, hb⟩; refine ⟨_, rfl, ?_⟩; have n0_ := Aside0.mk (below_step (by repeat (first | (with_reducible first | exact HB.out | apply below_alloc | apply pw_below_drewN | apply below_drew1) | exact HB.out)) hb); clear HB; have HB := n0_; clear n0_; (try clear hb); (try clear hb2); (try clear hk); (try clear hi)) | ((with_reducible refine gate_callee (f := 56) rfl ?_); refine goesL_ (some 15) rfl rfl Tryz.func56 (by kernel_rfl) rfl #[.slice A1 l1.length c1, .slice A2 l2.length c2] rfl (by (try simp only [List.map_toArray, List.map_cons, List.map_nil]); first | done | rfl | (simp only [List.length_drop, List.length_take]; rfl)) ?_; (with_reducible refine (potbankref06_IsSet.calls _ _ l1 _ _ l2 true _ ?side1 ?side2 ?side3 ?side4 A8.out).mono ?_); (case side1 => repeat (first | exact (Kd.C_below HR1.out HB.out) | (with_reducible refine Kd.C_alloc ?_ _) | (with_reducible refine Kd.C_drewN ?_ _) | (with_reducible refine Kd.C_drew ?_))); (case side2 => exact HC1.out); (case side3 => repeat (first | exact (Kd.C_below HR2.out HB.out) | (with_reducible refine Kd.C_alloc ?_ _) | (with_reducible refine Kd.C_drewN ?_ _) | (with_reducible refine Kd.C_drew ?_))); (case side4 => exact HC2.out); rintro e w12 ⟨rfl, hb⟩; refine ⟨_, rfl, ?_⟩; have n0_ := Aside0.mk (below_step (by repeat (first | (with_reducible first | exact HB.out | apply below_alloc | apply pw_below_drewN | apply below_drew1) | exact HB.out)) hb); clear HB; have HB := n0_; clear n0_; (try clear hb); (try clear hb2); (try clear hk); (try clear hi)))
        go_ret
        exact ⟨by first | rfl | (simp [errW_none, errW_some] <;> rfl) | (simp [*, errW_none, errW_some] <;> rfl), by repeat (first | (with_reducible first | exact HB.out | apply below_alloc | apply pw_below_drewN | apply below_drew1) | exact HB.out)⟩
      · replace c9 := Bool.eq_false_iff.mpr c9
        subst c9
        have H1 : (some 62) = some r := by rw [if_neg (show ¬ (false = true) by decide)] at H; exact H
        clear H
        have H := H1
        clear H1
        obtain rfl := Option.some.inj H
        go_enter Tryz.func47, Tryz.ntmps47
        go_wp2_with (first | ((with_reducible refine gate_callee (f := 94) rfl ?_); refine goesL_ (some 8) rfl rfl Tryz.func94 (by kernel_rfl) rfl #[.slice A0 l0.length c0] rfl (by (try simp only [List.map_toArray, List.map_cons, List.map_nil]); first | done | rfl | (simp only [List.length_drop, List.length_take]; rfl)) ?_; (with_reducible refine (potbankref06_CheckSeats.calls k _ _ l0 t173 _ ?side1 ?side2 A4.out).mono ?_); (case side1 => repeat (first | exact HR0.out | (with_reducible refine Kd.C_alloc ?_ _) | (with_reducible refine Kd.C_drewN ?_ _) | (with_reducible refine Kd.C_drew ?_))); (case side2 => exact HC0.out); rintro e w13 ⟨rfl, hb⟩; refine ⟨_, rfl, ?_⟩; have n0_ := Aside0.mk (below_step (by repeat (first | (with_reducible first | exact HB.out | apply below_alloc | apply pw_below_drewN | apply below_drew1) | exact HB.out)) hb); clear HB; have HB := n0_; clear n0_; (try clear hb); (try clear hb2); (try clear hk); (try clear hi)) | ((with_reducible refine gate_callee (f := 95) rfl ?_); refine goesL_ (some 11) rfl rfl Tryz.func95 (by kernel_rfl) rfl #[.slice A1 l1.length c1] rfl (by (try simp only [List.map_toArray, List.map_cons, List.map_nil]); first | done | rfl | (simp only [List.length_drop, List.length_take]; rfl)) ?_; (with_reducible refine (potbankref06_CheckOrders.calls k _ _ l1 t174 _ ?side1 ?side2 A6.out).mono ?_); (case side1 => repeat (first | exact (Kd.C_below HR1.out HB.out) | (with_reducible refine Kd.C_alloc ?_ _) | (with_reducible refine Kd.C_drewN ?_ _) | (with_reducible refine Kd.C_drew ?_))); (case side2 => exact HC1.out); rintro e w14 ⟨rfl, hb⟩; refine ⟨_, rfl, ?_⟩; have n0_ := Aside0.mk (below_step (by repeat (first | (with_reducible first | exact HB.out | apply below_alloc | apply pw_below_drewN | apply below_drew1) | exact HB.out)) hb); clear HB; have HB := n0_; clear n0_; (try clear hb); (try clear hb2); (try clear hk); (try clear hi)) | ((with_reducible refine gate_callee (f := 56) rfl ?_); refine goesL_ (some 15) rfl rfl Tryz.func56 (by kernel_rfl) rfl #[.slice A1 l1.length c1, .slice A2 l2.length c2] rfl (by (try simp only [List.map_toArray, List.map_cons, List.map_nil]); first | done | rfl | (simp only [List.length_drop, List.length_take]; rfl)) ?_; (with_reducible refine (potbankref06_IsSet.calls _ _ l1 _ _ l2 false _ ?side1 ?side2 ?side3 ?side4 A8.out).mono ?_); (case side1 => repeat (first | exact (Kd.C_below HR1.out HB.out) | (with_reducible refine Kd.C_alloc ?_ _) | (with_reducible refine Kd.C_drewN ?_ _) | (with_reducible refine Kd.C_drew ?_))); (case side2 => exact HC1.out); (case side3 => repeat (first | exact (Kd.C_below HR2.out HB.out) | (with_reducible refine Kd.C_alloc ?_ _) | (with_reducible refine Kd.C_drewN ?_ _) | (with_reducible refine Kd.C_drew ?_))); (case side4 => exact HC2.out); rintro e w15 ⟨rfl, hb⟩; refine ⟨_, rfl, ?_⟩; have n0_ := Aside0.mk (below_step (by repeat (first | (with_reducible first | exact HB.out | apply below_alloc | apply pw_below_drewN | apply below_drew1) | exact HB.out)) hb); clear HB; have HB := n0_; clear n0_; (try clear hb); (try clear hb2); (try clear hk); (try clear hi)))
        go_ret
        exact ⟨by first | rfl | (simp [errW_none, errW_some] <;> rfl) | (simp [*, errW_none, errW_some] <;> rfl), by repeat (first | (with_reducible first | exact HB.out | apply below_alloc | apply pw_below_drewN | apply below_drew1) | exact HB.out)⟩
    · rw [if_neg c7] at H
      have c7b0 : (t174 == 0) = false := beq_eq_false_iff_ne.mpr c7
      have c7b1 : (t174 != 0) = true := bne_iff_ne.mpr c7
      obtain rfl := Option.some.inj H
      go_enter Tryz.func47, Tryz.ntmps47
      go_wp2_with (first | ((with_reducible refine gate_callee (f := 94) rfl ?_); refine goesL_ (some 8) rfl rfl Tryz.func94 (by kernel_rfl) rfl #[.slice A0 l0.length c0] rfl (by (try simp only [List.map_toArray, List.map_cons, List.map_nil]); first | done | rfl | (simp only [List.length_drop, List.length_take]; rfl)) ?_; (with_reducible refine (potbankref06_CheckSeats.calls k _ _ l0 t173 _ ?side1 ?side2 A4.out).mono ?_); (case side1 => repeat (first | exact HR0.out | (with_reducible refine Kd.C_alloc ?_ _) | (with_reducible refine Kd.C_drewN ?_ _) | (with_reducible refine Kd.C_drew ?_))); (case side2 => exact HC0.out); rintro e w16 ⟨rfl, hb⟩; refine ⟨_, rfl, ?_⟩; have n0_ := Aside0.mk (below_step (by repeat (first | (with_reducible first | exact HB.out | apply below_alloc | apply pw_below_drewN | apply below_drew1) | exact HB.out)) hb); clear HB; have HB := n0_; clear n0_; (try clear hb); (try clear hb2); (try clear hk); (try clear hi)) | ((with_reducible refine gate_callee (f := 95) rfl ?_); refine goesL_ (some 11) rfl rfl Tryz.func95 (by kernel_rfl) rfl #[.slice A1 l1.length c1] rfl (by (try simp only [List.map_toArray, List.map_cons, List.map_nil]); first | done | rfl | (simp only [List.length_drop, List.length_take]; rfl)) ?_; (with_reducible refine (potbankref06_CheckOrders.calls k _ _ l1 t174 _ ?side1 ?side2 A6.out).mono ?_); (case side1 => repeat (first | exact (Kd.C_below HR1.out HB.out) | (with_reducible refine Kd.C_alloc ?_ _) | (with_reducible refine Kd.C_drewN ?_ _) | (with_reducible refine Kd.C_drew ?_))); (case side2 => exact HC1.out); rintro e w17 ⟨rfl, hb⟩; refine ⟨_, rfl, ?_⟩; have n0_ := Aside0.mk (below_step (by repeat (first | (with_reducible first | exact HB.out | apply below_alloc | apply pw_below_drewN | apply below_drew1) | exact HB.out)) hb); clear HB; have HB := n0_; clear n0_; (try clear hb); (try clear hb2); (try clear hk); (try clear hi)))
      go_ret
      exact ⟨by first | rfl | (simp [errW_none, errW_some] <;> rfl) | (simp [*, errW_none, errW_some] <;> rfl), by repeat (first | (with_reducible first | exact HB.out | apply below_alloc | apply pw_below_drewN | apply below_drew1) | exact HB.out)⟩
  · rw [if_neg c5] at H
    have c5b0 : (t173 == 0) = false := beq_eq_false_iff_ne.mpr c5
    have c5b1 : (t173 != 0) = true := bne_iff_ne.mpr c5
    obtain rfl := Option.some.inj H
    go_enter Tryz.func47, Tryz.ntmps47
    go_wp2_with (first | ((with_reducible refine gate_callee (f := 94) rfl ?_); refine goesL_ (some 8) rfl rfl Tryz.func94 (by kernel_rfl) rfl #[.slice A0 l0.length c0] rfl (by (try simp only [List.map_toArray, List.map_cons, List.map_nil]); first | done | rfl | (simp only [List.length_drop, List.length_take]; rfl)) ?_; (with_reducible refine (potbankref06_CheckSeats.calls k _ _ l0 t173 _ ?side1 ?side2 A4.out).mono ?_); (case side1 => repeat (first | exact HR0.out | (with_reducible refine Kd.C_alloc ?_ _) | (with_reducible refine Kd.C_drewN ?_ _) | (with_reducible refine Kd.C_drew ?_))); (case side2 => exact HC0.out); rintro e w18 ⟨rfl, hb⟩; refine ⟨_, rfl, ?_⟩; have n0_ := Aside0.mk (below_step (by repeat (first | (with_reducible first | exact HB.out | apply below_alloc | apply pw_below_drewN | apply below_drew1) | exact HB.out)) hb); clear HB; have HB := n0_; clear n0_; (try clear hb); (try clear hb2); (try clear hk); (try clear hi)))
    go_ret
    exact ⟨by first | rfl | (simp [errW_none, errW_some] <;> rfl) | (simp [*, errW_none, errW_some] <;> rfl), by repeat (first | (with_reducible first | exact HB.out | apply below_alloc | apply pw_below_drewN | apply below_drew1) | exact HB.out)⟩
end Go.Proofs.YthonlcnmjlldiaaGreat.P
namespace Go.Proofs.YthonlcnmjlldiaaGreat.P
open Go.Shelf Go.RowKit Go.Proofs.YthonlcnmjlldiaaGreatW.PrintWords Go.Proofs.YthonlcnmjlldiaaGreatW.PrintLast Go.Proofs.YthonlcnmjlldiaaGreatW.PrintMore
set_option linter.unusedVariables false
set_option linter.unusedSimpArgs false
abbrev KS (w : World) (A : Option Addr) (k : List Seat) : Prop := Kd.C k70 w A k.length k
abbrev KO (w : World) (B : Option Addr) (l : List Order) : Prop := Kd.C k72 w B l.length l
abbrev KI (w : World) (B : Option Addr) (l : List Int) : Prop := Kd.C (Kd.int .i64) w B l.length l
def askSetErr (k : List Seat) (l : List Order) (s : List Int) : Int := if askErr k l = 0 then (if setOk l.length s then 0 else 62) else askErr k l
theorem askErr_ok {k : List Seat} {l : List Order} (h : askErr k l = 0) : seatsOk k = true ∧ ordersOk l = true := by
  unfold askErr at h
  cases h1 : seatsOk k <;> cases h2 : ordersOk l <;> simp [h1, h2] at h ⊢
theorem fine_ask {k : List Seat} {l : List Order} (h : askErr k l = 0) : Fine k l ∧ l.length ≤ 8 := fine_of (askErr_ok h).1 (askErr_ok h).2
theorem setOk_lt {n : Nat} {s : List Int} (h : setOk n s = true) : (0 : Int) ≤ maskOf s ∧ (maskOf s : Int) < 2 ^ n := by
  have := maskOf_lt s (setFrom_mem h)
  refine ⟨by omega, ?_⟩
  have h2 : ((maskOf s : Nat) : Int) < ((2 ^ n : Nat) : Int) := Int.ofNat_lt.2 this
  rw [Int.natCast_pow] at h2
  exact h2
set_option maxHeartbeats 1000000 in
set_option maxRecDepth 100000 in
theorem askedSet_ok {w : World} {A B C : Option Addr} {c0 c1 c2 : Nat} {k : List Seat} {l : List Order} {s : List Int} (hr0 : KS w A k) (hc0 : k.length ≤ c0) (hr1 : KO w B l) (hc1 : l.length ≤ c1) (hr2 : KI w C s) (hc2 : s.length ≤ c2) (h1 : askErr k l = 0) (h2 : setOk l.length s = true) :
    Calls Tryz.prog 67 #[.slice A k.length c0, .slice B l.length c1, .slice C s.length c2] w fun e w' => ∃ ob mb, e = .returned (.tuple #[.pointer (some ⟨ob, 0, none⟩), .int .u64 (maskOf s), .int .i64 0]) ∧ Off w' ob mb k l ∧ Below w.heap.size w w' ∧ w.heap.size ≤ ob ∧ w.heap.size ≤ mb := by
  have hF := (fine_ask h1).2
  have ha := asked_ok hr0 hc0 hr1 hc1 (askErr_ok h1).1 (askErr_ok h1).2
  have hs := set_some (n := l.length) (by omega) s hr2.2.1
  unfold setI at hs
  rw [h2] at hs
  have HS := Aside0.mk hs
  have HR2 := Aside0.mk hr2
  have HA := Aside0.mk ha
  clear hs ha h1 h2 hr0 hr1 hr2
  go_enter Tryz.func67, Tryz.ntmps67
  go_wp2_with fail
  refine HA.out.mono ?_
  rintro e w2 ⟨ob, mb, rfl, hO, hb, hl1, hl2⟩
  have HO := Aside0.mk hO
  have HB := Aside0.mk hb
  clear hO hb
  go_wp2_with fail
  refine (plan_set.calls _ _ _ _ s _ _ _ (Kd.C_below HR2.out HB.out) hc2 HS.out).mono ?_
  rintro e w3 ⟨rfl, hd⟩
  have HD := Aside0.mk hd.below
  clear hd
  go_wp2
  go_ret3
  exact ⟨ob, mb, rfl, HO.out.below HD.out, below_refl_trans HB.out HD.out, hl1, hl2⟩
set_option maxHeartbeats 1000000 in
set_option maxRecDepth 100000 in
theorem askedSet_no {w : World} {A B C : Option Addr} {c0 c1 c2 : Nat} {k : List Seat} {l : List Order} {s : List Int} (hr0 : KS w A k) (hc0 : k.length ≤ c0) (hr1 : KO w B l) (hc1 : l.length ≤ c1) (hr2 : KI w C s) (hc2 : s.length ≤ c2) (h : askSetErr k l s ≠ 0) :
    Calls Tryz.prog 67 #[.slice A k.length c0, .slice B l.length c1, .slice C s.length c2] w fun e w' => ∃ p, e = .returned (.tuple #[.pointer p, .int .u64 0, .int .i64 (askSetErr k l s)]) ∧ Below w.heap.size w w' := by
  unfold askSetErr at *
  by_cases h1 : askErr k l = 0
  · rw [if_pos h1] at h ⊢
    have h2 : setOk l.length s = false := by
      cases h2 : setOk l.length s
      · rfl
      · rw [h2] at h; simp at h
    rw [h2]
    simp only [Bool.false_eq_true, if_false]
    have hF := (fine_ask h1).2
    have ha := asked_ok hr0 hc0 hr1 hc1 (askErr_ok h1).1 (askErr_ok h1).2
    have hs := set_some (n := l.length) (by omega) s hr2.2.1
    unfold setI at hs
    rw [h2] at hs
    have HS := Aside0.mk hs
    have HR2 := Aside0.mk hr2
    have HA := Aside0.mk ha
    clear hs ha h1 h2 h hr0 hr1 hr2
    go_enter Tryz.func67, Tryz.ntmps67
    go_wp2_with fail
    refine HA.out.mono ?_
    rintro e w2 ⟨ob, mb, rfl, hO, hb, hl1, hl2⟩
    have HO := Aside0.mk hO
    have HB := Aside0.mk hb
    clear hO hb
    go_wp2_with fail
    refine (plan_set.calls _ _ _ _ s _ _ _ (Kd.C_below HR2.out HB.out) hc2 HS.out).mono ?_
    rintro e w3 ⟨rfl, hd⟩
    have HD := Aside0.mk hd.below
    clear hd
    go_wp2
    go_ret3
    exact ⟨_, rfl, below_refl_trans HB.out HD.out⟩
  · rw [if_neg h1]
    have ha := asked_no hr0 hc0 hr1 hc1 h1
    have HA := Aside0.mk ha
    have hbn : (askErr k l != 0) = true := by simpa using h1
    have hbe : (askErr k l == 0) = false := by simpa using h1
    generalize askErr k l = z at *
    clear ha h1 h hr0 hr1 hr2
    go_enter Tryz.func67, Tryz.ntmps67
    go_wp2_with fail
    refine HA.out.mono ?_
    rintro e w2 ⟨rfl, hb⟩
    have HB := Aside0.mk hb
    clear hb
    go_wp2
    go_ret3
    exact ⟨_, rfl, HB.out⟩
def plan_Room.f (l0 : List Seat) (l1 : List Order) (l2 : List Int) : Option (Int × Int) := some (if askSetErr l0 l1 l2 = 0 then (roomI l0 l1 (maskOf l2), 0) else (0, askSetErr l0 l1 l2))
theorem askSet_split {k : List Seat} {l : List Order} {s : List Int} (h : askSetErr k l s = 0) : askErr k l = 0 ∧ setOk l.length s = true := by
  unfold askSetErr at h
  by_cases h1 : askErr k l = 0
  · rw [if_pos h1] at h
    refine ⟨h1, ?_⟩
    cases h2 : setOk l.length s
    · rw [h2] at h; simp at h
    · rfl
  · rw [if_neg h1] at h; exact absurd h h1
set_option maxHeartbeats 1000000 in
set_option maxRecDepth 100000 in
theorem plan_Room.calls (A0 : Option Addr) (c0 : Nat) (l0 : List Seat) (A1 : Option Addr) (c1 : Nat) (l1 : List Order) (A2 : Option Addr) (c2 : Nat) (l2 : List Int) (r1 : Int) (r2 : Int) (w : World) (hr0 : KS w A0 l0) (hc0 : l0.length ≤ c0) (hr1 : KO w A1 l1) (hc1 : l1.length ≤ c1) (hr2 : KI w A2 l2) (hc2 : l2.length ≤ c2) (h : plan_Room.f l0 l1 l2 = some (r1, r2)) :
    Calls Tryz.prog 19 #[.slice A0 l0.length c0, .slice A1 l1.length c1, .slice A2 l2.length c2] w fun e w' => e = .returned (.tuple #[.int .i64 r1, .int .i64 r2]) ∧ Below w.heap.size w w' := by
  unfold plan_Room.f at h
  by_cases he : askSetErr l0 l1 l2 = 0
  · rw [if_pos he] at h
    simp only [Option.some.injEq, Prod.mk.injEq] at h
    obtain ⟨h1, rfl⟩ := h
    obtain ⟨ha, hs⟩ := askSet_split he
    have hF := (fine_ask ha).1
    have hm := setOk_lt hs
    have hA := askedSet_ok hr0 hc0 hr1 hc1 hr2 hc2 ha hs
    have HA := Aside0.mk hA
    have HF := Aside0.mk hF
    have H1 := Aside0.mk h1
    have HM := Aside0.mk hm
    clear hA he ha hs hF hr0 hr1 hr2 h1 hm
    generalize (maskOf l2 : Int) = m at *
    go_enter Tryz.func19, Tryz.ntmps19
    go_wp2_with fail
    refine HA.out.mono ?_
    rintro e w2 ⟨ob, mb, rfl, hO, hb, hl1, hl2⟩
    have HO := Aside0.mk hO
    have HB := Aside0.mk hb
    clear hO hb
    go_wp2_with fail
    refine (room_b HO.out HF.out.hk HF.out.h9 HM.out.1 HM.out.2).mono ?_
    rintro e w3 ⟨rfl, hO3, hg3⟩
    have HG3 := Aside0.mk hg3
    clear hO3 hg3
    go_wp2
    go_ret2
    exact ⟨by rw [← H1.out]; rfl, HB.out.grown HG3.out HB.out.size (fun j hj => by cases hj; exact hl2)⟩
  · rw [if_neg he] at h
    simp only [Option.some.injEq, Prod.mk.injEq] at h
    obtain ⟨rfl, rfl⟩ := h
    have hA := askedSet_no hr0 hc0 hr1 hc1 hr2 hc2 he
    have HA := Aside0.mk hA
    have hbn : (askSetErr l0 l1 l2 != 0) = true := by simpa using he
    have hbe : (askSetErr l0 l1 l2 == 0) = false := by simpa using he
    generalize askSetErr l0 l1 l2 = z at *
    clear hA he hr0 hr1 hr2
    go_enter Tryz.func19, Tryz.ntmps19
    go_wp2_with fail
    refine HA.out.mono ?_
    rintro e w2 ⟨p, rfl, hb⟩
    have HB := Aside0.mk hb
    clear hb
    go_wp2
    go_ret2
    exact ⟨rfl, HB.out⟩
end Go.Proofs.YthonlcnmjlldiaaGreat.P
namespace Go.Proofs.YthonlcnmjlldiaaGreat.P
open Go.RowKit Go.Proofs.YthonlcnmjlldiaaGreatW.PrintWords Go.Proofs.YthonlcnmjlldiaaGreatW.PrintLast Go.Proofs.YthonlcnmjlldiaaGreatW.PrintMore
set_option linter.unusedVariables false
set_option linter.unusedSimpArgs false
theorem wrap_succ {i n : Nat} (h : i < n) (hn : n ≤ 9223372036854775807) : wrap64 ((i : Int) + 1) = ((i + 1 : Nat) : Int) := by unfold wrap64; push_cast; omega
theorem rdO_at {l : List Order} {i : Nat} (h : i < l.length) : rd_T72 l (i : Int) = l[i] := by simp [rd_T72, List.getD_eq_getElem?_getD, h]
theorem rdS_at {l : List Seat} {i : Nat} (h : i < l.length) : rd_T70 l (i : Int) = l[i] := by simp [rd_T70, List.getD_eq_getElem?_getD, h]
theorem rd_at {l : List Int} {i : Nat} (h : i < l.length) : rd l (i : Int) = l[i] := by simp [rd, List.getD_eq_getElem?_getD, h]
theorem rdL_at {l : List (List Int)} {i : Nat} (h : i < l.length) : rd_L5 l (i : Int) = l[i] := by simp [rd_L5, List.getD_eq_getElem?_getD, h]
theorem drop_at {α : Type} {l : List α} {i : Nat} (h : i < l.length) : l.drop i = l[i] :: l.drop (i + 1) := List.drop_eq_getElem_cons h
theorem In_eq (x lo hi : Int) : potbankref06_In.f x lo hi = some (inB x lo hi) := by
  unfold potbankref06_In.f inB
  by_cases h : x ≥ lo
  · rw [if_pos h]; simp; omega
  · rw [if_neg h]; simp; omega
theorem isHeat_eq (lo hi : Int) : potbankref06_isHeat.f lo hi = some (heatOk lo hi) := by
  unfold potbankref06_isHeat.f heatOk
  by_cases h1 : lo ≥ 0
  · rw [if_pos h1]
    by_cases h2 : lo ≤ hi
    · rw [if_pos h2]; simp [h2]; omega
    · rw [if_neg h2]; simp [h2]
  · rw [if_neg h1]; simp; omega
theorem isSeat_eq (s : Seat) : potbankref06_isSeat.f s.f0.f0 s.f0.f1 s.f1 s.f2 = some (seatOk s) := by
  unfold potbankref06_isSeat.f seatOk
  rw [isHeat_eq, In_eq, In_eq]
  simp only [Option.bind_some]
  cases heatOk s.f0.f0 s.f0.f1 <;> cases inB s.f1 0 9 <;> rfl
theorem isOrder_eq (o : Order) : potbankref06_isOrder.f o.f0 o.f1 o.f2.f0 o.f2.f1 o.f3 = some (orderOk o) := by
  unfold potbankref06_isOrder.f orderOk
  rw [isHeat_eq, In_eq, In_eq, In_eq]
  simp only [Option.bind_some]
  cases inB o.f0 1 999 <;> cases inB o.f1 1 1000 <;> cases heatOk o.f2.f0 o.f2.f1 <;> rfl
theorem CheckSeats_loop {k : List Seat} (hl : k.length ≤ 24) : ∀ (d i : Nat), k.length - i = d → i ≤ k.length → Ev (fun n => potbankref06_CheckSeats.l0 n k (i : Int)) (if (k.drop i).all seatOk then 0 else 61) := by
  intro d
  induction d with
  | zero =>
    intro i hd hi
    refine Ev.step (f := fun _ => some 0) (fun n => by simp only [potbankref06_CheckSeats.l0]; rw [if_neg (by omega)]) ?_
    rw [List.drop_eq_nil_iff.2 (by omega)]
    exact Ev.now _
  | succ d ih =>
    intro i hd hi
    have hlt : i < k.length := by omega
    refine Ev.step (f := fun n => if seatOk k[i] = true then potbankref06_CheckSeats.l0 n k ((i + 1 : Nat) : Int) else some 61) (fun n => by
      simp only [potbankref06_CheckSeats.l0]
      rw [if_pos (by omega), if_pos (by omega), rdS_at hlt, isSeat_eq, wrap_succ hlt (by omega)]
      rfl) ?_
    rw [drop_at hlt, List.all_cons]
    cases hs : seatOk k[i]
    · exact Ev.now _
    · simpa using ih (i + 1) (by omega) (by omega)
theorem any_not {α : Type} (p : α → Bool) (l : List α) : (!l.any fun x => !p x) = l.all p := by rw [List.all_eq_not_any_not]
theorem CheckSeats_ev (k : List Seat) : Ev (fun n => potbankref06_CheckSeats.f n k) (if seatsOk k then 0 else 61) := by
  unfold potbankref06_CheckSeats.f seatsOk
  rw [any_not]
  by_cases hl : k.length ≤ 24
  · have h : ¬ ((k.length : Int) > 24) := by omega
    simp only [h, if_false]
    rw [decide_eq_true hl, Bool.true_and]
    exact CheckSeats_loop hl _ 0 rfl (Nat.zero_le _)
  · have h : ((k.length : Int) > 24) := by omega
    simp only [h, if_true]
    rw [decide_eq_false hl, Bool.false_and]
    exact Ev.now _
def okTo (l : List Order) (i : Nat) : Prop := (∀ o ∈ l.take i, orderOk o = true) ∧ ((l.take i).map (·.f0)).Nodup
theorem ordersOk_to (l : List Order) : ordersOk l = true ↔ l.length ≤ 8 ∧ okTo l l.length := by
  rw [ordersOk_iff, okTo, List.take_length]
theorem okTo_succ {l : List Order} {i : Nat} (h : i < l.length) : okTo l (i + 1) ↔ okTo l i ∧ orderOk l[i] = true ∧ ∀ j, (hj : j < i) → l[j].f0 ≠ l[i].f0 := by
  unfold okTo
  rw [List.take_succ_eq_append_getElem h, List.map_append, List.nodup_append]
  simp only [List.mem_append, List.map_cons, List.map_nil, List.mem_singleton]
  constructor
  · rintro ⟨h1, h2, h3, h4⟩
    refine ⟨⟨fun o ho => h1 o (.inl ho), h2⟩, h1 _ (.inr rfl), fun j hj => h4 _ (List.mem_map.2 ⟨l[j], ?_, rfl⟩) _ rfl⟩
    exact List.mem_take_iff_getElem.2 ⟨j, by omega, rfl⟩
  · rintro ⟨⟨h1, h2⟩, h3, h4⟩
    refine ⟨fun o ho => ?_, h2, by simp, ?_⟩
    · rcases ho with ho | rfl
      · exact h1 o ho
      · exact h3
    · intro a ha b hb
      subst hb
      obtain ⟨o, ho, rfl⟩ := List.mem_map.1 ha
      obtain ⟨j, hj, rfl⟩ := List.mem_take_iff_getElem.1 ho
      exact h4 j (by omega)
theorem okTo_mono {l : List Order} {i j : Nat} (h : okTo l j) (hij : i ≤ j) : okTo l i := by
  obtain ⟨h1, h2⟩ := h
  have e : l.take i = (l.take j).take i := by rw [List.take_take, Nat.min_eq_left hij]
  unfold okTo
  rw [e]
  refine ⟨fun o ho => h1 o (List.mem_of_mem_take ho), ?_⟩
  rw [List.map_take]
  exact h2.sublist (List.take_sublist _ _)
theorem CheckOrders_loop {l : List Order} (hl : l.length ≤ 8) : ∀ (d i : Nat), l.length - i = d → i ≤ l.length → okTo l i → Ev (fun n => potbankref06_CheckOrders.l0 n l (i : Int)) (if ordersOk l then 0 else 60) := by
  intro d
  induction d with
  | zero =>
    intro i hd hi hok
    obtain rfl : i = l.length := by omega
    rw [if_pos ((ordersOk_to l).2 ⟨hl, hok⟩)]
    exact Ev.step (f := fun _ => some 0) (fun n => by simp only [potbankref06_CheckOrders.l0]; rw [if_neg (by omega)]) (Ev.now _)
  | succ d ih =>
    intro i hd hi hok
    have hlt : i < l.length := by omega
    refine Ev.step (f := fun n => if orderOk l[i] = true then potbankref06_CheckOrders.l1 n l (i : Int) ((0 : Nat) : Int) else some 60) (fun n => by
      simp only [potbankref06_CheckOrders.l0]
      rw [if_pos (by omega), if_pos (by omega), rdO_at hlt, isOrder_eq]
      rfl) ?_
    have hno : ∀ {p : Prop}, (okTo l (i + 1) → p) → ¬ p → ordersOk l = false := fun {p} h1 h2 => by
      rw [Bool.eq_false_iff]
      intro h
      exact h2 (h1 (okTo_mono ((ordersOk_to l).1 h).2 hlt))
    cases ho : orderOk l[i]
    · rw [hno (fun h => ((okTo_succ hlt).1 h).2.1) (by rw [ho]; simp)]
      exact Ev.now _
    · simp only [if_true]
      have inner : ∀ (e j : Nat), i - j = e → (hji : j ≤ i) → (∀ q, (hq : q < j) → l[q].f0 ≠ l[i].f0) → Ev (fun n => potbankref06_CheckOrders.l1 n l (i : Int) (j : Int)) (if ordersOk l then 0 else 60) := by
        intro e
        induction e with
        | zero =>
          intro j he hj hq
          obtain rfl : j = i := by omega
          refine Ev.step (f := fun n => potbankref06_CheckOrders.l0 n l ((j + 1 : Nat) : Int)) (fun n => by
            simp only [potbankref06_CheckOrders.l1]
            rw [if_neg (by omega), wrap_succ hlt (by omega)]) ?_
          exact ih (j + 1) (by omega) (by omega) ((okTo_succ hlt).2 ⟨hok, ho, hq⟩)
        | succ e ihe =>
          intro j he hj hq
          have hjl : j < l.length := by omega
          refine Ev.step (f := fun n => if l[j].f0 = l[i].f0 then some 60 else potbankref06_CheckOrders.l1 n l (i : Int) ((j + 1 : Nat) : Int)) (fun n => by
            simp only [potbankref06_CheckOrders.l1]
            rw [if_pos (by omega), if_pos (by omega), if_pos (by omega), if_pos (by omega), if_pos (by omega), rdO_at hlt, rdO_at hjl, wrap_succ hjl (by omega)]) ?_
          by_cases h : l[j].f0 = l[i].f0
          · rw [hno (p := l[j].f0 ≠ l[i].f0) (fun h2 => ((okTo_succ hlt).1 h2).2.2 j (by omega)) (by simp [h])]
            simp only [h, if_true]
            exact Ev.now _
          · simp only [h, if_false]
            refine ihe (j + 1) (by omega) (by omega) (fun q hq2 => ?_)
            by_cases hqj : q = j
            · subst hqj; exact h
            · exact hq q (by omega)
      exact inner i 0 (by omega) (Nat.zero_le _) (fun q hq => absurd hq (Nat.not_lt_zero _))
theorem CheckOrders_ev (l : List Order) : Ev (fun n => potbankref06_CheckOrders.f n l) (if ordersOk l then 0 else 60) := by
  unfold potbankref06_CheckOrders.f
  by_cases hl : l.length ≤ 8
  · have h : ¬ ((l.length : Int) > 8) := by omega
    simp only [h, if_false]
    exact CheckOrders_loop hl _ 0 rfl (Nat.zero_le _) ⟨by simp, by simp⟩
  · have h : ((l.length : Int) > 8) := by omega
    simp only [h, if_true]
    have : ordersOk l = false := by unfold ordersOk; rw [decide_eq_false hl]; rfl
    rw [this]
    exact Ev.now _
theorem checked_ev (k : List Seat) (l : List Order) (s : List Int) : Ev (fun n => potbankref06_checked.f n k l s) (askSetErr k l s) := by
  unfold potbankref06_checked.f
  refine Ev.bind (CheckSeats_ev k) ?_
  unfold askSetErr askErr
  cases h1 : seatsOk k
  · exact Ev.now _
  · refine Ev.bind (CheckOrders_ev l) ?_
    cases h2 : ordersOk l
    · exact Ev.now _
    · simp only [if_true]
      unfold potbankref06_IsSet.f
      cases h3 : setOk l.length s <;> exact Ev.now _
end Go.Proofs.YthonlcnmjlldiaaGreat.P
namespace Go.Proofs.YthonlcnmjlldiaaGreat.P
open Go.RowKit Go.Proofs.YthonlcnmjlldiaaGreatW.PrintWords Go.Proofs.YthonlcnmjlldiaaGreatW.PrintLast Go.Proofs.YthonlcnmjlldiaaGreatW.PrintMore
attribute [local go_sem] max2_int min2_int max_two min_two max_three min_three max_four min_four
set_option linter.unusedVariables false
set_option linter.unusedSimpArgs false
def potbankref06_Chosen.l0 : Nat → Int → List Int → List Int → Int → Option (List Int)
  | 0, _, _, _, _ => none
  | k + 1, x0, x1, x5, x6 => if x6 < (x1.length : Int) then (if 0 ≤ x6 then (if (Go.bits .and .i64 (shr .i64 x0 x6) 1) = 1 then (if x5.length < 17592186044416 then (potbankref06_Chosen.l0 k x0 x1 (x5 ++ [rd x1 x6]) (wrap64 (x6 + 1))) else (none)) else (potbankref06_Chosen.l0 k x0 x1 x5 (wrap64 (x6 + 1)))) else (none)) else (some x5)
def potbankref06_Chosen.f (k : Nat) (a0 : Int) (l1 : List Int) : Option (List Int) := potbankref06_Chosen.l0 k a0 l1 ([] : List Int) 0
set_option maxHeartbeats 8000000 in
set_option maxRecDepth 100000 in
theorem potbankref06_Chosen.calls (k : Nat) (a0 : Int) (A1 : Option Addr) (c1 : Nat) (l1 : List Int) (r : List Int) (w : World) (hr1 : Kd.C (Kd.int .i64) w A1 l1.length l1) (hc1 : l1.length ≤ c1) (h : potbankref06_Chosen.f k a0 l1 = some r) :
    Calls Tryz.prog 58 #[.int .i64 a0, .slice A1 l1.length c1] w fun e w' => ∃ v0_ : Value, e = .returned (v0_) ∧ Kd.R (Kd.int .i64) 3 w' w.heap.size (fun _ => True) v0_ r ∧ Below w.heap.size w w' := by
  have HR1 := Aside0.mk hr1
  have HC1 := Aside0.mk hc1
  clear hr1 hc1
  have HB := Aside0.mk (Below.refl w.heap.size w)
  have H : (potbankref06_Chosen.l0 k a0 l1 ([] : List Int) 0) = some r := h
  clear h
  have H' := Aside0.mk H
  clear H
  go_enter Tryz.func58, Tryz.ntmps58
  go_wp2
  go_loopg [5, 6] k (fun kq v5 v6 w' => ∃ (x5_1 : List Int) (x6_1 : Int), v6 = .int .i64 x6_1 ∧ Aside0 (potbankref06_Chosen.l0 kq a0 l1 x5_1 x6_1 = some r) ∧ Aside0 (kq ≤ k) ∧ Aside0 (Kd.R (Kd.int .i64) 3 w' w.heap.size (fun _ => True) v5 x5_1) ∧ Aside0 (Below w.heap.size w w'))
  case atStart => exact ⟨(([] : List Int)), (0), (by first | rfl | (simp; done) | (simp [*]; done)), H', ⟨Nat.le_refl _⟩, ⟨by first | exact Kd.R_nil _ _ _ _ _ | exact Kd.N_nil _ _ _ _ _ | exact Kd.V_nil _ _ _ _ _ | exact Kd.Q_nil _ _ _ _ _ | exact Kd.S_nil _ _ _ _ _⟩, ⟨by repeat (first | (with_reducible first | exact HB.out | apply below_alloc | apply pw_below_drewN | apply below_drew1) | exact HB.out)⟩⟩
  case round =>
    clear H'
    try clear c1
    try clear p2
    obtain ⟨x5_1, x6_1, rfl, HA, HK1, HO_5, HB⟩ := hrel
    cases gk with
    | zero => exact absurd HA.out (by simp [potbankref06_Chosen.l0])
    | succ k1 =>
      have H := HA.out
      clear HA
      simp only [potbankref06_Chosen.l0] at H
      by_cases c3 : x6_1 < (l1.length : Int)
      · rw [if_pos c3] at H
        have c3b0 : decide (x6_1 < (l1.length : Int)) = true := decide_eq_true c3
        clear c3
        by_cases c4 : 0 ≤ x6_1
        · rw [if_pos c4] at H
          have c4b0 := eq_true c4
          have c4b1 : decide (0 ≤ x6_1) = true := decide_eq_true c4
          clear c4
          obtain ⟨ji5, hji5⟩ : ∃ j_ : Int, (shr .i64 a0 x6_1) = j_ := ⟨_, rfl⟩
          replace H : (if (Go.bits .and .i64 (ji5) 1) = 1 then (if x5_1.length < 17592186044416 then (potbankref06_Chosen.l0 k1 a0 l1 (x5_1 ++ [rd l1 x6_1]) (wrap64 (x6_1 + 1))) else (none)) else (potbankref06_Chosen.l0 k1 a0 l1 x5_1 (wrap64 (x6_1 + 1)))) = some r := by first | (rw [hji5] at H; exact H) | (simp only [hji5] at H ⊢; exact H)
          have hji5_ : (a0 / 2 ^ min x6_1.toNat 64) = ji5 := hji5
          have hji5z : x6_1 ≤ 64 → (a0 / 2 ^ x6_1.toNat) = ji5 := shr_small hji5
          by_cases c6 : (Go.bits .and .i64 (ji5) 1) = 1
          · rw [if_pos c6] at H
            have c6b0 : ((Go.bits .and .i64 (ji5) 1) == 1) = true := beq_iff_eq.mpr c6
            have c6b1 : ((Go.bits .and .i64 (ji5) 1) != 1) = false := bne_eq_false_iff_eq.mpr c6
            clear c6
            by_cases c7 : x5_1.length < 17592186044416
            · rw [if_pos c7] at H
              have LMc7 := Aside0.mk c7
              clear c7
              obtain ⟨y195, hy195⟩ : ∃ y_ : List Int, y_ = (x5_1 ++ [rd l1 x6_1]) := ⟨_, rfl⟩
              replace H : (potbankref06_Chosen.l0 k1 a0 l1 y195 (wrap64 (x6_1 + 1))) = some r := by first | (rw [hy195]; with_reducible exact H) | (have H2_ := (Option.bind_some _ _).symm.trans H; rw [hy195]; with_reducible exact H2_) | (have H2_ := (Option.bind_some _ _).symm.trans H; with_reducible exact H2_) | with_reducible exact H | (rw [hy195]; exact H) | exact H
              have Ny195 := Aside0.mk hy195
              clear hy195
              have H' := Aside0.mk H
              clear H
              have p194 : 0 ≤ (x6_1 : Int) := of_decide_eq_true (by first | (with_reducible assumption) | assumption)
              have q194 : x6_1 < (l1.length : Int) := of_decide_eq_true (by first | (with_reducible assumption) | assumption)
              obtain ⟨ad194, e194, hx194_0⟩ := Kd.at_int HR1.out x6_1 p194 q194
              cases e194
              replace hx194_0 := (HB.out.cell (World.block_lt_of_cell? w _ hx194_0)).trans hx194_0
              replace p194 := eq_true p194
              replace q194 := eq_true q194
              go_wp2_with (first | ((with_reducible refine gate_builtin (b := .append) (xs := #[.tmp 18, .tmp 23]) rfl ?_); at_builtin; refine Kd.R_append (Kd.int .i64) (w0 := w) w.heap.size rfl (.tmp 18) (.tmp 23) 41 3 (.int .i64 0) 8 rfl Tryz.underlying41 info3 rfl (by decide) (by omega) u5 x5_1 (rd l1 x6_1) [.int .i64 (rd l1 x6_1)] (fun _ => True) (fun _ => False) rfl rfl ?aP (fun _ hk => hk.elim) ?aF ?aO ?aB ?aS ?aL ?_; (case aP => exact rfl); (case aB => exact (by repeat (first | (with_reducible first | exact HB.out | apply below_alloc | apply pw_below_drewN | apply below_drew1) | exact HB.out))); (case aF => exact (fun _ _ => trivial)); (case aO => exact (by (with_reducible repeat (first | apply Kd.R_alloc | apply Kd.R_drewN | apply Kd.R_drew)); exact HO_5.out)); (case aS => exact (below_size (by repeat (first | (with_reducible first | exact HB.out | apply below_alloc | apply pw_below_drewN | apply below_drew1) | exact HB.out)))); (case aL => have := LMc7.out; omega); intro v196 w8 ho hb hg hat; rw [← Ny195.out] at ho; have n0_ := Aside0.mk (hb); have n1_ := Aside0.mk (ho); clear HB; clear HO_5; have HB := n0_; have HO197 := n1_; clear n0_ n1_; clear ho hb hg hat))
              go_roundg k1
              case measure => have := HK1.out; omega
              case rel => exact ⟨(y195), (wrap64 (x6_1 + 1)), (by first | rfl | (simp; done) | (simp [*]; done)), H', ⟨by have := HK1.out; omega⟩, ⟨by (with_reducible repeat (first | apply Kd.R_alloc | apply Kd.R_drewN | apply Kd.R_drew)); exact HO197.out⟩, ⟨by repeat (first | (with_reducible first | exact HB.out | apply below_alloc | apply pw_below_drewN | apply below_drew1) | exact HB.out)⟩⟩
            · rw [if_neg c7] at H
              exact absurd H (by simp)
          · rw [if_neg c6] at H
            have c6b0 : ((Go.bits .and .i64 (ji5) 1) == 1) = false := beq_eq_false_iff_ne.mpr c6
            have c6b1 : ((Go.bits .and .i64 (ji5) 1) != 1) = true := bne_iff_ne.mpr c6
            have H' := Aside0.mk H
            clear H
            go_wp2
            go_roundg k1
            case measure => have := HK1.out; omega
            case rel => exact ⟨(x5_1), (wrap64 (x6_1 + 1)), (by first | rfl | (simp; done) | (simp [*]; done)), H', ⟨by have := HK1.out; omega⟩, ⟨by (with_reducible repeat (first | apply Kd.R_alloc | apply Kd.R_drewN | apply Kd.R_drew)); exact HO_5.out⟩, ⟨by repeat (first | (with_reducible first | exact HB.out | apply below_alloc | apply pw_below_drewN | apply below_drew1) | exact HB.out)⟩⟩
        · rw [if_neg c4] at H
          exact absurd H (by simp)
      · rw [if_neg c3] at H
        have c3b0 : decide (x6_1 < (l1.length : Int)) = false := decide_eq_false c3
        clear c3
        obtain rfl := Option.some.inj H
        go_wp2
        go_ret
        exact ⟨_, by first | rfl | (simp [errW_none, errW_some] <;> rfl) | (simp [*, errW_none, errW_some] <;> rfl), by (with_reducible repeat (first | apply Kd.R_alloc | apply Kd.R_drewN | apply Kd.R_drew)); exact HO_5.out, by repeat (first | (with_reducible first | exact HB.out | apply below_alloc | apply pw_below_drewN | apply below_drew1) | exact HB.out)⟩
def potbankref06_indices.l0 : Nat → Int → List Int → Int → Option (List Int)
  | 0, _, _, _ => none
  | k + 1, x0, x3, x4 => if x4 < x0 then (if x3.length < 17592186044416 then (potbankref06_indices.l0 k x0 (x3 ++ [x4]) (wrap64 (x4 + 1))) else (none)) else (some x3)
def potbankref06_indices.f (k : Nat) (a0 : Int) : Option (List Int) := potbankref06_indices.l0 k a0 ([] : List Int) 0
set_option maxHeartbeats 8000000 in
set_option maxRecDepth 100000 in
theorem potbankref06_indices.calls (k : Nat) (a0 : Int) (r : List Int) (w : World) (h : potbankref06_indices.f k a0 = some r) :
    Calls Tryz.prog 59 #[.int .i64 a0] w fun e w' => ∃ v0_ : Value, e = .returned (v0_) ∧ Kd.R (Kd.int .i64) 3 w' w.heap.size (fun _ => True) v0_ r ∧ Below w.heap.size w w' := by
  have HB := Aside0.mk (Below.refl w.heap.size w)
  have H : (potbankref06_indices.l0 k a0 ([] : List Int) 0) = some r := h
  clear h
  have H' := Aside0.mk H
  clear H
  go_enter Tryz.func59, Tryz.ntmps59
  go_wp2
  go_loopg [3, 4] k (fun kq v3 v4 w' => ∃ (x3_1 : List Int) (x4_1 : Int), v4 = .int .i64 x4_1 ∧ Aside0 (potbankref06_indices.l0 kq a0 x3_1 x4_1 = some r) ∧ Aside0 (kq ≤ k) ∧ Aside0 (Kd.R (Kd.int .i64) 3 w' w.heap.size (fun _ => True) v3 x3_1) ∧ Aside0 (Below w.heap.size w w'))
  case atStart => exact ⟨(([] : List Int)), (0), (by first | rfl | (simp; done) | (simp [*]; done)), H', ⟨Nat.le_refl _⟩, ⟨by first | exact Kd.R_nil _ _ _ _ _ | exact Kd.N_nil _ _ _ _ _ | exact Kd.V_nil _ _ _ _ _ | exact Kd.Q_nil _ _ _ _ _ | exact Kd.S_nil _ _ _ _ _⟩, ⟨by repeat (first | (with_reducible first | exact HB.out | apply below_alloc | apply pw_below_drewN | apply below_drew1) | exact HB.out)⟩⟩
  case round =>
    clear H'
    obtain ⟨x3_1, x4_1, rfl, HA, HK1, HO_3, HB⟩ := hrel
    cases gk with
    | zero => exact absurd HA.out (by simp [potbankref06_indices.l0])
    | succ k1 =>
      have H := HA.out
      clear HA
      simp only [potbankref06_indices.l0] at H
      by_cases c2 : x4_1 < a0
      · rw [if_pos c2] at H
        have c2b0 : decide (x4_1 < a0) = true := decide_eq_true c2
        clear c2
        by_cases c3 : x3_1.length < 17592186044416
        · rw [if_pos c3] at H
          have LMc3 := Aside0.mk c3
          clear c3
          obtain ⟨y198, hy198⟩ : ∃ y_ : List Int, y_ = (x3_1 ++ [x4_1]) := ⟨_, rfl⟩
          replace H : (potbankref06_indices.l0 k1 a0 y198 (wrap64 (x4_1 + 1))) = some r := by first | (rw [hy198]; with_reducible exact H) | (have H2_ := (Option.bind_some _ _).symm.trans H; rw [hy198]; with_reducible exact H2_) | (have H2_ := (Option.bind_some _ _).symm.trans H; with_reducible exact H2_) | with_reducible exact H | (rw [hy198]; exact H) | exact H
          have Ny198 := Aside0.mk hy198
          clear hy198
          have H' := Aside0.mk H
          clear H
          go_wp2_with (first | ((with_reducible refine gate_builtin (b := .append) (xs := #[.tmp 10, .tmp 12]) rfl ?_); at_builtin; refine Kd.R_append (Kd.int .i64) (w0 := w) w.heap.size rfl (.tmp 10) (.tmp 12) 41 3 (.int .i64 0) 8 rfl Tryz.underlying41 info3 rfl (by decide) (by omega) u3 x3_1 x4_1 [.int .i64 x4_1] (fun _ => True) (fun _ => False) rfl rfl ?aP (fun _ hk => hk.elim) ?aF ?aO ?aB ?aS ?aL ?_; (case aP => exact rfl); (case aB => exact (by repeat (first | (with_reducible first | exact HB.out | apply below_alloc | apply pw_below_drewN | apply below_drew1) | exact HB.out))); (case aF => exact (fun _ _ => trivial)); (case aO => exact (by (with_reducible repeat (first | apply Kd.R_alloc | apply Kd.R_drewN | apply Kd.R_drew)); exact HO_3.out)); (case aS => exact (below_size (by repeat (first | (with_reducible first | exact HB.out | apply below_alloc | apply pw_below_drewN | apply below_drew1) | exact HB.out)))); (case aL => have := LMc3.out; omega); intro v199 w4 ho hb hg hat; rw [← Ny198.out] at ho; have n0_ := Aside0.mk (hb); have n1_ := Aside0.mk (ho); clear HB; clear HO_3; have HB := n0_; have HO200 := n1_; clear n0_ n1_; clear ho hb hg hat))
          go_roundg k1
          case measure => have := HK1.out; omega
          case rel => exact ⟨(y198), (wrap64 (x4_1 + 1)), (by first | rfl | (simp; done) | (simp [*]; done)), H', ⟨by have := HK1.out; omega⟩, ⟨by (with_reducible repeat (first | apply Kd.R_alloc | apply Kd.R_drewN | apply Kd.R_drew)); exact HO200.out⟩, ⟨by repeat (first | (with_reducible first | exact HB.out | apply below_alloc | apply pw_below_drewN | apply below_drew1) | exact HB.out)⟩⟩
        · rw [if_neg c3] at H
          exact absurd H (by simp)
      · rw [if_neg c2] at H
        have c2b0 : decide (x4_1 < a0) = false := decide_eq_false c2
        clear c2
        obtain rfl := Option.some.inj H
        go_wp2
        go_ret
        exact ⟨_, by first | rfl | (simp [errW_none, errW_some] <;> rfl) | (simp [*, errW_none, errW_some] <;> rfl), by (with_reducible repeat (first | apply Kd.R_alloc | apply Kd.R_drewN | apply Kd.R_drew)); exact HO_3.out, by repeat (first | (with_reducible first | exact HB.out | apply below_alloc | apply pw_below_drewN | apply below_drew1) | exact HB.out)⟩
def potbankref06_suits.f (a0_0 : Int) (a0_1 : Int) (a0_2 : Int) (a0_3 : Int) (a0_4 : Int) (a1_0 : Int) (a1_1 : Int) (a1_2 : Int) (a1_3 : Int) : Option (Bool) := if a1_0 ≥ a0_2 then (if a1_1 ≤ a0_3 then (some (decide (a1_2 ≥ a0_4))) else (some false)) else (some false)
set_option maxHeartbeats 8000000 in
set_option maxRecDepth 100000 in
theorem potbankref06_suits.calls (a0_0 : Int) (a0_1 : Int) (a0_2 : Int) (a0_3 : Int) (a0_4 : Int) (a1_0 : Int) (a1_1 : Int) (a1_2 : Int) (a1_3 : Int) (r : Bool) (w : World) (h : potbankref06_suits.f a0_0 a0_1 a0_2 a0_3 a0_4 a1_0 a1_1 a1_2 a1_3 = some r) :
    Calls Tryz.prog 80 #[.agg #[.int .i64 a0_0, .int .i64 a0_1, .int .i64 a0_2, .int .i64 a0_3, .int .i64 a0_4], .agg #[.int .i64 a1_0, .int .i64 a1_1, .int .i64 a1_2, .int .i64 a1_3]] w fun e w' => e = .returned (.bool r) ∧ Below w.heap.size w w' := by
  have hu72 := Tryz.underlying72
  have hu70 := Tryz.underlying70
  have HB := Aside0.mk (Below.refl w.heap.size w)
  have H : (if a1_0 ≥ a0_2 then (if a1_1 ≤ a0_3 then (some (decide (a1_2 ≥ a0_4))) else (some false)) else (some false)) = some r := h
  clear h
  by_cases c3 : a1_0 ≥ a0_2
  · rw [if_pos c3] at H
    have c3b0 : decide (a0_2 ≤ a1_0) = true := decide_eq_true c3
    clear c3
    by_cases c4 : a1_1 ≤ a0_3
    · rw [if_pos c4] at H
      have c4b0 : decide (a1_1 ≤ a0_3) = true := decide_eq_true c4
      clear c4
      obtain rfl := Option.some.inj H
      go_enter Tryz.func80, Tryz.ntmps80
      go_wp2_with (first | ((with_reducible refine gate_dst (N := 2) rfl ?_); refine box_event ?hg (N := 2) ?hd (cs := #[.int .i64 a0_0, .int .i64 a0_1, .int .i64 a0_2, .int .i64 a0_3, .int .i64 a0_4]) (t := 72) ?hr ?_; (case hd => rfl); (case hg => rfl); (case hr => first | (go_simp; done) | (go_simp; rfl)); intro gb201 hg w5 hbox hb; have n0_ := Aside0.mk (below_step (by repeat (first | (with_reducible first | exact HB.out | apply below_alloc | apply pw_below_drewN | apply below_drew1) | exact HB.out)) hb); have n1_ := Aside0.mk (hbox); have n2_ := Aside0.mk ((by rw [hg]; exact (below_size (by repeat (first | (with_reducible first | exact HB.out | apply below_alloc | apply pw_below_drewN | apply below_drew1) | exact HB.out))) : w.heap.size ≤ gb201)); have n3_ := Aside0.mk ((by rw [hg]; exact (below_size (by repeat (first | (with_reducible first | exact HB.out | apply below_alloc | apply pw_below_drewN | apply below_drew1) | exact HB.out))) : w.heap.size ≤ gb201)); clear HB; have HB := n0_; have BK201 := n1_; have GW201 := n2_; have GE201 := n3_; clear n0_ n1_ n2_ n3_; clear hb hbox hg) | ((with_reducible refine gate_dst (N := 3) rfl ?_); refine box_event ?hg (N := 3) ?hd (cs := #[.int .i64 a1_0, .int .i64 a1_1, .int .i64 a1_2, .int .i64 a1_3]) (t := 70) ?hr ?_; (case hd => rfl); (case hg => rfl); (case hr => first | (go_simp; done) | (go_simp; rfl)); intro gb202 hg w6 hbox hb; have n0_ := Aside0.mk (blk_below (g := gb201) (o := .cells #[.int .i64 a0_0, .int .i64 a0_1, .int .i64 a0_2, .int .i64 a0_3, .int .i64 a0_4] 72 (0, 0)) (by (with_reducible repeat (first | refine blk_drewN ?_ _ | refine blk_drew ?_ | refine blk_alloc ?_ _)); exact BK201.out) hb); have n1_ := Aside0.mk (below_step (by repeat (first | (with_reducible first | exact HB.out | apply below_alloc | apply pw_below_drewN | apply below_drew1 | refine below_set ?_ GE201.out) | exact HB.out)) hb); have n2_ := Aside0.mk (hbox); have n3_ := Aside0.mk ((by rw [hg]; exact (below_size (by repeat (first | (with_reducible first | exact HB.out | apply below_alloc | apply pw_below_drewN | apply below_drew1 | refine below_set ?_ GE201.out) | exact HB.out))) : w.heap.size ≤ gb202)); have n4_ := Aside0.mk ((by rw [hg]; exact (below_size (by repeat (first | (with_reducible first | exact HB.out | apply below_alloc | apply pw_below_drewN | apply below_drew1 | refine below_set ?_ GE201.out) | exact HB.out))) : w.heap.size ≤ gb202)); have n5_ := Aside0.mk ((by rw [hg]; exact Nat.ne_of_lt (blk_lt (g := gb201) (o := .cells #[.int .i64 a0_0, .int .i64 a0_1, .int .i64 a0_2, .int .i64 a0_3, .int .i64 a0_4] 72 (0, 0)) (by (with_reducible repeat (first | refine blk_drewN ?_ _ | refine blk_drew ?_ | refine blk_alloc ?_ _)); exact BK201.out)) : gb201 ≠ gb202)); have n6_ := Aside0.mk ((by rw [hg]; exact Nat.ne_of_gt (blk_lt (g := gb201) (o := .cells #[.int .i64 a0_0, .int .i64 a0_1, .int .i64 a0_2, .int .i64 a0_3, .int .i64 a0_4] 72 (0, 0)) (by (with_reducible repeat (first | refine blk_drewN ?_ _ | refine blk_drew ?_ | refine blk_alloc ?_ _)); exact BK201.out)) : gb202 ≠ gb201)); clear BK201; clear HB; have BK201 := n0_; have HB := n1_; have BK202 := n2_; have GW202 := n3_; have GE202 := n4_; have NB201_202 := n5_; have NB202_201 := n6_; clear n0_ n1_ n2_ n3_ n4_ n5_ n6_; clear hb hbox hg; have hnb7 := NB202_201.out; have hnc7 := NB201_202.out; have hcz8_0 : w6.cell? ⟨gb202, 0, none⟩ = some (.int .i64 a1_0) := (blk_cell BK202.out 0).trans rfl; have hcz8_1 : w6.cell? ⟨gb202, 1, none⟩ = some (.int .i64 a1_1) := (blk_cell BK202.out 1).trans rfl; have hcz8_2 : w6.cell? ⟨gb202, 2, none⟩ = some (.int .i64 a1_2) := (blk_cell BK202.out 2).trans rfl; have hcz8_3 : w6.cell? ⟨gb202, 3, none⟩ = some (.int .i64 a1_3) := (blk_cell BK202.out 3).trans rfl; have hfz8_0 := blk_frozen BK202.out 0; have hfz8_1 := blk_frozen BK202.out 1; have hfz8_2 := blk_frozen BK202.out 2; have hfz8_3 := blk_frozen BK202.out 3; have hcz9_0 : w6.cell? ⟨gb201, 0, none⟩ = some (.int .i64 a0_0) := (blk_cell BK201.out 0).trans rfl; have hcz9_1 : w6.cell? ⟨gb201, 1, none⟩ = some (.int .i64 a0_1) := (blk_cell BK201.out 1).trans rfl; have hcz9_2 : w6.cell? ⟨gb201, 2, none⟩ = some (.int .i64 a0_2) := (blk_cell BK201.out 2).trans rfl; have hcz9_3 : w6.cell? ⟨gb201, 3, none⟩ = some (.int .i64 a0_3) := (blk_cell BK201.out 3).trans rfl; have hcz9_4 : w6.cell? ⟨gb201, 4, none⟩ = some (.int .i64 a0_4) := (blk_cell BK201.out 4).trans rfl; have hfz9_0 := blk_frozen BK201.out 0; have hfz9_1 := blk_frozen BK201.out 1; have hfz9_2 := blk_frozen BK201.out 2; have hfz9_3 := blk_frozen BK201.out 3; have hfz9_4 := blk_frozen BK201.out 4))
      go_ret
      exact ⟨by first | rfl | (simp [errW_none, errW_some] <;> rfl) | (simp [*, errW_none, errW_some] <;> rfl), by repeat (first | (with_reducible first | exact HB.out | apply below_alloc | apply pw_below_drewN | apply below_drew1 | refine below_set ?_ GE201.out | refine below_set ?_ GE202.out) | exact HB.out)⟩
    · rw [if_neg c4] at H
      have c4b0 : decide (a1_1 ≤ a0_3) = false := decide_eq_false c4
      clear c4
      obtain rfl := Option.some.inj H
      go_enter Tryz.func80, Tryz.ntmps80
      go_wp2_with (first | ((with_reducible refine gate_dst (N := 2) rfl ?_); refine box_event ?hg (N := 2) ?hd (cs := #[.int .i64 a0_0, .int .i64 a0_1, .int .i64 a0_2, .int .i64 a0_3, .int .i64 a0_4]) (t := 72) ?hr ?_; (case hd => rfl); (case hg => rfl); (case hr => first | (go_simp; done) | (go_simp; rfl)); intro gb201 hg w10 hbox hb; have n0_ := Aside0.mk (below_step (by repeat (first | (with_reducible first | exact HB.out | apply below_alloc | apply pw_below_drewN | apply below_drew1) | exact HB.out)) hb); have n1_ := Aside0.mk (hbox); have n2_ := Aside0.mk ((by rw [hg]; exact (below_size (by repeat (first | (with_reducible first | exact HB.out | apply below_alloc | apply pw_below_drewN | apply below_drew1) | exact HB.out))) : w.heap.size ≤ gb201)); have n3_ := Aside0.mk ((by rw [hg]; exact (below_size (by repeat (first | (with_reducible first | exact HB.out | apply below_alloc | apply pw_below_drewN | apply below_drew1) | exact HB.out))) : w.heap.size ≤ gb201)); clear HB; have HB := n0_; have BK201 := n1_; have GW201 := n2_; have GE201 := n3_; clear n0_ n1_ n2_ n3_; clear hb hbox hg) | ((with_reducible refine gate_dst (N := 3) rfl ?_); refine box_event ?hg (N := 3) ?hd (cs := #[.int .i64 a1_0, .int .i64 a1_1, .int .i64 a1_2, .int .i64 a1_3]) (t := 70) ?hr ?_; (case hd => rfl); (case hg => rfl); (case hr => first | (go_simp; done) | (go_simp; rfl)); intro gb202 hg w11 hbox hb; have n0_ := Aside0.mk (blk_below (g := gb201) (o := .cells #[.int .i64 a0_0, .int .i64 a0_1, .int .i64 a0_2, .int .i64 a0_3, .int .i64 a0_4] 72 (0, 0)) (by (with_reducible repeat (first | refine blk_drewN ?_ _ | refine blk_drew ?_ | refine blk_alloc ?_ _)); exact BK201.out) hb); have n1_ := Aside0.mk (below_step (by repeat (first | (with_reducible first | exact HB.out | apply below_alloc | apply pw_below_drewN | apply below_drew1 | refine below_set ?_ GE201.out) | exact HB.out)) hb); have n2_ := Aside0.mk (hbox); have n3_ := Aside0.mk ((by rw [hg]; exact (below_size (by repeat (first | (with_reducible first | exact HB.out | apply below_alloc | apply pw_below_drewN | apply below_drew1 | refine below_set ?_ GE201.out) | exact HB.out))) : w.heap.size ≤ gb202)); have n4_ := Aside0.mk ((by rw [hg]; exact (below_size (by repeat (first | (with_reducible first | exact HB.out | apply below_alloc | apply pw_below_drewN | apply below_drew1 | refine below_set ?_ GE201.out) | exact HB.out))) : w.heap.size ≤ gb202)); have n5_ := Aside0.mk ((by rw [hg]; exact Nat.ne_of_lt (blk_lt (g := gb201) (o := .cells #[.int .i64 a0_0, .int .i64 a0_1, .int .i64 a0_2, .int .i64 a0_3, .int .i64 a0_4] 72 (0, 0)) (by (with_reducible repeat (first | refine blk_drewN ?_ _ | refine blk_drew ?_ | refine blk_alloc ?_ _)); exact BK201.out)) : gb201 ≠ gb202)); have n6_ := Aside0.mk ((by rw [hg]; exact Nat.ne_of_gt (blk_lt (g := gb201) (o := .cells #[.int .i64 a0_0, .int .i64 a0_1, .int .i64 a0_2, .int .i64 a0_3, .int .i64 a0_4] 72 (0, 0)) (by (with_reducible repeat (first | refine blk_drewN ?_ _ | refine blk_drew ?_ | refine blk_alloc ?_ _)); exact BK201.out)) : gb202 ≠ gb201)); clear BK201; clear HB; have BK201 := n0_; have HB := n1_; have BK202 := n2_; have GW202 := n3_; have GE202 := n4_; have NB201_202 := n5_; have NB202_201 := n6_; clear n0_ n1_ n2_ n3_ n4_ n5_ n6_; clear hb hbox hg; have hnb12 := NB202_201.out; have hnc12 := NB201_202.out; have hcz13_0 : w11.cell? ⟨gb202, 0, none⟩ = some (.int .i64 a1_0) := (blk_cell BK202.out 0).trans rfl; have hcz13_1 : w11.cell? ⟨gb202, 1, none⟩ = some (.int .i64 a1_1) := (blk_cell BK202.out 1).trans rfl; have hcz13_2 : w11.cell? ⟨gb202, 2, none⟩ = some (.int .i64 a1_2) := (blk_cell BK202.out 2).trans rfl; have hcz13_3 : w11.cell? ⟨gb202, 3, none⟩ = some (.int .i64 a1_3) := (blk_cell BK202.out 3).trans rfl; have hfz13_0 := blk_frozen BK202.out 0; have hfz13_1 := blk_frozen BK202.out 1; have hfz13_2 := blk_frozen BK202.out 2; have hfz13_3 := blk_frozen BK202.out 3; have hcz14_0 : w11.cell? ⟨gb201, 0, none⟩ = some (.int .i64 a0_0) := (blk_cell BK201.out 0).trans rfl; have hcz14_1 : w11.cell? ⟨gb201, 1, none⟩ = some (.int .i64 a0_1) := (blk_cell BK201.out 1).trans rfl; have hcz14_2 : w11.cell? ⟨gb201, 2, none⟩ = some (.int .i64 a0_2) := (blk_cell BK201.out 2).trans rfl; have hcz14_3 : w11.cell? ⟨gb201, 3, none⟩ = some (.int .i64 a0_3) := (blk_cell BK201.out 3).trans rfl; have hcz14_4 : w11.cell? ⟨gb201, 4, none⟩ = some (.int .i64 a0_4) := (blk_cell BK201.out 4).trans rfl; have hfz14_0 := blk_frozen BK201.out 0; have hfz14_1 := blk_frozen BK201.out 1; have hfz14_2 := blk_frozen BK201.out 2; have hfz14_3 := blk_frozen BK201.out 3; have hfz14_4 := blk_frozen BK201.out 4))
      go_ret
      exact ⟨by first | rfl | (simp [errW_none, errW_some] <;> rfl) | (simp [*, errW_none, errW_some] <;> rfl), by repeat (first | (with_reducible first | exact HB.out | apply below_alloc | apply pw_below_drewN | apply below_drew1 | refine below_set ?_ GE201.out | refine below_set ?_ GE202.out) | exact HB.out)⟩
  · rw [if_neg c3] at H
    have c3b0 : decide (a0_2 ≤ a1_0) = false := decide_eq_false c3
    clear c3
    obtain rfl := Option.some.inj H
    go_enter Tryz.func80, Tryz.ntmps80
    go_wp2_with (first | ((with_reducible refine gate_dst (N := 2) rfl ?_); refine box_event ?hg (N := 2) ?hd (cs := #[.int .i64 a0_0, .int .i64 a0_1, .int .i64 a0_2, .int .i64 a0_3, .int .i64 a0_4]) (t := 72) ?hr ?_; (case hd => rfl); (case hg => rfl); (case hr => first | (go_simp; done) | (go_simp; rfl)); intro gb201 hg w15 hbox hb; have n0_ := Aside0.mk (below_step (by repeat (first | (with_reducible first | exact HB.out | apply below_alloc | apply pw_below_drewN | apply below_drew1) | exact HB.out)) hb); have n1_ := Aside0.mk (hbox); have n2_ := Aside0.mk ((by rw [hg]; exact (below_size (by repeat (first | (with_reducible first | exact HB.out | apply below_alloc | apply pw_below_drewN | apply below_drew1) | exact HB.out))) : w.heap.size ≤ gb201)); have n3_ := Aside0.mk ((by rw [hg]; exact (below_size (by repeat (first | (with_reducible first | exact HB.out | apply below_alloc | apply pw_below_drewN | apply below_drew1) | exact HB.out))) : w.heap.size ≤ gb201)); clear HB; have HB := n0_; have BK201 := n1_; have GW201 := n2_; have GE201 := n3_; clear n0_ n1_ n2_ n3_; clear hb hbox hg) | ((with_reducible refine gate_dst (N := 3) rfl ?_); refine box_event ?hg (N := 3) ?hd (cs := #[.int .i64 a1_0, .int .i64 a1_1, .int .i64 a1_2, .int .i64 a1_3]) (t := 70) ?hr ?_; (case hd => rfl); (case hg => rfl); (case hr => first | (go_simp; done) | (go_simp; rfl)); intro gb202 hg w16 hbox hb; have n0_ := Aside0.mk (blk_below (g := gb201) (o := .cells #[.int .i64 a0_0, .int .i64 a0_1, .int .i64 a0_2, .int .i64 a0_3, .int .i64 a0_4] 72 (0, 0)) (by (with_reducible repeat (first | refine blk_drewN ?_ _ | refine blk_drew ?_ | refine blk_alloc ?_ _)); exact BK201.out) hb); have n1_ := Aside0.mk (below_step (by repeat (first | (with_reducible first | exact HB.out | apply below_alloc | apply pw_below_drewN | apply below_drew1 | refine below_set ?_ GE201.out) | exact HB.out)) hb); have n2_ := Aside0.mk (hbox); have n3_ := Aside0.mk ((by rw [hg]; exact (below_size (by repeat (first | (with_reducible first | exact HB.out | apply below_alloc | apply pw_below_drewN | apply below_drew1 | refine below_set ?_ GE201.out) | exact HB.out))) : w.heap.size ≤ gb202)); have n4_ := Aside0.mk ((by rw [hg]; exact (below_size (by repeat (first | (with_reducible first | exact HB.out | apply below_alloc | apply pw_below_drewN | apply below_drew1 | refine below_set ?_ GE201.out) | exact HB.out))) : w.heap.size ≤ gb202)); have n5_ := Aside0.mk ((by rw [hg]; exact Nat.ne_of_lt (blk_lt (g := gb201) (o := .cells #[.int .i64 a0_0, .int .i64 a0_1, .int .i64 a0_2, .int .i64 a0_3, .int .i64 a0_4] 72 (0, 0)) (by (with_reducible repeat (first | refine blk_drewN ?_ _ | refine blk_drew ?_ | refine blk_alloc ?_ _)); exact BK201.out)) : gb201 ≠ gb202)); have n6_ := Aside0.mk ((by rw [hg]; exact Nat.ne_of_gt (blk_lt (g := gb201) (o := .cells #[.int .i64 a0_0, .int .i64 a0_1, .int .i64 a0_2, .int .i64 a0_3, .int .i64 a0_4] 72 (0, 0)) (by (with_reducible repeat (first | refine blk_drewN ?_ _ | refine blk_drew ?_ | refine blk_alloc ?_ _)); exact BK201.out)) : gb202 ≠ gb201)); clear BK201; clear HB; have BK201 := n0_; have HB := n1_; have BK202 := n2_; have GW202 := n3_; have GE202 := n4_; have NB201_202 := n5_; have NB202_201 := n6_; clear n0_ n1_ n2_ n3_ n4_ n5_ n6_; clear hb hbox hg; have hnb17 := NB202_201.out; have hnc17 := NB201_202.out; have hcz18_0 : w16.cell? ⟨gb202, 0, none⟩ = some (.int .i64 a1_0) := (blk_cell BK202.out 0).trans rfl; have hcz18_1 : w16.cell? ⟨gb202, 1, none⟩ = some (.int .i64 a1_1) := (blk_cell BK202.out 1).trans rfl; have hcz18_2 : w16.cell? ⟨gb202, 2, none⟩ = some (.int .i64 a1_2) := (blk_cell BK202.out 2).trans rfl; have hcz18_3 : w16.cell? ⟨gb202, 3, none⟩ = some (.int .i64 a1_3) := (blk_cell BK202.out 3).trans rfl; have hfz18_0 := blk_frozen BK202.out 0; have hfz18_1 := blk_frozen BK202.out 1; have hfz18_2 := blk_frozen BK202.out 2; have hfz18_3 := blk_frozen BK202.out 3; have hcz19_0 : w16.cell? ⟨gb201, 0, none⟩ = some (.int .i64 a0_0) := (blk_cell BK201.out 0).trans rfl; have hcz19_1 : w16.cell? ⟨gb201, 1, none⟩ = some (.int .i64 a0_1) := (blk_cell BK201.out 1).trans rfl; have hcz19_2 : w16.cell? ⟨gb201, 2, none⟩ = some (.int .i64 a0_2) := (blk_cell BK201.out 2).trans rfl; have hcz19_3 : w16.cell? ⟨gb201, 3, none⟩ = some (.int .i64 a0_3) := (blk_cell BK201.out 3).trans rfl; have hcz19_4 : w16.cell? ⟨gb201, 4, none⟩ = some (.int .i64 a0_4) := (blk_cell BK201.out 4).trans rfl; have hfz19_0 := blk_frozen BK201.out 0; have hfz19_1 := blk_frozen BK201.out 1; have hfz19_2 := blk_frozen BK201.out 2; have hfz19_3 := blk_frozen BK201.out 3; have hfz19_4 := blk_frozen BK201.out 4))
    go_ret
    exact ⟨by first | rfl | (simp [errW_none, errW_some] <;> rfl) | (simp [*, errW_none, errW_some] <;> rfl), by repeat (first | (with_reducible first | exact HB.out | apply below_alloc | apply pw_below_drewN | apply below_drew1 | refine below_set ?_ GE201.out | refine below_set ?_ GE202.out) | exact HB.out)⟩
end Go.Proofs.YthonlcnmjlldiaaGreat.P
namespace Go.Proofs.YthonlcnmjlldiaaGreat.P
open Go.RowKit Go.Proofs.YthonlcnmjlldiaaGreatW.PrintWords Go.Proofs.YthonlcnmjlldiaaGreatW.PrintLast Go.Proofs.YthonlcnmjlldiaaGreatW.PrintMore
attribute [local go_sem] max2_int min2_int max_two min_two max_three min_three max_four min_four
set_option linter.unusedVariables false
set_option linter.unusedSimpArgs false
mutual
def potbankref06_room.l0 : Nat → List (S70) → List (S72) → List Int → Int → Int → Option (Int)
  | 0, _, _, _, _, _ => none
  | k + 1, x0, x1, x2, x7, x8 => if x8 < (x0.length : Int) then (potbankref06_room.l1 k x0 x1 x2 x7 x8 false 0) else (some x7)
def potbankref06_room.l1 : Nat → List (S70) → List (S72) → List Int → Int → Int → Bool → Int → Option (Int)
  | 0, _, _, _, _, _, _, _ => none
  | k + 1, x0, x1, x2, x7, x8, x9, x10 => if x10 < (x2.length : Int) then (if x9 = true then (potbankref06_room.l1 k x0 x1 x2 x7 x8 true (wrap64 (x10 + 1))) else (if 0 ≤ x10 then (if 0 ≤ (rd x2 x10) then (if (rd x2 x10) < (x1.length : Int) then (if 0 ≤ x8 then (if x8 < (x0.length : Int) then ((potbankref06_suits.f ((rd_T72 x1 (rd x2 x10)).f0) ((rd_T72 x1 (rd x2 x10)).f1) ((rd_T72 x1 (rd x2 x10)).f2.f0) ((rd_T72 x1 (rd x2 x10)).f2.f1) ((rd_T72 x1 (rd x2 x10)).f3) ((rd_T70 x0 x8).f0.f0) ((rd_T70 x0 x8).f0.f1) ((rd_T70 x0 x8).f1) ((rd_T70 x0 x8).f2)).bind fun t206 => (potbankref06_room.l1 k x0 x1 x2 x7 x8 t206 (wrap64 (x10 + 1)))) else (none)) else (none)) else (none)) else (none)) else (none))) else (if x9 = true then (if 0 ≤ x8 then (if x8 < (x0.length : Int) then (potbankref06_room.l0 k x0 x1 x2 (wrap64 (x7 + ((rd_T70 x0 x8).f2))) (wrap64 (x8 + 1))) else (none)) else (none)) else (potbankref06_room.l0 k x0 x1 x2 x7 (wrap64 (x8 + 1))))
end
def potbankref06_room.f (k : Nat) (l0 : List (S70)) (l1 : List (S72)) (l2 : List Int) : Option (Int) := potbankref06_room.l0 k l0 l1 l2 0 0
def potbankref06_room.T9 : Bool × List (List Nat × List Nat) := (true, [([], []), ([0], [0]), ([1], [1]), ([1], [1]), ([1], [1]), ([3, 4, 1], [1, 3, 4]), ([5, 1], [1, 5]), ([2, 6, 1], [1, 2, 6]), ([7, 1], [1, 7]), ([1], [1]), ([1], [1]), ([9, 10, 1], [1, 9, 10]), ([11, 1], [1, 11]), ([8, 12, 1, 1], [1, 8, 12]), ([1, 13], [1, 13]), ([14, 13, 0, 1, 2, 3, 4, 5, 6, 7, 8, 9, 10, 11, 12, 13, 14], [0, 14])])
def potbankref06_room.B9 : List Nat := [0, 1, 3, 3, 3, 27, 59, 127, 255, 3, 3, 1539, 3587, 8191, 16383, 32767]
theorem potbankref06_room.tab9 : rtab .any (opsOf Tryz.f69 9) = potbankref06_room.T9 := by kernel_rfl
theorem potbankref06_room.bits9 : waitsOk potbankref06_room.T9.2 potbankref06_room.B9 = true := by kernel_rfl
set_option maxHeartbeats 8000000 in
set_option maxRecDepth 100000 in
theorem potbankref06_room.calls (k : Nat) (A0 : Option Addr) (c0 : Nat) (l0 : List (S70)) (A1 : Option Addr) (c1 : Nat) (l1 : List (S72)) (A2 : Option Addr) (c2 : Nat) (l2 : List Int) (r : Int) (w : World) (hr0 : Kd.C k70 w A0 l0.length l0) (hc0 : l0.length ≤ c0) (hr1 : Kd.C k72 w A1 l1.length l1) (hc1 : l1.length ≤ c1) (hr2 : Kd.C (Kd.int .i64) w A2 l2.length l2) (hc2 : l2.length ≤ c2) (h : potbankref06_room.f k l0 l1 l2 = some r) :
    Calls Tryz.prog 69 #[.slice A0 l0.length c0, .slice A1 l1.length c1, .slice A2 l2.length c2] w fun e w' => e = .returned (.int .i64 r) ∧ Below w.heap.size w w' := by
  have hu72 := Tryz.underlying72
  have hu70 := Tryz.underlying70
  have HR0 := Aside0.mk hr0
  have HC0 := Aside0.mk hc0
  clear hr0 hc0
  have HR1 := Aside0.mk hr1
  have HC1 := Aside0.mk hc1
  clear hr1 hc1
  have HR2 := Aside0.mk hr2
  have HC2 := Aside0.mk hc2
  clear hr2 hc2
  have HB := Aside0.mk (Below.refl w.heap.size w)
  have H : (potbankref06_room.l0 k l0 l1 l2 0 0) = some r := h
  clear h
  have H' := Aside0.mk H
  clear H
  go_enter Tryz.func69, Tryz.ntmps69
  go_wp2
  go_loopg [7, 8] k (fun kq v7 v8 w' => ∃ (x7_1 : Int) (x8_1 : Int), v7 = .int .i64 x7_1 ∧ v8 = .int .i64 x8_1 ∧ Aside0 (potbankref06_room.l0 kq l0 l1 l2 x7_1 x8_1 = some r) ∧ Aside0 (kq ≤ k) ∧ Aside0 (Below w.heap.size w w'))
  case atStart => exact ⟨(0), (0), (by first | rfl | (simp; done) | (simp [*]; done)), (by first | rfl | (simp; done) | (simp [*]; done)), H', ⟨Nat.le_refl _⟩, ⟨by repeat (first | (with_reducible first | exact HB.out | apply below_alloc | apply pw_below_drewN | apply below_drew1) | exact HB.out)⟩⟩
  case round =>
    clear H'
    try clear c1
    try clear c2
    try clear p2
    obtain ⟨x7_1, x8_1, rfl, rfl, HA, HK1, HB⟩ := hrel
    cases gk with
    | zero => exact absurd HA.out (by simp [potbankref06_room.l0])
    | succ k1 =>
      have H := HA.out
      clear HA
      simp only [potbankref06_room.l0] at H
      by_cases c4 : x8_1 < (l0.length : Int)
      · rw [if_pos c4] at H
        have c4b0 : decide (x8_1 < (l0.length : Int)) = true := decide_eq_true c4
        clear c4
        have H' := Aside0.mk H
        clear H
        go_wp2
        go_loopg [9, 10] k1 (fun kq v9 v10 w' => ∃ (x9_2 : Bool) (x10_2 : Int), v9 = .bool x9_2 ∧ v10 = .int .i64 x10_2 ∧ Aside0 (potbankref06_room.l1 kq l0 l1 l2 x7_1 x8_1 x9_2 x10_2 = some r) ∧ Aside0 (kq ≤ k1) ∧ Aside0 (Below w.heap.size w w'))
        case atStart => exact ⟨(false), (0), (by first | rfl | (simp; done) | (simp [*]; done)), (by first | rfl | (simp; done) | (simp [*]; done)), H', ⟨Nat.le_refl _⟩, ⟨by repeat (first | (with_reducible first | exact HB.out | apply below_alloc | apply pw_below_drewN | apply below_drew1) | exact HB.out)⟩⟩
        case round =>
          clear H'
          try clear c1
          try clear c2
          try clear p2
          try clear c4
          try clear c4b0
          try clear p2
          obtain ⟨x9_2, x10_2, rfl, rfl, HA, HK2, HB⟩ := hrel
          cases gk with
          | zero => exact absurd HA.out (by simp [potbankref06_room.l1])
          | succ k2 =>
            have H := HA.out
            clear HA
            simp only [potbankref06_room.l1] at H
            by_cases c5 : x10_2 < (l2.length : Int)
            · rw [if_pos c5] at H
              have c5b0 : decide (x10_2 < (l2.length : Int)) = true := decide_eq_true c5
              clear c5
              by_cases c6 : x9_2 = true
              · subst c6
                have H1 : (potbankref06_room.l1 k2 l0 l1 l2 x7_1 x8_1 true (wrap64 (x10_2 + 1))) = some r := by rw [if_pos rfl] at H; exact H
                clear H
                have H := H1
                clear H1
                have H' := Aside0.mk H
                clear H
                try go_wp2
                have n0_ := Aside0.mk (below_drew1 HB.out)
                clear HB
                have HB := n0_
                clear n0_
                refine start_ (n := 16) (S := fun w' => True) (ds := []) #[false, false, false, false, false, false, false, false, false, false, false, false, false, false, false, false] (by kernel_rfl) rfl rfl trivial (fun hHeld => ?_); refine with_tabW potbankref06_room.tab9 potbankref06_room.bits9 (fun HT_ HW_ => ?_)
                generalize wr.drew = w7 at HB hHeld ⊢
                refine pure_ (i := 0) (N := some 23) (v := ?_) (a' := ?_) #[true, false, false, false, false, false, false, false, false, false, false, false, false, false, false, false] rfl rfl (any_of HT_.out (by kernel_rfl)) (fun _ _ _ h => h) (Or.inl ⟨by rfl, ?_⟩) ?_ ?_
                rotate_left
                · intro w'
                  go_simp
                  with_reducible rfl
                rotate_left
                · simp only [Act.put, List.setIfInBounds_toArray, List.set_cons_zero, List.set_cons_succ, i64_w, i32_w]
                  rfl
                refine pure_ (i := 1) (N := some 24) (v := ?_) (a' := ?_) #[true, true, false, false, false, false, false, false, false, false, false, false, false, false, false, false] rfl rfl (any_of HT_.out (by kernel_rfl)) (fun _ _ _ h => h) (Or.inl ⟨by rfl, ?_⟩) ?_ ?_
                rotate_left
                · intro w'
                  go_simp
                  with_reducible rfl
                rotate_left
                · simp only [Act.put, List.setIfInBounds_toArray, List.set_cons_zero, List.set_cons_succ, i64_w, i32_w]
                  rfl
                refine pure_ (i := 2) (N := some 25) (v := undef) (a' := ?_) #[true, true, true, false, false, false, false, false, false, false, false, false, false, false, false, false] rfl rfl (any_of HT_.out (by kernel_rfl)) (fun _ _ _ h => h) (Or.inr ⟨by rfl, rfl⟩) ?_ ?_
                rotate_left
                · simp only [Act.put, List.setIfInBounds_toArray, List.set_cons_zero, List.set_cons_succ, i64_w, i32_w]
                  rfl
                refine pure_ (i := 3) (N := some 26) (v := undef) (a' := ?_) #[true, true, true, true, false, false, false, false, false, false, false, false, false, false, false, false] rfl rfl (any_of HT_.out (by kernel_rfl)) (fun _ _ _ h => h) (Or.inr ⟨by rfl, rfl⟩) ?_ ?_
                rotate_left
                · simp only [Act.put, List.setIfInBounds_toArray, List.set_cons_zero, List.set_cons_succ, i64_w, i32_w]
                  rfl
                refine pure_ (i := 4) (N := some 27) (v := undef) (a' := ?_) #[true, true, true, true, true, false, false, false, false, false, false, false, false, false, false, false] rfl rfl (any_of HT_.out (by kernel_rfl)) (fun _ _ _ h => h) (Or.inr ⟨by rfl, rfl⟩) ?_ ?_
                rotate_left
                · simp only [Act.put, List.setIfInBounds_toArray, List.set_cons_zero, List.set_cons_succ, i64_w, i32_w]
                  rfl
                refine pure_ (i := 5) (N := some 28) (v := undef) (a' := ?_) #[true, true, true, true, true, true, false, false, false, false, false, false, false, false, false, false] rfl rfl (any_of HT_.out (by kernel_rfl)) (fun _ _ _ h => h) (Or.inr ⟨by rfl, rfl⟩) ?_ ?_
                rotate_left
                · simp only [Act.put, List.setIfInBounds_toArray, List.set_cons_zero, List.set_cons_succ, i64_w, i32_w]
                  rfl
                refine pure_ (i := 6) (N := some 29) (v := undef) (a' := ?_) #[true, true, true, true, true, true, true, false, false, false, false, false, false, false, false, false] rfl rfl (any_of HT_.out (by kernel_rfl)) (fun _ _ _ h => h) (Or.inr ⟨by rfl, rfl⟩) ?_ ?_
                rotate_left
                · simp only [Act.put, List.setIfInBounds_toArray, List.set_cons_zero, List.set_cons_succ, i64_w, i32_w]
                  rfl
                refine pure_ (i := 7) (N := some 30) (v := undef) (a' := ?_) #[true, true, true, true, true, true, true, true, false, false, false, false, false, false, false, false] rfl rfl (any_of HT_.out (by kernel_rfl)) (fun _ _ _ h => h) (Or.inr ⟨by rfl, rfl⟩) ?_ ?_
                rotate_left
                · simp only [Act.put, List.setIfInBounds_toArray, List.set_cons_zero, List.set_cons_succ, i64_w, i32_w]
                  rfl
                refine pure_ (i := 8) (N := some 31) (v := undef) (a' := ?_) #[true, true, true, true, true, true, true, true, true, false, false, false, false, false, false, false] rfl rfl (any_of HT_.out (by kernel_rfl)) (fun _ _ _ h => h) (Or.inr ⟨by rfl, rfl⟩) ?_ ?_
                rotate_left
                · simp only [Act.put, List.setIfInBounds_toArray, List.set_cons_zero, List.set_cons_succ, i64_w, i32_w]
                  rfl
                refine pure_ (i := 9) (N := some 32) (v := undef) (a' := ?_) #[true, true, true, true, true, true, true, true, true, true, false, false, false, false, false, false] rfl rfl (any_of HT_.out (by kernel_rfl)) (fun _ _ _ h => h) (Or.inr ⟨by rfl, rfl⟩) ?_ ?_
                rotate_left
                · simp only [Act.put, List.setIfInBounds_toArray, List.set_cons_zero, List.set_cons_succ, i64_w, i32_w]
                  rfl
                refine pure_ (i := 10) (N := some 33) (v := undef) (a' := ?_) #[true, true, true, true, true, true, true, true, true, true, true, false, false, false, false, false] rfl rfl (any_of HT_.out (by kernel_rfl)) (fun _ _ _ h => h) (Or.inr ⟨by rfl, rfl⟩) ?_ ?_
                rotate_left
                · simp only [Act.put, List.setIfInBounds_toArray, List.set_cons_zero, List.set_cons_succ, i64_w, i32_w]
                  rfl
                refine pure_ (i := 11) (N := some 34) (v := undef) (a' := ?_) #[true, true, true, true, true, true, true, true, true, true, true, true, false, false, false, false] rfl rfl (any_of HT_.out (by kernel_rfl)) (fun _ _ _ h => h) (Or.inr ⟨by rfl, rfl⟩) ?_ ?_
                rotate_left
                · simp only [Act.put, List.setIfInBounds_toArray, List.set_cons_zero, List.set_cons_succ, i64_w, i32_w]
                  rfl
                refine pure_ (i := 12) (N := some 35) (v := undef) (a' := ?_) #[true, true, true, true, true, true, true, true, true, true, true, true, true, false, false, false] rfl rfl (any_of HT_.out (by kernel_rfl)) (fun _ _ _ h => h) (Or.inr ⟨by rfl, rfl⟩) ?_ ?_
                rotate_left
                · simp only [Act.put, List.setIfInBounds_toArray, List.set_cons_zero, List.set_cons_succ, i64_w, i32_w]
                  rfl
                refine pure_ (i := 13) (N := some 36) (v := undef) (a' := ?_) #[true, true, true, true, true, true, true, true, true, true, true, true, true, true, false, false] rfl rfl (any_of HT_.out (by kernel_rfl)) (fun _ _ _ h => h) (Or.inr ⟨by rfl, rfl⟩) ?_ ?_
                rotate_left
                · simp only [Act.put, List.setIfInBounds_toArray, List.set_cons_zero, List.set_cons_succ, i64_w, i32_w]
                  rfl
                refine pure_ (i := 14) (N := some 37) (v := ?_) (a' := ?_) #[true, true, true, true, true, true, true, true, true, true, true, true, true, true, true, false] rfl rfl (any_of HT_.out (by kernel_rfl)) (fun _ _ _ h => h) (Or.inl ⟨by rfl, ?_⟩) ?_ ?_
                rotate_left
                · intro w'
                  go_simp
                  with_reducible rfl
                rotate_left
                · simp only [Act.put, List.setIfInBounds_toArray, List.set_cons_zero, List.set_cons_succ, i64_w, i32_w]
                  rfl
                refine pure_ (i := 15) (N := some 9) (v := ?_) (a' := ?_) #[true, true, true, true, true, true, true, true, true, true, true, true, true, true, true, true] rfl rfl (any_of HT_.out (by kernel_rfl)) (fun _ _ _ h => h) (Or.inl ⟨by rfl, ?_⟩) ?_ ?_
                rotate_left
                · intro w'
                  go_simp
                  with_reducible rfl
                rotate_left
                · simp only [Act.put, List.setIfInBounds_toArray, List.set_cons_zero, List.set_cons_succ, i64_w, i32_w]
                  rfl
                refine done_ (done_of HT_.out (by kernel_rfl)) ?_
                try go_wp2
                go_roundg k2
                case measure => have := HK1.out; have := HK2.out; omega
                case rel => exact ⟨(true), (wrap64 (x10_2 + 1)), (by first | rfl | (simp; done) | (simp [*]; done)), (by first | rfl | (simp; done) | (simp [*]; done)), H', ⟨by have := HK1.out; have := HK2.out; omega⟩, ⟨by repeat (first | (with_reducible first | exact HB.out | apply below_alloc | apply pw_below_drewN | apply below_drew1) | exact HB.out)⟩⟩
              · replace c6 := Bool.eq_false_iff.mpr c6
                subst c6
                have H1 : (if 0 ≤ x10_2 then (if 0 ≤ (rd l2 x10_2) then (if (rd l2 x10_2) < (l1.length : Int) then (if 0 ≤ x8_1 then (if x8_1 < (l0.length : Int) then ((potbankref06_suits.f ((rd_T72 l1 (rd l2 x10_2)).f0) ((rd_T72 l1 (rd l2 x10_2)).f1) ((rd_T72 l1 (rd l2 x10_2)).f2.f0) ((rd_T72 l1 (rd l2 x10_2)).f2.f1) ((rd_T72 l1 (rd l2 x10_2)).f3) ((rd_T70 l0 x8_1).f0.f0) ((rd_T70 l0 x8_1).f0.f1) ((rd_T70 l0 x8_1).f1) ((rd_T70 l0 x8_1).f2)).bind fun t206 => (potbankref06_room.l1 k2 l0 l1 l2 x7_1 x8_1 t206 (wrap64 (x10_2 + 1)))) else (none)) else (none)) else (none)) else (none)) else (none)) = some r := by rw [if_neg (show ¬ (false = true) by decide)] at H; exact H
                clear H
                have H := H1
                clear H1
                by_cases c8 : 0 ≤ x10_2
                · rw [if_pos c8] at H
                  have c8b0 : decide (0 ≤ x10_2) = true := decide_eq_true c8
                  clear c8
                  by_cases c9 : 0 ≤ (rd l2 x10_2)
                  · rw [if_pos c9] at H
                    have c9b0 : decide (0 ≤ (rd l2 x10_2)) = true := decide_eq_true c9
                    clear c9
                    by_cases c10 : (rd l2 x10_2) < (l1.length : Int)
                    · rw [if_pos c10] at H
                      have c10b0 : decide ((rd l2 x10_2) < (l1.length : Int)) = true := decide_eq_true c10
                      clear c10
                      by_cases c11 : 0 ≤ x8_1
                      · rw [if_pos c11] at H
                        have c11b0 : decide (0 ≤ x8_1) = true := decide_eq_true c11
                        clear c11
                        by_cases c12 : x8_1 < (l0.length : Int)
                        · rw [if_pos c12] at H
                          have c12b0 : decide (x8_1 < (l0.length : Int)) = true := decide_eq_true c12
                          clear c12
                          replace H := Option.bind_eq_some_iff.mp H
                          obtain ⟨t206, A130, H⟩ := H
                          replace H : (potbankref06_room.l1 k2 l0 l1 l2 x7_1 x8_1 t206 (wrap64 (x10_2 + 1))) = some r := H
                          have A13 := Aside0.mk A130
                          clear A130
                          have H' := Aside0.mk H
                          clear H
                          try go_wp2
                          have n0_ := Aside0.mk (below_drew1 HB.out)
                          clear HB
                          have HB := n0_
                          clear n0_
                          have p203 : 0 ≤ (x10_2 : Int) := of_decide_eq_true (by first | (with_reducible assumption) | assumption)
                          have q203 : x10_2 < (l2.length : Int) := of_decide_eq_true (by first | (with_reducible assumption) | assumption)
                          obtain ⟨ad203, e203, hx203_0⟩ := Kd.at_int HR2.out x10_2 p203 q203
                          have hw203_0 := hx203_0
                          cases e203
                          replace hx203_0 := (HB.out.cell (World.block_lt_of_cell? w _ hx203_0)).trans hx203_0
                          replace p203 := eq_true p203
                          replace q203 := eq_true q203
                          have p204 : 0 ≤ ((rd l2 x10_2) : Int) := of_decide_eq_true (by first | (with_reducible assumption) | assumption)
                          have q204 : (rd l2 x10_2) < (l1.length : Int) := of_decide_eq_true (by first | (with_reducible assumption) | assumption)
                          obtain ⟨ad204, e204, hx204_0, hx204_1, hx204_2, hx204_3, hx204_4⟩ := at_T72 HR1.out (rd l2 x10_2) p204 q204
                          have hw204_4 := hx204_4
                          have hw204_3 := hx204_3
                          have hw204_2 := hx204_2
                          have hw204_1 := hx204_1
                          have hw204_0 := hx204_0
                          cases e204
                          replace hx204_0 := (HB.out.cell (World.block_lt_of_cell? w _ hx204_0)).trans hx204_0
                          replace hx204_1 := (HB.out.cell (World.block_lt_of_cell? w _ hx204_1)).trans hx204_1
                          replace hx204_2 := (HB.out.cell (World.block_lt_of_cell? w _ hx204_2)).trans hx204_2
                          replace hx204_3 := (HB.out.cell (World.block_lt_of_cell? w _ hx204_3)).trans hx204_3
                          replace hx204_4 := (HB.out.cell (World.block_lt_of_cell? w _ hx204_4)).trans hx204_4
                          replace p204 := eq_true p204
                          replace q204 := eq_true q204
                          have p205 : 0 ≤ (x8_1 : Int) := of_decide_eq_true (by first | (with_reducible assumption) | assumption)
                          have q205 : x8_1 < (l0.length : Int) := of_decide_eq_true (by first | (with_reducible assumption) | assumption)
                          obtain ⟨ad205, e205, hx205_0, hx205_1, hx205_2, hx205_3⟩ := at_T70 HR0.out x8_1 p205 q205
                          have hw205_3 := hx205_3
                          have hw205_2 := hx205_2
                          have hw205_1 := hx205_1
                          have hw205_0 := hx205_0
                          cases e205
                          replace hx205_0 := (HB.out.cell (World.block_lt_of_cell? w _ hx205_0)).trans hx205_0
                          replace hx205_1 := (HB.out.cell (World.block_lt_of_cell? w _ hx205_1)).trans hx205_1
                          replace hx205_2 := (HB.out.cell (World.block_lt_of_cell? w _ hx205_2)).trans hx205_2
                          replace hx205_3 := (HB.out.cell (World.block_lt_of_cell? w _ hx205_3)).trans hx205_3
                          replace p205 := eq_true p205
                          replace q205 := eq_true q205
                          refine start_ (n := 16) (S := fun w' => w'.cell? (ad203.add (x10_2).toNat) = some (.int .i64 (rd l2 x10_2)) ∧ w'.cell? (ad204.add (((rd l2 x10_2)).toNat * 5)) = some (.int .i64 ((rd_T72 l1 (rd l2 x10_2)).f0)) ∧ w'.cell? ⟨(ad204.add (((rd l2 x10_2)).toNat * 5)).block, (ad204.add (((rd l2 x10_2)).toNat * 5)).off + 1, none⟩ = some (.int .i64 ((rd_T72 l1 (rd l2 x10_2)).f1)) ∧ w'.cell? ⟨(ad204.add (((rd l2 x10_2)).toNat * 5)).block, (ad204.add (((rd l2 x10_2)).toNat * 5)).off + 2, none⟩ = some (.int .i64 ((rd_T72 l1 (rd l2 x10_2)).f2.f0)) ∧ w'.cell? ⟨(ad204.add (((rd l2 x10_2)).toNat * 5)).block, (ad204.add (((rd l2 x10_2)).toNat * 5)).off + 3, none⟩ = some (.int .i64 ((rd_T72 l1 (rd l2 x10_2)).f2.f1)) ∧ w'.cell? ⟨(ad204.add (((rd l2 x10_2)).toNat * 5)).block, (ad204.add (((rd l2 x10_2)).toNat * 5)).off + 4, none⟩ = some (.int .i64 ((rd_T72 l1 (rd l2 x10_2)).f3)) ∧ w'.cell? (ad205.add ((x8_1).toNat * 4)) = some (.int .i64 ((rd_T70 l0 x8_1).f0.f0)) ∧ w'.cell? ⟨(ad205.add ((x8_1).toNat * 4)).block, (ad205.add ((x8_1).toNat * 4)).off + 1, none⟩ = some (.int .i64 ((rd_T70 l0 x8_1).f0.f1)) ∧ w'.cell? ⟨(ad205.add ((x8_1).toNat * 4)).block, (ad205.add ((x8_1).toNat * 4)).off + 2, none⟩ = some (.int .i64 ((rd_T70 l0 x8_1).f1)) ∧ w'.cell? ⟨(ad205.add ((x8_1).toNat * 4)).block, (ad205.add ((x8_1).toNat * 4)).off + 3, none⟩ = some (.int .i64 ((rd_T70 l0 x8_1).f2))) (ds := []) #[false, false, false, false, false, false, false, false, false, false, false, false, false, false, false, false] (by kernel_rfl) rfl rfl ⟨((HB.out.cell (World.block_lt_of_cell? w _ hw203_0)).trans hw203_0), ((HB.out.cell (World.block_lt_of_cell? w _ hw204_0)).trans hw204_0), ((HB.out.cell (World.block_lt_of_cell? w _ hw204_1)).trans hw204_1), ((HB.out.cell (World.block_lt_of_cell? w _ hw204_2)).trans hw204_2), ((HB.out.cell (World.block_lt_of_cell? w _ hw204_3)).trans hw204_3), ((HB.out.cell (World.block_lt_of_cell? w _ hw204_4)).trans hw204_4), ((HB.out.cell (World.block_lt_of_cell? w _ hw205_0)).trans hw205_0), ((HB.out.cell (World.block_lt_of_cell? w _ hw205_1)).trans hw205_1), ((HB.out.cell (World.block_lt_of_cell? w _ hw205_2)).trans hw205_2), ((HB.out.cell (World.block_lt_of_cell? w _ hw205_3)).trans hw205_3)⟩ (fun hHeld => ?_); refine with_tabW potbankref06_room.tab9 potbankref06_room.bits9 (fun HT_ HW_ => ?_)
                          generalize wr.drew = w14 at HB hx203_0 hx204_0 hx204_1 hx204_2 hx204_3 hx204_4 hx205_0 hx205_1 hx205_2 hx205_3 hHeld ⊢
                          refine pure_ (i := 0) (N := some 23) (v := ?_) (a' := ?_) #[true, false, false, false, false, false, false, false, false, false, false, false, false, false, false, false] rfl rfl (any_of HT_.out (by kernel_rfl)) (fun _ _ _ h => h) (Or.inl ⟨by rfl, ?_⟩) ?_ ?_
                          rotate_left
                          · intro w'
                            go_simp
                            with_reducible rfl
                          rotate_left
                          · simp only [Act.put, List.setIfInBounds_toArray, List.set_cons_zero, List.set_cons_succ, i64_w, i32_w]
                            rfl
                          refine pure_ (i := 1) (N := some 24) (v := ?_) (a' := ?_) #[true, true, false, false, false, false, false, false, false, false, false, false, false, false, false, false] rfl rfl (any_of HT_.out (by kernel_rfl)) (fun _ _ _ h => h) (Or.inl ⟨by rfl, ?_⟩) ?_ ?_
                          rotate_left
                          · intro w'
                            go_simp
                            with_reducible rfl
                          rotate_left
                          · simp only [Act.put, List.setIfInBounds_toArray, List.set_cons_zero, List.set_cons_succ, i64_w, i32_w]
                            rfl
                          refine pure_ (i := 2) (N := some 25) (v := ?_) (a' := ?_) #[true, true, true, false, false, false, false, false, false, false, false, false, false, false, false, false] rfl rfl (any_of HT_.out (by kernel_rfl)) (fun _ _ _ h => h) (Or.inl ⟨by rfl, ?_⟩) ?_ ?_
                          rotate_left
                          · intro w'
                            go_simp
                            with_reducible rfl
                          rotate_left
                          · simp only [Act.put, List.setIfInBounds_toArray, List.set_cons_zero, List.set_cons_succ, i64_w, i32_w]
                            rfl
                          refine pure_ (i := 3) (N := some 26) (v := ?_) (a' := ?_) #[true, true, true, true, false, false, false, false, false, false, false, false, false, false, false, false] rfl rfl (any_of HT_.out (by kernel_rfl)) (fun _ _ _ h => h) (Or.inl ⟨by rfl, ?_⟩) ?_ ?_
                          rotate_left
                          · intro w'
                            go_simp
                            with_reducible rfl
                          rotate_left
                          · simp only [Act.put, List.setIfInBounds_toArray, List.set_cons_zero, List.set_cons_succ, i64_w, i32_w]
                            rfl
                          refine pure_ (i := 4) (N := some 27) (v := ?_) (a' := ?_) #[true, true, true, true, true, false, false, false, false, false, false, false, false, false, false, false] rfl rfl (any_of HT_.out (by kernel_rfl)) (fun _ _ _ h => h) (Or.inl ⟨by rfl, ?_⟩) ?_ ?_
                          rotate_left
                          · intro w'
                            go_simp
                            with_reducible rfl
                          rotate_left
                          · simp only [Act.put, List.setIfInBounds_toArray, List.set_cons_zero, List.set_cons_succ, i64_w, i32_w]
                            rfl
                          refine pure_ (i := 5) (N := some 28) (v := ?_) (a' := ?_) #[true, true, true, true, true, true, false, false, false, false, false, false, false, false, false, false] rfl rfl (any_of HT_.out (by kernel_rfl)) (fun _ _ _ h => h) (Or.inl ⟨by rfl, ?_⟩) ?_ ?_
                          rotate_left
                          · intro w'
                            go_simp
                            with_reducible rfl
                          rotate_left
                          · simp only [Act.put, List.setIfInBounds_toArray, List.set_cons_zero, List.set_cons_succ, i64_w, i32_w]
                            rfl
                          refine pure_ (i := 9) (N := some 32) (v := ?_) (a' := ?_) #[true, true, true, true, true, true, false, false, false, true, false, false, false, false, false, false] rfl rfl (any_of HT_.out (by kernel_rfl)) (fun _ _ _ h => h) (Or.inl ⟨by rfl, ?_⟩) ?_ ?_
                          rotate_left
                          · intro w'
                            go_simp
                            with_reducible rfl
                          rotate_left
                          · simp only [Act.put, List.setIfInBounds_toArray, List.set_cons_zero, List.set_cons_succ, i64_w, i32_w]
                            rfl
                          refine pure_ (i := 10) (N := some 33) (v := ?_) (a' := ?_) #[true, true, true, true, true, true, false, false, false, true, true, false, false, false, false, false] rfl rfl (any_of HT_.out (by kernel_rfl)) (fun _ _ _ h => h) (Or.inl ⟨by rfl, ?_⟩) ?_ ?_
                          rotate_left
                          · intro w'
                            go_simp
                            with_reducible rfl
                          rotate_left
                          · simp only [Act.put, List.setIfInBounds_toArray, List.set_cons_zero, List.set_cons_succ, i64_w, i32_w]
                            rfl
                          refine pure_ (i := 11) (N := some 34) (v := ?_) (a' := ?_) #[true, true, true, true, true, true, false, false, false, true, true, true, false, false, false, false] rfl rfl (any_of HT_.out (by kernel_rfl)) (fun _ _ _ h => h) (Or.inl ⟨by rfl, ?_⟩) ?_ ?_
                          rotate_left
                          · intro w'
                            go_simp
                            with_reducible rfl
                          rotate_left
                          · simp only [Act.put, List.setIfInBounds_toArray, List.set_cons_zero, List.set_cons_succ, i64_w, i32_w]
                            rfl
                          refine take_ (i := 6) (N := some 29) (v := ?_) (a' := ?_) #[true, true, true, true, true, true, true, false, false, true, true, true, false, false, false, false] rfl rfl (take_ofW HT_.out HW_.out (by kernel_rfl)) (fun _ _ _ h => h) (Or.inl ⟨by rfl, ?_⟩) hHeld ?_ ?_
                          rotate_left
                          · rintro w' ⟨s0, s1, s2, s3, s4, s5, s6, s7, s8, s9⟩
                            go_simp
                            with_reducible rfl
                          rotate_left
                          · simp only [Act.put, List.setIfInBounds_toArray, List.set_cons_zero, List.set_cons_succ, i64_w, i32_w]
                            rfl
                          refine pure_ (i := 7) (N := some 30) (v := ?_) (a' := ?_) #[true, true, true, true, true, true, true, true, false, true, true, true, false, false, false, false] rfl rfl (any_of HT_.out (by kernel_rfl)) (fun _ _ _ h => h) (Or.inl ⟨by rfl, ?_⟩) ?_ ?_
                          rotate_left
                          · intro w'
                            go_simp
                            with_reducible rfl
                          rotate_left
                          · simp only [Act.put, List.setIfInBounds_toArray, List.set_cons_zero, List.set_cons_succ, i64_w, i32_w]
                            rfl
                          refine take_ (i := 8) (N := some 31) (v := ?_) (a' := ?_) #[true, true, true, true, true, true, true, true, true, true, true, true, false, false, false, false] rfl rfl (take_ofW HT_.out HW_.out (by kernel_rfl)) (fun _ _ _ h => h) (Or.inl ⟨by rfl, ?_⟩) hHeld ?_ ?_
                          rotate_left
                          · rintro w' ⟨s0, s1, s2, s3, s4, s5, s6, s7, s8, s9⟩
                            go_simp
                            with_reducible rfl
                          rotate_left
                          · simp only [Act.put, List.setIfInBounds_toArray, List.set_cons_zero, List.set_cons_succ, i64_w, i32_w]
                            rfl
                          refine take_ (i := 12) (N := some 35) (v := ?_) (a' := ?_) #[true, true, true, true, true, true, true, true, true, true, true, true, true, false, false, false] rfl rfl (take_ofW HT_.out HW_.out (by kernel_rfl)) (fun _ _ _ h => h) (Or.inl ⟨by rfl, ?_⟩) hHeld ?_ ?_
                          rotate_left
                          · rintro w' ⟨s0, s1, s2, s3, s4, s5, s6, s7, s8, s9⟩
                            go_simp
                            with_reducible rfl
                          rotate_left
                          · simp only [Act.put, List.setIfInBounds_toArray, List.set_cons_zero, List.set_cons_succ, i64_w, i32_w]
                            rfl
                          refine one_ (i := 13) (N := some 36) #[true, true, true, true, true, true, true, true, true, true, true, true, true, true, false, false] rfl rfl (one_of HT_.out (by kernel_rfl)) (by decide) (fun K hK => ?_)
                          refine goes_ Tryz.func80 (by kernel_rfl) rfl #[.agg #[.int .i64 ((rd_T72 l1 (rd l2 x10_2)).f0), .int .i64 ((rd_T72 l1 (rd l2 x10_2)).f1), .int .i64 ((rd_T72 l1 (rd l2 x10_2)).f2.f0), .int .i64 ((rd_T72 l1 (rd l2 x10_2)).f2.f1), .int .i64 ((rd_T72 l1 (rd l2 x10_2)).f3)], .agg #[.int .i64 ((rd_T70 l0 x8_1).f0.f0), .int .i64 ((rd_T70 l0 x8_1).f0.f1), .int .i64 ((rd_T70 l0 x8_1).f1), .int .i64 ((rd_T70 l0 x8_1).f2)]] (by rfl) rfl rfl (by (try simp only [List.map_toArray, List.map_cons, List.map_nil]); first | done | rfl | (simp only [List.length_drop, List.length_take]; rfl)) ?_
                          with_reducible refine (potbankref06_suits.calls ((rd_T72 l1 (rd l2 x10_2)).f0) ((rd_T72 l1 (rd l2 x10_2)).f1) ((rd_T72 l1 (rd l2 x10_2)).f2.f0) ((rd_T72 l1 (rd l2 x10_2)).f2.f1) ((rd_T72 l1 (rd l2 x10_2)).f3) ((rd_T70 l0 x8_1).f0.f0) ((rd_T70 l0 x8_1).f0.f1) ((rd_T70 l0 x8_1).f1) ((rd_T70 l0 x8_1).f2) t206 _ A13.out).mono ?_
                          rintro e w15 ⟨rfl, hb⟩
                          refine ⟨_, rfl, ?_⟩
                          have n0_ := Aside0.mk (below_step (by repeat (first | (with_reducible first | exact HB.out | apply below_alloc | apply pw_below_drewN | apply below_drew1) | exact HB.out)) hb)
                          clear HB
                          have HB := n0_
                          clear n0_
                          (try clear hb)
                          (try clear hb2)
                          (try clear hk)
                          (try clear hi)
                          refine hK.out _ _ ⟨((HB.out.cell (World.block_lt_of_cell? w _ hw203_0)).trans hw203_0), ((HB.out.cell (World.block_lt_of_cell? w _ hw204_0)).trans hw204_0), ((HB.out.cell (World.block_lt_of_cell? w _ hw204_1)).trans hw204_1), ((HB.out.cell (World.block_lt_of_cell? w _ hw204_2)).trans hw204_2), ((HB.out.cell (World.block_lt_of_cell? w _ hw204_3)).trans hw204_3), ((HB.out.cell (World.block_lt_of_cell? w _ hw204_4)).trans hw204_4), ((HB.out.cell (World.block_lt_of_cell? w _ hw205_0)).trans hw205_0), ((HB.out.cell (World.block_lt_of_cell? w _ hw205_1)).trans hw205_1), ((HB.out.cell (World.block_lt_of_cell? w _ hw205_2)).trans hw205_2), ((HB.out.cell (World.block_lt_of_cell? w _ hw205_3)).trans hw205_3)⟩ (fun hHeld => ?_)
                          clear hK K
                          refine norm_ (a' := ?_) ?_ ?_
                          rotate_left
                          · show Act.put _ (some 36) _ = _
                            simp only [Act.put, List.setIfInBounds_toArray, List.set_cons_zero, List.set_cons_succ, i64_w, i32_w]
                            rfl
                          refine pure_ (i := 14) (N := some 37) (v := ?_) (a' := ?_) #[true, true, true, true, true, true, true, true, true, true, true, true, true, true, true, false] rfl rfl (any_of HT_.out (by kernel_rfl)) (fun _ _ _ h => h) (Or.inl ⟨by rfl, ?_⟩) ?_ ?_
                          rotate_left
                          · intro w'
                            go_simp
                            with_reducible rfl
                          rotate_left
                          · simp only [Act.put, List.setIfInBounds_toArray, List.set_cons_zero, List.set_cons_succ, i64_w, i32_w]
                            rfl
                          refine pure_ (i := 15) (N := some 9) (v := ?_) (a' := ?_) #[true, true, true, true, true, true, true, true, true, true, true, true, true, true, true, true] rfl rfl (any_of HT_.out (by kernel_rfl)) (fun _ _ _ h => h) (Or.inl ⟨by rfl, ?_⟩) ?_ ?_
                          rotate_left
                          · intro w'
                            go_simp
                            with_reducible rfl
                          rotate_left
                          · simp only [Act.put, List.setIfInBounds_toArray, List.set_cons_zero, List.set_cons_succ, i64_w, i32_w]
                            rfl
                          refine done_ (done_of HT_.out (by kernel_rfl)) ?_
                          try go_wp2
                          go_roundg k2
                          case measure => have := HK1.out; have := HK2.out; omega
                          case rel => exact ⟨(t206), (wrap64 (x10_2 + 1)), (by first | rfl | (simp; done) | (simp [*]; done)), (by first | rfl | (simp; done) | (simp [*]; done)), H', ⟨by have := HK1.out; have := HK2.out; omega⟩, ⟨by repeat (first | (with_reducible first | exact HB.out | apply below_alloc | apply pw_below_drewN | apply below_drew1) | exact HB.out)⟩⟩
                        · rw [if_neg c12] at H
                          exact absurd H (by simp)
                      · rw [if_neg c11] at H
                        exact absurd H (by simp)
                    · rw [if_neg c10] at H
                      exact absurd H (by simp)
                  · rw [if_neg c9] at H
                    exact absurd H (by simp)
                · rw [if_neg c8] at H
                  exact absurd H (by simp)
            · rw [if_neg c5] at H
              have c5b0 : decide (x10_2 < (l2.length : Int)) = false := decide_eq_false c5
              clear c5
              by_cases c16 : x9_2 = true
              · subst c16
                have H1 : (if 0 ≤ x8_1 then (if x8_1 < (l0.length : Int) then (potbankref06_room.l0 k2 l0 l1 l2 (wrap64 (x7_1 + ((rd_T70 l0 x8_1).f2))) (wrap64 (x8_1 + 1))) else (none)) else (none)) = some r := by rw [if_pos rfl] at H; exact H
                clear H
                have H := H1
                clear H1
                by_cases c17 : 0 ≤ x8_1
                · rw [if_pos c17] at H
                  have c17b0 : decide (0 ≤ x8_1) = true := decide_eq_true c17
                  clear c17
                  by_cases c18 : x8_1 < (l0.length : Int)
                  · rw [if_pos c18] at H
                    have c18b0 : decide (x8_1 < (l0.length : Int)) = true := decide_eq_true c18
                    clear c18
                    have H' := Aside0.mk H
                    clear H
                    have p207 : 0 ≤ (x8_1 : Int) := of_decide_eq_true (by first | (with_reducible assumption) | assumption)
                    have q207 : x8_1 < (l0.length : Int) := of_decide_eq_true (by first | (with_reducible assumption) | assumption)
                    obtain ⟨ad207, e207, hx207_0, hx207_1, hx207_2, hx207_3⟩ := at_T70 HR0.out x8_1 p207 q207
                    cases e207
                    replace hx207_0 := (HB.out.cell (World.block_lt_of_cell? w _ hx207_0)).trans hx207_0
                    replace hx207_1 := (HB.out.cell (World.block_lt_of_cell? w _ hx207_1)).trans hx207_1
                    replace hx207_2 := (HB.out.cell (World.block_lt_of_cell? w _ hx207_2)).trans hx207_2
                    replace hx207_3 := (HB.out.cell (World.block_lt_of_cell? w _ hx207_3)).trans hx207_3
                    replace p207 := eq_true p207
                    replace q207 := eq_true q207
                    go_wp2
                    go_roundg k2
                    case measure => have := HK1.out; have := HK2.out; omega
                    case rel => exact ⟨(wrap64 (x7_1 + ((rd_T70 l0 x8_1).f2))), (wrap64 (x8_1 + 1)), (by first | rfl | (simp; done) | (simp [*]; done)), (by first | rfl | (simp; done) | (simp [*]; done)), H', ⟨by have := HK1.out; have := HK2.out; omega⟩, ⟨by repeat (first | (with_reducible first | exact HB.out | apply below_alloc | apply pw_below_drewN | apply below_drew1) | exact HB.out)⟩⟩
                  · rw [if_neg c18] at H
                    exact absurd H (by simp)
                · rw [if_neg c17] at H
                  exact absurd H (by simp)
              · replace c16 := Bool.eq_false_iff.mpr c16
                subst c16
                have H1 : (potbankref06_room.l0 k2 l0 l1 l2 x7_1 (wrap64 (x8_1 + 1))) = some r := by rw [if_neg (show ¬ (false = true) by decide)] at H; exact H
                clear H
                have H := H1
                clear H1
                have H' := Aside0.mk H
                clear H
                go_wp2
                go_roundg k2
                case measure => have := HK1.out; have := HK2.out; omega
                case rel => exact ⟨(x7_1), (wrap64 (x8_1 + 1)), (by first | rfl | (simp; done) | (simp [*]; done)), (by first | rfl | (simp; done) | (simp [*]; done)), H', ⟨by have := HK1.out; have := HK2.out; omega⟩, ⟨by repeat (first | (with_reducible first | exact HB.out | apply below_alloc | apply pw_below_drewN | apply below_drew1) | exact HB.out)⟩⟩
      · rw [if_neg c4] at H
        have c4b0 : decide (x8_1 < (l0.length : Int)) = false := decide_eq_false c4
        clear c4
        obtain rfl := Option.some.inj H
        go_wp2
        go_ret
        exact ⟨by first | rfl | (simp [errW_none, errW_some] <;> rfl) | (simp [*, errW_none, errW_some] <;> rfl), by repeat (first | (with_reducible first | exact HB.out | apply below_alloc | apply pw_below_drewN | apply below_drew1) | exact HB.out)⟩
def potbankref06_need.l0 : Nat → List (S72) → List Int → Int → Int → Option (Int)
  | 0, _, _, _, _ => none
  | k + 1, x0, x1, x5, x6 => if x6 < (x1.length : Int) then (if 0 ≤ x6 then (if 0 ≤ (rd x1 x6) then (if (rd x1 x6) < (x0.length : Int) then (potbankref06_need.l0 k x0 x1 (wrap64 (x5 + ((rd_T72 x0 (rd x1 x6)).f1))) (wrap64 (x6 + 1))) else (none)) else (none)) else (none)) else (some x5)
def potbankref06_need.f (k : Nat) (l0 : List (S72)) (l1 : List Int) : Option (Int) := potbankref06_need.l0 k l0 l1 0 0
set_option maxHeartbeats 8000000 in
set_option maxRecDepth 100000 in
theorem potbankref06_need.calls (k : Nat) (A0 : Option Addr) (c0 : Nat) (l0 : List (S72)) (A1 : Option Addr) (c1 : Nat) (l1 : List Int) (r : Int) (w : World) (hr0 : Kd.C k72 w A0 l0.length l0) (hc0 : l0.length ≤ c0) (hr1 : Kd.C (Kd.int .i64) w A1 l1.length l1) (hc1 : l1.length ≤ c1) (h : potbankref06_need.f k l0 l1 = some r) :
    Calls Tryz.prog 72 #[.slice A0 l0.length c0, .slice A1 l1.length c1] w fun e w' => e = .returned (.int .i64 r) ∧ Drawn0 w w' := by
  have HR0 := Aside0.mk hr0
  have HC0 := Aside0.mk hc0
  clear hr0 hc0
  have HR1 := Aside0.mk hr1
  have HC1 := Aside0.mk hc1
  clear hr1 hc1
  have H : (potbankref06_need.l0 k l0 l1 0 0) = some r := h
  clear h
  have H' := Aside0.mk H
  clear H
  go_enter Tryz.func72, Tryz.ntmps72
  go_wp2
  go_loopg [5, 6] k (fun kq v5 v6 w' => ∃ (x5_1 : Int) (x6_1 : Int), v5 = .int .i64 x5_1 ∧ v6 = .int .i64 x6_1 ∧ Aside0 (potbankref06_need.l0 kq l0 l1 x5_1 x6_1 = some r) ∧ Aside0 (kq ≤ k) ∧ Drawn0 w w')
  case atStart => exact ⟨(0), (0), (by first | rfl | (simp; done) | (simp [*]; done)), (by first | rfl | (simp; done) | (simp [*]; done)), H', ⟨Nat.le_refl _⟩, by repeat (first | exact Drawn0.refl _ | apply Drawn0.step)⟩
  case round =>
    clear H'
    try clear c1
    try clear p2
    obtain ⟨x5_1, x6_1, rfl, rfl, HA, HK1, ⟨m1, rfl⟩⟩ := hrel
    cases gk with
    | zero => exact absurd HA.out (by simp [potbankref06_need.l0])
    | succ k1 =>
      have H := HA.out
      clear HA
      simp only [potbankref06_need.l0] at H
      by_cases c3 : x6_1 < (l1.length : Int)
      · rw [if_pos c3] at H
        have c3b0 : decide (x6_1 < (l1.length : Int)) = true := decide_eq_true c3
        clear c3
        by_cases c4 : 0 ≤ x6_1
        · rw [if_pos c4] at H
          have c4b0 : decide (0 ≤ x6_1) = true := decide_eq_true c4
          clear c4
          by_cases c5 : 0 ≤ (rd l1 x6_1)
          · rw [if_pos c5] at H
            have c5b0 : decide (0 ≤ (rd l1 x6_1)) = true := decide_eq_true c5
            clear c5
            by_cases c6 : (rd l1 x6_1) < (l0.length : Int)
            · rw [if_pos c6] at H
              have c6b0 : decide ((rd l1 x6_1) < (l0.length : Int)) = true := decide_eq_true c6
              clear c6
              have H' := Aside0.mk H
              clear H
              have p208 : 0 ≤ (x6_1 : Int) := of_decide_eq_true (by first | (with_reducible assumption) | assumption)
              have q208 : x6_1 < (l1.length : Int) := of_decide_eq_true (by first | (with_reducible assumption) | assumption)
              obtain ⟨ad208, e208, hx208_0⟩ := Kd.at_int HR1.out x6_1 p208 q208
              cases e208
              replace p208 := eq_true p208
              replace q208 := eq_true q208
              have p209 : 0 ≤ ((rd l1 x6_1) : Int) := of_decide_eq_true (by first | (with_reducible assumption) | assumption)
              have q209 : (rd l1 x6_1) < (l0.length : Int) := of_decide_eq_true (by first | (with_reducible assumption) | assumption)
              obtain ⟨ad209, e209, hx209_0, hx209_1, hx209_2, hx209_3, hx209_4⟩ := at_T72 HR0.out (rd l1 x6_1) p209 q209
              cases e209
              replace p209 := eq_true p209
              replace q209 := eq_true q209
              go_wp2
              go_roundg k1
              case measure => have := HK1.out; omega
              case rel => exact ⟨(wrap64 (x5_1 + ((rd_T72 l0 (rd l1 x6_1)).f1))), (wrap64 (x6_1 + 1)), (by first | rfl | (simp; done) | (simp [*]; done)), (by first | rfl | (simp; done) | (simp [*]; done)), H', ⟨by have := HK1.out; omega⟩, by repeat (first | exact Drawn0.refl _ | apply Drawn0.step)⟩
            · rw [if_neg c6] at H
              exact absurd H (by simp)
          · rw [if_neg c5] at H
            exact absurd H (by simp)
        · rw [if_neg c4] at H
          exact absurd H (by simp)
      · rw [if_neg c3] at H
        have c3b0 : decide (x6_1 < (l1.length : Int)) = false := decide_eq_false c3
        clear c3
        obtain rfl := Option.some.inj H
        go_wp2
        go_ret
        exact ⟨by first | rfl | (simp; done) | (simp [*]; done), by repeat (first | exact Drawn0.refl _ | apply Drawn0.step)⟩
def potbankref06_crowded.f (k : Nat) (l0 : List (S70)) (l1 : List (S72)) (l2 : List Int) : Option (Bool) := (potbankref06_need.f k l1 l2).bind fun t210 => ((potbankref06_room.f k l0 l1 l2).bind fun t211 => (some (decide (t210 > t211))))
set_option maxHeartbeats 8000000 in
set_option maxRecDepth 100000 in
theorem potbankref06_crowded.calls (k : Nat) (A0 : Option Addr) (c0 : Nat) (l0 : List (S70)) (A1 : Option Addr) (c1 : Nat) (l1 : List (S72)) (A2 : Option Addr) (c2 : Nat) (l2 : List Int) (r : Bool) (w : World) (hr0 : Kd.C k70 w A0 l0.length l0) (hc0 : l0.length ≤ c0) (hr1 : Kd.C k72 w A1 l1.length l1) (hc1 : l1.length ≤ c1) (hr2 : Kd.C (Kd.int .i64) w A2 l2.length l2) (hc2 : l2.length ≤ c2) (h : potbankref06_crowded.f k l0 l1 l2 = some r) :
    Calls Tryz.prog 60 #[.slice A0 l0.length c0, .slice A1 l1.length c1, .slice A2 l2.length c2] w fun e w' => e = .returned (.bool r) ∧ Below w.heap.size w w' := by
  have HR0 := Aside0.mk hr0
  have HC0 := Aside0.mk hc0
  clear hr0 hc0
  have HR1 := Aside0.mk hr1
  have HC1 := Aside0.mk hc1
  clear hr1 hc1
  have HR2 := Aside0.mk hr2
  have HC2 := Aside0.mk hc2
  clear hr2 hc2
  have HB := Aside0.mk (Below.refl w.heap.size w)
  have H : ((potbankref06_need.f k l1 l2).bind fun t210 => ((potbankref06_room.f k l0 l1 l2).bind fun t211 => (some (decide (t210 > t211))))) = some r := h
  clear h
  replace H := Option.bind_eq_some_iff.mp H
  obtain ⟨t210, A40, H⟩ := H
  replace H : ((potbankref06_room.f k l0 l1 l2).bind fun t211 => (some (decide (t210 > t211)))) = some r := H
  have A4 := Aside0.mk A40
  clear A40
  replace H := Option.bind_eq_some_iff.mp H
  obtain ⟨t211, A50, H⟩ := H
  replace H : (some (decide (t210 > t211))) = some r := H
  have A5 := Aside0.mk A50
  clear A50
  obtain rfl := Option.some.inj H
  go_enter Tryz.func60, Tryz.ntmps60
  go_wp2_with (first | ((with_reducible refine gate_callee (f := 72) rfl ?_); refine goesL_ (some 9) rfl rfl Tryz.func72 (by kernel_rfl) rfl #[.slice A1 l1.length c1, .slice A2 l2.length c2] rfl (by (try simp only [List.map_toArray, List.map_cons, List.map_nil]); first | done | rfl | (simp only [List.length_drop, List.length_take]; rfl)) ?_; (with_reducible refine (potbankref06_need.calls k _ _ l1 _ _ l2 t210 _ ?side1 ?side2 ?side3 ?side4 A4.out).mono ?_); (case side1 => repeat (first | exact HR1.out | (with_reducible refine Kd.C_alloc ?_ _) | (with_reducible refine Kd.C_drewN ?_ _) | (with_reducible refine Kd.C_drew ?_))); (case side2 => exact HC1.out); (case side3 => repeat (first | exact HR2.out | (with_reducible refine Kd.C_alloc ?_ _) | (with_reducible refine Kd.C_drewN ?_ _) | (with_reducible refine Kd.C_drew ?_))); (case side4 => exact HC2.out); rintro e w' ⟨rfl, ⟨nd, rfl⟩⟩; refine ⟨_, rfl, ?_⟩) | ((with_reducible refine gate_callee (f := 69) rfl ?_); refine goesL_ (some 13) rfl rfl Tryz.func69 (by kernel_rfl) rfl #[.slice A0 l0.length c0, .slice A1 l1.length c1, .slice A2 l2.length c2] rfl (by (try simp only [List.map_toArray, List.map_cons, List.map_nil]); first | done | rfl | (simp only [List.length_drop, List.length_take]; rfl)) ?_; (with_reducible refine (potbankref06_room.calls k _ _ l0 _ _ l1 _ _ l2 t211 _ ?side1 ?side2 ?side3 ?side4 ?side5 ?side6 A5.out).mono ?_); (case side1 => repeat (first | exact HR0.out | (with_reducible refine Kd.C_alloc ?_ _) | (with_reducible refine Kd.C_drewN ?_ _) | (with_reducible refine Kd.C_drew ?_))); (case side2 => exact HC0.out); (case side3 => repeat (first | exact HR1.out | (with_reducible refine Kd.C_alloc ?_ _) | (with_reducible refine Kd.C_drewN ?_ _) | (with_reducible refine Kd.C_drew ?_))); (case side4 => exact HC1.out); (case side5 => repeat (first | exact HR2.out | (with_reducible refine Kd.C_alloc ?_ _) | (with_reducible refine Kd.C_drewN ?_ _) | (with_reducible refine Kd.C_drew ?_))); (case side6 => exact HC2.out); rintro e w6 ⟨rfl, hb⟩; refine ⟨_, rfl, ?_⟩; have n0_ := Aside0.mk (below_step (by repeat (first | (with_reducible first | exact HB.out | apply below_alloc | apply pw_below_drewN | apply below_drew1) | exact HB.out)) hb); clear HB; have HB := n0_; clear n0_; (try clear hb); (try clear hb2); (try clear hk); (try clear hi)))
  go_ret
  exact ⟨by first | rfl | (simp [errW_none, errW_some] <;> rfl) | (simp [*, errW_none, errW_some] <;> rfl), by repeat (first | (with_reducible first | exact HB.out | apply below_alloc | apply pw_below_drewN | apply below_drew1) | exact HB.out)⟩
end Go.Proofs.YthonlcnmjlldiaaGreat.P
namespace Go.Proofs.YthonlcnmjlldiaaGreat.P
open Go.RowKit Go.Proofs.YthonlcnmjlldiaaGreatW.PrintWords Go.Proofs.YthonlcnmjlldiaaGreatW.PrintLast Go.Proofs.YthonlcnmjlldiaaGreatW.PrintMore
attribute [local go_sem] max2_int min2_int max_two min_two max_three min_three max_four min_four
set_option linter.unusedVariables false
set_option linter.unusedSimpArgs false
def potbankref06_within.l0 : Nat → List (S70) → List (S72) → List Int → List (List Int) → Int → Option ((List (List Int)))
  | 0, _, _, _, _, _ => none
  | k + 1, x0, x1, x2, x7, x8 => if x8 < (shl .i64 1 (x2.length : Int)) then ((potbankref06_Chosen.f k x8 x2).bind fun t231 => ((potbankref06_crowded.f k x0 x1 t231).bind fun t234 => (if t234 = true then (if x7.length < 5864062014805 then (potbankref06_within.l0 k x0 x1 x2 (x7 ++ [t231]) (wrap64 (x8 + 1))) else (none)) else (potbankref06_within.l0 k x0 x1 x2 x7 (wrap64 (x8 + 1)))))) else (some x7)
def potbankref06_within.f (k : Nat) (l0 : List (S70)) (l1 : List (S72)) (l2 : List Int) : Option ((List (List Int))) := potbankref06_within.l0 k l0 l1 l2 ([] : List (List Int)) 0
set_option maxHeartbeats 8000000 in
set_option maxRecDepth 100000 in
theorem potbankref06_within.calls (k : Nat) (A0 : Option Addr) (c0 : Nat) (l0 : List (S70)) (A1 : Option Addr) (c1 : Nat) (l1 : List (S72)) (A2 : Option Addr) (c2 : Nat) (l2 : List Int) (r : List (List Int)) (w : World) (hr0 : Kd.C k70 w A0 l0.length l0) (hc0 : l0.length ≤ c0) (hr1 : Kd.C k72 w A1 l1.length l1) (hc1 : l1.length ≤ c1) (hr2 : Kd.C (Kd.int .i64) w A2 l2.length l2) (hc2 : l2.length ≤ c2) (h : potbankref06_within.f k l0 l1 l2 = some r) :
    Calls Tryz.prog 75 #[.slice A0 l0.length c0, .slice A1 l1.length c1, .slice A2 l2.length c2] w fun e w' => ∃ v0_ : Value, e = .returned (v0_) ∧ Kd.S (Kd.slice 3 (Kd.int .i64)) 41 w' w.heap.size (fun _ => True) v0_ r ∧ Below w.heap.size w w' := by
  have HR0 := Aside0.mk hr0
  have HC0 := Aside0.mk hc0
  clear hr0 hc0
  have HR1 := Aside0.mk hr1
  have HC1 := Aside0.mk hc1
  clear hr1 hc1
  have HR2 := Aside0.mk hr2
  have HC2 := Aside0.mk hc2
  clear hr2 hc2
  have HB := Aside0.mk (Below.refl w.heap.size w)
  have H : (potbankref06_within.l0 k l0 l1 l2 ([] : List (List Int)) 0) = some r := h
  clear h
  have H' := Aside0.mk H
  clear H
  go_enter Tryz.func75, Tryz.ntmps75
  go_wp2
  go_loopg [7, 8] k (fun kq v7 v8 w' => ∃ (x7_1 : List (List Int)) (x8_1 : Int), v8 = .int .i64 x8_1 ∧ Aside0 (potbankref06_within.l0 kq l0 l1 l2 x7_1 x8_1 = some r) ∧ Aside0 (kq ≤ k) ∧ Aside0 (Kd.S (Kd.slice 3 (Kd.int .i64)) 41 w' w.heap.size (fun _ => True) v7 x7_1) ∧ Aside0 (Below w.heap.size w w'))
  case atStart => exact ⟨(([] : List (List Int))), (0), (by first | rfl | (simp; done) | (simp [*]; done)), H', ⟨Nat.le_refl _⟩, ⟨by first | exact Kd.S_nil _ _ _ _ _ | exact Kd.N_nil _ _ _ _ _ | exact Kd.V_nil _ _ _ _ _ | exact Kd.Q_nil _ _ _ _ _ | exact Kd.R_nil _ _ _ _ _⟩, ⟨by repeat (first | (with_reducible first | exact HB.out | apply below_alloc | apply pw_below_drewN | apply below_drew1) | exact HB.out)⟩⟩
  case round =>
    clear H'
    try clear c1
    try clear c2
    try clear p2
    obtain ⟨x7_1, x8_1, rfl, HA, HK1, HO_7, HB⟩ := hrel
    cases gk with
    | zero => exact absurd HA.out (by simp [potbankref06_within.l0])
    | succ k1 =>
      have H := HA.out
      clear HA
      simp only [potbankref06_within.l0] at H
      obtain ⟨ji4, hji4⟩ : ∃ j_ : Int, (shl .i64 1 (l2.length : Int)) = j_ := ⟨_, rfl⟩
      replace H : (if x8_1 < (ji4) then ((potbankref06_Chosen.f k1 x8_1 l2).bind fun t231 => ((potbankref06_crowded.f k1 l0 l1 t231).bind fun t234 => (if t234 = true then (if x7_1.length < 5864062014805 then (potbankref06_within.l0 k1 l0 l1 l2 (x7_1 ++ [t231]) (wrap64 (x8_1 + 1))) else (none)) else (potbankref06_within.l0 k1 l0 l1 l2 x7_1 (wrap64 (x8_1 + 1)))))) else (some x7_1)) = some r := by first | (rw [hji4] at H; exact H) | (simp only [hji4] at H ⊢; exact H)
      have hji4_ : (IntKind.i64.wrap (1 * 2 ^ min (l2.length : Int).toNat 64)) = ji4 := hji4
      have hji4z : (l2.length : Int) ≤ 64 → (IntKind.i64.wrap (1 * 2 ^ (l2.length : Int).toNat)) = ji4 := shl_small hji4
      have hji4p : (IntKind.i64.wrap (1 * 2 ^ min l2.length 64)) = ji4 := hji4_
      have hji4q : (l2.length : Int) ≤ 64 → (IntKind.i64.wrap (1 * 2 ^ l2.length)) = ji4 := hji4z
      have hji4r : (IntKind.i64.wrap (2 ^ min l2.length 64)) = ji4 := by have h_ := hji4p; rw [Int.one_mul] at h_; exact h_
      have hji4s : (l2.length : Int) ≤ 64 → (IntKind.i64.wrap (2 ^ l2.length)) = ji4 := fun hle_ => by have h_ := hji4q hle_; rw [Int.one_mul] at h_; exact h_
      have hji4u : (IntKind.i64.wrap (2 ^ min (l2.length : Int).toNat 64)) = ji4 := by have h_ := hji4_; rw [Int.one_mul] at h_; exact h_
      have hji4v : (l2.length : Int) ≤ 64 → (IntKind.i64.wrap (2 ^ (l2.length : Int).toNat)) = ji4 := fun hle_ => by have h_ := hji4z hle_; rw [Int.one_mul] at h_; exact h_
      have hji4y : (wrap64 (1 * 2 ^ min (l2.length : Int).toNat 64)) = ji4 := (i64_w _).symm.trans hji4_
      have hji4x : (l2.length : Int) ≤ 64 → (wrap64 (1 * 2 ^ (l2.length : Int).toNat)) = ji4 := fun h_ => (i64_w _).symm.trans (hji4z h_)
      by_cases c5 : x8_1 < (ji4)
      · rw [if_pos c5] at H
        have c5b0 : decide (x8_1 < (ji4)) = true := decide_eq_true c5
        clear c5
        replace H := Option.bind_eq_some_iff.mp H
        obtain ⟨t231, A60, H⟩ := H
        replace H : ((potbankref06_crowded.f k1 l0 l1 t231).bind fun t234 => (if t234 = true then (if x7_1.length < 5864062014805 then (potbankref06_within.l0 k1 l0 l1 l2 (x7_1 ++ [t231]) (wrap64 (x8_1 + 1))) else (none)) else (potbankref06_within.l0 k1 l0 l1 l2 x7_1 (wrap64 (x8_1 + 1))))) = some r := H
        have A6 := Aside0.mk A60
        clear A60
        replace H := Option.bind_eq_some_iff.mp H
        obtain ⟨t234, A70, H⟩ := H
        replace H : (if t234 = true then (if x7_1.length < 5864062014805 then (potbankref06_within.l0 k1 l0 l1 l2 (x7_1 ++ [t231]) (wrap64 (x8_1 + 1))) else (none)) else (potbankref06_within.l0 k1 l0 l1 l2 x7_1 (wrap64 (x8_1 + 1)))) = some r := H
        have A7 := Aside0.mk A70
        clear A70
        by_cases c8 : t234 = true
        · subst c8
          have H1 : (if x7_1.length < 5864062014805 then (potbankref06_within.l0 k1 l0 l1 l2 (x7_1 ++ [t231]) (wrap64 (x8_1 + 1))) else (none)) = some r := by rw [if_pos rfl] at H; exact H
          clear H
          have H := H1
          clear H1
          by_cases c9 : x7_1.length < 5864062014805
          · rw [if_pos c9] at H
            have LMc9 := Aside0.mk c9
            clear c9
            obtain ⟨y235, hy235⟩ : ∃ y_ : List (List Int), y_ = (x7_1 ++ [t231]) := ⟨_, rfl⟩
            replace H : (potbankref06_within.l0 k1 l0 l1 l2 y235 (wrap64 (x8_1 + 1))) = some r := by first | (rw [hy235]; with_reducible exact H) | (have H2_ := (Option.bind_some _ _).symm.trans H; rw [hy235]; with_reducible exact H2_) | (have H2_ := (Option.bind_some _ _).symm.trans H; with_reducible exact H2_) | with_reducible exact H | (rw [hy235]; exact H) | exact H
            have Ny235 := Aside0.mk hy235
            clear hy235
            have H' := Aside0.mk H
            clear H
            go_wp2_with (first | ((with_reducible refine gate_callee (f := 58) rfl ?_); refine goesL_ (some 19) rfl rfl Tryz.func58 (by kernel_rfl) rfl #[.int .i64 x8_1, .slice A2 l2.length c2] rfl (by (try simp only [List.map_toArray, List.map_cons, List.map_nil]); first | done | rfl | (simp only [List.length_drop, List.length_take]; rfl)) ?_; (with_reducible refine (potbankref06_Chosen.calls k1 x8_1 _ _ l2 t231 _ ?side1 ?side2 A6.out).mono ?_); (case side1 => repeat (first | exact (Kd.C_below HR2.out HB.out) | (with_reducible refine Kd.C_alloc ?_ _) | (with_reducible refine Kd.C_drewN ?_ _) | (with_reducible refine Kd.C_drew ?_))); (case side2 => exact HC2.out); rintro e w10 ⟨v232, rfl, ho0, hb⟩; refine ⟨_, rfl, ?_⟩; have n0_ := Aside0.mk (Kd.S_elder' (by (with_reducible repeat (first | apply Kd.S_alloc | apply Kd.S_drewN | apply Kd.S_drew)); exact HO_7.out) (Kd.R_base ho0) hb); have n1_ := Aside0.mk (Kd.R_lower ho0 (below_size (by repeat (first | (with_reducible first | exact HB.out | apply below_alloc | apply pw_below_drewN | apply below_drew1) | exact HB.out)))); have n2_ := Aside0.mk (below_step (by repeat (first | (with_reducible first | exact HB.out | apply below_alloc | apply pw_below_drewN | apply below_drew1) | exact HB.out)) hb); clear HO_7; clear HB; have HO_7 := n0_; have HO233 := n1_; have HB := n2_; clear n0_ n1_ n2_; (try clear hb); (try clear hb2); (try clear hk); (try clear hi); (try clear ho0); obtain ⟨Ao11, co11, eo11⟩ := Kd.R_slice HO233.out; subst eo11) | ((with_reducible refine gate_callee (f := 60) rfl ?_); refine goesL_ (some 23) rfl rfl Tryz.func60 (by kernel_rfl) rfl #[.slice A0 l0.length c0, .slice A1 l1.length c1, .slice Ao11 t231.length co11] rfl (by (try simp only [List.map_toArray, List.map_cons, List.map_nil]); first | done | rfl | (simp only [List.length_drop, List.length_take]; rfl)) ?_; (with_reducible refine (potbankref06_crowded.calls k1 _ _ l0 _ _ l1 _ _ t231 true _ ?side1 ?side2 ?side3 ?side4 ?side5 ?side6 A7.out).mono ?_); (case side1 => repeat (first | exact (Kd.C_below HR0.out HB.out) | (with_reducible refine Kd.C_alloc ?_ _) | (with_reducible refine Kd.C_drewN ?_ _) | (with_reducible refine Kd.C_drew ?_))); (case side2 => exact HC0.out); (case side3 => repeat (first | exact (Kd.C_below HR1.out HB.out) | (with_reducible refine Kd.C_alloc ?_ _) | (with_reducible refine Kd.C_drewN ?_ _) | (with_reducible refine Kd.C_drew ?_))); (case side4 => exact HC1.out); (case side5 => repeat (first | exact (Kd.R_reads' HO233.out).2.2 | (with_reducible refine Kd.C_alloc ?_ _) | (with_reducible refine Kd.C_drewN ?_ _) | (with_reducible refine Kd.C_drew ?_))); (case side6 => exact (Kd.R_reads' HO233.out).2.1); rintro e w12 ⟨rfl, hb⟩; refine ⟨_, rfl, ?_⟩; have n0_ := Aside0.mk (Kd.S_below (by (with_reducible repeat (first | apply Kd.S_alloc | apply Kd.S_drewN | apply Kd.S_drew)); exact HO_7.out) hb); have n1_ := Aside0.mk (Kd.R_below (by (with_reducible repeat (first | apply Kd.R_alloc | apply Kd.R_drewN | apply Kd.R_drew)); exact HO233.out) hb); have n2_ := Aside0.mk (below_step (by repeat (first | (with_reducible first | exact HB.out | apply below_alloc | apply pw_below_drewN | apply below_drew1) | exact HB.out)) hb); clear HO_7; clear HO233; clear HB; have HO_7 := n0_; have HO233 := n1_; have HB := n2_; clear n0_ n1_ n2_; (try clear hb); (try clear hb2); (try clear hk); (try clear hi)) | ((with_reducible refine gate_builtin (b := .append) (xs := #[.tmp 24, .tmp 26]) rfl ?_); at_builtin; refine Kd.S_append (Kd.slice 3 (Kd.int .i64)) (w0 := w) w.heap.size rfl (.tmp 24) (.tmp 26) 24 41 (.slice none 0 0) 24 rfl Tryz.underlying24 info41 rfl (by decide) (by omega) u7 x7_1 t231 [.slice Ao11 t231.length co11] (fun _ => True) (fun k_ => some k_ = (.slice Ao11 t231.length co11 : Value).ownBlock) rfl rfl ?aP (fun k_ hk_ => ((Kd.R_mono (ok' := fun k_ => ((fun _ => True)) k_ ∧ some k_ ≠ (u7 : Value).ownBlock) (Kd.R_apart' (HO233.out) (Kd.S_typed HO_7.out) (by decide)) (fun k_ hk => ⟨trivial, hk.2⟩))).1 k_ hk_.symm) ?aF ?aO ?aB ?aS ?aL ?_; (case aP => exact Kd.M_row (Kd.R_mono (Kd.R_tight rfl (Kd.R_mono (ok' := fun k_ => ((fun _ => True)) k_ ∧ some k_ ≠ (u7 : Value).ownBlock) (Kd.R_apart' (HO233.out) (Kd.S_typed HO_7.out) (by decide)) (fun k_ hk => ⟨trivial, hk.2⟩))) (fun _ h_ => h_))); (case aB => exact (by repeat (first | (with_reducible first | exact HB.out | apply below_alloc | apply pw_below_drewN | apply below_drew1) | exact HB.out))); (case aF => exact (fun _ _ => trivial)); (case aO => exact (by (with_reducible repeat (first | apply Kd.S_alloc | apply Kd.S_drewN | apply Kd.S_drew)); exact Kd.S_mono HO_7.out (fun k_ hk => ⟨trivial, fun e_ => hk.2 e_⟩))); (case aS => exact (below_size (by repeat (first | (with_reducible first | exact HB.out | apply below_alloc | apply pw_below_drewN | apply below_drew1) | exact HB.out)))); (case aL => have := LMc9.out; omega); intro v236 w13 ho hb hg hat; rw [← Ny235.out] at ho; have n0_ := Aside0.mk (hb); have n1_ := Aside0.mk (ho); clear HB; clear HO_7; clear HO233; have HB := n0_; have HO237 := n1_; clear n0_ n1_; clear ho hb hg hat))
            go_roundg k1
            case measure => have := HK1.out; omega
            case rel => exact ⟨(y235), (wrap64 (x8_1 + 1)), (by first | rfl | (simp; done) | (simp [*]; done)), H', ⟨by have := HK1.out; omega⟩, ⟨by (with_reducible repeat (first | apply Kd.S_alloc | apply Kd.S_drewN | apply Kd.S_drew)); exact HO237.out⟩, ⟨by repeat (first | (with_reducible first | exact HB.out | apply below_alloc | apply pw_below_drewN | apply below_drew1) | exact HB.out)⟩⟩
          · rw [if_neg c9] at H
            exact absurd H (by simp)
        · replace c8 := Bool.eq_false_iff.mpr c8
          subst c8
          have H1 : (potbankref06_within.l0 k1 l0 l1 l2 x7_1 (wrap64 (x8_1 + 1))) = some r := by rw [if_neg (show ¬ (false = true) by decide)] at H; exact H
          clear H
          have H := H1
          clear H1
          have H' := Aside0.mk H
          clear H
          go_wp2_with (first | ((with_reducible refine gate_callee (f := 58) rfl ?_); refine goesL_ (some 19) rfl rfl Tryz.func58 (by kernel_rfl) rfl #[.int .i64 x8_1, .slice A2 l2.length c2] rfl (by (try simp only [List.map_toArray, List.map_cons, List.map_nil]); first | done | rfl | (simp only [List.length_drop, List.length_take]; rfl)) ?_; (with_reducible refine (potbankref06_Chosen.calls k1 x8_1 _ _ l2 t231 _ ?side1 ?side2 A6.out).mono ?_); (case side1 => repeat (first | exact (Kd.C_below HR2.out HB.out) | (with_reducible refine Kd.C_alloc ?_ _) | (with_reducible refine Kd.C_drewN ?_ _) | (with_reducible refine Kd.C_drew ?_))); (case side2 => exact HC2.out); rintro e w14 ⟨v232, rfl, ho0, hb⟩; refine ⟨_, rfl, ?_⟩; have n0_ := Aside0.mk (Kd.S_elder' (by (with_reducible repeat (first | apply Kd.S_alloc | apply Kd.S_drewN | apply Kd.S_drew)); exact HO_7.out) (Kd.R_base ho0) hb); have n1_ := Aside0.mk (Kd.R_lower ho0 (below_size (by repeat (first | (with_reducible first | exact HB.out | apply below_alloc | apply pw_below_drewN | apply below_drew1) | exact HB.out)))); have n2_ := Aside0.mk (below_step (by repeat (first | (with_reducible first | exact HB.out | apply below_alloc | apply pw_below_drewN | apply below_drew1) | exact HB.out)) hb); clear HO_7; clear HB; have HO_7 := n0_; have HO233 := n1_; have HB := n2_; clear n0_ n1_ n2_; (try clear hb); (try clear hb2); (try clear hk); (try clear hi); (try clear ho0); obtain ⟨Ao15, co15, eo15⟩ := Kd.R_slice HO233.out; subst eo15) | ((with_reducible refine gate_callee (f := 60) rfl ?_); refine goesL_ (some 23) rfl rfl Tryz.func60 (by kernel_rfl) rfl #[.slice A0 l0.length c0, .slice A1 l1.length c1, .slice Ao15 t231.length co15] rfl (by (try simp only [List.map_toArray, List.map_cons, List.map_nil]); first | done | rfl | (simp only [List.length_drop, List.length_take]; rfl)) ?_; (with_reducible refine (potbankref06_crowded.calls k1 _ _ l0 _ _ l1 _ _ t231 false _ ?side1 ?side2 ?side3 ?side4 ?side5 ?side6 A7.out).mono ?_); (case side1 => repeat (first | exact (Kd.C_below HR0.out HB.out) | (with_reducible refine Kd.C_alloc ?_ _) | (with_reducible refine Kd.C_drewN ?_ _) | (with_reducible refine Kd.C_drew ?_))); (case side2 => exact HC0.out); (case side3 => repeat (first | exact (Kd.C_below HR1.out HB.out) | (with_reducible refine Kd.C_alloc ?_ _) | (with_reducible refine Kd.C_drewN ?_ _) | (with_reducible refine Kd.C_drew ?_))); (case side4 => exact HC1.out); (case side5 => repeat (first | exact (Kd.R_reads' HO233.out).2.2 | (with_reducible refine Kd.C_alloc ?_ _) | (with_reducible refine Kd.C_drewN ?_ _) | (with_reducible refine Kd.C_drew ?_))); (case side6 => exact (Kd.R_reads' HO233.out).2.1); rintro e w16 ⟨rfl, hb⟩; refine ⟨_, rfl, ?_⟩; have n0_ := Aside0.mk (Kd.S_below (by (with_reducible repeat (first | apply Kd.S_alloc | apply Kd.S_drewN | apply Kd.S_drew)); exact HO_7.out) hb); have n1_ := Aside0.mk (Kd.R_below (by (with_reducible repeat (first | apply Kd.R_alloc | apply Kd.R_drewN | apply Kd.R_drew)); exact HO233.out) hb); have n2_ := Aside0.mk (below_step (by repeat (first | (with_reducible first | exact HB.out | apply below_alloc | apply pw_below_drewN | apply below_drew1) | exact HB.out)) hb); clear HO_7; clear HO233; clear HB; have HO_7 := n0_; have HO233 := n1_; have HB := n2_; clear n0_ n1_ n2_; (try clear hb); (try clear hb2); (try clear hk); (try clear hi)))
          go_roundg k1
          case measure => have := HK1.out; omega
          case rel => exact ⟨(x7_1), (wrap64 (x8_1 + 1)), (by first | rfl | (simp; done) | (simp [*]; done)), H', ⟨by have := HK1.out; omega⟩, ⟨by (with_reducible repeat (first | apply Kd.S_alloc | apply Kd.S_drewN | apply Kd.S_drew)); exact Kd.S_mono HO_7.out (fun _ hk => trivial)⟩, ⟨by repeat (first | (with_reducible first | exact HB.out | apply below_alloc | apply pw_below_drewN | apply below_drew1) | exact HB.out)⟩⟩
      · rw [if_neg c5] at H
        have c5b0 : decide (x8_1 < (ji4)) = false := decide_eq_false c5
        clear c5
        obtain rfl := Option.some.inj H
        go_wp2
        go_ret
        exact ⟨_, by first | rfl | (simp [errW_none, errW_some] <;> rfl) | (simp only [← hji4]; first | rfl | (simp [errW_none, errW_some] <;> rfl)) | (simp [*, errW_none, errW_some] <;> rfl), by (with_reducible repeat (first | apply Kd.S_alloc | apply Kd.S_drewN | apply Kd.S_drew)); exact HO_7.out, by repeat (first | (with_reducible first | exact HB.out | apply below_alloc | apply pw_below_drewN | apply below_drew1) | exact HB.out)⟩
def potbankref01_Has.l0 : Nat → List Int → Int → Int → Option (Bool)
  | 0, _, _, _ => none
  | k + 1, x0, x1, x5 => if x5 < (x0.length : Int) then (if 0 ≤ x5 then (if (rd x0 x5) = x1 then (some true) else (potbankref01_Has.l0 k x0 x1 (wrap64 (x5 + 1)))) else (none)) else (some false)
def potbankref01_Has.f (k : Nat) (l0 : List Int) (a1 : Int) : Option (Bool) := potbankref01_Has.l0 k l0 a1 0
set_option maxHeartbeats 8000000 in
set_option maxRecDepth 100000 in
theorem potbankref01_Has.calls (k : Nat) (A0 : Option Addr) (c0 : Nat) (l0 : List Int) (a1 : Int) (r : Bool) (w : World) (hr0 : Kd.C (Kd.int .i64) w A0 l0.length l0) (hc0 : l0.length ≤ c0) (h : potbankref01_Has.f k l0 a1 = some r) :
    Calls Tryz.prog 79 #[.slice A0 l0.length c0, .int .i64 a1] w fun e w' => e = .returned (.bool r) ∧ Drawn0 w w' := by
  have HR0 := Aside0.mk hr0
  have HC0 := Aside0.mk hc0
  clear hr0 hc0
  have H : (potbankref01_Has.l0 k l0 a1 0) = some r := h
  clear h
  have H' := Aside0.mk H
  clear H
  go_enter Tryz.func79, Tryz.ntmps79
  go_wp2
  go_loopg [5] k (fun kq v5 w' => ∃ (x5_1 : Int), v5 = .int .i64 x5_1 ∧ Aside0 (potbankref01_Has.l0 kq l0 a1 x5_1 = some r) ∧ Aside0 (kq ≤ k) ∧ Drawn0 w w')
  case atStart => exact ⟨(0), (by first | rfl | (simp; done) | (simp [*]; done)), H', ⟨Nat.le_refl _⟩, by repeat (first | exact Drawn0.refl _ | apply Drawn0.step)⟩
  case round =>
    clear H'
    try clear p2
    obtain ⟨x5_1, rfl, HA, HK1, ⟨m1, rfl⟩⟩ := hrel
    cases gk with
    | zero => exact absurd HA.out (by simp [potbankref01_Has.l0])
    | succ k1 =>
      have H := HA.out
      clear HA
      simp only [potbankref01_Has.l0] at H
      by_cases c3 : x5_1 < (l0.length : Int)
      · rw [if_pos c3] at H
        have c3b0 : decide (x5_1 < (l0.length : Int)) = true := decide_eq_true c3
        clear c3
        by_cases c4 : 0 ≤ x5_1
        · rw [if_pos c4] at H
          have c4b0 : decide (0 ≤ x5_1) = true := decide_eq_true c4
          clear c4
          by_cases c5 : (rd l0 x5_1) = a1
          · rw [if_pos c5] at H
            have c5b0 : ((rd l0 x5_1) == a1) = true := beq_iff_eq.mpr c5
            have c5b1 : ((rd l0 x5_1) != a1) = false := bne_eq_false_iff_eq.mpr c5
            clear c5
            obtain rfl := Option.some.inj H
            have p238 : 0 ≤ (x5_1 : Int) := of_decide_eq_true (by first | (with_reducible assumption) | assumption)
            have q238 : x5_1 < (l0.length : Int) := of_decide_eq_true (by first | (with_reducible assumption) | assumption)
            obtain ⟨ad238, e238, hx238_0⟩ := Kd.at_int HR0.out x5_1 p238 q238
            cases e238
            replace p238 := eq_true p238
            replace q238 := eq_true q238
            go_wp2
            go_ret
            exact ⟨by first | rfl | (simp; done) | (simp [*]; done), by repeat (first | exact Drawn0.refl _ | apply Drawn0.step)⟩
          · rw [if_neg c5] at H
            have c5b0 : ((rd l0 x5_1) == a1) = false := beq_eq_false_iff_ne.mpr c5
            have c5b1 : ((rd l0 x5_1) != a1) = true := bne_iff_ne.mpr c5
            have H' := Aside0.mk H
            clear H
            have p238 : 0 ≤ (x5_1 : Int) := of_decide_eq_true (by first | (with_reducible assumption) | assumption)
            have q238 : x5_1 < (l0.length : Int) := of_decide_eq_true (by first | (with_reducible assumption) | assumption)
            obtain ⟨ad238, e238, hx238_0⟩ := Kd.at_int HR0.out x5_1 p238 q238
            cases e238
            replace p238 := eq_true p238
            replace q238 := eq_true q238
            go_wp2
            go_roundg k1
            case measure => have := HK1.out; omega
            case rel => exact ⟨(wrap64 (x5_1 + 1)), (by first | rfl | (simp; done) | (simp [*]; done)), H', ⟨by have := HK1.out; omega⟩, by repeat (first | exact Drawn0.refl _ | apply Drawn0.step)⟩
        · rw [if_neg c4] at H
          exact absurd H (by simp)
      · rw [if_neg c3] at H
        have c3b0 : decide (x5_1 < (l0.length : Int)) = false := decide_eq_false c3
        clear c3
        obtain rfl := Option.some.inj H
        go_wp2
        go_ret
        exact ⟨by first | rfl | (simp; done) | (simp [*]; done), by repeat (first | exact Drawn0.refl _ | apply Drawn0.step)⟩
def potbankref06_subset.l0 : Nat → List Int → List Int → Int → Option (Bool)
  | 0, _, _, _ => none
  | k + 1, x0, x1, x5 => if x5 < (x0.length : Int) then (if 0 ≤ x5 then ((potbankref01_Has.f k x1 (rd x0 x5)).bind fun t240 => (if t240 = true then (potbankref06_subset.l0 k x0 x1 (wrap64 (x5 + 1))) else (some false))) else (none)) else (some true)
def potbankref06_subset.f (k : Nat) (l0 : List Int) (l1 : List Int) : Option (Bool) := potbankref06_subset.l0 k l0 l1 0
set_option maxHeartbeats 8000000 in
set_option maxRecDepth 100000 in
theorem potbankref06_subset.calls (k : Nat) (A0 : Option Addr) (c0 : Nat) (l0 : List Int) (A1 : Option Addr) (c1 : Nat) (l1 : List Int) (r : Bool) (w : World) (hr0 : Kd.C (Kd.int .i64) w A0 l0.length l0) (hc0 : l0.length ≤ c0) (hr1 : Kd.C (Kd.int .i64) w A1 l1.length l1) (hc1 : l1.length ≤ c1) (h : potbankref06_subset.f k l0 l1 = some r) :
    Calls Tryz.prog 97 #[.slice A0 l0.length c0, .slice A1 l1.length c1] w fun e w' => e = .returned (.bool r) ∧ Drawn0 w w' := by
  have HR0 := Aside0.mk hr0
  have HC0 := Aside0.mk hc0
  clear hr0 hc0
  have HR1 := Aside0.mk hr1
  have HC1 := Aside0.mk hc1
  clear hr1 hc1
  have H : (potbankref06_subset.l0 k l0 l1 0) = some r := h
  clear h
  have H' := Aside0.mk H
  clear H
  go_enter Tryz.func97, Tryz.ntmps97
  go_wp2
  go_loopg [5] k (fun kq v5 w' => ∃ (x5_1 : Int), v5 = .int .i64 x5_1 ∧ Aside0 (potbankref06_subset.l0 kq l0 l1 x5_1 = some r) ∧ Aside0 (kq ≤ k) ∧ Drawn0 w w')
  case atStart => exact ⟨(0), (by first | rfl | (simp; done) | (simp [*]; done)), H', ⟨Nat.le_refl _⟩, by repeat (first | exact Drawn0.refl _ | apply Drawn0.step)⟩
  case round =>
    clear H'
    try clear c1
    try clear p2
    obtain ⟨x5_1, rfl, HA, HK1, ⟨m1, rfl⟩⟩ := hrel
    cases gk with
    | zero => exact absurd HA.out (by simp [potbankref06_subset.l0])
    | succ k1 =>
      have H := HA.out
      clear HA
      simp only [potbankref06_subset.l0] at H
      by_cases c3 : x5_1 < (l0.length : Int)
      · rw [if_pos c3] at H
        have c3b0 : decide (x5_1 < (l0.length : Int)) = true := decide_eq_true c3
        clear c3
        by_cases c4 : 0 ≤ x5_1
        · rw [if_pos c4] at H
          have c4b0 : decide (0 ≤ x5_1) = true := decide_eq_true c4
          clear c4
          replace H := Option.bind_eq_some_iff.mp H
          obtain ⟨t240, A50, H⟩ := H
          replace H : (if t240 = true then (potbankref06_subset.l0 k1 l0 l1 (wrap64 (x5_1 + 1))) else (some false)) = some r := H
          have A5 := Aside0.mk A50
          clear A50
          by_cases c6 : t240 = true
          · subst c6
            have H1 : (potbankref06_subset.l0 k1 l0 l1 (wrap64 (x5_1 + 1))) = some r := by rw [if_pos rfl] at H; exact H
            clear H
            have H := H1
            clear H1
            have H' := Aside0.mk H
            clear H
            have p239 : 0 ≤ (x5_1 : Int) := of_decide_eq_true (by first | (with_reducible assumption) | assumption)
            have q239 : x5_1 < (l0.length : Int) := of_decide_eq_true (by first | (with_reducible assumption) | assumption)
            obtain ⟨ad239, e239, hx239_0⟩ := Kd.at_int HR0.out x5_1 p239 q239
            cases e239
            replace p239 := eq_true p239
            replace q239 := eq_true q239
            go_wp2_with (first | ((with_reducible refine gate_callee (f := 79) rfl ?_); refine goesL_ (some 17) rfl rfl Tryz.func79 (by kernel_rfl) rfl #[.slice A1 l1.length c1, .int .i64 (rd l0 x5_1)] rfl (by (try simp only [List.map_toArray, List.map_cons, List.map_nil]); first | done | rfl | (simp only [List.length_drop, List.length_take]; rfl)) ?_; (with_reducible refine (potbankref01_Has.calls k1 _ _ l1 (rd l0 x5_1) true _ ?side1 ?side2 A5.out).mono ?_); (case side1 => repeat (first | exact HR1.out | (with_reducible refine Kd.C_alloc ?_ _) | (with_reducible refine Kd.C_drewN ?_ _) | (with_reducible refine Kd.C_drew ?_))); (case side2 => exact HC1.out); rintro e w' ⟨rfl, ⟨nd, rfl⟩⟩; refine ⟨_, rfl, ?_⟩))
            go_roundg k1
            case measure => have := HK1.out; omega
            case rel => exact ⟨(wrap64 (x5_1 + 1)), (by first | rfl | (simp; done) | (simp [*]; done)), H', ⟨by have := HK1.out; omega⟩, by repeat (first | exact Drawn0.refl _ | apply Drawn0.step)⟩
          · replace c6 := Bool.eq_false_iff.mpr c6
            subst c6
            have H1 : (some false) = some r := by rw [if_neg (show ¬ (false = true) by decide)] at H; exact H
            clear H
            have H := H1
            clear H1
            obtain rfl := Option.some.inj H
            have p239 : 0 ≤ (x5_1 : Int) := of_decide_eq_true (by first | (with_reducible assumption) | assumption)
            have q239 : x5_1 < (l0.length : Int) := of_decide_eq_true (by first | (with_reducible assumption) | assumption)
            obtain ⟨ad239, e239, hx239_0⟩ := Kd.at_int HR0.out x5_1 p239 q239
            cases e239
            replace p239 := eq_true p239
            replace q239 := eq_true q239
            go_wp2_with (first | ((with_reducible refine gate_callee (f := 79) rfl ?_); refine goesL_ (some 17) rfl rfl Tryz.func79 (by kernel_rfl) rfl #[.slice A1 l1.length c1, .int .i64 (rd l0 x5_1)] rfl (by (try simp only [List.map_toArray, List.map_cons, List.map_nil]); first | done | rfl | (simp only [List.length_drop, List.length_take]; rfl)) ?_; (with_reducible refine (potbankref01_Has.calls k1 _ _ l1 (rd l0 x5_1) false _ ?side1 ?side2 A5.out).mono ?_); (case side1 => repeat (first | exact HR1.out | (with_reducible refine Kd.C_alloc ?_ _) | (with_reducible refine Kd.C_drewN ?_ _) | (with_reducible refine Kd.C_drew ?_))); (case side2 => exact HC1.out); rintro e w' ⟨rfl, ⟨nd, rfl⟩⟩; refine ⟨_, rfl, ?_⟩))
            go_ret
            exact ⟨by first | rfl | (simp; done) | (simp [*]; done), by repeat (first | exact Drawn0.refl _ | apply Drawn0.step)⟩
        · rw [if_neg c4] at H
          exact absurd H (by simp)
      · rw [if_neg c3] at H
        have c3b0 : decide (x5_1 < (l0.length : Int)) = false := decide_eq_false c3
        clear c3
        obtain rfl := Option.some.inj H
        go_wp2
        go_ret
        exact ⟨by first | rfl | (simp; done) | (simp [*]; done), by repeat (first | exact Drawn0.refl _ | apply Drawn0.step)⟩
end Go.Proofs.YthonlcnmjlldiaaGreat.P
namespace Go.Proofs.YthonlcnmjlldiaaGreat.P
open Go.Shelf Go.RowKit Go.Proofs.YthonlcnmjlldiaaGreatW.PrintWords Go.Proofs.YthonlcnmjlldiaaGreatW.PrintLast Go.Proofs.YthonlcnmjlldiaaGreatW.PrintMore
set_option linter.unusedVariables false
set_option linter.unusedSimpArgs false
theorem viewStore_drawn {p : Program} {w : World} {at_ : Addr} {u : TypeId} {k : Addr} {v : Value} {b : Bool} {r : World × List Addr} (h : w.viewStore p at_ u k v b = .ok r) : r.1.drawn = w.drawn := by
  unfold World.viewStore at h
  simp only [bind, Except.bind, pure, Except.pure, throw, throwThe, MonadExceptOf.throw] at h
  (repeat' split at h) <;> first | (cases h; done) | (cases h; rfl) | skip
theorem farStore_drawn {p : Program} {w : World} {a : Addr} {v : Value} {b : Bool} {r : World × List Addr} (h : w.farStore p a v b = .ok r) : r.1.drawn = w.drawn := by
  unfold World.farStore at h
  split at h
  · split at h
    · rename_i r' hr
      cases h
      exact viewStore_drawn hr
    · cases h
  · cases h
theorem ask_drawn {α : Type} (c : Ask α) : ∀ (w : World), w.drawn ≤ (w.ask c).2.drawn := by
  induction c with
  | done a => intro w; unfold World.ask; exact Nat.le_refl _
  | ask what range k ih =>
    intro w
    unfold World.ask
    simp only []
    split
    · exact ih _ w
    · have h := ih (Question.cut (.extern what range) (w.tape w.drawn (.extern what range))) { w with drawn := w.drawn + 1 }
      simp only at h
      omega
theorem sys_drawn (w : World) (c : Sys) : w.drawn ≤ (w.sys c).2.drawn := by
  have h := ask_drawn (Kernel.perform c w.os) w
  unfold World.sys
  split
  · exact Nat.le_refl _
  · rename_i r os w2 _ hr
    rw [hr] at h
    exact h
theorem run_drawn {α : Type} (p : Program) (e : Sem α) : ∀ (w : World) (a : α) (w' : World), e.run p w = .ok a w' → w.drawn ≤ w'.drawn := by
  induction e with
  | pure a => intro w b w' h; simp only [Sem.run] at h; cases h; exact Nat.le_refl _
  | load m a k ih =>
    intro w b w' h
    simp only [Sem.run] at h
    split at h
    · exact ih _ _ _ _ h
    · split at h
      · exact ih _ _ _ _ h
      · cases h
  | store m a v k ih =>
    intro w b w' h
    cases v <;> simp only [Sem.run] at h
    all_goals first | (cases h; done) | skip
    all_goals
      split at h
      · split at h
        · cases h
        · have h2 := ih _ _ _ h
          exact h2
      · split at h
        · rename_i w2 t hr
          have := farStore_drawn hr
          have h2 := ih _ _ _ h
          simp only at this
          omega
        · cases h
  | new o k ih => intro w b w' h; simp only [Sem.run] at h; have h2 := ih _ _ _ _ h; exact h2
  | shape r k ih => intro w b w' h; simp only [Sem.run] at h; exact ih _ _ _ _ h
  | freeze a n k ih =>
    intro w b w' h
    simp only [Sem.run] at h
    have := ih _ _ _ h
    have e : (w.freeze a n).drawn = w.drawn := by unfold World.freeze; split <;> rfl
    omega
  | frozen a k ih => intro w b w' h; simp only [Sem.run] at h; exact ih _ _ _ _ h
  | getObj r k ih =>
    intro w b w' h
    simp only [Sem.run] at h
    split at h
    · cases h
    · exact ih _ _ _ _ h
    · cases h
  | setObj r o k ih =>
    intro w b w' h
    simp only [Sem.run] at h
    split at h
    · cases h
    · have h2 := ih _ _ _ h
      exact h2
    · cases h
  | choose q k ih =>
    intro w b w' h
    simp only [Sem.run] at h
    split at h
    · exact ih _ _ _ _ h
    · have := ih _ _ _ _ h
      simp only at this
      omega
  | sys c k ih =>
    intro w b w' h
    simp only [Sem.run] at h
    have h1 := ih _ _ _ _ h
    have h2 := sys_drawn w c
    omega
  | program k ih => intro w b w' h; simp only [Sem.run] at h; exact ih _ _ _ _ h
  | mark m k ih => intro w b w' h; simp only [Sem.run] at h; exact ih _ _ _ h
  | halt h0 => intro w b w' h; simp only [Sem.run] at h; cases h
theorem append_d (k : IntKind) {P : Program} {ops : Array Oper} {rest : List Oper} {o : Oper} {a : Act} {Q : Exit → Act → World → Prop} {w0 W : World} (base : Nat) (hgd : o.guard = none) (s x : Operand) (t e : TypeId) (bytes : Nat)
    (ho : o.op = .call { callee := .builtin .append, args := #[s, x], argTypes := #[t, t] })
    (ht : P.underlying t = some (.slice e)) (hinfo : (P.info? e).map (fun i => (i.zero, i.size, i.bytes)) = some (some (.int k 0), 1, bytes)) (hb0 : 0 < bytes)
    (v : Value) (xs : List Int) (y : Int) (hs : a.eval s = v) (hx : a.eval x = .slice (some ⟨W.heap.size, 0, none⟩) 1 1)
    (HO : (Kd.int k).R e W base (fun _ => True) v xs) (HB : Below base w0 W) (hbase : base ≤ W.heap.size) (hl : (xs.length + 1) * bytes ≤ 140737488355328)
    (h : ∀ v1 w1, (Kd.int k).R e w1 base (fun _ => True) v1 (xs ++ [y]) → Below base w0 w1 → W.drawn ≤ w1.drawn → wpList P ops Q rest (a.put o.dst v1) w1) :
    wpList P ops Q (o :: rest) a (W.alloc (.cells #[.int k y] e)) := by
  obtain ⟨i0, hi, hzz⟩ := Option.map_eq_some_iff.1 hinfo
  simp only [Prod.mk.injEq] at hzz
  obtain ⟨hz0, hz1, hz2⟩ := hzz
  have hlen : xs.length + 1 ≤ 140737488355328 := Nat.le_trans (Nat.le_mul_of_pos_right _ hb0) hl
  have HO' := Kd.own_of_R HO
  refine wpList_plain hgd fun K hK => ?_
  obtain ⟨v', w', hr, h2, h3, h4⟩ := run_append_own (P := P) (W.alloc (.cells #[.int k y] e)) base t o.type e i0 (.int k 0) 1 bytes ht hi hz0 hz1 hz2 rfl (by omega) v xs.length _ (HO'.alloc _) ⟨W.heap.size, 0, none⟩ 1 1 [.int k y] rfl
    (World.news_of_block (cs := #[.int k y]) (t := e) (fr := (0, 0)) (heap_alloc_new W _)) (by intro u hu; simp at hu; subst hu; rfl) (by simp only [maxLen]; omega) hl (by simp; omega)
  have hd := run_drawn P _ _ _ _ hr
  unfold Oper.wp execOp
  simp only [ho, resolve, invoke, builtin, Sem.run_bind, Sem.run_pure, Result.andThen_ok, List.map_toArray, List.map_cons, List.map_nil, hs, hx, hr]
  refine hK _ _ (h v' w' (Kd.R_of_own ?_ (fun _ _ => trivial)) ((HB.alloc hbase _).grown h3 (by simp; omega) (own_base HO')) hd)
  simpa [encs] using h2
theorem grow_of {w w' : World} (hb : Below w.heap.size w w') (hd : w.drawn ≤ w'.drawn) : ∃ q os, w' = Sort.grow (w.drewN q) os := by
  refine ⟨w'.drawn - w.drawn, w'.heap.extract w.heap.size w'.heap.size, ?_⟩
  obtain ⟨h1, h2, h3, h4, h5⟩ := hb
  obtain ⟨heap, tape, drawn, os, output⟩ := w
  obtain ⟨heap', tape', drawn', os', output'⟩ := w'
  simp only at h1 h2 h3 h4 h5 hd
  subst h1 h2 h3
  simp only [Sort.grow, World.drewN, World.mk.injEq]
  refine ⟨?_, trivial, by omega, trivial, trivial⟩
  apply Array.ext_getElem?
  intro i
  rw [Array.getElem?_append]
  split
  · rename_i hi; exact h5 i hi
  · rename_i hi
    rw [Array.getElem?_extract]
    split
    · congr 1; omega
    · apply Array.getElem?_eq_none; omega
theorem bits_Len_x (a0 : Int) (r : Int) (w : World) (h : bits_Len.f a0 = some r) :
    Calls Tryz.prog 108 #[.int .u64 a0] w fun e w' => e = .returned (.int .i64 r) ∧ w = w' := by
  unfold bits_Len.f at h
  split at h
  · rename_i hc
    obtain rfl := Option.some.inj h
    exact (Tryz.bits_Len a0 w hc.1 hc.2).mono fun e w' ⟨h1, h2⟩ => ⟨h1, h2.symm⟩
  · cases h
attribute [local go_sem] max2_int min2_int max_two min_two max_three min_three max_four min_four
set_option maxRecDepth 100000 in
set_option maxHeartbeats 1000000 in
theorem list_calls_d (k : Nat) (a0 : Int) (r : List Int) (w : World) (h : plan_mask_list.f k a0 = some r) :
    Calls Tryz.prog 74 #[.int .u64 a0] w fun e w' => ∃ v0_ : Value, e = .returned (v0_) ∧ Kd.R (Kd.int .i64) 3 w' w.heap.size (fun _ => True) v0_ r ∧ Below w.heap.size w w' ∧ w.drawn ≤ w'.drawn := by
  have HB := Aside0.mk (Below.refl w.heap.size w)
  have HD := Aside0.mk (Nat.le_refl w.drawn)
  have H : ((bits_Len.f a0).bind fun t117 => (plan_mask_list.l0 k a0 ([] : List Int) t117 0)) = some r := h
  clear h
  replace H := Option.bind_eq_some_iff.mp H
  obtain ⟨t117, A20, H⟩ := H
  replace H : (plan_mask_list.l0 k a0 ([] : List Int) t117 0) = some r := H
  have A2 := Aside0.mk A20
  clear A20
  have H' := Aside0.mk H
  clear H
  go_enter Tryz.func74, Tryz.ntmps74
  go_wp2_with (first | ((with_reducible refine gate_callee (f := 108) rfl ?_); refine goesL_ (some 6) rfl rfl Tryz.func108 (by kernel_rfl) rfl #[.int .u64 a0] rfl (by (try simp only [List.map_toArray, List.map_cons, List.map_nil]); first | done | rfl | (simp only [List.length_drop, List.length_take]; rfl)) ?_; (with_reducible refine (bits_Len_x a0 t117 _ A2.out).mono ?_); rintro e w3 ⟨rfl, rfl⟩; refine ⟨_, rfl, ?_⟩))
  go_loopg [3, 7] k (fun kq v3 v7 w' => ∃ (x3_1 : List Int) (x7_1 : Int), v7 = .int .i64 x7_1 ∧ Aside0 (plan_mask_list.l0 kq a0 x3_1 t117 x7_1 = some r) ∧ Aside0 (kq ≤ k) ∧ Aside0 (Kd.R (Kd.int .i64) 3 w' w.heap.size (fun _ => True) v3 x3_1) ∧ Aside0 (Below w.heap.size w w') ∧ Aside0 (w.drawn ≤ w'.drawn))
  case atStart => exact ⟨(([] : List Int)), (0), (by first | rfl | (simp; done) | (simp [*]; done)), H', ⟨Nat.le_refl _⟩, ⟨by first | exact Kd.R_nil _ _ _ _ _ | exact Kd.N_nil _ _ _ _ _ | exact Kd.V_nil _ _ _ _ _ | exact Kd.Q_nil _ _ _ _ _ | exact Kd.S_nil _ _ _ _ _⟩, ⟨by repeat (first | (with_reducible first | exact HB.out | apply below_alloc | apply pw_below_drewN | apply below_drew1) | exact HB.out)⟩, ⟨by have := HD.out; (try simp only [World.drewN, World.alloc]); omega⟩⟩
  case round =>
    clear H'
    try clear c1
    try clear p2
    obtain ⟨x3_1, x7_1, rfl, HA, HK1, HO_3, HB, HD⟩ := hrel
    cases gk with
    | zero => exact absurd HA.out (by simp [plan_mask_list.l0])
    | succ k1 =>
      have H := HA.out
      clear HA
      simp only [plan_mask_list.l0] at H
      by_cases c4 : x7_1 < t117
      · rw [if_pos c4] at H
        have c4b0 : decide (x7_1 < t117) = true := decide_eq_true c4
        clear c4
        replace H := Option.bind_eq_some_iff.mp H
        obtain ⟨t118, A50, H⟩ := H
        replace H : (if t118 = true then (if x3_1.length < 17592186044416 then (plan_mask_list.l0 k1 a0 (x3_1 ++ [x7_1]) t117 (wrap64 (x7_1 + 1))) else (none)) else (plan_mask_list.l0 k1 a0 x3_1 t117 (wrap64 (x7_1 + 1)))) = some r := H
        have A5 := Aside0.mk A50
        clear A50
        by_cases c6 : t118 = true
        · subst c6
          have H1 : (if x3_1.length < 17592186044416 then (plan_mask_list.l0 k1 a0 (x3_1 ++ [x7_1]) t117 (wrap64 (x7_1 + 1))) else (none)) = some r := by rw [if_pos rfl] at H; exact H
          clear H
          have H := H1
          clear H1
          by_cases c7 : x3_1.length < 17592186044416
          · rw [if_pos c7] at H
            have LMc7 := Aside0.mk c7
            clear c7
            obtain ⟨y119, hy119⟩ : ∃ y_ : List Int, y_ = (x3_1 ++ [x7_1]) := ⟨_, rfl⟩
            replace H : (plan_mask_list.l0 k1 a0 y119 t117 (wrap64 (x7_1 + 1))) = some r := by first | (rw [hy119]; with_reducible exact H) | (have H2_ := (Option.bind_some _ _).symm.trans H; rw [hy119]; with_reducible exact H2_) | (have H2_ := (Option.bind_some _ _).symm.trans H; with_reducible exact H2_) | with_reducible exact H | (rw [hy119]; exact H) | exact H
            have Ny119 := Aside0.mk hy119
            clear hy119
            have H' := Aside0.mk H
            clear H
            go_wp2_with (first | ((with_reducible refine gate_callee (f := 107) rfl ?_); refine goesL_ (some 12) rfl rfl Tryz.func107 (by kernel_rfl) rfl #[.int .u64 a0, .int .i64 x7_1] rfl (by (try simp only [List.map_toArray, List.map_cons, List.map_nil]); first | done | rfl | (simp only [List.length_drop, List.length_take]; rfl)) ?_; (with_reducible refine (plan_mask_has.calls a0 x7_1 true _ A5.out).mono ?_); rintro e w' ⟨rfl, ⟨nd, rfl⟩⟩; refine ⟨_, rfl, ?_⟩) | ((with_reducible refine gate_builtin (b := .append) (xs := #[.tmp 13, .tmp 15]) rfl ?_); at_builtin; refine append_d .i64 (w0 := w) w.heap.size rfl (.tmp 13) (.tmp 15) 41 3 8 rfl Tryz.underlying41 info3 (by decide) u3 x3_1 x7_1 rfl rfl ?aO ?aB ?aS ?aL ?_; (case aB => exact (by repeat (first | (with_reducible first | exact HB.out | apply below_alloc | apply pw_below_drewN | apply below_drew1) | exact HB.out))); (case aO => exact (by (with_reducible repeat (first | apply Kd.R_alloc | apply Kd.R_drewN | apply Kd.R_drew)); exact HO_3.out)); (case aS => exact (below_size (by repeat (first | (with_reducible first | exact HB.out | apply below_alloc | apply pw_below_drewN | apply below_drew1) | exact HB.out)))); (case aL => have := LMc7.out; omega); intro v120 w8 ho hb hd; rw [← Ny119.out] at ho; have n0_ := Aside0.mk (hb); have n1_ := Aside0.mk (ho); have n2_ := Aside0.mk (show w.drawn ≤ w8.drawn by have := HD.out; (try simp only [World.drewN, World.alloc] at hd); omega); clear HB; clear HO_3; clear HD; have HB := n0_; have HO121 := n1_; have HD := n2_; clear n0_ n1_ n2_; clear ho hb hd))
            go_roundg k1
            case measure => have := HK1.out; omega
            case rel => exact ⟨(y119), (wrap64 (x7_1 + 1)), (by first | rfl | (simp; done) | (simp [*]; done)), H', ⟨by have := HK1.out; omega⟩, ⟨by (with_reducible repeat (first | apply Kd.R_alloc | apply Kd.R_drewN | apply Kd.R_drew)); exact HO121.out⟩, ⟨by repeat (first | (with_reducible first | exact HB.out | apply below_alloc | apply pw_below_drewN | apply below_drew1) | exact HB.out)⟩, ⟨by have := HD.out; (try simp only [World.drewN, World.alloc]); omega⟩⟩
          · rw [if_neg c7] at H
            exact absurd H (by simp)
        · replace c6 := Bool.eq_false_iff.mpr c6
          subst c6
          have H1 : (plan_mask_list.l0 k1 a0 x3_1 t117 (wrap64 (x7_1 + 1))) = some r := by rw [if_neg (show ¬ (false = true) by decide)] at H; exact H
          clear H
          have H := H1
          clear H1
          have H' := Aside0.mk H
          clear H
          go_wp2_with (first | ((with_reducible refine gate_callee (f := 107) rfl ?_); refine goesL_ (some 12) rfl rfl Tryz.func107 (by kernel_rfl) rfl #[.int .u64 a0, .int .i64 x7_1] rfl (by (try simp only [List.map_toArray, List.map_cons, List.map_nil]); first | done | rfl | (simp only [List.length_drop, List.length_take]; rfl)) ?_; (with_reducible refine (plan_mask_has.calls a0 x7_1 false _ A5.out).mono ?_); rintro e w' ⟨rfl, ⟨nd, rfl⟩⟩; refine ⟨_, rfl, ?_⟩))
          go_roundg k1
          case measure => have := HK1.out; omega
          case rel => exact ⟨(x3_1), (wrap64 (x7_1 + 1)), (by first | rfl | (simp; done) | (simp [*]; done)), H', ⟨by have := HK1.out; omega⟩, ⟨by (with_reducible repeat (first | apply Kd.R_alloc | apply Kd.R_drewN | apply Kd.R_drew)); exact HO_3.out⟩, ⟨by repeat (first | (with_reducible first | exact HB.out | apply below_alloc | apply pw_below_drewN | apply below_drew1) | exact HB.out)⟩, ⟨by have := HD.out; (try simp only [World.drewN, World.alloc]); omega⟩⟩
      · rw [if_neg c4] at H
        have c4b0 : decide (x7_1 < t117) = false := decide_eq_false c4
        clear c4
        obtain rfl := Option.some.inj H
        go_wp2
        go_ret
        exact ⟨_, rfl, by (with_reducible repeat (first | apply Kd.R_alloc | apply Kd.R_drewN | apply Kd.R_drew)); exact HO_3.out, by repeat (first | (with_reducible first | exact HB.out | apply below_alloc | apply pw_below_drewN | apply below_drew1) | exact HB.out), HD.out⟩
theorem list_x {m : Int} (h0 : 0 ≤ m) (h1 : m < 512) (w : World) : Calls Tryz.prog 74 #[.int .u64 m] w fun e w' => ∃ A c, e = .returned (.slice A (bitsL m).length c) ∧ (bitsL m).length ≤ c ∧ Kd.C (Kd.int .i64) w' A (bitsL m).length (bitsL m) ∧ Below w.heap.size w w' ∧ w.drawn ≤ w'.drawn :=
  (list_calls_d 12 m _ w (list_some h0 h1)).mono fun e w' ⟨v, he, hR, hb, hd⟩ => by
    obtain ⟨A, c, rfl, hc, hC⟩ := Kd.R_reads hR
    exact ⟨A, c, he, hc, hC, hb, hd⟩
end Go.Proofs.YthonlcnmjlldiaaGreat.P
namespace Go.Proofs.YthonlcnmjlldiaaGreat.P
open Go.Shelf Go.RowKit Go.Proofs.YthonlcnmjlldiaaGreatW.PrintWords Go.Proofs.YthonlcnmjlldiaaGreatW.PrintLast Go.Proofs.YthonlcnmjlldiaaGreatW.PrintMore
set_option linter.unusedVariables false
set_option linter.unusedSimpArgs false
def cmpL : List Int → List Int → Int
  | [], [] => 0
  | [], _ :: _ => -1
  | _ :: _, [] => 1
  | a :: xs, b :: ys => if a < b then -1 else if b < a then 1 else cmpL xs ys
theorem cmpL_self : ∀ a, cmpL a a = 0
  | [] => rfl
  | a :: xs => by simp [cmpL, cmpL_self xs]
theorem cmpL_anti : ∀ a b, cmpL b a = - cmpL a b
  | [], [] => rfl
  | [], _ :: _ => rfl
  | _ :: _, [] => rfl
  | a :: xs, b :: ys => by
    have := cmpL_anti xs ys
    simp only [cmpL]
    repeat' split
    all_goals omega
theorem cmpL_eq : ∀ a b, cmpL a b = 0 → a = b
  | [], [] => fun _ => rfl
  | [], _ :: _ => fun h => by simp [cmpL] at h
  | _ :: _, [] => fun h => by simp [cmpL] at h
  | a :: xs, b :: ys => fun h => by
    simp only [cmpL] at h
    split at h
    · omega
    · split at h
      · omega
      · have := cmpL_eq xs ys h
        have : a = b := by omega
        simp [*]
theorem cmpL_trans : ∀ a b c, cmpL a b < 0 → cmpL b c < 0 → cmpL a c < 0
  | [], [], _ => fun h => by simp [cmpL] at h
  | [], _ :: _, [] => fun _ h => by simp [cmpL] at h
  | [], _ :: _, _ :: _ => fun _ _ => by simp [cmpL]
  | _ :: _, [], _ => fun h => by simp [cmpL] at h
  | _ :: _, _ :: _, [] => fun _ h => by simp [cmpL] at h
  | a :: xs, b :: ys, c :: zs => fun h1 h2 => by
    have ih := cmpL_trans xs ys zs
    simp only [cmpL] at h1 h2 ⊢
    split at h1 <;> split at h2 <;> (try split at h1) <;> (try split at h2) <;> (try omega)
    all_goals
      repeat' split
      all_goals first | omega | exact ih h1 h2 | skip
def cmpM (a b : Int) : Int := if (bitsL a).length = (bitsL b).length then cmpL (bitsL a) (bitsL b) else ((bitsL a).length : Int) - (bitsL b).length
theorem cmpM_self (a : Int) : cmpM a a = 0 := by simp [cmpM, cmpL_self]
theorem cmpM_anti (a b : Int) : cmpM b a = - cmpM a b := by
  have := cmpL_anti (bitsL a) (bitsL b)
  unfold cmpM
  split <;> split <;> omega
theorem cmpM_trans (a b c : Int) (h1 : cmpM a b < 0) (h2 : cmpM b c < 0) : cmpM a c < 0 := by
  have := cmpL_trans (bitsL a) (bitsL b) (bitsL c)
  unfold cmpM at *
  split at h1 <;> split at h2 <;> split <;> first | omega | exact this h1 h2
theorem maskOf_bitsL_all : ∀ m : Fin 512, maskOf (bitsL (m.val : Int)) = (m.val : Int) := by decide +kernel
theorem maskOf_bitsL {m : Int} (h0 : 0 ≤ m) (h1 : m < 512) : maskOf (bitsL m) = m := by
  have := maskOf_bitsL_all ⟨m.toNat, by omega⟩
  simpa [Int.toNat_of_nonneg h0] using this
theorem bitsL_inj {a b : Int} (h0 : 0 ≤ a) (h1 : a < 512) (h2 : 0 ≤ b) (h3 : b < 512) (h : bitsL a = bitsL b) : a = b := by
  rw [← maskOf_bitsL h0 h1, ← maskOf_bitsL h2 h3, h]
theorem cmpM_eq {a b : Int} (h0 : 0 ≤ a) (h1 : a < 512) (h2 : 0 ≤ b) (h3 : b < 512) (h : cmpM a b = 0) : a = b := by
  refine bitsL_inj h0 h1 h2 h3 ?_
  unfold cmpM at h
  split at h
  · exact cmpL_eq _ _ h
  · omega
abbrev M9 := Fin 512
def cmpF (a b : M9) : Int := cmpM (a.val : Int) (b.val : Int)
theorem cmpF_eq {a b : M9} (h : cmpF a b = 0) : a = b := by
  have := cmpM_eq (by omega) (by have := a.isLt; omega) (by omega) (by have := b.isLt; omega) h
  exact Fin.ext (by omega)
theorem swoF : Sort.SWO (ltOf cmpF) where
  irrefl x := by simp [ltOf, cmpF, cmpM_self]
  trans x y z h1 h2 := by
    simp only [ltOf, decide_eq_true_eq] at *
    exact cmpM_trans _ _ _ h1 h2
  ntrans x y z h1 h2 := by
    simp only [ltOf, decide_eq_false_iff_not, Int.not_lt] at *
    have a1 : cmpF y x = - cmpF x y := cmpM_anti _ _
    have a2 : cmpF z y = - cmpF y z := cmpM_anti _ _
    have a3 : cmpF z x = - cmpF x z := cmpM_anti _ _
    by_cases e1 : cmpF x y = 0
    · rw [cmpF_eq e1]; exact h2
    · by_cases e2 : cmpF y z = 0
      · rw [← cmpF_eq e2]; exact h1
      · have : cmpF z x < 0 := cmpM_trans _ _ _ (show cmpM _ (y.val : Int) < 0 by show cmpF z y < 0; omega) (show cmpM (y.val : Int) _ < 0 by show cmpF y x < 0; omega)
        omega
theorem totF (x y : M9) (h1 : ltOf cmpF x y = false) (h2 : ltOf cmpF y x = false) : x = y := by
  simp only [ltOf, decide_eq_false_iff_not, Int.not_lt] at *
  have a1 : cmpF y x = - cmpF x y := cmpM_anti _ _
  exact cmpF_eq (by omega)
theorem compare_int (a b : Int) : cmp_Compare_int.f a b = some (if a < b then -1 else if b < a then 1 else 0) := by
  simp only [cmp_Compare_int.f, cmp_isNaN_int.f, Option.bind_some, bne_self_eq_false]
  simp only [Bool.false_eq_true, if_false]
  split
  · rfl
  · split <;> rfl
theorem compare_loop (a b : List Int) (ha : a.length ≤ 1000) : ∀ (k i : Nat), a.length - i < k → i ≤ a.length → (i ≤ b.length) → slices_Compare_int_int.l0 k a b a (a.length : Int) (i : Int) = some (cmpL (a.drop i) (b.drop i)) := by
  intro k
  induction k with
  | zero => intro i h; omega
  | succ k ih =>
    intro i hk hi hb
    simp only [slices_Compare_int_int.l0]
    rcases Nat.lt_or_ge i a.length with h1 | h1
    · have e1 : (i : Int) < (a.length : Int) := by omega
      rw [if_pos e1, if_pos (by omega), if_pos e1]
      have ea : a.drop i = a[i] :: a.drop (i + 1) := List.drop_eq_getElem_cons h1
      have ra : rd a (i : Int) = a[i] := by simp [rd, h1]
      rcases Nat.lt_or_ge i b.length with h2 | h2
      · rw [if_neg (by omega), if_pos (by omega), compare_int]
        have eb : b.drop i = b[i] :: b.drop (i + 1) := List.drop_eq_getElem_cons h2
        have rb : rd b (i : Int) = b[i] := by simp [rd, h2]
        rw [ea, eb, ra, rb]
        simp only [Option.bind_some, cmpL]
        have hw : wrap64 ((i : Int) + 1) = ((i + 1 : Nat) : Int) := by unfold wrap64; push_cast; omega
        split
        · rfl
        · split
          · rfl
          · rw [if_pos rfl, hw]
            exact ih (i + 1) (by omega) (by omega) (by omega)
      · rw [if_pos (by omega)]
        have : b.drop i = [] := List.drop_eq_nil_iff.2 h2
        rw [this, ea]
        rfl
    · rw [if_neg (by omega)]
      have : a.drop i = [] := List.drop_eq_nil_iff.2 h1
      rw [this]
      split
      · rename_i h
        have h2 : i < b.length := by omega
        rw [List.drop_eq_getElem_cons h2]
        rfl
      · rename_i h
        have : b.drop i = [] := List.drop_eq_nil_iff.2 (by omega)
        rw [this]
        rfl
theorem bitsL_len (m : Int) : (bitsL m).length ≤ 9 := by
  unfold bitsL
  rw [List.length_map]
  exact Nat.le_trans (List.length_filter_le _ _) (by simp)
theorem compare_some (a b : Int) : slices_Compare_int_int.f 10 (bitsL a) (bitsL b) = some (cmpL (bitsL a) (bitsL b)) := by
  have h := bitsL_len a
  have := compare_loop (bitsL a) (bitsL b) (by omega) 10 0 (by omega) (by omega) (by omega)
  simpa [slices_Compare_int_int.f] using this
theorem many_all : ∀ m : Fin 512, plan_mask_many.f (m.val : Int) = some ((bitsL (m.val : Int)).length : Int) := by decide +kernel
theorem many_some {m : Int} (h0 : 0 ≤ m) (h1 : m < 512) : plan_mask_many.f m = some ((bitsL m).length : Int) := by
  have := many_all ⟨m.toNat, by omega⟩
  simpa [Int.toNat_of_nonneg h0] using this
theorem C_below {α : Type} {d : Kd α} {w w' : World} {A : Option Addr} {l : List α} (hC : d.C w A l.length l) (hb : Below w.heap.size w w') : d.C w' A l.length l := Kd.C_below hC hb
set_option maxHeartbeats 1000000 in
set_option maxRecDepth 100000 in
theorem cmp_b {a b : Int} (a0 : 0 ≤ a) (a1 : a < 512) (b0 : 0 ≤ b) (b1 : b < 512) (w : World) :
    Calls Tryz.prog 116 #[.int .u64 a, .int .u64 b] w fun e w' => e = .returned (.int .i64 (cmpM a b)) ∧ Below w.heap.size w w' ∧ w.drawn ≤ w'.drawn := by
  have M1 := fun W => plan_mask_many.calls a _ W (many_some a0 a1)
  have M2 := fun W => plan_mask_many.calls b _ W (many_some b0 b1)
  have L1 := fun W => list_x a0 a1 W
  have L2 := fun W => list_x b0 b1 W
  have CC := compare_some a b
  have hla := bitsL_len a
  have hlb := bitsL_len b
  obtain ⟨r, hr⟩ : ∃ r, r = cmpM a b := ⟨_, rfl⟩
  rw [← hr]
  unfold cmpM at hr
  generalize bitsL a = la at *
  generalize bitsL b = lb at *
  obtain ⟨na, hna⟩ : ∃ n : Int, n = (la.length : Int) := ⟨_, rfl⟩
  obtain ⟨nb, hnb⟩ : ∃ n : Int, n = (lb.length : Int) := ⟨_, rfl⟩
  have HR := Aside0.mk hr
  clear hr
  have HM1 := Aside0.mk M1
  have HM2 := Aside0.mk M2
  have HL1 := Aside0.mk L1
  have HL2 := Aside0.mk L2
  have HCC := Aside0.mk CC
  clear M1 M2 L1 L2 CC
  have hw : wrap64 ((la.length : Int) - (lb.length : Int)) = (la.length : Int) - (lb.length : Int) := by unfold wrap64; omega
  have hA : (la.length = lb.length → r = cmpL la lb) ∧ (la.length ≠ lb.length → r = (la.length : Int) - (lb.length : Int)) := by
    have h := HR.out
    split at h
    · rename_i h1; exact ⟨fun _ => h, fun h2 => absurd h1 h2⟩
    · rename_i h1; exact ⟨fun h2 => absurd h2 h1, fun _ => h⟩
  clear HR
  have HA := Aside0.mk hA
  clear hA hna hnb na nb
  go_enter Tryz.func116, Tryz.ntmps116
  go_wp2_with (first | (go_at_call 117; first | (with_reducible refine (HM1.out _).mono ?_; rintro e w' ⟨rfl, ⟨nd, rfl⟩⟩) | (with_reducible refine (HM2.out _).mono ?_; rintro e w' ⟨rfl, ⟨nd, rfl⟩⟩)) | (go_at_call 74; first | (with_reducible refine (HL1.out _).mono ?_; rintro e w1 ⟨A1, c1, rfl, hc1, hC1, hb1, hd1⟩) | (with_reducible refine (HL2.out _).mono ?_; rintro e w2 ⟨A2, c2, rfl, hc2, hC2, hb2, hd2⟩)) | (go_at_call 87; refine (slices_Compare_int_int.calls 10 A1 c1 la A2 c2 lb _ _ (C_below hC1 hb2) hc1 hC2 hc2 HCC.out).mono ?_; rintro e w' ⟨rfl, ⟨nd, rfl⟩⟩))
  · go_ret
    rename_i h
    refine ⟨congrArg (fun z => Ending.returned (.int .i64 z)) (HA.out.2 ?_).symm, pw_below_drewN (Below.refl _ _) _, by simp only [World.drewN]; omega⟩
    intro h2
    rw [h2] at h
    simp at h
  · go_ret
    rename_i h
    refine ⟨congrArg (fun z => Ending.returned (.int .i64 z)) (HA.out.1 ?_).symm, ?_, ?_⟩
    · simp at h; omega
    · exact pw_below_drewN (below_step (below_step (pw_below_drewN (Below.refl _ _) _) hb1) hb2) _
    · simp only [World.drewN] at *; omega
end Go.Proofs.YthonlcnmjlldiaaGreat.P
