/- potbanklaw06.PlanReasons returns true for every input, and what comes in reads as it did. Conditions: none. Part 6 of the proof. -/
import Derived.Test.YthonlcnmjlldiaaGreatKR5
import Derived.Deep.Slices
import Derived.Lib.SmallJoins
import Derived.Test.YthonlcnmjlldiaaGreatRows
import Derived.ProofKit
import Derived.OpenShut
import Derived.ShutString
import Derived.ChangeOld
import Derived.SizedLaws
set_option linter.unusedVariables false
set_option linter.unusedSimpArgs false
namespace Go.Proofs.YthonlcnmjlldiaaGreat.P
open Go.RowKit Go.Proofs.YthonlcnmjlldiaaGreatW.PrintWords Go.Proofs.YthonlcnmjlldiaaGreatW.PrintLast Go.Proofs.YthonlcnmjlldiaaGreatW.PrintMore
attribute [local go_sem] max2_int min2_int max_two min_two max_three min_three max_four min_four
mutual
def potbankref06_crowds.l0 : Nat → List (List Int) → List (List Int) → Int → Option ((List (List Int)))
 | 0, _, _, _ => none
 | k + 1, x5, x6, x7 => if x7 < (x5.length : Int) then (potbankref06_crowds.l1 k x5 x6 x7 true 0) else (some x6)
def potbankref06_crowds.l1 : Nat → List (List Int) → List (List Int) → Int → Bool → Int → Option ((List (List Int)))
 | 0, _, _, _, _, _ => none
 | k + 1, x5, x6, x7, x8, x9 => if x9 < (x5.length : Int) then (if x8 = true then (if x9 = x7 then (potbankref06_crowds.l1 k x5 x6 x7 true (wrap64 (x9 + 1))) else (if 0 ≤ x9 then (if 0 ≤ x7 then (if x7 < (x5.length : Int) then ((potbankref06_subset.f k (rd_L5 x5 x9) (rd_L5 x5 x7)).bind fun t306 => (potbankref06_crowds.l1 k x5 x6 x7 (!t306) (wrap64 (x9 + 1)))) else (none)) else (none)) else (none))) else (potbankref06_crowds.l1 k x5 x6 x7 false (wrap64 (x9 + 1)))) else (if x8 = true then (if 0 ≤ x7 then (if x7 < (x5.length : Int) then ((potbankref06_put.f k x6 (rd_L5 x5 x7)).bind fun t308 => (potbankref06_crowds.l0 k x5 t308 (wrap64 (x7 + 1)))) else (none)) else (none)) else (potbankref06_crowds.l0 k x5 x6 (wrap64 (x7 + 1))))
end
def potbankref06_crowds.f (k : Nat) (l0 : List (S70)) (l1 : List (S72)) : Option ((List (List Int))) := (potbankref06_indices.f k (l1.length : Int)).bind fun t298 => ((potbankref06_within.f k l0 l1 t298).bind fun t301 => (potbankref06_crowds.l0 k t301 ([] : List (List Int)) 0))
set_option maxHeartbeats 8000000 in
set_option maxRecDepth 100000 in
theorem potbankref06_crowds.calls (k : Nat) (A0 : Option Addr) (c0 : Nat) (l0 : List (S70)) (A1 : Option Addr) (c1 : Nat) (l1 : List (S72)) (r : List (List Int)) (w : World) (hr0 : Kd.C k70 w A0 l0.length l0) (hc0 : l0.length ≤ c0) (hr1 : Kd.C k72 w A1 l1.length l1) (hc1 : l1.length ≤ c1) (h : potbankref06_crowds.f k l0 l1 = some r) :
  Calls Tryz.prog 50 #[.slice A0 l0.length c0, .slice A1 l1.length c1] w fun e w' => ∃ v0_ : Value, e = .returned (v0_) ∧ Kd.N (Kd.slice 3 (Kd.int .i64)) 41 w' w.heap.size (fun k_ => (w.heap.size ≤ k_)) v0_ r ∧ Below w.heap.size w w' := by
 have HR0 := Aside0.mk hr0
 have HC0 := Aside0.mk hc0
 clear hr0 hc0
 have HR1 := Aside0.mk hr1
 have HC1 := Aside0.mk hc1
 clear hr1 hc1
 have HB := Aside0.mk (Below.refl w.heap.size w)
 have H : ((potbankref06_indices.f k (l1.length : Int)).bind fun t298 => ((potbankref06_within.f k l0 l1 t298).bind fun t301 => (potbankref06_crowds.l0 k t301 ([] : List (List Int)) 0))) = some r := h
 clear h
 replace H := Option.bind_eq_some_iff.mp H
 obtain ⟨t298, A30, H⟩ := H
 (try dsimp only at H)
 have A3 := Aside0.mk A30
 clear A30
 replace H := Option.bind_eq_some_iff.mp H
 obtain ⟨t301, A40, H⟩ := H
 (try dsimp only at H)
 have A4 := Aside0.mk A40
 clear A40
 have H' := Aside0.mk H
 clear H
 go_enter Tryz.func50, Tryz.ntmps50
 go_wp2_with (first | (go_at_call 59; (with_reducible refine (potbankref06_indices.calls k (l1.length : Int) t298 _ A3.out).mono ?_); rintro e w5 ⟨v299, rfl, ho0, hb⟩; have n0_ := Aside0.mk (Kd.R_lower (Kd.R_newM (M := fun k_ => (w.heap.size ≤ k_)) ho0 (below_size (by repeat (first | exact HB.out | apply below_alloc | apply pw_below_drewN | apply below_drew1))) (fun k_ h_ => h_)) (below_size (by repeat (first | exact HB.out | apply below_alloc | apply pw_below_drewN | apply below_drew1)))); have n1_ := Aside0.mk (below_step (by repeat (first | exact HB.out | apply below_alloc | apply pw_below_drewN | apply below_drew1)) hb); clear HB; have HO300 := n0_; have HB := n1_; clear n0_ n1_; (try clear hb); (try clear hb2); (try clear hk); (try clear hi); (try clear ho0); obtain ⟨Ao6, co6, eo6⟩ := Kd.R_slice HO300.out; subst eo6) | (go_at_call 75; (with_reducible refine (potbankref06_within.calls k _ _ l0 _ _ l1 _ _ t298 t301 _ ?side1 ?side2 ?side3 ?side4 ?side5 ?side6 A4.out).mono ?_); (case side1 => repeat (first | exact (Kd.C_below HR0.out HB.out) | (with_reducible refine Kd.C_alloc ?_ _) | (with_reducible refine Kd.C_drewN ?_ _) | (with_reducible refine Kd.C_drew ?_))); (case side2 => exact HC0.out); (case side3 => repeat (first | exact (Kd.C_below HR1.out HB.out) | (with_reducible refine Kd.C_alloc ?_ _) | (with_reducible refine Kd.C_drewN ?_ _) | (with_reducible refine Kd.C_drew ?_))); (case side4 => exact HC1.out); (case side5 => repeat (first | exact (Kd.R_reads' HO300.out).2.2 | (with_reducible refine Kd.C_alloc ?_ _) | (with_reducible refine Kd.C_drewN ?_ _) | (with_reducible refine Kd.C_drew ?_))); (case side6 => exact (Kd.R_reads' HO300.out).2.1); rintro e w7 ⟨v302, rfl, ho0, hb⟩; have n0_ := Aside0.mk (Kd.R_below (by (with_reducible repeat (first | apply Kd.R_alloc | apply Kd.R_drewN | apply Kd.R_drew)); exact HO300.out) hb); have n1_ := Aside0.mk (Kd.N_lower (Kd.N_mono (ok' := fun k_ => (w.heap.size ≤ k_) ∧ some k_ ≠ (.slice Ao6 t298.length co6 : Value).ownBlock) (Kd.S_N (Kd.S_bound ho0)) (fun k_ hk_ => ⟨(Nat.le_trans (below_size (by repeat (first | exact HB.out | apply below_alloc | apply pw_below_drewN | apply below_drew1))) hk_.2.1), (Kd.fresh' (Kd.R_lt (by (with_reducible repeat (first | apply Kd.R_alloc | apply Kd.R_drewN | apply Kd.R_drew)); exact HO300.out)) k_ hk_.2.1)⟩)) (below_size (by repeat (first | exact HB.out | apply below_alloc | apply pw_below_drewN | apply below_drew1)))); have n2_ := Aside0.mk (below_step (by repeat (first | exact HB.out | apply below_alloc | apply pw_below_drewN | apply below_drew1)) hb); clear HO300; clear HB; have HO300 := n0_; have HO303 := n1_; have HB := n2_; clear n0_ n1_ n2_; (try clear hb); (try clear hb2); (try clear hk); (try clear hi); (try clear ho0)))
 repeat (go_quiet (first | (go_at_call 59; (with_reducible refine (potbankref06_indices.calls k (l1.length : Int) t298 _ A3.out).mono ?_); rintro e w5 ⟨v299, rfl, ho0, hb⟩; have n0_ := Aside0.mk (Kd.R_lower (Kd.R_newM (M := fun k_ => (w.heap.size ≤ k_)) ho0 (below_size (by repeat (first | exact HB.out | apply below_alloc | apply pw_below_drewN | apply below_drew1))) (fun k_ h_ => h_)) (below_size (by repeat (first | exact HB.out | apply below_alloc | apply pw_below_drewN | apply below_drew1)))); have n1_ := Aside0.mk (below_step (by repeat (first | exact HB.out | apply below_alloc | apply pw_below_drewN | apply below_drew1)) hb); clear HB; have HO300 := n0_; have HB := n1_; clear n0_ n1_; (try clear hb); (try clear hb2); (try clear hk); (try clear hi); (try clear ho0); obtain ⟨Ao6, co6, eo6⟩ := Kd.R_slice HO300.out; subst eo6) | (go_at_call 75; (with_reducible refine (potbankref06_within.calls k _ _ l0 _ _ l1 _ _ t298 t301 _ ?side1 ?side2 ?side3 ?side4 ?side5 ?side6 A4.out).mono ?_); (case side1 => repeat (first | exact (Kd.C_below HR0.out HB.out) | (with_reducible refine Kd.C_alloc ?_ _) | (with_reducible refine Kd.C_drewN ?_ _) | (with_reducible refine Kd.C_drew ?_))); (case side2 => exact HC0.out); (case side3 => repeat (first | exact (Kd.C_below HR1.out HB.out) | (with_reducible refine Kd.C_alloc ?_ _) | (with_reducible refine Kd.C_drewN ?_ _) | (with_reducible refine Kd.C_drew ?_))); (case side4 => exact HC1.out); (case side5 => repeat (first | exact (Kd.R_reads' HO300.out).2.2 | (with_reducible refine Kd.C_alloc ?_ _) | (with_reducible refine Kd.C_drewN ?_ _) | (with_reducible refine Kd.C_drew ?_))); (case side6 => exact (Kd.R_reads' HO300.out).2.1); rintro e w7 ⟨v302, rfl, ho0, hb⟩; have n0_ := Aside0.mk (Kd.R_below (by (with_reducible repeat (first | apply Kd.R_alloc | apply Kd.R_drewN | apply Kd.R_drew)); exact HO300.out) hb); have n1_ := Aside0.mk (Kd.N_lower (Kd.N_mono (ok' := fun k_ => (w.heap.size ≤ k_) ∧ some k_ ≠ (.slice Ao6 t298.length co6 : Value).ownBlock) (Kd.S_N (Kd.S_bound ho0)) (fun k_ hk_ => ⟨(Nat.le_trans (below_size (by repeat (first | exact HB.out | apply below_alloc | apply pw_below_drewN | apply below_drew1))) hk_.2.1), (Kd.fresh' (Kd.R_lt (by (with_reducible repeat (first | apply Kd.R_alloc | apply Kd.R_drewN | apply Kd.R_drew)); exact HO300.out)) k_ hk_.2.1)⟩)) (below_size (by repeat (first | exact HB.out | apply below_alloc | apply pw_below_drewN | apply below_drew1)))); have n2_ := Aside0.mk (below_step (by repeat (first | exact HB.out | apply below_alloc | apply pw_below_drewN | apply below_drew1)) hb); clear HO300; clear HB; have HO300 := n0_; have HO303 := n1_; have HB := n2_; clear n0_ n1_ n2_; (try clear hb); (try clear hb2); (try clear hk); (try clear hi); (try clear ho0))); try go_wp2_with (first | (go_at_call 59; (with_reducible refine (potbankref06_indices.calls k (l1.length : Int) t298 _ A3.out).mono ?_); rintro e w5 ⟨v299, rfl, ho0, hb⟩; have n0_ := Aside0.mk (Kd.R_lower (Kd.R_newM (M := fun k_ => (w.heap.size ≤ k_)) ho0 (below_size (by repeat (first | exact HB.out | apply below_alloc | apply pw_below_drewN | apply below_drew1))) (fun k_ h_ => h_)) (below_size (by repeat (first | exact HB.out | apply below_alloc | apply pw_below_drewN | apply below_drew1)))); have n1_ := Aside0.mk (below_step (by repeat (first | exact HB.out | apply below_alloc | apply pw_below_drewN | apply below_drew1)) hb); clear HB; have HO300 := n0_; have HB := n1_; clear n0_ n1_; (try clear hb); (try clear hb2); (try clear hk); (try clear hi); (try clear ho0); obtain ⟨Ao6, co6, eo6⟩ := Kd.R_slice HO300.out; subst eo6) | (go_at_call 75; (with_reducible refine (potbankref06_within.calls k _ _ l0 _ _ l1 _ _ t298 t301 _ ?side1 ?side2 ?side3 ?side4 ?side5 ?side6 A4.out).mono ?_); (case side1 => repeat (first | exact (Kd.C_below HR0.out HB.out) | (with_reducible refine Kd.C_alloc ?_ _) | (with_reducible refine Kd.C_drewN ?_ _) | (with_reducible refine Kd.C_drew ?_))); (case side2 => exact HC0.out); (case side3 => repeat (first | exact (Kd.C_below HR1.out HB.out) | (with_reducible refine Kd.C_alloc ?_ _) | (with_reducible refine Kd.C_drewN ?_ _) | (with_reducible refine Kd.C_drew ?_))); (case side4 => exact HC1.out); (case side5 => repeat (first | exact (Kd.R_reads' HO300.out).2.2 | (with_reducible refine Kd.C_alloc ?_ _) | (with_reducible refine Kd.C_drewN ?_ _) | (with_reducible refine Kd.C_drew ?_))); (case side6 => exact (Kd.R_reads' HO300.out).2.1); rintro e w7 ⟨v302, rfl, ho0, hb⟩; have n0_ := Aside0.mk (Kd.R_below (by (with_reducible repeat (first | apply Kd.R_alloc | apply Kd.R_drewN | apply Kd.R_drew)); exact HO300.out) hb); have n1_ := Aside0.mk (Kd.N_lower (Kd.N_mono (ok' := fun k_ => (w.heap.size ≤ k_) ∧ some k_ ≠ (.slice Ao6 t298.length co6 : Value).ownBlock) (Kd.S_N (Kd.S_bound ho0)) (fun k_ hk_ => ⟨(Nat.le_trans (below_size (by repeat (first | exact HB.out | apply below_alloc | apply pw_below_drewN | apply below_drew1))) hk_.2.1), (Kd.fresh' (Kd.R_lt (by (with_reducible repeat (first | apply Kd.R_alloc | apply Kd.R_drewN | apply Kd.R_drew)); exact HO300.out)) k_ hk_.2.1)⟩)) (below_size (by repeat (first | exact HB.out | apply below_alloc | apply pw_below_drewN | apply below_drew1)))); have n2_ := Aside0.mk (below_step (by repeat (first | exact HB.out | apply below_alloc | apply pw_below_drewN | apply below_drew1)) hb); clear HO300; clear HB; have HO300 := n0_; have HO303 := n1_; have HB := n2_; clear n0_ n1_ n2_; (try clear hb); (try clear hb2); (try clear hk); (try clear hi); (try clear ho0))))
 go_loopg [6, 7] k (fun kq v6 v7 w' => ∃ (x6_1 : List (List Int)) (x7_1 : Int), v7 = .int .i64 x7_1 ∧ Aside0 (potbankref06_crowds.l0 kq t301 x6_1 x7_1 = some r) ∧ Aside0 (kq ≤ k) ∧ Aside0 (Kd.N (Kd.slice 3 (Kd.int .i64)) 41 w' w.heap.size (fun k_ => (w.heap.size ≤ k_) ∧ some k_ ≠ (v6 : Value).ownBlock) v302 t301) ∧ Aside0 (Kd.N (Kd.slice 3 (Kd.int .i64)) 41 w' w.heap.size (fun k_ => (w.heap.size ≤ k_) ∧ some k_ ≠ (v302 : Value).ownBlock) v6 x6_1) ∧ Aside0 (Below w.heap.size w w'))
 case atStart => exact ⟨(([] : List (List Int))), (0), (by first | rfl | (simp; done) | (simp [*]; done)), H', ⟨Nat.le_refl _⟩, ⟨by (with_reducible repeat (first | apply Kd.N_alloc | apply Kd.N_drewN | apply Kd.N_drew)); exact Kd.N_mono HO303.out (fun _ hk => ⟨hk.1, (by simp [Value.ownBlock])⟩)⟩, ⟨by first | exact Kd.S_nil _ _ _ _ _ | exact Kd.N_nil _ _ _ _ _ | exact Kd.V_nil _ _ _ _ _ | exact Kd.Q_nil _ _ _ _ _ | exact Kd.R_nil _ _ _ _ _⟩, ⟨by repeat (first | exact HB.out | apply below_alloc | apply pw_below_drewN | apply below_drew1)⟩⟩
 case round =>
  clear H'
  try clear c1
  try clear p2
  try clear c5
  obtain ⟨x6_1, x7_1, rfl, HA, HK1, HO_5, HO_6, HB⟩ := hrel
  cases gk with
  | zero => exact absurd HA.out (by simp [potbankref06_crowds.l0])
  | succ k1 =>
   have H := HA.out
   clear HA
   simp only [potbankref06_crowds.l0] at H
   by_cases c8 : x7_1 < (t301.length : Int)
   ·rw [if_pos c8] at H
    have c8b0 : decide (x7_1 < (t301.length : Int)) = true := decide_eq_true c8
    clear c8
    have H' := Aside0.mk H
    clear H
    obtain ⟨Ao9, co9, eo9⟩ := Kd.N_slice HO_5.out
    subst eo9
    go_wp2
    repeat (go_quiet (fail); try go_wp2)
    go_loopg [8, 9] k1 (fun kq v8 v9 w' => ∃ (x8_2 : Bool) (x9_2 : Int), v8 = .bool x8_2 ∧ v9 = .int .i64 x9_2 ∧ Aside0 (potbankref06_crowds.l1 kq t301 x6_1 x7_1 x8_2 x9_2 = some r) ∧ Aside0 (kq ≤ k1) ∧ Aside0 (Kd.N (Kd.slice 3 (Kd.int .i64)) 41 w' w.heap.size (fun k_ => (w.heap.size ≤ k_) ∧ some k_ ≠ (u6 : Value).ownBlock) (.slice Ao9 t301.length co9) t301) ∧ Aside0 (Kd.N (Kd.slice 3 (Kd.int .i64)) 41 w' w.heap.size (fun k_ => (w.heap.size ≤ k_) ∧ some k_ ≠ ((.slice Ao9 t301.length co9) : Value).ownBlock) u6 x6_1) ∧ Aside0 (Below w.heap.size w w'))
    case atStart => exact ⟨(true), (0), (by first | rfl | (simp; done) | (simp [*]; done)), (by first | rfl | (simp; done) | (simp [*]; done)), H', ⟨Nat.le_refl _⟩, ⟨by (with_reducible repeat (first | apply Kd.N_alloc | apply Kd.N_drewN | apply Kd.N_drew)); exact HO_5.out⟩, ⟨by (with_reducible repeat (first | apply Kd.N_alloc | apply Kd.N_drewN | apply Kd.N_drew)); exact HO_6.out⟩, ⟨by repeat (first | exact HB.out | apply below_alloc | apply pw_below_drewN | apply below_drew1)⟩⟩
    case round =>
     clear H'
     try clear c1
     try clear p2
     try clear c5
     try clear c8
     try clear c8b0
     try clear p2
     obtain ⟨x8_2, x9_2, rfl, rfl, HA, HK2, HO_5, HO_6, HB⟩ := hrel
     cases gk with
     | zero => exact absurd HA.out (by simp [potbankref06_crowds.l1])
     | succ k2 =>
      have H := HA.out
      clear HA
      simp only [potbankref06_crowds.l1] at H
      by_cases c10 : x9_2 < (t301.length : Int)
      ·rw [if_pos c10] at H
       have c10b0 : decide (x9_2 < (t301.length : Int)) = true := decide_eq_true c10
       clear c10
       by_cases c11 : x8_2 = true
       ·subst c11
        rw [if_pos rfl] at H
        by_cases c12 : x9_2 = x7_1
        ·rw [if_pos c12] at H
         have c12b0 : (x9_2 == x7_1) = true := beq_iff_eq.mpr c12
         have c12b1 : (x9_2 != x7_1) = false := bne_eq_false_iff_eq.mpr c12
         clear c12
         have H' := Aside0.mk H
         clear H
         go_wp2
         repeat (go_quiet (fail); try go_wp2)
         go_roundg k2
         case measure => have := HK1.out; have := HK2.out; omega
         case rel => exact ⟨(true), (wrap64 (x9_2 + 1)), (by first | rfl | (simp; done) | (simp [*]; done)), (by first | rfl | (simp; done) | (simp [*]; done)), H', ⟨by have := HK1.out; have := HK2.out; omega⟩, ⟨by (with_reducible repeat (first | apply Kd.N_alloc | apply Kd.N_drewN | apply Kd.N_drew)); exact HO_5.out⟩, ⟨by (with_reducible repeat (first | apply Kd.N_alloc | apply Kd.N_drewN | apply Kd.N_drew)); exact HO_6.out⟩, ⟨by repeat (first | exact HB.out | apply below_alloc | apply pw_below_drewN | apply below_drew1)⟩⟩
        ·rw [if_neg c12] at H
         have c12b0 : (x9_2 == x7_1) = false := beq_eq_false_iff_ne.mpr c12
         have c12b1 : (x9_2 != x7_1) = true := bne_iff_ne.mpr c12
         by_cases c13 : 0 ≤ x9_2
         ·rw [if_pos c13] at H
          have c13b0 : decide (0 ≤ x9_2) = true := decide_eq_true c13
          clear c13
          by_cases c14 : 0 ≤ x7_1
          ·rw [if_pos c14] at H
           have c14b0 : decide (0 ≤ x7_1) = true := decide_eq_true c14
           clear c14
           by_cases c15 : x7_1 < (t301.length : Int)
           ·rw [if_pos c15] at H
            have c15b0 : decide (x7_1 < (t301.length : Int)) = true := decide_eq_true c15
            clear c15
            replace H := Option.bind_eq_some_iff.mp H
            obtain ⟨t306, A160, H⟩ := H
            (try dsimp only at H)
            have A16 := Aside0.mk A160
            clear A160
            have H' := Aside0.mk H
            clear H
            have p304 : 0 ≤ (x9_2 : Int) := of_decide_eq_true (by first | (with_reducible assumption) | assumption)
            have q304 : x9_2 < (t301.length : Int) := of_decide_eq_true (by first | (with_reducible assumption) | assumption)
            obtain ⟨ad304, A304_0, c304_0, e304, hx304_0, hl304_0, hi304_0⟩ := at_L5 (Kd.N_reads' HO_5.out).2.2 x9_2 p304 q304
            cases e304
            obtain ⟨ce304, hce304, hMe304, hcc304⟩ := Kd.N_get HO_5.out [] x9_2 p304 (by first | exact q304 | exact of_decide_eq_true (by first | (with_reducible assumption) | assumption) | (have e_ := (Kd.N_reads' HO_5.out).1; omega))
            obtain ⟨ua304_0, uc304_0, rfl, ul304_0, ge304_0⟩ := Kd.FK_slice_open hMe304
            have hv304_0 := hcc304 0 _ rfl
            rw [Nat.add_zero, show ((Kd.slice 3 (Kd.int .i64))).sz = 1 from rfl, Nat.mul_one] at hv304_0
            replace hv304_0 := Option.some.inj (hv304_0.symm.trans hx304_0)
            injection hv304_0 with hva_ hvn_ hvc_
            rw [hva_] at ge304_0
            rw [hvc_] at ul304_0
            have HL304_0 := Aside0.mk (show Kd.V (Kd.int .i64) 3 _ w.heap.size _ _ (rd_L5 t301 x9_2) from Kd.V_mk ul304_0 ge304_0)
            clear hva_ hvn_ hvc_ ge304_0 ul304_0
            clear hcc304 hce304
            have HR304_0 := Aside0.mk hi304_0
            have HC304_0 := Aside0.mk hl304_0
            clear hi304_0 hl304_0
            replace p304 := eq_true p304
            replace q304 := eq_true q304
            have p305 : 0 ≤ (x7_1 : Int) := of_decide_eq_true (by first | (with_reducible assumption) | assumption)
            have q305 : x7_1 < (t301.length : Int) := of_decide_eq_true (by first | (with_reducible assumption) | assumption)
            obtain ⟨ad305, A305_0, c305_0, e305, hx305_0, hl305_0, hi305_0⟩ := at_L5 (Kd.N_reads' HO_5.out).2.2 x7_1 p305 q305
            obtain rfl : ad304 = ad305 := (by injection e305)
            obtain ⟨ce305, hce305, hMe305, hcc305⟩ := Kd.N_get HO_5.out [] x7_1 p305 (by first | exact q305 | exact of_decide_eq_true (by first | (with_reducible assumption) | assumption) | (have e_ := (Kd.N_reads' HO_5.out).1; omega))
            obtain ⟨ua305_0, uc305_0, rfl, ul305_0, ge305_0⟩ := Kd.FK_slice_open hMe305
            have hv305_0 := hcc305 0 _ rfl
            rw [Nat.add_zero, show ((Kd.slice 3 (Kd.int .i64))).sz = 1 from rfl, Nat.mul_one] at hv305_0
            replace hv305_0 := Option.some.inj (hv305_0.symm.trans hx305_0)
            injection hv305_0 with hva_ hvn_ hvc_
            rw [hva_] at ge305_0
            rw [hvc_] at ul305_0
            have HL305_0 := Aside0.mk (show Kd.V (Kd.int .i64) 3 _ w.heap.size _ _ (rd_L5 t301 x7_1) from Kd.V_mk ul305_0 ge305_0)
            clear hva_ hvn_ hvc_ ge305_0 ul305_0
            clear hcc305 hce305
            have HR305_0 := Aside0.mk hi305_0
            have HC305_0 := Aside0.mk hl305_0
            clear hi305_0 hl305_0
            replace p305 := eq_true p305
            replace q305 := eq_true q305
            go_wp2_with (first | (go_at_call 97; (with_reducible refine (potbankref06_subset.calls k2 _ _ (rd_L5 t301 x9_2) _ _ (rd_L5 t301 x7_1) t306 _ ?side1 ?side2 ?side3 ?side4 A16.out).mono ?_); (case side1 => repeat (first | exact (by repeat (first | (with_reducible exact HR304_0.out) | (with_reducible refine Kd.C_alloc ?_ _) | (with_reducible refine Kd.C_drewN ?_ _) | (with_reducible refine Kd.C_drew ?_) | exact HR304_0.out)) | (with_reducible refine Kd.C_alloc ?_ _) | (with_reducible refine Kd.C_drewN ?_ _) | (with_reducible refine Kd.C_drew ?_))); (case side2 => exact HC304_0.out); (case side3 => repeat (first | exact (by repeat (first | (with_reducible exact HR305_0.out) | (with_reducible refine Kd.C_alloc ?_ _) | (with_reducible refine Kd.C_drewN ?_ _) | (with_reducible refine Kd.C_drew ?_) | exact HR305_0.out)) | (with_reducible refine Kd.C_alloc ?_ _) | (with_reducible refine Kd.C_drewN ?_ _) | (with_reducible refine Kd.C_drew ?_))); (case side4 => exact HC305_0.out); rintro e w' ⟨rfl, ⟨nd, rfl⟩⟩; (try first | exact ⟨rfl, _, World.drewN_drewN _ _ _⟩ | exact ⟨rfl, _, Eq.trans (World.drewN_drewN _ _ _) (congrArg (World.drewN _) (Nat.add_assoc _ _ _))⟩)))
            repeat (go_quiet (first | (go_at_call 97; (with_reducible refine (potbankref06_subset.calls k2 _ _ (rd_L5 t301 x9_2) _ _ (rd_L5 t301 x7_1) t306 _ ?side1 ?side2 ?side3 ?side4 A16.out).mono ?_); (case side1 => repeat (first | exact (by repeat (first | (with_reducible exact HR304_0.out) | (with_reducible refine Kd.C_alloc ?_ _) | (with_reducible refine Kd.C_drewN ?_ _) | (with_reducible refine Kd.C_drew ?_) | exact HR304_0.out)) | (with_reducible refine Kd.C_alloc ?_ _) | (with_reducible refine Kd.C_drewN ?_ _) | (with_reducible refine Kd.C_drew ?_))); (case side2 => exact HC304_0.out); (case side3 => repeat (first | exact (by repeat (first | (with_reducible exact HR305_0.out) | (with_reducible refine Kd.C_alloc ?_ _) | (with_reducible refine Kd.C_drewN ?_ _) | (with_reducible refine Kd.C_drew ?_) | exact HR305_0.out)) | (with_reducible refine Kd.C_alloc ?_ _) | (with_reducible refine Kd.C_drewN ?_ _) | (with_reducible refine Kd.C_drew ?_))); (case side4 => exact HC305_0.out); rintro e w' ⟨rfl, ⟨nd, rfl⟩⟩; (try first | exact ⟨rfl, _, World.drewN_drewN _ _ _⟩ | exact ⟨rfl, _, Eq.trans (World.drewN_drewN _ _ _) (congrArg (World.drewN _) (Nat.add_assoc _ _ _))⟩))); try go_wp2_with (first | (go_at_call 97; (with_reducible refine (potbankref06_subset.calls k2 _ _ (rd_L5 t301 x9_2) _ _ (rd_L5 t301 x7_1) t306 _ ?side1 ?side2 ?side3 ?side4 A16.out).mono ?_); (case side1 => repeat (first | exact (by repeat (first | (with_reducible exact HR304_0.out) | (with_reducible refine Kd.C_alloc ?_ _) | (with_reducible refine Kd.C_drewN ?_ _) | (with_reducible refine Kd.C_drew ?_) | exact HR304_0.out)) | (with_reducible refine Kd.C_alloc ?_ _) | (with_reducible refine Kd.C_drewN ?_ _) | (with_reducible refine Kd.C_drew ?_))); (case side2 => exact HC304_0.out); (case side3 => repeat (first | exact (by repeat (first | (with_reducible exact HR305_0.out) | (with_reducible refine Kd.C_alloc ?_ _) | (with_reducible refine Kd.C_drewN ?_ _) | (with_reducible refine Kd.C_drew ?_) | exact HR305_0.out)) | (with_reducible refine Kd.C_alloc ?_ _) | (with_reducible refine Kd.C_drewN ?_ _) | (with_reducible refine Kd.C_drew ?_))); (case side4 => exact HC305_0.out); rintro e w' ⟨rfl, ⟨nd, rfl⟩⟩; (try first | exact ⟨rfl, _, World.drewN_drewN _ _ _⟩ | exact ⟨rfl, _, Eq.trans (World.drewN_drewN _ _ _) (congrArg (World.drewN _) (Nat.add_assoc _ _ _))⟩))))
            go_roundg k2
            case measure => have := HK1.out; have := HK2.out; omega
            case rel => exact ⟨(!t306), (wrap64 (x9_2 + 1)), (by first | rfl | (simp; done) | (simp [*]; done)), (by first | rfl | (simp; done) | (simp [*]; done)), H', ⟨by have := HK1.out; have := HK2.out; omega⟩, ⟨by (with_reducible repeat (first | apply Kd.N_alloc | apply Kd.N_drewN | apply Kd.N_drew)); exact HO_5.out⟩, ⟨by (with_reducible repeat (first | apply Kd.N_alloc | apply Kd.N_drewN | apply Kd.N_drew)); exact HO_6.out⟩, ⟨by repeat (first | exact HB.out | apply below_alloc | apply pw_below_drewN | apply below_drew1)⟩⟩
           ·rw [if_neg c15] at H
            exact absurd H (by simp)
          ·rw [if_neg c14] at H
           exact absurd H (by simp)
         ·rw [if_neg c13] at H
          exact absurd H (by simp)
       ·replace c11 := Bool.eq_false_iff.mpr c11
        subst c11
        rw [if_neg (show ¬ (false = true) by decide)] at H
        have H' := Aside0.mk H
        clear H
        go_wp2
        repeat (go_quiet (fail); try go_wp2)
        go_roundg k2
        case measure => have := HK1.out; have := HK2.out; omega
        case rel => exact ⟨(false), (wrap64 (x9_2 + 1)), (by first | rfl | (simp; done) | (simp [*]; done)), (by first | rfl | (simp; done) | (simp [*]; done)), H', ⟨by have := HK1.out; have := HK2.out; omega⟩, ⟨by (with_reducible repeat (first | apply Kd.N_alloc | apply Kd.N_drewN | apply Kd.N_drew)); exact HO_5.out⟩, ⟨by (with_reducible repeat (first | apply Kd.N_alloc | apply Kd.N_drewN | apply Kd.N_drew)); exact HO_6.out⟩, ⟨by repeat (first | exact HB.out | apply below_alloc | apply pw_below_drewN | apply below_drew1)⟩⟩
      ·rw [if_neg c10] at H
       have c10b0 : decide (x9_2 < (t301.length : Int)) = false := decide_eq_false c10
       clear c10
       by_cases c17 : x8_2 = true
       ·subst c17
        rw [if_pos rfl] at H
        by_cases c18 : 0 ≤ x7_1
        ·rw [if_pos c18] at H
         have c18b0 : decide (0 ≤ x7_1) = true := decide_eq_true c18
         clear c18
         by_cases c19 : x7_1 < (t301.length : Int)
         ·rw [if_pos c19] at H
          have c19b0 : decide (x7_1 < (t301.length : Int)) = true := decide_eq_true c19
          clear c19
          replace H := Option.bind_eq_some_iff.mp H
          obtain ⟨t308, A200, H⟩ := H
          (try dsimp only at H)
          have A20 := Aside0.mk A200
          clear A200
          have H' := Aside0.mk H
          clear H
          have p307 : 0 ≤ (x7_1 : Int) := of_decide_eq_true (by first | (with_reducible assumption) | assumption)
          have q307 : x7_1 < (t301.length : Int) := of_decide_eq_true (by first | (with_reducible assumption) | assumption)
          obtain ⟨ad307, A307_0, c307_0, e307, hx307_0, hl307_0, hi307_0⟩ := at_L5 (Kd.N_reads' HO_5.out).2.2 x7_1 p307 q307
          cases e307
          obtain ⟨ce307, hce307, hMe307, hcc307⟩ := Kd.N_get HO_5.out [] x7_1 p307 (by first | exact q307 | exact of_decide_eq_true (by first | (with_reducible assumption) | assumption) | (have e_ := (Kd.N_reads' HO_5.out).1; omega))
          obtain ⟨ua307_0, uc307_0, rfl, ul307_0, ge307_0⟩ := Kd.FK_slice_open hMe307
          have hv307_0 := hcc307 0 _ rfl
          rw [Nat.add_zero, show ((Kd.slice 3 (Kd.int .i64))).sz = 1 from rfl, Nat.mul_one] at hv307_0
          replace hv307_0 := Option.some.inj (hv307_0.symm.trans hx307_0)
          injection hv307_0 with hva_ hvn_ hvc_
          rw [hva_] at ge307_0
          rw [hvc_] at ul307_0
          have HL307_0 := Aside0.mk (show Kd.V (Kd.int .i64) 3 _ w.heap.size _ _ (rd_L5 t301 x7_1) from Kd.V_mk ul307_0 ge307_0)
          clear hva_ hvn_ hvc_ ge307_0 ul307_0
          clear hcc307 hce307
          have HR307_0 := Aside0.mk hi307_0
          have HC307_0 := Aside0.mk hl307_0
          clear hi307_0 hl307_0
          replace p307 := eq_true p307
          replace q307 := eq_true q307
          obtain ⟨Ao21, co21, eo21⟩ := Kd.N_slice HO_6.out
          subst eo21
          go_wp2_with (first | (go_at_call 98; (with_reducible refine (potbankref06_put.calls k2 (fun k_ => ((w.heap.size ≤ k_) ∧ some k_ ≠ (.slice (some ad307) t301.length co9 : Value).ownBlock)) _ _ x6_1 (fun k_ => (((w.heap.size ≤ k_) ∧ some k_ ≠ (.slice Ao21 x6_1.length co21 : Value).ownBlock) ∧ some k_ ≠ (.slice (some ad307) t301.length co9 : Value).ownBlock)) _ _ (rd_L5 t301 x7_1) t308 _ ?side1 ?side2 A20.out).mono ?_); (case side1 => exact Kd.N_V (HO_6.out)); (case side2 => exact HL307_0.out); rintro e w22 ⟨v309, rfl, ho0, hb⟩; have n0_ := Aside0.mk (Kd.N_elder' (by (with_reducible repeat (first | apply Kd.N_alloc | apply Kd.N_drewN | apply Kd.N_drew)); exact HO_5.out) (Kd.N_base ho0) hb); have n1_ := Aside0.mk (Kd.N_elder' (by (with_reducible repeat (first | apply Kd.N_alloc | apply Kd.N_drewN | apply Kd.N_drew)); exact HO_6.out) (Kd.N_base ho0) hb); have n2_ := Aside0.mk (Kd.V_elder' (by (with_reducible repeat (first | apply Kd.V_alloc | apply Kd.V_drewN | apply Kd.V_drew)); exact HL307_0.out) (Kd.N_base ho0) hb); have n3_ := Aside0.mk (Kd.N_lower (Kd.N_mono (ok' := fun k_ => (w.heap.size ≤ k_) ∧ some k_ ≠ (.slice (some ad307) t301.length co9 : Value).ownBlock) ho0 (fun k_ hk_ => ⟨Or.elim hk_ (fun hs_ => Or.elim hs_ (fun hs_ => hs_.1) (fun hs_ => hs_.1.1)) (fun hn_ => (Nat.le_trans (below_size (by repeat (first | exact HB.out | apply below_alloc | apply pw_below_drewN | apply below_drew1))) hn_)), Or.elim hk_ (fun hs_ => Or.elim hs_ (fun hs_ => hs_.2) (fun hs_ => hs_.2)) (fun hn_ => (Kd.fresh' (Kd.N_lt (by (with_reducible repeat (first | apply Kd.N_alloc | apply Kd.N_drewN | apply Kd.N_drew)); exact HO_5.out)) k_ hn_))⟩)) (below_size (by repeat (first | exact HB.out | apply below_alloc | apply pw_below_drewN | apply below_drew1)))); have n4_ := Aside0.mk (Kd.C_below (by repeat (first | (with_reducible exact HR307_0.out) | (with_reducible refine Kd.C_alloc ?_ _) | (with_reducible refine Kd.C_drewN ?_ _) | (with_reducible refine Kd.C_drew ?_) | exact HR307_0.out)) hb); have n5_ := Aside0.mk (below_step (by repeat (first | exact HB.out | apply below_alloc | apply pw_below_drewN | apply below_drew1)) hb); clear HO_5; clear HO_6; clear HL307_0; clear HR307_0; clear HB; have HO_5 := n0_; have HO_6 := n1_; have HL307_0 := n2_; have HO310 := n3_; have HR307_0 := n4_; have HB := n5_; clear n0_ n1_ n2_ n3_ n4_ n5_; (try clear hb); (try clear hb2); (try clear hk); (try clear hi); (try clear ho0)))
          repeat (go_quiet (first | (go_at_call 98; (with_reducible refine (potbankref06_put.calls k2 (fun k_ => ((w.heap.size ≤ k_) ∧ some k_ ≠ (.slice (some ad307) t301.length co9 : Value).ownBlock)) _ _ x6_1 (fun k_ => (((w.heap.size ≤ k_) ∧ some k_ ≠ (.slice Ao21 x6_1.length co21 : Value).ownBlock) ∧ some k_ ≠ (.slice (some ad307) t301.length co9 : Value).ownBlock)) _ _ (rd_L5 t301 x7_1) t308 _ ?side1 ?side2 A20.out).mono ?_); (case side1 => exact Kd.N_V (HO_6.out)); (case side2 => exact HL307_0.out); rintro e w22 ⟨v309, rfl, ho0, hb⟩; have n0_ := Aside0.mk (Kd.N_elder' (by (with_reducible repeat (first | apply Kd.N_alloc | apply Kd.N_drewN | apply Kd.N_drew)); exact HO_5.out) (Kd.N_base ho0) hb); have n1_ := Aside0.mk (Kd.N_elder' (by (with_reducible repeat (first | apply Kd.N_alloc | apply Kd.N_drewN | apply Kd.N_drew)); exact HO_6.out) (Kd.N_base ho0) hb); have n2_ := Aside0.mk (Kd.V_elder' (by (with_reducible repeat (first | apply Kd.V_alloc | apply Kd.V_drewN | apply Kd.V_drew)); exact HL307_0.out) (Kd.N_base ho0) hb); have n3_ := Aside0.mk (Kd.N_lower (Kd.N_mono (ok' := fun k_ => (w.heap.size ≤ k_) ∧ some k_ ≠ (.slice (some ad307) t301.length co9 : Value).ownBlock) ho0 (fun k_ hk_ => ⟨Or.elim hk_ (fun hs_ => Or.elim hs_ (fun hs_ => hs_.1) (fun hs_ => hs_.1.1)) (fun hn_ => (Nat.le_trans (below_size (by repeat (first | exact HB.out | apply below_alloc | apply pw_below_drewN | apply below_drew1))) hn_)), Or.elim hk_ (fun hs_ => Or.elim hs_ (fun hs_ => hs_.2) (fun hs_ => hs_.2)) (fun hn_ => (Kd.fresh' (Kd.N_lt (by (with_reducible repeat (first | apply Kd.N_alloc | apply Kd.N_drewN | apply Kd.N_drew)); exact HO_5.out)) k_ hn_))⟩)) (below_size (by repeat (first | exact HB.out | apply below_alloc | apply pw_below_drewN | apply below_drew1)))); have n4_ := Aside0.mk (Kd.C_below (by repeat (first | (with_reducible exact HR307_0.out) | (with_reducible refine Kd.C_alloc ?_ _) | (with_reducible refine Kd.C_drewN ?_ _) | (with_reducible refine Kd.C_drew ?_) | exact HR307_0.out)) hb); have n5_ := Aside0.mk (below_step (by repeat (first | exact HB.out | apply below_alloc | apply pw_below_drewN | apply below_drew1)) hb); clear HO_5; clear HO_6; clear HL307_0; clear HR307_0; clear HB; have HO_5 := n0_; have HO_6 := n1_; have HL307_0 := n2_; have HO310 := n3_; have HR307_0 := n4_; have HB := n5_; clear n0_ n1_ n2_ n3_ n4_ n5_; (try clear hb); (try clear hb2); (try clear hk); (try clear hi); (try clear ho0))); try go_wp2_with (first | (go_at_call 98; (with_reducible refine (potbankref06_put.calls k2 (fun k_ => ((w.heap.size ≤ k_) ∧ some k_ ≠ (.slice (some ad307) t301.length co9 : Value).ownBlock)) _ _ x6_1 (fun k_ => (((w.heap.size ≤ k_) ∧ some k_ ≠ (.slice Ao21 x6_1.length co21 : Value).ownBlock) ∧ some k_ ≠ (.slice (some ad307) t301.length co9 : Value).ownBlock)) _ _ (rd_L5 t301 x7_1) t308 _ ?side1 ?side2 A20.out).mono ?_); (case side1 => exact Kd.N_V (HO_6.out)); (case side2 => exact HL307_0.out); rintro e w22 ⟨v309, rfl, ho0, hb⟩; have n0_ := Aside0.mk (Kd.N_elder' (by (with_reducible repeat (first | apply Kd.N_alloc | apply Kd.N_drewN | apply Kd.N_drew)); exact HO_5.out) (Kd.N_base ho0) hb); have n1_ := Aside0.mk (Kd.N_elder' (by (with_reducible repeat (first | apply Kd.N_alloc | apply Kd.N_drewN | apply Kd.N_drew)); exact HO_6.out) (Kd.N_base ho0) hb); have n2_ := Aside0.mk (Kd.V_elder' (by (with_reducible repeat (first | apply Kd.V_alloc | apply Kd.V_drewN | apply Kd.V_drew)); exact HL307_0.out) (Kd.N_base ho0) hb); have n3_ := Aside0.mk (Kd.N_lower (Kd.N_mono (ok' := fun k_ => (w.heap.size ≤ k_) ∧ some k_ ≠ (.slice (some ad307) t301.length co9 : Value).ownBlock) ho0 (fun k_ hk_ => ⟨Or.elim hk_ (fun hs_ => Or.elim hs_ (fun hs_ => hs_.1) (fun hs_ => hs_.1.1)) (fun hn_ => (Nat.le_trans (below_size (by repeat (first | exact HB.out | apply below_alloc | apply pw_below_drewN | apply below_drew1))) hn_)), Or.elim hk_ (fun hs_ => Or.elim hs_ (fun hs_ => hs_.2) (fun hs_ => hs_.2)) (fun hn_ => (Kd.fresh' (Kd.N_lt (by (with_reducible repeat (first | apply Kd.N_alloc | apply Kd.N_drewN | apply Kd.N_drew)); exact HO_5.out)) k_ hn_))⟩)) (below_size (by repeat (first | exact HB.out | apply below_alloc | apply pw_below_drewN | apply below_drew1)))); have n4_ := Aside0.mk (Kd.C_below (by repeat (first | (with_reducible exact HR307_0.out) | (with_reducible refine Kd.C_alloc ?_ _) | (with_reducible refine Kd.C_drewN ?_ _) | (with_reducible refine Kd.C_drew ?_) | exact HR307_0.out)) hb); have n5_ := Aside0.mk (below_step (by repeat (first | exact HB.out | apply below_alloc | apply pw_below_drewN | apply below_drew1)) hb); clear HO_5; clear HO_6; clear HL307_0; clear HR307_0; clear HB; have HO_5 := n0_; have HO_6 := n1_; have HL307_0 := n2_; have HO310 := n3_; have HR307_0 := n4_; have HB := n5_; clear n0_ n1_ n2_ n3_ n4_ n5_; (try clear hb); (try clear hb2); (try clear hk); (try clear hi); (try clear ho0))))
          go_roundg k2
          case measure => have := HK1.out; have := HK2.out; omega
          case rel => exact ⟨(t308), (wrap64 (x7_1 + 1)), (by first | rfl | (simp; done) | (simp [*]; done)), H', ⟨by have := HK1.out; have := HK2.out; omega⟩, ⟨by (with_reducible repeat (first | apply Kd.N_alloc | apply Kd.N_drewN | apply Kd.N_drew)); exact Kd.N_mono HO_5.out (fun _ hk => ⟨hk.1.1, hk.2⟩)⟩, ⟨by (with_reducible repeat (first | apply Kd.N_alloc | apply Kd.N_drewN | apply Kd.N_drew)); exact HO310.out⟩, ⟨by repeat (first | exact HB.out | apply below_alloc | apply pw_below_drewN | apply below_drew1)⟩⟩
         ·rw [if_neg c19] at H
          exact absurd H (by simp)
        ·rw [if_neg c18] at H
         exact absurd H (by simp)
       ·replace c17 := Bool.eq_false_iff.mpr c17
        subst c17
        rw [if_neg (show ¬ (false = true) by decide)] at H
        have H' := Aside0.mk H
        clear H
        go_wp2
        repeat (go_quiet (fail); try go_wp2)
        go_roundg k2
        case measure => have := HK1.out; have := HK2.out; omega
        case rel => exact ⟨(x6_1), (wrap64 (x7_1 + 1)), (by first | rfl | (simp; done) | (simp [*]; done)), H', ⟨by have := HK1.out; have := HK2.out; omega⟩, ⟨by (with_reducible repeat (first | apply Kd.N_alloc | apply Kd.N_drewN | apply Kd.N_drew)); exact HO_5.out⟩, ⟨by (with_reducible repeat (first | apply Kd.N_alloc | apply Kd.N_drewN | apply Kd.N_drew)); exact HO_6.out⟩, ⟨by repeat (first | exact HB.out | apply below_alloc | apply pw_below_drewN | apply below_drew1)⟩⟩
   ·rw [if_neg c8] at H
    have c8b0 : decide (x7_1 < (t301.length : Int)) = false := decide_eq_false c8
    clear c8
    obtain rfl := Option.some.inj H
    obtain ⟨Ao23, co23, eo23⟩ := Kd.N_slice HO_5.out
    subst eo23
    go_wp2
    repeat (go_quiet (fail); try go_wp2)
    go_ret
    exact ⟨_, by first | rfl | (simp [errW_none, errW_some] <;> rfl) | (simp [*, errW_none, errW_some] <;> rfl), by (with_reducible repeat (first | apply Kd.N_alloc | apply Kd.N_drewN | apply Kd.N_drew)); exact Kd.N_mono HO_6.out (fun _ hk => hk.1), by repeat (first | exact HB.out | apply below_alloc | apply pw_below_drewN | apply below_drew1)⟩
def potbankref06_Reason.f (k : Nat) (l0 : List (S70)) (l1 : List (S72)) (a2 : Int) : Option ((List (List Int)) × Int) := (potbankref06_checked.f k l0 l1 ([] : List Int)).bind fun t311 => (if t311 = 0 then ((potbankref06_In.f a2 0 8).bind fun t312 => (if t312 = true then ((potbankref06_fewest.f k l0 l1).bind fun bt313 => (if bt313.2.2 = true then (if bt313.2.1 ≤ a2 then (some (([] : List (List Int)), 64)) else ((potbankref06_crowds.f k l0 l1).bind fun t318 => (some (t318, 0)))) else ((potbankref06_crowds.f k l0 l1).bind fun t321 => (some (t321, 0))))) else (some (([] : List (List Int)), 1)))) else (some (([] : List (List Int)), t311)))
set_option maxHeartbeats 8000000 in
set_option maxRecDepth 100000 in
theorem potbankref06_Reason.calls (k : Nat) (A0 : Option Addr) (c0 : Nat) (l0 : List (S70)) (A1 : Option Addr) (c1 : Nat) (l1 : List (S72)) (a2 : Int) (r1 : List (List Int)) (r2 : Int) (w : World) (hr0 : Kd.C k70 w A0 l0.length l0) (hc0 : l0.length ≤ c0) (hr1 : Kd.C k72 w A1 l1.length l1) (hc1 : l1.length ≤ c1) (h : potbankref06_Reason.f k l0 l1 a2 = some (r1, r2)) :
  Calls Tryz.prog 11 #[.slice A0 l0.length c0, .slice A1 l1.length c1, .int .i64 a2] w fun e w' => ∃ v0_ : Value, e = .returned (.tuple #[v0_, .int .i64 r2]) ∧ Kd.N (Kd.slice 3 (Kd.int .i64)) 41 w' w.heap.size (fun k_ => (w.heap.size ≤ k_)) v0_ r1 ∧ Below w.heap.size w w' := by
 have HR0 := Aside0.mk hr0
 have HC0 := Aside0.mk hc0
 clear hr0 hc0
 have HR1 := Aside0.mk hr1
 have HC1 := Aside0.mk hc1
 clear hr1 hc1
 have HB := Aside0.mk (Below.refl w.heap.size w)
 have H : ((potbankref06_checked.f k l0 l1 ([] : List Int)).bind fun t311 => (if t311 = 0 then ((potbankref06_In.f a2 0 8).bind fun t312 => (if t312 = true then ((potbankref06_fewest.f k l0 l1).bind fun bt313 => (if bt313.2.2 = true then (if bt313.2.1 ≤ a2 then (some (([] : List (List Int)), 64)) else ((potbankref06_crowds.f k l0 l1).bind fun t318 => (some (t318, 0)))) else ((potbankref06_crowds.f k l0 l1).bind fun t321 => (some (t321, 0))))) else (some (([] : List (List Int)), 1)))) else (some (([] : List (List Int)), t311)))) = some (r1, r2) := h
 clear h
 replace H := Option.bind_eq_some_iff.mp H
 obtain ⟨t311, A40, H⟩ := H
 (try dsimp only at H)
 have A4 := Aside0.mk A40
 clear A40
 by_cases c5 : t311 = 0
 ·rw [if_pos c5] at H
  have c5b0 : (t311 == 0) = true := beq_iff_eq.mpr c5
  have c5b1 : (t311 != 0) = false := bne_eq_false_iff_eq.mpr c5
  clear c5
  replace H := Option.bind_eq_some_iff.mp H
  obtain ⟨t312, A60, H⟩ := H
  (try dsimp only at H)
  have A6 := Aside0.mk A60
  clear A60
  by_cases c7 : t312 = true
  ·subst c7
   rw [if_pos rfl] at H
   replace H := Option.bind_eq_some_iff.mp H
   obtain ⟨⟨t313, t314, t315⟩, A80, H⟩ := H
   (try dsimp only at H)
   have A8 := Aside0.mk A80
   clear A80
   by_cases c9 : t315 = true
   ·subst c9
    rw [if_pos rfl] at H
    by_cases c10 : t314 ≤ a2
    ·rw [if_pos c10] at H
     have c10b0 : decide (t314 ≤ a2) = true := decide_eq_true c10
     clear c10
     simp only [Option.some.injEq, Prod.mk.injEq] at H
     obtain ⟨rfl, rfl⟩ := H
     go_enter Tryz.func11, Tryz.ntmps11
     go_wp2_with (first | ((with_reducible refine gate_callee (f := 47) rfl ?_); refine goesL_ (some 14) rfl rfl Tryz.func47 (by kernel_rfl) rfl #[.slice A0 l0.length c0, .slice A1 l1.length c1, .slice none 0 0] rfl (by (try simp only [List.map_toArray, List.map_cons, List.map_nil]); first | done | rfl | (simp only [List.length_drop, List.length_take]; rfl)) ?_; (refine (potbankref06_checked.calls k _ _ l0 _ _ l1 _ _ ([] : List Int) t311 _ ?side1 ?side2 ?side3 ?side4 ?side5 ?side6 A4.out).mono ?_); (case side1 => repeat (first | exact HR0.out | (with_reducible refine Kd.C_alloc ?_ _) | (with_reducible refine Kd.C_drewN ?_ _) | (with_reducible refine Kd.C_drew ?_))); (case side2 => exact HC0.out); (case side3 => repeat (first | exact HR1.out | (with_reducible refine Kd.C_alloc ?_ _) | (with_reducible refine Kd.C_drewN ?_ _) | (with_reducible refine Kd.C_drew ?_))); (case side4 => exact HC1.out); (case side5 => exact Kd.C_nil _ _); (case side6 => exact Nat.le_refl _); rintro e w11 ⟨rfl, hb⟩; refine ⟨_, rfl, ?_⟩; have n0_ := Aside0.mk (below_step (by repeat (first | exact HB.out | apply below_alloc | apply pw_below_drewN | apply below_drew1)) hb); clear HB; have HB := n0_; clear n0_; (try clear hb); (try clear hb2); (try clear hk); (try clear hi)) | ((with_reducible refine gate_callee (f := 48) rfl ?_); refine goesL_ (some 19) rfl rfl Tryz.func48 (by kernel_rfl) rfl #[.int .i64 a2, .int .i64 0, .int .i64 8] rfl (by (try simp only [List.map_toArray, List.map_cons, List.map_nil]); first | done | rfl | (simp only [List.length_drop, List.length_take]; rfl)) ?_; (with_reducible refine (potbankref06_In.calls a2 0 8 true _ A6.out).mono ?_); rintro e w' ⟨rfl, ⟨nd, rfl⟩⟩; refine ⟨_, rfl, ?_⟩) | ((with_reducible refine gate_callee (f := 49) rfl ?_); refine goesL_ (some 24) rfl rfl Tryz.func49 (by kernel_rfl) rfl #[.slice A0 l0.length c0, .slice A1 l1.length c1] rfl (by (try simp only [List.map_toArray, List.map_cons, List.map_nil]); first | done | rfl | (simp only [List.length_drop, List.length_take]; rfl)) ?_; (with_reducible refine (potbankref06_fewest.calls k _ _ l0 _ _ l1 t313 t314 true _ ?side1 ?side2 ?side3 ?side4 A8.out).mono ?_); (case side1 => repeat (first | exact (Kd.C_below HR0.out (by repeat (first | exact HB.out | apply below_alloc | apply pw_below_drewN | apply below_drew1))) | (with_reducible refine Kd.C_alloc ?_ _) | (with_reducible refine Kd.C_drewN ?_ _) | (with_reducible refine Kd.C_drew ?_))); (case side2 => exact HC0.out); (case side3 => repeat (first | exact (Kd.C_below HR1.out (by repeat (first | exact HB.out | apply below_alloc | apply pw_below_drewN | apply below_drew1))) | (with_reducible refine Kd.C_alloc ?_ _) | (with_reducible refine Kd.C_drewN ?_ _) | (with_reducible refine Kd.C_drew ?_))); (case side4 => exact HC1.out); rintro e w12 ⟨v316, rfl, ho0, hb⟩; refine ⟨_, rfl, ?_⟩; have n0_ := Aside0.mk (Kd.R_lower (Kd.R_newM (M := fun k_ => (w.heap.size ≤ k_)) ho0 (below_size (by repeat (first | exact HB.out | apply below_alloc | apply pw_below_drewN | apply below_drew1))) (fun k_ h_ => h_)) (below_size (by repeat (first | exact HB.out | apply below_alloc | apply pw_below_drewN | apply below_drew1)))); have n1_ := Aside0.mk (below_step (by repeat (first | exact HB.out | apply below_alloc | apply pw_below_drewN | apply below_drew1)) hb); clear HB; have HO317 := n0_; have HB := n1_; clear n0_ n1_; (try clear hb); (try clear hb2); (try clear hk); (try clear hi); (try clear ho0)))
     go_ret2
     exact ⟨_, by first | rfl | (simp [errW_none, errW_some] <;> rfl) | (simp [*, errW_none, errW_some] <;> rfl), by first | exact Kd.S_nil _ _ _ _ _ | exact Kd.N_nil _ _ _ _ _ | exact Kd.V_nil _ _ _ _ _ | exact Kd.Q_nil _ _ _ _ _ | exact Kd.R_nil _ _ _ _ _, by repeat (first | exact HB.out | apply below_alloc | apply pw_below_drewN | apply below_drew1)⟩
    ·rw [if_neg c10] at H
     have c10b0 : decide (t314 ≤ a2) = false := decide_eq_false c10
     clear c10
     replace H := Option.bind_eq_some_iff.mp H
     obtain ⟨t318, A130, H⟩ := H
     replace H : (some (t318, 0)) = some (r1, r2) := H
     have A13 := Aside0.mk A130
     clear A130
     simp only [Option.some.injEq, Prod.mk.injEq] at H
     obtain ⟨rfl, rfl⟩ := H
     go_enter Tryz.func11, Tryz.ntmps11
     go_wp2_with (first | ((with_reducible refine gate_callee (f := 47) rfl ?_); refine goesL_ (some 14) rfl rfl Tryz.func47 (by kernel_rfl) rfl #[.slice A0 l0.length c0, .slice A1 l1.length c1, .slice none 0 0] rfl (by (try simp only [List.map_toArray, List.map_cons, List.map_nil]); first | done | rfl | (simp only [List.length_drop, List.length_take]; rfl)) ?_; (refine (potbankref06_checked.calls k _ _ l0 _ _ l1 _ _ ([] : List Int) t311 _ ?side1 ?side2 ?side3 ?side4 ?side5 ?side6 A4.out).mono ?_); (case side1 => repeat (first | exact HR0.out | (with_reducible refine Kd.C_alloc ?_ _) | (with_reducible refine Kd.C_drewN ?_ _) | (with_reducible refine Kd.C_drew ?_))); (case side2 => exact HC0.out); (case side3 => repeat (first | exact HR1.out | (with_reducible refine Kd.C_alloc ?_ _) | (with_reducible refine Kd.C_drewN ?_ _) | (with_reducible refine Kd.C_drew ?_))); (case side4 => exact HC1.out); (case side5 => exact Kd.C_nil _ _); (case side6 => exact Nat.le_refl _); rintro e w14 ⟨rfl, hb⟩; refine ⟨_, rfl, ?_⟩; have n0_ := Aside0.mk (below_step (by repeat (first | exact HB.out | apply below_alloc | apply pw_below_drewN | apply below_drew1)) hb); clear HB; have HB := n0_; clear n0_; (try clear hb); (try clear hb2); (try clear hk); (try clear hi)) | ((with_reducible refine gate_callee (f := 48) rfl ?_); refine goesL_ (some 19) rfl rfl Tryz.func48 (by kernel_rfl) rfl #[.int .i64 a2, .int .i64 0, .int .i64 8] rfl (by (try simp only [List.map_toArray, List.map_cons, List.map_nil]); first | done | rfl | (simp only [List.length_drop, List.length_take]; rfl)) ?_; (with_reducible refine (potbankref06_In.calls a2 0 8 true _ A6.out).mono ?_); rintro e w' ⟨rfl, ⟨nd, rfl⟩⟩; refine ⟨_, rfl, ?_⟩) | ((with_reducible refine gate_callee (f := 49) rfl ?_); refine goesL_ (some 24) rfl rfl Tryz.func49 (by kernel_rfl) rfl #[.slice A0 l0.length c0, .slice A1 l1.length c1] rfl (by (try simp only [List.map_toArray, List.map_cons, List.map_nil]); first | done | rfl | (simp only [List.length_drop, List.length_take]; rfl)) ?_; (with_reducible refine (potbankref06_fewest.calls k _ _ l0 _ _ l1 t313 t314 true _ ?side1 ?side2 ?side3 ?side4 A8.out).mono ?_); (case side1 => repeat (first | exact (Kd.C_below HR0.out (by repeat (first | exact HB.out | apply below_alloc | apply pw_below_drewN | apply below_drew1))) | (with_reducible refine Kd.C_alloc ?_ _) | (with_reducible refine Kd.C_drewN ?_ _) | (with_reducible refine Kd.C_drew ?_))); (case side2 => exact HC0.out); (case side3 => repeat (first | exact (Kd.C_below HR1.out (by repeat (first | exact HB.out | apply below_alloc | apply pw_below_drewN | apply below_drew1))) | (with_reducible refine Kd.C_alloc ?_ _) | (with_reducible refine Kd.C_drewN ?_ _) | (with_reducible refine Kd.C_drew ?_))); (case side4 => exact HC1.out); rintro e w15 ⟨v316, rfl, ho0, hb⟩; refine ⟨_, rfl, ?_⟩; have n0_ := Aside0.mk (Kd.R_lower (Kd.R_newM (M := fun k_ => (w.heap.size ≤ k_)) ho0 (below_size (by repeat (first | exact HB.out | apply below_alloc | apply pw_below_drewN | apply below_drew1))) (fun k_ h_ => h_)) (below_size (by repeat (first | exact HB.out | apply below_alloc | apply pw_below_drewN | apply below_drew1)))); have n1_ := Aside0.mk (below_step (by repeat (first | exact HB.out | apply below_alloc | apply pw_below_drewN | apply below_drew1)) hb); clear HB; have HO317 := n0_; have HB := n1_; clear n0_ n1_; (try clear hb); (try clear hb2); (try clear hk); (try clear hi); (try clear ho0)) | ((with_reducible refine gate_callee (f := 50) rfl ?_); refine goesL_ (some 36) rfl rfl Tryz.func50 (by kernel_rfl) rfl #[.slice A0 l0.length c0, .slice A1 l1.length c1] rfl (by (try simp only [List.map_toArray, List.map_cons, List.map_nil]); first | done | rfl | (simp only [List.length_drop, List.length_take]; rfl)) ?_; (with_reducible refine (potbankref06_crowds.calls k _ _ l0 _ _ l1 t318 _ ?side1 ?side2 ?side3 ?side4 A13.out).mono ?_); (case side1 => repeat (first | exact (Kd.C_below HR0.out HB.out) | (with_reducible refine Kd.C_alloc ?_ _) | (with_reducible refine Kd.C_drewN ?_ _) | (with_reducible refine Kd.C_drew ?_))); (case side2 => exact HC0.out); (case side3 => repeat (first | exact (Kd.C_below HR1.out HB.out) | (with_reducible refine Kd.C_alloc ?_ _) | (with_reducible refine Kd.C_drewN ?_ _) | (with_reducible refine Kd.C_drew ?_))); (case side4 => exact HC1.out); rintro e w16 ⟨v319, rfl, ho0, hb⟩; refine ⟨_, rfl, ?_⟩; have n0_ := Aside0.mk (Kd.R_below (by (with_reducible repeat (first | apply Kd.R_alloc | apply Kd.R_drewN | apply Kd.R_drew)); exact HO317.out) hb); have n1_ := Aside0.mk (Kd.N_lower (Kd.N_mono (ok' := fun k_ => (w.heap.size ≤ k_) ∧ some k_ ≠ (v316 : Value).ownBlock) ho0 (fun k_ hk_ => ⟨(Nat.le_trans (below_size (by repeat (first | exact HB.out | apply below_alloc | apply pw_below_drewN | apply below_drew1))) hk_), (Kd.fresh' (Kd.R_lt (by (with_reducible repeat (first | apply Kd.R_alloc | apply Kd.R_drewN | apply Kd.R_drew)); exact HO317.out)) k_ hk_)⟩)) (below_size (by repeat (first | exact HB.out | apply below_alloc | apply pw_below_drewN | apply below_drew1)))); have n2_ := Aside0.mk (below_step (by repeat (first | exact HB.out | apply below_alloc | apply pw_below_drewN | apply below_drew1)) hb); clear HO317; clear HB; have HO317 := n0_; have HO320 := n1_; have HB := n2_; clear n0_ n1_ n2_; (try clear hb); (try clear hb2); (try clear hk); (try clear hi); (try clear ho0)))
     go_ret2
     exact ⟨_, by first | rfl | (simp [errW_none, errW_some] <;> rfl) | (simp [*, errW_none, errW_some] <;> rfl), by (with_reducible repeat (first | apply Kd.N_alloc | apply Kd.N_drewN | apply Kd.N_drew)); exact Kd.N_mono HO320.out (fun _ hk => hk.1), by repeat (first | exact HB.out | apply below_alloc | apply pw_below_drewN | apply below_drew1)⟩
   ·replace c9 := Bool.eq_false_iff.mpr c9
    subst c9
    rw [if_neg (show ¬ (false = true) by decide)] at H
    replace H := Option.bind_eq_some_iff.mp H
    obtain ⟨t321, A170, H⟩ := H
    replace H : (some (t321, 0)) = some (r1, r2) := H
    have A17 := Aside0.mk A170
    clear A170
    simp only [Option.some.injEq, Prod.mk.injEq] at H
    obtain ⟨rfl, rfl⟩ := H
    go_enter Tryz.func11, Tryz.ntmps11
    go_wp2_with (first | ((with_reducible refine gate_callee (f := 47) rfl ?_); refine goesL_ (some 14) rfl rfl Tryz.func47 (by kernel_rfl) rfl #[.slice A0 l0.length c0, .slice A1 l1.length c1, .slice none 0 0] rfl (by (try simp only [List.map_toArray, List.map_cons, List.map_nil]); first | done | rfl | (simp only [List.length_drop, List.length_take]; rfl)) ?_; (refine (potbankref06_checked.calls k _ _ l0 _ _ l1 _ _ ([] : List Int) t311 _ ?side1 ?side2 ?side3 ?side4 ?side5 ?side6 A4.out).mono ?_); (case side1 => repeat (first | exact HR0.out | (with_reducible refine Kd.C_alloc ?_ _) | (with_reducible refine Kd.C_drewN ?_ _) | (with_reducible refine Kd.C_drew ?_))); (case side2 => exact HC0.out); (case side3 => repeat (first | exact HR1.out | (with_reducible refine Kd.C_alloc ?_ _) | (with_reducible refine Kd.C_drewN ?_ _) | (with_reducible refine Kd.C_drew ?_))); (case side4 => exact HC1.out); (case side5 => exact Kd.C_nil _ _); (case side6 => exact Nat.le_refl _); rintro e w18 ⟨rfl, hb⟩; refine ⟨_, rfl, ?_⟩; have n0_ := Aside0.mk (below_step (by repeat (first | exact HB.out | apply below_alloc | apply pw_below_drewN | apply below_drew1)) hb); clear HB; have HB := n0_; clear n0_; (try clear hb); (try clear hb2); (try clear hk); (try clear hi)) | ((with_reducible refine gate_callee (f := 48) rfl ?_); refine goesL_ (some 19) rfl rfl Tryz.func48 (by kernel_rfl) rfl #[.int .i64 a2, .int .i64 0, .int .i64 8] rfl (by (try simp only [List.map_toArray, List.map_cons, List.map_nil]); first | done | rfl | (simp only [List.length_drop, List.length_take]; rfl)) ?_; (with_reducible refine (potbankref06_In.calls a2 0 8 true _ A6.out).mono ?_); rintro e w' ⟨rfl, ⟨nd, rfl⟩⟩; refine ⟨_, rfl, ?_⟩) | ((with_reducible refine gate_callee (f := 49) rfl ?_); refine goesL_ (some 24) rfl rfl Tryz.func49 (by kernel_rfl) rfl #[.slice A0 l0.length c0, .slice A1 l1.length c1] rfl (by (try simp only [List.map_toArray, List.map_cons, List.map_nil]); first | done | rfl | (simp only [List.length_drop, List.length_take]; rfl)) ?_; (with_reducible refine (potbankref06_fewest.calls k _ _ l0 _ _ l1 t313 t314 false _ ?side1 ?side2 ?side3 ?side4 A8.out).mono ?_); (case side1 => repeat (first | exact (Kd.C_below HR0.out (by repeat (first | exact HB.out | apply below_alloc | apply pw_below_drewN | apply below_drew1))) | (with_reducible refine Kd.C_alloc ?_ _) | (with_reducible refine Kd.C_drewN ?_ _) | (with_reducible refine Kd.C_drew ?_))); (case side2 => exact HC0.out); (case side3 => repeat (first | exact (Kd.C_below HR1.out (by repeat (first | exact HB.out | apply below_alloc | apply pw_below_drewN | apply below_drew1))) | (with_reducible refine Kd.C_alloc ?_ _) | (with_reducible refine Kd.C_drewN ?_ _) | (with_reducible refine Kd.C_drew ?_))); (case side4 => exact HC1.out); rintro e w19 ⟨v316, rfl, ho0, hb⟩; refine ⟨_, rfl, ?_⟩; have n0_ := Aside0.mk (Kd.R_lower (Kd.R_newM (M := fun k_ => (w.heap.size ≤ k_)) ho0 (below_size (by repeat (first | exact HB.out | apply below_alloc | apply pw_below_drewN | apply below_drew1))) (fun k_ h_ => h_)) (below_size (by repeat (first | exact HB.out | apply below_alloc | apply pw_below_drewN | apply below_drew1)))); have n1_ := Aside0.mk (below_step (by repeat (first | exact HB.out | apply below_alloc | apply pw_below_drewN | apply below_drew1)) hb); clear HB; have HO317 := n0_; have HB := n1_; clear n0_ n1_; (try clear hb); (try clear hb2); (try clear hk); (try clear hi); (try clear ho0)) | ((with_reducible refine gate_callee (f := 50) rfl ?_); refine goesL_ (some 36) rfl rfl Tryz.func50 (by kernel_rfl) rfl #[.slice A0 l0.length c0, .slice A1 l1.length c1] rfl (by (try simp only [List.map_toArray, List.map_cons, List.map_nil]); first | done | rfl | (simp only [List.length_drop, List.length_take]; rfl)) ?_; (with_reducible refine (potbankref06_crowds.calls k _ _ l0 _ _ l1 t321 _ ?side1 ?side2 ?side3 ?side4 A17.out).mono ?_); (case side1 => repeat (first | exact (Kd.C_below HR0.out HB.out) | (with_reducible refine Kd.C_alloc ?_ _) | (with_reducible refine Kd.C_drewN ?_ _) | (with_reducible refine Kd.C_drew ?_))); (case side2 => exact HC0.out); (case side3 => repeat (first | exact (Kd.C_below HR1.out HB.out) | (with_reducible refine Kd.C_alloc ?_ _) | (with_reducible refine Kd.C_drewN ?_ _) | (with_reducible refine Kd.C_drew ?_))); (case side4 => exact HC1.out); rintro e w20 ⟨v322, rfl, ho0, hb⟩; refine ⟨_, rfl, ?_⟩; have n0_ := Aside0.mk (Kd.R_below (by (with_reducible repeat (first | apply Kd.R_alloc | apply Kd.R_drewN | apply Kd.R_drew)); exact HO317.out) hb); have n1_ := Aside0.mk (Kd.N_lower (Kd.N_mono (ok' := fun k_ => (w.heap.size ≤ k_) ∧ some k_ ≠ (v316 : Value).ownBlock) ho0 (fun k_ hk_ => ⟨(Nat.le_trans (below_size (by repeat (first | exact HB.out | apply below_alloc | apply pw_below_drewN | apply below_drew1))) hk_), (Kd.fresh' (Kd.R_lt (by (with_reducible repeat (first | apply Kd.R_alloc | apply Kd.R_drewN | apply Kd.R_drew)); exact HO317.out)) k_ hk_)⟩)) (below_size (by repeat (first | exact HB.out | apply below_alloc | apply pw_below_drewN | apply below_drew1)))); have n2_ := Aside0.mk (below_step (by repeat (first | exact HB.out | apply below_alloc | apply pw_below_drewN | apply below_drew1)) hb); clear HO317; clear HB; have HO317 := n0_; have HO323 := n1_; have HB := n2_; clear n0_ n1_ n2_; (try clear hb); (try clear hb2); (try clear hk); (try clear hi); (try clear ho0)))
    go_ret2
    exact ⟨_, by first | rfl | (simp [errW_none, errW_some] <;> rfl) | (simp [*, errW_none, errW_some] <;> rfl), by (with_reducible repeat (first | apply Kd.N_alloc | apply Kd.N_drewN | apply Kd.N_drew)); exact Kd.N_mono HO323.out (fun _ hk => hk.1), by repeat (first | exact HB.out | apply below_alloc | apply pw_below_drewN | apply below_drew1)⟩
  ·replace c7 := Bool.eq_false_iff.mpr c7
   subst c7
   rw [if_neg (show ¬ (false = true) by decide)] at H
   simp only [Option.some.injEq, Prod.mk.injEq] at H
   obtain ⟨rfl, rfl⟩ := H
   go_enter Tryz.func11, Tryz.ntmps11
   go_wp2_with (first | ((with_reducible refine gate_callee (f := 47) rfl ?_); refine goesL_ (some 14) rfl rfl Tryz.func47 (by kernel_rfl) rfl #[.slice A0 l0.length c0, .slice A1 l1.length c1, .slice none 0 0] rfl (by (try simp only [List.map_toArray, List.map_cons, List.map_nil]); first | done | rfl | (simp only [List.length_drop, List.length_take]; rfl)) ?_; (refine (potbankref06_checked.calls k _ _ l0 _ _ l1 _ _ ([] : List Int) t311 _ ?side1 ?side2 ?side3 ?side4 ?side5 ?side6 A4.out).mono ?_); (case side1 => repeat (first | exact HR0.out | (with_reducible refine Kd.C_alloc ?_ _) | (with_reducible refine Kd.C_drewN ?_ _) | (with_reducible refine Kd.C_drew ?_))); (case side2 => exact HC0.out); (case side3 => repeat (first | exact HR1.out | (with_reducible refine Kd.C_alloc ?_ _) | (with_reducible refine Kd.C_drewN ?_ _) | (with_reducible refine Kd.C_drew ?_))); (case side4 => exact HC1.out); (case side5 => exact Kd.C_nil _ _); (case side6 => exact Nat.le_refl _); rintro e w21 ⟨rfl, hb⟩; refine ⟨_, rfl, ?_⟩; have n0_ := Aside0.mk (below_step (by repeat (first | exact HB.out | apply below_alloc | apply pw_below_drewN | apply below_drew1)) hb); clear HB; have HB := n0_; clear n0_; (try clear hb); (try clear hb2); (try clear hk); (try clear hi)) | ((with_reducible refine gate_callee (f := 48) rfl ?_); refine goesL_ (some 19) rfl rfl Tryz.func48 (by kernel_rfl) rfl #[.int .i64 a2, .int .i64 0, .int .i64 8] rfl (by (try simp only [List.map_toArray, List.map_cons, List.map_nil]); first | done | rfl | (simp only [List.length_drop, List.length_take]; rfl)) ?_; (with_reducible refine (potbankref06_In.calls a2 0 8 false _ A6.out).mono ?_); rintro e w' ⟨rfl, ⟨nd, rfl⟩⟩; refine ⟨_, rfl, ?_⟩))
   go_ret2
   exact ⟨_, by first | rfl | (simp [errW_none, errW_some] <;> rfl) | (simp [*, errW_none, errW_some] <;> rfl), by first | exact Kd.S_nil _ _ _ _ _ | exact Kd.N_nil _ _ _ _ _ | exact Kd.V_nil _ _ _ _ _ | exact Kd.Q_nil _ _ _ _ _ | exact Kd.R_nil _ _ _ _ _, by repeat (first | exact HB.out | apply below_alloc | apply pw_below_drewN | apply below_drew1)⟩
 ·rw [if_neg c5] at H
  have c5b0 : (t311 == 0) = false := beq_eq_false_iff_ne.mpr c5
  have c5b1 : (t311 != 0) = true := bne_iff_ne.mpr c5
  simp only [Option.some.injEq, Prod.mk.injEq] at H
  obtain ⟨rfl, rfl⟩ := H
  go_enter Tryz.func11, Tryz.ntmps11
  go_wp2_with (first | ((with_reducible refine gate_callee (f := 47) rfl ?_); refine goesL_ (some 14) rfl rfl Tryz.func47 (by kernel_rfl) rfl #[.slice A0 l0.length c0, .slice A1 l1.length c1, .slice none 0 0] rfl (by (try simp only [List.map_toArray, List.map_cons, List.map_nil]); first | done | rfl | (simp only [List.length_drop, List.length_take]; rfl)) ?_; (refine (potbankref06_checked.calls k _ _ l0 _ _ l1 _ _ ([] : List Int) t311 _ ?side1 ?side2 ?side3 ?side4 ?side5 ?side6 A4.out).mono ?_); (case side1 => repeat (first | exact HR0.out | (with_reducible refine Kd.C_alloc ?_ _) | (with_reducible refine Kd.C_drewN ?_ _) | (with_reducible refine Kd.C_drew ?_))); (case side2 => exact HC0.out); (case side3 => repeat (first | exact HR1.out | (with_reducible refine Kd.C_alloc ?_ _) | (with_reducible refine Kd.C_drewN ?_ _) | (with_reducible refine Kd.C_drew ?_))); (case side4 => exact HC1.out); (case side5 => exact Kd.C_nil _ _); (case side6 => exact Nat.le_refl _); rintro e w22 ⟨rfl, hb⟩; refine ⟨_, rfl, ?_⟩; have n0_ := Aside0.mk (below_step (by repeat (first | exact HB.out | apply below_alloc | apply pw_below_drewN | apply below_drew1)) hb); clear HB; have HB := n0_; clear n0_; (try clear hb); (try clear hb2); (try clear hk); (try clear hi)))
  go_ret2
  exact ⟨_, by first | rfl | (simp [errW_none, errW_some] <;> rfl) | (simp [*, errW_none, errW_some] <;> rfl), by first | exact Kd.S_nil _ _ _ _ _ | exact Kd.N_nil _ _ _ _ _ | exact Kd.V_nil _ _ _ _ _ | exact Kd.Q_nil _ _ _ _ _ | exact Kd.R_nil _ _ _ _ _, by repeat (first | exact HB.out | apply below_alloc | apply pw_below_drewN | apply below_drew1)⟩
def potbankref06_hit.l0 : Nat → List Int → List (List Int) → Int → Option (Bool)
 | 0, _, _, _ => none
 | k + 1, x0, x1, x5 => if x5 < (x1.length : Int) then (if 0 ≤ x5 then ((potbankref06_subset.f k (rd_L5 x1 x5) x0).bind fun t325 => (if t325 = true then (some true) else (potbankref06_hit.l0 k x0 x1 (wrap64 (x5 + 1))))) else (none)) else (some false)
def potbankref06_hit.f (k : Nat) (l0 : List Int) (l1 : List (List Int)) : Option (Bool) := potbankref06_hit.l0 k l0 l1 0
set_option maxHeartbeats 8000000 in
set_option maxRecDepth 100000 in
theorem potbankref06_hit.calls (k : Nat) (A0 : Option Addr) (c0 : Nat) (l0 : List Int) (A1 : Option Addr) (c1 : Nat) (l1 : List (List Int)) (r : Bool) (w : World) (hr0 : Kd.C (Kd.int .i64) w A0 l0.length l0) (hc0 : l0.length ≤ c0) (hr1 : Kd.C (Kd.slice 3 (Kd.int .i64)) w A1 l1.length l1) (hc1 : l1.length ≤ c1) (h : potbankref06_hit.f k l0 l1 = some r) :
  Calls Tryz.prog 57 #[.slice A0 l0.length c0, .slice A1 l1.length c1] w fun e w' => e = .returned (.bool r) ∧ Drawn0 w w' := by
 have HR0 := Aside0.mk hr0
 have HC0 := Aside0.mk hc0
 clear hr0 hc0
 have HR1 := Aside0.mk hr1
 have HC1 := Aside0.mk hc1
 clear hr1 hc1
 have H : (potbankref06_hit.l0 k l0 l1 0) = some r := h
 clear h
 have H' := Aside0.mk H
 clear H
 go_enter Tryz.func57, Tryz.ntmps57
 go_wp2
 go_loopg [5] k (fun kq v5 w' => ∃ (x5_1 : Int), v5 = .int .i64 x5_1 ∧ Aside0 (potbankref06_hit.l0 kq l0 l1 x5_1 = some r) ∧ Aside0 (kq ≤ k) ∧ Drawn0 w w')
 case atStart => exact ⟨(0), (by first | rfl | (simp; done) | (simp [*]; done)), H', ⟨Nat.le_refl _⟩, by repeat (first | exact Drawn0.refl _ | apply Drawn0.step)⟩
 case round =>
  clear H'
  try clear c1
  try clear p2
  obtain ⟨x5_1, rfl, HA, HK1, ⟨m1, rfl⟩⟩ := hrel
  cases gk with
  | zero => exact absurd HA.out (by simp [potbankref06_hit.l0])
  | succ k1 =>
   have H := HA.out
   clear HA
   simp only [potbankref06_hit.l0] at H
   by_cases c3 : x5_1 < (l1.length : Int)
   ·rw [if_pos c3] at H
    have c3b0 : decide (x5_1 < (l1.length : Int)) = true := decide_eq_true c3
    clear c3
    by_cases c4 : 0 ≤ x5_1
    ·rw [if_pos c4] at H
     have c4b0 : decide (0 ≤ x5_1) = true := decide_eq_true c4
     clear c4
     replace H := Option.bind_eq_some_iff.mp H
     obtain ⟨t325, A50, H⟩ := H
     (try dsimp only at H)
     have A5 := Aside0.mk A50
     clear A50
     by_cases c6 : t325 = true
     ·subst c6
      rw [if_pos rfl] at H
      obtain rfl := Option.some.inj H
      have p324 : 0 ≤ (x5_1 : Int) := of_decide_eq_true (by first | (with_reducible assumption) | assumption)
      have q324 : x5_1 < (l1.length : Int) := of_decide_eq_true (by first | (with_reducible assumption) | assumption)
      obtain ⟨ad324, A324_0, c324_0, e324, hx324_0, hl324_0, hi324_0⟩ := at_L5 HR1.out x5_1 p324 q324
      cases e324
      have HR324_0 := Aside0.mk hi324_0
      have HC324_0 := Aside0.mk hl324_0
      clear hi324_0 hl324_0
      replace p324 := eq_true p324
      replace q324 := eq_true q324
      go_wp2_with (first | ((with_reducible refine gate_callee (f := 97) rfl ?_); refine goesL_ (some 17) rfl rfl Tryz.func97 (by kernel_rfl) rfl #[.slice A324_0 (rd_L5 l1 x5_1).length c324_0, .slice A0 l0.length c0] rfl (by (try simp only [List.map_toArray, List.map_cons, List.map_nil]); first | done | rfl | (simp only [List.length_drop, List.length_take]; rfl)) ?_; (with_reducible refine (potbankref06_subset.calls k1 _ _ (rd_L5 l1 x5_1) _ _ l0 true _ ?side1 ?side2 ?side3 ?side4 A5.out).mono ?_); (case side1 => repeat (first | exact HR324_0.out | (with_reducible refine Kd.C_alloc ?_ _) | (with_reducible refine Kd.C_drewN ?_ _) | (with_reducible refine Kd.C_drew ?_))); (case side2 => exact HC324_0.out); (case side3 => repeat (first | exact HR0.out | (with_reducible refine Kd.C_alloc ?_ _) | (with_reducible refine Kd.C_drewN ?_ _) | (with_reducible refine Kd.C_drew ?_))); (case side4 => exact HC0.out); rintro e w' ⟨rfl, ⟨nd, rfl⟩⟩; refine ⟨_, rfl, ?_⟩))
      go_ret
      exact ⟨by first | rfl | (simp; done) | (simp [*]; done), by repeat (first | exact Drawn0.refl _ | apply Drawn0.step)⟩
     ·replace c6 := Bool.eq_false_iff.mpr c6
      subst c6
      rw [if_neg (show ¬ (false = true) by decide)] at H
      have H' := Aside0.mk H
      clear H
      have p324 : 0 ≤ (x5_1 : Int) := of_decide_eq_true (by first | (with_reducible assumption) | assumption)
      have q324 : x5_1 < (l1.length : Int) := of_decide_eq_true (by first | (with_reducible assumption) | assumption)
      obtain ⟨ad324, A324_0, c324_0, e324, hx324_0, hl324_0, hi324_0⟩ := at_L5 HR1.out x5_1 p324 q324
      cases e324
      have HR324_0 := Aside0.mk hi324_0
      have HC324_0 := Aside0.mk hl324_0
      clear hi324_0 hl324_0
      replace p324 := eq_true p324
      replace q324 := eq_true q324
      go_wp2_with (first | ((with_reducible refine gate_callee (f := 97) rfl ?_); refine goesL_ (some 17) rfl rfl Tryz.func97 (by kernel_rfl) rfl #[.slice A324_0 (rd_L5 l1 x5_1).length c324_0, .slice A0 l0.length c0] rfl (by (try simp only [List.map_toArray, List.map_cons, List.map_nil]); first | done | rfl | (simp only [List.length_drop, List.length_take]; rfl)) ?_; (with_reducible refine (potbankref06_subset.calls k1 _ _ (rd_L5 l1 x5_1) _ _ l0 false _ ?side1 ?side2 ?side3 ?side4 A5.out).mono ?_); (case side1 => repeat (first | exact HR324_0.out | (with_reducible refine Kd.C_alloc ?_ _) | (with_reducible refine Kd.C_drewN ?_ _) | (with_reducible refine Kd.C_drew ?_))); (case side2 => exact HC324_0.out); (case side3 => repeat (first | exact HR0.out | (with_reducible refine Kd.C_alloc ?_ _) | (with_reducible refine Kd.C_drewN ?_ _) | (with_reducible refine Kd.C_drew ?_))); (case side4 => exact HC0.out); rintro e w' ⟨rfl, ⟨nd, rfl⟩⟩; refine ⟨_, rfl, ?_⟩))
      go_roundg k1
      case measure => have := HK1.out; omega
      case rel => exact ⟨(wrap64 (x5_1 + 1)), (by first | rfl | (simp; done) | (simp [*]; done)), H', ⟨by have := HK1.out; omega⟩, by repeat (first | exact Drawn0.refl _ | apply Drawn0.step)⟩
    ·rw [if_neg c4] at H
     exact absurd H (by simp)
   ·rw [if_neg c3] at H
    have c3b0 : decide (x5_1 < (l1.length : Int)) = false := decide_eq_false c3
    clear c3
    obtain rfl := Option.some.inj H
    go_wp2
    go_ret
    exact ⟨by first | rfl | (simp; done) | (simp [*]; done), by repeat (first | exact Drawn0.refl _ | apply Drawn0.step)⟩
end Go.Proofs.YthonlcnmjlldiaaGreat.P
namespace Go.Proofs.YthonlcnmjlldiaaGreat.P
open Go.RowKit Go.Proofs.YthonlcnmjlldiaaGreatW.PrintWords Go.Proofs.YthonlcnmjlldiaaGreatW.PrintLast Go.Proofs.YthonlcnmjlldiaaGreatW.PrintMore
theorem Has_loop {s : List Int} (hs : s.length ≤ 1000) (x : Int) : ∀ (d i : Nat), s.length - i = d → i ≤ s.length → Ev (fun n => potbankref01_Has.l0 n s x (i : Int)) ((s.drop i).contains x) := by
 intro d
 induction d with
 | zero =>
  intro i hd hi
  rw [List.drop_eq_nil_iff.2 (by omega)]
  exact Ev.step (f := fun _ => some false) (fun n => by simp only [potbankref01_Has.l0]; rw [if_neg (by omega)]) (Ev.now _)
 | succ d ih =>
  intro i hd hi
  have hlt : i < s.length := by omega
  refine Ev.step (f := fun n => if s[i] = x then some true else potbankref01_Has.l0 n s x ((i + 1 : Nat) : Int)) (fun n => by
   simp only [potbankref01_Has.l0]
   rw [if_pos (by omega), if_pos (by omega), rd_at hlt, wrap_succ hlt (by omega)]) ?_
  rw [drop_at hlt, List.contains_cons]
  by_cases h : s[i] = x
  ·simp only [h, if_true]
   have : (x == x || (List.drop (i + 1) s).contains x) = true := by simp
   rw [this]
   exact Ev.now _
  ·simp only [h, if_false]
   have : (x == s[i] || (List.drop (i + 1) s).contains x) = (List.drop (i + 1) s).contains x := by
    have : (x == s[i]) = false := by rw [beq_eq_false_iff_ne]; exact fun e => h e.symm
    rw [this, Bool.false_or]
   rw [this]
   exact ih (i + 1) (by omega) (by omega)
theorem Has_ev {s : List Int} (hs : s.length ≤ 1000) (x : Int) : Ev (fun n => potbankref01_Has.f n s x) (s.contains x) := Has_loop hs x _ 0 rfl (Nat.zero_le _)
def subS (a b : List Int) : Bool := a.all (fun x => b.contains x)
theorem subset_loop {a b : List Int} (ha : a.length ≤ 1000) (hb : b.length ≤ 1000) : ∀ (d i : Nat), a.length - i = d → i ≤ a.length → Ev (fun n => potbankref06_subset.l0 n a b (i : Int)) (subS (a.drop i) b) := by
 intro d
 induction d with
 | zero =>
  intro i hd hi
  rw [List.drop_eq_nil_iff.2 (by omega)]
  exact Ev.step (f := fun _ => some true) (fun n => by simp only [potbankref06_subset.l0]; rw [if_neg (by omega)]) (Ev.now _)
 | succ d ih =>
  intro i hd hi
  have hlt : i < a.length := by omega
  refine Ev.step (f := fun n => (potbankref01_Has.f n b a[i]).bind fun t => if t = true then potbankref06_subset.l0 n a b ((i + 1 : Nat) : Int) else some false) (fun n => by
   simp only [potbankref06_subset.l0]
   rw [if_pos (by omega), if_pos (by omega), rd_at hlt, wrap_succ hlt (by omega)]) ?_
  refine Ev.bind (Has_ev hb _) ?_
  have e : subS (a.drop i) b = (b.contains a[i] && subS (a.drop (i + 1)) b) := by rw [drop_at hlt]; rfl
  rw [e]
  cases b.contains a[i]
  ·exact Ev.now _
  ·simpa using ih (i + 1) (by omega) (by omega)
theorem subset_ev {a b : List Int} (ha : a.length ≤ 1000) (hb : b.length ≤ 1000) : Ev (fun n => potbankref06_subset.f n a b) (subS a b) := subset_loop ha hb _ 0 rfl (Nat.zero_le _)
theorem bitsL_len9 (m : Int) : (bitsL m).length ≤ 9 := by
 unfold bitsL
 rw [List.length_map]
 exact Nat.le_trans (List.length_filter_le _ _) (by simp)
theorem cmpL_dec (x y : Int) (xs ys : List Int) : decide (cmpL (x :: xs) (y :: ys) < 0) = if x = y then decide (cmpL xs ys < 0) else decide (x < y) := by
 have e : cmpL (x :: xs) (y :: ys) = if x < y then -1 else if y < x then 1 else cmpL xs ys := by rw [cmpL]
 simp only [e]
 by_cases h : x = y
 ·subst h; simp
 ·by_cases h2 : x < y
  ·simp [h, h2]
  ·have h3 : y < x := by omega
   simp [h, h2, h3]
theorem testBit_lt9 {a i : Nat} (ha : a < 512) (h : a.testBit i = true) : i < 9 := by
 refine Classical.byContradiction fun h9 => ?_
 have h1 := Nat.ge_two_pow_of_testBit h
 have h2 : 2 ^ 9 ≤ 2 ^ i := Nat.pow_le_pow_right (by omega) (by omega)
 omega
theorem subS_bits {a b : Nat} (ha : a < 512) : subS (bitsL (a : Int)) (bitsL (b : Int)) = subB a b := by
 rw [Bool.eq_iff_iff, subB_bits]
 unfold subS
 rw [List.all_eq_true]
 constructor
 ·intro h i hi
  have h9 := testBit_lt9 ha hi
  have h1 := h (i : Int) (mem_bitsL.2 ⟨by omega, by omega, by simpa using hi⟩)
  have h2 := mem_bitsL.1 (List.contains_iff_mem.1 h1)
  simpa using h2.2.2
 ·intro h x hx
  obtain ⟨h1, h2, h3⟩ := mem_bitsL.1 hx
  exact List.contains_iff_mem.2 (mem_bitsL.2 ⟨h1, h2, h _ h3⟩)
theorem first_loop {a b : List Int} (ha : a.length ≤ 1000) : ∀ (d i : Nat), a.length - i = d → i ≤ a.length → i ≤ b.length → Ev (fun n => potbankref06_first.l0 n a b (i : Int)) (decide (cmpL (a.drop i) (b.drop i) < 0)) := by
 intro d
 induction d with
 | zero =>
  intro i hd hi hj
  obtain rfl : i = a.length := by omega
  refine Ev.step (f := fun n => potbankref06_first.j1 n a b (a.length : Int) false) (fun n => by simp only [potbankref06_first.l0]; rw [if_neg (by omega)]) ?_
  refine Ev.step (f := fun n => some (decide ((a.length : Int) < (b.length : Int)))) (fun n => by simp only [potbankref06_first.j1]; rw [if_neg (by simp)]) ?_
  have : decide ((a.length : Int) < (b.length : Int)) = decide (cmpL (a.drop a.length) (b.drop a.length) < 0) := by
   rw [List.drop_length]
   by_cases h : a.length < b.length
   ·rw [drop_at h]; simp [cmpL]; omega
   ·rw [List.drop_eq_nil_iff.2 (by omega)]; simp [cmpL]; omega
  rw [this]
  exact Ev.now _
 | succ d ih =>
  intro i hd hi hj
  have hlt : i < a.length := by omega
  refine Ev.step (f := fun n => potbankref06_first.j1 n a b (i : Int) (decide ((i : Int) < (b.length : Int)))) (fun n => by simp only [potbankref06_first.l0]; rw [if_pos (by omega)]) ?_
  by_cases h : i < b.length
  ·refine Ev.step (f := fun n => if a[i] = b[i] then potbankref06_first.l0 n a b ((i + 1 : Nat) : Int) else some (decide (a[i] < b[i]))) (fun n => by
    simp only [potbankref06_first.j1]
    rw [if_pos (by simp; omega), if_pos (by omega), if_pos (by omega), if_pos (by omega), rd_at hlt, rd_at h, wrap_succ hlt (by omega)]) ?_
   rw [drop_at hlt, drop_at h, cmpL_dec]
   by_cases h1 : a[i] = b[i]
   ·simp only [h1, if_true]
    exact ih (i + 1) (by omega) (by omega) (by omega)
   ·simp only [h1, if_false]
    exact Ev.now _
  ·refine Ev.step (f := fun n => some (decide ((a.length : Int) < (b.length : Int)))) (fun n => by
    simp only [potbankref06_first.j1]
    rw [if_neg (by simp; omega)]) ?_
   have : decide ((a.length : Int) < (b.length : Int)) = decide (cmpL (a.drop i) (b.drop i) < 0) := by
    rw [drop_at hlt, List.drop_eq_nil_iff.2 (by omega : b.length ≤ i)]
    simp [cmpL]; omega
   rw [this]
   exact Ev.now _
theorem ahead_ev (a b : Int) : Ev (fun n => potbankref06_ahead.f n (bitsL a) (bitsL b)) (decide (cmpM a b < 0)) := by
 have ha := bitsL_len9 a
 unfold potbankref06_ahead.f
 by_cases h : (bitsL a).length = (bitsL b).length
 ·have h2 : ((bitsL a).length : Int) = ((bitsL b).length : Int) := by omega
  simp only [h2, if_true]
  have h3 : cmpM a b = cmpL (bitsL a) (bitsL b) := by unfold cmpM; rw [if_pos h]
  rw [show decide (cmpM a b < 0) = decide (cmpL (bitsL a) (bitsL b) < 0) by simp only [h3]]
  exact Ev.bind (first_loop (a := bitsL a) (b := bitsL b) (by omega) _ 0 rfl (Nat.zero_le _) (Nat.zero_le _)) (Ev.now _)
 ·have h2 : ¬ ((bitsL a).length : Int) = ((bitsL b).length : Int) := by omega
  simp only [h2, if_false]
  have h3 : cmpM a b = ((bitsL a).length : Int) - (bitsL b).length := by unfold cmpM; rw [if_neg h]
  have : decide (((bitsL a).length : Int) < ((bitsL b).length : Int)) = decide (cmpM a b < 0) := by
   rw [Bool.eq_iff_iff, decide_eq_true_eq, decide_eq_true_eq, h3]
   omega
  rw [this]
  exact Ev.now _
def blM (xs : List M9) : List (List Int) := xs.map (fun x => bitsL (x.val : Int))
theorem leF_ahead (x y : M9) : leF x y = !(decide (cmpM (y.val : Int) (x.val : Int) < 0)) := rfl
theorem put_loop {xs : List M9} (hl : xs.length ≤ 1000) (x : M9) : ∀ (d i : Nat), xs.length - i = d → i ≤ xs.length → Ev (fun n => potbankref06_put.l0 n (blM xs) (bitsL (x.val : Int)) (i : Int)) (blM (xs.take i ++ insM x (xs.drop i))) := by
 have hbl : (blM xs).length = xs.length := by simp [blM]
 intro d
 induction d with
 | zero =>
  intro i hd hi
  rw [List.drop_eq_nil_iff.2 (by omega), List.take_of_length_le (by omega)]
  refine Ev.step (f := fun n => some (blM (xs ++ [x]))) (fun n => by
   simp only [potbankref06_put.l0]
   rw [if_neg (by omega)]
   simp only [Option.bind_some]
   rw [if_pos (by omega), if_pos (by omega), List.take_of_length_le (by omega), List.drop_eq_nil_iff.2 (by omega), if_pos (by simp; omega), if_pos (by simp; omega), if_pos (by simp; omega)]
   simp [blM]) ?_
  exact Ev.now _
 | succ d ih =>
  intro i hd hi
  have hlt : i < xs.length := by omega
  have hr : rd_L5 (blM xs) (i : Int) = bitsL (xs[i].val : Int) := by
   rw [rdL_at (by omega)]
   simp [blM]
  refine Ev.step (f := fun n => (potbankref06_ahead.f n (bitsL (xs[i].val : Int)) (bitsL (x.val : Int))).bind fun t => if t = true then potbankref06_put.l0 n (blM xs) (bitsL (x.val : Int)) ((i + 1 : Nat) : Int) else some (blM (xs.take i ++ x :: xs.drop i))) (fun n => by
   simp only [potbankref06_put.l0]
   rw [if_pos (by omega), if_pos (by omega), hr, wrap_succ hlt (by omega)]
   refine congrArg _ (funext fun t => ?_)
   cases t
   ·simp only [Option.bind_some, Bool.false_eq_true, if_false]
    rw [if_pos (show (i : Int) ≤ ((blM xs).length : Int) by omega), if_pos (by simp; omega), if_pos (by simp; omega), if_pos (by simp; omega)]
    simp [blM]
   ·rfl) ?_
  refine Ev.bind (ahead_ev _ _) ?_
  rw [drop_at hlt]
  unfold insM
  rw [leF_ahead]
  cases hc : decide (cmpM (xs[i].val : Int) (x.val : Int) < 0)
  ·exact Ev.now _
  ·have := ih (i + 1) (by omega) (by omega)
   rw [List.take_succ_eq_append_getElem hlt, List.append_assoc] at this
   exact this
theorem put_ev {xs : List M9} (hl : xs.length ≤ 1000) (x : M9) : Ev (fun n => potbankref06_put.f n (blM xs) (bitsL (x.val : Int))) (blM (insM x xs)) := put_loop hl x _ 0 rfl (Nat.zero_le _)
def blN (ms : List Nat) : List (List Int) := ms.map (fun m : Nat => bitsL (m : Int))
theorem blN_at {ms : List Nat} {i : Nat} (h : i < ms.length) : rd_L5 (blN ms) (i : Int) = bitsL (ms[i] : Int) := by
 rw [rdL_at (by simpa [blN] using h)]
 simp [blN]
theorem insAll_snoc : ∀ (ms : List Nat) (acc : List M9) (m : Nat), insAll acc (ms ++ [m]) = insM (Fin.ofNat 512 m) (insAll acc ms)
 | [], _, _ => rfl
 | x :: ms, acc, m => by
  rw [List.cons_append]
  unfold insAll
  exact insAll_snoc ms _ m
theorem insAll_len (ms : List Nat) : (insAll [] ms).length = ms.length := by
 have := (insAll_perm ms []).length_eq
 simpa using this
def freeTo (ms : List Nat) (s : Nat) (j : Nat) : Bool := (ms.take j).all (fun t => t == s || !(subB t s))
theorem freeTo_succ {ms : List Nat} {s j : Nat} (h : j < ms.length) : freeTo ms s (j + 1) = (freeTo ms s j && (ms[j] == s || !(subB ms[j] s))) := by
 unfold freeTo
 rw [List.take_succ_eq_append_getElem h, List.all_append]
 simp
theorem crowds_inner {ms : List Nat} (hm : ∀ m ∈ ms, m < 512) (hd : ms.Nodup) (hl : ms.length ≤ 512) {i : Nat} (hi : i < ms.length) {acc : List M9} {r : List (List Int)} (hal : acc.length ≤ 512)
  (hn : Ev (fun n => potbankref06_crowds.l0 n (blN ms) (blM (if freeTo ms ms[i] ms.length then insM (Fin.ofNat 512 ms[i]) acc else acc)) ((i + 1 : Nat) : Int)) r) :
  ∀ (d j : Nat), ms.length - j = d → j ≤ ms.length → Ev (fun n => potbankref06_crowds.l1 n (blN ms) (blM acc) (i : Int) (freeTo ms ms[i] j) (j : Int)) r := by
 have hbl : (blN ms).length = ms.length := by simp [blN]
 have hmi := hm _ (List.getElem_mem hi)
 intro d
 induction d with
 | zero =>
  intro j hd hj
  obtain rfl : j = ms.length := by omega
  cases hf : freeTo ms ms[i] ms.length
  ·rw [hf] at hn
   refine Ev.step (f := fun n => potbankref06_crowds.l0 n (blN ms) (blM acc) ((i + 1 : Nat) : Int)) (fun n => by
    simp only [potbankref06_crowds.l1]
    rw [if_neg (by omega), if_neg (by simp), wrap_succ hi (by omega)]) ?_
   simpa using hn
  ·rw [hf] at hn
   refine Ev.step (f := fun n => (potbankref06_put.f n (blM acc) (bitsL (ms[i] : Int))).bind fun t => potbankref06_crowds.l0 n (blN ms) t ((i + 1 : Nat) : Int)) (fun n => by
    simp only [potbankref06_crowds.l1]
    rw [if_neg (by omega), if_pos trivial, if_pos (by omega), if_pos (by omega), blN_at hi, wrap_succ hi (by omega)]) ?_
   have hp := put_ev (xs := acc) (by omega) (Fin.ofNat 512 ms[i])
   rw [ofNat_val hmi] at hp
   refine Ev.bind hp ?_
   simpa using hn
 | succ d ih =>
  intro j hdj hj
  have hlt : j < ms.length := by omega
  have hnext := ih (j + 1) (by omega) (by omega)
  rw [freeTo_succ hlt] at hnext
  cases hf : freeTo ms ms[i] j
  ·rw [hf, Bool.false_and] at hnext
   refine Ev.step (f := fun n => potbankref06_crowds.l1 n (blN ms) (blM acc) (i : Int) false ((j + 1 : Nat) : Int)) (fun n => by
    simp only [potbankref06_crowds.l1]
    rw [if_pos (by omega), if_neg (by simp), wrap_succ hlt (by omega)]) hnext
  ·rw [hf, Bool.true_and] at hnext
   by_cases hij : j = i
   ·subst hij
    refine Ev.step (f := fun n => potbankref06_crowds.l1 n (blN ms) (blM acc) (j : Int) true ((j + 1 : Nat) : Int)) (fun n => by
     simp only [potbankref06_crowds.l1]
     rw [if_pos (by omega), if_pos trivial]
     simp only [if_true]
     rw [wrap_succ hlt (by omega)]) ?_
    simpa using hnext
   ·have hne : (ms[j] == ms[i]) = false := by
     rw [beq_eq_false_iff_ne]
     exact fun e => hij ((List.getElem_inj hd).1 e)
    rw [hne, Bool.false_or] at hnext
    refine Ev.step (f := fun n => (potbankref06_subset.f n (bitsL (ms[j] : Int)) (bitsL (ms[i] : Int))).bind fun t => potbankref06_crowds.l1 n (blN ms) (blM acc) (i : Int) (!t) ((j + 1 : Nat) : Int)) (fun n => by
     simp only [potbankref06_crowds.l1]
     rw [if_pos (by omega), if_pos trivial, if_neg (by omega), if_pos (by omega), if_pos (by omega), if_pos (by omega), blN_at hlt, blN_at hi, wrap_succ hlt (by omega)]) ?_
    have h1 := bitsL_len9 (ms[j] : Int)
    have h2 := bitsL_len9 (ms[i] : Int)
    have hs := subset_ev (a := bitsL (ms[j] : Int)) (b := bitsL (ms[i] : Int)) (by omega) (by omega)
    rw [subS_bits (hm _ (List.getElem_mem hlt))] at hs
    exact Ev.bind hs hnext
theorem crowds_loop {ms : List Nat} (hm : ∀ m ∈ ms, m < 512) (hd : ms.Nodup) (hl : ms.length ≤ 512) : ∀ (d i : Nat), ms.length - i = d → i ≤ ms.length →
  Ev (fun n => potbankref06_crowds.l0 n (blN ms) (blM (insAll [] ((ms.take i).filter (fun s => freeTo ms s ms.length)))) (i : Int)) (blM (insAll [] (ms.filter (fun s => freeTo ms s ms.length)))) := by
 have hbl : (blN ms).length = ms.length := by simp [blN]
 intro d
 induction d with
 | zero =>
  intro i hd hi
  rw [List.take_of_length_le (by omega)]
  exact Ev.step (f := fun _ => some (blM (insAll [] (ms.filter (fun s => freeTo ms s ms.length))))) (fun n => by simp only [potbankref06_crowds.l0]; rw [if_neg (by omega)]) (Ev.now _)
 | succ d ih =>
  intro i hdi hi
  have hlt : i < ms.length := by omega
  have hnext := ih (i + 1) (by omega) (by omega)
  refine Ev.step (f := fun n => potbankref06_crowds.l1 n (blN ms) (blM (insAll [] ((ms.take i).filter (fun s => freeTo ms s ms.length)))) (i : Int) (freeTo ms ms[i] 0) ((0 : Nat) : Int)) (fun n => by
   simp only [potbankref06_crowds.l0]
   rw [if_pos (by omega)]
   rfl) ?_
  have hlen : (insAll [] ((ms.take i).filter (fun s => freeTo ms s ms.length))).length ≤ 512 := by
   rw [insAll_len]
   have h1 := List.length_filter_le (fun s => freeTo ms s ms.length) (ms.take i)
   have h2 : (ms.take i).length ≤ ms.length := by rw [List.length_take]; omega
   omega
  refine crowds_inner hm hd hl hlt hlen ?_ _ 0 rfl (Nat.zero_le _)
  have e : (ms.take (i + 1)).filter (fun s => freeTo ms s ms.length) = (ms.take i).filter (fun s => freeTo ms s ms.length) ++ if freeTo ms ms[i] ms.length then [ms[i]] else [] := by
   rw [List.take_succ_eq_append_getElem hlt, List.filter_append, List.filter_cons]
   rfl
  rw [e] at hnext
  cases hf : freeTo ms ms[i] ms.length
  ·simpa [hf] using hnext
  ·rw [hf] at hnext
   simp only [if_true] at hnext ⊢
   rw [insAll_snoc] at hnext
   exact hnext
theorem crowds_ev {k : List Seat} {l : List Order} (hF : Fine k l) (h8 : l.length ≤ 8) : Ev (fun n => potbankref06_crowds.f n k l) (crowdsL k l) := by
 have h512 : 2 ^ l.length ≤ 256 := Nat.pow_le_pow_right (n := 2) (by omega) h8
 unfold potbankref06_crowds.f
 refine Ev.bind (indices_ev h8) (Ev.bind (within_ev hF (idx_in h8)) ?_)
 rw [within_all k h8]
 have hm : ∀ m ∈ masksC k l, m < 512 := fun m hm => by have := (masksC_mem.1 hm).1; omega
 have hd : (masksC k l).Nodup := List.nodup_range.sublist List.filter_sublist
 have hl : (masksC k l).length ≤ 512 := by
  have := List.length_filter_le (fun m : Nat => crowdB k l (m : Int)) (List.range (2 ^ l.length))
  rw [List.length_range] at this
  unfold masksC
  omega
 have h := crowds_loop hm hd hl _ 0 rfl (Nat.zero_le _)
 have e : (masksC k l).filter (fun s => freeTo (masksC k l) s (masksC k l).length) = (masksC k l).filter (leastB k l) := by
  refine List.filter_congr (fun m hm => ?_)
  unfold freeTo leastB
  rw [List.take_length, (masksC_mem.1 hm).2, Bool.true_and]
 rw [e, leastF_put k (by omega)] at h
 have e2 : crowdsL k l = blM (leastF k l) := by
  unfold crowdsL blM natsI
  rw [crowdsN_least k (by omega), List.map_map, List.map_map]
  rfl
 rw [e2]
 exact h
theorem Same_loop {a : List Int} (hl : a.length ≤ 1000) : ∀ (d i : Nat), a.length - i = d → i ≤ a.length → Ev (fun n => potbankref01_Same.l0 n a a (i : Int)) true := by
 intro d
 induction d with
 | zero =>
  intro i hd hi
  exact Ev.step (f := fun _ => some true) (fun n => by simp only [potbankref01_Same.l0]; rw [if_neg (by omega)]) (Ev.now _)
 | succ d ih =>
  intro i hd hi
  have hlt : i < a.length := by omega
  refine Ev.step (f := fun n => potbankref01_Same.l0 n a a ((i + 1 : Nat) : Int)) (fun n => by
   simp only [potbankref01_Same.l0]
   rw [if_pos (by omega), if_pos (by omega), if_pos (by omega)]
   simp only [if_true]
   rw [wrap_succ hlt (by omega)]) (ih (i + 1) (by omega) (by omega))
theorem Same_self {a : List Int} (hl : a.length ≤ 1000) : Ev (fun n => potbankref01_Same.f n a a) true := by
 unfold potbankref01_Same.f
 simp only [if_true]
 exact Same_loop hl _ 0 rfl (Nat.zero_le _)
theorem SameSets_loop {a : List (List Int)} (hl : a.length ≤ 1000) (ha : ∀ x ∈ a, x.length ≤ 1000) : ∀ (d i : Nat), a.length - i = d → i ≤ a.length → Ev (fun n => potbankref06_SameSets.l0 n a a true (i : Int)) true := by
 intro d
 induction d with
 | zero =>
  intro i hd hi
  exact Ev.step (f := fun _ => some true) (fun n => by simp only [potbankref06_SameSets.l0]; rw [if_neg (by omega)]) (Ev.now _)
 | succ d ih =>
  intro i hd hi
  have hlt : i < a.length := by omega
  refine Ev.step (f := fun n => (potbankref01_Same.f n a[i] a[i]).bind fun t => potbankref06_SameSets.l0 n a a t ((i + 1 : Nat) : Int)) (fun n => by
   simp only [potbankref06_SameSets.l0]
   rw [if_pos (by omega), if_pos trivial, if_pos (by omega), if_pos (by omega), rdL_at hlt, wrap_succ hlt (by omega)]) ?_
  exact Ev.bind (Same_self (ha _ (List.getElem_mem hlt))) (ih (i + 1) (by omega) (by omega))
theorem SameSets_self {a : List (List Int)} (hl : a.length ≤ 1000) (ha : ∀ x ∈ a, x.length ≤ 1000) : Ev (fun n => potbankref06_SameSets.f n a a) true := by
 unfold potbankref06_SameSets.f
 have : ((a.length : Int) == (a.length : Int)) = true := by simp
 rw [this]
 exact SameSets_loop hl ha _ 0 rfl (Nat.zero_le _)
theorem crowdsL_ok {k : List Seat} {l : List Order} (h9 : l.length ≤ 9) : (crowdsL k l).length ≤ 1000 ∧ ∀ x ∈ crowdsL k l, x.length ≤ 1000 := by
 constructor
 ·have := crowdsN_len (k := k) h9
  simp [crowdsL, natsI]
  omega
 ·intro x hx
  obtain ⟨m, _, rfl⟩ := List.mem_map.1 hx
  have := bitsL_len9 m
  omega
theorem rd_natsI {of : List Nat} {i : Nat} (h : i < of.length) : rd (natsI of) (i : Int) = (of[i] : Int) := by
 rw [rd_at (by rw [natsI_len]; exact h)]
 simp [natsI]
theorem usedL_take {of : List Nat} {i : Nat} (h : i < of.length) : usedL (of.take (i + 1)) = max (usedL (of.take i)) (of[i] + 1) := by
 rw [List.take_succ_eq_append_getElem h, usedL_snoc]
theorem usedL_le {of : List Nat} {m : Nat} (h : ∀ f ∈ of, f < m) : usedL of ≤ m := by
 have key : ∀ (i : Nat), i ≤ of.length → usedL (of.take i) ≤ m := by
  intro i
  induction i with
  | zero => intro _; simp [usedL]
  | succ i ih =>
   intro hi
   have h1 : i < of.length := by omega
   have h2 := h _ (List.getElem_mem h1)
   have := ih (by omega)
   rw [usedL_take h1]
   omega
 have := key of.length (Nat.le_refl _)
 rwa [List.take_length] at this
theorem most_loop {of : List Nat} (h9 : of.length ≤ 9) (hf : ∀ f ∈ of, f < 100) : ∀ (d i : Nat), of.length - i = d → i ≤ of.length → Ev (fun n => potbankref06_most.l0 n (natsI of) ((usedL (of.take i) : Int) - 1) (i : Int)) ((usedL of : Int) - 1) := by
 have hl := natsI_len of
 intro d
 induction d with
 | zero =>
  intro i hd hi
  rw [List.take_of_length_le (by omega)]
  exact Ev.step (f := fun _ => some ((usedL of : Int) - 1)) (fun n => by simp only [potbankref06_most.l0]; rw [if_neg (by omega)]) (Ev.now _)
 | succ d ih =>
  intro i hd hi
  have hlt : i < of.length := by omega
  refine Ev.step (f := fun n => potbankref06_most.l0 n (natsI of) ((usedL (of.take (i + 1)) : Int) - 1) ((i + 1 : Nat) : Int)) (fun n => by
   simp only [potbankref06_most.l0]
   rw [if_pos (by omega), if_pos (by omega), rd_natsI hlt, wrap_succ hlt (by omega), usedL_take hlt]
   congr 1
   unfold mx
   split <;> omega) (ih (i + 1) (by omega) (by omega))
theorem most_ev {of : List Nat} (h9 : of.length ≤ 9) (hf : ∀ f ∈ of, f < 100) : Ev (fun n => potbankref06_most.f n (natsI of)) ((usedL of : Int) - 1) :=
 most_loop h9 hf _ 0 rfl (Nat.zero_le _)
theorem or_add {a i : Nat} (h : a < 2 ^ i) : a ||| 2 ^ i = a + 2 ^ i := by
 have := Nat.two_pow_add_eq_or_of_lt h 1
 rw [Nat.mul_one] at this
 rw [Nat.or_comm, ← this, Nat.add_comm]
theorem maskF_take {of : List Nat} {i : Nat} (h : i < of.length) (f : Nat) : maskF (of.take (i + 1)) f = if of[i] = f then maskF (of.take i) f + 2 ^ i else maskF (of.take i) f := by
 have hl : (of.take i).length = i := by rw [List.length_take]; omega
 have hlt := maskF_lt (of.take i) f
 rw [hl] at hlt
 rw [List.take_succ_eq_append_getElem h, maskF_snoc, hl, or_add hlt]
theorem mask_loop {of : List Nat} (h9 : of.length ≤ 9) (f : Nat) : ∀ (d i : Nat), of.length - i = d → i ≤ of.length → Ev (fun n => potbankref06_mask.l0 n (natsI of) (f : Int) (maskF (of.take i) f : Int) (i : Int)) (maskF of f : Int) := by
 have hl := natsI_len of
 intro d
 induction d with
 | zero =>
  intro i hd hi
  rw [List.take_of_length_le (by omega)]
  exact Ev.step (f := fun _ => some (maskF of f : Int)) (fun n => by simp only [potbankref06_mask.l0]; rw [if_neg (by omega)]) (Ev.now _)
 | succ d ih =>
  intro i hd hi
  have hlt : i < of.length := by omega
  have hb := maskF_lt (of.take i) f
  have hli : (of.take i).length = i := by rw [List.length_take]; omega
  rw [hli] at hb
  have hp : 2 ^ i ≤ 2 ^ 9 := Nat.pow_le_pow_right (by omega) (by omega)
  have hnext := ih (i + 1) (by omega) (by omega)
  rw [maskF_take hlt] at hnext
  by_cases h : of[i] = f
  ·rw [if_pos h] at hnext
   refine Ev.step (f := fun n => potbankref06_mask.l0 n (natsI of) (f : Int) ((maskF (of.take i) f + 2 ^ i : Nat) : Int) ((i + 1 : Nat) : Int)) (fun n => by
    simp only [potbankref06_mask.l0]
    rw [if_pos (by omega), if_pos (by omega), rd_natsI hlt, if_pos (by omega), shl_at (by omega), wrap_succ hlt (by omega)]
    congr 1
    generalize 2 ^ i = p at hb hp
    unfold wrap64
    omega) hnext
  ·rw [if_neg h] at hnext
   refine Ev.step (f := fun n => potbankref06_mask.l0 n (natsI of) (f : Int) (maskF (of.take i) f : Int) ((i + 1 : Nat) : Int)) (fun n => by
    simp only [potbankref06_mask.l0]
    rw [if_pos (by omega), if_pos (by omega), rd_natsI hlt, if_neg (by omega), wrap_succ hlt (by omega)]) hnext
theorem mask_ev {of : List Nat} (h9 : of.length ≤ 9) (f : Nat) : Ev (fun n => potbankref06_mask.f n (natsI of) (f : Int)) (maskF of f : Int) :=
 mask_loop h9 f _ 0 rfl (Nat.zero_le _)
def okW (good : Nat → Bool) (w : List Nat) : Bool := (firN w).all good
theorem okW_iff {good : Nat → Bool} {w : List Nat} : okW good w = true ↔ ∀ f, f < usedL w → good (maskF w f) = true := by
 unfold okW firN
 rw [List.all_eq_true]
 constructor
 ·intro h f hf
  exact h _ (List.mem_map.2 ⟨f, List.mem_range.2 hf, rfl⟩)
 ·intro h m hm
  obtain ⟨f, hf, rfl⟩ := List.mem_map.1 hm
  exact h f (List.mem_range.1 hf)
theorem ways_pre : ∀ (r most used : Nat) (of w : List Nat), w ∈ waysL r most used of → ∃ t, w = of ++ t
 | 0, _, _, of, w, h => ⟨[], by simpa [waysL] using h⟩
 | r + 1, most, used, of, w, h => by
  unfold waysL at h
  obtain ⟨f, _, hf⟩ := List.mem_flatMap.1 h
  obtain ⟨t, rfl⟩ := ways_pre r most _ _ w hf
  exact ⟨f :: t, by simp⟩
theorem usedL_pre (of : List Nat) : ∀ t : List Nat, usedL of ≤ usedL (of ++ t)
 | [] => by simp
 | x :: t => by
  have h := usedL_pre (of ++ [x]) t
  rw [usedL_snoc] at h
  have e : of ++ x :: t = of ++ [x] ++ t := by simp
  rw [e]
  omega
theorem maskF_pre (of : List Nat) (f : Nat) : ∀ t : List Nat, subB (maskF of f) (maskF (of ++ t) f) = true
 | [] => by simpa using subB_refl _
 | x :: t => by
  have h := maskF_pre (of ++ [x]) f t
  have e : of ++ x :: t = of ++ [x] ++ t := by simp
  rw [e]
  refine subB_trans ?_ h
  rw [maskF_snoc]
  split
  ·rw [subB_bits]
   intro i hi
   rw [Nat.testBit_or, hi]
   rfl
  ·exact subB_refl _
def TabOk (tab : List Bool) (items : Nat) (good : Nat → Bool) : Prop := tab.length = 2 ^ items ∧ ∀ m : Nat, m < 2 ^ items → rdOf false tab (m : Int) = good m
theorem given_loop {tab : List Bool} {items n : Nat} {good : Nat → Bool} (ht : TabOk tab items good) (h8 : items ≤ 8) (hn : n ≤ 8) (mono : ∀ a b, subB a b = true → good b = true → good a = true) {of : List Nat} {r : Nat} (hof : of.length + (r + 1) = items) (hlt : ∀ f ∈ of, f < n)
  (hg : ∀ f, f < usedL of → good (maskF of f) = true)
  (next : ∀ f, f < n → f ≤ usedL of → (∀ g, g < usedL (of ++ [f]) → good (maskF (of ++ [f]) g) = true) → ∃ v, Ev (fun k => potbankref06_given.f k tab (natsI (of ++ [f])) (n : Int) (items : Int)) (v, (waysL r n (usedL (of ++ [f])) (of ++ [f])).any (okW good))) :
  ∀ (d f : Nat), min (usedL of + 1) n - f = d → f ≤ min (usedL of + 1) n → ∃ v, Ev (fun k => potbankref06_given.l0 k tab (natsI of) (n : Int) (items : Int) (f : Int)) (v, (List.range' f d).any (fun g => (waysL r n (max (usedL of) (g + 1)) (of ++ [g])).any (okW good))) := by
 have hul := usedL_le hlt
 have hl := natsI_len of
 have hm := most_ev (of := of) (by omega) (fun f hf => by have := hlt f hf; omega)
 intro d
 induction d with
 | zero =>
  intro f hd hf
  refine ⟨[], ?_⟩
  by_cases hfn : f < n
  ·refine Ev.step (f := fun k => (potbankref06_most.f k (natsI of)).bind fun t178 => potbankref06_given.j1 k tab (natsI of) (n : Int) (items : Int) (f : Int) (decide ((f : Int) ≤ wrap64 (t178 + 1)))) (fun k => by
    simp only [potbankref06_given.l0]; rw [if_pos (by omega)]) ?_
   refine Ev.bind hm ?_
   have : decide ((f : Int) ≤ wrap64 ((usedL of : Int) - 1 + 1)) = false := by
    rw [decide_eq_false_iff_not]; unfold wrap64; omega
   simp only [this]
   refine Ev.step (f := fun k => some (([] : List Int), false)) (fun k => by simp only [potbankref06_given.j1]; rw [if_neg (by simp)]) (Ev.now _)
  ·refine Ev.step (f := fun k => potbankref06_given.j1 k tab (natsI of) (n : Int) (items : Int) (f : Int) false) (fun k => by
    simp only [potbankref06_given.l0]; rw [if_neg (by omega)]) ?_
   refine Ev.step (f := fun k => some (([] : List Int), false)) (fun k => by simp only [potbankref06_given.j1]; rw [if_neg (by simp)]) (Ev.now _)
 | succ d ih =>
  intro f hd hf
  obtain ⟨v0, h0⟩ := ih (f + 1) (by omega) (by omega)
  have hfn : f < n := by omega
  have hfu : f ≤ usedL of := by omega
  have e : natsI of ++ [(f : Int)] = natsI (of ++ [f]) := by simp [natsI]
  have hlen : (of ++ [f]).length = of.length + 1 := by simp
  have hmk := mask_ev (of := of ++ [f]) (by omega) f
  have hmlt := maskF_lt (of ++ [f]) f
  have hm2 : maskF (of ++ [f]) f < 2 ^ items := Nat.lt_of_lt_of_le hmlt (Nat.pow_le_pow_right (by omega) (by omega))
  have hrd := ht.2 _ hm2
  have htl := ht.1
  have start : ∀ v b, Ev (fun k => if good (maskF (of ++ [f]) f) = true then ((potbankref06_given.f k tab (natsI (of ++ [f])) (n : Int) (items : Int)).bind fun bt190 => (if bt190.2 = true then (some (bt190.1, true)) else (potbankref06_given.l0 k tab (natsI of) (n : Int) (items : Int) ((f + 1 : Nat) : Int)))) else (potbankref06_given.l0 k tab (natsI of) (n : Int) (items : Int) ((f + 1 : Nat) : Int))) (v, b) →
    Ev (fun k => potbankref06_given.l0 k tab (natsI of) (n : Int) (items : Int) (f : Int)) (v, b) := by
   intro v b hv
   refine Ev.step (f := fun k => (potbankref06_most.f k (natsI of)).bind fun t178 => potbankref06_given.j1 k tab (natsI of) (n : Int) (items : Int) (f : Int) (decide ((f : Int) ≤ wrap64 (t178 + 1)))) (fun k => by
    simp only [potbankref06_given.l0]; rw [if_pos (by omega)]) ?_
   refine Ev.bind hm ?_
   have : decide ((f : Int) ≤ wrap64 ((usedL of : Int) - 1 + 1)) = true := by
    rw [decide_eq_true_eq]; unfold wrap64; omega
   simp only [this]
   refine Ev.step (f := fun k => (potbankref06_mask.f k (natsI (of ++ [f])) (f : Int)).bind fun t188 => (if 0 ≤ t188 then (if t188 < (tab.length : Int) then (if rdOf false tab t188 = true then ((potbankref06_given.f k tab (natsI (of ++ [f])) (n : Int) (items : Int)).bind fun bt190 => (if bt190.2 = true then (some (bt190.1, true)) else (potbankref06_given.l0 k tab (natsI of) (n : Int) (items : Int) ((f + 1 : Nat) : Int)))) else (potbankref06_given.l0 k tab (natsI of) (n : Int) (items : Int) ((f + 1 : Nat) : Int))) else (none)) else (none))) (fun k => by
    simp only [potbankref06_given.j1]
    rw [if_pos trivial]
    simp only [Option.bind_some, List.nil_append, List.length_nil, Nat.zero_add]
    rw [if_pos (by omega), if_pos (by omega), wrap_succ hfn (by omega), e]) ?_
   refine Ev.bind hmk ?_
   have c0 : (0 : Int) ≤ (maskF (of ++ [f]) f : Int) := by omega
   have c1 : (maskF (of ++ [f]) f : Int) < (tab.length : Int) := by omega
   simp only [c0, c1, if_true, hrd]
   exact hv
  have en : (List.range' f (d + 1)).any (fun g => (waysL r n (max (usedL of) (g + 1)) (of ++ [g])).any (okW good)) = ((waysL r n (max (usedL of) (f + 1)) (of ++ [f])).any (okW good) || (List.range' (f + 1) d).any (fun g => (waysL r n (max (usedL of) (g + 1)) (of ++ [g])).any (okW good))) := by
   rw [List.range'_succ, List.any_cons]
  rw [en]
  cases hgm : good (maskF (of ++ [f]) f)
  ·have hno : (waysL r n (max (usedL of) (f + 1)) (of ++ [f])).any (okW good) = false := by
    rw [List.any_eq_false]
    intro w hw hok
    obtain ⟨t, rfl⟩ := ways_pre _ _ _ _ _ hw
    have h1 := okW_iff.1 hok f (by
     have := usedL_pre (of ++ [f]) t
     rw [usedL_snoc] at this
     omega)
    have := mono _ _ (maskF_pre (of ++ [f]) f t) h1
    rw [hgm] at this
    cases this
   rw [hno, Bool.false_or]
   refine ⟨v0, start _ _ ?_⟩
   simp only [hgm, Bool.false_eq_true, if_false]
   exact h0
  ·obtain ⟨v1, h1⟩ := next f hfn hfu (fun g hg2 => by
    rw [usedL_snoc] at hg2
    by_cases hgf : g = f
    ·subst hgf; exact hgm
    ·rw [maskF_snoc, if_neg (fun e => hgf e.symm)]
     exact hg g (by omega))
   rw [usedL_snoc] at h1
   cases hb : (waysL r n (max (usedL of) (f + 1)) (of ++ [f])).any (okW good)
   ·rw [hb] at h1
    rw [Bool.false_or]
    refine ⟨v0, start _ _ ?_⟩
    simp only [hgm, if_true]
    refine Ev.bind h1 ?_
    simpa using h0
   ·rw [hb] at h1
    rw [Bool.true_or]
    refine ⟨v1, start _ _ ?_⟩
    simp only [hgm, if_true]
    refine Ev.bind h1 ?_
    simpa using Ev.now (v1, true)
theorem given_ev {tab : List Bool} {items n : Nat} {good : Nat → Bool} (ht : TabOk tab items good) (h8 : items ≤ 8) (hn : n ≤ 8) (mono : ∀ a b, subB a b = true → good b = true → good a = true) : ∀ (r : Nat) (of : List Nat), of.length + r = items → (∀ f ∈ of, f < n) →
  (∀ f, f < usedL of → good (maskF of f) = true) → ∃ v, Ev (fun k => potbankref06_given.f k tab (natsI of) (n : Int) (items : Int)) (v, (waysL r n (usedL of) of).any (okW good))
 | 0, of, hof, hlt, hg => by
  have hl := natsI_len of
  have hok : okW good of = true := okW_iff.2 hg
  refine ⟨natsI of, ?_⟩
  unfold waysL
  rw [List.any_cons, hok, Bool.true_or]
  exact Ev.step (f := fun _ => some (natsI of, true)) (fun k => by simp only [potbankref06_given.f]; rw [if_pos (by omega)]) (Ev.now _)
 | r + 1, of, hof, hlt, hg => by
  have hl := natsI_len of
  obtain ⟨v, hv⟩ := given_loop ht h8 hn mono hof hlt hg (fun f hf hfu hg2 => given_ev ht h8 hn mono r (of ++ [f]) (by simp; omega) (fun g hg3 => by
   rcases List.mem_append.1 hg3 with h | h
   ·exact hlt g h
   ·rw [List.mem_singleton.1 h]; exact hf) hg2) _ 0 rfl (Nat.zero_le _)
  refine ⟨v, ?_⟩
  have e : (waysL (r + 1) n (usedL of) of).any (okW good) = (List.range' 0 (min (usedL of + 1) n - 0)).any (fun g => (waysL r n (max (usedL of) (g + 1)) (of ++ [g])).any (okW good)) := by
   have ew : waysL (r + 1) n (usedL of) of = (List.range (min (usedL of + 1) n)).flatMap fun f => waysL r n (max (usedL of) (f + 1)) (of ++ [f]) := rfl
   rw [ew, List.any_flatMap, List.range_eq_range', Nat.sub_zero]
  rw [e]
  refine Ev.step (f := fun k => potbankref06_given.l0 k tab (natsI of) (n : Int) (items : Int) ((0 : Nat) : Int)) (fun k => by simp only [potbankref06_given.f]; rw [if_neg (by omega)]; rfl) hv
theorem fitsB_iff {k : List Seat} {l : List Order} {m : Nat} (hm : m < 512) : fitsB k l m = true ↔ ∀ s : Nat, subB s m = true → crowdB k l (s : Int) = false := by
 unfold fitsB crowdI
 rw [Option.isNone_iff_eq_none, List.find?_eq_none]
 constructor
 ·intro h s hs
  have hsm := subB_le hs
  have := h (⟨s, by omega⟩ : M9) ((partsF_mem hm).2 hs)
  simpa using this
 ·intro h x hx
  have := h x.val ((partsF_mem hm).1 hx)
  simpa using this
theorem fitsB_mono {k : List Seat} {l : List Order} {a b : Nat} (hb : b < 512) (h : subB a b = true) (hf : fitsB k l b = true) : fitsB k l a = true := by
 have := subB_le h
 exact (fitsB_iff (by omega)).2 fun s hs => (fitsB_iff hb).1 hf s (subB_trans hs h)
theorem minus_all : ∀ m : Fin 256, ∀ i : Fin 8, m.val.testBit i.val = true → m.val - 2 ^ i.val = m.val ^^^ 2 ^ i.val := by decide +kernel
theorem minus_bits {m i : Nat} (hm : m < 256) (hi : i < 8) (h : m.testBit i = true) (j : Nat) : (m - 2 ^ i).testBit j = (m.testBit j && decide (i ≠ j)) := by
 rw [minus_all ⟨m, hm⟩ ⟨i, hi⟩ h, Nat.testBit_xor, Nat.testBit_two_pow]
 by_cases e : i = j
 ·subst e; simp [h]
 ·simp [e]
theorem fitsB_step {k : List Seat} {l : List Order} {m : Nat} (hm : m < 256) : fitsB k l m = (!(crowdB k l (m : Int)) && (List.range 8).all (fun i => !(m.testBit i) || fitsB k l (m - 2 ^ i))) := by
 rw [Bool.eq_iff_iff, fitsB_iff (by omega), Bool.and_eq_true, List.all_eq_true]
 constructor
 ·intro h
  refine ⟨by rw [h m (subB_refl m)]; rfl, fun i hi => ?_⟩
  have hi8 := List.mem_range.1 hi
  have h5 : m - 2 ^ i < 512 := by have := Nat.sub_le m (2 ^ i); omega
  cases hb : m.testBit i
  ·rfl
  ·rw [Bool.not_true, Bool.false_or, fitsB_iff h5]
   intro s hs
   refine h s (subB_trans hs (subB_bits.2 fun j hj => ?_))
   rw [minus_bits hm hi8 hb] at hj
   exact (Bool.and_eq_true_iff.1 hj).1
 ·rintro ⟨h1, h2⟩ s hs
  by_cases e : s = m
  ·subst e
   simpa using h1
  ·have : ∃ i, i < 8 ∧ m.testBit i = true ∧ s.testBit i = false := by
    refine Classical.byContradiction fun hn => e (subB_anti hs (subB_bits.2 fun i hi => ?_))
    refine Classical.byContradiction fun hf => hn ⟨i, ?_, hi, by simpa using hf⟩
    refine Classical.byContradiction fun h8 => ?_
    have h3 := Nat.ge_two_pow_of_testBit hi
    have h4 : 2 ^ 8 ≤ 2 ^ i := Nat.pow_le_pow_right (by omega) (by omega)
    omega
   obtain ⟨i, hi8, hb, hs0⟩ := this
   have h3 := h2 i (List.mem_range.2 hi8)
   have h5 : m - 2 ^ i < 512 := by have := Nat.sub_le m (2 ^ i); omega
   rw [hb, Bool.not_true, Bool.false_or, fitsB_iff h5] at h3
   refine h3 s (subB_bits.2 fun j hj => ?_)
   rw [minus_bits hm hi8 hb, subB_bits.1 hs j hj]
   simp only [Bool.true_and, decide_eq_true_eq]
   intro e2
   subst e2
   rw [hs0] at hj
   cases hj
def tabTo (n : Nat) (good : Nat → Bool) (j : Nat) : List Bool := (List.range n).map (fun m => decide (m < j) && good m)
theorem tabTo_len (n : Nat) (good : Nat → Bool) (j : Nat) : (tabTo n good j).length = n := by simp [tabTo]
theorem tabTo_rd {n : Nat} {good : Nat → Bool} {j m : Nat} (hm : m < n) : rdOf false (tabTo n good j) (m : Int) = (decide (m < j) && good m) := by
 simp [rdOf, tabTo, List.getD_eq_getElem?_getD, hm]
theorem tabTo_zero (n : Nat) (good : Nat → Bool) : List.replicate n false = tabTo n good 0 := by
 refine List.ext_getElem (by simp [tabTo]) (fun i h1 h2 => ?_)
 simp [tabTo]
theorem tabTo_set {n : Nat} {good : Nat → Bool} {j : Nat} (hj : j < n) : (tabTo n good j).set j (good j) = tabTo n good (j + 1) := by
 refine List.ext_getElem (by simp [tabTo]) (fun i h1 h2 => ?_)
 rw [List.getElem_set]
 split
 ·rename_i e
  subst e
  simp [tabTo]
 ·rename_i e
  simp only [tabTo, List.getElem_map, List.getElem_range]
  congr 1
  rw [Bool.eq_iff_iff, decide_eq_true_eq, decide_eq_true_eq]
  omega
theorem tabTo_ok {items : Nat} {good : Nat → Bool} : TabOk (tabTo (2 ^ items) good (2 ^ items)) items good :=
 ⟨tabTo_len _ _ _, fun m hm => by rw [tabTo_rd hm, decide_eq_true hm, Bool.true_and]⟩
theorem table_inner {k : List Seat} {l : List Order} (h8 : l.length ≤ 8) {j : Nat} (hj : j < 2 ^ l.length) {r : List Bool}
  (hn : Ev (fun n => potbankref06_table.l0 n k l (tabTo (2 ^ l.length) (fitsB k l) (j + 1)) ((j + 1 : Nat) : Int)) r) :
  ∀ (d i : Nat) (b : Bool), l.length - i = d → i ≤ l.length → (b && (List.range' i d).all (fun q => !(j.testBit q) || fitsB k l (j - 2 ^ q))) = fitsB k l j →
   Ev (fun n => potbankref06_table.l1 n k l (tabTo (2 ^ l.length) (fitsB k l) j) (j : Int) b (i : Int)) r := by
 have hp : 2 ^ l.length ≤ 256 := Nat.pow_le_pow_right (n := 2) (by omega) h8
 have hlen := tabTo_len (2 ^ l.length) (fitsB k l) j
 intro d
 induction d with
 | zero =>
  intro i b hd hi hb
  refine Ev.step (f := fun n => potbankref06_table.l0 n k l (tabTo (2 ^ l.length) (fitsB k l) (j + 1)) ((j + 1 : Nat) : Int)) (fun n => by
   simp only [potbankref06_table.l1]
   have hb' : b = fitsB k l j := by rw [← hb]; simp
   rw [if_neg (by omega), if_pos (by omega), if_pos (by omega), wrap_succ hj (by omega), hb', Int.toNat_natCast, tabTo_set hj]) hn
 | succ d ih =>
  intro i b hd hi hb
  have hlt : i < l.length := by omega
  rw [List.range'_succ, List.all_cons] at hb
  cases hbit : j.testBit i
  ·refine Ev.step (f := fun n => potbankref06_table.l1 n k l (tabTo (2 ^ l.length) (fitsB k l) j) (j : Int) b ((i + 1 : Nat) : Int)) (fun n => by
    simp only [potbankref06_table.l1]
    rw [if_pos (by omega), if_pos (by omega), if_neg (fun h => by rw [bit_at (by omega) (by omega), hbit] at h; cases h), wrap_succ hlt (by omega)]) ?_
   exact ih (i + 1) b (by omega) (by omega) (by rw [← hb, hbit]; simp)
  ·have hc := (bit_at (m := j) (i := i) (by omega) (by omega)).2 hbit
   have h2 : 2 ^ i ≤ j := Nat.ge_two_pow_of_testBit hbit
   have h2i : 0 < 2 ^ i := Nat.two_pow_pos i
   have hw : wrap64 ((j : Int) - shl .i64 1 (i : Int)) = ((j - 2 ^ i : Nat) : Int) := by
    rw [shl_at (by omega)]
    generalize 2 ^ i = p at h2
    unfold wrap64
    omega
   have hrd : rdOf false (tabTo (2 ^ l.length) (fitsB k l) j) ((j - 2 ^ i : Nat) : Int) = fitsB k l (j - 2 ^ i) := by
    rw [tabTo_rd (by omega), decide_eq_true (by omega), Bool.true_and]
   cases b
   ·refine Ev.step (f := fun n => potbankref06_table.l1 n k l (tabTo (2 ^ l.length) (fitsB k l) j) (j : Int) false ((i + 1 : Nat) : Int)) (fun n => by
     simp only [potbankref06_table.l1]
     rw [if_pos (by omega), if_pos (by omega), if_pos hc, if_neg (by simp), wrap_succ hlt (by omega)]) ?_
    exact ih (i + 1) false (by omega) (by omega) (by rw [← hb]; simp)
   ·refine Ev.step (f := fun n => potbankref06_table.l1 n k l (tabTo (2 ^ l.length) (fitsB k l) j) (j : Int) (fitsB k l (j - 2 ^ i)) ((i + 1 : Nat) : Int)) (fun n => by
     simp only [potbankref06_table.l1]
     rw [if_pos (by omega), if_pos (by omega), if_pos hc, if_pos trivial, hw, if_pos (by omega), if_pos (by omega), hrd, wrap_succ hlt (by omega)]) ?_
    exact ih (i + 1) _ (by omega) (by omega) (by rw [← hb, hbit]; simp)
theorem range_cut {m n : Nat} (hm : m < 2 ^ n) (hn : n ≤ 8) (p : Nat → Bool) : (List.range' 0 n).all (fun q => !(m.testBit q) || p q) = (List.range 8).all (fun q => !(m.testBit q) || p q) := by
 rw [Bool.eq_iff_iff, List.all_eq_true, List.all_eq_true]
 constructor
 ·intro h q hq
  cases hb : m.testBit q
  ·rfl
  ·have h1 := Nat.ge_two_pow_of_testBit hb
   have h2 : q < n := by
    refine Classical.byContradiction fun hc => ?_
    have : 2 ^ n ≤ 2 ^ q := Nat.pow_le_pow_right (by omega) (by omega)
    omega
   have := h q (List.mem_range'_1.2 ⟨by omega, by omega⟩)
   rwa [hb] at this
 ·intro h q hq
  have := (List.mem_range'_1.1 hq).2
  exact h q (List.mem_range.2 (by omega))
theorem table_loop {k : List Seat} {l : List Order} (hF : Fine k l) (h8 : l.length ≤ 8) : ∀ (d j : Nat), 2 ^ l.length - j = d → j ≤ 2 ^ l.length →
  Ev (fun n => potbankref06_table.l0 n k l (tabTo (2 ^ l.length) (fitsB k l) j) (j : Int)) (tabTo (2 ^ l.length) (fitsB k l) (2 ^ l.length)) := by
 have hp : 2 ^ l.length ≤ 256 := Nat.pow_le_pow_right (n := 2) (by omega) h8
 intro d
 induction d with
 | zero =>
  intro j hd hj
  obtain rfl : j = 2 ^ l.length := by omega
  exact Ev.step (f := fun _ => some (tabTo (2 ^ l.length) (fitsB k l) (2 ^ l.length))) (fun n => by
   simp only [potbankref06_table.l0]
   rw [tabTo_len, if_neg (by omega)]) (Ev.now _)
 | succ d ih =>
  intro j hd hj
  have hlt : j < 2 ^ l.length := by omega
  refine Ev.step (f := fun n => (potbankref06_indices.f n (l.length : Int)).bind fun t215 => ((potbankref06_Chosen.f n (j : Int) t215).bind fun t218 => ((potbankref06_crowded.f n k l t218).bind fun t221 => (potbankref06_table.l1 n k l (tabTo (2 ^ l.length) (fitsB k l) j) (j : Int) (!t221) ((0 : Nat) : Int))))) (fun n => by
   simp only [potbankref06_table.l0]
   rw [tabTo_len, if_pos (by omega)]
   rfl) ?_
  refine Ev.bind (indices_ev h8) ?_
  refine Ev.bind (Chosen_ev (m := j) (by omega) (by rw [idx_len]; exact h8)) ?_
  rw [chosen_idx hlt (by omega)]
  refine Ev.bind (crowded_ev hF (s := bitsL (j : Int)) ?_) ?_
  ·rw [← chosen_idx hlt (by omega)]
   exact chosen_in (idx_in h8) j
  ·rw [← crowdS_B k hlt (by omega)]
   refine table_inner h8 hlt (ih (j + 1) (by omega) (by omega)) _ 0 _ rfl (Nat.zero_le _) ?_
   rw [Nat.sub_zero, range_cut hlt h8, ← fitsB_step (by omega)]
theorem table_ev {k : List Seat} {l : List Order} (hF : Fine k l) (h8 : l.length ≤ 8) : Ev (fun n => potbankref06_table.f n k l) (tabTo (2 ^ l.length) (fitsB k l) (2 ^ l.length)) := by
 have hp : 2 ^ l.length ≤ 256 := Nat.pow_le_pow_right (n := 2) (by omega) h8
 have h := table_loop hF h8 _ 0 rfl (Nat.zero_le _)
 rw [← tabTo_zero] at h
 refine Ev.congr (fun n => ?_) h
 unfold potbankref06_table.f
 rw [shl_at (by omega), if_pos (Int.natCast_nonneg _), Int.toNat_natCast, if_pos (by omega)]
 rfl
theorem fewestOf_any (k : List Seat) (l : List Order) (n : Nat) : (fewestOf k l n).isSome = (waysL l.length n 0 []).any (okW (fitsB k l)) := by
 unfold fewestOf
 rw [Option.isSome_map, List.isSome_find?]
 rfl
theorem ways_less : ∀ (r most m used : Nat) (of w : List Nat), w ∈ waysL r most used of → used = usedL of → usedL w ≤ m → w ∈ waysL r m used of
 | 0, _, _, _, _, _, h, _, _ => h
 | r + 1, most, m, used, of, w, h, hu, hw => by
  unfold waysL at h ⊢
  obtain ⟨f, hf, h2⟩ := List.mem_flatMap.1 h
  have h3 := List.mem_range.1 hf
  obtain ⟨t, ht⟩ := ways_pre _ _ _ _ _ h2
  have h4 := usedL_pre (of ++ [f]) t
  rw [← ht, usedL_snoc] at h4
  refine List.mem_flatMap.2 ⟨f, List.mem_range.2 (by omega), ways_less r most m _ _ w h2 (by rw [usedL_snoc, hu]) hw⟩
theorem ways_used {r most : Nat} {w : List Nat} (h : w ∈ waysL r most 0 []) : usedL w ≤ most :=
 usedL_le (ways_lt r most 0 [] w (fun f hf => by cases hf) h)
theorem firN_len (w : List Nat) : (firN w).length = usedL w := by simp [firN]
theorem findSome_first {α : Type} {g : Nat → Option α} : ∀ (n : Nat), (∀ i, i < n → g i = none) → ∀ {q : Nat} {r : α}, n < q → g n = some r → (List.range q).findSome? g = some r := by
 intro n hn q r hq hr
 have e : List.range q = List.range n ++ (n :: List.range' (n + 1) (q - n - 1)) := by
  have h3 := List.range'_append_1 (s := 0) (m := n) (n := q - n)
  rw [Nat.zero_add] at h3
  have h4 : n + (q - n) = q := by omega
  rw [h4] at h3
  rw [List.range_eq_range', List.range_eq_range', ← h3]
  congr 1
  have h5 : q - n = (q - n - 1) + 1 := by omega
  rw [h5, List.range'_succ]
  congr 1
 rw [e, List.findSome?_append]
 have : (List.range n).findSome? g = none := by
  rw [List.findSome?_eq_none_iff]
  intro i hi
  exact hn i (List.mem_range.1 hi)
 rw [this, List.findSome?_cons, hr]
 rfl
theorem fewestN_len {k : List Seat} {l : List Order} {n : Nat} (hn : n ≤ l.length) (h0 : ∀ i, i < n → fewestOf k l i = none) (h1 : (fewestOf k l n).isSome = true) : ∃ r, fewestN k l = some r ∧ r.length = n := by
 obtain ⟨r, hr⟩ := Option.isSome_iff_exists.1 h1
 refine ⟨r, findSome_first n h0 (by omega) hr, ?_⟩
 unfold fewestOf at hr
 obtain ⟨w, hw, rfl⟩ := Option.map_eq_some_iff.1 hr
 rw [firN_len]
 have hmem := List.mem_of_find?_eq_some hw
 have hok := List.find?_some hw
 have hle := ways_used hmem
 rcases Nat.lt_or_ge (usedL w) n with hlt | hge
 ·have h2 := ways_less _ _ (usedL w) 0 [] w hmem rfl (Nat.le_refl _)
  have h3 := h0 _ hlt
  have h4 : (fewestOf k l (usedL w)).isSome = true := by
   rw [fewestOf_any, List.any_eq_true]
   exact ⟨w, h2, hok⟩
  rw [h3] at h4
  cases h4
 ·omega
def goodT (k : List Seat) (l : List Order) (m : Nat) : Bool := decide (m < 2 ^ l.length) && fitsB k l m
theorem goodT_mono {k : List Seat} {l : List Order} (h8 : l.length ≤ 8) (a b : Nat) (h : subB a b = true) (hb : goodT k l b = true) : goodT k l a = true := by
 have hp : 2 ^ l.length ≤ 256 := Nat.pow_le_pow_right (n := 2) (by omega) h8
 unfold goodT at *
 rw [Bool.and_eq_true, decide_eq_true_eq] at *
 have := subB_le h
 exact ⟨by omega, fitsB_mono (by omega) h hb.2⟩
theorem okW_goodT {k : List Seat} {l : List Order} {w : List Nat} (hw : w.length = l.length) : okW (goodT k l) w = okW (fitsB k l) w := by
 rw [Bool.eq_iff_iff, okW_iff, okW_iff]
 have h := fun f => maskF_lt w f
 rw [hw] at h
 simp only [goodT, Bool.and_eq_true, decide_eq_true_eq]
 exact ⟨fun h2 f hf => (h2 f hf).2, fun h2 f hf => ⟨h f, h2 f hf⟩⟩
theorem any_congr_mem {α : Type} {p q : α → Bool} : ∀ {l : List α}, (∀ x ∈ l, p x = q x) → l.any p = l.any q
 | [], _ => rfl
 | x :: xs, h => by rw [List.any_cons, List.any_cons, h x (by simp), any_congr_mem (fun y hy => h y (by simp [hy]))]
theorem ways_goodT (k : List Seat) (l : List Order) (n : Nat) : (waysL l.length n 0 []).any (okW (goodT k l)) = (waysL l.length n 0 []).any (okW (fitsB k l)) :=
 any_congr_mem fun w hw => okW_goodT (by have := ways_len _ _ _ _ _ hw; simpa using this)
theorem given_fit {k : List Seat} {l : List Order} (h8 : l.length ≤ 8) {n : Nat} (hn : n ≤ 8) : ∃ v, Ev (fun q => potbankref06_given.f q (tabTo (2 ^ l.length) (fitsB k l) (2 ^ l.length)) ([] : List Int) (n : Int) (l.length : Int)) (v, (fewestOf k l n).isSome) := by
 have ht : TabOk (tabTo (2 ^ l.length) (fitsB k l) (2 ^ l.length)) l.length (goodT k l) :=
  ⟨tabTo_len _ _ _, fun m hm => by rw [tabTo_rd hm]; rfl⟩
 obtain ⟨v, hv⟩ := given_ev ht h8 hn (goodT_mono h8) l.length [] (by simp) (fun f hf => by cases hf) (fun f hf => absurd hf (Nat.not_lt_zero f))
 refine ⟨v, ?_⟩
 rw [fewestOf_any, ← ways_goodT]
 exact hv
def fewestRel (k : List Seat) (l : List Order) (r : List Int × Int × Bool) : Prop := match fewestN k l with | some q => r.2 = ((q.length : Int), true) | none => r.2.2 = false
theorem fewest_loop {k : List Seat} {l : List Order} (h8 : l.length ≤ 8) : ∀ (d n : Nat), l.length + 1 - n = d → n ≤ l.length + 1 → (∀ i, i < n → fewestOf k l i = none) →
  ∃ r, Ev (fun q => potbankref06_fewest.l0 q l (tabTo (2 ^ l.length) (fitsB k l) (2 ^ l.length)) (n : Int)) r ∧ fewestRel k l r := by
 intro d
 induction d with
 | zero =>
  intro n hd hn h0
  refine ⟨([], 0, false), Ev.step (f := fun _ => some (([] : List Int), (0 : Int), false)) (fun q => by simp only [potbankref06_fewest.l0]; rw [if_neg (by omega)]) (Ev.now _), ?_⟩
  unfold fewestRel
  rw [fewestN_none (fun j hj => h0 j (by omega))]
 | succ d ih =>
  intro n hd hn h0
  obtain ⟨v, hv⟩ := given_fit (k := k) h8 (n := n) (by omega)
  cases hs : (fewestOf k l n).isSome
  ·obtain ⟨r, hr, hrel⟩ := ih (n + 1) (by omega) (by omega) (fun i hi => by
    rcases Nat.lt_or_ge i n with h | h
    ·exact h0 i h
    ·obtain rfl : i = n := by omega
     simpa using hs)
   rw [hs] at hv
   refine ⟨r, ?_, hrel⟩
   refine Ev.step (f := fun q => (potbankref06_given.f q (tabTo (2 ^ l.length) (fitsB k l) (2 ^ l.length)) ([] : List Int) (n : Int) (l.length : Int)).bind fun bt227 => (if bt227.2 = true then (some (bt227.1, (n : Int), true)) else (potbankref06_fewest.l0 q l (tabTo (2 ^ l.length) (fitsB k l) (2 ^ l.length)) ((n + 1 : Nat) : Int)))) (fun q => by
    simp only [potbankref06_fewest.l0]
    rw [if_pos (by omega)]
    have : wrap64 ((n : Int) + 1) = ((n + 1 : Nat) : Int) := by unfold wrap64; omega
    rw [this]) ?_
   refine Ev.bind hv ?_
   simpa using hr
  ·rw [hs] at hv
   obtain ⟨r, hr, hl⟩ := fewestN_len (by omega) h0 hs
   refine ⟨(v, (n : Int), true), ?_, ?_⟩
   ·refine Ev.step (f := fun q => (potbankref06_given.f q (tabTo (2 ^ l.length) (fitsB k l) (2 ^ l.length)) ([] : List Int) (n : Int) (l.length : Int)).bind fun bt227 => (if bt227.2 = true then (some (bt227.1, (n : Int), true)) else (potbankref06_fewest.l0 q l (tabTo (2 ^ l.length) (fitsB k l) (2 ^ l.length)) (wrap64 ((n : Int) + 1))))) (fun q => by
     simp only [potbankref06_fewest.l0]
     rw [if_pos (by omega)]) ?_
    refine Ev.bind hv ?_
    simpa using Ev.now (v, (n : Int), true)
   ·unfold fewestRel
    rw [hr]
    simp only [hl]
theorem fewest_ev {k : List Seat} {l : List Order} (hF : Fine k l) (h8 : l.length ≤ 8) : ∃ r, Ev (fun q => potbankref06_fewest.f q k l) r ∧ fewestRel k l r := by
 obtain ⟨r, hr, hrel⟩ := fewest_loop (k := k) h8 _ 0 rfl (Nat.zero_le _) (fun i hi => absurd hi (Nat.not_lt_zero i))
 exact ⟨r, Ev.bind (table_ev hF h8) hr, hrel⟩
theorem askErr_fine {k : List Seat} {l : List Order} (h : askErr k l = 0) : Fine k l ∧ l.length ≤ 8 := by
 have hk : seatsOk k = true ∧ ordersOk l = true := by
  unfold askErr at h
  cases h1 : seatsOk k <;> cases h2 : ordersOk l <;> simp_all
 exact fine_of hk.1 hk.2
theorem askSetErr_nil (k : List Seat) (l : List Order) : askSetErr k l [] = askErr k l := by
 unfold askSetErr setOk setFrom
 by_cases h : askErr k l = 0
 ·simp [h]
 ·simp [h]
theorem Reason_ev (k : List Seat) (l : List Order) (n : Int) : Ev (fun q => potbankref06_Reason.f q k l n) (reasonR k l n) := by
 have hc := checked_ev k l []
 rw [askSetErr_nil] at hc
 unfold potbankref06_Reason.f reasonR
 refine Ev.bind hc ?_
 by_cases h : askErr k l = 0
 ·simp only [h, if_true]
  obtain ⟨hF, h8⟩ := askErr_fine h
  simp only [In_eq, Option.bind_some]
  by_cases hn : 0 ≤ n ∧ n ≤ 8
  ·have hi : inB n 0 8 = true := by unfold inB; simp; omega
   rw [if_pos hn]
   simp only [hi, if_true]
   obtain ⟨r, hr, hrel⟩ := fewest_ev hF h8
   refine Ev.bind hr ?_
   unfold fewestRel at hrel
   unfold fittedB
   cases hf : fewestN k l with
   | none =>
    rw [hf] at hrel
    simp only at hrel ⊢
    simp only [hrel, Bool.false_eq_true, if_false]
    exact Ev.bind (crowds_ev hF h8) (Ev.now _)
   | some q =>
    rw [hf] at hrel
    simp only at hrel ⊢
    simp only [hrel, if_true]
    by_cases hq : (q.length : Int) ≤ n
    ·simp only [hq, if_true, decide_true]
     exact Ev.now _
    ·simp only [hq, if_false, decide_false, Bool.false_eq_true]
     exact Ev.bind (crowds_ev hF h8) (Ev.now _)
  ·have hi : inB n 0 8 = false := by unfold inB; simp; omega
   rw [if_neg hn]
   simp only [hi, Bool.false_eq_true, if_false]
   exact Ev.now _
 ·simp only [h, if_false]
  exact Ev.now _
end Go.Proofs.YthonlcnmjlldiaaGreat.P
namespace Go.Proofs.YthonlcnmjlldiaaGreat.P
open Go.RowKit Go.Proofs.YthonlcnmjlldiaaGreatW.PrintWords Go.Proofs.YthonlcnmjlldiaaGreatW.PrintLast Go.Proofs.YthonlcnmjlldiaaGreatW.PrintMore
attribute [local go_sem] max2_int min2_int max_two min_two max_three min_three max_four min_four
mutual
def potbankref06_CheckReason.l0 : Nat → List (S70) → List (S72) → Int → Int → List (List Int) → Option (Int)
 | 0, _, _, _, _, _ => none
 | k + 1, x0, x1, x8, x327000, x327001 => if x8 < (x327001.length : Int) then (if 0 ≤ x8 then ((potbankref06_IsSet.f x1 (rd_L5 x327001 x8)).bind fun t330 => (if t330 = true then (potbankref06_CheckReason.l0 k x0 x1 (wrap64 (x8 + 1)) x327000 x327001) else (some 62))) else (none)) else (if 0 ≤ (shl .i64 1 (x1.length : Int)) then (if (shl .i64 1 (x1.length : Int) : Int).toNat ≤ 281474976710656 then (potbankref06_CheckReason.l1 k x0 x1 (List.replicate (shl .i64 1 (x1.length : Int) : Int).toNat false) 0 x327000 x327001) else (none)) else (none))
def potbankref06_CheckReason.l1 : Nat → List (S70) → List (S72) → List Bool → Int → Int → List (List Int) → Option (Int)
 | 0, _, _, _, _, _, _ => none
 | k + 1, x0, x1, x9, x10, x327000, x327001 => if x10 < (x9.length : Int) then ((potbankref06_indices.f k (x1.length : Int)).bind fun t334 => ((potbankref06_Chosen.f k x10 t334).bind fun t337 => ((potbankref06_hit.f k t337 x327001).bind fun t340 => (if 0 ≤ x10 then (potbankref06_CheckReason.l1 k x0 x1 (x9.set (x10 : Int).toNat (!t340)) (wrap64 (x10 + 1)) x327000 x327001) else (none))))) else (potbankref06_CheckReason.l2 k x0 x1 x9 0 x327000 x327001)
def potbankref06_CheckReason.l2 : Nat → List (S70) → List (S72) → List Bool → Int → Int → List (List Int) → Option (Int)
 | 0, _, _, _, _, _, _ => none
 | k + 1, x0, x1, x9, x11, x327000, x327001 => if x11 < (x327001.length : Int) then (if 0 ≤ x11 then ((potbankref06_crowded.f k x0 x1 (rd_L5 x327001 x11)).bind fun t343 => (if t343 = true then (potbankref06_CheckReason.l2 k x0 x1 x9 (wrap64 (x11 + 1)) x327000 x327001) else (some 67))) else (none)) else ((potbankref06_given.f k x9 ([] : List Int) x327000 (x1.length : Int)).bind fun bt344 => (if bt344.2 = true then (some 67) else (some 0)))
end
def potbankref06_CheckReason.f (k : Nat) (l0 : List (S70)) (l1 : List (S72)) (a2_0 : Int) (l2_1 : List (List Int)) : Option (Int) := (potbankref06_checked.f k l0 l1 ([] : List Int)).bind fun t327 => (if t327 = 0 then ((potbankref06_In.f a2_0 0 8).bind fun t328 => (if t328 = true then (if (l2_1.length : Int) > 256 then (some 2) else (potbankref06_CheckReason.l0 k l0 l1 0 a2_0 l2_1)) else (some 1))) else (some t327))
def potbankref06_CheckReason.T17 : Bool × List (List Nat × List Nat) := (true, [([], []), ([], []), ([], []), ([], []), ([3], [3]), ([4], [4]), ([2, 5, 5], [2, 5]), ([], []), ([7], [7]), ([6, 8, 6], [6, 8]), ([9], [9]), ([0, 1, 0, 1, 2, 3, 4, 5, 6, 7, 8, 9, 10], [0, 1]), ([11, 10, 9, 0, 1, 2, 3, 4, 5, 6, 7, 8, 9, 10], [10, 11])])
def potbankref06_CheckReason.B17 : List Nat := [0, 0, 0, 0, 8, 24, 60, 0, 128, 508, 1020, 2047, 4095]
theorem potbankref06_CheckReason.tab17 : rtab .any (opsOf Tryz.f14 17) = potbankref06_CheckReason.T17 := by kernel_rfl
theorem potbankref06_CheckReason.bits17 : waitsOk potbankref06_CheckReason.T17.2 potbankref06_CheckReason.B17 = true := by kernel_rfl
set_option maxHeartbeats 8000000 in
set_option maxRecDepth 100000 in
theorem potbankref06_CheckReason.calls (k : Nat) (A0 : Option Addr) (c0 : Nat) (l0 : List (S70)) (A1 : Option Addr) (c1 : Nat) (l1 : List (S72)) (a2_0 : Int) (A2_1 : Option Addr) (c2_1 : Nat) (l2_1 : List (List Int)) (r : Int) (w : World) (hr0 : Kd.C k70 w A0 l0.length l0) (hc0 : l0.length ≤ c0) (hr1 : Kd.C k72 w A1 l1.length l1) (hc1 : l1.length ≤ c1) (hr2_1 : Kd.C (Kd.slice 3 (Kd.int .i64)) w A2_1 l2_1.length l2_1) (hc2_1 : l2_1.length ≤ c2_1) (h : potbankref06_CheckReason.f k l0 l1 a2_0 l2_1 = some r) :
  Calls Tryz.prog 14 #[.slice A0 l0.length c0, .slice A1 l1.length c1, .agg #[.int .i64 a2_0, .slice A2_1 l2_1.length c2_1]] w fun e w' => e = .returned (.int .i64 r) ∧ Below w.heap.size w w' := by
 have hu26 := Tryz.underlying26
 have HR0 := Aside0.mk hr0
 have HC0 := Aside0.mk hc0
 clear hr0 hc0
 have HR1 := Aside0.mk hr1
 have HC1 := Aside0.mk hc1
 clear hr1 hc1
 have HR2_1 := Aside0.mk hr2_1
 have HC2_1 := Aside0.mk hc2_1
 clear hr2_1 hc2_1
 have HB := Aside0.mk (Below.refl w.heap.size w)
 have H : ((potbankref06_checked.f k l0 l1 ([] : List Int)).bind fun t327 => (if t327 = 0 then ((potbankref06_In.f a2_0 0 8).bind fun t328 => (if t328 = true then (if (l2_1.length : Int) > 256 then (some 2) else (potbankref06_CheckReason.l0 k l0 l1 0 a2_0 l2_1)) else (some 1))) else (some t327))) = some r := h
 clear h
 replace H := Option.bind_eq_some_iff.mp H
 obtain ⟨t327, A40, H⟩ := H
 (try dsimp only at H)
 have A4 := Aside0.mk A40
 clear A40
 by_cases c5 : t327 = 0
 ·rw [if_pos c5] at H
  have c5b0 : (t327 == 0) = true := beq_iff_eq.mpr c5
  have c5b1 : (t327 != 0) = false := bne_eq_false_iff_eq.mpr c5
  clear c5
  replace H := Option.bind_eq_some_iff.mp H
  obtain ⟨t328, A60, H⟩ := H
  (try dsimp only at H)
  have A6 := Aside0.mk A60
  clear A60
  by_cases c7 : t328 = true
  ·subst c7
   rw [if_pos rfl] at H
   by_cases c8 : (l2_1.length : Int) > 256
   ·rw [if_pos c8] at H
    have c8b0 : decide (256 < (l2_1.length : Int)) = true := decide_eq_true c8
    have c8b1 : decide (256 < l2_1.length) = true := decide_eq_true (by omega)
    clear c8
    obtain rfl := Option.some.inj H
    go_enter Tryz.func14, Tryz.ntmps14
    go_wp2_with (first | ((with_reducible refine gate_dst (N := 5) rfl ?_); refine box_event ?hg (N := 5) ?hd (cs := #[.int .i64 a2_0, .slice A2_1 l2_1.length c2_1]) (t := 26) ?hr ?_; (case hd => rfl); (case hg => rfl); (case hr => first | (go_simp; done) | (go_simp; rfl)); intro gb326 hg w9 hbox hb; have n0_ := Aside0.mk (below_step (by repeat (first | exact HB.out | apply below_alloc | apply pw_below_drewN | apply below_drew1)) hb); have n1_ := Aside0.mk (hbox); have n2_ := Aside0.mk ((by rw [hg]; exact (below_size (by repeat (first | exact HB.out | apply below_alloc | apply pw_below_drewN | apply below_drew1))) : w.heap.size ≤ gb326)); have n3_ := Aside0.mk ((by rw [hg]; exact (below_size (by repeat (first | exact HB.out | apply below_alloc | apply pw_below_drewN | apply below_drew1))) : w.heap.size ≤ gb326)); clear HB; have HB := n0_; have BK326 := n1_; have GW326 := n2_; have GE326 := n3_; clear n0_ n1_ n2_ n3_; clear hb hbox hg) | ((with_reducible refine gate_callee (f := 47) rfl ?_); refine goesL_ (some 16) rfl rfl Tryz.func47 (by kernel_rfl) rfl #[.slice A0 l0.length c0, .slice A1 l1.length c1, .slice none 0 0] rfl (by (try simp only [List.map_toArray, List.map_cons, List.map_nil]); first | done | rfl | (simp only [List.length_drop, List.length_take]; rfl)) ?_; (refine (potbankref06_checked.calls k _ _ l0 _ _ l1 _ _ ([] : List Int) t327 _ ?side1 ?side2 ?side3 ?side4 ?side5 ?side6 A4.out).mono ?_); (case side1 => repeat (first | exact (Kd.C_below HR0.out HB.out) | (with_reducible refine Kd.C_alloc ?_ _) | (with_reducible refine Kd.C_drewN ?_ _) | (with_reducible refine Kd.C_drew ?_))); (case side2 => exact HC0.out); (case side3 => repeat (first | exact (Kd.C_below HR1.out HB.out) | (with_reducible refine Kd.C_alloc ?_ _) | (with_reducible refine Kd.C_drewN ?_ _) | (with_reducible refine Kd.C_drew ?_))); (case side4 => exact HC1.out); (case side5 => exact Kd.C_nil _ _); (case side6 => exact Nat.le_refl _); rintro e w10 ⟨rfl, hb⟩; refine ⟨_, rfl, ?_⟩; have n0_ := Aside0.mk (blk_below (g := gb326) (o := .cells #[.int .i64 a2_0, .slice A2_1 l2_1.length c2_1] 26 (0, 0)) (by (with_reducible repeat (first | refine blk_drewN ?_ _ | refine blk_drew ?_ | refine blk_alloc ?_ _)); exact BK326.out) hb); have n1_ := Aside0.mk (below_step (by repeat (first | exact HB.out | apply below_alloc | apply pw_below_drewN | apply below_drew1 | refine below_set ?_ GE326.out)) hb); clear BK326; clear HB; have BK326 := n0_; have HB := n1_; clear n0_ n1_; (try clear hb); (try clear hb2); (try clear hk); (try clear hi); have hcz11_0 : w10.cell? ⟨gb326, 0, none⟩ = some (.int .i64 a2_0) := (blk_cell BK326.out 0).trans rfl; have hcz11_1 : w10.cell? ⟨gb326, 1, none⟩ = some (.slice A2_1 l2_1.length c2_1) := (blk_cell BK326.out 1).trans rfl; have hfz11_0 := blk_frozen BK326.out 0; have hfz11_1 := blk_frozen BK326.out 1) | ((with_reducible refine gate_callee (f := 48) rfl ?_); refine goesL_ (some 22) rfl rfl Tryz.func48 (by kernel_rfl) rfl #[.int .i64 a2_0, .int .i64 0, .int .i64 8] rfl (by (try simp only [List.map_toArray, List.map_cons, List.map_nil]); first | done | rfl | (simp only [List.length_drop, List.length_take]; rfl)) ?_; (with_reducible refine (potbankref06_In.calls a2_0 0 8 true _ A6.out).mono ?_); rintro e w' ⟨rfl, ⟨nd, rfl⟩⟩; refine ⟨_, rfl, ?_⟩))
    go_ret
    exact ⟨by first | rfl | (simp [errW_none, errW_some] <;> rfl) | (simp [*, errW_none, errW_some] <;> rfl), by repeat (first | exact HB.out | apply below_alloc | apply pw_below_drewN | apply below_drew1 | refine below_set ?_ GE326.out)⟩
   ·rw [if_neg c8] at H
    have c8b0 : decide (256 < (l2_1.length : Int)) = false := decide_eq_false c8
    have c8b1 : decide (256 < l2_1.length) = false := decide_eq_false (by omega)
    clear c8
    have H' := Aside0.mk H
    clear H
    go_enter Tryz.func14, Tryz.ntmps14
    go_wp2_with (first | ((with_reducible refine gate_dst (N := 5) rfl ?_); refine box_event ?hg (N := 5) ?hd (cs := #[.int .i64 a2_0, .slice A2_1 l2_1.length c2_1]) (t := 26) ?hr ?_; (case hd => rfl); (case hg => rfl); (case hr => first | (go_simp; done) | (go_simp; rfl)); intro gb326 hg w12 hbox hb; have n0_ := Aside0.mk (below_step (by repeat (first | exact HB.out | apply below_alloc | apply pw_below_drewN | apply below_drew1)) hb); have n1_ := Aside0.mk (hbox); have n2_ := Aside0.mk ((by rw [hg]; exact (below_size (by repeat (first | exact HB.out | apply below_alloc | apply pw_below_drewN | apply below_drew1))) : w.heap.size ≤ gb326)); have n3_ := Aside0.mk ((by rw [hg]; exact (below_size (by repeat (first | exact HB.out | apply below_alloc | apply pw_below_drewN | apply below_drew1))) : w.heap.size ≤ gb326)); clear HB; have HB := n0_; have BK326 := n1_; have GW326 := n2_; have GE326 := n3_; clear n0_ n1_ n2_ n3_; clear hb hbox hg) | ((with_reducible refine gate_callee (f := 47) rfl ?_); refine goesL_ (some 16) rfl rfl Tryz.func47 (by kernel_rfl) rfl #[.slice A0 l0.length c0, .slice A1 l1.length c1, .slice none 0 0] rfl (by (try simp only [List.map_toArray, List.map_cons, List.map_nil]); first | done | rfl | (simp only [List.length_drop, List.length_take]; rfl)) ?_; (refine (potbankref06_checked.calls k _ _ l0 _ _ l1 _ _ ([] : List Int) t327 _ ?side1 ?side2 ?side3 ?side4 ?side5 ?side6 A4.out).mono ?_); (case side1 => repeat (first | exact (Kd.C_below HR0.out HB.out) | (with_reducible refine Kd.C_alloc ?_ _) | (with_reducible refine Kd.C_drewN ?_ _) | (with_reducible refine Kd.C_drew ?_))); (case side2 => exact HC0.out); (case side3 => repeat (first | exact (Kd.C_below HR1.out HB.out) | (with_reducible refine Kd.C_alloc ?_ _) | (with_reducible refine Kd.C_drewN ?_ _) | (with_reducible refine Kd.C_drew ?_))); (case side4 => exact HC1.out); (case side5 => exact Kd.C_nil _ _); (case side6 => exact Nat.le_refl _); rintro e w13 ⟨rfl, hb⟩; refine ⟨_, rfl, ?_⟩; have n0_ := Aside0.mk (blk_below (g := gb326) (o := .cells #[.int .i64 a2_0, .slice A2_1 l2_1.length c2_1] 26 (0, 0)) (by (with_reducible repeat (first | refine blk_drewN ?_ _ | refine blk_drew ?_ | refine blk_alloc ?_ _)); exact BK326.out) hb); have n1_ := Aside0.mk (below_step (by repeat (first | exact HB.out | apply below_alloc | apply pw_below_drewN | apply below_drew1 | refine below_set ?_ GE326.out)) hb); clear BK326; clear HB; have BK326 := n0_; have HB := n1_; clear n0_ n1_; (try clear hb); (try clear hb2); (try clear hk); (try clear hi); have hcz14_0 : w13.cell? ⟨gb326, 0, none⟩ = some (.int .i64 a2_0) := (blk_cell BK326.out 0).trans rfl; have hcz14_1 : w13.cell? ⟨gb326, 1, none⟩ = some (.slice A2_1 l2_1.length c2_1) := (blk_cell BK326.out 1).trans rfl; have hfz14_0 := blk_frozen BK326.out 0; have hfz14_1 := blk_frozen BK326.out 1) | ((with_reducible refine gate_callee (f := 48) rfl ?_); refine goesL_ (some 22) rfl rfl Tryz.func48 (by kernel_rfl) rfl #[.int .i64 a2_0, .int .i64 0, .int .i64 8] rfl (by (try simp only [List.map_toArray, List.map_cons, List.map_nil]); first | done | rfl | (simp only [List.length_drop, List.length_take]; rfl)) ?_; (with_reducible refine (potbankref06_In.calls a2_0 0 8 true _ A6.out).mono ?_); rintro e w' ⟨rfl, ⟨nd, rfl⟩⟩; refine ⟨_, rfl, ?_⟩))
    go_loopg [8] k (fun kq v8 w' => ∃ (x8_1 : Int), v8 = .int .i64 x8_1 ∧ Aside0 (potbankref06_CheckReason.l0 kq l0 l1 x8_1 a2_0 l2_1 = some r) ∧ Aside0 (kq ≤ k) ∧ Aside0 (w'.heap[gb326]? = some (.cells #[.int .i64 a2_0, (.slice A2_1 l2_1.length c2_1)] 26 (0, 0))) ∧ Aside0 (Below w.heap.size w w'))
    case atStart => exact ⟨(0), (by first | rfl | (simp; done) | (simp [*]; done)), H', ⟨Nat.le_refl _⟩, ⟨by (with_reducible repeat (first | refine blk_drewN ?_ _ | refine blk_drew ?_ | refine blk_alloc ?_ _)); exact BK326.out⟩, ⟨by repeat (first | exact HB.out | apply below_alloc | apply pw_below_drewN | apply below_drew1 | refine below_set ?_ GE326.out)⟩⟩
    case round =>
     clear H'
     try clear c1
     try clear c2
     try clear p2
     try clear c4
     try clear c5
     try clear c5b0
     try clear c5b1
     try clear c7
     try clear c8
     try clear c8b0
     try clear c8b1
     try clear c14
     try clear hcz11_0
     try clear hcz11_1
     try clear hcz14_0
     try clear hcz14_1
     try clear hfz11_0
     try clear hfz11_1
     try clear hfz14_0
     try clear hfz14_1
     obtain ⟨x8_1, rfl, HA, HK1, BK326, HB⟩ := hrel
     cases gk with
     | zero => exact absurd HA.out (by simp [potbankref06_CheckReason.l0])
     | succ k1 =>
      have H := HA.out
      clear HA
      simp only [potbankref06_CheckReason.l0] at H
      by_cases c15 : x8_1 < (l2_1.length : Int)
      ·rw [if_pos c15] at H
       have c15b0 : decide (x8_1 < (l2_1.length : Int)) = true := decide_eq_true c15
       clear c15
       by_cases c16 : 0 ≤ x8_1
       ·rw [if_pos c16] at H
        have c16b0 : decide (0 ≤ x8_1) = true := decide_eq_true c16
        clear c16
        replace H := Option.bind_eq_some_iff.mp H
        obtain ⟨t330, A170, H⟩ := H
        (try dsimp only at H)
        have A17 := Aside0.mk A170
        clear A170
        by_cases c18 : t330 = true
        ·subst c18
         rw [if_pos rfl] at H
         have H' := Aside0.mk H
         clear H
         have hcz19_0 : wr.cell? ⟨gb326, 0, none⟩ = some (.int .i64 a2_0) := (blk_cell BK326.out 0).trans rfl
         have hcz19_1 : wr.cell? ⟨gb326, 1, none⟩ = some (.slice A2_1 l2_1.length c2_1) := (blk_cell BK326.out 1).trans rfl
         have hfz19_0 := blk_frozen BK326.out 0
         have hfz19_1 := blk_frozen BK326.out 1
         have p329 : 0 ≤ (x8_1 : Int) := of_decide_eq_true (by first | (with_reducible assumption) | assumption)
         have q329 : x8_1 < (l2_1.length : Int) := of_decide_eq_true (by first | (with_reducible assumption) | assumption)
         obtain ⟨ad329, A329_0, c329_0, e329, hx329_0, hl329_0, hi329_0⟩ := at_L5 HR2_1.out x8_1 p329 q329
         cases e329
         replace hx329_0 := (HB.out.cell (World.block_lt_of_cell? w _ hx329_0)).trans hx329_0
         have HR329_0 := Aside0.mk hi329_0
         have HC329_0 := Aside0.mk hl329_0
         clear hi329_0 hl329_0
         replace p329 := eq_true p329
         replace q329 := eq_true q329
         go_wp2_with (first | ((with_reducible refine gate_callee (f := 56) rfl ?_); refine goesL_ (some 41) rfl rfl Tryz.func56 (by kernel_rfl) rfl #[.slice A1 l1.length c1, .slice A329_0 (rd_L5 l2_1 x8_1).length c329_0] rfl (by (try simp only [List.map_toArray, List.map_cons, List.map_nil]); first | done | rfl | (simp only [List.length_drop, List.length_take]; rfl)) ?_; (with_reducible refine (potbankref06_IsSet.calls _ _ l1 _ _ (rd_L5 l2_1 x8_1) true _ ?side1 ?side2 ?side3 ?side4 A17.out).mono ?_); (case side1 => repeat (first | exact (Kd.C_below HR1.out HB.out) | (with_reducible refine Kd.C_alloc ?_ _) | (with_reducible refine Kd.C_drewN ?_ _) | (with_reducible refine Kd.C_drew ?_))); (case side2 => exact HC1.out); (case side3 => repeat (first | exact (Kd.C_below HR329_0.out HB.out) | (with_reducible refine Kd.C_alloc ?_ _) | (with_reducible refine Kd.C_drewN ?_ _) | (with_reducible refine Kd.C_drew ?_))); (case side4 => exact HC329_0.out); rintro e w20 ⟨rfl, hb⟩; refine ⟨_, rfl, ?_⟩; have n0_ := Aside0.mk (blk_below (g := gb326) (o := .cells #[.int .i64 a2_0, .slice (some ad329) l2_1.length c2_1] 26 (0, 0)) (by (with_reducible repeat (first | refine blk_drewN ?_ _ | refine blk_drew ?_ | refine blk_alloc ?_ _)); exact BK326.out) hb); have n1_ := Aside0.mk (below_step (by repeat (first | exact HB.out | apply below_alloc | apply pw_below_drewN | apply below_drew1 | refine below_set ?_ GE326.out)) hb); clear BK326; clear HB; have BK326 := n0_; have HB := n1_; clear n0_ n1_; (try clear hb); (try clear hb2); (try clear hk); (try clear hi)))
         go_roundg k1
         case measure => have := HK1.out; omega
         case rel => exact ⟨(wrap64 (x8_1 + 1)), (by first | rfl | (simp; done) | (simp [*]; done)), H', ⟨by have := HK1.out; omega⟩, ⟨by (with_reducible repeat (first | refine blk_drewN ?_ _ | refine blk_drew ?_ | refine blk_alloc ?_ _)); exact BK326.out⟩, ⟨by repeat (first | exact HB.out | apply below_alloc | apply pw_below_drewN | apply below_drew1 | refine below_set ?_ GE326.out)⟩⟩
        ·replace c18 := Bool.eq_false_iff.mpr c18
         subst c18
         rw [if_neg (show ¬ (false = true) by decide)] at H
         obtain rfl := Option.some.inj H
         have hcz21_0 : wr.cell? ⟨gb326, 0, none⟩ = some (.int .i64 a2_0) := (blk_cell BK326.out 0).trans rfl
         have hcz21_1 : wr.cell? ⟨gb326, 1, none⟩ = some (.slice A2_1 l2_1.length c2_1) := (blk_cell BK326.out 1).trans rfl
         have hfz21_0 := blk_frozen BK326.out 0
         have hfz21_1 := blk_frozen BK326.out 1
         have p329 : 0 ≤ (x8_1 : Int) := of_decide_eq_true (by first | (with_reducible assumption) | assumption)
         have q329 : x8_1 < (l2_1.length : Int) := of_decide_eq_true (by first | (with_reducible assumption) | assumption)
         obtain ⟨ad329, A329_0, c329_0, e329, hx329_0, hl329_0, hi329_0⟩ := at_L5 HR2_1.out x8_1 p329 q329
         cases e329
         replace hx329_0 := (HB.out.cell (World.block_lt_of_cell? w _ hx329_0)).trans hx329_0
         have HR329_0 := Aside0.mk hi329_0
         have HC329_0 := Aside0.mk hl329_0
         clear hi329_0 hl329_0
         replace p329 := eq_true p329
         replace q329 := eq_true q329
         go_wp2_with (first | ((with_reducible refine gate_callee (f := 56) rfl ?_); refine goesL_ (some 41) rfl rfl Tryz.func56 (by kernel_rfl) rfl #[.slice A1 l1.length c1, .slice A329_0 (rd_L5 l2_1 x8_1).length c329_0] rfl (by (try simp only [List.map_toArray, List.map_cons, List.map_nil]); first | done | rfl | (simp only [List.length_drop, List.length_take]; rfl)) ?_; (with_reducible refine (potbankref06_IsSet.calls _ _ l1 _ _ (rd_L5 l2_1 x8_1) false _ ?side1 ?side2 ?side3 ?side4 A17.out).mono ?_); (case side1 => repeat (first | exact (Kd.C_below HR1.out HB.out) | (with_reducible refine Kd.C_alloc ?_ _) | (with_reducible refine Kd.C_drewN ?_ _) | (with_reducible refine Kd.C_drew ?_))); (case side2 => exact HC1.out); (case side3 => repeat (first | exact (Kd.C_below HR329_0.out HB.out) | (with_reducible refine Kd.C_alloc ?_ _) | (with_reducible refine Kd.C_drewN ?_ _) | (with_reducible refine Kd.C_drew ?_))); (case side4 => exact HC329_0.out); rintro e w22 ⟨rfl, hb⟩; refine ⟨_, rfl, ?_⟩; have n0_ := Aside0.mk (blk_below (g := gb326) (o := .cells #[.int .i64 a2_0, .slice (some ad329) l2_1.length c2_1] 26 (0, 0)) (by (with_reducible repeat (first | refine blk_drewN ?_ _ | refine blk_drew ?_ | refine blk_alloc ?_ _)); exact BK326.out) hb); have n1_ := Aside0.mk (below_step (by repeat (first | exact HB.out | apply below_alloc | apply pw_below_drewN | apply below_drew1 | refine below_set ?_ GE326.out)) hb); clear BK326; clear HB; have BK326 := n0_; have HB := n1_; clear n0_ n1_; (try clear hb); (try clear hb2); (try clear hk); (try clear hi)))
         go_ret
         exact ⟨by first | rfl | (simp [errW_none, errW_some] <;> rfl) | (simp [*, errW_none, errW_some] <;> rfl), by repeat (first | exact HB.out | apply below_alloc | apply pw_below_drewN | apply below_drew1 | refine below_set ?_ GE326.out)⟩
       ·rw [if_neg c16] at H
        exact absurd H (by simp)
      ·rw [if_neg c15] at H
       have c15b0 : decide (x8_1 < (l2_1.length : Int)) = false := decide_eq_false c15
       clear c15
       obtain ⟨ji23, hji23⟩ : ∃ j_ : Int, (shl .i64 1 (l1.length : Int)) = j_ := ⟨_, rfl⟩
       replace H : (if 0 ≤ (ji23) then (if (ji23 : Int).toNat ≤ 281474976710656 then (potbankref06_CheckReason.l1 k1 l0 l1 (List.replicate (ji23 : Int).toNat false) 0 a2_0 l2_1) else (none)) else (none)) = some r := by first | (rw [hji23] at H; exact H) | (simp only [hji23] at H ⊢; exact H)
       have hji23_ : (IntKind.i64.wrap (1 * 2 ^ min (l1.length : Int).toNat 64)) = ji23 := hji23
       have hji23z : (l1.length : Int) ≤ 64 → (IntKind.i64.wrap (1 * 2 ^ (l1.length : Int).toNat)) = ji23 := shl_small hji23
       have hji23p : (IntKind.i64.wrap (1 * 2 ^ min l1.length 64)) = ji23 := hji23_
       have hji23q : (l1.length : Int) ≤ 64 → (IntKind.i64.wrap (1 * 2 ^ l1.length)) = ji23 := hji23z
       have hji23r : (IntKind.i64.wrap (2 ^ min l1.length 64)) = ji23 := by have h_ := hji23p; rw [Int.one_mul] at h_; exact h_
       have hji23s : (l1.length : Int) ≤ 64 → (IntKind.i64.wrap (2 ^ l1.length)) = ji23 := fun hle_ => by have h_ := hji23q hle_; rw [Int.one_mul] at h_; exact h_
       have hji23u : (IntKind.i64.wrap (2 ^ min (l1.length : Int).toNat 64)) = ji23 := by have h_ := hji23_; rw [Int.one_mul] at h_; exact h_
       have hji23v : (l1.length : Int) ≤ 64 → (IntKind.i64.wrap (2 ^ (l1.length : Int).toNat)) = ji23 := fun hle_ => by have h_ := hji23z hle_; rw [Int.one_mul] at h_; exact h_
       have hji23y : (wrap64 (1 * 2 ^ min (l1.length : Int).toNat 64)) = ji23 := (i64_w _).symm.trans hji23_
       have hji23x : (l1.length : Int) ≤ 64 → (wrap64 (1 * 2 ^ (l1.length : Int).toNat)) = ji23 := fun h_ => (i64_w _).symm.trans (hji23z h_)
       by_cases c24 : 0 ≤ (ji23)
       ·rw [if_pos c24] at H
        have c24b0 := eq_true c24
        have c24b1 : decide (0 ≤ (ji23)) = true := decide_eq_true c24
        clear c24
        by_cases c25 : (ji23 : Int).toNat ≤ 281474976710656
        ·rw [if_pos c25] at H
         have c25b0 := eq_true c25
         have c25b1 : decide ((ji23 : Int).toNat ≤ 281474976710656) = true := decide_eq_true c25
         clear c25
         obtain ⟨y331, hy331⟩ : ∃ y_ : List Bool, y_ = (List.replicate (ji23 : Int).toNat false) := ⟨_, rfl⟩
         replace H : (potbankref06_CheckReason.l1 k1 l0 l1 y331 0 a2_0 l2_1) = some r := by first | (rw [hy331]; with_reducible exact H) | (have H2_ := (Option.bind_some _ _).symm.trans H; rw [hy331]; with_reducible exact H2_) | (have H2_ := (Option.bind_some _ _).symm.trans H; with_reducible exact H2_) | with_reducible exact H | (rw [hy331]; exact H) | exact H
         have Ny331 := Aside0.mk hy331
         clear hy331
         have H' := Aside0.mk H
         clear H
         have hcz26_0 : wr.cell? ⟨gb326, 0, none⟩ = some (.int .i64 a2_0) := (blk_cell BK326.out 0).trans rfl
         have hcz26_1 : wr.cell? ⟨gb326, 1, none⟩ = some (.slice A2_1 l2_1.length c2_1) := (blk_cell BK326.out 1).trans rfl
         have hfz26_0 := blk_frozen BK326.out 0
         have hfz26_1 := blk_frozen BK326.out 1
         go_wp2_with (first | ((with_reducible refine gate_dst (N := 46) rfl ?_); refine Kd.R_make Kd.bool _ 4 rfl (N := 46) rfl 100 _ _ rfl ji23 rfl rfl Tryz.underlying100 (.bool false) 1 info4 rfl (by decide) (by omega) false (ok := fun _ => True) (okp := fun _ => True) rfl (fun _ hk => hk) trivial (of_decide_eq_true (by first | (with_reducible assumption) | assumption)) (Nat.le_trans (Nat.mul_le_mul_right _ (of_decide_eq_true (by first | (with_reducible assumption) | assumption) : ji23.toNat ≤ 281474976710656)) (by omega)) (Below.refl _ _) (Nat.le_refl _) ?_; intro v332 w27 ho28 hb hg_ hnew_; clear hg_ hnew_; (first | rw [← Ny331.out] at ho28 | (simp only [Int.reduceToNat] at ho28; rw [← Ny331.out] at ho28)); have n0_ := Aside0.mk (Kd.R_lower ho28 (below_size (by repeat (first | exact HB.out | apply below_alloc | apply pw_below_drewN | apply below_drew1 | refine below_set ?_ GE326.out)))); have n1_ := Aside0.mk (blk_below (g := gb326) (o := .cells #[.int .i64 a2_0, .slice A2_1 l2_1.length c2_1] 26 (0, 0)) (by (with_reducible repeat (first | refine blk_drewN ?_ _ | refine blk_drew ?_ | refine blk_alloc ?_ _)); exact BK326.out) hb); have n2_ := Aside0.mk (below_step (by repeat (first | exact HB.out | apply below_alloc | apply pw_below_drewN | apply below_drew1 | refine below_set ?_ GE326.out)) hb); clear BK326; clear HB; have HO333 := n0_; have BK326 := n1_; have HB := n2_; clear n0_ n1_ n2_; clear hb ho28))
         go_loopg [10] k1 (fun kq v10 w' => ∃ (x9_2 : List Bool) (x10_2 : Int), v10 = .int .i64 x10_2 ∧ Aside0 (potbankref06_CheckReason.l1 kq l0 l1 x9_2 x10_2 a2_0 l2_1 = some r) ∧ Aside0 (kq ≤ k1) ∧ Aside0 (Kd.R Kd.bool 4 w' w.heap.size (fun _ => True) v332 x9_2) ∧ Aside0 (w'.heap[gb326]? = some (.cells #[.int .i64 a2_0, (.slice A2_1 l2_1.length c2_1)] 26 (0, 0))) ∧ Aside0 (Below w.heap.size w w'))
         case atStart => exact ⟨(y331), (0), (by first | rfl | (simp; done) | (simp [*]; done)), H', ⟨Nat.le_refl _⟩, ⟨by (with_reducible repeat (first | apply Kd.R_alloc | apply Kd.R_drewN | apply Kd.R_drew)); exact HO333.out⟩, ⟨by (with_reducible repeat (first | refine blk_drewN ?_ _ | refine blk_drew ?_ | refine blk_alloc ?_ _)); exact BK326.out⟩, ⟨by repeat (first | exact HB.out | apply below_alloc | apply pw_below_drewN | apply below_drew1 | refine below_set ?_ GE326.out)⟩⟩
         case round =>
          clear H'
          try clear c1
          try clear c2
          try clear p2
          try clear c3
          try clear p3
          try clear q3
          try clear hx3
          try clear c4
          try clear c5
          try clear c5b0
          try clear c5b1
          try clear p6
          try clear c7
          try clear c8
          try clear c8b0
          try clear c8b1
          try clear c14
          try clear c15
          try clear c15b0
          try clear c16
          try clear c16b0
          try clear c18
          try clear c24
          try clear c24b0
          try clear c24b1
          try clear c25
          try clear c25b0
          try clear c25b1
          try clear hcz11_0
          try clear hcz11_1
          try clear hcz14_0
          try clear hcz14_1
          try clear hcz19_0
          try clear hcz19_1
          try clear hcz21_0
          try clear hcz21_1
          try clear hcz26_0
          try clear hcz26_1
          try clear hfz11_0
          try clear hfz11_1
          try clear hfz14_0
          try clear hfz14_1
          try clear hfz19_0
          try clear hfz19_1
          try clear hfz21_0
          try clear hfz21_1
          try clear hfz26_0
          try clear hfz26_1
          try clear hx329_0
          try clear p2
          try clear p329
          try clear q329
          obtain ⟨x9_2, x10_2, rfl, HA, HK2, HO_9, BK326, HB⟩ := hrel
          cases gk with
          | zero => exact absurd HA.out (by simp [potbankref06_CheckReason.l1])
          | succ k2 =>
           have H := HA.out
           clear HA
           simp only [potbankref06_CheckReason.l1] at H
           by_cases c29 : x10_2 < (x9_2.length : Int)
           ·rw [if_pos c29] at H
            have c29b0 : decide (x10_2 < (x9_2.length : Int)) = true := decide_eq_true c29
            clear c29
            replace H := Option.bind_eq_some_iff.mp H
            obtain ⟨t334, A300, H⟩ := H
            (try dsimp only at H)
            have A30 := Aside0.mk A300
            clear A300
            replace H := Option.bind_eq_some_iff.mp H
            obtain ⟨t337, A310, H⟩ := H
            (try dsimp only at H)
            have A31 := Aside0.mk A310
            clear A310
            replace H := Option.bind_eq_some_iff.mp H
            obtain ⟨t340, A320, H⟩ := H
            (try dsimp only at H)
            have A32 := Aside0.mk A320
            clear A320
            by_cases c33 : 0 ≤ x10_2
            ·rw [if_pos c33] at H
             have c33b0 : decide (0 ≤ x10_2) = true := decide_eq_true c33
             clear c33
             obtain ⟨y341, hy341⟩ : ∃ y_ : List Bool, y_ = (x9_2.set (x10_2 : Int).toNat (!t340)) := ⟨_, rfl⟩
             replace H : (potbankref06_CheckReason.l1 k2 l0 l1 y341 (wrap64 (x10_2 + 1)) a2_0 l2_1) = some r := by first | (rw [hy341]; with_reducible exact H) | (have H2_ := (Option.bind_some _ _).symm.trans H; rw [hy341]; with_reducible exact H2_) | (have H2_ := (Option.bind_some _ _).symm.trans H; with_reducible exact H2_) | with_reducible exact H | (rw [hy341]; exact H) | exact H
             have Ny341 := Aside0.mk hy341
             clear hy341
             have H' := Aside0.mk H
             clear H
             obtain ⟨Ao35, co35, eo35⟩ := Kd.R_slice HO_9.out
             subst eo35
             try go_wp2
             have n0_ := Aside0.mk (Kd.R_drew HO_9.out)
             have n1_ := Aside0.mk (blk_drew BK326.out)
             have n2_ := Aside0.mk (below_drew1 HB.out)
             clear HO_9
             clear BK326
             clear HB
             have HO_9 := n0_
             have BK326 := n1_
             have HB := n2_
             clear n0_ n1_ n2_
             refine start_ (n := 13) (S := fun w' => w'.cell? ⟨gb326, 0, none⟩ = some (.int .i64 a2_0) ∧ w'.cell? ⟨gb326, 1, none⟩ = some (.slice A2_1 l2_1.length c2_1)) (ds := [12]) #[false, false, false, false, false, false, false, false, false, false, false, false, false] (by kernel_rfl) rfl rfl ⟨(blk_cell BK326.out 0).trans rfl, (blk_cell BK326.out 1).trans rfl⟩ (fun hHeld => ?_); refine with_tabW potbankref06_CheckReason.tab17 potbankref06_CheckReason.bits17 (fun HT_ HW_ => ?_)
             generalize wr.drew = w36 at HO_9 BK326 HB hHeld ⊢
             refine pure_ (i := 0) (N := some 53) (v := ?_) (a' := ?_) #[true, false, false, false, false, false, false, false, false, false, false, false, false] rfl rfl (any_of HT_.out (by kernel_rfl)) (fun _ _ _ h => h) (Or.inl ⟨by rfl, ?_⟩) ?_ ?_
             rotate_left
             ·intro w'
              go_simp
              with_reducible rfl
             rotate_left
             ·simp only [Act.put, List.setIfInBounds_toArray, List.set_cons_zero, List.set_cons_succ, i64_w, i32_w]
              rfl
             refine pure_ (i := 1) (N := some 54) (v := ?_) (a' := ?_) #[true, true, false, false, false, false, false, false, false, false, false, false, false] rfl rfl (any_of HT_.out (by kernel_rfl)) (fun _ _ _ h => h) (Or.inl ⟨by rfl, ?_⟩) ?_ ?_
             rotate_left
             ·intro w'
              go_simp
              with_reducible rfl
             rotate_left
             ·simp only [Act.put, List.setIfInBounds_toArray, List.set_cons_zero, List.set_cons_succ, i64_w, i32_w]
              rfl
             refine pure_ (i := 2) (N := some 55) (v := ?_) (a' := ?_) #[true, true, true, false, false, false, false, false, false, false, false, false, false] rfl rfl (any_of HT_.out (by kernel_rfl)) (fun _ _ _ h => h) (Or.inl ⟨by rfl, ?_⟩) ?_ ?_
             rotate_left
             ·intro w'
              go_simp
              with_reducible rfl
             rotate_left
             ·simp only [Act.put, List.setIfInBounds_toArray, List.set_cons_zero, List.set_cons_succ, i64_w, i32_w]
              rfl
             refine pure_ (i := 3) (N := some 56) (v := ?_) (a' := ?_) #[true, true, true, true, false, false, false, false, false, false, false, false, false] rfl rfl (any_of HT_.out (by kernel_rfl)) (fun _ _ _ h => h) (Or.inl ⟨by rfl, ?_⟩) ?_ ?_
             rotate_left
             ·intro w'
              go_simp
              with_reducible rfl
             rotate_left
             ·simp only [Act.put, List.setIfInBounds_toArray, List.set_cons_zero, List.set_cons_succ, i64_w, i32_w]
              rfl
             refine pure_ (i := 4) (N := some 57) (v := ?_) (a' := ?_) #[true, true, true, true, true, false, false, false, false, false, false, false, false] rfl rfl (any_of HT_.out (by kernel_rfl)) (fun _ _ _ h => h) (Or.inl ⟨by rfl, ?_⟩) ?_ ?_
             rotate_left
             ·intro w'
              go_simp
              with_reducible rfl
             rotate_left
             ·simp only [Act.put, List.setIfInBounds_toArray, List.set_cons_zero, List.set_cons_succ, i64_w, i32_w]
              rfl
             refine pure_ (i := 7) (N := some 60) (v := ?_) (a' := ?_) #[true, true, true, true, true, false, false, true, false, false, false, false, false] rfl rfl (any_of HT_.out (by kernel_rfl)) (fun _ _ _ h => h) (Or.inl ⟨by rfl, ?_⟩) ?_ ?_
             rotate_left
             ·intro w'
              go_simp
              with_reducible rfl
             rotate_left
             ·simp only [Act.put, List.setIfInBounds_toArray, List.set_cons_zero, List.set_cons_succ, i64_w, i32_w]
              rfl
             refine take_ (i := 8) (N := some 61) (v := ?_) (a' := ?_) #[true, true, true, true, true, false, false, true, true, false, false, false, false] rfl rfl (take_ofW HT_.out HW_.out (by kernel_rfl)) (fun _ _ _ h => h) (Or.inl ⟨by rfl, ?_⟩) hHeld ?_ ?_
             rotate_left
             ·rintro w' ⟨s0, s1⟩
              go_simp
              with_reducible rfl
             rotate_left
             ·simp only [Act.put, List.setIfInBounds_toArray, List.set_cons_zero, List.set_cons_succ, i64_w, i32_w]
              rfl
             refine one_ (i := 5) (N := some 58) #[true, true, true, true, true, true, false, true, true, false, false, false, false] rfl rfl (one_of HT_.out (by kernel_rfl)) (by decide) (fun K hK => ?_)
             refine goes_ Tryz.func59 (by kernel_rfl) rfl #[.int .i64 (l1.length : Int)] (by rfl) rfl rfl (by (try simp only [List.map_toArray, List.map_cons, List.map_nil]); first | done | rfl | (simp only [List.length_drop, List.length_take]; rfl)) ?_
             with_reducible refine (potbankref06_indices.calls k2 (l1.length : Int) t334 _ A30.out).mono ?_
             rintro e w37 ⟨v335, rfl, ho0, hb⟩
             refine ⟨_, rfl, ?_⟩
             have n0_ := Aside0.mk (Kd.R_below (by (with_reducible repeat (first | apply Kd.R_alloc | apply Kd.R_drewN | apply Kd.R_drew)); exact HO_9.out) hb)
             have n1_ := Aside0.mk (Kd.R_lower ho0 (below_size (by repeat (first | exact HB.out | apply below_alloc | apply pw_below_drewN | apply below_drew1 | refine below_set ?_ GE326.out))))
             have n2_ := Aside0.mk (blk_below (g := gb326) (o := .cells #[.int .i64 a2_0, .slice A2_1 l2_1.length c2_1] 26 (0, 0)) (by (with_reducible repeat (first | refine blk_drewN ?_ _ | refine blk_drew ?_ | refine blk_alloc ?_ _)); exact BK326.out) hb)
             have n3_ := Aside0.mk (below_step (by repeat (first | exact HB.out | apply below_alloc | apply pw_below_drewN | apply below_drew1 | refine below_set ?_ GE326.out)) hb)
             clear HO_9
             clear BK326
             clear HB
             have HO_9 := n0_
             have HO336 := n1_
             have BK326 := n2_
             have HB := n3_
             clear n0_ n1_ n2_ n3_
             (try clear hb)
             (try clear hb2)
             (try clear hk)
             (try clear hi)
             (try clear ho0)
             obtain ⟨Ao38, co38, eo38⟩ := Kd.R_slice HO336.out
             (first | subst eo38 | (injection eo38 with f1_ f2_ f3_; have f4_ := f1_.symm; have f5_ := f3_.symm; clear f1_ f2_ f3_; subst f4_; subst f5_))
             refine hK.out _ _ ⟨(blk_cell BK326.out 0).trans rfl, (blk_cell BK326.out 1).trans rfl⟩ (fun hHeld => ?_)
             clear hK K
             refine norm_ (a' := ?_) ?_ ?_
             rotate_left
             ·show Act.put _ (some 58) _ = _
              simp only [Act.put, List.setIfInBounds_toArray, List.set_cons_zero, List.set_cons_succ, i64_w, i32_w]
              rfl
             refine one_ (i := 6) (N := some 59) #[true, true, true, true, true, true, true, true, true, false, false, false, false] rfl rfl (one_of HT_.out (by kernel_rfl)) (by decide) (fun K hK => ?_)
             refine goes_ Tryz.func58 (by kernel_rfl) rfl #[.int .i64 x10_2, .slice Ao38 t334.length co38] (by rfl) rfl rfl (by (try simp only [List.map_toArray, List.map_cons, List.map_nil]); first | done | rfl | (simp only [List.length_drop, List.length_take]; rfl)) ?_
             with_reducible refine (potbankref06_Chosen.calls k2 x10_2 _ _ t334 t337 _ ?side1 ?side2 A31.out).mono ?_
             (case side1 => repeat (first | exact (Kd.R_reads' HO336.out).2.2 | (with_reducible refine Kd.C_alloc ?_ _) | (with_reducible refine Kd.C_drewN ?_ _) | (with_reducible refine Kd.C_drew ?_)))
             (case side2 => exact (Kd.R_reads' HO336.out).2.1)
             rintro e w39 ⟨v338, rfl, ho0, hb⟩
             refine ⟨_, rfl, ?_⟩
             have n0_ := Aside0.mk (Kd.R_below (by (with_reducible repeat (first | apply Kd.R_alloc | apply Kd.R_drewN | apply Kd.R_drew)); exact HO_9.out) hb)
             have n1_ := Aside0.mk (Kd.R_elder' (by (with_reducible repeat (first | apply Kd.R_alloc | apply Kd.R_drewN | apply Kd.R_drew)); exact HO336.out) (Kd.R_base ho0) hb)
             have n2_ := Aside0.mk (Kd.R_lower (Kd.R_new' ho0 (Kd.R_lt (by (with_reducible repeat (first | apply Kd.R_alloc | apply Kd.R_drewN | apply Kd.R_drew)); exact HO336.out))) (below_size (by repeat (first | exact HB.out | apply below_alloc | apply pw_below_drewN | apply below_drew1 | refine below_set ?_ GE326.out))))
             have n3_ := Aside0.mk (blk_below (g := gb326) (o := .cells #[.int .i64 a2_0, .slice A2_1 l2_1.length c2_1] 26 (0, 0)) (by (with_reducible repeat (first | refine blk_drewN ?_ _ | refine blk_drew ?_ | refine blk_alloc ?_ _)); exact BK326.out) hb)
             have n4_ := Aside0.mk (below_step (by repeat (first | exact HB.out | apply below_alloc | apply pw_below_drewN | apply below_drew1 | refine below_set ?_ GE326.out)) hb)
             clear HO_9
             clear HO336
             clear BK326
             clear HB
             have HO_9 := n0_
             have HO336 := n1_
             have HO339 := n2_
             have BK326 := n3_
             have HB := n4_
             clear n0_ n1_ n2_ n3_ n4_
             (try clear hb)
             (try clear hb2)
             (try clear hk)
             (try clear hi)
             (try clear ho0)
             obtain ⟨Ao40, co40, eo40⟩ := Kd.R_slice HO339.out
             (first | subst eo40 | (injection eo40 with f1_ f2_ f3_; have f4_ := f1_.symm; have f5_ := f3_.symm; clear f1_ f2_ f3_; subst f4_; subst f5_))
             refine hK.out _ _ ⟨(blk_cell BK326.out 0).trans rfl, (blk_cell BK326.out 1).trans rfl⟩ (fun hHeld => ?_)
             clear hK K
             refine norm_ (a' := ?_) ?_ ?_
             rotate_left
             ·show Act.put _ (some 59) _ = _
              simp only [Act.put, List.setIfInBounds_toArray, List.set_cons_zero, List.set_cons_succ, i64_w, i32_w]
              rfl
             refine one_ (i := 9) (N := some 62) #[true, true, true, true, true, true, true, true, true, true, false, false, false] rfl rfl (one_of HT_.out (by kernel_rfl)) (by decide) (fun K hK => ?_)
             refine goes_ Tryz.func57 (by kernel_rfl) rfl #[.slice Ao40 t337.length co40, .slice A2_1 l2_1.length c2_1] (by rfl) rfl rfl (by (try simp only [List.map_toArray, List.map_cons, List.map_nil]); first | done | rfl | (simp only [List.length_drop, List.length_take]; rfl)) ?_
             with_reducible refine (potbankref06_hit.calls k2 _ _ t337 _ _ l2_1 t340 _ ?side1 ?side2 ?side3 ?side4 A32.out).mono ?_
             (case side1 => repeat (first | exact (Kd.R_reads' HO339.out).2.2 | (with_reducible refine Kd.C_alloc ?_ _) | (with_reducible refine Kd.C_drewN ?_ _) | (with_reducible refine Kd.C_drew ?_)))
             (case side2 => exact (Kd.R_reads' HO339.out).2.1)
             (case side3 => repeat (first | exact (Kd.C_below HR2_1.out HB.out) | (with_reducible refine Kd.C_alloc ?_ _) | (with_reducible refine Kd.C_drewN ?_ _) | (with_reducible refine Kd.C_drew ?_)))
             (case side4 => exact HC2_1.out)
             rintro e w' ⟨rfl, ⟨nd, rfl⟩⟩
             refine ⟨_, rfl, ?_⟩
             have p34 : 0 ≤ (x10_2 : Int) := of_decide_eq_true (by first | (with_reducible assumption) | assumption)
             have q34 : (x10_2 : Int) < ((x9_2.length : Int) : Int) := of_decide_eq_true (by first | (with_reducible assumption) | assumption)
             obtain ⟨go34, co34, eo34, gb34, gl34, cl34, HG34⟩ := Kd.R_form HO_9.out (by omega)
             (first | cases eo34 | (injection eo34 with ea_ en_ ec_; (first | subst ea_ | (injection ea_ with ea_; subst ea_)); subst ec_; clear en_))
             have GB34 := Aside0.mk gb34
             have GG34 := Aside0.mk HG34
             clear gb34 gl34 HG34
             obtain ⟨hx34_0, hf34_0⟩ := Kd.R_celln false HO_9.out (x10_2 : Int) p34 q34
             replace p34 := eq_true p34
             replace q34 := eq_true q34
             have HP41 := Kd.R_putn HO_9.out (x10_2 : Int) (!t340)
             rw [← Ny341.out] at HP41
             have HQ41 := Aside0.mk HP41
             clear HP41
             refine hK.out _ _ ⟨(blk_cell BK326.out 0).trans rfl, (blk_cell BK326.out 1).trans rfl⟩ (fun hHeld => ?_)
             clear hK K
             refine norm_ (a' := ?_) ?_ ?_
             rotate_left
             ·show Act.put _ (some 62) _ = _
              simp only [Act.put, List.setIfInBounds_toArray, List.set_cons_zero, List.set_cons_succ, i64_w, i32_w]
              rfl
             refine pure_ (i := 10) (N := some 63) (v := ?_) (a' := ?_) #[true, true, true, true, true, true, true, true, true, true, true, false, false] rfl rfl (any_of HT_.out (by kernel_rfl)) (fun _ _ _ h => h) (Or.inl ⟨by rfl, ?_⟩) ?_ ?_
             rotate_left
             ·intro w'
              go_simp
              with_reducible rfl
             rotate_left
             ·simp only [Act.put, List.setIfInBounds_toArray, List.set_cons_zero, List.set_cons_succ, i64_w, i32_w]
              rfl
             refine pure_ (i := 11) (N := some 64) (v := ?_) (a' := ?_) #[true, true, true, true, true, true, true, true, true, true, true, true, false] rfl rfl (any_of HT_.out (by kernel_rfl)) (fun _ _ _ h => h) (Or.inl ⟨by rfl, ?_⟩) ?_ ?_
             rotate_left
             ·intro w'
              go_simp
              with_reducible rfl
             rotate_left
             ·simp only [Act.put, List.setIfInBounds_toArray, List.set_cons_zero, List.set_cons_succ, i64_w, i32_w]
              rfl
             refine last_ (i := 12) (N := none) #[true, true, true, true, true, true, true, true, true, true, true, true, true] rfl rfl (one_of HT_.out (by kernel_rfl)) (by decide) (fun K hK => ?_)
             refine skip_ (w1 := ?_) (by rfl) rfl ?_ ?_
             rotate_left
             ·go_simp
              rfl
             refine hK.out _ _ ?_
             clear hK K
             refine done_ (done_of HT_.out (by kernel_rfl)) ?_
             try go_wp2
             go_roundg k2
             case measure => have := HK1.out; have := HK2.out; omega
             case rel => exact ⟨(y341), (wrap64 (x10_2 + 1)), (by first | rfl | (simp; done) | (simp [*]; done)), H', ⟨by have := HK1.out; have := HK2.out; omega⟩, ⟨by (with_reducible repeat (first | apply Kd.R_alloc | apply Kd.R_drewN | apply Kd.R_drew)); exact HQ41.out⟩, ⟨by (with_reducible repeat (first | refine blk_drewN ?_ _ | refine blk_drew ?_ | refine blk_alloc ?_ _)); refine blk_far ?_ (by have h_ := Kd.R_ne HO_9.out BK326.out (by decide); intro e_; exact h_ (by rw [e_]; rfl)) _; (with_reducible repeat (first | refine blk_drewN ?_ _ | refine blk_drew ?_ | refine blk_alloc ?_ _)); exact BK326.out⟩, ⟨by repeat (first | exact HB.out | apply below_alloc | apply pw_below_drewN | apply below_drew1 | refine below_set ?_ GB34.out | refine below_set ?_ GE326.out)⟩⟩
            ·rw [if_neg c33] at H
             exact absurd H (by simp)
           ·rw [if_neg c29] at H
            have c29b0 : decide (x10_2 < (x9_2.length : Int)) = false := decide_eq_false c29
            clear c29
            have H' := Aside0.mk H
            clear H
            obtain ⟨Ao42, co42, eo42⟩ := Kd.R_slice HO_9.out
            subst eo42
            go_wp2
            go_loopg [11] k2 (fun kq v11 w' => ∃ (x11_3 : Int), v11 = .int .i64 x11_3 ∧ Aside0 (potbankref06_CheckReason.l2 kq l0 l1 x9_2 x11_3 a2_0 l2_1 = some r) ∧ Aside0 (kq ≤ k2) ∧ Aside0 (Kd.R Kd.bool 4 w' w.heap.size (fun _ => True) (.slice Ao42 x9_2.length co42) x9_2) ∧ Aside0 (w'.heap[gb326]? = some (.cells #[.int .i64 a2_0, (.slice A2_1 l2_1.length c2_1)] 26 (0, 0))) ∧ Aside0 (Below w.heap.size w w'))
            case atStart => exact ⟨(0), (by first | rfl | (simp; done) | (simp [*]; done)), H', ⟨Nat.le_refl _⟩, ⟨by (with_reducible repeat (first | apply Kd.R_alloc | apply Kd.R_drewN | apply Kd.R_drew)); exact HO_9.out⟩, ⟨by (with_reducible repeat (first | refine blk_drewN ?_ _ | refine blk_drew ?_ | refine blk_alloc ?_ _)); exact BK326.out⟩, ⟨by repeat (first | exact HB.out | apply below_alloc | apply pw_below_drewN | apply below_drew1 | refine below_set ?_ GE326.out)⟩⟩
            case round =>
             clear H'
             try clear c1
             try clear c2
             try clear p2
             try clear c3
             try clear p3
             try clear q3
             try clear hx3
             try clear hf3
             try clear c4
             try clear c5
             try clear c5b0
             try clear c5b1
             try clear p6
             try clear c7
             try clear c8
             try clear c8b0
             try clear c8b1
             try clear c14
             try clear c15
             try clear c15b0
             try clear c16
             try clear c16b0
             try clear c18
             try clear c24
             try clear c24b0
             try clear c24b1
             try clear c25
             try clear c25b0
             try clear c25b1
             try clear c29
             try clear c29b0
             try clear c32
             try clear p32
             try clear q32
             try clear hx32
             try clear c33
             try clear c33b0
             try clear p34
             try clear q34
             try clear hx34
             try clear hf34
             try clear hcz11_0
             try clear hcz11_1
             try clear hcz14_0
             try clear hcz14_1
             try clear hcz19_0
             try clear hcz19_1
             try clear hcz21_0
             try clear hcz21_1
             try clear hcz26_0
             try clear hcz26_1
             try clear hfz11_0
             try clear hfz11_1
             try clear hfz14_0
             try clear hfz14_1
             try clear hfz19_0
             try clear hfz19_1
             try clear hfz21_0
             try clear hfz21_1
             try clear hfz26_0
             try clear hfz26_1
             try clear hx329_0
             try clear hx34_0
             try clear p2
             try clear p3
             try clear p329
             try clear p34
             try clear p6
             try clear q3
             try clear q329
             try clear q34
             obtain ⟨x11_3, rfl, HA, HK3, HO_9, BK326, HB⟩ := hrel
             cases gk with
             | zero => exact absurd HA.out (by simp [potbankref06_CheckReason.l2])
             | succ k3 =>
              have H := HA.out
              clear HA
              simp only [potbankref06_CheckReason.l2] at H
              by_cases c43 : x11_3 < (l2_1.length : Int)
              ·rw [if_pos c43] at H
               have c43b0 : decide (x11_3 < (l2_1.length : Int)) = true := decide_eq_true c43
               clear c43
               by_cases c44 : 0 ≤ x11_3
               ·rw [if_pos c44] at H
                have c44b0 : decide (0 ≤ x11_3) = true := decide_eq_true c44
                clear c44
                replace H := Option.bind_eq_some_iff.mp H
                obtain ⟨t343, A450, H⟩ := H
                (try dsimp only at H)
                have A45 := Aside0.mk A450
                clear A450
                by_cases c46 : t343 = true
                ·subst c46
                 rw [if_pos rfl] at H
                 have H' := Aside0.mk H
                 clear H
                 have hcz47_0 : wr.cell? ⟨gb326, 0, none⟩ = some (.int .i64 a2_0) := (blk_cell BK326.out 0).trans rfl
                 have hcz47_1 : wr.cell? ⟨gb326, 1, none⟩ = some (.slice A2_1 l2_1.length c2_1) := (blk_cell BK326.out 1).trans rfl
                 have hfz47_0 := blk_frozen BK326.out 0
                 have hfz47_1 := blk_frozen BK326.out 1
                 have p342 : 0 ≤ (x11_3 : Int) := of_decide_eq_true (by first | (with_reducible assumption) | assumption)
                 have q342 : x11_3 < (l2_1.length : Int) := of_decide_eq_true (by first | (with_reducible assumption) | assumption)
                 obtain ⟨ad342, A342_0, c342_0, e342, hx342_0, hl342_0, hi342_0⟩ := at_L5 HR2_1.out x11_3 p342 q342
                 cases e342
                 replace hx342_0 := (HB.out.cell (World.block_lt_of_cell? w _ hx342_0)).trans hx342_0
                 have HR342_0 := Aside0.mk hi342_0
                 have HC342_0 := Aside0.mk hl342_0
                 clear hi342_0 hl342_0
                 replace p342 := eq_true p342
                 replace q342 := eq_true q342
                 go_wp2_with (first | ((with_reducible refine gate_callee (f := 60) rfl ?_); refine goesL_ (some 79) rfl rfl Tryz.func60 (by kernel_rfl) rfl #[.slice A0 l0.length c0, .slice A1 l1.length c1, .slice A342_0 (rd_L5 l2_1 x11_3).length c342_0] rfl (by (try simp only [List.map_toArray, List.map_cons, List.map_nil]); first | done | rfl | (simp only [List.length_drop, List.length_take]; rfl)) ?_; (with_reducible refine (potbankref06_crowded.calls k3 _ _ l0 _ _ l1 _ _ (rd_L5 l2_1 x11_3) true _ ?side1 ?side2 ?side3 ?side4 ?side5 ?side6 A45.out).mono ?_); (case side1 => repeat (first | exact (Kd.C_below HR0.out HB.out) | (with_reducible refine Kd.C_alloc ?_ _) | (with_reducible refine Kd.C_drewN ?_ _) | (with_reducible refine Kd.C_drew ?_))); (case side2 => exact HC0.out); (case side3 => repeat (first | exact (Kd.C_below HR1.out HB.out) | (with_reducible refine Kd.C_alloc ?_ _) | (with_reducible refine Kd.C_drewN ?_ _) | (with_reducible refine Kd.C_drew ?_))); (case side4 => exact HC1.out); (case side5 => repeat (first | exact (Kd.C_below HR342_0.out HB.out) | (with_reducible refine Kd.C_alloc ?_ _) | (with_reducible refine Kd.C_drewN ?_ _) | (with_reducible refine Kd.C_drew ?_))); (case side6 => exact HC342_0.out); rintro e w48 ⟨rfl, hb⟩; refine ⟨_, rfl, ?_⟩; have n0_ := Aside0.mk (Kd.R_below (by (with_reducible repeat (first | apply Kd.R_alloc | apply Kd.R_drewN | apply Kd.R_drew)); exact HO_9.out) hb); have n1_ := Aside0.mk (blk_below (g := gb326) (o := .cells #[.int .i64 a2_0, .slice (some ad342) l2_1.length c2_1] 26 (0, 0)) (by (with_reducible repeat (first | refine blk_drewN ?_ _ | refine blk_drew ?_ | refine blk_alloc ?_ _)); exact BK326.out) hb); have n2_ := Aside0.mk (below_step (by repeat (first | exact HB.out | apply below_alloc | apply pw_below_drewN | apply below_drew1 | refine below_set ?_ GE326.out)) hb); clear HO_9; clear BK326; clear HB; have HO_9 := n0_; have BK326 := n1_; have HB := n2_; clear n0_ n1_ n2_; (try clear hb); (try clear hb2); (try clear hk); (try clear hi)))
                 go_roundg k3
                 case measure => have := HK1.out; have := HK2.out; have := HK3.out; omega
                 case rel => exact ⟨(wrap64 (x11_3 + 1)), (by first | rfl | (simp; done) | (simp [*]; done)), H', ⟨by have := HK1.out; have := HK2.out; have := HK3.out; omega⟩, ⟨by (with_reducible repeat (first | apply Kd.R_alloc | apply Kd.R_drewN | apply Kd.R_drew)); exact HO_9.out⟩, ⟨by (with_reducible repeat (first | refine blk_drewN ?_ _ | refine blk_drew ?_ | refine blk_alloc ?_ _)); exact BK326.out⟩, ⟨by repeat (first | exact HB.out | apply below_alloc | apply pw_below_drewN | apply below_drew1 | refine below_set ?_ GE326.out)⟩⟩
                ·replace c46 := Bool.eq_false_iff.mpr c46
                 subst c46
                 rw [if_neg (show ¬ (false = true) by decide)] at H
                 obtain rfl := Option.some.inj H
                 have hcz49_0 : wr.cell? ⟨gb326, 0, none⟩ = some (.int .i64 a2_0) := (blk_cell BK326.out 0).trans rfl
                 have hcz49_1 : wr.cell? ⟨gb326, 1, none⟩ = some (.slice A2_1 l2_1.length c2_1) := (blk_cell BK326.out 1).trans rfl
                 have hfz49_0 := blk_frozen BK326.out 0
                 have hfz49_1 := blk_frozen BK326.out 1
                 have p342 : 0 ≤ (x11_3 : Int) := of_decide_eq_true (by first | (with_reducible assumption) | assumption)
                 have q342 : x11_3 < (l2_1.length : Int) := of_decide_eq_true (by first | (with_reducible assumption) | assumption)
                 obtain ⟨ad342, A342_0, c342_0, e342, hx342_0, hl342_0, hi342_0⟩ := at_L5 HR2_1.out x11_3 p342 q342
                 cases e342
                 replace hx342_0 := (HB.out.cell (World.block_lt_of_cell? w _ hx342_0)).trans hx342_0
                 have HR342_0 := Aside0.mk hi342_0
                 have HC342_0 := Aside0.mk hl342_0
                 clear hi342_0 hl342_0
                 replace p342 := eq_true p342
                 replace q342 := eq_true q342
                 go_wp2_with (first | ((with_reducible refine gate_callee (f := 60) rfl ?_); refine goesL_ (some 79) rfl rfl Tryz.func60 (by kernel_rfl) rfl #[.slice A0 l0.length c0, .slice A1 l1.length c1, .slice A342_0 (rd_L5 l2_1 x11_3).length c342_0] rfl (by (try simp only [List.map_toArray, List.map_cons, List.map_nil]); first | done | rfl | (simp only [List.length_drop, List.length_take]; rfl)) ?_; (with_reducible refine (potbankref06_crowded.calls k3 _ _ l0 _ _ l1 _ _ (rd_L5 l2_1 x11_3) false _ ?side1 ?side2 ?side3 ?side4 ?side5 ?side6 A45.out).mono ?_); (case side1 => repeat (first | exact (Kd.C_below HR0.out HB.out) | (with_reducible refine Kd.C_alloc ?_ _) | (with_reducible refine Kd.C_drewN ?_ _) | (with_reducible refine Kd.C_drew ?_))); (case side2 => exact HC0.out); (case side3 => repeat (first | exact (Kd.C_below HR1.out HB.out) | (with_reducible refine Kd.C_alloc ?_ _) | (with_reducible refine Kd.C_drewN ?_ _) | (with_reducible refine Kd.C_drew ?_))); (case side4 => exact HC1.out); (case side5 => repeat (first | exact (Kd.C_below HR342_0.out HB.out) | (with_reducible refine Kd.C_alloc ?_ _) | (with_reducible refine Kd.C_drewN ?_ _) | (with_reducible refine Kd.C_drew ?_))); (case side6 => exact HC342_0.out); rintro e w50 ⟨rfl, hb⟩; refine ⟨_, rfl, ?_⟩; have n0_ := Aside0.mk (Kd.R_below (by (with_reducible repeat (first | apply Kd.R_alloc | apply Kd.R_drewN | apply Kd.R_drew)); exact HO_9.out) hb); have n1_ := Aside0.mk (blk_below (g := gb326) (o := .cells #[.int .i64 a2_0, .slice (some ad342) l2_1.length c2_1] 26 (0, 0)) (by (with_reducible repeat (first | refine blk_drewN ?_ _ | refine blk_drew ?_ | refine blk_alloc ?_ _)); exact BK326.out) hb); have n2_ := Aside0.mk (below_step (by repeat (first | exact HB.out | apply below_alloc | apply pw_below_drewN | apply below_drew1 | refine below_set ?_ GE326.out)) hb); clear HO_9; clear BK326; clear HB; have HO_9 := n0_; have BK326 := n1_; have HB := n2_; clear n0_ n1_ n2_; (try clear hb); (try clear hb2); (try clear hk); (try clear hi)))
                 go_ret
                 exact ⟨by first | rfl | (simp [errW_none, errW_some] <;> rfl) | (simp only [← hji23]; first | rfl | (simp [errW_none, errW_some] <;> rfl)) | (simp [*, errW_none, errW_some] <;> rfl), by repeat (first | exact HB.out | apply below_alloc | apply pw_below_drewN | apply below_drew1 | refine below_set ?_ GE326.out)⟩
               ·rw [if_neg c44] at H
                exact absurd H (by simp)
              ·rw [if_neg c43] at H
               have c43b0 : decide (x11_3 < (l2_1.length : Int)) = false := decide_eq_false c43
               clear c43
               replace H := Option.bind_eq_some_iff.mp H
               obtain ⟨⟨t344, t347⟩, A510, H⟩ := H
               (try dsimp only at H)
               have A51 := Aside0.mk A510
               clear A510
               by_cases c52 : t347 = true
               ·subst c52
                rw [if_pos rfl] at H
                obtain rfl := Option.some.inj H
                have hcz53_0 : wr.cell? ⟨gb326, 0, none⟩ = some (.int .i64 a2_0) := (blk_cell BK326.out 0).trans rfl
                have hcz53_1 : wr.cell? ⟨gb326, 1, none⟩ = some (.slice A2_1 l2_1.length c2_1) := (blk_cell BK326.out 1).trans rfl
                have hfz53_0 := blk_frozen BK326.out 0
                have hfz53_1 := blk_frozen BK326.out 1
                go_wp2_with (first | ((with_reducible refine gate_callee (f := 61) rfl ?_); refine goesL_ (some 87) rfl rfl Tryz.func61 (by kernel_rfl) rfl #[.slice Ao42 x9_2.length co42, .slice none 0 0, .int .i64 a2_0, .int .i64 (l1.length : Int)] rfl (by (try simp only [List.map_toArray, List.map_cons, List.map_nil]); first | done | rfl | (simp only [List.length_drop, List.length_take]; rfl)) ?_; (refine (potbankref06_given.calls k3 _ _ x9_2 (fun k_ => some k_ = (.slice none 0 0 : Value).ownBlock) (.slice none 0 0) ([] : List Int) a2_0 (l1.length : Int) t344 true w _ ?side1 ?side2 ?side3 ?side4 A51.out).mono ?_); (case side1 => repeat (first | exact HB.out | apply below_alloc | apply pw_below_drewN | apply below_drew1 | refine below_set ?_ GE326.out)); (case side2 => exact Kd.C_kept_own (HO_9.out) (fun k_ hk_ hs_ => (fun e_ => by simp [Value.ownBlock] at e_) hs_)); (case side3 => exact (Kd.R_reads' HO_9.out).2.1); (case side4 => exact Kd.R_nil _ _ _ _ _); rintro e w54 ⟨v345, rfl, ho0, hb, hkp⟩; refine ⟨_, rfl, ?_⟩; have n0_ := Aside0.mk (Kd.R_mono (ok' := fun k_ => True) (Kd.R_keptB (HO_9.out) hkp (fun k_ hk_ hs_ => (fun e_ => by simp [Value.ownBlock] at e_) hs_)) (fun k_ hk_ => trivial)); have n1_ := Aside0.mk (blk_kept (by (with_reducible repeat (first | refine blk_drewN ?_ _ | refine blk_drew ?_ | refine blk_alloc ?_ _)); exact BK326.out) hkp (fun hs_ => (fun e_ => by simp [Value.ownBlock] at e_) hs_)); have n2_ := Aside0.mk (Kd.R_mono (ok' := fun k_ => True) ho0 (fun k_ hk_ => trivial)); have n3_ := Aside0.mk (hb); clear HO_9; clear BK326; clear HB; have HO_9 := n0_; have BK326 := n1_; have HO346 := n2_; have HB := n3_; clear n0_ n1_ n2_ n3_; (try clear hb); (try clear hkp); (try clear ho0)))
                go_ret
                exact ⟨by first | rfl | (simp [errW_none, errW_some] <;> rfl) | (simp only [← hji23]; first | rfl | (simp [errW_none, errW_some] <;> rfl)) | (simp [*, errW_none, errW_some] <;> rfl), by repeat (first | exact HB.out | apply below_alloc | apply pw_below_drewN | apply below_drew1 | refine below_set ?_ GE326.out)⟩
               ·replace c52 := Bool.eq_false_iff.mpr c52
                subst c52
                rw [if_neg (show ¬ (false = true) by decide)] at H
                obtain rfl := Option.some.inj H
                have hcz55_0 : wr.cell? ⟨gb326, 0, none⟩ = some (.int .i64 a2_0) := (blk_cell BK326.out 0).trans rfl
                have hcz55_1 : wr.cell? ⟨gb326, 1, none⟩ = some (.slice A2_1 l2_1.length c2_1) := (blk_cell BK326.out 1).trans rfl
                have hfz55_0 := blk_frozen BK326.out 0
                have hfz55_1 := blk_frozen BK326.out 1
                go_wp2_with (first | ((with_reducible refine gate_callee (f := 61) rfl ?_); refine goesL_ (some 87) rfl rfl Tryz.func61 (by kernel_rfl) rfl #[.slice Ao42 x9_2.length co42, .slice none 0 0, .int .i64 a2_0, .int .i64 (l1.length : Int)] rfl (by (try simp only [List.map_toArray, List.map_cons, List.map_nil]); first | done | rfl | (simp only [List.length_drop, List.length_take]; rfl)) ?_; (refine (potbankref06_given.calls k3 _ _ x9_2 (fun k_ => some k_ = (.slice none 0 0 : Value).ownBlock) (.slice none 0 0) ([] : List Int) a2_0 (l1.length : Int) t344 false w _ ?side1 ?side2 ?side3 ?side4 A51.out).mono ?_); (case side1 => repeat (first | exact HB.out | apply below_alloc | apply pw_below_drewN | apply below_drew1 | refine below_set ?_ GE326.out)); (case side2 => exact Kd.C_kept_own (HO_9.out) (fun k_ hk_ hs_ => (fun e_ => by simp [Value.ownBlock] at e_) hs_)); (case side3 => exact (Kd.R_reads' HO_9.out).2.1); (case side4 => exact Kd.R_nil _ _ _ _ _); rintro e w56 ⟨v345, rfl, ho0, hb, hkp⟩; refine ⟨_, rfl, ?_⟩; have n0_ := Aside0.mk (Kd.R_mono (ok' := fun k_ => True) (Kd.R_keptB (HO_9.out) hkp (fun k_ hk_ hs_ => (fun e_ => by simp [Value.ownBlock] at e_) hs_)) (fun k_ hk_ => trivial)); have n1_ := Aside0.mk (blk_kept (by (with_reducible repeat (first | refine blk_drewN ?_ _ | refine blk_drew ?_ | refine blk_alloc ?_ _)); exact BK326.out) hkp (fun hs_ => (fun e_ => by simp [Value.ownBlock] at e_) hs_)); have n2_ := Aside0.mk (Kd.R_mono (ok' := fun k_ => True) ho0 (fun k_ hk_ => trivial)); have n3_ := Aside0.mk (hb); clear HO_9; clear BK326; clear HB; have HO_9 := n0_; have BK326 := n1_; have HO346 := n2_; have HB := n3_; clear n0_ n1_ n2_ n3_; (try clear hb); (try clear hkp); (try clear ho0)))
                go_ret
                exact ⟨by first | rfl | (simp [errW_none, errW_some] <;> rfl) | (simp only [← hji23]; first | rfl | (simp [errW_none, errW_some] <;> rfl)) | (simp [*, errW_none, errW_some] <;> rfl), by repeat (first | exact HB.out | apply below_alloc | apply pw_below_drewN | apply below_drew1 | refine below_set ?_ GE326.out)⟩
        ·rw [if_neg c25] at H
         exact absurd H (by simp)
       ·rw [if_neg c24] at H
        exact absurd H (by simp)
  ·replace c7 := Bool.eq_false_iff.mpr c7
   subst c7
   rw [if_neg (show ¬ (false = true) by decide)] at H
   obtain rfl := Option.some.inj H
   go_enter Tryz.func14, Tryz.ntmps14
   go_wp2_with (first | ((with_reducible refine gate_dst (N := 5) rfl ?_); refine box_event ?hg (N := 5) ?hd (cs := #[.int .i64 a2_0, .slice A2_1 l2_1.length c2_1]) (t := 26) ?hr ?_; (case hd => rfl); (case hg => rfl); (case hr => first | (go_simp; done) | (go_simp; rfl)); intro gb326 hg w57 hbox hb; have n0_ := Aside0.mk (below_step (by repeat (first | exact HB.out | apply below_alloc | apply pw_below_drewN | apply below_drew1)) hb); have n1_ := Aside0.mk (hbox); have n2_ := Aside0.mk ((by rw [hg]; exact (below_size (by repeat (first | exact HB.out | apply below_alloc | apply pw_below_drewN | apply below_drew1))) : w.heap.size ≤ gb326)); have n3_ := Aside0.mk ((by rw [hg]; exact (below_size (by repeat (first | exact HB.out | apply below_alloc | apply pw_below_drewN | apply below_drew1))) : w.heap.size ≤ gb326)); clear HB; have HB := n0_; have BK326 := n1_; have GW326 := n2_; have GE326 := n3_; clear n0_ n1_ n2_ n3_; clear hb hbox hg) | ((with_reducible refine gate_callee (f := 47) rfl ?_); refine goesL_ (some 16) rfl rfl Tryz.func47 (by kernel_rfl) rfl #[.slice A0 l0.length c0, .slice A1 l1.length c1, .slice none 0 0] rfl (by (try simp only [List.map_toArray, List.map_cons, List.map_nil]); first | done | rfl | (simp only [List.length_drop, List.length_take]; rfl)) ?_; (refine (potbankref06_checked.calls k _ _ l0 _ _ l1 _ _ ([] : List Int) t327 _ ?side1 ?side2 ?side3 ?side4 ?side5 ?side6 A4.out).mono ?_); (case side1 => repeat (first | exact (Kd.C_below HR0.out HB.out) | (with_reducible refine Kd.C_alloc ?_ _) | (with_reducible refine Kd.C_drewN ?_ _) | (with_reducible refine Kd.C_drew ?_))); (case side2 => exact HC0.out); (case side3 => repeat (first | exact (Kd.C_below HR1.out HB.out) | (with_reducible refine Kd.C_alloc ?_ _) | (with_reducible refine Kd.C_drewN ?_ _) | (with_reducible refine Kd.C_drew ?_))); (case side4 => exact HC1.out); (case side5 => exact Kd.C_nil _ _); (case side6 => exact Nat.le_refl _); rintro e w58 ⟨rfl, hb⟩; refine ⟨_, rfl, ?_⟩; have n0_ := Aside0.mk (blk_below (g := gb326) (o := .cells #[.int .i64 a2_0, .slice A2_1 l2_1.length c2_1] 26 (0, 0)) (by (with_reducible repeat (first | refine blk_drewN ?_ _ | refine blk_drew ?_ | refine blk_alloc ?_ _)); exact BK326.out) hb); have n1_ := Aside0.mk (below_step (by repeat (first | exact HB.out | apply below_alloc | apply pw_below_drewN | apply below_drew1 | refine below_set ?_ GE326.out)) hb); clear BK326; clear HB; have BK326 := n0_; have HB := n1_; clear n0_ n1_; (try clear hb); (try clear hb2); (try clear hk); (try clear hi); have hcz59_0 : w58.cell? ⟨gb326, 0, none⟩ = some (.int .i64 a2_0) := (blk_cell BK326.out 0).trans rfl; have hcz59_1 : w58.cell? ⟨gb326, 1, none⟩ = some (.slice A2_1 l2_1.length c2_1) := (blk_cell BK326.out 1).trans rfl; have hfz59_0 := blk_frozen BK326.out 0; have hfz59_1 := blk_frozen BK326.out 1) | ((with_reducible refine gate_callee (f := 48) rfl ?_); refine goesL_ (some 22) rfl rfl Tryz.func48 (by kernel_rfl) rfl #[.int .i64 a2_0, .int .i64 0, .int .i64 8] rfl (by (try simp only [List.map_toArray, List.map_cons, List.map_nil]); first | done | rfl | (simp only [List.length_drop, List.length_take]; rfl)) ?_; (with_reducible refine (potbankref06_In.calls a2_0 0 8 false _ A6.out).mono ?_); rintro e w' ⟨rfl, ⟨nd, rfl⟩⟩; refine ⟨_, rfl, ?_⟩))
   go_ret
   exact ⟨by first | rfl | (simp [errW_none, errW_some] <;> rfl) | (simp [*, errW_none, errW_some] <;> rfl), by repeat (first | exact HB.out | apply below_alloc | apply pw_below_drewN | apply below_drew1 | refine below_set ?_ GE326.out)⟩
 ·rw [if_neg c5] at H
  have c5b0 : (t327 == 0) = false := beq_eq_false_iff_ne.mpr c5
  have c5b1 : (t327 != 0) = true := bne_iff_ne.mpr c5
  obtain rfl := Option.some.inj H
  go_enter Tryz.func14, Tryz.ntmps14
  go_wp2_with (first | ((with_reducible refine gate_dst (N := 5) rfl ?_); refine box_event ?hg (N := 5) ?hd (cs := #[.int .i64 a2_0, .slice A2_1 l2_1.length c2_1]) (t := 26) ?hr ?_; (case hd => rfl); (case hg => rfl); (case hr => first | (go_simp; done) | (go_simp; rfl)); intro gb326 hg w60 hbox hb; have n0_ := Aside0.mk (below_step (by repeat (first | exact HB.out | apply below_alloc | apply pw_below_drewN | apply below_drew1)) hb); have n1_ := Aside0.mk (hbox); have n2_ := Aside0.mk ((by rw [hg]; exact (below_size (by repeat (first | exact HB.out | apply below_alloc | apply pw_below_drewN | apply below_drew1))) : w.heap.size ≤ gb326)); have n3_ := Aside0.mk ((by rw [hg]; exact (below_size (by repeat (first | exact HB.out | apply below_alloc | apply pw_below_drewN | apply below_drew1))) : w.heap.size ≤ gb326)); clear HB; have HB := n0_; have BK326 := n1_; have GW326 := n2_; have GE326 := n3_; clear n0_ n1_ n2_ n3_; clear hb hbox hg) | ((with_reducible refine gate_callee (f := 47) rfl ?_); refine goesL_ (some 16) rfl rfl Tryz.func47 (by kernel_rfl) rfl #[.slice A0 l0.length c0, .slice A1 l1.length c1, .slice none 0 0] rfl (by (try simp only [List.map_toArray, List.map_cons, List.map_nil]); first | done | rfl | (simp only [List.length_drop, List.length_take]; rfl)) ?_; (refine (potbankref06_checked.calls k _ _ l0 _ _ l1 _ _ ([] : List Int) t327 _ ?side1 ?side2 ?side3 ?side4 ?side5 ?side6 A4.out).mono ?_); (case side1 => repeat (first | exact (Kd.C_below HR0.out HB.out) | (with_reducible refine Kd.C_alloc ?_ _) | (with_reducible refine Kd.C_drewN ?_ _) | (with_reducible refine Kd.C_drew ?_))); (case side2 => exact HC0.out); (case side3 => repeat (first | exact (Kd.C_below HR1.out HB.out) | (with_reducible refine Kd.C_alloc ?_ _) | (with_reducible refine Kd.C_drewN ?_ _) | (with_reducible refine Kd.C_drew ?_))); (case side4 => exact HC1.out); (case side5 => exact Kd.C_nil _ _); (case side6 => exact Nat.le_refl _); rintro e w61 ⟨rfl, hb⟩; refine ⟨_, rfl, ?_⟩; have n0_ := Aside0.mk (blk_below (g := gb326) (o := .cells #[.int .i64 a2_0, .slice A2_1 l2_1.length c2_1] 26 (0, 0)) (by (with_reducible repeat (first | refine blk_drewN ?_ _ | refine blk_drew ?_ | refine blk_alloc ?_ _)); exact BK326.out) hb); have n1_ := Aside0.mk (below_step (by repeat (first | exact HB.out | apply below_alloc | apply pw_below_drewN | apply below_drew1 | refine below_set ?_ GE326.out)) hb); clear BK326; clear HB; have BK326 := n0_; have HB := n1_; clear n0_ n1_; (try clear hb); (try clear hb2); (try clear hk); (try clear hi)))
  go_ret
  exact ⟨by first | rfl | (simp [errW_none, errW_some] <;> rfl) | (simp [*, errW_none, errW_some] <;> rfl), by repeat (first | exact HB.out | apply below_alloc | apply pw_below_drewN | apply below_drew1 | refine below_set ?_ GE326.out)⟩
end Go.Proofs.YthonlcnmjlldiaaGreat.P
namespace Go.Proofs.YthonlcnmjlldiaaGreat.P
open Go.Shelf Go.RowKit Go.Proofs.YthonlcnmjlldiaaGreatW.PrintWords Go.Proofs.YthonlcnmjlldiaaGreatW.PrintLast Go.Proofs.YthonlcnmjlldiaaGreatW.PrintMore
theorem KI_block {W : World} {g : Nat} {xs : List Int} {t : TypeId} (h : W.heap[g]? = some (.cells (encs (Value.int .i64) xs).toArray t (0, 0))) (hl : xs.length ≤ 1000) : KI W (some ⟨g, 0, none⟩) xs :=
 own_C (h1 := fun _ => rfl) (base := 0) (e := t) (c := xs.length) rfl ⟨by simp [encs], .inr ⟨g, xs.length, _, rfl, Nat.zero_le _, h, Nat.le_refl _, by simp only [maxLen]; omega, by simp [encs], by simp [encs]; exact List.take_of_length_le (by simp)⟩⟩
theorem KL_three {W : World} {g : Nat} {t : TypeId} {A B C : Option Addr} {ca cb cc : Nat} {xs ys zs : List Int} (h : W.heap[g]? = some (.cells #[.slice A xs.length ca, .slice B ys.length cb, .slice C zs.length cc] t (0, 0))) (hA : KI W A xs) (hB : KI W B ys) (hC : KI W C zs) (h1 : xs.length ≤ ca) (h2 : ys.length ≤ cb) (h3 : zs.length ≤ cc) : KL W (some ⟨g, 0, none⟩) [xs, ys, zs] := by
 refine ⟨rfl, by simp, fun _ => ⟨_, rfl, fun j p hp => ?_⟩⟩
 have e : ∀ q : Nat, (⟨g, 0, none⟩ : Addr).add q = ⟨g, q, none⟩ := by
  intro q
  unfold Addr.add
  simp
  exact fun h => h.symm
 have hcell : ∀ (q : Nat) (u : Value), #[Value.slice A xs.length ca, .slice B ys.length cb, .slice C zs.length cc][q]? = some u → W.cell? ((⟨g, 0, none⟩ : Addr).add (q * 1 + 0)) = some u := by
  intro q u hu
  rw [e, blk_cell h]
  simpa using hu
 rcases j with _ | _ | _ | j
 ·simp at hp
  subst hp
  exact ⟨[_], rfl, ⟨A, ca, rfl, h1, hA⟩, fun i u hu => by
   cases i with
   | zero => simp at hu; subst hu; exact hcell 0 _ rfl
   | succ i => simp at hu⟩
 ·simp at hp
  subst hp
  exact ⟨[_], rfl, ⟨B, cb, rfl, h2, hB⟩, fun i u hu => by
   cases i with
   | zero => simp at hu; subst hu; exact hcell 1 _ rfl
   | succ i => simp at hu⟩
 ·simp at hp
  subst hp
  exact ⟨[_], rfl, ⟨C, cc, rfl, h3, hC⟩, fun i u hu => by
   cases i with
   | zero => simp at hu; subst hu; exact hcell 2 _ rfl
   | succ i => simp at hu⟩
 ·simp at hp
def potbanklaw06_sane.f : Option Bool := some true
set_option maxHeartbeats 4000000 in
set_option maxRecDepth 100000 in
theorem potbanklaw06_sane.calls (r : Bool) (w : World) (h : potbanklaw06_sane.f = some r) : Calls Tryz.prog 9 #[] w fun e w' => e = .returned (.bool r) ∧ Below w.heap.size w w' := by
 obtain rfl := Option.some.inj h
 clear h
 have HW := Aside0.mk (Below.refl w.heap.size w)
 go_enter Tryz.func9, Tryz.ntmps9
 go_wp2_with fail
 refine (potbanklaw06_kiln.calls kilnL w rfl).mono ?_
 rintro e W1 ⟨v, rfl, hR, hb⟩
 have hbb : Below w.heap.size w W1 := hb
 have HW' := Aside0.mk (below_refl_trans HW.out hbb)
 clear HW
 have HW := HW'
 clear HW'
 clear hbb
 try clear hd
 obtain ⟨AK, cK, rfl, hcK, hC⟩ := Kd.R_reads hR
 have FK := Aside0.mk hC
 clear hC hR hb
 have hk3 : kilnL.length = 3 := rfl
 rw [hk3]
 clear hk3
 go_wp2_with fail
 refine (potbanklaw06_orders.calls ordersL W1 rfl).mono ?_
 rintro e W2 ⟨v, rfl, hR, hb⟩
 have hbb : Below W1.heap.size W1 W2 := hb
 have FK' := Aside0.mk (Kd.C_below FK.out hbb)
 have HW' := Aside0.mk (below_refl_trans HW.out hbb)
 clear FK
 have FK := FK'
 clear FK'
 clear HW
 have HW := HW'
 clear HW'
 clear hbb
 try clear hd
 obtain ⟨AO, cO, rfl, hcO, hC⟩ := Kd.R_reads hR
 have FO := Aside0.mk hC
 clear hC hR hb
 have hk4 : ordersL.length = 4 := rfl
 rw [hk4]
 clear hk4
 go_wp2_with fail
 refine (plan_Room.calls AK cK kilnL AO cO ordersL (some ⟨W2.heap.size, 0, none⟩) 2 [0, 1] 16 0 (W2.alloc (.cells #[.int .i64 0, .int .i64 1] 3)) (Kd.C_below FK.out (below_alloc (Below.refl W2.heap.size W2) _)) hcK (Kd.C_below FO.out (below_alloc (Below.refl W2.heap.size W2) _)) hcO (KI_block (xs := [0, 1]) (heap_alloc_new W2 _) (by simp)) (by simp) ex_room).mono ?_
 rintro e W3 ⟨rfl, hb⟩
 have hbb : Below W2.heap.size W2 W3 := below_then (below_alloc (Below.refl W2.heap.size W2) _) ((below_alloc (Below.refl W2.heap.size W2) _)).size hb
 have FK' := Aside0.mk (Kd.C_below FK.out hbb)
 have FO' := Aside0.mk (Kd.C_below FO.out hbb)
 have HW' := Aside0.mk (below_refl_trans HW.out hbb)
 clear FK
 have FK := FK'
 clear FK'
 clear FO
 have FO := FO'
 clear FO'
 clear HW
 have HW := HW'
 clear HW'
 clear hbb
 try clear hd
 clear hb
 go_wp2_with fail
 refine (plan_Crowd.calls AK cK kilnL AO cO ordersL (some ⟨W3.heap.size, 0, none⟩) 3 [0, 1, 2] [0, 1] 0 (W3.alloc (.cells #[.int .i64 0, .int .i64 1, .int .i64 2] 3)) (Kd.C_below FK.out (below_alloc (Below.refl W3.heap.size W3) _)) hcK (Kd.C_below FO.out (below_alloc (Below.refl W3.heap.size W3) _)) hcO (KI_block (xs := [0, 1, 2]) (heap_alloc_new W3 _) (by simp)) (by simp) ex_crowd).mono ?_
 rintro e W4 ⟨v, rfl, hR, hb⟩
 have hbb : Below W3.heap.size W3 W4 := below_then (below_alloc (Below.refl W3.heap.size W3) _) ((below_alloc (Below.refl W3.heap.size W3) _)).size hb
 have FK' := Aside0.mk (Kd.C_below FK.out hbb)
 have FO' := Aside0.mk (Kd.C_below FO.out hbb)
 have HW' := Aside0.mk (below_refl_trans HW.out hbb)
 clear FK
 have FK := FK'
 clear FK'
 clear FO
 have FO := FO'
 clear FO'
 clear HW
 have HW := HW'
 clear HW'
 clear hbb
 try clear hd
 obtain ⟨AC, cC, rfl, hcC, hC⟩ := Kd.R_reads hR
 have FC := Aside0.mk hC
 clear hC hR hb
 obtain ⟨ad, eAO, q0, q1, q2, q3, q4⟩ := at_T72 (Kd.C_below FO.out (below_alloc (Below.refl W4.heap.size W4) (.cells #[.int .i64 0] 3))) 2 (by omega) (by decide)
 subst eAO
 have z0 : (W4.alloc (.cells #[.int .i64 0] 3)).cell? ⟨ad.block, ad.off + 10, none⟩ = some (.int .i64 3) := q0
 have z1 : (W4.alloc (.cells #[.int .i64 0] 3)).cell? ⟨ad.block, ad.off + 10 + 1, none⟩ = some (.int .i64 5) := q1
 have z2 : (W4.alloc (.cells #[.int .i64 0] 3)).cell? ⟨ad.block, ad.off + 10 + 2, none⟩ = some (.int .i64 1000) := q2
 have z3 : (W4.alloc (.cells #[.int .i64 0] 3)).cell? ⟨ad.block, ad.off + 10 + 3, none⟩ = some (.int .i64 1050) := q3
 have z4 : (W4.alloc (.cells #[.int .i64 0] 3)).cell? ⟨ad.block, ad.off + 10 + 4, none⟩ = some (.int .i64 5) := q4
 clear q0 q1 q2 q3 q4
 go_wp2_with fail
 refine (plan_Spare.calls AK cK kilnL (some ad) cO ordersL (some ⟨W4.heap.size, 0, none⟩) 1 [0] 3 5 1000 1050 5 2 0 (W4.alloc (.cells #[.int .i64 0] 3)) (Kd.C_below FK.out (below_alloc (Below.refl W4.heap.size W4) _)) hcK (Kd.C_below FO.out (below_alloc (Below.refl W4.heap.size W4) _)) hcO (KI_block (xs := [0]) (heap_alloc_new W4 _) (by simp)) (by simp) ex_spare).mono ?_
 rintro e W5 ⟨rfl, hb⟩
 have hbb : Below W4.heap.size W4 W5 := below_then (below_alloc (Below.refl W4.heap.size W4) _) ((below_alloc (Below.refl W4.heap.size W4) _)).size hb
 have FK' := Aside0.mk (Kd.C_below FK.out hbb)
 have FO' := Aside0.mk (Kd.C_below FO.out hbb)
 have FC' := Aside0.mk (Kd.C_below FC.out hbb)
 have HW' := Aside0.mk (below_refl_trans HW.out hbb)
 clear FK
 have FK := FK'
 clear FK'
 clear FO
 have FO := FO'
 clear FO'
 clear FC
 have FC := FC'
 clear FC'
 clear HW
 have HW := HW'
 clear HW'
 clear hbb
 try clear hd
 clear hb z0 z1 z2 z3 z4
 go_wp2_with fail
 refine (plan_Fullest.calls AK cK kilnL (some ad) cO ordersL [1, 3] 0 W5 (Kd.C_below FK.out (Below.refl W5.heap.size W5)) hcK (Kd.C_below FO.out (Below.refl W5.heap.size W5)) hcO ex_full).mono ?_
 rintro e W6 ⟨v, rfl, hR, hb⟩
 have hbb : Below W5.heap.size W5 W6 := hb
 have FK' := Aside0.mk (Kd.C_below FK.out hbb)
 have FO' := Aside0.mk (Kd.C_below FO.out hbb)
 have FC' := Aside0.mk (Kd.C_below FC.out hbb)
 have HW' := Aside0.mk (below_refl_trans HW.out hbb)
 clear FK
 have FK := FK'
 clear FK'
 clear FO
 have FO := FO'
 clear FO'
 clear FC
 have FC := FC'
 clear FC'
 clear HW
 have HW := HW'
 clear HW'
 clear hbb
 try clear hd
 obtain ⟨AU, cU, rfl, hcU, hC⟩ := Kd.R_reads hR
 have FU := Aside0.mk hC
 clear hC hR hb
 go_wp2_with fail
 refine (plan_Fewest.calls AK cK kilnL (some ad) cO ordersL [[0, 3], [1], [2]] 0 W6 (Kd.C_below FK.out (Below.refl W6.heap.size W6)) hcK (Kd.C_below FO.out (Below.refl W6.heap.size W6)) hcO ex_fewest).mono ?_
 rintro e W7 ⟨v, rfl, hS, hb⟩
 have hbb : Below W6.heap.size W6 W7 := hb
 have FK' := Aside0.mk (Kd.C_below FK.out hbb)
 have FO' := Aside0.mk (Kd.C_below FO.out hbb)
 have FC' := Aside0.mk (Kd.C_below FC.out hbb)
 have FU' := Aside0.mk (Kd.C_below FU.out hbb)
 have HW' := Aside0.mk (below_refl_trans HW.out hbb)
 clear FK
 have FK := FK'
 clear FK'
 clear FO
 have FO := FO'
 clear FO'
 clear FC
 have FC := FC'
 clear FC'
 clear FU
 have FU := FU'
 clear FU'
 clear HW
 have HW := HW'
 clear HW'
 clear hbb
 try clear hd
 have hR := Kd.S_R hS
 clear hS
 obtain ⟨AP, cP, rfl, hcP, hC⟩ := Kd.R_reads hR
 have FP := Aside0.mk hC
 clear hC hR hb
 go_wp2_with fail
 have HPB0 := Aside0.mk (Boxed.new W7 38 (.slice AP 3 cP))
 refine (plan_Reason.calls AK cK kilnL (some ad) cO ordersL 2 [[0, 1], [0, 2], [1, 2]] 0 (W7.alloc (.cells #[.slice AP 3 cP] 38)) (Kd.C_below FK.out (below_alloc (Below.refl W7.heap.size W7) _)) hcK (Kd.C_below FO.out (below_alloc (Below.refl W7.heap.size W7) _)) hcO ex_reason).mono ?_
 rintro e W8 ⟨v, rfl, hS, hb⟩
 have hbb : Below W7.heap.size W7 W8 := below_then (below_alloc (Below.refl W7.heap.size W7) _) ((below_alloc (Below.refl W7.heap.size W7) _)).size hb
 have FK' := Aside0.mk (Kd.C_below FK.out hbb)
 have FO' := Aside0.mk (Kd.C_below FO.out hbb)
 have FC' := Aside0.mk (Kd.C_below FC.out hbb)
 have FU' := Aside0.mk (Kd.C_below FU.out hbb)
 have FP' := Aside0.mk (Kd.C_below FP.out hbb)
 have HW' := Aside0.mk (below_refl_trans HW.out hbb)
 clear FK
 have FK := FK'
 clear FK'
 clear FO
 have FO := FO'
 clear FO'
 clear FC
 have FC := FC'
 clear FC'
 clear FU
 have FU := FU'
 clear FU'
 clear FP
 have FP := FP'
 clear FP'
 clear HW
 have HW := HW'
 clear HW'
 clear hbb
 try clear hd
 have HPB := Aside0.mk (HPB0.out.kept (grown_of_below hb none) (by simp))
 clear HPB0
 have hR := Kd.S_R hS
 clear hS
 obtain ⟨AX, cX, rfl, hcX, hC⟩ := Kd.R_reads hR
 have FX := Aside0.mk hC
 clear hC hR hb
 go_wp2_with fail
 refine (plan_Moves.calls AK cK kilnL (some ad) cO ordersL [0, 1, 2] 0 W8 (Kd.C_below FK.out (Below.refl W8.heap.size W8)) hcK (Kd.C_below FO.out (Below.refl W8.heap.size W8)) hcO ex_moves).mono ?_
 rintro e W9 ⟨v, rfl, hR, hb⟩
 have hbb : Below W8.heap.size W8 W9 := hb
 have FK' := Aside0.mk (Kd.C_below FK.out hbb)
 have FO' := Aside0.mk (Kd.C_below FO.out hbb)
 have FC' := Aside0.mk (Kd.C_below FC.out hbb)
 have FU' := Aside0.mk (Kd.C_below FU.out hbb)
 have FP' := Aside0.mk (Kd.C_below FP.out hbb)
 have FX' := Aside0.mk (Kd.C_below FX.out hbb)
 have HPB' := Aside0.mk (HPB.out.kept (grown_of_below hbb none) (by simp))
 have HW' := Aside0.mk (below_refl_trans HW.out hbb)
 clear FK
 have FK := FK'
 clear FK'
 clear FO
 have FO := FO'
 clear FO'
 clear FC
 have FC := FC'
 clear FC'
 clear FU
 have FU := FU'
 clear FU'
 clear FP
 have FP := FP'
 clear FP'
 clear FX
 have FX := FX'
 clear FX'
 clear HPB
 have HPB := HPB'
 clear HPB'
 clear HW
 have HW := HW'
 clear HW'
 clear hbb
 try clear hd
 obtain ⟨AM, cM, rfl, hcM, hC⟩ := Kd.R_reads hR
 have FM := Aside0.mk hC
 clear hC hR hb
 go_wp2_with fail
 refine (potbankref01_Same.calls 10 AC cC [0, 1] (some ⟨W9.heap.size, 0, none⟩) 2 [0, 1] true (W9.alloc (.cells #[.int .i64 0, .int .i64 1] 3)) (Kd.C_below FC.out (below_alloc (Below.refl W9.heap.size W9) _)) hcC (KI_block (xs := [0, 1]) (heap_alloc_new W9 _) (by simp)) (by simp) (by decide +kernel)).mono ?_
 rintro e W10 ⟨rfl, hd⟩
 have hb : Below (W9.alloc (.cells #[.int .i64 0, .int .i64 1] 3)).heap.size (W9.alloc (.cells #[.int .i64 0, .int .i64 1] 3)) W10 := hd.below
 have hbb : Below W9.heap.size W9 W10 := below_then (below_alloc (Below.refl W9.heap.size W9) _) ((below_alloc (Below.refl W9.heap.size W9) _)).size hb
 have FK' := Aside0.mk (Kd.C_below FK.out hbb)
 have FO' := Aside0.mk (Kd.C_below FO.out hbb)
 have FC' := Aside0.mk (Kd.C_below FC.out hbb)
 have FU' := Aside0.mk (Kd.C_below FU.out hbb)
 have FP' := Aside0.mk (Kd.C_below FP.out hbb)
 have FX' := Aside0.mk (Kd.C_below FX.out hbb)
 have FM' := Aside0.mk (Kd.C_below FM.out hbb)
 have HPB' := Aside0.mk (HPB.out.kept (grown_of_below hbb none) (by simp))
 have HW' := Aside0.mk (below_refl_trans HW.out hbb)
 clear FK
 have FK := FK'
 clear FK'
 clear FO
 have FO := FO'
 clear FO'
 clear FC
 have FC := FC'
 clear FC'
 clear FU
 have FU := FU'
 clear FU'
 clear FP
 have FP := FP'
 clear FP'
 clear FX
 have FX := FX'
 clear FX'
 clear FM
 have FM := FM'
 clear FM'
 clear HPB
 have HPB := HPB'
 clear HPB'
 clear HW
 have HW := HW'
 clear HW'
 clear hbb
 try clear hd
 clear hb
 go_wp2_with fail
 refine (potbankref01_Same.calls 10 AU cU [1, 3] (some ⟨W10.heap.size, 0, none⟩) 2 [1, 3] true (W10.alloc (.cells #[.int .i64 1, .int .i64 3] 3)) (Kd.C_below FU.out (below_alloc (Below.refl W10.heap.size W10) _)) hcU (KI_block (xs := [1, 3]) (heap_alloc_new W10 _) (by simp)) (by simp) (by decide +kernel)).mono ?_
 rintro e W11 ⟨rfl, hd⟩
 have hb : Below (W10.alloc (.cells #[.int .i64 1, .int .i64 3] 3)).heap.size (W10.alloc (.cells #[.int .i64 1, .int .i64 3] 3)) W11 := hd.below
 have hbb : Below W10.heap.size W10 W11 := below_then (below_alloc (Below.refl W10.heap.size W10) _) ((below_alloc (Below.refl W10.heap.size W10) _)).size hb
 have FK' := Aside0.mk (Kd.C_below FK.out hbb)
 have FO' := Aside0.mk (Kd.C_below FO.out hbb)
 have FC' := Aside0.mk (Kd.C_below FC.out hbb)
 have FU' := Aside0.mk (Kd.C_below FU.out hbb)
 have FP' := Aside0.mk (Kd.C_below FP.out hbb)
 have FX' := Aside0.mk (Kd.C_below FX.out hbb)
 have FM' := Aside0.mk (Kd.C_below FM.out hbb)
 have HPB' := Aside0.mk (HPB.out.kept (grown_of_below hbb none) (by simp))
 have HW' := Aside0.mk (below_refl_trans HW.out hbb)
 clear FK
 have FK := FK'
 clear FK'
 clear FO
 have FO := FO'
 clear FO'
 clear FC
 have FC := FC'
 clear FC'
 clear FU
 have FU := FU'
 clear FU'
 clear FP
 have FP := FP'
 clear FP'
 clear FX
 have FX := FX'
 clear FX'
 clear FM
 have FM := FM'
 clear FM'
 clear HPB
 have HPB := HPB'
 clear HPB'
 clear HW
 have HW := HW'
 clear HW'
 clear hbb
 try clear hd
 clear hb
 have hp := HPB.out.cell
 go_wp2_with fail
 obtain ⟨V, hV⟩ : ∃ V, V = ((((W11.alloc (.cells #[.int .i64 0, .int .i64 3] 3)).alloc (.cells #[.int .i64 1] 3)).alloc (.cells #[.int .i64 2] 3)).alloc (.cells #[.slice (some ⟨W11.heap.size, 0, none⟩) 2 2, .slice (some ⟨W11.heap.size + 1, 0, none⟩) 1 1, .slice (some ⟨W11.heap.size + 1 + 1, 0, none⟩) 1 1] 41)) := ⟨_, rfl⟩
 have b0 : V.heap[W11.heap.size]? = some (.cells #[.int .i64 0, .int .i64 3] 3 (0, 0)) := by
  rw [hV]
  have h := heap_alloc_new W11 (.cells #[.int .i64 0, .int .i64 3] 3)
  exact (heap_alloc_old _ _ (by first | (simp; done) | (simp; omega))).trans ((heap_alloc_old _ _ (by first | (simp; done) | (simp; omega))).trans ((heap_alloc_old _ _ (by first | (simp; done) | (simp; omega))).trans (h)))
 have b1 : V.heap[W11.heap.size + 1]? = some (.cells #[.int .i64 1] 3 (0, 0)) := by
  rw [hV]
  have h := heap_alloc_new (W11.alloc (.cells #[.int .i64 0, .int .i64 3] 3)) (.cells #[.int .i64 1] 3)
  simp only [World.size_alloc] at h
  exact (heap_alloc_old _ _ (by first | (simp; done) | (simp; omega))).trans ((heap_alloc_old _ _ (by first | (simp; done) | (simp; omega))).trans (h))
 have b2 : V.heap[W11.heap.size + 1 + 1]? = some (.cells #[.int .i64 2] 3 (0, 0)) := by
  rw [hV]
  have h := heap_alloc_new ((W11.alloc (.cells #[.int .i64 0, .int .i64 3] 3)).alloc (.cells #[.int .i64 1] 3)) (.cells #[.int .i64 2] 3)
  simp only [World.size_alloc] at h
  exact (heap_alloc_old _ _ (by first | (simp; done) | (simp; omega))).trans (h)
 have b3 : V.heap[W11.heap.size + 1 + 1 + 1]? = some (.cells #[.slice (some ⟨W11.heap.size, 0, none⟩) 2 2, .slice (some ⟨W11.heap.size + 1, 0, none⟩) 1 1, .slice (some ⟨W11.heap.size + 1 + 1, 0, none⟩) 1 1] 41 (0, 0)) := by
  rw [hV]
  have h := heap_alloc_new (((W11.alloc (.cells #[.int .i64 0, .int .i64 3] 3)).alloc (.cells #[.int .i64 1] 3)).alloc (.cells #[.int .i64 2] 3)) (.cells #[.slice (some ⟨W11.heap.size, 0, none⟩) 2 2, .slice (some ⟨W11.heap.size + 1, 0, none⟩) 1 1, .slice (some ⟨W11.heap.size + 1 + 1, 0, none⟩) 1 1] 41)
  simp only [World.size_alloc] at h
  exact h
 have i0 : KI V (some ⟨W11.heap.size, 0, none⟩) [0, 3] := KI_block (xs := [0, 3]) b0 (by simp)
 have i1 : KI V (some ⟨W11.heap.size + 1, 0, none⟩) [1] := KI_block (xs := [1]) b1 (by simp)
 have i2 : KI V (some ⟨W11.heap.size + 1 + 1, 0, none⟩) [2] := KI_block (xs := [2]) b2 (by simp)
 have i3 : KL V (some ⟨W11.heap.size + 1 + 1 + 1, 0, none⟩) [[0, 3], [1], [2]] := KL_three (ca := 2) (cb := 1) (cc := 1) b3 i0 i1 i2 (by simp) (by simp) (by simp)
 have hch : Below W11.heap.size W11 V := by rw [hV]; exact (below_alloc (below_alloc (below_alloc (below_alloc (Below.refl W11.heap.size W11) _) _) _) _)
 have HI3 := Aside0.mk i3
 have HCH := Aside0.mk hch
 clear i0 i1 i2 i3 b0 b1 b2 b3 hch
 rw [← hV]
 clear hV
 refine (potbankref06_SameSets.calls 10 AP cP [[0, 3], [1], [2]] (some ⟨W11.heap.size + 1 + 1 + 1, 0, none⟩) 3 [[0, 3], [1], [2]] true V (Kd.C_below FP.out HCH.out) hcP HI3.out (by simp) (by decide +kernel)).mono ?_
 rintro e W12 ⟨rfl, hd⟩
 have hbb : Below W11.heap.size W11 W12 := below_then HCH.out HCH.out.size hd.below
 clear HI3 HCH
 have FK' := Aside0.mk (Kd.C_below FK.out hbb)
 have FO' := Aside0.mk (Kd.C_below FO.out hbb)
 have FC' := Aside0.mk (Kd.C_below FC.out hbb)
 have FU' := Aside0.mk (Kd.C_below FU.out hbb)
 have FP' := Aside0.mk (Kd.C_below FP.out hbb)
 have FX' := Aside0.mk (Kd.C_below FX.out hbb)
 have FM' := Aside0.mk (Kd.C_below FM.out hbb)
 have HPB' := Aside0.mk (HPB.out.kept (grown_of_below hbb none) (by simp))
 have HW' := Aside0.mk (below_refl_trans HW.out hbb)
 clear FK
 have FK := FK'
 clear FK'
 clear FO
 have FO := FO'
 clear FO'
 clear FC
 have FC := FC'
 clear FC'
 clear FU
 have FU := FU'
 clear FU'
 clear FP
 have FP := FP'
 clear FP'
 clear FX
 have FX := FX'
 clear FX'
 clear FM
 have FM := FM'
 clear FM'
 clear HPB
 have HPB := HPB'
 clear HPB'
 clear HW
 have HW := HW'
 clear HW'
 clear hbb
 try clear hd
 clear hp
 go_wp2_with fail
 obtain ⟨V, hV⟩ : ∃ V, V = ((((W12.alloc (.cells #[.int .i64 0, .int .i64 1] 3)).alloc (.cells #[.int .i64 0, .int .i64 2] 3)).alloc (.cells #[.int .i64 1, .int .i64 2] 3)).alloc (.cells #[.slice (some ⟨W12.heap.size, 0, none⟩) 2 2, .slice (some ⟨W12.heap.size + 1, 0, none⟩) 2 2, .slice (some ⟨W12.heap.size + 1 + 1, 0, none⟩) 2 2] 41)) := ⟨_, rfl⟩
 have b0 : V.heap[W12.heap.size]? = some (.cells #[.int .i64 0, .int .i64 1] 3 (0, 0)) := by
  rw [hV]
  have h := heap_alloc_new W12 (.cells #[.int .i64 0, .int .i64 1] 3)
  exact (heap_alloc_old _ _ (by first | (simp; done) | (simp; omega))).trans ((heap_alloc_old _ _ (by first | (simp; done) | (simp; omega))).trans ((heap_alloc_old _ _ (by first | (simp; done) | (simp; omega))).trans (h)))
 have b1 : V.heap[W12.heap.size + 1]? = some (.cells #[.int .i64 0, .int .i64 2] 3 (0, 0)) := by
  rw [hV]
  have h := heap_alloc_new (W12.alloc (.cells #[.int .i64 0, .int .i64 1] 3)) (.cells #[.int .i64 0, .int .i64 2] 3)
  simp only [World.size_alloc] at h
  exact (heap_alloc_old _ _ (by first | (simp; done) | (simp; omega))).trans ((heap_alloc_old _ _ (by first | (simp; done) | (simp; omega))).trans (h))
 have b2 : V.heap[W12.heap.size + 1 + 1]? = some (.cells #[.int .i64 1, .int .i64 2] 3 (0, 0)) := by
  rw [hV]
  have h := heap_alloc_new ((W12.alloc (.cells #[.int .i64 0, .int .i64 1] 3)).alloc (.cells #[.int .i64 0, .int .i64 2] 3)) (.cells #[.int .i64 1, .int .i64 2] 3)
  simp only [World.size_alloc] at h
  exact (heap_alloc_old _ _ (by first | (simp; done) | (simp; omega))).trans (h)
 have b3 : V.heap[W12.heap.size + 1 + 1 + 1]? = some (.cells #[.slice (some ⟨W12.heap.size, 0, none⟩) 2 2, .slice (some ⟨W12.heap.size + 1, 0, none⟩) 2 2, .slice (some ⟨W12.heap.size + 1 + 1, 0, none⟩) 2 2] 41 (0, 0)) := by
  rw [hV]
  have h := heap_alloc_new (((W12.alloc (.cells #[.int .i64 0, .int .i64 1] 3)).alloc (.cells #[.int .i64 0, .int .i64 2] 3)).alloc (.cells #[.int .i64 1, .int .i64 2] 3)) (.cells #[.slice (some ⟨W12.heap.size, 0, none⟩) 2 2, .slice (some ⟨W12.heap.size + 1, 0, none⟩) 2 2, .slice (some ⟨W12.heap.size + 1 + 1, 0, none⟩) 2 2] 41)
  simp only [World.size_alloc] at h
  exact h
 have i0 : KI V (some ⟨W12.heap.size, 0, none⟩) [0, 1] := KI_block (xs := [0, 1]) b0 (by simp)
 have i1 : KI V (some ⟨W12.heap.size + 1, 0, none⟩) [0, 2] := KI_block (xs := [0, 2]) b1 (by simp)
 have i2 : KI V (some ⟨W12.heap.size + 1 + 1, 0, none⟩) [1, 2] := KI_block (xs := [1, 2]) b2 (by simp)
 have i3 : KL V (some ⟨W12.heap.size + 1 + 1 + 1, 0, none⟩) [[0, 1], [0, 2], [1, 2]] := KL_three (ca := 2) (cb := 2) (cc := 2) b3 i0 i1 i2 (by simp) (by simp) (by simp)
 have hch : Below W12.heap.size W12 V := by rw [hV]; exact (below_alloc (below_alloc (below_alloc (below_alloc (Below.refl W12.heap.size W12) _) _) _) _)
 have HI3 := Aside0.mk i3
 have HCH := Aside0.mk hch
 clear i0 i1 i2 i3 b0 b1 b2 b3 hch
 rw [← hV]
 clear hV
 refine (potbankref06_SameSets.calls 10 AX cX [[0, 1], [0, 2], [1, 2]] (some ⟨W12.heap.size + 1 + 1 + 1, 0, none⟩) 3 [[0, 1], [0, 2], [1, 2]] true V (Kd.C_below FX.out HCH.out) hcX HI3.out (by simp) (by decide +kernel)).mono ?_
 rintro e W13 ⟨rfl, hd⟩
 have hbb : Below W12.heap.size W12 W13 := below_then HCH.out HCH.out.size hd.below
 clear HI3 HCH
 have FK' := Aside0.mk (Kd.C_below FK.out hbb)
 have FO' := Aside0.mk (Kd.C_below FO.out hbb)
 have FC' := Aside0.mk (Kd.C_below FC.out hbb)
 have FU' := Aside0.mk (Kd.C_below FU.out hbb)
 have FP' := Aside0.mk (Kd.C_below FP.out hbb)
 have FX' := Aside0.mk (Kd.C_below FX.out hbb)
 have FM' := Aside0.mk (Kd.C_below FM.out hbb)
 have HPB' := Aside0.mk (HPB.out.kept (grown_of_below hbb none) (by simp))
 have HW' := Aside0.mk (below_refl_trans HW.out hbb)
 clear FK
 have FK := FK'
 clear FK'
 clear FO
 have FO := FO'
 clear FO'
 clear FC
 have FC := FC'
 clear FC'
 clear FU
 have FU := FU'
 clear FU'
 clear FP
 have FP := FP'
 clear FP'
 clear FX
 have FX := FX'
 clear FX'
 clear FM
 have FM := FM'
 clear FM'
 clear HPB
 have HPB := HPB'
 clear HPB'
 clear HW
 have HW := HW'
 clear HW'
 clear hbb
 try clear hd
 go_wp2_with fail
 refine (potbankref01_Same.calls 10 AM cM [0, 1, 2] (some ⟨W13.heap.size, 0, none⟩) 3 [0, 1, 2] true (W13.alloc (.cells #[.int .i64 0, .int .i64 1, .int .i64 2] 3)) (Kd.C_below FM.out (below_alloc (Below.refl W13.heap.size W13) _)) hcM (KI_block (xs := [0, 1, 2]) (heap_alloc_new W13 _) (by simp)) (by simp) (by decide +kernel)).mono ?_
 rintro e W14 ⟨rfl, hd⟩
 have hb : Below (W13.alloc (.cells #[.int .i64 0, .int .i64 1, .int .i64 2] 3)).heap.size (W13.alloc (.cells #[.int .i64 0, .int .i64 1, .int .i64 2] 3)) W14 := hd.below
 have hbb : Below W13.heap.size W13 W14 := below_then (below_alloc (Below.refl W13.heap.size W13) _) ((below_alloc (Below.refl W13.heap.size W13) _)).size hb
 have FK' := Aside0.mk (Kd.C_below FK.out hbb)
 have FO' := Aside0.mk (Kd.C_below FO.out hbb)
 have FC' := Aside0.mk (Kd.C_below FC.out hbb)
 have FU' := Aside0.mk (Kd.C_below FU.out hbb)
 have FP' := Aside0.mk (Kd.C_below FP.out hbb)
 have FX' := Aside0.mk (Kd.C_below FX.out hbb)
 have FM' := Aside0.mk (Kd.C_below FM.out hbb)
 have HPB' := Aside0.mk (HPB.out.kept (grown_of_below hbb none) (by simp))
 have HW' := Aside0.mk (below_refl_trans HW.out hbb)
 clear FK
 have FK := FK'
 clear FK'
 clear FO
 have FO := FO'
 clear FO'
 clear FC
 have FC := FC'
 clear FC'
 clear FU
 have FU := FU'
 clear FU'
 clear FP
 have FP := FP'
 clear FP'
 clear FX
 have FX := FX'
 clear FX'
 clear FM
 have FM := FM'
 clear FM'
 clear HPB
 have HPB := HPB'
 clear HPB'
 clear HW
 have HW := HW'
 clear HW'
 clear hbb
 try clear hd
 clear hb
 go_wp2_with fail
 refine (plan_CheckReason.calls AK cK kilnL (some ad) cO ordersL 2 AX cX [[0, 1], [0, 2], [1, 2]] 0 W14 (Kd.C_below FK.out (Below.refl W14.heap.size W14)) hcK (Kd.C_below FO.out (Below.refl W14.heap.size W14)) hcO (Kd.C_below FX.out (Below.refl _ _)) hcX ex_check).mono ?_
 rintro e W15 ⟨rfl, hb⟩
 have hbb : Below W14.heap.size W14 W15 := hb
 have FK' := Aside0.mk (Kd.C_below FK.out hbb)
 have FO' := Aside0.mk (Kd.C_below FO.out hbb)
 have FC' := Aside0.mk (Kd.C_below FC.out hbb)
 have FU' := Aside0.mk (Kd.C_below FU.out hbb)
 have FP' := Aside0.mk (Kd.C_below FP.out hbb)
 have FX' := Aside0.mk (Kd.C_below FX.out hbb)
 have FM' := Aside0.mk (Kd.C_below FM.out hbb)
 have HPB' := Aside0.mk (HPB.out.kept (grown_of_below hbb none) (by simp))
 have HW' := Aside0.mk (below_refl_trans HW.out hbb)
 clear FK
 have FK := FK'
 clear FK'
 clear FO
 have FO := FO'
 clear FO'
 clear FC
 have FC := FC'
 clear FC'
 clear FU
 have FU := FU'
 clear FU'
 clear FP
 have FP := FP'
 clear FP'
 clear FX
 have FX := FX'
 clear FX'
 clear FM
 have FM := FM'
 clear FM'
 clear HPB
 have HPB := HPB'
 clear HPB'
 clear HW
 have HW := HW'
 clear HW'
 clear hbb
 try clear hd
 clear hb
 go_wp2
 go_ret
 exact ⟨rfl, HW.out⟩
end Go.Proofs.YthonlcnmjlldiaaGreat.P
namespace Go.Proofs.YthonlcnmjlldiaaGreat.P
open Go.RowKit Go.Proofs.YthonlcnmjlldiaaGreatW.PrintWords Go.Proofs.YthonlcnmjlldiaaGreatW.PrintLast Go.Proofs.YthonlcnmjlldiaaGreatW.PrintMore
attribute [local go_sem] max2_int min2_int max_two min_two max_three min_three max_four min_four
def potbanklaw06_PlanReasons.f (k : Nat) (l0 : List (S70)) (l1 : List (S72)) (a2_0 : Int) (l2_1 : List (List Int)) : Option (Bool) := (potbanklaw06_sane.f).bind fun t349 => ((plan_Reason.f l0 l1 a2_0).bind fun bt350 => ((potbankref06_Reason.f k l0 l1 a2_0).bind fun bt354 => ((potbankref06_SameSets.f k bt350.1 bt354.1).bind fun t358 => (if t349 = true then (if t358 = true then (if bt350.2 = bt354.2 then ((plan_CheckReason.f l0 l1 a2_0 l2_1).bind fun t359 => ((potbankref06_CheckReason.f k l0 l1 a2_0 l2_1).bind fun t360 => (some (t359 == t360)))) else (some false)) else (some false)) else (some false)))))
def potbanklaw06_PlanReasons.T5 : Bool × List (List Nat × List Nat) := (true, [([], []), ([0], [0]), ([1], [1]), ([1, 2], [1, 2]), ([3, 1], [3]), ([4], [4]), ([4], [4]), ([5, 6, 4], [4, 5, 6]), ([4, 7], [4, 7]), ([8, 4], [8]), ([9], [9]), ([9], [9]), ([9], [9]), ([12, 9], [9, 12]), ([9], [9]), ([14, 9], [9, 14]), ([10, 11, 13, 15, 9, 9], [9, 10, 11, 13, 15]), ([9], [9]), ([9], [9]), ([9], [9]), ([17, 18, 19, 16, 9], [9, 17, 18, 19]), ([16, 20, 9], [9, 16, 20]), ([9, 21], [9, 21]), ([22, 20, 0, 1, 2, 3, 4, 5, 6, 7, 8, 9, 10, 11, 12, 13, 14, 15, 16, 17, 18, 19, 20, 21, 22], [22])])
def potbanklaw06_PlanReasons.B5 : List Nat := [0, 1, 3, 7, 15, 31, 31, 127, 255, 511, 1023, 1023, 1023, 5119, 1023, 17407, 65535, 1023, 1023, 1023, 1048575, 2097151, 4194303, 8388607]
theorem potbanklaw06_PlanReasons.tab5 : rtab .any (opsOf Tryz.f3 5) = potbanklaw06_PlanReasons.T5 := by kernel_rfl
theorem potbanklaw06_PlanReasons.bits5 : waitsOk potbanklaw06_PlanReasons.T5.2 potbanklaw06_PlanReasons.B5 = true := by kernel_rfl
end Go.Proofs.YthonlcnmjlldiaaGreat.P
namespace Go.Proofs.YthonlcnmjlldiaaGreat.P
open Go.RowKit Go.Proofs.YthonlcnmjlldiaaGreatW.PrintWords Go.Proofs.YthonlcnmjlldiaaGreatW.PrintLast Go.Proofs.YthonlcnmjlldiaaGreatW.PrintMore
theorem maskOf_bit (i : Nat) : ∀ (s : List Int) (a : Nat), (s.foldl (fun a x => a ||| 2 ^ x.toNat) a).testBit i = (a.testBit i || s.any (fun x => x.toNat == i))
 | [], a => by simp
 | x :: xs, a => by
  rw [List.foldl_cons, maskOf_bit i xs, Nat.testBit_or, Nat.testBit_two_pow, List.any_cons, Bool.or_assoc]
  rfl
theorem sorted_ext : ∀ {a b : List Int}, a.Pairwise (fun x y => x < y) → b.Pairwise (fun x y => x < y) → (∀ x, x ∈ a ↔ x ∈ b) → a = b
 | [], [], _, _, _ => rfl
 | [], y :: ys, _, _, h => by have := (h y).2 (by simp); cases this
 | x :: xs, [], _, _, h => by have := (h x).1 (by simp); cases this
 | x :: xs, y :: ys, ha, hb, h => by
  rw [List.pairwise_cons] at ha hb
  have h1 := (h x).1 (by simp)
  have h2 := (h y).2 (by simp)
  have hxy : x = y := by
   rcases List.mem_cons.1 h1 with e | e
   ·exact e
   ·rcases List.mem_cons.1 h2 with e2 | e2
    ·exact e2.symm
    ·have := hb.1 x e
     have := ha.1 y e2
     omega
  subst hxy
  congr 1
  refine sorted_ext ha.2 hb.2 (fun z => ⟨fun hz => ?_, fun hz => ?_⟩)
  ·rcases List.mem_cons.1 ((h z).1 (by simp [hz])) with e | e
   ·subst e
    have := ha.1 z hz
    omega
   ·exact e
  ·rcases List.mem_cons.1 ((h z).2 (by simp [hz])) with e | e
   ·subst e
    have := hb.1 z hz
    omega
   ·exact e
theorem setFrom_sorted {n : Nat} : ∀ {s : List Int} {p : Int}, setFrom n p s = true → s.Pairwise (fun x y => x < y) ∧ ∀ x ∈ s, p < x
 | [], p, _ => ⟨List.Pairwise.nil, fun x h => by cases h⟩
 | x :: xs, p, h => by
  simp only [setFrom, Bool.and_eq_true, decide_eq_true_eq] at h
  obtain ⟨h1, h2⟩ := setFrom_sorted h.2
  refine ⟨List.pairwise_cons.2 ⟨h2, h1⟩, fun y hy => ?_⟩
  rcases List.mem_cons.1 hy with rfl | hy
  ·exact h.1.2.2
  ·have := h2 y hy
   omega
theorem bitsL_sorted (m : Int) : (bitsL m).Pairwise (fun x y => x < y) := by
 unfold bitsL
 rw [List.pairwise_map]
 refine List.Pairwise.filter _ (List.Pairwise.imp ?_ List.pairwise_lt_range)
 intro a b h
 exact Int.ofNat_lt.2 h
theorem bitsL_maskOf {n : Nat} (hn : n ≤ 9) {s : List Int} (h : setOk n s = true) : bitsL ((maskOf s : Nat) : Int) = s := by
 have hm := setFrom_mem h
 refine sorted_ext (bitsL_sorted _) (setFrom_sorted h).1 (fun x => ?_)
 have hb : ∀ i, (maskOf s).testBit i = s.any (fun x => x.toNat == i) := fun i => by
  have := maskOf_bit i s 0
  unfold maskOf
  simpa using this
 rw [mem_bitsL, Int.toNat_natCast, hb, List.any_eq_true]
 constructor
 ·rintro ⟨h0, h1, y, hy, e⟩
  have hy2 := hm y hy
  have e : y.toNat = x.toNat := by simpa using e
  have : y = x := by omega
  rwa [← this]
 ·intro hx
  have := hm x hx
  exact ⟨this.1, by omega, x, hx, by simp⟩
theorem setOk_in {l : List Order} (h8 : l.length ≤ 8) {s : List Int} (h : setOk l.length s = true) : maskOf s < 2 ^ l.length ∧ SetIn l s := by
 have hm := setFrom_mem h
 have hlt := maskOf_lt s hm
 refine ⟨hlt, ?_, hm⟩
 rw [← bitsL_maskOf (by omega) h, ← chosen_idx hlt (by omega)]
 exact (chosen_in (idx_in h8) _).1
theorem crowd_set {k : List Seat} {l : List Order} (h8 : l.length ≤ 8) {s : List Int} (h : setOk l.length s = true) : crowdS k l s = crowdB k l ((maskOf s : Nat) : Int) := by
 rw [crowdS_B k (setOk_in h8 h).1 (by omega), bitsL_maskOf (by omega) h]
theorem hit_loop {sets : List (List Int)} (hl : sets.length ≤ 1000) (hs : ∀ s ∈ sets, s.length ≤ 1000) {b : List Int} (hb : b.length ≤ 1000) : ∀ (d i : Nat), sets.length - i = d → i ≤ sets.length → Ev (fun n => potbankref06_hit.l0 n b sets (i : Int)) ((sets.drop i).any (fun s => subS s b)) := by
 intro d
 induction d with
 | zero =>
  intro i hd hi
  rw [List.drop_eq_nil_iff.2 (by omega)]
  exact Ev.step (f := fun _ => some false) (fun n => by simp only [potbankref06_hit.l0]; rw [if_neg (by omega)]) (Ev.now _)
 | succ d ih =>
  intro i hd hi
  have hlt : i < sets.length := by omega
  refine Ev.step (f := fun n => (potbankref06_subset.f n sets[i] b).bind fun t => if t = true then some true else potbankref06_hit.l0 n b sets ((i + 1 : Nat) : Int)) (fun n => by
   simp only [potbankref06_hit.l0]
   rw [if_pos (by omega), if_pos (by omega), rdL_at hlt, wrap_succ hlt (by omega)]) ?_
  refine Ev.bind (subset_ev (hs _ (List.getElem_mem hlt)) hb) ?_
  rw [drop_at hlt, List.any_cons]
  cases subS sets[i] b
  ·simpa using ih (i + 1) (by omega) (by omega)
  ·exact Ev.now _
theorem hit_ev {n : Nat} (hn : n ≤ 9) {sets : List (List Int)} (hl : sets.length ≤ 1000) (hs : ∀ s ∈ sets, setOk n s = true) {m : Nat} : Ev (fun q => potbankref06_hit.f q (bitsL (m : Int)) sets) (hitB (masksOf sets) m) := by
 have hb := bitsL_len9 (m : Int)
 have hlen : ∀ s ∈ sets, s.length ≤ 1000 := fun s h => by
  have := bitsL_len9 ((maskOf s : Nat) : Int)
  rw [bitsL_maskOf hn (hs s h)] at this
  omega
 have h := hit_loop hl hlen (b := bitsL (m : Int)) (by omega) _ 0 rfl (Nat.zero_le _)
 have e : (sets.drop 0).any (fun s => subS s (bitsL (m : Int))) = hitB (masksOf sets) m := by
  unfold hitB masksOf
  rw [List.drop_zero, List.any_map]
  refine any_congr_mem fun s h2 => ?_
  have h3 := maskOf_lt s (setFrom_mem (hs s h2))
  have h4 := two_lt hn h3
  have := subS_bits (a := maskOf s) (b := m) h4
  rw [bitsL_maskOf hn (hs s h2)] at this
  exact this
 rw [e] at h
 exact h
def goodH (l : List Order) (sets : List (List Int)) (m : Nat) : Bool := decide (m < 2 ^ l.length) && !(hitB (masksOf sets) m)
theorem goodH_mono (l : List Order) (sets : List (List Int)) (a b : Nat) (h : subB a b = true) (hb : goodH l sets b = true) : goodH l sets a = true := by
 unfold goodH hitB at *
 rw [Bool.and_eq_true, decide_eq_true_eq, Bool.not_eq_true', List.any_eq_false] at *
 have := subB_le h
 exact ⟨by omega, fun s hs h2 => hb.2 s hs (subB_trans h2 h)⟩
theorem okW_goodH {l : List Order} {sets : List (List Int)} {w : List Nat} (hw : w.length = l.length) : okW (goodH l sets) w = !((firN w).any (hitB (masksOf sets))) := by
 rw [Bool.eq_iff_iff, okW_iff, Bool.not_eq_true', List.any_eq_false]
 have h := fun f => maskF_lt w f
 rw [hw] at h
 simp only [goodH, Bool.and_eq_true, decide_eq_true_eq, Bool.not_eq_true']
 constructor
 ·intro h2 m hm
  obtain ⟨f, hf, rfl⟩ := List.mem_map.1 hm
  rw [(h2 f (List.mem_range.1 hf)).2]
  simp
 ·intro h2 f hf
  have := h2 _ (List.mem_map.2 ⟨f, List.mem_range.2 hf, rfl⟩)
  exact ⟨h f, by simpa using this⟩
theorem reasonB_any {l : List Order} {sets : List (List Int)} {n : Nat} : reasonB l.length n (masksOf sets) = !((waysL l.length n 0 []).any (okW (goodH l sets))) := by
 have e : (waysL l.length n 0 []).any (okW (goodH l sets)) = (waysL l.length n 0 []).any (fun w => !((firN w).any (hitB (masksOf sets)))) :=
  any_congr_mem fun w hw => okW_goodH (by have := ways_len _ _ _ _ _ hw; simpa using this)
 rw [e]
 unfold reasonB
 rw [List.all_eq_not_any_not]
theorem check_l2 {k : List Seat} {l : List Order} (hF : Fine k l) (h8 : l.length ≤ 8) {n : Nat} (hn : n ≤ 8) {sets : List (List Int)} (hl : sets.length ≤ 256) (hs : ∀ s ∈ sets, setOk l.length s = true) : ∀ (d i : Nat), sets.length - i = d → i ≤ sets.length →
  Ev (fun q => potbankref06_CheckReason.l2 q k l (tabTo (2 ^ l.length) (goodH l sets) (2 ^ l.length)) (i : Int) (n : Int) sets) (if (masksOf (sets.drop i)).all (fun m => crowdB k l (m : Int)) && reasonB l.length n (masksOf sets) then 0 else 67) := by
 intro d
 induction d with
 | zero =>
  intro i hd hi
  rw [List.drop_eq_nil_iff.2 (by omega)]
  have ht : TabOk (tabTo (2 ^ l.length) (goodH l sets) (2 ^ l.length)) l.length (goodH l sets) := tabTo_ok
  obtain ⟨v, hv⟩ := given_ev ht h8 hn (goodH_mono l sets) l.length [] (by simp) (fun f hf => by cases hf) (fun f hf => absurd hf (Nat.not_lt_zero f))
  refine Ev.step (f := fun q => (potbankref06_given.f q (tabTo (2 ^ l.length) (goodH l sets) (2 ^ l.length)) ([] : List Int) (n : Int) (l.length : Int)).bind fun bt344 => (if bt344.2 = true then (some 67) else (some 0))) (fun q => by
   simp only [potbankref06_CheckReason.l2]
   rw [if_neg (by omega)]) ?_
  refine Ev.bind hv ?_
  rw [reasonB_any]
  have e : waysL l.length n (usedL []) [] = waysL l.length n 0 [] := rfl
  simp only [e]
  cases (waysL l.length n 0 []).any (okW (goodH l sets))
  ·exact Ev.now _
  ·exact Ev.now _
 | succ d ih =>
  intro i hd hi
  have hlt : i < sets.length := by omega
  have hok := hs _ (List.getElem_mem hlt)
  refine Ev.step (f := fun q => (potbankref06_crowded.f q k l sets[i]).bind fun t343 => (if t343 = true then (potbankref06_CheckReason.l2 q k l (tabTo (2 ^ l.length) (goodH l sets) (2 ^ l.length)) ((i + 1 : Nat) : Int) (n : Int) sets) else (some 67))) (fun q => by
   simp only [potbankref06_CheckReason.l2]
   rw [if_pos (by omega), if_pos (by omega), rdL_at hlt, wrap_succ hlt (by omega)]) ?_
  refine Ev.bind (crowded_ev hF (setOk_in h8 hok).2) ?_
  rw [crowd_set h8 hok, drop_at hlt]
  unfold masksOf
  rw [List.map_cons, List.all_cons]
  cases crowdB k l ((maskOf sets[i] : Nat) : Int)
  ·exact Ev.now _
  ·simpa [masksOf] using ih (i + 1) (by omega) (by omega)
theorem check_l1 {k : List Seat} {l : List Order} (hF : Fine k l) (h8 : l.length ≤ 8) {n : Nat} (hn : n ≤ 8) {sets : List (List Int)} (hl : sets.length ≤ 256) (hs : ∀ s ∈ sets, setOk l.length s = true) : ∀ (d j : Nat), 2 ^ l.length - j = d → j ≤ 2 ^ l.length →
  Ev (fun q => potbankref06_CheckReason.l1 q k l (tabTo (2 ^ l.length) (goodH l sets) j) (j : Int) (n : Int) sets) (if goodReason k l n sets then 0 else 67) := by
 have hp : 2 ^ l.length ≤ 256 := Nat.pow_le_pow_right (n := 2) (by omega) h8
 intro d
 induction d with
 | zero =>
  intro j hd hj
  obtain rfl : j = 2 ^ l.length := by omega
  refine Ev.step (f := fun q => potbankref06_CheckReason.l2 q k l (tabTo (2 ^ l.length) (goodH l sets) (2 ^ l.length)) ((0 : Nat) : Int) (n : Int) sets) (fun q => by
   simp only [potbankref06_CheckReason.l1]
   rw [tabTo_len, if_neg (by omega)]
   rfl) ?_
  exact check_l2 hF h8 hn hl hs _ 0 rfl (Nat.zero_le _)
 | succ d ih =>
  intro j hd hj
  have hlt : j < 2 ^ l.length := by omega
  refine Ev.step (f := fun q => (potbankref06_indices.f q (l.length : Int)).bind fun t334 => ((potbankref06_Chosen.f q (j : Int) t334).bind fun t337 => ((potbankref06_hit.f q t337 sets).bind fun t340 => (potbankref06_CheckReason.l1 q k l ((tabTo (2 ^ l.length) (goodH l sets) j).set j (!t340)) ((j + 1 : Nat) : Int) (n : Int) sets)))) (fun q => by
   simp only [potbankref06_CheckReason.l1]
   rw [tabTo_len, if_pos (by omega), wrap_succ hlt (by omega)]
   simp only [Int.natCast_nonneg, if_true, Int.toNat_natCast]) ?_
  refine Ev.bind (indices_ev h8) ?_
  refine Ev.bind (Chosen_ev (m := j) (by omega) (by rw [idx_len]; exact h8)) ?_
  rw [chosen_idx hlt (by omega)]
  refine Ev.bind (hit_ev (n := l.length) (by omega) (by omega) hs) ?_
  have e : (!(hitB (masksOf sets) j)) = goodH l sets j := by unfold goodH; rw [decide_eq_true hlt, Bool.true_and]
  rw [e, tabTo_set hlt]
  exact ih (j + 1) (by omega) (by omega)
theorem check_l0 {k : List Seat} {l : List Order} (hF : Fine k l) (h8 : l.length ≤ 8) {n : Nat} (hn : n ≤ 8) {sets : List (List Int)} (hl : sets.length ≤ 256) : ∀ (d i : Nat), sets.length - i = d → i ≤ sets.length → (∀ s ∈ sets.take i, setOk l.length s = true) →
  Ev (fun q => potbankref06_CheckReason.l0 q k l (i : Int) (n : Int) sets) (if sets.all (setOk l.length) then (if goodReason k l n sets then 0 else 67) else 62) := by
 have hp : 2 ^ l.length ≤ 256 := Nat.pow_le_pow_right (n := 2) (by omega) h8
 intro d
 induction d with
 | zero =>
  intro i hd hi hs
  rw [List.take_of_length_le (by omega)] at hs
  rw [if_pos (List.all_eq_true.2 hs)]
  refine Ev.step (f := fun q => potbankref06_CheckReason.l1 q k l (tabTo (2 ^ l.length) (goodH l sets) 0) ((0 : Nat) : Int) (n : Int) sets) (fun q => by
   simp only [potbankref06_CheckReason.l0]
   rw [if_neg (by omega), shl_at (by omega), if_pos (Int.natCast_nonneg _), Int.toNat_natCast, if_pos (by omega), tabTo_zero]
   rfl) ?_
  exact check_l1 hF h8 hn hl hs _ 0 rfl (Nat.zero_le _)
 | succ d ih =>
  intro i hd hi hs
  have hlt : i < sets.length := by omega
  refine Ev.step (f := fun q => if setOk l.length sets[i] = true then potbankref06_CheckReason.l0 q k l ((i + 1 : Nat) : Int) (n : Int) sets else some 62) (fun q => by
   simp only [potbankref06_CheckReason.l0]
   rw [if_pos (by omega), if_pos (by omega), rdL_at hlt, wrap_succ hlt (by omega)]
   rfl) ?_
  cases ho : setOk l.length sets[i]
  ·have : sets.all (setOk l.length) = false := by
    rw [Bool.eq_false_iff]
    intro h
    rw [List.all_eq_true.1 h _ (List.getElem_mem hlt)] at ho
    cases ho
   rw [this]
   exact Ev.now _
  ·simp only [if_true]
   refine ih (i + 1) (by omega) (by omega) (fun s h => ?_)
   rw [List.take_succ_eq_append_getElem hlt] at h
   rcases List.mem_append.1 h with h | h
   ·exact hs s h
   ·rw [List.mem_singleton.1 h]; exact ho
theorem CheckReason_ev (k : List Seat) (l : List Order) (n : Int) (sets : List (List Int)) : Ev (fun q => potbankref06_CheckReason.f q k l n sets) (checkReasonR k l n sets) := by
 have hc := checked_ev k l []
 rw [askSetErr_nil] at hc
 unfold potbankref06_CheckReason.f checkReasonR
 refine Ev.bind hc ?_
 by_cases h : askErr k l = 0
 ·simp only [h, if_true]
  obtain ⟨hF, h8⟩ := askErr_fine h
  simp only [In_eq, Option.bind_some]
  by_cases hn : 0 ≤ n ∧ n ≤ 8
  ·have hi : inB n 0 8 = true := by unfold inB; simp; omega
   rw [if_pos hn]
   simp only [hi, if_true]
   by_cases hl : sets.length ≤ 256
   ·have hl2 : ¬ ((sets.length : Int) > 256) := by omega
    rw [if_pos hl]
    simp only [hl2, if_false]
    obtain ⟨m, rfl⟩ := Int.eq_ofNat_of_zero_le hn.1
    have := check_l0 (n := m) hF h8 (by omega) hl _ 0 rfl (Nat.zero_le _) (fun s hs => by simp at hs)
    simpa using this
   ·have hl2 : ((sets.length : Int) > 256) := by omega
    rw [if_neg hl]
    simp only [hl2, if_true]
    exact Ev.now _
  ·have hi : inB n 0 8 = false := by unfold inB; simp; omega
   rw [if_neg hn]
   simp only [hi, Bool.false_eq_true, if_false]
   exact Ev.now _
 ·simp only [h, if_false]
  exact Ev.now _
theorem reasonR_ok (k : List Seat) (l : List Order) (n : Int) : (reasonR k l n).1.length ≤ 1000 ∧ ∀ x ∈ (reasonR k l n).1, x.length ≤ 1000 := by
 unfold reasonR
 by_cases h : askErr k l = 0
 ·obtain ⟨hF, h8⟩ := askErr_fine h
  have hc := crowdsL_ok (k := k) (l := l) (by omega)
  rw [if_pos h]
  split
  ·split
   ·simp
   ·exact hc
  ·simp
 ·rw [if_neg h]
  simp
theorem planReasons_true (k : List Seat) (l : List Order) (n : Int) (sets : List (List Int)) : ∃ q, potbanklaw06_PlanReasons.f q k l n sets = some true := by
 refine Ev.rounds ?_
 unfold potbanklaw06_PlanReasons.f
 simp only [potbanklaw06_sane.f, plan_Reason.f, plan_CheckReason.f, Option.bind_some]
 refine Ev.bind (Reason_ev k l n) ?_
 obtain ⟨h1, h2⟩ := reasonR_ok k l n
 refine Ev.bind (SameSets_self h1 h2) ?_
 simp only [if_true]
 refine Ev.bind (CheckReason_ev k l n sets) ?_
 simpa using Ev.now true
end Go.Proofs.YthonlcnmjlldiaaGreat.P
namespace Go.Proofs.YthonlcnmjlldiaaGreat.P
open Go.RowKit Go.Proofs.YthonlcnmjlldiaaGreatW.PrintWords Go.Proofs.YthonlcnmjlldiaaGreatW.PrintLast Go.Proofs.YthonlcnmjlldiaaGreatW.PrintMore
attribute [local go_sem] max2_int min2_int max_two min_two max_three min_three max_four min_four
set_option maxHeartbeats 8000000 in
set_option maxRecDepth 100000 in
theorem potbanklaw06_PlanReasons.callsT (k : Nat) (A0 : Option Addr) (c0 : Nat) (l0 : List (S70)) (A1 : Option Addr) (c1 : Nat) (l1 : List (S72)) (a2_0 : Int) (A2_1 : Option Addr) (c2_1 : Nat) (l2_1 : List (List Int)) (r : Bool) (hr_ : r = true) (w : World) (hr0 : Kd.C k70 w A0 l0.length l0) (hc0 : l0.length ≤ c0) (hr1 : Kd.C k72 w A1 l1.length l1) (hc1 : l1.length ≤ c1) (hr2_1 : Kd.C (Kd.slice 3 (Kd.int .i64)) w A2_1 l2_1.length l2_1) (hc2_1 : l2_1.length ≤ c2_1) (h : potbanklaw06_PlanReasons.f k l0 l1 a2_0 l2_1 = some r) :
  Calls Tryz.prog 3 #[.slice A0 l0.length c0, .slice A1 l1.length c1, .agg #[.int .i64 a2_0, .slice A2_1 l2_1.length c2_1]] w fun e w' => e = .returned (.bool r) ∧ Below w.heap.size w w' := by
 have HRT_ := Aside0.mk hr_
 clear hr_
 have hu26 := Tryz.underlying26
 have HR0 := Aside0.mk hr0
 have HC0 := Aside0.mk hc0
 clear hr0 hc0
 have HR1 := Aside0.mk hr1
 have HC1 := Aside0.mk hc1
 clear hr1 hc1
 have HR2_1 := Aside0.mk hr2_1
 have HC2_1 := Aside0.mk hc2_1
 clear hr2_1 hc2_1
 have HB := Aside0.mk (Below.refl w.heap.size w)
 have H : ((potbanklaw06_sane.f).bind fun t349 => ((plan_Reason.f l0 l1 a2_0).bind fun bt350 => ((potbankref06_Reason.f k l0 l1 a2_0).bind fun bt354 => ((potbankref06_SameSets.f k bt350.1 bt354.1).bind fun t358 => (if t349 = true then (if t358 = true then (if bt350.2 = bt354.2 then ((plan_CheckReason.f l0 l1 a2_0 l2_1).bind fun t359 => ((potbankref06_CheckReason.f k l0 l1 a2_0 l2_1).bind fun t360 => (some (t359 == t360)))) else (some false)) else (some false)) else (some false)))))) = some r := h
 clear h
 replace H := Option.bind_eq_some_iff.mp H
 obtain ⟨t349, A40, H⟩ := H
 (try dsimp only at H)
 have A4 := Aside0.mk A40
 clear A40
 replace H := Option.bind_eq_some_iff.mp H
 obtain ⟨⟨t350, t351⟩, A50, H⟩ := H
 (try dsimp only at H)
 have A5 := Aside0.mk A50
 clear A50
 replace H := Option.bind_eq_some_iff.mp H
 obtain ⟨⟨t354, t357⟩, A60, H⟩ := H
 (try dsimp only at H)
 have A6 := Aside0.mk A60
 clear A60
 replace H := Option.bind_eq_some_iff.mp H
 obtain ⟨t358, A70, H⟩ := H
 (try dsimp only at H)
 have A7 := Aside0.mk A70
 clear A70
 by_cases c8 : t349 = true
 ·subst c8
  rw [if_pos rfl] at H
  by_cases c9 : t358 = true
  ·subst c9
   rw [if_pos rfl] at H
   by_cases c10 : t351 = t357
   ·rw [if_pos c10] at H
    have c10b0 : (t351 == t357) = true := beq_iff_eq.mpr c10
    have c10b1 : (t351 != t357) = false := bne_eq_false_iff_eq.mpr c10
    clear c10
    replace H := Option.bind_eq_some_iff.mp H
    obtain ⟨t359, A110, H⟩ := H
    (try dsimp only at H)
    have A11 := Aside0.mk A110
    clear A110
    replace H := Option.bind_eq_some_iff.mp H
    obtain ⟨t360, A120, H⟩ := H
    replace H : (some (t359 == t360)) = some r := H
    have A12 := Aside0.mk A120
    clear A120
    obtain rfl := Option.some.inj H
    go_enter Tryz.func3, Tryz.ntmps3
    try go_wp2_with (first | ((with_reducible refine gate_dst (N := 5) rfl ?_); refine box_event ?hg (N := 5) ?hd (cs := #[.int .i64 a2_0, .slice A2_1 l2_1.length c2_1]) (t := 26) ?hr ?_; (case hd => rfl); (case hg => rfl); (case hr => first | (go_simp; done) | (go_simp; rfl)); intro gb348 hg w13 hbox hb; have n0_ := Aside0.mk (below_step (by repeat (first | exact HB.out | apply below_alloc | apply pw_below_drewN | apply below_drew1)) hb); have n1_ := Aside0.mk (hbox); have n2_ := Aside0.mk ((by rw [hg]; exact (below_size (by repeat (first | exact HB.out | apply below_alloc | apply pw_below_drewN | apply below_drew1))) : w.heap.size ≤ gb348)); have n3_ := Aside0.mk ((by rw [hg]; exact (below_size (by repeat (first | exact HB.out | apply below_alloc | apply pw_below_drewN | apply below_drew1))) : w.heap.size ≤ gb348)); clear HB; have HB := n0_; have BK348 := n1_; have GW348 := n2_; have GE348 := n3_; clear n0_ n1_ n2_ n3_; clear hb hbox hg) | ((with_reducible refine gate_callee (f := 9) rfl ?_); refine goesL_ (some 13) rfl rfl Tryz.func9 (by kernel_rfl) rfl #[] rfl (by (try simp only [List.map_toArray, List.map_cons, List.map_nil]); first | done | rfl | (simp only [List.length_drop, List.length_take]; rfl)) ?_; (with_reducible refine (potbanklaw06_sane.calls  true _ A4.out).mono ?_); rintro e w14 ⟨rfl, hb⟩; refine ⟨_, rfl, ?_⟩; have n0_ := Aside0.mk (blk_below (g := gb348) (o := .cells #[.int .i64 a2_0, .slice A2_1 l2_1.length c2_1] 26 (0, 0)) (by (with_reducible repeat (first | refine blk_drewN ?_ _ | refine blk_drew ?_ | refine blk_alloc ?_ _)); exact BK348.out) hb); have n1_ := Aside0.mk (below_step (by repeat (first | exact HB.out | apply below_alloc | apply pw_below_drewN | apply below_drew1 | refine below_set ?_ GE348.out)) hb); clear BK348; clear HB; have BK348 := n0_; have HB := n1_; clear n0_ n1_; (try clear hb); (try clear hb2); (try clear hk); (try clear hi); have hcz15_0 : w14.cell? ⟨gb348, 0, none⟩ = some (.int .i64 a2_0) := (blk_cell BK348.out 0).trans rfl; have hcz15_1 : w14.cell? ⟨gb348, 1, none⟩ = some (.slice A2_1 l2_1.length c2_1) := (blk_cell BK348.out 1).trans rfl; have hfz15_0 := blk_frozen BK348.out 0; have hfz15_1 := blk_frozen BK348.out 1) | ((with_reducible refine gate_callee (f := 10) rfl ?_); refine goesL_ (some 19) rfl rfl Tryz.func10 (by kernel_rfl) rfl #[.slice A0 l0.length c0, .slice A1 l1.length c1, .int .i64 a2_0] rfl (by (try simp only [List.map_toArray, List.map_cons, List.map_nil]); first | done | rfl | (simp only [List.length_drop, List.length_take]; rfl)) ?_; (with_reducible refine (plan_Reason.calls _ _ l0 _ _ l1 a2_0 t350 t351 _ ?side1 ?side2 ?side3 ?side4 A5.out).mono ?_); (case side1 => repeat (first | exact (Kd.C_below HR0.out HB.out) | (with_reducible refine Kd.C_alloc ?_ _) | (with_reducible refine Kd.C_drewN ?_ _) | (with_reducible refine Kd.C_drew ?_))); (case side2 => exact HC0.out); (case side3 => repeat (first | exact (Kd.C_below HR1.out HB.out) | (with_reducible refine Kd.C_alloc ?_ _) | (with_reducible refine Kd.C_drewN ?_ _) | (with_reducible refine Kd.C_drew ?_))); (case side4 => exact HC1.out); rintro e w16 ⟨v352, rfl, ho0, hb⟩; refine ⟨_, rfl, ?_⟩; have n0_ := Aside0.mk (Kd.N_lower (Kd.N_mono (ok' := fun k_ => k_ ≠ gb348) (Kd.S_N (Kd.S_bound ho0)) (fun k_ hk_ => (Kd.freshB (g := gb348) (o := .cells #[.int .i64 a2_0, .slice A2_1 l2_1.length c2_1] 26 (0, 0)) (by (with_reducible repeat (first | refine blk_drewN ?_ _ | refine blk_drew ?_ | refine blk_alloc ?_ _)); exact BK348.out) k_ hk_.2.1))) (below_size (by repeat (first | exact HB.out | apply below_alloc | apply pw_below_drewN | apply below_drew1 | refine below_set ?_ GE348.out)))); have n1_ := Aside0.mk (blk_below (g := gb348) (o := .cells #[.int .i64 a2_0, .slice A2_1 l2_1.length c2_1] 26 (0, 0)) (by (with_reducible repeat (first | refine blk_drewN ?_ _ | refine blk_drew ?_ | refine blk_alloc ?_ _)); exact BK348.out) hb); have n2_ := Aside0.mk (below_step (by repeat (first | exact HB.out | apply below_alloc | apply pw_below_drewN | apply below_drew1 | refine below_set ?_ GE348.out)) hb); clear BK348; clear HB; have HO353 := n0_; have BK348 := n1_; have HB := n2_; clear n0_ n1_ n2_; (try clear hb); (try clear hb2); (try clear hk); (try clear hi); (try clear ho0); have hcz17_0 : w16.cell? ⟨gb348, 0, none⟩ = some (.int .i64 a2_0) := (blk_cell BK348.out 0).trans rfl; have hcz17_1 : w16.cell? ⟨gb348, 1, none⟩ = some (.slice A2_1 l2_1.length c2_1) := (blk_cell BK348.out 1).trans rfl; have hfz17_0 := blk_frozen BK348.out 0; have hfz17_1 := blk_frozen BK348.out 1) | ((with_reducible refine gate_callee (f := 11) rfl ?_); refine goesL_ (some 27) rfl rfl Tryz.func11 (by kernel_rfl) rfl #[.slice A0 l0.length c0, .slice A1 l1.length c1, .int .i64 a2_0] rfl (by (try simp only [List.map_toArray, List.map_cons, List.map_nil]); first | done | rfl | (simp only [List.length_drop, List.length_take]; rfl)) ?_; (with_reducible refine (potbankref06_Reason.calls k _ _ l0 _ _ l1 a2_0 t354 t357 _ ?side1 ?side2 ?side3 ?side4 A6.out).mono ?_); (case side1 => repeat (first | exact (Kd.C_below HR0.out HB.out) | (with_reducible refine Kd.C_alloc ?_ _) | (with_reducible refine Kd.C_drewN ?_ _) | (with_reducible refine Kd.C_drew ?_))); (case side2 => exact HC0.out); (case side3 => repeat (first | exact (Kd.C_below HR1.out HB.out) | (with_reducible refine Kd.C_alloc ?_ _) | (with_reducible refine Kd.C_drewN ?_ _) | (with_reducible refine Kd.C_drew ?_))); (case side4 => exact HC1.out); rintro e w18 ⟨v355, rfl, ho0, hb⟩; refine ⟨_, rfl, ?_⟩; have n0_ := Aside0.mk (Kd.N_elder' (by (with_reducible repeat (first | apply Kd.N_alloc | apply Kd.N_drewN | apply Kd.N_drew)); exact HO353.out) (Kd.N_base ho0) hb); have n1_ := Aside0.mk (Kd.N_lower (Kd.N_mono (ok' := fun k_ => some k_ ≠ (v352 : Value).ownBlock ∧ k_ ≠ gb348) ho0 (fun k_ hk_ => ⟨(Kd.fresh' (Kd.N_lt (by (with_reducible repeat (first | apply Kd.N_alloc | apply Kd.N_drewN | apply Kd.N_drew)); exact HO353.out)) k_ hk_), (Kd.freshB (g := gb348) (o := .cells #[.int .i64 a2_0, .slice A2_1 l2_1.length c2_1] 26 (0, 0)) (by (with_reducible repeat (first | refine blk_drewN ?_ _ | refine blk_drew ?_ | refine blk_alloc ?_ _)); exact BK348.out) k_ hk_)⟩)) (below_size (by repeat (first | exact HB.out | apply below_alloc | apply pw_below_drewN | apply below_drew1 | refine below_set ?_ GE348.out)))); have n2_ := Aside0.mk (blk_below (g := gb348) (o := .cells #[.int .i64 a2_0, .slice A2_1 l2_1.length c2_1] 26 (0, 0)) (by (with_reducible repeat (first | refine blk_drewN ?_ _ | refine blk_drew ?_ | refine blk_alloc ?_ _)); exact BK348.out) hb); have n3_ := Aside0.mk (below_step (by repeat (first | exact HB.out | apply below_alloc | apply pw_below_drewN | apply below_drew1 | refine below_set ?_ GE348.out)) hb); clear HO353; clear BK348; clear HB; have HO353 := n0_; have HO356 := n1_; have BK348 := n2_; have HB := n3_; clear n0_ n1_ n2_ n3_; (try clear hb); (try clear hb2); (try clear hk); (try clear hi); (try clear ho0); obtain ⟨Ao19, co19, eo19⟩ := Kd.N_slice HO353.out; subst eo19; obtain ⟨Ao20, co20, eo20⟩ := Kd.N_slice HO356.out; subst eo20) | ((with_reducible refine gate_callee (f := 12) rfl ?_); refine goesL_ (some 32) rfl rfl Tryz.func12 (by kernel_rfl) rfl #[.slice Ao19 t350.length co19, .slice Ao20 t354.length co20] rfl (by (try simp only [List.map_toArray, List.map_cons, List.map_nil]); first | done | rfl | (simp only [List.length_drop, List.length_take]; rfl)) ?_; (with_reducible refine (potbankref06_SameSets.calls k _ _ t350 _ _ t354 true _ ?side1 ?side2 ?side3 ?side4 A7.out).mono ?_); (case side1 => repeat (first | exact (Kd.N_reads' HO353.out).2.2 | (with_reducible refine Kd.C_alloc ?_ _) | (with_reducible refine Kd.C_drewN ?_ _) | (with_reducible refine Kd.C_drew ?_))); (case side2 => exact (Kd.N_reads' HO353.out).2.1); (case side3 => repeat (first | exact (Kd.N_reads' HO356.out).2.2 | (with_reducible refine Kd.C_alloc ?_ _) | (with_reducible refine Kd.C_drewN ?_ _) | (with_reducible refine Kd.C_drew ?_))); (case side4 => exact (Kd.N_reads' HO356.out).2.1); rintro e w' ⟨rfl, ⟨nd, rfl⟩⟩; refine ⟨_, rfl, ?_⟩))
    (try (rw [drewN_self w18]; generalize hq_ : World.drewN w18 _ = w18; have n0_ : Aside0 (Kd.N (Kd.slice 3 (Kd.int .i64)) 41 w18 w.heap.size (fun k_ => some k_ ≠ (.slice Ao20 t354.length co20 : Value).ownBlock ∧ k_ ≠ gb348) (.slice Ao19 t350.length co19) t350) := ⟨by rw [← hq_]; exact (by (with_reducible repeat (first | apply Kd.N_alloc | apply Kd.N_drewN | apply Kd.N_drew)); exact Kd.N_mono HO353.out (fun _ hk => ⟨hk.2, hk.1⟩))⟩; have n1_ : Aside0 (Kd.N (Kd.slice 3 (Kd.int .i64)) 41 w18 w.heap.size (fun k_ => some k_ ≠ (.slice Ao19 t350.length co19 : Value).ownBlock ∧ k_ ≠ gb348) (.slice Ao20 t354.length co20) t354) := ⟨by rw [← hq_]; exact (by (with_reducible repeat (first | apply Kd.N_alloc | apply Kd.N_drewN | apply Kd.N_drew)); exact HO356.out)⟩; have n2_ : Aside0 (w18.heap[gb348]? = some (.cells #[.int .i64 a2_0, .slice A2_1 l2_1.length c2_1] 26 (0, 0))) := ⟨by rw [← hq_]; exact (by (with_reducible repeat (first | refine blk_drewN ?_ _ | refine blk_drew ?_ | refine blk_alloc ?_ _)); exact BK348.out)⟩; have n3_ : Aside0 (Below w.heap.size w w18) := ⟨by rw [← hq_]; exact (by repeat (first | exact HB.out | apply below_alloc | apply pw_below_drewN | apply below_drew1 | refine below_set ?_ GE348.out))⟩; clear HO353 HO356 BK348 HB hq_; have HO353 := n0_; have HO356 := n1_; have BK348 := n2_; have HB := n3_; clear n0_ n1_ n2_ n3_))
    have n0_ := Aside0.mk (Kd.N_drew HO353.out)
    have n1_ := Aside0.mk (Kd.N_drew HO356.out)
    have n2_ := Aside0.mk (blk_drew BK348.out)
    have n3_ := Aside0.mk (below_drew1 HB.out)
    clear HO353
    clear HO356
    clear BK348
    clear HB
    have HO353 := n0_
    have HO356 := n1_
    have BK348 := n2_
    have HB := n3_
    clear n0_ n1_ n2_ n3_
    refine start_ (n := 24) (S := fun w' => w'.cell? ⟨gb348, 0, none⟩ = some (.int .i64 a2_0) ∧ w'.cell? ⟨gb348, 1, none⟩ = some (.slice A2_1 l2_1.length c2_1)) (ds := []) #[false, false, false, false, false, false, false, false, false, false, false, false, false, false, false, false, false, false, false, false, false, false, false, false] (by kernel_rfl) rfl rfl ⟨(blk_cell BK348.out 0).trans rfl, (blk_cell BK348.out 1).trans rfl⟩ (fun hHeld => ?_); refine with_tabW potbanklaw06_PlanReasons.tab5 potbanklaw06_PlanReasons.bits5 (fun HT_ HW_ => ?_)
    generalize w18.drew = w21 at HO353 HO356 BK348 HB hHeld ⊢
    refine pure_ (i := 0) (N := some 33) (v := ?_) (a' := ?_) #[true, false, false, false, false, false, false, false, false, false, false, false, false, false, false, false, false, false, false, false, false, false, false, false] rfl rfl (any_of HT_.out (by kernel_rfl)) (fun _ _ _ h => h) (Or.inl ⟨by rfl, ?_⟩) ?_ ?_
    rotate_left
    ·intro w'
     go_simp
     with_reducible rfl
    rotate_left
    ·simp only [Act.put, List.setIfInBounds_toArray, List.set_cons_zero, List.set_cons_succ, i64_w, i32_w]
     rfl
    refine pure_ (i := 1) (N := some 34) (v := ?_) (a' := ?_) #[true, true, false, false, false, false, false, false, false, false, false, false, false, false, false, false, false, false, false, false, false, false, false, false] rfl rfl (any_of HT_.out (by kernel_rfl)) (fun _ _ _ h => h) (Or.inl ⟨by rfl, ?_⟩) ?_ ?_
    rotate_left
    ·intro w'
     go_simp
     with_reducible rfl
    rotate_left
    ·simp only [Act.put, List.setIfInBounds_toArray, List.set_cons_zero, List.set_cons_succ, i64_w, i32_w]
     rfl
    refine pure_ (i := 2) (N := some 35) (v := ?_) (a' := ?_) #[true, true, true, false, false, false, false, false, false, false, false, false, false, false, false, false, false, false, false, false, false, false, false, false] rfl rfl (any_of HT_.out (by kernel_rfl)) (fun _ _ _ h => h) (Or.inl ⟨by rfl, ?_⟩) ?_ ?_
    rotate_left
    ·intro w'
     go_simp
     with_reducible rfl
    rotate_left
    ·simp only [Act.put, List.setIfInBounds_toArray, List.set_cons_zero, List.set_cons_succ, i64_w, i32_w]
     rfl
    refine pure_ (i := 3) (N := some 36) (v := ?_) (a' := ?_) #[true, true, true, true, false, false, false, false, false, false, false, false, false, false, false, false, false, false, false, false, false, false, false, false] rfl rfl (any_of HT_.out (by kernel_rfl)) (fun _ _ _ h => h) (Or.inl ⟨by rfl, ?_⟩) ?_ ?_
    rotate_left
    ·intro w'
     go_simp
     with_reducible rfl
    rotate_left
    ·simp only [Act.put, List.setIfInBounds_toArray, List.set_cons_zero, List.set_cons_succ, i64_w, i32_w]
     rfl
    refine pure_ (i := 4) (N := some 37) (v := ?_) (a' := ?_) #[true, true, true, true, true, false, false, false, false, false, false, false, false, false, false, false, false, false, false, false, false, false, false, false] rfl rfl (any_of HT_.out (by kernel_rfl)) (fun _ _ _ h => h) (Or.inl ⟨by rfl, ?_⟩) ?_ ?_
    rotate_left
    ·intro w'
     go_simp
     with_reducible rfl
    rotate_left
    ·simp only [Act.put, List.setIfInBounds_toArray, List.set_cons_zero, List.set_cons_succ, i64_w, i32_w]
     rfl
    refine pure_ (i := 5) (N := some 38) (v := ?_) (a' := ?_) #[true, true, true, true, true, true, false, false, false, false, false, false, false, false, false, false, false, false, false, false, false, false, false, false] rfl rfl (any_of HT_.out (by kernel_rfl)) (fun _ _ _ h => h) (Or.inl ⟨by rfl, ?_⟩) ?_ ?_
    rotate_left
    ·intro w'
     go_simp
     with_reducible rfl
    rotate_left
    ·simp only [Act.put, List.setIfInBounds_toArray, List.set_cons_zero, List.set_cons_succ, i64_w, i32_w]
     rfl
    refine pure_ (i := 6) (N := some 39) (v := ?_) (a' := ?_) #[true, true, true, true, true, true, true, false, false, false, false, false, false, false, false, false, false, false, false, false, false, false, false, false] rfl rfl (any_of HT_.out (by kernel_rfl)) (fun _ _ _ h => h) (Or.inl ⟨by rfl, ?_⟩) ?_ ?_
    rotate_left
    ·intro w'
     go_simp
     with_reducible rfl
    rotate_left
    ·simp only [Act.put, List.setIfInBounds_toArray, List.set_cons_zero, List.set_cons_succ, i64_w, i32_w]
     rfl
    refine pure_ (i := 7) (N := some 40) (v := ?_) (a' := ?_) #[true, true, true, true, true, true, true, true, false, false, false, false, false, false, false, false, false, false, false, false, false, false, false, false] rfl rfl (any_of HT_.out (by kernel_rfl)) (fun _ _ _ h => h) (Or.inl ⟨by rfl, ?_⟩) ?_ ?_
    rotate_left
    ·intro w'
     go_simp
     with_reducible rfl
    rotate_left
    ·simp only [Act.put, List.setIfInBounds_toArray, List.set_cons_zero, List.set_cons_succ, i64_w, i32_w]
     rfl
    refine pure_ (i := 8) (N := some 41) (v := ?_) (a' := ?_) #[true, true, true, true, true, true, true, true, true, false, false, false, false, false, false, false, false, false, false, false, false, false, false, false] rfl rfl (any_of HT_.out (by kernel_rfl)) (fun _ _ _ h => h) (Or.inl ⟨by rfl, ?_⟩) ?_ ?_
    rotate_left
    ·intro w'
     go_simp
     with_reducible rfl
    rotate_left
    ·simp only [Act.put, List.setIfInBounds_toArray, List.set_cons_zero, List.set_cons_succ, i64_w, i32_w]
     rfl
    refine pure_ (i := 9) (N := some 42) (v := ?_) (a' := ?_) #[true, true, true, true, true, true, true, true, true, true, false, false, false, false, false, false, false, false, false, false, false, false, false, false] rfl rfl (any_of HT_.out (by kernel_rfl)) (fun _ _ _ h => h) (Or.inl ⟨by rfl, ?_⟩) ?_ ?_
    rotate_left
    ·intro w'
     go_simp
     with_reducible rfl
    rotate_left
    ·simp only [Act.put, List.setIfInBounds_toArray, List.set_cons_zero, List.set_cons_succ, i64_w, i32_w]
     rfl
    refine pure_ (i := 10) (N := some 43) (v := ?_) (a' := ?_) #[true, true, true, true, true, true, true, true, true, true, true, false, false, false, false, false, false, false, false, false, false, false, false, false] rfl rfl (any_of HT_.out (by kernel_rfl)) (fun _ _ _ h => h) (Or.inl ⟨by rfl, ?_⟩) ?_ ?_
    rotate_left
    ·intro w'
     go_simp
     with_reducible rfl
    rotate_left
    ·simp only [Act.put, List.setIfInBounds_toArray, List.set_cons_zero, List.set_cons_succ, i64_w, i32_w]
     rfl
    refine pure_ (i := 11) (N := some 44) (v := ?_) (a' := ?_) #[true, true, true, true, true, true, true, true, true, true, true, true, false, false, false, false, false, false, false, false, false, false, false, false] rfl rfl (any_of HT_.out (by kernel_rfl)) (fun _ _ _ h => h) (Or.inl ⟨by rfl, ?_⟩) ?_ ?_
    rotate_left
    ·intro w'
     go_simp
     with_reducible rfl
    rotate_left
    ·simp only [Act.put, List.setIfInBounds_toArray, List.set_cons_zero, List.set_cons_succ, i64_w, i32_w]
     rfl
    refine pure_ (i := 12) (N := some 45) (v := ?_) (a' := ?_) #[true, true, true, true, true, true, true, true, true, true, true, true, true, false, false, false, false, false, false, false, false, false, false, false] rfl rfl (any_of HT_.out (by kernel_rfl)) (fun _ _ _ h => h) (Or.inl ⟨by rfl, ?_⟩) ?_ ?_
    rotate_left
    ·intro w'
     go_simp
     with_reducible rfl
    rotate_left
    ·simp only [Act.put, List.setIfInBounds_toArray, List.set_cons_zero, List.set_cons_succ, i64_w, i32_w]
     rfl
    refine pure_ (i := 14) (N := some 47) (v := ?_) (a' := ?_) #[true, true, true, true, true, true, true, true, true, true, true, true, true, false, true, false, false, false, false, false, false, false, false, false] rfl rfl (any_of HT_.out (by kernel_rfl)) (fun _ _ _ h => h) (Or.inl ⟨by rfl, ?_⟩) ?_ ?_
    rotate_left
    ·intro w'
     go_simp
     with_reducible rfl
    rotate_left
    ·simp only [Act.put, List.setIfInBounds_toArray, List.set_cons_zero, List.set_cons_succ, i64_w, i32_w]
     rfl
    refine pure_ (i := 17) (N := some 50) (v := ?_) (a' := ?_) #[true, true, true, true, true, true, true, true, true, true, true, true, true, false, true, false, false, true, false, false, false, false, false, false] rfl rfl (any_of HT_.out (by kernel_rfl)) (fun _ _ _ h => h) (Or.inl ⟨by rfl, ?_⟩) ?_ ?_
    rotate_left
    ·intro w'
     go_simp
     with_reducible rfl
    rotate_left
    ·simp only [Act.put, List.setIfInBounds_toArray, List.set_cons_zero, List.set_cons_succ, i64_w, i32_w]
     rfl
    refine pure_ (i := 18) (N := some 51) (v := ?_) (a' := ?_) #[true, true, true, true, true, true, true, true, true, true, true, true, true, false, true, false, false, true, true, false, false, false, false, false] rfl rfl (any_of HT_.out (by kernel_rfl)) (fun _ _ _ h => h) (Or.inl ⟨by rfl, ?_⟩) ?_ ?_
    rotate_left
    ·intro w'
     go_simp
     with_reducible rfl
    rotate_left
    ·simp only [Act.put, List.setIfInBounds_toArray, List.set_cons_zero, List.set_cons_succ, i64_w, i32_w]
     rfl
    refine take_ (i := 13) (N := some 46) (v := ?_) (a' := ?_) #[true, true, true, true, true, true, true, true, true, true, true, true, true, true, true, false, false, true, true, false, false, false, false, false] rfl rfl (take_ofW HT_.out HW_.out (by kernel_rfl)) (fun _ _ _ h => h) (Or.inl ⟨by rfl, ?_⟩) hHeld ?_ ?_
    rotate_left
    ·rintro w' ⟨s0, s1⟩
     go_simp
     with_reducible rfl
    rotate_left
    ·simp only [Act.put, List.setIfInBounds_toArray, List.set_cons_zero, List.set_cons_succ, i64_w, i32_w]
     rfl
    refine take_ (i := 15) (N := some 48) (v := ?_) (a' := ?_) #[true, true, true, true, true, true, true, true, true, true, true, true, true, true, true, true, false, true, true, false, false, false, false, false] rfl rfl (take_ofW HT_.out HW_.out (by kernel_rfl)) (fun _ _ _ h => h) (Or.inl ⟨by rfl, ?_⟩) hHeld ?_ ?_
    rotate_left
    ·rintro w' ⟨s0, s1⟩
     go_simp
     with_reducible rfl
    rotate_left
    ·simp only [Act.put, List.setIfInBounds_toArray, List.set_cons_zero, List.set_cons_succ, i64_w, i32_w]
     rfl
    refine take_ (i := 19) (N := some 52) (v := ?_) (a' := ?_) #[true, true, true, true, true, true, true, true, true, true, true, true, true, true, true, true, false, true, true, true, false, false, false, false] rfl rfl (take_ofW HT_.out HW_.out (by kernel_rfl)) (fun _ _ _ h => h) (Or.inl ⟨by rfl, ?_⟩) hHeld ?_ ?_
    rotate_left
    ·rintro w' ⟨s0, s1⟩
     go_simp
     with_reducible rfl
    rotate_left
    ·simp only [Act.put, List.setIfInBounds_toArray, List.set_cons_zero, List.set_cons_succ, i64_w, i32_w]
     rfl
    refine one_ (i := 16) (N := some 49) #[true, true, true, true, true, true, true, true, true, true, true, true, true, true, true, true, true, true, true, true, false, false, false, false] rfl rfl (one_of HT_.out (by kernel_rfl)) (by decide) (fun K hK => ?_)
    refine goes_ Tryz.func13 (by kernel_rfl) rfl #[.slice A0 l0.length c0, .slice A1 l1.length c1, .int .i64 a2_0, .slice A2_1 l2_1.length c2_1] (by rfl) rfl rfl (by (try simp only [List.map_toArray, List.map_cons, List.map_nil]); first | done | rfl | (simp only [List.length_drop, List.length_take]; rfl)) ?_
    with_reducible refine (plan_CheckReason.calls _ _ l0 _ _ l1 a2_0 _ _ l2_1 t359 _ ?side1 ?side2 ?side3 ?side4 ?side5 ?side6 A11.out).mono ?_
    (case side1 => repeat (first | exact (Kd.C_below HR0.out HB.out) | (with_reducible refine Kd.C_alloc ?_ _) | (with_reducible refine Kd.C_drewN ?_ _) | (with_reducible refine Kd.C_drew ?_)))
    (case side2 => exact HC0.out)
    (case side3 => repeat (first | exact (Kd.C_below HR1.out HB.out) | (with_reducible refine Kd.C_alloc ?_ _) | (with_reducible refine Kd.C_drewN ?_ _) | (with_reducible refine Kd.C_drew ?_)))
    (case side4 => exact HC1.out)
    (case side5 => repeat (first | exact (Kd.C_below HR2_1.out HB.out) | (with_reducible refine Kd.C_alloc ?_ _) | (with_reducible refine Kd.C_drewN ?_ _) | (with_reducible refine Kd.C_drew ?_)))
    (case side6 => exact HC2_1.out)
    rintro e w22 ⟨rfl, hb⟩
    refine ⟨_, rfl, ?_⟩
    have n0_ := Aside0.mk (Kd.N_below (by (with_reducible repeat (first | apply Kd.N_alloc | apply Kd.N_drewN | apply Kd.N_drew)); exact HO353.out) hb)
    have n1_ := Aside0.mk (Kd.N_below (by (with_reducible repeat (first | apply Kd.N_alloc | apply Kd.N_drewN | apply Kd.N_drew)); exact HO356.out) hb)
    have n2_ := Aside0.mk (blk_below (g := gb348) (o := .cells #[.int .i64 a2_0, .slice A2_1 l2_1.length c2_1] 26 (0, 0)) (by (with_reducible repeat (first | refine blk_drewN ?_ _ | refine blk_drew ?_ | refine blk_alloc ?_ _)); exact BK348.out) hb)
    have n3_ := Aside0.mk (below_step (by repeat (first | exact HB.out | apply below_alloc | apply pw_below_drewN | apply below_drew1 | refine below_set ?_ GE348.out)) hb)
    clear HO353
    clear HO356
    clear BK348
    clear HB
    have HO353 := n0_
    have HO356 := n1_
    have BK348 := n2_
    have HB := n3_
    clear n0_ n1_ n2_ n3_
    (try clear hb)
    (try clear hb2)
    (try clear hk)
    (try clear hi)
    refine hK.out _ _ ⟨(blk_cell BK348.out 0).trans rfl, (blk_cell BK348.out 1).trans rfl⟩ (fun hHeld => ?_)
    clear hK K
    refine norm_ (a' := ?_) ?_ ?_
    rotate_left
    ·show Act.put _ (some 49) _ = _
     simp only [Act.put, List.setIfInBounds_toArray, List.set_cons_zero, List.set_cons_succ, i64_w, i32_w]
     rfl
    refine one_ (i := 20) (N := some 53) #[true, true, true, true, true, true, true, true, true, true, true, true, true, true, true, true, true, true, true, true, true, false, false, false] rfl rfl (one_of HT_.out (by kernel_rfl)) (by decide) (fun K hK => ?_)
    refine goes_ Tryz.func14 (by kernel_rfl) rfl #[.slice A0 l0.length c0, .slice A1 l1.length c1, .agg #[.int .i64 a2_0, .slice A2_1 l2_1.length c2_1]] (by rfl) rfl rfl (by (try simp only [List.map_toArray, List.map_cons, List.map_nil]); first | done | rfl | (simp only [List.length_drop, List.length_take]; rfl)) ?_
    with_reducible refine (potbankref06_CheckReason.calls k _ _ l0 _ _ l1 a2_0 _ _ l2_1 t360 _ ?side1 ?side2 ?side3 ?side4 ?side5 ?side6 A12.out).mono ?_
    (case side1 => repeat (first | exact (Kd.C_below HR0.out HB.out) | (with_reducible refine Kd.C_alloc ?_ _) | (with_reducible refine Kd.C_drewN ?_ _) | (with_reducible refine Kd.C_drew ?_)))
    (case side2 => exact HC0.out)
    (case side3 => repeat (first | exact (Kd.C_below HR1.out HB.out) | (with_reducible refine Kd.C_alloc ?_ _) | (with_reducible refine Kd.C_drewN ?_ _) | (with_reducible refine Kd.C_drew ?_)))
    (case side4 => exact HC1.out)
    (case side5 => repeat (first | exact (Kd.C_below HR2_1.out HB.out) | (with_reducible refine Kd.C_alloc ?_ _) | (with_reducible refine Kd.C_drewN ?_ _) | (with_reducible refine Kd.C_drew ?_)))
    (case side6 => exact HC2_1.out)
    rintro e w23 ⟨rfl, hb⟩
    refine ⟨_, rfl, ?_⟩
    have n0_ := Aside0.mk (Kd.N_below (by (with_reducible repeat (first | apply Kd.N_alloc | apply Kd.N_drewN | apply Kd.N_drew)); exact HO353.out) hb)
    have n1_ := Aside0.mk (Kd.N_below (by (with_reducible repeat (first | apply Kd.N_alloc | apply Kd.N_drewN | apply Kd.N_drew)); exact HO356.out) hb)
    have n2_ := Aside0.mk (blk_below (g := gb348) (o := .cells #[.int .i64 a2_0, .slice A2_1 l2_1.length c2_1] 26 (0, 0)) (by (with_reducible repeat (first | refine blk_drewN ?_ _ | refine blk_drew ?_ | refine blk_alloc ?_ _)); exact BK348.out) hb)
    have n3_ := Aside0.mk (below_step (by repeat (first | exact HB.out | apply below_alloc | apply pw_below_drewN | apply below_drew1 | refine below_set ?_ GE348.out)) hb)
    clear HO353
    clear HO356
    clear BK348
    clear HB
    have HO353 := n0_
    have HO356 := n1_
    have BK348 := n2_
    have HB := n3_
    clear n0_ n1_ n2_ n3_
    (try clear hb)
    (try clear hb2)
    (try clear hk)
    (try clear hi)
    refine hK.out _ _ ⟨(blk_cell BK348.out 0).trans rfl, (blk_cell BK348.out 1).trans rfl⟩ (fun hHeld => ?_)
    clear hK K
    refine norm_ (a' := ?_) ?_ ?_
    rotate_left
    ·show Act.put _ (some 53) _ = _
     simp only [Act.put, List.setIfInBounds_toArray, List.set_cons_zero, List.set_cons_succ, i64_w, i32_w]
     rfl
    refine pure_ (i := 21) (N := some 54) (v := ?_) (a' := ?_) #[true, true, true, true, true, true, true, true, true, true, true, true, true, true, true, true, true, true, true, true, true, true, false, false] rfl rfl (any_of HT_.out (by kernel_rfl)) (fun _ _ _ h => h) (Or.inl ⟨by rfl, ?_⟩) ?_ ?_
    rotate_left
    ·intro w'
     go_simp
     with_reducible rfl
    rotate_left
    ·simp only [Act.put, List.setIfInBounds_toArray, List.set_cons_zero, List.set_cons_succ, i64_w, i32_w]
     rfl
    refine pure_ (i := 22) (N := some 55) (v := ?_) (a' := ?_) #[true, true, true, true, true, true, true, true, true, true, true, true, true, true, true, true, true, true, true, true, true, true, true, false] rfl rfl (any_of HT_.out (by kernel_rfl)) (fun _ _ _ h => h) (Or.inl ⟨by rfl, ?_⟩) ?_ ?_
    rotate_left
    ·intro w'
     go_simp
     with_reducible rfl
    rotate_left
    ·simp only [Act.put, List.setIfInBounds_toArray, List.set_cons_zero, List.set_cons_succ, i64_w, i32_w]
     rfl
    refine pure_ (i := 23) (N := some 6) (v := ?_) (a' := ?_) #[true, true, true, true, true, true, true, true, true, true, true, true, true, true, true, true, true, true, true, true, true, true, true, true] rfl rfl (any_of HT_.out (by kernel_rfl)) (fun _ _ _ h => h) (Or.inl ⟨by rfl, ?_⟩) ?_ ?_
    rotate_left
    ·intro w'
     go_simp
     with_reducible rfl
    rotate_left
    ·simp only [Act.put, List.setIfInBounds_toArray, List.set_cons_zero, List.set_cons_succ, i64_w, i32_w]
     rfl
    refine done_ (done_of HT_.out (by kernel_rfl)) ?_
    try go_wp2
    go_ret
    exact ⟨by first | rfl | (simp [errW_none, errW_some] <;> rfl) | (simp [*, errW_none, errW_some] <;> rfl), by repeat (first | exact HB.out | apply below_alloc | apply pw_below_drewN | apply below_drew1 | refine below_set ?_ GE348.out)⟩
   ·rw [if_neg c10] at H
    have c10b0 : (t351 == t357) = false := beq_eq_false_iff_ne.mpr c10
    have c10b1 : (t351 != t357) = true := bne_iff_ne.mpr c10
    obtain rfl := Option.some.inj H
    exact absurd HRT_.out (by decide)
  ·replace c9 := Bool.eq_false_iff.mpr c9
   subst c9
   rw [if_neg (show ¬ (false = true) by decide)] at H
   obtain rfl := Option.some.inj H
   exact absurd HRT_.out (by decide)
 ·replace c8 := Bool.eq_false_iff.mpr c8
  subst c8
  rw [if_neg (show ¬ (false = true) by decide)] at H
  obtain rfl := Option.some.inj H
  exact absurd HRT_.out (by decide)
end Go.Proofs.YthonlcnmjlldiaaGreat.P
namespace Go.Proofs.YthonlcnmjlldiaaGreat.P
open Go.RowKit Go.Proofs.YthonlcnmjlldiaaGreatW.PrintWords Go.Proofs.YthonlcnmjlldiaaGreatW.PrintLast Go.Proofs.YthonlcnmjlldiaaGreatW.PrintMore
open Go.ChangeShapes Go.WideShapes Go.Deep
def Opens {α : Type} (P : Program) (t : TypeId) (d : Kd α) : Prop :=
 P.cellsOf t = d.sz ∧ ∀ {H : Type} {enc : TypeId × Value → H} {W : World} {base : Nat} {spare : Nat → Bool} {held : Bool} {fuel : Nat} {cs : List Value} {x : DataW H × List MemPlace},
  DataW.trod enc P W base spare held fuel t cs = some x → ∃ a : α, d.K W a cs
theorem Opens.int {P : Program} {t : TypeId} {k : IntKind} (ht : P.underlying t = some (.int k)) (hc : P.cellsOf t = 1) : Opens P t (Kd.int k) := by
 refine ⟨hc, fun {H enc W base spare held fuel cs x} h => ?_⟩
 obtain ⟨n, rfl, _, _⟩ := DataW.trod_int ht h
 exact ⟨n, rfl⟩
theorem choose_list {α : Type} {p : Nat → α → Prop} : ∀ (n : Nat), (∀ i, i < n → ∃ a, p i a) → ∃ xs : List α, xs.length = n ∧ ∀ i a, xs[i]? = some a → p i a
 | 0, _ => ⟨[], rfl, fun i a h => by simp at h⟩
 | n + 1, h => by
  obtain ⟨xs, hl, hx⟩ := choose_list n (fun i hi => h i (by omega))
  obtain ⟨a, ha⟩ := h n (by omega)
  refine ⟨xs ++ [a], by simp [hl], fun i b hb => ?_⟩
  rw [List.getElem?_append] at hb
  split at hb
  ·exact hx i b hb
  ·have : i = n := by
    rcases Nat.lt_or_ge (i - xs.length) 1 with h1 | h1
    ·omega
    ·rw [List.getElem?_eq_none (by simpa using h1)] at hb
     cases hb
   subst this
   rw [hl, Nat.sub_self] at hb
   simp at hb
   subst hb
   exact ha
theorem Opens.row {α : Type} {P : Program} {t e : TypeId} {d : Kd α} (he : Opens P e d) (ht : P.underlying t = some (.slice e)) {H : Type} {enc : TypeId × Value → H} {W : World} {base : Nat} {spare : Nat → Bool} {held : Bool} {fuel : Nat} {A : Option Addr} {len cap : Nat} {x : DataW H × List MemPlace}
  (h : DataW.trod enc P W base spare held fuel t [.slice A len cap] = some x) : ∃ xs : List α, xs.length = len ∧ len ≤ cap ∧ Kd.C d W A len xs := by
 rcases open_slice ht h with ⟨h0, _⟩ | ⟨a, l, c, m, n, D, Pl, hcs, _, hl, hm, hmm, _, hx⟩
 ·simp only [List.cons.injEq, Value.slice.injEq, and_true] at h0
  obtain ⟨rfl, rfl, rfl⟩ := h0
  exact ⟨[], rfl, Nat.le_refl _, rfl, by omega, fun h => absurd h (Nat.lt_irrefl _)⟩
 ·simp only [List.cons.injEq, Value.slice.injEq, and_true] at hcs
  obtain ⟨rfl, rfl, rfl⟩ := hcs
  have hlm : len ≤ m := by
   rw [hmm]
   split <;> omega
  obtain ⟨xs, hxl, hxs⟩ := choose_list (p := fun i (b : α) => ∃ c, c.length = d.sz ∧ d.K W b c ∧ ∀ j u, c[j]? = some u → W.cell? (a.add (i * d.sz + j)) = some u) len (fun i hi => by
   obtain ⟨cs', h1, h2⟩ := hx i (by omega)
   obtain ⟨b, hb⟩ := he.2 h2
   obtain ⟨_, h3, h4⟩ := World.cells?_some h1
   rw [he.1] at h3 h4
   refine ⟨b, cs', h3, hb, fun j u hu => ?_⟩
   have hj := (List.getElem?_eq_some_iff.1 hu).1
   have h5 := h4 j (by omega)
   rw [Go.Deep.add_add] at h5
   rw [h5, hu])
  exact ⟨xs, hxl, hl, hxl, Nat.le_trans hl (Nat.le_trans hm (by decide)), fun _ => ⟨a, rfl, hxs⟩⟩
theorem Opens.slice {α : Type} {P : Program} {t e : TypeId} {d : Kd α} (he : Opens P e d) (ht : P.underlying t = some (.slice e)) (hc : P.cellsOf t = 1) (q : Nat) : Opens P t (Kd.slice q d) := by
 refine ⟨hc, fun {H enc W base spare held fuel cs x} h => ?_⟩
 have hcs : ∃ A len cap, cs = [.slice A len cap] := by
  rcases open_slice ht h with ⟨h0, _⟩ | ⟨a, l, c, m, n, D, Pl, hcs, _⟩
  ·exact ⟨_, _, _, h0⟩
  ·exact ⟨_, _, _, hcs⟩
 obtain ⟨A, len, cap, rfl⟩ := hcs
 obtain ⟨xs, rfl, hl, hC⟩ := he.row ht h
 exact ⟨xs, A, cap, rfl, hl, hC⟩
theorem list2 {α : Type} : ∀ {l : List α}, l.length = 2 → ∃ a b, l = [a, b]
 | [a, b], _ => ⟨a, b, rfl⟩
theorem list4 {α : Type} : ∀ {l : List α}, l.length = 4 → ∃ a b c d, l = [a, b, c, d]
 | [a, b, c, d], _ => ⟨a, b, c, d, rfl⟩
theorem list5 {α : Type} : ∀ {l : List α}, l.length = 5 → ∃ a b c d e, l = [a, b, c, d, e]
 | [a, b, c, d, e], _ => ⟨a, b, c, d, e, rfl⟩
theorem cells_int : Tryz.prog.cellsOf 3 = 1 := by kernel_rfl
theorem cells_heat : Tryz.prog.cellsOf 68 = 2 := by kernel_rfl
theorem cells_seat : Tryz.prog.cellsOf 70 = 4 := by kernel_rfl
theorem cells_order : Tryz.prog.cellsOf 72 = 5 := by kernel_rfl
theorem opens_int : Opens Tryz.prog 3 (Kd.int .i64) := Opens.int Tryz.underlying3 cells_int
theorem one_int {H : Type} {enc : TypeId × Value → H} {W : World} {base : Nat} {spare : Nat → Bool} {held : Bool} {fuel : Nat} {cs : List Value} {x : DataW H × List MemPlace}
  (h : DataW.trod enc Tryz.prog W base spare held fuel 3 cs = some x) : ∃ n, cs = [.int .i64 n] := by
 obtain ⟨n, e, _⟩ := DataW.trod_int Tryz.underlying3 h
 exact ⟨n, e⟩
theorem opens_heat : Opens Tryz.prog 68 k68 := by
 refine ⟨cells_heat, fun {H enc W base spare held fuel cs x} h => ?_⟩
 obtain ⟨y0, y1, n, _, hl, h0, h1⟩ := trod_struct2 Tryz.underlying68 h
 rw [cells_heat] at hl
 obtain ⟨c0, c1, rfl⟩ := list2 hl
 obtain ⟨n0, e0⟩ := one_int h0
 obtain ⟨n1, e1⟩ := one_int h1
 rw [cells_int] at e0 e1
 obtain ⟨rfl, _⟩ := List.cons.inj e0
 obtain ⟨rfl, _⟩ := List.cons.inj e1
 exact ⟨⟨n0, n1⟩, k68_mk W ⟨n0, n1⟩⟩
theorem opens_seat : Opens Tryz.prog 70 k70 := by
 refine ⟨cells_seat, fun {H enc W base spare held fuel cs x} h => ?_⟩
 obtain ⟨y0, y1, y2, n, _, hl, h0, h1, h2⟩ := trod_struct3 Tryz.underlying70 h
 rw [cells_seat] at hl
 obtain ⟨c0, c1, c2, c3, rfl⟩ := list4 hl
 obtain ⟨s, e0⟩ := opens_heat.2 h0
 have e0 := k68_open e0
 obtain ⟨n1, e1⟩ := one_int h1
 obtain ⟨n2, e2⟩ := one_int h2
 rw [cells_int] at e1 e2
 rw [cells_heat] at e0
 simp only [List.drop, List.take, List.cons.injEq, and_true] at e0 e1 e2
 obtain ⟨rfl, rfl⟩ := e0
 subst e1
 subst e2
 exact ⟨⟨s, n1, n2⟩, k70_mk W ⟨s, n1, n2⟩⟩
theorem opens_order : Opens Tryz.prog 72 k72 := by
 refine ⟨cells_order, fun {H enc W base spare held fuel cs x} h => ?_⟩
 obtain ⟨y0, y1, y2, y3, n, _, hl, h0, h1, h2, h3⟩ := Go.Joins.trod_struct4 Tryz.underlying72 h
 rw [cells_order] at hl
 obtain ⟨c0, c1, c2, c3, c4, rfl⟩ := list5 hl
 obtain ⟨n0, e0⟩ := one_int h0
 obtain ⟨n1, e1⟩ := one_int h1
 obtain ⟨s, e2⟩ := opens_heat.2 h2
 have e2 := k68_open e2
 obtain ⟨n3, e3⟩ := one_int h3
 rw [cells_int] at e0 e1 e3
 rw [cells_heat] at e2
 simp only [List.drop, List.take, List.cons.injEq, and_true] at e0 e1 e2 e3
 obtain ⟨rfl, rfl⟩ := e2
 subst e0
 subst e1
 subst e3
 exact ⟨⟨n0, n1, s, n3⟩, k72_mk W ⟨n0, n1, s, n3⟩⟩
theorem cells_ints : Tryz.prog.cellsOf 41 = 1 := by kernel_rfl
theorem cells_sets : Tryz.prog.cellsOf 24 = 1 := by kernel_rfl
theorem opens_ints : Opens Tryz.prog 41 (Kd.slice 3 (Kd.int .i64)) := opens_int.slice Tryz.underlying41 cells_ints _
theorem is_slice {P : Program} {t e : TypeId} (ht : P.underlying t = some (.slice e)) {H : Type} {enc : TypeId × Value → H} {W : World} {base : Nat} {spare : Nat → Bool} {held : Bool} {fuel : Nat} {cs : List Value} {x : DataW H × List MemPlace}
  (h : DataW.trod enc P W base spare held fuel t cs = some x) : ∃ A len cap, cs = [.slice A len cap] := by
 rcases open_slice ht h with ⟨h0, _⟩ | ⟨a, l, c, m, n, D, Pl, hcs, _⟩
 ·exact ⟨_, _, _, h0⟩
 ·exact ⟨_, _, _, hcs⟩
theorem opens_shown {H : Type} {enc : TypeId × Value → H} {W : World} {base : Nat} {spare : Nat → Bool} {held : Bool} {fuel : Nat} {cs : List Value} {x : DataW H × List MemPlace}
  (h : DataW.trod enc Tryz.prog W base spare held fuel 26 cs = some x) : ∃ (n : Int) (A : Option Addr) (cap : Nat) (sets : List (List Int)), cs = [.int .i64 n, .slice A sets.length cap] ∧ sets.length ≤ cap ∧ Kd.C (Kd.slice 3 (Kd.int .i64)) W A sets.length sets := by
 obtain ⟨y0, y1, n, _, hl, h0, h1⟩ := trod_struct2 Tryz.underlying26 h
 rw [show Tryz.prog.cellsOf 26 = 2 by kernel_rfl] at hl
 obtain ⟨c0, c1, rfl⟩ := list2 hl
 obtain ⟨n0, e0⟩ := one_int h0
 obtain ⟨A, len, cap, e1⟩ := is_slice Tryz.underlying24 h1
 rw [e1] at h1
 obtain ⟨xs, rfl, hc, hC⟩ := opens_ints.row Tryz.underlying24 h1
 rw [cells_int] at e0
 rw [cells_sets] at e1
 simp only [List.drop, List.take, List.cons.injEq, and_true] at e0 e1
 subst e0
 subst e1
 exact ⟨n0, A, cap, xs, rfl, hc, hC⟩
end Go.Proofs.YthonlcnmjlldiaaGreat.P
namespace Go.Proofs.YthonlcnmjlldiaaGreat.planReasons
open Go.ChangeShapes Go.WideShapes Go.ChangeAt Go.RowKit
open Go.Proofs.YthonlcnmjlldiaaGreat.P
theorem own : ownKnob Tryz.prog.godebug = none := by kernel_rfl
theorem laidOut : laidOutB Tryz.prog = true := by kernel_rfl
set_option maxRecDepth 100000 in
theorem lifted (os : Os) (started : os.Started) (H : Type) (enc : TypeId × Value → H) :
  ReturnsInHanded {} Tryz.checked os 3 .any (Rows.planReasonsSpec.pre6 enc Tryz.prog Tryz.f3 Rows.planReasonsRow.domain false) (Rows.planReasonsSpec.post enc Tryz.prog Tryz.f3 false true false false) := by
 refine returnsInHanded_of_change_sized (C := Tryz.checked) own started (by kernel_rfl) Tryz.func3
  (ChangeSpec.witness6 (enc := enc) (C := Tryz.checked) false ⟨#[], #[.slice none 0 0, .slice none 0 0, .agg #[.int .i64 0, .slice none 0 0]], []⟩ 8 (by kernel_rfl) (by kernel_rfl) (by kernel_rfl) (by kernel_rfl)) ?_
 intro W base args ds gs before hval0 hW hcnd hsz0 _
 have hval : ∀ (j : Nat) t v, Tryz.f3.params[j]? = some t → args[j]? = some v → Value.okWide Tryz.prog W .any base t v := hval0
 have hW' := hW
 obtain ⟨p, q, hA0, hV, rfl, hfz, hnd⟩ := hW
 have hA : DataW.TrodAll enc Tryz.prog W 0 (fun _ => true) true Tryz.f3.params.toList args.toList ds p := hA0
 rw [Tryz.params3] at hA hval
 obtain ⟨v0, vs0, d0, ds0, p0, q0, hargs, rfl, rfl, h0, r0⟩ := trodAll_cons hA
 obtain ⟨v1, vs1, d1, ds1, p1, q1, rfl, rfl, rfl, h1, r1⟩ := trodAll_cons r0
 obtain ⟨v2, vs2, d2, ds2, p2, q2, rfl, rfl, rfl, h2, r2⟩ := trodAll_cons r1
 obtain ⟨rfl, rfl, rfl⟩ := trodAll_nil r2
 obtain rfl : args = #[v0, v1, v2] := by cases args; simp_all
 obtain ⟨rfl, rfl⟩ := trodVars_none hV
 obtain ⟨a0, len0, cap0, rfl⟩ := okWide_slice Tryz.underlying22 (hval 0 22 v0 rfl rfl)
 obtain ⟨a1, len1, cap1, rfl⟩ := okWide_slice Tryz.underlying23 (hval 1 23 v1 rfl rfl)
 obtain ⟨cs2, rfl, _⟩ := okWide_struct Tryz.underlying26 (hval 2 26 v2 rfl rfl)
 have k0 := h0
 have k1 := h1
 have k2 := h2
 have lt0 : ∀ x ∈ p0, x.block < W.heap.size := by obtain ⟨m, hm⟩ := k0; exact DataW.trod_lt m _ _ _ hm
 have lt1 : ∀ x ∈ p1, x.block < W.heap.size := by obtain ⟨m, hm⟩ := k1; exact DataW.trod_lt m _ _ _ hm
 have lt2 : ∀ x ∈ p2, x.block < W.heap.size := by obtain ⟨m, hm⟩ := k2; exact DataW.trod_lt m _ _ _ hm
 obtain ⟨m0, hm0⟩ := h0
 obtain ⟨m1, hm1⟩ := h1
 obtain ⟨m2, hm2⟩ := h2
 obtain ⟨l0, rfl, hc0, hr0⟩ := opens_seat.row Tryz.underlying22 hm0
 obtain ⟨l1, rfl, hc1, hr1⟩ := opens_order.row Tryz.underlying23 hm1
 obtain ⟨n2, A2, cap2, l2, e2, hc2, hr2⟩ := opens_shown hm2
 obtain rfl : cs2 = #[.int .i64 n2, .slice A2 l2.length cap2] := by
  have e3 : cs2.toList = [.int .i64 n2, .slice A2 l2.length cap2] := e2
  cases cs2
  simp_all
 clear hA0 hval0 hsz0
 obtain ⟨k, h⟩ := planReasons_true l0 l1 n2 l2
 refine (potbanklaw06_PlanReasons.callsT k _ _ l0 _ _ l1 n2 _ _ l2 true rfl W hr0 hc0 hr1 hc1 hr2 hc2 h).mono ?_
 rintro e W' ⟨rfl, bel⟩
 exact ⟨_, rfl, _, _, _, [], _, [], hW', trodAll_mk1 (shut_bool Tryz.underlying4 _), (trodAll_cons_mk (Below.trod laidOut (by kernel_rfl) (of_decide_eq_true (by kernel_rfl)) k0 bel lt0) (trodAll_cons_mk (Below.trod laidOut (by kernel_rfl) (of_decide_eq_true (by kernel_rfl)) k1 bel lt1) (trodAll_cons_mk (Below.trod laidOut (by kernel_rfl) (of_decide_eq_true (by kernel_rfl)) k2 bel lt2) trodAll_mk0))), rfl, bel.frame _, fun h => by cases h⟩
theorem over : Rows.planReasonsRow.holds Tryz.pinned (OpenSpec.ofChange Rows.planReasonsSpec) :=
 OpenClaim.holds_of_wide 3 Tryz.f3 rfl rfl rfl rfl rfl rfl rfl ⟨rfl, rfl, rfl, rfl, rfl⟩ rfl rfl rfl rfl rfl (by kernel_rfl) Tryz.func3 (by kernel_rfl)
  (of_decide_eq_true (by kernel_rfl)) (by unfold Func.isWrapper; first | (rw [if_pos (by decide +kernel)]; kernel_rfl) | (rw [if_neg (by decide +kernel)]; exact ⟨rfl, rfl⟩))
  (fun os started H enc _ => lifted os started H enc)
theorem proved : Rows.PlanReasonsSaid := over
end Go.Proofs.YthonlcnmjlldiaaGreat.planReasons
namespace Go.Proofs.YthonlcnmjlldiaaGreat
theorem planReasons_holds : Rows.PlanReasonsSaid := planReasons.proved
end Go.Proofs.YthonlcnmjlldiaaGreat
