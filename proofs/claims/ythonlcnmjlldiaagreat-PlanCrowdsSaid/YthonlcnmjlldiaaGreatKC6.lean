/- potbanklaw06.PlanCrowds returns true for every input, and what comes in reads as it did. Conditions: none. Part 6 of the proof: its own texts, joined, and of the kit's printed words those that it uses. -/
import Derived.Test.YthonlcnmjlldiaaGreatKC1
import Derived.Test.YthonlcnmjlldiaaGreatKC2
import Derived.Test.YthonlcnmjlldiaaGreatKC3
import Derived.Test.YthonlcnmjlldiaaGreatKC4
import Derived.Test.YthonlcnmjlldiaaGreatKC5
import Derived.Deep.Slices
import Derived.Lib.SmallJoins
namespace Go.Proofs.YthonlcnmjlldiaaGreat.P
open Go.RowKit Go.Proofs.YthonlcnmjlldiaaGreatW.PrintWords Go.Proofs.YthonlcnmjlldiaaGreatW.PrintLast Go.Proofs.YthonlcnmjlldiaaGreatW.PrintMore
attribute [local go_sem] max2_int min2_int max_two min_two max_three min_three max_four min_four
set_option linter.unusedVariables false
set_option linter.unusedSimpArgs false
def potbankref06_put.l0 : Nat → List (List Int) → List Int → Int → Option ((List (List Int)))
  | 0, _, _, _ => none
  | k + 1, x0, x1, x5 => if x5 < (x0.length : Int) then (if 0 ≤ x5 then ((potbankref06_ahead.f k (rd_L5 x0 x5) x1).bind fun t247 => (if t247 = true then (potbankref06_put.l0 k x0 x1 (wrap64 (x5 + 1))) else ((some (([] : List (List Int)) : List (List Int))).bind fun y248 => (if x5 ≤ (x0.length : Int) then ((some (x0.take (x5 : Int).toNat : List (List Int))).bind fun y251 => (if y248.length + y251.length < 5864062014805 then ((some (y248 ++ y251 : List (List Int))).bind fun y256 => ((some (([x1] : List (List Int)) : List (List Int))).bind fun y259 => (if y256.length + y259.length < 5864062014805 then ((some (y256 ++ y259 : List (List Int))).bind fun y262 => ((some (x0.drop (x5 : Int).toNat : List (List Int))).bind fun y265 => (if y262.length + y265.length < 5864062014805 then (some (y262 ++ y265)) else (none)))) else (none)))) else (none))) else (none))))) else (none)) else ((some (([] : List (List Int)) : List (List Int))).bind fun y273 => (if 0 ≤ x5 then (if x5 ≤ (x0.length : Int) then ((some (x0.take (x5 : Int).toNat : List (List Int))).bind fun y276 => (if y273.length + y276.length < 5864062014805 then ((some (y273 ++ y276 : List (List Int))).bind fun y281 => ((some (([x1] : List (List Int)) : List (List Int))).bind fun y284 => (if y281.length + y284.length < 5864062014805 then ((some (y281 ++ y284 : List (List Int))).bind fun y287 => ((some (x0.drop (x5 : Int).toNat : List (List Int))).bind fun y290 => (if y287.length + y290.length < 5864062014805 then (some (y287 ++ y290)) else (none)))) else (none)))) else (none))) else (none)) else (none)))
def potbankref06_put.f (k : Nat) (l0 : List (List Int)) (l1 : List Int) : Option ((List (List Int))) := potbankref06_put.l0 k l0 l1 0
def potbankref06_put.T4 : Bool × List (List Nat × List Nat) := (true, [([], []), ([], []), ([], []), ([1, 2], [1, 2]), ([0, 3], [0, 3]), ([], []), ([5], [5]), ([4, 6, 4], [4, 6]), ([], []), ([], []), ([8, 9], [8, 9]), ([7, 10, 7], [7, 10]), ([11, 11, 0, 1, 2, 3, 4, 5, 6, 7, 8, 9, 10, 11], [11])])
def potbankref06_put.B4 : List Nat := [0, 0, 0, 6, 15, 0, 32, 127, 0, 0, 768, 2047, 4095]
theorem potbankref06_put.tab4 : rtab .any (opsOf Tryz.f98 4) = potbankref06_put.T4 := by kernel_rfl
theorem potbankref06_put.bits4 : waitsOk potbankref06_put.T4.2 potbankref06_put.B4 = true := by kernel_rfl
set_option maxHeartbeats 8000000 in
set_option maxRecDepth 100000 in
theorem potbankref06_put.calls (k : Nat) (P0_ : Nat → Prop) (A0 : Option Addr) (c0 : Nat) (l0 : List (List Int)) (P1_ : Nat → Prop) (A1 : Option Addr) (c1 : Nat) (l1 : List Int) (r : List (List Int)) (w : World) (hs0 : Kd.V (Kd.slice 3 (Kd.int .i64)) 41 w w.heap.size (fun k_ => P0_ k_) (.slice A0 l0.length c0) l0) (hs1 : Kd.V (Kd.int .i64) 3 w w.heap.size (fun k_ => P1_ k_) (.slice A1 l1.length c1) l1) (h : potbankref06_put.f k l0 l1 = some r) :
    Calls Tryz.prog 98 #[.slice A0 l0.length c0, .slice A1 l1.length c1] w fun e w' => ∃ v0_ : Value, e = .returned (v0_) ∧ Kd.N (Kd.slice 3 (Kd.int .i64)) 41 w' w.heap.size (fun k_ => ((P0_ k_ ∨ P1_ k_) ∨ w.heap.size ≤ k_)) v0_ r ∧ Below w.heap.size w w' := by
  have HO0 := Aside0.mk (show Kd.V (Kd.slice 3 (Kd.int .i64)) 41 w w.heap.size (fun k_ => ((P0_ k_ ∨ P1_ k_) ∨ w.heap.size ≤ k_)) (.slice A0 l0.length c0) l0 from Kd.V_mono hs0 (fun k_ hk => .inl (.inl hk)))
  have HO1 := Aside0.mk (show Kd.V (Kd.int .i64) 3 w w.heap.size (fun k_ => ((P0_ k_ ∨ P1_ k_) ∨ w.heap.size ≤ k_)) (.slice A1 l1.length c1) l1 from Kd.V_mono hs1 (fun k_ hk => .inl (.inr hk)))
  have HB := Aside0.mk (Below.refl w.heap.size w)
  have H : (potbankref06_put.l0 k l0 l1 0) = some r := h
  clear h
  have H' := Aside0.mk H
  clear H
  go_enter Tryz.func98, Tryz.ntmps98
  go_wp2
  go_loopg [5] k (fun kq v5 w' => ∃ (x5_1 : Int), v5 = .int .i64 x5_1 ∧ Aside0 (potbankref06_put.l0 kq l0 l1 x5_1 = some r) ∧ Aside0 (kq ≤ k) ∧ Aside0 (Kd.V (Kd.slice 3 (Kd.int .i64)) 41 w' w.heap.size (fun k_ => ((P0_ k_ ∨ P1_ k_) ∨ w.heap.size ≤ k_)) (.slice A0 l0.length c0) l0) ∧ Aside0 (Kd.V (Kd.int .i64) 3 w' w.heap.size (fun k_ => ((P0_ k_ ∨ P1_ k_) ∨ w.heap.size ≤ k_)) (.slice A1 l1.length c1) l1) ∧ Aside0 (Below w.heap.size w w'))
  case atStart => exact ⟨(0), (by first | rfl | (simp; done) | (simp [*]; done)), H', ⟨Nat.le_refl _⟩, ⟨by (with_reducible repeat (first | apply Kd.V_alloc | apply Kd.V_drewN | apply Kd.V_drew)); exact HO0.out⟩, ⟨by (with_reducible repeat (first | apply Kd.V_alloc | apply Kd.V_drewN | apply Kd.V_drew)); exact HO1.out⟩, ⟨by repeat (first | (with_reducible first | exact HB.out | apply below_alloc | apply pw_below_drewN | apply below_drew1) | exact HB.out)⟩⟩
  case round =>
    clear H'
    try clear c1
    try clear p2
    obtain ⟨x5_1, rfl, HA, HK1, HO_0, HO_1, HB⟩ := hrel
    cases gk with
    | zero => exact absurd HA.out (by simp [potbankref06_put.l0])
    | succ k1 =>
      have H := HA.out
      clear HA
      simp only [potbankref06_put.l0] at H
      by_cases c3 : x5_1 < (l0.length : Int)
      · rw [if_pos c3] at H
        have c3b0 : decide (x5_1 < (l0.length : Int)) = true := decide_eq_true c3
        clear c3
        by_cases c4 : 0 ≤ x5_1
        · rw [if_pos c4] at H
          have c4b0 : decide (0 ≤ x5_1) = true := decide_eq_true c4
          clear c4
          replace H := Option.bind_eq_some_iff.mp H
          obtain ⟨t247, A50, H⟩ := H
          replace H : (if t247 = true then (potbankref06_put.l0 k1 l0 l1 (wrap64 (x5_1 + 1))) else ((some (([] : List (List Int)) : List (List Int))).bind fun y248 => (if x5_1 ≤ (l0.length : Int) then ((some (l0.take (x5_1 : Int).toNat : List (List Int))).bind fun y251 => (if y248.length + y251.length < 5864062014805 then ((some (y248 ++ y251 : List (List Int))).bind fun y256 => ((some (([l1] : List (List Int)) : List (List Int))).bind fun y259 => (if y256.length + y259.length < 5864062014805 then ((some (y256 ++ y259 : List (List Int))).bind fun y262 => ((some (l0.drop (x5_1 : Int).toNat : List (List Int))).bind fun y265 => (if y262.length + y265.length < 5864062014805 then (some (y262 ++ y265)) else (none)))) else (none)))) else (none))) else (none)))) = some r := H
          have A5 := Aside0.mk A50
          clear A50
          by_cases c6 : t247 = true
          · subst c6
            have H1 : (potbankref06_put.l0 k1 l0 l1 (wrap64 (x5_1 + 1))) = some r := by rw [if_pos rfl] at H; exact H
            clear H
            have H := H1
            clear H1
            have H' := Aside0.mk H
            clear H
            have p246 : 0 ≤ (x5_1 : Int) := of_decide_eq_true (by first | (with_reducible assumption) | assumption)
            have q246 : x5_1 < (l0.length : Int) := of_decide_eq_true (by first | (with_reducible assumption) | assumption)
            obtain ⟨ad246, A246_0, c246_0, e246, hx246_0, hl246_0, hi246_0⟩ := at_L5 (Kd.V_reads' HO_0.out).2.2 x5_1 p246 q246
            cases e246
            obtain ⟨ce246, hce246, hMe246, hcc246⟩ := Kd.V_get HO_0.out [] x5_1 p246 (by first | exact q246 | exact of_decide_eq_true (by first | (with_reducible assumption) | assumption) | (have e_ := (Kd.V_reads' HO_0.out).1; omega))
            obtain ⟨ua246_0, uc246_0, rfl, ul246_0, ge246_0⟩ := Kd.FK_slice_open hMe246
            have hv246_0 := hcc246 0 _ rfl
            rw [Nat.add_zero, show ((Kd.slice 3 (Kd.int .i64))).sz = 1 from rfl, Nat.mul_one] at hv246_0
            replace hv246_0 := Option.some.inj (hv246_0.symm.trans hx246_0)
            injection hv246_0 with hva_ hvn_ hvc_
            rw [hva_] at ge246_0
            rw [hvc_] at ul246_0
            have HL246_0 := Aside0.mk (show Kd.V (Kd.int .i64) 3 _ w.heap.size _ _ (rd_L5 l0 x5_1) from Kd.V_mk ul246_0 ge246_0)
            clear hva_ hvn_ hvc_ ge246_0 ul246_0
            clear hcc246 hce246
            have HR246_0 := Aside0.mk hi246_0
            have HC246_0 := Aside0.mk hl246_0
            clear hi246_0 hl246_0
            replace p246 := eq_true p246
            replace q246 := eq_true q246
            go_wp2_with (first | (go_at_call 76; (with_reducible refine (potbankref06_ahead.calls k1 _ _ (rd_L5 l0 x5_1) _ _ l1 true _ ?side1 ?side2 ?side3 ?side4 A5.out).mono ?_); (case side1 => repeat (first | exact (by repeat (first | (with_reducible exact HR246_0.out) | (with_reducible refine Kd.C_alloc ?_ _) | (with_reducible refine Kd.C_drewN ?_ _) | (with_reducible refine Kd.C_drew ?_) | exact HR246_0.out)) | (with_reducible refine Kd.C_alloc ?_ _) | (with_reducible refine Kd.C_drewN ?_ _) | (with_reducible refine Kd.C_drew ?_))); (case side2 => exact HC246_0.out); (case side3 => repeat (first | exact (Kd.V_reads' HO_1.out).2.2 | (with_reducible refine Kd.C_alloc ?_ _) | (with_reducible refine Kd.C_drewN ?_ _) | (with_reducible refine Kd.C_drew ?_))); (case side4 => exact (Kd.V_reads' HO_1.out).2.1); rintro e w' ⟨rfl, ⟨nd, rfl⟩⟩))
            go_roundg k1
            case measure => have := HK1.out; omega
            case rel => exact ⟨(wrap64 (x5_1 + 1)), (by first | rfl | (simp; done) | (simp [*]; done)), H', ⟨by have := HK1.out; omega⟩, ⟨by (with_reducible repeat (first | apply Kd.V_alloc | apply Kd.V_drewN | apply Kd.V_drew)); exact HO_0.out⟩, ⟨by (with_reducible repeat (first | apply Kd.V_alloc | apply Kd.V_drewN | apply Kd.V_drew)); exact HO_1.out⟩, ⟨by repeat (first | (with_reducible first | exact HB.out | apply below_alloc | apply pw_below_drewN | apply below_drew1) | exact HB.out)⟩⟩
          · replace c6 := Bool.eq_false_iff.mpr c6
            subst c6
            have H1 : ((some (([] : List (List Int)) : List (List Int))).bind fun y248 => (if x5_1 ≤ (l0.length : Int) then ((some (l0.take (x5_1 : Int).toNat : List (List Int))).bind fun y251 => (if y248.length + y251.length < 5864062014805 then ((some (y248 ++ y251 : List (List Int))).bind fun y256 => ((some (([l1] : List (List Int)) : List (List Int))).bind fun y259 => (if y256.length + y259.length < 5864062014805 then ((some (y256 ++ y259 : List (List Int))).bind fun y262 => ((some (l0.drop (x5_1 : Int).toNat : List (List Int))).bind fun y265 => (if y262.length + y265.length < 5864062014805 then (some (y262 ++ y265)) else (none)))) else (none)))) else (none))) else (none))) = some r := by rw [if_neg (show ¬ (false = true) by decide)] at H; exact H
            clear H
            have H := H1
            clear H1
            obtain ⟨y248, hy248⟩ : ∃ y_ : List (List Int), y_ = (([] : List (List Int))) := ⟨_, rfl⟩
            replace H : (if x5_1 ≤ (l0.length : Int) then ((some (l0.take (x5_1 : Int).toNat : List (List Int))).bind fun y251 => (if y248.length + y251.length < 5864062014805 then ((some (y248 ++ y251 : List (List Int))).bind fun y256 => ((some (([l1] : List (List Int)) : List (List Int))).bind fun y259 => (if y256.length + y259.length < 5864062014805 then ((some (y256 ++ y259 : List (List Int))).bind fun y262 => ((some (l0.drop (x5_1 : Int).toNat : List (List Int))).bind fun y265 => (if y262.length + y265.length < 5864062014805 then (some (y262 ++ y265)) else (none)))) else (none)))) else (none))) else (none)) = some r := by first | (rw [hy248]; with_reducible exact H) | (have H2_ := (Option.bind_some _ _).symm.trans H; rw [hy248]; with_reducible exact H2_) | (have H2_ := (Option.bind_some _ _).symm.trans H; with_reducible exact H2_) | with_reducible exact H | (rw [hy248]; exact H) | exact H
            have Ny248 := Aside0.mk hy248
            clear hy248
            have c7b0 := eq_true (of_decide_eq_true (by first | (with_reducible assumption) | assumption) : 0 ≤ x5_1)
            by_cases c8 : x5_1 ≤ (l0.length : Int)
            · rw [if_pos c8] at H
              have c8b0 := eq_true c8
              have c8b1 : decide (x5_1 ≤ (l0.length : Int)) = true := decide_eq_true c8
              clear c8
              obtain ⟨y251, hy251⟩ : ∃ y_ : List (List Int), y_ = (l0.take (x5_1 : Int).toNat) := ⟨_, rfl⟩
              replace H : (if y248.length + y251.length < 5864062014805 then ((some (y248 ++ y251 : List (List Int))).bind fun y256 => ((some (([l1] : List (List Int)) : List (List Int))).bind fun y259 => (if y256.length + y259.length < 5864062014805 then ((some (y256 ++ y259 : List (List Int))).bind fun y262 => ((some (l0.drop (x5_1 : Int).toNat : List (List Int))).bind fun y265 => (if y262.length + y265.length < 5864062014805 then (some (y262 ++ y265)) else (none)))) else (none)))) else (none)) = some r := by first | (rw [hy251]; with_reducible exact H) | (have H2_ := (Option.bind_some _ _).symm.trans H; rw [hy251]; with_reducible exact H2_) | (have H2_ := (Option.bind_some _ _).symm.trans H; with_reducible exact H2_) | with_reducible exact H | (rw [hy251]; exact H) | exact H
              have Ny251 := Aside0.mk hy251
              clear hy251
              by_cases c9 : y248.length + y251.length < 5864062014805
              · rw [if_pos c9] at H
                have LMc9 := Aside0.mk c9
                clear c9
                obtain ⟨y256, hy256⟩ : ∃ y_ : List (List Int), y_ = (y248 ++ y251) := ⟨_, rfl⟩
                replace H : ((some (([l1] : List (List Int)) : List (List Int))).bind fun y259 => (if y256.length + y259.length < 5864062014805 then ((some (y256 ++ y259 : List (List Int))).bind fun y262 => ((some (l0.drop (x5_1 : Int).toNat : List (List Int))).bind fun y265 => (if y262.length + y265.length < 5864062014805 then (some (y262 ++ y265)) else (none)))) else (none))) = some r := by first | (rw [hy256]; with_reducible exact H) | (have H2_ := (Option.bind_some _ _).symm.trans H; rw [hy256]; with_reducible exact H2_) | (have H2_ := (Option.bind_some _ _).symm.trans H; with_reducible exact H2_) | with_reducible exact H | (rw [hy256]; exact H) | exact H
                have Ny256 := Aside0.mk hy256
                clear hy256
                obtain ⟨y259, hy259⟩ : ∃ y_ : List (List Int), y_ = (([l1] : List (List Int))) := ⟨_, rfl⟩
                replace H : (if y256.length + y259.length < 5864062014805 then ((some (y256 ++ y259 : List (List Int))).bind fun y262 => ((some (l0.drop (x5_1 : Int).toNat : List (List Int))).bind fun y265 => (if y262.length + y265.length < 5864062014805 then (some (y262 ++ y265)) else (none)))) else (none)) = some r := by first | (rw [hy259]; with_reducible exact H) | (have H2_ := (Option.bind_some _ _).symm.trans H; rw [hy259]; with_reducible exact H2_) | (have H2_ := (Option.bind_some _ _).symm.trans H; with_reducible exact H2_) | with_reducible exact H | (rw [hy259]; exact H) | exact H
                have Ny259 := Aside0.mk hy259
                clear hy259
                by_cases c10 : y256.length + y259.length < 5864062014805
                · rw [if_pos c10] at H
                  have LMc10 := Aside0.mk c10
                  clear c10
                  obtain ⟨y262, hy262⟩ : ∃ y_ : List (List Int), y_ = (y256 ++ y259) := ⟨_, rfl⟩
                  replace H : ((some (l0.drop (x5_1 : Int).toNat : List (List Int))).bind fun y265 => (if y262.length + y265.length < 5864062014805 then (some (y262 ++ y265)) else (none))) = some r := by first | (rw [hy262]; with_reducible exact H) | (have H2_ := (Option.bind_some _ _).symm.trans H; rw [hy262]; with_reducible exact H2_) | (have H2_ := (Option.bind_some _ _).symm.trans H; with_reducible exact H2_) | with_reducible exact H | (rw [hy262]; exact H) | exact H
                  have Ny262 := Aside0.mk hy262
                  clear hy262
                  have c11b0 := eq_true (of_decide_eq_true (by first | (with_reducible assumption) | assumption) : 0 ≤ x5_1)
                  have c12b0 := eq_true (of_decide_eq_true (by first | (with_reducible assumption) | assumption) : x5_1 ≤ (l0.length : Int))
                  obtain ⟨y265, hy265⟩ : ∃ y_ : List (List Int), y_ = (l0.drop (x5_1 : Int).toNat) := ⟨_, rfl⟩
                  replace H : (if y262.length + y265.length < 5864062014805 then (some (y262 ++ y265)) else (none)) = some r := by first | (rw [hy265]; with_reducible exact H) | (have H2_ := (Option.bind_some _ _).symm.trans H; rw [hy265]; with_reducible exact H2_) | (have H2_ := (Option.bind_some _ _).symm.trans H; with_reducible exact H2_) | with_reducible exact H | (rw [hy265]; exact H) | exact H
                  have Ny265 := Aside0.mk hy265
                  clear hy265
                  by_cases c13 : y262.length + y265.length < 5864062014805
                  · rw [if_pos c13] at H
                    have LMc13 := Aside0.mk c13
                    clear c13
                    obtain ⟨y270, hy270⟩ : ∃ y_ : List (List Int), y_ = (y262 ++ y265) := ⟨_, rfl⟩
                    replace H : (some y270) = some r := by first | (rw [hy270]; with_reducible exact H) | (have H2_ := (Option.bind_some _ _).symm.trans H; rw [hy270]; with_reducible exact H2_) | (have H2_ := (Option.bind_some _ _).symm.trans H; with_reducible exact H2_) | with_reducible exact H | (rw [hy270]; exact H) | exact H
                    have Ny270 := Aside0.mk hy270
                    clear hy270
                    obtain rfl := Option.some.inj H
                    have p246 : 0 ≤ (x5_1 : Int) := of_decide_eq_true (by first | (with_reducible assumption) | assumption)
                    have q246 : x5_1 < (l0.length : Int) := of_decide_eq_true (by first | (with_reducible assumption) | assumption)
                    obtain ⟨ad246, A246_0, c246_0, e246, hx246_0, hl246_0, hi246_0⟩ := at_L5 (Kd.V_reads' HO_0.out).2.2 x5_1 p246 q246
                    cases e246
                    obtain ⟨ce246, hce246, hMe246, hcc246⟩ := Kd.V_get HO_0.out [] x5_1 p246 (by first | exact q246 | exact of_decide_eq_true (by first | (with_reducible assumption) | assumption) | (have e_ := (Kd.V_reads' HO_0.out).1; omega))
                    obtain ⟨ua246_0, uc246_0, rfl, ul246_0, ge246_0⟩ := Kd.FK_slice_open hMe246
                    have hv246_0 := hcc246 0 _ rfl
                    rw [Nat.add_zero, show ((Kd.slice 3 (Kd.int .i64))).sz = 1 from rfl, Nat.mul_one] at hv246_0
                    replace hv246_0 := Option.some.inj (hv246_0.symm.trans hx246_0)
                    injection hv246_0 with hva_ hvn_ hvc_
                    rw [hva_] at ge246_0
                    rw [hvc_] at ul246_0
                    have HL246_0 := Aside0.mk (show Kd.V (Kd.int .i64) 3 _ w.heap.size _ _ (rd_L5 l0 x5_1) from Kd.V_mk ul246_0 ge246_0)
                    clear hva_ hvn_ hvc_ ge246_0 ul246_0
                    clear hcc246 hce246
                    have HR246_0 := Aside0.mk hi246_0
                    have HC246_0 := Aside0.mk hl246_0
                    clear hi246_0 hl246_0
                    replace p246 := eq_true p246
                    replace q246 := eq_true q246
                    try go_wp2_with (first | (go_at_call 76; (with_reducible refine (potbankref06_ahead.calls k1 _ _ (rd_L5 l0 x5_1) _ _ l1 false _ ?side1 ?side2 ?side3 ?side4 A5.out).mono ?_); (case side1 => repeat (first | exact (by repeat (first | (with_reducible exact HR246_0.out) | (with_reducible refine Kd.C_alloc ?_ _) | (with_reducible refine Kd.C_drewN ?_ _) | (with_reducible refine Kd.C_drew ?_) | exact HR246_0.out)) | (with_reducible refine Kd.C_alloc ?_ _) | (with_reducible refine Kd.C_drewN ?_ _) | (with_reducible refine Kd.C_drew ?_))); (case side2 => exact HC246_0.out); (case side3 => repeat (first | exact (Kd.V_reads' HO_1.out).2.2 | (with_reducible refine Kd.C_alloc ?_ _) | (with_reducible refine Kd.C_drewN ?_ _) | (with_reducible refine Kd.C_drew ?_))); (case side4 => exact (Kd.V_reads' HO_1.out).2.1); rintro e w' ⟨rfl, ⟨nd, rfl⟩⟩))
                    (try (rw [drewN_self wr]; generalize hq_ : World.drewN wr _ = wr; have n0_ : Aside0 (Kd.V (Kd.int .i64) 3 wr w.heap.size (fun k_ => ((P0_ k_ ∨ P1_ k_) ∨ w.heap.size ≤ k_)) (.slice A246_0 (rd_L5 l0 x5_1).length c246_0) (rd_L5 l0 x5_1)) := ⟨by rw [← hq_]; exact (by (with_reducible repeat (first | apply Kd.V_alloc | apply Kd.V_drewN | apply Kd.V_drew)); exact HL246_0.out)⟩; have n1_ : Aside0 (Kd.V (Kd.slice 3 (Kd.int .i64)) 41 wr w.heap.size (fun k_ => ((P0_ k_ ∨ P1_ k_) ∨ w.heap.size ≤ k_)) (.slice (some ad246) l0.length c0) l0) := ⟨by rw [← hq_]; exact (by (with_reducible repeat (first | apply Kd.V_alloc | apply Kd.V_drewN | apply Kd.V_drew)); exact HO_0.out)⟩; have n2_ : Aside0 (Kd.V (Kd.int .i64) 3 wr w.heap.size (fun k_ => ((P0_ k_ ∨ P1_ k_) ∨ w.heap.size ≤ k_)) (.slice A1 l1.length c1) l1) := ⟨by rw [← hq_]; exact (by (with_reducible repeat (first | apply Kd.V_alloc | apply Kd.V_drewN | apply Kd.V_drew)); exact HO_1.out)⟩; have n3_ : Aside0 (Below w.heap.size w wr) := ⟨by rw [← hq_]; exact (by repeat (first | (with_reducible first | exact HB.out | apply below_alloc | apply pw_below_drewN | apply below_drew1) | exact HB.out))⟩; have n4_ : Aside0 (Kd.C (Kd.int .i64) wr A246_0 (rd_L5 l0 x5_1).length (rd_L5 l0 x5_1)) := ⟨by rw [← hq_]; exact (by repeat (first | (with_reducible exact HR246_0.out) | (with_reducible refine Kd.C_alloc ?_ _) | (with_reducible refine Kd.C_drewN ?_ _) | (with_reducible refine Kd.C_drew ?_) | exact HR246_0.out))⟩; clear HL246_0 HO_0 HO_1 HB HR246_0 hq_; have HL246_0 := n0_; have HO_0 := n1_; have HO_1 := n2_; have HB := n3_; have HR246_0 := n4_; clear n0_ n1_ n2_ n3_ n4_))
                    have n0_ := Aside0.mk (Kd.V_drew HO_0.out)
                    have n1_ := Aside0.mk (Kd.V_drew HO_1.out)
                    have n2_ := Aside0.mk (Kd.V_drew HL246_0.out)
                    have n3_ := Aside0.mk (Kd.C_drew HR246_0.out)
                    have n4_ := Aside0.mk (below_drew1 HB.out)
                    clear HO_0
                    clear HO_1
                    clear HL246_0
                    clear HR246_0
                    clear HB
                    have HO_0 := n0_
                    have HO_1 := n1_
                    have HL246_0 := n2_
                    have HR246_0 := n3_
                    have HB := n4_
                    clear n0_ n1_ n2_ n3_ n4_
                    have q15 : (x5_1 : Int) ≤ ((l0.length : Int) : Int) := of_decide_eq_true (by first | (with_reducible assumption) | assumption)
                    obtain ⟨i015, hi015, _, hsz15, _⟩ := info_parts info41
                    have hroom15 : l0.length ≤ c0 := (Kd.V_reads' HO_0.out).2.1
                    have hC15 : Kd.F (Kd.slice 3 (Kd.int .i64)) _ _ (some ad246) l0.length l0 := (Kd.V_at (base := w.heap.size) HO_0.out).2.2
                    have hcut15 := cut_to (P := Tryz.prog) 24 41 .i64 Tryz.underlying24 hi015 (some ad246) l0.length c0 x5_1 (of_decide_eq_true (by first | (with_reducible assumption) | assumption)) q15 hroom15
                    have hr15 := Kd.F_take (m := (x5_1 : Int).toNat) hC15 (by omega)
                    have hy15 : y251.length = (x5_1 : Int).toNat := (by rw [Ny251.out, List.length_take]; omega)
                    rw [← Ny251.out] at hr15
                    rw [← hy15] at hcut15
                    have HO255 := Aside0.mk (show Kd.V (Kd.slice 3 (Kd.int .i64)) 41 _ w.heap.size _ (.slice (some ad246) y251.length c0) y251 from Kd.V_mk (by omega) hr15)
                    have HC255 := Aside0.mk (show y251.length ≤ c0 from by omega)
                    clear hr15 hC15 hroom15 hi015 hsz15
                    have KY15 := Aside0.mk hy15
                    clear hy15
                    replace q15 := eq_true q15
                    have q16 : (x5_1 : Int) ≤ ((l0.length : Int) : Int) := of_decide_eq_true (by first | (with_reducible assumption) | assumption)
                    obtain ⟨i016, hi016, _, hsz16, _⟩ := info_parts info41
                    have hroom16 : l0.length ≤ c0 := (Kd.V_reads' HO_0.out).2.1
                    have hC16 : Kd.F (Kd.slice 3 (Kd.int .i64)) _ _ (some ad246) l0.length l0 := (Kd.V_at (base := w.heap.size) HO_0.out).2.2
                    have q016 : (0 : Int) ≤ (x5_1 : Int) := of_decide_eq_true (by first | (with_reducible assumption) | assumption)
                    have hcut16 := cut_from (P := Tryz.prog) 24 41 .i64 Tryz.underlying24 hi016 1 hsz16 (some ad246) l0.length c0 x5_1 q016 q16
                    have hr16 := Kd.F_cut (m := (x5_1 : Int).toNat) (c := c0) hC16 (by omega) hroom16
                    obtain ⟨A16, hA16⟩ : ∃ A1, A1 = (if c0 = (x5_1 : Int).toNat then (some ad246) else ((some ad246) : Option Addr).map (·.add ((x5_1 : Int).toNat * 1))) := ⟨_, rfl⟩
                    obtain ⟨c16, hc16⟩ : ∃ c1, c1 = c0 - (x5_1 : Int).toNat := ⟨_, rfl⟩
                    have hy16 : y265.length = l0.length - (x5_1 : Int).toNat := (by rw [Ny265.out, List.length_drop] <;> omega)
                    rw [show (l0).drop (x5_1 : Int).toNat = y265 from Ny265.out.symm] at hr16
                    replace hr16 : Kd.F (Kd.slice 3 (Kd.int .i64)) _ _ A16 y265.length y265 := (by rw [hA16]; exact hr16)
                    rw [← hy16, ← hA16, ← hc16] at hcut16
                    have HO269 := Aside0.mk (show Kd.V (Kd.slice 3 (Kd.int .i64)) 41 _ w.heap.size _ (.slice A16 y265.length c16) y265 from Kd.V_mk (by rw [hy16, hc16]; exact Nat.sub_le_sub_right hroom16 _) hr16)
                    have HC269 := Aside0.mk (show y265.length ≤ c16 from by rw [hy16, hc16]; exact Nat.sub_le_sub_right hroom16 _)
                    clear hr16 hC16 hroom16 hi016 hsz16 hc16
                    have KY16 := Aside0.mk hy16
                    have KA16 := Aside0.mk hA16
                    clear hy16 hA16
                    replace q16 := eq_true q16
                    refine start_ (n := 13) (S := fun w' => True) (ds := []) #[false, false, false, false, false, false, false, false, false, false, false, false, false] (by kernel_rfl) rfl rfl trivial (fun hHeld => ?_); refine with_tabW potbankref06_put.tab4 potbankref06_put.bits4 (fun HT_ HW_ => ?_)
                    generalize wr.drew = w14 at HO_0 HO_1 HL246_0 HR246_0 HB HO255 HO269 hHeld ⊢
                    refine pure_ (i := 1) (N := some 21) (v := ?_) (a' := ?_) #[false, true, false, false, false, false, false, false, false, false, false, false, false] rfl rfl (any_of HT_.out (by kernel_rfl)) (fun _ _ _ h => h) (Or.inl ⟨by rfl, ?_⟩) ?_ ?_
                    rotate_left
                    · intro w'
                      go_simp
                      with_reducible rfl
                    rotate_left
                    · simp only [Act.put, List.setIfInBounds_toArray, List.set_cons_zero, List.set_cons_succ, i64_w, i32_w]
                      rfl
                    refine pure_ (i := 2) (N := some 22) (v := ?_) (a' := ?_) #[false, true, true, false, false, false, false, false, false, false, false, false, false] rfl rfl (any_of HT_.out (by kernel_rfl)) (fun _ _ _ h => h) (Or.inl ⟨by rfl, ?_⟩) ?_ ?_
                    rotate_left
                    · intro w'
                      go_simp
                      with_reducible rfl
                    rotate_left
                    · simp only [Act.put, List.setIfInBounds_toArray, List.set_cons_zero, List.set_cons_succ, i64_w, i32_w]
                      rfl
                    refine pure_ (i := 3) (N := some 23) (v := ?_) (a' := ?_) #[false, true, true, true, false, false, false, false, false, false, false, false, false] rfl rfl (any_of HT_.out (by kernel_rfl)) (fun _ _ _ h => h) (Or.inl ⟨by rfl, ?_⟩) ?_ ?_
                    rotate_left
                    · intro w'
                      go_simp
                      with_reducible rfl
                    rotate_left
                    · simp only [Act.put, List.setIfInBounds_toArray, List.set_cons_zero, List.set_cons_succ, i64_w, i32_w]
                      rfl
                    refine pure_ (i := 5) (N := some 25) (v := ?_) (a' := ?_) #[false, true, true, true, false, true, false, false, false, false, false, false, false] rfl rfl (any_of HT_.out (by kernel_rfl)) (fun _ _ _ h => h) (Or.inl ⟨by rfl, ?_⟩) ?_ ?_
                    rotate_left
                    · intro w'
                      go_simp
                      with_reducible rfl
                    rotate_left
                    · simp only [Act.put, List.setIfInBounds_toArray, List.set_cons_zero, List.set_cons_succ, i64_w, i32_w]
                      rfl
                    refine pure_ (i := 8) (N := some 28) (v := ?_) (a' := ?_) #[false, true, true, true, false, true, false, false, true, false, false, false, false] rfl rfl (any_of HT_.out (by kernel_rfl)) (fun _ _ _ h => h) (Or.inl ⟨by rfl, ?_⟩) ?_ ?_
                    rotate_left
                    · intro w'
                      go_simp
                      with_reducible rfl
                    rotate_left
                    · simp only [Act.put, List.setIfInBounds_toArray, List.set_cons_zero, List.set_cons_succ, i64_w, i32_w]
                      rfl
                    refine pure_ (i := 9) (N := some 29) (v := ?_) (a' := ?_) #[false, true, true, true, false, true, false, false, true, true, false, false, false] rfl rfl (any_of HT_.out (by kernel_rfl)) (fun _ _ _ h => h) (Or.inl ⟨by rfl, ?_⟩) ?_ ?_
                    rotate_left
                    · intro w'
                      go_simp
                      with_reducible rfl
                    rotate_left
                    · simp only [Act.put, List.setIfInBounds_toArray, List.set_cons_zero, List.set_cons_succ, i64_w, i32_w]
                      rfl
                    refine pure_ (i := 10) (N := some 30) (v := ?_) (a' := ?_) #[false, true, true, true, false, true, false, false, true, true, true, false, false] rfl rfl (any_of HT_.out (by kernel_rfl)) (fun _ _ _ h => h) (Or.inl ⟨by rfl, ?_⟩) ?_ ?_
                    rotate_left
                    · intro w'
                      go_simp
                      with_reducible rfl
                    rotate_left
                    · simp only [Act.put, List.setIfInBounds_toArray, List.set_cons_zero, List.set_cons_succ, i64_w, i32_w]
                      rfl
                    refine join_ (σ := Value × Value × Value) 3 #[true, true, true, true, true, true, true, false, true, true, true, false, false] (fun s_ => [(20, s_.1), (24, s_.2.1), (26, s_.2.2)]) (fun s_ w' => (Kd.V (Kd.int .i64) 3 w' w.heap.size (fun k_ => ((P0_ k_ ∨ P1_ k_) ∨ w.heap.size ≤ k_) ∧ some k_ ≠ (s_.2.1 : Value).ownBlock ∧ some k_ ≠ (s_.2.2 : Value).ownBlock) (.slice A246_0 (rd_L5 l0 x5_1).length c246_0) (rd_L5 l0 x5_1)) ∧ (Kd.V (Kd.slice 3 (Kd.int .i64)) 41 w' w.heap.size (fun k_ => ((P0_ k_ ∨ P1_ k_) ∨ w.heap.size ≤ k_) ∧ some k_ ≠ (s_.2.1 : Value).ownBlock ∧ some k_ ≠ (s_.2.2 : Value).ownBlock) (.slice (some ad246) y251.length c0) y251) ∧ (Kd.N (Kd.slice 3 (Kd.int .i64)) 41 w' w.heap.size (fun k_ => ((P0_ k_ ∨ P1_ k_) ∨ w.heap.size ≤ k_) ∧ some k_ ≠ (s_.2.2 : Value).ownBlock) s_.2.1 y256) ∧ (Kd.N (Kd.slice 3 (Kd.int .i64)) 41 w' w.heap.size (fun k_ => ((P0_ k_ ∨ P1_ k_) ∨ w.heap.size ≤ k_) ∧ some k_ ≠ (s_.2.1 : Value).ownBlock) s_.2.2 y259) ∧ (Kd.V (Kd.slice 3 (Kd.int .i64)) 41 w' w.heap.size (fun k_ => ((P0_ k_ ∨ P1_ k_) ∨ w.heap.size ≤ k_) ∧ some k_ ≠ (s_.2.1 : Value).ownBlock ∧ some k_ ≠ (s_.2.2 : Value).ownBlock) (.slice A16 y265.length c16) y265) ∧ (Kd.V (Kd.slice 3 (Kd.int .i64)) 41 w' w.heap.size (fun k_ => ((P0_ k_ ∨ P1_ k_) ∨ w.heap.size ≤ k_) ∧ some k_ ≠ (s_.2.1 : Value).ownBlock ∧ some k_ ≠ (s_.2.2 : Value).ownBlock) (.slice (some ad246) l0.length c0) l0) ∧ (Kd.V (Kd.int .i64) 3 w' w.heap.size (fun k_ => ((P0_ k_ ∨ P1_ k_) ∨ w.heap.size ≤ k_) ∧ some k_ ≠ (s_.2.1 : Value).ownBlock ∧ some k_ ≠ (s_.2.2 : Value).ownBlock) (.slice A1 l1.length c1) l1) ∧ (Below w.heap.size w w')) ?_ ?_
                    rotate_left
                    · intro hCont
                      refine two_ (i := 0) (j := 6) (Ni := some 20) (Nj := some 26) #[true, true, true, true, false, true, false, false, true, true, true, false, false] #[false, true, true, true, false, true, true, false, true, true, true, false, false] rfl rfl rfl rfl (two_of HT_.out (by kernel_rfl)) (by decide) (by decide) (fun K hK => ?_) (fun K hK => ?_)
                      · skip
                        refine Kd.N_lit_step (Kd.slice 3 (Kd.int .i64)) _ 41 ?hg (N' := 20) ?hd (xs := ([] : List (List Int))) (inner := []) (ok := (fun k_ => ((P0_ k_ ∨ P1_ k_) ∨ w.heap.size ≤ k_))) (okp := (fun k_ => ((P0_ k_ ∨ P1_ k_) ∨ w.heap.size ≤ k_))) ?hr ?hp (fun _ hk => hk) ((show ∀ k_, w14.heap.size ≤ k_ → (fun k_ => ((P0_ k_ ∨ P1_ k_) ∨ w.heap.size ≤ k_)) k_ from fun k_ hk => (.inr (Nat.le_trans (below_size (by repeat (first | (with_reducible first | exact HB.out | apply below_alloc | apply pw_below_drewN | apply below_drew1) | exact HB.out))) hk))) _ (Nat.le_refl _)) (Below.refl _ _) (Nat.le_refl _) (by simp) ?_; (case hd => rfl); (case hg => rfl); (case hr => first | (go_simp; done) | (go_simp; rfl)); (case hp => exact (Reps.none _ _))
                        intro v249 w17 ho18 hb hg_ hnew_
                        clear hg_ hnew_
                        (first | rw [← Ny248.out] at ho18 | (simp only [Int.reduceToNat] at ho18; rw [← Ny248.out] at ho18))
                        have n0_ := Aside0.mk (Kd.V_elder' (by (with_reducible repeat (first | apply Kd.V_alloc | apply Kd.V_drewN | apply Kd.V_drew)); exact HO_0.out) (Kd.N_base ho18) hb)
                        have n1_ := Aside0.mk (Kd.V_elder' (by (with_reducible repeat (first | apply Kd.V_alloc | apply Kd.V_drewN | apply Kd.V_drew)); exact HO_1.out) (Kd.N_base ho18) hb)
                        have n2_ := Aside0.mk (Kd.V_elder' (by (with_reducible repeat (first | apply Kd.V_alloc | apply Kd.V_drewN | apply Kd.V_drew)); exact HL246_0.out) (Kd.N_base ho18) hb)
                        have n3_ := Aside0.mk (Kd.V_elder' (by (with_reducible repeat (first | apply Kd.V_alloc | apply Kd.V_drewN | apply Kd.V_drew)); exact HO255.out) (Kd.N_base ho18) hb)
                        have n4_ := Aside0.mk (Kd.V_elder' (by (with_reducible repeat (first | apply Kd.V_alloc | apply Kd.V_drewN | apply Kd.V_drew)); exact HO269.out) (Kd.N_base ho18) hb)
                        have n5_ := Aside0.mk (Kd.N_lower ho18 (below_size (by repeat (first | (with_reducible first | exact HB.out | apply below_alloc | apply pw_below_drewN | apply below_drew1) | exact HB.out))))
                        have n6_ := Aside0.mk (Kd.C_below (by repeat (first | (with_reducible exact HR246_0.out) | (with_reducible refine Kd.C_alloc ?_ _) | (with_reducible refine Kd.C_drewN ?_ _) | (with_reducible refine Kd.C_drew ?_) | exact HR246_0.out)) hb)
                        have n7_ := Aside0.mk (below_step (by repeat (first | (with_reducible first | exact HB.out | apply below_alloc | apply pw_below_drewN | apply below_drew1) | exact HB.out)) hb)
                        clear HO_0
                        clear HO_1
                        clear HL246_0
                        clear HO255
                        clear HO269
                        clear HR246_0
                        clear HB
                        have HO_0 := n0_
                        have HO_1 := n1_
                        have HL246_0 := n2_
                        have HO255 := n3_
                        have HO269 := n4_
                        have HO250 := n5_
                        have HR246_0 := n6_
                        have HB := n7_
                        clear n0_ n1_ n2_ n3_ n4_ n5_ n6_ n7_
                        clear hb ho18
                        refine hK.out _ _ trivial (fun hHeld => ?_)
                        clear hK K
                        refine norm_ (a' := ?_) ?_ ?_
                        rotate_left
                        · show Act.put _ (some 20) _ = _
                          simp only [Act.put, List.setIfInBounds_toArray, List.set_cons_zero, List.set_cons_succ, i64_w, i32_w]
                          rfl
                        refine two_ (i := 4) (j := 6) (Ni := some 24) (Nj := some 26) #[true, true, true, true, true, true, false, false, true, true, true, false, false] #[true, true, true, true, false, true, true, false, true, true, true, false, false] rfl rfl rfl rfl (two_of HT_.out (by kernel_rfl)) (by decide) (by decide) (fun K hK => ?_) (fun K hK => ?_)
                        · skip
                          refine Kd.N_append_rows_step (Kd.slice 3 (Kd.int .i64)) (w0 := w) w.heap.size (by rfl) (.tmp 20) (.tmp 23) 24 41 (.slice none 0 0) 24 rfl Tryz.underlying24 info41 rfl (by decide) (by omega) v249 y248 y251 _ _ _ (fun k_ => ((P0_ k_ ∨ P1_ k_) ∨ w.heap.size ≤ k_)) (fun k_ => ((fun k_ => ((P0_ k_ ∨ P1_ k_) ∨ w.heap.size ≤ k_))) k_ ∧ some k_ ≠ (v249 : Value).ownBlock) rfl rfl ?aO ?aR (fun _ hk => hk) ?aF ?aB ?aS ?aL ?_
                          (case aR => exact (by skip; exact Kd.V_F (Kd.V_mono (ok' := (fun k_ => ((fun k_ => ((P0_ k_ ∨ P1_ k_) ∨ w.heap.size ≤ k_))) k_ ∧ some k_ ≠ (v249 : Value).ownBlock)) (HO255.out) (fun k_ hk => ⟨hk.1, hk.2⟩))))
                          (case aB => exact (by repeat (first | (with_reducible first | exact HB.out | apply below_alloc | apply pw_below_drewN | apply below_drew1) | exact HB.out)))
                          (case aF => exact (fun k_ hk => (.inr (Nat.le_trans (below_size (by repeat (first | (with_reducible first | exact HB.out | apply below_alloc | apply pw_below_drewN | apply below_drew1) | exact HB.out))) hk))))
                          (case aO => exact (by (with_reducible repeat (first | apply Kd.N_alloc | apply Kd.N_drewN | apply Kd.N_drew)); exact HO250.out))
                          (case aS => exact (below_size (by repeat (first | (with_reducible first | exact HB.out | apply below_alloc | apply pw_below_drewN | apply below_drew1) | exact HB.out))))
                          (case aL => have := LMc9.out; omega)
                          intro v257 w19 ho hb hg hat
                          rw [← Ny256.out] at ho
                          have n0_ := Aside0.mk (Kd.V_afterv (ok := (fun k_ => ((P0_ k_ ∨ P1_ k_) ∨ w.heap.size ≤ k_))) (by (with_reducible repeat (first | apply Kd.V_alloc | apply Kd.V_drewN | apply Kd.V_drew)); exact HO_0.out) hg hat)
                          have n1_ := Aside0.mk (Kd.V_afterv (ok := (fun k_ => ((P0_ k_ ∨ P1_ k_) ∨ w.heap.size ≤ k_))) (by (with_reducible repeat (first | apply Kd.V_alloc | apply Kd.V_drewN | apply Kd.V_drew)); exact HO_1.out) hg hat)
                          have n2_ := Aside0.mk (Kd.V_afterv (ok := (fun k_ => ((P0_ k_ ∨ P1_ k_) ∨ w.heap.size ≤ k_))) (by (with_reducible repeat (first | apply Kd.V_alloc | apply Kd.V_drewN | apply Kd.V_drew)); exact HL246_0.out) hg hat)
                          have n3_ := Aside0.mk (Kd.V_afterv (ok := (fun k_ => ((P0_ k_ ∨ P1_ k_) ∨ w.heap.size ≤ k_))) (by (with_reducible repeat (first | apply Kd.V_alloc | apply Kd.V_drewN | apply Kd.V_drew)); exact HO255.out) hg hat)
                          have n4_ := Aside0.mk (Kd.V_afterv (ok := (fun k_ => ((P0_ k_ ∨ P1_ k_) ∨ w.heap.size ≤ k_))) (by (with_reducible repeat (first | apply Kd.V_alloc | apply Kd.V_drewN | apply Kd.V_drew)); exact HO269.out) hg hat)
                          have n5_ := Aside0.mk (hb)
                          have n6_ := Aside0.mk (ho)
                          clear HO_0
                          clear HO_1
                          clear HL246_0
                          clear HO255
                          clear HO269
                          clear HB
                          clear HO250
                          have HO_0 := n0_
                          have HO_1 := n1_
                          have HL246_0 := n2_
                          have HO255 := n3_
                          have HO269 := n4_
                          have HB := n5_
                          have HO258 := n6_
                          clear n0_ n1_ n2_ n3_ n4_ n5_ n6_
                          clear ho hb hg hat
                          refine hK.out _ _ trivial (fun hHeld => ?_)
                          clear hK K
                          refine norm_ (a' := ?_) ?_ ?_
                          rotate_left
                          · show Act.put _ (some 24) _ = _
                            simp only [Act.put, List.setIfInBounds_toArray, List.set_cons_zero, List.set_cons_succ, i64_w, i32_w]
                            rfl
                          refine one_ (i := 6) (N := some 26) #[true, true, true, true, true, true, true, false, true, true, true, false, false] rfl rfl (one_of HT_.out (by kernel_rfl)) (by decide) (fun K hK => ?_)
                          refine Kd.N_lit_step (Kd.slice 3 (Kd.int .i64)) _ 41 ?hg (N' := 26) ?hd (xs := ([l1] : List (List Int))) (inner := [.slice A1 l1.length c1]) (ok := (fun k_ => ((P0_ k_ ∨ P1_ k_) ∨ w.heap.size ≤ k_) ∧ some k_ ≠ (v257 : Value).ownBlock)) (okp := (fun k_ => ((P0_ k_ ∨ P1_ k_) ∨ w.heap.size ≤ k_) ∧ some k_ ≠ (v257 : Value).ownBlock)) ?hr ?hp (fun _ hk => hk) ((show ∀ k_, w19.heap.size ≤ k_ → (fun k_ => ((P0_ k_ ∨ P1_ k_) ∨ w.heap.size ≤ k_) ∧ some k_ ≠ (v257 : Value).ownBlock) k_ from fun k_ hk => ⟨(.inr (Nat.le_trans (below_size (by repeat (first | (with_reducible first | exact HB.out | apply below_alloc | apply pw_below_drewN | apply below_drew1) | exact HB.out))) hk)), Kd.fresh' (Kd.N_lt (by (with_reducible repeat (first | apply Kd.N_alloc | apply Kd.N_drewN | apply Kd.N_drew)); exact HO258.out)) k_ hk⟩) _ (Nat.le_refl _)) (Below.refl _ _) (Nat.le_refl _) (by simp) ?_; (case hd => rfl); (case hg => rfl); (case hr => first | (go_simp; done) | (go_simp; rfl)); (case hp => exact (Reps.one (show Kd.FK (Kd.slice 3 (Kd.int .i64)) _ _ l1 [.slice A1 l1.length c1] from (Kd.FK_slice_mk (Kd.V_reads' (Kd.V_mono (ok' := (fun k_ => ((P0_ k_ ∨ P1_ k_) ∨ w.heap.size ≤ k_) ∧ some k_ ≠ (v257 : Value).ownBlock)) (HO_1.out) (fun k_ hk => ⟨hk.1, hk.2⟩))).2.1 (Kd.V_F (Kd.V_mono (ok' := (fun k_ => ((P0_ k_ ∨ P1_ k_) ∨ w.heap.size ≤ k_) ∧ some k_ ≠ (v257 : Value).ownBlock)) (HO_1.out) (fun k_ hk => ⟨hk.1, hk.2⟩))))) (Reps.none _ _)))
                          intro v260 w20 ho21 hb hg_ hnew_
                          clear hg_ hnew_
                          (first | rw [← Ny259.out] at ho21 | (simp only [Int.reduceToNat] at ho21; rw [← Ny259.out] at ho21))
                          have n0_ := Aside0.mk (Kd.V_elder' (by (with_reducible repeat (first | apply Kd.V_alloc | apply Kd.V_drewN | apply Kd.V_drew)); exact HO_0.out) (Kd.N_base ho21) hb)
                          have n1_ := Aside0.mk (Kd.V_elder' (by (with_reducible repeat (first | apply Kd.V_alloc | apply Kd.V_drewN | apply Kd.V_drew)); exact HO_1.out) (Kd.N_base ho21) hb)
                          have n2_ := Aside0.mk (Kd.V_elder' (by (with_reducible repeat (first | apply Kd.V_alloc | apply Kd.V_drewN | apply Kd.V_drew)); exact HL246_0.out) (Kd.N_base ho21) hb)
                          have n3_ := Aside0.mk (Kd.V_elder' (by (with_reducible repeat (first | apply Kd.V_alloc | apply Kd.V_drewN | apply Kd.V_drew)); exact HO255.out) (Kd.N_base ho21) hb)
                          have n4_ := Aside0.mk (Kd.V_elder' (by (with_reducible repeat (first | apply Kd.V_alloc | apply Kd.V_drewN | apply Kd.V_drew)); exact HO269.out) (Kd.N_base ho21) hb)
                          have n5_ := Aside0.mk (Kd.N_elder' (by (with_reducible repeat (first | apply Kd.N_alloc | apply Kd.N_drewN | apply Kd.N_drew)); exact HO258.out) (Kd.N_base ho21) hb)
                          have n6_ := Aside0.mk (Kd.N_lower ho21 (below_size (by repeat (first | (with_reducible first | exact HB.out | apply below_alloc | apply pw_below_drewN | apply below_drew1) | exact HB.out))))
                          have n7_ := Aside0.mk (below_step (by repeat (first | (with_reducible first | exact HB.out | apply below_alloc | apply pw_below_drewN | apply below_drew1) | exact HB.out)) hb)
                          clear HO_0
                          clear HO_1
                          clear HL246_0
                          clear HO255
                          clear HO269
                          clear HO258
                          clear HB
                          have HO_0 := n0_
                          have HO_1 := n1_
                          have HL246_0 := n2_
                          have HO255 := n3_
                          have HO269 := n4_
                          have HO258 := n5_
                          have HO261 := n6_
                          have HB := n7_
                          clear n0_ n1_ n2_ n3_ n4_ n5_ n6_ n7_
                          clear hb ho21
                          refine hK.out _ _ trivial (fun hHeld => ?_)
                          clear hK K
                          refine norm_ (a' := ?_) ?_ ?_
                          rotate_left
                          · show Act.put _ (some 26) _ = _
                            simp only [Act.put, List.setIfInBounds_toArray, List.set_cons_zero, List.set_cons_succ, i64_w, i32_w]
                            rfl
                          exact norm_ (by simp only [putAll, Act.put, List.setIfInBounds_toArray, List.set_cons_zero, List.set_cons_succ]) (hCont (v249, v257, v260) _ ⟨(by (with_reducible repeat (first | apply Kd.V_alloc | apply Kd.V_drewN | apply Kd.V_drew)); exact Kd.V_mono HL246_0.out (fun _ hk => ⟨hk.1.1, ⟨hk.1.2, hk.2⟩⟩)), (by (with_reducible repeat (first | apply Kd.V_alloc | apply Kd.V_drewN | apply Kd.V_drew)); exact Kd.V_mono HO255.out (fun _ hk => ⟨hk.1.1, ⟨hk.1.2, hk.2⟩⟩)), (by (with_reducible repeat (first | apply Kd.N_alloc | apply Kd.N_drewN | apply Kd.N_drew)); exact HO258.out), (by (with_reducible repeat (first | apply Kd.N_alloc | apply Kd.N_drewN | apply Kd.N_drew)); exact HO261.out), (by (with_reducible repeat (first | apply Kd.V_alloc | apply Kd.V_drewN | apply Kd.V_drew)); exact Kd.V_mono HO269.out (fun _ hk => ⟨hk.1.1, ⟨hk.1.2, hk.2⟩⟩)), (by (with_reducible repeat (first | apply Kd.V_alloc | apply Kd.V_drewN | apply Kd.V_drew)); exact Kd.V_mono HO_0.out (fun _ hk => ⟨hk.1.1, ⟨hk.1.2, hk.2⟩⟩)), (by (with_reducible repeat (first | apply Kd.V_alloc | apply Kd.V_drewN | apply Kd.V_drew)); exact Kd.V_mono HO_1.out (fun _ hk => ⟨hk.1.1, ⟨hk.1.2, hk.2⟩⟩)), (by repeat (first | (with_reducible first | exact HB.out | apply below_alloc | apply pw_below_drewN | apply below_drew1) | exact HB.out))⟩)
                        · skip
                          refine Kd.N_lit_step (Kd.slice 3 (Kd.int .i64)) _ 41 ?hg (N' := 26) ?hd (xs := ([l1] : List (List Int))) (inner := [.slice A1 l1.length c1]) (ok := (fun k_ => ((P0_ k_ ∨ P1_ k_) ∨ w.heap.size ≤ k_) ∧ some k_ ≠ (v249 : Value).ownBlock)) (okp := (fun k_ => ((P0_ k_ ∨ P1_ k_) ∨ w.heap.size ≤ k_) ∧ some k_ ≠ (v249 : Value).ownBlock)) ?hr ?hp (fun _ hk => hk) ((show ∀ k_, w17.heap.size ≤ k_ → (fun k_ => ((P0_ k_ ∨ P1_ k_) ∨ w.heap.size ≤ k_) ∧ some k_ ≠ (v249 : Value).ownBlock) k_ from fun k_ hk => ⟨(.inr (Nat.le_trans (below_size (by repeat (first | (with_reducible first | exact HB.out | apply below_alloc | apply pw_below_drewN | apply below_drew1) | exact HB.out))) hk)), Kd.fresh' (Kd.N_lt (by (with_reducible repeat (first | apply Kd.N_alloc | apply Kd.N_drewN | apply Kd.N_drew)); exact HO250.out)) k_ hk⟩) _ (Nat.le_refl _)) (Below.refl _ _) (Nat.le_refl _) (by simp) ?_; (case hd => rfl); (case hg => rfl); (case hr => first | (go_simp; done) | (go_simp; rfl)); (case hp => exact (Reps.one (show Kd.FK (Kd.slice 3 (Kd.int .i64)) _ _ l1 [.slice A1 l1.length c1] from (Kd.FK_slice_mk (Kd.V_reads' (Kd.V_mono (ok' := (fun k_ => ((P0_ k_ ∨ P1_ k_) ∨ w.heap.size ≤ k_) ∧ some k_ ≠ (v249 : Value).ownBlock)) (HO_1.out) (fun k_ hk => ⟨hk.1, hk.2⟩))).2.1 (Kd.V_F (Kd.V_mono (ok' := (fun k_ => ((P0_ k_ ∨ P1_ k_) ∨ w.heap.size ≤ k_) ∧ some k_ ≠ (v249 : Value).ownBlock)) (HO_1.out) (fun k_ hk => ⟨hk.1, hk.2⟩))))) (Reps.none _ _)))
                          intro v260 w19 ho20 hb hg_ hnew_
                          clear hg_ hnew_
                          (first | rw [← Ny259.out] at ho20 | (simp only [Int.reduceToNat] at ho20; rw [← Ny259.out] at ho20))
                          have n0_ := Aside0.mk (Kd.V_elder' (by (with_reducible repeat (first | apply Kd.V_alloc | apply Kd.V_drewN | apply Kd.V_drew)); exact HO_0.out) (Kd.N_base ho20) hb)
                          have n1_ := Aside0.mk (Kd.V_elder' (by (with_reducible repeat (first | apply Kd.V_alloc | apply Kd.V_drewN | apply Kd.V_drew)); exact HO_1.out) (Kd.N_base ho20) hb)
                          have n2_ := Aside0.mk (Kd.V_elder' (by (with_reducible repeat (first | apply Kd.V_alloc | apply Kd.V_drewN | apply Kd.V_drew)); exact HL246_0.out) (Kd.N_base ho20) hb)
                          have n3_ := Aside0.mk (Kd.V_elder' (by (with_reducible repeat (first | apply Kd.V_alloc | apply Kd.V_drewN | apply Kd.V_drew)); exact HO255.out) (Kd.N_base ho20) hb)
                          have n4_ := Aside0.mk (Kd.V_elder' (by (with_reducible repeat (first | apply Kd.V_alloc | apply Kd.V_drewN | apply Kd.V_drew)); exact HO269.out) (Kd.N_base ho20) hb)
                          have n5_ := Aside0.mk (Kd.N_elder' (by (with_reducible repeat (first | apply Kd.N_alloc | apply Kd.N_drewN | apply Kd.N_drew)); exact HO250.out) (Kd.N_base ho20) hb)
                          have n6_ := Aside0.mk (Kd.N_lower ho20 (below_size (by repeat (first | (with_reducible first | exact HB.out | apply below_alloc | apply pw_below_drewN | apply below_drew1) | exact HB.out))))
                          have n7_ := Aside0.mk (Kd.C_below (by repeat (first | (with_reducible exact HR246_0.out) | (with_reducible refine Kd.C_alloc ?_ _) | (with_reducible refine Kd.C_drewN ?_ _) | (with_reducible refine Kd.C_drew ?_) | exact HR246_0.out)) hb)
                          have n8_ := Aside0.mk (below_step (by repeat (first | (with_reducible first | exact HB.out | apply below_alloc | apply pw_below_drewN | apply below_drew1) | exact HB.out)) hb)
                          clear HO_0
                          clear HO_1
                          clear HL246_0
                          clear HO255
                          clear HO269
                          clear HO250
                          clear HR246_0
                          clear HB
                          have HO_0 := n0_
                          have HO_1 := n1_
                          have HL246_0 := n2_
                          have HO255 := n3_
                          have HO269 := n4_
                          have HO250 := n5_
                          have HO261 := n6_
                          have HR246_0 := n7_
                          have HB := n8_
                          clear n0_ n1_ n2_ n3_ n4_ n5_ n6_ n7_ n8_
                          clear hb ho20
                          refine hK.out _ _ trivial (fun hHeld => ?_)
                          clear hK K
                          refine norm_ (a' := ?_) ?_ ?_
                          rotate_left
                          · show Act.put _ (some 26) _ = _
                            simp only [Act.put, List.setIfInBounds_toArray, List.set_cons_zero, List.set_cons_succ, i64_w, i32_w]
                            rfl
                          refine one_ (i := 4) (N := some 24) #[true, true, true, true, true, true, true, false, true, true, true, false, false] rfl rfl (one_of HT_.out (by kernel_rfl)) (by decide) (fun K hK => ?_)
                          refine Kd.N_append_rows_step (Kd.slice 3 (Kd.int .i64)) (w0 := w) w.heap.size (by rfl) (.tmp 20) (.tmp 23) 24 41 (.slice none 0 0) 24 rfl Tryz.underlying24 info41 rfl (by decide) (by omega) v249 y248 y251 _ _ _ (fun k_ => ((P0_ k_ ∨ P1_ k_) ∨ w.heap.size ≤ k_) ∧ some k_ ≠ (v260 : Value).ownBlock) (fun k_ => ((fun k_ => ((P0_ k_ ∨ P1_ k_) ∨ w.heap.size ≤ k_) ∧ some k_ ≠ (v260 : Value).ownBlock)) k_ ∧ some k_ ≠ (v249 : Value).ownBlock) rfl rfl ?aO ?aR (fun _ hk => hk) ?aF ?aB ?aS ?aL ?_
                          (case aR => exact (by skip; exact Kd.V_F (Kd.V_mono (ok' := (fun k_ => ((fun k_ => ((P0_ k_ ∨ P1_ k_) ∨ w.heap.size ≤ k_) ∧ some k_ ≠ (v260 : Value).ownBlock)) k_ ∧ some k_ ≠ (v249 : Value).ownBlock)) (HO255.out) (fun k_ hk => ⟨⟨hk.1.1, hk.2⟩, hk.1.2⟩))))
                          (case aB => exact (by repeat (first | (with_reducible first | exact HB.out | apply below_alloc | apply pw_below_drewN | apply below_drew1) | exact HB.out)))
                          (case aF => exact (fun k_ hk => ⟨(.inr (Nat.le_trans (below_size (by repeat (first | (with_reducible first | exact HB.out | apply below_alloc | apply pw_below_drewN | apply below_drew1) | exact HB.out))) hk)), Kd.fresh' (Kd.N_lt (by (with_reducible repeat (first | apply Kd.N_alloc | apply Kd.N_drewN | apply Kd.N_drew)); exact HO261.out)) k_ hk⟩))
                          (case aO => exact (by (with_reducible repeat (first | apply Kd.N_alloc | apply Kd.N_drewN | apply Kd.N_drew)); exact HO250.out))
                          (case aS => exact (below_size (by repeat (first | (with_reducible first | exact HB.out | apply below_alloc | apply pw_below_drewN | apply below_drew1) | exact HB.out))))
                          (case aL => have := LMc9.out; omega)
                          intro v257 w21 ho hb hg hat
                          rw [← Ny256.out] at ho
                          have n0_ := Aside0.mk (Kd.V_afterv (ok := (fun k_ => ((P0_ k_ ∨ P1_ k_) ∨ w.heap.size ≤ k_) ∧ some k_ ≠ (v260 : Value).ownBlock)) (by (with_reducible repeat (first | apply Kd.V_alloc | apply Kd.V_drewN | apply Kd.V_drew)); exact Kd.V_mono HO_0.out (fun _ hk => ⟨⟨hk.1.1, hk.2⟩, hk.1.2⟩)) hg hat)
                          have n1_ := Aside0.mk (Kd.V_afterv (ok := (fun k_ => ((P0_ k_ ∨ P1_ k_) ∨ w.heap.size ≤ k_) ∧ some k_ ≠ (v260 : Value).ownBlock)) (by (with_reducible repeat (first | apply Kd.V_alloc | apply Kd.V_drewN | apply Kd.V_drew)); exact Kd.V_mono HO_1.out (fun _ hk => ⟨⟨hk.1.1, hk.2⟩, hk.1.2⟩)) hg hat)
                          have n2_ := Aside0.mk (Kd.V_afterv (ok := (fun k_ => ((P0_ k_ ∨ P1_ k_) ∨ w.heap.size ≤ k_) ∧ some k_ ≠ (v260 : Value).ownBlock)) (by (with_reducible repeat (first | apply Kd.V_alloc | apply Kd.V_drewN | apply Kd.V_drew)); exact Kd.V_mono HL246_0.out (fun _ hk => ⟨⟨hk.1.1, hk.2⟩, hk.1.2⟩)) hg hat)
                          have n3_ := Aside0.mk (Kd.V_afterv (ok := (fun k_ => ((P0_ k_ ∨ P1_ k_) ∨ w.heap.size ≤ k_) ∧ some k_ ≠ (v260 : Value).ownBlock)) (by (with_reducible repeat (first | apply Kd.V_alloc | apply Kd.V_drewN | apply Kd.V_drew)); exact Kd.V_mono HO255.out (fun _ hk => ⟨⟨hk.1.1, hk.2⟩, hk.1.2⟩)) hg hat)
                          have n4_ := Aside0.mk (Kd.V_afterv (ok := (fun k_ => ((P0_ k_ ∨ P1_ k_) ∨ w.heap.size ≤ k_) ∧ some k_ ≠ (v260 : Value).ownBlock)) (by (with_reducible repeat (first | apply Kd.V_alloc | apply Kd.V_drewN | apply Kd.V_drew)); exact Kd.V_mono HO269.out (fun _ hk => ⟨⟨hk.1.1, hk.2⟩, hk.1.2⟩)) hg hat)
                          have n5_ := Aside0.mk (Kd.N_afterv (ok := (fun k_ => ((P0_ k_ ∨ P1_ k_) ∨ w.heap.size ≤ k_))) (by (with_reducible repeat (first | apply Kd.N_alloc | apply Kd.N_drewN | apply Kd.N_drew)); exact HO261.out) hg hat)
                          have n6_ := Aside0.mk (hb)
                          have n7_ := Aside0.mk (ho)
                          clear HO_0
                          clear HO_1
                          clear HL246_0
                          clear HO255
                          clear HO269
                          clear HO261
                          clear HB
                          clear HO250
                          have HO_0 := n0_
                          have HO_1 := n1_
                          have HL246_0 := n2_
                          have HO255 := n3_
                          have HO269 := n4_
                          have HO261 := n5_
                          have HB := n6_
                          have HO258 := n7_
                          clear n0_ n1_ n2_ n3_ n4_ n5_ n6_ n7_
                          clear ho hb hg hat
                          refine hK.out _ _ trivial (fun hHeld => ?_)
                          clear hK K
                          refine norm_ (a' := ?_) ?_ ?_
                          rotate_left
                          · show Act.put _ (some 24) _ = _
                            simp only [Act.put, List.setIfInBounds_toArray, List.set_cons_zero, List.set_cons_succ, i64_w, i32_w]
                            rfl
                          exact norm_ (by simp only [putAll, Act.put, List.setIfInBounds_toArray, List.set_cons_zero, List.set_cons_succ]) (hCont (v249, v257, v260) _ ⟨(by (with_reducible repeat (first | apply Kd.V_alloc | apply Kd.V_drewN | apply Kd.V_drew)); exact Kd.V_mono HL246_0.out (fun _ hk => ⟨hk.1.1, ⟨hk.2, hk.1.2⟩⟩)), (by (with_reducible repeat (first | apply Kd.V_alloc | apply Kd.V_drewN | apply Kd.V_drew)); exact Kd.V_mono HO255.out (fun _ hk => ⟨hk.1.1, ⟨hk.2, hk.1.2⟩⟩)), (by (with_reducible repeat (first | apply Kd.N_alloc | apply Kd.N_drewN | apply Kd.N_drew)); exact HO258.out), (by (with_reducible repeat (first | apply Kd.N_alloc | apply Kd.N_drewN | apply Kd.N_drew)); exact HO261.out), (by (with_reducible repeat (first | apply Kd.V_alloc | apply Kd.V_drewN | apply Kd.V_drew)); exact Kd.V_mono HO269.out (fun _ hk => ⟨hk.1.1, ⟨hk.2, hk.1.2⟩⟩)), (by (with_reducible repeat (first | apply Kd.V_alloc | apply Kd.V_drewN | apply Kd.V_drew)); exact Kd.V_mono HO_0.out (fun _ hk => ⟨hk.1.1, ⟨hk.2, hk.1.2⟩⟩)), (by (with_reducible repeat (first | apply Kd.V_alloc | apply Kd.V_drewN | apply Kd.V_drew)); exact Kd.V_mono HO_1.out (fun _ hk => ⟨hk.1.1, ⟨hk.2, hk.1.2⟩⟩)), (by repeat (first | (with_reducible first | exact HB.out | apply below_alloc | apply pw_below_drewN | apply below_drew1) | exact HB.out))⟩)
                      · skip
                        refine Kd.N_lit_step (Kd.slice 3 (Kd.int .i64)) _ 41 ?hg (N' := 26) ?hd (xs := ([l1] : List (List Int))) (inner := [.slice A1 l1.length c1]) (ok := (fun k_ => ((P0_ k_ ∨ P1_ k_) ∨ w.heap.size ≤ k_))) (okp := (fun k_ => ((P0_ k_ ∨ P1_ k_) ∨ w.heap.size ≤ k_))) ?hr ?hp (fun _ hk => hk) ((show ∀ k_, w14.heap.size ≤ k_ → (fun k_ => ((P0_ k_ ∨ P1_ k_) ∨ w.heap.size ≤ k_)) k_ from fun k_ hk => (.inr (Nat.le_trans (below_size (by repeat (first | (with_reducible first | exact HB.out | apply below_alloc | apply pw_below_drewN | apply below_drew1) | exact HB.out))) hk))) _ (Nat.le_refl _)) (Below.refl _ _) (Nat.le_refl _) (by simp) ?_; (case hd => rfl); (case hg => rfl); (case hr => first | (go_simp; done) | (go_simp; rfl)); (case hp => exact (Reps.one (show Kd.FK (Kd.slice 3 (Kd.int .i64)) _ _ l1 [.slice A1 l1.length c1] from (Kd.FK_slice_mk (Kd.V_reads' (Kd.V_mono (ok' := (fun k_ => ((P0_ k_ ∨ P1_ k_) ∨ w.heap.size ≤ k_))) (HO_1.out) (fun k_ hk => hk))).2.1 (Kd.V_F (Kd.V_mono (ok' := (fun k_ => ((P0_ k_ ∨ P1_ k_) ∨ w.heap.size ≤ k_))) (HO_1.out) (fun k_ hk => hk))))) (Reps.none _ _)))
                        intro v260 w17 ho18 hb hg_ hnew_
                        clear hg_ hnew_
                        (first | rw [← Ny259.out] at ho18 | (simp only [Int.reduceToNat] at ho18; rw [← Ny259.out] at ho18))
                        have n0_ := Aside0.mk (Kd.V_elder' (by (with_reducible repeat (first | apply Kd.V_alloc | apply Kd.V_drewN | apply Kd.V_drew)); exact HO_0.out) (Kd.N_base ho18) hb)
                        have n1_ := Aside0.mk (Kd.V_elder' (by (with_reducible repeat (first | apply Kd.V_alloc | apply Kd.V_drewN | apply Kd.V_drew)); exact HO_1.out) (Kd.N_base ho18) hb)
                        have n2_ := Aside0.mk (Kd.V_elder' (by (with_reducible repeat (first | apply Kd.V_alloc | apply Kd.V_drewN | apply Kd.V_drew)); exact HL246_0.out) (Kd.N_base ho18) hb)
                        have n3_ := Aside0.mk (Kd.V_elder' (by (with_reducible repeat (first | apply Kd.V_alloc | apply Kd.V_drewN | apply Kd.V_drew)); exact HO255.out) (Kd.N_base ho18) hb)
                        have n4_ := Aside0.mk (Kd.V_elder' (by (with_reducible repeat (first | apply Kd.V_alloc | apply Kd.V_drewN | apply Kd.V_drew)); exact HO269.out) (Kd.N_base ho18) hb)
                        have n5_ := Aside0.mk (Kd.N_lower ho18 (below_size (by repeat (first | (with_reducible first | exact HB.out | apply below_alloc | apply pw_below_drewN | apply below_drew1) | exact HB.out))))
                        have n6_ := Aside0.mk (Kd.C_below (by repeat (first | (with_reducible exact HR246_0.out) | (with_reducible refine Kd.C_alloc ?_ _) | (with_reducible refine Kd.C_drewN ?_ _) | (with_reducible refine Kd.C_drew ?_) | exact HR246_0.out)) hb)
                        have n7_ := Aside0.mk (below_step (by repeat (first | (with_reducible first | exact HB.out | apply below_alloc | apply pw_below_drewN | apply below_drew1) | exact HB.out)) hb)
                        clear HO_0
                        clear HO_1
                        clear HL246_0
                        clear HO255
                        clear HO269
                        clear HR246_0
                        clear HB
                        have HO_0 := n0_
                        have HO_1 := n1_
                        have HL246_0 := n2_
                        have HO255 := n3_
                        have HO269 := n4_
                        have HO261 := n5_
                        have HR246_0 := n6_
                        have HB := n7_
                        clear n0_ n1_ n2_ n3_ n4_ n5_ n6_ n7_
                        clear hb ho18
                        refine hK.out _ _ trivial (fun hHeld => ?_)
                        clear hK K
                        refine norm_ (a' := ?_) ?_ ?_
                        rotate_left
                        · show Act.put _ (some 26) _ = _
                          simp only [Act.put, List.setIfInBounds_toArray, List.set_cons_zero, List.set_cons_succ, i64_w, i32_w]
                          rfl
                        refine one_ (i := 0) (N := some 20) #[true, true, true, true, false, true, true, false, true, true, true, false, false] rfl rfl (one_of HT_.out (by kernel_rfl)) (by decide) (fun K hK => ?_)
                        refine Kd.N_lit_step (Kd.slice 3 (Kd.int .i64)) _ 41 ?hg (N' := 20) ?hd (xs := ([] : List (List Int))) (inner := []) (ok := (fun k_ => ((P0_ k_ ∨ P1_ k_) ∨ w.heap.size ≤ k_) ∧ some k_ ≠ (v260 : Value).ownBlock)) (okp := (fun k_ => ((P0_ k_ ∨ P1_ k_) ∨ w.heap.size ≤ k_) ∧ some k_ ≠ (v260 : Value).ownBlock)) ?hr ?hp (fun _ hk => hk) ((show ∀ k_, w17.heap.size ≤ k_ → (fun k_ => ((P0_ k_ ∨ P1_ k_) ∨ w.heap.size ≤ k_) ∧ some k_ ≠ (v260 : Value).ownBlock) k_ from fun k_ hk => ⟨(.inr (Nat.le_trans (below_size (by repeat (first | (with_reducible first | exact HB.out | apply below_alloc | apply pw_below_drewN | apply below_drew1) | exact HB.out))) hk)), Kd.fresh' (Kd.N_lt (by (with_reducible repeat (first | apply Kd.N_alloc | apply Kd.N_drewN | apply Kd.N_drew)); exact HO261.out)) k_ hk⟩) _ (Nat.le_refl _)) (Below.refl _ _) (Nat.le_refl _) (by simp) ?_; (case hd => rfl); (case hg => rfl); (case hr => first | (go_simp; done) | (go_simp; rfl)); (case hp => exact (Reps.none _ _))
                        intro v249 w19 ho20 hb hg_ hnew_
                        clear hg_ hnew_
                        (first | rw [← Ny248.out] at ho20 | (simp only [Int.reduceToNat] at ho20; rw [← Ny248.out] at ho20))
                        have n0_ := Aside0.mk (Kd.V_elder' (by (with_reducible repeat (first | apply Kd.V_alloc | apply Kd.V_drewN | apply Kd.V_drew)); exact HO_0.out) (Kd.N_base ho20) hb)
                        have n1_ := Aside0.mk (Kd.V_elder' (by (with_reducible repeat (first | apply Kd.V_alloc | apply Kd.V_drewN | apply Kd.V_drew)); exact HO_1.out) (Kd.N_base ho20) hb)
                        have n2_ := Aside0.mk (Kd.V_elder' (by (with_reducible repeat (first | apply Kd.V_alloc | apply Kd.V_drewN | apply Kd.V_drew)); exact HL246_0.out) (Kd.N_base ho20) hb)
                        have n3_ := Aside0.mk (Kd.V_elder' (by (with_reducible repeat (first | apply Kd.V_alloc | apply Kd.V_drewN | apply Kd.V_drew)); exact HO255.out) (Kd.N_base ho20) hb)
                        have n4_ := Aside0.mk (Kd.V_elder' (by (with_reducible repeat (first | apply Kd.V_alloc | apply Kd.V_drewN | apply Kd.V_drew)); exact HO269.out) (Kd.N_base ho20) hb)
                        have n5_ := Aside0.mk (Kd.N_elder' (by (with_reducible repeat (first | apply Kd.N_alloc | apply Kd.N_drewN | apply Kd.N_drew)); exact HO261.out) (Kd.N_base ho20) hb)
                        have n6_ := Aside0.mk (Kd.N_lower ho20 (below_size (by repeat (first | (with_reducible first | exact HB.out | apply below_alloc | apply pw_below_drewN | apply below_drew1) | exact HB.out))))
                        have n7_ := Aside0.mk (Kd.C_below (by repeat (first | (with_reducible exact HR246_0.out) | (with_reducible refine Kd.C_alloc ?_ _) | (with_reducible refine Kd.C_drewN ?_ _) | (with_reducible refine Kd.C_drew ?_) | exact HR246_0.out)) hb)
                        have n8_ := Aside0.mk (below_step (by repeat (first | (with_reducible first | exact HB.out | apply below_alloc | apply pw_below_drewN | apply below_drew1) | exact HB.out)) hb)
                        clear HO_0
                        clear HO_1
                        clear HL246_0
                        clear HO255
                        clear HO269
                        clear HO261
                        clear HR246_0
                        clear HB
                        have HO_0 := n0_
                        have HO_1 := n1_
                        have HL246_0 := n2_
                        have HO255 := n3_
                        have HO269 := n4_
                        have HO261 := n5_
                        have HO250 := n6_
                        have HR246_0 := n7_
                        have HB := n8_
                        clear n0_ n1_ n2_ n3_ n4_ n5_ n6_ n7_ n8_
                        clear hb ho20
                        refine hK.out _ _ trivial (fun hHeld => ?_)
                        clear hK K
                        refine norm_ (a' := ?_) ?_ ?_
                        rotate_left
                        · show Act.put _ (some 20) _ = _
                          simp only [Act.put, List.setIfInBounds_toArray, List.set_cons_zero, List.set_cons_succ, i64_w, i32_w]
                          rfl
                        refine one_ (i := 4) (N := some 24) #[true, true, true, true, true, true, true, false, true, true, true, false, false] rfl rfl (one_of HT_.out (by kernel_rfl)) (by decide) (fun K hK => ?_)
                        refine Kd.N_append_rows_step (Kd.slice 3 (Kd.int .i64)) (w0 := w) w.heap.size (by rfl) (.tmp 20) (.tmp 23) 24 41 (.slice none 0 0) 24 rfl Tryz.underlying24 info41 rfl (by decide) (by omega) v249 y248 y251 _ _ _ (fun k_ => ((P0_ k_ ∨ P1_ k_) ∨ w.heap.size ≤ k_) ∧ some k_ ≠ (v260 : Value).ownBlock) (fun k_ => ((fun k_ => ((P0_ k_ ∨ P1_ k_) ∨ w.heap.size ≤ k_) ∧ some k_ ≠ (v260 : Value).ownBlock)) k_ ∧ some k_ ≠ (v249 : Value).ownBlock) rfl rfl ?aO ?aR (fun _ hk => hk) ?aF ?aB ?aS ?aL ?_
                        (case aR => exact (by skip; exact Kd.V_F (Kd.V_mono (ok' := (fun k_ => ((fun k_ => ((P0_ k_ ∨ P1_ k_) ∨ w.heap.size ≤ k_) ∧ some k_ ≠ (v260 : Value).ownBlock)) k_ ∧ some k_ ≠ (v249 : Value).ownBlock)) (HO255.out) (fun k_ hk => ⟨⟨hk.1.1, hk.1.2⟩, hk.2⟩))))
                        (case aB => exact (by repeat (first | (with_reducible first | exact HB.out | apply below_alloc | apply pw_below_drewN | apply below_drew1) | exact HB.out)))
                        (case aF => exact (fun k_ hk => ⟨(.inr (Nat.le_trans (below_size (by repeat (first | (with_reducible first | exact HB.out | apply below_alloc | apply pw_below_drewN | apply below_drew1) | exact HB.out))) hk)), Kd.fresh' (Kd.N_lt (by (with_reducible repeat (first | apply Kd.N_alloc | apply Kd.N_drewN | apply Kd.N_drew)); exact HO261.out)) k_ hk⟩))
                        (case aO => exact (by (with_reducible repeat (first | apply Kd.N_alloc | apply Kd.N_drewN | apply Kd.N_drew)); exact HO250.out))
                        (case aS => exact (below_size (by repeat (first | (with_reducible first | exact HB.out | apply below_alloc | apply pw_below_drewN | apply below_drew1) | exact HB.out))))
                        (case aL => have := LMc9.out; omega)
                        intro v257 w21 ho hb hg hat
                        rw [← Ny256.out] at ho
                        have n0_ := Aside0.mk (Kd.V_afterv (ok := (fun k_ => ((P0_ k_ ∨ P1_ k_) ∨ w.heap.size ≤ k_) ∧ some k_ ≠ (v260 : Value).ownBlock)) (by (with_reducible repeat (first | apply Kd.V_alloc | apply Kd.V_drewN | apply Kd.V_drew)); exact HO_0.out) hg hat)
                        have n1_ := Aside0.mk (Kd.V_afterv (ok := (fun k_ => ((P0_ k_ ∨ P1_ k_) ∨ w.heap.size ≤ k_) ∧ some k_ ≠ (v260 : Value).ownBlock)) (by (with_reducible repeat (first | apply Kd.V_alloc | apply Kd.V_drewN | apply Kd.V_drew)); exact HO_1.out) hg hat)
                        have n2_ := Aside0.mk (Kd.V_afterv (ok := (fun k_ => ((P0_ k_ ∨ P1_ k_) ∨ w.heap.size ≤ k_) ∧ some k_ ≠ (v260 : Value).ownBlock)) (by (with_reducible repeat (first | apply Kd.V_alloc | apply Kd.V_drewN | apply Kd.V_drew)); exact HL246_0.out) hg hat)
                        have n3_ := Aside0.mk (Kd.V_afterv (ok := (fun k_ => ((P0_ k_ ∨ P1_ k_) ∨ w.heap.size ≤ k_) ∧ some k_ ≠ (v260 : Value).ownBlock)) (by (with_reducible repeat (first | apply Kd.V_alloc | apply Kd.V_drewN | apply Kd.V_drew)); exact HO255.out) hg hat)
                        have n4_ := Aside0.mk (Kd.V_afterv (ok := (fun k_ => ((P0_ k_ ∨ P1_ k_) ∨ w.heap.size ≤ k_) ∧ some k_ ≠ (v260 : Value).ownBlock)) (by (with_reducible repeat (first | apply Kd.V_alloc | apply Kd.V_drewN | apply Kd.V_drew)); exact HO269.out) hg hat)
                        have n5_ := Aside0.mk (Kd.N_afterv (ok := (fun k_ => ((P0_ k_ ∨ P1_ k_) ∨ w.heap.size ≤ k_))) (by (with_reducible repeat (first | apply Kd.N_alloc | apply Kd.N_drewN | apply Kd.N_drew)); exact HO261.out) hg hat)
                        have n6_ := Aside0.mk (hb)
                        have n7_ := Aside0.mk (ho)
                        clear HO_0
                        clear HO_1
                        clear HL246_0
                        clear HO255
                        clear HO269
                        clear HO261
                        clear HB
                        clear HO250
                        have HO_0 := n0_
                        have HO_1 := n1_
                        have HL246_0 := n2_
                        have HO255 := n3_
                        have HO269 := n4_
                        have HO261 := n5_
                        have HB := n6_
                        have HO258 := n7_
                        clear n0_ n1_ n2_ n3_ n4_ n5_ n6_ n7_
                        clear ho hb hg hat
                        refine hK.out _ _ trivial (fun hHeld => ?_)
                        clear hK K
                        refine norm_ (a' := ?_) ?_ ?_
                        rotate_left
                        · show Act.put _ (some 24) _ = _
                          simp only [Act.put, List.setIfInBounds_toArray, List.set_cons_zero, List.set_cons_succ, i64_w, i32_w]
                          rfl
                        exact norm_ (by simp only [putAll, Act.put, List.setIfInBounds_toArray, List.set_cons_zero, List.set_cons_succ]) (hCont (v249, v257, v260) _ ⟨(by (with_reducible repeat (first | apply Kd.V_alloc | apply Kd.V_drewN | apply Kd.V_drew)); exact Kd.V_mono HL246_0.out (fun _ hk => ⟨hk.1.1, ⟨hk.2, hk.1.2⟩⟩)), (by (with_reducible repeat (first | apply Kd.V_alloc | apply Kd.V_drewN | apply Kd.V_drew)); exact Kd.V_mono HO255.out (fun _ hk => ⟨hk.1.1, ⟨hk.2, hk.1.2⟩⟩)), (by (with_reducible repeat (first | apply Kd.N_alloc | apply Kd.N_drewN | apply Kd.N_drew)); exact HO258.out), (by (with_reducible repeat (first | apply Kd.N_alloc | apply Kd.N_drewN | apply Kd.N_drew)); exact HO261.out), (by (with_reducible repeat (first | apply Kd.V_alloc | apply Kd.V_drewN | apply Kd.V_drew)); exact Kd.V_mono HO269.out (fun _ hk => ⟨hk.1.1, ⟨hk.2, hk.1.2⟩⟩)), (by (with_reducible repeat (first | apply Kd.V_alloc | apply Kd.V_drewN | apply Kd.V_drew)); exact Kd.V_mono HO_0.out (fun _ hk => ⟨hk.1.1, ⟨hk.2, hk.1.2⟩⟩)), (by (with_reducible repeat (first | apply Kd.V_alloc | apply Kd.V_drewN | apply Kd.V_drew)); exact Kd.V_mono HO_1.out (fun _ hk => ⟨hk.1.1, ⟨hk.2, hk.1.2⟩⟩)), (by repeat (first | (with_reducible first | exact HB.out | apply below_alloc | apply pw_below_drewN | apply below_drew1) | exact HB.out))⟩)
                    rintro ⟨v249, v257, v260⟩ w22 ⟨h0_, h1_, h2_, h3_, h4_, h5_, h6_, h7_⟩
                    have n0_ : Aside0 (Kd.V (Kd.int .i64) 3 w22 w.heap.size (fun k_ => ((P0_ k_ ∨ P1_ k_) ∨ w.heap.size ≤ k_) ∧ some k_ ≠ (v257 : Value).ownBlock ∧ some k_ ≠ (v260 : Value).ownBlock) (.slice A246_0 (rd_L5 l0 x5_1).length c246_0) (rd_L5 l0 x5_1)) := ⟨h0_⟩
                    have n1_ : Aside0 (Kd.V (Kd.slice 3 (Kd.int .i64)) 41 w22 w.heap.size (fun k_ => ((P0_ k_ ∨ P1_ k_) ∨ w.heap.size ≤ k_) ∧ some k_ ≠ (v257 : Value).ownBlock ∧ some k_ ≠ (v260 : Value).ownBlock) (.slice (some ad246) y251.length c0) y251) := ⟨h1_⟩
                    have n2_ : Aside0 (Kd.N (Kd.slice 3 (Kd.int .i64)) 41 w22 w.heap.size (fun k_ => ((P0_ k_ ∨ P1_ k_) ∨ w.heap.size ≤ k_) ∧ some k_ ≠ (v260 : Value).ownBlock) v257 y256) := ⟨h2_⟩
                    have n3_ : Aside0 (Kd.N (Kd.slice 3 (Kd.int .i64)) 41 w22 w.heap.size (fun k_ => ((P0_ k_ ∨ P1_ k_) ∨ w.heap.size ≤ k_) ∧ some k_ ≠ (v257 : Value).ownBlock) v260 y259) := ⟨h3_⟩
                    have n4_ : Aside0 (Kd.V (Kd.slice 3 (Kd.int .i64)) 41 w22 w.heap.size (fun k_ => ((P0_ k_ ∨ P1_ k_) ∨ w.heap.size ≤ k_) ∧ some k_ ≠ (v257 : Value).ownBlock ∧ some k_ ≠ (v260 : Value).ownBlock) (.slice A16 y265.length c16) y265) := ⟨h4_⟩
                    have n5_ : Aside0 (Kd.V (Kd.slice 3 (Kd.int .i64)) 41 w22 w.heap.size (fun k_ => ((P0_ k_ ∨ P1_ k_) ∨ w.heap.size ≤ k_) ∧ some k_ ≠ (v257 : Value).ownBlock ∧ some k_ ≠ (v260 : Value).ownBlock) (.slice (some ad246) l0.length c0) l0) := ⟨h5_⟩
                    have n6_ : Aside0 (Kd.V (Kd.int .i64) 3 w22 w.heap.size (fun k_ => ((P0_ k_ ∨ P1_ k_) ∨ w.heap.size ≤ k_) ∧ some k_ ≠ (v257 : Value).ownBlock ∧ some k_ ≠ (v260 : Value).ownBlock) (.slice A1 l1.length c1) l1) := ⟨h6_⟩
                    have n7_ : Aside0 (Below w.heap.size w w22) := ⟨h7_⟩
                    clear HO_0
                    clear HO_1
                    clear HL246_0
                    clear HR246_0
                    clear HB
                    clear h0_ h1_ h2_ h3_ h4_ h5_ h6_ h7_
                    have HL246_0 := n0_
                    have HO255 := n1_
                    have HO258 := n2_
                    have HO261 := n3_
                    have HO269 := n4_
                    have HO_0 := n5_
                    have HO_1 := n6_
                    have HB := n7_
                    clear n0_ n1_ n2_ n3_ n4_ n5_ n6_ n7_
                    have hHeld := trivial
                    obtain ⟨Ao24, co24, eo24⟩ := Kd.N_slice HO261.out
                    (first | subst eo24 | (injection eo24 with f1_ f2_ f3_; have f4_ := f1_.symm; have f5_ := f3_.symm; clear f1_ f2_ f3_; subst f4_; subst f5_))
                    refine norm_ (a' := ?_) ?_ ?_
                    rotate_left
                    · simp only [putAll, Act.put, List.setIfInBounds_toArray, List.set_cons_zero, List.set_cons_succ]
                      rfl
                    refine one_ (i := 7) (N := some 27) #[true, true, true, true, true, true, true, true, true, true, true, false, false] rfl rfl (one_of HT_.out (by kernel_rfl)) (by decide) (fun K hK => ?_)
                    refine Kd.N_append_rows_step (Kd.slice 3 (Kd.int .i64)) (w0 := w) w.heap.size (by rfl) (.tmp 24) (.tmp 26) 24 41 (.slice none 0 0) 24 rfl Tryz.underlying24 info41 rfl (by decide) (by omega) v257 y256 y259 _ _ _ (fun k_ => ((P0_ k_ ∨ P1_ k_) ∨ w.heap.size ≤ k_)) (fun k_ => ((fun k_ => ((P0_ k_ ∨ P1_ k_) ∨ w.heap.size ≤ k_))) k_ ∧ some k_ ≠ (v257 : Value).ownBlock) rfl rfl ?aO ?aR (fun _ hk => hk) ?aF ?aB ?aS ?aL ?_
                    (case aR => exact (by skip; exact Kd.N_F (Kd.N_mono (ok' := (fun k_ => ((fun k_ => ((P0_ k_ ∨ P1_ k_) ∨ w.heap.size ≤ k_))) k_ ∧ some k_ ≠ (v257 : Value).ownBlock)) (HO261.out) (fun k_ hk => ⟨hk.1, hk.2⟩))))
                    (case aB => exact (by repeat (first | (with_reducible first | exact HB.out | apply below_alloc | apply pw_below_drewN | apply below_drew1) | exact HB.out)))
                    (case aF => exact (fun k_ hk => (.inr (Nat.le_trans (below_size (by repeat (first | (with_reducible first | exact HB.out | apply below_alloc | apply pw_below_drewN | apply below_drew1) | exact HB.out))) hk))))
                    (case aO => exact (by (with_reducible repeat (first | apply Kd.N_alloc | apply Kd.N_drewN | apply Kd.N_drew)); exact Kd.N_mono HO258.out (fun _ hk => hk.1)))
                    (case aS => exact (below_size (by repeat (first | (with_reducible first | exact HB.out | apply below_alloc | apply pw_below_drewN | apply below_drew1) | exact HB.out))))
                    (case aL => have := LMc10.out; omega)
                    intro v263 w23 ho hb hg hat
                    rw [← Ny262.out] at ho
                    have n0_ := Aside0.mk (Kd.V_afterv (ok := (fun k_ => ((P0_ k_ ∨ P1_ k_) ∨ w.heap.size ≤ k_) ∧ some k_ ≠ (.slice Ao24 y259.length co24 : Value).ownBlock)) (by (with_reducible repeat (first | apply Kd.V_alloc | apply Kd.V_drewN | apply Kd.V_drew)); exact Kd.V_mono HO_0.out (fun _ hk => ⟨⟨hk.1, hk.2.2⟩, hk.2.1⟩)) hg hat)
                    have n1_ := Aside0.mk (Kd.V_afterv (ok := (fun k_ => ((P0_ k_ ∨ P1_ k_) ∨ w.heap.size ≤ k_) ∧ some k_ ≠ (.slice Ao24 y259.length co24 : Value).ownBlock)) (by (with_reducible repeat (first | apply Kd.V_alloc | apply Kd.V_drewN | apply Kd.V_drew)); exact Kd.V_mono HO_1.out (fun _ hk => ⟨⟨hk.1, hk.2.2⟩, hk.2.1⟩)) hg hat)
                    have n2_ := Aside0.mk (Kd.V_afterv (ok := (fun k_ => ((P0_ k_ ∨ P1_ k_) ∨ w.heap.size ≤ k_) ∧ some k_ ≠ (.slice Ao24 y259.length co24 : Value).ownBlock)) (by (with_reducible repeat (first | apply Kd.V_alloc | apply Kd.V_drewN | apply Kd.V_drew)); exact Kd.V_mono HL246_0.out (fun _ hk => ⟨⟨hk.1, hk.2.2⟩, hk.2.1⟩)) hg hat)
                    have n3_ := Aside0.mk (Kd.V_afterv (ok := (fun k_ => ((P0_ k_ ∨ P1_ k_) ∨ w.heap.size ≤ k_) ∧ some k_ ≠ (.slice Ao24 y259.length co24 : Value).ownBlock)) (by (with_reducible repeat (first | apply Kd.V_alloc | apply Kd.V_drewN | apply Kd.V_drew)); exact Kd.V_mono HO255.out (fun _ hk => ⟨⟨hk.1, hk.2.2⟩, hk.2.1⟩)) hg hat)
                    have n4_ := Aside0.mk (Kd.V_afterv (ok := (fun k_ => ((P0_ k_ ∨ P1_ k_) ∨ w.heap.size ≤ k_) ∧ some k_ ≠ (.slice Ao24 y259.length co24 : Value).ownBlock)) (by (with_reducible repeat (first | apply Kd.V_alloc | apply Kd.V_drewN | apply Kd.V_drew)); exact Kd.V_mono HO269.out (fun _ hk => ⟨⟨hk.1, hk.2.2⟩, hk.2.1⟩)) hg hat)
                    have n5_ := Aside0.mk (Kd.N_afterv (ok := (fun k_ => ((P0_ k_ ∨ P1_ k_) ∨ w.heap.size ≤ k_))) (by (with_reducible repeat (first | apply Kd.N_alloc | apply Kd.N_drewN | apply Kd.N_drew)); exact HO261.out) hg hat)
                    have n6_ := Aside0.mk (hb)
                    have n7_ := Aside0.mk (ho)
                    clear HO_0
                    clear HO_1
                    clear HL246_0
                    clear HO255
                    clear HO269
                    clear HO261
                    clear HB
                    clear HO258
                    have HO_0 := n0_
                    have HO_1 := n1_
                    have HL246_0 := n2_
                    have HO255 := n3_
                    have HO269 := n4_
                    have HO261 := n5_
                    have HB := n6_
                    have HO264 := n7_
                    clear n0_ n1_ n2_ n3_ n4_ n5_ n6_ n7_
                    clear ho hb hg hat
                    refine hK.out _ _ trivial (fun hHeld => ?_)
                    clear hK K
                    refine norm_ (a' := ?_) ?_ ?_
                    rotate_left
                    · show Act.put _ (some 27) _ = _
                      simp only [Act.put, List.setIfInBounds_toArray, List.set_cons_zero, List.set_cons_succ, i64_w, i32_w]
                      rfl
                    refine one_ (i := 11) (N := some 31) #[true, true, true, true, true, true, true, true, true, true, true, true, false] rfl rfl (one_of HT_.out (by kernel_rfl)) (by decide) (fun K hK => ?_)
                    refine Kd.N_append_rows_step (Kd.slice 3 (Kd.int .i64)) (w0 := w) w.heap.size (by rfl) (.tmp 27) (.tmp 30) 24 41 (.slice none 0 0) 24 rfl Tryz.underlying24 info41 rfl (by decide) (by omega) v263 y262 y265 _ _ _ (fun k_ => ((P0_ k_ ∨ P1_ k_) ∨ w.heap.size ≤ k_)) (fun k_ => ((fun k_ => ((P0_ k_ ∨ P1_ k_) ∨ w.heap.size ≤ k_))) k_ ∧ some k_ ≠ (v263 : Value).ownBlock) rfl rfl ?aO ?aR (fun _ hk => hk) ?aF ?aB ?aS ?aL ?_
                    (case aR => exact (by skip; exact Kd.V_F (Kd.V_mono (ok' := (fun k_ => ((fun k_ => ((P0_ k_ ∨ P1_ k_) ∨ w.heap.size ≤ k_))) k_ ∧ some k_ ≠ (v263 : Value).ownBlock)) (HO269.out) (fun k_ hk => ⟨hk.1.1, hk.2⟩))))
                    (case aB => exact (by repeat (first | (with_reducible first | exact HB.out | apply below_alloc | apply pw_below_drewN | apply below_drew1) | exact HB.out)))
                    (case aF => exact (fun k_ hk => (.inr (Nat.le_trans (below_size (by repeat (first | (with_reducible first | exact HB.out | apply below_alloc | apply pw_below_drewN | apply below_drew1) | exact HB.out))) hk))))
                    (case aO => exact (by (with_reducible repeat (first | apply Kd.N_alloc | apply Kd.N_drewN | apply Kd.N_drew)); exact HO264.out))
                    (case aS => exact (below_size (by repeat (first | (with_reducible first | exact HB.out | apply below_alloc | apply pw_below_drewN | apply below_drew1) | exact HB.out))))
                    (case aL => have := LMc13.out; omega)
                    intro v271 w25 ho hb hg hat
                    rw [← Ny270.out] at ho
                    have n0_ := Aside0.mk (Kd.V_afterv (ok := (fun k_ => ((P0_ k_ ∨ P1_ k_) ∨ w.heap.size ≤ k_) ∧ some k_ ≠ (.slice Ao24 y259.length co24 : Value).ownBlock)) (by (with_reducible repeat (first | apply Kd.V_alloc | apply Kd.V_drewN | apply Kd.V_drew)); exact HO_0.out) hg hat)
                    have n1_ := Aside0.mk (Kd.V_afterv (ok := (fun k_ => ((P0_ k_ ∨ P1_ k_) ∨ w.heap.size ≤ k_) ∧ some k_ ≠ (.slice Ao24 y259.length co24 : Value).ownBlock)) (by (with_reducible repeat (first | apply Kd.V_alloc | apply Kd.V_drewN | apply Kd.V_drew)); exact HO_1.out) hg hat)
                    have n2_ := Aside0.mk (Kd.V_afterv (ok := (fun k_ => ((P0_ k_ ∨ P1_ k_) ∨ w.heap.size ≤ k_) ∧ some k_ ≠ (.slice Ao24 y259.length co24 : Value).ownBlock)) (by (with_reducible repeat (first | apply Kd.V_alloc | apply Kd.V_drewN | apply Kd.V_drew)); exact HL246_0.out) hg hat)
                    have n3_ := Aside0.mk (Kd.V_afterv (ok := (fun k_ => ((P0_ k_ ∨ P1_ k_) ∨ w.heap.size ≤ k_) ∧ some k_ ≠ (.slice Ao24 y259.length co24 : Value).ownBlock)) (by (with_reducible repeat (first | apply Kd.V_alloc | apply Kd.V_drewN | apply Kd.V_drew)); exact HO255.out) hg hat)
                    have n4_ := Aside0.mk (Kd.V_afterv (ok := (fun k_ => ((P0_ k_ ∨ P1_ k_) ∨ w.heap.size ≤ k_) ∧ some k_ ≠ (.slice Ao24 y259.length co24 : Value).ownBlock)) (by (with_reducible repeat (first | apply Kd.V_alloc | apply Kd.V_drewN | apply Kd.V_drew)); exact HO269.out) hg hat)
                    have n5_ := Aside0.mk (Kd.N_afterv (ok := (fun k_ => ((P0_ k_ ∨ P1_ k_) ∨ w.heap.size ≤ k_))) (by (with_reducible repeat (first | apply Kd.N_alloc | apply Kd.N_drewN | apply Kd.N_drew)); exact HO261.out) hg hat)
                    have n6_ := Aside0.mk (hb)
                    have n7_ := Aside0.mk (ho)
                    clear HO_0
                    clear HO_1
                    clear HL246_0
                    clear HO255
                    clear HO269
                    clear HO261
                    clear HB
                    clear HO264
                    have HO_0 := n0_
                    have HO_1 := n1_
                    have HL246_0 := n2_
                    have HO255 := n3_
                    have HO269 := n4_
                    have HO261 := n5_
                    have HB := n6_
                    have HO272 := n7_
                    clear n0_ n1_ n2_ n3_ n4_ n5_ n6_ n7_
                    clear ho hb hg hat
                    refine hK.out _ _ trivial (fun hHeld => ?_)
                    clear hK K
                    refine norm_ (a' := ?_) ?_ ?_
                    rotate_left
                    · show Act.put _ (some 31) _ = _
                      simp only [Act.put, List.setIfInBounds_toArray, List.set_cons_zero, List.set_cons_succ, i64_w, i32_w]
                      rfl
                    refine pure_ (i := 12) (N := some 4) (v := ?_) (a' := ?_) #[true, true, true, true, true, true, true, true, true, true, true, true, true] rfl rfl (any_of HT_.out (by kernel_rfl)) (fun _ _ _ h => h) (Or.inl ⟨by rfl, ?_⟩) ?_ ?_
                    rotate_left
                    · intro w'
                      go_simp
                      with_reducible rfl
                    rotate_left
                    · simp only [Act.put, List.setIfInBounds_toArray, List.set_cons_zero, List.set_cons_succ, i64_w, i32_w]
                      rfl
                    refine done_ (done_of HT_.out (by kernel_rfl)) ?_
                    try go_wp2
                    go_ret
                    exact ⟨_, by first | rfl | (simp [errW_none, errW_some] <;> rfl) | (simp [*, errW_none, errW_some] <;> rfl), by (with_reducible repeat (first | apply Kd.N_alloc | apply Kd.N_drewN | apply Kd.N_drew)); exact HO272.out, by repeat (first | (with_reducible first | exact HB.out | apply below_alloc | apply pw_below_drewN | apply below_drew1) | exact HB.out)⟩
                  · rw [if_neg c13] at H
                    exact absurd H (by simp)
                · rw [if_neg c10] at H
                  exact absurd H (by simp)
              · rw [if_neg c9] at H
                exact absurd H (by simp)
            · rw [if_neg c8] at H
              exact absurd H (by simp)
        · rw [if_neg c4] at H
          exact absurd H (by simp)
      · rw [if_neg c3] at H
        have c3b0 : decide (x5_1 < (l0.length : Int)) = false := decide_eq_false c3
        clear c3
        obtain ⟨y273, hy273⟩ : ∃ y_ : List (List Int), y_ = (([] : List (List Int))) := ⟨_, rfl⟩
        replace H : (if 0 ≤ x5_1 then (if x5_1 ≤ (l0.length : Int) then ((some (l0.take (x5_1 : Int).toNat : List (List Int))).bind fun y276 => (if y273.length + y276.length < 5864062014805 then ((some (y273 ++ y276 : List (List Int))).bind fun y281 => ((some (([l1] : List (List Int)) : List (List Int))).bind fun y284 => (if y281.length + y284.length < 5864062014805 then ((some (y281 ++ y284 : List (List Int))).bind fun y287 => ((some (l0.drop (x5_1 : Int).toNat : List (List Int))).bind fun y290 => (if y287.length + y290.length < 5864062014805 then (some (y287 ++ y290)) else (none)))) else (none)))) else (none))) else (none)) else (none)) = some r := by first | (rw [hy273]; with_reducible exact H) | (have H2_ := (Option.bind_some _ _).symm.trans H; rw [hy273]; with_reducible exact H2_) | (have H2_ := (Option.bind_some _ _).symm.trans H; with_reducible exact H2_) | with_reducible exact H | (rw [hy273]; exact H) | exact H
        have Ny273 := Aside0.mk hy273
        clear hy273
        by_cases c26 : 0 ≤ x5_1
        · rw [if_pos c26] at H
          have c26b0 := eq_true c26
          have c26b1 : decide (0 ≤ x5_1) = true := decide_eq_true c26
          clear c26
          by_cases c27 : x5_1 ≤ (l0.length : Int)
          · rw [if_pos c27] at H
            have c27b0 := eq_true c27
            have c27b1 : decide (x5_1 ≤ (l0.length : Int)) = true := decide_eq_true c27
            clear c27
            obtain ⟨y276, hy276⟩ : ∃ y_ : List (List Int), y_ = (l0.take (x5_1 : Int).toNat) := ⟨_, rfl⟩
            replace H : (if y273.length + y276.length < 5864062014805 then ((some (y273 ++ y276 : List (List Int))).bind fun y281 => ((some (([l1] : List (List Int)) : List (List Int))).bind fun y284 => (if y281.length + y284.length < 5864062014805 then ((some (y281 ++ y284 : List (List Int))).bind fun y287 => ((some (l0.drop (x5_1 : Int).toNat : List (List Int))).bind fun y290 => (if y287.length + y290.length < 5864062014805 then (some (y287 ++ y290)) else (none)))) else (none)))) else (none)) = some r := by first | (rw [hy276]; with_reducible exact H) | (have H2_ := (Option.bind_some _ _).symm.trans H; rw [hy276]; with_reducible exact H2_) | (have H2_ := (Option.bind_some _ _).symm.trans H; with_reducible exact H2_) | with_reducible exact H | (rw [hy276]; exact H) | exact H
            have Ny276 := Aside0.mk hy276
            clear hy276
            by_cases c28 : y273.length + y276.length < 5864062014805
            · rw [if_pos c28] at H
              have LMc28 := Aside0.mk c28
              clear c28
              obtain ⟨y281, hy281⟩ : ∃ y_ : List (List Int), y_ = (y273 ++ y276) := ⟨_, rfl⟩
              replace H : ((some (([l1] : List (List Int)) : List (List Int))).bind fun y284 => (if y281.length + y284.length < 5864062014805 then ((some (y281 ++ y284 : List (List Int))).bind fun y287 => ((some (l0.drop (x5_1 : Int).toNat : List (List Int))).bind fun y290 => (if y287.length + y290.length < 5864062014805 then (some (y287 ++ y290)) else (none)))) else (none))) = some r := by first | (rw [hy281]; with_reducible exact H) | (have H2_ := (Option.bind_some _ _).symm.trans H; rw [hy281]; with_reducible exact H2_) | (have H2_ := (Option.bind_some _ _).symm.trans H; with_reducible exact H2_) | with_reducible exact H | (rw [hy281]; exact H) | exact H
              have Ny281 := Aside0.mk hy281
              clear hy281
              obtain ⟨y284, hy284⟩ : ∃ y_ : List (List Int), y_ = (([l1] : List (List Int))) := ⟨_, rfl⟩
              replace H : (if y281.length + y284.length < 5864062014805 then ((some (y281 ++ y284 : List (List Int))).bind fun y287 => ((some (l0.drop (x5_1 : Int).toNat : List (List Int))).bind fun y290 => (if y287.length + y290.length < 5864062014805 then (some (y287 ++ y290)) else (none)))) else (none)) = some r := by first | (rw [hy284]; with_reducible exact H) | (have H2_ := (Option.bind_some _ _).symm.trans H; rw [hy284]; with_reducible exact H2_) | (have H2_ := (Option.bind_some _ _).symm.trans H; with_reducible exact H2_) | with_reducible exact H | (rw [hy284]; exact H) | exact H
              have Ny284 := Aside0.mk hy284
              clear hy284
              by_cases c29 : y281.length + y284.length < 5864062014805
              · rw [if_pos c29] at H
                have LMc29 := Aside0.mk c29
                clear c29
                obtain ⟨y287, hy287⟩ : ∃ y_ : List (List Int), y_ = (y281 ++ y284) := ⟨_, rfl⟩
                replace H : ((some (l0.drop (x5_1 : Int).toNat : List (List Int))).bind fun y290 => (if y287.length + y290.length < 5864062014805 then (some (y287 ++ y290)) else (none))) = some r := by first | (rw [hy287]; with_reducible exact H) | (have H2_ := (Option.bind_some _ _).symm.trans H; rw [hy287]; with_reducible exact H2_) | (have H2_ := (Option.bind_some _ _).symm.trans H; with_reducible exact H2_) | with_reducible exact H | (rw [hy287]; exact H) | exact H
                have Ny287 := Aside0.mk hy287
                clear hy287
                have c30b0 := eq_true (of_decide_eq_true (by first | (with_reducible assumption) | assumption) : 0 ≤ x5_1)
                have c31b0 := eq_true (of_decide_eq_true (by first | (with_reducible assumption) | assumption) : x5_1 ≤ (l0.length : Int))
                obtain ⟨y290, hy290⟩ : ∃ y_ : List (List Int), y_ = (l0.drop (x5_1 : Int).toNat) := ⟨_, rfl⟩
                replace H : (if y287.length + y290.length < 5864062014805 then (some (y287 ++ y290)) else (none)) = some r := by first | (rw [hy290]; with_reducible exact H) | (have H2_ := (Option.bind_some _ _).symm.trans H; rw [hy290]; with_reducible exact H2_) | (have H2_ := (Option.bind_some _ _).symm.trans H; with_reducible exact H2_) | with_reducible exact H | (rw [hy290]; exact H) | exact H
                have Ny290 := Aside0.mk hy290
                clear hy290
                by_cases c32 : y287.length + y290.length < 5864062014805
                · rw [if_pos c32] at H
                  have LMc32 := Aside0.mk c32
                  clear c32
                  obtain ⟨y295, hy295⟩ : ∃ y_ : List (List Int), y_ = (y287 ++ y290) := ⟨_, rfl⟩
                  replace H : (some y295) = some r := by first | (rw [hy295]; with_reducible exact H) | (have H2_ := (Option.bind_some _ _).symm.trans H; rw [hy295]; with_reducible exact H2_) | (have H2_ := (Option.bind_some _ _).symm.trans H; with_reducible exact H2_) | with_reducible exact H | (rw [hy295]; exact H) | exact H
                  have Ny295 := Aside0.mk hy295
                  clear hy295
                  obtain rfl := Option.some.inj H
                  try go_wp2
                  have n0_ := Aside0.mk (Kd.V_drew HO_0.out)
                  have n1_ := Aside0.mk (Kd.V_drew HO_1.out)
                  have n2_ := Aside0.mk (below_drew1 HB.out)
                  clear HO_0
                  clear HO_1
                  clear HB
                  have HO_0 := n0_
                  have HO_1 := n1_
                  have HB := n2_
                  clear n0_ n1_ n2_
                  have q34 : (x5_1 : Int) ≤ ((l0.length : Int) : Int) := of_decide_eq_true (by first | (with_reducible assumption) | assumption)
                  obtain ⟨i034, hi034, _, hsz34, _⟩ := info_parts info41
                  have hroom34 : l0.length ≤ c0 := (Kd.V_reads' HO_0.out).2.1
                  have hC34 : Kd.F (Kd.slice 3 (Kd.int .i64)) _ _ A0 l0.length l0 := (Kd.V_at (base := w.heap.size) HO_0.out).2.2
                  have hcut34 := cut_to (P := Tryz.prog) 24 41 .i64 Tryz.underlying24 hi034 A0 l0.length c0 x5_1 (of_decide_eq_true (by first | (with_reducible assumption) | assumption)) q34 hroom34
                  have hr34 := Kd.F_take (m := (x5_1 : Int).toNat) hC34 (by omega)
                  have hy34 : y276.length = (x5_1 : Int).toNat := (by rw [Ny276.out, List.length_take]; omega)
                  rw [← Ny276.out] at hr34
                  rw [← hy34] at hcut34
                  have HO280 := Aside0.mk (show Kd.V (Kd.slice 3 (Kd.int .i64)) 41 _ w.heap.size _ (.slice A0 y276.length c0) y276 from Kd.V_mk (by omega) hr34)
                  have HC280 := Aside0.mk (show y276.length ≤ c0 from by omega)
                  clear hr34 hC34 hroom34 hi034 hsz34
                  have KY34 := Aside0.mk hy34
                  clear hy34
                  replace q34 := eq_true q34
                  have q35 : (x5_1 : Int) ≤ ((l0.length : Int) : Int) := of_decide_eq_true (by first | (with_reducible assumption) | assumption)
                  obtain ⟨i035, hi035, _, hsz35, _⟩ := info_parts info41
                  have hroom35 : l0.length ≤ c0 := (Kd.V_reads' HO_0.out).2.1
                  have hC35 : Kd.F (Kd.slice 3 (Kd.int .i64)) _ _ A0 l0.length l0 := (Kd.V_at (base := w.heap.size) HO_0.out).2.2
                  have q035 : (0 : Int) ≤ (x5_1 : Int) := of_decide_eq_true (by first | (with_reducible assumption) | assumption)
                  have hcut35 := cut_from (P := Tryz.prog) 24 41 .i64 Tryz.underlying24 hi035 1 hsz35 A0 l0.length c0 x5_1 q035 q35
                  have hr35 := Kd.F_cut (m := (x5_1 : Int).toNat) (c := c0) hC35 (by omega) hroom35
                  obtain ⟨A35, hA35⟩ : ∃ A1, A1 = (if c0 = (x5_1 : Int).toNat then A0 else (A0 : Option Addr).map (·.add ((x5_1 : Int).toNat * 1))) := ⟨_, rfl⟩
                  obtain ⟨c35, hc35⟩ : ∃ c1, c1 = c0 - (x5_1 : Int).toNat := ⟨_, rfl⟩
                  have hy35 : y290.length = l0.length - (x5_1 : Int).toNat := (by rw [Ny290.out, List.length_drop] <;> omega)
                  rw [show (l0).drop (x5_1 : Int).toNat = y290 from Ny290.out.symm] at hr35
                  replace hr35 : Kd.F (Kd.slice 3 (Kd.int .i64)) _ _ A35 y290.length y290 := (by rw [hA35]; exact hr35)
                  rw [← hy35, ← hA35, ← hc35] at hcut35
                  have HO294 := Aside0.mk (show Kd.V (Kd.slice 3 (Kd.int .i64)) 41 _ w.heap.size _ (.slice A35 y290.length c35) y290 from Kd.V_mk (by rw [hy35, hc35]; exact Nat.sub_le_sub_right hroom35 _) hr35)
                  have HC294 := Aside0.mk (show y290.length ≤ c35 from by rw [hy35, hc35]; exact Nat.sub_le_sub_right hroom35 _)
                  clear hr35 hC35 hroom35 hi035 hsz35 hc35
                  have KY35 := Aside0.mk hy35
                  have KA35 := Aside0.mk hA35
                  clear hy35 hA35
                  replace q35 := eq_true q35
                  refine start_ (n := 13) (S := fun w' => True) (ds := []) #[false, false, false, false, false, false, false, false, false, false, false, false, false] (by kernel_rfl) rfl rfl trivial (fun hHeld => ?_); refine with_tabW potbankref06_put.tab4 potbankref06_put.bits4 (fun HT_ HW_ => ?_)
                  generalize wr.drew = w33 at HO_0 HO_1 HB HO280 HO294 hHeld ⊢
                  refine pure_ (i := 1) (N := some 21) (v := ?_) (a' := ?_) #[false, true, false, false, false, false, false, false, false, false, false, false, false] rfl rfl (any_of HT_.out (by kernel_rfl)) (fun _ _ _ h => h) (Or.inl ⟨by rfl, ?_⟩) ?_ ?_
                  rotate_left
                  · intro w'
                    go_simp
                    with_reducible rfl
                  rotate_left
                  · simp only [Act.put, List.setIfInBounds_toArray, List.set_cons_zero, List.set_cons_succ, i64_w, i32_w]
                    rfl
                  refine pure_ (i := 2) (N := some 22) (v := ?_) (a' := ?_) #[false, true, true, false, false, false, false, false, false, false, false, false, false] rfl rfl (any_of HT_.out (by kernel_rfl)) (fun _ _ _ h => h) (Or.inl ⟨by rfl, ?_⟩) ?_ ?_
                  rotate_left
                  · intro w'
                    go_simp
                    with_reducible rfl
                  rotate_left
                  · simp only [Act.put, List.setIfInBounds_toArray, List.set_cons_zero, List.set_cons_succ, i64_w, i32_w]
                    rfl
                  refine pure_ (i := 3) (N := some 23) (v := ?_) (a' := ?_) #[false, true, true, true, false, false, false, false, false, false, false, false, false] rfl rfl (any_of HT_.out (by kernel_rfl)) (fun _ _ _ h => h) (Or.inl ⟨by rfl, ?_⟩) ?_ ?_
                  rotate_left
                  · intro w'
                    go_simp
                    with_reducible rfl
                  rotate_left
                  · simp only [Act.put, List.setIfInBounds_toArray, List.set_cons_zero, List.set_cons_succ, i64_w, i32_w]
                    rfl
                  refine pure_ (i := 5) (N := some 25) (v := ?_) (a' := ?_) #[false, true, true, true, false, true, false, false, false, false, false, false, false] rfl rfl (any_of HT_.out (by kernel_rfl)) (fun _ _ _ h => h) (Or.inl ⟨by rfl, ?_⟩) ?_ ?_
                  rotate_left
                  · intro w'
                    go_simp
                    with_reducible rfl
                  rotate_left
                  · simp only [Act.put, List.setIfInBounds_toArray, List.set_cons_zero, List.set_cons_succ, i64_w, i32_w]
                    rfl
                  refine pure_ (i := 8) (N := some 28) (v := ?_) (a' := ?_) #[false, true, true, true, false, true, false, false, true, false, false, false, false] rfl rfl (any_of HT_.out (by kernel_rfl)) (fun _ _ _ h => h) (Or.inl ⟨by rfl, ?_⟩) ?_ ?_
                  rotate_left
                  · intro w'
                    go_simp
                    with_reducible rfl
                  rotate_left
                  · simp only [Act.put, List.setIfInBounds_toArray, List.set_cons_zero, List.set_cons_succ, i64_w, i32_w]
                    rfl
                  refine pure_ (i := 9) (N := some 29) (v := ?_) (a' := ?_) #[false, true, true, true, false, true, false, false, true, true, false, false, false] rfl rfl (any_of HT_.out (by kernel_rfl)) (fun _ _ _ h => h) (Or.inl ⟨by rfl, ?_⟩) ?_ ?_
                  rotate_left
                  · intro w'
                    go_simp
                    with_reducible rfl
                  rotate_left
                  · simp only [Act.put, List.setIfInBounds_toArray, List.set_cons_zero, List.set_cons_succ, i64_w, i32_w]
                    rfl
                  refine pure_ (i := 10) (N := some 30) (v := ?_) (a' := ?_) #[false, true, true, true, false, true, false, false, true, true, true, false, false] rfl rfl (any_of HT_.out (by kernel_rfl)) (fun _ _ _ h => h) (Or.inl ⟨by rfl, ?_⟩) ?_ ?_
                  rotate_left
                  · intro w'
                    go_simp
                    with_reducible rfl
                  rotate_left
                  · simp only [Act.put, List.setIfInBounds_toArray, List.set_cons_zero, List.set_cons_succ, i64_w, i32_w]
                    rfl
                  refine join_ (σ := Value × Value × Value) 3 #[true, true, true, true, true, true, true, false, true, true, true, false, false] (fun s_ => [(20, s_.1), (24, s_.2.1), (26, s_.2.2)]) (fun s_ w' => (Kd.V (Kd.slice 3 (Kd.int .i64)) 41 w' w.heap.size (fun k_ => ((P0_ k_ ∨ P1_ k_) ∨ w.heap.size ≤ k_) ∧ some k_ ≠ (s_.2.1 : Value).ownBlock ∧ some k_ ≠ (s_.2.2 : Value).ownBlock) (.slice A0 y276.length c0) y276) ∧ (Kd.N (Kd.slice 3 (Kd.int .i64)) 41 w' w.heap.size (fun k_ => ((P0_ k_ ∨ P1_ k_) ∨ w.heap.size ≤ k_) ∧ some k_ ≠ (s_.2.2 : Value).ownBlock) s_.2.1 y281) ∧ (Kd.N (Kd.slice 3 (Kd.int .i64)) 41 w' w.heap.size (fun k_ => ((P0_ k_ ∨ P1_ k_) ∨ w.heap.size ≤ k_) ∧ some k_ ≠ (s_.2.1 : Value).ownBlock) s_.2.2 y284) ∧ (Kd.V (Kd.slice 3 (Kd.int .i64)) 41 w' w.heap.size (fun k_ => ((P0_ k_ ∨ P1_ k_) ∨ w.heap.size ≤ k_) ∧ some k_ ≠ (s_.2.1 : Value).ownBlock ∧ some k_ ≠ (s_.2.2 : Value).ownBlock) (.slice A35 y290.length c35) y290) ∧ (Kd.V (Kd.slice 3 (Kd.int .i64)) 41 w' w.heap.size (fun k_ => ((P0_ k_ ∨ P1_ k_) ∨ w.heap.size ≤ k_) ∧ some k_ ≠ (s_.2.1 : Value).ownBlock ∧ some k_ ≠ (s_.2.2 : Value).ownBlock) (.slice A0 l0.length c0) l0) ∧ (Kd.V (Kd.int .i64) 3 w' w.heap.size (fun k_ => ((P0_ k_ ∨ P1_ k_) ∨ w.heap.size ≤ k_) ∧ some k_ ≠ (s_.2.1 : Value).ownBlock ∧ some k_ ≠ (s_.2.2 : Value).ownBlock) (.slice A1 l1.length c1) l1) ∧ (Below w.heap.size w w')) ?_ ?_
                  rotate_left
                  · intro hCont
                    refine two_ (i := 0) (j := 6) (Ni := some 20) (Nj := some 26) #[true, true, true, true, false, true, false, false, true, true, true, false, false] #[false, true, true, true, false, true, true, false, true, true, true, false, false] rfl rfl rfl rfl (two_of HT_.out (by kernel_rfl)) (by decide) (by decide) (fun K hK => ?_) (fun K hK => ?_)
                    · skip
                      refine Kd.N_lit_step (Kd.slice 3 (Kd.int .i64)) _ 41 ?hg (N' := 20) ?hd (xs := ([] : List (List Int))) (inner := []) (ok := (fun k_ => ((P0_ k_ ∨ P1_ k_) ∨ w.heap.size ≤ k_))) (okp := (fun k_ => ((P0_ k_ ∨ P1_ k_) ∨ w.heap.size ≤ k_))) ?hr ?hp (fun _ hk => hk) ((show ∀ k_, w33.heap.size ≤ k_ → (fun k_ => ((P0_ k_ ∨ P1_ k_) ∨ w.heap.size ≤ k_)) k_ from fun k_ hk => (.inr (Nat.le_trans (below_size (by repeat (first | (with_reducible first | exact HB.out | apply below_alloc | apply pw_below_drewN | apply below_drew1) | exact HB.out))) hk))) _ (Nat.le_refl _)) (Below.refl _ _) (Nat.le_refl _) (by simp) ?_; (case hd => rfl); (case hg => rfl); (case hr => first | (go_simp; done) | (go_simp; rfl)); (case hp => exact (Reps.none _ _))
                      intro v274 w36 ho37 hb hg_ hnew_
                      clear hg_ hnew_
                      (first | rw [← Ny273.out] at ho37 | (simp only [Int.reduceToNat] at ho37; rw [← Ny273.out] at ho37))
                      have n0_ := Aside0.mk (Kd.V_elder' (by (with_reducible repeat (first | apply Kd.V_alloc | apply Kd.V_drewN | apply Kd.V_drew)); exact HO_0.out) (Kd.N_base ho37) hb)
                      have n1_ := Aside0.mk (Kd.V_elder' (by (with_reducible repeat (first | apply Kd.V_alloc | apply Kd.V_drewN | apply Kd.V_drew)); exact HO_1.out) (Kd.N_base ho37) hb)
                      have n2_ := Aside0.mk (Kd.V_elder' (by (with_reducible repeat (first | apply Kd.V_alloc | apply Kd.V_drewN | apply Kd.V_drew)); exact HO280.out) (Kd.N_base ho37) hb)
                      have n3_ := Aside0.mk (Kd.V_elder' (by (with_reducible repeat (first | apply Kd.V_alloc | apply Kd.V_drewN | apply Kd.V_drew)); exact HO294.out) (Kd.N_base ho37) hb)
                      have n4_ := Aside0.mk (Kd.N_lower ho37 (below_size (by repeat (first | (with_reducible first | exact HB.out | apply below_alloc | apply pw_below_drewN | apply below_drew1) | exact HB.out))))
                      have n5_ := Aside0.mk (below_step (by repeat (first | (with_reducible first | exact HB.out | apply below_alloc | apply pw_below_drewN | apply below_drew1) | exact HB.out)) hb)
                      clear HO_0
                      clear HO_1
                      clear HO280
                      clear HO294
                      clear HB
                      have HO_0 := n0_
                      have HO_1 := n1_
                      have HO280 := n2_
                      have HO294 := n3_
                      have HO275 := n4_
                      have HB := n5_
                      clear n0_ n1_ n2_ n3_ n4_ n5_
                      clear hb ho37
                      refine hK.out _ _ trivial (fun hHeld => ?_)
                      clear hK K
                      refine norm_ (a' := ?_) ?_ ?_
                      rotate_left
                      · show Act.put _ (some 20) _ = _
                        simp only [Act.put, List.setIfInBounds_toArray, List.set_cons_zero, List.set_cons_succ, i64_w, i32_w]
                        rfl
                      refine two_ (i := 4) (j := 6) (Ni := some 24) (Nj := some 26) #[true, true, true, true, true, true, false, false, true, true, true, false, false] #[true, true, true, true, false, true, true, false, true, true, true, false, false] rfl rfl rfl rfl (two_of HT_.out (by kernel_rfl)) (by decide) (by decide) (fun K hK => ?_) (fun K hK => ?_)
                      · skip
                        refine Kd.N_append_rows_step (Kd.slice 3 (Kd.int .i64)) (w0 := w) w.heap.size (by rfl) (.tmp 20) (.tmp 23) 24 41 (.slice none 0 0) 24 rfl Tryz.underlying24 info41 rfl (by decide) (by omega) v274 y273 y276 _ _ _ (fun k_ => ((P0_ k_ ∨ P1_ k_) ∨ w.heap.size ≤ k_)) (fun k_ => ((fun k_ => ((P0_ k_ ∨ P1_ k_) ∨ w.heap.size ≤ k_))) k_ ∧ some k_ ≠ (v274 : Value).ownBlock) rfl rfl ?aO ?aR (fun _ hk => hk) ?aF ?aB ?aS ?aL ?_
                        (case aR => exact (by skip; exact Kd.V_F (Kd.V_mono (ok' := (fun k_ => ((fun k_ => ((P0_ k_ ∨ P1_ k_) ∨ w.heap.size ≤ k_))) k_ ∧ some k_ ≠ (v274 : Value).ownBlock)) (HO280.out) (fun k_ hk => ⟨hk.1, hk.2⟩))))
                        (case aB => exact (by repeat (first | (with_reducible first | exact HB.out | apply below_alloc | apply pw_below_drewN | apply below_drew1) | exact HB.out)))
                        (case aF => exact (fun k_ hk => (.inr (Nat.le_trans (below_size (by repeat (first | (with_reducible first | exact HB.out | apply below_alloc | apply pw_below_drewN | apply below_drew1) | exact HB.out))) hk))))
                        (case aO => exact (by (with_reducible repeat (first | apply Kd.N_alloc | apply Kd.N_drewN | apply Kd.N_drew)); exact HO275.out))
                        (case aS => exact (below_size (by repeat (first | (with_reducible first | exact HB.out | apply below_alloc | apply pw_below_drewN | apply below_drew1) | exact HB.out))))
                        (case aL => have := LMc28.out; omega)
                        intro v282 w38 ho hb hg hat
                        rw [← Ny281.out] at ho
                        have n0_ := Aside0.mk (Kd.V_afterv (ok := (fun k_ => ((P0_ k_ ∨ P1_ k_) ∨ w.heap.size ≤ k_))) (by (with_reducible repeat (first | apply Kd.V_alloc | apply Kd.V_drewN | apply Kd.V_drew)); exact HO_0.out) hg hat)
                        have n1_ := Aside0.mk (Kd.V_afterv (ok := (fun k_ => ((P0_ k_ ∨ P1_ k_) ∨ w.heap.size ≤ k_))) (by (with_reducible repeat (first | apply Kd.V_alloc | apply Kd.V_drewN | apply Kd.V_drew)); exact HO_1.out) hg hat)
                        have n2_ := Aside0.mk (Kd.V_afterv (ok := (fun k_ => ((P0_ k_ ∨ P1_ k_) ∨ w.heap.size ≤ k_))) (by (with_reducible repeat (first | apply Kd.V_alloc | apply Kd.V_drewN | apply Kd.V_drew)); exact HO280.out) hg hat)
                        have n3_ := Aside0.mk (Kd.V_afterv (ok := (fun k_ => ((P0_ k_ ∨ P1_ k_) ∨ w.heap.size ≤ k_))) (by (with_reducible repeat (first | apply Kd.V_alloc | apply Kd.V_drewN | apply Kd.V_drew)); exact HO294.out) hg hat)
                        have n4_ := Aside0.mk (hb)
                        have n5_ := Aside0.mk (ho)
                        clear HO_0
                        clear HO_1
                        clear HO280
                        clear HO294
                        clear HB
                        clear HO275
                        have HO_0 := n0_
                        have HO_1 := n1_
                        have HO280 := n2_
                        have HO294 := n3_
                        have HB := n4_
                        have HO283 := n5_
                        clear n0_ n1_ n2_ n3_ n4_ n5_
                        clear ho hb hg hat
                        refine hK.out _ _ trivial (fun hHeld => ?_)
                        clear hK K
                        refine norm_ (a' := ?_) ?_ ?_
                        rotate_left
                        · show Act.put _ (some 24) _ = _
                          simp only [Act.put, List.setIfInBounds_toArray, List.set_cons_zero, List.set_cons_succ, i64_w, i32_w]
                          rfl
                        refine one_ (i := 6) (N := some 26) #[true, true, true, true, true, true, true, false, true, true, true, false, false] rfl rfl (one_of HT_.out (by kernel_rfl)) (by decide) (fun K hK => ?_)
                        refine Kd.N_lit_step (Kd.slice 3 (Kd.int .i64)) _ 41 ?hg (N' := 26) ?hd (xs := ([l1] : List (List Int))) (inner := [.slice A1 l1.length c1]) (ok := (fun k_ => ((P0_ k_ ∨ P1_ k_) ∨ w.heap.size ≤ k_) ∧ some k_ ≠ (v282 : Value).ownBlock)) (okp := (fun k_ => ((P0_ k_ ∨ P1_ k_) ∨ w.heap.size ≤ k_) ∧ some k_ ≠ (v282 : Value).ownBlock)) ?hr ?hp (fun _ hk => hk) ((show ∀ k_, w38.heap.size ≤ k_ → (fun k_ => ((P0_ k_ ∨ P1_ k_) ∨ w.heap.size ≤ k_) ∧ some k_ ≠ (v282 : Value).ownBlock) k_ from fun k_ hk => ⟨(.inr (Nat.le_trans (below_size (by repeat (first | (with_reducible first | exact HB.out | apply below_alloc | apply pw_below_drewN | apply below_drew1) | exact HB.out))) hk)), Kd.fresh' (Kd.N_lt (by (with_reducible repeat (first | apply Kd.N_alloc | apply Kd.N_drewN | apply Kd.N_drew)); exact HO283.out)) k_ hk⟩) _ (Nat.le_refl _)) (Below.refl _ _) (Nat.le_refl _) (by simp) ?_; (case hd => rfl); (case hg => rfl); (case hr => first | (go_simp; done) | (go_simp; rfl)); (case hp => exact (Reps.one (show Kd.FK (Kd.slice 3 (Kd.int .i64)) _ _ l1 [.slice A1 l1.length c1] from (Kd.FK_slice_mk (Kd.V_reads' (Kd.V_mono (ok' := (fun k_ => ((P0_ k_ ∨ P1_ k_) ∨ w.heap.size ≤ k_) ∧ some k_ ≠ (v282 : Value).ownBlock)) (HO_1.out) (fun k_ hk => ⟨hk.1, hk.2⟩))).2.1 (Kd.V_F (Kd.V_mono (ok' := (fun k_ => ((P0_ k_ ∨ P1_ k_) ∨ w.heap.size ≤ k_) ∧ some k_ ≠ (v282 : Value).ownBlock)) (HO_1.out) (fun k_ hk => ⟨hk.1, hk.2⟩))))) (Reps.none _ _)))
                        intro v285 w39 ho40 hb hg_ hnew_
                        clear hg_ hnew_
                        (first | rw [← Ny284.out] at ho40 | (simp only [Int.reduceToNat] at ho40; rw [← Ny284.out] at ho40))
                        have n0_ := Aside0.mk (Kd.V_elder' (by (with_reducible repeat (first | apply Kd.V_alloc | apply Kd.V_drewN | apply Kd.V_drew)); exact HO_0.out) (Kd.N_base ho40) hb)
                        have n1_ := Aside0.mk (Kd.V_elder' (by (with_reducible repeat (first | apply Kd.V_alloc | apply Kd.V_drewN | apply Kd.V_drew)); exact HO_1.out) (Kd.N_base ho40) hb)
                        have n2_ := Aside0.mk (Kd.V_elder' (by (with_reducible repeat (first | apply Kd.V_alloc | apply Kd.V_drewN | apply Kd.V_drew)); exact HO280.out) (Kd.N_base ho40) hb)
                        have n3_ := Aside0.mk (Kd.V_elder' (by (with_reducible repeat (first | apply Kd.V_alloc | apply Kd.V_drewN | apply Kd.V_drew)); exact HO294.out) (Kd.N_base ho40) hb)
                        have n4_ := Aside0.mk (Kd.N_elder' (by (with_reducible repeat (first | apply Kd.N_alloc | apply Kd.N_drewN | apply Kd.N_drew)); exact HO283.out) (Kd.N_base ho40) hb)
                        have n5_ := Aside0.mk (Kd.N_lower ho40 (below_size (by repeat (first | (with_reducible first | exact HB.out | apply below_alloc | apply pw_below_drewN | apply below_drew1) | exact HB.out))))
                        have n6_ := Aside0.mk (below_step (by repeat (first | (with_reducible first | exact HB.out | apply below_alloc | apply pw_below_drewN | apply below_drew1) | exact HB.out)) hb)
                        clear HO_0
                        clear HO_1
                        clear HO280
                        clear HO294
                        clear HO283
                        clear HB
                        have HO_0 := n0_
                        have HO_1 := n1_
                        have HO280 := n2_
                        have HO294 := n3_
                        have HO283 := n4_
                        have HO286 := n5_
                        have HB := n6_
                        clear n0_ n1_ n2_ n3_ n4_ n5_ n6_
                        clear hb ho40
                        refine hK.out _ _ trivial (fun hHeld => ?_)
                        clear hK K
                        refine norm_ (a' := ?_) ?_ ?_
                        rotate_left
                        · show Act.put _ (some 26) _ = _
                          simp only [Act.put, List.setIfInBounds_toArray, List.set_cons_zero, List.set_cons_succ, i64_w, i32_w]
                          rfl
                        exact norm_ (by simp only [putAll, Act.put, List.setIfInBounds_toArray, List.set_cons_zero, List.set_cons_succ]) (hCont (v274, v282, v285) _ ⟨(by (with_reducible repeat (first | apply Kd.V_alloc | apply Kd.V_drewN | apply Kd.V_drew)); exact Kd.V_mono HO280.out (fun _ hk => ⟨hk.1.1, ⟨hk.1.2, hk.2⟩⟩)), (by (with_reducible repeat (first | apply Kd.N_alloc | apply Kd.N_drewN | apply Kd.N_drew)); exact HO283.out), (by (with_reducible repeat (first | apply Kd.N_alloc | apply Kd.N_drewN | apply Kd.N_drew)); exact HO286.out), (by (with_reducible repeat (first | apply Kd.V_alloc | apply Kd.V_drewN | apply Kd.V_drew)); exact Kd.V_mono HO294.out (fun _ hk => ⟨hk.1.1, ⟨hk.1.2, hk.2⟩⟩)), (by (with_reducible repeat (first | apply Kd.V_alloc | apply Kd.V_drewN | apply Kd.V_drew)); exact Kd.V_mono HO_0.out (fun _ hk => ⟨hk.1.1, ⟨hk.1.2, hk.2⟩⟩)), (by (with_reducible repeat (first | apply Kd.V_alloc | apply Kd.V_drewN | apply Kd.V_drew)); exact Kd.V_mono HO_1.out (fun _ hk => ⟨hk.1.1, ⟨hk.1.2, hk.2⟩⟩)), (by repeat (first | (with_reducible first | exact HB.out | apply below_alloc | apply pw_below_drewN | apply below_drew1) | exact HB.out))⟩)
                      · skip
                        refine Kd.N_lit_step (Kd.slice 3 (Kd.int .i64)) _ 41 ?hg (N' := 26) ?hd (xs := ([l1] : List (List Int))) (inner := [.slice A1 l1.length c1]) (ok := (fun k_ => ((P0_ k_ ∨ P1_ k_) ∨ w.heap.size ≤ k_) ∧ some k_ ≠ (v274 : Value).ownBlock)) (okp := (fun k_ => ((P0_ k_ ∨ P1_ k_) ∨ w.heap.size ≤ k_) ∧ some k_ ≠ (v274 : Value).ownBlock)) ?hr ?hp (fun _ hk => hk) ((show ∀ k_, w36.heap.size ≤ k_ → (fun k_ => ((P0_ k_ ∨ P1_ k_) ∨ w.heap.size ≤ k_) ∧ some k_ ≠ (v274 : Value).ownBlock) k_ from fun k_ hk => ⟨(.inr (Nat.le_trans (below_size (by repeat (first | (with_reducible first | exact HB.out | apply below_alloc | apply pw_below_drewN | apply below_drew1) | exact HB.out))) hk)), Kd.fresh' (Kd.N_lt (by (with_reducible repeat (first | apply Kd.N_alloc | apply Kd.N_drewN | apply Kd.N_drew)); exact HO275.out)) k_ hk⟩) _ (Nat.le_refl _)) (Below.refl _ _) (Nat.le_refl _) (by simp) ?_; (case hd => rfl); (case hg => rfl); (case hr => first | (go_simp; done) | (go_simp; rfl)); (case hp => exact (Reps.one (show Kd.FK (Kd.slice 3 (Kd.int .i64)) _ _ l1 [.slice A1 l1.length c1] from (Kd.FK_slice_mk (Kd.V_reads' (Kd.V_mono (ok' := (fun k_ => ((P0_ k_ ∨ P1_ k_) ∨ w.heap.size ≤ k_) ∧ some k_ ≠ (v274 : Value).ownBlock)) (HO_1.out) (fun k_ hk => ⟨hk.1, hk.2⟩))).2.1 (Kd.V_F (Kd.V_mono (ok' := (fun k_ => ((P0_ k_ ∨ P1_ k_) ∨ w.heap.size ≤ k_) ∧ some k_ ≠ (v274 : Value).ownBlock)) (HO_1.out) (fun k_ hk => ⟨hk.1, hk.2⟩))))) (Reps.none _ _)))
                        intro v285 w38 ho39 hb hg_ hnew_
                        clear hg_ hnew_
                        (first | rw [← Ny284.out] at ho39 | (simp only [Int.reduceToNat] at ho39; rw [← Ny284.out] at ho39))
                        have n0_ := Aside0.mk (Kd.V_elder' (by (with_reducible repeat (first | apply Kd.V_alloc | apply Kd.V_drewN | apply Kd.V_drew)); exact HO_0.out) (Kd.N_base ho39) hb)
                        have n1_ := Aside0.mk (Kd.V_elder' (by (with_reducible repeat (first | apply Kd.V_alloc | apply Kd.V_drewN | apply Kd.V_drew)); exact HO_1.out) (Kd.N_base ho39) hb)
                        have n2_ := Aside0.mk (Kd.V_elder' (by (with_reducible repeat (first | apply Kd.V_alloc | apply Kd.V_drewN | apply Kd.V_drew)); exact HO280.out) (Kd.N_base ho39) hb)
                        have n3_ := Aside0.mk (Kd.V_elder' (by (with_reducible repeat (first | apply Kd.V_alloc | apply Kd.V_drewN | apply Kd.V_drew)); exact HO294.out) (Kd.N_base ho39) hb)
                        have n4_ := Aside0.mk (Kd.N_elder' (by (with_reducible repeat (first | apply Kd.N_alloc | apply Kd.N_drewN | apply Kd.N_drew)); exact HO275.out) (Kd.N_base ho39) hb)
                        have n5_ := Aside0.mk (Kd.N_lower ho39 (below_size (by repeat (first | (with_reducible first | exact HB.out | apply below_alloc | apply pw_below_drewN | apply below_drew1) | exact HB.out))))
                        have n6_ := Aside0.mk (below_step (by repeat (first | (with_reducible first | exact HB.out | apply below_alloc | apply pw_below_drewN | apply below_drew1) | exact HB.out)) hb)
                        clear HO_0
                        clear HO_1
                        clear HO280
                        clear HO294
                        clear HO275
                        clear HB
                        have HO_0 := n0_
                        have HO_1 := n1_
                        have HO280 := n2_
                        have HO294 := n3_
                        have HO275 := n4_
                        have HO286 := n5_
                        have HB := n6_
                        clear n0_ n1_ n2_ n3_ n4_ n5_ n6_
                        clear hb ho39
                        refine hK.out _ _ trivial (fun hHeld => ?_)
                        clear hK K
                        refine norm_ (a' := ?_) ?_ ?_
                        rotate_left
                        · show Act.put _ (some 26) _ = _
                          simp only [Act.put, List.setIfInBounds_toArray, List.set_cons_zero, List.set_cons_succ, i64_w, i32_w]
                          rfl
                        refine one_ (i := 4) (N := some 24) #[true, true, true, true, true, true, true, false, true, true, true, false, false] rfl rfl (one_of HT_.out (by kernel_rfl)) (by decide) (fun K hK => ?_)
                        refine Kd.N_append_rows_step (Kd.slice 3 (Kd.int .i64)) (w0 := w) w.heap.size (by rfl) (.tmp 20) (.tmp 23) 24 41 (.slice none 0 0) 24 rfl Tryz.underlying24 info41 rfl (by decide) (by omega) v274 y273 y276 _ _ _ (fun k_ => ((P0_ k_ ∨ P1_ k_) ∨ w.heap.size ≤ k_) ∧ some k_ ≠ (v285 : Value).ownBlock) (fun k_ => ((fun k_ => ((P0_ k_ ∨ P1_ k_) ∨ w.heap.size ≤ k_) ∧ some k_ ≠ (v285 : Value).ownBlock)) k_ ∧ some k_ ≠ (v274 : Value).ownBlock) rfl rfl ?aO ?aR (fun _ hk => hk) ?aF ?aB ?aS ?aL ?_
                        (case aR => exact (by skip; exact Kd.V_F (Kd.V_mono (ok' := (fun k_ => ((fun k_ => ((P0_ k_ ∨ P1_ k_) ∨ w.heap.size ≤ k_) ∧ some k_ ≠ (v285 : Value).ownBlock)) k_ ∧ some k_ ≠ (v274 : Value).ownBlock)) (HO280.out) (fun k_ hk => ⟨⟨hk.1.1, hk.2⟩, hk.1.2⟩))))
                        (case aB => exact (by repeat (first | (with_reducible first | exact HB.out | apply below_alloc | apply pw_below_drewN | apply below_drew1) | exact HB.out)))
                        (case aF => exact (fun k_ hk => ⟨(.inr (Nat.le_trans (below_size (by repeat (first | (with_reducible first | exact HB.out | apply below_alloc | apply pw_below_drewN | apply below_drew1) | exact HB.out))) hk)), Kd.fresh' (Kd.N_lt (by (with_reducible repeat (first | apply Kd.N_alloc | apply Kd.N_drewN | apply Kd.N_drew)); exact HO286.out)) k_ hk⟩))
                        (case aO => exact (by (with_reducible repeat (first | apply Kd.N_alloc | apply Kd.N_drewN | apply Kd.N_drew)); exact HO275.out))
                        (case aS => exact (below_size (by repeat (first | (with_reducible first | exact HB.out | apply below_alloc | apply pw_below_drewN | apply below_drew1) | exact HB.out))))
                        (case aL => have := LMc28.out; omega)
                        intro v282 w40 ho hb hg hat
                        rw [← Ny281.out] at ho
                        have n0_ := Aside0.mk (Kd.V_afterv (ok := (fun k_ => ((P0_ k_ ∨ P1_ k_) ∨ w.heap.size ≤ k_) ∧ some k_ ≠ (v285 : Value).ownBlock)) (by (with_reducible repeat (first | apply Kd.V_alloc | apply Kd.V_drewN | apply Kd.V_drew)); exact Kd.V_mono HO_0.out (fun _ hk => ⟨⟨hk.1.1, hk.2⟩, hk.1.2⟩)) hg hat)
                        have n1_ := Aside0.mk (Kd.V_afterv (ok := (fun k_ => ((P0_ k_ ∨ P1_ k_) ∨ w.heap.size ≤ k_) ∧ some k_ ≠ (v285 : Value).ownBlock)) (by (with_reducible repeat (first | apply Kd.V_alloc | apply Kd.V_drewN | apply Kd.V_drew)); exact Kd.V_mono HO_1.out (fun _ hk => ⟨⟨hk.1.1, hk.2⟩, hk.1.2⟩)) hg hat)
                        have n2_ := Aside0.mk (Kd.V_afterv (ok := (fun k_ => ((P0_ k_ ∨ P1_ k_) ∨ w.heap.size ≤ k_) ∧ some k_ ≠ (v285 : Value).ownBlock)) (by (with_reducible repeat (first | apply Kd.V_alloc | apply Kd.V_drewN | apply Kd.V_drew)); exact Kd.V_mono HO280.out (fun _ hk => ⟨⟨hk.1.1, hk.2⟩, hk.1.2⟩)) hg hat)
                        have n3_ := Aside0.mk (Kd.V_afterv (ok := (fun k_ => ((P0_ k_ ∨ P1_ k_) ∨ w.heap.size ≤ k_) ∧ some k_ ≠ (v285 : Value).ownBlock)) (by (with_reducible repeat (first | apply Kd.V_alloc | apply Kd.V_drewN | apply Kd.V_drew)); exact Kd.V_mono HO294.out (fun _ hk => ⟨⟨hk.1.1, hk.2⟩, hk.1.2⟩)) hg hat)
                        have n4_ := Aside0.mk (Kd.N_afterv (ok := (fun k_ => ((P0_ k_ ∨ P1_ k_) ∨ w.heap.size ≤ k_))) (by (with_reducible repeat (first | apply Kd.N_alloc | apply Kd.N_drewN | apply Kd.N_drew)); exact HO286.out) hg hat)
                        have n5_ := Aside0.mk (hb)
                        have n6_ := Aside0.mk (ho)
                        clear HO_0
                        clear HO_1
                        clear HO280
                        clear HO294
                        clear HO286
                        clear HB
                        clear HO275
                        have HO_0 := n0_
                        have HO_1 := n1_
                        have HO280 := n2_
                        have HO294 := n3_
                        have HO286 := n4_
                        have HB := n5_
                        have HO283 := n6_
                        clear n0_ n1_ n2_ n3_ n4_ n5_ n6_
                        clear ho hb hg hat
                        refine hK.out _ _ trivial (fun hHeld => ?_)
                        clear hK K
                        refine norm_ (a' := ?_) ?_ ?_
                        rotate_left
                        · show Act.put _ (some 24) _ = _
                          simp only [Act.put, List.setIfInBounds_toArray, List.set_cons_zero, List.set_cons_succ, i64_w, i32_w]
                          rfl
                        exact norm_ (by simp only [putAll, Act.put, List.setIfInBounds_toArray, List.set_cons_zero, List.set_cons_succ]) (hCont (v274, v282, v285) _ ⟨(by (with_reducible repeat (first | apply Kd.V_alloc | apply Kd.V_drewN | apply Kd.V_drew)); exact Kd.V_mono HO280.out (fun _ hk => ⟨hk.1.1, ⟨hk.2, hk.1.2⟩⟩)), (by (with_reducible repeat (first | apply Kd.N_alloc | apply Kd.N_drewN | apply Kd.N_drew)); exact HO283.out), (by (with_reducible repeat (first | apply Kd.N_alloc | apply Kd.N_drewN | apply Kd.N_drew)); exact HO286.out), (by (with_reducible repeat (first | apply Kd.V_alloc | apply Kd.V_drewN | apply Kd.V_drew)); exact Kd.V_mono HO294.out (fun _ hk => ⟨hk.1.1, ⟨hk.2, hk.1.2⟩⟩)), (by (with_reducible repeat (first | apply Kd.V_alloc | apply Kd.V_drewN | apply Kd.V_drew)); exact Kd.V_mono HO_0.out (fun _ hk => ⟨hk.1.1, ⟨hk.2, hk.1.2⟩⟩)), (by (with_reducible repeat (first | apply Kd.V_alloc | apply Kd.V_drewN | apply Kd.V_drew)); exact Kd.V_mono HO_1.out (fun _ hk => ⟨hk.1.1, ⟨hk.2, hk.1.2⟩⟩)), (by repeat (first | (with_reducible first | exact HB.out | apply below_alloc | apply pw_below_drewN | apply below_drew1) | exact HB.out))⟩)
                    · skip
                      refine Kd.N_lit_step (Kd.slice 3 (Kd.int .i64)) _ 41 ?hg (N' := 26) ?hd (xs := ([l1] : List (List Int))) (inner := [.slice A1 l1.length c1]) (ok := (fun k_ => ((P0_ k_ ∨ P1_ k_) ∨ w.heap.size ≤ k_))) (okp := (fun k_ => ((P0_ k_ ∨ P1_ k_) ∨ w.heap.size ≤ k_))) ?hr ?hp (fun _ hk => hk) ((show ∀ k_, w33.heap.size ≤ k_ → (fun k_ => ((P0_ k_ ∨ P1_ k_) ∨ w.heap.size ≤ k_)) k_ from fun k_ hk => (.inr (Nat.le_trans (below_size (by repeat (first | (with_reducible first | exact HB.out | apply below_alloc | apply pw_below_drewN | apply below_drew1) | exact HB.out))) hk))) _ (Nat.le_refl _)) (Below.refl _ _) (Nat.le_refl _) (by simp) ?_; (case hd => rfl); (case hg => rfl); (case hr => first | (go_simp; done) | (go_simp; rfl)); (case hp => exact (Reps.one (show Kd.FK (Kd.slice 3 (Kd.int .i64)) _ _ l1 [.slice A1 l1.length c1] from (Kd.FK_slice_mk (Kd.V_reads' (Kd.V_mono (ok' := (fun k_ => ((P0_ k_ ∨ P1_ k_) ∨ w.heap.size ≤ k_))) (HO_1.out) (fun k_ hk => hk))).2.1 (Kd.V_F (Kd.V_mono (ok' := (fun k_ => ((P0_ k_ ∨ P1_ k_) ∨ w.heap.size ≤ k_))) (HO_1.out) (fun k_ hk => hk))))) (Reps.none _ _)))
                      intro v285 w36 ho37 hb hg_ hnew_
                      clear hg_ hnew_
                      (first | rw [← Ny284.out] at ho37 | (simp only [Int.reduceToNat] at ho37; rw [← Ny284.out] at ho37))
                      have n0_ := Aside0.mk (Kd.V_elder' (by (with_reducible repeat (first | apply Kd.V_alloc | apply Kd.V_drewN | apply Kd.V_drew)); exact HO_0.out) (Kd.N_base ho37) hb)
                      have n1_ := Aside0.mk (Kd.V_elder' (by (with_reducible repeat (first | apply Kd.V_alloc | apply Kd.V_drewN | apply Kd.V_drew)); exact HO_1.out) (Kd.N_base ho37) hb)
                      have n2_ := Aside0.mk (Kd.V_elder' (by (with_reducible repeat (first | apply Kd.V_alloc | apply Kd.V_drewN | apply Kd.V_drew)); exact HO280.out) (Kd.N_base ho37) hb)
                      have n3_ := Aside0.mk (Kd.V_elder' (by (with_reducible repeat (first | apply Kd.V_alloc | apply Kd.V_drewN | apply Kd.V_drew)); exact HO294.out) (Kd.N_base ho37) hb)
                      have n4_ := Aside0.mk (Kd.N_lower ho37 (below_size (by repeat (first | (with_reducible first | exact HB.out | apply below_alloc | apply pw_below_drewN | apply below_drew1) | exact HB.out))))
                      have n5_ := Aside0.mk (below_step (by repeat (first | (with_reducible first | exact HB.out | apply below_alloc | apply pw_below_drewN | apply below_drew1) | exact HB.out)) hb)
                      clear HO_0
                      clear HO_1
                      clear HO280
                      clear HO294
                      clear HB
                      have HO_0 := n0_
                      have HO_1 := n1_
                      have HO280 := n2_
                      have HO294 := n3_
                      have HO286 := n4_
                      have HB := n5_
                      clear n0_ n1_ n2_ n3_ n4_ n5_
                      clear hb ho37
                      refine hK.out _ _ trivial (fun hHeld => ?_)
                      clear hK K
                      refine norm_ (a' := ?_) ?_ ?_
                      rotate_left
                      · show Act.put _ (some 26) _ = _
                        simp only [Act.put, List.setIfInBounds_toArray, List.set_cons_zero, List.set_cons_succ, i64_w, i32_w]
                        rfl
                      refine one_ (i := 0) (N := some 20) #[true, true, true, true, false, true, true, false, true, true, true, false, false] rfl rfl (one_of HT_.out (by kernel_rfl)) (by decide) (fun K hK => ?_)
                      refine Kd.N_lit_step (Kd.slice 3 (Kd.int .i64)) _ 41 ?hg (N' := 20) ?hd (xs := ([] : List (List Int))) (inner := []) (ok := (fun k_ => ((P0_ k_ ∨ P1_ k_) ∨ w.heap.size ≤ k_) ∧ some k_ ≠ (v285 : Value).ownBlock)) (okp := (fun k_ => ((P0_ k_ ∨ P1_ k_) ∨ w.heap.size ≤ k_) ∧ some k_ ≠ (v285 : Value).ownBlock)) ?hr ?hp (fun _ hk => hk) ((show ∀ k_, w36.heap.size ≤ k_ → (fun k_ => ((P0_ k_ ∨ P1_ k_) ∨ w.heap.size ≤ k_) ∧ some k_ ≠ (v285 : Value).ownBlock) k_ from fun k_ hk => ⟨(.inr (Nat.le_trans (below_size (by repeat (first | (with_reducible first | exact HB.out | apply below_alloc | apply pw_below_drewN | apply below_drew1) | exact HB.out))) hk)), Kd.fresh' (Kd.N_lt (by (with_reducible repeat (first | apply Kd.N_alloc | apply Kd.N_drewN | apply Kd.N_drew)); exact HO286.out)) k_ hk⟩) _ (Nat.le_refl _)) (Below.refl _ _) (Nat.le_refl _) (by simp) ?_; (case hd => rfl); (case hg => rfl); (case hr => first | (go_simp; done) | (go_simp; rfl)); (case hp => exact (Reps.none _ _))
                      intro v274 w38 ho39 hb hg_ hnew_
                      clear hg_ hnew_
                      (first | rw [← Ny273.out] at ho39 | (simp only [Int.reduceToNat] at ho39; rw [← Ny273.out] at ho39))
                      have n0_ := Aside0.mk (Kd.V_elder' (by (with_reducible repeat (first | apply Kd.V_alloc | apply Kd.V_drewN | apply Kd.V_drew)); exact HO_0.out) (Kd.N_base ho39) hb)
                      have n1_ := Aside0.mk (Kd.V_elder' (by (with_reducible repeat (first | apply Kd.V_alloc | apply Kd.V_drewN | apply Kd.V_drew)); exact HO_1.out) (Kd.N_base ho39) hb)
                      have n2_ := Aside0.mk (Kd.V_elder' (by (with_reducible repeat (first | apply Kd.V_alloc | apply Kd.V_drewN | apply Kd.V_drew)); exact HO280.out) (Kd.N_base ho39) hb)
                      have n3_ := Aside0.mk (Kd.V_elder' (by (with_reducible repeat (first | apply Kd.V_alloc | apply Kd.V_drewN | apply Kd.V_drew)); exact HO294.out) (Kd.N_base ho39) hb)
                      have n4_ := Aside0.mk (Kd.N_elder' (by (with_reducible repeat (first | apply Kd.N_alloc | apply Kd.N_drewN | apply Kd.N_drew)); exact HO286.out) (Kd.N_base ho39) hb)
                      have n5_ := Aside0.mk (Kd.N_lower ho39 (below_size (by repeat (first | (with_reducible first | exact HB.out | apply below_alloc | apply pw_below_drewN | apply below_drew1) | exact HB.out))))
                      have n6_ := Aside0.mk (below_step (by repeat (first | (with_reducible first | exact HB.out | apply below_alloc | apply pw_below_drewN | apply below_drew1) | exact HB.out)) hb)
                      clear HO_0
                      clear HO_1
                      clear HO280
                      clear HO294
                      clear HO286
                      clear HB
                      have HO_0 := n0_
                      have HO_1 := n1_
                      have HO280 := n2_
                      have HO294 := n3_
                      have HO286 := n4_
                      have HO275 := n5_
                      have HB := n6_
                      clear n0_ n1_ n2_ n3_ n4_ n5_ n6_
                      clear hb ho39
                      refine hK.out _ _ trivial (fun hHeld => ?_)
                      clear hK K
                      refine norm_ (a' := ?_) ?_ ?_
                      rotate_left
                      · show Act.put _ (some 20) _ = _
                        simp only [Act.put, List.setIfInBounds_toArray, List.set_cons_zero, List.set_cons_succ, i64_w, i32_w]
                        rfl
                      refine one_ (i := 4) (N := some 24) #[true, true, true, true, true, true, true, false, true, true, true, false, false] rfl rfl (one_of HT_.out (by kernel_rfl)) (by decide) (fun K hK => ?_)
                      refine Kd.N_append_rows_step (Kd.slice 3 (Kd.int .i64)) (w0 := w) w.heap.size (by rfl) (.tmp 20) (.tmp 23) 24 41 (.slice none 0 0) 24 rfl Tryz.underlying24 info41 rfl (by decide) (by omega) v274 y273 y276 _ _ _ (fun k_ => ((P0_ k_ ∨ P1_ k_) ∨ w.heap.size ≤ k_) ∧ some k_ ≠ (v285 : Value).ownBlock) (fun k_ => ((fun k_ => ((P0_ k_ ∨ P1_ k_) ∨ w.heap.size ≤ k_) ∧ some k_ ≠ (v285 : Value).ownBlock)) k_ ∧ some k_ ≠ (v274 : Value).ownBlock) rfl rfl ?aO ?aR (fun _ hk => hk) ?aF ?aB ?aS ?aL ?_
                      (case aR => exact (by skip; exact Kd.V_F (Kd.V_mono (ok' := (fun k_ => ((fun k_ => ((P0_ k_ ∨ P1_ k_) ∨ w.heap.size ≤ k_) ∧ some k_ ≠ (v285 : Value).ownBlock)) k_ ∧ some k_ ≠ (v274 : Value).ownBlock)) (HO280.out) (fun k_ hk => ⟨⟨hk.1.1, hk.1.2⟩, hk.2⟩))))
                      (case aB => exact (by repeat (first | (with_reducible first | exact HB.out | apply below_alloc | apply pw_below_drewN | apply below_drew1) | exact HB.out)))
                      (case aF => exact (fun k_ hk => ⟨(.inr (Nat.le_trans (below_size (by repeat (first | (with_reducible first | exact HB.out | apply below_alloc | apply pw_below_drewN | apply below_drew1) | exact HB.out))) hk)), Kd.fresh' (Kd.N_lt (by (with_reducible repeat (first | apply Kd.N_alloc | apply Kd.N_drewN | apply Kd.N_drew)); exact HO286.out)) k_ hk⟩))
                      (case aO => exact (by (with_reducible repeat (first | apply Kd.N_alloc | apply Kd.N_drewN | apply Kd.N_drew)); exact HO275.out))
                      (case aS => exact (below_size (by repeat (first | (with_reducible first | exact HB.out | apply below_alloc | apply pw_below_drewN | apply below_drew1) | exact HB.out))))
                      (case aL => have := LMc28.out; omega)
                      intro v282 w40 ho hb hg hat
                      rw [← Ny281.out] at ho
                      have n0_ := Aside0.mk (Kd.V_afterv (ok := (fun k_ => ((P0_ k_ ∨ P1_ k_) ∨ w.heap.size ≤ k_) ∧ some k_ ≠ (v285 : Value).ownBlock)) (by (with_reducible repeat (first | apply Kd.V_alloc | apply Kd.V_drewN | apply Kd.V_drew)); exact HO_0.out) hg hat)
                      have n1_ := Aside0.mk (Kd.V_afterv (ok := (fun k_ => ((P0_ k_ ∨ P1_ k_) ∨ w.heap.size ≤ k_) ∧ some k_ ≠ (v285 : Value).ownBlock)) (by (with_reducible repeat (first | apply Kd.V_alloc | apply Kd.V_drewN | apply Kd.V_drew)); exact HO_1.out) hg hat)
                      have n2_ := Aside0.mk (Kd.V_afterv (ok := (fun k_ => ((P0_ k_ ∨ P1_ k_) ∨ w.heap.size ≤ k_) ∧ some k_ ≠ (v285 : Value).ownBlock)) (by (with_reducible repeat (first | apply Kd.V_alloc | apply Kd.V_drewN | apply Kd.V_drew)); exact HO280.out) hg hat)
                      have n3_ := Aside0.mk (Kd.V_afterv (ok := (fun k_ => ((P0_ k_ ∨ P1_ k_) ∨ w.heap.size ≤ k_) ∧ some k_ ≠ (v285 : Value).ownBlock)) (by (with_reducible repeat (first | apply Kd.V_alloc | apply Kd.V_drewN | apply Kd.V_drew)); exact HO294.out) hg hat)
                      have n4_ := Aside0.mk (Kd.N_afterv (ok := (fun k_ => ((P0_ k_ ∨ P1_ k_) ∨ w.heap.size ≤ k_))) (by (with_reducible repeat (first | apply Kd.N_alloc | apply Kd.N_drewN | apply Kd.N_drew)); exact HO286.out) hg hat)
                      have n5_ := Aside0.mk (hb)
                      have n6_ := Aside0.mk (ho)
                      clear HO_0
                      clear HO_1
                      clear HO280
                      clear HO294
                      clear HO286
                      clear HB
                      clear HO275
                      have HO_0 := n0_
                      have HO_1 := n1_
                      have HO280 := n2_
                      have HO294 := n3_
                      have HO286 := n4_
                      have HB := n5_
                      have HO283 := n6_
                      clear n0_ n1_ n2_ n3_ n4_ n5_ n6_
                      clear ho hb hg hat
                      refine hK.out _ _ trivial (fun hHeld => ?_)
                      clear hK K
                      refine norm_ (a' := ?_) ?_ ?_
                      rotate_left
                      · show Act.put _ (some 24) _ = _
                        simp only [Act.put, List.setIfInBounds_toArray, List.set_cons_zero, List.set_cons_succ, i64_w, i32_w]
                        rfl
                      exact norm_ (by simp only [putAll, Act.put, List.setIfInBounds_toArray, List.set_cons_zero, List.set_cons_succ]) (hCont (v274, v282, v285) _ ⟨(by (with_reducible repeat (first | apply Kd.V_alloc | apply Kd.V_drewN | apply Kd.V_drew)); exact Kd.V_mono HO280.out (fun _ hk => ⟨hk.1.1, ⟨hk.2, hk.1.2⟩⟩)), (by (with_reducible repeat (first | apply Kd.N_alloc | apply Kd.N_drewN | apply Kd.N_drew)); exact HO283.out), (by (with_reducible repeat (first | apply Kd.N_alloc | apply Kd.N_drewN | apply Kd.N_drew)); exact HO286.out), (by (with_reducible repeat (first | apply Kd.V_alloc | apply Kd.V_drewN | apply Kd.V_drew)); exact Kd.V_mono HO294.out (fun _ hk => ⟨hk.1.1, ⟨hk.2, hk.1.2⟩⟩)), (by (with_reducible repeat (first | apply Kd.V_alloc | apply Kd.V_drewN | apply Kd.V_drew)); exact Kd.V_mono HO_0.out (fun _ hk => ⟨hk.1.1, ⟨hk.2, hk.1.2⟩⟩)), (by (with_reducible repeat (first | apply Kd.V_alloc | apply Kd.V_drewN | apply Kd.V_drew)); exact Kd.V_mono HO_1.out (fun _ hk => ⟨hk.1.1, ⟨hk.2, hk.1.2⟩⟩)), (by repeat (first | (with_reducible first | exact HB.out | apply below_alloc | apply pw_below_drewN | apply below_drew1) | exact HB.out))⟩)
                  rintro ⟨v274, v282, v285⟩ w41 ⟨h0_, h1_, h2_, h3_, h4_, h5_, h6_⟩
                  have n0_ : Aside0 (Kd.V (Kd.slice 3 (Kd.int .i64)) 41 w41 w.heap.size (fun k_ => ((P0_ k_ ∨ P1_ k_) ∨ w.heap.size ≤ k_) ∧ some k_ ≠ (v282 : Value).ownBlock ∧ some k_ ≠ (v285 : Value).ownBlock) (.slice A0 y276.length c0) y276) := ⟨h0_⟩
                  have n1_ : Aside0 (Kd.N (Kd.slice 3 (Kd.int .i64)) 41 w41 w.heap.size (fun k_ => ((P0_ k_ ∨ P1_ k_) ∨ w.heap.size ≤ k_) ∧ some k_ ≠ (v285 : Value).ownBlock) v282 y281) := ⟨h1_⟩
                  have n2_ : Aside0 (Kd.N (Kd.slice 3 (Kd.int .i64)) 41 w41 w.heap.size (fun k_ => ((P0_ k_ ∨ P1_ k_) ∨ w.heap.size ≤ k_) ∧ some k_ ≠ (v282 : Value).ownBlock) v285 y284) := ⟨h2_⟩
                  have n3_ : Aside0 (Kd.V (Kd.slice 3 (Kd.int .i64)) 41 w41 w.heap.size (fun k_ => ((P0_ k_ ∨ P1_ k_) ∨ w.heap.size ≤ k_) ∧ some k_ ≠ (v282 : Value).ownBlock ∧ some k_ ≠ (v285 : Value).ownBlock) (.slice A35 y290.length c35) y290) := ⟨h3_⟩
                  have n4_ : Aside0 (Kd.V (Kd.slice 3 (Kd.int .i64)) 41 w41 w.heap.size (fun k_ => ((P0_ k_ ∨ P1_ k_) ∨ w.heap.size ≤ k_) ∧ some k_ ≠ (v282 : Value).ownBlock ∧ some k_ ≠ (v285 : Value).ownBlock) (.slice A0 l0.length c0) l0) := ⟨h4_⟩
                  have n5_ : Aside0 (Kd.V (Kd.int .i64) 3 w41 w.heap.size (fun k_ => ((P0_ k_ ∨ P1_ k_) ∨ w.heap.size ≤ k_) ∧ some k_ ≠ (v282 : Value).ownBlock ∧ some k_ ≠ (v285 : Value).ownBlock) (.slice A1 l1.length c1) l1) := ⟨h5_⟩
                  have n6_ : Aside0 (Below w.heap.size w w41) := ⟨h6_⟩
                  clear HO_0
                  clear HO_1
                  clear HB
                  clear h0_ h1_ h2_ h3_ h4_ h5_ h6_
                  have HO280 := n0_
                  have HO283 := n1_
                  have HO286 := n2_
                  have HO294 := n3_
                  have HO_0 := n4_
                  have HO_1 := n5_
                  have HB := n6_
                  clear n0_ n1_ n2_ n3_ n4_ n5_ n6_
                  have hHeld := trivial
                  obtain ⟨Ao43, co43, eo43⟩ := Kd.N_slice HO286.out
                  (first | subst eo43 | (injection eo43 with f1_ f2_ f3_; have f4_ := f1_.symm; have f5_ := f3_.symm; clear f1_ f2_ f3_; subst f4_; subst f5_))
                  refine norm_ (a' := ?_) ?_ ?_
                  rotate_left
                  · simp only [putAll, Act.put, List.setIfInBounds_toArray, List.set_cons_zero, List.set_cons_succ]
                    rfl
                  refine one_ (i := 7) (N := some 27) #[true, true, true, true, true, true, true, true, true, true, true, false, false] rfl rfl (one_of HT_.out (by kernel_rfl)) (by decide) (fun K hK => ?_)
                  refine Kd.N_append_rows_step (Kd.slice 3 (Kd.int .i64)) (w0 := w) w.heap.size (by rfl) (.tmp 24) (.tmp 26) 24 41 (.slice none 0 0) 24 rfl Tryz.underlying24 info41 rfl (by decide) (by omega) v282 y281 y284 _ _ _ (fun k_ => ((P0_ k_ ∨ P1_ k_) ∨ w.heap.size ≤ k_)) (fun k_ => ((fun k_ => ((P0_ k_ ∨ P1_ k_) ∨ w.heap.size ≤ k_))) k_ ∧ some k_ ≠ (v282 : Value).ownBlock) rfl rfl ?aO ?aR (fun _ hk => hk) ?aF ?aB ?aS ?aL ?_
                  (case aR => exact (by skip; exact Kd.N_F (Kd.N_mono (ok' := (fun k_ => ((fun k_ => ((P0_ k_ ∨ P1_ k_) ∨ w.heap.size ≤ k_))) k_ ∧ some k_ ≠ (v282 : Value).ownBlock)) (HO286.out) (fun k_ hk => ⟨hk.1, hk.2⟩))))
                  (case aB => exact (by repeat (first | (with_reducible first | exact HB.out | apply below_alloc | apply pw_below_drewN | apply below_drew1) | exact HB.out)))
                  (case aF => exact (fun k_ hk => (.inr (Nat.le_trans (below_size (by repeat (first | (with_reducible first | exact HB.out | apply below_alloc | apply pw_below_drewN | apply below_drew1) | exact HB.out))) hk))))
                  (case aO => exact (by (with_reducible repeat (first | apply Kd.N_alloc | apply Kd.N_drewN | apply Kd.N_drew)); exact Kd.N_mono HO283.out (fun _ hk => hk.1)))
                  (case aS => exact (below_size (by repeat (first | (with_reducible first | exact HB.out | apply below_alloc | apply pw_below_drewN | apply below_drew1) | exact HB.out))))
                  (case aL => have := LMc29.out; omega)
                  intro v288 w42 ho hb hg hat
                  rw [← Ny287.out] at ho
                  have n0_ := Aside0.mk (Kd.V_afterv (ok := (fun k_ => ((P0_ k_ ∨ P1_ k_) ∨ w.heap.size ≤ k_) ∧ some k_ ≠ (.slice Ao43 y284.length co43 : Value).ownBlock)) (by (with_reducible repeat (first | apply Kd.V_alloc | apply Kd.V_drewN | apply Kd.V_drew)); exact Kd.V_mono HO_0.out (fun _ hk => ⟨⟨hk.1, hk.2.2⟩, hk.2.1⟩)) hg hat)
                  have n1_ := Aside0.mk (Kd.V_afterv (ok := (fun k_ => ((P0_ k_ ∨ P1_ k_) ∨ w.heap.size ≤ k_) ∧ some k_ ≠ (.slice Ao43 y284.length co43 : Value).ownBlock)) (by (with_reducible repeat (first | apply Kd.V_alloc | apply Kd.V_drewN | apply Kd.V_drew)); exact Kd.V_mono HO_1.out (fun _ hk => ⟨⟨hk.1, hk.2.2⟩, hk.2.1⟩)) hg hat)
                  have n2_ := Aside0.mk (Kd.V_afterv (ok := (fun k_ => ((P0_ k_ ∨ P1_ k_) ∨ w.heap.size ≤ k_) ∧ some k_ ≠ (.slice Ao43 y284.length co43 : Value).ownBlock)) (by (with_reducible repeat (first | apply Kd.V_alloc | apply Kd.V_drewN | apply Kd.V_drew)); exact Kd.V_mono HO280.out (fun _ hk => ⟨⟨hk.1, hk.2.2⟩, hk.2.1⟩)) hg hat)
                  have n3_ := Aside0.mk (Kd.V_afterv (ok := (fun k_ => ((P0_ k_ ∨ P1_ k_) ∨ w.heap.size ≤ k_) ∧ some k_ ≠ (.slice Ao43 y284.length co43 : Value).ownBlock)) (by (with_reducible repeat (first | apply Kd.V_alloc | apply Kd.V_drewN | apply Kd.V_drew)); exact Kd.V_mono HO294.out (fun _ hk => ⟨⟨hk.1, hk.2.2⟩, hk.2.1⟩)) hg hat)
                  have n4_ := Aside0.mk (Kd.N_afterv (ok := (fun k_ => ((P0_ k_ ∨ P1_ k_) ∨ w.heap.size ≤ k_))) (by (with_reducible repeat (first | apply Kd.N_alloc | apply Kd.N_drewN | apply Kd.N_drew)); exact HO286.out) hg hat)
                  have n5_ := Aside0.mk (hb)
                  have n6_ := Aside0.mk (ho)
                  clear HO_0
                  clear HO_1
                  clear HO280
                  clear HO294
                  clear HO286
                  clear HB
                  clear HO283
                  have HO_0 := n0_
                  have HO_1 := n1_
                  have HO280 := n2_
                  have HO294 := n3_
                  have HO286 := n4_
                  have HB := n5_
                  have HO289 := n6_
                  clear n0_ n1_ n2_ n3_ n4_ n5_ n6_
                  clear ho hb hg hat
                  refine hK.out _ _ trivial (fun hHeld => ?_)
                  clear hK K
                  refine norm_ (a' := ?_) ?_ ?_
                  rotate_left
                  · show Act.put _ (some 27) _ = _
                    simp only [Act.put, List.setIfInBounds_toArray, List.set_cons_zero, List.set_cons_succ, i64_w, i32_w]
                    rfl
                  refine one_ (i := 11) (N := some 31) #[true, true, true, true, true, true, true, true, true, true, true, true, false] rfl rfl (one_of HT_.out (by kernel_rfl)) (by decide) (fun K hK => ?_)
                  refine Kd.N_append_rows_step (Kd.slice 3 (Kd.int .i64)) (w0 := w) w.heap.size (by rfl) (.tmp 27) (.tmp 30) 24 41 (.slice none 0 0) 24 rfl Tryz.underlying24 info41 rfl (by decide) (by omega) v288 y287 y290 _ _ _ (fun k_ => ((P0_ k_ ∨ P1_ k_) ∨ w.heap.size ≤ k_)) (fun k_ => ((fun k_ => ((P0_ k_ ∨ P1_ k_) ∨ w.heap.size ≤ k_))) k_ ∧ some k_ ≠ (v288 : Value).ownBlock) rfl rfl ?aO ?aR (fun _ hk => hk) ?aF ?aB ?aS ?aL ?_
                  (case aR => exact (by skip; exact Kd.V_F (Kd.V_mono (ok' := (fun k_ => ((fun k_ => ((P0_ k_ ∨ P1_ k_) ∨ w.heap.size ≤ k_))) k_ ∧ some k_ ≠ (v288 : Value).ownBlock)) (HO294.out) (fun k_ hk => ⟨hk.1.1, hk.2⟩))))
                  (case aB => exact (by repeat (first | (with_reducible first | exact HB.out | apply below_alloc | apply pw_below_drewN | apply below_drew1) | exact HB.out)))
                  (case aF => exact (fun k_ hk => (.inr (Nat.le_trans (below_size (by repeat (first | (with_reducible first | exact HB.out | apply below_alloc | apply pw_below_drewN | apply below_drew1) | exact HB.out))) hk))))
                  (case aO => exact (by (with_reducible repeat (first | apply Kd.N_alloc | apply Kd.N_drewN | apply Kd.N_drew)); exact HO289.out))
                  (case aS => exact (below_size (by repeat (first | (with_reducible first | exact HB.out | apply below_alloc | apply pw_below_drewN | apply below_drew1) | exact HB.out))))
                  (case aL => have := LMc32.out; omega)
                  intro v296 w44 ho hb hg hat
                  rw [← Ny295.out] at ho
                  have n0_ := Aside0.mk (Kd.V_afterv (ok := (fun k_ => ((P0_ k_ ∨ P1_ k_) ∨ w.heap.size ≤ k_) ∧ some k_ ≠ (.slice Ao43 y284.length co43 : Value).ownBlock)) (by (with_reducible repeat (first | apply Kd.V_alloc | apply Kd.V_drewN | apply Kd.V_drew)); exact HO_0.out) hg hat)
                  have n1_ := Aside0.mk (Kd.V_afterv (ok := (fun k_ => ((P0_ k_ ∨ P1_ k_) ∨ w.heap.size ≤ k_) ∧ some k_ ≠ (.slice Ao43 y284.length co43 : Value).ownBlock)) (by (with_reducible repeat (first | apply Kd.V_alloc | apply Kd.V_drewN | apply Kd.V_drew)); exact HO_1.out) hg hat)
                  have n2_ := Aside0.mk (Kd.V_afterv (ok := (fun k_ => ((P0_ k_ ∨ P1_ k_) ∨ w.heap.size ≤ k_) ∧ some k_ ≠ (.slice Ao43 y284.length co43 : Value).ownBlock)) (by (with_reducible repeat (first | apply Kd.V_alloc | apply Kd.V_drewN | apply Kd.V_drew)); exact HO280.out) hg hat)
                  have n3_ := Aside0.mk (Kd.V_afterv (ok := (fun k_ => ((P0_ k_ ∨ P1_ k_) ∨ w.heap.size ≤ k_) ∧ some k_ ≠ (.slice Ao43 y284.length co43 : Value).ownBlock)) (by (with_reducible repeat (first | apply Kd.V_alloc | apply Kd.V_drewN | apply Kd.V_drew)); exact HO294.out) hg hat)
                  have n4_ := Aside0.mk (Kd.N_afterv (ok := (fun k_ => ((P0_ k_ ∨ P1_ k_) ∨ w.heap.size ≤ k_))) (by (with_reducible repeat (first | apply Kd.N_alloc | apply Kd.N_drewN | apply Kd.N_drew)); exact HO286.out) hg hat)
                  have n5_ := Aside0.mk (hb)
                  have n6_ := Aside0.mk (ho)
                  clear HO_0
                  clear HO_1
                  clear HO280
                  clear HO294
                  clear HO286
                  clear HB
                  clear HO289
                  have HO_0 := n0_
                  have HO_1 := n1_
                  have HO280 := n2_
                  have HO294 := n3_
                  have HO286 := n4_
                  have HB := n5_
                  have HO297 := n6_
                  clear n0_ n1_ n2_ n3_ n4_ n5_ n6_
                  clear ho hb hg hat
                  refine hK.out _ _ trivial (fun hHeld => ?_)
                  clear hK K
                  refine norm_ (a' := ?_) ?_ ?_
                  rotate_left
                  · show Act.put _ (some 31) _ = _
                    simp only [Act.put, List.setIfInBounds_toArray, List.set_cons_zero, List.set_cons_succ, i64_w, i32_w]
                    rfl
                  refine pure_ (i := 12) (N := some 4) (v := ?_) (a' := ?_) #[true, true, true, true, true, true, true, true, true, true, true, true, true] rfl rfl (any_of HT_.out (by kernel_rfl)) (fun _ _ _ h => h) (Or.inl ⟨by rfl, ?_⟩) ?_ ?_
                  rotate_left
                  · intro w'
                    go_simp
                    with_reducible rfl
                  rotate_left
                  · simp only [Act.put, List.setIfInBounds_toArray, List.set_cons_zero, List.set_cons_succ, i64_w, i32_w]
                    rfl
                  refine done_ (done_of HT_.out (by kernel_rfl)) ?_
                  try go_wp2
                  go_ret
                  exact ⟨_, by first | rfl | (simp [errW_none, errW_some] <;> rfl) | (simp [*, errW_none, errW_some] <;> rfl), by (with_reducible repeat (first | apply Kd.N_alloc | apply Kd.N_drewN | apply Kd.N_drew)); exact HO297.out, by repeat (first | (with_reducible first | exact HB.out | apply below_alloc | apply pw_below_drewN | apply below_drew1) | exact HB.out)⟩
                · rw [if_neg c32] at H
                  exact absurd H (by simp)
              · rw [if_neg c29] at H
                exact absurd H (by simp)
            · rw [if_neg c28] at H
              exact absurd H (by simp)
          · rw [if_neg c27] at H
            exact absurd H (by simp)
        · rw [if_neg c26] at H
          exact absurd H (by simp)
end Go.Proofs.YthonlcnmjlldiaaGreat.P
namespace Go.Proofs.YthonlcnmjlldiaaGreat.P
open Go.RowKit Go.Proofs.YthonlcnmjlldiaaGreatW.PrintWords Go.Proofs.YthonlcnmjlldiaaGreatW.PrintLast Go.Proofs.YthonlcnmjlldiaaGreatW.PrintMore
attribute [local go_sem] max2_int min2_int max_two min_two max_three min_three max_four min_four
set_option linter.unusedVariables false
set_option linter.unusedSimpArgs false
mutual
def potbankref06_crowds.l0 : Nat → List (List Int) → List (List Int) → Int → Option ((List (List Int)))
  | 0, _, _, _ => none
  | k + 1, x5, x6, x7 => if x7 < (x5.length : Int) then (potbankref06_crowds.l1 k x5 x6 x7 true 0) else (some x6)
def potbankref06_crowds.l1 : Nat → List (List Int) → List (List Int) → Int → Bool → Int → Option ((List (List Int)))
  | 0, _, _, _, _, _ => none
  | k + 1, x5, x6, x7, x8, x9 => if x9 < (x5.length : Int) then (if x8 = true then (if x9 = x7 then (potbankref06_crowds.l1 k x5 x6 x7 true (wrap64 (x9 + 1))) else (if 0 ≤ x9 then (if 0 ≤ x7 then (if x7 < (x5.length : Int) then ((potbankref06_subset.f k (rd_L5 x5 x9) (rd_L5 x5 x7)).bind fun t306 => (potbankref06_crowds.l1 k x5 x6 x7 (!t306) (wrap64 (x9 + 1)))) else (none)) else (none)) else (none))) else (potbankref06_crowds.l1 k x5 x6 x7 false (wrap64 (x9 + 1)))) else (if x8 = true then (if 0 ≤ x7 then (if x7 < (x5.length : Int) then ((potbankref06_put.f k x6 (rd_L5 x5 x7)).bind fun t308 => (potbankref06_crowds.l0 k x5 t308 (wrap64 (x7 + 1)))) else (none)) else (none)) else (potbankref06_crowds.l0 k x5 x6 (wrap64 (x7 + 1))))
end
def potbankref06_crowds.f (k : Nat) (l0 : List (S70)) (l1 : List (S72)) : Option ((List (List Int))) := (potbankref06_indices.f k (l1.length : Int)).bind fun t298 => ((potbankref06_within.f k l0 l1 t298).bind fun t301 => (potbankref06_crowds.l0 k t301 ([] : List (List Int)) 0))
set_option maxHeartbeats 8000000 in
set_option maxRecDepth 100000 in
theorem potbankref06_crowds.calls (k : Nat) (A0 : Option Addr) (c0 : Nat) (l0 : List (S70)) (A1 : Option Addr) (c1 : Nat) (l1 : List (S72)) (r : List (List Int)) (w : World) (hr0 : Kd.C k70 w A0 l0.length l0) (hc0 : l0.length ≤ c0) (hr1 : Kd.C k72 w A1 l1.length l1) (hc1 : l1.length ≤ c1) (h : potbankref06_crowds.f k l0 l1 = some r) :
    Calls Tryz.prog 50 #[.slice A0 l0.length c0, .slice A1 l1.length c1] w fun e w' => ∃ v0_ : Value, e = .returned (v0_) ∧ Kd.N (Kd.slice 3 (Kd.int .i64)) 41 w' w.heap.size (fun k_ => (w.heap.size ≤ k_)) v0_ r ∧ Below w.heap.size w w' := by
  have HR0 := Aside0.mk hr0
  have HC0 := Aside0.mk hc0
  clear hr0 hc0
  have HR1 := Aside0.mk hr1
  have HC1 := Aside0.mk hc1
  clear hr1 hc1
  have HB := Aside0.mk (Below.refl w.heap.size w)
  have H : ((potbankref06_indices.f k (l1.length : Int)).bind fun t298 => ((potbankref06_within.f k l0 l1 t298).bind fun t301 => (potbankref06_crowds.l0 k t301 ([] : List (List Int)) 0))) = some r := h
  clear h
  replace H := Option.bind_eq_some_iff.mp H
  obtain ⟨t298, A30, H⟩ := H
  replace H : ((potbankref06_within.f k l0 l1 t298).bind fun t301 => (potbankref06_crowds.l0 k t301 ([] : List (List Int)) 0)) = some r := H
  have A3 := Aside0.mk A30
  clear A30
  replace H := Option.bind_eq_some_iff.mp H
  obtain ⟨t301, A40, H⟩ := H
  replace H : (potbankref06_crowds.l0 k t301 ([] : List (List Int)) 0) = some r := H
  have A4 := Aside0.mk A40
  clear A40
  have H' := Aside0.mk H
  clear H
  go_enter Tryz.func50, Tryz.ntmps50
  go_wp2_with (first | (go_at_call 59; (with_reducible refine (potbankref06_indices.calls k (l1.length : Int) t298 _ A3.out).mono ?_); rintro e w5 ⟨v299, rfl, ho0, hb⟩; have n0_ := Aside0.mk (Kd.R_lower (Kd.R_newM (M := fun k_ => (w.heap.size ≤ k_)) ho0 (below_size (by repeat (first | (with_reducible first | exact HB.out | apply below_alloc | apply pw_below_drewN | apply below_drew1) | exact HB.out))) (fun k_ h_ => h_)) (below_size (by repeat (first | (with_reducible first | exact HB.out | apply below_alloc | apply pw_below_drewN | apply below_drew1) | exact HB.out)))); have n1_ := Aside0.mk (below_step (by repeat (first | (with_reducible first | exact HB.out | apply below_alloc | apply pw_below_drewN | apply below_drew1) | exact HB.out)) hb); clear HB; have HO300 := n0_; have HB := n1_; clear n0_ n1_; (try clear hb); (try clear hb2); (try clear hk); (try clear hi); (try clear ho0); obtain ⟨Ao6, co6, eo6⟩ := Kd.R_slice HO300.out; subst eo6) | (go_at_call 75; (with_reducible refine (potbankref06_within.calls k _ _ l0 _ _ l1 _ _ t298 t301 _ ?side1 ?side2 ?side3 ?side4 ?side5 ?side6 A4.out).mono ?_); (case side1 => repeat (first | exact (Kd.C_below HR0.out HB.out) | (with_reducible refine Kd.C_alloc ?_ _) | (with_reducible refine Kd.C_drewN ?_ _) | (with_reducible refine Kd.C_drew ?_))); (case side2 => exact HC0.out); (case side3 => repeat (first | exact (Kd.C_below HR1.out HB.out) | (with_reducible refine Kd.C_alloc ?_ _) | (with_reducible refine Kd.C_drewN ?_ _) | (with_reducible refine Kd.C_drew ?_))); (case side4 => exact HC1.out); (case side5 => repeat (first | exact (Kd.R_reads' HO300.out).2.2 | (with_reducible refine Kd.C_alloc ?_ _) | (with_reducible refine Kd.C_drewN ?_ _) | (with_reducible refine Kd.C_drew ?_))); (case side6 => exact (Kd.R_reads' HO300.out).2.1); rintro e w7 ⟨v302, rfl, ho0, hb⟩; have n0_ := Aside0.mk (Kd.R_below (by (with_reducible repeat (first | apply Kd.R_alloc | apply Kd.R_drewN | apply Kd.R_drew)); exact HO300.out) hb); have n1_ := Aside0.mk (Kd.N_lower (Kd.N_mono (ok' := fun k_ => (w.heap.size ≤ k_) ∧ some k_ ≠ (.slice Ao6 t298.length co6 : Value).ownBlock) (Kd.S_N (Kd.S_bound ho0)) (fun k_ hk_ => ⟨(Nat.le_trans (below_size (by repeat (first | (with_reducible first | exact HB.out | apply below_alloc | apply pw_below_drewN | apply below_drew1) | exact HB.out))) hk_.2.1), (Kd.fresh' (Kd.R_lt (by (with_reducible repeat (first | apply Kd.R_alloc | apply Kd.R_drewN | apply Kd.R_drew)); exact HO300.out)) k_ hk_.2.1)⟩)) (below_size (by repeat (first | (with_reducible first | exact HB.out | apply below_alloc | apply pw_below_drewN | apply below_drew1) | exact HB.out)))); have n2_ := Aside0.mk (below_step (by repeat (first | (with_reducible first | exact HB.out | apply below_alloc | apply pw_below_drewN | apply below_drew1) | exact HB.out)) hb); clear HO300; clear HB; have HO300 := n0_; have HO303 := n1_; have HB := n2_; clear n0_ n1_ n2_; (try clear hb); (try clear hb2); (try clear hk); (try clear hi); (try clear ho0)))
  repeat (go_quiet (first | (go_at_call 59; (with_reducible refine (potbankref06_indices.calls k (l1.length : Int) t298 _ A3.out).mono ?_); rintro e w5 ⟨v299, rfl, ho0, hb⟩; have n0_ := Aside0.mk (Kd.R_lower (Kd.R_newM (M := fun k_ => (w.heap.size ≤ k_)) ho0 (below_size (by repeat (first | (with_reducible first | exact HB.out | apply below_alloc | apply pw_below_drewN | apply below_drew1) | exact HB.out))) (fun k_ h_ => h_)) (below_size (by repeat (first | (with_reducible first | exact HB.out | apply below_alloc | apply pw_below_drewN | apply below_drew1) | exact HB.out)))); have n1_ := Aside0.mk (below_step (by repeat (first | (with_reducible first | exact HB.out | apply below_alloc | apply pw_below_drewN | apply below_drew1) | exact HB.out)) hb); clear HB; have HO300 := n0_; have HB := n1_; clear n0_ n1_; (try clear hb); (try clear hb2); (try clear hk); (try clear hi); (try clear ho0); obtain ⟨Ao6, co6, eo6⟩ := Kd.R_slice HO300.out; subst eo6) | (go_at_call 75; (with_reducible refine (potbankref06_within.calls k _ _ l0 _ _ l1 _ _ t298 t301 _ ?side1 ?side2 ?side3 ?side4 ?side5 ?side6 A4.out).mono ?_); (case side1 => repeat (first | exact (Kd.C_below HR0.out HB.out) | (with_reducible refine Kd.C_alloc ?_ _) | (with_reducible refine Kd.C_drewN ?_ _) | (with_reducible refine Kd.C_drew ?_))); (case side2 => exact HC0.out); (case side3 => repeat (first | exact (Kd.C_below HR1.out HB.out) | (with_reducible refine Kd.C_alloc ?_ _) | (with_reducible refine Kd.C_drewN ?_ _) | (with_reducible refine Kd.C_drew ?_))); (case side4 => exact HC1.out); (case side5 => repeat (first | exact (Kd.R_reads' HO300.out).2.2 | (with_reducible refine Kd.C_alloc ?_ _) | (with_reducible refine Kd.C_drewN ?_ _) | (with_reducible refine Kd.C_drew ?_))); (case side6 => exact (Kd.R_reads' HO300.out).2.1); rintro e w7 ⟨v302, rfl, ho0, hb⟩; have n0_ := Aside0.mk (Kd.R_below (by (with_reducible repeat (first | apply Kd.R_alloc | apply Kd.R_drewN | apply Kd.R_drew)); exact HO300.out) hb); have n1_ := Aside0.mk (Kd.N_lower (Kd.N_mono (ok' := fun k_ => (w.heap.size ≤ k_) ∧ some k_ ≠ (.slice Ao6 t298.length co6 : Value).ownBlock) (Kd.S_N (Kd.S_bound ho0)) (fun k_ hk_ => ⟨(Nat.le_trans (below_size (by repeat (first | (with_reducible first | exact HB.out | apply below_alloc | apply pw_below_drewN | apply below_drew1) | exact HB.out))) hk_.2.1), (Kd.fresh' (Kd.R_lt (by (with_reducible repeat (first | apply Kd.R_alloc | apply Kd.R_drewN | apply Kd.R_drew)); exact HO300.out)) k_ hk_.2.1)⟩)) (below_size (by repeat (first | (with_reducible first | exact HB.out | apply below_alloc | apply pw_below_drewN | apply below_drew1) | exact HB.out)))); have n2_ := Aside0.mk (below_step (by repeat (first | (with_reducible first | exact HB.out | apply below_alloc | apply pw_below_drewN | apply below_drew1) | exact HB.out)) hb); clear HO300; clear HB; have HO300 := n0_; have HO303 := n1_; have HB := n2_; clear n0_ n1_ n2_; (try clear hb); (try clear hb2); (try clear hk); (try clear hi); (try clear ho0))); try go_wp2_with (first | (go_at_call 59; (with_reducible refine (potbankref06_indices.calls k (l1.length : Int) t298 _ A3.out).mono ?_); rintro e w5 ⟨v299, rfl, ho0, hb⟩; have n0_ := Aside0.mk (Kd.R_lower (Kd.R_newM (M := fun k_ => (w.heap.size ≤ k_)) ho0 (below_size (by repeat (first | (with_reducible first | exact HB.out | apply below_alloc | apply pw_below_drewN | apply below_drew1) | exact HB.out))) (fun k_ h_ => h_)) (below_size (by repeat (first | (with_reducible first | exact HB.out | apply below_alloc | apply pw_below_drewN | apply below_drew1) | exact HB.out)))); have n1_ := Aside0.mk (below_step (by repeat (first | (with_reducible first | exact HB.out | apply below_alloc | apply pw_below_drewN | apply below_drew1) | exact HB.out)) hb); clear HB; have HO300 := n0_; have HB := n1_; clear n0_ n1_; (try clear hb); (try clear hb2); (try clear hk); (try clear hi); (try clear ho0); obtain ⟨Ao6, co6, eo6⟩ := Kd.R_slice HO300.out; subst eo6) | (go_at_call 75; (with_reducible refine (potbankref06_within.calls k _ _ l0 _ _ l1 _ _ t298 t301 _ ?side1 ?side2 ?side3 ?side4 ?side5 ?side6 A4.out).mono ?_); (case side1 => repeat (first | exact (Kd.C_below HR0.out HB.out) | (with_reducible refine Kd.C_alloc ?_ _) | (with_reducible refine Kd.C_drewN ?_ _) | (with_reducible refine Kd.C_drew ?_))); (case side2 => exact HC0.out); (case side3 => repeat (first | exact (Kd.C_below HR1.out HB.out) | (with_reducible refine Kd.C_alloc ?_ _) | (with_reducible refine Kd.C_drewN ?_ _) | (with_reducible refine Kd.C_drew ?_))); (case side4 => exact HC1.out); (case side5 => repeat (first | exact (Kd.R_reads' HO300.out).2.2 | (with_reducible refine Kd.C_alloc ?_ _) | (with_reducible refine Kd.C_drewN ?_ _) | (with_reducible refine Kd.C_drew ?_))); (case side6 => exact (Kd.R_reads' HO300.out).2.1); rintro e w7 ⟨v302, rfl, ho0, hb⟩; have n0_ := Aside0.mk (Kd.R_below (by (with_reducible repeat (first | apply Kd.R_alloc | apply Kd.R_drewN | apply Kd.R_drew)); exact HO300.out) hb); have n1_ := Aside0.mk (Kd.N_lower (Kd.N_mono (ok' := fun k_ => (w.heap.size ≤ k_) ∧ some k_ ≠ (.slice Ao6 t298.length co6 : Value).ownBlock) (Kd.S_N (Kd.S_bound ho0)) (fun k_ hk_ => ⟨(Nat.le_trans (below_size (by repeat (first | (with_reducible first | exact HB.out | apply below_alloc | apply pw_below_drewN | apply below_drew1) | exact HB.out))) hk_.2.1), (Kd.fresh' (Kd.R_lt (by (with_reducible repeat (first | apply Kd.R_alloc | apply Kd.R_drewN | apply Kd.R_drew)); exact HO300.out)) k_ hk_.2.1)⟩)) (below_size (by repeat (first | (with_reducible first | exact HB.out | apply below_alloc | apply pw_below_drewN | apply below_drew1) | exact HB.out)))); have n2_ := Aside0.mk (below_step (by repeat (first | (with_reducible first | exact HB.out | apply below_alloc | apply pw_below_drewN | apply below_drew1) | exact HB.out)) hb); clear HO300; clear HB; have HO300 := n0_; have HO303 := n1_; have HB := n2_; clear n0_ n1_ n2_; (try clear hb); (try clear hb2); (try clear hk); (try clear hi); (try clear ho0))))
  go_loopg [6, 7] k (fun kq v6 v7 w' => ∃ (x6_1 : List (List Int)) (x7_1 : Int), v7 = .int .i64 x7_1 ∧ Aside0 (potbankref06_crowds.l0 kq t301 x6_1 x7_1 = some r) ∧ Aside0 (kq ≤ k) ∧ Aside0 (Kd.N (Kd.slice 3 (Kd.int .i64)) 41 w' w.heap.size (fun k_ => (w.heap.size ≤ k_) ∧ some k_ ≠ (v6 : Value).ownBlock) v302 t301) ∧ Aside0 (Kd.N (Kd.slice 3 (Kd.int .i64)) 41 w' w.heap.size (fun k_ => (w.heap.size ≤ k_) ∧ some k_ ≠ (v302 : Value).ownBlock) v6 x6_1) ∧ Aside0 (Below w.heap.size w w'))
  case atStart => exact ⟨(([] : List (List Int))), (0), (by first | rfl | (simp; done) | (simp [*]; done)), H', ⟨Nat.le_refl _⟩, ⟨by (with_reducible repeat (first | apply Kd.N_alloc | apply Kd.N_drewN | apply Kd.N_drew)); exact Kd.N_mono HO303.out (fun _ hk => ⟨hk.1, (by simp [Value.ownBlock])⟩)⟩, ⟨by first | exact Kd.S_nil _ _ _ _ _ | exact Kd.N_nil _ _ _ _ _ | exact Kd.V_nil _ _ _ _ _ | exact Kd.Q_nil _ _ _ _ _ | exact Kd.R_nil _ _ _ _ _⟩, ⟨by repeat (first | (with_reducible first | exact HB.out | apply below_alloc | apply pw_below_drewN | apply below_drew1) | exact HB.out)⟩⟩
  case round =>
    clear H'
    try clear c1
    try clear p2
    try clear c5
    obtain ⟨x6_1, x7_1, rfl, HA, HK1, HO_5, HO_6, HB⟩ := hrel
    cases gk with
    | zero => exact absurd HA.out (by simp [potbankref06_crowds.l0])
    | succ k1 =>
      have H := HA.out
      clear HA
      simp only [potbankref06_crowds.l0] at H
      by_cases c8 : x7_1 < (t301.length : Int)
      · rw [if_pos c8] at H
        have c8b0 : decide (x7_1 < (t301.length : Int)) = true := decide_eq_true c8
        clear c8
        have H' := Aside0.mk H
        clear H
        obtain ⟨Ao9, co9, eo9⟩ := Kd.N_slice HO_5.out
        subst eo9
        go_wp2
        repeat (go_quiet (fail); try go_wp2)
        go_loopg [8, 9] k1 (fun kq v8 v9 w' => ∃ (x8_2 : Bool) (x9_2 : Int), v8 = .bool x8_2 ∧ v9 = .int .i64 x9_2 ∧ Aside0 (potbankref06_crowds.l1 kq t301 x6_1 x7_1 x8_2 x9_2 = some r) ∧ Aside0 (kq ≤ k1) ∧ Aside0 (Kd.N (Kd.slice 3 (Kd.int .i64)) 41 w' w.heap.size (fun k_ => (w.heap.size ≤ k_) ∧ some k_ ≠ (u6 : Value).ownBlock) (.slice Ao9 t301.length co9) t301) ∧ Aside0 (Kd.N (Kd.slice 3 (Kd.int .i64)) 41 w' w.heap.size (fun k_ => (w.heap.size ≤ k_) ∧ some k_ ≠ ((.slice Ao9 t301.length co9) : Value).ownBlock) u6 x6_1) ∧ Aside0 (Below w.heap.size w w'))
        case atStart => exact ⟨(true), (0), (by first | rfl | (simp; done) | (simp [*]; done)), (by first | rfl | (simp; done) | (simp [*]; done)), H', ⟨Nat.le_refl _⟩, ⟨by (with_reducible repeat (first | apply Kd.N_alloc | apply Kd.N_drewN | apply Kd.N_drew)); exact HO_5.out⟩, ⟨by (with_reducible repeat (first | apply Kd.N_alloc | apply Kd.N_drewN | apply Kd.N_drew)); exact HO_6.out⟩, ⟨by repeat (first | (with_reducible first | exact HB.out | apply below_alloc | apply pw_below_drewN | apply below_drew1) | exact HB.out)⟩⟩
        case round =>
          clear H'
          try clear c1
          try clear p2
          try clear c5
          try clear c8
          try clear c8b0
          try clear p2
          obtain ⟨x8_2, x9_2, rfl, rfl, HA, HK2, HO_5, HO_6, HB⟩ := hrel
          cases gk with
          | zero => exact absurd HA.out (by simp [potbankref06_crowds.l1])
          | succ k2 =>
            have H := HA.out
            clear HA
            simp only [potbankref06_crowds.l1] at H
            by_cases c10 : x9_2 < (t301.length : Int)
            · rw [if_pos c10] at H
              have c10b0 : decide (x9_2 < (t301.length : Int)) = true := decide_eq_true c10
              clear c10
              by_cases c11 : x8_2 = true
              · subst c11
                have H1 : (if x9_2 = x7_1 then (potbankref06_crowds.l1 k2 t301 x6_1 x7_1 true (wrap64 (x9_2 + 1))) else (if 0 ≤ x9_2 then (if 0 ≤ x7_1 then (if x7_1 < (t301.length : Int) then ((potbankref06_subset.f k2 (rd_L5 t301 x9_2) (rd_L5 t301 x7_1)).bind fun t306 => (potbankref06_crowds.l1 k2 t301 x6_1 x7_1 (!t306) (wrap64 (x9_2 + 1)))) else (none)) else (none)) else (none))) = some r := by rw [if_pos rfl] at H; exact H
                clear H
                have H := H1
                clear H1
                by_cases c12 : x9_2 = x7_1
                · rw [if_pos c12] at H
                  have c12b0 : (x9_2 == x7_1) = true := beq_iff_eq.mpr c12
                  have c12b1 : (x9_2 != x7_1) = false := bne_eq_false_iff_eq.mpr c12
                  clear c12
                  have H' := Aside0.mk H
                  clear H
                  go_wp2
                  repeat (go_quiet (fail); try go_wp2)
                  go_roundg k2
                  case measure => have := HK1.out; have := HK2.out; omega
                  case rel => exact ⟨(true), (wrap64 (x9_2 + 1)), (by first | rfl | (simp; done) | (simp [*]; done)), (by first | rfl | (simp; done) | (simp [*]; done)), H', ⟨by have := HK1.out; have := HK2.out; omega⟩, ⟨by (with_reducible repeat (first | apply Kd.N_alloc | apply Kd.N_drewN | apply Kd.N_drew)); exact HO_5.out⟩, ⟨by (with_reducible repeat (first | apply Kd.N_alloc | apply Kd.N_drewN | apply Kd.N_drew)); exact HO_6.out⟩, ⟨by repeat (first | (with_reducible first | exact HB.out | apply below_alloc | apply pw_below_drewN | apply below_drew1) | exact HB.out)⟩⟩
                · rw [if_neg c12] at H
                  have c12b0 : (x9_2 == x7_1) = false := beq_eq_false_iff_ne.mpr c12
                  have c12b1 : (x9_2 != x7_1) = true := bne_iff_ne.mpr c12
                  by_cases c13 : 0 ≤ x9_2
                  · rw [if_pos c13] at H
                    have c13b0 : decide (0 ≤ x9_2) = true := decide_eq_true c13
                    clear c13
                    by_cases c14 : 0 ≤ x7_1
                    · rw [if_pos c14] at H
                      have c14b0 : decide (0 ≤ x7_1) = true := decide_eq_true c14
                      clear c14
                      by_cases c15 : x7_1 < (t301.length : Int)
                      · rw [if_pos c15] at H
                        have c15b0 : decide (x7_1 < (t301.length : Int)) = true := decide_eq_true c15
                        clear c15
                        replace H := Option.bind_eq_some_iff.mp H
                        obtain ⟨t306, A160, H⟩ := H
                        replace H : (potbankref06_crowds.l1 k2 t301 x6_1 x7_1 (!t306) (wrap64 (x9_2 + 1))) = some r := H
                        have A16 := Aside0.mk A160
                        clear A160
                        have H' := Aside0.mk H
                        clear H
                        have p304 : 0 ≤ (x9_2 : Int) := of_decide_eq_true (by first | (with_reducible assumption) | assumption)
                        have q304 : x9_2 < (t301.length : Int) := of_decide_eq_true (by first | (with_reducible assumption) | assumption)
                        obtain ⟨ad304, A304_0, c304_0, e304, hx304_0, hl304_0, hi304_0⟩ := at_L5 (Kd.N_reads' HO_5.out).2.2 x9_2 p304 q304
                        cases e304
                        obtain ⟨ce304, hce304, hMe304, hcc304⟩ := Kd.N_get HO_5.out [] x9_2 p304 (by first | exact q304 | exact of_decide_eq_true (by first | (with_reducible assumption) | assumption) | (have e_ := (Kd.N_reads' HO_5.out).1; omega))
                        obtain ⟨ua304_0, uc304_0, rfl, ul304_0, ge304_0⟩ := Kd.FK_slice_open hMe304
                        have hv304_0 := hcc304 0 _ rfl
                        rw [Nat.add_zero, show ((Kd.slice 3 (Kd.int .i64))).sz = 1 from rfl, Nat.mul_one] at hv304_0
                        replace hv304_0 := Option.some.inj (hv304_0.symm.trans hx304_0)
                        injection hv304_0 with hva_ hvn_ hvc_
                        rw [hva_] at ge304_0
                        rw [hvc_] at ul304_0
                        have HL304_0 := Aside0.mk (show Kd.V (Kd.int .i64) 3 _ w.heap.size _ _ (rd_L5 t301 x9_2) from Kd.V_mk ul304_0 ge304_0)
                        clear hva_ hvn_ hvc_ ge304_0 ul304_0
                        clear hcc304 hce304
                        have HR304_0 := Aside0.mk hi304_0
                        have HC304_0 := Aside0.mk hl304_0
                        clear hi304_0 hl304_0
                        replace p304 := eq_true p304
                        replace q304 := eq_true q304
                        have p305 : 0 ≤ (x7_1 : Int) := of_decide_eq_true (by first | (with_reducible assumption) | assumption)
                        have q305 : x7_1 < (t301.length : Int) := of_decide_eq_true (by first | (with_reducible assumption) | assumption)
                        obtain ⟨ad305, A305_0, c305_0, e305, hx305_0, hl305_0, hi305_0⟩ := at_L5 (Kd.N_reads' HO_5.out).2.2 x7_1 p305 q305
                        obtain rfl : ad304 = ad305 := (by injection e305)
                        obtain ⟨ce305, hce305, hMe305, hcc305⟩ := Kd.N_get HO_5.out [] x7_1 p305 (by first | exact q305 | exact of_decide_eq_true (by first | (with_reducible assumption) | assumption) | (have e_ := (Kd.N_reads' HO_5.out).1; omega))
                        obtain ⟨ua305_0, uc305_0, rfl, ul305_0, ge305_0⟩ := Kd.FK_slice_open hMe305
                        have hv305_0 := hcc305 0 _ rfl
                        rw [Nat.add_zero, show ((Kd.slice 3 (Kd.int .i64))).sz = 1 from rfl, Nat.mul_one] at hv305_0
                        replace hv305_0 := Option.some.inj (hv305_0.symm.trans hx305_0)
                        injection hv305_0 with hva_ hvn_ hvc_
                        rw [hva_] at ge305_0
                        rw [hvc_] at ul305_0
                        have HL305_0 := Aside0.mk (show Kd.V (Kd.int .i64) 3 _ w.heap.size _ _ (rd_L5 t301 x7_1) from Kd.V_mk ul305_0 ge305_0)
                        clear hva_ hvn_ hvc_ ge305_0 ul305_0
                        clear hcc305 hce305
                        have HR305_0 := Aside0.mk hi305_0
                        have HC305_0 := Aside0.mk hl305_0
                        clear hi305_0 hl305_0
                        replace p305 := eq_true p305
                        replace q305 := eq_true q305
                        go_wp2_with (first | (go_at_call 97; (with_reducible refine (potbankref06_subset.calls k2 _ _ (rd_L5 t301 x9_2) _ _ (rd_L5 t301 x7_1) t306 _ ?side1 ?side2 ?side3 ?side4 A16.out).mono ?_); (case side1 => repeat (first | exact (by repeat (first | (with_reducible exact HR304_0.out) | (with_reducible refine Kd.C_alloc ?_ _) | (with_reducible refine Kd.C_drewN ?_ _) | (with_reducible refine Kd.C_drew ?_) | exact HR304_0.out)) | (with_reducible refine Kd.C_alloc ?_ _) | (with_reducible refine Kd.C_drewN ?_ _) | (with_reducible refine Kd.C_drew ?_))); (case side2 => exact HC304_0.out); (case side3 => repeat (first | exact (by repeat (first | (with_reducible exact HR305_0.out) | (with_reducible refine Kd.C_alloc ?_ _) | (with_reducible refine Kd.C_drewN ?_ _) | (with_reducible refine Kd.C_drew ?_) | exact HR305_0.out)) | (with_reducible refine Kd.C_alloc ?_ _) | (with_reducible refine Kd.C_drewN ?_ _) | (with_reducible refine Kd.C_drew ?_))); (case side4 => exact HC305_0.out); rintro e w' ⟨rfl, ⟨nd, rfl⟩⟩; (try first | exact ⟨rfl, _, World.drewN_drewN _ _ _⟩ | exact ⟨rfl, _, Eq.trans (World.drewN_drewN _ _ _) (congrArg (World.drewN _) (Nat.add_assoc _ _ _))⟩)))
                        repeat (go_quiet (first | (go_at_call 97; (with_reducible refine (potbankref06_subset.calls k2 _ _ (rd_L5 t301 x9_2) _ _ (rd_L5 t301 x7_1) t306 _ ?side1 ?side2 ?side3 ?side4 A16.out).mono ?_); (case side1 => repeat (first | exact (by repeat (first | (with_reducible exact HR304_0.out) | (with_reducible refine Kd.C_alloc ?_ _) | (with_reducible refine Kd.C_drewN ?_ _) | (with_reducible refine Kd.C_drew ?_) | exact HR304_0.out)) | (with_reducible refine Kd.C_alloc ?_ _) | (with_reducible refine Kd.C_drewN ?_ _) | (with_reducible refine Kd.C_drew ?_))); (case side2 => exact HC304_0.out); (case side3 => repeat (first | exact (by repeat (first | (with_reducible exact HR305_0.out) | (with_reducible refine Kd.C_alloc ?_ _) | (with_reducible refine Kd.C_drewN ?_ _) | (with_reducible refine Kd.C_drew ?_) | exact HR305_0.out)) | (with_reducible refine Kd.C_alloc ?_ _) | (with_reducible refine Kd.C_drewN ?_ _) | (with_reducible refine Kd.C_drew ?_))); (case side4 => exact HC305_0.out); rintro e w' ⟨rfl, ⟨nd, rfl⟩⟩; (try first | exact ⟨rfl, _, World.drewN_drewN _ _ _⟩ | exact ⟨rfl, _, Eq.trans (World.drewN_drewN _ _ _) (congrArg (World.drewN _) (Nat.add_assoc _ _ _))⟩))); try go_wp2_with (first | (go_at_call 97; (with_reducible refine (potbankref06_subset.calls k2 _ _ (rd_L5 t301 x9_2) _ _ (rd_L5 t301 x7_1) t306 _ ?side1 ?side2 ?side3 ?side4 A16.out).mono ?_); (case side1 => repeat (first | exact (by repeat (first | (with_reducible exact HR304_0.out) | (with_reducible refine Kd.C_alloc ?_ _) | (with_reducible refine Kd.C_drewN ?_ _) | (with_reducible refine Kd.C_drew ?_) | exact HR304_0.out)) | (with_reducible refine Kd.C_alloc ?_ _) | (with_reducible refine Kd.C_drewN ?_ _) | (with_reducible refine Kd.C_drew ?_))); (case side2 => exact HC304_0.out); (case side3 => repeat (first | exact (by repeat (first | (with_reducible exact HR305_0.out) | (with_reducible refine Kd.C_alloc ?_ _) | (with_reducible refine Kd.C_drewN ?_ _) | (with_reducible refine Kd.C_drew ?_) | exact HR305_0.out)) | (with_reducible refine Kd.C_alloc ?_ _) | (with_reducible refine Kd.C_drewN ?_ _) | (with_reducible refine Kd.C_drew ?_))); (case side4 => exact HC305_0.out); rintro e w' ⟨rfl, ⟨nd, rfl⟩⟩; (try first | exact ⟨rfl, _, World.drewN_drewN _ _ _⟩ | exact ⟨rfl, _, Eq.trans (World.drewN_drewN _ _ _) (congrArg (World.drewN _) (Nat.add_assoc _ _ _))⟩))))
                        go_roundg k2
                        case measure => have := HK1.out; have := HK2.out; omega
                        case rel => exact ⟨(!t306), (wrap64 (x9_2 + 1)), (by first | rfl | (simp; done) | (simp [*]; done)), (by first | rfl | (simp; done) | (simp [*]; done)), H', ⟨by have := HK1.out; have := HK2.out; omega⟩, ⟨by (with_reducible repeat (first | apply Kd.N_alloc | apply Kd.N_drewN | apply Kd.N_drew)); exact HO_5.out⟩, ⟨by (with_reducible repeat (first | apply Kd.N_alloc | apply Kd.N_drewN | apply Kd.N_drew)); exact HO_6.out⟩, ⟨by repeat (first | (with_reducible first | exact HB.out | apply below_alloc | apply pw_below_drewN | apply below_drew1) | exact HB.out)⟩⟩
                      · rw [if_neg c15] at H
                        exact absurd H (by simp)
                    · rw [if_neg c14] at H
                      exact absurd H (by simp)
                  · rw [if_neg c13] at H
                    exact absurd H (by simp)
              · replace c11 := Bool.eq_false_iff.mpr c11
                subst c11
                have H1 : (potbankref06_crowds.l1 k2 t301 x6_1 x7_1 false (wrap64 (x9_2 + 1))) = some r := by rw [if_neg (show ¬ (false = true) by decide)] at H; exact H
                clear H
                have H := H1
                clear H1
                have H' := Aside0.mk H
                clear H
                go_wp2
                repeat (go_quiet (fail); try go_wp2)
                go_roundg k2
                case measure => have := HK1.out; have := HK2.out; omega
                case rel => exact ⟨(false), (wrap64 (x9_2 + 1)), (by first | rfl | (simp; done) | (simp [*]; done)), (by first | rfl | (simp; done) | (simp [*]; done)), H', ⟨by have := HK1.out; have := HK2.out; omega⟩, ⟨by (with_reducible repeat (first | apply Kd.N_alloc | apply Kd.N_drewN | apply Kd.N_drew)); exact HO_5.out⟩, ⟨by (with_reducible repeat (first | apply Kd.N_alloc | apply Kd.N_drewN | apply Kd.N_drew)); exact HO_6.out⟩, ⟨by repeat (first | (with_reducible first | exact HB.out | apply below_alloc | apply pw_below_drewN | apply below_drew1) | exact HB.out)⟩⟩
            · rw [if_neg c10] at H
              have c10b0 : decide (x9_2 < (t301.length : Int)) = false := decide_eq_false c10
              clear c10
              by_cases c17 : x8_2 = true
              · subst c17
                have H1 : (if 0 ≤ x7_1 then (if x7_1 < (t301.length : Int) then ((potbankref06_put.f k2 x6_1 (rd_L5 t301 x7_1)).bind fun t308 => (potbankref06_crowds.l0 k2 t301 t308 (wrap64 (x7_1 + 1)))) else (none)) else (none)) = some r := by rw [if_pos rfl] at H; exact H
                clear H
                have H := H1
                clear H1
                by_cases c18 : 0 ≤ x7_1
                · rw [if_pos c18] at H
                  have c18b0 : decide (0 ≤ x7_1) = true := decide_eq_true c18
                  clear c18
                  by_cases c19 : x7_1 < (t301.length : Int)
                  · rw [if_pos c19] at H
                    have c19b0 : decide (x7_1 < (t301.length : Int)) = true := decide_eq_true c19
                    clear c19
                    replace H := Option.bind_eq_some_iff.mp H
                    obtain ⟨t308, A200, H⟩ := H
                    replace H : (potbankref06_crowds.l0 k2 t301 t308 (wrap64 (x7_1 + 1))) = some r := H
                    have A20 := Aside0.mk A200
                    clear A200
                    have H' := Aside0.mk H
                    clear H
                    have p307 : 0 ≤ (x7_1 : Int) := of_decide_eq_true (by first | (with_reducible assumption) | assumption)
                    have q307 : x7_1 < (t301.length : Int) := of_decide_eq_true (by first | (with_reducible assumption) | assumption)
                    obtain ⟨ad307, A307_0, c307_0, e307, hx307_0, hl307_0, hi307_0⟩ := at_L5 (Kd.N_reads' HO_5.out).2.2 x7_1 p307 q307
                    cases e307
                    obtain ⟨ce307, hce307, hMe307, hcc307⟩ := Kd.N_get HO_5.out [] x7_1 p307 (by first | exact q307 | exact of_decide_eq_true (by first | (with_reducible assumption) | assumption) | (have e_ := (Kd.N_reads' HO_5.out).1; omega))
                    obtain ⟨ua307_0, uc307_0, rfl, ul307_0, ge307_0⟩ := Kd.FK_slice_open hMe307
                    have hv307_0 := hcc307 0 _ rfl
                    rw [Nat.add_zero, show ((Kd.slice 3 (Kd.int .i64))).sz = 1 from rfl, Nat.mul_one] at hv307_0
                    replace hv307_0 := Option.some.inj (hv307_0.symm.trans hx307_0)
                    injection hv307_0 with hva_ hvn_ hvc_
                    rw [hva_] at ge307_0
                    rw [hvc_] at ul307_0
                    have HL307_0 := Aside0.mk (show Kd.V (Kd.int .i64) 3 _ w.heap.size _ _ (rd_L5 t301 x7_1) from Kd.V_mk ul307_0 ge307_0)
                    clear hva_ hvn_ hvc_ ge307_0 ul307_0
                    clear hcc307 hce307
                    have HR307_0 := Aside0.mk hi307_0
                    have HC307_0 := Aside0.mk hl307_0
                    clear hi307_0 hl307_0
                    replace p307 := eq_true p307
                    replace q307 := eq_true q307
                    obtain ⟨Ao21, co21, eo21⟩ := Kd.N_slice HO_6.out
                    subst eo21
                    go_wp2_with (first | (go_at_call 98; (with_reducible refine (potbankref06_put.calls k2 (fun k_ => ((w.heap.size ≤ k_) ∧ some k_ ≠ (.slice (some ad307) t301.length co9 : Value).ownBlock)) _ _ x6_1 (fun k_ => (((w.heap.size ≤ k_) ∧ some k_ ≠ (.slice Ao21 x6_1.length co21 : Value).ownBlock) ∧ some k_ ≠ (.slice (some ad307) t301.length co9 : Value).ownBlock)) _ _ (rd_L5 t301 x7_1) t308 _ ?side1 ?side2 A20.out).mono ?_); (case side1 => exact Kd.N_V (HO_6.out)); (case side2 => exact HL307_0.out); rintro e w22 ⟨v309, rfl, ho0, hb⟩; have n0_ := Aside0.mk (Kd.N_elder' (by (with_reducible repeat (first | apply Kd.N_alloc | apply Kd.N_drewN | apply Kd.N_drew)); exact HO_5.out) (Kd.N_base ho0) hb); have n1_ := Aside0.mk (Kd.N_elder' (by (with_reducible repeat (first | apply Kd.N_alloc | apply Kd.N_drewN | apply Kd.N_drew)); exact HO_6.out) (Kd.N_base ho0) hb); have n2_ := Aside0.mk (Kd.V_elder' (by (with_reducible repeat (first | apply Kd.V_alloc | apply Kd.V_drewN | apply Kd.V_drew)); exact HL307_0.out) (Kd.N_base ho0) hb); have n3_ := Aside0.mk (Kd.N_lower (Kd.N_mono (ok' := fun k_ => (w.heap.size ≤ k_) ∧ some k_ ≠ (.slice (some ad307) t301.length co9 : Value).ownBlock) ho0 (fun k_ hk_ => ⟨Or.elim hk_ (fun hs_ => Or.elim hs_ (fun hs_ => hs_.1) (fun hs_ => hs_.1.1)) (fun hn_ => (Nat.le_trans (below_size (by repeat (first | (with_reducible first | exact HB.out | apply below_alloc | apply pw_below_drewN | apply below_drew1) | exact HB.out))) hn_)), Or.elim hk_ (fun hs_ => Or.elim hs_ (fun hs_ => hs_.2) (fun hs_ => hs_.2)) (fun hn_ => (Kd.fresh' (Kd.N_lt (by (with_reducible repeat (first | apply Kd.N_alloc | apply Kd.N_drewN | apply Kd.N_drew)); exact HO_5.out)) k_ hn_))⟩)) (below_size (by repeat (first | (with_reducible first | exact HB.out | apply below_alloc | apply pw_below_drewN | apply below_drew1) | exact HB.out)))); have n4_ := Aside0.mk (Kd.C_below (by repeat (first | (with_reducible exact HR307_0.out) | (with_reducible refine Kd.C_alloc ?_ _) | (with_reducible refine Kd.C_drewN ?_ _) | (with_reducible refine Kd.C_drew ?_) | exact HR307_0.out)) hb); have n5_ := Aside0.mk (below_step (by repeat (first | (with_reducible first | exact HB.out | apply below_alloc | apply pw_below_drewN | apply below_drew1) | exact HB.out)) hb); clear HO_5; clear HO_6; clear HL307_0; clear HR307_0; clear HB; have HO_5 := n0_; have HO_6 := n1_; have HL307_0 := n2_; have HO310 := n3_; have HR307_0 := n4_; have HB := n5_; clear n0_ n1_ n2_ n3_ n4_ n5_; (try clear hb); (try clear hb2); (try clear hk); (try clear hi); (try clear ho0)))
                    repeat (go_quiet (first | (go_at_call 98; (with_reducible refine (potbankref06_put.calls k2 (fun k_ => ((w.heap.size ≤ k_) ∧ some k_ ≠ (.slice (some ad307) t301.length co9 : Value).ownBlock)) _ _ x6_1 (fun k_ => (((w.heap.size ≤ k_) ∧ some k_ ≠ (.slice Ao21 x6_1.length co21 : Value).ownBlock) ∧ some k_ ≠ (.slice (some ad307) t301.length co9 : Value).ownBlock)) _ _ (rd_L5 t301 x7_1) t308 _ ?side1 ?side2 A20.out).mono ?_); (case side1 => exact Kd.N_V (HO_6.out)); (case side2 => exact HL307_0.out); rintro e w22 ⟨v309, rfl, ho0, hb⟩; have n0_ := Aside0.mk (Kd.N_elder' (by (with_reducible repeat (first | apply Kd.N_alloc | apply Kd.N_drewN | apply Kd.N_drew)); exact HO_5.out) (Kd.N_base ho0) hb); have n1_ := Aside0.mk (Kd.N_elder' (by (with_reducible repeat (first | apply Kd.N_alloc | apply Kd.N_drewN | apply Kd.N_drew)); exact HO_6.out) (Kd.N_base ho0) hb); have n2_ := Aside0.mk (Kd.V_elder' (by (with_reducible repeat (first | apply Kd.V_alloc | apply Kd.V_drewN | apply Kd.V_drew)); exact HL307_0.out) (Kd.N_base ho0) hb); have n3_ := Aside0.mk (Kd.N_lower (Kd.N_mono (ok' := fun k_ => (w.heap.size ≤ k_) ∧ some k_ ≠ (.slice (some ad307) t301.length co9 : Value).ownBlock) ho0 (fun k_ hk_ => ⟨Or.elim hk_ (fun hs_ => Or.elim hs_ (fun hs_ => hs_.1) (fun hs_ => hs_.1.1)) (fun hn_ => (Nat.le_trans (below_size (by repeat (first | (with_reducible first | exact HB.out | apply below_alloc | apply pw_below_drewN | apply below_drew1) | exact HB.out))) hn_)), Or.elim hk_ (fun hs_ => Or.elim hs_ (fun hs_ => hs_.2) (fun hs_ => hs_.2)) (fun hn_ => (Kd.fresh' (Kd.N_lt (by (with_reducible repeat (first | apply Kd.N_alloc | apply Kd.N_drewN | apply Kd.N_drew)); exact HO_5.out)) k_ hn_))⟩)) (below_size (by repeat (first | (with_reducible first | exact HB.out | apply below_alloc | apply pw_below_drewN | apply below_drew1) | exact HB.out)))); have n4_ := Aside0.mk (Kd.C_below (by repeat (first | (with_reducible exact HR307_0.out) | (with_reducible refine Kd.C_alloc ?_ _) | (with_reducible refine Kd.C_drewN ?_ _) | (with_reducible refine Kd.C_drew ?_) | exact HR307_0.out)) hb); have n5_ := Aside0.mk (below_step (by repeat (first | (with_reducible first | exact HB.out | apply below_alloc | apply pw_below_drewN | apply below_drew1) | exact HB.out)) hb); clear HO_5; clear HO_6; clear HL307_0; clear HR307_0; clear HB; have HO_5 := n0_; have HO_6 := n1_; have HL307_0 := n2_; have HO310 := n3_; have HR307_0 := n4_; have HB := n5_; clear n0_ n1_ n2_ n3_ n4_ n5_; (try clear hb); (try clear hb2); (try clear hk); (try clear hi); (try clear ho0))); try go_wp2_with (first | (go_at_call 98; (with_reducible refine (potbankref06_put.calls k2 (fun k_ => ((w.heap.size ≤ k_) ∧ some k_ ≠ (.slice (some ad307) t301.length co9 : Value).ownBlock)) _ _ x6_1 (fun k_ => (((w.heap.size ≤ k_) ∧ some k_ ≠ (.slice Ao21 x6_1.length co21 : Value).ownBlock) ∧ some k_ ≠ (.slice (some ad307) t301.length co9 : Value).ownBlock)) _ _ (rd_L5 t301 x7_1) t308 _ ?side1 ?side2 A20.out).mono ?_); (case side1 => exact Kd.N_V (HO_6.out)); (case side2 => exact HL307_0.out); rintro e w22 ⟨v309, rfl, ho0, hb⟩; have n0_ := Aside0.mk (Kd.N_elder' (by (with_reducible repeat (first | apply Kd.N_alloc | apply Kd.N_drewN | apply Kd.N_drew)); exact HO_5.out) (Kd.N_base ho0) hb); have n1_ := Aside0.mk (Kd.N_elder' (by (with_reducible repeat (first | apply Kd.N_alloc | apply Kd.N_drewN | apply Kd.N_drew)); exact HO_6.out) (Kd.N_base ho0) hb); have n2_ := Aside0.mk (Kd.V_elder' (by (with_reducible repeat (first | apply Kd.V_alloc | apply Kd.V_drewN | apply Kd.V_drew)); exact HL307_0.out) (Kd.N_base ho0) hb); have n3_ := Aside0.mk (Kd.N_lower (Kd.N_mono (ok' := fun k_ => (w.heap.size ≤ k_) ∧ some k_ ≠ (.slice (some ad307) t301.length co9 : Value).ownBlock) ho0 (fun k_ hk_ => ⟨Or.elim hk_ (fun hs_ => Or.elim hs_ (fun hs_ => hs_.1) (fun hs_ => hs_.1.1)) (fun hn_ => (Nat.le_trans (below_size (by repeat (first | (with_reducible first | exact HB.out | apply below_alloc | apply pw_below_drewN | apply below_drew1) | exact HB.out))) hn_)), Or.elim hk_ (fun hs_ => Or.elim hs_ (fun hs_ => hs_.2) (fun hs_ => hs_.2)) (fun hn_ => (Kd.fresh' (Kd.N_lt (by (with_reducible repeat (first | apply Kd.N_alloc | apply Kd.N_drewN | apply Kd.N_drew)); exact HO_5.out)) k_ hn_))⟩)) (below_size (by repeat (first | (with_reducible first | exact HB.out | apply below_alloc | apply pw_below_drewN | apply below_drew1) | exact HB.out)))); have n4_ := Aside0.mk (Kd.C_below (by repeat (first | (with_reducible exact HR307_0.out) | (with_reducible refine Kd.C_alloc ?_ _) | (with_reducible refine Kd.C_drewN ?_ _) | (with_reducible refine Kd.C_drew ?_) | exact HR307_0.out)) hb); have n5_ := Aside0.mk (below_step (by repeat (first | (with_reducible first | exact HB.out | apply below_alloc | apply pw_below_drewN | apply below_drew1) | exact HB.out)) hb); clear HO_5; clear HO_6; clear HL307_0; clear HR307_0; clear HB; have HO_5 := n0_; have HO_6 := n1_; have HL307_0 := n2_; have HO310 := n3_; have HR307_0 := n4_; have HB := n5_; clear n0_ n1_ n2_ n3_ n4_ n5_; (try clear hb); (try clear hb2); (try clear hk); (try clear hi); (try clear ho0))))
                    go_roundg k2
                    case measure => have := HK1.out; have := HK2.out; omega
                    case rel => exact ⟨(t308), (wrap64 (x7_1 + 1)), (by first | rfl | (simp; done) | (simp [*]; done)), H', ⟨by have := HK1.out; have := HK2.out; omega⟩, ⟨by (with_reducible repeat (first | apply Kd.N_alloc | apply Kd.N_drewN | apply Kd.N_drew)); exact Kd.N_mono HO_5.out (fun _ hk => ⟨hk.1.1, hk.2⟩)⟩, ⟨by (with_reducible repeat (first | apply Kd.N_alloc | apply Kd.N_drewN | apply Kd.N_drew)); exact HO310.out⟩, ⟨by repeat (first | (with_reducible first | exact HB.out | apply below_alloc | apply pw_below_drewN | apply below_drew1) | exact HB.out)⟩⟩
                  · rw [if_neg c19] at H
                    exact absurd H (by simp)
                · rw [if_neg c18] at H
                  exact absurd H (by simp)
              · replace c17 := Bool.eq_false_iff.mpr c17
                subst c17
                have H1 : (potbankref06_crowds.l0 k2 t301 x6_1 (wrap64 (x7_1 + 1))) = some r := by rw [if_neg (show ¬ (false = true) by decide)] at H; exact H
                clear H
                have H := H1
                clear H1
                have H' := Aside0.mk H
                clear H
                go_wp2
                repeat (go_quiet (fail); try go_wp2)
                go_roundg k2
                case measure => have := HK1.out; have := HK2.out; omega
                case rel => exact ⟨(x6_1), (wrap64 (x7_1 + 1)), (by first | rfl | (simp; done) | (simp [*]; done)), H', ⟨by have := HK1.out; have := HK2.out; omega⟩, ⟨by (with_reducible repeat (first | apply Kd.N_alloc | apply Kd.N_drewN | apply Kd.N_drew)); exact HO_5.out⟩, ⟨by (with_reducible repeat (first | apply Kd.N_alloc | apply Kd.N_drewN | apply Kd.N_drew)); exact HO_6.out⟩, ⟨by repeat (first | (with_reducible first | exact HB.out | apply below_alloc | apply pw_below_drewN | apply below_drew1) | exact HB.out)⟩⟩
      · rw [if_neg c8] at H
        have c8b0 : decide (x7_1 < (t301.length : Int)) = false := decide_eq_false c8
        clear c8
        obtain rfl := Option.some.inj H
        obtain ⟨Ao23, co23, eo23⟩ := Kd.N_slice HO_5.out
        subst eo23
        go_wp2
        repeat (go_quiet (fail); try go_wp2)
        go_ret
        exact ⟨_, by first | rfl | (simp [errW_none, errW_some] <;> rfl) | (simp [*, errW_none, errW_some] <;> rfl), by (with_reducible repeat (first | apply Kd.N_alloc | apply Kd.N_drewN | apply Kd.N_drew)); exact Kd.N_mono HO_6.out (fun _ hk => hk.1), by repeat (first | (with_reducible first | exact HB.out | apply below_alloc | apply pw_below_drewN | apply below_drew1) | exact HB.out)⟩
end Go.Proofs.YthonlcnmjlldiaaGreat.P
namespace Go.Proofs.YthonlcnmjlldiaaGreat.P
open Go.RowKit Go.Proofs.YthonlcnmjlldiaaGreatW.PrintWords Go.Proofs.YthonlcnmjlldiaaGreatW.PrintLast Go.Proofs.YthonlcnmjlldiaaGreatW.PrintMore
attribute [local go_sem] max2_int min2_int max_two min_two max_three min_three max_four min_four
set_option linter.unusedVariables false
set_option linter.unusedSimpArgs false
def potbankref06_Crowds.f (k : Nat) (l0 : List (S70)) (l1 : List (S72)) : Option ((List (List Int)) × Int) := (potbankref06_checked.f k l0 l1 ([] : List Int)).bind fun t361 => (if t361 = 0 then ((potbankref06_crowds.f k l0 l1).bind fun t362 => (some (t362, 0))) else (some (([] : List (List Int)), t361)))
set_option maxHeartbeats 8000000 in
set_option maxRecDepth 100000 in
theorem potbankref06_Crowds.calls (k : Nat) (A0 : Option Addr) (c0 : Nat) (l0 : List (S70)) (A1 : Option Addr) (c1 : Nat) (l1 : List (S72)) (r1 : List (List Int)) (r2 : Int) (w : World) (hr0 : Kd.C k70 w A0 l0.length l0) (hc0 : l0.length ≤ c0) (hr1 : Kd.C k72 w A1 l1.length l1) (hc1 : l1.length ≤ c1) (h : potbankref06_Crowds.f k l0 l1 = some (r1, r2)) :
    Calls Tryz.prog 16 #[.slice A0 l0.length c0, .slice A1 l1.length c1] w fun e w' => ∃ v0_ : Value, e = .returned (.tuple #[v0_, .int .i64 r2]) ∧ Kd.N (Kd.slice 3 (Kd.int .i64)) 41 w' w.heap.size (fun k_ => (w.heap.size ≤ k_)) v0_ r1 ∧ Below w.heap.size w w' := by
  have HR0 := Aside0.mk hr0
  have HC0 := Aside0.mk hc0
  clear hr0 hc0
  have HR1 := Aside0.mk hr1
  have HC1 := Aside0.mk hc1
  clear hr1 hc1
  have HB := Aside0.mk (Below.refl w.heap.size w)
  have H : ((potbankref06_checked.f k l0 l1 ([] : List Int)).bind fun t361 => (if t361 = 0 then ((potbankref06_crowds.f k l0 l1).bind fun t362 => (some (t362, 0))) else (some (([] : List (List Int)), t361)))) = some (r1, r2) := h
  clear h
  replace H := Option.bind_eq_some_iff.mp H
  obtain ⟨t361, A30, H⟩ := H
  replace H : (if t361 = 0 then ((potbankref06_crowds.f k l0 l1).bind fun t362 => (some (t362, 0))) else (some (([] : List (List Int)), t361))) = some (r1, r2) := H
  have A3 := Aside0.mk A30
  clear A30
  by_cases c4 : t361 = 0
  · rw [if_pos c4] at H
    have c4b0 : (t361 == 0) = true := beq_iff_eq.mpr c4
    have c4b1 : (t361 != 0) = false := bne_eq_false_iff_eq.mpr c4
    clear c4
    replace H := Option.bind_eq_some_iff.mp H
    obtain ⟨t362, A50, H⟩ := H
    replace H : (some (t362, 0)) = some (r1, r2) := H
    have A5 := Aside0.mk A50
    clear A50
    simp only [Option.some.injEq, Prod.mk.injEq] at H
    obtain ⟨rfl, rfl⟩ := H
    go_enter Tryz.func16, Tryz.ntmps16
    go_wp2_with (first | ((with_reducible refine gate_callee (f := 47) rfl ?_); refine goesL_ (some 9) rfl rfl Tryz.func47 (by kernel_rfl) rfl #[.slice A0 l0.length c0, .slice A1 l1.length c1, .slice none 0 0] rfl (by (try simp only [List.map_toArray, List.map_cons, List.map_nil]); first | done | rfl | (simp only [List.length_drop, List.length_take]; rfl)) ?_; (refine (potbankref06_checked.calls k _ _ l0 _ _ l1 _ _ ([] : List Int) t361 _ ?side1 ?side2 ?side3 ?side4 ?side5 ?side6 A3.out).mono ?_); (case side1 => repeat (first | exact HR0.out | (with_reducible refine Kd.C_alloc ?_ _) | (with_reducible refine Kd.C_drewN ?_ _) | (with_reducible refine Kd.C_drew ?_))); (case side2 => exact HC0.out); (case side3 => repeat (first | exact HR1.out | (with_reducible refine Kd.C_alloc ?_ _) | (with_reducible refine Kd.C_drewN ?_ _) | (with_reducible refine Kd.C_drew ?_))); (case side4 => exact HC1.out); (case side5 => exact Kd.C_nil _ _); (case side6 => exact Nat.le_refl _); rintro e w6 ⟨rfl, hb⟩; refine ⟨_, rfl, ?_⟩; have n0_ := Aside0.mk (below_step (by repeat (first | (with_reducible first | exact HB.out | apply below_alloc | apply pw_below_drewN | apply below_drew1) | exact HB.out)) hb); clear HB; have HB := n0_; clear n0_; (try clear hb); (try clear hb2); (try clear hk); (try clear hi)) | ((with_reducible refine gate_callee (f := 50) rfl ?_); refine goesL_ (some 15) rfl rfl Tryz.func50 (by kernel_rfl) rfl #[.slice A0 l0.length c0, .slice A1 l1.length c1] rfl (by (try simp only [List.map_toArray, List.map_cons, List.map_nil]); first | done | rfl | (simp only [List.length_drop, List.length_take]; rfl)) ?_; (with_reducible refine (potbankref06_crowds.calls k _ _ l0 _ _ l1 t362 _ ?side1 ?side2 ?side3 ?side4 A5.out).mono ?_); (case side1 => repeat (first | exact (Kd.C_below HR0.out HB.out) | (with_reducible refine Kd.C_alloc ?_ _) | (with_reducible refine Kd.C_drewN ?_ _) | (with_reducible refine Kd.C_drew ?_))); (case side2 => exact HC0.out); (case side3 => repeat (first | exact (Kd.C_below HR1.out HB.out) | (with_reducible refine Kd.C_alloc ?_ _) | (with_reducible refine Kd.C_drewN ?_ _) | (with_reducible refine Kd.C_drew ?_))); (case side4 => exact HC1.out); rintro e w7 ⟨v363, rfl, ho0, hb⟩; refine ⟨_, rfl, ?_⟩; have n0_ := Aside0.mk (Kd.N_lower (Kd.N_mono (ok' := fun k_ => (w.heap.size ≤ k_)) ho0 (fun k_ hk_ => (Nat.le_trans (below_size (by repeat (first | (with_reducible first | exact HB.out | apply below_alloc | apply pw_below_drewN | apply below_drew1) | exact HB.out))) hk_))) (below_size (by repeat (first | (with_reducible first | exact HB.out | apply below_alloc | apply pw_below_drewN | apply below_drew1) | exact HB.out)))); have n1_ := Aside0.mk (below_step (by repeat (first | (with_reducible first | exact HB.out | apply below_alloc | apply pw_below_drewN | apply below_drew1) | exact HB.out)) hb); clear HB; have HO364 := n0_; have HB := n1_; clear n0_ n1_; (try clear hb); (try clear hb2); (try clear hk); (try clear hi); (try clear ho0)))
    go_ret2
    exact ⟨_, by first | rfl | (simp [errW_none, errW_some] <;> rfl) | (simp [*, errW_none, errW_some] <;> rfl), by (with_reducible repeat (first | apply Kd.N_alloc | apply Kd.N_drewN | apply Kd.N_drew)); exact HO364.out, by repeat (first | (with_reducible first | exact HB.out | apply below_alloc | apply pw_below_drewN | apply below_drew1) | exact HB.out)⟩
  · rw [if_neg c4] at H
    have c4b0 : (t361 == 0) = false := beq_eq_false_iff_ne.mpr c4
    have c4b1 : (t361 != 0) = true := bne_iff_ne.mpr c4
    simp only [Option.some.injEq, Prod.mk.injEq] at H
    obtain ⟨rfl, rfl⟩ := H
    go_enter Tryz.func16, Tryz.ntmps16
    go_wp2_with (first | ((with_reducible refine gate_callee (f := 47) rfl ?_); refine goesL_ (some 9) rfl rfl Tryz.func47 (by kernel_rfl) rfl #[.slice A0 l0.length c0, .slice A1 l1.length c1, .slice none 0 0] rfl (by (try simp only [List.map_toArray, List.map_cons, List.map_nil]); first | done | rfl | (simp only [List.length_drop, List.length_take]; rfl)) ?_; (refine (potbankref06_checked.calls k _ _ l0 _ _ l1 _ _ ([] : List Int) t361 _ ?side1 ?side2 ?side3 ?side4 ?side5 ?side6 A3.out).mono ?_); (case side1 => repeat (first | exact HR0.out | (with_reducible refine Kd.C_alloc ?_ _) | (with_reducible refine Kd.C_drewN ?_ _) | (with_reducible refine Kd.C_drew ?_))); (case side2 => exact HC0.out); (case side3 => repeat (first | exact HR1.out | (with_reducible refine Kd.C_alloc ?_ _) | (with_reducible refine Kd.C_drewN ?_ _) | (with_reducible refine Kd.C_drew ?_))); (case side4 => exact HC1.out); (case side5 => exact Kd.C_nil _ _); (case side6 => exact Nat.le_refl _); rintro e w8 ⟨rfl, hb⟩; refine ⟨_, rfl, ?_⟩; have n0_ := Aside0.mk (below_step (by repeat (first | (with_reducible first | exact HB.out | apply below_alloc | apply pw_below_drewN | apply below_drew1) | exact HB.out)) hb); clear HB; have HB := n0_; clear n0_; (try clear hb); (try clear hb2); (try clear hk); (try clear hi)))
    go_ret2
    exact ⟨_, by first | rfl | (simp [errW_none, errW_some] <;> rfl) | (simp [*, errW_none, errW_some] <;> rfl), by first | exact Kd.S_nil _ _ _ _ _ | exact Kd.N_nil _ _ _ _ _ | exact Kd.V_nil _ _ _ _ _ | exact Kd.Q_nil _ _ _ _ _ | exact Kd.R_nil _ _ _ _ _, by repeat (first | (with_reducible first | exact HB.out | apply below_alloc | apply pw_below_drewN | apply below_drew1) | exact HB.out)⟩
end Go.Proofs.YthonlcnmjlldiaaGreat.P
namespace Go.Proofs.YthonlcnmjlldiaaGreat.P
open Go.RowKit Go.Proofs.YthonlcnmjlldiaaGreatW.PrintWords Go.Proofs.YthonlcnmjlldiaaGreatW.PrintLast Go.Proofs.YthonlcnmjlldiaaGreatW.PrintMore
set_option linter.unusedVariables false
set_option linter.unusedSimpArgs false
theorem Has_loop {s : List Int} (hs : s.length ≤ 1000) (x : Int) : ∀ (d i : Nat), s.length - i = d → i ≤ s.length → Ev (fun n => potbankref01_Has.l0 n s x (i : Int)) ((s.drop i).contains x) := by
  intro d
  induction d with
  | zero =>
    intro i hd hi
    rw [List.drop_eq_nil_iff.2 (by omega)]
    exact Ev.step (f := fun _ => some false) (fun n => by simp only [potbankref01_Has.l0]; rw [if_neg (by omega)]) (Ev.now _)
  | succ d ih =>
    intro i hd hi
    have hlt : i < s.length := by omega
    refine Ev.step (f := fun n => if s[i] = x then some true else potbankref01_Has.l0 n s x ((i + 1 : Nat) : Int)) (fun n => by
      simp only [potbankref01_Has.l0]
      rw [if_pos (by omega), if_pos (by omega), rd_at hlt, wrap_succ hlt (by omega)]) ?_
    rw [drop_at hlt, List.contains_cons]
    by_cases h : s[i] = x
    · simp only [h, if_true]
      have : (x == x || (List.drop (i + 1) s).contains x) = true := by simp
      rw [this]
      exact Ev.now _
    · simp only [h, if_false]
      have : (x == s[i] || (List.drop (i + 1) s).contains x) = (List.drop (i + 1) s).contains x := by
        have : (x == s[i]) = false := by rw [beq_eq_false_iff_ne]; exact fun e => h e.symm
        rw [this, Bool.false_or]
      rw [this]
      exact ih (i + 1) (by omega) (by omega)
theorem Has_ev {s : List Int} (hs : s.length ≤ 1000) (x : Int) : Ev (fun n => potbankref01_Has.f n s x) (s.contains x) := Has_loop hs x _ 0 rfl (Nat.zero_le _)
def subS (a b : List Int) : Bool := a.all (fun x => b.contains x)
theorem subset_loop {a b : List Int} (ha : a.length ≤ 1000) (hb : b.length ≤ 1000) : ∀ (d i : Nat), a.length - i = d → i ≤ a.length → Ev (fun n => potbankref06_subset.l0 n a b (i : Int)) (subS (a.drop i) b) := by
  intro d
  induction d with
  | zero =>
    intro i hd hi
    rw [List.drop_eq_nil_iff.2 (by omega)]
    exact Ev.step (f := fun _ => some true) (fun n => by simp only [potbankref06_subset.l0]; rw [if_neg (by omega)]) (Ev.now _)
  | succ d ih =>
    intro i hd hi
    have hlt : i < a.length := by omega
    refine Ev.step (f := fun n => (potbankref01_Has.f n b a[i]).bind fun t => if t = true then potbankref06_subset.l0 n a b ((i + 1 : Nat) : Int) else some false) (fun n => by
      simp only [potbankref06_subset.l0]
      rw [if_pos (by omega), if_pos (by omega), rd_at hlt, wrap_succ hlt (by omega)]) ?_
    refine Ev.bind (Has_ev hb _) ?_
    have e : subS (a.drop i) b = (b.contains a[i] && subS (a.drop (i + 1)) b) := by rw [drop_at hlt]; rfl
    rw [e]
    cases b.contains a[i]
    · exact Ev.now _
    · simpa using ih (i + 1) (by omega) (by omega)
theorem subset_ev {a b : List Int} (ha : a.length ≤ 1000) (hb : b.length ≤ 1000) : Ev (fun n => potbankref06_subset.f n a b) (subS a b) := subset_loop ha hb _ 0 rfl (Nat.zero_le _)
theorem bitsL_len9 (m : Int) : (bitsL m).length ≤ 9 := by
  unfold bitsL
  rw [List.length_map]
  exact Nat.le_trans (List.length_filter_le _ _) (by simp)
theorem cmpL_dec (x y : Int) (xs ys : List Int) : decide (cmpL (x :: xs) (y :: ys) < 0) = if x = y then decide (cmpL xs ys < 0) else decide (x < y) := by
  have e : cmpL (x :: xs) (y :: ys) = if x < y then -1 else if y < x then 1 else cmpL xs ys := by rw [cmpL]
  simp only [e]
  by_cases h : x = y
  · subst h; simp
  · by_cases h2 : x < y
    · simp [h, h2]
    · have h3 : y < x := by omega
      simp [h, h2, h3]
theorem testBit_lt9 {a i : Nat} (ha : a < 512) (h : a.testBit i = true) : i < 9 := by
  refine Classical.byContradiction fun h9 => ?_
  have h1 := Nat.ge_two_pow_of_testBit h
  have h2 : 2 ^ 9 ≤ 2 ^ i := Nat.pow_le_pow_right (by omega) (by omega)
  omega
theorem subS_bits {a b : Nat} (ha : a < 512) : subS (bitsL (a : Int)) (bitsL (b : Int)) = subB a b := by
  rw [Bool.eq_iff_iff, subB_bits]
  unfold subS
  rw [List.all_eq_true]
  constructor
  · intro h i hi
    have h9 := testBit_lt9 ha hi
    have h1 := h (i : Int) (mem_bitsL.2 ⟨by omega, by omega, by simpa using hi⟩)
    have h2 := mem_bitsL.1 (List.contains_iff_mem.1 h1)
    simpa using h2.2.2
  · intro h x hx
    obtain ⟨h1, h2, h3⟩ := mem_bitsL.1 hx
    exact List.contains_iff_mem.2 (mem_bitsL.2 ⟨h1, h2, h _ h3⟩)
theorem first_loop {a b : List Int} (ha : a.length ≤ 1000) : ∀ (d i : Nat), a.length - i = d → i ≤ a.length → i ≤ b.length → Ev (fun n => potbankref06_first.l0 n a b (i : Int)) (decide (cmpL (a.drop i) (b.drop i) < 0)) := by
  intro d
  induction d with
  | zero =>
    intro i hd hi hj
    obtain rfl : i = a.length := by omega
    refine Ev.step (f := fun n => potbankref06_first.j1 n a b (a.length : Int) false) (fun n => by simp only [potbankref06_first.l0]; rw [if_neg (by omega)]) ?_
    refine Ev.step (f := fun n => some (decide ((a.length : Int) < (b.length : Int)))) (fun n => by simp only [potbankref06_first.j1]; rw [if_neg (by simp)]) ?_
    have : decide ((a.length : Int) < (b.length : Int)) = decide (cmpL (a.drop a.length) (b.drop a.length) < 0) := by
      rw [List.drop_length]
      by_cases h : a.length < b.length
      · rw [drop_at h]; simp [cmpL]; omega
      · rw [List.drop_eq_nil_iff.2 (by omega)]; simp [cmpL]; omega
    rw [this]
    exact Ev.now _
  | succ d ih =>
    intro i hd hi hj
    have hlt : i < a.length := by omega
    refine Ev.step (f := fun n => potbankref06_first.j1 n a b (i : Int) (decide ((i : Int) < (b.length : Int)))) (fun n => by simp only [potbankref06_first.l0]; rw [if_pos (by omega)]) ?_
    by_cases h : i < b.length
    · refine Ev.step (f := fun n => if a[i] = b[i] then potbankref06_first.l0 n a b ((i + 1 : Nat) : Int) else some (decide (a[i] < b[i]))) (fun n => by
        simp only [potbankref06_first.j1]
        rw [if_pos (by simp; omega), if_pos (by omega), if_pos (by omega), if_pos (by omega), rd_at hlt, rd_at h, wrap_succ hlt (by omega)]) ?_
      rw [drop_at hlt, drop_at h, cmpL_dec]
      by_cases h1 : a[i] = b[i]
      · simp only [h1, if_true]
        exact ih (i + 1) (by omega) (by omega) (by omega)
      · simp only [h1, if_false]
        exact Ev.now _
    · refine Ev.step (f := fun n => some (decide ((a.length : Int) < (b.length : Int)))) (fun n => by
        simp only [potbankref06_first.j1]
        rw [if_neg (by simp; omega)]) ?_
      have : decide ((a.length : Int) < (b.length : Int)) = decide (cmpL (a.drop i) (b.drop i) < 0) := by
        rw [drop_at hlt, List.drop_eq_nil_iff.2 (by omega : b.length ≤ i)]
        simp [cmpL]; omega
      rw [this]
      exact Ev.now _
theorem ahead_ev (a b : Int) : Ev (fun n => potbankref06_ahead.f n (bitsL a) (bitsL b)) (decide (cmpM a b < 0)) := by
  have ha := bitsL_len9 a
  unfold potbankref06_ahead.f
  by_cases h : (bitsL a).length = (bitsL b).length
  · have h2 : ((bitsL a).length : Int) = ((bitsL b).length : Int) := by omega
    simp only [h2, if_true]
    have h3 : cmpM a b = cmpL (bitsL a) (bitsL b) := by unfold cmpM; rw [if_pos h]
    rw [show decide (cmpM a b < 0) = decide (cmpL (bitsL a) (bitsL b) < 0) by simp only [h3]]
    exact Ev.bind (first_loop (a := bitsL a) (b := bitsL b) (by omega) _ 0 rfl (Nat.zero_le _) (Nat.zero_le _)) (Ev.now _)
  · have h2 : ¬ ((bitsL a).length : Int) = ((bitsL b).length : Int) := by omega
    simp only [h2, if_false]
    have h3 : cmpM a b = ((bitsL a).length : Int) - (bitsL b).length := by unfold cmpM; rw [if_neg h]
    have : decide (((bitsL a).length : Int) < ((bitsL b).length : Int)) = decide (cmpM a b < 0) := by
      rw [Bool.eq_iff_iff, decide_eq_true_eq, decide_eq_true_eq, h3]
      omega
    rw [this]
    exact Ev.now _
def blM (xs : List M9) : List (List Int) := xs.map (fun x => bitsL (x.val : Int))
theorem leF_ahead (x y : M9) : leF x y = !(decide (cmpM (y.val : Int) (x.val : Int) < 0)) := rfl
theorem put_loop {xs : List M9} (hl : xs.length ≤ 1000) (x : M9) : ∀ (d i : Nat), xs.length - i = d → i ≤ xs.length → Ev (fun n => potbankref06_put.l0 n (blM xs) (bitsL (x.val : Int)) (i : Int)) (blM (xs.take i ++ insM x (xs.drop i))) := by
  have hbl : (blM xs).length = xs.length := by simp [blM]
  intro d
  induction d with
  | zero =>
    intro i hd hi
    rw [List.drop_eq_nil_iff.2 (by omega), List.take_of_length_le (by omega)]
    refine Ev.step (f := fun n => some (blM (xs ++ [x]))) (fun n => by
      simp only [potbankref06_put.l0]
      rw [if_neg (by omega)]
      simp only [Option.bind_some]
      rw [if_pos (by omega), if_pos (by omega), List.take_of_length_le (by omega), List.drop_eq_nil_iff.2 (by omega), if_pos (by simp; omega), if_pos (by simp; omega), if_pos (by simp; omega)]
      simp [blM]) ?_
    exact Ev.now _
  | succ d ih =>
    intro i hd hi
    have hlt : i < xs.length := by omega
    have hr : rd_L5 (blM xs) (i : Int) = bitsL (xs[i].val : Int) := by
      rw [rdL_at (by omega)]
      simp [blM]
    refine Ev.step (f := fun n => (potbankref06_ahead.f n (bitsL (xs[i].val : Int)) (bitsL (x.val : Int))).bind fun t => if t = true then potbankref06_put.l0 n (blM xs) (bitsL (x.val : Int)) ((i + 1 : Nat) : Int) else some (blM (xs.take i ++ x :: xs.drop i))) (fun n => by
      simp only [potbankref06_put.l0]
      rw [if_pos (by omega), if_pos (by omega), hr, wrap_succ hlt (by omega)]
      refine congrArg _ (funext fun t => ?_)
      cases t
      · simp only [Option.bind_some, Bool.false_eq_true, if_false]
        rw [if_pos (show (i : Int) ≤ ((blM xs).length : Int) by omega), if_pos (by simp; omega), if_pos (by simp; omega), if_pos (by simp; omega)]
        simp [blM]
      · rfl) ?_
    refine Ev.bind (ahead_ev _ _) ?_
    rw [drop_at hlt]
    unfold insM
    rw [leF_ahead]
    cases hc : decide (cmpM (xs[i].val : Int) (x.val : Int) < 0)
    · exact Ev.now _
    · have := ih (i + 1) (by omega) (by omega)
      rw [List.take_succ_eq_append_getElem hlt, List.append_assoc] at this
      exact this
theorem put_ev {xs : List M9} (hl : xs.length ≤ 1000) (x : M9) : Ev (fun n => potbankref06_put.f n (blM xs) (bitsL (x.val : Int))) (blM (insM x xs)) := put_loop hl x _ 0 rfl (Nat.zero_le _)
def blN (ms : List Nat) : List (List Int) := ms.map (fun m : Nat => bitsL (m : Int))
theorem blN_at {ms : List Nat} {i : Nat} (h : i < ms.length) : rd_L5 (blN ms) (i : Int) = bitsL (ms[i] : Int) := by
  rw [rdL_at (by simpa [blN] using h)]
  simp [blN]
theorem insAll_snoc : ∀ (ms : List Nat) (acc : List M9) (m : Nat), insAll acc (ms ++ [m]) = insM (Fin.ofNat 512 m) (insAll acc ms)
  | [], _, _ => rfl
  | x :: ms, acc, m => by
    rw [List.cons_append]
    unfold insAll
    exact insAll_snoc ms _ m
theorem insAll_len (ms : List Nat) : (insAll [] ms).length = ms.length := by
  have := (insAll_perm ms []).length_eq
  simpa using this
def freeTo (ms : List Nat) (s : Nat) (j : Nat) : Bool := (ms.take j).all (fun t => t == s || !(subB t s))
theorem freeTo_succ {ms : List Nat} {s j : Nat} (h : j < ms.length) : freeTo ms s (j + 1) = (freeTo ms s j && (ms[j] == s || !(subB ms[j] s))) := by
  unfold freeTo
  rw [List.take_succ_eq_append_getElem h, List.all_append]
  simp
theorem crowds_inner {ms : List Nat} (hm : ∀ m ∈ ms, m < 512) (hd : ms.Nodup) (hl : ms.length ≤ 512) {i : Nat} (hi : i < ms.length) {acc : List M9} {r : List (List Int)} (hal : acc.length ≤ 512)
    (hn : Ev (fun n => potbankref06_crowds.l0 n (blN ms) (blM (if freeTo ms ms[i] ms.length then insM (Fin.ofNat 512 ms[i]) acc else acc)) ((i + 1 : Nat) : Int)) r) :
    ∀ (d j : Nat), ms.length - j = d → j ≤ ms.length → Ev (fun n => potbankref06_crowds.l1 n (blN ms) (blM acc) (i : Int) (freeTo ms ms[i] j) (j : Int)) r := by
  have hbl : (blN ms).length = ms.length := by simp [blN]
  have hmi := hm _ (List.getElem_mem hi)
  intro d
  induction d with
  | zero =>
    intro j hd hj
    obtain rfl : j = ms.length := by omega
    cases hf : freeTo ms ms[i] ms.length
    · rw [hf] at hn
      refine Ev.step (f := fun n => potbankref06_crowds.l0 n (blN ms) (blM acc) ((i + 1 : Nat) : Int)) (fun n => by
        simp only [potbankref06_crowds.l1]
        rw [if_neg (by omega), if_neg (by simp), wrap_succ hi (by omega)]) ?_
      simpa using hn
    · rw [hf] at hn
      refine Ev.step (f := fun n => (potbankref06_put.f n (blM acc) (bitsL (ms[i] : Int))).bind fun t => potbankref06_crowds.l0 n (blN ms) t ((i + 1 : Nat) : Int)) (fun n => by
        simp only [potbankref06_crowds.l1]
        rw [if_neg (by omega), if_pos trivial, if_pos (by omega), if_pos (by omega), blN_at hi, wrap_succ hi (by omega)]) ?_
      have hp := put_ev (xs := acc) (by omega) (Fin.ofNat 512 ms[i])
      rw [ofNat_val hmi] at hp
      refine Ev.bind hp ?_
      simpa using hn
  | succ d ih =>
    intro j hdj hj
    have hlt : j < ms.length := by omega
    have hnext := ih (j + 1) (by omega) (by omega)
    rw [freeTo_succ hlt] at hnext
    cases hf : freeTo ms ms[i] j
    · rw [hf, Bool.false_and] at hnext
      refine Ev.step (f := fun n => potbankref06_crowds.l1 n (blN ms) (blM acc) (i : Int) false ((j + 1 : Nat) : Int)) (fun n => by
        simp only [potbankref06_crowds.l1]
        rw [if_pos (by omega), if_neg (by simp), wrap_succ hlt (by omega)]) hnext
    · rw [hf, Bool.true_and] at hnext
      by_cases hij : j = i
      · subst hij
        refine Ev.step (f := fun n => potbankref06_crowds.l1 n (blN ms) (blM acc) (j : Int) true ((j + 1 : Nat) : Int)) (fun n => by
          simp only [potbankref06_crowds.l1]
          rw [if_pos (by omega), if_pos trivial]
          simp only [if_true]
          rw [wrap_succ hlt (by omega)]) ?_
        simpa using hnext
      · have hne : (ms[j] == ms[i]) = false := by
          rw [beq_eq_false_iff_ne]
          exact fun e => hij ((List.getElem_inj hd).1 e)
        rw [hne, Bool.false_or] at hnext
        refine Ev.step (f := fun n => (potbankref06_subset.f n (bitsL (ms[j] : Int)) (bitsL (ms[i] : Int))).bind fun t => potbankref06_crowds.l1 n (blN ms) (blM acc) (i : Int) (!t) ((j + 1 : Nat) : Int)) (fun n => by
          simp only [potbankref06_crowds.l1]
          rw [if_pos (by omega), if_pos trivial, if_neg (by omega), if_pos (by omega), if_pos (by omega), if_pos (by omega), blN_at hlt, blN_at hi, wrap_succ hlt (by omega)]) ?_
        have h1 := bitsL_len9 (ms[j] : Int)
        have h2 := bitsL_len9 (ms[i] : Int)
        have hs := subset_ev (a := bitsL (ms[j] : Int)) (b := bitsL (ms[i] : Int)) (by omega) (by omega)
        rw [subS_bits (hm _ (List.getElem_mem hlt))] at hs
        exact Ev.bind hs hnext
theorem crowds_loop {ms : List Nat} (hm : ∀ m ∈ ms, m < 512) (hd : ms.Nodup) (hl : ms.length ≤ 512) : ∀ (d i : Nat), ms.length - i = d → i ≤ ms.length →
    Ev (fun n => potbankref06_crowds.l0 n (blN ms) (blM (insAll [] ((ms.take i).filter (fun s => freeTo ms s ms.length)))) (i : Int)) (blM (insAll [] (ms.filter (fun s => freeTo ms s ms.length)))) := by
  have hbl : (blN ms).length = ms.length := by simp [blN]
  intro d
  induction d with
  | zero =>
    intro i hd hi
    rw [List.take_of_length_le (by omega)]
    exact Ev.step (f := fun _ => some (blM (insAll [] (ms.filter (fun s => freeTo ms s ms.length))))) (fun n => by simp only [potbankref06_crowds.l0]; rw [if_neg (by omega)]) (Ev.now _)
  | succ d ih =>
    intro i hdi hi
    have hlt : i < ms.length := by omega
    have hnext := ih (i + 1) (by omega) (by omega)
    refine Ev.step (f := fun n => potbankref06_crowds.l1 n (blN ms) (blM (insAll [] ((ms.take i).filter (fun s => freeTo ms s ms.length)))) (i : Int) (freeTo ms ms[i] 0) ((0 : Nat) : Int)) (fun n => by
      simp only [potbankref06_crowds.l0]
      rw [if_pos (by omega)]
      rfl) ?_
    have hlen : (insAll [] ((ms.take i).filter (fun s => freeTo ms s ms.length))).length ≤ 512 := by
      rw [insAll_len]
      have h1 := List.length_filter_le (fun s => freeTo ms s ms.length) (ms.take i)
      have h2 : (ms.take i).length ≤ ms.length := by rw [List.length_take]; omega
      omega
    refine crowds_inner hm hd hl hlt hlen ?_ _ 0 rfl (Nat.zero_le _)
    have e : (ms.take (i + 1)).filter (fun s => freeTo ms s ms.length) = (ms.take i).filter (fun s => freeTo ms s ms.length) ++ if freeTo ms ms[i] ms.length then [ms[i]] else [] := by
      rw [List.take_succ_eq_append_getElem hlt, List.filter_append, List.filter_cons]
      rfl
    rw [e] at hnext
    cases hf : freeTo ms ms[i] ms.length
    · simpa [hf] using hnext
    · rw [hf] at hnext
      simp only [if_true] at hnext ⊢
      rw [insAll_snoc] at hnext
      exact hnext
theorem crowds_ev {k : List Seat} {l : List Order} (hF : Fine k l) (h8 : l.length ≤ 8) : Ev (fun n => potbankref06_crowds.f n k l) (crowdsL k l) := by
  have h512 : 2 ^ l.length ≤ 256 := Nat.pow_le_pow_right (n := 2) (by omega) h8
  unfold potbankref06_crowds.f
  refine Ev.bind (indices_ev h8) (Ev.bind (within_ev hF (idx_in h8)) ?_)
  rw [within_all k h8]
  have hm : ∀ m ∈ masksC k l, m < 512 := fun m hm => by have := (masksC_mem.1 hm).1; omega
  have hd : (masksC k l).Nodup := List.nodup_range.sublist List.filter_sublist
  have hl : (masksC k l).length ≤ 512 := by
    have := List.length_filter_le (fun m : Nat => crowdB k l (m : Int)) (List.range (2 ^ l.length))
    rw [List.length_range] at this
    unfold masksC
    omega
  have h := crowds_loop hm hd hl _ 0 rfl (Nat.zero_le _)
  have e : (masksC k l).filter (fun s => freeTo (masksC k l) s (masksC k l).length) = (masksC k l).filter (leastB k l) := by
    refine List.filter_congr (fun m hm => ?_)
    unfold freeTo leastB
    rw [List.take_length, (masksC_mem.1 hm).2, Bool.true_and]
  rw [e, leastF_put k (by omega)] at h
  have e2 : crowdsL k l = blM (leastF k l) := by
    unfold crowdsL blM natsI
    rw [crowdsN_least k (by omega), List.map_map, List.map_map]
    rfl
  rw [e2]
  exact h
theorem Crowds_ev (k : List Seat) (l : List Order) : Ev (fun n => potbankref06_Crowds.f n k l) (if askErr k l = 0 then (crowdsL k l, 0) else ([], askErr k l)) := by
  have hc := checked_ev k l []
  have he : askSetErr k l [] = askErr k l := by
    unfold askSetErr setOk setFrom
    by_cases h : askErr k l = 0
    · simp [h]
    · simp [h]
  rw [he] at hc
  unfold potbankref06_Crowds.f
  refine Ev.bind hc ?_
  by_cases h : askErr k l = 0
  · simp only [h, if_true]
    have hk : seatsOk k = true ∧ ordersOk l = true := by
      unfold askErr at h
      cases h1 : seatsOk k <;> cases h2 : ordersOk l <;> simp_all
    obtain ⟨hF, h8⟩ := fine_of hk.1 hk.2
    exact Ev.bind (crowds_ev hF h8) (Ev.now _)
  · simp only [h, if_false]
    exact Ev.now _
theorem Same_loop {a : List Int} (hl : a.length ≤ 1000) : ∀ (d i : Nat), a.length - i = d → i ≤ a.length → Ev (fun n => potbankref01_Same.l0 n a a (i : Int)) true := by
  intro d
  induction d with
  | zero =>
    intro i hd hi
    exact Ev.step (f := fun _ => some true) (fun n => by simp only [potbankref01_Same.l0]; rw [if_neg (by omega)]) (Ev.now _)
  | succ d ih =>
    intro i hd hi
    have hlt : i < a.length := by omega
    refine Ev.step (f := fun n => potbankref01_Same.l0 n a a ((i + 1 : Nat) : Int)) (fun n => by
      simp only [potbankref01_Same.l0]
      rw [if_pos (by omega), if_pos (by omega), if_pos (by omega)]
      simp only [if_true]
      rw [wrap_succ hlt (by omega)]) (ih (i + 1) (by omega) (by omega))
theorem Same_self {a : List Int} (hl : a.length ≤ 1000) : Ev (fun n => potbankref01_Same.f n a a) true := by
  unfold potbankref01_Same.f
  simp only [if_true]
  exact Same_loop hl _ 0 rfl (Nat.zero_le _)
theorem SameSets_loop {a : List (List Int)} (hl : a.length ≤ 1000) (ha : ∀ x ∈ a, x.length ≤ 1000) : ∀ (d i : Nat), a.length - i = d → i ≤ a.length → Ev (fun n => potbankref06_SameSets.l0 n a a true (i : Int)) true := by
  intro d
  induction d with
  | zero =>
    intro i hd hi
    exact Ev.step (f := fun _ => some true) (fun n => by simp only [potbankref06_SameSets.l0]; rw [if_neg (by omega)]) (Ev.now _)
  | succ d ih =>
    intro i hd hi
    have hlt : i < a.length := by omega
    refine Ev.step (f := fun n => (potbankref01_Same.f n a[i] a[i]).bind fun t => potbankref06_SameSets.l0 n a a t ((i + 1 : Nat) : Int)) (fun n => by
      simp only [potbankref06_SameSets.l0]
      rw [if_pos (by omega), if_pos trivial, if_pos (by omega), if_pos (by omega), rdL_at hlt, wrap_succ hlt (by omega)]) ?_
    exact Ev.bind (Same_self (ha _ (List.getElem_mem hlt))) (ih (i + 1) (by omega) (by omega))
theorem SameSets_self {a : List (List Int)} (hl : a.length ≤ 1000) (ha : ∀ x ∈ a, x.length ≤ 1000) : Ev (fun n => potbankref06_SameSets.f n a a) true := by
  unfold potbankref06_SameSets.f
  have : ((a.length : Int) == (a.length : Int)) = true := by simp
  rw [this]
  exact SameSets_loop hl ha _ 0 rfl (Nat.zero_le _)
theorem crowdsL_ok {k : List Seat} {l : List Order} (h9 : l.length ≤ 9) : (crowdsL k l).length ≤ 1000 ∧ ∀ x ∈ crowdsL k l, x.length ≤ 1000 := by
  constructor
  · have := crowdsN_len (k := k) h9
    simp [crowdsL, natsI]
    omega
  · intro x hx
    obtain ⟨m, _, rfl⟩ := List.mem_map.1 hx
    have := bitsL_len9 m
    omega
end Go.Proofs.YthonlcnmjlldiaaGreat.P
namespace Go.Proofs.YthonlcnmjlldiaaGreat.P
open Go.Shelf Go.RowKit Go.Proofs.YthonlcnmjlldiaaGreatW.PrintWords Go.Proofs.YthonlcnmjlldiaaGreatW.PrintLast Go.Proofs.YthonlcnmjlldiaaGreatW.PrintMore
set_option linter.unusedVariables false
set_option linter.unusedSimpArgs false
theorem KI_block {W : World} {g : Nat} {xs : List Int} {t : TypeId} (h : W.heap[g]? = some (.cells (encs (Value.int .i64) xs).toArray t (0, 0))) (hl : xs.length ≤ 1000) : KI W (some ⟨g, 0, none⟩) xs :=
  own_C (h1 := fun _ => rfl) (base := 0) (e := t) (c := xs.length) rfl ⟨by simp [encs], .inr ⟨g, xs.length, _, rfl, Nat.zero_le _, h, Nat.le_refl _, by simp only [maxLen]; omega, by simp [encs], by simp [encs]; exact List.take_of_length_le (by simp)⟩⟩
theorem KL_three {W : World} {g : Nat} {t : TypeId} {A B C : Option Addr} {ca cb cc : Nat} {xs ys zs : List Int} (h : W.heap[g]? = some (.cells #[.slice A xs.length ca, .slice B ys.length cb, .slice C zs.length cc] t (0, 0))) (hA : KI W A xs) (hB : KI W B ys) (hC : KI W C zs) (h1 : xs.length ≤ ca) (h2 : ys.length ≤ cb) (h3 : zs.length ≤ cc) : KL W (some ⟨g, 0, none⟩) [xs, ys, zs] := by
  refine ⟨rfl, by simp, fun _ => ⟨_, rfl, fun j p hp => ?_⟩⟩
  have e : ∀ q : Nat, (⟨g, 0, none⟩ : Addr).add q = ⟨g, q, none⟩ := by
    intro q
    unfold Addr.add
    simp
    exact fun h => h.symm
  have hcell : ∀ (q : Nat) (u : Value), #[Value.slice A xs.length ca, .slice B ys.length cb, .slice C zs.length cc][q]? = some u → W.cell? ((⟨g, 0, none⟩ : Addr).add (q * 1 + 0)) = some u := by
    intro q u hu
    rw [e, blk_cell h]
    simpa using hu
  rcases j with _ | _ | _ | j
  · simp at hp
    subst hp
    exact ⟨[_], rfl, ⟨A, ca, rfl, h1, hA⟩, fun i u hu => by
      cases i with
      | zero => simp at hu; subst hu; exact hcell 0 _ rfl
      | succ i => simp at hu⟩
  · simp at hp
    subst hp
    exact ⟨[_], rfl, ⟨B, cb, rfl, h2, hB⟩, fun i u hu => by
      cases i with
      | zero => simp at hu; subst hu; exact hcell 1 _ rfl
      | succ i => simp at hu⟩
  · simp at hp
    subst hp
    exact ⟨[_], rfl, ⟨C, cc, rfl, h3, hC⟩, fun i u hu => by
      cases i with
      | zero => simp at hu; subst hu; exact hcell 2 _ rfl
      | succ i => simp at hu⟩
  · simp at hp
def potbanklaw06_sane.f : Option Bool := some true
set_option maxHeartbeats 4000000 in
set_option maxRecDepth 100000 in
theorem potbanklaw06_sane.calls (r : Bool) (w : World) (h : potbanklaw06_sane.f = some r) : Calls Tryz.prog 9 #[] w fun e w' => e = .returned (.bool r) ∧ Below w.heap.size w w' := by
  obtain rfl := Option.some.inj h
  clear h
  have HW := Aside0.mk (Below.refl w.heap.size w)
  go_enter Tryz.func9, Tryz.ntmps9
  go_wp2_with fail
  refine (potbanklaw06_kiln.calls kilnL w rfl).mono ?_
  rintro e W1 ⟨v, rfl, hR, hb⟩
  have hbb : Below w.heap.size w W1 := hb
  have HW' := Aside0.mk (below_refl_trans HW.out hbb)
  clear HW
  have HW := HW'
  clear HW'
  clear hbb
  try clear hd
  obtain ⟨AK, cK, rfl, hcK, hC⟩ := Kd.R_reads hR
  have FK := Aside0.mk hC
  clear hC hR hb
  have hk3 : kilnL.length = 3 := rfl
  rw [hk3]
  clear hk3
  go_wp2_with fail
  refine (potbanklaw06_orders.calls ordersL W1 rfl).mono ?_
  rintro e W2 ⟨v, rfl, hR, hb⟩
  have hbb : Below W1.heap.size W1 W2 := hb
  have FK' := Aside0.mk (Kd.C_below FK.out hbb)
  have HW' := Aside0.mk (below_refl_trans HW.out hbb)
  clear FK
  have FK := FK'
  clear FK'
  clear HW
  have HW := HW'
  clear HW'
  clear hbb
  try clear hd
  obtain ⟨AO, cO, rfl, hcO, hC⟩ := Kd.R_reads hR
  have FO := Aside0.mk hC
  clear hC hR hb
  have hk4 : ordersL.length = 4 := rfl
  rw [hk4]
  clear hk4
  go_wp2_with fail
  refine (plan_Room.calls AK cK kilnL AO cO ordersL (some ⟨W2.heap.size, 0, none⟩) 2 [0, 1] 16 0 (W2.alloc (.cells #[.int .i64 0, .int .i64 1] 3)) (Kd.C_below FK.out (below_alloc (Below.refl W2.heap.size W2) _)) hcK (Kd.C_below FO.out (below_alloc (Below.refl W2.heap.size W2) _)) hcO (KI_block (xs := [0, 1]) (heap_alloc_new W2 _) (by simp)) (by simp) ex_room).mono ?_
  rintro e W3 ⟨rfl, hb⟩
  have hbb : Below W2.heap.size W2 W3 := below_then (below_alloc (Below.refl W2.heap.size W2) _) ((below_alloc (Below.refl W2.heap.size W2) _)).size hb
  have FK' := Aside0.mk (Kd.C_below FK.out hbb)
  have FO' := Aside0.mk (Kd.C_below FO.out hbb)
  have HW' := Aside0.mk (below_refl_trans HW.out hbb)
  clear FK
  have FK := FK'
  clear FK'
  clear FO
  have FO := FO'
  clear FO'
  clear HW
  have HW := HW'
  clear HW'
  clear hbb
  try clear hd
  clear hb
  go_wp2_with fail
  refine (plan_Crowd.calls AK cK kilnL AO cO ordersL (some ⟨W3.heap.size, 0, none⟩) 3 [0, 1, 2] [0, 1] 0 (W3.alloc (.cells #[.int .i64 0, .int .i64 1, .int .i64 2] 3)) (Kd.C_below FK.out (below_alloc (Below.refl W3.heap.size W3) _)) hcK (Kd.C_below FO.out (below_alloc (Below.refl W3.heap.size W3) _)) hcO (KI_block (xs := [0, 1, 2]) (heap_alloc_new W3 _) (by simp)) (by simp) ex_crowd).mono ?_
  rintro e W4 ⟨v, rfl, hR, hb⟩
  have hbb : Below W3.heap.size W3 W4 := below_then (below_alloc (Below.refl W3.heap.size W3) _) ((below_alloc (Below.refl W3.heap.size W3) _)).size hb
  have FK' := Aside0.mk (Kd.C_below FK.out hbb)
  have FO' := Aside0.mk (Kd.C_below FO.out hbb)
  have HW' := Aside0.mk (below_refl_trans HW.out hbb)
  clear FK
  have FK := FK'
  clear FK'
  clear FO
  have FO := FO'
  clear FO'
  clear HW
  have HW := HW'
  clear HW'
  clear hbb
  try clear hd
  obtain ⟨AC, cC, rfl, hcC, hC⟩ := Kd.R_reads hR
  have FC := Aside0.mk hC
  clear hC hR hb
  obtain ⟨ad, eAO, q0, q1, q2, q3, q4⟩ := at_T72 (Kd.C_below FO.out (below_alloc (Below.refl W4.heap.size W4) (.cells #[.int .i64 0] 3))) 2 (by omega) (by decide)
  subst eAO
  have z0 : (W4.alloc (.cells #[.int .i64 0] 3)).cell? ⟨ad.block, ad.off + 10, none⟩ = some (.int .i64 3) := q0
  have z1 : (W4.alloc (.cells #[.int .i64 0] 3)).cell? ⟨ad.block, ad.off + 10 + 1, none⟩ = some (.int .i64 5) := q1
  have z2 : (W4.alloc (.cells #[.int .i64 0] 3)).cell? ⟨ad.block, ad.off + 10 + 2, none⟩ = some (.int .i64 1000) := q2
  have z3 : (W4.alloc (.cells #[.int .i64 0] 3)).cell? ⟨ad.block, ad.off + 10 + 3, none⟩ = some (.int .i64 1050) := q3
  have z4 : (W4.alloc (.cells #[.int .i64 0] 3)).cell? ⟨ad.block, ad.off + 10 + 4, none⟩ = some (.int .i64 5) := q4
  clear q0 q1 q2 q3 q4
  go_wp2_with fail
  refine (plan_Spare.calls AK cK kilnL (some ad) cO ordersL (some ⟨W4.heap.size, 0, none⟩) 1 [0] 3 5 1000 1050 5 2 0 (W4.alloc (.cells #[.int .i64 0] 3)) (Kd.C_below FK.out (below_alloc (Below.refl W4.heap.size W4) _)) hcK (Kd.C_below FO.out (below_alloc (Below.refl W4.heap.size W4) _)) hcO (KI_block (xs := [0]) (heap_alloc_new W4 _) (by simp)) (by simp) ex_spare).mono ?_
  rintro e W5 ⟨rfl, hb⟩
  have hbb : Below W4.heap.size W4 W5 := below_then (below_alloc (Below.refl W4.heap.size W4) _) ((below_alloc (Below.refl W4.heap.size W4) _)).size hb
  have FK' := Aside0.mk (Kd.C_below FK.out hbb)
  have FO' := Aside0.mk (Kd.C_below FO.out hbb)
  have FC' := Aside0.mk (Kd.C_below FC.out hbb)
  have HW' := Aside0.mk (below_refl_trans HW.out hbb)
  clear FK
  have FK := FK'
  clear FK'
  clear FO
  have FO := FO'
  clear FO'
  clear FC
  have FC := FC'
  clear FC'
  clear HW
  have HW := HW'
  clear HW'
  clear hbb
  try clear hd
  clear hb z0 z1 z2 z3 z4
  go_wp2_with fail
  refine (plan_Fullest.calls AK cK kilnL (some ad) cO ordersL [1, 3] 0 W5 (Kd.C_below FK.out (Below.refl W5.heap.size W5)) hcK (Kd.C_below FO.out (Below.refl W5.heap.size W5)) hcO ex_full).mono ?_
  rintro e W6 ⟨v, rfl, hR, hb⟩
  have hbb : Below W5.heap.size W5 W6 := hb
  have FK' := Aside0.mk (Kd.C_below FK.out hbb)
  have FO' := Aside0.mk (Kd.C_below FO.out hbb)
  have FC' := Aside0.mk (Kd.C_below FC.out hbb)
  have HW' := Aside0.mk (below_refl_trans HW.out hbb)
  clear FK
  have FK := FK'
  clear FK'
  clear FO
  have FO := FO'
  clear FO'
  clear FC
  have FC := FC'
  clear FC'
  clear HW
  have HW := HW'
  clear HW'
  clear hbb
  try clear hd
  obtain ⟨AU, cU, rfl, hcU, hC⟩ := Kd.R_reads hR
  have FU := Aside0.mk hC
  clear hC hR hb
  go_wp2_with fail
  refine (plan_Fewest.calls AK cK kilnL (some ad) cO ordersL [[0, 3], [1], [2]] 0 W6 (Kd.C_below FK.out (Below.refl W6.heap.size W6)) hcK (Kd.C_below FO.out (Below.refl W6.heap.size W6)) hcO ex_fewest).mono ?_
  rintro e W7 ⟨v, rfl, hS, hb⟩
  have hbb : Below W6.heap.size W6 W7 := hb
  have FK' := Aside0.mk (Kd.C_below FK.out hbb)
  have FO' := Aside0.mk (Kd.C_below FO.out hbb)
  have FC' := Aside0.mk (Kd.C_below FC.out hbb)
  have FU' := Aside0.mk (Kd.C_below FU.out hbb)
  have HW' := Aside0.mk (below_refl_trans HW.out hbb)
  clear FK
  have FK := FK'
  clear FK'
  clear FO
  have FO := FO'
  clear FO'
  clear FC
  have FC := FC'
  clear FC'
  clear FU
  have FU := FU'
  clear FU'
  clear HW
  have HW := HW'
  clear HW'
  clear hbb
  try clear hd
  have hR := Kd.S_R hS
  clear hS
  obtain ⟨AP, cP, rfl, hcP, hC⟩ := Kd.R_reads hR
  have FP := Aside0.mk hC
  clear hC hR hb
  go_wp2_with fail
  have HPB0 := Aside0.mk (Boxed.new W7 38 (.slice AP 3 cP))
  refine (plan_Reason.calls AK cK kilnL (some ad) cO ordersL 2 [[0, 1], [0, 2], [1, 2]] 0 (W7.alloc (.cells #[.slice AP 3 cP] 38)) (Kd.C_below FK.out (below_alloc (Below.refl W7.heap.size W7) _)) hcK (Kd.C_below FO.out (below_alloc (Below.refl W7.heap.size W7) _)) hcO ex_reason).mono ?_
  rintro e W8 ⟨v, rfl, hS, hb⟩
  have hbb : Below W7.heap.size W7 W8 := below_then (below_alloc (Below.refl W7.heap.size W7) _) ((below_alloc (Below.refl W7.heap.size W7) _)).size hb
  have FK' := Aside0.mk (Kd.C_below FK.out hbb)
  have FO' := Aside0.mk (Kd.C_below FO.out hbb)
  have FC' := Aside0.mk (Kd.C_below FC.out hbb)
  have FU' := Aside0.mk (Kd.C_below FU.out hbb)
  have FP' := Aside0.mk (Kd.C_below FP.out hbb)
  have HW' := Aside0.mk (below_refl_trans HW.out hbb)
  clear FK
  have FK := FK'
  clear FK'
  clear FO
  have FO := FO'
  clear FO'
  clear FC
  have FC := FC'
  clear FC'
  clear FU
  have FU := FU'
  clear FU'
  clear FP
  have FP := FP'
  clear FP'
  clear HW
  have HW := HW'
  clear HW'
  clear hbb
  try clear hd
  have HPB := Aside0.mk (HPB0.out.kept (grown_of_below hb none) (by simp))
  clear HPB0
  have hR := Kd.S_R hS
  clear hS
  obtain ⟨AX, cX, rfl, hcX, hC⟩ := Kd.R_reads hR
  have FX := Aside0.mk hC
  clear hC hR hb
  go_wp2_with fail
  refine (plan_Moves.calls AK cK kilnL (some ad) cO ordersL [0, 1, 2] 0 W8 (Kd.C_below FK.out (Below.refl W8.heap.size W8)) hcK (Kd.C_below FO.out (Below.refl W8.heap.size W8)) hcO ex_moves).mono ?_
  rintro e W9 ⟨v, rfl, hR, hb⟩
  have hbb : Below W8.heap.size W8 W9 := hb
  have FK' := Aside0.mk (Kd.C_below FK.out hbb)
  have FO' := Aside0.mk (Kd.C_below FO.out hbb)
  have FC' := Aside0.mk (Kd.C_below FC.out hbb)
  have FU' := Aside0.mk (Kd.C_below FU.out hbb)
  have FP' := Aside0.mk (Kd.C_below FP.out hbb)
  have FX' := Aside0.mk (Kd.C_below FX.out hbb)
  have HPB' := Aside0.mk (HPB.out.kept (grown_of_below hbb none) (by simp))
  have HW' := Aside0.mk (below_refl_trans HW.out hbb)
  clear FK
  have FK := FK'
  clear FK'
  clear FO
  have FO := FO'
  clear FO'
  clear FC
  have FC := FC'
  clear FC'
  clear FU
  have FU := FU'
  clear FU'
  clear FP
  have FP := FP'
  clear FP'
  clear FX
  have FX := FX'
  clear FX'
  clear HPB
  have HPB := HPB'
  clear HPB'
  clear HW
  have HW := HW'
  clear HW'
  clear hbb
  try clear hd
  obtain ⟨AM, cM, rfl, hcM, hC⟩ := Kd.R_reads hR
  have FM := Aside0.mk hC
  clear hC hR hb
  go_wp2_with fail
  refine (potbankref01_Same.calls 10 AC cC [0, 1] (some ⟨W9.heap.size, 0, none⟩) 2 [0, 1] true (W9.alloc (.cells #[.int .i64 0, .int .i64 1] 3)) (Kd.C_below FC.out (below_alloc (Below.refl W9.heap.size W9) _)) hcC (KI_block (xs := [0, 1]) (heap_alloc_new W9 _) (by simp)) (by simp) (by decide +kernel)).mono ?_
  rintro e W10 ⟨rfl, hd⟩
  have hb : Below (W9.alloc (.cells #[.int .i64 0, .int .i64 1] 3)).heap.size (W9.alloc (.cells #[.int .i64 0, .int .i64 1] 3)) W10 := hd.below
  have hbb : Below W9.heap.size W9 W10 := below_then (below_alloc (Below.refl W9.heap.size W9) _) ((below_alloc (Below.refl W9.heap.size W9) _)).size hb
  have FK' := Aside0.mk (Kd.C_below FK.out hbb)
  have FO' := Aside0.mk (Kd.C_below FO.out hbb)
  have FC' := Aside0.mk (Kd.C_below FC.out hbb)
  have FU' := Aside0.mk (Kd.C_below FU.out hbb)
  have FP' := Aside0.mk (Kd.C_below FP.out hbb)
  have FX' := Aside0.mk (Kd.C_below FX.out hbb)
  have FM' := Aside0.mk (Kd.C_below FM.out hbb)
  have HPB' := Aside0.mk (HPB.out.kept (grown_of_below hbb none) (by simp))
  have HW' := Aside0.mk (below_refl_trans HW.out hbb)
  clear FK
  have FK := FK'
  clear FK'
  clear FO
  have FO := FO'
  clear FO'
  clear FC
  have FC := FC'
  clear FC'
  clear FU
  have FU := FU'
  clear FU'
  clear FP
  have FP := FP'
  clear FP'
  clear FX
  have FX := FX'
  clear FX'
  clear FM
  have FM := FM'
  clear FM'
  clear HPB
  have HPB := HPB'
  clear HPB'
  clear HW
  have HW := HW'
  clear HW'
  clear hbb
  try clear hd
  clear hb
  go_wp2_with fail
  refine (potbankref01_Same.calls 10 AU cU [1, 3] (some ⟨W10.heap.size, 0, none⟩) 2 [1, 3] true (W10.alloc (.cells #[.int .i64 1, .int .i64 3] 3)) (Kd.C_below FU.out (below_alloc (Below.refl W10.heap.size W10) _)) hcU (KI_block (xs := [1, 3]) (heap_alloc_new W10 _) (by simp)) (by simp) (by decide +kernel)).mono ?_
  rintro e W11 ⟨rfl, hd⟩
  have hb : Below (W10.alloc (.cells #[.int .i64 1, .int .i64 3] 3)).heap.size (W10.alloc (.cells #[.int .i64 1, .int .i64 3] 3)) W11 := hd.below
  have hbb : Below W10.heap.size W10 W11 := below_then (below_alloc (Below.refl W10.heap.size W10) _) ((below_alloc (Below.refl W10.heap.size W10) _)).size hb
  have FK' := Aside0.mk (Kd.C_below FK.out hbb)
  have FO' := Aside0.mk (Kd.C_below FO.out hbb)
  have FC' := Aside0.mk (Kd.C_below FC.out hbb)
  have FU' := Aside0.mk (Kd.C_below FU.out hbb)
  have FP' := Aside0.mk (Kd.C_below FP.out hbb)
  have FX' := Aside0.mk (Kd.C_below FX.out hbb)
  have FM' := Aside0.mk (Kd.C_below FM.out hbb)
  have HPB' := Aside0.mk (HPB.out.kept (grown_of_below hbb none) (by simp))
  have HW' := Aside0.mk (below_refl_trans HW.out hbb)
  clear FK
  have FK := FK'
  clear FK'
  clear FO
  have FO := FO'
  clear FO'
  clear FC
  have FC := FC'
  clear FC'
  clear FU
  have FU := FU'
  clear FU'
  clear FP
  have FP := FP'
  clear FP'
  clear FX
  have FX := FX'
  clear FX'
  clear FM
  have FM := FM'
  clear FM'
  clear HPB
  have HPB := HPB'
  clear HPB'
  clear HW
  have HW := HW'
  clear HW'
  clear hbb
  try clear hd
  clear hb
  have hp := HPB.out.cell
  go_wp2_with fail
  obtain ⟨V, hV⟩ : ∃ V, V = ((((W11.alloc (.cells #[.int .i64 0, .int .i64 3] 3)).alloc (.cells #[.int .i64 1] 3)).alloc (.cells #[.int .i64 2] 3)).alloc (.cells #[.slice (some ⟨W11.heap.size, 0, none⟩) 2 2, .slice (some ⟨W11.heap.size + 1, 0, none⟩) 1 1, .slice (some ⟨W11.heap.size + 1 + 1, 0, none⟩) 1 1] 41)) := ⟨_, rfl⟩
  have b0 : V.heap[W11.heap.size]? = some (.cells #[.int .i64 0, .int .i64 3] 3 (0, 0)) := by
    rw [hV]
    have h := heap_alloc_new W11 (.cells #[.int .i64 0, .int .i64 3] 3)
    exact (heap_alloc_old _ _ (by first | (simp; done) | (simp; omega))).trans ((heap_alloc_old _ _ (by first | (simp; done) | (simp; omega))).trans ((heap_alloc_old _ _ (by first | (simp; done) | (simp; omega))).trans (h)))
  have b1 : V.heap[W11.heap.size + 1]? = some (.cells #[.int .i64 1] 3 (0, 0)) := by
    rw [hV]
    have h := heap_alloc_new (W11.alloc (.cells #[.int .i64 0, .int .i64 3] 3)) (.cells #[.int .i64 1] 3)
    simp only [World.size_alloc] at h
    exact (heap_alloc_old _ _ (by first | (simp; done) | (simp; omega))).trans ((heap_alloc_old _ _ (by first | (simp; done) | (simp; omega))).trans (h))
  have b2 : V.heap[W11.heap.size + 1 + 1]? = some (.cells #[.int .i64 2] 3 (0, 0)) := by
    rw [hV]
    have h := heap_alloc_new ((W11.alloc (.cells #[.int .i64 0, .int .i64 3] 3)).alloc (.cells #[.int .i64 1] 3)) (.cells #[.int .i64 2] 3)
    simp only [World.size_alloc] at h
    exact (heap_alloc_old _ _ (by first | (simp; done) | (simp; omega))).trans (h)
  have b3 : V.heap[W11.heap.size + 1 + 1 + 1]? = some (.cells #[.slice (some ⟨W11.heap.size, 0, none⟩) 2 2, .slice (some ⟨W11.heap.size + 1, 0, none⟩) 1 1, .slice (some ⟨W11.heap.size + 1 + 1, 0, none⟩) 1 1] 41 (0, 0)) := by
    rw [hV]
    have h := heap_alloc_new (((W11.alloc (.cells #[.int .i64 0, .int .i64 3] 3)).alloc (.cells #[.int .i64 1] 3)).alloc (.cells #[.int .i64 2] 3)) (.cells #[.slice (some ⟨W11.heap.size, 0, none⟩) 2 2, .slice (some ⟨W11.heap.size + 1, 0, none⟩) 1 1, .slice (some ⟨W11.heap.size + 1 + 1, 0, none⟩) 1 1] 41)
    simp only [World.size_alloc] at h
    exact h
  have i0 : KI V (some ⟨W11.heap.size, 0, none⟩) [0, 3] := KI_block (xs := [0, 3]) b0 (by simp)
  have i1 : KI V (some ⟨W11.heap.size + 1, 0, none⟩) [1] := KI_block (xs := [1]) b1 (by simp)
  have i2 : KI V (some ⟨W11.heap.size + 1 + 1, 0, none⟩) [2] := KI_block (xs := [2]) b2 (by simp)
  have i3 : KL V (some ⟨W11.heap.size + 1 + 1 + 1, 0, none⟩) [[0, 3], [1], [2]] := KL_three (ca := 2) (cb := 1) (cc := 1) b3 i0 i1 i2 (by simp) (by simp) (by simp)
  have hch : Below W11.heap.size W11 V := by rw [hV]; exact (below_alloc (below_alloc (below_alloc (below_alloc (Below.refl W11.heap.size W11) _) _) _) _)
  have HI3 := Aside0.mk i3
  have HCH := Aside0.mk hch
  clear i0 i1 i2 i3 b0 b1 b2 b3 hch
  rw [← hV]
  clear hV
  refine (potbankref06_SameSets.calls 10 AP cP [[0, 3], [1], [2]] (some ⟨W11.heap.size + 1 + 1 + 1, 0, none⟩) 3 [[0, 3], [1], [2]] true V (Kd.C_below FP.out HCH.out) hcP HI3.out (by simp) (by decide +kernel)).mono ?_
  rintro e W12 ⟨rfl, hd⟩
  have hbb : Below W11.heap.size W11 W12 := below_then HCH.out HCH.out.size hd.below
  clear HI3 HCH
  have FK' := Aside0.mk (Kd.C_below FK.out hbb)
  have FO' := Aside0.mk (Kd.C_below FO.out hbb)
  have FC' := Aside0.mk (Kd.C_below FC.out hbb)
  have FU' := Aside0.mk (Kd.C_below FU.out hbb)
  have FP' := Aside0.mk (Kd.C_below FP.out hbb)
  have FX' := Aside0.mk (Kd.C_below FX.out hbb)
  have FM' := Aside0.mk (Kd.C_below FM.out hbb)
  have HPB' := Aside0.mk (HPB.out.kept (grown_of_below hbb none) (by simp))
  have HW' := Aside0.mk (below_refl_trans HW.out hbb)
  clear FK
  have FK := FK'
  clear FK'
  clear FO
  have FO := FO'
  clear FO'
  clear FC
  have FC := FC'
  clear FC'
  clear FU
  have FU := FU'
  clear FU'
  clear FP
  have FP := FP'
  clear FP'
  clear FX
  have FX := FX'
  clear FX'
  clear FM
  have FM := FM'
  clear FM'
  clear HPB
  have HPB := HPB'
  clear HPB'
  clear HW
  have HW := HW'
  clear HW'
  clear hbb
  try clear hd
  clear hp
  go_wp2_with fail
  obtain ⟨V, hV⟩ : ∃ V, V = ((((W12.alloc (.cells #[.int .i64 0, .int .i64 1] 3)).alloc (.cells #[.int .i64 0, .int .i64 2] 3)).alloc (.cells #[.int .i64 1, .int .i64 2] 3)).alloc (.cells #[.slice (some ⟨W12.heap.size, 0, none⟩) 2 2, .slice (some ⟨W12.heap.size + 1, 0, none⟩) 2 2, .slice (some ⟨W12.heap.size + 1 + 1, 0, none⟩) 2 2] 41)) := ⟨_, rfl⟩
  have b0 : V.heap[W12.heap.size]? = some (.cells #[.int .i64 0, .int .i64 1] 3 (0, 0)) := by
    rw [hV]
    have h := heap_alloc_new W12 (.cells #[.int .i64 0, .int .i64 1] 3)
    exact (heap_alloc_old _ _ (by first | (simp; done) | (simp; omega))).trans ((heap_alloc_old _ _ (by first | (simp; done) | (simp; omega))).trans ((heap_alloc_old _ _ (by first | (simp; done) | (simp; omega))).trans (h)))
  have b1 : V.heap[W12.heap.size + 1]? = some (.cells #[.int .i64 0, .int .i64 2] 3 (0, 0)) := by
    rw [hV]
    have h := heap_alloc_new (W12.alloc (.cells #[.int .i64 0, .int .i64 1] 3)) (.cells #[.int .i64 0, .int .i64 2] 3)
    simp only [World.size_alloc] at h
    exact (heap_alloc_old _ _ (by first | (simp; done) | (simp; omega))).trans ((heap_alloc_old _ _ (by first | (simp; done) | (simp; omega))).trans (h))
  have b2 : V.heap[W12.heap.size + 1 + 1]? = some (.cells #[.int .i64 1, .int .i64 2] 3 (0, 0)) := by
    rw [hV]
    have h := heap_alloc_new ((W12.alloc (.cells #[.int .i64 0, .int .i64 1] 3)).alloc (.cells #[.int .i64 0, .int .i64 2] 3)) (.cells #[.int .i64 1, .int .i64 2] 3)
    simp only [World.size_alloc] at h
    exact (heap_alloc_old _ _ (by first | (simp; done) | (simp; omega))).trans (h)
  have b3 : V.heap[W12.heap.size + 1 + 1 + 1]? = some (.cells #[.slice (some ⟨W12.heap.size, 0, none⟩) 2 2, .slice (some ⟨W12.heap.size + 1, 0, none⟩) 2 2, .slice (some ⟨W12.heap.size + 1 + 1, 0, none⟩) 2 2] 41 (0, 0)) := by
    rw [hV]
    have h := heap_alloc_new (((W12.alloc (.cells #[.int .i64 0, .int .i64 1] 3)).alloc (.cells #[.int .i64 0, .int .i64 2] 3)).alloc (.cells #[.int .i64 1, .int .i64 2] 3)) (.cells #[.slice (some ⟨W12.heap.size, 0, none⟩) 2 2, .slice (some ⟨W12.heap.size + 1, 0, none⟩) 2 2, .slice (some ⟨W12.heap.size + 1 + 1, 0, none⟩) 2 2] 41)
    simp only [World.size_alloc] at h
    exact h
  have i0 : KI V (some ⟨W12.heap.size, 0, none⟩) [0, 1] := KI_block (xs := [0, 1]) b0 (by simp)
  have i1 : KI V (some ⟨W12.heap.size + 1, 0, none⟩) [0, 2] := KI_block (xs := [0, 2]) b1 (by simp)
  have i2 : KI V (some ⟨W12.heap.size + 1 + 1, 0, none⟩) [1, 2] := KI_block (xs := [1, 2]) b2 (by simp)
  have i3 : KL V (some ⟨W12.heap.size + 1 + 1 + 1, 0, none⟩) [[0, 1], [0, 2], [1, 2]] := KL_three (ca := 2) (cb := 2) (cc := 2) b3 i0 i1 i2 (by simp) (by simp) (by simp)
  have hch : Below W12.heap.size W12 V := by rw [hV]; exact (below_alloc (below_alloc (below_alloc (below_alloc (Below.refl W12.heap.size W12) _) _) _) _)
  have HI3 := Aside0.mk i3
  have HCH := Aside0.mk hch
  clear i0 i1 i2 i3 b0 b1 b2 b3 hch
  rw [← hV]
  clear hV
  refine (potbankref06_SameSets.calls 10 AX cX [[0, 1], [0, 2], [1, 2]] (some ⟨W12.heap.size + 1 + 1 + 1, 0, none⟩) 3 [[0, 1], [0, 2], [1, 2]] true V (Kd.C_below FX.out HCH.out) hcX HI3.out (by simp) (by decide +kernel)).mono ?_
  rintro e W13 ⟨rfl, hd⟩
  have hbb : Below W12.heap.size W12 W13 := below_then HCH.out HCH.out.size hd.below
  clear HI3 HCH
  have FK' := Aside0.mk (Kd.C_below FK.out hbb)
  have FO' := Aside0.mk (Kd.C_below FO.out hbb)
  have FC' := Aside0.mk (Kd.C_below FC.out hbb)
  have FU' := Aside0.mk (Kd.C_below FU.out hbb)
  have FP' := Aside0.mk (Kd.C_below FP.out hbb)
  have FX' := Aside0.mk (Kd.C_below FX.out hbb)
  have FM' := Aside0.mk (Kd.C_below FM.out hbb)
  have HPB' := Aside0.mk (HPB.out.kept (grown_of_below hbb none) (by simp))
  have HW' := Aside0.mk (below_refl_trans HW.out hbb)
  clear FK
  have FK := FK'
  clear FK'
  clear FO
  have FO := FO'
  clear FO'
  clear FC
  have FC := FC'
  clear FC'
  clear FU
  have FU := FU'
  clear FU'
  clear FP
  have FP := FP'
  clear FP'
  clear FX
  have FX := FX'
  clear FX'
  clear FM
  have FM := FM'
  clear FM'
  clear HPB
  have HPB := HPB'
  clear HPB'
  clear HW
  have HW := HW'
  clear HW'
  clear hbb
  try clear hd
  go_wp2_with fail
  refine (potbankref01_Same.calls 10 AM cM [0, 1, 2] (some ⟨W13.heap.size, 0, none⟩) 3 [0, 1, 2] true (W13.alloc (.cells #[.int .i64 0, .int .i64 1, .int .i64 2] 3)) (Kd.C_below FM.out (below_alloc (Below.refl W13.heap.size W13) _)) hcM (KI_block (xs := [0, 1, 2]) (heap_alloc_new W13 _) (by simp)) (by simp) (by decide +kernel)).mono ?_
  rintro e W14 ⟨rfl, hd⟩
  have hb : Below (W13.alloc (.cells #[.int .i64 0, .int .i64 1, .int .i64 2] 3)).heap.size (W13.alloc (.cells #[.int .i64 0, .int .i64 1, .int .i64 2] 3)) W14 := hd.below
  have hbb : Below W13.heap.size W13 W14 := below_then (below_alloc (Below.refl W13.heap.size W13) _) ((below_alloc (Below.refl W13.heap.size W13) _)).size hb
  have FK' := Aside0.mk (Kd.C_below FK.out hbb)
  have FO' := Aside0.mk (Kd.C_below FO.out hbb)
  have FC' := Aside0.mk (Kd.C_below FC.out hbb)
  have FU' := Aside0.mk (Kd.C_below FU.out hbb)
  have FP' := Aside0.mk (Kd.C_below FP.out hbb)
  have FX' := Aside0.mk (Kd.C_below FX.out hbb)
  have FM' := Aside0.mk (Kd.C_below FM.out hbb)
  have HPB' := Aside0.mk (HPB.out.kept (grown_of_below hbb none) (by simp))
  have HW' := Aside0.mk (below_refl_trans HW.out hbb)
  clear FK
  have FK := FK'
  clear FK'
  clear FO
  have FO := FO'
  clear FO'
  clear FC
  have FC := FC'
  clear FC'
  clear FU
  have FU := FU'
  clear FU'
  clear FP
  have FP := FP'
  clear FP'
  clear FX
  have FX := FX'
  clear FX'
  clear FM
  have FM := FM'
  clear FM'
  clear HPB
  have HPB := HPB'
  clear HPB'
  clear HW
  have HW := HW'
  clear HW'
  clear hbb
  try clear hd
  clear hb
  go_wp2_with fail
  refine (plan_CheckReason.calls AK cK kilnL (some ad) cO ordersL 2 AX cX [[0, 1], [0, 2], [1, 2]] 0 W14 (Kd.C_below FK.out (Below.refl W14.heap.size W14)) hcK (Kd.C_below FO.out (Below.refl W14.heap.size W14)) hcO (Kd.C_below FX.out (Below.refl _ _)) hcX ex_check).mono ?_
  rintro e W15 ⟨rfl, hb⟩
  have hbb : Below W14.heap.size W14 W15 := hb
  have FK' := Aside0.mk (Kd.C_below FK.out hbb)
  have FO' := Aside0.mk (Kd.C_below FO.out hbb)
  have FC' := Aside0.mk (Kd.C_below FC.out hbb)
  have FU' := Aside0.mk (Kd.C_below FU.out hbb)
  have FP' := Aside0.mk (Kd.C_below FP.out hbb)
  have FX' := Aside0.mk (Kd.C_below FX.out hbb)
  have FM' := Aside0.mk (Kd.C_below FM.out hbb)
  have HPB' := Aside0.mk (HPB.out.kept (grown_of_below hbb none) (by simp))
  have HW' := Aside0.mk (below_refl_trans HW.out hbb)
  clear FK
  have FK := FK'
  clear FK'
  clear FO
  have FO := FO'
  clear FO'
  clear FC
  have FC := FC'
  clear FC'
  clear FU
  have FU := FU'
  clear FU'
  clear FP
  have FP := FP'
  clear FP'
  clear FX
  have FX := FX'
  clear FX'
  clear FM
  have FM := FM'
  clear FM'
  clear HPB
  have HPB := HPB'
  clear HPB'
  clear HW
  have HW := HW'
  clear HW'
  clear hbb
  try clear hd
  clear hb
  go_wp2
  go_ret
  exact ⟨rfl, HW.out⟩
end Go.Proofs.YthonlcnmjlldiaaGreat.P
namespace Go.Proofs.YthonlcnmjlldiaaGreat.P
open Go.RowKit Go.Proofs.YthonlcnmjlldiaaGreatW.PrintWords Go.Proofs.YthonlcnmjlldiaaGreatW.PrintLast Go.Proofs.YthonlcnmjlldiaaGreatW.PrintMore
attribute [local go_sem] max2_int min2_int max_two min_two max_three min_three max_four min_four
set_option linter.unusedVariables false
set_option linter.unusedSimpArgs false
def potbanklaw06_PlanCrowds.f (k : Nat) (l0 : List (S70)) (l1 : List (S72)) : Option (Bool) := (potbanklaw06_sane.f).bind fun t365 => ((plan_Crowds.f l0 l1).bind fun bt366 => ((potbankref06_Crowds.f k l0 l1).bind fun bt370 => ((potbankref06_SameSets.f k bt366.1 bt370.1).bind fun t374 => (if t365 = true then (if t374 = true then (some (bt366.2 == bt370.2)) else (some false)) else (some false)))))
set_option maxHeartbeats 8000000 in
set_option maxRecDepth 100000 in
theorem potbanklaw06_PlanCrowds.calls (k : Nat) (A0 : Option Addr) (c0 : Nat) (l0 : List (S70)) (A1 : Option Addr) (c1 : Nat) (l1 : List (S72)) (r : Bool) (w : World) (hr0 : Kd.C k70 w A0 l0.length l0) (hc0 : l0.length ≤ c0) (hr1 : Kd.C k72 w A1 l1.length l1) (hc1 : l1.length ≤ c1) (h : potbanklaw06_PlanCrowds.f k l0 l1 = some r) :
    Calls Tryz.prog 4 #[.slice A0 l0.length c0, .slice A1 l1.length c1] w fun e w' => e = .returned (.bool r) ∧ Below w.heap.size w w' := by
  have HR0 := Aside0.mk hr0
  have HC0 := Aside0.mk hc0
  clear hr0 hc0
  have HR1 := Aside0.mk hr1
  have HC1 := Aside0.mk hc1
  clear hr1 hc1
  have HB := Aside0.mk (Below.refl w.heap.size w)
  have H : ((potbanklaw06_sane.f).bind fun t365 => ((plan_Crowds.f l0 l1).bind fun bt366 => ((potbankref06_Crowds.f k l0 l1).bind fun bt370 => ((potbankref06_SameSets.f k bt366.1 bt370.1).bind fun t374 => (if t365 = true then (if t374 = true then (some (bt366.2 == bt370.2)) else (some false)) else (some false)))))) = some r := h
  clear h
  replace H := Option.bind_eq_some_iff.mp H
  obtain ⟨t365, A30, H⟩ := H
  replace H : ((plan_Crowds.f l0 l1).bind fun bt366 => ((potbankref06_Crowds.f k l0 l1).bind fun bt370 => ((potbankref06_SameSets.f k bt366.1 bt370.1).bind fun t374 => (if t365 = true then (if t374 = true then (some (bt366.2 == bt370.2)) else (some false)) else (some false))))) = some r := H
  have A3 := Aside0.mk A30
  clear A30
  replace H := Option.bind_eq_some_iff.mp H
  obtain ⟨⟨t366, t367⟩, A40, H⟩ := H
  replace H : ((potbankref06_Crowds.f k l0 l1).bind fun bt370 => ((potbankref06_SameSets.f k t366 bt370.1).bind fun t374 => (if t365 = true then (if t374 = true then (some (t367 == bt370.2)) else (some false)) else (some false)))) = some r := H
  have A4 := Aside0.mk A40
  clear A40
  replace H := Option.bind_eq_some_iff.mp H
  obtain ⟨⟨t370, t373⟩, A50, H⟩ := H
  replace H : ((potbankref06_SameSets.f k t366 t370).bind fun t374 => (if t365 = true then (if t374 = true then (some (t367 == t373)) else (some false)) else (some false))) = some r := H
  have A5 := Aside0.mk A50
  clear A50
  replace H := Option.bind_eq_some_iff.mp H
  obtain ⟨t374, A60, H⟩ := H
  replace H : (if t365 = true then (if t374 = true then (some (t367 == t373)) else (some false)) else (some false)) = some r := H
  have A6 := Aside0.mk A60
  clear A60
  by_cases c7 : t365 = true
  · subst c7
    have H1 : (if t374 = true then (some (t367 == t373)) else (some false)) = some r := by rw [if_pos rfl] at H; exact H
    clear H
    have H := H1
    clear H1
    by_cases c8 : t374 = true
    · subst c8
      have H1 : (some (t367 == t373)) = some r := by rw [if_pos rfl] at H; exact H
      clear H
      have H := H1
      clear H1
      obtain rfl := Option.some.inj H
      go_enter Tryz.func4, Tryz.ntmps4
      go_wp2_with (first | ((with_reducible refine gate_callee (f := 9) rfl ?_); refine goesL_ (some 11) rfl rfl Tryz.func9 (by kernel_rfl) rfl #[] rfl (by (try simp only [List.map_toArray, List.map_cons, List.map_nil]); first | done | rfl | (simp only [List.length_drop, List.length_take]; rfl)) ?_; (with_reducible refine (potbanklaw06_sane.calls  true _ A3.out).mono ?_); rintro e w9 ⟨rfl, hb⟩; refine ⟨_, rfl, ?_⟩; have n0_ := Aside0.mk (below_step (by repeat (first | (with_reducible first | exact HB.out | apply below_alloc | apply pw_below_drewN | apply below_drew1) | exact HB.out)) hb); clear HB; have HB := n0_; clear n0_; (try clear hb); (try clear hb2); (try clear hk); (try clear hi)) | ((with_reducible refine gate_callee (f := 15) rfl ?_); refine goesL_ (some 15) rfl rfl Tryz.func15 (by kernel_rfl) rfl #[.slice A0 l0.length c0, .slice A1 l1.length c1] rfl (by (try simp only [List.map_toArray, List.map_cons, List.map_nil]); first | done | rfl | (simp only [List.length_drop, List.length_take]; rfl)) ?_; (with_reducible refine (plan_Crowds.calls _ _ l0 _ _ l1 t366 t367 _ ?side1 ?side2 ?side3 ?side4 A4.out).mono ?_); (case side1 => repeat (first | exact (Kd.C_below HR0.out HB.out) | (with_reducible refine Kd.C_alloc ?_ _) | (with_reducible refine Kd.C_drewN ?_ _) | (with_reducible refine Kd.C_drew ?_))); (case side2 => exact HC0.out); (case side3 => repeat (first | exact (Kd.C_below HR1.out HB.out) | (with_reducible refine Kd.C_alloc ?_ _) | (with_reducible refine Kd.C_drewN ?_ _) | (with_reducible refine Kd.C_drew ?_))); (case side4 => exact HC1.out); rintro e w10 ⟨v368, rfl, ho0, hb⟩; refine ⟨_, rfl, ?_⟩; have n0_ := Aside0.mk (Kd.N_lower (Kd.N_mono (ok' := fun k_ => True) (Kd.S_N (Kd.S_bound ho0)) (fun k_ hk_ => trivial)) (below_size (by repeat (first | (with_reducible first | exact HB.out | apply below_alloc | apply pw_below_drewN | apply below_drew1) | exact HB.out)))); have n1_ := Aside0.mk (below_step (by repeat (first | (with_reducible first | exact HB.out | apply below_alloc | apply pw_below_drewN | apply below_drew1) | exact HB.out)) hb); clear HB; have HO369 := n0_; have HB := n1_; clear n0_ n1_; (try clear hb); (try clear hb2); (try clear hk); (try clear hi); (try clear ho0)) | ((with_reducible refine gate_callee (f := 16) rfl ?_); refine goesL_ (some 21) rfl rfl Tryz.func16 (by kernel_rfl) rfl #[.slice A0 l0.length c0, .slice A1 l1.length c1] rfl (by (try simp only [List.map_toArray, List.map_cons, List.map_nil]); first | done | rfl | (simp only [List.length_drop, List.length_take]; rfl)) ?_; (with_reducible refine (potbankref06_Crowds.calls k _ _ l0 _ _ l1 t370 t373 _ ?side1 ?side2 ?side3 ?side4 A5.out).mono ?_); (case side1 => repeat (first | exact (Kd.C_below HR0.out HB.out) | (with_reducible refine Kd.C_alloc ?_ _) | (with_reducible refine Kd.C_drewN ?_ _) | (with_reducible refine Kd.C_drew ?_))); (case side2 => exact HC0.out); (case side3 => repeat (first | exact (Kd.C_below HR1.out HB.out) | (with_reducible refine Kd.C_alloc ?_ _) | (with_reducible refine Kd.C_drewN ?_ _) | (with_reducible refine Kd.C_drew ?_))); (case side4 => exact HC1.out); rintro e w11 ⟨v371, rfl, ho0, hb⟩; refine ⟨_, rfl, ?_⟩; have n0_ := Aside0.mk (Kd.N_elder' (by (with_reducible repeat (first | apply Kd.N_alloc | apply Kd.N_drewN | apply Kd.N_drew)); exact HO369.out) (Kd.N_base ho0) hb); have n1_ := Aside0.mk (Kd.N_lower (Kd.N_mono (ok' := fun k_ => some k_ ≠ (v368 : Value).ownBlock) ho0 (fun k_ hk_ => (Kd.fresh' (Kd.N_lt (by (with_reducible repeat (first | apply Kd.N_alloc | apply Kd.N_drewN | apply Kd.N_drew)); exact HO369.out)) k_ hk_))) (below_size (by repeat (first | (with_reducible first | exact HB.out | apply below_alloc | apply pw_below_drewN | apply below_drew1) | exact HB.out)))); have n2_ := Aside0.mk (below_step (by repeat (first | (with_reducible first | exact HB.out | apply below_alloc | apply pw_below_drewN | apply below_drew1) | exact HB.out)) hb); clear HO369; clear HB; have HO369 := n0_; have HO372 := n1_; have HB := n2_; clear n0_ n1_ n2_; (try clear hb); (try clear hb2); (try clear hk); (try clear hi); (try clear ho0); obtain ⟨Ao12, co12, eo12⟩ := Kd.N_slice HO369.out; subst eo12; obtain ⟨Ao13, co13, eo13⟩ := Kd.N_slice HO372.out; subst eo13) | ((with_reducible refine gate_callee (f := 12) rfl ?_); refine goesL_ (some 26) rfl rfl Tryz.func12 (by kernel_rfl) rfl #[.slice Ao12 t366.length co12, .slice Ao13 t370.length co13] rfl (by (try simp only [List.map_toArray, List.map_cons, List.map_nil]); first | done | rfl | (simp only [List.length_drop, List.length_take]; rfl)) ?_; (with_reducible refine (potbankref06_SameSets.calls k _ _ t366 _ _ t370 true _ ?side1 ?side2 ?side3 ?side4 A6.out).mono ?_); (case side1 => repeat (first | exact (Kd.N_reads' HO369.out).2.2 | (with_reducible refine Kd.C_alloc ?_ _) | (with_reducible refine Kd.C_drewN ?_ _) | (with_reducible refine Kd.C_drew ?_))); (case side2 => exact (Kd.N_reads' HO369.out).2.1); (case side3 => repeat (first | exact (Kd.N_reads' HO372.out).2.2 | (with_reducible refine Kd.C_alloc ?_ _) | (with_reducible refine Kd.C_drewN ?_ _) | (with_reducible refine Kd.C_drew ?_))); (case side4 => exact (Kd.N_reads' HO372.out).2.1); rintro e w' ⟨rfl, ⟨nd, rfl⟩⟩; refine ⟨_, rfl, ?_⟩))
      go_ret
      exact ⟨by first | rfl | (simp [errW_none, errW_some] <;> rfl) | (simp [*, errW_none, errW_some] <;> rfl), by repeat (first | (with_reducible first | exact HB.out | apply below_alloc | apply pw_below_drewN | apply below_drew1) | exact HB.out)⟩
    · replace c8 := Bool.eq_false_iff.mpr c8
      subst c8
      have H1 : (some false) = some r := by rw [if_neg (show ¬ (false = true) by decide)] at H; exact H
      clear H
      have H := H1
      clear H1
      obtain rfl := Option.some.inj H
      go_enter Tryz.func4, Tryz.ntmps4
      go_wp2_with (first | ((with_reducible refine gate_callee (f := 9) rfl ?_); refine goesL_ (some 11) rfl rfl Tryz.func9 (by kernel_rfl) rfl #[] rfl (by (try simp only [List.map_toArray, List.map_cons, List.map_nil]); first | done | rfl | (simp only [List.length_drop, List.length_take]; rfl)) ?_; (with_reducible refine (potbanklaw06_sane.calls  true _ A3.out).mono ?_); rintro e w14 ⟨rfl, hb⟩; refine ⟨_, rfl, ?_⟩; have n0_ := Aside0.mk (below_step (by repeat (first | (with_reducible first | exact HB.out | apply below_alloc | apply pw_below_drewN | apply below_drew1) | exact HB.out)) hb); clear HB; have HB := n0_; clear n0_; (try clear hb); (try clear hb2); (try clear hk); (try clear hi)) | ((with_reducible refine gate_callee (f := 15) rfl ?_); refine goesL_ (some 15) rfl rfl Tryz.func15 (by kernel_rfl) rfl #[.slice A0 l0.length c0, .slice A1 l1.length c1] rfl (by (try simp only [List.map_toArray, List.map_cons, List.map_nil]); first | done | rfl | (simp only [List.length_drop, List.length_take]; rfl)) ?_; (with_reducible refine (plan_Crowds.calls _ _ l0 _ _ l1 t366 t367 _ ?side1 ?side2 ?side3 ?side4 A4.out).mono ?_); (case side1 => repeat (first | exact (Kd.C_below HR0.out HB.out) | (with_reducible refine Kd.C_alloc ?_ _) | (with_reducible refine Kd.C_drewN ?_ _) | (with_reducible refine Kd.C_drew ?_))); (case side2 => exact HC0.out); (case side3 => repeat (first | exact (Kd.C_below HR1.out HB.out) | (with_reducible refine Kd.C_alloc ?_ _) | (with_reducible refine Kd.C_drewN ?_ _) | (with_reducible refine Kd.C_drew ?_))); (case side4 => exact HC1.out); rintro e w15 ⟨v368, rfl, ho0, hb⟩; refine ⟨_, rfl, ?_⟩; have n0_ := Aside0.mk (Kd.N_lower (Kd.N_mono (ok' := fun k_ => True) (Kd.S_N (Kd.S_bound ho0)) (fun k_ hk_ => trivial)) (below_size (by repeat (first | (with_reducible first | exact HB.out | apply below_alloc | apply pw_below_drewN | apply below_drew1) | exact HB.out)))); have n1_ := Aside0.mk (below_step (by repeat (first | (with_reducible first | exact HB.out | apply below_alloc | apply pw_below_drewN | apply below_drew1) | exact HB.out)) hb); clear HB; have HO369 := n0_; have HB := n1_; clear n0_ n1_; (try clear hb); (try clear hb2); (try clear hk); (try clear hi); (try clear ho0)) | ((with_reducible refine gate_callee (f := 16) rfl ?_); refine goesL_ (some 21) rfl rfl Tryz.func16 (by kernel_rfl) rfl #[.slice A0 l0.length c0, .slice A1 l1.length c1] rfl (by (try simp only [List.map_toArray, List.map_cons, List.map_nil]); first | done | rfl | (simp only [List.length_drop, List.length_take]; rfl)) ?_; (with_reducible refine (potbankref06_Crowds.calls k _ _ l0 _ _ l1 t370 t373 _ ?side1 ?side2 ?side3 ?side4 A5.out).mono ?_); (case side1 => repeat (first | exact (Kd.C_below HR0.out HB.out) | (with_reducible refine Kd.C_alloc ?_ _) | (with_reducible refine Kd.C_drewN ?_ _) | (with_reducible refine Kd.C_drew ?_))); (case side2 => exact HC0.out); (case side3 => repeat (first | exact (Kd.C_below HR1.out HB.out) | (with_reducible refine Kd.C_alloc ?_ _) | (with_reducible refine Kd.C_drewN ?_ _) | (with_reducible refine Kd.C_drew ?_))); (case side4 => exact HC1.out); rintro e w16 ⟨v371, rfl, ho0, hb⟩; refine ⟨_, rfl, ?_⟩; have n0_ := Aside0.mk (Kd.N_elder' (by (with_reducible repeat (first | apply Kd.N_alloc | apply Kd.N_drewN | apply Kd.N_drew)); exact HO369.out) (Kd.N_base ho0) hb); have n1_ := Aside0.mk (Kd.N_lower (Kd.N_mono (ok' := fun k_ => some k_ ≠ (v368 : Value).ownBlock) ho0 (fun k_ hk_ => (Kd.fresh' (Kd.N_lt (by (with_reducible repeat (first | apply Kd.N_alloc | apply Kd.N_drewN | apply Kd.N_drew)); exact HO369.out)) k_ hk_))) (below_size (by repeat (first | (with_reducible first | exact HB.out | apply below_alloc | apply pw_below_drewN | apply below_drew1) | exact HB.out)))); have n2_ := Aside0.mk (below_step (by repeat (first | (with_reducible first | exact HB.out | apply below_alloc | apply pw_below_drewN | apply below_drew1) | exact HB.out)) hb); clear HO369; clear HB; have HO369 := n0_; have HO372 := n1_; have HB := n2_; clear n0_ n1_ n2_; (try clear hb); (try clear hb2); (try clear hk); (try clear hi); (try clear ho0); obtain ⟨Ao17, co17, eo17⟩ := Kd.N_slice HO369.out; subst eo17; obtain ⟨Ao18, co18, eo18⟩ := Kd.N_slice HO372.out; subst eo18) | ((with_reducible refine gate_callee (f := 12) rfl ?_); refine goesL_ (some 26) rfl rfl Tryz.func12 (by kernel_rfl) rfl #[.slice Ao17 t366.length co17, .slice Ao18 t370.length co18] rfl (by (try simp only [List.map_toArray, List.map_cons, List.map_nil]); first | done | rfl | (simp only [List.length_drop, List.length_take]; rfl)) ?_; (with_reducible refine (potbankref06_SameSets.calls k _ _ t366 _ _ t370 false _ ?side1 ?side2 ?side3 ?side4 A6.out).mono ?_); (case side1 => repeat (first | exact (Kd.N_reads' HO369.out).2.2 | (with_reducible refine Kd.C_alloc ?_ _) | (with_reducible refine Kd.C_drewN ?_ _) | (with_reducible refine Kd.C_drew ?_))); (case side2 => exact (Kd.N_reads' HO369.out).2.1); (case side3 => repeat (first | exact (Kd.N_reads' HO372.out).2.2 | (with_reducible refine Kd.C_alloc ?_ _) | (with_reducible refine Kd.C_drewN ?_ _) | (with_reducible refine Kd.C_drew ?_))); (case side4 => exact (Kd.N_reads' HO372.out).2.1); rintro e w' ⟨rfl, ⟨nd, rfl⟩⟩; refine ⟨_, rfl, ?_⟩))
      go_ret
      exact ⟨by first | rfl | (simp [errW_none, errW_some] <;> rfl) | (simp [*, errW_none, errW_some] <;> rfl), by repeat (first | (with_reducible first | exact HB.out | apply below_alloc | apply pw_below_drewN | apply below_drew1) | exact HB.out)⟩
  · replace c7 := Bool.eq_false_iff.mpr c7
    subst c7
    have H1 : (some false) = some r := by rw [if_neg (show ¬ (false = true) by decide)] at H; exact H
    clear H
    have H := H1
    clear H1
    obtain rfl := Option.some.inj H
    go_enter Tryz.func4, Tryz.ntmps4
    go_wp2_with (first | ((with_reducible refine gate_callee (f := 9) rfl ?_); refine goesL_ (some 11) rfl rfl Tryz.func9 (by kernel_rfl) rfl #[] rfl (by (try simp only [List.map_toArray, List.map_cons, List.map_nil]); first | done | rfl | (simp only [List.length_drop, List.length_take]; rfl)) ?_; (with_reducible refine (potbanklaw06_sane.calls  false _ A3.out).mono ?_); rintro e w19 ⟨rfl, hb⟩; refine ⟨_, rfl, ?_⟩; have n0_ := Aside0.mk (below_step (by repeat (first | (with_reducible first | exact HB.out | apply below_alloc | apply pw_below_drewN | apply below_drew1) | exact HB.out)) hb); clear HB; have HB := n0_; clear n0_; (try clear hb); (try clear hb2); (try clear hk); (try clear hi)) | ((with_reducible refine gate_callee (f := 15) rfl ?_); refine goesL_ (some 15) rfl rfl Tryz.func15 (by kernel_rfl) rfl #[.slice A0 l0.length c0, .slice A1 l1.length c1] rfl (by (try simp only [List.map_toArray, List.map_cons, List.map_nil]); first | done | rfl | (simp only [List.length_drop, List.length_take]; rfl)) ?_; (with_reducible refine (plan_Crowds.calls _ _ l0 _ _ l1 t366 t367 _ ?side1 ?side2 ?side3 ?side4 A4.out).mono ?_); (case side1 => repeat (first | exact (Kd.C_below HR0.out HB.out) | (with_reducible refine Kd.C_alloc ?_ _) | (with_reducible refine Kd.C_drewN ?_ _) | (with_reducible refine Kd.C_drew ?_))); (case side2 => exact HC0.out); (case side3 => repeat (first | exact (Kd.C_below HR1.out HB.out) | (with_reducible refine Kd.C_alloc ?_ _) | (with_reducible refine Kd.C_drewN ?_ _) | (with_reducible refine Kd.C_drew ?_))); (case side4 => exact HC1.out); rintro e w20 ⟨v368, rfl, ho0, hb⟩; refine ⟨_, rfl, ?_⟩; have n0_ := Aside0.mk (Kd.N_lower (Kd.N_mono (ok' := fun k_ => True) (Kd.S_N (Kd.S_bound ho0)) (fun k_ hk_ => trivial)) (below_size (by repeat (first | (with_reducible first | exact HB.out | apply below_alloc | apply pw_below_drewN | apply below_drew1) | exact HB.out)))); have n1_ := Aside0.mk (below_step (by repeat (first | (with_reducible first | exact HB.out | apply below_alloc | apply pw_below_drewN | apply below_drew1) | exact HB.out)) hb); clear HB; have HO369 := n0_; have HB := n1_; clear n0_ n1_; (try clear hb); (try clear hb2); (try clear hk); (try clear hi); (try clear ho0)) | ((with_reducible refine gate_callee (f := 16) rfl ?_); refine goesL_ (some 21) rfl rfl Tryz.func16 (by kernel_rfl) rfl #[.slice A0 l0.length c0, .slice A1 l1.length c1] rfl (by (try simp only [List.map_toArray, List.map_cons, List.map_nil]); first | done | rfl | (simp only [List.length_drop, List.length_take]; rfl)) ?_; (with_reducible refine (potbankref06_Crowds.calls k _ _ l0 _ _ l1 t370 t373 _ ?side1 ?side2 ?side3 ?side4 A5.out).mono ?_); (case side1 => repeat (first | exact (Kd.C_below HR0.out HB.out) | (with_reducible refine Kd.C_alloc ?_ _) | (with_reducible refine Kd.C_drewN ?_ _) | (with_reducible refine Kd.C_drew ?_))); (case side2 => exact HC0.out); (case side3 => repeat (first | exact (Kd.C_below HR1.out HB.out) | (with_reducible refine Kd.C_alloc ?_ _) | (with_reducible refine Kd.C_drewN ?_ _) | (with_reducible refine Kd.C_drew ?_))); (case side4 => exact HC1.out); rintro e w21 ⟨v371, rfl, ho0, hb⟩; refine ⟨_, rfl, ?_⟩; have n0_ := Aside0.mk (Kd.N_elder' (by (with_reducible repeat (first | apply Kd.N_alloc | apply Kd.N_drewN | apply Kd.N_drew)); exact HO369.out) (Kd.N_base ho0) hb); have n1_ := Aside0.mk (Kd.N_lower (Kd.N_mono (ok' := fun k_ => some k_ ≠ (v368 : Value).ownBlock) ho0 (fun k_ hk_ => (Kd.fresh' (Kd.N_lt (by (with_reducible repeat (first | apply Kd.N_alloc | apply Kd.N_drewN | apply Kd.N_drew)); exact HO369.out)) k_ hk_))) (below_size (by repeat (first | (with_reducible first | exact HB.out | apply below_alloc | apply pw_below_drewN | apply below_drew1) | exact HB.out)))); have n2_ := Aside0.mk (below_step (by repeat (first | (with_reducible first | exact HB.out | apply below_alloc | apply pw_below_drewN | apply below_drew1) | exact HB.out)) hb); clear HO369; clear HB; have HO369 := n0_; have HO372 := n1_; have HB := n2_; clear n0_ n1_ n2_; (try clear hb); (try clear hb2); (try clear hk); (try clear hi); (try clear ho0); obtain ⟨Ao22, co22, eo22⟩ := Kd.N_slice HO369.out; subst eo22; obtain ⟨Ao23, co23, eo23⟩ := Kd.N_slice HO372.out; subst eo23) | ((with_reducible refine gate_callee (f := 12) rfl ?_); refine goesL_ (some 26) rfl rfl Tryz.func12 (by kernel_rfl) rfl #[.slice Ao22 t366.length co22, .slice Ao23 t370.length co23] rfl (by (try simp only [List.map_toArray, List.map_cons, List.map_nil]); first | done | rfl | (simp only [List.length_drop, List.length_take]; rfl)) ?_; (with_reducible refine (potbankref06_SameSets.calls k _ _ t366 _ _ t370 t374 _ ?side1 ?side2 ?side3 ?side4 A6.out).mono ?_); (case side1 => repeat (first | exact (Kd.N_reads' HO369.out).2.2 | (with_reducible refine Kd.C_alloc ?_ _) | (with_reducible refine Kd.C_drewN ?_ _) | (with_reducible refine Kd.C_drew ?_))); (case side2 => exact (Kd.N_reads' HO369.out).2.1); (case side3 => repeat (first | exact (Kd.N_reads' HO372.out).2.2 | (with_reducible refine Kd.C_alloc ?_ _) | (with_reducible refine Kd.C_drewN ?_ _) | (with_reducible refine Kd.C_drew ?_))); (case side4 => exact (Kd.N_reads' HO372.out).2.1); rintro e w' ⟨rfl, ⟨nd, rfl⟩⟩; refine ⟨_, rfl, ?_⟩))
    go_ret
    exact ⟨by first | rfl | (simp [errW_none, errW_some] <;> rfl) | (simp [*, errW_none, errW_some] <;> rfl), by repeat (first | (with_reducible first | exact HB.out | apply below_alloc | apply pw_below_drewN | apply below_drew1) | exact HB.out)⟩
end Go.Proofs.YthonlcnmjlldiaaGreat.P
namespace Go.Proofs.YthonlcnmjlldiaaGreat.P
open Go.RowKit Go.Proofs.YthonlcnmjlldiaaGreatW.PrintWords Go.Proofs.YthonlcnmjlldiaaGreatW.PrintLast Go.Proofs.YthonlcnmjlldiaaGreatW.PrintMore
set_option linter.unusedVariables false
set_option linter.unusedSimpArgs false
theorem planCrowds_true (k : List Seat) (l : List Order) : ∃ n, potbanklaw06_PlanCrowds.f n k l = some true := by
  refine Ev.rounds ?_
  unfold potbanklaw06_PlanCrowds.f
  simp only [potbanklaw06_sane.f, plan_Crowds.f, Option.bind_some]
  refine Ev.bind (Crowds_ev k l) ?_
  by_cases h : askErr k l = 0
  · have hk : seatsOk k = true ∧ ordersOk l = true := by
      unfold askErr at h
      cases h1 : seatsOk k <;> cases h2 : ordersOk l <;> simp_all
    obtain ⟨hF, h8⟩ := fine_of hk.1 hk.2
    obtain ⟨h1, h2⟩ := crowdsL_ok (k := k) (l := l) (by omega)
    simp only [h, if_true]
    refine Ev.bind (SameSets_self h1 h2) ?_
    simpa using Ev.now true
  · simp only [h, if_false]
    refine Ev.bind (SameSets_self (a := []) (by simp) (by simp)) ?_
    simpa using Ev.now true
end Go.Proofs.YthonlcnmjlldiaaGreat.P
namespace Go.Proofs.YthonlcnmjlldiaaGreat.P
open Go.RowKit Go.Proofs.YthonlcnmjlldiaaGreatW.PrintWords Go.Proofs.YthonlcnmjlldiaaGreatW.PrintLast Go.Proofs.YthonlcnmjlldiaaGreatW.PrintMore
open Go.ChangeShapes Go.WideShapes Go.Deep
set_option linter.unusedVariables false
set_option linter.unusedSimpArgs false
def Opens {α : Type} (P : Program) (t : TypeId) (d : Kd α) : Prop :=
  P.cellsOf t = d.sz ∧ ∀ {H : Type} {enc : TypeId × Value → H} {W : World} {base : Nat} {spare : Nat → Bool} {held : Bool} {fuel : Nat} {cs : List Value} {x : DataW H × List MemPlace},
    DataW.trod enc P W base spare held fuel t cs = some x → ∃ a : α, d.K W a cs
theorem Opens.int {P : Program} {t : TypeId} {k : IntKind} (ht : P.underlying t = some (.int k)) (hc : P.cellsOf t = 1) : Opens P t (Kd.int k) := by
  refine ⟨hc, fun {H enc W base spare held fuel cs x} h => ?_⟩
  obtain ⟨n, rfl, _, _⟩ := DataW.trod_int ht h
  exact ⟨n, rfl⟩
theorem choose_list {α : Type} {p : Nat → α → Prop} : ∀ (n : Nat), (∀ i, i < n → ∃ a, p i a) → ∃ xs : List α, xs.length = n ∧ ∀ i a, xs[i]? = some a → p i a
  | 0, _ => ⟨[], rfl, fun i a h => by simp at h⟩
  | n + 1, h => by
    obtain ⟨xs, hl, hx⟩ := choose_list n (fun i hi => h i (by omega))
    obtain ⟨a, ha⟩ := h n (by omega)
    refine ⟨xs ++ [a], by simp [hl], fun i b hb => ?_⟩
    rw [List.getElem?_append] at hb
    split at hb
    · exact hx i b hb
    · have : i = n := by
        rcases Nat.lt_or_ge (i - xs.length) 1 with h1 | h1
        · omega
        · rw [List.getElem?_eq_none (by simpa using h1)] at hb
          cases hb
      subst this
      rw [hl, Nat.sub_self] at hb
      simp at hb
      subst hb
      exact ha
theorem Opens.row {α : Type} {P : Program} {t e : TypeId} {d : Kd α} (he : Opens P e d) (ht : P.underlying t = some (.slice e)) {H : Type} {enc : TypeId × Value → H} {W : World} {base : Nat} {spare : Nat → Bool} {held : Bool} {fuel : Nat} {A : Option Addr} {len cap : Nat} {x : DataW H × List MemPlace}
    (h : DataW.trod enc P W base spare held fuel t [.slice A len cap] = some x) : ∃ xs : List α, xs.length = len ∧ len ≤ cap ∧ Kd.C d W A len xs := by
  rcases open_slice ht h with ⟨h0, _⟩ | ⟨a, l, c, m, n, D, Pl, hcs, _, hl, hm, hmm, _, hx⟩
  · simp only [List.cons.injEq, Value.slice.injEq, and_true] at h0
    obtain ⟨rfl, rfl, rfl⟩ := h0
    exact ⟨[], rfl, Nat.le_refl _, rfl, by omega, fun h => absurd h (Nat.lt_irrefl _)⟩
  · simp only [List.cons.injEq, Value.slice.injEq, and_true] at hcs
    obtain ⟨rfl, rfl, rfl⟩ := hcs
    have hlm : len ≤ m := by
      rw [hmm]
      split <;> omega
    obtain ⟨xs, hxl, hxs⟩ := choose_list (p := fun i (b : α) => ∃ c, c.length = d.sz ∧ d.K W b c ∧ ∀ j u, c[j]? = some u → W.cell? (a.add (i * d.sz + j)) = some u) len (fun i hi => by
      obtain ⟨cs', h1, h2⟩ := hx i (by omega)
      obtain ⟨b, hb⟩ := he.2 h2
      obtain ⟨_, h3, h4⟩ := World.cells?_some h1
      rw [he.1] at h3 h4
      refine ⟨b, cs', h3, hb, fun j u hu => ?_⟩
      have hj := (List.getElem?_eq_some_iff.1 hu).1
      have h5 := h4 j (by omega)
      rw [Go.Deep.add_add] at h5
      rw [h5, hu])
    exact ⟨xs, hxl, hl, hxl, Nat.le_trans hl (Nat.le_trans hm (by decide)), fun _ => ⟨a, rfl, hxs⟩⟩
theorem Opens.slice {α : Type} {P : Program} {t e : TypeId} {d : Kd α} (he : Opens P e d) (ht : P.underlying t = some (.slice e)) (hc : P.cellsOf t = 1) (q : Nat) : Opens P t (Kd.slice q d) := by
  refine ⟨hc, fun {H enc W base spare held fuel cs x} h => ?_⟩
  have hcs : ∃ A len cap, cs = [.slice A len cap] := by
    rcases open_slice ht h with ⟨h0, _⟩ | ⟨a, l, c, m, n, D, Pl, hcs, _⟩
    · exact ⟨_, _, _, h0⟩
    · exact ⟨_, _, _, hcs⟩
  obtain ⟨A, len, cap, rfl⟩ := hcs
  obtain ⟨xs, rfl, hl, hC⟩ := he.row ht h
  exact ⟨xs, A, cap, rfl, hl, hC⟩
theorem list2 {α : Type} : ∀ {l : List α}, l.length = 2 → ∃ a b, l = [a, b]
  | [a, b], _ => ⟨a, b, rfl⟩
theorem list4 {α : Type} : ∀ {l : List α}, l.length = 4 → ∃ a b c d, l = [a, b, c, d]
  | [a, b, c, d], _ => ⟨a, b, c, d, rfl⟩
theorem list5 {α : Type} : ∀ {l : List α}, l.length = 5 → ∃ a b c d e, l = [a, b, c, d, e]
  | [a, b, c, d, e], _ => ⟨a, b, c, d, e, rfl⟩
theorem cells_int : Tryz.prog.cellsOf 3 = 1 := by kernel_rfl
theorem cells_heat : Tryz.prog.cellsOf 68 = 2 := by kernel_rfl
theorem cells_seat : Tryz.prog.cellsOf 70 = 4 := by kernel_rfl
theorem cells_order : Tryz.prog.cellsOf 72 = 5 := by kernel_rfl
theorem one_int {H : Type} {enc : TypeId × Value → H} {W : World} {base : Nat} {spare : Nat → Bool} {held : Bool} {fuel : Nat} {cs : List Value} {x : DataW H × List MemPlace}
    (h : DataW.trod enc Tryz.prog W base spare held fuel 3 cs = some x) : ∃ n, cs = [.int .i64 n] := by
  obtain ⟨n, e, _⟩ := DataW.trod_int Tryz.underlying3 h
  exact ⟨n, e⟩
theorem opens_heat : Opens Tryz.prog 68 k68 := by
  refine ⟨cells_heat, fun {H enc W base spare held fuel cs x} h => ?_⟩
  obtain ⟨y0, y1, n, _, hl, h0, h1⟩ := trod_struct2 Tryz.underlying68 h
  rw [cells_heat] at hl
  obtain ⟨c0, c1, rfl⟩ := list2 hl
  obtain ⟨n0, e0⟩ := one_int h0
  obtain ⟨n1, e1⟩ := one_int h1
  rw [cells_int] at e0 e1
  obtain ⟨rfl, _⟩ := List.cons.inj e0
  obtain ⟨rfl, _⟩ := List.cons.inj e1
  exact ⟨⟨n0, n1⟩, k68_mk W ⟨n0, n1⟩⟩
theorem opens_seat : Opens Tryz.prog 70 k70 := by
  refine ⟨cells_seat, fun {H enc W base spare held fuel cs x} h => ?_⟩
  obtain ⟨y0, y1, y2, n, _, hl, h0, h1, h2⟩ := trod_struct3 Tryz.underlying70 h
  rw [cells_seat] at hl
  obtain ⟨c0, c1, c2, c3, rfl⟩ := list4 hl
  obtain ⟨s, e0⟩ := opens_heat.2 h0
  have e0 := k68_open e0
  obtain ⟨n1, e1⟩ := one_int h1
  obtain ⟨n2, e2⟩ := one_int h2
  rw [cells_int] at e1 e2
  rw [cells_heat] at e0
  simp only [List.drop, List.take, List.cons.injEq, and_true] at e0 e1 e2
  obtain ⟨rfl, rfl⟩ := e0
  subst e1
  subst e2
  exact ⟨⟨s, n1, n2⟩, k70_mk W ⟨s, n1, n2⟩⟩
theorem opens_order : Opens Tryz.prog 72 k72 := by
  refine ⟨cells_order, fun {H enc W base spare held fuel cs x} h => ?_⟩
  obtain ⟨y0, y1, y2, y3, n, _, hl, h0, h1, h2, h3⟩ := Go.Joins.trod_struct4 Tryz.underlying72 h
  rw [cells_order] at hl
  obtain ⟨c0, c1, c2, c3, c4, rfl⟩ := list5 hl
  obtain ⟨n0, e0⟩ := one_int h0
  obtain ⟨n1, e1⟩ := one_int h1
  obtain ⟨s, e2⟩ := opens_heat.2 h2
  have e2 := k68_open e2
  obtain ⟨n3, e3⟩ := one_int h3
  rw [cells_int] at e0 e1 e3
  rw [cells_heat] at e2
  simp only [List.drop, List.take, List.cons.injEq, and_true] at e0 e1 e2 e3
  obtain ⟨rfl, rfl⟩ := e2
  subst e0
  subst e1
  subst e3
  exact ⟨⟨n0, n1, s, n3⟩, k72_mk W ⟨n0, n1, s, n3⟩⟩
end Go.Proofs.YthonlcnmjlldiaaGreat.P
