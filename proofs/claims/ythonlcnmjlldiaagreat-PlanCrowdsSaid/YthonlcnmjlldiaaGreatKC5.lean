/- potbanklaw06.PlanCrowds returns true for every input, and what comes in reads as it did. Conditions: none. Part 5 of the proof: its own texts, joined, and of the kit's printed words those that it uses. -/
import Derived.Test.YthonlcnmjlldiaaGreatKC1
import Derived.Test.YthonlcnmjlldiaaGreatKC2
import Derived.Test.YthonlcnmjlldiaaGreatKC3
import Derived.Test.YthonlcnmjlldiaaGreatKC4
import Derived.Lib.SliceRun
import Derived.Deep.RegionLaw
import Derived.IntWalk
namespace Go.Proofs.YthonlcnmjlldiaaGreat.P
open Go.Shelf Go.RowKit Go.Proofs.YthonlcnmjlldiaaGreatW.PrintWords Go.Proofs.YthonlcnmjlldiaaGreatW.PrintLast Go.Proofs.YthonlcnmjlldiaaGreatW.PrintMore
set_option linter.unusedVariables false
set_option linter.unusedSimpArgs false
attribute [local go_sem] Oper.semAt_some
def aheadB (l : List Order) (s best : Nat) : Bool := decide (needI l (best : Int) < needI l (s : Int)) || (decide (needI l (s : Int) = needI l (best : Int)) && decide (cmpL (bitsL (s : Int)) (bitsL (best : Int)) < 0))
def fullStep (k : List Seat) (l : List Order) (best s : Nat) : Nat := if aheadB l s best && fitsB k l s then s else best
def fullOf (k : List Seat) (l : List Order) (ss : List Nat) : Nat := ss.foldl (fullStep k l) 0
def fullN (k : List Seat) (l : List Order) : Nat := fullOf k l ((partsF (allN l)).map (·.val))
theorem fullOf_snoc (k : List Seat) (l : List Order) (ss : List Nat) (s : Nat) : fullOf k l (ss ++ [s]) = fullStep k l (fullOf k l ss) s := by
  unfold fullOf
  rw [List.foldl_append]
  rfl
theorem fullOf_le {k : List Seat} {l : List Order} {m : Nat} : ∀ ss : List Nat, (∀ s ∈ ss, s ≤ m) → fullOf k l ss ≤ m := by
  have aux : ∀ (ss : List Nat) (b : Nat), (∀ s ∈ ss, s ≤ m) → b ≤ m → ss.foldl (fullStep k l) b ≤ m := by
    intro ss
    induction ss with
    | nil => intro b _ h; exact h
    | cons s ss ih =>
      intro b h hb
      refine ih _ (fun x hx => h x (by simp [hx])) ?_
      unfold fullStep
      split
      · exact h s (by simp)
      · exact hb
  intro ss h
  exact aux ss 0 h (Nat.zero_le _)
def plan_Fullest.f (l0 : List Seat) (l1 : List Order) : Option (List Int × Int) := some (if askErr l0 l1 = 0 then (bitsL (fullN l0 l1 : Int), 0) else ([], askErr l0 l1))
set_option maxHeartbeats 4000000 in
set_option maxRecDepth 100000 in
theorem plan_Fullest.calls (A0 : Option Addr) (c0 : Nat) (l0 : List Seat) (A1 : Option Addr) (c1 : Nat) (l1 : List Order) (r1 : List Int) (r2 : Int) (w : World) (hr0 : KS w A0 l0) (hc0 : l0.length ≤ c0) (hr1 : KO w A1 l1) (hc1 : l1.length ≤ c1) (h : plan_Fullest.f l0 l1 = some (r1, r2)) :
    Calls Tryz.prog 39 #[.slice A0 l0.length c0, .slice A1 l1.length c1] w fun e w' => ∃ v0_ : Value, e = .returned (.tuple #[v0_, .int .i64 r2]) ∧ Kd.R (Kd.int .i64) 3 w' w.heap.size (fun _ => True) v0_ r1 ∧ Below w.heap.size w w' := by
  have h := Option.some.inj h
  by_cases he : askErr l0 l1 = 0
  · rw [if_pos he] at h
    have hF := (fine_ask he).1
    have hbw := below_alloc (Below.refl w.heap.size w) (.cells #[.slice A1 l1.length c1] 23)
    have hA := asked_ok (Kd.C_below hr0 hbw) hc0 (Kd.C_below hr1 hbw) hc1 (askErr_ok he).1 (askErr_ok he).2
    simp only [Prod.mk.injEq] at h
    obtain ⟨h1, rfl⟩ := h
    have hm := two_lt hF.h9 (allN_lt l1)
    have hp := fun W => parts_b hm W
    have hal := fun (W : World) ob mb (hW : Off W ob mb l0 l1) => all_b hW hF
    rw [allN_int] at hal
    have hmix : Tryz.prog.follows .mixedOrders = true := by kernel_rfl
    have HP := Aside0.mk hp
    have HAL := Aside0.mk hal
    have HA := Aside0.mk hA
    have HF := Aside0.mk hF
    have HM := Aside0.mk (fun (s : Sub (allN l1)) => (show s.val.val < 2 ^ l1.length from Nat.lt_of_le_of_lt s.2 (allN_lt l1)))
    have HHM := Aside0.mk hm
    have HR1 := Aside0.mk hr1
    have H1 := Aside0.mk (show bitsL (fullOf l0 l1 (valS (partsS hm)) : Int) = r1 by rw [valS_all]; exact h1)
    clear hA he hF hr0 hr1 h1 hp hal hbw
    refine (callsIn_wide (n := 7)).1 ?_
    refine callsIn_of_wp_marks Tryz.func39 rfl trivial ?_ rfl
    simp only [Tryz.ntmps39, List.size_toArray, List.length_cons, List.length_nil, Nat.reduceAdd, Nat.reduceSub, Array.replicate_succ, Array.replicate_zero, List.push_toArray, List.append_toArray, List.nil_append, List.cons_append]
    gi_wp2_with (first | (refine ⟨trivial, ?_⟩; gi_at_call 42; refine (callsIn_wide.2 HA.out).mono ?_; rintro e w2 ⟨ob, mb, rfl, hO, hb, hl1, hl2⟩; have HO := Aside0.mk hO; have HB := Aside0.mk hb; clear hO hb) | (refine ⟨trivial, ?_⟩; gi_at_call 62; refine (callsIn_wide.2 (HAL.out _ ob mb (HO.out.below (below_alloc (below_alloc (Below.refl _ _) _) _)))).mono ?_; rintro e V ⟨rfl, hV⟩; have hV2 := hV.symm; clear hV; subst hV2) | (refine ⟨trivial, ?_⟩; gi_at_call 86; refine (callsIn_wide.2 (HP.out _)).mono ?_; rintro e W2 ⟨bx, g, cap, rfl, hPA, hlg, hlb, hbe⟩; have HPA := Aside0.mk hPA; have HBE := Aside0.mk hbe; clear hPA hbe))
    have hO := HO.out
    have hb := HB.out
    have hlt := hO.lt
    have hbx0 : Boxed w2 w.heap.size 23 (.slice A1 l1.length c1) := (Boxed.new w _ _).kept (grown_of_below hb none) (by simp)
    have hw2 := hb.size
    rw [World.size_alloc] at hw2 hl1 hl2
    have hbw2 : Below w.heap.size w w2 := below_refl_trans (below_alloc (Below.refl _ _) _) hb
    obtain ⟨V1, hV1⟩ : ∃ V1, ((w2.alloc (.cells #[.pointer (some ⟨ob, 0, none⟩)] 80)).alloc (.cells #[.int .u64 0] 93)) = V1 := ⟨_, rfl⟩
    rw [hV1] at HBE hlg hlb
    have b1 : Boxed V1 w2.heap.size 80 (.pointer (some ⟨ob, 0, none⟩)) := by rw [← hV1]; exact (Boxed.new w2 _ _).alloc _
    have b2 : Boxed V1 (w2.heap.size + 1) 93 (.int .u64 0) := by
      rw [← hV1]
      have h := Boxed.new (w2.alloc (.cells #[.pointer (some ⟨ob, 0, none⟩)] 80)) 93 (.int .u64 0)
      rwa [World.size_alloc] at h
    have hbV : Below w2.heap.size w2 V1 := by rw [← hV1]; exact below_alloc (below_alloc (Below.refl _ _) _) _
    have hsV : V1.heap.size = w2.heap.size + 1 + 1 := by rw [← hV1]; simp
    clear hV1
    have hbe := HBE.out
    have hb22 : Below w2.heap.size w2 W2 := below_refl_trans hbV hbe
    have q1 := b1.kept (grown_of_below hbe none) (by simp)
    have q2 := b2.kept (grown_of_below hbe none) (by simp)
    have hs22 := hbe.size
    have hgl := HPA.out.2.2
    refine wpIn_rangeFunc_ownG rfl (by omega) (gf := 132) (lb := #[.pointer (some ⟨bx, 0, none⟩)]) rfl trivial (enters_of Tryz.func132 (by kernel_rfl) rfl) (values_stops Fence.wide 6 trivial rfl (by omega) HHM.out HPA.out) KeepV.trans (KeepV.putObj hgl.1 hgl.2) (Below.refl _ _) (fun _ => rfl)
      (fun pre W => RM W mb l0 l1 ∧ w2.grownBy W (some mb) ∧ Boxed W w2.heap.size 80 (.pointer (some ⟨ob, 0, none⟩)) ∧ Boxed W (w2.heap.size + 1) 93 (.int .u64 ((fullOf l0 l1 (valS pre) : Nat) : Int)) ∧ W2.heap.size ≤ W.heap.size)
      (fun _ _ _ => False)
      ?hI (fun _ _ _ _ _ h _ _ => h) ?h0
      (fun x => { tmps := #[.slice A0 l0.length c0, .slice A1 l1.length c1, undef, .pointer (some ⟨w.heap.size, 0, none⟩), .slice none 0 0, .int .i64 0, .pointer (some ⟨w2.heap.size, 0, none⟩), .int .i64 0, .pointer (some ⟨w2.heap.size + 1, 0, none⟩), .int .u64 (x.val.val : Int), undef, undef, .tuple #[.pointer (some ⟨ob, 0, none⟩), .int .i64 0], .slice A0 l0.length c0, .slice A1 l1.length c1, .tuple #[.pointer (some ⟨ob, 0, none⟩), .int .i64 0], .pointer (some ⟨ob, 0, none⟩), .int .i64 0, .int .i64 0, .bool false, undef, .pointer (some ⟨ob, 0, none⟩), .int .u64 ((allN l1 : Nat) : Int), .func (.func 132) #[] #[.pointer (some ⟨bx, 0, none⟩)], .int .u64 (x.val.val : Int), undef, undef, undef, undef, undef, undef, undef, undef, undef, undef, undef, undef, undef, undef, undef, undef, undef, undef, undef, undef, undef, undef, undef, undef, undef, undef, undef, undef, undef, undef], defers := [] }) ?assign ?body ?done ?stop
    case hI =>
      rintro pre W W' row ⟨g1, g2, g3, g4, g5⟩ hg hr
      have hne : ∀ b : Nat, b < W2.heap.size → some b ≠ row := fun b hb e => by have := (hr _ e.symm).1; omega
      exact ⟨g1.step (hg.block mb (by omega) (hne _ (by omega))), grown_own g2 hg (fun x e => by have := (hr x e).1; omega), g3.kept hg (hne _ (by omega)), g4.kept hg (hne _ (by omega)), Nat.le_trans g5 hg.size⟩
    case h0 => exact ⟨(hO.below hb22).rm, grown_of_below hb22 _, q1, q2, Nat.le_refl _⟩
    case assign =>
      intro l' x W K hK
      gi_wp2
      exact hK
    case body =>
      rintro l' pre x W ⟨g1, g2, g3, g4, g5⟩ _
      have hx := HM.out x
      have hx5 : x.val.val < 512 := x.val.isLt
      have hble : fullOf l0 l1 (valS pre) ≤ allN l1 := fullOf_le _ (fun s hs => valS_le hs)
      have hb5 : fullOf l0 l1 (valS pre) < 512 := by have := HHM.out; omega
      have hmbW : mb < W.heap.size := by have := g2.size; omega
      have hfi := fun (Z : World) (hZ : Below W.heap.size W Z) => fits_b (hO.grow (grown_below g2 hZ) (g1.step (hZ.block mb hmbW))) HF.out hx
      have hbw : Below w.heap.size w W := hbw2.grown g2 (by omega) (fun j hj => by cases hj; omega)
      have hn1 := fun (V : World) (hV : Below W.heap.size W V) => need_b (m := (x.val.val : Int)) HF.out.hl HF.out.h9 (by omega) (by omega) (Kd.C_below HR1.out (below_refl_trans hbw hV)) hc1
      have hn2 := fun (V : World) (hV : Below W.heap.size W V) => need_b (m := ((fullOf l0 l1 (valS pre) : Nat) : Int)) HF.out.hl HF.out.h9 (by omega) (by omega) (Kd.C_below HR1.out (below_refl_trans hbw hV)) hc1
      have hsn : fullOf l0 l1 (valS (pre ++ [x])) = fullStep l0 l1 (fullOf l0 l1 (valS pre)) x.val.val := by
        unfold valS
        rw [List.map_append]
        exact fullOf_snoc _ _ _ _
      obtain ⟨best, hbest⟩ : ∃ best, best = fullOf l0 l1 (valS pre) := ⟨_, rfl⟩
      rw [← hbest] at g4 hble hb5 hn2 hsn
      have hbxW := hbx0.kept g2 (by simp; omega)
      have e0 := hbxW.cell
      have e4 := g4.cell
      have e6 := g3.cell
      have HN1 := Aside0.mk hn1
      have HN2 := Aside0.mk hn2
      have HSN := Aside0.mk hsn
      have HFI := Aside0.mk hfi
      have HL1 := Aside0.mk (fun V => list_b (m := (x.val.val : Int)) (by omega) (by omega) V)
      have HL2 := Aside0.mk (fun V => list_b (m := (best : Int)) (by omega) (by omega) V)
      have HCS := Aside0.mk (compare_some (x.val.val : Int) (best : Int))
      have G1 := Aside0.mk g1
      have G2 := Aside0.mk g2
      clear g1 g2 hfi hn1 hn2 hsn hbest hx hble
      gi_wp2
      refine wpIn_mono (Q := fun e a' V => e = .normal ∧ a' = { tmps := #[.slice A0 l0.length c0, .slice A1 l1.length c1, undef, .pointer (some ⟨w.heap.size, 0, none⟩), .slice none 0 0, .int .i64 0, .pointer (some ⟨w2.heap.size, 0, none⟩), .int .i64 0, .pointer (some ⟨w2.heap.size + 1, 0, none⟩), .int .u64 (x.val.val : Int), .int .i64 (needI l1 (x.val.val : Int)), .int .i64 (needI l1 (best : Int)), .tuple #[.pointer (some ⟨ob, 0, none⟩), .int .i64 0], .slice A0 l0.length c0, .slice A1 l1.length c1, .tuple #[.pointer (some ⟨ob, 0, none⟩), .int .i64 0], .pointer (some ⟨ob, 0, none⟩), .int .i64 0, .int .i64 0, .bool false, undef, .pointer (some ⟨ob, 0, none⟩), .int .u64 ((allN l1 : Nat) : Int), .func (.func 132) #[] #[.pointer (some ⟨bx, 0, none⟩)], .int .u64 (x.val.val : Int), .slice A1 l1.length c1, .int .u64 (x.val.val : Int), .int .i64 (needI l1 (x.val.val : Int)), .slice A1 l1.length c1, .int .u64 (best : Int), .int .i64 (needI l1 (best : Int)), undef, undef, undef, undef, undef, undef, undef, undef, undef, undef, undef, undef, undef, undef, undef, undef, undef, undef, undef, undef, undef, undef, undef, undef], defers := [] } ∧ Below W.heap.size W V) ?r7 ?rest
      case r7 =>
        gi_region_with_o (first | (refine ⟨trivial, ?_⟩; gi_at_call 71; first | ((with_reducible refine (CallsIn.inRound l' (callsIn_wide.2 (HN1.out _ (below_drew (Below.refl _ _))))).mono ?_); rintro e W3 ⟨rfl, hb3⟩; have e10 := (hb3.cell (p := ⟨w.heap.size, 0, none⟩) hbxW.lt).trans hbxW.cell; have e11 := (hb3.cell (p := ⟨w2.heap.size + 1, 0, none⟩) g4.lt).trans g4.cell) | ((with_reducible refine (CallsIn.inRound l' (callsIn_wide.2 (HN2.out _ (below_drew (Below.refl _ _))))).mono ?_); rintro e W3 ⟨rfl, hb3⟩; have e10 := (hb3.cell (p := ⟨w.heap.size, 0, none⟩) hbxW.lt).trans hbxW.cell; have e11 := (hb3.cell (p := ⟨w2.heap.size + 1, 0, none⟩) g4.lt).trans g4.cell) | ((with_reducible refine (CallsIn.inRound l' (callsIn_wide.2 (HN1.out _ (below_refl_trans (below_drew (Below.refl _ _)) hb3)))).mono ?_); rintro e W4 ⟨rfl, hb4⟩) | ((with_reducible refine (CallsIn.inRound l' (callsIn_wide.2 (HN2.out _ (below_refl_trans (below_drew (Below.refl _ _)) hb3)))).mono ?_); rintro e W4 ⟨rfl, hb4⟩)))
        all_goals exact ⟨rfl, rfl, below_refl_trans (below_refl_trans (below_drew (Below.refl _ _)) hb3) hb4⟩
      case rest =>
        rintro e a' V ⟨rfl, rfl, hbV⟩
        have hbVd : Below W.heap.size W V.drew := below_drew hbV
        have bV6 := g3.kept (grown_of_below hbV none) (by simp)
        have bV8 := g4.kept (grown_of_below hbV none) (by simp)
        have w6 := bV6.cell
        have w8 := bV8.cell
        have HRM := Aside0.mk (G1.out.step (hbV.block mb hmbW))
        have HMB := Aside0.mk (show mb < V.heap.size by have := hbV.size; omega)
        obtain ⟨r, hr⟩ : ∃ r : Bool, r = ((decide (needI l1 (best : Int) < needI l1 (x.val.val : Int)) || (decide (needI l1 (x.val.val : Int) = needI l1 (best : Int)) && decide (cmpL (bitsL (x.val.val : Int)) (bitsL (best : Int)) < 0))) && fitsB l0 l1 x.val.val) := ⟨_, rfl⟩
        have hfs : fullStep l0 l1 best x.val.val = if r then x.val.val else best := by rw [hr]; rfl
        have HFS := Aside0.mk (HSN.out.trans hfs)
        have HR := Aside0.mk hr
        clear hfs HSN hr hbxW e0 e4 e6
        generalize needI l1 (x.val.val : Int) = nS at *
        generalize needI l1 (best : Int) = nB at *
        generalize cmpL (bitsL (x.val.val : Int)) (bitsL (best : Int)) = cc at *
        generalize bitsL (x.val.val : Int) = ls at *
        generalize bitsL (best : Int) = lb at *
        generalize fitsB l0 l1 x.val.val = ft at *
        gi_wp2
        refine wpIn_mono (Q := fun e a' Z => e = .normal ∧ (∃ u31 u32 u33 u34 u35 u36 u37 u38 u39 u40 u41 u42 u43 u44 u45 u46 u47 u48 u49 u50, a' = { tmps := #[.slice A0 l0.length c0, .slice A1 l1.length c1, undef, .pointer (some ⟨w.heap.size, 0, none⟩), .slice none 0 0, .int .i64 0, .pointer (some ⟨w2.heap.size, 0, none⟩), .int .i64 0, .pointer (some ⟨w2.heap.size + 1, 0, none⟩), .int .u64 (x.val.val : Int), .int .i64 nS, .int .i64 nB, .tuple #[.pointer (some ⟨ob, 0, none⟩), .int .i64 0], .slice A0 l0.length c0, .slice A1 l1.length c1, .tuple #[.pointer (some ⟨ob, 0, none⟩), .int .i64 0], .pointer (some ⟨ob, 0, none⟩), .int .i64 0, .int .i64 0, .bool false, undef, .pointer (some ⟨ob, 0, none⟩), .int .u64 ((allN l1 : Nat) : Int), .func (.func 132) #[] #[.pointer (some ⟨bx, 0, none⟩)], .int .u64 (x.val.val : Int), .slice A1 l1.length c1, .int .u64 (x.val.val : Int), .int .i64 nS, .slice A1 l1.length c1, .int .u64 (best : Int), .int .i64 nB, u31, u32, u33, u34, u35, u36, u37, u38, u39, u40, u41, u42, u43, u44, u45, u46, u47, u48, u49, u50, .bool r, undef, undef, undef], defers := [] }) ∧ V.grownBy Z (some mb) ∧ RM Z mb l0 l1) ?r8 ?rest2
        case r8 =>
          clear HN1 HN2 HBE HA HAL HP HM HHM HPA b1 b2 q1 q2
          by_cases hA : nB < nS
          · have dA : decide (nS > nB) = true := decide_eq_true hA
            have dA2 : decide (nB < nS) = true := decide_eq_true hA
            obtain rfl : r = ft := by rw [HR.out, dA2]; simp
            refine reg_start l' hmix (by kernel_rfl) 21 [false, false, false, false, false, false, false, false, false, false, false, false, false, false, false, false, false, false, false, false, false] rfl rfl ?_
            refine reg_take (v := ?v1) 0 rfl (by kernel_rfl) (by kernel_rfl) (by kernel_rfl) (fun _ _ _ h => by cases h.1) (by kernel_rfl) (fun _ => rfl) ?hy1 ?re1
            case hy1 => intro w; go_simp; with_reducible rfl
            case re1 =>
              simp only [Act.put, List.setIfInBounds_toArray, List.set_cons_succ, List.set_cons_zero]
              refine reg_take (v := ?v2) 1 rfl (by kernel_rfl) (by kernel_rfl) (by kernel_rfl) (fun _ _ _ h => by cases h.1) (by kernel_rfl) (fun _ => rfl) ?hy2 ?re2
              case hy2 => intro w; go_simp; with_reducible rfl
              case re2 =>
                simp only [Act.put, List.setIfInBounds_toArray, List.set_cons_succ, List.set_cons_zero]
                refine reg_take (v := ?v3) 2 rfl (by kernel_rfl) (by kernel_rfl) (by kernel_rfl) (fun _ _ _ h => by cases h.1) (by kernel_rfl) (fun _ => rfl) ?hy3 ?re3
                case hy3 => intro w; go_simp; with_reducible rfl
                case re3 =>
                  simp only [Act.put, List.setIfInBounds_toArray, List.set_cons_succ, List.set_cons_zero]
                  refine reg_take (v := ?v4) 3 rfl (by kernel_rfl) (by kernel_rfl) (by kernel_rfl) (fun _ _ _ h => by cases h.1) (by kernel_rfl) (fun _ => rfl) ?hy4 ?re4
                  case hy4 => intro w; go_simp; with_reducible rfl
                  case re4 =>
                    simp only [Act.put, List.setIfInBounds_toArray, List.set_cons_succ, List.set_cons_zero]
                    refine reg_pass 4 rfl (by kernel_rfl) (by kernel_rfl) (by kernel_rfl) (fun _ _ _ h => by cases h.1) (by kernel_rfl) (fun _ => rfl) ?_
                    simp only [Act.put, List.setIfInBounds_toArray, List.set_cons_succ, List.set_cons_zero]
                    refine reg_pass 5 rfl (by kernel_rfl) (by kernel_rfl) (by kernel_rfl) (fun _ _ _ h => by cases h.1) (by kernel_rfl) (fun _ => rfl) ?_
                    simp only [Act.put, List.setIfInBounds_toArray, List.set_cons_succ, List.set_cons_zero]
                    refine reg_pass 6 rfl (by kernel_rfl) (by kernel_rfl) (by kernel_rfl) (fun _ _ _ h => by cases h.1) (by kernel_rfl) (fun _ => rfl) ?_
                    simp only [Act.put, List.setIfInBounds_toArray, List.set_cons_succ, List.set_cons_zero]
                    refine reg_pass 7 rfl (by kernel_rfl) (by kernel_rfl) (by kernel_rfl) (fun _ _ _ h => by cases h.1) (by kernel_rfl) (fun _ => rfl) ?_
                    simp only [Act.put, List.setIfInBounds_toArray, List.set_cons_succ, List.set_cons_zero]
                    refine reg_pass 8 rfl (by kernel_rfl) (by kernel_rfl) (by kernel_rfl) (fun _ _ _ h => by cases h.1) (by kernel_rfl) (fun _ => rfl) ?_
                    simp only [Act.put, List.setIfInBounds_toArray, List.set_cons_succ, List.set_cons_zero]
                    refine reg_pass 10 rfl (by kernel_rfl) (by kernel_rfl) (by kernel_rfl) (fun _ _ _ h => by cases h.1) (by kernel_rfl) (fun _ => rfl) ?_
                    simp only [Act.put, List.setIfInBounds_toArray, List.set_cons_succ, List.set_cons_zero]
                    refine reg_ready [9] (by kernel_rfl) (by simp) (RegR.pass rfl (by kernel_rfl) ?_ RegR.nil)
                    simp only [Act.put, List.setIfInBounds_toArray, List.set_cons_succ, List.set_cons_zero]
                    refine reg_ready [11] (by kernel_rfl) (by simp) (RegR.pass rfl (by kernel_rfl) ?_ RegR.nil)
                    simp only [Act.put, List.setIfInBounds_toArray, List.set_cons_succ, List.set_cons_zero]
                    refine reg_ready [12] (by kernel_rfl) (by simp) (RegR.pass rfl (by kernel_rfl) ?_ RegR.nil)
                    simp only [Act.put, List.setIfInBounds_toArray, List.set_cons_succ, List.set_cons_zero]
                    refine reg_pass 13 rfl (by kernel_rfl) (by kernel_rfl) (by kernel_rfl) (fun _ _ _ h => by cases h.1) (by kernel_rfl) (fun _ => rfl) ?_
                    simp only [Act.put, List.setIfInBounds_toArray, List.set_cons_succ, List.set_cons_zero]
                    refine reg_pass 14 rfl (by kernel_rfl) (by kernel_rfl) (by kernel_rfl) (fun _ _ _ h => by cases h.1) (by kernel_rfl) (fun _ => rfl) ?_
                    simp only [Act.put, List.setIfInBounds_toArray, List.set_cons_succ, List.set_cons_zero]
                    refine reg_take (v := ?v5) 15 rfl (by kernel_rfl) (by kernel_rfl) (by kernel_rfl) (fun _ _ _ h => by cases h.1) (by kernel_rfl) (fun _ => rfl) ?hy5 ?re5
                    case hy5 => intro w; go_simp; with_reducible rfl
                    case re5 =>
                      simp only [Act.put, List.setIfInBounds_toArray, List.set_cons_succ, List.set_cons_zero]
                      refine reg_take (v := ?v6) 16 rfl (by kernel_rfl) (by kernel_rfl) (by kernel_rfl) (fun _ _ _ h => by cases h.1) (by kernel_rfl) (fun _ => rfl) ?hy6 ?re6
                      case hy6 => intro w; go_simp; with_reducible rfl
                      case re6 =>
                        simp only [Act.put, List.setIfInBounds_toArray, List.set_cons_succ, List.set_cons_zero]
                        refine reg_take (v := ?v7) 18 rfl (by kernel_rfl) (by kernel_rfl) (by kernel_rfl) (fun _ _ _ h => by cases h.1) (by kernel_rfl) (fun _ => rfl) ?hy7 ?re7
                        case hy7 => intro w; go_simp; with_reducible rfl
                        case re7 =>
                          simp only [Act.put, List.setIfInBounds_toArray, List.set_cons_succ, List.set_cons_zero]
                          refine reg_ready [17] (by kernel_rfl) (by simp) ?_
                          refine RegR.cons rfl (by kernel_rfl) (fun K hK => ?_) RegR.nil
                          · go_simp
                            refine hK _ _ ?_
                            clear hK K
                            simp only [Act.put, List.setIfInBounds_toArray, List.set_cons_succ, List.set_cons_zero]
                            refine reg_ready [19] (by kernel_rfl) (by simp) ?_
                            refine RegR.cons rfl (by kernel_rfl) (fun K hK => ?_) RegR.nil
                            · go_simp
                              refine ⟨trivial, ?_⟩
                              gi_at_call 64
                              refine (callsIn_wide.2 (HFI.out _ hbVd)).mono ?_
                              rintro e Z19 ⟨rfl, hO19, hg19⟩
                              refine hK _ _ ?_
                              clear hK K
                              simp only [Act.put, List.setIfInBounds_toArray, List.set_cons_succ, List.set_cons_zero]
                              refine reg_take (v := ?v8) 20 rfl (by kernel_rfl) (by kernel_rfl) (by kernel_rfl) (fun _ _ _ h => by cases h.1) (by kernel_rfl) (fun _ => rfl) ?hy8 ?re8
                              case hy8 => intro w; go_simp; with_reducible rfl
                              case re8 =>
                                simp only [Act.put, List.setIfInBounds_toArray, List.set_cons_succ, List.set_cons_zero]
                                refine reg_done (by kernel_rfl) ?_
                                exact ⟨rfl, ⟨_, _, _, _, _, _, _, _, _, _, _, _, _, _, _, _, _, _, _, _, rfl⟩, below_grown' (below_drew (Below.refl V.heap.size V)) hg19, hO19.rm⟩
          · have dA : decide (nS > nB) = false := decide_eq_false hA
            have dA2 : decide (nB < nS) = false := decide_eq_false hA
            by_cases hE : nS = nB
            · subst hE
              have dE : (nS == nS) = true := by simp
              by_cases hc : cc < 0
              · have dc : decide (cc < 0) = true := decide_eq_true hc
                obtain rfl : r = ft := by rw [HR.out, dA2, dc]; simp
                refine reg_start l' hmix (by kernel_rfl) 21 [false, false, false, false, false, false, false, false, false, false, false, false, false, false, false, false, false, false, false, false, false] rfl rfl ?_
                refine reg_take (v := ?v9) 0 rfl (by kernel_rfl) (by kernel_rfl) (by kernel_rfl) (fun _ _ _ h => by cases h.1) (by kernel_rfl) (fun _ => rfl) ?hy9 ?re9
                case hy9 => intro w; go_simp; with_reducible rfl
                case re9 =>
                  simp only [Act.put, List.setIfInBounds_toArray, List.set_cons_succ, List.set_cons_zero]
                  refine reg_take (v := ?v10) 1 rfl (by kernel_rfl) (by kernel_rfl) (by kernel_rfl) (fun _ _ _ h => by cases h.1) (by kernel_rfl) (fun _ => rfl) ?hy10 ?re10
                  case hy10 => intro w; go_simp; with_reducible rfl
                  case re10 =>
                    simp only [Act.put, List.setIfInBounds_toArray, List.set_cons_succ, List.set_cons_zero]
                    refine reg_take (v := ?v11) 2 rfl (by kernel_rfl) (by kernel_rfl) (by kernel_rfl) (fun _ _ _ h => by cases h.1) (by kernel_rfl) (fun _ => rfl) ?hy11 ?re11
                    case hy11 => intro w; go_simp; with_reducible rfl
                    case re11 =>
                      simp only [Act.put, List.setIfInBounds_toArray, List.set_cons_succ, List.set_cons_zero]
                      refine reg_take (v := ?v12) 3 rfl (by kernel_rfl) (by kernel_rfl) (by kernel_rfl) (fun _ _ _ h => by cases h.1) (by kernel_rfl) (fun _ => rfl) ?hy12 ?re12
                      case hy12 => intro w; go_simp; with_reducible rfl
                      case re12 =>
                        simp only [Act.put, List.setIfInBounds_toArray, List.set_cons_succ, List.set_cons_zero]
                        refine reg_take (v := ?v13) 4 rfl (by kernel_rfl) (by kernel_rfl) (by kernel_rfl) (fun _ _ _ h => by cases h.1) (by kernel_rfl) (fun _ => rfl) ?hy13 ?re13
                        case hy13 => intro w; go_simp; with_reducible rfl
                        case re13 =>
                          simp only [Act.put, List.setIfInBounds_toArray, List.set_cons_succ, List.set_cons_zero]
                          refine reg_take (v := ?v14) 5 rfl (by kernel_rfl) (by kernel_rfl) (by kernel_rfl) (fun _ _ _ h => by cases h.1) (by kernel_rfl) (fun _ => rfl) ?hy14 ?re14
                          case hy14 => intro w; go_simp; with_reducible rfl
                          case re14 =>
                            simp only [Act.put, List.setIfInBounds_toArray, List.set_cons_succ, List.set_cons_zero]
                            refine reg_take (v := ?v15) 6 rfl (by kernel_rfl) (by kernel_rfl) (by kernel_rfl) (fun _ _ _ h => by cases h.1) (by kernel_rfl) (fun _ => rfl) ?hy15 ?re15
                            case hy15 => intro w; go_simp; with_reducible rfl
                            case re15 =>
                              simp only [Act.put, List.setIfInBounds_toArray, List.set_cons_succ, List.set_cons_zero]
                              refine reg_take (v := ?v16) 7 rfl (by kernel_rfl) (by kernel_rfl) (by kernel_rfl) (fun _ _ _ h => by cases h.1) (by kernel_rfl) (fun _ => rfl) ?hy16 ?re16
                              case hy16 => intro w; go_simp; with_reducible rfl
                              case re16 =>
                                simp only [Act.put, List.setIfInBounds_toArray, List.set_cons_succ, List.set_cons_zero]
                                refine reg_take (v := ?v17) 8 rfl (by kernel_rfl) (by kernel_rfl) (by kernel_rfl) (fun _ _ _ h => by cases h.1) (by kernel_rfl) (fun _ => rfl) ?hy17 ?re17
                                case hy17 => intro w; go_simp; with_reducible rfl
                                case re17 =>
                                  simp only [Act.put, List.setIfInBounds_toArray, List.set_cons_succ, List.set_cons_zero]
                                  refine reg_ready [9, 10] (by kernel_rfl) (by simp) ?_
                                  refine RegR.cons rfl (by kernel_rfl) (fun K hK => ?_) ?_
                                  · go_simp
                                    refine ⟨trivial, ?_⟩
                                    gi_at_call 74
                                    refine (callsIn_wide.2 (HL1.out _)).mono ?_
                                    rintro e Z9 ⟨A9, c9, rfl, hc9, hC9, hb9⟩
                                    have HB9 := Aside0.mk (below_refl_trans (below_drew (Below.refl V.heap.size V)) hb9)
                                    have f9 := (bV8.kept (grown_of_below HB9.out none) (by simp)).cell
                                    have h9 := (bV6.kept (grown_of_below HB9.out none) (by simp)).cell
                                    refine hK _ _ ?_
                                    clear hK K
                                    simp only [Act.put, List.setIfInBounds_toArray, List.set_cons_succ, List.set_cons_zero]
                                    refine reg_ready [10] (by kernel_rfl) (by simp) ?_
                                    refine RegR.cons rfl (by kernel_rfl) (fun K hK => ?_) RegR.nil
                                    · go_simp
                                      refine hK _ _ ?_
                                      clear hK K
                                      simp only [Act.put, List.setIfInBounds_toArray, List.set_cons_succ, List.set_cons_zero]
                                      refine reg_ready [11] (by kernel_rfl) (by simp) ?_
                                      refine RegR.cons rfl (by kernel_rfl) (fun K hK => ?_) RegR.nil
                                      · go_simp
                                        refine ⟨trivial, ?_⟩
                                        gi_at_call 74
                                        refine (callsIn_wide.2 (HL2.out _)).mono ?_
                                        rintro e Z11 ⟨A11, c11, rfl, hc11, hC11, hb11⟩
                                        have HB11 := Aside0.mk (below_refl_trans (below_refl_trans (below_drew (Below.refl V.heap.size V)) hb9) hb11)
                                        have f11 := (bV8.kept (grown_of_below HB11.out none) (by simp)).cell
                                        have h11 := (bV6.kept (grown_of_below HB11.out none) (by simp)).cell
                                        refine hK _ _ ?_
                                        clear hK K
                                        simp only [Act.put, List.setIfInBounds_toArray, List.set_cons_succ, List.set_cons_zero]
                                        refine reg_ready [12] (by kernel_rfl) (by simp) ?_
                                        refine RegR.cons rfl (by kernel_rfl) (fun K hK => ?_) RegR.nil
                                        · go_simp
                                          refine ⟨trivial, ?_⟩
                                          gi_at_call 87
                                          refine (callsIn_wide.2 (slices_Compare_int_int.calls 10 A9 c9 ls A11 c11 lb _ _ (C_below hC9 hb11) hc9 hC11 hc11 HCS.out)).mono ?_
                                          rintro e Z12 ⟨rfl, ⟨nd, rfl⟩⟩
                                          refine hK _ _ ?_
                                          clear hK K
                                          simp only [Act.put, List.setIfInBounds_toArray, List.set_cons_succ, List.set_cons_zero]
                                          refine reg_take (v := ?v18) 13 rfl (by kernel_rfl) (by kernel_rfl) (by kernel_rfl) (fun _ _ _ h => by cases h.1) (by kernel_rfl) (fun _ => rfl) ?hy18 ?re18
                                          case hy18 => intro w; go_simp; with_reducible rfl
                                          case re18 =>
                                            simp only [Act.put, List.setIfInBounds_toArray, List.set_cons_succ, List.set_cons_zero]
                                            refine reg_take (v := ?v19) 14 rfl (by kernel_rfl) (by kernel_rfl) (by kernel_rfl) (fun _ _ _ h => by cases h.1) (by kernel_rfl) (fun _ => rfl) ?hy19 ?re19
                                            case hy19 => intro w; go_simp; with_reducible rfl
                                            case re19 =>
                                              simp only [Act.put, List.setIfInBounds_toArray, List.set_cons_succ, List.set_cons_zero]
                                              refine reg_take (v := ?v20) 15 rfl (by kernel_rfl) (by kernel_rfl) (by kernel_rfl) (fun _ _ _ h => by cases h.1) (by kernel_rfl) (fun _ => rfl) ?hy20 ?re20
                                              case hy20 => intro w; go_simp; with_reducible rfl
                                              case re20 =>
                                                simp only [Act.put, List.setIfInBounds_toArray, List.set_cons_succ, List.set_cons_zero]
                                                refine reg_take (v := ?v21) 16 rfl (by kernel_rfl) (by kernel_rfl) (by kernel_rfl) (fun _ _ _ h => by cases h.1) (by kernel_rfl) (fun _ => rfl) ?hy21 ?re21
                                                case hy21 => intro w; go_simp; with_reducible rfl
                                                case re21 =>
                                                  simp only [Act.put, List.setIfInBounds_toArray, List.set_cons_succ, List.set_cons_zero]
                                                  refine reg_take (v := ?v22) 18 rfl (by kernel_rfl) (by kernel_rfl) (by kernel_rfl) (fun _ _ _ h => by cases h.1) (by kernel_rfl) (fun _ => rfl) ?hy22 ?re22
                                                  case hy22 => intro w; go_simp; with_reducible rfl
                                                  case re22 =>
                                                    simp only [Act.put, List.setIfInBounds_toArray, List.set_cons_succ, List.set_cons_zero]
                                                    refine reg_ready [17] (by kernel_rfl) (by simp) ?_
                                                    refine RegR.cons rfl (by kernel_rfl) (fun K hK => ?_) RegR.nil
                                                    · go_simp
                                                      refine hK _ _ ?_
                                                      clear hK K
                                                      simp only [Act.put, List.setIfInBounds_toArray, List.set_cons_succ, List.set_cons_zero]
                                                      refine reg_ready [19] (by kernel_rfl) (by simp) ?_
                                                      refine RegR.cons rfl (by kernel_rfl) (fun K hK => ?_) RegR.nil
                                                      · go_simp
                                                        refine ⟨trivial, ?_⟩
                                                        gi_at_call 64
                                                        refine (callsIn_wide.2 (HFI.out _ (pw_below_drewN (hbV.trans (HB11.out.mono hbV.size)) nd))).mono ?_
                                                        rintro e Z19 ⟨rfl, hO19, hg19⟩
                                                        refine hK _ _ ?_
                                                        clear hK K
                                                        simp only [Act.put, List.setIfInBounds_toArray, List.set_cons_succ, List.set_cons_zero]
                                                        refine reg_take (v := ?v23) 20 rfl (by kernel_rfl) (by kernel_rfl) (by kernel_rfl) (fun _ _ _ h => by cases h.1) (by kernel_rfl) (fun _ => rfl) ?hy23 ?re23
                                                        case hy23 => intro w; go_simp; with_reducible rfl
                                                        case re23 =>
                                                          simp only [Act.put, List.setIfInBounds_toArray, List.set_cons_succ, List.set_cons_zero]
                                                          refine reg_done (by kernel_rfl) ?_
                                                          exact ⟨rfl, ⟨_, _, _, _, _, _, _, _, _, _, _, _, _, _, _, _, _, _, _, _, rfl⟩, below_grown' (pw_below_drewN HB11.out nd) hg19, hO19.rm⟩
                                  refine RegR.cons rfl (by kernel_rfl) (fun K hK => ?_) RegR.nil
                                  · go_simp
                                    refine hK _ _ ?_
                                    clear hK K
                                    simp only [Act.put, List.setIfInBounds_toArray, List.set_cons_succ, List.set_cons_zero]
                                    refine reg_ready [9] (by kernel_rfl) (by simp) ?_
                                    refine RegR.cons rfl (by kernel_rfl) (fun K hK => ?_) RegR.nil
                                    · go_simp
                                      refine ⟨trivial, ?_⟩
                                      gi_at_call 74
                                      refine (callsIn_wide.2 (HL1.out _)).mono ?_
                                      rintro e Z9 ⟨A9, c9, rfl, hc9, hC9, hb9⟩
                                      have HB9 := Aside0.mk (below_refl_trans (below_drew (Below.refl V.heap.size V)) hb9)
                                      have f9 := (bV8.kept (grown_of_below HB9.out none) (by simp)).cell
                                      have h9 := (bV6.kept (grown_of_below HB9.out none) (by simp)).cell
                                      refine hK _ _ ?_
                                      clear hK K
                                      simp only [Act.put, List.setIfInBounds_toArray, List.set_cons_succ, List.set_cons_zero]
                                      refine reg_ready [11] (by kernel_rfl) (by simp) ?_
                                      refine RegR.cons rfl (by kernel_rfl) (fun K hK => ?_) RegR.nil
                                      · go_simp
                                        refine ⟨trivial, ?_⟩
                                        gi_at_call 74
                                        refine (callsIn_wide.2 (HL2.out _)).mono ?_
                                        rintro e Z11 ⟨A11, c11, rfl, hc11, hC11, hb11⟩
                                        have HB11 := Aside0.mk (below_refl_trans (below_refl_trans (below_drew (Below.refl V.heap.size V)) hb9) hb11)
                                        have f11 := (bV8.kept (grown_of_below HB11.out none) (by simp)).cell
                                        have h11 := (bV6.kept (grown_of_below HB11.out none) (by simp)).cell
                                        refine hK _ _ ?_
                                        clear hK K
                                        simp only [Act.put, List.setIfInBounds_toArray, List.set_cons_succ, List.set_cons_zero]
                                        refine reg_ready [12] (by kernel_rfl) (by simp) ?_
                                        refine RegR.cons rfl (by kernel_rfl) (fun K hK => ?_) RegR.nil
                                        · go_simp
                                          refine ⟨trivial, ?_⟩
                                          gi_at_call 87
                                          refine (callsIn_wide.2 (slices_Compare_int_int.calls 10 A9 c9 ls A11 c11 lb _ _ (C_below hC9 hb11) hc9 hC11 hc11 HCS.out)).mono ?_
                                          rintro e Z12 ⟨rfl, ⟨nd, rfl⟩⟩
                                          refine hK _ _ ?_
                                          clear hK K
                                          simp only [Act.put, List.setIfInBounds_toArray, List.set_cons_succ, List.set_cons_zero]
                                          refine reg_take (v := ?v24) 13 rfl (by kernel_rfl) (by kernel_rfl) (by kernel_rfl) (fun _ _ _ h => by cases h.1) (by kernel_rfl) (fun _ => rfl) ?hy24 ?re24
                                          case hy24 => intro w; go_simp; with_reducible rfl
                                          case re24 =>
                                            simp only [Act.put, List.setIfInBounds_toArray, List.set_cons_succ, List.set_cons_zero]
                                            refine reg_take (v := ?v25) 14 rfl (by kernel_rfl) (by kernel_rfl) (by kernel_rfl) (fun _ _ _ h => by cases h.1) (by kernel_rfl) (fun _ => rfl) ?hy25 ?re25
                                            case hy25 => intro w; go_simp; with_reducible rfl
                                            case re25 =>
                                              simp only [Act.put, List.setIfInBounds_toArray, List.set_cons_succ, List.set_cons_zero]
                                              refine reg_take (v := ?v26) 15 rfl (by kernel_rfl) (by kernel_rfl) (by kernel_rfl) (fun _ _ _ h => by cases h.1) (by kernel_rfl) (fun _ => rfl) ?hy26 ?re26
                                              case hy26 => intro w; go_simp; with_reducible rfl
                                              case re26 =>
                                                simp only [Act.put, List.setIfInBounds_toArray, List.set_cons_succ, List.set_cons_zero]
                                                refine reg_take (v := ?v27) 16 rfl (by kernel_rfl) (by kernel_rfl) (by kernel_rfl) (fun _ _ _ h => by cases h.1) (by kernel_rfl) (fun _ => rfl) ?hy27 ?re27
                                                case hy27 => intro w; go_simp; with_reducible rfl
                                                case re27 =>
                                                  simp only [Act.put, List.setIfInBounds_toArray, List.set_cons_succ, List.set_cons_zero]
                                                  refine reg_take (v := ?v28) 18 rfl (by kernel_rfl) (by kernel_rfl) (by kernel_rfl) (fun _ _ _ h => by cases h.1) (by kernel_rfl) (fun _ => rfl) ?hy28 ?re28
                                                  case hy28 => intro w; go_simp; with_reducible rfl
                                                  case re28 =>
                                                    simp only [Act.put, List.setIfInBounds_toArray, List.set_cons_succ, List.set_cons_zero]
                                                    refine reg_ready [17] (by kernel_rfl) (by simp) ?_
                                                    refine RegR.cons rfl (by kernel_rfl) (fun K hK => ?_) RegR.nil
                                                    · go_simp
                                                      refine hK _ _ ?_
                                                      clear hK K
                                                      simp only [Act.put, List.setIfInBounds_toArray, List.set_cons_succ, List.set_cons_zero]
                                                      refine reg_ready [19] (by kernel_rfl) (by simp) ?_
                                                      refine RegR.cons rfl (by kernel_rfl) (fun K hK => ?_) RegR.nil
                                                      · go_simp
                                                        refine ⟨trivial, ?_⟩
                                                        gi_at_call 64
                                                        refine (callsIn_wide.2 (HFI.out _ (pw_below_drewN (hbV.trans (HB11.out.mono hbV.size)) nd))).mono ?_
                                                        rintro e Z19 ⟨rfl, hO19, hg19⟩
                                                        refine hK _ _ ?_
                                                        clear hK K
                                                        simp only [Act.put, List.setIfInBounds_toArray, List.set_cons_succ, List.set_cons_zero]
                                                        refine reg_take (v := ?v29) 20 rfl (by kernel_rfl) (by kernel_rfl) (by kernel_rfl) (fun _ _ _ h => by cases h.1) (by kernel_rfl) (fun _ => rfl) ?hy29 ?re29
                                                        case hy29 => intro w; go_simp; with_reducible rfl
                                                        case re29 =>
                                                          simp only [Act.put, List.setIfInBounds_toArray, List.set_cons_succ, List.set_cons_zero]
                                                          refine reg_done (by kernel_rfl) ?_
                                                          exact ⟨rfl, ⟨_, _, _, _, _, _, _, _, _, _, _, _, _, _, _, _, _, _, _, _, rfl⟩, below_grown' (pw_below_drewN HB11.out nd) hg19, hO19.rm⟩
              · have dc : decide (cc < 0) = false := decide_eq_false hc
                obtain rfl : r = false := by rw [HR.out, dA2, dc]; simp
                refine reg_start l' hmix (by kernel_rfl) 21 [false, false, false, false, false, false, false, false, false, false, false, false, false, false, false, false, false, false, false, false, false] rfl rfl ?_
                refine reg_take (v := ?v30) 0 rfl (by kernel_rfl) (by kernel_rfl) (by kernel_rfl) (fun _ _ _ h => by cases h.1) (by kernel_rfl) (fun _ => rfl) ?hy30 ?re30
                case hy30 => intro w; go_simp; with_reducible rfl
                case re30 =>
                  simp only [Act.put, List.setIfInBounds_toArray, List.set_cons_succ, List.set_cons_zero]
                  refine reg_take (v := ?v31) 1 rfl (by kernel_rfl) (by kernel_rfl) (by kernel_rfl) (fun _ _ _ h => by cases h.1) (by kernel_rfl) (fun _ => rfl) ?hy31 ?re31
                  case hy31 => intro w; go_simp; with_reducible rfl
                  case re31 =>
                    simp only [Act.put, List.setIfInBounds_toArray, List.set_cons_succ, List.set_cons_zero]
                    refine reg_take (v := ?v32) 2 rfl (by kernel_rfl) (by kernel_rfl) (by kernel_rfl) (fun _ _ _ h => by cases h.1) (by kernel_rfl) (fun _ => rfl) ?hy32 ?re32
                    case hy32 => intro w; go_simp; with_reducible rfl
                    case re32 =>
                      simp only [Act.put, List.setIfInBounds_toArray, List.set_cons_succ, List.set_cons_zero]
                      refine reg_take (v := ?v33) 3 rfl (by kernel_rfl) (by kernel_rfl) (by kernel_rfl) (fun _ _ _ h => by cases h.1) (by kernel_rfl) (fun _ => rfl) ?hy33 ?re33
                      case hy33 => intro w; go_simp; with_reducible rfl
                      case re33 =>
                        simp only [Act.put, List.setIfInBounds_toArray, List.set_cons_succ, List.set_cons_zero]
                        refine reg_take (v := ?v34) 4 rfl (by kernel_rfl) (by kernel_rfl) (by kernel_rfl) (fun _ _ _ h => by cases h.1) (by kernel_rfl) (fun _ => rfl) ?hy34 ?re34
                        case hy34 => intro w; go_simp; with_reducible rfl
                        case re34 =>
                          simp only [Act.put, List.setIfInBounds_toArray, List.set_cons_succ, List.set_cons_zero]
                          refine reg_take (v := ?v35) 5 rfl (by kernel_rfl) (by kernel_rfl) (by kernel_rfl) (fun _ _ _ h => by cases h.1) (by kernel_rfl) (fun _ => rfl) ?hy35 ?re35
                          case hy35 => intro w; go_simp; with_reducible rfl
                          case re35 =>
                            simp only [Act.put, List.setIfInBounds_toArray, List.set_cons_succ, List.set_cons_zero]
                            refine reg_take (v := ?v36) 6 rfl (by kernel_rfl) (by kernel_rfl) (by kernel_rfl) (fun _ _ _ h => by cases h.1) (by kernel_rfl) (fun _ => rfl) ?hy36 ?re36
                            case hy36 => intro w; go_simp; with_reducible rfl
                            case re36 =>
                              simp only [Act.put, List.setIfInBounds_toArray, List.set_cons_succ, List.set_cons_zero]
                              refine reg_take (v := ?v37) 7 rfl (by kernel_rfl) (by kernel_rfl) (by kernel_rfl) (fun _ _ _ h => by cases h.1) (by kernel_rfl) (fun _ => rfl) ?hy37 ?re37
                              case hy37 => intro w; go_simp; with_reducible rfl
                              case re37 =>
                                simp only [Act.put, List.setIfInBounds_toArray, List.set_cons_succ, List.set_cons_zero]
                                refine reg_take (v := ?v38) 8 rfl (by kernel_rfl) (by kernel_rfl) (by kernel_rfl) (fun _ _ _ h => by cases h.1) (by kernel_rfl) (fun _ => rfl) ?hy38 ?re38
                                case hy38 => intro w; go_simp; with_reducible rfl
                                case re38 =>
                                  simp only [Act.put, List.setIfInBounds_toArray, List.set_cons_succ, List.set_cons_zero]
                                  refine reg_ready [9, 10] (by kernel_rfl) (by simp) ?_
                                  refine RegR.cons rfl (by kernel_rfl) (fun K hK => ?_) ?_
                                  · go_simp
                                    refine ⟨trivial, ?_⟩
                                    gi_at_call 74
                                    refine (callsIn_wide.2 (HL1.out _)).mono ?_
                                    rintro e Z9 ⟨A9, c9, rfl, hc9, hC9, hb9⟩
                                    have HB9 := Aside0.mk (below_refl_trans (below_drew (Below.refl V.heap.size V)) hb9)
                                    have f9 := (bV8.kept (grown_of_below HB9.out none) (by simp)).cell
                                    have h9 := (bV6.kept (grown_of_below HB9.out none) (by simp)).cell
                                    refine hK _ _ ?_
                                    clear hK K
                                    simp only [Act.put, List.setIfInBounds_toArray, List.set_cons_succ, List.set_cons_zero]
                                    refine reg_ready [10] (by kernel_rfl) (by simp) ?_
                                    refine RegR.cons rfl (by kernel_rfl) (fun K hK => ?_) RegR.nil
                                    · go_simp
                                      refine hK _ _ ?_
                                      clear hK K
                                      simp only [Act.put, List.setIfInBounds_toArray, List.set_cons_succ, List.set_cons_zero]
                                      refine reg_ready [11] (by kernel_rfl) (by simp) ?_
                                      refine RegR.cons rfl (by kernel_rfl) (fun K hK => ?_) RegR.nil
                                      · go_simp
                                        refine ⟨trivial, ?_⟩
                                        gi_at_call 74
                                        refine (callsIn_wide.2 (HL2.out _)).mono ?_
                                        rintro e Z11 ⟨A11, c11, rfl, hc11, hC11, hb11⟩
                                        have HB11 := Aside0.mk (below_refl_trans (below_refl_trans (below_drew (Below.refl V.heap.size V)) hb9) hb11)
                                        have f11 := (bV8.kept (grown_of_below HB11.out none) (by simp)).cell
                                        have h11 := (bV6.kept (grown_of_below HB11.out none) (by simp)).cell
                                        refine hK _ _ ?_
                                        clear hK K
                                        simp only [Act.put, List.setIfInBounds_toArray, List.set_cons_succ, List.set_cons_zero]
                                        refine reg_ready [12] (by kernel_rfl) (by simp) ?_
                                        refine RegR.cons rfl (by kernel_rfl) (fun K hK => ?_) RegR.nil
                                        · go_simp
                                          refine ⟨trivial, ?_⟩
                                          gi_at_call 87
                                          refine (callsIn_wide.2 (slices_Compare_int_int.calls 10 A9 c9 ls A11 c11 lb _ _ (C_below hC9 hb11) hc9 hC11 hc11 HCS.out)).mono ?_
                                          rintro e Z12 ⟨rfl, ⟨nd, rfl⟩⟩
                                          refine hK _ _ ?_
                                          clear hK K
                                          simp only [Act.put, List.setIfInBounds_toArray, List.set_cons_succ, List.set_cons_zero]
                                          refine reg_take (v := ?v39) 13 rfl (by kernel_rfl) (by kernel_rfl) (by kernel_rfl) (fun _ _ _ h => by cases h.1) (by kernel_rfl) (fun _ => rfl) ?hy39 ?re39
                                          case hy39 => intro w; go_simp; with_reducible rfl
                                          case re39 =>
                                            simp only [Act.put, List.setIfInBounds_toArray, List.set_cons_succ, List.set_cons_zero]
                                            refine reg_take (v := ?v40) 14 rfl (by kernel_rfl) (by kernel_rfl) (by kernel_rfl) (fun _ _ _ h => by cases h.1) (by kernel_rfl) (fun _ => rfl) ?hy40 ?re40
                                            case hy40 => intro w; go_simp; with_reducible rfl
                                            case re40 =>
                                              simp only [Act.put, List.setIfInBounds_toArray, List.set_cons_succ, List.set_cons_zero]
                                              refine reg_take (v := ?v41) 15 rfl (by kernel_rfl) (by kernel_rfl) (by kernel_rfl) (fun _ _ _ h => by cases h.1) (by kernel_rfl) (fun _ => rfl) ?hy41 ?re41
                                              case hy41 => intro w; go_simp; with_reducible rfl
                                              case re41 =>
                                                simp only [Act.put, List.setIfInBounds_toArray, List.set_cons_succ, List.set_cons_zero]
                                                refine reg_take (v := ?v42) 16 rfl (by kernel_rfl) (by kernel_rfl) (by kernel_rfl) (fun _ _ _ h => by cases h.1) (by kernel_rfl) (fun _ => rfl) ?hy42 ?re42
                                                case hy42 => intro w; go_simp; with_reducible rfl
                                                case re42 =>
                                                  simp only [Act.put, List.setIfInBounds_toArray, List.set_cons_succ, List.set_cons_zero]
                                                  refine reg_pass 17 rfl (by kernel_rfl) (by kernel_rfl) (by kernel_rfl) (fun _ _ _ h => by cases h.1) (by kernel_rfl) (fun _ => rfl) ?_
                                                  simp only [Act.put, List.setIfInBounds_toArray, List.set_cons_succ, List.set_cons_zero]
                                                  refine reg_pass 18 rfl (by kernel_rfl) (by kernel_rfl) (by kernel_rfl) (fun _ _ _ h => by cases h.1) (by kernel_rfl) (fun _ => rfl) ?_
                                                  simp only [Act.put, List.setIfInBounds_toArray, List.set_cons_succ, List.set_cons_zero]
                                                  refine reg_ready [19] (by kernel_rfl) (by simp) (RegR.pass rfl (by kernel_rfl) ?_ RegR.nil)
                                                  simp only [Act.put, List.setIfInBounds_toArray, List.set_cons_succ, List.set_cons_zero]
                                                  refine reg_take (v := ?v43) 20 rfl (by kernel_rfl) (by kernel_rfl) (by kernel_rfl) (fun _ _ _ h => by cases h.1) (by kernel_rfl) (fun _ => rfl) ?hy43 ?re43
                                                  case hy43 => intro w; go_simp; with_reducible rfl
                                                  case re43 =>
                                                    simp only [Act.put, List.setIfInBounds_toArray, List.set_cons_succ, List.set_cons_zero]
                                                    refine reg_done (by kernel_rfl) ?_
                                                    exact ⟨rfl, ⟨_, _, _, _, _, _, _, _, _, _, _, _, _, _, _, _, _, _, _, _, rfl⟩, grown_of_below (pw_below_drewN HB11.out nd) _, HRM.out.step (Below.block (pw_below_drewN HB11.out nd) mb HMB.out)⟩
                                  refine RegR.cons rfl (by kernel_rfl) (fun K hK => ?_) RegR.nil
                                  · go_simp
                                    refine hK _ _ ?_
                                    clear hK K
                                    simp only [Act.put, List.setIfInBounds_toArray, List.set_cons_succ, List.set_cons_zero]
                                    refine reg_ready [9] (by kernel_rfl) (by simp) ?_
                                    refine RegR.cons rfl (by kernel_rfl) (fun K hK => ?_) RegR.nil
                                    · go_simp
                                      refine ⟨trivial, ?_⟩
                                      gi_at_call 74
                                      refine (callsIn_wide.2 (HL1.out _)).mono ?_
                                      rintro e Z9 ⟨A9, c9, rfl, hc9, hC9, hb9⟩
                                      have HB9 := Aside0.mk (below_refl_trans (below_drew (Below.refl V.heap.size V)) hb9)
                                      have f9 := (bV8.kept (grown_of_below HB9.out none) (by simp)).cell
                                      have h9 := (bV6.kept (grown_of_below HB9.out none) (by simp)).cell
                                      refine hK _ _ ?_
                                      clear hK K
                                      simp only [Act.put, List.setIfInBounds_toArray, List.set_cons_succ, List.set_cons_zero]
                                      refine reg_ready [11] (by kernel_rfl) (by simp) ?_
                                      refine RegR.cons rfl (by kernel_rfl) (fun K hK => ?_) RegR.nil
                                      · go_simp
                                        refine ⟨trivial, ?_⟩
                                        gi_at_call 74
                                        refine (callsIn_wide.2 (HL2.out _)).mono ?_
                                        rintro e Z11 ⟨A11, c11, rfl, hc11, hC11, hb11⟩
                                        have HB11 := Aside0.mk (below_refl_trans (below_refl_trans (below_drew (Below.refl V.heap.size V)) hb9) hb11)
                                        have f11 := (bV8.kept (grown_of_below HB11.out none) (by simp)).cell
                                        have h11 := (bV6.kept (grown_of_below HB11.out none) (by simp)).cell
                                        refine hK _ _ ?_
                                        clear hK K
                                        simp only [Act.put, List.setIfInBounds_toArray, List.set_cons_succ, List.set_cons_zero]
                                        refine reg_ready [12] (by kernel_rfl) (by simp) ?_
                                        refine RegR.cons rfl (by kernel_rfl) (fun K hK => ?_) RegR.nil
                                        · go_simp
                                          refine ⟨trivial, ?_⟩
                                          gi_at_call 87
                                          refine (callsIn_wide.2 (slices_Compare_int_int.calls 10 A9 c9 ls A11 c11 lb _ _ (C_below hC9 hb11) hc9 hC11 hc11 HCS.out)).mono ?_
                                          rintro e Z12 ⟨rfl, ⟨nd, rfl⟩⟩
                                          refine hK _ _ ?_
                                          clear hK K
                                          simp only [Act.put, List.setIfInBounds_toArray, List.set_cons_succ, List.set_cons_zero]
                                          refine reg_take (v := ?v44) 13 rfl (by kernel_rfl) (by kernel_rfl) (by kernel_rfl) (fun _ _ _ h => by cases h.1) (by kernel_rfl) (fun _ => rfl) ?hy44 ?re44
                                          case hy44 => intro w; go_simp; with_reducible rfl
                                          case re44 =>
                                            simp only [Act.put, List.setIfInBounds_toArray, List.set_cons_succ, List.set_cons_zero]
                                            refine reg_take (v := ?v45) 14 rfl (by kernel_rfl) (by kernel_rfl) (by kernel_rfl) (fun _ _ _ h => by cases h.1) (by kernel_rfl) (fun _ => rfl) ?hy45 ?re45
                                            case hy45 => intro w; go_simp; with_reducible rfl
                                            case re45 =>
                                              simp only [Act.put, List.setIfInBounds_toArray, List.set_cons_succ, List.set_cons_zero]
                                              refine reg_take (v := ?v46) 15 rfl (by kernel_rfl) (by kernel_rfl) (by kernel_rfl) (fun _ _ _ h => by cases h.1) (by kernel_rfl) (fun _ => rfl) ?hy46 ?re46
                                              case hy46 => intro w; go_simp; with_reducible rfl
                                              case re46 =>
                                                simp only [Act.put, List.setIfInBounds_toArray, List.set_cons_succ, List.set_cons_zero]
                                                refine reg_take (v := ?v47) 16 rfl (by kernel_rfl) (by kernel_rfl) (by kernel_rfl) (fun _ _ _ h => by cases h.1) (by kernel_rfl) (fun _ => rfl) ?hy47 ?re47
                                                case hy47 => intro w; go_simp; with_reducible rfl
                                                case re47 =>
                                                  simp only [Act.put, List.setIfInBounds_toArray, List.set_cons_succ, List.set_cons_zero]
                                                  refine reg_pass 17 rfl (by kernel_rfl) (by kernel_rfl) (by kernel_rfl) (fun _ _ _ h => by cases h.1) (by kernel_rfl) (fun _ => rfl) ?_
                                                  simp only [Act.put, List.setIfInBounds_toArray, List.set_cons_succ, List.set_cons_zero]
                                                  refine reg_pass 18 rfl (by kernel_rfl) (by kernel_rfl) (by kernel_rfl) (fun _ _ _ h => by cases h.1) (by kernel_rfl) (fun _ => rfl) ?_
                                                  simp only [Act.put, List.setIfInBounds_toArray, List.set_cons_succ, List.set_cons_zero]
                                                  refine reg_ready [19] (by kernel_rfl) (by simp) (RegR.pass rfl (by kernel_rfl) ?_ RegR.nil)
                                                  simp only [Act.put, List.setIfInBounds_toArray, List.set_cons_succ, List.set_cons_zero]
                                                  refine reg_take (v := ?v48) 20 rfl (by kernel_rfl) (by kernel_rfl) (by kernel_rfl) (fun _ _ _ h => by cases h.1) (by kernel_rfl) (fun _ => rfl) ?hy48 ?re48
                                                  case hy48 => intro w; go_simp; with_reducible rfl
                                                  case re48 =>
                                                    simp only [Act.put, List.setIfInBounds_toArray, List.set_cons_succ, List.set_cons_zero]
                                                    refine reg_done (by kernel_rfl) ?_
                                                    exact ⟨rfl, ⟨_, _, _, _, _, _, _, _, _, _, _, _, _, _, _, _, _, _, _, _, rfl⟩, grown_of_below (pw_below_drewN HB11.out nd) _, HRM.out.step (Below.block (pw_below_drewN HB11.out nd) mb HMB.out)⟩
            · have dE : (nS == nB) = false := by simpa using hE
              have dE2 : decide (nS = nB) = false := by simpa using hE
              obtain rfl : r = false := by rw [HR.out, dA2, dE2]; simp
              refine reg_start l' hmix (by kernel_rfl) 21 [false, false, false, false, false, false, false, false, false, false, false, false, false, false, false, false, false, false, false, false, false] rfl rfl ?_
              refine reg_take (v := ?v49) 0 rfl (by kernel_rfl) (by kernel_rfl) (by kernel_rfl) (fun _ _ _ h => by cases h.1) (by kernel_rfl) (fun _ => rfl) ?hy49 ?re49
              case hy49 => intro w; go_simp; with_reducible rfl
              case re49 =>
                simp only [Act.put, List.setIfInBounds_toArray, List.set_cons_succ, List.set_cons_zero]
                refine reg_take (v := ?v50) 1 rfl (by kernel_rfl) (by kernel_rfl) (by kernel_rfl) (fun _ _ _ h => by cases h.1) (by kernel_rfl) (fun _ => rfl) ?hy50 ?re50
                case hy50 => intro w; go_simp; with_reducible rfl
                case re50 =>
                  simp only [Act.put, List.setIfInBounds_toArray, List.set_cons_succ, List.set_cons_zero]
                  refine reg_take (v := ?v51) 2 rfl (by kernel_rfl) (by kernel_rfl) (by kernel_rfl) (fun _ _ _ h => by cases h.1) (by kernel_rfl) (fun _ => rfl) ?hy51 ?re51
                  case hy51 => intro w; go_simp; with_reducible rfl
                  case re51 =>
                    simp only [Act.put, List.setIfInBounds_toArray, List.set_cons_succ, List.set_cons_zero]
                    refine reg_take (v := ?v52) 3 rfl (by kernel_rfl) (by kernel_rfl) (by kernel_rfl) (fun _ _ _ h => by cases h.1) (by kernel_rfl) (fun _ => rfl) ?hy52 ?re52
                    case hy52 => intro w; go_simp; with_reducible rfl
                    case re52 =>
                      simp only [Act.put, List.setIfInBounds_toArray, List.set_cons_succ, List.set_cons_zero]
                      refine reg_take (v := ?v53) 4 rfl (by kernel_rfl) (by kernel_rfl) (by kernel_rfl) (fun _ _ _ h => by cases h.1) (by kernel_rfl) (fun _ => rfl) ?hy53 ?re53
                      case hy53 => intro w; go_simp; with_reducible rfl
                      case re53 =>
                        simp only [Act.put, List.setIfInBounds_toArray, List.set_cons_succ, List.set_cons_zero]
                        refine reg_take (v := ?v54) 5 rfl (by kernel_rfl) (by kernel_rfl) (by kernel_rfl) (fun _ _ _ h => by cases h.1) (by kernel_rfl) (fun _ => rfl) ?hy54 ?re54
                        case hy54 => intro w; go_simp; with_reducible rfl
                        case re54 =>
                          simp only [Act.put, List.setIfInBounds_toArray, List.set_cons_succ, List.set_cons_zero]
                          refine reg_take (v := ?v55) 6 rfl (by kernel_rfl) (by kernel_rfl) (by kernel_rfl) (fun _ _ _ h => by cases h.1) (by kernel_rfl) (fun _ => rfl) ?hy55 ?re55
                          case hy55 => intro w; go_simp; with_reducible rfl
                          case re55 =>
                            simp only [Act.put, List.setIfInBounds_toArray, List.set_cons_succ, List.set_cons_zero]
                            refine reg_take (v := ?v56) 7 rfl (by kernel_rfl) (by kernel_rfl) (by kernel_rfl) (fun _ _ _ h => by cases h.1) (by kernel_rfl) (fun _ => rfl) ?hy56 ?re56
                            case hy56 => intro w; go_simp; with_reducible rfl
                            case re56 =>
                              simp only [Act.put, List.setIfInBounds_toArray, List.set_cons_succ, List.set_cons_zero]
                              refine reg_pass 8 rfl (by kernel_rfl) (by kernel_rfl) (by kernel_rfl) (fun _ _ _ h => by cases h.1) (by kernel_rfl) (fun _ => rfl) ?_
                              simp only [Act.put, List.setIfInBounds_toArray, List.set_cons_succ, List.set_cons_zero]
                              refine reg_pass 10 rfl (by kernel_rfl) (by kernel_rfl) (by kernel_rfl) (fun _ _ _ h => by cases h.1) (by kernel_rfl) (fun _ => rfl) ?_
                              simp only [Act.put, List.setIfInBounds_toArray, List.set_cons_succ, List.set_cons_zero]
                              refine reg_ready [9] (by kernel_rfl) (by simp) (RegR.pass rfl (by kernel_rfl) ?_ RegR.nil)
                              simp only [Act.put, List.setIfInBounds_toArray, List.set_cons_succ, List.set_cons_zero]
                              refine reg_ready [11] (by kernel_rfl) (by simp) (RegR.pass rfl (by kernel_rfl) ?_ RegR.nil)
                              simp only [Act.put, List.setIfInBounds_toArray, List.set_cons_succ, List.set_cons_zero]
                              refine reg_ready [12] (by kernel_rfl) (by simp) (RegR.pass rfl (by kernel_rfl) ?_ RegR.nil)
                              simp only [Act.put, List.setIfInBounds_toArray, List.set_cons_succ, List.set_cons_zero]
                              refine reg_pass 13 rfl (by kernel_rfl) (by kernel_rfl) (by kernel_rfl) (fun _ _ _ h => by cases h.1) (by kernel_rfl) (fun _ => rfl) ?_
                              simp only [Act.put, List.setIfInBounds_toArray, List.set_cons_succ, List.set_cons_zero]
                              refine reg_take (v := ?v57) 14 rfl (by kernel_rfl) (by kernel_rfl) (by kernel_rfl) (fun _ _ _ h => by cases h.1) (by kernel_rfl) (fun _ => rfl) ?hy57 ?re57
                              case hy57 => intro w; go_simp; with_reducible rfl
                              case re57 =>
                                simp only [Act.put, List.setIfInBounds_toArray, List.set_cons_succ, List.set_cons_zero]
                                refine reg_take (v := ?v58) 15 rfl (by kernel_rfl) (by kernel_rfl) (by kernel_rfl) (fun _ _ _ h => by cases h.1) (by kernel_rfl) (fun _ => rfl) ?hy58 ?re58
                                case hy58 => intro w; go_simp; with_reducible rfl
                                case re58 =>
                                  simp only [Act.put, List.setIfInBounds_toArray, List.set_cons_succ, List.set_cons_zero]
                                  refine reg_take (v := ?v59) 16 rfl (by kernel_rfl) (by kernel_rfl) (by kernel_rfl) (fun _ _ _ h => by cases h.1) (by kernel_rfl) (fun _ => rfl) ?hy59 ?re59
                                  case hy59 => intro w; go_simp; with_reducible rfl
                                  case re59 =>
                                    simp only [Act.put, List.setIfInBounds_toArray, List.set_cons_succ, List.set_cons_zero]
                                    refine reg_pass 17 rfl (by kernel_rfl) (by kernel_rfl) (by kernel_rfl) (fun _ _ _ h => by cases h.1) (by kernel_rfl) (fun _ => rfl) ?_
                                    simp only [Act.put, List.setIfInBounds_toArray, List.set_cons_succ, List.set_cons_zero]
                                    refine reg_pass 18 rfl (by kernel_rfl) (by kernel_rfl) (by kernel_rfl) (fun _ _ _ h => by cases h.1) (by kernel_rfl) (fun _ => rfl) ?_
                                    simp only [Act.put, List.setIfInBounds_toArray, List.set_cons_succ, List.set_cons_zero]
                                    refine reg_ready [19] (by kernel_rfl) (by simp) (RegR.pass rfl (by kernel_rfl) ?_ RegR.nil)
                                    simp only [Act.put, List.setIfInBounds_toArray, List.set_cons_succ, List.set_cons_zero]
                                    refine reg_take (v := ?v60) 20 rfl (by kernel_rfl) (by kernel_rfl) (by kernel_rfl) (fun _ _ _ h => by cases h.1) (by kernel_rfl) (fun _ => rfl) ?hy60 ?re60
                                    case hy60 => intro w; go_simp; with_reducible rfl
                                    case re60 =>
                                      simp only [Act.put, List.setIfInBounds_toArray, List.set_cons_succ, List.set_cons_zero]
                                      refine reg_done (by kernel_rfl) ?_
                                      exact ⟨rfl, ⟨_, _, _, _, _, _, _, _, _, _, _, _, _, _, _, _, _, _, _, _, rfl⟩, grown_of_below (below_drew (Below.refl V.heap.size V)) _, HRM.out.step (Below.block (below_drew (Below.refl V.heap.size V)) mb HMB.out)⟩
        case rest2 =>
          rintro e a' Z ⟨rfl, ⟨u31, u32, u33, u34, u35, u36, u37, u38, u39, u40, u41, u42, u43, u44, u45, u46, u47, u48, u49, u50, rfl⟩, hgZ, hRZ⟩
          have hgV := grown_below G2.out hbV
          have hgZ2 := grown_trans hgV hgZ
          have z6 := bV6.kept hgZ (by simp; omega)
          have z8 := bV8.kept hgZ (by simp; omega)
          have e6 := z6.cell
          have e8 := z8.cell
          have f8 := z8.frozen
          have hsV := hbV.size
          have hsZ := hgZ.size
          have hk0 : KeepsFrom W2.heap.size W Z := (keeps_below hbV).trans (KeepsFrom.of_grownBy hgZ (fun j e => by cases e; omega))
          have HK0 := Aside0.mk hk0
          have HG2 := Aside0.mk hgZ2
          have HRZ := Aside0.mk hRZ
          have Z6 := Aside0.mk z6
          have Z8 := Aside0.mk z8
          have kz : ∀ j, j < W.heap.size → j ≠ mb → Z.heap[j]? = W.heap[j]? := fun j h1 h2 => (hgZ.block j (by omega) (by simp; exact h2)).trans (hbV.block j h1)
          have KZ := Aside0.mk kz
          clear hk0 hgZ hgZ2 hRZ z6 z8 kz hgV bV6 bV8 w6 w8 g3 hbV hbVd
          cases r
          · have HFS2 := Aside0.mk (show fullOf l0 l1 (valS (pre ++ [x])) = best from HFS.out)
            clear HFS
            gi_wp2
            refine ⟨HK0.out, ⟨KZ.out _ (by omega) (by omega), KZ.out _ (by omega) (by omega)⟩, HRZ.out, HG2.out, Z6.out, ?_, by omega⟩
            rw [HFS2.out]
            exact Z8.out
          · have HFS2 := Aside0.mk (show fullOf l0 l1 (valS (pre ++ [x])) = x.val.val from HFS.out)
            clear HFS
            gi_wp2
            have k1 := grownBy_setCell' Z (w2.heap.size + 1) (.int .u64 (x.val.val : Int))
            have hs1 := k1.size
            have kv : ∀ j, j < W.heap.size → j ≠ mb → j ≠ w2.heap.size + 1 → (Z.setCell ⟨w2.heap.size + 1, 0, none⟩ (.int .u64 (x.val.val : Int))).heap[j]? = W.heap[j]? := fun j h1 h2 h3 => (k1.block j (by omega) (by simp; exact h3)).trans (KZ.out j h1 h2)
            refine ⟨HK0.out.trans ((KeepsOthers.setCell _ _ _).from _), ⟨kv _ (by omega) (by omega) (by omega), kv _ (by omega) (by omega) (by omega)⟩, HRZ.out.step (k1.block mb (by omega) (by simp; omega)), grown_own HG2.out k1 (fun x e => by cases e; omega), Z6.out.kept k1 (by simp), ?_, by omega⟩
            rw [HFS2.out]
            exact Z8.out.set _
    case done =>
      rintro D ys W hD rfl ⟨g1, g2, g3, g4, g5⟩ hK
      have hble : fullOf l0 l1 (valS (partsS HHM.out)) ≤ allN l1 := fullOf_le _ (fun s hs => valS_le hs)
      have hb5 : fullOf l0 l1 (valS (partsS HHM.out)) < 512 := by have := HHM.out; omega
      have HL := Aside0.mk (fun V => plan_mask_list.calls 12 ((fullOf l0 l1 (valS (partsS HHM.out)) : Nat) : Int) _ V (list_some (by omega) (by omega)))
      rw [H1.out] at HL
      have e4 := g4.cell
      have HK := Aside0.mk hK
      have G2 := Aside0.mk g2
      have HDL := Aside0.mk (Array.getElem?_eq_some_iff.1 hK).1
      clear g1 g2 g3 hK hble hb5
      generalize ((fullOf l0 l1 (valS (partsS HHM.out)) : Nat) : Int) = full at *
      gi_wp2_with (refine ⟨trivial, ?_⟩; gi_at_call 74; refine (callsIn_wide.2 (HL.out _)).mono ?_; rintro e W7 ⟨v, rfl, hR, hb7⟩; have HR7 := Aside0.mk hR; have HB7 := Aside0.mk hb7; clear hR hb7)
      refine ⟨by simp, .inl ⟨_, _, rfl, run_takeDeferred ((HB7.out.block D HDL.out).trans HK.out), ?_⟩⟩
      have k3 := grownBy_putObj' W7 D (.deferred none)
      have hs2 := G2.out.size
      have hs7 := HB7.out.size
      have hbW : Below w.heap.size w W := hbw2.grown G2.out (by omega) (fun j e => by cases e; omega)
      have hb7 : Below w.heap.size w W7 := below_refl_trans hbW HB7.out
      have hr3 := ownsRow_putObj (Kd.own_of_R HR7.out) (.deferred none) ((HB7.out.block D HDL.out).trans HK.out) rfl
      exact ⟨_, results_tmp2 rfl _ _ _, _, rfl, Kd.R_of_own (own_less hr3 (by omega)) (fun _ _ => trivial), hb7.grown k3 (by omega) (fun j e => by cases e; omega)⟩
    case stop =>
      rintro D c pre W hD hp h hK
      exact h.elim
  · rw [if_neg he] at h
    simp only [Prod.mk.injEq] at h
    obtain ⟨rfl, rfl⟩ := h
    have hA := asked_no (w := w.alloc (.cells #[.slice A1 l1.length c1] 23)) (Kd.C_below hr0 (below_alloc (Below.refl _ _) _)) hc0 (Kd.C_below hr1 (below_alloc (Below.refl _ _) _)) hc1 he
    have HA := Aside0.mk hA
    have hbn : (askErr l0 l1 != 0) = true := by simpa using he
    have hbe : (askErr l0 l1 == 0) = false := by simpa using he
    generalize askErr l0 l1 = z at *
    clear hA he hr0 hr1
    go_enter Tryz.func39, Tryz.ntmps39
    go_wp2_with fail
    refine HA.out.mono ?_
    rintro e w2 ⟨rfl, hb⟩
    have HB := Aside0.mk hb
    clear hb
    go_wp2
    go_ret2
    exact ⟨_, rfl, Kd.R_nil _ _ _ _ _, (below_refl_trans (below_alloc (Below.refl _ _) _) HB.out).alloc (by have := HB.out.size; simp at this; omega) _⟩
end Go.Proofs.YthonlcnmjlldiaaGreat.P
namespace Go.Proofs.YthonlcnmjlldiaaGreat.P
open Go.Shelf Go.RowKit Go.Proofs.YthonlcnmjlldiaaGreatW.PrintWords Go.Proofs.YthonlcnmjlldiaaGreatW.PrintLast Go.Proofs.YthonlcnmjlldiaaGreatW.PrintMore
set_option linter.unusedVariables false
set_option linter.unusedSimpArgs false
abbrev RO (w : World) (base : Nat) (v : Value) (l : List Order) : Prop := Kd.R k72 72 w base (fun _ => True) v l
theorem kO_M {W W' : World} {base : Nat} {ok : Nat → Prop} (x : Order) (cs : List Value) (h : k72.K W x cs) : k72.M W' base ok x cs := by rw [k72_open h]; exact k72_mkM _ _ _ _
set_option maxHeartbeats 1000000 in
set_option maxRecDepth 100000 in
theorem clone_b {A : Option Addr} {c : Nat} {l : List Order} {w : World} (hC : KO w A l) (h9 : l.length ≤ 9) :
    Calls Tryz.prog 85 #[.slice A l.length c] w fun e w' => ∃ v, e = .returned v ∧ RO w' w.heap.size v l ∧ Below w.heap.size w w' := by
  have hnil := fun (W : World) => Lib.run_eql_slice_nil (P := Tryz.prog) W 23 72 A l.length c 0 0 Tryz.underlying23
  have HC := Aside0.mk hC
  cases A with
  | none =>
    have h0 : l = [] := by
      rcases Nat.eq_zero_or_pos l.length with h0 | h0
      · exact List.eq_nil_of_length_eq_zero h0
      · obtain ⟨ad, h, _⟩ := hC.2.2 h0
        cases h
    subst h0
    simp only [Option.isNone_none, List.length_nil] at hnil
    clear hC HC
    go_enter Tryz.func85, Tryz.ntmps85
    go_wp2
    go_ret
    exact ⟨_, rfl, Kd.R_nil _ _ _ _ _, Below.refl _ _⟩
  | some ad =>
    simp only [Option.isNone_some] at hnil
    clear hC
    go_enter Tryz.func85, Tryz.ntmps85
    go_wp2_with (first | ((with_reducible refine gate_dst (N := 5) rfl ?_); refine Kd.R_lit k72 _ 72 ?hg (N := 5) ?hd (xs := ([] : List Order)) (inner := []) (ok := fun _ => True) (okp := fun _ => True) ?hr ?hp (fun _ hk => hk) trivial (Below.refl _ _) (Nat.le_refl _) (by simp) ?_; (case hd => rfl); (case hg => rfl); (case hr => first | (go_simp; done) | (go_simp; rfl)); (case hp => exact (Reps.none _ _)); intro v1 w1 ho1 hb1 hg1_ hn1_; have HO1 := Aside0.mk ho1; have HB1 := Aside0.mk hb1; clear ho1 hb1 hg1_ hn1_) | (at_builtin; refine Kd.R_append_rows (Rr := k72.K w1) k72 (w0 := w) w.heap.size rfl (.tmp 5) (.tmp 6) 23 72 _ 40 rfl Tryz.underlying23 info72 rfl (by decide) (by omega) v1 [] l _ _ _ (fun _ => True) (fun _ => False) rfl rfl HO1.out ?aR ?aM (fun _ h => h.elim) (fun _ _ => trivial) HB1.out HB1.out.size ?aL ?_; (case aR => exact Kd.C_below HC.out HB1.out); (case aM => exact fun x cs h => kO_M x cs h); (case aL => simp; omega); intro v2 w2 ho2 hb2 hg2_ hn2_; have HO2 := Aside0.mk ho2; have HB2 := Aside0.mk hb2; clear ho2 hb2 hg2_ hn2_))
    go_ret
    exact ⟨_, rfl, HO2.out, HB2.out⟩
theorem cells_set {W : World} {g o : Nat} {cur : Array Value} {t : TypeId} {fr : Nat × Nat} (v : Value) (h : W.heap[g]? = some (.cells cur t fr)) : (W.setCell ⟨g, o, none⟩ v).heap[g]? = some (.cells (cur.setIfInBounds o v) t fr) := by
  obtain ⟨hlt, hk⟩ := Array.getElem?_eq_some_iff.1 h
  show (W.heap.modify g _)[g]? = _
  rw [Array.getElem?_eq_getElem (by rw [Array.size_modify]; exact hlt), Array.getElem_modify_self, hk]
  rfl
theorem own_setCell {W : World} {base g k c o size : Nat} {e : TypeId} {xs : List Value} (v : Value) (h : W.ownsRow base e size (.slice (some ⟨g, 0, none⟩) k c) k xs) (ho : k * size ≤ o) : (W.setCell ⟨g, o, none⟩ v).ownsRow base e size (.slice (some ⟨g, 0, none⟩) k c) k xs := by
  refine ⟨h.1, ?_⟩
  rcases h.2 with ⟨hv, _⟩ | ⟨g', cap', cur, hv, hb, hh, h3, h4, h5, h6⟩
  · cases hv
  · cases hv
    refine .inr ⟨g, c, cur.setIfInBounds o v, rfl, hb, cells_set v hh, h3, h4, by simpa using h5, ?_⟩
    rw [Array.toList_setIfInBounds, List.take_set_of_le ho]
    exact h6
theorem RO_setCell {W : World} {base g k c o : Nat} {l : List Order} (v : Value) (h : RO W base (.slice (some ⟨g, 0, none⟩) k c) l) (ho : k * 5 ≤ o) : RO (W.setCell ⟨g, o, none⟩ v) base (.slice (some ⟨g, 0, none⟩) k c) l := by
  obtain ⟨h0, inner, hown, hr⟩ := h
  have hk : l.length = k := by
    rcases hown.2 with ⟨hv, _⟩ | ⟨g', cap', cur, hv, _⟩
    · cases hv
    · cases hv; rfl
  refine ⟨h0, inner, ?_, hr.imp_ (fun x cs hx => by rw [k72_openM hx]; exact k72_mkM _ _ _ _)⟩
  rw [hk] at hown ⊢
  exact own_setCell v hown ho
theorem RO_setCells {base g k c : Nat} {l : List Order} : ∀ (vs : List Value) (o : Nat) (W : World), RO W base (.slice (some ⟨g, 0, none⟩) k c) l → k * 5 ≤ o → RO (W.setCells g o vs) base (.slice (some ⟨g, 0, none⟩) k c) l
  | [], _, _, h, _ => h
  | v :: r, o, W, h, ho => RO_setCells r (o + 1) _ (RO_setCell v h ho) (by omega)
theorem below_sets {B g : Nat} {a : World} (hb : B ≤ g) : ∀ (vs : List Value) (o : Nat) (W : World), Below B a W → Below B a (W.setCells g o vs)
  | [], _, _, h => h
  | v :: r, o, W, h => below_sets hb r (o + 1) _ (h.setCell (p := ⟨g, o, none⟩) hb v)
theorem zero5 : (Builtin.zeroCells (Value.agg #[.int .i64 0, .int .i64 0, .int .i64 0, .int .i64 0, .int .i64 0]).cells 1).toList = List.replicate 5 (.int .i64 0) := by kernel_rfl
theorem run_clear_order (W : World) (ty : TypeId) {g o m c : Nat} {cur : Array Value} (hW : W.heap[g]? = some (.cells cur 72 (0, 0))) (ho : o + 5 ≤ cur.size) (hm : m = 1) :
    (Builtin.clear_ #[23] ty #[.slice (some ⟨g, o, none⟩) m c]).run Tryz.prog W = .ok (.tuple #[]) (W.setCells g o (List.replicate 5 (.int .i64 0))) := by
  subst hm
  have hc : ∀ j, j < 5 → W.cell? ⟨g, o + j, none⟩ = some cur[o + j]! := by
    intro j hj
    rw [blk_cell hW (o + j), Array.getElem?_eq_getElem (by omega), getElem!_pos cur (o + j) (by omega)]
  have hst := run_storeCells_cells (P := Tryz.prog) g o (List.replicate 5 (.int .i64 0)) 0 W (by intro j hj; rw [Nat.add_zero, hc j (by simpa using hj)]; rfl) (by intro j hj; simp [World.frozen?, hW]) (by intro v hv'; rw [List.eq_of_mem_replicate hv']; rfl)
  simp only [Nat.add_zero] at hst
  have hv := Tryz.zeroValue72
  have hz := zero5
  generalize List.replicate 5 (Value.int .i64 0) = zs at *
  simp [Builtin.clear_, run_underlying Tryz.underlying23, hv, hz, hst]
set_option maxHeartbeats 1000000 in
set_option maxRecDepth 100000 in
theorem delete_b {g c i j n base : Nat} {l : List Order} {W : World} (HO : RO W base (.slice (some ⟨g, 0, none⟩) n c) l) (hn : l.length = n) (hi : i < n) (hj : j = i + 1) (hnc : n ≤ c) (h9 : n ≤ 9) (hbase : base ≤ W.heap.size) :
    Calls Tryz.prog 88 #[.slice (some ⟨g, 0, none⟩) n c, .int .i64 i, .int .i64 j] W fun e w' => e = .returned (.slice (some ⟨g, 0, none⟩) (n - 1) c) ∧ RO w' base (.slice (some ⟨g, 0, none⟩) (n - 1) c) (l.eraseIdx i) ∧ Below base W w' := by
  have hij : i ≤ j := by omega
  have hlt : i < j := by omega
  have hjn : j ≤ n := by omega
  have hic : i ≤ c := by omega
  have hjc : j ≤ c := by omega
  have hncc : n ≤ c := hnc
  have hm : c ≤ 9223372036854775807 := by
    obtain ⟨g', cap', cur', e1, _, _, h3, h4, _⟩ := (HO.2.choose_spec.1.2).resolve_left (by simp)
    cases e1
    exact h4
  have HH := Aside0.mk HO
  have HJ := Aside0.mk hj
  obtain ⟨A2, hA2⟩ : ∃ A2, (if c = j then some (⟨g, 0, none⟩ : Addr) else some ⟨g, j * 5, none⟩) = A2 := ⟨_, rfl⟩
  clear HO hj
  go_enter Tryz.func88, Tryz.ntmps88
  go_wp2_with fail
  go_region_law (refine Kd.R_delete_step k72 (w0 := W) base (by rfl) (.tmp 22) (.tmp 25) 23 72 rfl Tryz.underlying23 (by kernel_rfl) (g := g) (n := n) (c := c) (k := i) (m := n - j) (c2 := c - j) (A := A2) ?hs ?hx ?hA ?hm (Kd.R_drew HH.out) hi (below_drew (Below.refl _ _)) hbase ?_; (case hs => simp [Act.eval, Act.put]; done); (case hx => simp [Act.eval, Act.put]; done); (case hA => rw [← hA2, HJ.out, Option.map_some]; simp [Addr.add, show k72.sz = 5 from rfl]); (case hm => rw [HJ.out]); intro w1 ho1 hb1 hg1_; have HO1 := Aside0.mk ho1; have HB1 := Aside0.mk hb1; clear ho1 hb1 hg1_)
  have ho1 := HO1.out
  obtain ⟨cur1, hg1, hs1⟩ : ∃ cur1, w1.heap[g]? = some (.cells cur1 72 (0, 0)) ∧ cur1.size = c * 5 ∧ base ≤ g := by
    obtain ⟨_, inner, hown, _⟩ := ho1
    rcases hown.2 with ⟨hv, _⟩ | ⟨g', cap', cur, hv, hb, hh, h3, h4, h5, h6⟩
    · cases hv
    · injection hv with e1 _ e3; injection e1 with e1; injection e1 with e1; subst e1; subst e3; exact ⟨cur, hh, h5, hb⟩
  have hcl := fun ty => run_clear_order w1 ty (g := g) (o := (n - 1) * 5) (m := n - (n - 1)) (c := c - (n - 1)) hg1 (by omega) (by omega)
  have HR := Aside0.mk (RO_setCells (List.replicate 5 (.int .i64 0)) ((n - 1) * 5) w1 ho1 (Nat.le_refl _))
  have HB2 := Aside0.mk (below_sets hs1.2 (List.replicate 5 (.int .i64 0)) ((n - 1) * 5) w1 HB1.out)
  have hn1 : n - 1 ≤ n := by omega
  have hn2 : n - 1 ≤ c := by omega
  have hn3 : ¬ c = n - 1 := by omega
  have hn4 : c ≠ n - 1 := hn3
  have hpos : 1 ≤ n := by omega
  clear ho1 HO1 HB1 hg1 hs1 hA2 HH
  generalize List.replicate 5 (Value.int .i64 0) = zs at *
  go_wp2
  go_ret
  exact ⟨rfl, HR.out, HB2.out⟩
end Go.Proofs.YthonlcnmjlldiaaGreat.P
namespace Go.Proofs.YthonlcnmjlldiaaGreat.P
open Go.Shelf Go.RowKit Go.Proofs.YthonlcnmjlldiaaGreatW.PrintWords Go.Proofs.YthonlcnmjlldiaaGreatW.PrintLast Go.Proofs.YthonlcnmjlldiaaGreatW.PrintMore
set_option linter.unusedVariables false
set_option linter.unusedSimpArgs false
def moveB (k : List Seat) (l : List Order) (now i : Nat) : Bool := match fewestN k (l.eraseIdx i) with | some r => decide (r.length < now) | none => false
def movesTo (k : List Seat) (l : List Order) (now n : Nat) : List Nat := (List.range n).filter (moveB k l now)
theorem movesTo_succ (k : List Seat) (l : List Order) (now n : Nat) : movesTo k l now (n + 1) = if moveB k l now n then movesTo k l now n ++ [n] else movesTo k l now n := by
  unfold movesTo
  rw [List.range_succ, List.filter_append]
  split
  · rename_i h; simp [h]
  · rename_i h; simp [h]
theorem movesTo_len (k : List Seat) (l : List Order) (now n : Nat) : (movesTo k l now n).length ≤ n := Nat.le_trans (List.length_filter_le _ _) (by simp)
def movesL (k : List Seat) (l : List Order) : List Int × Int := match fewestN k l with | some r => (natsI (movesTo k l r.length l.length), 0) | none => ([], 63)
def plan_Moves.f (l0 : List Seat) (l1 : List Order) : Option (List Int × Int) := some (if askErr l0 l1 = 0 then movesL l0 l1 else ([], askErr l0 l1))
theorem Fine.erase {k : List Seat} {l : List Order} (h : Fine k l) (i : Nat) : Fine k (l.eraseIdx i) :=
  ⟨h.hk, fun o ho => h.hl o (List.mem_of_mem_eraseIdx ho), by have := List.length_eraseIdx_le l i; have := h.h9; omega⟩
theorem delete_c {v : Value} {i base : Nat} {l : List Order} {W : World} (HO : RO W base v l) (hi : i < l.length) (h9 : l.length ≤ 9) (hbase : base ≤ W.heap.size) :
    ∃ g c, v = .slice (some ⟨g, 0, none⟩) l.length c ∧ Calls Tryz.prog 88 #[.slice (some ⟨g, 0, none⟩) l.length c, .int .i64 (i : Int), .int .i64 ((i : Int) + 1)] W fun e w' => ∃ A' c', e = .returned (.slice A' (l.eraseIdx i).length c') ∧ (l.eraseIdx i).length ≤ c' ∧ KO w' A' (l.eraseIdx i) ∧ Below base W w' := by
  have HO2 := HO
  obtain ⟨_, inner, hown, _⟩ := HO2
  rcases hown.2 with ⟨_, hn⟩ | ⟨g, cap, cur, rfl, hb, hh, h3, h4, h5, h6⟩
  · omega
  · refine ⟨g, cap, rfl, ?_⟩
    have hd := delete_b (i := i) (j := i + 1) HO rfl hi rfl h3 h9 hbase
    have e : ((i + 1 : Nat) : Int) = (i : Int) + 1 := by omega
    rw [e] at hd
    refine hd.mono ?_
    rintro e w' ⟨rfl, hR, hb'⟩
    obtain ⟨A', c', he, hc, hC⟩ := Kd.R_reads hR
    exact ⟨A', c', by rw [he], hc, hC, hb'⟩
set_option maxHeartbeats 2000000 in
set_option maxRecDepth 100000 in
theorem plan_Moves.calls (A0 : Option Addr) (c0 : Nat) (l0 : List Seat) (A1 : Option Addr) (c1 : Nat) (l1 : List Order) (r1 : List Int) (r2 : Int) (w : World) (hr0 : KS w A0 l0) (hc0 : l0.length ≤ c0) (hr1 : KO w A1 l1) (hc1 : l1.length ≤ c1) (h : plan_Moves.f l0 l1 = some (r1, r2)) :
    Calls Tryz.prog 41 #[.slice A0 l0.length c0, .slice A1 l1.length c1] w fun e w' => ∃ v0_ : Value, e = .returned (.tuple #[v0_, .int .i64 r2]) ∧ Kd.R (Kd.int .i64) 3 w' w.heap.size (fun _ => True) v0_ r1 ∧ Below w.heap.size w w' := by
  have h := Option.some.inj h
  by_cases he : askErr l0 l1 = 0
  · rw [if_pos he] at h
    have hF := (fine_ask he).1
    have hA := asked_ok hr0 hc0 hr1 hc1 (askErr_ok he).1 (askErr_ok he).2
    have HA := Aside0.mk hA
    have HF := Aside0.mk hF
    have HR0 := Aside0.mk hr0
    have HR1 := Aside0.mk hr1
    clear hA he hF hr0 hr1
    unfold movesL at h
    cases hfe : fewestN l0 l1 with
    | none =>
      rw [hfe] at h
      simp only [Prod.mk.injEq] at h
      obtain ⟨rfl, rfl⟩ := h
      go_enter Tryz.func41, Tryz.ntmps41
      go_wp2_with fail
      refine HA.out.mono ?_
      rintro e w2 ⟨ob, mb, rfl, hO, hb, hl1, hl2⟩
      have HO := Aside0.mk hO
      have HB := Aside0.mk hb
      clear hO hb
      go_wp2_with fail
      refine (fewest_b HO.out HF.out).mono ?_
      rintro e w4 ⟨v, rfl, hR, hO4, hg4⟩
      have HG4 := Aside0.mk hg4
      clear hO4 hg4 hR
      rw [hfe]
      simp only [Option.isSome_none]
      clear hfe
      go_wp2
      go_ret2
      exact ⟨_, rfl, Kd.R_nil _ _ _ _ _, HB.out.grown HG4.out HB.out.size (fun j hj => by cases hj; exact hl2)⟩
    | some r =>
      rw [hfe] at h
      simp only [Prod.mk.injEq] at h
      obtain ⟨h1, rfl⟩ := h
      have H1 := Aside0.mk h1
      have hmm := @run_makeMap Tryz.prog
      have hu := Tryz.underlying129
      have h9 := HF.out.h9
      clear h1
      go_enter Tryz.func41, Tryz.ntmps41
      go_wp2_with fail
      refine HA.out.mono ?_
      rintro e w2 ⟨ob, mb, rfl, hO, hb, hl1, hl2⟩
      have HO := Aside0.mk hO
      have HB := Aside0.mk hb
      clear hO hb
      go_wp2_with fail
      refine (fewest_b HO.out HF.out).mono ?_
      rintro e w4 ⟨v, rfl, hR, hO4, hg4⟩
      obtain ⟨A, cc, rfl, hcc, hC⟩ := Kd.R_reads hR
      have hb4 : Below w.heap.size w w4 := HB.out.grown hg4 HB.out.size (fun j hj => by cases hj; exact hl2)
      have HB4 := Aside0.mk hb4
      clear hO4 hg4 hR hC hcc hb4 HB HO
      rw [hfe]
      simp only [Option.isSome_some, Option.getD_some]
      have hnl := natsI_len r
      obtain ⟨N, hN⟩ : ∃ N, N = (natsI r).length := ⟨_, rfl⟩
      rw [← hN]
      have HN := Aside0.mk (show r.length = N by omega)
      rw [HN.out] at H1
      clear hfe hnl hN HN
      go_wp2
      go_loopg [10, 33] l1.length (fun gg s10 s33 wr => ∃ kk : Nat, kk ≤ l1.length ∧ l1.length - kk ≤ gg ∧ s33 = .int .i64 (kk : Int) ∧ Aside0 (Kd.R (Kd.int .i64) 3 wr w.heap.size (fun _ => True) s10 (natsI (movesTo l0 l1 N kk))) ∧ Aside0 (Below w.heap.size w wr))
      case atStart => exact ⟨0, Nat.zero_le _, by omega, rfl, ⟨Kd.R_nil _ _ _ _ _⟩, HB4⟩
      case round =>
        clear HB4
        obtain ⟨kk, hkk, hg, rfl, HR, HB⟩ := hrel
        by_cases hlt : kk < l1.length
        · have hltz : (kk : Int) < (l1.length : Int) := by omega
          have hcl := clone_b (c := c1) (w := wr) (Kd.C_below HR1.out HB.out) h9
          have HCL := Aside0.mk hcl
          clear hcl
          go_wp2_with fail
          refine HCL.out.mono ?_
          rintro e W1 ⟨v1, rfl, hv1, hb1⟩
          obtain ⟨g, c', rfl, hdel⟩ := delete_c hv1 hlt h9 hb1.size
          have HDEL := Aside0.mk hdel
          have HB1 := Aside0.mk hb1
          have hmv : moveB l0 l1 N kk = match fewestN l0 (l1.eraseIdx kk) with | some r => decide (r.length < N) | none => false := rfl
          have HMV := Aside0.mk hmv
          have HFE := Aside0.mk (HF.out.erase kk)
          have hms := movesTo_succ l0 l1 N kk
          have HMS := Aside0.mk hms
          have HML := Aside0.mk (movesTo_len l0 l1 N kk)
          clear hv1 hb1 hdel hmv hms
          generalize l1.eraseIdx kk = l' at *
          go_wp2_with fail
          refine HDEL.out.mono ?_
          rintro e W2 ⟨A2, c2, rfl, hc2, hC2, hb2⟩
          have hbr2 : Below wr.heap.size wr W2 := ⟨hb2.os.trans HB1.out.os, hb2.tape.trans HB1.out.tape, hb2.output.trans HB1.out.output, Nat.le_trans HB1.out.size hb2.size, fun j hj => (hb2.block j hj).trans (HB1.out.block j hj)⟩
          have hoff := Off.made (Kd.C_below HR0.out (below_refl_trans HB.out hbr2)) hc0 hC2 hc2
          have hfw := fewest_b hoff HFE.out
          have HFW := Aside0.mk hfw
          have HBR2 := Aside0.mk hbr2
          clear hoff hfw hC2 hb2 hbr2 HDEL HB1
          go_wp2_with fail
          refine HFW.out.mono ?_
          rintro e W4 ⟨v4, rfl, hR4, hO4, hg4⟩
          obtain ⟨A4, c4, rfl, hc4, hC4⟩ := Kd.R_reads hR4
          have hs2 := HBR2.out.size
          have hsr := HB.out.size
          have hbr4 : Below wr.heap.size wr W4 := (((HBR2.out.alloc hs2 _).alloc (by simp; omega) _).grown hg4 (by simp; omega) (fun j hj => by cases hj; exact hs2))
          have HBR4 := Aside0.mk hbr4
          have hbw4 := below_refl_trans HB.out hbr4
          have HBW4 := Aside0.mk hbw4
          have hr4 := Kd.R_below HR.out hbr4
          have HR4 := Aside0.mk hr4
          clear hR4 hO4 hg4 hC4 hc4 hbr4 hbw4 hr4 HFW
          cases hfe' : fewestN l0 l' with
          | none =>
            rw [hfe'] at HMV
            have hm : moveB l0 l1 N kk = false := HMV.out
            simp only [Option.isSome_none, Option.getD_none]
            have HMS2 := HMS.out
            rw [hm] at HMS2
            have HM2 := Aside0.mk (show movesTo l0 l1 N (kk + 1) = movesTo l0 l1 N kk from HMS2)
            clear hm hfe' HMS2 HMV HMS
            go_wp2
            go_roundg (l1.length - (kk + 1))
            case measure => omega
            case rel => exact ⟨kk + 1, by omega, by omega, by go_num, ⟨by rw [HM2.out]; exact HR4.out⟩, HBW4⟩
          | some r' =>
            rw [hfe'] at HMV
            simp only [Option.isSome_some, Option.getD_some]
            have hm : moveB l0 l1 N kk = decide (r'.length < N) := HMV.out
            have hnl := natsI_len r'
            obtain ⟨M, hM⟩ : ∃ M, M = (natsI r').length := ⟨_, rfl⟩
            rw [← hM]
            rw [show r'.length = M by omega] at hm
            have HMS2 := HMS.out
            rw [hm] at HMS2
            clear hm hfe' hnl hM HMV HMS
            by_cases hMN : M < N
            · have hd1 : decide (M < N) = true := decide_eq_true hMN
              have hd2 : decide ((M : Int) < (N : Int)) = true := decide_eq_true (by omega)
              rw [hd1] at HMS2
              have HM2 := Aside0.mk (show movesTo l0 l1 N (kk + 1) = movesTo l0 l1 N kk ++ [kk] from HMS2)
              have HN2 := Aside0.mk (show natsI (movesTo l0 l1 N kk) ++ [(kk : Int)] = natsI (movesTo l0 l1 N (kk + 1)) by rw [HM2.out]; simp [natsI])
              have HL := Aside0.mk (show (natsI (movesTo l0 l1 N kk)).length ≤ kk by rw [natsI_len]; exact HML.out)
              clear HMS2 HM2 HML hMN
              generalize natsI (movesTo l0 l1 N kk) = xs at *
              go_wp2_with (at_builtin; refine append_d .i64 (w0 := w) w.heap.size rfl (.tmp 59) (.tmp 61) 41 3 8 rfl Tryz.underlying41 info_int (by decide) _ xs (kk : Int) rfl rfl HR4.out HBW4.out HBW4.out.size ?aL ?_; (case aL => have := HL.out; omega); intro v1 w1 ho hb hd; rw [HN2.out] at ho; have HR5 := Aside0.mk ho; have HB5 := Aside0.mk hb; clear ho hb hd)
              go_roundg (l1.length - (kk + 1))
              case measure => omega
              case rel => exact ⟨kk + 1, by omega, by omega, by go_num, HR5, HB5⟩
            · have hd1 : decide (M < N) = false := decide_eq_false hMN
              have hd2 : decide ((M : Int) < (N : Int)) = false := decide_eq_false (by omega)
              rw [hd1] at HMS2
              have HM2 := Aside0.mk (show movesTo l0 l1 N (kk + 1) = movesTo l0 l1 N kk from HMS2)
              clear HMS2 hMN
              go_wp2
              go_roundg (l1.length - (kk + 1))
              case measure => omega
              case rel => exact ⟨kk + 1, by omega, by omega, by go_num, ⟨by rw [HM2.out]; exact HR4.out⟩, HBW4⟩
        · have hltz : ¬ (kk : Int) < (l1.length : Int) := by omega
          have hd1 : decide (kk < l1.length) = false := decide_eq_false hlt
          have hd2 : decide ((kk : Int) < (l1.length : Int)) = false := decide_eq_false hltz
          have hge : kk = l1.length := by omega
          subst hge
          have HR2 := HR.out
          rw [H1.out] at HR2
          have HR3 := Aside0.mk HR2
          clear hlt hltz HR2
          go_wp2
          go_ret2
          exact ⟨_, rfl, HR3.out, HB.out⟩
  · rw [if_neg he] at h
    simp only [Prod.mk.injEq] at h
    obtain ⟨rfl, rfl⟩ := h
    have hA := asked_no hr0 hc0 hr1 hc1 he
    have HA := Aside0.mk hA
    have hbn : (askErr l0 l1 != 0) = true := by simpa using he
    have hbe : (askErr l0 l1 == 0) = false := by simpa using he
    generalize askErr l0 l1 = z at *
    clear hA he hr0 hr1
    go_enter Tryz.func41, Tryz.ntmps41
    go_wp2_with fail
    refine HA.out.mono ?_
    rintro e w2 ⟨rfl, hb⟩
    have HB := Aside0.mk hb
    clear hb
    go_wp2
    go_ret2
    exact ⟨_, rfl, Kd.R_nil _ _ _ _ _, HB.out⟩
end Go.Proofs.YthonlcnmjlldiaaGreat.P
namespace Go.Proofs.YthonlcnmjlldiaaGreat.P
open Go.Shelf Go.RowKit Go.Proofs.YthonlcnmjlldiaaGreatW.PrintWords Go.Proofs.YthonlcnmjlldiaaGreatW.PrintLast Go.Proofs.YthonlcnmjlldiaaGreatW.PrintMore
set_option linter.unusedVariables false
set_option linter.unusedSimpArgs false
section
variable {n : Nat} {P : Program} {os : List Oper} {Q : Exit → Act → World → Prop}
def Ahead (ls : List Bool) (o : Oper) : Prop := ∀ e ∈ o.after.toList, Region.binds .any e = true → ls[e.on]? = some true
def StepAll (n : Nat) (P : Program) (os : List Oper) (Q : Exit → Act → World → Prop) (I : List Bool → Act → World → Prop) : Nat → List Oper → Prop
  | _, [] => True
  | k, o :: r => (∀ ls a w, ls[k]? = some false → Ahead ls o → I ls a w → Region.wanted o (yielded os.toArray a.tmps) = true ∧ Oper.wpIn Fence.wide n P o a w (I (ls.set k true)) Q) ∧ StepAll n P os Q I (k + 1) r
theorem StepAll.at {I : List Bool → Act → World → Prop} : ∀ (r : List Oper) (k i : Nat) (o : Oper), StepAll n P os Q I k r → r[i]? = some o →
    ∀ ls a w, ls[k + i]? = some false → Ahead ls o → I ls a w → Region.wanted o (yielded os.toArray a.tmps) = true ∧ Oper.wpIn Fence.wide n P o a w (I (ls.set (k + i) true)) Q
  | [], _, _, _, _, h => by simp at h
  | o' :: r, k, 0, o, hs, h => by
    simp at h
    subst h
    exact hs.1
  | o' :: r, k, i + 1, o, hs, h => by
    have := StepAll.at r (k + 1) i o hs.2 (by simpa using h)
    rw [show k + 1 + i = k + (i + 1) by omega] at this
    exact this
def Stuck (os : List Oper) (ls : List Bool) : Prop := ∀ i : Nat, ls[i]? = some false → ∀ o, os[i]? = some o → ∃ e ∈ o.after.toList, Region.binds .any e = true ∧ ls[e.on]? ≠ some true
theorem count_set {ls : List Bool} {i : Nat} (h : ls[i]? = some false) : (ls.set i true).count false + 1 = ls.count false := by
  induction ls generalizing i with
  | nil => simp at h
  | cons b bs ih =>
    cases i with
    | zero => simp at h; subst h; simp
    | succ i =>
      have := ih (i := i) (by simpa using h)
      simp only [List.set_cons_succ, List.count_cons]
      omega
theorem getD_false {ls : List Bool} {i : Nat} (h : ls.toArray.getD i true = false) : ls[i]? = some false := by
  simp only [Array.getD_eq_getD_getElem?, List.getElem?_toArray] at h
  cases h2 : ls[i]? with
  | none => rw [h2] at h; simp at h
  | some b => rw [h2] at h; simp at h; rw [h]
theorem getD_true {ls : List Bool} {i : Nat} : ls.toArray.getD i false = true ↔ ls[i]? = some true := by
  simp only [Array.getD_eq_getD_getElem?, List.getElem?_toArray]
  cases h2 : ls[i]? with
  | none => simp
  | some b => simp
theorem reg_inv (I : List Bool → Act → World → Prop) (hs : StepAll n P os Q I 0 os) (hend : ∀ ls a w, I ls a w → Stuck os ls → Q .normal a w) :
    ∀ (fuel : Nat) (ls : List Bool) (a : Act) (w : World), ls.length = os.length → ls.count false ≤ fuel → I ls a w → RegW n P os Q fuel ls a w := by
  have hst : ∀ ls : List Bool, ls.length = os.length → Region.ready .any os.toArray ls.toArray = [] → Stuck os ls := by
    intro ls hlen hr i hi o ho
    apply Decidable.byContradiction
    intro hno
    have hm : i ∈ Region.ready .any os.toArray ls.toArray := by
      refine mem_ready.2 ⟨by simp [hi], o, by simpa using ho, fun e he hb => ?_⟩
      apply Decidable.byContradiction
      intro h2
      exact hno ⟨e, by simpa using he, hb, fun h3 => h2 (getD_true.2 h3)⟩
    rw [hr] at hm
    cases hm
  intro fuel
  induction fuel with
  | zero =>
    intro ls a w hlen hc hI
    have hr : Region.ready .any os.toArray ls.toArray = [] := by
      apply List.eq_nil_iff_forall_not_mem.2
      intro i hi
      have h1 := getD_false (mem_ready.1 hi).1
      have := count_set h1
      omega
    exact ⟨hr, hend ls a w hI (hst ls hlen hr)⟩
  | succ fuel ih =>
    intro ls a w hlen hc hI
    refine ⟨fun hr => hend ls a w hI (hst ls hlen hr), fun i hi => ?_⟩
    obtain ⟨h1, o, ho, hall⟩ := mem_ready.1 hi
    have h1 := getD_false h1
    have ho' : os[i]? = some o := by simpa using ho
    obtain ⟨hw, hop⟩ := StepAll.at os 0 i o hs ho' ls a w (by rw [Nat.zero_add]; exact h1) (fun e he hb => getD_true.1 (hall e (by simpa using he) hb)) hI
    rw [Nat.zero_add] at hop
    unfold wpOpIn
    rw [ho]
    simp only [hw, if_true]
    refine Oper.wpIn_mono (fun a' w' hI' => ?_) hop
    rw [set_arr]
    have := count_set h1
    exact ih _ _ _ (by simpa using hlen) (by omega) hI'
end
theorem reg_start0 {n : Nat} {P : Program} {os : List Oper} {Q : Exit → Act → World → Prop} {a : Act} {w : World} {id : Nat} (hm : P.follows .mixedOrders = true) (fuel : Nat) (ls : List Bool) (hf : os.toArray.size = fuel) (hl : Array.replicate fuel false = ls.toArray) (h : RegW n P os Q fuel ls a w.drew) :
    (Code.region id os.toArray true).wpIn Fence.wide n P Q a w := by
  refine wpIn_region_any hm ?_
  rw [hf, hl]
  exact h
theorem op_wide {n : Nat} {P : Program} {o : Oper} {a : Act} {w : World} {K : Act → World → Prop} {Q : Exit → Act → World → Prop} (h : Oper.wp P o a w K Q) : Oper.wpIn Fence.wide n P o a w K Q := by
  refine ⟨fun _ _ => trivial, ?_⟩
  rw [show Fence.wide.round = none from rfl, Oper.semAt_none]
  unfold Oper.wp at h
  generalize (execOp a.eval o).run P w = r at *
  cases r with
  | ok x w' =>
    cases x with
    | enter f args => exact ⟨fun h => (by cases h), callsIn_wide.2 h⟩
    | row r args =>
      refine ⟨fun h => (by cases h), fun c cs _ => ?_⟩
      obtain ⟨v, w2, h1, h2⟩ := h c cs
      exact ⟨v, w2, h1, stepsIn_wide.2 h2⟩
    | round => exact h.elim
    | _ => exact h
  | halt x w' => cases x <;> exact h
end Go.Proofs.YthonlcnmjlldiaaGreat.P
namespace Go.Proofs.YthonlcnmjlldiaaGreat.P
open Go.Shelf Go.RowKit Go.Proofs.YthonlcnmjlldiaaGreatW.PrintWords Go.Proofs.YthonlcnmjlldiaaGreatW.PrintLast Go.Proofs.YthonlcnmjlldiaaGreatW.PrintMore
set_option linter.unusedVariables false
set_option linter.unusedSimpArgs false
attribute [local go_sem] Oper.semAt_some max2_mx min2_mn max_two min_two
def ownN (l : List Order) : Nat := 2 ^ l.length
def spareRest (k : List Seat) (l : List Order) (x : Order) (p : Nat) : Int := roomI k (l ++ [x]) ((p ||| ownN l : Nat) : Int) - needI l (p : Int)
def spareOf (k : List Seat) (l : List Order) (x : Order) (ps : List Nat) : Int := ps.foldl (fun n p => mn n (spareRest k l x p)) (roomI k (l ++ [x]) ((ownN l : Nat) : Int))
theorem spareOf_snoc (k : List Seat) (l : List Order) (x : Order) (ps : List Nat) (p : Nat) : spareOf k l x (ps ++ [p]) = mn (spareOf k l x ps) (spareRest k l x p) := by
  unfold spareOf
  rw [List.foldl_append]
  rfl
def spareN (k : List Seat) (l : List Order) (m : Nat) (x : Order) : Int := spareOf k l x ((partsF m).map (·.val))
def spareR (k : List Seat) (l : List Order) (s : List Int) (x : Order) : Int × Int :=
  if askSetErr k l s = 0 then (if orderOk x then (if fitsB k l (maskOf s) then (spareN k l (maskOf s) x, 0) else (0, 63)) else (0, 60)) else (0, askSetErr k l s)
def plan_Spare.f (l0 : List Seat) (l1 : List Order) (l2 : List Int) (a0 a1 a2 a3 a4 : Int) : Option (Int × Int) := some (spareR l0 l1 l2 ⟨a0, a1, ⟨a2, a3⟩, a4⟩)
theorem Fine.snoc {k : List Seat} {l : List Order} (h : Fine k l) (h8 : l.length ≤ 8) {x : Order} (hx : orderOk x = true) : Fine k (l ++ [x]) :=
  ⟨h.hk, fun o ho => by
    rcases List.mem_append.1 ho with ho | ho
    · exact h.hl o ho
    · rw [List.mem_singleton.1 ho]
      unfold orderOk inB at hx
      simp only [Bool.and_eq_true, decide_eq_true_eq] at hx
      omega, by simp; omega⟩
theorem spareOf_bd {k : List Seat} {l : List Order} (hF : Fine k l) (h8 : l.length ≤ 8) {x : Order} (hx : orderOk x = true) (ps : List Nat) : -9000 ≤ spareOf k l x ps ∧ spareOf k l x ps ≤ 24000 := by
  have hr := fun m => roomI_bd hF.hk (l ++ [x]) m
  have hn := fun m : Int => needTo_bd hF.hl m l.length (Nat.le_refl _)
  have aux : ∀ (ps : List Nat) (b : Int), -9000 ≤ b ∧ b ≤ 24000 → -9000 ≤ ps.foldl (fun n p => mn n (spareRest k l x p)) b ∧ ps.foldl (fun n p => mn n (spareRest k l x p)) b ≤ 24000 := by
    intro ps
    induction ps with
    | nil => intro b h; exact h
    | cons p ps ih =>
      intro b h
      refine ih _ ?_
      have h1 := hr ((p ||| ownN l : Nat) : Int)
      have h2 := hn (p : Int)
      have : -9000 ≤ spareRest k l x p ∧ spareRest k l x p ≤ 24000 := by unfold spareRest needI; omega
      show -9000 ≤ mn b (spareRest k l x p) ∧ mn b (spareRest k l x p) ≤ 24000
      unfold mn
      split <;> omega
  exact aux ps _ (by have := hr ((ownN l : Nat) : Int); omega)
theorem StepAll.nil {n : Nat} {P : Program} {os : List Oper} {Q : Exit → Act → World → Prop} {I : List Bool → Act → World → Prop} {k : Nat} : StepAll n P os Q I k [] := trivial
theorem StepAll.cons {n : Nat} {P : Program} {os : List Oper} {Q : Exit → Act → World → Prop} {I : List Bool → Act → World → Prop} {k : Nat} {o : Oper} {r : List Oper} (h : ∀ ls a w, ls[k]? = some false → Ahead ls o → I ls a w → Region.wanted o (yielded os.toArray a.tmps) = true ∧ Oper.wpIn Fence.wide n P o a w (I (ls.set k true)) Q) (hs : StepAll n P os Q I (k + 1) r) : StepAll n P os Q I k (o :: r) := ⟨h, hs⟩
structure R9 (base : Nat) (W0 : World) (A0 : Option Addr) (c0 : Nat) (l0 : List Seat) (A1 : Option Addr) (c1 : Nat) (l1 lx : List Order) (x : Order) (W : World) (b0 b1 b2 b3 b4 b5 b6 b7 b8 b9 b10 : Bool) (s14 s38 s39 s40 s41 s42 s43 s44 s45 s46 : Value) : Prop where
  hb : Below base W0 W
  f0 : b0 = true → s38 = .slice A0 l0.length c0
  f1 : b1 = true → s39 = .slice A1 l1.length c1
  f2 : b2 = true → b5 = false → RO W base s40 l1
  f3 : b3 = true → s41 = ordV x
  f4 : b4 = true → b5 = false → ∃ g, s42 = .slice (some ⟨g, 0, none⟩) 1 1 ∧ base ≤ g ∧ W.heap[g]? = some (.cells #[.int .i64 x.f0, .int .i64 x.f1, .int .i64 x.f2.f0, .int .i64 x.f2.f1, .int .i64 x.f3] 72 (0, 0))
  f5 : b5 = true → ∃ A c, s43 = .slice A lx.length c ∧ RO W base (.slice A lx.length c) lx
  f6 : b6 = true → ∃ mb, s44 = .map (some mb) ∧ base ≤ mb ∧ RMap W mb (fun _ => none)
  f7 : b7 = true → b5 = true ∧ ∃ A c mb, s45 = .agg #[.slice A0 l0.length c0, .slice A lx.length c, .map (some mb)] ∧ RO W base (.slice A lx.length c) lx ∧ base ≤ mb ∧ RMap W mb (fun _ => none)
  f8 : b8 = true → b5 = true ∧ ∃ A c mb ob, s46 = .pointer (some ⟨ob, 0, none⟩) ∧ base ≤ ob ∧ W.heap[ob]? = some (.cells #[.slice A0 l0.length c0, .slice A lx.length c, .map (some mb)] 129 (0, 0)) ∧ RO W base (.slice A lx.length c) lx ∧ base ≤ mb ∧ RMap W mb (fun _ => none)
  f9 : b9 = true → b10 = false → ∃ B, s14 = .pointer (some ⟨B, 0, none⟩) ∧ base ≤ B ∧ Boxed W B 80 (.pointer none)
  f10 : b10 = true → b9 = true ∧ b5 = true ∧ ∃ A c mb ob B, s14 = .pointer (some ⟨B, 0, none⟩) ∧ base ≤ B ∧ Boxed W B 80 (.pointer (some ⟨ob, 0, none⟩)) ∧ base ≤ ob ∧ W.heap[ob]? = some (.cells #[.slice A0 l0.length c0, .slice A lx.length c, .map (some mb)] 129 (0, 0)) ∧ RO W base (.slice A lx.length c) lx ∧ base ≤ mb ∧ RMap W mb (fun _ => none)
section
variable {base : Nat} {W0 : World} {A0 : Option Addr} {c0 : Nat} {l0 : List Seat} {A1 : Option Addr} {c1 : Nat} {l1 lx : List Order} {x : Order} {W W' : World} {b0 b1 b2 b3 b4 b5 b6 b7 b8 b9 b10 : Bool} {s14 s38 s39 s40 s41 s42 s43 s44 s45 s46 : Value}
theorem R9.below (h : R9 base W0 A0 c0 l0 A1 c1 l1 lx x W b0 b1 b2 b3 b4 b5 b6 b7 b8 b9 b10 s14 s38 s39 s40 s41 s42 s43 s44 s45 s46) (hs : base ≤ W.heap.size) (hW : Below W.heap.size W W') : R9 base W0 A0 c0 l0 A1 c1 l1 lx x W' b0 b1 b2 b3 b4 b5 b6 b7 b8 b9 b10 s14 s38 s39 s40 s41 s42 s43 s44 s45 s46 where
  hb := h.hb.trans (hW.mono hs)
  f0 := h.f0
  f1 := h.f1
  f2 a b := Kd.R_below (h.f2 a b) hW
  f3 := h.f3
  f4 a b := by obtain ⟨g, h1, h2, h3⟩ := h.f4 a b; exact ⟨g, h1, h2, (hW.block g (blk_lt h3)).trans h3⟩
  f5 a := by obtain ⟨A, c, h1, h2⟩ := h.f5 a; exact ⟨A, c, h1, Kd.R_below h2 hW⟩
  f6 a := by obtain ⟨mb, h1, h2, h3⟩ := h.f6 a; exact ⟨mb, h1, h2, h3.below hW⟩
  f7 a := by obtain ⟨h0, A, c, mb, h1, h2, h3, h4⟩ := h.f7 a; exact ⟨h0, A, c, mb, h1, Kd.R_below h2 hW, h3, h4.below hW⟩
  f8 a := by obtain ⟨h0, A, c, mb, ob, h1, h2, h3, h4, h5, h6⟩ := h.f8 a; exact ⟨h0, A, c, mb, ob, h1, h2, (hW.block ob (blk_lt h3)).trans h3, Kd.R_below h4 hW, h5, h6.below hW⟩
  f9 a b := by obtain ⟨B, h1, h2, h3⟩ := h.f9 a b; exact ⟨B, h1, h2, h3.kept (grown_of_below hW none) (by simp)⟩
  f10 a := by obtain ⟨h00, h0, A, c, mb, ob, B, h1, h2, h3, h4, h5, h6, h7, h8⟩ := h.f10 a; exact ⟨h00, h0, A, c, mb, ob, B, h1, h2, h3.kept (grown_of_below hW none) (by simp), h4, (hW.block ob (blk_lt h5)).trans h5, Kd.R_below h6 hW, h7, h8.below hW⟩
end
theorem shl_small : ∀ n : Fin 10, (IntKind.u64.wrap (2 ^ n.val) : Int) = ((2 ^ n.val : Nat) : Int) := by decide
theorem or_own_all : ∀ a : Fin 512, ∀ n : Fin 9, Go.bits .or .u64 (a.val : Int) ((2 ^ n.val : Nat) : Int) = ((a.val ||| 2 ^ n.val : Nat) : Int) := by decide +kernel
structure R14 (V : World) (mb nb : Nat) (k : List Seat) (lx : List Order) (v0 v1 v2 v3 v4 v5 v6 v7 v8 v9 v10 : Value) (W : World) (b0 b1 b2 b3 b4 b5 b6 b7 b8 b9 b10 b11 : Bool) (s0 s1 s2 s3 s4 s5 s6 s7 s8 s9 s10 : Value) : Prop where
  f0 : b0 = true → s0 = v0
  f1 : b1 = true → s1 = v1
  f2 : b2 = true → s2 = v2
  f3 : b3 = true → s3 = v3
  f4 : b4 = true → s4 = v4
  f5 : b5 = true → s5 = v5
  f6 : b6 = true → s6 = v6
  f7 : b7 = true → s7 = v7
  f8 : b8 = true → s8 = v8
  f9 : b9 = true → s9 = v9
  f10 : b10 = true → s10 = v10
  w0 : b11 = false → V.grownBy W (some mb) ∧ RM W mb k lx
  w2 : b11 = true → (b0 && b1 && b2 && b3 && b4 && b5 && b6 && b7 && b8 && b9 && b10) = true
  w1 : b11 = true → ∃ Wp, V.grownBy Wp (some mb) ∧ RM Wp mb k lx ∧ W = Wp.setCell ⟨nb, 0, none⟩ v10
theorem if_want {c : Prop} [Decidable c] {A B : Prop} (hc : c) (h : if c then A else B) : A := by rwa [if_pos hc] at h
theorem C_one {W : World} {g : Nat} {x : Order} (h : W.heap[g]? = some (.cells #[.int .i64 x.f0, .int .i64 x.f1, .int .i64 x.f2.f0, .int .i64 x.f2.f1, .int .i64 x.f3] 72 (0, 0))) : Kd.C k72 W (some ⟨g, 0, none⟩) 1 [x] := by
  refine ⟨rfl, by simp, fun _ => ⟨_, rfl, fun j p hp => ?_⟩⟩
  obtain ⟨hj, rfl⟩ := List.getElem?_eq_some_iff.1 hp
  have hj0 : j = 0 := by simp at hj; exact hj
  subst hj0
  refine ⟨_, rfl, k72_mk W x, fun i u hu => ?_⟩
  have e : (⟨g, 0, none⟩ : Addr).add (0 * k72.sz + i) = ⟨g, i, none⟩ := by
    unfold Addr.add
    simp
    exact fun h => h.symm
  rw [e, blk_cell h i, List.getElem?_toArray]
  exact hu
theorem own_map_ne {W : World} {base mb : Nat} {v : Value} {l : List Order} {g : Int → Option Int} (h : RO W base v l) (hm : RMap W mb g) : some mb ≠ v.ownBlock := by
  intro e
  obtain ⟨_, inner, ho, _⟩ := h
  obtain ⟨cells, hc⟩ := own_typed ho mb e.symm
  obtain ⟨es, cl, hm'⟩ := hm.isMap
  rw [hc] at hm'
  cases hm'
theorem own_box_ne {W : World} {base B : Nat} {v u : Value} {l : List Order} (h : RO W base v l) (hB : Boxed W B 80 u) : some B ≠ v.ownBlock := by
  intro e
  obtain ⟨_, inner, ho, _⟩ := h
  exact hB.not_row (by decide) ho e
theorem RO_box {W : World} {base B : Nat} {v u u' : Value} {l : List Order} (h : RO W base v l) (hB : Boxed W B 80 u) : RO (W.setCell ⟨B, 0, none⟩ u') base v l :=
  Kd.R_mono (Kd.R_far (Kd.R_types h hB (by intro q hq; simp [k72, Kd.iso, Kd.pair, Kd.int, Kd.scalar, k68] at hq; omega)) (fun k hk => hk.2) u') (fun _ _ => trivial)
set_option maxHeartbeats 4000000 in
set_option maxRecDepth 100000 in
theorem plan_Spare.calls (A0 : Option Addr) (c0 : Nat) (l0 : List Seat) (A1 : Option Addr) (c1 : Nat) (l1 : List Order) (A2 : Option Addr) (c2 : Nat) (l2 : List Int) (x0 x1 x2 x3 x4 : Int) (r1 : Int) (r2 : Int) (w : World) (hr0 : KS w A0 l0) (hc0 : l0.length ≤ c0) (hr1 : KO w A1 l1) (hc1 : l1.length ≤ c1) (hr2 : KI w A2 l2) (hc2 : l2.length ≤ c2) (h : plan_Spare.f l0 l1 l2 x0 x1 x2 x3 x4 = some (r1, r2)) :
    Calls Tryz.prog 38 #[.slice A0 l0.length c0, .slice A1 l1.length c1, .slice A2 l2.length c2, .agg #[.int .i64 x0, .int .i64 x1, .int .i64 x2, .int .i64 x3, .int .i64 x4]] w fun e w' => e = .returned (.tuple #[.int .i64 r1, .int .i64 r2]) ∧ Below w.heap.size w w' := by
  replace h := Option.some.inj h
  obtain ⟨x, hx⟩ : ∃ x : Order, x = ⟨x0, x1, ⟨x2, x3⟩, x4⟩ := ⟨_, rfl⟩
  rw [← hx] at h
  rw [show x0 = x.f0 by rw [hx], show x1 = x.f1 by rw [hx], show x2 = x.f2.f0 by rw [hx], show x3 = x.f2.f1 by rw [hx], show x4 = x.f3 by rw [hx]]
  clear hx x0 x1 x2 x3 x4
  unfold spareR at h
  have hbx := fun o1 o2 => (below_alloc (below_alloc (Below.refl w.heap.size w) o1) o2)
  by_cases he : askSetErr l0 l1 l2 = 0
  · rw [if_pos he] at h
    obtain ⟨ha, hs⟩ := askSet_split he
    have hF := (fine_ask ha).1
    have h8 := (fine_ask ha).2
    have hm := maskOf_lt l2 (setFrom_mem hs)
    have hA := fun o1 o2 => askedSet_ok (Kd.C_below hr0 (hbx o1 o2)) hc0 (Kd.C_below hr1 (hbx o1 o2)) hc1 (Kd.C_below hr2 (hbx o1 o2)) hc2 ha hs
    have HA := Aside0.mk (hA (.cells #[.slice A1 l1.length c1] 23) (.cells #[.int .i64 x.f0, .int .i64 x.f1, .int .i64 x.f2.f0, .int .i64 x.f2.f1, .int .i64 x.f3] 72))
    have hm512 := two_lt hF.h9 hm
    have hmix : Tryz.prog.follows .mixedOrders = true := by kernel_rfl
    have HF := Aside0.mk hF
    have HR0 := Aside0.mk hr0
    have HR1 := Aside0.mk hr1
    have HM := Aside0.mk hm
    have HM5 := Aside0.mk hm512
    have HX := Aside0.mk (fun V => checkOrder_b x V)
    clear hA he ha hs hF hr0 hr1 hr2 hm hbx hm512
    generalize maskOf l2 = m at *
    cases hx : orderOk x
    · rw [hx] at h HX
      simp only [Bool.false_eq_true, if_false, Prod.mk.injEq] at h HX
      obtain ⟨rfl, rfl⟩ := h
      clear hx HM HM5 HR0 HR1 HF
      go_enter Tryz.func38, Tryz.ntmps38
      go_wp2_with fail
      refine HA.out.mono ?_
      rintro e w2 ⟨ob, mb, rfl, hO, hb, hl1, hl2⟩
      have HB := Aside0.mk hb
      have hbx2 : w2.heap[w.heap.size + 1]? = some (.cells #[.int .i64 x.f0, .int .i64 x.f1, .int .i64 x.f2.f0, .int .i64 x.f2.f1, .int .i64 x.f3] 72 (0, 0)) := (hb.block (w.heap.size + 1) (by simp)).trans (by
        have h := heap_alloc_new (w.alloc (.cells #[.slice A1 l1.length c1] 23)) (.cells #[.int .i64 x.f0, .int .i64 x.f1, .int .i64 x.f2.f0, .int .i64 x.f2.f1, .int .i64 x.f3] 72)
        rwa [World.size_alloc] at h)
      have d0 := (blk_cell hbx2 0).trans rfl
      have d1 := (blk_cell hbx2 1).trans rfl
      have d2 := (blk_cell hbx2 2).trans rfl
      have d3 := (blk_cell hbx2 3).trans rfl
      have d4 := (blk_cell hbx2 4).trans rfl
      clear hO hb hbx2
      go_wp2_with fail
      refine (HX.out _).mono ?_
      rintro e w3 ⟨rfl, hb3⟩
      have HB3 := Aside0.mk hb3
      clear hb3
      go_wp2
      go_ret2
      exact ⟨rfl, below_refl_trans (below_refl_trans (below_alloc (below_alloc (Below.refl _ _) _) _) HB.out) HB3.out⟩
    · cases hft : fitsB l0 l1 m
      · rw [hx, hft] at h
        rw [hx] at HX
        simp only [Bool.false_eq_true, if_false, if_true, Prod.mk.injEq] at h HX
        obtain ⟨rfl, rfl⟩ := h
        have HFT := Aside0.mk (fun (V : World) ob mb (hV : Off V ob mb l0 l1) => fits_b hV HF.out HM.out)
        rw [hft] at HFT
        clear hx hft HM5 HR0 HR1
        go_enter Tryz.func38, Tryz.ntmps38
        go_wp2_with fail
        refine HA.out.mono ?_
        rintro e w2 ⟨ob, mb, rfl, hO, hb, hl1, hl2⟩
        have HO := Aside0.mk hO
        have HB := Aside0.mk hb
        have hw2 := hb.size
        rw [World.size_alloc, World.size_alloc] at hw2 hl1 hl2
        have hbx2 : w2.heap[w.heap.size + 1]? = some (.cells #[.int .i64 x.f0, .int .i64 x.f1, .int .i64 x.f2.f0, .int .i64 x.f2.f1, .int .i64 x.f3] 72 (0, 0)) := (hb.block (w.heap.size + 1) (by simp)).trans (by
          have h := heap_alloc_new (w.alloc (.cells #[.slice A1 l1.length c1] 23)) (.cells #[.int .i64 x.f0, .int .i64 x.f1, .int .i64 x.f2.f0, .int .i64 x.f2.f1, .int .i64 x.f3] 72)
          rwa [World.size_alloc] at h)
        have d0 := (blk_cell hbx2 0).trans rfl
        have d1 := (blk_cell hbx2 1).trans rfl
        have d2 := (blk_cell hbx2 2).trans rfl
        have d3 := (blk_cell hbx2 3).trans rfl
        have d4 := (blk_cell hbx2 4).trans rfl
        clear hO hb hbx2
        go_wp2_with fail
        refine (HX.out _).mono ?_
        rintro e w3 ⟨rfl, hb3⟩
        have HB3 := Aside0.mk hb3
        clear hb3
        go_wp2_with fail
        refine (HFT.out _ ob mb (HO.out.below HB3.out)).mono ?_
        rintro e w4 ⟨rfl, hO4, hg4⟩
        have HG4 := Aside0.mk hg4
        clear hO4 hg4
        go_wp2
        go_ret2
        exact ⟨rfl, (below_refl_trans (below_refl_trans (below_alloc (below_alloc (Below.refl _ _) _) _) HB.out) HB3.out).grown HG4.out (by have := HB3.out.size; omega) (fun j e => by cases e; omega)⟩
      · rw [hx, hft] at h
        simp only [if_true, Prod.mk.injEq] at h
        obtain ⟨h1, rfl⟩ := h
        rw [hx] at HX
        simp only [if_true] at HX
        have HXO := Aside0.mk hx
        have H1 := Aside0.mk h1
        have HFT := Aside0.mk (fun (V : World) ob mb (hV : Off V ob mb l0 l1) => fits_b hV HF.out HM.out)
        rw [hft] at HFT
        have hmm := @run_makeMap Tryz.prog
        have hF9 := HF.out.h9
        clear hx hft h1
        refine (callsIn_wide (n := 7)).1 ?_
        refine callsIn_of_wp_marks Tryz.func38 rfl trivial ?_ rfl
        simp only [Tryz.ntmps38, List.size_toArray, List.length_cons, List.length_nil, Nat.reduceAdd, Nat.reduceSub, Array.replicate_succ, Array.replicate_zero, List.push_toArray, List.append_toArray, List.nil_append, List.cons_append]
        gi_wp2_with fail
        refine ⟨trivial, (callsIn_wide.2 HA.out).mono ?_⟩
        rintro e w2 ⟨ob, mb, rfl, hO, hb, hl1, hl2⟩
        have HO := Aside0.mk hO
        have HB := Aside0.mk hb
        have hbx1 := ((Boxed.new w 23 (.slice A1 l1.length c1)).alloc (.cells #[.int .i64 x.f0, .int .i64 x.f1, .int .i64 x.f2.f0, .int .i64 x.f2.f1, .int .i64 x.f3] 72)).kept (grown_of_below hb none) (by simp)
        have hbx2 : w2.heap[w.heap.size + 1]? = some (.cells #[.int .i64 x.f0, .int .i64 x.f1, .int .i64 x.f2.f0, .int .i64 x.f2.f1, .int .i64 x.f3] 72 (0, 0)) := (hb.block (w.heap.size + 1) (by simp)).trans (by
          have h := heap_alloc_new (w.alloc (.cells #[.slice A1 l1.length c1] 23)) (.cells #[.int .i64 x.f0, .int .i64 x.f1, .int .i64 x.f2.f0, .int .i64 x.f2.f1, .int .i64 x.f3] 72)
          rwa [World.size_alloc] at h)
        have hw2 := hb.size
        rw [World.size_alloc, World.size_alloc] at hw2 hl1 hl2
        have hbw2 : Below w.heap.size w w2 := below_refl_trans (below_alloc (below_alloc (Below.refl _ _) _) _) hb
        have d0 := (blk_cell hbx2 0).trans rfl
        have d1 := (blk_cell hbx2 1).trans rfl
        have d2 := (blk_cell hbx2 2).trans rfl
        have d3 := (blk_cell hbx2 3).trans rfl
        have d4 := (blk_cell hbx2 4).trans rfl
        have HBW2 := Aside0.mk hbw2
        have HBX1 := Aside0.mk hbx1
        have HBX2 := Aside0.mk hbx2
        clear hO hb hbw2 hbx1 hbx2
        gi_wp2_with fail
        refine ⟨trivial, (callsIn_wide.2 (HX.out _)).mono ?_⟩
        rintro e w3 ⟨rfl, hb3⟩
        have HB3 := Aside0.mk hb3
        clear hb3
        gi_wp2_with fail
        refine ⟨trivial, (callsIn_wide.2 (HFT.out _ ob mb (HO.out.below HB3.out))).mono ?_⟩
        rintro e w4 ⟨rfl, hO4, hg4⟩
        have HO4 := Aside0.mk hO4
        have HG4 := Aside0.mk hg4
        clear hO4 hg4
        gi_wp2
        obtain ⟨lx, hlx⟩ : ∃ lx, lx = l1 ++ [x] := ⟨_, rfl⟩
        have HLX := Aside0.mk hlx
        clear hlx
        refine wpIn_mono (Q := fun e a' Z => e = .normal ∧ ∃ s38 s39 s40 s41 s42 s43 s44 s45 s46 A c mb2 ob2 B, a' = { tmps := #[.slice A0 l0.length c0, .slice A1 l1.length c1, .slice A2 l2.length c2, .agg #[.int .i64 x.f0, .int .i64 x.f1, .int .i64 x.f2.f0, .int .i64 x.f2.f1, .int .i64 x.f3], undef, .pointer (some ⟨w.heap.size, 0, none⟩), undef, .pointer (some ⟨w.heap.size + 1, 0, none⟩), .int .i64 0, .int .i64 0, .pointer (some ⟨ob, 0, none⟩), .int .u64 (m : Int), .int .i64 0, .int .i64 0, .pointer (some ⟨B, 0, none⟩), undef, undef, undef, .tuple #[.pointer (some ⟨ob, 0, none⟩), .int .u64 (m : Int), .int .i64 0], .slice A0 l0.length c0, .slice A1 l1.length c1, .slice A2 l2.length c2, .tuple #[.pointer (some ⟨ob, 0, none⟩), .int .u64 (m : Int), .int .i64 0], .pointer (some ⟨ob, 0, none⟩), .int .u64 (m : Int), .int .i64 0, .int .i64 0, .bool false, undef, .agg #[.int .i64 x.f0, .int .i64 x.f1, .int .i64 x.f2.f0, .int .i64 x.f2.f1, .int .i64 x.f3], .int .i64 0, .int .i64 0, .bool false, undef, .pointer (some ⟨ob, 0, none⟩), .int .u64 (m : Int), .bool true, .bool false, s38, s39, s40, s41, s42, s43, s44, s45, s46, undef, undef, undef, undef, undef, undef, undef, undef, undef, undef, undef, undef, undef, undef, undef, undef, undef, undef, undef, undef, undef], defers := [] } ∧ Below w4.heap.size w4 Z ∧ w4.heap.size ≤ B ∧ Boxed Z B 80 (.pointer (some ⟨ob2, 0, none⟩)) ∧ w4.heap.size ≤ ob2 ∧ Z.heap[ob2]? = some (.cells #[.slice A0 l0.length c0, .slice A lx.length c, .map (some mb2)] 129 (0, 0)) ∧ RO Z w4.heap.size (.slice A lx.length c) lx ∧ w4.heap.size ≤ mb2 ∧ RMap Z mb2 (fun _ => none)) ?r9 ?rest
        case r9 =>
          obtain ⟨I, hI⟩ : ∃ I : List Bool → Act → World → Prop, ∀ ls a W, I ls a W ↔ ∃ b0 b1 b2 b3 b4 b5 b6 b7 b8 b9 b10 s14 s38 s39 s40 s41 s42 s43 s44 s45 s46, ls = [b0, b1, b2, b3, b4, b5, b6, b7, b8, b9, b10] ∧ a = { tmps := #[.slice A0 l0.length c0, .slice A1 l1.length c1, .slice A2 l2.length c2, .agg #[.int .i64 x.f0, .int .i64 x.f1, .int .i64 x.f2.f0, .int .i64 x.f2.f1, .int .i64 x.f3], undef, .pointer (some ⟨w.heap.size, 0, none⟩), undef, .pointer (some ⟨w.heap.size + 1, 0, none⟩), .int .i64 0, .int .i64 0, .pointer (some ⟨ob, 0, none⟩), .int .u64 (m : Int), .int .i64 0, .int .i64 0, s14, undef, undef, undef, .tuple #[.pointer (some ⟨ob, 0, none⟩), .int .u64 (m : Int), .int .i64 0], .slice A0 l0.length c0, .slice A1 l1.length c1, .slice A2 l2.length c2, .tuple #[.pointer (some ⟨ob, 0, none⟩), .int .u64 (m : Int), .int .i64 0], .pointer (some ⟨ob, 0, none⟩), .int .u64 (m : Int), .int .i64 0, .int .i64 0, .bool false, undef, .agg #[.int .i64 x.f0, .int .i64 x.f1, .int .i64 x.f2.f0, .int .i64 x.f2.f1, .int .i64 x.f3], .int .i64 0, .int .i64 0, .bool false, undef, .pointer (some ⟨ob, 0, none⟩), .int .u64 (m : Int), .bool true, .bool false, s38, s39, s40, s41, s42, s43, s44, s45, s46, undef, undef, undef, undef, undef, undef, undef, undef, undef, undef, undef, undef, undef, undef, undef, undef, undef, undef, undef, undef, undef], defers := [] } ∧ R9 w4.heap.size w4 A0 c0 l0 A1 c1 l1 lx x W b0 b1 b2 b3 b4 b5 b6 b7 b8 b9 b10 s14 s38 s39 s40 s41 s42 s43 s44 s45 s46 := ⟨_, fun _ _ _ => Iff.rfl⟩
          have HI := Aside0.mk hI
          clear hI
          have HB4 := Aside0.mk (show Below w.heap.size w w4 from (below_refl_trans HBW2.out HB3.out).grown HG4.out (by have := HB3.out.size; omega) (fun j hj => by cases hj; omega))
          have hs24 : w2.heap.size ≤ w4.heap.size := Nat.le_trans HB3.out.size HG4.out.size
          have hwm : ob ≠ mb ∧ w.heap.size ≠ mb ∧ w.heap.size + 1 ≠ mb := ⟨HO.out.lt.2.2, by omega, by omega⟩
          have HX1 := Aside0.mk ((HBX1.out.kept (grown_of_below HB3.out none) (by simp)).kept HG4.out (by simp; omega))
          have HX2 := Aside0.mk ((HG4.out.block _ (by have := HB3.out.size; omega) (by simp; omega)).trans ((HB3.out.block _ (by omega)).trans HBX2.out))
          clear d0 d1 d2 d3 d4
          refine reg_start0 hmix 11 [false, false, false, false, false, false, false, false, false, false, false] rfl rfl ?_
          refine reg_inv I (StepAll.cons ?o0 (StepAll.cons ?o1 (StepAll.cons ?o2 (StepAll.cons ?o3 (StepAll.cons ?o4 (StepAll.cons ?o5 (StepAll.cons ?o6 (StepAll.cons ?o7 (StepAll.cons ?o8 (StepAll.cons ?o9 (StepAll.cons ?o10 (StepAll.nil)))))))))))) ?fin 11 _ _ _ rfl (by simp) ((HI.out _ _ _).2 ⟨false, false, false, false, false, false, false, false, false, false, false, undef, undef, undef, undef, undef, undef, undef, undef, undef, undef, rfl, rfl, ⟨below_drew (Below.refl _ _), (fun h => by cases h), (fun h => by cases h), (fun h => by cases h), (fun h => by cases h), (fun h => by cases h), (fun h => by cases h), (fun h => by cases h), (fun h => by cases h), (fun h => by cases h), (fun h => by cases h), (fun h => by cases h)⟩⟩)
          case o0 =>
            intro ls a W hk hah hi
            obtain ⟨b0, b1, b2, b3, b4, b5, b6, b7, b8, b9, b10, s14, s38, s39, s40, s41, s42, s43, s44, s45, s46, rfl, rfl, hR⟩ := (HI.out _ _ _).1 hi
            obtain rfl : b0 = false := by simpa using hk
            clear hah
            clear hi hk
            have HR := Aside0.mk hR
            have hsW := hR.hb.size
            clear hR
            refine ⟨rfl, ?_⟩
            go_simp
            exact (HI.out _ _ _).2 ⟨true, b1, b2, b3, b4, b5, b6, b7, b8, b9, b10, _, _, _, _, _, _, _, _, _, _, rfl, rfl, ⟨HR.out.hb, (fun _ => rfl), (HR.out.f1), (HR.out.f2), (HR.out.f3), (HR.out.f4), (HR.out.f5), (HR.out.f6), (HR.out.f7), (HR.out.f8), (HR.out.f9), (HR.out.f10)⟩⟩
          case o1 =>
            intro ls a W hk hah hi
            obtain ⟨b0, b1, b2, b3, b4, b5, b6, b7, b8, b9, b10, s14, s38, s39, s40, s41, s42, s43, s44, s45, s46, rfl, rfl, hR⟩ := (HI.out _ _ _).1 hi
            obtain rfl : b1 = false := by simpa using hk
            clear hah
            clear hi hk
            have HR := Aside0.mk hR
            have hsW := hR.hb.size
            clear hR
            refine ⟨rfl, ?_⟩
            have e1 := (HX1.out.kept (grown_of_below HR.out.hb none) (by simp)).cell
            go_simp
            exact (HI.out _ _ _).2 ⟨b0, true, b2, b3, b4, b5, b6, b7, b8, b9, b10, _, _, _, _, _, _, _, _, _, _, rfl, rfl, ⟨HR.out.hb, (HR.out.f0), (fun _ => rfl), (HR.out.f2), (HR.out.f3), (HR.out.f4), (HR.out.f5), (HR.out.f6), (HR.out.f7), (HR.out.f8), (HR.out.f9), (HR.out.f10)⟩⟩
          case o2 =>
            intro ls a W hk hah hi
            obtain ⟨b0, b1, b2, b3, b4, b5, b6, b7, b8, b9, b10, s14, s38, s39, s40, s41, s42, s43, s44, s45, s46, rfl, rfl, hR⟩ := (HI.out _ _ _).1 hi
            obtain rfl : b2 = false := by simpa using hk
            simp [Ahead, Region.binds] at hah
            obtain rfl := hah
            clear hi hk
            have HR := Aside0.mk hR
            have hsW := hR.hb.size
            clear hR
            refine ⟨rfl, ?_⟩
            have e1 := HR.out.f1 rfl
            subst e1
            have hcl := clone_b (c := c1) (Kd.C_below HR1.out (HB4.out.trans (HR.out.hb.mono HB4.out.size))) hF9
            have HCL := Aside0.mk hcl
            clear hcl
            go_simp
            refine ⟨trivial, (callsIn_wide.2 HCL.out).mono ?_⟩
            rintro e W' ⟨v, rfl, hv, hb'⟩
            have h' := HR.out.below hsW hb'
            exact (HI.out _ _ _).2 ⟨b0, true, true, b3, b4, b5, b6, b7, b8, b9, b10, _, _, _, _, _, _, _, _, _, _, rfl, rfl, ⟨h'.hb, (h'.f0), (h'.f1), (fun _ _ => Kd.R_lower hv hsW), (h'.f3), (h'.f4), (h'.f5), (h'.f6), (h'.f7), (h'.f8), (h'.f9), (h'.f10)⟩⟩
          case o3 =>
            intro ls a W hk hah hi
            obtain ⟨b0, b1, b2, b3, b4, b5, b6, b7, b8, b9, b10, s14, s38, s39, s40, s41, s42, s43, s44, s45, s46, rfl, rfl, hR⟩ := (HI.out _ _ _).1 hi
            obtain rfl : b3 = false := by simpa using hk
            clear hah
            clear hi hk
            have HR := Aside0.mk hR
            have hsW := hR.hb.size
            clear hR
            refine ⟨rfl, ?_⟩
            have d0 := (blk_cell ((HR.out.hb.block _ (blk_lt HX2.out)).trans HX2.out) 0).trans rfl
            have d1 := (blk_cell ((HR.out.hb.block _ (blk_lt HX2.out)).trans HX2.out) 1).trans rfl
            have d2 := (blk_cell ((HR.out.hb.block _ (blk_lt HX2.out)).trans HX2.out) 2).trans rfl
            have d3 := (blk_cell ((HR.out.hb.block _ (blk_lt HX2.out)).trans HX2.out) 3).trans rfl
            have d4 := (blk_cell ((HR.out.hb.block _ (blk_lt HX2.out)).trans HX2.out) 4).trans rfl
            go_simp
            exact (HI.out _ _ _).2 ⟨b0, b1, b2, true, b4, b5, b6, b7, b8, b9, b10, _, _, _, _, _, _, _, _, _, _, rfl, rfl, ⟨HR.out.hb, (HR.out.f0), (HR.out.f1), (HR.out.f2), (fun _ => rfl), (HR.out.f4), (HR.out.f5), (HR.out.f6), (HR.out.f7), (HR.out.f8), (HR.out.f9), (HR.out.f10)⟩⟩
          case o4 =>
            intro ls a W hk hah hi
            obtain ⟨b0, b1, b2, b3, b4, b5, b6, b7, b8, b9, b10, s14, s38, s39, s40, s41, s42, s43, s44, s45, s46, rfl, rfl, hR⟩ := (HI.out _ _ _).1 hi
            obtain rfl : b4 = false := by simpa using hk
            simp [Ahead, Region.binds] at hah
            obtain rfl := hah
            clear hi hk
            have HR := Aside0.mk hR
            have hsW := hR.hb.size
            clear hR
            refine ⟨rfl, ?_⟩
            have e3 := HR.out.f3 rfl
            subst e3
            go_simp
            have h' := HR.out.below hsW (below_alloc (Below.refl W.heap.size W) (.cells #[.int .i64 x.f0, .int .i64 x.f1, .int .i64 x.f2.f0, .int .i64 x.f2.f1, .int .i64 x.f3] 72))
            exact (HI.out _ _ _).2 ⟨b0, b1, b2, true, true, b5, b6, b7, b8, b9, b10, _, _, _, _, _, _, _, _, _, _, rfl, rfl, ⟨h'.hb, (h'.f0), (h'.f1), (h'.f2), (h'.f3), (fun _ _ => ⟨_, rfl, hsW, heap_alloc_new _ _⟩), (h'.f5), (h'.f6), (h'.f7), (h'.f8), (h'.f9), (h'.f10)⟩⟩
          case o5 =>
            intro ls a W hk hah hi
            obtain ⟨b0, b1, b2, b3, b4, b5, b6, b7, b8, b9, b10, s14, s38, s39, s40, s41, s42, s43, s44, s45, s46, rfl, rfl, hR⟩ := (HI.out _ _ _).1 hi
            obtain rfl : b5 = false := by simpa using hk
            simp [Ahead, Region.binds] at hah
            obtain ⟨rfl, rfl, _⟩ := hah
            clear hi hk
            have HR := Aside0.mk hR
            have hsW := hR.hb.size
            clear hR
            refine ⟨rfl, ?_⟩
            obtain ⟨g, e4, hg1, hg2⟩ := HR.out.f4 rfl rfl
            subst e4
            have hro := HR.out.f2 rfl rfl
            refine op_wide (if_want (by rfl) (Kd.R_append_rows_step (ops := #[]) (Rr := k72.K W) k72 (w0 := w4) w4.heap.size (by rfl) (.tmp 40) (.tmp 42) 23 72 _ 40 rfl Tryz.underlying23 info72 rfl (by decide) (by omega) s40 l1 [x] _ _ _ (fun _ => True) (fun _ => False) rfl rfl hro ?aR (fun x cs h => kO_M x cs h) (fun _ h => h.elim) (fun _ _ => trivial) HR.out.hb hsW ?aL ?aK))
            case aR => exact C_one hg2
            case aL => omega
            intro v1 w1 ho1 hb1 hg1' hat1
            rw [← HLX.out] at ho1
            obtain ⟨A, c, rfl, hc, hC⟩ := Kd.R_reads ho1
            exact (HI.out _ _ _).2 ⟨b0, b1, true, b3, true, true, b6, b7, b8, b9, b10, _, _, _, _, _, _, _, _, _, _, rfl, rfl, ⟨hb1, HR.out.f0, HR.out.f1, fun _ h => (by cases h), HR.out.f3, fun _ h => (by cases h), fun _ => ⟨A, c, rfl, ho1⟩, fun h => (by obtain ⟨mb2, e1, e2, e3⟩ := HR.out.f6 h; exact ⟨mb2, e1, e2, e3.step (hg1'.block mb2 e3.lt (own_map_ne hro e3))⟩), fun h => (by cases (HR.out.f7 h).1), fun h => (by cases (HR.out.f8 h).1), fun h h2 => (by obtain ⟨B, e1, e2, e3⟩ := HR.out.f9 h h2; exact ⟨B, e1, e2, e3.kept hg1' (own_box_ne hro e3)⟩), fun h => (by cases (HR.out.f10 h).2.1)⟩⟩
          case o6 =>
            intro ls a W hk hah hi
            obtain ⟨b0, b1, b2, b3, b4, b5, b6, b7, b8, b9, b10, s14, s38, s39, s40, s41, s42, s43, s44, s45, s46, rfl, rfl, hR⟩ := (HI.out _ _ _).1 hi
            obtain rfl : b6 = false := by simpa using hk
            clear hah
            clear hi hk
            have HR := Aside0.mk hR
            have hsW := hR.hb.size
            clear hR
            refine ⟨rfl, ?_⟩
            go_simp
            have h' := HR.out.below hsW (below_alloc (Below.refl W.heap.size W) (.map #[] 0))
            exact (HI.out _ _ _).2 ⟨b0, b1, b2, b3, b4, b5, true, b7, b8, b9, b10, _, _, _, _, _, _, _, _, _, _, rfl, rfl, ⟨h'.hb, (h'.f0), (h'.f1), (h'.f2), (h'.f3), (h'.f4), (h'.f5), (fun _ => ⟨_, rfl, hsW, (IMap.made W).mono (by omega)⟩), (h'.f7), (h'.f8), (h'.f9), (h'.f10)⟩⟩
          case o7 =>
            intro ls a W hk hah hi
            obtain ⟨b0, b1, b2, b3, b4, b5, b6, b7, b8, b9, b10, s14, s38, s39, s40, s41, s42, s43, s44, s45, s46, rfl, rfl, hR⟩ := (HI.out _ _ _).1 hi
            obtain rfl : b7 = false := by simpa using hk
            simp [Ahead, Region.binds] at hah
            obtain ⟨rfl, rfl, rfl⟩ := hah
            clear hi hk
            have HR := Aside0.mk hR
            have hsW := hR.hb.size
            clear hR
            refine ⟨rfl, ?_⟩
            have e0 := HR.out.f0 rfl
            obtain ⟨A, c, e5, h5⟩ := HR.out.f5 rfl
            obtain ⟨mb2, e6, h6, h6'⟩ := HR.out.f6 rfl
            subst e0 e5 e6
            go_simp
            exact (HI.out _ _ _).2 ⟨true, b1, b2, b3, b4, true, true, true, b8, b9, b10, _, _, _, _, _, _, _, _, _, _, rfl, rfl, ⟨HR.out.hb, (HR.out.f0), (HR.out.f1), (HR.out.f2), (HR.out.f3), (HR.out.f4), (HR.out.f5), (HR.out.f6), (fun _ => ⟨rfl, A, c, mb2, rfl, h5, h6, h6'⟩), (HR.out.f8), (HR.out.f9), (HR.out.f10)⟩⟩
          case o8 =>
            intro ls a W hk hah hi
            obtain ⟨b0, b1, b2, b3, b4, b5, b6, b7, b8, b9, b10, s14, s38, s39, s40, s41, s42, s43, s44, s45, s46, rfl, rfl, hR⟩ := (HI.out _ _ _).1 hi
            obtain rfl : b8 = false := by simpa using hk
            simp [Ahead, Region.binds] at hah
            obtain rfl := hah
            clear hi hk
            have q5 := (hR.f7 rfl).1
            subst q5
            have HR := Aside0.mk hR
            have hsW := hR.hb.size
            clear hR
            refine ⟨rfl, ?_⟩
            obtain ⟨_, A, c, mb2, e7, h7, h6, h6'⟩ := HR.out.f7 rfl
            subst e7
            go_simp
            have hbn := below_alloc (Below.refl W.heap.size W) (.cells #[.slice A0 l0.length c0, .slice A lx.length c, .map (some mb2)] 129)
            have h' := HR.out.below hsW hbn
            exact (HI.out _ _ _).2 ⟨b0, b1, b2, b3, b4, true, b6, true, true, b9, b10, _, _, _, _, _, _, _, _, _, _, rfl, rfl, ⟨h'.hb, (h'.f0), (h'.f1), (h'.f2), (h'.f3), (h'.f4), (h'.f5), (h'.f6), (h'.f7), (fun _ => ⟨(HR.out.f7 rfl).1, A, c, mb2, _, rfl, hsW, heap_alloc_new _ _, Kd.R_below h7 hbn, h6, h6'.below hbn⟩), (h'.f9), (h'.f10)⟩⟩
          case o9 =>
            intro ls a W hk hah hi
            obtain ⟨b0, b1, b2, b3, b4, b5, b6, b7, b8, b9, b10, s14, s38, s39, s40, s41, s42, s43, s44, s45, s46, rfl, rfl, hR⟩ := (HI.out _ _ _).1 hi
            obtain rfl : b9 = false := by simpa using hk
            clear hah
            clear hi hk
            have HR := Aside0.mk hR
            have hsW := hR.hb.size
            clear hR
            refine ⟨rfl, ?_⟩
            go_simp
            have hbn := below_alloc (Below.refl W.heap.size W) (.cells #[.pointer none] 80)
            have h' := HR.out.below hsW hbn
            exact (HI.out _ _ _).2 ⟨b0, b1, b2, b3, b4, b5, b6, b7, b8, true, b10, _, _, _, _, _, _, _, _, _, _, rfl, rfl, ⟨h'.hb, (h'.f0), (h'.f1), (h'.f2), (h'.f3), (h'.f4), (h'.f5), (h'.f6), (h'.f7), (h'.f8), (fun _ _ => ⟨_, rfl, hsW, Boxed.new W _ _⟩), (fun h => (by cases (h'.f10 h).1))⟩⟩
          case o10 =>
            intro ls a W hk hah hi
            obtain ⟨b0, b1, b2, b3, b4, b5, b6, b7, b8, b9, b10, s14, s38, s39, s40, s41, s42, s43, s44, s45, s46, rfl, rfl, hR⟩ := (HI.out _ _ _).1 hi
            obtain rfl : b10 = false := by simpa using hk
            simp [Ahead, Region.binds] at hah
            obtain ⟨rfl, rfl, rfl, rfl, rfl, rfl, rfl, rfl, _, rfl, rfl, _, _⟩ := hah
            clear hi hk
            have HR := Aside0.mk hR
            have hsW := hR.hb.size
            clear hR
            refine ⟨rfl, ?_⟩
            obtain ⟨B, e9, h9, hB⟩ := HR.out.f9 rfl rfl
            obtain ⟨_, A, c, mb2, ob2, e8, q1, q2, q3, q4, q5⟩ := HR.out.f8 rfl
            subst e9 e8
            have z1 := hB.cell
            have z2 := hB.frozen
            have HBX := Aside0.mk hB
            clear hB
            go_simp
            have k1 := grownBy_setCell' W B (.pointer (some ⟨ob2, 0, none⟩))
            have hob : ob2 ≠ B := by rintro rfl; have h := HBX.out; unfold Boxed at h; rw [q2] at h; cases h
            have hmb : ∀ {mb'} {g'}, RMap W mb' g' → RMap (W.setCell ⟨B, 0, none⟩ (.pointer (some ⟨ob2, 0, none⟩))) mb' g' := fun {mb' g'} h => h.step (k1.block mb' h.lt (by intro e; injection e with e; subst e; obtain ⟨es, cl, hm⟩ := h.isMap; have h2 := HBX.out; unfold Boxed at h2; rw [hm] at h2; cases h2))
            exact (HI.out _ _ _).2 ⟨true, true, true, true, true, true, true, true, true, true, true, _, _, _, _, _, _, _, _, _, _, rfl, rfl, ⟨HR.out.hb.setCell (p := ⟨B, 0, none⟩) h9 _, HR.out.f0, HR.out.f1, fun _ h => (by cases h), HR.out.f3, fun _ h => (by cases h), fun h => (by obtain ⟨A', c', e1, e2⟩ := HR.out.f5 h; exact ⟨A', c', e1, RO_box e2 HBX.out⟩), fun h => (by obtain ⟨mb', e1, e2, e3⟩ := HR.out.f6 h; exact ⟨mb', e1, e2, hmb e3⟩), fun h => (by obtain ⟨e0, A', c', mb', e1, e2, e3, e4⟩ := HR.out.f7 h; exact ⟨e0, A', c', mb', e1, RO_box e2 HBX.out, e3, hmb e4⟩), fun _ => ⟨rfl, A, c, mb2, ob2, rfl, q1, (k1.block ob2 (blk_lt q2) (by simp; exact hob)).trans q2, RO_box q3 HBX.out, q4, hmb q5⟩, fun _ h => (by cases h), fun _ => ⟨rfl, rfl, A, c, mb2, ob2, B, rfl, h9, HBX.out.set _, q1, (k1.block ob2 (blk_lt q2) (by simp; exact hob)).trans q2, RO_box q3 HBX.out, q4, hmb q5⟩⟩⟩
          case fin =>
            intro ls a W hi hst
            obtain ⟨b0, b1, b2, b3, b4, b5, b6, b7, b8, b9, b10, s14, s38, s39, s40, s41, s42, s43, s44, s45, s46, rfl, rfl, hR⟩ := (HI.out _ _ _).1 hi
            clear hi
            obtain rfl : b0 = true := by
              cases b0 with
              | true => rfl
              | false =>
                exfalso
                obtain ⟨e, he, hbd, hne⟩ := hst 0 rfl _ rfl
                simp at he
            obtain rfl : b1 = true := by
              cases b1 with
              | true => rfl
              | false =>
                exfalso
                obtain ⟨e, he, hbd, hne⟩ := hst 1 rfl _ rfl
                simp at he
            obtain rfl : b2 = true := by
              cases b2 with
              | true => rfl
              | false =>
                exfalso
                obtain ⟨e, he, hbd, hne⟩ := hst 2 rfl _ rfl
                simp at he
                subst he
                simp at hne
            obtain rfl : b3 = true := by
              cases b3 with
              | true => rfl
              | false =>
                exfalso
                obtain ⟨e, he, hbd, hne⟩ := hst 3 rfl _ rfl
                simp at he
            obtain rfl : b4 = true := by
              cases b4 with
              | true => rfl
              | false =>
                exfalso
                obtain ⟨e, he, hbd, hne⟩ := hst 4 rfl _ rfl
                simp at he
                subst he
                simp at hne
            obtain rfl : b5 = true := by
              cases b5 with
              | true => rfl
              | false =>
                exfalso
                obtain ⟨e, he, hbd, hne⟩ := hst 5 rfl _ rfl
                simp at he
                rcases he with rfl | rfl | rfl <;> simp at hne
            obtain rfl : b6 = true := by
              cases b6 with
              | true => rfl
              | false =>
                exfalso
                obtain ⟨e, he, hbd, hne⟩ := hst 6 rfl _ rfl
                simp at he
            obtain rfl : b7 = true := by
              cases b7 with
              | true => rfl
              | false =>
                exfalso
                obtain ⟨e, he, hbd, hne⟩ := hst 7 rfl _ rfl
                simp at he
                rcases he with rfl | rfl | rfl <;> simp at hne
            obtain rfl : b8 = true := by
              cases b8 with
              | true => rfl
              | false =>
                exfalso
                obtain ⟨e, he, hbd, hne⟩ := hst 8 rfl _ rfl
                simp at he
                subst he
                simp at hne
            obtain rfl : b9 = true := by
              cases b9 with
              | true => rfl
              | false =>
                exfalso
                obtain ⟨e, he, hbd, hne⟩ := hst 9 rfl _ rfl
                simp at he
            obtain rfl : b10 = true := by
              cases b10 with
              | true => rfl
              | false =>
                exfalso
                obtain ⟨e, he, hbd, hne⟩ := hst 10 rfl _ rfl
                simp at he
                rcases he with rfl | rfl | rfl | rfl | rfl | rfl | rfl | rfl | rfl | rfl | rfl | rfl | rfl <;> simp at hne
            obtain ⟨_, _, A, c, mb2, ob2, B, rfl, h⟩ := hR.f10 rfl
            exact ⟨rfl, _, _, _, _, _, _, _, _, _, A, c, mb2, ob2, B, rfl, hR.hb, h⟩
        case rest =>
          rintro e a' Z ⟨rfl, s38, s39, s40, s41, s42, s43, s44, s45, s46, A, c, mb2, ob2, B, rfl, hbZ, hB, hBx, hob2, hoff, hro, hmb2, hrm⟩
          have hbw4 : Below w.heap.size w w4 := (below_refl_trans HBW2.out HB3.out).grown HG4.out (by have := HB3.out.size; omega) (fun j hj => by cases hj; omega)
          have hs24 : w2.heap.size ≤ w4.heap.size := Nat.le_trans HB3.out.size HG4.out.size
          have hbZw := below_refl_trans hbw4 hbZ
          have hx5 := (((HBX1.out.kept (grown_of_below HB3.out none) (by simp)).kept HG4.out (by simp; omega)).kept (grown_of_below hbZ none) (by simp))
          have hlxl : lx.length = l1.length + 1 := by rw [HLX.out]; simp
          have hFx : Fine l0 lx := by rw [HLX.out]; exact HF.out.snoc h8 HXO.out
          obtain ⟨A', c', e1, hcx, hCx⟩ := Kd.R_reads hro
          injection e1 with e1 _ e3
          subst e1 e3
          have hOf : Off Z ob2 mb2 l0 lx := ⟨A0, c0, A, c, fun _ => none, hoff, Kd.C_below HR0.out hbZw, hc0, hCx, hcx, hrm, fun x y h => by cases h⟩
          have HOF := Aside0.mk hOf
          have HFX := Aside0.mk hFx
          have HBZ := Aside0.mk hbZ
          have HBZW := Aside0.mk hbZw
          have HX5 := Aside0.mk hx5
          have HBX := Aside0.mk hBx
          have hlt2 := hOf.lt
          have hBlt := hBx.lt
          have hBne : B ≠ Z.heap.size := by omega
          have h5lt := hx5.lt
          have h5ne : w.heap.size ≠ Z.heap.size := by omega
          have z5 := hx5.cell
          have zB := hBx.cell
          have hsh : IntKind.u64.wrap (2 ^ l1.length) = ((ownN l1 : Nat) : Int) := shl_small ⟨l1.length, by omega⟩
          have HOWN := Aside0.mk (show ((ownN l1 : Nat) : Int) < 2 ^ lx.length from lt_two (n := lx.length) (m := ownN l1) (by unfold ownN; rw [hlxl, Nat.pow_succ]; have := Nat.two_pow_pos l1.length; omega) (Nat.le_refl _))
          clear hro hrm hCx hoff hOf hFx hbZ hbZw hx5 hBx hbw4 d0 d1 d2 d3 d4
          gi_wp2_with fail
          refine ⟨trivial, (callsIn_wide.2 (room_b (HOF.out.below (below_alloc (Below.refl _ _) _)) HFX.out.hk HFX.out.h9 (by omega) HOWN.out)).mono ?_⟩
          rintro e W5 ⟨rfl, hO5, hg5⟩
          have hOZ := HOF.out.below (below_alloc (Below.refl Z.heap.size Z) (.cells #[.int .u64 ((ownN l1 : Nat) : Int)] 93))
          obtain ⟨es, cl, hmap⟩ := HOF.out.isMap
          have hBm : B ≠ mb2 := by rintro rfl; have h := HBX.out; unfold Boxed at h; rw [hmap] at h; cases h
          have hsZ : (Z.alloc (.cells #[.int .u64 ((ownN l1 : Nat) : Int)] 93)).heap.size = Z.heap.size + 1 := by simp
          have hs5 := hg5.size
          rw [hsZ] at hs5
          have y5 := (HX5.out.alloc (.cells #[.int .u64 ((ownN l1 : Nat) : Int)] 93)).kept hg5 (by simp; omega)
          have yB := (HBX.out.alloc (.cells #[.int .u64 ((ownN l1 : Nat) : Int)] 93)).kept hg5 (by simp; omega)
          have yO := (Boxed.new Z 93 (.int .u64 ((ownN l1 : Nat) : Int))).kept hg5 (by simp; omega)
          have HG5 := Aside0.mk hg5
          have HRM5 := Aside0.mk hO5.rm
          have HOZ := Aside0.mk hOZ
          have HP := Aside0.mk (fun W => parts_b HM5.out W)
          obtain ⟨ro, hro⟩ : ∃ ro, ro = roomI l0 lx ((ownN l1 : Nat) : Int) := ⟨_, rfl⟩
          have HRO := Aside0.mk hro
          rw [← hro]
          clear hg5 hO5 hOZ hro hmap z5 zB
          gi_wp2_with fail
          refine ⟨trivial, (callsIn_wide.2 (HP.out _)).mono ?_⟩
          rintro e W6 ⟨bx, g, cap, rfl, hPA, hlg, hlb, hb6⟩
          have hs5' : (W5.alloc (.cells #[.int .i64 ro] 3)).heap.size = W5.heap.size + 1 := by simp
          have hs6 := hb6.size
          rw [hs5'] at hs6 hlg hlb
          have q5 := (y5.alloc (.cells #[.int .i64 ro] 3)).kept (grown_of_below hb6 none) (by simp)
          have qB := (yB.alloc (.cells #[.int .i64 ro] 3)).kept (grown_of_below hb6 none) (by simp)
          have qO := (yO.alloc (.cells #[.int .i64 ro] 3)).kept (grown_of_below hb6 none) (by simp)
          have qN := (Boxed.new W5 3 (.int .i64 ro)).kept (grown_of_below hb6 none) (by simp)
          have hrm6 : RM W6 mb2 l0 lx := (HRM5.out.step (heap_alloc_old W5 _ (by obtain ⟨_, h, _⟩ := HRM5.out; exact h.lt))).step (hb6.block mb2 (by rw [hs5']; obtain ⟨_, h, _⟩ := HRM5.out; have := h.lt; omega))
          have hg6 : (Z.alloc (.cells #[.int .u64 ((ownN l1 : Nat) : Int)] 93)).grownBy W6 (some mb2) := grown_below (grown_below HG5.out (below_alloc (Below.refl _ _) _)) hb6
          have HPA := Aside0.mk hPA
          have hgl := hPA.2.2
          have HMM := Aside0.mk (fun (s : Sub m) => (show s.val.val < 2 ^ l1.length from Nat.lt_of_le_of_lt s.2 HM.out))
          clear hPA hb6 y5 yB yO
          gi_wp2
          refine wpIn_rangeFunc_ownG rfl (by omega) (gf := 132) (lb := #[.pointer (some ⟨bx, 0, none⟩)]) rfl trivial (enters_of Tryz.func132 (by kernel_rfl) rfl) (values_stops Fence.wide 6 trivial rfl (by omega) HM5.out HPA.out) KeepV.trans (KeepV.putObj hgl.1 hgl.2) (Below.refl _ _) (fun _ => rfl)
            (fun pre W => RM W mb2 l0 lx ∧ (Z.alloc (.cells #[.int .u64 ((ownN l1 : Nat) : Int)] 93)).grownBy W (some mb2) ∧ Boxed W w.heap.size 23 (.slice A1 l1.length c1) ∧ Boxed W B 80 (.pointer (some ⟨ob2, 0, none⟩)) ∧ Boxed W Z.heap.size 93 (.int .u64 ((ownN l1 : Nat) : Int)) ∧ Boxed W W5.heap.size 3 (.int .i64 (spareOf l0 l1 x (valS pre))) ∧ W6.heap.size ≤ W.heap.size)
            (fun _ _ _ => False)
            ?hI (fun _ _ _ _ _ h _ _ => h) ?h0
            (fun p => { tmps := #[.slice A0 l0.length c0, .slice A1 l1.length c1, .slice A2 l2.length c2, .agg #[.int .i64 x.f0, .int .i64 x.f1, .int .i64 x.f2.f0, .int .i64 x.f2.f1, .int .i64 x.f3], undef, .pointer (some ⟨w.heap.size, 0, none⟩), undef, .pointer (some ⟨w.heap.size + 1, 0, none⟩), .int .i64 0, .int .i64 0, .pointer (some ⟨ob, 0, none⟩), .int .u64 (m : Int), .int .i64 0, .int .i64 0, .pointer (some ⟨B, 0, none⟩), .pointer (some ⟨Z.heap.size, 0, none⟩), .pointer (some ⟨W5.heap.size, 0, none⟩), .int .u64 (p.val.val : Int), .tuple #[.pointer (some ⟨ob, 0, none⟩), .int .u64 (m : Int), .int .i64 0], .slice A0 l0.length c0, .slice A1 l1.length c1, .slice A2 l2.length c2, .tuple #[.pointer (some ⟨ob, 0, none⟩), .int .u64 (m : Int), .int .i64 0], .pointer (some ⟨ob, 0, none⟩), .int .u64 (m : Int), .int .i64 0, .int .i64 0, .bool false, undef, .agg #[.int .i64 x.f0, .int .i64 x.f1, .int .i64 x.f2.f0, .int .i64 x.f2.f1, .int .i64 x.f3], .int .i64 0, .int .i64 0, .bool false, undef, .pointer (some ⟨ob, 0, none⟩), .int .u64 (m : Int), .bool true, .bool false, s38, s39, s40, s41, s42, s43, s44, s45, s46, .slice A1 l1.length c1, .int .i64 (l1.length : Int), .int .u64 ((ownN l1 : Nat) : Int), .pointer (some ⟨ob2, 0, none⟩), .int .u64 ((ownN l1 : Nat) : Int), .int .i64 ro, .int .u64 (m : Int), .func (.func 132) #[] #[.pointer (some ⟨bx, 0, none⟩)], .int .u64 (p.val.val : Int), undef, undef, undef, undef, undef, undef, undef, undef, undef, undef, undef, undef], defers := [] }) ?assign ?body ?done ?stop
          case hI =>
            rintro pre W W' row ⟨g1, g2, g3, g4, g5, g6, g7⟩ hg hr
            have hne : ∀ b : Nat, b < W6.heap.size → some b ≠ row := fun b hb e => by have := (hr _ e.symm).1; omega
            have hmz := HOZ.out.lt.2.1
            exact ⟨g1.step (hg.block mb2 (by omega) (hne _ (by omega))), grown_own g2 hg (fun x e => by have := (hr x e).1; omega), g3.kept hg (hne _ (by omega)), g4.kept hg (hne _ (by omega)), g5.kept hg (hne _ (by omega)), g6.kept hg (hne _ (by omega)), Nat.le_trans g7 hg.size⟩
          case h0 => exact ⟨hrm6, hg6, q5, qB, qO, by rw [show spareOf l0 l1 x (valS ([] : List (Sub m))) = ro by rw [HRO.out, HLX.out]; rfl]; exact qN, Nat.le_refl _⟩
          case assign =>
            intro l' p W K hK
            gi_wp2
            exact hK
          case body =>
            rintro l' pre p V ⟨g1, g2, g3, g4, g5, g6, g7⟩ hpl
            have hp := HMM.out p
            have hp5 : p.val.val < 512 := p.val.isLt
            have hacc := spareOf_bd HF.out h8 HXO.out (valS pre)
            have hsn : spareOf l0 l1 x (valS (pre ++ [p])) = mn (spareOf l0 l1 x (valS pre)) (spareRest l0 l1 x p.val.val) := by unfold valS; rw [List.map_append]; exact spareOf_snoc _ _ _ _ _
            have hro2 := roomI_bd HFX.out.hk lx ((p.val.val ||| ownN l1 : Nat) : Int)
            have hne2 : 0 ≤ needI l1 (p.val.val : Int) ∧ needI l1 (p.val.val : Int) ≤ 1000 * l1.length := needTo_bd HF.out.hl (p.val.val : Int) l1.length (Nat.le_refl _)
            have hrs : spareRest l0 l1 x p.val.val = roomI l0 lx ((p.val.val ||| ownN l1 : Nat) : Int) - needI l1 (p.val.val : Int) := by rw [HLX.out]; rfl
            rw [hrs] at hsn
            have hor : Go.bits .or .u64 (p.val.val : Int) ((ownN l1 : Nat) : Int) = ((p.val.val ||| ownN l1 : Nat) : Int) := or_own_all ⟨p.val.val, hp5⟩ ⟨l1.length, by omega⟩
            have hpo : ((p.val.val ||| ownN l1 : Nat) : Int) < 2 ^ lx.length := lt_two (n := lx.length) (m := p.val.val ||| ownN l1) (Nat.or_lt_two_pow (by rw [hlxl, Nat.pow_succ]; omega) (by unfold ownN; rw [hlxl, Nat.pow_succ]; have := Nat.two_pow_pos l1.length; omega)) (Nat.le_refl _)
            have hbV : Below w.heap.size w V := ((HBZW.out.alloc HBZW.out.size _)).grown g2 (by have := HBZW.out.size; rw [hsZ]; omega) (fun j e => by cases e; omega)
            have HND := Aside0.mk (fun (W : World) (hW : V.grownBy W (some mb2)) => need_b (c := c1) (m := (p.val.val : Int)) HF.out.hl hF9 (by omega) (by omega) (Kd.C_below HR1.out (hbV.grown hW hbV.size (fun j e => by cases e; omega))) hc1)
            have HRM2 := Aside0.mk (fun (W : World) (hW : V.grownBy W (some mb2)) (hm : RM W mb2 l0 lx) => room_b (m := ((p.val.val ||| ownN l1 : Nat) : Int)) (HOZ.out.grow (grown_trans g2 hW) hm) HFX.out.hk HFX.out.h9 (by omega) hpo)
            have hmz := HOZ.out.lt.2.1
            have G1 := Aside0.mk g1
            have G2 := Aside0.mk g2
            have hsV := g2.size
            rw [hsZ] at hsV
            have hN5 : W5.heap.size ≠ mb2 := by omega
            have hZ5 : Z.heap.size ≠ mb2 := by omega
            have HPO := Aside0.mk hpo
            have HSN := Aside0.mk hsn
            have G3 := Aside0.mk g3
            have G4 := Aside0.mk g4
            have G5 := Aside0.mk g5
            have G6 := Aside0.mk g6
            clear hrs hp g1 g2 g3 g4 g5 hsn hpo hbV q5 qB qO qN
            generalize spareOf l0 l1 x (valS pre) = acc at *
            generalize roomI l0 lx ((p.val.val ||| ownN l1 : Nat) : Int) = ro2 at *
            generalize needI l1 (p.val.val : Int) = ne at *
            obtain ⟨ha1, ha2⟩ := hacc
            obtain ⟨hr1, hr2⟩ := hro2
            obtain ⟨hn1, hn2⟩ := hne2
            obtain ⟨I, hI⟩ : ∃ I : List Bool → Act → World → Prop, ∀ ls a W, I ls a W ↔ ∃ b0 b1 b2 b3 b4 b5 b6 b7 b8 b9 b10 b11 y0 y1 y2 y3 y4 y5 y6 y7 y8 y9 y10, ls = [b0, b1, b2, b3, b4, b5, b6, b7, b8, b9, b10, b11] ∧ a = { tmps := #[.slice A0 l0.length c0, .slice A1 l1.length c1, .slice A2 l2.length c2, .agg #[.int .i64 x.f0, .int .i64 x.f1, .int .i64 x.f2.f0, .int .i64 x.f2.f1, .int .i64 x.f3], undef, .pointer (some ⟨w.heap.size, 0, none⟩), undef, .pointer (some ⟨w.heap.size + 1, 0, none⟩), .int .i64 0, .int .i64 0, .pointer (some ⟨ob, 0, none⟩), .int .u64 (m : Int), .int .i64 0, .int .i64 0, .pointer (some ⟨B, 0, none⟩), .pointer (some ⟨Z.heap.size, 0, none⟩), .pointer (some ⟨W5.heap.size, 0, none⟩), .int .u64 (p.val.val : Int), .tuple #[.pointer (some ⟨ob, 0, none⟩), .int .u64 (m : Int), .int .i64 0], .slice A0 l0.length c0, .slice A1 l1.length c1, .slice A2 l2.length c2, .tuple #[.pointer (some ⟨ob, 0, none⟩), .int .u64 (m : Int), .int .i64 0], .pointer (some ⟨ob, 0, none⟩), .int .u64 (m : Int), .int .i64 0, .int .i64 0, .bool false, undef, .agg #[.int .i64 x.f0, .int .i64 x.f1, .int .i64 x.f2.f0, .int .i64 x.f2.f1, .int .i64 x.f3], .int .i64 0, .int .i64 0, .bool false, undef, .pointer (some ⟨ob, 0, none⟩), .int .u64 (m : Int), .bool true, .bool false, s38, s39, s40, s41, s42, s43, s44, s45, s46, .slice A1 l1.length c1, .int .i64 (l1.length : Int), .int .u64 ((ownN l1 : Nat) : Int), .pointer (some ⟨ob2, 0, none⟩), .int .u64 ((ownN l1 : Nat) : Int), .int .i64 ro, .int .u64 (m : Int), .func (.func 132) #[] #[.pointer (some ⟨bx, 0, none⟩)], .int .u64 (p.val.val : Int), y0, y1, y2, y3, y4, y5, y6, y7, y8, y9, y10, undef], defers := [] } ∧ R14 V mb2 W5.heap.size l0 lx (.int .i64 acc) (.pointer (some ⟨ob2, 0, none⟩)) (.int .u64 (p.val.val : Int)) (.int .u64 ((ownN l1 : Nat) : Int)) (.int .u64 ((p.val.val ||| ownN l1 : Nat) : Int)) (.int .i64 ro2) (.slice A1 l1.length c1) (.int .u64 (p.val.val : Int)) (.int .i64 ne) (.int .i64 (ro2 - ne)) (.int .i64 (mn acc (ro2 - ne))) W b0 b1 b2 b3 b4 b5 b6 b7 b8 b9 b10 b11 y0 y1 y2 y3 y4 y5 y6 y7 y8 y9 y10 := ⟨_, fun _ _ _ => Iff.rfl⟩
            have HI := Aside0.mk hI
            clear hI
            gi_wp2
            refine reg_start l' hmix (by kernel_rfl) 12 [false, false, false, false, false, false, false, false, false, false, false, false] rfl rfl ?_
            refine reg_inv I (StepAll.cons ?p0 (StepAll.cons ?p1 (StepAll.cons ?p2 (StepAll.cons ?p3 (StepAll.cons ?p4 (StepAll.cons ?p5 (StepAll.cons ?p6 (StepAll.cons ?p7 (StepAll.cons ?p8 (StepAll.cons ?p9 (StepAll.cons ?p10 (StepAll.cons ?p11 (StepAll.nil))))))))))))) ?fin 12 _ _ _ rfl (by simp) ((HI.out _ _ _).2 ⟨false, false, false, false, false, false, false, false, false, false, false, false, undef, undef, undef, undef, undef, undef, undef, undef, undef, undef, undef, rfl, rfl, ⟨(fun h => by cases h), (fun h => by cases h), (fun h => by cases h), (fun h => by cases h), (fun h => by cases h), (fun h => by cases h), (fun h => by cases h), (fun h => by cases h), (fun h => by cases h), (fun h => by cases h), (fun h => by cases h), fun _ => ⟨grown_of_below (below_drew (Below.refl _ _)) _, G1.out.step rfl⟩, (fun h => by cases h), (fun h => by cases h)⟩⟩)
            case p0 =>
              intro ls a W hk hah hi
              obtain ⟨b0, b1, b2, b3, b4, b5, b6, b7, b8, b9, b10, b11, y0, y1, y2, y3, y4, y5, y6, y7, y8, y9, y10, rfl, rfl, hR⟩ := (HI.out _ _ _).1 hi
              obtain rfl : b0 = false := by simpa using hk
              obtain rfl : b11 = false := by cases b11 with | false => rfl | true => have h := hR.w2 rfl; simp at h
              clear hah
              clear hi hk
              have HR := Aside0.mk hR
              have hw := hR.w0 rfl
              have HW := Aside0.mk hw
              clear hR hw
              refine ⟨rfl, ?_⟩
              have c1' := (G6.out.kept HW.out.1 (by simp; omega)).cell
              go_simp
              exact (HI.out _ _ _).2 ⟨true, b1, b2, b3, b4, b5, b6, b7, b8, b9, b10, false, _, _, _, _, _, _, _, _, _, _, _, rfl, rfl, ⟨fun _ => rfl, HR.out.f1, HR.out.f2, HR.out.f3, HR.out.f4, HR.out.f5, HR.out.f6, HR.out.f7, HR.out.f8, HR.out.f9, HR.out.f10, HR.out.w0, fun h => (by cases h), fun h => (by cases h)⟩⟩
            case p1 =>
              intro ls a W hk hah hi
              obtain ⟨b0, b1, b2, b3, b4, b5, b6, b7, b8, b9, b10, b11, y0, y1, y2, y3, y4, y5, y6, y7, y8, y9, y10, rfl, rfl, hR⟩ := (HI.out _ _ _).1 hi
              obtain rfl : b1 = false := by simpa using hk
              obtain rfl : b11 = false := by cases b11 with | false => rfl | true => have h := hR.w2 rfl; simp at h
              clear hah
              clear hi hk
              have HR := Aside0.mk hR
              have hw := hR.w0 rfl
              have HW := Aside0.mk hw
              clear hR hw
              refine ⟨rfl, ?_⟩
              have c1' := (G4.out.kept HW.out.1 (by simp; omega)).cell
              go_simp
              exact (HI.out _ _ _).2 ⟨b0, true, b2, b3, b4, b5, b6, b7, b8, b9, b10, false, _, _, _, _, _, _, _, _, _, _, _, rfl, rfl, ⟨HR.out.f0, fun _ => rfl, HR.out.f2, HR.out.f3, HR.out.f4, HR.out.f5, HR.out.f6, HR.out.f7, HR.out.f8, HR.out.f9, HR.out.f10, HR.out.w0, fun h => (by cases h), fun h => (by cases h)⟩⟩
            case p2 =>
              intro ls a W hk hah hi
              obtain ⟨b0, b1, b2, b3, b4, b5, b6, b7, b8, b9, b10, b11, y0, y1, y2, y3, y4, y5, y6, y7, y8, y9, y10, rfl, rfl, hR⟩ := (HI.out _ _ _).1 hi
              obtain rfl : b2 = false := by simpa using hk
              obtain rfl : b11 = false := by cases b11 with | false => rfl | true => have h := hR.w2 rfl; simp at h
              clear hah
              clear hi hk
              have HR := Aside0.mk hR
              have hw := hR.w0 rfl
              have HW := Aside0.mk hw
              clear hR hw
              refine ⟨rfl, ?_⟩
              go_simp
              exact (HI.out _ _ _).2 ⟨b0, b1, true, b3, b4, b5, b6, b7, b8, b9, b10, false, _, _, _, _, _, _, _, _, _, _, _, rfl, rfl, ⟨HR.out.f0, HR.out.f1, fun _ => rfl, HR.out.f3, HR.out.f4, HR.out.f5, HR.out.f6, HR.out.f7, HR.out.f8, HR.out.f9, HR.out.f10, HR.out.w0, fun h => (by cases h), fun h => (by cases h)⟩⟩
            case p3 =>
              intro ls a W hk hah hi
              obtain ⟨b0, b1, b2, b3, b4, b5, b6, b7, b8, b9, b10, b11, y0, y1, y2, y3, y4, y5, y6, y7, y8, y9, y10, rfl, rfl, hR⟩ := (HI.out _ _ _).1 hi
              obtain rfl : b3 = false := by simpa using hk
              obtain rfl : b11 = false := by cases b11 with | false => rfl | true => have h := hR.w2 rfl; simp at h
              clear hah
              clear hi hk
              have HR := Aside0.mk hR
              have hw := hR.w0 rfl
              have HW := Aside0.mk hw
              clear hR hw
              refine ⟨rfl, ?_⟩
              have c1' := (G5.out.kept HW.out.1 (by simp; omega)).cell
              go_simp
              exact (HI.out _ _ _).2 ⟨b0, b1, b2, true, b4, b5, b6, b7, b8, b9, b10, false, _, _, _, _, _, _, _, _, _, _, _, rfl, rfl, ⟨HR.out.f0, HR.out.f1, HR.out.f2, fun _ => rfl, HR.out.f4, HR.out.f5, HR.out.f6, HR.out.f7, HR.out.f8, HR.out.f9, HR.out.f10, HR.out.w0, fun h => (by cases h), fun h => (by cases h)⟩⟩
            case p4 =>
              intro ls a W hk hah hi
              obtain ⟨b0, b1, b2, b3, b4, b5, b6, b7, b8, b9, b10, b11, y0, y1, y2, y3, y4, y5, y6, y7, y8, y9, y10, rfl, rfl, hR⟩ := (HI.out _ _ _).1 hi
              obtain rfl : b4 = false := by simpa using hk
              obtain rfl : b11 = false := by cases b11 with | false => rfl | true => have h := hR.w2 rfl; simp at h
              simp [Ahead, Region.binds] at hah
              obtain ⟨rfl, rfl⟩ := hah
              clear hi hk
              have HR := Aside0.mk hR
              have hw := hR.w0 rfl
              have HW := Aside0.mk hw
              clear hR hw
              refine ⟨rfl, ?_⟩
              have e2 := HR.out.f2 rfl
              have e3 := HR.out.f3 rfl
              subst e2 e3
              go_simp
              exact (HI.out _ _ _).2 ⟨b0, b1, true, true, true, b5, b6, b7, b8, b9, b10, false, _, _, _, _, _, _, _, _, _, _, _, rfl, rfl, ⟨HR.out.f0, HR.out.f1, HR.out.f2, HR.out.f3, fun _ => rfl, HR.out.f5, HR.out.f6, HR.out.f7, HR.out.f8, HR.out.f9, HR.out.f10, HR.out.w0, fun h => (by cases h), fun h => (by cases h)⟩⟩
            case p5 =>
              intro ls a W hk hah hi
              obtain ⟨b0, b1, b2, b3, b4, b5, b6, b7, b8, b9, b10, b11, y0, y1, y2, y3, y4, y5, y6, y7, y8, y9, y10, rfl, rfl, hR⟩ := (HI.out _ _ _).1 hi
              obtain rfl : b5 = false := by simpa using hk
              obtain rfl : b11 = false := by cases b11 with | false => rfl | true => have h := hR.w2 rfl; simp at h
              simp [Ahead, Region.binds] at hah
              obtain ⟨rfl, rfl⟩ := hah
              clear hi hk
              have HR := Aside0.mk hR
              have hw := hR.w0 rfl
              have HW := Aside0.mk hw
              clear hR hw
              refine ⟨rfl, ?_⟩
              have e1 := HR.out.f1 rfl
              have e4 := HR.out.f4 rfl
              subst e1 e4
              go_simp
              refine ⟨trivial, (callsIn_wide.2 (HRM2.out _ HW.out.1 HW.out.2)).mono ?_⟩
              rintro e W' ⟨rfl, hO', hg'⟩
              exact (HI.out _ _ _).2 ⟨b0, true, b2, b3, true, true, b6, b7, b8, b9, b10, false, _, _, _, _, _, _, _, _, _, _, _, rfl, rfl, ⟨HR.out.f0, HR.out.f1, HR.out.f2, HR.out.f3, HR.out.f4, fun _ => rfl, HR.out.f6, HR.out.f7, HR.out.f8, HR.out.f9, HR.out.f10, fun _ => ⟨grown_trans HW.out.1 hg', hO'.rm⟩, fun h => (by cases h), fun h => (by cases h)⟩⟩
            case p6 =>
              intro ls a W hk hah hi
              obtain ⟨b0, b1, b2, b3, b4, b5, b6, b7, b8, b9, b10, b11, y0, y1, y2, y3, y4, y5, y6, y7, y8, y9, y10, rfl, rfl, hR⟩ := (HI.out _ _ _).1 hi
              obtain rfl : b6 = false := by simpa using hk
              obtain rfl : b11 = false := by cases b11 with | false => rfl | true => have h := hR.w2 rfl; simp at h
              clear hah
              clear hi hk
              have HR := Aside0.mk hR
              have hw := hR.w0 rfl
              have HW := Aside0.mk hw
              clear hR hw
              refine ⟨rfl, ?_⟩
              have c1' := (G3.out.kept HW.out.1 (by simp; omega)).cell
              go_simp
              exact (HI.out _ _ _).2 ⟨b0, b1, b2, b3, b4, b5, true, b7, b8, b9, b10, false, _, _, _, _, _, _, _, _, _, _, _, rfl, rfl, ⟨HR.out.f0, HR.out.f1, HR.out.f2, HR.out.f3, HR.out.f4, HR.out.f5, fun _ => rfl, HR.out.f7, HR.out.f8, HR.out.f9, HR.out.f10, HR.out.w0, fun h => (by cases h), fun h => (by cases h)⟩⟩
            case p7 =>
              intro ls a W hk hah hi
              obtain ⟨b0, b1, b2, b3, b4, b5, b6, b7, b8, b9, b10, b11, y0, y1, y2, y3, y4, y5, y6, y7, y8, y9, y10, rfl, rfl, hR⟩ := (HI.out _ _ _).1 hi
              obtain rfl : b7 = false := by simpa using hk
              obtain rfl : b11 = false := by cases b11 with | false => rfl | true => have h := hR.w2 rfl; simp at h
              clear hah
              clear hi hk
              have HR := Aside0.mk hR
              have hw := hR.w0 rfl
              have HW := Aside0.mk hw
              clear hR hw
              refine ⟨rfl, ?_⟩
              go_simp
              exact (HI.out _ _ _).2 ⟨b0, b1, b2, b3, b4, b5, b6, true, b8, b9, b10, false, _, _, _, _, _, _, _, _, _, _, _, rfl, rfl, ⟨HR.out.f0, HR.out.f1, HR.out.f2, HR.out.f3, HR.out.f4, HR.out.f5, HR.out.f6, fun _ => rfl, HR.out.f8, HR.out.f9, HR.out.f10, HR.out.w0, fun h => (by cases h), fun h => (by cases h)⟩⟩
            case p8 =>
              intro ls a W hk hah hi
              obtain ⟨b0, b1, b2, b3, b4, b5, b6, b7, b8, b9, b10, b11, y0, y1, y2, y3, y4, y5, y6, y7, y8, y9, y10, rfl, rfl, hR⟩ := (HI.out _ _ _).1 hi
              obtain rfl : b8 = false := by simpa using hk
              obtain rfl : b11 = false := by cases b11 with | false => rfl | true => have h := hR.w2 rfl; simp at h
              simp [Ahead, Region.binds] at hah
              obtain ⟨rfl, rfl, rfl⟩ := hah
              clear hi hk
              have HR := Aside0.mk hR
              have hw := hR.w0 rfl
              have HW := Aside0.mk hw
              clear hR hw
              refine ⟨rfl, ?_⟩
              have e5 := HR.out.f5 rfl
              have e6 := HR.out.f6 rfl
              have e7 := HR.out.f7 rfl
              subst e5 e6 e7
              go_simp
              refine ⟨trivial, (callsIn_wide.2 (HND.out _ HW.out.1)).mono ?_⟩
              rintro e W' ⟨rfl, hb'⟩
              exact (HI.out _ _ _).2 ⟨b0, b1, b2, b3, b4, true, true, true, true, b9, b10, false, _, _, _, _, _, _, _, _, _, _, _, rfl, rfl, ⟨HR.out.f0, HR.out.f1, HR.out.f2, HR.out.f3, HR.out.f4, HR.out.f5, HR.out.f6, HR.out.f7, fun _ => rfl, HR.out.f9, HR.out.f10, fun _ => ⟨grown_below HW.out.1 hb', HW.out.2.step (hb'.block mb2 (by obtain ⟨_, h, _⟩ := HW.out.2; exact h.lt))⟩, fun h => (by cases h), fun h => (by cases h)⟩⟩
            case p9 =>
              intro ls a W hk hah hi
              obtain ⟨b0, b1, b2, b3, b4, b5, b6, b7, b8, b9, b10, b11, y0, y1, y2, y3, y4, y5, y6, y7, y8, y9, y10, rfl, rfl, hR⟩ := (HI.out _ _ _).1 hi
              obtain rfl : b9 = false := by simpa using hk
              obtain rfl : b11 = false := by cases b11 with | false => rfl | true => have h := hR.w2 rfl; simp at h
              simp [Ahead, Region.binds] at hah
              obtain ⟨rfl, rfl⟩ := hah
              clear hi hk
              have HR := Aside0.mk hR
              have hw := hR.w0 rfl
              have HW := Aside0.mk hw
              clear hR hw
              refine ⟨rfl, ?_⟩
              have e5 := HR.out.f5 rfl
              have e8 := HR.out.f8 rfl
              subst e5 e8
              have hwr : IntKind.i64.wrap (ro2 - ne) = ro2 - ne := IntWalk.i64_in _ (by omega)
              go_simp
              exact (HI.out _ _ _).2 ⟨b0, b1, b2, b3, b4, true, b6, b7, true, true, b10, false, _, _, _, _, _, _, _, _, _, _, _, rfl, rfl, ⟨HR.out.f0, HR.out.f1, HR.out.f2, HR.out.f3, HR.out.f4, HR.out.f5, HR.out.f6, HR.out.f7, HR.out.f8, fun _ => rfl, HR.out.f10, HR.out.w0, fun h => (by cases h), fun h => (by cases h)⟩⟩
            case p10 =>
              intro ls a W hk hah hi
              obtain ⟨b0, b1, b2, b3, b4, b5, b6, b7, b8, b9, b10, b11, y0, y1, y2, y3, y4, y5, y6, y7, y8, y9, y10, rfl, rfl, hR⟩ := (HI.out _ _ _).1 hi
              obtain rfl : b10 = false := by simpa using hk
              obtain rfl : b11 = false := by cases b11 with | false => rfl | true => have h := hR.w2 rfl; simp at h
              simp [Ahead, Region.binds] at hah
              obtain ⟨rfl, rfl⟩ := hah
              clear hi hk
              have HR := Aside0.mk hR
              have hw := hR.w0 rfl
              have HW := Aside0.mk hw
              clear hR hw
              refine ⟨rfl, ?_⟩
              have e0 := HR.out.f0 rfl
              have e9 := HR.out.f9 rfl
              subst e0 e9
              go_simp
              exact (HI.out _ _ _).2 ⟨true, b1, b2, b3, b4, b5, b6, b7, b8, true, true, false, _, _, _, _, _, _, _, _, _, _, _, rfl, rfl, ⟨HR.out.f0, HR.out.f1, HR.out.f2, HR.out.f3, HR.out.f4, HR.out.f5, HR.out.f6, HR.out.f7, HR.out.f8, HR.out.f9, fun _ => rfl, HR.out.w0, fun h => (by cases h), fun h => (by cases h)⟩⟩
            case p11 =>
              intro ls a W hk hah hi
              obtain ⟨b0, b1, b2, b3, b4, b5, b6, b7, b8, b9, b10, b11, y0, y1, y2, y3, y4, y5, y6, y7, y8, y9, y10, rfl, rfl, hR⟩ := (HI.out _ _ _).1 hi
              obtain rfl : b11 = false := by simpa using hk
              simp [Ahead, Region.binds] at hah
              obtain ⟨rfl, rfl, rfl, rfl, rfl, rfl, rfl, rfl, rfl, rfl, _, rfl, _⟩ := hah
              clear hi hk
              have HR := Aside0.mk hR
              have hw := hR.w0 rfl
              have HW := Aside0.mk hw
              clear hR hw
              refine ⟨rfl, ?_⟩
              have e0 := HR.out.f0 rfl
              have e1 := HR.out.f1 rfl
              have e2 := HR.out.f2 rfl
              have e3 := HR.out.f3 rfl
              have e4 := HR.out.f4 rfl
              have e5 := HR.out.f5 rfl
              have e6 := HR.out.f6 rfl
              have e7 := HR.out.f7 rfl
              have e8 := HR.out.f8 rfl
              have e9 := HR.out.f9 rfl
              have e10 := HR.out.f10 rfl
              subst e0 e1 e2 e3 e4 e5 e6 e7 e8 e9 e10
              have hN := G6.out.kept HW.out.1 (by simp; omega)
              have c1' := hN.cell
              have c2' := hN.frozen
              clear hN
              go_simp
              exact (HI.out _ _ _).2 ⟨true, true, true, true, true, true, true, true, true, true, true, true, _, _, _, _, _, _, _, _, _, _, _, rfl, rfl, ⟨HR.out.f0, HR.out.f1, HR.out.f2, HR.out.f3, HR.out.f4, HR.out.f5, HR.out.f6, HR.out.f7, HR.out.f8, HR.out.f9, HR.out.f10, (fun h => by cases h), (fun _ => rfl), fun _ => ⟨W, HW.out.1, HW.out.2, rfl⟩⟩⟩
            case fin =>
              intro ls a W hi hst
              obtain ⟨b0, b1, b2, b3, b4, b5, b6, b7, b8, b9, b10, b11, y0, y1, y2, y3, y4, y5, y6, y7, y8, y9, y10, rfl, rfl, hR⟩ := (HI.out _ _ _).1 hi
              clear hi
              obtain rfl : b0 = true := by
                cases b0 with
                | true => rfl
                | false =>
                  exfalso
                  obtain ⟨e, he, hbd, hne⟩ := hst 0 rfl _ rfl
                  simp at he
              obtain rfl : b1 = true := by
                cases b1 with
                | true => rfl
                | false =>
                  exfalso
                  obtain ⟨e, he, hbd, hne⟩ := hst 1 rfl _ rfl
                  simp at he
              obtain rfl : b2 = true := by
                cases b2 with
                | true => rfl
                | false =>
                  exfalso
                  obtain ⟨e, he, hbd, hne⟩ := hst 2 rfl _ rfl
                  simp at he
              obtain rfl : b3 = true := by
                cases b3 with
                | true => rfl
                | false =>
                  exfalso
                  obtain ⟨e, he, hbd, hne⟩ := hst 3 rfl _ rfl
                  simp at he
              obtain rfl : b4 = true := by
                cases b4 with
                | true => rfl
                | false =>
                  exfalso
                  obtain ⟨e, he, hbd, hne⟩ := hst 4 rfl _ rfl
                  simp at he
                  rcases he with rfl | rfl <;> simp at hne
              obtain rfl : b5 = true := by
                cases b5 with
                | true => rfl
                | false =>
                  exfalso
                  obtain ⟨e, he, hbd, hne⟩ := hst 5 rfl _ rfl
                  simp at he
                  rcases he with rfl | rfl <;> simp at hne
              obtain rfl : b6 = true := by
                cases b6 with
                | true => rfl
                | false =>
                  exfalso
                  obtain ⟨e, he, hbd, hne⟩ := hst 6 rfl _ rfl
                  simp at he
              obtain rfl : b7 = true := by
                cases b7 with
                | true => rfl
                | false =>
                  exfalso
                  obtain ⟨e, he, hbd, hne⟩ := hst 7 rfl _ rfl
                  simp at he
              obtain rfl : b8 = true := by
                cases b8 with
                | true => rfl
                | false =>
                  exfalso
                  obtain ⟨e, he, hbd, hne⟩ := hst 8 rfl _ rfl
                  simp at he
                  rcases he with rfl | rfl | rfl <;> simp at hne
              obtain rfl : b9 = true := by
                cases b9 with
                | true => rfl
                | false =>
                  exfalso
                  obtain ⟨e, he, hbd, hne⟩ := hst 9 rfl _ rfl
                  simp at he
                  rcases he with rfl | rfl <;> simp at hne
              obtain rfl : b10 = true := by
                cases b10 with
                | true => rfl
                | false =>
                  exfalso
                  obtain ⟨e, he, hbd, hne⟩ := hst 10 rfl _ rfl
                  simp at he
                  rcases he with rfl | rfl <;> simp at hne
              obtain rfl : b11 = true := by
                cases b11 with
                | true => rfl
                | false =>
                  exfalso
                  obtain ⟨e, he, hbd, hne⟩ := hst 11 rfl _ rfl
                  simp at he
                  rcases he with rfl | rfl | rfl | rfl | rfl | rfl | rfl | rfl | rfl | rfl | rfl | rfl | rfl <;> simp at hne
              obtain ⟨Wp, hgp, hrp, rfl⟩ := hR.w1 rfl
              clear hR hst
              have HGP := Aside0.mk hgp
              have HRP := Aside0.mk hrp
              clear hgp hrp
              gi_wp2
              have k1 := grownBy_setCell' Wp W5.heap.size (.int .i64 (mn acc (ro2 - ne)))
              have hsp := HGP.out.size
              have hs1 := k1.size
              have kv : ∀ j, j < V.heap.size → j ≠ mb2 → j ≠ W5.heap.size → (Wp.setCell ⟨W5.heap.size, 0, none⟩ (.int .i64 (mn acc (ro2 - ne)))).heap[j]? = V.heap[j]? := fun j h1 h2 h3 => (k1.block j (by omega) (by simp; exact h3)).trans (HGP.out.block j h1 (by simp; exact h2))
              refine ⟨(KeepsFrom.of_grownBy HGP.out (fun j e => by cases e; omega)).trans ((KeepsOthers.setCell _ _ _).from _), ⟨kv _ (by omega) (by omega) (by omega), kv _ (by omega) (by omega) (by omega)⟩, HRP.out.step (k1.block mb2 (by omega) (by simp; omega)), grown_own (grown_trans G2.out HGP.out) k1 (fun x e => by cases e; rw [hsZ]; omega), (G3.out.kept HGP.out (by simp; omega)).kept k1 (by simp; omega), (G4.out.kept HGP.out (by simp; omega)).kept k1 (by simp; omega), (G5.out.kept HGP.out (by simp; omega)).kept k1 (by simp; omega), ?_, by omega⟩
              rw [HSN.out]
              exact (G6.out.kept HGP.out (by simp; omega)).set _
          case done =>
            rintro D ys W hD rfl ⟨g1, g2, g3, g4, g5, g6, g7⟩ hK
            have hv : spareOf l0 l1 x (valS (partsS HM5.out)) = r1 := by rw [valS_all]; exact H1.out
            rw [hv] at g6
            have e6 := g6.cell
            have G2 := Aside0.mk g2
            clear hv g1 g2 g3 g4 g5 g6
            gi_wp2
            refine ⟨by simp, .inl ⟨_, _, rfl, run_takeDeferred hK, ?_⟩⟩
            have k3 := grownBy_putObj' W D (.deferred none)
            have hmz := HOZ.out.lt.2.1
            have hbV : Below w.heap.size w W := ((HBZW.out.alloc HBZW.out.size _)).grown G2.out (by have := HBZW.out.size; rw [hsZ]; omega) (fun j e => by cases e; omega)
            exact ⟨_, results_tmp2 rfl _ _ _, rfl, hbV.grown k3 hbV.size (fun j e => by cases e; omega)⟩
          case stop =>
            rintro D c pre W hD hp h hK
            exact h.elim
  · rw [if_neg he] at h
    simp only [Prod.mk.injEq] at h
    obtain ⟨rfl, rfl⟩ := h
    have hA := fun o1 o2 => askedSet_no (Kd.C_below hr0 (hbx o1 o2)) hc0 (Kd.C_below hr1 (hbx o1 o2)) hc1 (Kd.C_below hr2 (hbx o1 o2)) hc2 he
    have HA := Aside0.mk (hA (.cells #[.slice A1 l1.length c1] 23) (.cells #[.int .i64 x.f0, .int .i64 x.f1, .int .i64 x.f2.f0, .int .i64 x.f2.f1, .int .i64 x.f3] 72))
    have hbn : (askSetErr l0 l1 l2 != 0) = true := by simpa using he
    have hbe : (askSetErr l0 l1 l2 == 0) = false := by simpa using he
    generalize askSetErr l0 l1 l2 = z at *
    clear hA he hr0 hr1 hr2 hbx
    go_enter Tryz.func38, Tryz.ntmps38
    go_wp2_with fail
    refine HA.out.mono ?_
    rintro e w2 ⟨p, rfl, hb⟩
    have HB := Aside0.mk hb
    clear hb
    go_wp2
    go_ret2
    exact ⟨rfl, below_refl_trans (below_alloc (below_alloc (Below.refl _ _) _) _) HB.out⟩
end Go.Proofs.YthonlcnmjlldiaaGreat.P
namespace Go.Proofs.YthonlcnmjlldiaaGreat.P
open Go.Shelf Go.RowKit Go.Proofs.YthonlcnmjlldiaaGreatW.PrintWords Go.Proofs.YthonlcnmjlldiaaGreatW.PrintLast Go.Proofs.YthonlcnmjlldiaaGreatW.PrintMore
set_option linter.unusedVariables false
set_option linter.unusedSimpArgs false
def leF (x y : M9) : Bool := !(ltOf cmpF) y x
theorem leF_total (x y : M9) : (leF x y || leF y x) = true := by
  unfold leF
  cases h1 : ltOf cmpF y x
  · rfl
  · cases h2 : ltOf cmpF x y
    · rfl
    · have := swoF.trans _ _ _ h1 h2
      rw [swoF.irrefl] at this
      cases this
theorem leF_trans (x y z : M9) (h1 : leF x y = true) (h2 : leF y z = true) : leF x z = true := by
  unfold leF at *
  rw [Bool.not_eq_true'] at *
  exact swoF.ntrans _ _ _ h2 h1
theorem leF_anti (x y : M9) (h1 : leF x y = true) (h2 : leF y x = true) : x = y := by
  unfold leF at *
  rw [Bool.not_eq_true'] at *
  exact totF _ _ h2 h1
def insM (x : M9) : List M9 → List M9
  | [] => [x]
  | y :: ys => if leF x y then x :: y :: ys else y :: insM x ys
def sortM : List M9 → List M9
  | [] => []
  | x :: xs => insM x (sortM xs)
theorem insM_perm (x : M9) (l : List M9) : (insM x l).Perm (x :: l) := by
  induction l with
  | nil => exact List.Perm.refl _
  | cons y ys ih =>
    unfold insM
    split
    · exact List.Perm.refl _
    · exact (List.Perm.cons y ih).trans (List.Perm.swap x y ys)
theorem sortM_perm (l : List M9) : (sortM l).Perm l := by
  induction l with
  | nil => exact List.Perm.refl _
  | cons x xs ih => exact (insM_perm x _).trans (List.Perm.cons x ih)
theorem insM_sorted (x : M9) (l : List M9) (h : l.Pairwise (fun a b => leF a b = true)) : (insM x l).Pairwise (fun a b => leF a b = true) := by
  induction l with
  | nil => simp [insM]
  | cons y ys ih =>
    rw [List.pairwise_cons] at h
    unfold insM
    split
    · rename_i hxy
      rw [List.pairwise_cons]
      refine ⟨fun z hz => ?_, by rw [List.pairwise_cons]; exact h⟩
      rcases List.mem_cons.1 hz with rfl | hz
      · exact hxy
      · exact leF_trans _ _ _ hxy (h.1 z hz)
    · rename_i hxy
      rw [List.pairwise_cons]
      refine ⟨fun z hz => ?_, ih h.2⟩
      rcases List.mem_cons.1 ((insM_perm x ys).mem_iff.1 hz) with rfl | hz
      · have := leF_total z y
        simpa [hxy] using this
      · exact h.1 z hz
theorem sortM_sorted (l : List M9) : (sortM l).Pairwise (fun a b => leF a b = true) := by
  induction l with
  | nil => simp [sortM]
  | cons x xs ih => exact insM_sorted x _ ih
def partsC (m : Nat) : List M9 := sortM ((subsN m (m + 1)).map (Fin.ofNat 512))
theorem partsF_sorted (m : Nat) : (partsF m).Pairwise (fun a b => leF a b = true) := List.pairwise_mergeSort leF_trans leF_total _
theorem partsF_c (m : Nat) : partsF m = partsC m :=
  List.Perm.eq_of_pairwise (fun a b _ _ => leF_anti a b) (partsF_sorted m) (sortM_sorted _) ((List.mergeSort_perm _ _).trans (sortM_perm _).symm)
def crowdC (k : List Seat) (l : List Order) (m : Nat) : Option M9 := (partsC m).find? (fun s => crowdB k l (s.val : Int))
theorem crowdI_c : crowdI = crowdC := by funext k l m; unfold crowdI crowdC; rw [partsF_c]
def fitsC (k : List Seat) (l : List Order) (m : Nat) : Bool := (crowdC k l m).isNone
theorem fitsB_c : fitsB = fitsC := by funext k l m; unfold fitsB fitsC; rw [crowdI_c]
def crowdsC (k : List Seat) (l : List Order) : List Nat := crowdsOf k l ((partsC (allN l)).map (·.val))
theorem crowdsN_c : crowdsN = crowdsC := by funext k l; unfold crowdsN crowdsC; rw [partsF_c]
def fullStepC (k : List Seat) (l : List Order) (best s : Nat) : Nat := if aheadB l s best && fitsC k l s then s else best
theorem fullStep_c : fullStep = fullStepC := by funext k l b s; unfold fullStep fullStepC; rw [fitsB_c]
def fullC (k : List Seat) (l : List Order) : Nat := ((partsC (allN l)).map (·.val)).foldl (fullStepC k l) 0
theorem fullN_c : fullN = fullC := by funext k l; unfold fullN fullOf fullC; rw [partsF_c, fullStep_c]
def fewestOfC (k : List Seat) (l : List Order) (most : Nat) : Option (List Nat) := ((waysL l.length most 0 []).find? (fun of => (firN of).all (fitsC k l))).map firN
theorem fewestOf_c : fewestOf = fewestOfC := by funext k l m; unfold fewestOf fewestOfC; rw [fitsB_c]
def fewestC (k : List Seat) (l : List Order) : Option (List Nat) := (List.range (l.length + 1)).findSome? (fewestOfC k l)
theorem fewestN_c : fewestN = fewestC := by funext k l; unfold fewestN fewestC; rw [fewestOf_c]
def spareC (k : List Seat) (l : List Order) (m : Nat) (x : Order) : Int := spareOf k l x ((partsC m).map (·.val))
theorem spareN_c : spareN = spareC := by funext k l m x; unfold spareN spareC; rw [partsF_c]
def kilnL : List Seat := [⟨⟨1000, 1050⟩, 5, 10⟩, ⟨⟨1040, 1100⟩, 5, 6⟩, ⟨⟨1000, 1020⟩, 1, 20⟩]
def ordersL : List Order := [⟨1, 8, ⟨990, 1060⟩, 3⟩, ⟨2, 12, ⟨1000, 1120⟩, 4⟩, ⟨3, 5, ⟨1000, 1050⟩, 5⟩, ⟨4, 20, ⟨900, 1100⟩, 0⟩]
theorem ex_room : plan_Room.f kilnL ordersL [0, 1] = some (16, 0) := by decide +kernel
theorem ex_crowd : plan_Crowd.f kilnL ordersL [0, 1, 2] = some ([0, 1], 0) := by unfold plan_Crowd.f; rw [crowdI_c]; decide +kernel
theorem ex_spare : plan_Spare.f kilnL ordersL [0] 3 5 1000 1050 5 = some (2, 0) := by unfold plan_Spare.f spareR; rw [spareN_c, fitsB_c]; decide +kernel
theorem ex_full : plan_Fullest.f kilnL ordersL = some ([1, 3], 0) := by unfold plan_Fullest.f; rw [fullN_c]; decide +kernel
theorem ex_fewest : plan_Fewest.f kilnL ordersL = some ([[0, 3], [1], [2]], 0) := by unfold plan_Fewest.f; rw [fewestN_c]; decide +kernel
theorem ex_reason : plan_Reason.f kilnL ordersL 2 = some ([[0, 1], [0, 2], [1, 2]], 0) := by unfold plan_Reason.f reasonR fittedB crowdsL; rw [fewestN_c, crowdsN_c]; decide +kernel
theorem ex_moves : plan_Moves.f kilnL ordersL = some ([0, 1, 2], 0) := by unfold plan_Moves.f movesL movesTo moveB; rw [fewestN_c]; decide +kernel
theorem ex_check : plan_CheckReason.f kilnL ordersL 2 [[0, 1], [0, 2], [1, 2]] = some 0 := by decide +kernel
end Go.Proofs.YthonlcnmjlldiaaGreat.P
namespace Go.Proofs.YthonlcnmjlldiaaGreat.P
open Go.RowKit Go.Proofs.YthonlcnmjlldiaaGreatW.PrintWords Go.Proofs.YthonlcnmjlldiaaGreatW.PrintLast Go.Proofs.YthonlcnmjlldiaaGreatW.PrintMore
set_option linter.unusedVariables false
set_option linter.unusedSimpArgs false
theorem subB_bits {a b : Nat} : subB a b = true ↔ ∀ i, a.testBit i = true → b.testBit i = true := by
  unfold subB
  rw [beq_iff_eq]
  constructor
  · intro h i hi
    have := congrArg (fun n => n.testBit i) h
    simp only [Nat.testBit_and, hi, Bool.true_and] at this
    exact this
  · intro h
    apply Nat.eq_of_testBit_eq
    intro i
    rw [Nat.testBit_and]
    cases ha : a.testBit i
    · rfl
    · simp [h i ha]
theorem subB_refl (a : Nat) : subB a a = true := subB_bits.2 fun _ h => h
theorem subB_trans {a b c : Nat} (h1 : subB a b = true) (h2 : subB b c = true) : subB a c = true := subB_bits.2 fun i h => subB_bits.1 h2 i (subB_bits.1 h1 i h)
theorem subB_anti {a b : Nat} (h1 : subB a b = true) (h2 : subB b a = true) : a = b := Nat.le_antisymm (subB_le h1) (subB_le h2)
theorem filter_lt {α : Type} {p q : α → Bool} (hpq : ∀ x, p x = true → q x = true) : ∀ {l : List α}, (∃ x ∈ l, q x = true ∧ p x = false) → (l.filter p).length < (l.filter q).length
  | [], ⟨_, h, _⟩ => by simp at h
  | y :: ys, ⟨x, hx, h1, h2⟩ => by
    have le : ∀ l : List α, (l.filter p).length ≤ (l.filter q).length := by
      intro l
      induction l with
      | nil => simp
      | cons z zs ih =>
        rw [List.filter_cons, List.filter_cons]
        cases hp : p z
        · cases hq : q z <;> simp <;> omega
        · simp [hpq z hp]; omega
    rw [List.filter_cons, List.filter_cons]
    rcases List.mem_cons.1 hx with rfl | hx
    · have := le ys
      simp [h1, h2]
      omega
    · have ih := filter_lt hpq ⟨x, hx, h1, h2⟩
      cases hp : p y
      · cases hq : q y <;> simp <;> omega
      · simp [hpq y hp]; omega
theorem subB_shorter {a b : Nat} (ha : a < 512) (hb : b < 512) (h : subB a b = true) (hn : a ≠ b) : (bitsL (a : Int)).length < (bitsL (b : Int)).length := by
  unfold bitsL
  rw [List.length_map, List.length_map]
  simp only [Int.toNat_natCast]
  refine filter_lt (subB_bits.1 h) ?_
  refine Classical.byContradiction fun hc => hn ?_
  refine subB_anti h (subB_bits.2 fun i hi => ?_)
  refine Classical.byContradiction fun hf => hc ?_
  have hi9 : i < 9 := by
    refine Classical.byContradiction fun h9 => ?_
    have h1 := Nat.ge_two_pow_of_testBit hi
    have h2 : 2 ^ 9 ≤ 2 ^ i := Nat.pow_le_pow_right (by omega) (by omega)
    omega
  exact ⟨i, List.mem_range.2 hi9, hi, by simpa using hf⟩
theorem subB_before {a b : Nat} (ha : a < 512) (hb : b < 512) (h : subB a b = true) (hn : a ≠ b) : cmpM (a : Int) (b : Int) < 0 := by
  have := subB_shorter ha hb h hn
  unfold cmpM
  rw [if_neg (by omega)]
  omega
theorem leF_cmp {a b : M9} (h : leF a b = true) (hn : cmpM (b.val : Int) (a.val : Int) < 0) : False := by
  unfold leF ltOf cmpF at h
  simp at h
  omega
def masksC (k : List Seat) (l : List Order) : List Nat := (List.range (2 ^ l.length)).filter (fun m : Nat => crowdB k l (m : Int))
def leastB (k : List Seat) (l : List Order) (s : Nat) : Bool := crowdB k l (s : Int) && (masksC k l).all (fun t => t == s || !(subB t s))
theorem masksC_mem {k : List Seat} {l : List Order} {m : Nat} : m ∈ masksC k l ↔ m < 2 ^ l.length ∧ crowdB k l (m : Int) = true := by simp [masksC]
theorem leastB_iff {k : List Seat} {l : List Order} {s : Nat} : leastB k l s = true ↔ crowdB k l (s : Int) = true ∧ ∀ t : Nat, t < 2 ^ l.length → crowdB k l (t : Int) = true → subB t s = true → t = s := by
  unfold leastB
  rw [Bool.and_eq_true, List.all_eq_true]
  refine and_congr_right fun _ => ⟨fun h t h1 h2 h3 => ?_, fun h t ht => ?_⟩
  · have := h t (masksC_mem.2 ⟨h1, h2⟩)
    simpa [h3] using this
  · obtain ⟨h1, h2⟩ := masksC_mem.1 ht
    cases h3 : subB t s
    · simp
    · simp [h t h1 h2 h3]
theorem least_in {k : List Seat} {l : List Order} : ∀ (q s : Nat), s ≤ q → s < 2 ^ l.length → crowdB k l (s : Int) = true → ∃ t : Nat, t < 2 ^ l.length ∧ leastB k l t = true ∧ subB t s = true := by
  intro q
  induction q with
  | zero =>
    intro s hq hs hc
    refine ⟨s, hs, leastB_iff.2 ⟨hc, fun t h1 h2 h3 => ?_⟩, subB_refl s⟩
    have := subB_le h3
    omega
  | succ q ih =>
    intro s hq hs hc
    cases hl : leastB k l s
    · have : ∃ t : Nat, t < 2 ^ l.length ∧ crowdB k l (t : Int) = true ∧ subB t s = true ∧ t ≠ s := by
        refine Classical.byContradiction fun hn => ?_
        have : leastB k l s = true := leastB_iff.2 ⟨hc, fun t h1 h2 h3 => Classical.byContradiction fun h4 => hn ⟨t, h1, h2, h3, h4⟩⟩
        rw [hl] at this
        cases this
      obtain ⟨t, h1, h2, h3, h4⟩ := this
      have := subB_le h3
      obtain ⟨u, h5, h6, h7⟩ := ih t (by omega) h1 h2
      exact ⟨u, h5, h6, subB_trans h7 h3⟩
    · exact ⟨s, hs, hl, subB_refl s⟩
def leastF (k : List Seat) (l : List Order) : List M9 := (partsF (allN l)).filter (fun x => leastB k l x.val)
theorem allN9 {l : List Order} (h9 : l.length ≤ 9) : allN l < 512 := by
  have h : 2 ^ l.length ≤ 2 ^ 9 := Nat.pow_le_pow_right (by omega) h9
  unfold allN
  omega
theorem sub_allN (l : List Order) {s : Nat} : subB s (allN l) = true ↔ s < 2 ^ l.length := by
  unfold subB allN
  rw [beq_iff_eq, Nat.and_two_pow_sub_one_eq_mod]
  constructor
  · intro h
    rw [← h]
    exact Nat.mod_lt _ (Nat.two_pow_pos _)
  · exact Nat.mod_eq_of_lt
theorem partsF_all {l : List Order} (h9 : l.length ≤ 9) {s : M9} : s ∈ partsF (allN l) ↔ s.val < 2 ^ l.length := by
  rw [partsF_mem (allN9 h9), sub_allN]
theorem ofNat_val {n : Nat} (h : n < 512) : (Fin.ofNat 512 n : M9).val = n := by simp [Fin.ofNat]; omega
theorem map_nodup {α β : Type} {f : α → β} : ∀ {xs : List α}, xs.Nodup → (∀ x ∈ xs, ∀ y ∈ xs, f x = f y → x = y) → (xs.map f).Nodup
  | [], _, _ => by simp
  | x :: xs, h, hf => by
    rw [List.nodup_cons] at h
    rw [List.map_cons, List.nodup_cons]
    refine ⟨fun hm => ?_, map_nodup h.2 (fun a ha b hb => hf a (by simp [ha]) b (by simp [hb]))⟩
    obtain ⟨y, hy, e⟩ := List.mem_map.1 hm
    have := hf y (by simp [hy]) x (by simp) e
    subst this
    exact h.1 hy
theorem partsF_nodup {m : Nat} (hm : m < 512) : (partsF m).Nodup := by
  refine (List.mergeSort_perm _ _).nodup_iff.2 (map_nodup ?_ ?_)
  · unfold subsN
    exact List.nodup_range.sublist List.filter_sublist
  · intro x hx y hy e
    have h1 := (subsN_mem.1 hx).1
    have h2 := (subsN_mem.1 hy).1
    have := congrArg Fin.val e
    rw [ofNat_val (by omega), ofNat_val (by omega)] at this
    exact this
theorem crowds_pre {k : List Seat} {l : List Order} (h9 : l.length ≤ 9) : ∀ (post pre : List M9), partsF (allN l) = pre ++ post → crowdsOf k l (pre.map (·.val)) = (pre.filter (fun x => leastB k l x.val)).map (·.val) → crowdsOf k l ((partsF (allN l)).map (·.val)) = (leastF k l).map (·.val)
  | [], pre, h, h2 => by
    rw [List.append_nil] at h
    unfold leastF
    rw [h]
    exact h2
  | s :: post, pre, h, h2 => by
    refine crowds_pre h9 post (pre ++ [s]) (by rw [h]; simp) ?_
    have hs : s.val < 2 ^ l.length := (partsF_all h9).1 (by rw [h]; simp)
    have hsorted := partsF_sorted (allN l)
    rw [h] at hsorted
    have hnd : (pre ++ s :: post).Nodup := by rw [← h]; exact partsF_nodup (allN9 h9)
    rw [List.map_append, List.map_cons, List.map_nil, crowdsOf_snoc, h2, List.filter_append, List.map_append]
    unfold crowdStep
    have key : (crowdB k l ((s.val : Nat) : Int) && !(((pre.filter (fun x => leastB k l x.val)).map (·.val)).any (fun c => subB c s.val))) = leastB k l s.val := by
      cases hc : crowdB k l ((s.val : Nat) : Int)
      · simp [leastB, hc]
      · rw [Bool.true_and, Bool.eq_iff_iff, Bool.not_eq_true', leastB_iff]
        constructor
        · intro ha
          refine ⟨hc, fun t h1 h3 h4 => Classical.byContradiction fun h5 => ?_⟩
          obtain ⟨u, hu1, hu2, hu3⟩ := least_in (k := k) (l := l) t t (Nat.le_refl _) h1 h3
          have hus : subB u s.val = true := subB_trans hu3 h4
          have h512 : 2 ^ l.length ≤ 512 := Nat.pow_le_pow_right (n := 2) (by omega) h9
          have hne : u ≠ s.val := by
            intro e
            have e1 := subB_le hu3
            have e2 := subB_le h4
            omega
          have hmem : (⟨u, by omega⟩ : M9) ∈ pre ++ s :: post := by rw [← h]; exact (partsF_all h9).2 hu1
          have hb := subB_before (by omega) s.isLt hus hne
          rcases List.mem_append.1 hmem with hp | hp
          · have : (((pre.filter (fun x => leastB k l x.val)).map (·.val)).any (fun c => subB c s.val)) = true := by
              rw [List.any_eq_true]
              exact ⟨u, List.mem_map.2 ⟨_, List.mem_filter.2 ⟨hp, hu2⟩, rfl⟩, hus⟩
            rw [ha] at this
            cases this
          · rcases List.mem_cons.1 hp with hp | hp
            · exact hne (congrArg Fin.val hp)
            · have h6 := (List.pairwise_append.1 hsorted).2.1
              rw [List.pairwise_cons] at h6
              exact leF_cmp (h6.1 _ hp) hb
        · rintro ⟨_, hl⟩
          rw [List.any_eq_false]
          intro c hc2 hsub
          obtain ⟨x, hx, rfl⟩ := List.mem_map.1 hc2
          obtain ⟨hx1, hx2⟩ := List.mem_filter.1 hx
          have hxl : x.val < 2 ^ l.length := (partsF_all h9).1 (by rw [h]; simp [hx1])
          have e := hl x.val hxl (leastB_iff.1 hx2).1 hsub
          have e2 : x = s := Fin.ext e
          subst e2
          exact (List.nodup_append.1 hnd).2.2 x hx1 x (by simp) rfl
    rw [key]
    cases hl : leastB k l s.val <;> simp [hl]
theorem crowdsN_least (k : List Seat) {l : List Order} (h9 : l.length ≤ 9) : crowdsN k l = (leastF k l).map (·.val) :=
  crowds_pre h9 _ [] rfl rfl
theorem leastF_sorted (k : List Seat) (l : List Order) : (leastF k l).Pairwise (fun a b => leF a b = true) := (partsF_sorted _).sublist List.filter_sublist
def insAll (acc : List M9) : List Nat → List M9
  | [] => acc
  | m :: ms => insAll (insM (Fin.ofNat 512 m) acc) ms
theorem insAll_perm : ∀ (ms : List Nat) (acc : List M9), (insAll acc ms).Perm (ms.map (Fin.ofNat 512) ++ acc)
  | [], acc => List.Perm.refl _
  | m :: ms, acc => by
    unfold insAll
    refine (insAll_perm ms _).trans ?_
    refine ((insM_perm (Fin.ofNat 512 m) acc).append_left (ms.map (Fin.ofNat 512))).trans ?_
    exact List.perm_middle
theorem insAll_sorted : ∀ (ms : List Nat) (acc : List M9), acc.Pairwise (fun a b => leF a b = true) → (insAll acc ms).Pairwise (fun a b => leF a b = true)
  | [], acc, h => h
  | m :: ms, acc, h => insAll_sorted ms _ (insM_sorted _ _ h)
theorem filter_map_ofNat {p : Nat → Bool} : ∀ {xs : List Nat}, (∀ x ∈ xs, x < 512) → (xs.map (Fin.ofNat 512)).filter (fun x : M9 => p x.val) = (xs.filter p).map (Fin.ofNat 512)
  | [], _ => rfl
  | x :: xs, h => by
    have hx : (Fin.ofNat 512 x : M9).val = x := ofNat_val (h x (by simp))
    rw [List.map_cons, List.filter_cons, List.filter_cons, filter_map_ofNat (fun y hy => h y (by simp [hy])), hx]
    split <;> simp
theorem leastF_put (k : List Seat) {l : List Order} (h9 : l.length ≤ 9) : insAll [] ((masksC k l).filter (leastB k l)) = leastF k l := by
  have h512 : 2 ^ l.length ≤ 512 := Nat.pow_le_pow_right (n := 2) (by omega) h9
  have hpos := Nat.two_pow_pos l.length
  refine List.Perm.eq_of_pairwise (fun a b _ _ => leF_anti a b) (insAll_sorted _ _ List.Pairwise.nil) (leastF_sorted k l) ?_
  refine (insAll_perm _ _).trans ?_
  rw [List.append_nil]
  have e1 : (masksC k l).filter (leastB k l) = (List.range (2 ^ l.length)).filter (leastB k l) := by
    unfold masksC
    rw [List.filter_filter]
    refine List.filter_congr (fun m _ => ?_)
    unfold leastB
    cases crowdB k l (m : Int) <;> simp
  have e2 : subsN (allN l) (allN l + 1) = List.range (2 ^ l.length) := by
    have : allN l + 1 = 2 ^ l.length := by unfold allN; omega
    rw [this]
    unfold subsN
    rw [List.filter_eq_self]
    intro s hs
    exact (sub_allN l).2 (List.mem_range.1 hs)
  rw [e1, ← filter_map_ofNat (p := leastB k l) (fun x hx => by have := List.mem_range.1 hx; omega)]
  unfold leastF
  refine List.Perm.filter _ ?_
  rw [← e2]
  exact (List.mergeSort_perm _ _).symm
end Go.Proofs.YthonlcnmjlldiaaGreat.P
namespace Go.Proofs.YthonlcnmjlldiaaGreat.P
open Go.RowKit Go.Proofs.YthonlcnmjlldiaaGreatW.PrintWords Go.Proofs.YthonlcnmjlldiaaGreatW.PrintLast Go.Proofs.YthonlcnmjlldiaaGreatW.PrintMore
attribute [local go_sem] max2_int min2_int max_two min_two max_three min_three max_four min_four
set_option linter.unusedVariables false
set_option linter.unusedSimpArgs false
mutual
def potbankref06_first.l0 : Nat → List Int → List Int → Int → Option (Bool)
  | 0, _, _, _ => none
  | k + 1, x0, x1, x5 => if x5 < (x0.length : Int) then (potbankref06_first.j1 k x0 x1 x5 (decide (x5 < (x1.length : Int)))) else (potbankref06_first.j1 k x0 x1 x5 false)
def potbankref06_first.j1 : Nat → List Int → List Int → Int → Bool → Option (Bool)
  | 0, _, _, _, _ => none
  | k + 1, x0, x1, x5, x15 => if x15 = true then (if 0 ≤ x5 then (if x5 < (x0.length : Int) then (if x5 < (x1.length : Int) then (if (rd x0 x5) = (rd x1 x5) then (potbankref06_first.l0 k x0 x1 (wrap64 (x5 + 1))) else (some (decide ((rd x0 x5) < (rd x1 x5))))) else (none)) else (none)) else (none)) else (some (decide ((x0.length : Int) < (x1.length : Int))))
end
def potbankref06_first.f (k : Nat) (l0 : List Int) (l1 : List Int) : Option (Bool) := potbankref06_first.l0 k l0 l1 0
set_option maxHeartbeats 8000000 in
set_option maxRecDepth 100000 in
theorem potbankref06_first.calls (k : Nat) (A0 : Option Addr) (c0 : Nat) (l0 : List Int) (A1 : Option Addr) (c1 : Nat) (l1 : List Int) (r : Bool) (w : World) (hr0 : Kd.C (Kd.int .i64) w A0 l0.length l0) (hc0 : l0.length ≤ c0) (hr1 : Kd.C (Kd.int .i64) w A1 l1.length l1) (hc1 : l1.length ≤ c1) (h : potbankref06_first.f k l0 l1 = some r) :
    Calls Tryz.prog 109 #[.slice A0 l0.length c0, .slice A1 l1.length c1] w fun e w' => e = .returned (.bool r) ∧ Drawn0 w w' := by
  have HR0 := Aside0.mk hr0
  have HC0 := Aside0.mk hc0
  clear hr0 hc0
  have HR1 := Aside0.mk hr1
  have HC1 := Aside0.mk hc1
  clear hr1 hc1
  have H : (potbankref06_first.l0 k l0 l1 0) = some r := h
  clear h
  have H' := Aside0.mk H
  clear H
  go_enter Tryz.func109, Tryz.ntmps109
  go_wp2
  repeat (go_quiet (fail); try go_wp2)
  go_loopg [5] k (fun kq v5 w' => ∃ (x5_1 : Int), v5 = .int .i64 x5_1 ∧ Aside0 (potbankref06_first.l0 kq l0 l1 x5_1 = some r) ∧ Aside0 (kq ≤ k) ∧ Drawn0 w w')
  case atStart => exact ⟨(0), (by first | rfl | (simp; done) | (simp [*]; done)), H', ⟨Nat.le_refl _⟩, by repeat (first | exact Drawn0.refl _ | apply Drawn0.step)⟩
  case round =>
    clear H'
    try clear c1
    try clear p2
    obtain ⟨x5_1, rfl, HA, HK1, ⟨m1, rfl⟩⟩ := hrel
    cases gk with
    | zero => exact absurd HA.out (by simp [potbankref06_first.l0])
    | succ k1 =>
      have H := HA.out
      clear HA
      simp only [potbankref06_first.l0] at H
      have HC3 := Aside0.mk H
      clear H
      go_upto_region 2 with (fail)
      repeat (go_quiet (fail); go_upto_region 2 with (fail))
      go_cut [15] (fun v15 wc => ∃ (kq : Nat) (x15_2 : Bool), v15 = .bool x15_2 ∧ Aside0 (potbankref06_first.j1 kq l0 l1 x5_1 x15_2 = some r) ∧ Aside0 (kq ≤ k1) ∧ Drawn0 w wc)
      case first =>
        have H := HC3.out
        clear HC3
        by_cases c4 : x5_1 < (l0.length : Int)
        · rw [if_pos c4] at H
          have c4b0 : decide (x5_1 < (l0.length : Int)) = true := decide_eq_true c4
          clear c4
          (first | rw [c4b0] | (simp only [i64_w, i32_w]; rw [c4b0]) | skip)
          have H' := Aside0.mk H
          clear H
          go_wp2
          repeat (go_quiet (fail); try go_wp2)
          go_meet
          case rel => exact ⟨_, (decide (x5_1 < (l1.length : Int))), (by first | rfl | (simp; done) | (simp [*]; done)), H', ⟨by have := HK1.out; first | omega | exact Nat.le_refl _⟩, by repeat (first | exact Drawn0.refl _ | apply Drawn0.step)⟩
        · rw [if_neg c4] at H
          have c4b0 : decide (x5_1 < (l0.length : Int)) = false := decide_eq_false c4
          clear c4
          (first | rw [c4b0] | (simp only [i64_w, i32_w]; rw [c4b0]) | skip)
          have H' := Aside0.mk H
          clear H
          go_wp2
          repeat (go_quiet (fail); try go_wp2)
          go_meet
          case rel => exact ⟨_, (false), (by first | rfl | (simp; done) | (simp [*]; done)), H', ⟨by have := HK1.out; first | omega | exact Nat.le_refl _⟩, by repeat (first | exact Drawn0.refl _ | apply Drawn0.step)⟩
      case rest =>
        clear HC3
        try clear c1
        try clear p2
        try clear c4
        try clear c4b0
        try clear p2
        obtain ⟨kq, x15_2, rfl, HA, HJ2, ⟨mc2, rfl⟩⟩ := hcut
        cases kq with
        | zero => exact absurd HA.out (by simp [potbankref06_first.j1])
        | succ kj2 =>
          have H := HA.out
          clear HA
          simp only [potbankref06_first.j1] at H
          by_cases c5 : x15_2 = true
          · subst c5
            have H1 : (if 0 ≤ x5_1 then (if x5_1 < (l0.length : Int) then (if x5_1 < (l1.length : Int) then (if (rd l0 x5_1) = (rd l1 x5_1) then (potbankref06_first.l0 kj2 l0 l1 (wrap64 (x5_1 + 1))) else (some (decide ((rd l0 x5_1) < (rd l1 x5_1))))) else (none)) else (none)) else (none)) = some r := by rw [if_pos rfl] at H; exact H
            clear H
            have H := H1
            clear H1
            by_cases c6 : 0 ≤ x5_1
            · rw [if_pos c6] at H
              have c6b0 : decide (0 ≤ x5_1) = true := decide_eq_true c6
              clear c6
              by_cases c7 : x5_1 < (l0.length : Int)
              · rw [if_pos c7] at H
                have c7b0 : decide (x5_1 < (l0.length : Int)) = true := decide_eq_true c7
                clear c7
                by_cases c8 : x5_1 < (l1.length : Int)
                · rw [if_pos c8] at H
                  have c8b0 : decide (x5_1 < (l1.length : Int)) = true := decide_eq_true c8
                  clear c8
                  by_cases c9 : (rd l0 x5_1) = (rd l1 x5_1)
                  · rw [if_pos c9] at H
                    have c9b0 : ((rd l0 x5_1) == (rd l1 x5_1)) = true := beq_iff_eq.mpr c9
                    have c9b1 : ((rd l0 x5_1) != (rd l1 x5_1)) = false := bne_eq_false_iff_eq.mpr c9
                    clear c9
                    have H' := Aside0.mk H
                    clear H
                    have p241 : 0 ≤ (x5_1 : Int) := of_decide_eq_true (by first | (with_reducible assumption) | assumption)
                    have q241 : x5_1 < (l0.length : Int) := of_decide_eq_true (by first | (with_reducible assumption) | assumption)
                    obtain ⟨ad241, e241, hx241_0⟩ := Kd.at_int HR0.out x5_1 p241 q241
                    cases e241
                    replace p241 := eq_true p241
                    replace q241 := eq_true q241
                    have p242 : 0 ≤ (x5_1 : Int) := of_decide_eq_true (by first | (with_reducible assumption) | assumption)
                    have q242 : x5_1 < (l1.length : Int) := of_decide_eq_true (by first | (with_reducible assumption) | assumption)
                    obtain ⟨ad242, e242, hx242_0⟩ := Kd.at_int HR1.out x5_1 p242 q242
                    cases e242
                    replace p242 := eq_true p242
                    replace q242 := eq_true q242
                    go_wp2
                    repeat (go_quiet (fail); try go_wp2)
                    go_roundg kj2
                    case measure => have := HK1.out; have := HJ2.out; omega
                    case rel => exact ⟨(wrap64 (x5_1 + 1)), (by first | rfl | (simp; done) | (simp [*]; done)), H', ⟨by have := HK1.out; have := HJ2.out; omega⟩, by repeat (first | exact Drawn0.refl _ | apply Drawn0.step)⟩
                  · rw [if_neg c9] at H
                    have c9b0 : ((rd l0 x5_1) == (rd l1 x5_1)) = false := beq_eq_false_iff_ne.mpr c9
                    have c9b1 : ((rd l0 x5_1) != (rd l1 x5_1)) = true := bne_iff_ne.mpr c9
                    obtain rfl := Option.some.inj H
                    have p241 : 0 ≤ (x5_1 : Int) := of_decide_eq_true (by first | (with_reducible assumption) | assumption)
                    have q241 : x5_1 < (l0.length : Int) := of_decide_eq_true (by first | (with_reducible assumption) | assumption)
                    obtain ⟨ad241, e241, hx241_0⟩ := Kd.at_int HR0.out x5_1 p241 q241
                    cases e241
                    replace p241 := eq_true p241
                    replace q241 := eq_true q241
                    have p242 : 0 ≤ (x5_1 : Int) := of_decide_eq_true (by first | (with_reducible assumption) | assumption)
                    have q242 : x5_1 < (l1.length : Int) := of_decide_eq_true (by first | (with_reducible assumption) | assumption)
                    obtain ⟨ad242, e242, hx242_0⟩ := Kd.at_int HR1.out x5_1 p242 q242
                    cases e242
                    replace p242 := eq_true p242
                    replace q242 := eq_true q242
                    have p243 : 0 ≤ (x5_1 : Int) := of_decide_eq_true (by first | (with_reducible assumption) | assumption)
                    have q243 : x5_1 < (l0.length : Int) := of_decide_eq_true (by first | (with_reducible assumption) | assumption)
                    obtain ⟨ad243, e243, hx243_0⟩ := Kd.at_int HR0.out x5_1 p243 q243
                    obtain rfl : ad241 = ad243 := (by injection e243)
                    replace p243 := eq_true p243
                    replace q243 := eq_true q243
                    have p244 : 0 ≤ (x5_1 : Int) := of_decide_eq_true (by first | (with_reducible assumption) | assumption)
                    have q244 : x5_1 < (l1.length : Int) := of_decide_eq_true (by first | (with_reducible assumption) | assumption)
                    obtain ⟨ad244, e244, hx244_0⟩ := Kd.at_int HR1.out x5_1 p244 q244
                    obtain rfl : ad242 = ad244 := (by injection e244)
                    replace p244 := eq_true p244
                    replace q244 := eq_true q244
                    go_wp2
                    repeat (go_quiet (fail); try go_wp2)
                    go_ret
                    exact ⟨by first | rfl | (simp; done) | (simp [*]; done), by repeat (first | exact Drawn0.refl _ | apply Drawn0.step)⟩
                · rw [if_neg c8] at H
                  exact absurd H (by simp)
              · rw [if_neg c7] at H
                exact absurd H (by simp)
            · rw [if_neg c6] at H
              exact absurd H (by simp)
          · replace c5 := Bool.eq_false_iff.mpr c5
            subst c5
            have H1 : (some (decide ((l0.length : Int) < (l1.length : Int)))) = some r := by rw [if_neg (show ¬ (false = true) by decide)] at H; exact H
            clear H
            have H := H1
            clear H1
            obtain rfl := Option.some.inj H
            go_wp2
            repeat (go_quiet (fail); try go_wp2)
            go_ret
            exact ⟨by first | rfl | (simp; done) | (simp [*]; done), by repeat (first | exact Drawn0.refl _ | apply Drawn0.step)⟩
def potbankref06_ahead.f (k : Nat) (l0 : List Int) (l1 : List Int) : Option (Bool) := if (l0.length : Int) = (l1.length : Int) then ((potbankref06_first.f k l0 l1).bind fun t245 => (some t245)) else (some (decide ((l0.length : Int) < (l1.length : Int))))
set_option maxHeartbeats 8000000 in
set_option maxRecDepth 100000 in
theorem potbankref06_ahead.calls (k : Nat) (A0 : Option Addr) (c0 : Nat) (l0 : List Int) (A1 : Option Addr) (c1 : Nat) (l1 : List Int) (r : Bool) (w : World) (hr0 : Kd.C (Kd.int .i64) w A0 l0.length l0) (hc0 : l0.length ≤ c0) (hr1 : Kd.C (Kd.int .i64) w A1 l1.length l1) (hc1 : l1.length ≤ c1) (h : potbankref06_ahead.f k l0 l1 = some r) :
    Calls Tryz.prog 76 #[.slice A0 l0.length c0, .slice A1 l1.length c1] w fun e w' => e = .returned (.bool r) ∧ Drawn0 w w' := by
  have HR0 := Aside0.mk hr0
  have HC0 := Aside0.mk hc0
  clear hr0 hc0
  have HR1 := Aside0.mk hr1
  have HC1 := Aside0.mk hc1
  clear hr1 hc1
  have H : (if (l0.length : Int) = (l1.length : Int) then ((potbankref06_first.f k l0 l1).bind fun t245 => (some t245)) else (some (decide ((l0.length : Int) < (l1.length : Int))))) = some r := h
  clear h
  by_cases c3 : (l0.length : Int) = (l1.length : Int)
  · rw [if_pos c3] at H
    have c3b0 : ((l0.length : Int) == (l1.length : Int)) = true := beq_iff_eq.mpr c3
    have c3b1 : ((l0.length : Int) != (l1.length : Int)) = false := bne_eq_false_iff_eq.mpr c3
    have c3b2 : (l0.length == l1.length) = true := by first | simpa using c3 | (simp at c3 ⊢; omega)
    clear c3
    replace H := Option.bind_eq_some_iff.mp H
    obtain ⟨t245, A40, H⟩ := H
    replace H : (some t245) = some r := H
    have A4 := Aside0.mk A40
    clear A40
    obtain rfl := Option.some.inj H
    go_enter Tryz.func76, Tryz.ntmps76
    go_wp2_with (first | ((with_reducible refine gate_callee (f := 109) rfl ?_); refine goesL_ (some 17) rfl rfl Tryz.func109 (by kernel_rfl) rfl #[.slice A0 l0.length c0, .slice A1 l1.length c1] rfl (by (try simp only [List.map_toArray, List.map_cons, List.map_nil]); first | done | rfl | (simp only [List.length_drop, List.length_take]; rfl)) ?_; (with_reducible refine (potbankref06_first.calls k _ _ l0 _ _ l1 t245 _ ?side1 ?side2 ?side3 ?side4 A4.out).mono ?_); (case side1 => repeat (first | exact HR0.out | (with_reducible refine Kd.C_alloc ?_ _) | (with_reducible refine Kd.C_drewN ?_ _) | (with_reducible refine Kd.C_drew ?_))); (case side2 => exact HC0.out); (case side3 => repeat (first | exact HR1.out | (with_reducible refine Kd.C_alloc ?_ _) | (with_reducible refine Kd.C_drewN ?_ _) | (with_reducible refine Kd.C_drew ?_))); (case side4 => exact HC1.out); rintro e w' ⟨rfl, ⟨nd, rfl⟩⟩; refine ⟨_, rfl, ?_⟩))
    go_ret
    exact ⟨by first | rfl | (simp; done) | (simp [*]; done), by repeat (first | exact Drawn0.refl _ | apply Drawn0.step)⟩
  · rw [if_neg c3] at H
    have c3b0 : ((l0.length : Int) == (l1.length : Int)) = false := beq_eq_false_iff_ne.mpr c3
    have c3b1 : ((l0.length : Int) != (l1.length : Int)) = true := bne_iff_ne.mpr c3
    have c3b2 : (l0.length == l1.length) = false := by first | simpa using c3 | (simp at c3 ⊢; omega)
    obtain rfl := Option.some.inj H
    go_enter Tryz.func76, Tryz.ntmps76
    go_wp2
    go_ret
    exact ⟨by first | rfl | (simp; done) | (simp [*]; done), by repeat (first | exact Drawn0.refl _ | apply Drawn0.step)⟩
end Go.Proofs.YthonlcnmjlldiaaGreat.P
