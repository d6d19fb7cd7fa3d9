/- potbanklaw06.PlanReasons returns true for every input, and what comes in reads as it did. Conditions: none. Part 4 of the proof. -/
import Derived.Test.YthonlcnmjlldiaaGreatKR3
import Derived.Scope
import Derived.Laws.ResultCell
import Derived.Lib.SliceRun
import Derived.Deep.RegionLaw
set_option linter.unusedVariables false
set_option linter.unusedSimpArgs false
namespace Go.Proofs.YthonlcnmjlldiaaGreat.P
open Go.Shelf Go.RowKit Go.Proofs.YthonlcnmjlldiaaGreatW.PrintWords Go.Proofs.YthonlcnmjlldiaaGreatW.PrintLast Go.Proofs.YthonlcnmjlldiaaGreatW.PrintMore
attribute [local go_sem] Oper.semAt_some
theorem allN_int (l : List Order) : allI l = ((allN l : Nat) : Int) := by
 unfold allI allN
 have h : 0 < 2 ^ l.length := Nat.two_pow_pos _
 rw [Int.natCast_sub h, Int.natCast_pow]
 rfl
theorem allN_lt (l : List Order) : allN l < 2 ^ l.length := by
 have h : 0 < 2 ^ l.length := Nat.two_pow_pos _
 unfold allN
 omega
theorem partsF_len' {m : Nat} (hm : m < 512) : (partsF m).length ≤ 512 := by
 have h2 := subsN_len m (m + 1)
 have h3 := partsF_len m
 omega
def valS {m : Nat} (pre : List (Sub m)) : List Nat := pre.map (·.val.val)
theorem valS_all {m : Nat} (hm : m < 512) : valS (partsS hm) = (partsF m).map (·.val) := by
 rw [← partsS_map hm, List.map_map]
 rfl
theorem valS_le {m : Nat} {pre : List (Sub m)} {c : Nat} (h : c ∈ valS pre) : c ≤ m := by
 obtain ⟨x, _, rfl⟩ := List.mem_map.1 h
 exact x.2
theorem keeps_below {B : Nat} {W W' : World} (h : Below W.heap.size W W') : KeepsFrom B W W' := ⟨h.size, fun k o _ hk _ => (h.block k (Array.getElem?_eq_some_iff.1 hk).1).trans hk⟩
theorem own_ne {W : World} {base mb : Nat} {e : TypeId} {size k : Nat} {v : Value} {xs : List Value} (h : W.ownsRow base e size v k xs) (hm : mb < base) : v.ownBlock = none ∨ v.ownBlock ≠ some mb :=
 .inr (fun e => by have := own_base h mb e; omega)
theorem own_C {α : Type} {enc : α → Value} {h1 : ∀ x, (enc x).oneCell' = true} {W : World} {base : Nat} {e : TypeId} {A : Option Addr} {c : Nat} {xs : List α} {n : Nat} (hn : n = xs.length) (h : W.ownsRow base e 1 (.slice A n c) n (encs enc xs)) : (Kd.scalar enc h1).C W A xs.length xs := by
 subst hn
 obtain ⟨A', c', he, hc, hC⟩ := Kd.R_reads (Kd.R_of_own (h1 := h1) (ok := fun _ => True) h (fun _ _ => trivial))
 injection he with hA
 rw [hA]
 exact hC
theorem own_slice {W : World} {base : Nat} {e : TypeId} {size k : Nat} {v : Value} {xs : List Value} (h : W.ownsRow base e size v k xs) : ∃ A c, v = .slice A k c ∧ k ≤ c := by
 rcases h.2 with ⟨rfl, rfl⟩ | ⟨g, cap, cur, rfl, _, _, hc, _⟩
 ·exact ⟨none, 0, rfl, Nat.le_refl _⟩
 ·exact ⟨_, _, rfl, hc⟩
set_option maxHeartbeats 2000000 in
set_option maxRecDepth 100000 in
theorem crowds_b {w : World} {ob mb : Nat} {k : List Seat} {l : List Order} (hO : Off w ob mb k l) (hF : Fine k l) :
  Calls Tryz.prog 46 #[.pointer (some ⟨ob, 0, none⟩)] w fun e w' => ∃ v, e = .returned v ∧ Kd.R (Kd.int .u64) 93 w' w.heap.size (fun _ => True) v (natsI (crowdsN k l)) ∧ Off w' ob mb k l ∧ w.grownBy w' (some mb) := by
 have hm := two_lt hF.h9 (allN_lt l)
 have hp := fun W => parts_b hm W
 have hal := fun (W : World) (hW : Off W ob mb k l) => all_b hW hF
 rw [allN_int] at hal
 have HP := Aside0.mk hp
 have HAL := Aside0.mk hal
 have HO := Aside0.mk hO
 have HF := Aside0.mk hF
 have HLT := Aside0.mk hO.lt
 have HM := Aside0.mk (fun (s : Sub (allN l)) => lt_two (allN_lt l) s.2)
 have HHM := Aside0.mk hm
 have HLP := Aside0.mk (partsF_len' hm)
 have HE := Aside0.mk (show crowdsN k l = crowdsOf k l (valS (partsS hm)) by rw [valS_all]; rfl)
 obtain ⟨i0, hi, hz0, hz1, hz2⟩ := info_parts info_mask
 clear hp hO hF hal
 generalize crowdsN k l = r at *
 generalize allN l = m at *
 refine (callsIn_wide (n := 5)).1 ?_
 refine callsIn_of_wp_marks Tryz.func46 rfl trivial ?_ rfl
 simp only [Tryz.ntmps46, List.size_toArray, List.length_cons, List.length_nil, Nat.reduceAdd, Nat.reduceSub, Array.replicate_succ, Array.replicate_zero, List.push_toArray, List.append_toArray, List.nil_append, List.cons_append]
 have hu := Tryz.underlying129
 have hbw : Below w.heap.size w ((w.alloc (.cells #[.pointer (some ⟨ob, 0, none⟩)] 80)).alloc (.cells #[.slice none 0 0] 84)) := below_alloc (below_alloc (Below.refl _ _) _) _
 have HBW := Aside0.mk hbw
 clear hbw
 gi_wp2_with (first | (refine ⟨trivial, ?_⟩; gi_at_call 62; refine (callsIn_wide.2 (HAL.out _ (HO.out.below HBW.out))).mono ?_; rintro e W2 ⟨rfl, hw2⟩; subst hw2) | (refine ⟨trivial, ?_⟩; gi_at_call 86; refine (callsIn_wide.2 (HP.out _)).mono ?_; rintro e W2 ⟨bx, g, cap, rfl, hPA, hlg, hlb, hbe⟩; have HPA := Aside0.mk hPA; have HBE := Aside0.mk hbe; clear hPA hbe))
 obtain ⟨W1, hW1⟩ : ∃ W1, ((w.alloc (.cells #[.pointer (some ⟨ob, 0, none⟩)] 80)).alloc (.cells #[.slice none 0 0] 84)) = W1 := ⟨_, rfl⟩
 have b0 : Boxed W1 w.heap.size 80 (.pointer (some ⟨ob, 0, none⟩)) := by rw [← hW1]; exact (Boxed.new w _ _).alloc _
 have b1 : Boxed W1 (w.heap.size + 1) 84 (.slice none 0 0) := by
  rw [← hW1]
  have := Boxed.new (w.alloc (.cells #[.pointer (some ⟨ob, 0, none⟩)] 80)) 84 (.slice none 0 0)
  rwa [World.size_alloc] at this
 have hsz1 : W1.heap.size = w.heap.size + 1 + 1 := by rw [← hW1]; simp
 rw [hW1] at HBE hlg hlb HBW
 clear hW1
 have hbw := HBW.out
 have hb2 := HBE.out
 have c0 : Boxed W2 w.heap.size 80 (.pointer (some ⟨ob, 0, none⟩)) := (hb2.block _ b0.lt).trans b0
 have c1 : Boxed W2 (w.heap.size + 1) 84 (.slice none 0 0) := (hb2.block _ b1.lt).trans b1
 have hbw2 : Below w.heap.size w W2 := below_refl_trans hbw hb2
 have hO2 := HO.out.below hbw2
 have hbs := hb2.size
 have hgl := HPA.out.2.2
 have hlt := HLT.out
 obtain ⟨n2, hn2⟩ : ∃ n2, n2 = W2.heap.size := ⟨_, rfl⟩
 refine wpIn_rangeFunc_ownH rfl (by omega) (gf := 132) (lb := #[.pointer (some ⟨bx, 0, none⟩)]) rfl trivial (enters_of Tryz.func132 (by kernel_rfl) rfl) (values_stops Fence.wide 4 trivial rfl (by omega) HHM.out HPA.out) KeepV.trans (KeepV.putObj hgl.1 hgl.2) (Below.refl _ _) (fun _ => rfl)
  (fun pre W => RM W mb k l ∧ w.grownBy W (some mb) ∧ Boxed W w.heap.size 80 (.pointer (some ⟨ob, 0, none⟩)) ∧ n2 ≤ W.heap.size ∧ ∃ v, Boxed W (w.heap.size + 1) 84 v ∧ W.ownsRow n2 93 1 v (natsI (crowdsOf k l (valS pre))).length (encs (Value.int .u64) (natsI (crowdsOf k l (valS pre)))))
  (fun _ _ _ => False)
  ?hI (fun _ _ _ _ _ h _ _ => h) ?h0
  (fun x a' W => ∃ Bx, n2 ≤ Bx ∧ Boxed W Bx 93 (.int .u64 (x.val.val : Int)) ∧ a' = { tmps := #[.pointer (some ⟨ob, 0, none⟩), .pointer (some ⟨w.heap.size, 0, none⟩), .slice none 0 0, .pointer (some ⟨w.heap.size + 1, 0, none⟩), .pointer (some ⟨Bx, 0, none⟩), .pointer (some ⟨ob, 0, none⟩), .int .u64 (m : Int), .func (.func 132) #[] #[.pointer (some ⟨bx, 0, none⟩)], .int .u64 (x.val.val : Int), undef, undef, undef, undef, undef, undef, undef, undef, undef, undef, undef, undef, undef, undef], defers := [] })
  ?hAx ?assign ?body ?done ?stop
 case hI =>
  rintro pre W W' row ⟨g1, g2, g3, g6, v, g4, g5⟩ hg hr
  have hne : ∀ b : Nat, b < W2.heap.size → some b ≠ row := fun b hb e => by have := (hr _ e.symm).1; omega
  exact ⟨g1.step (hg.block mb (by omega) (hne _ (by omega))), grown_own g2 hg (fun x e => by have := (hr x e).1; omega), g3.kept hg (hne _ (by omega)), Nat.le_trans g6 hg.size, v, g4.kept hg (hne _ (by omega)), own_turn g5 hg (fun r e => (hr r e).2)⟩
 case h0 => exact ⟨hO2.rm, grown_of_below hbw2 _, c0, by omega, _, c1, World.ownsRow_nil _ _ _ _⟩
 case hAx =>
  rintro x a' s W W' row ⟨Bx, h1, h2, h3⟩ hg hr
  refine ⟨Bx, h1, h2.kept hg (fun e => ?_), h3⟩
  obtain ⟨_, o, ho, hc⟩ := hr Bx e.symm
  rw [show W.heap[Bx]? = _ from h2] at ho
  cases ho
  cases hc
 case assign =>
  rintro l' pre x W K ⟨g1, g2, g3, g6, v, g4, g5⟩ hK
  gi_wp2
  have hg := World.grownBy_alloc W (.cells #[.int .u64 (x.val.val : Int)] 93) none
  exact hK _ _ ((KeepsOthers.alloc _ _).from _) ⟨heap_alloc_old W _ (by omega), heap_alloc_old W _ (by omega)⟩ ⟨g1.step (hg.block mb (by omega) (by simp)), grown_own g2 hg (fun x e => by cases e), g3.alloc _, by simp; omega, v, g4.alloc _, g5.alloc _⟩ ⟨W.heap.size, g6, Boxed.new W _ _, rfl⟩
 case body =>
  rintro l' pre x a' W _ _ ⟨g1, g2, g3, g6, v, g4, g5⟩ ⟨Bx, hBx, hbx, rfl⟩ hpl
  have hx := HM.out x
  have hcr := isCrowd_b (HO.out.grow g2 g1) HF.out (by omega) hx
  have HCR := Aside0.mk hcr
  have G2 := Aside0.mk g2
  have e0 := g3.cell
  have e1 := hbx.cell
  have HX := Aside0.mk hx
  clear hcr g1 g2 hx
  have hsn : crowdsOf k l (valS (pre ++ [x])) = crowdStep k l (crowdsOf k l (valS pre)) x.val.val := by
   unfold valS
   rw [List.map_append]
   exact crowdsOf_snoc _ _ _ _
  have hlen : (crowdsOf k l (valS pre)).length ≤ 512 := by
   have h1 := crowdsOf_len k l (valS pre)
   have h2 : (valS pre).length = pre.length := by simp [valS]
   have := HLP.out
   omega
  have hall : ∀ c ∈ crowdsOf k l (valS pre), c ≤ m := fun c hc => valS_le (crowdsOf_sub hc)
  cases hc : crowdB k l (x.val.val : Int)
  ·rw [hc] at HCR
   have hst : crowdStep k l (crowdsOf k l (valS pre)) x.val.val = crowdsOf k l (valS pre) := by unfold crowdStep; rw [hc]; rfl
   have HSN := Aside0.mk (hsn.trans hst)
   clear hc hsn hst hlen hall
   gi_wp2_with (refine ⟨trivial, ?_⟩; gi_at_call 54; refine (CallsIn.inRound l' (callsIn_wide.2 HCR.out)).mono ?_; rintro e W3 ⟨rfl, hO3, hg3⟩)
   refine ⟨trivial, ?_⟩
   gi_wp2
   exact ⟨KeepsFrom.of_grownBy hg3 (fun j e => by cases e; omega), ⟨hg3.block _ (by omega) (by simp; omega), hg3.block _ (by omega) (by simp; omega)⟩, hO3.rm, grown_trans G2.out hg3, g3.kept hg3 (by simp; omega), Nat.le_trans g6 hg3.size, v, g4.kept hg3 (by simp; omega), by rw [HSN.out]; exact g5.kept hg3 (own_ne g5 (by omega))⟩
  ·rw [hc] at HCR
   have HC := Aside0.mk hc
   clear hc
   obtain ⟨outs, houts⟩ : ∃ outs, outs = crowdsOf k l (valS pre) := ⟨_, rfl⟩
   rw [← houts] at g5 hsn hlen hall
   have HOU := Aside0.mk houts
   clear houts
   have hx0 : x.val.val < 512 := x.val.isLt
   have hnl : (natsI outs).length = outs.length := by simp [natsI]
   obtain ⟨A, cc, rfl, hcc⟩ := own_slice g5
   rw [hnl] at g4 g5
   have hcf : ∀ W3 : World, W.grownBy W3 (some mb) → Calls Tryz.prog 52 #[.slice A outs.length cc, .func (.func 93) #[] #[.pointer (some ⟨Bx, 0, none⟩)]] W3 fun e W4 => e = .returned (.bool ((natsI outs).any (fun c => subB c.toNat (x.val.val : Int).toNat))) ∧ Below W3.heap.size W3 W4 := by
    intro W3 hg3
    rw [← hnl]
    have b3 := hbx.kept hg3 (by simp; omega)
    refine idxMaskAny.calls (p := fun c => subB c.toNat (x.val.val : Int).toNat) (R := fun W W' => Below W.heap.size W W')
     {eg := enters_of Tryz.func93 (by kernel_rfl) rfl, refl := Below.refl _ _, call := fun c W' hcc hW => ?_ } (fun W' hW => Kd.C_below (own_C hnl.symm (g5.kept hg3 (own_ne g5 (by omega)))) hW)
    obtain ⟨cn, hcn, rfl⟩ := List.mem_map.1 hcc
    have := hall cn hcn
    exact (within_b (c := Int.ofNat cn) (by simp) (by simp; omega) (by omega) (by omega) ((hW.cell (p := ⟨Bx, 0, none⟩) b3.lt).trans b3.cell)).mono fun e W'' ⟨g1, g2⟩ => ⟨g1, below_refl_trans hW g2⟩
   have hst : crowdStep k l outs x.val.val = if (natsI outs).any (fun c => subB c.toNat (x.val.val : Int).toNat) then outs else outs ++ [x.val.val] := by
    have e : (natsI outs).any (fun c => subB c.toNat (x.val.val : Int).toNat) = outs.any (fun c => subB c x.val.val) := by
     unfold natsI
     rw [List.any_map]
     rfl
    rw [e]
    unfold crowdStep
    rw [HC.out]
    cases outs.any (fun c => subB c x.val.val) <;> rfl
   cases hany : (natsI outs).any (fun c => subB c.toNat (x.val.val : Int).toNat)
   ·rw [hany] at hst hcf
    simp only [Bool.false_eq_true, if_false, if_true] at hst
    have HSN := Aside0.mk (hsn.trans hst)
    have HCF := Aside0.mk hcf
    clear hst hcf hany hsn hall hnl
    gi_wp2_with (first | (refine ⟨trivial, ?_⟩; gi_at_call 54; refine (CallsIn.inRound l' (callsIn_wide.2 HCR.out)).mono ?_; rintro e W3 ⟨rfl, hO3, hg3⟩; have e2 := (g4.kept hg3 (by simp; omega)).cell; have e3 := (hbx.kept hg3 (by simp; omega)).cell) | (refine ⟨trivial, ?_⟩; gi_at_call 52; refine (CallsIn.inRound l' (callsIn_wide.2 (HCF.out _ hg3))).mono ?_; rintro e W4 ⟨rfl, hb4⟩; have hv4 := ((g4.kept hg3 (by simp; omega)).kept (grown_of_below hb4 none) (by simp)); have e4 := hv4.cell; have hx4 := ((hbx.kept hg3 (by simp; omega)).kept (grown_of_below hb4 none) (by simp)); have e5 := hx4.cell; have hrow4 := own_turn (g5.kept hg3 (own_ne g5 (by omega))) (grown_of_below hb4 none) (by simp)) | (gi_at_builtin; refine wpListIn_append_own _ rfl _ _ 84 rfl n2 93 i0 (.int .u64 0) 1 8 Tryz.underlying84 hi hz0 hz1 hz2 rfl (by decide) _ _ _ rfl (hrow4.alloc _) ⟨W4.heap.size, 0, none⟩ 1 1 [.int .u64 (x.val.val : Int)] rfl rfl (cell_one_new _ _ _) (by simp [Value.oneCell']) (by simp only [maxLen]; omega) (by omega) (by have h1 := hb4.size; have h2 := hg3.size; simp; omega) ?_; intro v' w1 hown' hgrow _; obtain ⟨g', cap', rfl⟩ := ownsRow_succ hown'; obtain ⟨f1, f2, f3, f4, f5, f6, f7, f8, f9⟩ := app_facts hv4 (by decide) hrow4 hown' hgrow; have hc1 := f1.cell; have hf1 := f1.frozen))
    have s3 := hg3.size
    have s4 := hb4.size
    have kv : ∀ j, j < n2 → j ≠ mb → j ≠ w.heap.size + 1 → (w1.setCell ⟨w.heap.size + 1, 0, none⟩ (.slice (some ⟨g', 0, none⟩) (outs.length + 1) cap')).heap[j]? = W.heap[j]? := fun j h1 h2 h3 => (f5 j (by omega) h1 h3).trans ((hb4.block j (by omega)).trans (hg3.block j (by omega) (by simp; exact h2)))
    refine ⟨(KeepsFrom.of_grownBy hg3 (fun j e => by cases e; omega)).trans ((keeps_below hb4).trans (f4.from _)), ⟨kv _ (by omega) (by omega) (by omega), kv _ (by omega) (by omega) (by omega)⟩, (hO3.rm.step (hb4.block mb (by omega))).step (f5 mb (by omega) (by omega) (by omega)), grown_low (grown_below (grown_trans G2.out hg3) hb4) f6 f7 f8 f9 (fun j hj => f5 j (by omega) (by omega) (by omega)), (kv _ (by omega) (by omega) (by omega)).trans g3, by omega, _, f2, ?_⟩
    rw [HSN.out]
    simpa [natsI, encs] using f3
   ·rw [hany] at hst hcf
    simp only [Bool.false_eq_true, if_false, if_true] at hst
    have HSN := Aside0.mk (hsn.trans hst)
    have HCF := Aside0.mk hcf
    clear hst hcf hany hsn hall hnl
    gi_wp2_with (first | (refine ⟨trivial, ?_⟩; gi_at_call 54; refine (CallsIn.inRound l' (callsIn_wide.2 HCR.out)).mono ?_; rintro e W3 ⟨rfl, hO3, hg3⟩; have e2 := (g4.kept hg3 (by simp; omega)).cell; have e3 := (hbx.kept hg3 (by simp; omega)).cell) | (refine ⟨trivial, ?_⟩; gi_at_call 52; refine (CallsIn.inRound l' (callsIn_wide.2 (HCF.out _ hg3))).mono ?_; rintro e W4 ⟨rfl, hb4⟩))
    have s3 := hg3.size
    have s4 := hb4.size
    have kv : ∀ j, j < n2 → j ≠ mb → W4.heap[j]? = W.heap[j]? := fun j h1 h2 => (hb4.block j (by omega)).trans (hg3.block j (by omega) (by simp; exact h2))
    refine ⟨(KeepsFrom.of_grownBy hg3 (fun j e => by cases e; omega)).trans (keeps_below hb4), ⟨kv _ (by omega) (by omega), kv _ (by omega) (by omega)⟩, hO3.rm.step (hb4.block mb (by omega)), grown_below (grown_trans G2.out hg3) hb4, (kv _ (by omega) (by omega)).trans g3, by omega, _, (kv _ (by omega) (by omega)).trans g4, ?_⟩
    rw [HSN.out]
    have := own_turn (g5.kept hg3 (own_ne g5 (by omega))) (grown_of_below hb4 none) (by simp)
    simpa [natsI, encs] using this
 case done =>
  rintro D ys W hD rfl ⟨g1, g2, g3, g6, v, g4, g5⟩ hK
  have e1 := g4.cell
  have HR := Aside0.mk HE.out
  gi_wp2
  refine ⟨by simp, .inl ⟨_, _, rfl, run_takeDeferred hK, ?_⟩⟩
  have k3 := grownBy_putObj' W D (.deferred none)
  have hgr := grown_own g2 k3 (fun x e => by cases e; omega)
  have hr3 := ownsRow_putObj g5 (.deferred none) hK rfl
  refine ⟨_, results_tmp rfl _ _ _, v, rfl, ?_, HO.out.grow hgr (g1.step (k3.block mb (by omega) (by simp; omega))), hgr⟩
  rw [HR.out]
  exact Kd.R_of_own (own_less hr3 (by omega)) (fun _ _ => trivial)
 case stop =>
  rintro D c pre W hD hp h hK
  exact h.elim
end Go.Proofs.YthonlcnmjlldiaaGreat.P
namespace Go.Proofs.YthonlcnmjlldiaaGreat.P
open Go.Shelf Go.RowKit Go.Proofs.YthonlcnmjlldiaaGreatW.PrintWords Go.Proofs.YthonlcnmjlldiaaGreatW.PrintLast Go.Proofs.YthonlcnmjlldiaaGreatW.PrintMore
theorem mono_le {α : Type} {f : Nat → Option α} (h : ∀ k, LeO (f k) (f (k + 1))) {a b : Nat} (hab : a ≤ b) {r : α} (hr : f a = some r) : f b = some r := by
 induction hab with
 | refl => exact hr
 | step _ ih => exact h _ _ ih
theorem rd_cast (l : List Int) (i : Nat) (h : i < l.length) : rd l (i : Int) = l[i] := by simp [rd, h]
theorem lists_loop (l : List Int) (hl : l.length ≤ 1000000) (hb : ∀ x ∈ l, 0 ≤ x ∧ x < 512) : ∀ (d k i : Nat), l.length - i = d → i ≤ l.length → d + 12 < k → plan_lists.l0 k ((l.take i).map bitsL) l (l.length : Int) (i : Int) = some (l.map bitsL) := by
 intro d
 induction d with
 | zero =>
  intro k i h1 h2 h3
  obtain ⟨k, rfl⟩ : ∃ m, k = m + 1 := ⟨k - 1, by omega⟩
  simp only [plan_lists.l0]
  rw [if_neg (by omega), List.take_of_length_le (by omega)]
 | succ d ih =>
  intro k i h1 h2 h3
  obtain ⟨k, rfl⟩ : ∃ m, k = m + 1 := ⟨k - 1, by omega⟩
  simp only [plan_lists.l0]
  have hi : i < l.length := by omega
  have hx := hb l[i] (List.getElem_mem hi)
  have hls : plan_mask_list.f k l[i] = some (bitsL l[i]) := mono_le (fun j => plan_mask_list.mono _ j) (by omega : 12 ≤ k) (list_some hx.1 hx.2)
  rw [if_pos (by omega), if_pos (by omega), if_pos (by omega), rd_cast l i hi, hls]
  simp only [Option.bind_some]
  rw [if_pos (by simp; omega)]
  have hw : wrap64 ((i : Int) + 1) = ((i + 1 : Nat) : Int) := by unfold wrap64; push_cast; omega
  rw [hw]
  have := ih k (i + 1) (by omega) (by omega) (by omega)
  rwa [List.take_add_one, List.getElem?_eq_getElem hi, List.map_append] at this
theorem lists_some (l : List Int) (hl : l.length ≤ 1000000) (hb : ∀ x ∈ l, 0 ≤ x ∧ x < 512) : plan_lists.f (l.length + 13) l = some (l.map bitsL) := by
 have := lists_loop l hl hb l.length (l.length + 13) 0 (by omega) (by omega) (by omega)
 simpa [plan_lists.f] using this
theorem crowdsN_lt {k : List Seat} {l : List Order} (h9 : l.length ≤ 9) {c : Nat} (h : c ∈ crowdsN k l) : c ≤ allN l := by
 have hm := two_lt h9 (allN_lt l)
 have h1 := crowdsOf_sub h
 obtain ⟨x, hx, rfl⟩ := List.mem_map.1 h1
 exact partsF_le hm hx
theorem crowdsN_len {k : List Seat} {l : List Order} (h9 : l.length ≤ 9) : (crowdsN k l).length ≤ 512 := by
 have hm := two_lt h9 (allN_lt l)
 have h1 := crowdsOf_len k l ((partsF (allN l)).map (·.val))
 have h2 := partsF_len' hm
 rw [List.length_map] at h1
 unfold crowdsN
 omega
def crowdsL (k : List Seat) (l : List Order) : List (List Int) := (natsI (crowdsN k l)).map bitsL
theorem crowdsL_some {k : List Seat} {l : List Order} (h9 : l.length ≤ 9) : plan_lists.f (crowdsN k l).length.succ.succ.succ.succ.succ.succ.succ.succ.succ.succ.succ.succ.succ (natsI (crowdsN k l)) = some (crowdsL k l) := by
 have hl : (natsI (crowdsN k l)).length = (crowdsN k l).length := by simp [natsI]
 have := lists_some (natsI (crowdsN k l)) (by have := crowdsN_len (k := k) h9; omega) (fun x hx => by
  obtain ⟨c, hc, rfl⟩ := List.mem_map.1 hx
  have h1 := crowdsN_lt h9 hc
  have h2 := two_lt h9 (allN_lt l)
  exact ⟨by simp, by simp; omega⟩)
 rw [hl] at this
 exact this
end Go.Proofs.YthonlcnmjlldiaaGreat.P
namespace Go.Proofs.YthonlcnmjlldiaaGreat.P
open Go.Shelf Go.RowKit Go.Proofs.YthonlcnmjlldiaaGreatW.PrintWords Go.Proofs.YthonlcnmjlldiaaGreatW.PrintLast Go.Proofs.YthonlcnmjlldiaaGreatW.PrintMore
attribute [local go_sem] Oper.semAt_some max2_int min2_int
theorem room_none (k : Nat) : Fence.wide.room k := fun d h => by cases h
theorem YieldAt.any {m : Nat} (m' : Nat) {P : Program} {l : Nat} {args : Array Value} {W : World} {R : Ending → World → Prop} (h : YieldAt Fence.wide m P l args W R) : YieldAt Fence.wide m' P l args W R := by
 obtain ⟨fn, tmps, assign, body, hy, hR⟩ := h
 exact ⟨fn, tmps, assign, body, hy, hR.1, fun c cs _ => hR.2 c cs (room_none _)⟩
structure KeepUp (B : Nat) (W W' : World) : Prop where
 size : W.heap.size ≤ W'.heap.size
 same : ∀ k, B ≤ k → k < W.heap.size → W'.heap[k]? = W.heap[k]?
theorem KeepUp.refl (B : Nat) (W : World) : KeepUp B W W := ⟨Nat.le_refl _, fun _ _ _ => rfl⟩
theorem KeepUp.trans {B : Nat} {X Y Z : World} (h : KeepUp B X Y) (k : KeepUp B Y Z) : KeepUp B X Z := ⟨Nat.le_trans h.size k.size, fun i h1 h2 => (k.same i h1 (Nat.lt_of_lt_of_le h2 h.size)).trans (h.same i h1 h2)⟩
structure KeepOn (S : Nat → Prop) (W W' : World) : Prop where
 size : W.heap.size ≤ W'.heap.size
 same : ∀ k, S k → k < W.heap.size → W'.heap[k]? = W.heap[k]?
theorem KeepOn.boxed {S : Nat → Prop} {b : Nat} {W W' : World} {t : TypeId} {v : Value} (h : KeepOn S W W') (hv : Boxed W b t v) (hb : S b) : Boxed W' b t v := (h.same b hb hv.lt).trans hv
theorem KeepOn.own {S : Nat → Prop} {n0 : Nat} {W W' : World} {e : TypeId} {size k : Nat} {v : Value} {xs : List Value} (h : KeepOn S W W') (hv : W.ownsRow n0 e size v k xs) (hb : ∀ k, n0 ≤ k → S k) : W'.ownsRow n0 e size v k xs := by
 refine ⟨hv.1, ?_⟩
 rcases hv.2 with hn | ⟨g, cap, cur, rfl, h1, h2, rest⟩
 ·exact .inl hn
 ·exact .inr ⟨g, cap, cur, rfl, h1, (h.same g (hb g h1) (Array.getElem?_eq_some_iff.1 h2).1).trans h2, rest⟩
def Abide0 {β : Type} (B : Nat) (J : β → World → Prop) : Prop := ∀ s A C, J s A → Below B A C → J s C
def waysL : Nat → Nat → Nat → List Nat → List (List Nat)
 | 0, _, _, of => [of]
 | r + 1, most, used, of => (List.range (min (used + 1) most)).flatMap fun f => waysL r most (max used (f + 1)) (of ++ [f])
structure St (l n0 bo bi by_ bm bw items most : Nat) (W : World) (x : List Nat) : Prop where
 o : ∃ v, Boxed W bo 41 v ∧ W.ownsRow n0 3 1 v x.length (encs (Value.int .i64) (natsI x))
 i : Boxed W bi 3 (.int .i64 (items : Int))
 m : Boxed W bm 3 (.int .i64 (most : Int))
 y : Boxed W by_ 163 (.func (.yield l) #[] #[])
 k : Boxed W bw 146 (.func (.func 124) #[] #[.pointer (some ⟨bo, 0, none⟩), .pointer (some ⟨bi, 0, none⟩), .pointer (some ⟨by_, 0, none⟩), .pointer (some ⟨bm, 0, none⟩), .pointer (some ⟨bw, 0, none⟩)])
theorem St.keep {l n0 bo bi by_ bm bw items most : Nat} {W W' : World} {x : List Nat} (h : St l n0 bo bi by_ bm bw items most W x) {S : Nat → Prop} (hk : KeepOn S W W') (h1 : ∀ k, n0 ≤ k → S k) (h2 : n0 ≤ bo) (h3 : S bi) (h4 : n0 ≤ by_) (h5 : S bm) (h6 : n0 ≤ bw) : St l n0 bo bi by_ bm bw items most W' x := by
 obtain ⟨v, hv, ho⟩ := h.o
 exact ⟨⟨v, hk.boxed hv (h1 _ h2), hk.own ho h1⟩, hk.boxed h.i h3, hk.boxed h.m h5, hk.boxed h.y (h1 _ h4), hk.boxed h.k (h1 _ h6)⟩
theorem own_chop {W : World} {base g cap k : Nat} {e : TypeId} {xs : List Value} {y : Value} (hl : xs.length = k) (h : W.ownsRow base e 1 (.slice (some ⟨g, 0, none⟩) (k + 1) cap) (k + 1) (xs ++ [y])) : W.ownsRow base e 1 (.slice (some ⟨g, 0, none⟩) k cap) k xs := by
 refine ⟨by omega, .inr ?_⟩
 rcases h.2 with ⟨h0, _⟩ | ⟨g', cap', cur, h0, h1, h2, h3, h4, h5, h6⟩
 ·cases h0
 ·cases h0
  refine ⟨g, cap, cur, rfl, h1, h2, by omega, h4, h5, ?_⟩
  have : cur.toList.take (k * 1) = (cur.toList.take ((k + 1) * 1)).take (k * 1) := by rw [List.take_take]; congr 1; omega
  rw [this, h6, List.take_left' (by omega)]
end Go.Proofs.YthonlcnmjlldiaaGreat.P
namespace Go.Proofs.YthonlcnmjlldiaaGreat.P
open Go.Shelf Go.RowKit Go.Proofs.YthonlcnmjlldiaaGreatW.PrintWords Go.Proofs.YthonlcnmjlldiaaGreatW.PrintLast Go.Proofs.YthonlcnmjlldiaaGreatW.PrintMore
theorem min2_mn (k k' : IntKind) (x y : Int) : Builtin.min2 (.int k x) (.int k' y) = pure (.int k (mn x y)) := min2_int k k' x y
theorem max2_mx (k k' : IntKind) (x y : Int) : Builtin.max2 (.int k x) (.int k' y) = pure (.int k (mx x y)) := max2_int k k' x y
attribute [local go_sem] Oper.semAt_some max2_mx min2_mn max_two min_two
theorem mn_nat (a b : Nat) : mn ((a : Int) + 1) (b : Int) = ((min (a + 1) b : Nat) : Int) := by
 unfold mn
 split <;> omega
theorem mx_nat (a b : Nat) : mx (a : Int) ((b : Int) + 1) = ((max a (b + 1) : Nat) : Int) := by
 unfold mx
 split <;> omega
theorem info_int : (Tryz.prog.info? 3).map (fun i => (i.zero, i.size, i.bytes)) = some (some (Value.int .i64 0), 1, 8) := by kernel_rfl
theorem flat_pre {pre all : List (List Nat)} {g : Nat → List (List Nat)} {N f : Nat} (h : pre ++ (List.range N).flatMap g <+: all) (hf : f < N) : (pre ++ (List.range f).flatMap g) ++ g f <+: all := by
 refine List.IsPrefix.trans ?_ h
 have e : (List.range N).flatMap g = (List.range (f + 1)).flatMap g ++ ((List.range' (f + 1) (N - (f + 1))).flatMap g) := by
  rw [← List.flatMap_append]
  congr 1
  rw [List.range_eq_range', List.range_eq_range']
  have := List.range'_append_1 (s := 0) (m := f + 1) (n := N - (f + 1))
  rw [Nat.zero_add] at this
  rw [this]
  congr 1
  omega
 rw [e, List.range_succ, List.flatMap_append]
 refine ⟨(List.range' (f + 1) (N - (f + 1))).flatMap g, ?_⟩
 simp [List.append_assoc]
theorem flat_succ (g : Nat → List (List Nat)) (f : Nat) : (List.range (f + 1)).flatMap g = (List.range f).flatMap g ++ g f := by
 rw [List.range_succ, List.flatMap_append]
 simp
theorem St.pushed {l n0 bo bi by_ bm bw items most f : Nat} {W w1 : World} {x : List Nat} {v v' : Value} {tmp : Obj} (hS : St l n0 bo bi by_ bm bw items most W x) (hv : Boxed W bo 41 v) (hrow : W.ownsRow n0 3 1 v x.length (encs (Value.int .i64) (natsI x)))
  (hown' : w1.ownsRow n0 3 1 v' (x.length + 1) (encs (Value.int .i64) (natsI x) ++ [.int .i64 (f : Int)])) (hgrow : (W.alloc tmp).grownBy w1 v.ownBlock) (h1 : n0 ≤ bo) (h2 : bi < n0) (h4 : bm < n0) (e2 : bo ≠ by_) (e4 : bo ≠ bw) (hn : n0 ≤ W.heap.size) :
  St l n0 bo bi by_ bm bw items most (w1.setCell ⟨bo, 0, none⟩ v') (x ++ [f]) ∧ Below n0 W (w1.setCell ⟨bo, 0, none⟩ v') := by
 obtain ⟨a1, a2, a3, a4, a5, a6, a7, a8, a9⟩ := app_facts hv (by decide) hrow hown' hgrow
 have k2 := grownBy_setCell' w1 bo v'
 have hb : Below n0 W (w1.setCell ⟨bo, 0, none⟩ v') := ⟨a7, a8, a9, a6, fun j hj => a5 j (by omega) hj (by omega)⟩
 have keep : ∀ {b : Nat} {t : TypeId} {u : Value}, Boxed W b t u → b ≠ bo → t ≠ 3 → Boxed (w1.setCell ⟨bo, 0, none⟩ v') b t u := fun {b t u} h hne ht => ((h.alloc tmp).kept hgrow (h.not_row ht hrow)).kept k2 (by simp; exact hne)
 refine ⟨⟨⟨v', a2, ?_⟩, (hb.block _ h2).trans hS.i, (hb.block _ h4).trans hS.m, keep hS.y (Ne.symm e2) (by decide), keep hS.k (Ne.symm e4) (by decide)⟩, hb⟩
 have : (x ++ [f]).length = x.length + 1 := by simp
 rw [this]
 simpa [natsI, encs] using a3
theorem St.chopped {l n0 bo bi by_ bm bw items most f g cap : Nat} {W : World} {x : List Nat} (hS : St l n0 bo bi by_ bm bw items most W (x ++ [f])) (hv : Boxed W bo 41 (.slice (some ⟨g, 0, none⟩) (x.length + 1) cap)) (hrow : W.ownsRow n0 3 1 (.slice (some ⟨g, 0, none⟩) (x.length + 1) cap) (x.length + 1) (encs (Value.int .i64) (natsI x) ++ [.int .i64 (f : Int)]))
  (h1 : n0 ≤ bo) (e1 : bo ≠ bi) (e2 : bo ≠ by_) (e3 : bo ≠ bm) (e4 : bo ≠ bw) :
  St l n0 bo bi by_ bm bw items most (W.setCell ⟨bo, 0, none⟩ (.slice (some ⟨g, 0, none⟩) x.length cap)) x ∧ Below n0 W (W.setCell ⟨bo, 0, none⟩ (.slice (some ⟨g, 0, none⟩) x.length cap)) := by
 have k2 := grownBy_setCell' W bo (.slice (some ⟨g, 0, none⟩) x.length cap)
 have hb : Below n0 W (W.setCell ⟨bo, 0, none⟩ (.slice (some ⟨g, 0, none⟩) x.length cap)) := (Below.refl n0 W).setCell (p := ⟨bo, 0, none⟩) h1 _
 have ho := own_chop (by simp [natsI, encs]) hrow
 exact ⟨⟨⟨_, hv.set _, ho.kept k2 (.inr (hv.not_row (by decide) hrow).symm)⟩, hS.i.kept k2 (by simp; exact Ne.symm e1), hS.m.kept k2 (by simp; exact Ne.symm e3), hS.y.kept k2 (by simp; exact Ne.symm e2), hS.k.kept k2 (by simp; exact Ne.symm e4)⟩, hb⟩
theorem St.last {l n0 bo bi by_ bm bw items most f : Nat} {W : World} {x : List Nat} (hS : St l n0 bo bi by_ bm bw items most W (x ++ [f])) : ∃ g cap, Boxed W bo 41 (.slice (some ⟨g, 0, none⟩) (x.length + 1) cap) ∧ W.ownsRow n0 3 1 (.slice (some ⟨g, 0, none⟩) (x.length + 1) cap) (x.length + 1) (encs (Value.int .i64) (natsI x) ++ [.int .i64 (f : Int)]) ∧ x.length + 1 ≤ cap := by
 obtain ⟨v, hv, ho⟩ := hS.o
 have h1 : (x ++ [f]).length = x.length + 1 := by simp
 have h2 : encs (Value.int .i64) (natsI (x ++ [f])) = encs (Value.int .i64) (natsI x) ++ [.int .i64 (f : Int)] := by simp [natsI, encs]
 rw [h1, h2] at ho
 obtain ⟨g, cap, rfl⟩ := ownsRow_succ ho
 obtain ⟨A, c, e, hc⟩ := own_slice ho
 injection e with _ _ e3
 exact ⟨g, cap, hv, ho, by omega⟩
set_option maxRecDepth 100000 in
set_option maxHeartbeats 4000000 in
theorem ways_step {l n0 bo bi by_ bm bw items most : Nat} {S : Nat → Prop} (hB : ∀ k, n0 ≤ k → S k) (h1 : n0 ≤ bo) (h2 : S bi) (h2' : bi < n0) (h3 : n0 ≤ by_) (h4 : S bm) (h4' : bm < n0) (h5 : n0 ≤ bw) (e1 : bo ≠ bi) (e2 : bo ≠ by_) (e3 : bo ≠ bm) (e4 : bo ≠ bw) (hit : items ≤ 9) (hmo : most ≤ 9)
  {J Jx : List (List Nat) → World → Prop} (hJ : Abide0 n0 J) (hJx : ∀ s A C, Jx s A → A.grownBy C (some bo) → Jx s C) {all : List (List Nat)}
  (hY : ∀ (m : Nat) (pre : List (List Nat)) (x : List Nat) (W : World) (v : Value), J pre W → pre ++ [x] <+: all → (∃ A c, v = .slice A items c ∧ items ≤ c ∧ x.length = items ∧ Kd.C (Kd.int .i64) W A (natsI x).length (natsI x)) → bo < W.heap.size →
   YieldAt Fence.wide m Tryz.prog l #[v] W fun e W' => ((e = .returned (.bool true) ∧ J (pre ++ [x]) W') ∨ (e = .returned (.bool false) ∧ Jx (pre ++ [x]) W')) ∧ KeepOn S W W') :
  ∀ (r n used : Nat) (x : List Nat) (pre : List (List Nat)) (W : World), x.length + r = items → used ≤ x.length → St l n0 bo bi by_ bm bw items most W x → n0 ≤ W.heap.size → J pre W → pre ++ waysL r most used x <+: all →
  CallsIn Fence.wide n Tryz.prog 124 #[.int .i64 (used : Int), .pointer (some ⟨bo, 0, none⟩), .pointer (some ⟨bi, 0, none⟩), .pointer (some ⟨by_, 0, none⟩), .pointer (some ⟨bm, 0, none⟩), .pointer (some ⟨bw, 0, none⟩)] W fun e W' =>
   St l n0 bo bi by_ bm bw items most W' x ∧ n0 ≤ W'.heap.size ∧ ((e = .returned (.bool true) ∧ J (pre ++ waysL r most used x) W') ∨ (e = .returned (.bool false) ∧ ∃ q, q <+: all ∧ Jx q W')) := by
 intro r
 obtain ⟨i0, hi, hz0, hz1, hz2⟩ := info_parts info_int
 induction r with
 | zero =>
  intro n used x pre W hx hu hS hn hj hpre
  obtain ⟨v, hv, ho⟩ := hS.o
  obtain ⟨A, c, rfl, hc⟩ := own_slice ho
  have hnl : (natsI x).length = x.length := by simp [natsI]
  have hC := own_C (h1 := fun _ => rfl) hnl.symm ho
  have hY1 := hY (n - 1) pre x W (.slice A x.length c) hj hpre ⟨A, c, by rw [show x.length = items by omega], by omega, by omega, hC⟩ hv.lt
  have HS := Aside0.mk hS
  have c1 := hv.cell
  have c2 := hS.i.cell
  have c3 := hS.y.cell
  have hxi : x.length = items := by omega
  rw [hxi] at c1 hY1
  have HX := Aside0.mk hxi
  clear hY hC hc ho hj hnl hxi hx
  obtain ⟨fn, tmps, assign, body, hy, hR⟩ := hY1
  refine callsIn_of_wp Tryz.func124 rfl trivial ?_ rfl
  simp only [Tryz.ntmps124, List.size_toArray, List.length_cons, List.length_nil, Nat.reduceAdd, Nat.reduceSub, Array.replicate_succ, Array.replicate_zero, List.push_toArray, List.append_toArray, List.nil_append, List.cons_append]
  gi_wp2
  refine ⟨fun h => (by cases h), hR.mono ?_⟩
  rintro e W' ⟨(⟨rfl, hj'⟩ | ⟨rfl, hj'⟩), hk⟩
  ·gi_wp2
   go_ret
   exact ⟨HS.out.keep hk hB h1 h2 h3 h4 h5, Nat.le_trans hn hk.size, .inl ⟨rfl, hj'⟩⟩
  ·gi_wp2
   go_ret
   exact ⟨HS.out.keep hk hB h1 h2 h3 h4 h5, Nat.le_trans hn hk.size, .inr ⟨rfl, _, hpre, hj'⟩⟩
 | succ r ih =>
  intro n used x pre W hx hu hS hn hj hpre
  obtain ⟨v, hv, ho⟩ := hS.o
  obtain ⟨A, c, rfl, hc⟩ := own_slice ho
  have c1 := hv.cell
  have c2 := hS.i.cell
  have c3 := hS.m.cell
  have hxi : (x.length == items) = false := by simp; omega
  have hxi2 : ((x.length : Int) == (items : Int)) = false := by simp; omega
  have hmn := mn_nat used most
  obtain ⟨N, hN⟩ : ∃ N, N = min (used + 1) most := ⟨_, rfl⟩
  rw [← hN] at hmn
  obtain ⟨gg, hgg⟩ : ∃ gg : Nat → List (List Nat), gg = fun f => waysL r most (max used (f + 1)) (x ++ [f]) := ⟨_, rfl⟩
  have hw : waysL (r + 1) most used x = (List.range N).flatMap gg := by rw [hgg, hN]; rfl
  rw [hw] at hpre ⊢
  have HS := Aside0.mk hS
  have HPRE := Aside0.mk hpre
  have HGG := Aside0.mk hgg
  have HIH := Aside0.mk ih
  have HN := Aside0.mk hN
  clear hY ih hc hv ho hS hw hpre hgg hN
  refine callsIn_of_wp Tryz.func124 rfl trivial ?_ rfl
  simp only [Tryz.ntmps124, List.size_toArray, List.length_cons, List.length_nil, Nat.reduceAdd, Nat.reduceSub, Array.replicate_succ, Array.replicate_zero, List.push_toArray, List.append_toArray, List.nil_append, List.cons_append]
  gi_wp2
  gi_loopw [21] (fun i wr => ∃ f : Nat, f ≤ N ∧ i = .int .i64 (f : Int) ∧ J (pre ++ (List.range f).flatMap gg) wr ∧ Aside0 (St l n0 bo bi by_ bm bw items most wr x) ∧ n0 ≤ wr.heap.size) (fun i _ => N - (intOf i).toNat)
  case atStart => exact ⟨0, Nat.zero_le _, rfl, by simpa using hj, HS, hn⟩
  case round =>
   clear hj hn c1 c2 c3 HS
   obtain ⟨f, hf, rfl, hjs, HS, hn⟩ := hrel
   obtain ⟨v, hv, ho⟩ := HS.out.o
   obtain ⟨A, c, rfl, hc⟩ := own_slice ho
   by_cases hlt : f < N
   ·have hd1 : decide ((f : Int) < (N : Int)) = true := by simp; omega
    have hd2 : decide (f < N) = true := by simp; omega
    have hmx := mx_nat used f
    have hf9 : f < 9 := by have := HN.out; omega
    have c1 := hv.cell
    have hwx : (wr.alloc (.cells #[.int .i64 (f : Int)] 3)).heap.size = wr.heap.size + 1 := by simp
    gi_wp2_with (gi_at_builtin; refine wpListIn_append_own _ rfl _ _ 41 rfl n0 3 i0 (.int .i64 0) 1 8 Tryz.underlying41 hi hz0 hz1 hz2 rfl (by decide) _ _ _ rfl (ho.alloc _) ⟨wr.heap.size, 0, none⟩ 1 1 [.int .i64 (f : Int)] rfl rfl (cell_one_new _ _ _) (by simp [Value.oneCell']) (by simp only [maxLen]; omega) (by omega) (by omega) ?_; intro v' w1 hown' hgrow _; obtain ⟨g', cap', rfl⟩ := ownsRow_succ hown'; obtain ⟨a1, a2, _⟩ := app_facts hv (by decide) ho hown' hgrow; have hc1 := a1.cell; have hf1 := a1.frozen; obtain ⟨hS2, hB2⟩ := St.pushed HS.out hv ho hown' hgrow h1 h2' h4' e2 e4 hn; have HS2 := Aside0.mk hS2; have HB2 := Aside0.mk hB2; have c5 := hS2.k.cell; clear hS2 hB2 hown' hgrow a1 a2)
    have hpre2 := flat_pre HPRE.out hlt
    have eg : gg f = waysL r most (max used (f + 1)) (x ++ [f]) := by rw [HGG.out]
    refine ⟨trivial, fun h => (by cases h), (HIH.out (n - 1) (max used (f + 1)) (x ++ [f]) (pre ++ (List.range f).flatMap gg) _ (by simp; omega) (by have := HN.out; simp; omega) HS2.out (Nat.le_trans hn HB2.out.size) (hJ _ _ _ hjs HB2.out) (by rw [← eg]; exact hpre2)).mono ?_⟩
    rw [← eg]
    rintro e W5 ⟨hS5, hn5, (⟨rfl, hj5⟩ | ⟨rfl, q, hq, hx5⟩)⟩
    ·obtain ⟨g5, cap5, hv5, ho5, hcap5⟩ := hS5.last
     have d1 := hv5.cell
     have d2 := hv5.frozen
     obtain ⟨hS6, hB6⟩ := St.chopped hS5 hv5 ho5 h1 e1 e2 e3 e4
     have HS6 := Aside0.mk hS6
     have HB6 := Aside0.mk hB6
     clear hS6 hB6 hS5 ho5 hv5 eg hpre2 hmx
     gi_wp2
     go_roundw
     case rel => exact ⟨f + 1, by omega, by simp, by rw [flat_succ, ← List.append_assoc]; exact hJ _ _ _ hj5 HB6.out, HS6, Nat.le_trans hn5 HB6.out.size⟩
     case measure => simp [intOf]; omega
    ·obtain ⟨g5, cap5, hv5, ho5, hcap5⟩ := hS5.last
     have d1 := hv5.cell
     have d2 := hv5.frozen
     obtain ⟨hS6, hB6⟩ := St.chopped hS5 hv5 ho5 h1 e1 e2 e3 e4
     have HS6 := Aside0.mk hS6
     have HB6 := Aside0.mk hB6
     clear hS6 hB6 hS5 ho5 hv5 eg hpre2 hmx
     gi_wp2
     go_ret
     exact ⟨HS6.out, Nat.le_trans hn5 HB6.out.size, .inr ⟨rfl, q, hq, hJx _ _ _ hx5 (grownBy_setCell' _ _ _)⟩⟩
   ·obtain rfl : f = N := by omega
    have hd1 : decide ((f : Int) < (f : Int)) = false := by simp
    gi_wp2
    go_ret
    exact ⟨HS.out, hn, .inl ⟨rfl, hjs⟩⟩
end Go.Proofs.YthonlcnmjlldiaaGreat.P
namespace Go.Proofs.YthonlcnmjlldiaaGreat.P
open Go.Shelf Go.RowKit Go.Proofs.YthonlcnmjlldiaaGreatW.PrintWords Go.Proofs.YthonlcnmjlldiaaGreatW.PrintLast Go.Proofs.YthonlcnmjlldiaaGreatW.PrintMore
attribute [local go_sem] Oper.semAt_some max2_mx min2_mn max_two min_two
def WayRound (l bo : Nat) (S : Nat → Prop) (items : Nat) (all : List (List Nat)) (J Jx : List (List Nat) → World → Prop) : Prop :=
 ∀ (m : Nat) (pre : List (List Nat)) (x : List Nat) (W : World) (v : Value), J pre W → pre ++ [x] <+: all → (∃ A c, v = .slice A items c ∧ items ≤ c ∧ x.length = items ∧ Kd.C (Kd.int .i64) W A (natsI x).length (natsI x)) → bo < W.heap.size →
  YieldAt Fence.wide m Tryz.prog l #[v] W fun e W' => ((e = .returned (.bool true) ∧ J (pre ++ [x]) W') ∨ (e = .returned (.bool false) ∧ Jx (pre ++ [x]) W')) ∧ KeepOn S W W'
set_option maxRecDepth 100000 in
set_option maxHeartbeats 4000000 in
theorem ways1_in {l bi bm items most : Nat} {S : Nat → Prop} (hit : items ≤ 9) (hmo : most ≤ 9) {W : World} (hSn : ∀ k, W.heap.size ≤ k → S k) (hBi : S bi) (hBm : S bm) (bxi : Boxed W bi 3 (.int .i64 (items : Int))) (bxm : Boxed W bm 3 (.int .i64 (most : Int)))
  {J Jx : List (List Nat) → World → Prop} (hJ : Abide0 W.heap.size J) (hJx : ∀ s A C, Jx s A → A.grownBy C (some (W.heap.size + 1 + 1)) → Jx s C) (hY : WayRound l (W.heap.size + 1 + 1) S items (waysL items most 0 []) J Jx) (h0 : J [] W) (n : Nat) :
  CallsIn Fence.wide n Tryz.prog 123 #[.func (.yield l) #[] #[], .pointer (some ⟨bi, 0, none⟩), .pointer (some ⟨bm, 0, none⟩)] W fun e W' => (∃ v, e = .returned v) ∧ (J (waysL items most 0 []) W' ∨ ∃ q, q <+: waysL items most 0 [] ∧ Jx q W') := by
 have hli := bxi.lt
 have hlm := bxm.lt
 have hwk := fun n' W' hS hn hj => ways_step (l := l) (n0 := W.heap.size) (S := S) (bo := W.heap.size + 1 + 1) (bi := bi) (by_ := W.heap.size) (bm := bm) (bw := W.heap.size + 1 + 1 + 1) hSn (by omega) hBi hli (by omega) hBm hlm (by omega) (by omega) (by omega) (by omega) (by omega) hit hmo hJ hJx hY items n' 0 [] [] W' (by simp) (by simp) hS hn hj (by simp)
 have HW := Aside0.mk hwk
 have HJ := Aside0.mk (fun s A C (h : J s A) hb => hJ s A C h hb)
 have H0 := Aside0.mk h0
 have BI := Aside0.mk bxi
 have BM := Aside0.mk bxm
 have ci := bxi.cell
 obtain ⟨i0, hi, hz0, hz1, hz2⟩ := info_parts info_int
 obtain ⟨cur, hcur, hms⟩ : ∃ cur : Array Value, cur.size = items ∧ ∀ V : World, (Instr.makeSlice 41 (.int .i64 0) (.int .i64 (items : Int))).run Tryz.prog V = .ok (.slice (some ⟨V.heap.size, 0, none⟩) 0 items) (V.alloc (.cells cur 3)) := by
  refine ⟨_, ?_, fun V => by have := run_makeSlice (P := Tryz.prog) (w := V) 41 3 i0 (.int .i64 0) Tryz.underlying41 hi hz0 .i64 .i64 0 (items : Int) (by omega) (by omega) (by rw [hz1]; simp; omega) (by rw [hz2]; omega) (by omega); simpa [hz1] using this⟩
  simp [madeCells]
 have HCU := Aside0.mk hcur
 clear hcur hz0 hz1 hz2 hi
 clear hwk hY hJ hJx h0 bxi bxm
 refine callsIn_of_wp Tryz.func123 rfl trivial ?_ rfl
 simp only [Tryz.ntmps123, List.size_toArray, List.length_cons, List.length_nil, Nat.reduceAdd, Nat.reduceSub, Array.replicate_succ, Array.replicate_zero, List.push_toArray, List.append_toArray, List.nil_append, List.cons_append]
 gi_wp2
 obtain ⟨W4, hW4⟩ : ∃ W4, ((((W.alloc (.cells #[.func (.yield l) #[] #[]] 163)).alloc (.cells cur 3)).alloc (.cells #[.slice (some ⟨W.heap.size + 1, 0, none⟩) 0 items] 41)).alloc (.cells #[.nilFunc] 146)) = W4 := ⟨_, rfl⟩
 rw [hW4]
 have b1 : Boxed W4 W.heap.size 163 (.func (.yield l) #[] #[]) := by rw [← hW4]; exact (((Boxed.new W _ _).alloc _).alloc _).alloc _
 have b2 : W4.heap[W.heap.size + 1]? = some (.cells cur 3 (0, 0)) := by
  rw [← hW4]
  have h := heap_alloc_new (W.alloc (.cells #[.func (.yield l) #[] #[]] 163)) (.cells cur 3)
  rw [World.size_alloc] at h
  exact (heap_alloc_old _ _ (by simp)).trans ((heap_alloc_old _ _ (by simp)).trans h)
 have b3 : Boxed W4 (W.heap.size + 1 + 1) 41 (.slice (some ⟨W.heap.size + 1, 0, none⟩) 0 items) := by
  rw [← hW4]
  have h := (Boxed.new ((W.alloc (.cells #[.func (.yield l) #[] #[]] 163)).alloc (.cells cur 3)) 41 (.slice (some ⟨W.heap.size + 1, 0, none⟩) 0 items)).alloc (.cells #[.nilFunc] 146)
  rwa [World.size_alloc, World.size_alloc] at h
 have b4 : Boxed W4 (W.heap.size + 1 + 1 + 1) 146 .nilFunc := by
  rw [← hW4]
  have h := Boxed.new (((W.alloc (.cells #[.func (.yield l) #[] #[]] 163)).alloc (.cells cur 3)).alloc (.cells #[.slice (some ⟨W.heap.size + 1, 0, none⟩) 0 items] 41)) 146 .nilFunc
  rwa [World.size_alloc, World.size_alloc, World.size_alloc] at h
 have hb : Below W.heap.size W W4 := by rw [← hW4]; exact below_alloc (below_alloc (below_alloc (below_alloc (Below.refl _ _) _) _) _) _
 have hsz : W4.heap.size = W.heap.size + 1 + 1 + 1 + 1 := by rw [← hW4]; simp
 clear hW4
 have d1 := b4.cell
 have d2 := b4.frozen
 have k2 := grownBy_setCell' W4 (W.heap.size + 1 + 1 + 1) (.func (.func 124) #[] #[.pointer (some ⟨W.heap.size + 1 + 1, 0, none⟩), .pointer (some ⟨bi, 0, none⟩), .pointer (some ⟨W.heap.size, 0, none⟩), .pointer (some ⟨bm, 0, none⟩), .pointer (some ⟨W.heap.size + 1 + 1 + 1, 0, none⟩)])
 have hb5 : Below W.heap.size W (W4.setCell ⟨W.heap.size + 1 + 1 + 1, 0, none⟩ (.func (.func 124) #[] #[.pointer (some ⟨W.heap.size + 1 + 1, 0, none⟩), .pointer (some ⟨bi, 0, none⟩), .pointer (some ⟨W.heap.size, 0, none⟩), .pointer (some ⟨bm, 0, none⟩), .pointer (some ⟨W.heap.size + 1 + 1 + 1, 0, none⟩)])) := hb.setCell (p := ⟨W.heap.size + 1 + 1 + 1, 0, none⟩) (by simp; omega) _
 have hS : St l W.heap.size (W.heap.size + 1 + 1) bi W.heap.size bm (W.heap.size + 1 + 1 + 1) items most (W4.setCell ⟨W.heap.size + 1 + 1 + 1, 0, none⟩ (.func (.func 124) #[] #[.pointer (some ⟨W.heap.size + 1 + 1, 0, none⟩), .pointer (some ⟨bi, 0, none⟩), .pointer (some ⟨W.heap.size, 0, none⟩), .pointer (some ⟨bm, 0, none⟩), .pointer (some ⟨W.heap.size + 1 + 1 + 1, 0, none⟩)])) [] := by
  refine ⟨⟨_, b3.kept k2 (by simp), ?_⟩, (hb5.block _ hli).trans BI.out, (hb5.block _ hlm).trans BM.out, b1.kept k2 (by simp; omega), b4.set _⟩
  refine World.ownsRow.kept (w := W4) ⟨by simp [natsI, encs], .inr ⟨W.heap.size + 1, items, cur, rfl, by omega, b2, by simp, by simp only [maxLen]; omega, by rw [HCU.out]; simp, by simp [natsI, encs]⟩⟩ k2 (.inr (by simp [Value.ownBlock]))
 have HS := Aside0.mk hS
 have HB5 := Aside0.mk hb5
 have c5 := hS.k.cell
 have hst : Sem.run Tryz.prog (store ⟨W.heap.size + 1 + 1 + 1, 0, none⟩ (.func (.func 124) #[] #[.pointer (some ⟨W.heap.size + 1 + 1, 0, none⟩), .pointer (some ⟨bi, 0, none⟩), .pointer (some ⟨W.heap.size, 0, none⟩), .pointer (some ⟨bm, 0, none⟩), .pointer (some ⟨W.heap.size + 1 + 1 + 1, 0, none⟩)])) W4 = .ok () (W4.setCell ⟨W.heap.size + 1 + 1 + 1, 0, none⟩ (.func (.func 124) #[] #[.pointer (some ⟨W.heap.size + 1 + 1, 0, none⟩), .pointer (some ⟨bi, 0, none⟩), .pointer (some ⟨W.heap.size, 0, none⟩), .pointer (some ⟨bm, 0, none⟩), .pointer (some ⟨W.heap.size + 1 + 1 + 1, 0, none⟩)])) := by simp [store, Sem.run, d1, d2]
 rw [hst]
 clear hb5 hS k2 b1 b2 b3 b4 hb hms hst
 gi_wp2
 refine ⟨trivial, fun h => (by cases h), (HW.out (n - 1) _ HS.out HB5.out.size (HJ.out _ _ _ H0.out HB5.out)).mono ?_⟩
 rintro e W6 ⟨hS6, hn6, (⟨rfl, hj⟩ | ⟨rfl, q, hq, hx⟩)⟩
 ·gi_wp2
  go_end0
  exact ⟨⟨_, rfl⟩, .inl hj⟩
 ·gi_wp2
  go_end0
  exact ⟨⟨_, rfl⟩, .inr ⟨q, hq, hx⟩⟩
set_option maxHeartbeats 1000000 in
theorem ways_b (items most : Nat) (w : World) :
  Calls Tryz.prog 90 #[.int .i64 (items : Int), .int .i64 (most : Int)] w fun e w' => e = .returned (.func (.func 123) #[] #[.pointer (some ⟨w.heap.size, 0, none⟩), .pointer (some ⟨w.heap.size + 1, 0, none⟩)]) ∧ w' = (w.alloc (.cells #[.int .i64 (items : Int)] 3)).alloc (.cells #[.int .i64 (most : Int)] 3) := by
 go_enter Tryz.func90, Tryz.ntmps90
 go_wp2
 go_ret
 exact ⟨rfl, rfl⟩
def wayPost (B0 : Nat) (I : List (List Nat) → World → Prop) (Ix : Code → List (List Nat) → World → Prop) (xs : List (List Nat)) (W : World) : Exit → Act → World → Prop
 | .normal, _, W' => KeepUp B0 W W' ∧ I xs W'
 | .ret, _, W' => KeepUp B0 W W' ∧ Ix .ret xs W'
 | .exit id, _, W' => KeepUp B0 W W' ∧ Ix (.exit id) xs W'
 | .goto t, _, W' => KeepUp B0 W W' ∧ Ix (.goto t) xs W'
 | .panic _, _, _ => False
 | .outgrown, _, _ => False
theorem Abide0.putObj {β : Type} {B : Nat} {J : β → World → Prop} (h : Abide0 B J) {s : β} {W : World} {l : Nat} (o : Obj) (hs : J s W) (hB : B ≤ l) : J s (W.putObj l o) :=
 h s _ _ hs ⟨rfl, rfl, rfl, by simp, fun k hk => World.putObj_heap_other (by omega)⟩
theorem wpIn_ways {n : Nat} {g : Operand} {ps : Array Tmp} {assign body : Code} {Q : Exit → Act → World → Prop} {a : Act} {w : World} {B0 items most : Nat} (hit : items ≤ 9) (hmo : most ≤ 9)
  (hg : a.eval g = .func (.func 123) #[] #[.pointer (some ⟨B0, 0, none⟩), .pointer (some ⟨B0 + 1, 0, none⟩)]) (bxi : Boxed w B0 3 (.int .i64 (items : Int))) (bxm : Boxed w (B0 + 1) 3 (.int .i64 (most : Int))) (hps : ps.size = 1)
  (I : List (List Nat) → World → Prop) (Ix : Code → List (List Nat) → World → Prop) (hI : Abide0 B0 I) (hIx : ∀ c s A C b, Ix c s A → A.grownBy C (some b) → B0 ≤ b → b < w.heap.size + 5 → Ix c s C) (h0 : I [] w) (a₁ : Value → Act)
  (hassign : ∀ (l : Nat) (v : Value) (W : World) (K : Act → World → Prop), K (a₁ v) W →
   assign.wpIn (Fence.wide.inRound l) n Tryz.prog (Exit.then K (fun _ _ _ => False)) { tmps := (ps.zip #[v]).foldl (fun t (p, v) => t.setIfInBounds p v) a.tmps, defers := [] } W)
  (hbody : ∀ (l : Nat) (pre : List (List Nat)) (x : List Nat) (A : Option Addr) (c : Nat) (W : World), I pre W → pre ++ [x] <+: waysL items most 0 [] → x.length = items → items ≤ c → Kd.C (Kd.int .i64) W A (natsI x).length (natsI x) → w.heap.size + 5 ≤ W.heap.size → body.wpIn (Fence.wide.inRound l) n Tryz.prog (wayPost B0 I Ix (pre ++ [x]) W) (a₁ (.slice A items c)) W)
  (hdone : ∀ (D : Nat) (W : World), B0 ≤ D → I (waysL items most 0 []) W → W.heap[D]? = some (.deferred (some [])) → Q .normal { a with defers := { target := .collected D, args := #[] } :: a.defers } W)
  (hstop : ∀ (D : Nat) (c : Code) (pre : List (List Nat)) (W : World), B0 ≤ D → pre <+: waysL items most 0 [] → Ix c pre W → W.heap[D]? = some (.deferred (some [])) → c.wpIn Fence.wide n Tryz.prog Q { a with defers := { target := .collected D, args := #[] } :: a.defers } W) :
  (Code.rangeFunc g ps assign body).wpIn Fence.wide n Tryz.prog Q a w := by
 refine wpIn_rangeFunc ?_
 intro fn hfn
 have hB0 : B0 + 1 < w.heap.size := bxm.lt
 obtain ⟨rec, hrec⟩ : ∃ rec : LoopState → Option Code → Loop, rec = fun st pe => { state := st, pending := pe, fn, tmps := a.tmps, params := ps, assign, body, defers := w.heap.size } := ⟨_, rfl⟩
 obtain ⟨W1, hW1⟩ : ∃ W1, (w.alloc (.deferred (some []))).alloc (.loop (rec .ready none)) = W1 := ⟨_, rfl⟩
 have hL1 : W1.heap[w.heap.size + 1]? = some (.loop (rec .ready none)) := by
  rw [← hW1]; have := World.alloc_heap_new (w.alloc (.deferred (some []))) (.loop (rec .ready none)); rwa [World.size_alloc] at this
 have hK1 : W1.heap[w.heap.size]? = some (.deferred (some [])) := by
  rw [← hW1]; exact (Below.heap_alloc _ _ _ (by simp)).trans (World.alloc_heap_new w _)
 have hb1 : Below w.heap.size w W1 := by rw [← hW1]; exact below_alloc (below_alloc (Below.refl _ _) _) _
 have hs1 : W1.heap.size = w.heap.size + 1 + 1 := by rw [← hW1]; simp
 have bi1 : Boxed W1 B0 3 (.int .i64 (items : Int)) := (hb1.block _ bxi.lt).trans bxi
 have bm1 : Boxed W1 (B0 + 1) 3 (.int .i64 (most : Int)) := (hb1.block _ bxm.lt).trans bxm
 have hI1 : I [] W1 := hI _ _ _ h0 (hb1.mono (by omega))
 have e123 : ∀ args w, (callFunc 123 args).run Tryz.prog w = .ok (.enter 123 args) w := enters_of Tryz.func123 (by kernel_rfl) rfl
 refine ⟨w.heap.size + 1, [{ target := .collected w.heap.size, args := #[] }], W1, { target := .fn (.func 123) #[.pointer (some ⟨B0, 0, none⟩), .pointer (some ⟨B0 + 1, 0, none⟩)], args := #[.func (.yield (w.heap.size + 1)) #[] #[]] }, W1, 123,
  #[.func (.yield (w.heap.size + 1)) #[] #[]] ++ #[.pointer (some ⟨B0, 0, none⟩), .pointer (some ⟨B0 + 1, 0, none⟩)], W1, ?_, ?_, ?_, ?_, fun h => (by cases h), ?_⟩
 ·rw [← hW1, hrec]; exact run_enterLoop_outer _ _ _ _ _
 ·simp only [resolve, hg]
  simp [go_sem]
 ·intro f' hf'; trivial
 ·simp [invoke, go_sem, e123]
 ·refine (ways1_in (l := w.heap.size + 1) (S := fun k => k = B0 ∨ k = B0 + 1 ∨ W1.heap.size ≤ k) hit hmo (fun k h => .inr (.inr h)) (.inl rfl) (.inr (.inl rfl)) bi1 bm1
   (J := fun pre W => I pre W ∧ W.heap[w.heap.size + 1]? = some (.loop (rec .ready none)) ∧ W.heap[w.heap.size]? = some (.deferred (some [])))
   (Jx := fun pre W => ∃ c, Ix c pre W ∧ W.heap[w.heap.size + 1]? = some (.loop (rec .done (some c))) ∧ W.heap[w.heap.size]? = some (.deferred (some [])))
   (fun s A C h hb => ⟨hI _ _ _ h.1 (hb.mono (by omega)), (hb.block _ (by omega)).trans h.2.1, (hb.block _ (by omega)).trans h.2.2⟩)
   (fun s A C h hb => by
    obtain ⟨c, hc, hl, hk⟩ := h
    exact ⟨c, hIx c _ _ _ _ hc hb (by omega) (by omega), (hb.block _ (Array.getElem?_eq_some_iff.1 hl).1 (by simp; omega)).trans hl, (hb.block _ (Array.getElem?_eq_some_iff.1 hk).1 (by simp; omega)).trans hk⟩)
   ?_ ⟨hI1, hL1, hK1⟩ (n - 1)).mono ?_
  ·rintro m pre x W v ⟨hi, hl, hk⟩ hpre ⟨A, c, rfl, hc, hx, hC⟩ hbo
   refine YieldAt.any (m := n) m ?_
   have hlt : w.heap.size + 1 < W.heap.size := (Array.getElem?_eq_some_iff.1 hl).1
   have hy := run_yield (P := Tryz.prog) (args := #[.slice A items c]) hl (by rw [hrec]; simp [hps])
   rw [hrec] at hy
   refine ⟨fn, _, assign, body, hy, roundIn_of_wpIn hfn (hassign _ _ W _ ?_)⟩
   clear hy
   refine ⟨_, run_beginRound hl (by rw [hrec]), ?_⟩
   obtain ⟨ob, hob⟩ : ∃ ob : Obj, ob = .loop { rec .ready none with state := .busy } := ⟨_, rfl⟩
   have hl2 : (W.putObj (w.heap.size + 1) (.loop { rec .ready none with state := .busy })).heap[w.heap.size + 1]? = some (.loop { rec .ready none with state := .busy }) := World.putObj_heap_same hlt
   have hk2 : (W.putObj (w.heap.size + 1) (.loop { rec .ready none with state := .busy })).heap[w.heap.size]? = some (.deferred (some [])) := (World.putObj_heap_other (by omega)).trans hk
   have hC2 : Kd.C (Kd.int .i64) (W.putObj (w.heap.size + 1) (.loop { rec .ready none with state := .busy })) A (natsI x).length (natsI x) := by
    refine ⟨hC.1, hC.2.1, fun hn => ?_⟩
    obtain ⟨ad, e, h⟩ := hC.2.2 hn
    refine ⟨ad, e, fun j p hp => ?_⟩
    obtain ⟨cs, h1, h2, h3⟩ := h j p hp
    exact ⟨cs, h1, h2, fun i u hu => cell_kept (h3 i u hu) (grownBy_putObj' W _ _) (fun r e => by cases e; exact ⟨_, hl, rfl⟩)⟩
   refine wpIn_mono (hbody _ pre x A c _ (hI.putObj _ hi (by omega)) hpre hx hc hC2 (by simp; omega)) ?_
   have fin : ∀ (jump : Option Code) (W3 : World), KeepUp B0 (W.putObj (w.heap.size + 1) (.loop { rec .ready none with state := .busy })) W3 →
     (Instr.endRound (w.heap.size + 1) jump).run Tryz.prog W3 = .ok (.bool jump.isNone) (W3.putObj (w.heap.size + 1) (.loop (rec (if jump.isNone then .ready else .done) jump))) ∧
     (W3.putObj (w.heap.size + 1) (.loop (rec (if jump.isNone then .ready else .done) jump))).heap[w.heap.size + 1]? = some (.loop (rec (if jump.isNone then .ready else .done) jump)) ∧
     (W3.putObj (w.heap.size + 1) (.loop (rec (if jump.isNone then .ready else .done) jump))).heap[w.heap.size]? = some (.deferred (some [])) := fun jump W3 hk3 => by
    have hl3 := (hk3.same (w.heap.size + 1) (by omega) (by simpa using hlt)).trans hl2
    have hd3 := (hk3.same w.heap.size (by omega) (by simp; omega)).trans hk2
    have := run_endRound (P := Tryz.prog) jump hl3
    rw [hrec] at this ⊢
    exact ⟨this, World.putObj_heap_same (Array.getElem?_eq_some_iff.1 hl3).1, (World.putObj_heap_other (by omega)).trans hd3⟩
   have keep : ∀ (o' : Obj) (W3 : World), KeepUp B0 (W.putObj (w.heap.size + 1) (.loop { rec .ready none with state := .busy })) W3 → KeepOn (fun k => k = B0 ∨ k = B0 + 1 ∨ W1.heap.size ≤ k) W (W3.putObj (w.heap.size + 1) o') := fun o' W3 hk3 =>
    ⟨by have := hk3.size; simpa using this, fun k hk h => (World.putObj_heap_other (by omega)).trans ((hk3.same k (by omega) (by simpa using h)).trans (World.putObj_heap_other (by omega)))⟩
   rintro e a3 W3 hp
   cases e with
   | normal =>
    obtain ⟨hk3, hi3⟩ := hp
    obtain ⟨hr, hl4, hk4⟩ := fin none W3 hk3
    exact ⟨_, _, hr, .inl ⟨rfl, hI.putObj _ hi3 (by omega), hl4, hk4⟩, keep _ _ hk3⟩
   | ret =>
    obtain ⟨hk3, hi3⟩ := hp
    obtain ⟨hr, hl4, hk4⟩ := fin (some .ret) W3 hk3
    exact ⟨_, _, hr, .inr ⟨rfl, .ret, hIx _ _ _ _ _ hi3 (grownBy_putObj' _ _ _) (by omega) (by omega), hl4, hk4⟩, keep _ _ hk3⟩
   | exit id =>
    obtain ⟨hk3, hi3⟩ := hp
    obtain ⟨hr, hl4, hk4⟩ := fin (some (.exit id)) W3 hk3
    exact ⟨_, _, hr, .inr ⟨rfl, .exit id, hIx _ _ _ _ _ hi3 (grownBy_putObj' _ _ _) (by omega) (by omega), hl4, hk4⟩, keep _ _ hk3⟩
   | goto t =>
    obtain ⟨hk3, hi3⟩ := hp
    obtain ⟨hr, hl4, hk4⟩ := fin (some (.goto t)) W3 hk3
    exact ⟨_, _, hr, .inr ⟨rfl, .goto t, hIx _ _ _ _ _ hi3 (grownBy_putObj' _ _ _) (by omega) (by omega), hl4, hk4⟩, keep _ _ hk3⟩
   | panic ch => exact hp.elim
   | outgrown => exact hp.elim
  ·rintro e W2 ⟨⟨v, rfl⟩, (⟨hi, hl, hk⟩ | ⟨pre, hpre, c, hi, hl, hk⟩)⟩
   ·exact ⟨none, _, by have := run_endLoop (P := Tryz.prog) hl (by rw [hrec]; simp); rw [hrec] at this; exact this, hdone _ _ (by omega) (hI.putObj _ hi (by omega)) ((World.putObj_heap_other (by omega)).trans hk)⟩
   ·exact ⟨some c, _, by have := run_endLoop (P := Tryz.prog) hl (by rw [hrec]; simp); rw [hrec] at this; exact this, hstop _ c pre _ (by omega) hpre (hIx c _ _ _ _ hi (grownBy_putObj' _ _ _) (by omega) (by omega)) ((World.putObj_heap_other (by omega)).trans hk)⟩
end Go.Proofs.YthonlcnmjlldiaaGreat.P
namespace Go.Proofs.YthonlcnmjlldiaaGreat.P
open Go.Shelf Go.RowKit Go.Proofs.YthonlcnmjlldiaaGreatW.PrintWords Go.Proofs.YthonlcnmjlldiaaGreatW.PrintLast Go.Proofs.YthonlcnmjlldiaaGreatW.PrintMore
def usedL (of : List Nat) : Nat := of.foldl (fun u f => max u (f + 1)) 0
def maskF (of : List Nat) (f : Nat) : Nat := of.zipIdx.foldl (fun m p => if p.1 = f then m ||| 2 ^ p.2 else m) 0
def firN (of : List Nat) : List Nat := (List.range (usedL of)).map (maskF of)
theorem usedL_snoc (of : List Nat) (f : Nat) : usedL (of ++ [f]) = max (usedL of) (f + 1) := by simp [usedL, List.foldl_append]
theorem maskF_snoc (of : List Nat) (g f : Nat) : maskF (of ++ [g]) f = if g = f then maskF of f ||| 2 ^ of.length else maskF of f := by
 simp [maskF, List.zipIdx_append, List.foldl_append]
theorem maskF_lt (of : List Nat) (f : Nat) : maskF of f < 2 ^ of.length := by
 suffices h : ∀ n (of : List Nat), of.length = n → maskF of f < 2 ^ n from h _ _ rfl
 intro n
 induction n with
 | zero => intro of h; rw [List.length_eq_zero_iff.1 h]; simp [maskF]
 | succ n ih =>
  intro of h
  have hne : of ≠ [] := by intro e; rw [e] at h; simp at h
  obtain ⟨xs, x, rfl⟩ : ∃ xs x, of = xs ++ [x] := ⟨_, _, (List.dropLast_concat_getLast hne).symm⟩
  have hl : xs.length = n := by simpa using h
  have := ih xs hl
  rw [maskF_snoc]
  have h2 : 2 ^ n < 2 ^ (n + 1) := Nat.pow_lt_pow_right (by omega) (by omega)
  split
  ·rw [hl]; exact Nat.or_lt_two_pow (by omega) h2
  ·omega
theorem maskF_none {of : List Nat} {f : Nat} (h : usedL of ≤ f) : maskF of f = 0 := by
 suffices hh : ∀ n (of : List Nat), of.length = n → usedL of ≤ f → maskF of f = 0 from hh _ _ rfl h
 intro n
 induction n with
 | zero => intro of h _; rw [List.length_eq_zero_iff.1 h]; simp [maskF]
 | succ n ih =>
  intro of h hu
  have hne : of ≠ [] := by intro e; rw [e] at h; simp at h
  obtain ⟨xs, x, rfl⟩ : ∃ xs x, of = xs ++ [x] := ⟨_, _, (List.dropLast_concat_getLast hne).symm⟩
  rw [usedL_snoc] at hu
  rw [maskF_snoc, if_neg (by omega)]
  exact ih xs (by simpa using h) (by omega)
def firP (of : List Nat) (m : Nat) : List Nat := (List.range m).map (maskF of)
theorem firP_pad (of : List Nat) {m : Nat} (h : usedL of ≤ m) : natsI (firP of m) ++ [0] = natsI (firP of (m + 1)) := by
 simp [natsI, firP, List.range_succ, maskF_none h]
theorem firP_len (of : List Nat) (m : Nat) : (natsI (firP of m)).length = m := by simp [natsI, firP]
theorem firP_set (of : List Nat) {f m : Nat} (hf : f < m) : (natsI (firP of m)).set f ((maskF of f ||| 2 ^ of.length : Nat) : Int) = natsI (firP (of ++ [f]) m) := by
 apply List.ext_getElem?
 intro i
 simp only [natsI, firP, List.getElem?_set, List.length_map, List.length_range, List.getElem?_map]
 by_cases e : f = i
 ·subst e
  rw [if_pos rfl, if_pos hf, List.getElem?_range hf]
  simp [maskF_snoc]
 ·rw [if_neg e]
  rcases Nat.lt_or_ge i m with h | h
  ·rw [List.getElem?_range h]
   simp [maskF_snoc, e]
  ·rw [List.getElem?_eq_none (by simpa using h)]
   rfl
theorem firP_rd (of : List Nat) {f m : Nat} (hf : f < m) : rd (natsI (firP of m)) (f : Int) = ((maskF of f : Nat) : Int) := by
 simp [rd, natsI, firP, hf]
theorem firings_loop (of : List Nat) (h9 : of.length ≤ 9) (hf : ∀ f ∈ of, f < 9) : ∀ (d i k : Nat), of.length - i = d → i ≤ of.length → d * 12 + 12 < k →
  plan_firings.l0 k (natsI (firN (of.take i))) (natsI of) (of.length : Int) (i : Int) = some (natsI (firN of)) := by
 intro d
 induction d with
 | zero =>
  intro i k h1 h2 h3
  obtain ⟨k, rfl⟩ : ∃ m, k = m + 1 := ⟨k - 1, by omega⟩
  simp only [plan_firings.l0]
  rw [if_neg (by omega), List.take_of_length_le (by omega)]
 | succ d ih =>
  intro i k h1 h2 h3
  obtain ⟨k, rfl⟩ : ∃ m, k = m + 1 := ⟨k - 1, by omega⟩
  have hi : i < of.length := by omega
  have hfi := hf of[i] (List.getElem_mem hi)
  have hln : (natsI of).length = of.length := by simp [natsI]
  have hrd : rd (natsI of) (i : Int) = ((of[i] : Nat) : Int) := by simp [rd, natsI, hi]
  simp only [plan_firings.l0]
  rw [if_pos (by omega), if_pos (by omega), if_pos (by omega), hrd]
  have htk : of.take (i + 1) = of.take i ++ [of[i]] := by rw [List.take_add_one, List.getElem?_eq_getElem hi]; rfl
  have hu9 : usedL (of.take i) ≤ 9 := by
   have aux : ∀ (l : List Nat) (u : Nat), (∀ f ∈ l, f < 9) → u ≤ 9 → l.foldl (fun u f => max u (f + 1)) u ≤ 9 := by
    intro l
    induction l with
    | nil => intro u _ h; exact h
    | cons x xs ih2 => intro u h h2; exact ih2 _ (fun f hf => h f (by simp [hf])) (by have := h x (by simp); simp only; omega)
   exact aux _ _ (fun f h => hf f (List.mem_of_mem_take h)) (by omega)
  have hstep := ih (i + 1)
  obtain ⟨f, hfe⟩ : ∃ f, f = of[i] := ⟨_, rfl⟩
  rw [← hfe] at hfi htk ⊢
  have hlt : (of.take i).length = i := by simp; omega
  have hpad : ∀ (e m k' : Nat), usedL (of.take i) ≤ m → max (usedL (of.take i)) (f + 1) - m = e → m ≤ max (usedL (of.take i)) (f + 1) → d * 12 + 13 + e < k' →
    plan_firings.l1 k' (natsI (firP (of.take i) m)) (i : Int) (f : Int) (natsI of) (of.length : Int) (i : Int) = some (natsI (firN of)) := by
   intro e
   induction e with
   | zero =>
    intro m k' hm he hm2 hk'
    obtain ⟨k', rfl⟩ : ∃ j, k' = j + 1 := ⟨k' - 1, by omega⟩
    have em : m = max (usedL (of.take i)) (f + 1) := by omega
    have q1 : of.length - (i + 1) = d := by omega
    have q2 : i + 1 ≤ of.length := by omega
    have q3 : d * 12 + 12 < k' := by omega
    have q4 : i < 9 := by omega
    have hfm : f < m := by omega
    simp only [plan_firings.l1]
    rw [firP_len, if_neg (by omega), if_pos (by omega), if_pos (by omega), if_pos (by omega), firP_rd _ hfm]
    have hmlt := maskF_lt (of.take i) f
    rw [hlt] at hmlt
    have h512 : maskF (of.take i) f < 512 := Nat.lt_of_lt_of_le hmlt (by have : 2 ^ i ≤ 2 ^ 9 := Nat.pow_le_pow_right (by decide) (Nat.le_of_lt q4); exact this)
    rw [or_some h512 (Int.natCast_nonneg i) (Int.ofNat_lt.2 q4)]
    simp only [Int.toNat_natCast]
    have hset := firP_set (of.take i) hfm
    rw [hlt] at hset
    rw [hset]
    have hw : wrap64 ((i : Int) + 1) = ((i + 1 : Nat) : Int) := by unfold wrap64; push_cast; omega
    rw [hw]
    have hN : firN (of.take (i + 1)) = firP (of.take i ++ [f]) m := by
     rw [htk, em]
     unfold firN firP
     rw [usedL_snoc]
    rw [← hN]
    exact hstep k' q1 q2 q3
   | succ e ih3 =>
    intro m k' hm he hm2 hk'
    obtain ⟨k', rfl⟩ : ∃ j, k' = j + 1 := ⟨k' - 1, by omega⟩
    simp only [plan_firings.l1]
    rw [firP_len, if_pos (by omega), if_pos (by omega), firP_pad _ hm]
    exact ih3 (m + 1) k' (by omega) (by omega) (by omega) (by omega)
  exact hpad _ (usedL (of.take i)) k (Nat.le_refl _) rfl (by omega) (by omega)
theorem firings_some (of : List Nat) (h9 : of.length ≤ 9) (hf : ∀ f ∈ of, f < 9) : plan_firings.f 130 (natsI of) = some (natsI (firN of)) := by
 have := firings_loop of h9 hf of.length 0 130 (by omega) (by omega) (by omega)
 have hl : (natsI of).length = of.length := by simp [natsI]
 unfold plan_firings.f
 rw [hl]
 exact this
theorem ways_len : ∀ (r most used : Nat) (pre x : List Nat), x ∈ waysL r most used pre → x.length = pre.length + r
 | 0, most, used, pre, x, h => by simp [waysL] at h; simp [h]
 | r + 1, most, used, pre, x, h => by
  simp only [waysL, List.mem_flatMap] at h
  obtain ⟨f, hf, h⟩ := h
  have := ways_len r most _ _ _ h
  simp at this
  omega
theorem ways_lt : ∀ (r most used : Nat) (pre x : List Nat), (∀ f ∈ pre, f < most) → x ∈ waysL r most used pre → ∀ f ∈ x, f < most
 | 0, most, used, pre, x, hp, h => by simp [waysL] at h; rw [h]; exact hp
 | r + 1, most, used, pre, x, hp, h => by
  simp only [waysL, List.mem_flatMap] at h
  obtain ⟨f, hf, h⟩ := h
  refine ways_lt r most _ _ _ ?_ h
  intro g hg
  rcases List.mem_append.1 hg with h1 | h1
  ·exact hp g h1
  ·rw [List.mem_singleton.1 h1]
   have := List.mem_range.1 hf
   omega
theorem pre_mem {pre all : List (List Nat)} {x : List Nat} (h : pre ++ [x] <+: all) : x ∈ all := by
 obtain ⟨t, rfl⟩ := h
 simp
theorem firN_lt {of : List Nat} {m : Nat} (h : m ∈ firN of) : m < 2 ^ of.length := by
 obtain ⟨f, _, rfl⟩ := List.mem_map.1 h
 exact maskF_lt of f
end Go.Proofs.YthonlcnmjlldiaaGreat.P
namespace Go.Proofs.YthonlcnmjlldiaaGreat.P
open Go.Shelf Go.RowKit Go.Proofs.YthonlcnmjlldiaaGreatW.PrintWords Go.Proofs.YthonlcnmjlldiaaGreatW.PrintLast Go.Proofs.YthonlcnmjlldiaaGreatW.PrintMore
attribute [local go_sem] Oper.semAt_some
set_option maxHeartbeats 1000000 in
theorem within2_b {c s : Int} {b : Nat} {W : World} (c0 : 0 ≤ c) (c1 : c < 512) (s0 : 0 ≤ s) (s1 : s < 512) (hb : W.cell? ⟨b, 0, none⟩ = some (.int .u64 s)) :
  Calls Tryz.prog 101 #[.int .u64 c, .pointer (some ⟨b, 0, none⟩)] W fun e W' => e = .returned (.bool (subB c.toNat s.toNat)) ∧ Below W.heap.size W W' := by
 have h := subB_iff' c0 c1 s0 s1
 rw [← h]
 clear h
 go_enter Tryz.func101, Tryz.ntmps101
 go_wp2
 all_goals first | (go_ret; exact ⟨rfl, Below.refl _ _⟩) | skip
def hitB (sets : List Nat) (m : Nat) : Bool := sets.any (fun s => subB s m)
set_option maxHeartbeats 1000000 in
set_option maxRecDepth 100000 in
theorem hit_b {m b c : Nat} {S : Option Addr} {sets : List Nat} {W : World} (hm : m < 512) (hs : ∀ s ∈ sets, s < 512) (hb : W.cell? ⟨b, 0, none⟩ = some (.slice S (natsI sets).length c)) (hC : Kd.C (Kd.int .u64) W S (natsI sets).length (natsI sets)) :
  Calls Tryz.prog 100 #[.int .u64 (m : Int), .pointer (some ⟨b, 0, none⟩)] W fun e W' => e = .returned (.bool (hitB sets m)) ∧ Below W.heap.size W W' := by
 have hcf := fun (V : World) (bx : Nat) (hV : Below W.heap.size W V) (hbx : Boxed V bx 93 (.int .u64 (m : Int))) => idxMaskAny.calls (c := c) (xs := natsI sets) (p := fun s => subB s.toNat (m : Int).toNat) (R := fun W W' => Below W.heap.size W W') (w := V) (lb := #[.pointer (some ⟨bx, 0, none⟩)])
  {eg := enters_of Tryz.func101 (by kernel_rfl) rfl, refl := Below.refl _ _, call := fun s V' hss hW => by
    obtain ⟨sn, hsn, rfl⟩ := List.mem_map.1 hss
    have := hs sn hsn
    exact (within2_b (c := Int.ofNat sn) (by simp) (by simp; omega) (by omega) (by omega) ((hW.cell (p := ⟨bx, 0, none⟩) hbx.lt).trans hbx.cell)).mono fun e W'' ⟨g1, g2⟩ => ⟨g1, below_refl_trans hW g2⟩ }
  (fun V' hV' => Kd.C_below (Kd.C_below hC hV) hV')
 have he : (natsI sets).any (fun s => subB s.toNat (m : Int).toNat) = hitB sets m := by
  unfold natsI hitB
  rw [List.any_map]
  rfl
 rw [he] at hcf
 have HCF := Aside0.mk hcf
 have hb1 := (World.cell?_alloc_lt (a := ⟨b, 0, none⟩) W (.cells #[.int .u64 (m : Int)] 93) (World.block_lt_of_cell? W _ hb)).trans hb
 clear hcf he hC hs
 generalize hitB sets m = r at *
 go_enter Tryz.func100, Tryz.ntmps100
 go_wp2_with (go_at_call 52; refine (HCF.out _ _ (below_alloc (Below.refl _ _) _) (Boxed.new W 93 (.int .u64 (m : Int)))).mono ?_; rintro e w2 ⟨rfl, hb2⟩)
 go_ret
 exact ⟨rfl, below_refl_trans (below_alloc (Below.refl _ _) _) hb2⟩
def reasonB (items most : Nat) (sets : List Nat) : Bool := (waysL items most 0 []).all fun of => (firN of).any (hitB sets)
theorem reasonB_no {items most : Nat} {sets : List Nat} {pre : List (List Nat)} {x : List Nat} (h : pre ++ [x] <+: waysL items most 0 []) (hx : (firN x).any (hitB sets) = false) : reasonB items most sets = false := by
 unfold reasonB
 rw [List.all_eq_false]
 exact ⟨x, pre_mem h, by rw [hx]; simp⟩
theorem reasonB_yes {items most : Nat} {sets : List Nat} (h : ∀ x ∈ waysL items most 0 [], (firN x).any (hitB sets) = true) : reasonB items most sets = true := by
 unfold reasonB
 rw [List.all_eq_true]
 exact h
theorem results_cell1 {fn : Func} {p : Tmp} {t1 : TypeId} (h : fn.results = #[.cell p t1]) (tmps : Array Value) (P : Program) (w : World) {b1 : Nat} {v1 : Value}
  (h1 : tmps.getD p undef = .pointer (some ⟨b1, 0, none⟩)) (l1 : (loadVar t1 ⟨b1, 0, none⟩).run P w = .ok v1 w) : (results fn tmps).run P w = .ok v1 w := by
 have h1' : tmps[p]?.getD undef = .pointer (some ⟨b1, 0, none⟩) := by simpa using h1
 simp only [results, h]
 simp [Sem.run_bind, Result.andThen, h1', l1, asAddr]
set_option maxHeartbeats 2000000 in
set_option maxRecDepth 100000 in
theorem isReason_b {w : World} {ob mb : Nat} {k : List Seat} {l : List Order} {most : Nat} {S : Option Addr} {c : Nat} {sets : List Nat} (hO : Off w ob mb k l) (hF : Fine k l) (hmo : most ≤ 9) (hs : ∀ s ∈ sets, s < 512) (hC : Kd.C (Kd.int .u64) w S (natsI sets).length (natsI sets)) (hc : (natsI sets).length ≤ c) :
  Calls Tryz.prog 55 #[.pointer (some ⟨ob, 0, none⟩), .int .i64 (most : Int), .slice S (natsI sets).length c] w fun e w' => e = .returned (.bool (reasonB l.length most sets)) ∧ Below w.heap.size w w' := by
 have h9 := hF.h9
 obtain ⟨A, cA, B, cB, g, hblk, hCk, hck, hCl, hcl, hM, hg⟩ := hO
 have hob := blk_lt hblk
 have hu := Tryz.underlying129
 have hbw : ∀ v1 v2 v3 t1 t2 t3, Below w.heap.size w (((w.alloc (.cells #[v1] t1)).alloc (.cells #[v2] t2)).alloc (.cells #[v3] t3)) := fun v1 v2 v3 t1 t2 t3 => below_alloc (below_alloc (below_alloc (Below.refl _ _) _) _) _
 have hbd1 := (World.cell?_alloc_lt (a := ⟨ob, 1, none⟩) w (.cells #[.slice S (natsI sets).length c] 84) hob).trans ((blk_cell hblk 1).trans rfl)
 have HBLK := Aside0.mk hblk
 have HC := Aside0.mk hC
 have HS := Aside0.mk hs
 have HNO := Aside0.mk (fun (pre : List (List Nat)) (x : List Nat) => @reasonB_no l.length most sets pre x)
 have HYES := Aside0.mk (@reasonB_yes l.length most sets)
 have HWL := Aside0.mk (fun x (hx : x ∈ waysL l.length most 0 []) => (⟨by have := ways_len l.length most 0 [] x hx; simpa using this, ways_lt l.length most 0 [] x (by simp) hx⟩ : x.length = l.length ∧ ∀ f ∈ x, f < most))
 have HWB := Aside0.mk (fun W => ways_b l.length most W)
 clear hM hg hCk hCl hC hck hcl hF hbd1 hs
 generalize reasonB l.length most sets = r at *
 refine (callsIn_wide (n := 5)).1 ?_
 refine callsIn_of_wp_marks Tryz.func55 rfl trivial ?_ rfl
 simp only [Tryz.ntmps55, List.size_toArray, List.length_cons, List.length_nil, Nat.reduceAdd, Nat.reduceSub, Array.replicate_succ, Array.replicate_zero, List.push_toArray, List.append_toArray, List.nil_append, List.cons_append]
 have hmix : Tryz.prog.follows .mixedOrders = true := by kernel_rfl
 gi_wp2
 obtain ⟨W0, hW0⟩ : ∃ W0, ((w.alloc (.cells #[.slice S (natsI sets).length c] 84)).alloc (.cells #[.bool false] 4)).alloc (.cells #[.nilFunc] 97) = W0 := ⟨_, rfl⟩
 rw [hW0]
 have hb0 : Below w.heap.size w W0 := by rw [← hW0]; exact hbw _ _ _ _ _ _
 have hz0 : W0.heap.size = w.heap.size + 1 + 1 + 1 := by rw [← hW0]; simp
 have b0 : Boxed W0 w.heap.size 84 (.slice S (natsI sets).length c) := by rw [← hW0]; exact ((Boxed.new w _ _).alloc _).alloc _
 have b1 : Boxed W0 (w.heap.size + 1) 4 (.bool false) := by
  rw [← hW0]
  have h := (Boxed.new (w.alloc (.cells #[.slice S (natsI sets).length c] 84)) 4 (.bool false)).alloc (.cells #[.nilFunc] 97)
  rwa [World.size_alloc] at h
 have b2 : Boxed W0 (w.heap.size + 1 + 1) 97 .nilFunc := by
  rw [← hW0]
  have h := Boxed.new ((w.alloc (.cells #[.slice S (natsI sets).length c] 84)).alloc (.cells #[.bool false] 4)) 97 .nilFunc
  rwa [World.size_alloc, World.size_alloc] at h
 clear hW0 hbw
 have hst : Sem.run Tryz.prog (store ⟨w.heap.size + 1 + 1, 0, none⟩ (.func (.func 100) #[] #[.pointer (some ⟨w.heap.size, 0, none⟩)])) W0 = .ok () (W0.setCell ⟨w.heap.size + 1 + 1, 0, none⟩ (.func (.func 100) #[] #[.pointer (some ⟨w.heap.size, 0, none⟩)])) := by
  have e1 := b2.cell
  have e2 := b2.frozen
  simp [store, Sem.run, e1, e2]
 rw [hst]
 clear hst
 have k2 := grownBy_setCell' W0 (w.heap.size + 1 + 1) (.func (.func 100) #[] #[.pointer (some ⟨w.heap.size, 0, none⟩)])
 have hb1 : Below w.heap.size w (W0.setCell ⟨w.heap.size + 1 + 1, 0, none⟩ (.func (.func 100) #[] #[.pointer (some ⟨w.heap.size, 0, none⟩)])) := hb0.setCell (p := ⟨w.heap.size + 1 + 1, 0, none⟩) (by simp; omega) _
 have a0 := b0.kept k2 (by simp; omega)
 have a1 := b1.kept k2 (by simp)
 have a2 := b2.set (.func (.func 100) #[] #[.pointer (some ⟨w.heap.size, 0, none⟩)])
 have hz1 : (W0.setCell ⟨w.heap.size + 1 + 1, 0, none⟩ (.func (.func 100) #[] #[.pointer (some ⟨w.heap.size, 0, none⟩)])).heap.size = w.heap.size + 1 + 1 + 1 := by simp [hz0]
 generalize W0.setCell ⟨w.heap.size + 1 + 1, 0, none⟩ (.func (.func 100) #[] #[.pointer (some ⟨w.heap.size, 0, none⟩)]) = W1 at *
 have hblk1 := (hb1.block ob hob).trans HBLK.out
 have q0 := (blk_cell hblk1 0).trans rfl
 have q1 := (blk_cell hblk1 1).trans rfl
 clear hblk1 k2 b0 b1 b2 hb0 hz0 hblk
 gi_wp2_with (refine ⟨trivial, ?_⟩; gi_at_call 90; refine (callsIn_wide.2 (HWB.out _)).mono ?_; rintro e W2 ⟨rfl, rfl⟩)
 obtain ⟨W2, hW2⟩ : ∃ W2, ((W1.alloc (.cells #[.int .i64 (l.length : Int)] 3)).alloc (.cells #[.int .i64 (most : Int)] 3)) = W2 := ⟨_, rfl⟩
 rw [hW2]
 have bI : Boxed W2 W1.heap.size 3 (.int .i64 (l.length : Int)) := by rw [← hW2]; exact (Boxed.new W1 _ _).alloc _
 have bM : Boxed W2 (W1.heap.size + 1) 3 (.int .i64 (most : Int)) := by
  rw [← hW2]
  have h := Boxed.new (W1.alloc (.cells #[.int .i64 (l.length : Int)] 3)) 3 (.int .i64 (most : Int))
  rwa [World.size_alloc] at h
 have hb2 : Below w.heap.size w W2 := by rw [← hW2]; exact below_alloc (below_alloc hb1 _) _
 have c0 : Boxed W2 w.heap.size 84 (.slice S (natsI sets).length c) := by rw [← hW2]; exact (a0.alloc _).alloc _
 have c1 : Boxed W2 (w.heap.size + 1) 4 (.bool false) := by rw [← hW2]; exact (a1.alloc _).alloc _
 have c2 : Boxed W2 (w.heap.size + 1 + 1) 97 (.func (.func 100) #[] #[.pointer (some ⟨w.heap.size, 0, none⟩)]) := by rw [← hW2]; exact (a2.alloc _).alloc _
 clear hW2
 rw [hz1] at bI bM
 have hz2 : w.heap.size + 1 + 1 + 1 + 2 ≤ W2.heap.size := by have := bM.lt; omega
 refine wpIn_ways (B0 := w.heap.size + 1 + 1 + 1) (items := l.length) (most := most) h9 hmo rfl bI bM rfl
  (fun pre W => (Below w.heap.size w W ∧ Boxed W w.heap.size 84 (.slice S (natsI sets).length c) ∧ Boxed W (w.heap.size + 1) 4 (.bool false) ∧ Boxed W (w.heap.size + 1 + 1) 97 (.func (.func 100) #[] #[.pointer (some ⟨w.heap.size, 0, none⟩)]) ∧ w.heap.size + 1 + 1 + 1 + 2 ≤ W.heap.size) ∧ ∀ x ∈ pre, (firN x).any (hitB sets) = true)
  (fun c pre W => c = .ret ∧ Below w.heap.size w W ∧ Boxed W (w.heap.size + 1) 4 (.bool false) ∧ ∃ pre0 x, pre = pre0 ++ [x] ∧ (firN x).any (hitB sets) = false)
  ?hI ?hIx ?h0
  (fun v => { tmps := #[.pointer (some ⟨ob, 0, none⟩), .int .i64 (most : Int), .slice S (natsI sets).length c, undef, undef, .pointer (some ⟨w.heap.size, 0, none⟩), .pointer (some ⟨w.heap.size + 1, 0, none⟩), .pointer (some ⟨w.heap.size + 1 + 1, 0, none⟩), v, .func (.func 100) #[] #[.pointer (some ⟨w.heap.size, 0, none⟩)], .pointer (some ⟨ob, 0, none⟩), .pointer (some ⟨ob, 0, none⟩), .pointer (some ⟨ob, 1, none⟩), .slice B l.length cB, .int .i64 (l.length : Int), .int .i64 (most : Int), .func (.func 123) #[] #[.pointer (some ⟨w.heap.size + 1 + 1 + 1, 0, none⟩), .pointer (some ⟨w.heap.size + 1 + 1 + 1 + 1, 0, none⟩)], v, undef, undef, undef, undef, undef], defers := [] }) ?assign ?body ?done ?stop
 case hI =>
  rintro pre X Y ⟨⟨g1, g2, g3, g4, g5⟩, g6⟩ hb
  exact ⟨⟨g1.trans (hb.mono (by omega)), (hb.block _ (by omega)).trans g2, (hb.block _ (by omega)).trans g3, (hb.block _ (by omega)).trans g4, Nat.le_trans g5 hb.size⟩, g6⟩
 case hIx =>
  rintro c pre X Y b ⟨rfl, g1, g3, g6⟩ hb hlo hhi
  exact ⟨rfl, g1.grown hb g1.size (fun j e => by cases e; omega), g3.kept hb (by simp; omega), g6⟩
 case h0 => exact ⟨⟨hb2, c0, c1, c2, hz2⟩, by simp⟩
 case assign =>
  intro l' v W K hK
  gi_wp2
  exact hK
 case body =>
  rintro l' pre x A' cc W ⟨⟨g1, g2, g3, g4, g5⟩, g6⟩ hpre hx hcc hCx hsz
  obtain ⟨_, hxm⟩ := HWL.out x (pre_mem hpre)
  have hfr := fun V (hV : Below W.heap.size W V) => plan_firings.calls 130 A' cc (natsI x) _ V (Kd.C_below hCx hV) (by simp [natsI]; omega) (firings_some x (by omega) (fun f hf => by have := hxm f hf; omega))
  have hnx : (natsI x).length = l.length := by simp [natsI]; omega
  rw [hnx] at hfr
  have hb9 : ∀ m ∈ firN x, m < 512 := fun m hm => by have := firN_lt hm; rw [hx] at this; exact Nat.lt_of_lt_of_le this (Nat.pow_le_pow_right (by omega) h9)
  have hcf : ∀ (V : World) (A2 : Option Addr) (c2 : Nat), Below W.heap.size W V → Kd.C (Kd.int .u64) V A2 (natsI (firN x)).length (natsI (firN x)) → Calls Tryz.prog 52 #[.slice A2 (natsI (firN x)).length c2, .func (.func 100) #[] #[.pointer (some ⟨w.heap.size, 0, none⟩)]] V fun e V' => e = .returned (.bool ((firN x).any (hitB sets))) ∧ Below V.heap.size V V' := by
   intro V A2 c2 hV hC2
   have he : (natsI (firN x)).any (fun m => hitB sets m.toNat) = (firN x).any (hitB sets) := by
    unfold natsI
    rw [List.any_map]
    rfl
   rw [← he]
   refine idxMaskAny.calls (p := fun m => hitB sets m.toNat) (R := fun W W' => Below W.heap.size W W')
    {eg := enters_of Tryz.func100 (by kernel_rfl) rfl, refl := Below.refl _ _, call := fun m V' hm hV' => ?_ } (fun V' hV' => Kd.C_below hC2 hV')
   obtain ⟨mn, hmn, rfl⟩ := List.mem_map.1 hm
   have hwv : Below w.heap.size w V := g1.trans (hV.mono g1.size)
   refine (hit_b (m := mn) (hb9 mn hmn) HS.out (((below_refl_trans hV hV').cell (p := ⟨w.heap.size, 0, none⟩) g2.lt).trans g2.cell) (Kd.C_below HC.out (below_refl_trans g1 (below_refl_trans hV hV')))).mono fun e V'' ⟨h1, h2⟩ => ⟨h1, below_refl_trans hV' h2⟩
  have HFR := Aside0.mk hfr
  have HCF := Aside0.mk hcf
  have G6 := Aside0.mk g6
  have e1 := g4.cell
  have HX := Aside0.mk hx
  clear hfr hcf hCx hb9 hxm hnx g6 hx
  cases hany : (firN x).any (hitB sets)
  ·rw [hany] at HCF
   have HANY := Aside0.mk hany
   clear hany
   gi_wp2
   gi_region_with_o (first | (refine ⟨trivial, ?_⟩; gi_at_call 91; refine (CallsIn.inRound l' (callsIn_wide.2 (HFR.out _ (below_drew (Below.refl _ _))))).mono ?_; rintro e W3 ⟨v3, rfl, hR3, hb3⟩; obtain ⟨A3, c3, rfl, hc3, hC3⟩ := Kd.R_reads hR3; have e2 := (hb3.cell (p := ⟨w.heap.size + 1 + 1, 0, none⟩) g4.lt).trans g4.cell) | (refine ⟨trivial, ?_⟩; gi_at_call 52; refine (CallsIn.inRound l' (callsIn_wide.2 (HCF.out _ A3 c3 (below_refl_trans (below_drew (Below.refl _ _)) hb3) hC3))).mono ?_; rintro e W4 ⟨rfl, hb4⟩))
   all_goals
    have hb5 : Below W.heap.size W W4 := below_refl_trans (below_refl_trans (below_drew (Below.refl _ _)) hb3) hb4
    have d3 : Boxed W4 (w.heap.size + 1) 4 (.bool false) := (hb5.block _ g3.lt).trans g3
    have e5 := d3.cell
    have f5 := d3.frozen
    gi_wp2
    have k1 := grownBy_setCell' W4 (w.heap.size + 1) (.bool false)
    exact ⟨⟨by have := hb5.size; simp; omega, fun q h1 h2 => (k1.block q (by have := hb5.size; omega) (by simp; omega)).trans (hb5.block q h2)⟩, rfl, (below_refl_trans g1 hb5).setCell (p := ⟨w.heap.size + 1, 0, none⟩) (by simp) _, d3.set _, pre, x, rfl, HANY.out⟩
  ·rw [hany] at HCF
   have HANY := Aside0.mk hany
   clear hany
   gi_wp2
   gi_region_with_o (first | (refine ⟨trivial, ?_⟩; gi_at_call 91; refine (CallsIn.inRound l' (callsIn_wide.2 (HFR.out _ (below_drew (Below.refl _ _))))).mono ?_; rintro e W3 ⟨v3, rfl, hR3, hb3⟩; obtain ⟨A3, c3, rfl, hc3, hC3⟩ := Kd.R_reads hR3; have e2 := (hb3.cell (p := ⟨w.heap.size + 1 + 1, 0, none⟩) g4.lt).trans g4.cell) | (refine ⟨trivial, ?_⟩; gi_at_call 52; refine (CallsIn.inRound l' (callsIn_wide.2 (HCF.out _ A3 c3 (below_refl_trans (below_drew (Below.refl _ _)) hb3) hC3))).mono ?_; rintro e W4 ⟨rfl, hb4⟩))
   all_goals
    have hb5 : Below W.heap.size W W4 := below_refl_trans (below_refl_trans (below_drew (Below.refl _ _)) hb3) hb4
    gi_wp2
    refine ⟨⟨hb5.size, fun q h1 h2 => hb5.block q h2⟩, ⟨below_refl_trans g1 hb5, (hb5.block _ g2.lt).trans g2, (hb5.block _ g3.lt).trans g3, (hb5.block _ g4.lt).trans g4, Nat.le_trans g5 hb5.size⟩, ?_⟩
    intro y hy
    rcases List.mem_append.1 hy with h | h
    ·exact G6.out y h
    ·rw [List.mem_singleton.1 h]; exact HANY.out
 case done =>
  rintro D W hD ⟨⟨g1, g2, g3, g4, g5⟩, g6⟩ hK
  have e1 := g3.cell
  have f1 := g3.frozen
  have HR := Aside0.mk (HYES.out g6)
  clear g6
  gi_wp2
  have k1 := grownBy_setCell' W (w.heap.size + 1) (.bool true)
  have hK2 := (KeepsOthers.setCell W ⟨w.heap.size + 1, 0, none⟩ (.bool true)).same D _ hK rfl
  refine ⟨by simp, .inl ⟨_, _, rfl, run_takeDeferred hK2, ?_⟩⟩
  have k3 := grownBy_putObj' (W.setCell ⟨w.heap.size + 1, 0, none⟩ (.bool true)) D (.deferred none)
  have r1 := (g3.set (.bool true)).kept k3 (by simp; omega)
  have hgr : Below w.heap.size w ((W.setCell ⟨w.heap.size + 1, 0, none⟩ (.bool true)).putObj D (.deferred none)) := (g1.grown k1 g1.size (fun j e => by cases e; omega)).grown k3 (by have := g1.size; simp; omega) (fun j e => by cases e; omega)
  exact ⟨_, results_cell1 rfl _ _ _ rfl (lv_one (Tryz.isAgg4 _) r1.cell), by rw [HR.out], hgr⟩
 case stop =>
  rintro D c pre W hD hp ⟨rfl, g1, g3, pre0, x, rfl, hx⟩ hK
  have HR := Aside0.mk (HNO.out pre0 x hp hx)
  clear hx
  gi_wp2
  refine ⟨by simp, .inl ⟨_, _, rfl, run_takeDeferred hK, ?_⟩⟩
  have k3 := grownBy_putObj' W D (.deferred none)
  have r1 := g3.kept k3 (by simp; omega)
  have hgr : Below w.heap.size w (W.putObj D (.deferred none)) := g1.grown k3 g1.size (fun j e => by cases e; omega)
  exact ⟨_, results_cell1 rfl _ _ _ rfl (lv_one (Tryz.isAgg4 _) r1.cell), by rw [HR.out], hgr⟩
section
variable {P : Program} {F : Fence} {n : Nat} {b : Frame} {a : Act} {k : List Item} {cs : List Frame} {w : World} {Q : Exit → Act → World → Prop}
theorem stepR_scope {c : Code} : step P (lone (b.atR a (.code (.scope c) :: k)) cs w) = .next (lone (b.atR a (.code c :: .inScope c :: k)) cs w) :=
 step_lone_go (by simp [stepG, stepG.exec, Frame.atR])
theorem stepR_inScope {c : Code} : step P (lone (b.atR a (.inScope c :: k)) cs w) = .next (lone (b.atR a k) cs w) :=
 step_lone_go (by simp [stepG, stepG.exec, Frame.atR])
theorem wpIn_scope {c : Code} (h : c.wpIn F n P (Exit.noGoto Q) a w) : (Code.scope c).wpIn F n P Q a w := by
 intro b k cs hro hb hr
 have h0 : (lone (b.atR a (.code (.scope c) :: k)) cs w).fenced P F := fenced_calm hb hr rfl
 obtain ⟨e, a₁, w₁, hq, harr⟩ := h b (.inScope c :: k) cs hro hb hr
 cases e with
 | normal => exact ⟨.normal, a₁, w₁, hq, .head h0 stepR_scope (StepsIn.trans harr (.one (fenced_calm hb hr rfl) stepR_inScope))⟩
 | exit id' =>
  have hx : exitTo id' (.inScope c :: k) = exitTo id' k := by simp [exitTo]
  exact ⟨.exit id', a₁, w₁, hq, fun k' hk => .head h0 stepR_scope (harr.1 k' (by rw [hx]; exact hk)),
   fun hr' hk => let ⟨k₁, h1, h2⟩ := harr.2 hr' (by rw [hx]; exact hk); ⟨k₁, h1, .head h0 stepR_scope h2⟩⟩
 | goto l => exact hq.elim
 | ret => exact ⟨_, a₁, w₁, hq, .of_steps (.one h0 stepR_scope) harr⟩
 | panic ch => exact ⟨_, a₁, w₁, hq, .of_steps (.one h0 stepR_scope) harr⟩
 | outgrown => exact ⟨_, a₁, w₁, hq, .of_steps (.one h0 stepR_scope) harr⟩
end
def tabG (k : List Seat) (l : List Order) (pre : List Nat) : Int → Option Bool := fun x => if 0 ≤ x ∧ x.toNat ∈ pre then some (fitsB k l x.toNat) else none
theorem tabG_snoc (k : List Seat) (l : List Order) (pre : List Nat) (s : Nat) : tabG k l (pre ++ [s]) = fun z => if z = (s : Int) then some (fitsB k l s) else tabG k l pre z := by
 funext z
 unfold tabG
 by_cases e : z = (s : Int)
 ·subst e; simp
 ·rw [if_neg e]
  have : z.toNat = s → ¬ 0 ≤ z := fun h h0 => e (by omega)
  by_cases h0 : 0 ≤ z
  ·have h1 : z.toNat ≠ s := fun h => this h h0
   simp [h0, h1]
  ·simp [h0]
abbrev TMap (w : World) (mf n : Nat) (g : Int → Option Bool) : Prop := IMap Tryz.prog 93 4 .u64 Lit.bool w mf n g
def DefOk (base : Nat) (W : World) : Nat → List Deferred → Prop
 | _, [] => True
 | B, d :: ds => ∃ D, d = { target := .collected D, args := #[] } ∧ D < B ∧ base ≤ D ∧ W.heap[D]? = some (.deferred (some [])) ∧ DefOk base W D ds
theorem DefOk.mono {base : Nat} {W : World} : ∀ {ds : List Deferred} {B B' : Nat}, DefOk base W B ds → B ≤ B' → DefOk base W B' ds
 | [], _, _, _, _ => trivial
 | d :: ds, B, B', ⟨D, h1, h2, h3, h4, h5⟩, hb => ⟨D, h1, by omega, h3, h4, h5⟩
theorem DefOk.keep {base : Nat} {W W' : World} : ∀ {ds : List Deferred} {B : Nat}, DefOk base W B ds → (∀ D, base ≤ D → D < B → W.heap[D]? = some (.deferred (some [])) → W'.heap[D]? = some (.deferred (some []))) → DefOk base W' B ds
 | [], _, _, _ => trivial
 | d :: ds, B, ⟨D, h1, h2, h3, h4, h5⟩, hb => ⟨D, h1, h2, h3, hb D h3 h2 h4, h5.keep (fun E e1 e2 => hb E e1 (by omega))⟩
structure Shut (base : Nat) (W W' : World) : Prop where
 os : W'.os = W.os
 tape : W'.tape = W.tape
 output : W'.output = W.output
 size : W'.heap.size = W.heap.size
 low : ∀ k, k < base → W'.heap[k]? = W.heap[k]?
 other : ∀ (k : Nat) (o : Obj), W.heap[k]? = some o → (∀ x, o ≠ Obj.deferred x) → W'.heap[k]? = some o
theorem leaves_marks {n : Nat} {P : Program} {fn : Func} {tmps : Array Value} {R : Ending → World → Prop} {base : Nat} : ∀ (ds : List Deferred) (B : Nat) (W : World), DefOk base W B ds → (∀ W', Shut base W W' → ∃ v, (results fn tmps).run P W' = .ok v W' ∧ R (.returned v) W') → LeavesInM Fence.wide n P fn tmps R ds .returning W
 | [], B, W, _, h => by
  obtain ⟨v, h1, h2⟩ := h W ⟨rfl, rfl, rfl, rfl, fun _ _ => rfl, fun _ _ h _ => h⟩
  exact ⟨v, h1, h2⟩
 | d :: ds, B, W, ⟨D, h1, h2, h3, h4, h5⟩, h => by
  refine ⟨by simp, .inl ⟨D, _, by rw [h1], run_takeDeferred h4, ?_⟩⟩
  refine leaves_marks ds D _ (h5.keep (fun E e1 e2 e3 => (World.putObj_heap_other (by omega)).trans e3)) (fun W' hs => h W' ⟨hs.os, hs.tape, hs.output, by rw [hs.size]; simp, fun k hk => (hs.low k hk).trans (World.putObj_heap_other (by omega)), fun k o ho hne => hs.other k o ((World.putObj_heap_other (by rintro rfl; rw [h4] at ho; cases ho; exact hne _ rfl)).trans ho) hne⟩)
theorem Shut.boxed {base b : Nat} {W W' : World} {t : TypeId} {v : Value} (h : Shut base W W') (hv : Boxed W b t v) : Boxed W' b t v := h.other b _ hv (fun x e => by cases e)
theorem Shut.own {base n0 : Nat} {W W' : World} {e : TypeId} {size k : Nat} {v : Value} {xs : List Value} (h : Shut base W W') (hv : W.ownsRow n0 e size v k xs) : W'.ownsRow n0 e size v k xs := by
 refine ⟨hv.1, ?_⟩
 rcases hv.2 with hn | ⟨g, cap, cur, rfl, h1, h2, rest⟩
 ·exact .inl hn
 ·exact .inr ⟨g, cap, cur, rfl, h1, h.other g _ h2 (fun x e => by cases e), rest⟩
theorem Shut.grown {base mb : Nat} {w W W' : World} (h : Shut base W W') (hg : w.grownBy W (some mb)) (hb : w.heap.size ≤ base) : w.grownBy W' (some mb) :=
 grown_low hg (by rw [h.size]; exact Nat.le_refl _) h.os h.tape h.output (fun j hj => h.low j (by omega))
def fewestOf (k : List Seat) (l : List Order) (most : Nat) : Option (List Nat) := ((waysL l.length most 0 []).find? (fun of => (firN of).all (fitsB k l))).map firN
def fewestN (k : List Seat) (l : List Order) : Option (List Nat) := (List.range (l.length + 1)).findSome? (fewestOf k l)
theorem fewestOf_some {k : List Seat} {l : List Order} {most : Nat} {pre : List (List Nat)} {x : List Nat} (h : pre ++ [x] <+: waysL l.length most 0 []) (h0 : ∀ y ∈ pre, (firN y).all (fitsB k l) = false) (h1 : (firN x).all (fitsB k l) = true) : fewestOf k l most = some (firN x) := by
 obtain ⟨t, ht⟩ := h
 unfold fewestOf
 rw [← ht, List.append_assoc, List.find?_append, List.find?_eq_none.2 (by intro y hy; simp [h0 y hy])]
 simp [h1]
theorem fewestOf_none {k : List Seat} {l : List Order} {most : Nat} (h0 : ∀ y ∈ waysL l.length most 0 [], (firN y).all (fitsB k l) = false) : fewestOf k l most = none := by
 unfold fewestOf
 rw [List.find?_eq_none.2 (by intro y hy; simp [h0 y hy])]
 rfl
theorem fewestN_some {k : List Seat} {l : List Order} {most : Nat} {r : List Nat} (h9 : most ≤ l.length) (h0 : ∀ j, j < most → fewestOf k l j = none) (h1 : fewestOf k l most = some r) : fewestN k l = some r := by
 unfold fewestN
 have e : List.range (l.length + 1) = List.range most ++ most :: (List.range' (most + 1) (l.length - most)) := by
  have h2 := List.range'_append_1 (s := 0) (m := most) (n := l.length + 1 - most)
  rw [Nat.zero_add] at h2
  rw [List.range_eq_range', List.range_eq_range', show l.length + 1 = most + (l.length + 1 - most) by omega, ← h2]
  congr 1
  rw [show l.length + 1 - most = (l.length - most) + 1 by omega]
  simp [List.range'_succ]
 rw [e, List.findSome?_append, List.findSome?_eq_none_iff.2 (by intro j hj; exact h0 j (List.mem_range.1 hj))]
 simp [h1]
theorem fewestN_none {k : List Seat} {l : List Order} (h0 : ∀ j, j ≤ l.length → fewestOf k l j = none) : fewestN k l = none := by
 unfold fewestN
 rw [List.findSome?_eq_none_iff]
 intro j hj
 exact h0 j (by have := List.mem_range.1 hj; omega)
set_option maxHeartbeats 1000000 in
theorem unfit_b {m b mf n : Nat} {t : Bool} {g : Int → Option Bool} {W : World} (hm : m < 512) (hb : W.cell? ⟨b, 0, none⟩ = some (.map (some mf))) (hM : TMap W mf n g) (hg : g (m : Int) = some t) :
  Calls Tryz.prog 92 #[.int .u64 (m : Int), .pointer (some ⟨b, 0, none⟩)] W fun e W' => e = .returned (.bool (!t)) ∧ Below W.heap.size W W' := by
 have hwf : (Lit.int .u64 (m : Int)).wf = true := wf_u64 (by omega) (by omega)
 have hlook := hM.look_bool Tryz.underlying93 Tryz.underlying135 Tryz.underlying4 (Tryz.zeroValue4 _) hwf
 rw [hg] at hlook
 simp only [Option.getD_some] at hlook
 clear hM hg hwf
 go_enter Tryz.func92, Tryz.ntmps92
 go_wp2
 all_goals first | (go_ret; exact ⟨rfl, Below.refl _ _⟩) | skip
theorem subB_all {n s : Nat} (h : s < 2 ^ n) : subB s (2 ^ n - 1) = true := by
 unfold subB
 rw [Nat.and_two_pow_sub_one_eq_mod, Nat.mod_eq_of_lt h]
 simp
structure FS (w : World) (ob mb : Nat) (k : List Seat) (l : List Order) (W : World) : Prop where
 rm : RM W mb k l
 gr : w.grownBy W (some mb)
 x0 : Boxed W w.heap.size 80 (.pointer (some ⟨ob, 0, none⟩))
 x1 : Boxed W (w.heap.size + 1) 84 (.slice none 0 0)
 x2 : Boxed W (w.heap.size + 1 + 1) 4 (.bool false)
 tm : ∃ n G, TMap W (w.heap.size + 1 + 1 + 1) n G ∧ ∀ m : Nat, m < 2 ^ l.length → G (m : Int) = some (fitsB k l m)
 x4 : Boxed W (w.heap.size + 1 + 1 + 1 + 1) 135 (.map (some (w.heap.size + 1 + 1 + 1)))
theorem FS.step {w : World} {ob mb : Nat} {k : List Seat} {l : List Order} {W W' : World} (h : FS w ob mb k l W) (hmb : mb < w.heap.size) (hb : Below (w.heap.size + 5) W W') : FS w ob mb k l W' := by
 obtain ⟨n, G, h1, h2⟩ := h.tm
 exact ⟨h.rm.step (hb.block _ (by omega)), grown_low h.gr hb.size hb.os hb.tape hb.output (fun j hj => hb.block j (by omega)), (hb.block _ (by omega)).trans h.x0, (hb.block _ (by omega)).trans h.x1, (hb.block _ (by omega)).trans h.x2, ⟨n, G, h1.step (hb.block _ (by omega)), h2⟩, (hb.block _ (by omega)).trans h.x4⟩
theorem tab_full {k : List Seat} {l : List Order} (hm : allN l < 512) : ∀ m : Nat, m < 2 ^ l.length → tabG k l (valS (partsS hm)) (m : Int) = some (fitsB k l m) := by
 intro m h
 have h1 : subB m (allN l) = true := subB_all h
 have h2 : m ≤ allN l := subB_le h1
 unfold tabG
 rw [if_pos]
 ·simp
 ·refine ⟨by omega, ?_⟩
  rw [valS_all]
  exact List.mem_map.2 ⟨⟨m, by omega⟩, (partsF_mem hm).2 h1, by simp⟩
set_option maxHeartbeats 4000000 in
set_option maxRecDepth 100000 in
theorem fewest_b {w : World} {ob mb : Nat} {k : List Seat} {l : List Order} (hO : Off w ob mb k l) (hF : Fine k l) :
  Calls Tryz.prog 44 #[.pointer (some ⟨ob, 0, none⟩)] w fun e w' => ∃ v, e = .returned (.tuple #[v, .bool (fewestN k l).isSome]) ∧ Kd.R (Kd.int .u64) 93 w' w.heap.size (fun _ => True) v (natsI ((fewestN k l).getD [])) ∧ Off w' ob mb k l ∧ w.grownBy w' (some mb) := by
 have h9 := hF.h9
 have hm := two_lt hF.h9 (allN_lt l)
 have hp := fun W => parts_b hm W
 have hal := fun (W : World) (hW : Off W ob mb k l) => all_b hW hF
 rw [allN_int] at hal
 have hmix : Tryz.prog.follows .mixedOrders = true := by kernel_rfl
 have hmm := @run_makeMap Tryz.prog
 have HP := Aside0.mk hp
 have HAL := Aside0.mk hal
 have HO := Aside0.mk hO
 have HF := Aside0.mk hF
 have HLT := Aside0.mk hO.lt
 have HM := Aside0.mk (fun (s : Sub (allN l)) => (show s.val.val < 2 ^ l.length from Nat.lt_of_le_of_lt s.2 (allN_lt l)))
 have HHM := Aside0.mk hm
 have HLP := Aside0.mk (partsF_len' hm)
 clear hp hO hF hal
 have hu := Tryz.underlying129
 have hbw : ∀ v1 v2 v3 o v4 t1 t2 t3 t4, Below w.heap.size w (((((w.alloc (.cells #[v1] t1)).alloc (.cells #[v2] t2)).alloc (.cells #[v3] t3)).alloc o).alloc (.cells #[v4] t4)) := fun v1 v2 v3 o v4 t1 t2 t3 t4 => below_alloc (below_alloc (below_alloc (below_alloc (below_alloc (Below.refl _ _) _) _) _) _) _
 have HBW := Aside0.mk hbw
 clear hbw
 refine (callsIn_wide (n := 7)).1 ?_
 refine callsIn_of_wp_marks Tryz.func44 rfl trivial ?_ rfl
 simp only [Tryz.ntmps44, List.size_toArray, List.length_cons, List.length_nil, Nat.reduceAdd, Nat.reduceSub, Array.replicate_succ, Array.replicate_zero, List.push_toArray, List.append_toArray, List.nil_append, List.cons_append]
 gi_wp2
 refine wpIn_scope ?_
 gi_wp2
 obtain ⟨W1, hW1⟩ : ∃ W1, (((((w.alloc (.cells #[.pointer (some ⟨ob, 0, none⟩)] 80)).alloc (.cells #[.slice none 0 0] 84)).alloc (.cells #[.bool false] 4)).alloc (.map #[] 0)).alloc (.cells #[.map (some (w.heap.size + 1 + 1 + 1))] 135)) = W1 := ⟨_, rfl⟩
 rw [hW1]
 have hbw := HBW.out (.pointer (some ⟨ob, 0, none⟩)) (.slice none 0 0) (.bool false) (.map #[] 0) (.map (some (w.heap.size + 1 + 1 + 1))) 80 84 4 135
 rw [hW1] at hbw
 have b0 : Boxed W1 w.heap.size 80 (.pointer (some ⟨ob, 0, none⟩)) := by rw [← hW1]; exact ((((Boxed.new w _ _).alloc _).alloc _).alloc _).alloc _
 have b1 : Boxed W1 (w.heap.size + 1) 84 (.slice none 0 0) := by
  rw [← hW1]
  have h := ((((Boxed.new (w.alloc (.cells #[.pointer (some ⟨ob, 0, none⟩)] 80)) 84 (.slice none 0 0)).alloc (.cells #[.bool false] 4)).alloc (.map #[] 0)).alloc (.cells #[.map (some (w.heap.size + 1 + 1 + 1))] 135))
  rwa [World.size_alloc] at h
 have b2 : Boxed W1 (w.heap.size + 1 + 1) 4 (.bool false) := by
  rw [← hW1]
  have h := (((Boxed.new ((w.alloc (.cells #[.pointer (some ⟨ob, 0, none⟩)] 80)).alloc (.cells #[.slice none 0 0] 84)) 4 (.bool false)).alloc (.map #[] 0)).alloc (.cells #[.map (some (w.heap.size + 1 + 1 + 1))] 135))
  rwa [World.size_alloc, World.size_alloc] at h
 have b3 : TMap W1 (w.heap.size + 1 + 1 + 1) 0 (fun _ => none) := by
  rw [← hW1]
  have h := (IMap.made (P := Tryz.prog) (kt := 93) (et := 4) (q := .u64) (lit := Lit.bool) (((w.alloc (.cells #[.pointer (some ⟨ob, 0, none⟩)] 80)).alloc (.cells #[.slice none 0 0] 84)).alloc (.cells #[.bool false] 4))).below (below_alloc (Below.refl _ _) (.cells #[.map (some (w.heap.size + 1 + 1 + 1))] 135))
  rwa [World.size_alloc, World.size_alloc, World.size_alloc] at h
 have b4 : Boxed W1 (w.heap.size + 1 + 1 + 1 + 1) 135 (.map (some (w.heap.size + 1 + 1 + 1))) := by
  rw [← hW1]
  have h := Boxed.new ((((w.alloc (.cells #[.pointer (some ⟨ob, 0, none⟩)] 80)).alloc (.cells #[.slice none 0 0] 84)).alloc (.cells #[.bool false] 4)).alloc (.map #[] 0)) 135 (.map (some (w.heap.size + 1 + 1 + 1)))
  rwa [World.size_alloc, World.size_alloc, World.size_alloc, World.size_alloc] at h
 have hsz1 : W1.heap.size = w.heap.size + 1 + 1 + 1 + 1 + 1 := by rw [← hW1]; simp
 clear hW1 HBW
 have HBW := Aside0.mk hbw
 clear hbw
 refine ⟨trivial, (callsIn_wide.2 (HAL.out _ (HO.out.below HBW.out))).mono ?_⟩
 rintro e V ⟨rfl, hV⟩
 have hV2 := hV.symm
 clear hV
 subst hV2
 gi_wp2_with (refine ⟨trivial, ?_⟩; gi_at_call 86; refine (callsIn_wide.2 (HP.out _)).mono ?_; rintro e W2 ⟨bx, g, cap, rfl, hPA, hlg, hlb, hbe⟩; have HPA := Aside0.mk hPA; have HBE := Aside0.mk hbe; clear hPA hbe)
 have hb2 := HBE.out
 have hbw2 : Below w.heap.size w W2 := below_refl_trans HBW.out hb2
 have c0 : Boxed W2 w.heap.size 80 (.pointer (some ⟨ob, 0, none⟩)) := (hb2.block _ b0.lt).trans b0
 have c1 : Boxed W2 (w.heap.size + 1) 84 (.slice none 0 0) := (hb2.block _ b1.lt).trans b1
 have c2 : Boxed W2 (w.heap.size + 1 + 1) 4 (.bool false) := (hb2.block _ b2.lt).trans b2
 have c3 : TMap W2 (w.heap.size + 1 + 1 + 1) 0 (tabG k l []) := (b3.below hb2).cong (fun x _ => by simp [tabG])
 have c4 : Boxed W2 (w.heap.size + 1 + 1 + 1 + 1) 135 (.map (some (w.heap.size + 1 + 1 + 1))) := (hb2.block _ b4.lt).trans b4
 have hO2 := HO.out.below hbw2
 have hbs := hb2.size
 have hgl := HPA.out.2.2
 have hlt := HLT.out
 refine wpIn_rangeFunc_ownG rfl (by omega) (gf := 132) (lb := #[.pointer (some ⟨bx, 0, none⟩)]) rfl trivial (enters_of Tryz.func132 (by kernel_rfl) rfl) (values_stops Fence.wide 6 trivial rfl (by omega) HHM.out HPA.out) KeepV.trans (KeepV.putObj hgl.1 hgl.2) (Below.refl _ _) (fun _ => rfl)
  (fun pre W => RM W mb k l ∧ w.grownBy W (some mb) ∧ Boxed W w.heap.size 80 (.pointer (some ⟨ob, 0, none⟩)) ∧ Boxed W (w.heap.size + 1) 84 (.slice none 0 0) ∧ Boxed W (w.heap.size + 1 + 1) 4 (.bool false) ∧ TMap W (w.heap.size + 1 + 1 + 1) pre.length (tabG k l (valS pre)) ∧ Boxed W (w.heap.size + 1 + 1 + 1 + 1) 135 (.map (some (w.heap.size + 1 + 1 + 1))) ∧ W2.heap.size ≤ W.heap.size)
  (fun _ _ _ => False)
  ?hI (fun _ _ _ _ _ h _ _ => h) ?h0
  (fun x => { tmps := #[.pointer (some ⟨ob, 0, none⟩), .pointer (some ⟨w.heap.size, 0, none⟩), .pointer (some ⟨w.heap.size + 1, 0, none⟩), .pointer (some ⟨w.heap.size + 1 + 1, 0, none⟩), .pointer (some ⟨w.heap.size + 1 + 1 + 1 + 1, 0, none⟩), .int .u64 (x.val.val : Int), undef, undef, undef, .map (some (w.heap.size + 1 + 1 + 1)), .pointer (some ⟨ob, 0, none⟩), .int .u64 ((allN l : Nat) : Int), .func (.func 132) #[] #[.pointer (some ⟨bx, 0, none⟩)], .int .u64 (x.val.val : Int), undef, undef, undef, undef, undef, undef, undef, undef, undef, undef, undef, undef, undef, undef, undef, undef, undef, undef, undef, undef, undef, undef, undef, undef, undef, undef, undef, undef, undef, undef, undef, undef, undef, undef, undef, undef, undef], defers := [] }) ?assign ?body ?done ?stop
 case hI =>
  rintro pre W W' row ⟨g1, g2, g3, g4, g5, g6, g7, g8⟩ hg hr
  have hne : ∀ b : Nat, b < W2.heap.size → some b ≠ row := fun b hb e => by have := (hr _ e.symm).1; omega
  exact ⟨g1.step (hg.block mb (by omega) (hne _ (by omega))), grown_own g2 hg (fun x e => by have := (hr x e).1; omega), g3.kept hg (hne _ (by omega)), g4.kept hg (hne _ (by omega)), g5.kept hg (hne _ (by omega)), g6.kept hg (hne _ (by omega)), g7.kept hg (hne _ (by omega)), Nat.le_trans g8 hg.size⟩
 case h0 => exact ⟨hO2.rm, grown_of_below hbw2 _, c0, c1, c2, c3, c4, Nat.le_refl _⟩
 case assign =>
  intro l' x W K hK
  gi_wp2
  exact hK
 case body =>
  rintro l' pre x W ⟨g1, g2, g3, g4, g5, g6, g7, g8⟩ hpl
  have hx := HM.out x
  have hcr := fits_b (w := W.drew) (HO.out.grow (grown_below g2 (below_drew (Below.refl _ _))) (g1.step rfl)) HF.out hx
  have HCR := Aside0.mk hcr
  have G1 := Aside0.mk g1
  have G2 := Aside0.mk g2
  have G6 := Aside0.mk g6
  have HLQ := Aside0.mk (show pre.length < maxLen by have := HLP.out; simp only [maxLen]; omega)
  have e0 := g3.cell
  have e7 := g7.cell
  have HWF := Aside0.mk (show (Lit.int .u64 (x.val.val : Int)).wf = true from wf_u64 (by omega) (by have := x.val.isLt; omega))
  have HSN := Aside0.mk (show tabG k l (valS (pre ++ [x])) = fun z => if z = (x.val.val : Int) then some (fitsB k l x.val.val) else tabG k l (valS pre) z by unfold valS; rw [List.map_append]; exact tabG_snoc _ _ _ _)
  clear hcr g1 g2 g6 hx
  generalize fitsB k l x.val.val = ft at *
  gi_wp2
  gi_region_with_o (refine ⟨trivial, ?_⟩; gi_at_call 64; refine (CallsIn.inRound l' (callsIn_wide.2 HCR.out)).mono ?_; rintro e W3 ⟨rfl, hO3, hg3⟩; have hg3' : W.grownBy W3 (some mb) := below_grown' (below_drew (Below.refl _ _)) hg3; have e8 := (g3.kept hg3' (by simp; omega)).cell; have e9 := (g7.kept hg3' (by simp; omega)).cell; obtain ⟨W4, hrun, hm4, hg4⟩ := IMap.update (G6.out.kept hg3' (by simp; omega)) Tryz.underlying93 Tryz.underlying135 HLQ.out HWF.out (val := .bool ft) (y := ft) (plainElem_bool Tryz.underlying4 ft))
  all_goals
   have hs3 := hg3'.size
   have hs4 := hg4.size
   have kv : ∀ j, j < W.heap.size → j ≠ mb → j ≠ w.heap.size + 1 + 1 + 1 → W4.heap[j]? = W.heap[j]? := fun j h1 h2 h3 => (hg4.block j (by omega) (by simp; exact h3)).trans (hg3'.block j h1 (by simp; exact h2))
   refine ⟨(KeepsFrom.of_grownBy hg3' (fun j e => by cases e; omega)).trans (KeepsFrom.of_grownBy hg4 (fun j e => by cases e; omega)), ⟨kv _ (by omega) (by omega) (by omega), kv _ (by omega) (by omega) (by omega)⟩, hO3.rm.step (hg4.block mb (by omega) (by simp; omega)), grown_own (grown_trans G2.out hg3') hg4 (fun x e => by cases e; omega), (kv _ (by omega) (by omega) (by omega)).trans g3, (kv _ (by omega) (by omega) (by omega)).trans g4, (kv _ (by omega) (by omega) (by omega)).trans g5, ?_, (kv _ (by omega) (by omega) (by omega)).trans g7, by omega⟩
   rw [HSN.out, List.length_append]
   exact hm4
 case done =>
  rintro D ys W hD rfl ⟨g1, g2, g3, g4, g5, g6, g7, g8⟩ hK
  have hFS : FS w ob mb k l W := ⟨g1, g2, g3, g4, g5, ⟨_, _, g6, tab_full hm⟩, g7⟩
  have hDf : DefOk (w.heap.size + 5) W W.heap.size [{ target := .collected D, args := #[] }] := ⟨D, rfl, (Array.getElem?_eq_some_iff.1 hK).1, by omega, hK, trivial⟩
  have hsz : w.heap.size + 5 ≤ W.heap.size := by omega
  have HFS := Aside0.mk hFS
  have HDF := Aside0.mk hDf
  have e0 := g3.cell
  obtain ⟨A, cA, B, cB, G, hblk, _⟩ := HO.out.grow g2 g1
  have q0 := (blk_cell hblk 0).trans rfl
  have q1 := (blk_cell hblk 1).trans rfl
  have HWB := Aside0.mk (fun (most : Nat) V => ways_b l.length most V)
  obtain ⟨A2, cA2, B2, cB2, G2, hblk2, hrest⟩ := HO.out
  have HBLK := Aside0.mk hblk2
  have HOB := Aside0.mk (blk_lt hblk2)
  have HCN1 := Aside0.mk (fun most (pre : List (List Nat)) x => @fewestOf_some k l most pre x)
  have HCN2 := Aside0.mk (fun most => @fewestOf_none k l most)
  have HCN3 := Aside0.mk (fun most r => @fewestN_some k l most r)
  have HCN4 := Aside0.mk (@fewestN_none k l)
  have HLT0 := Aside0.mk hlt
  clear g1 g2 g3 g4 g5 g6 g7 g8 hK hFS hDf hblk hblk2 hrest HP HAL HM HPA HBE HBW hb2 hbw2 c0 c1 c2 c3 c4 hO2 hgl b0 b1 b2 b3 b4 hlg hlb hsz1 hbs hlt
  gi_wp2
  refine wpIn_label ?_
  gi_wp2
  refine wpIn_loop (fun a' X => ∃ (most : Nat) (ds : List Deferred) (u6 u26 u27 u28 u29 u30 u31 u32 u33 u34 u43 u44 u45 u46 u47 u48 u49 u50 : Value), a' = { tmps := #[.pointer (some ⟨ob, 0, none⟩), .pointer (some ⟨w.heap.size, 0, none⟩), .pointer (some ⟨w.heap.size + 1, 0, none⟩), .pointer (some ⟨w.heap.size + 1 + 1, 0, none⟩), .pointer (some ⟨w.heap.size + 1 + 1 + 1 + 1, 0, none⟩), undef, u6, undef, undef, .map (some (w.heap.size + 1 + 1 + 1)), .pointer (some ⟨ob, 0, none⟩), .int .u64 ((allN l : Nat) : Int), .func (.func 132) #[] #[.pointer (some ⟨bx, 0, none⟩)], undef, undef, undef, undef, undef, undef, .pointer (some ⟨ob, 0, none⟩), .pointer (some ⟨ob, 0, none⟩), .pointer (some ⟨ob, 1, none⟩), .slice B l.length cB, .int .i64 (l.length : Int), .int .i64 ((l.length : Int) + 1), .int .i64 (most : Int), u26, u27, u28, u29, u30, u31, u32, u33, u34, undef, undef, undef, undef, undef, undef, undef, undef, u43, u44, u45, u46, u47, u48, u49, u50], defers := ds } ∧ most ≤ l.length ∧ (∀ j, j < most → fewestOf k l j = none) ∧ Aside0 (FS w ob mb k l X) ∧ Aside0 (DefOk (w.heap.size + 5) X X.heap.size ds) ∧ w.heap.size + 5 ≤ X.heap.size) (fun a' _ => l.length + 1 - (intOf (a'.tmps.getD 25 undef)).toNat) ?lstart ?lround
  case lstart => exact ⟨0, _, _, _, _, _, _, _, _, _, _, _, _, _, _, _, _, _, _, _, rfl, Nat.zero_le _, fun j h => by omega, HFS, HDF, hsz⟩
  case lround =>
   clear HFS HDF hsz e0 q0 q1
   rintro a' X ⟨most, ds, u6, u26, u27, u28, u29, u30, u31, u32, u33, u34, u43, u44, u45, u46, u47, u48, u49, u50, rfl, hmo, hno, HFS, HDF, hsz⟩
   have HNO := Aside0.mk hno
   clear hno
   have hd1 : decide ((most : Int) < (l.length : Int) + 1) = true := by simp; omega
   have e0 := HFS.out.x0.cell
   have hblk := (HFS.out.gr.block ob HOB.out (by simp; have := HLT0.out; omega)).trans HBLK.out
   have q0 := (blk_cell hblk 0).trans rfl
   have q1 := (blk_cell hblk 1).trans rfl
   clear hblk
   gi_wp2_with (refine ⟨trivial, ?_⟩; gi_at_call 90; refine (callsIn_wide.2 (HWB.out most _)).mono ?_; rintro e V ⟨rfl, rfl⟩)
   obtain ⟨X2, hX2⟩ : ∃ X2, ((X.alloc (.cells #[.int .i64 (l.length : Int)] 3)).alloc (.cells #[.int .i64 (most : Int)] 3)) = X2 := ⟨_, rfl⟩
   rw [hX2]
   have bI : Boxed X2 X.heap.size 3 (.int .i64 (l.length : Int)) := by rw [← hX2]; exact (Boxed.new X _ _).alloc _
   have bM : Boxed X2 (X.heap.size + 1) 3 (.int .i64 (most : Int)) := by
    rw [← hX2]
    have h := Boxed.new (X.alloc (.cells #[.int .i64 (l.length : Int)] 3)) 3 (.int .i64 (most : Int))
    rwa [World.size_alloc] at h
   have hbX : Below X.heap.size X X2 := by rw [← hX2]; exact below_alloc (below_alloc (Below.refl _ _) _) _
   have hsX : X2.heap.size = X.heap.size + 1 + 1 := by rw [← hX2]; simp
   have hlt := HLT0.out
   have hfs2 : FS w ob mb k l X2 := HFS.out.step hlt.2.1 (hbX.mono (by omega))
   have hdf2 : DefOk (w.heap.size + 5) X2 X.heap.size ds := HDF.out.keep (fun E h1 h2 h3 => (hbX.block E h2).trans h3)
   clear hX2 q0 q1 e0
   have HWL := Aside0.mk (fun x (hx : x ∈ waysL l.length most 0 []) => (⟨by have := ways_len l.length most 0 [] x hx; simpa using this, ways_lt l.length most 0 [] x (by simp) hx⟩ : x.length = l.length ∧ ∀ f ∈ x, f < most))
   refine wpIn_ways (B0 := X.heap.size) (items := l.length) (most := most) h9 (by omega) rfl bI bM rfl
    (fun pre V => FS w ob mb k l V ∧ DefOk (w.heap.size + 5) V X.heap.size ds ∧ X.heap.size + 2 ≤ V.heap.size ∧ ∀ y ∈ pre, (firN y).all (fitsB k l) = false)
    (fun c pre V => c = .ret ∧ ∃ pre0 y, pre = pre0 ++ [y] ∧ (∀ z ∈ pre0, (firN z).all (fitsB k l) = false) ∧ (firN y).all (fitsB k l) = true ∧ RM V mb k l ∧ w.grownBy V (some mb) ∧ DefOk (w.heap.size + 5) V X.heap.size ds ∧ ∃ v, Boxed V (w.heap.size + 1) 84 v ∧ Boxed V (w.heap.size + 1 + 1) 4 (.bool true) ∧ V.ownsRow (X2.heap.size + 5) 93 1 v (natsI (firN y)).length (encs (Value.int .u64) (natsI (firN y))))
    ?wI ?wIx ?w0
    (fun v => { tmps := #[.pointer (some ⟨ob, 0, none⟩), .pointer (some ⟨w.heap.size, 0, none⟩), .pointer (some ⟨w.heap.size + 1, 0, none⟩), .pointer (some ⟨w.heap.size + 1 + 1, 0, none⟩), .pointer (some ⟨w.heap.size + 1 + 1 + 1 + 1, 0, none⟩), undef, .int .i64 (most : Int), v, undef, .map (some (w.heap.size + 1 + 1 + 1)), .pointer (some ⟨ob, 0, none⟩), .int .u64 ((allN l : Nat) : Int), .func (.func 132) #[] #[.pointer (some ⟨bx, 0, none⟩)], undef, undef, undef, undef, undef, undef, .pointer (some ⟨ob, 0, none⟩), .pointer (some ⟨ob, 0, none⟩), .pointer (some ⟨ob, 1, none⟩), .slice B l.length cB, .int .i64 (l.length : Int), .int .i64 ((l.length : Int) + 1), .int .i64 (most : Int), .bool true, .int .i64 (most : Int), .pointer (some ⟨ob, 0, none⟩), .pointer (some ⟨ob, 0, none⟩), .pointer (some ⟨ob, 1, none⟩), .slice B2 l.length cB2, .int .i64 (l.length : Int), .int .i64 (most : Int), .func (.func 123) #[] #[.pointer (some ⟨X.heap.size, 0, none⟩), .pointer (some ⟨X.heap.size + 1, 0, none⟩)], v, undef, undef, undef, undef, undef, undef, undef, u43, u44, u45, u46, u47, u48, u49, u50], defers := [] }) ?wassign ?wbody ?wdone ?wstop
   case wI =>
    rintro pre V Y ⟨g1, g2, g3, g4⟩ hb
    exact ⟨g1.step hlt.2.1 (hb.mono (by omega)), g2.keep (fun E h1 h2 h3 => (hb.block E h2).trans h3), Nat.le_trans g3 hb.size, g4⟩
   case wIx =>
    rintro c pre V Y b ⟨rfl, pre0, y, g0, g1, g2, g3, g4, g5, v, g6, g7, g8⟩ hb hlo hhi
    have hs4 := g4.size
    exact ⟨rfl, pre0, y, g0, g1, g2, g3.step (hb.block mb (by omega) (by simp; omega)), grown_own g4 hb (fun x e => by cases e; omega), g5.keep (fun E h1 h2 h3 => (hb.block E (Array.getElem?_eq_some_iff.1 h3).1 (by simp; omega)).trans h3), v, g6.kept hb (by simp; omega), g7.kept hb (by simp; omega), g8.kept hb (own_ne g8 (by omega))⟩
   case w0 => exact ⟨hfs2, hdf2, by omega, by simp⟩
   case wassign =>
    intro l' v V K hK
    gi_wp2
    exact hK
   case wbody =>
    rintro l' pre x A' cc V ⟨g1, g2, g3, g4⟩ hpre hx hcc hCx hsV
    obtain ⟨_, hxm⟩ := HWL.out x (pre_mem hpre)
    have hfr := plan_firings.calls 130 A' cc (natsI x) _ V hCx (by simp [natsI]; omega) (firings_some x (by omega) (fun f hf => by have := hxm f hf; omega))
    have hnx : (natsI x).length = l.length := by simp [natsI]; omega
    rw [hnx] at hfr
    have hbn : ∀ m ∈ firN x, m < 2 ^ l.length := fun m hm => by have := firN_lt hm; rwa [hx] at this
    obtain ⟨nT, G, htm, hG⟩ := g1.tm
    have hcf : ∀ (V3 : World) (A2 : Option Addr) (c2 : Nat), Below V.heap.size V V3 → Kd.C (Kd.int .u64) V3 A2 (natsI (firN x)).length (natsI (firN x)) → Calls Tryz.prog 52 #[.slice A2 (natsI (firN x)).length c2, .func (.func 92) #[] #[.pointer (some ⟨w.heap.size + 1 + 1 + 1 + 1, 0, none⟩)]] V3 fun e V' => e = .returned (.bool (!(firN x).all (fitsB k l))) ∧ Below V3.heap.size V3 V' := by
     intro V3 A2 c2 hV hC2
     have he : (natsI (firN x)).any (fun m => !fitsB k l m.toNat) = !(firN x).all (fitsB k l) := by
      unfold natsI
      rw [List.any_map, List.all_eq_not_any_not, Bool.not_not]
      rfl
     rw [← he]
     refine idxMaskAny.calls (p := fun m => !fitsB k l m.toNat) (R := fun W W' => Below W.heap.size W W')
      {eg := enters_of Tryz.func92 (by kernel_rfl) rfl, refl := Below.refl _ _, call := fun m V' hm hV' => ?_ } (fun V' hV' => Kd.C_below hC2 hV')
     obtain ⟨mn, hmn, rfl⟩ := List.mem_map.1 hm
     have hb := hbn mn hmn
     have hVV := below_refl_trans hV hV'
     exact (unfit_b (m := mn) (two_lt h9 hb) ((hVV.cell (p := ⟨w.heap.size + 1 + 1 + 1 + 1, 0, none⟩) g1.x4.lt).trans g1.x4.cell) (htm.below hVV) (hG mn hb)).mono fun e V'' ⟨h1, h2⟩ => ⟨h1, below_refl_trans hV' h2⟩
    have HFR := Aside0.mk hfr
    have HCF := Aside0.mk hcf
    have G1 := Aside0.mk g1
    have G2 := Aside0.mk g2
    have G4 := Aside0.mk g4
    have hs1 := g1.gr.size
    clear hfr hcf hCx hbn hxm hnx g4 htm hG g2 hfs2 hdf2 g1
    cases hall : (firN x).all (fitsB k l)
    ·rw [hall] at HCF
     have HALL := Aside0.mk hall
     clear hall
     gi_wp2_with (first | (refine ⟨trivial, ?_⟩; gi_at_call 91; refine (CallsIn.inRound l' (callsIn_wide.2 HFR.out)).mono ?_; rintro e V3 ⟨v3, rfl, hR3, hb3⟩; obtain ⟨A3, c3, rfl, hc3, hC3⟩ := Kd.R_reads hR3) | (refine ⟨trivial, ?_⟩; gi_at_call 52; refine (CallsIn.inRound l' (callsIn_wide.2 (HCF.out _ A3 c3 hb3 hC3))).mono ?_; rintro e V4 ⟨rfl, hb4⟩))
     have hb5 : Below V.heap.size V V4 := below_refl_trans hb3 hb4
     refine ⟨⟨hb5.size, fun q h1 h2 => hb5.block q h2⟩, G1.out.step hlt.2.1 (hb5.mono (by omega)), G2.out.keep (fun E h1 h2 h3 => (hb5.block E (by omega)).trans h3), Nat.le_trans g3 hb5.size, ?_⟩
     intro y hy
     rcases List.mem_append.1 hy with h | h
     ·exact G4.out y h
     ·rw [List.mem_singleton.1 h]; exact HALL.out
    ·rw [hall] at HCF
     have HALL := Aside0.mk hall
     clear hall
     gi_wp2_with (first | (refine ⟨trivial, ?_⟩; gi_at_call 91; refine (CallsIn.inRound l' (callsIn_wide.2 HFR.out)).mono ?_; rintro e V3 ⟨v3, rfl, hR3, hb3⟩; obtain ⟨A3, c3, rfl, hc3, hC3⟩ := Kd.R_reads hR3) | (refine ⟨trivial, ?_⟩; gi_at_call 52; refine (CallsIn.inRound l' (callsIn_wide.2 (HCF.out _ A3 c3 hb3 hC3))).mono ?_; rintro e V4 ⟨rfl, hb4⟩; have hb5 : Below V.heap.size V V4 := below_refl_trans hb3 hb4; have d1 := G1.out.x1.kept (grown_of_below hb5 none) (by simp); have d2 := G1.out.x2.kept (grown_of_below hb5 none) (by simp); have e1 := Boxed.cell d1; have f1 := Boxed.frozen d1; have e2 := Boxed.cell d2; have f2 := Boxed.frozen d2))
     have k1 := grownBy_setCell' V4 (w.heap.size + 1) (.slice A3 (natsI (firN x)).length c3)
     have k2 := grownBy_setCell' (V4.setCell ⟨w.heap.size + 1, 0, none⟩ (.slice A3 (natsI (firN x)).length c3)) (w.heap.size + 1 + 1) (.bool true)
     have s5 := hb5.size
     have s1 := k1.size
     have r1 := (d1.set (.slice A3 (natsI (firN x)).length c3)).kept k2 (by simp)
     have r2 := (d2.kept k1 (by simp)).set (.bool true)
     have hrow := own_turn (Kd.own_of_R hR3) (grown_of_below hb4 none) (by simp)
     have hrow2 := (hrow.kept k1 (own_ne hrow (by omega)))
     have hrow3 := own_less (hrow2.kept k2 (own_ne hrow2 (by omega))) (show X2.heap.size + 5 ≤ V.heap.size by omega)
     have kv : ∀ j, j < V.heap.size → j ≠ w.heap.size + 1 → j ≠ w.heap.size + 1 + 1 → ((V4.setCell ⟨w.heap.size + 1, 0, none⟩ (.slice A3 (natsI (firN x)).length c3)).setCell ⟨w.heap.size + 1 + 1, 0, none⟩ (.bool true)).heap[j]? = V.heap[j]? := fun j h1 h2 h3 => (k2.block j (by omega) (by simp; exact h3)).trans ((k1.block j (by omega) (by simp; exact h2)).trans (hb5.block j h1))
     exact ⟨⟨by have := k2.size; omega, fun q h1 h2 => kv q h2 (by omega) (by omega)⟩, rfl, pre, x, rfl, G4.out, HALL.out, G1.out.rm.step (kv mb (by omega) (by omega) (by omega)), grown_own (grown_own (grown_below G1.out.gr hb5) k1 (fun x e => by cases e; omega)) k2 (fun x e => by cases e; omega), G2.out.keep (fun E h1 h2 h3 => (kv E (by omega) (by omega) (by omega)).trans h3), _, r1, r2, hrow3⟩
   case wdone =>
    rintro D' V hD' ⟨g1, g2, g3, g4⟩ hK
    have hnone := HCN2.out most g4
    clear g4
    have e0 := g1.x0.cell
    have hblk := (g1.gr.block ob HOB.out (by simp; omega)).trans HBLK.out
    have q0 := (blk_cell hblk 0).trans rfl
    have q1 := (blk_cell hblk 1).trans rfl
    have hdf3 : DefOk (w.heap.size + 5) V V.heap.size ({ target := .collected D', args := #[] } :: ds) := ⟨D', rfl, (Array.getElem?_eq_some_iff.1 hK).1, by omega, hK, g2.mono (by omega)⟩
    have HDF3 := Aside0.mk hdf3
    have HNONE := Aside0.mk hnone
    have HFS3 := Aside0.mk g1
    have m1 := g1.x1.cell
    have m2 := g1.x1.frozen
    have m3 := g1.x2.cell
    have m4 := g1.x2.frozen
    clear hblk hdf3 hnone hfs2 hdf2 hbX g1 g2 HFS HDF
    by_cases he : most = l.length
    ·have hbe : ((most : Int) == (l.length : Int)) = true := by simp; omega
     gi_wp2
     have hfew := HCN4.out (fun j hj => by
      rcases Nat.lt_or_ge j most with h | h
      ·exact HNO.out j h
      ·rw [show j = most by omega]; exact HNONE.out)
     have k1 := grownBy_setCell' V (w.heap.size + 1) (.slice none 0 0)
     have k2 := grownBy_setCell' (V.setCell ⟨w.heap.size + 1, 0, none⟩ (.slice none 0 0)) (w.heap.size + 1 + 1) (.bool false)
     have r1 := (HFS3.out.x1.set (.slice none 0 0)).kept k2 (by simp)
     have r2 := (HFS3.out.x2.kept k1 (by simp)).set (.bool false)
     have hrm := (HFS3.out.rm.step (k1.block mb (by have := HFS3.out.gr.size; omega) (by simp; omega))).step (k2.block mb (by have := HFS3.out.gr.size; have := k1.size; omega) (by simp; omega))
     have hgr := grown_own (grown_own HFS3.out.gr k1 (fun x e => by cases e; omega)) k2 (fun x e => by cases e; omega)
     have hdf := HDF3.out.keep (W' := (V.setCell ⟨w.heap.size + 1, 0, none⟩ (.slice none 0 0)).setCell ⟨w.heap.size + 1 + 1, 0, none⟩ (.bool false)) (fun E h1 h2 h3 => (k2.block E (by have := k1.size; omega) (by simp; omega)).trans ((k1.block E h2 (by simp; omega)).trans h3))
     generalize (V.setCell ⟨w.heap.size + 1, 0, none⟩ (.slice none 0 0)).setCell ⟨w.heap.size + 1 + 1, 0, none⟩ (.bool false) = Y at *
     refine leaves_marks (base := w.heap.size + 5) _ V.heap.size _ hdf (fun W' hs => ?_)
     refine ⟨_, results_cell2 rfl _ _ _ rfl rfl (lv_one (Tryz.isAgg84 _) (hs.boxed r1).cell) (lv_one (Tryz.isAgg4 _) (hs.boxed r2).cell), _, by rw [hfew]; rfl, ?_, HO.out.grow (hs.grown hgr (by omega)) (hrm.step (hs.low mb (by omega))), hs.grown hgr (by omega)⟩
     rw [hfew]
     exact Kd.R_nil _ _ _ _ _
    ·have hbe : ((most : Int) == (l.length : Int)) = false := by simp; omega
     gi_wp2
     refine ⟨⟨most + 1, _, _, _, _, _, _, _, _, _, _, _, _, _, _, _, _, _, _, _, rfl, by omega, fun j hj => ?_, HFS3, HDF3, by have := HFS3.out.gr.size; have := HDF3.out; omega⟩, ?_⟩
     ·rcases Nat.lt_or_ge j most with h | h
      ·exact HNO.out j h
      ·rw [show j = most by omega]; exact HNONE.out
     ·simp [intOf]; omega
   case wstop =>
    rintro D' c pre V hD' hp ⟨rfl, pre0, y, rfl, g1, g2, g3, g4, g5, v, g6, g7, g8⟩ hK
    have hdf3 : DefOk (w.heap.size + 5) V V.heap.size ({ target := .collected D', args := #[] } :: ds) := ⟨D', rfl, (Array.getElem?_eq_some_iff.1 hK).1, by omega, hK, g5.mono (by omega)⟩
    have hfew := HCN3.out most _ (by omega) HNO.out (HCN1.out most pre0 y hp g1 g2)
    have HR := Aside0.mk hfew
    have HDF4 := Aside0.mk hdf3
    have G3 := Aside0.mk g3
    have G4 := Aside0.mk g4
    have G8 := Aside0.mk g8
    clear hfew hdf3 g1 g2 g3 g4 g5 g8
    gi_wp2
    refine leaves_marks (base := w.heap.size + 5) _ V.heap.size _ HDF4.out (fun W' hs => ?_)
    refine ⟨_, results_cell2 rfl _ _ _ rfl rfl (lv_one (Tryz.isAgg84 _) (hs.boxed g6).cell) (lv_one (Tryz.isAgg4 _) (hs.boxed g7).cell), _, by rw [HR.out]; rfl, ?_, HO.out.grow (hs.grown G4.out (by omega)) (G3.out.step (hs.low mb (by omega))), hs.grown G4.out (by omega)⟩
    rw [HR.out]
    exact Kd.R_of_own (own_less (hs.own G8.out) (by omega)) (fun _ _ => trivial)
 case stop =>
  rintro D c pre W hD hp h hK
  exact h.elim
end Go.Proofs.YthonlcnmjlldiaaGreat.P
namespace Go.Proofs.YthonlcnmjlldiaaGreat.P
open Go.Shelf Go.RowKit Go.Proofs.YthonlcnmjlldiaaGreatW.PrintWords Go.Proofs.YthonlcnmjlldiaaGreatW.PrintLast Go.Proofs.YthonlcnmjlldiaaGreatW.PrintMore
def fittedB (k : List Seat) (l : List Order) (n : Int) : Bool := match fewestN k l with | some r => decide ((r.length : Int) ≤ n) | none => false
def reasonR (k : List Seat) (l : List Order) (n : Int) : List (List Int) × Int :=
 if askErr k l = 0 then (if 0 ≤ n ∧ n ≤ 8 then (if fittedB k l n then ([], 64) else (crowdsL k l, 0)) else ([], 1)) else ([], askErr k l)
def plan_Reason.f (l0 : List Seat) (l1 : List Order) (a2 : Int) : Option (List (List Int) × Int) := some (reasonR l0 l1 a2)
theorem within8 (n : Int) : plan_isWithin.f n 0 8 = some (decide (0 ≤ n ∧ n ≤ 8)) := by
 unfold plan_isWithin.f
 by_cases h : 0 ≤ n
 ·rw [if_pos h]; simp [h]
 ·rw [if_neg h]; simp [h]
theorem fewest_len {k : List Seat} {l : List Order} {r : List Nat} (h : fewestN k l = some r) : r.length ≤ l.length := by
 unfold fewestN at h
 obtain ⟨most, hm, h2⟩ := List.exists_of_findSome?_eq_some h
 unfold fewestOf at h2
 obtain ⟨x, hx, rfl⟩ := Option.map_eq_some_iff.1 h2
 have hxm := List.mem_of_find?_eq_some hx
 have hl := ways_lt _ _ _ _ _ (by simp) hxm
 have hmo := List.mem_range.1 hm
 have aux : ∀ (l : List Nat) (u : Nat), (∀ f ∈ l, f < most) → u ≤ most → l.foldl (fun u f => max u (f + 1)) u ≤ most := by
  intro l
  induction l with
  | nil => intro u _ h; exact h
  | cons x xs ih2 => intro u h h2; exact ih2 _ (fun f hf => h f (by simp [hf])) (by have := h x (by simp); simp only; omega)
 have := aux x 0 hl (by omega)
 simp only [firN, List.length_map, List.length_range, usedL]
 omega
theorem natsI_len (l : List Nat) : (natsI l).length = l.length := by simp [natsI]
set_option maxHeartbeats 2000000 in
set_option maxRecDepth 100000 in
theorem plan_Reason.calls (A0 : Option Addr) (c0 : Nat) (l0 : List Seat) (A1 : Option Addr) (c1 : Nat) (l1 : List Order) (a2 : Int) (r1 : List (List Int)) (r2 : Int) (w : World) (hr0 : KS w A0 l0) (hc0 : l0.length ≤ c0) (hr1 : KO w A1 l1) (hc1 : l1.length ≤ c1) (h : plan_Reason.f l0 l1 a2 = some (r1, r2)) :
  Calls Tryz.prog 10 #[.slice A0 l0.length c0, .slice A1 l1.length c1, .int .i64 a2] w fun e w' => ∃ v0_ : Value, e = .returned (.tuple #[v0_, .int .i64 r2]) ∧ Kd.S (Kd.slice 3 (Kd.int .i64)) 41 w' w.heap.size (fun _ => True) v0_ r1 ∧ Below w.heap.size w w' := by
 have h := Option.some.inj h
 unfold reasonR at h
 by_cases he : askErr l0 l1 = 0
 ·rw [if_pos he] at h
  have hF := (fine_ask he).1
  have hA := asked_ok hr0 hc0 hr1 hc1 (askErr_ok he).1 (askErr_ok he).2
  have HA := Aside0.mk hA
  have HF := Aside0.mk hF
  have HW := Aside0.mk (fun V => plan_isWithin.calls a2 0 8 _ V (within8 a2))
  clear hA he hF hr0 hr1
  by_cases hn : 0 ≤ a2 ∧ a2 ≤ 8
  ·rw [if_pos hn] at h
   have hdn : decide (0 ≤ a2 ∧ a2 ≤ 8) = true := decide_eq_true hn
   rw [hdn] at HW
   cases hfit : fittedB l0 l1 a2
   ·rw [hfit] at h
    simp only [Bool.false_eq_true, if_false, Prod.mk.injEq] at h
    obtain ⟨h1, rfl⟩ := h
    have hls := crowdsL_some (k := l0) HF.out.h9
    rw [h1] at hls
    have HL := Aside0.mk hls
    clear h1 hls hdn
    go_enter Tryz.func10, Tryz.ntmps10
    go_wp2_with fail
    refine HA.out.mono ?_
    rintro e w2 ⟨ob, mb, rfl, hO, hb, hl1, hl2⟩
    have HO := Aside0.mk hO
    have HB := Aside0.mk hb
    clear hO hb
    go_wp2_with fail
    refine (HW.out _).mono ?_
    rintro e w3 ⟨rfl, hd⟩
    have HB3 := Aside0.mk hd.below
    clear hd
    have HO3 := Aside0.mk (HO.out.below HB3.out)
    go_wp2_with fail
    refine (fewest_b HO3.out HF.out).mono ?_
    rintro e w4 ⟨v, rfl, hR, hO4, hg4⟩
    obtain ⟨A, cc, rfl, hcc, hC⟩ := Kd.R_reads hR
    have HO4 := Aside0.mk hO4
    have HG4 := Aside0.mk hg4
    clear hR hC hcc hO4 hg4
    have HT := Aside0.mk (fun (W : World) (hW : Off W ob mb l0 l1) => crowds_b hW HF.out)
    have hfin : ∀ w5 w6 : World, w4.grownBy w5 (some mb) → Below w5.heap.size w5 w6 → Below w.heap.size w w6 := by
     intro w5 w6 h5 h6
     have q1 := below_refl_trans HB.out HB3.out
     have q2 := q1.grown HG4.out q1.size (fun j hj => by cases hj; exact hl2)
     have q3 := q2.grown h5 q2.size (fun j hj => by cases hj; exact hl2)
     exact below_refl_trans q3 h6
    have HFIN := Aside0.mk hfin
    have HSZ := Aside0.mk (show ∀ w5 : World, w4.grownBy w5 (some mb) → w.heap.size ≤ w5.heap.size from fun w5 h5 => by
     have q1 := (below_refl_trans HB.out HB3.out).size
     have q2 := HG4.out.size
     have q3 := h5.size
     omega)
    clear hfin
    have hlist : ∀ (A : Option Addr) (cc : Nat) (W : World), Kd.C (Kd.int .u64) W A (natsI (crowdsN l0 l1)).length (natsI (crowdsN l0 l1)) → (natsI (crowdsN l0 l1)).length ≤ cc → _ := fun A cc W hW hcc => plan_lists.calls _ A cc _ _ W hW hcc HL.out
    have HLI := Aside0.mk hlist
    clear hlist HL
    unfold fittedB at hfit
    cases hfe : fewestN l0 l1 with
    | none =>
     simp only [Option.isSome_none, Option.getD_none]
     clear hfit hfe
     go_wp2_with fail
     refine (HT.out _ HO4.out).mono ?_
     rintro e w5 ⟨v5, rfl, hR5, hO5, hg5⟩
     obtain ⟨A5, c5, rfl, hc5, hC5⟩ := Kd.R_reads hR5
     have HC5 := Aside0.mk hC5
     have HG5 := Aside0.mk hg5
     have HCC5 := Aside0.mk hc5
     clear hR5 hO5 hg5 hC5 hc5 HT
     generalize natsI (crowdsN l0 l1) = cs at *
     go_wp2_with fail
     refine (HLI.out A5 c5 _ HC5.out HCC5.out).mono ?_
     rintro e w6 ⟨v6, rfl, hS, hb6⟩
     go_wp2
     go_ret2
     exact ⟨_, rfl, Kd.S_lower hS (HSZ.out _ HG5.out), HFIN.out _ _ HG5.out hb6⟩
    | some r =>
     simp only [Option.isSome_some, Option.getD_some]
     rw [hfe] at hfit
     have hnl := natsI_len r
     simp only [← hnl] at hfit
     obtain ⟨N, hN⟩ : ∃ N, N = (natsI r).length := ⟨_, rfl⟩
     rw [← hN] at hfit ⊢
     clear hfe hnl hN
     go_wp2_with fail
     refine (HT.out _ HO4.out).mono ?_
     rintro e w5 ⟨v5, rfl, hR5, hO5, hg5⟩
     obtain ⟨A5, c5, rfl, hc5, hC5⟩ := Kd.R_reads hR5
     have HC5 := Aside0.mk hC5
     have HG5 := Aside0.mk hg5
     have HCC5 := Aside0.mk hc5
     clear hR5 hO5 hg5 hC5 hc5 HT
     generalize natsI (crowdsN l0 l1) = cs at *
     go_wp2_with fail
     refine (HLI.out A5 c5 _ HC5.out HCC5.out).mono ?_
     rintro e w6 ⟨v6, rfl, hS, hb6⟩
     go_wp2
     go_ret2
     exact ⟨_, rfl, Kd.S_lower hS (HSZ.out _ HG5.out), HFIN.out _ _ HG5.out hb6⟩
   ·rw [hfit] at h
    simp only [if_true, Prod.mk.injEq] at h
    obtain ⟨rfl, rfl⟩ := h
    clear hdn
    go_enter Tryz.func10, Tryz.ntmps10
    go_wp2_with fail
    refine HA.out.mono ?_
    rintro e w2 ⟨ob, mb, rfl, hO, hb, hl1, hl2⟩
    have HO := Aside0.mk hO
    have HB := Aside0.mk hb
    clear hO hb
    go_wp2_with fail
    refine (HW.out _).mono ?_
    rintro e w3 ⟨rfl, hd⟩
    have HB3 := Aside0.mk hd.below
    clear hd
    have HO3 := Aside0.mk (HO.out.below HB3.out)
    go_wp2_with fail
    refine (fewest_b HO3.out HF.out).mono ?_
    rintro e w4 ⟨v, rfl, hR, hO4, hg4⟩
    obtain ⟨A, cc, rfl, hcc, hC⟩ := Kd.R_reads hR
    have HO4 := Aside0.mk hO4
    have HG4 := Aside0.mk hg4
    clear hR hC hcc hO4 hg4
    unfold fittedB at hfit
    cases hfe : fewestN l0 l1 with
    | none => rw [hfe] at hfit; cases hfit
    | some r =>
     simp only [Option.isSome_some, Option.getD_some]
     rw [hfe] at hfit
     have hnl := natsI_len r
     simp only [← hnl] at hfit
     obtain ⟨N, hN⟩ : ∃ N, N = (natsI r).length := ⟨_, rfl⟩
     rw [← hN] at hfit ⊢
     clear hfe hnl hN
     go_wp2
     go_ret2
     have q1 := below_refl_trans HB.out HB3.out
     exact ⟨_, rfl, Kd.S_nil _ _ _ _ _, q1.grown HG4.out q1.size (fun j hj => by cases hj; exact hl2)⟩
  ·rw [if_neg hn] at h
   simp only [Prod.mk.injEq] at h
   obtain ⟨rfl, rfl⟩ := h
   have hdn : decide (0 ≤ a2 ∧ a2 ≤ 8) = false := decide_eq_false hn
   rw [hdn] at HW
   clear hdn hn
   go_enter Tryz.func10, Tryz.ntmps10
   go_wp2_with fail
   refine HA.out.mono ?_
   rintro e w2 ⟨ob, mb, rfl, hO, hb, hl1, hl2⟩
   have HB := Aside0.mk hb
   clear hO hb
   go_wp2_with fail
   refine (HW.out _).mono ?_
   rintro e w3 ⟨rfl, hd⟩
   have HB3 := Aside0.mk hd.below
   clear hd
   go_wp2
   go_ret2
   exact ⟨_, rfl, Kd.S_nil _ _ _ _ _, below_refl_trans HB.out HB3.out⟩
 ·rw [if_neg he] at h
  simp only [Prod.mk.injEq] at h
  obtain ⟨rfl, rfl⟩ := h
  have hA := asked_no hr0 hc0 hr1 hc1 he
  have HA := Aside0.mk hA
  have hbn : (askErr l0 l1 != 0) = true := by simpa using he
  have hbe : (askErr l0 l1 == 0) = false := by simpa using he
  generalize askErr l0 l1 = z at *
  clear hA he hr0 hr1
  go_enter Tryz.func10, Tryz.ntmps10
  go_wp2_with fail
  refine HA.out.mono ?_
  rintro e w2 ⟨rfl, hb⟩
  have HB := Aside0.mk hb
  clear hb
  go_wp2
  go_ret2
  exact ⟨_, rfl, Kd.S_nil _ _ _ _ _, HB.out⟩
abbrev KL (w : World) (B : Option Addr) (l : List (List Int)) : Prop := Kd.C (Kd.slice 3 (Kd.int .i64)) w B l.length l
def masksOf (sets : List (List Int)) : List Nat := sets.map maskOf
def goodReason (k : List Seat) (l : List Order) (n : Nat) (sets : List (List Int)) : Bool := (masksOf sets).all (fun m => crowdB k l (m : Int)) && reasonB l.length n (masksOf sets)
def checkReasonR (k : List Seat) (l : List Order) (n : Int) (sets : List (List Int)) : Int :=
 if askErr k l = 0 then (if 0 ≤ n ∧ n ≤ 8 then (if sets.length ≤ 256 then (if sets.all (setOk l.length) then (if goodReason k l n.toNat sets then 0 else 67) else 62) else 2) else 1) else askErr k l
def plan_CheckReason.f (l0 : List Seat) (l1 : List Order) (a2 : Int) (l3 : List (List Int)) : Option Int := some (checkReasonR l0 l1 a2 l3)
def GrowM (mb : Nat) (k : List Seat) (l : List Order) (W W' : World) : Prop := W.grownBy W' (some mb) ∧ RM W' mb k l
set_option maxHeartbeats 1000000 in
set_option maxRecDepth 100000 in
theorem uncrowd_b {W : World} {b ob mb m : Nat} {k : List Seat} {l : List Order} (hO : Off W ob mb k l) (hF : Fine k l) (hm : m < 2 ^ l.length) (hb : W.cell? ⟨b, 0, none⟩ = some (.pointer (some ⟨ob, 0, none⟩))) :
  Calls Tryz.prog 53 #[.int .u64 (m : Int), .pointer (some ⟨b, 0, none⟩)] W fun e W' => e = .returned (.bool (!crowdB k l (m : Int))) ∧ GrowM mb k l W W' := by
 have hc := isCrowd_b hO hF (m := (m : Int)) (by omega) (lt_two hm (Nat.le_refl _))
 generalize crowdB k l (m : Int) = t at *
 have HC := Aside0.mk hc
 clear hc hO hF hm
 cases t
 ·go_enter Tryz.func53, Tryz.ntmps53
  go_wp2_with (go_at_call 54; refine HC.out.mono ?_; rintro e w2 ⟨rfl, hO2, hg⟩)
  go_ret
  exact ⟨rfl, hg, hO2.rm⟩
 ·go_enter Tryz.func53, Tryz.ntmps53
  go_wp2_with (go_at_call 54; refine HC.out.mono ?_; rintro e w2 ⟨rfl, hO2, hg⟩)
  go_ret
  exact ⟨rfl, hg, hO2.rm⟩
theorem GrowM.trans {mb : Nat} {k : List Seat} {l : List Order} {A B C : World} (h : GrowM mb k l A B) (g : GrowM mb k l B C) : GrowM mb k l A C := ⟨grown_trans h.1 g.1, g.2⟩
theorem anyUncrowd_b {W : World} {b ob mb c : Nat} {k : List Seat} {l : List Order} {ms : List Nat} {S : Option Addr} (hO : Off W ob mb k l) (hF : Fine k l) (hms : ∀ m ∈ ms, m < 2 ^ l.length) (hbo : Boxed W b 80 (.pointer (some ⟨ob, 0, none⟩))) (hbm : b ≠ mb) (hC : ∀ W', W.grownBy W' (some mb) → Kd.C (Kd.int .u64) W' S (natsI ms).length (natsI ms)) :
  Calls Tryz.prog 52 #[.slice S (natsI ms).length c, .func (.func 53) #[] #[.pointer (some ⟨b, 0, none⟩)]] W fun e W' => e = .returned (.bool (!ms.all (fun m => crowdB k l (m : Int)))) ∧ GrowM mb k l W W' := by
 have he : (natsI ms).any (fun m => !crowdB k l m) = !ms.all (fun m => crowdB k l (m : Int)) := by
  unfold natsI
  rw [List.any_map, List.all_eq_not_any_not, Bool.not_not]
  rfl
 rw [← he]
 refine idxMaskAny.calls (p := fun m => !crowdB k l m) (R := GrowM mb k l)
  {eg := enters_of Tryz.func53 (by kernel_rfl) rfl, refl := ⟨⟨rfl, rfl, rfl, Nat.le_refl _, fun _ _ _ => rfl⟩, hO.rm⟩, call := fun m W' hm hW' => ?_ } (fun W' hW' => hC W' hW'.1)
 obtain ⟨mn, hmn, rfl⟩ := List.mem_map.1 hm
 exact (uncrowd_b (m := mn) (hO.grow hW'.1 hW'.2) hF (hms mn hmn) (hbo.kept hW'.1 (by simp; exact hbm)).cell).mono fun e W'' ⟨h1, h2⟩ => ⟨h1, hW'.trans h2⟩
theorem masks_snoc (sets : List (List Int)) (i : Nat) (h : i < sets.length) : natsI (masksOf (sets.take (i + 1))) = natsI (masksOf (sets.take i)) ++ [((maskOf sets[i] : Nat) : Int)] := by
 rw [List.take_add_one, List.getElem?_eq_getElem h]
 unfold natsI masksOf
 rw [List.map_append, List.map_append]
 rfl
set_option maxHeartbeats 4000000 in
set_option maxRecDepth 100000 in
theorem plan_CheckReason.calls (A0 : Option Addr) (c0 : Nat) (l0 : List Seat) (A1 : Option Addr) (c1 : Nat) (l1 : List Order) (a2 : Int) (A3 : Option Addr) (c3 : Nat) (l3 : List (List Int)) (r : Int) (w : World) (hr0 : KS w A0 l0) (hc0 : l0.length ≤ c0) (hr1 : KO w A1 l1) (hc1 : l1.length ≤ c1) (hr3 : KL w A3 l3) (hc3 : l3.length ≤ c3) (h : plan_CheckReason.f l0 l1 a2 l3 = some r) :
  Calls Tryz.prog 13 #[.slice A0 l0.length c0, .slice A1 l1.length c1, .int .i64 a2, .slice A3 l3.length c3] w fun e w' => e = .returned (.int .i64 r) ∧ Below w.heap.size w w' := by
 have h := Option.some.inj h
 unfold checkReasonR at h
 by_cases he : askErr l0 l1 = 0
 ·rw [if_pos he] at h
  have hF := (fine_ask he).1
  have h8 := (fine_ask he).2
  have hA := asked_ok hr0 hc0 hr1 hc1 (askErr_ok he).1 (askErr_ok he).2
  have HA := Aside0.mk hA
  have HF := Aside0.mk hF
  have HW := Aside0.mk (fun V => plan_isWithin.calls a2 0 8 _ V (within8 a2))
  have HR3 := Aside0.mk hr3
  have hmx := hr3.2.1
  clear hA he hF hr0 hr1 hr3
  by_cases hn : 0 ≤ a2 ∧ a2 ≤ 8
  ·rw [if_pos hn] at h
   have hdn : decide (0 ≤ a2 ∧ a2 ≤ 8) = true := decide_eq_true hn
   rw [hdn] at HW
   clear hdn
   by_cases hl : l3.length ≤ 256
   ·rw [if_pos hl] at h
    have hdl : decide ((l3.length : Int) > 256) = false := by simp; omega
    have HE := Aside0.mk h
    clear h
    obtain ⟨nn, rfl⟩ : ∃ nn : Nat, a2 = (nn : Int) := ⟨a2.toNat, by omega⟩
    go_enter Tryz.func13, Tryz.ntmps13
    go_wp2_with fail
    refine HA.out.mono ?_
    rintro e w2 ⟨ob, mb, rfl, hO, hb, hl1, hl2⟩
    have HO := Aside0.mk hO
    have HB := Aside0.mk hb
    clear hO hb
    go_wp2_with fail
    refine (HW.out _).mono ?_
    rintro e w3 ⟨rfl, hd⟩
    have HB3 := Aside0.mk hd.below
    clear hd
    go_wp2
    have hbx : Boxed (w2.alloc (.cells #[.pointer (some ⟨ob, 0, none⟩)] 80)) w2.heap.size 80 (.pointer (some ⟨ob, 0, none⟩)) := Boxed.new _ _ _
    have hbx3 := hbx.kept (grown_of_below HB3.out none) (by simp)
    have hO3 := (HO.out.below (below_alloc (Below.refl _ _) _)).below HB3.out
    have hB03 : Below w.heap.size w w3 := below_refl_trans (below_refl_trans HB.out (below_alloc (Below.refl _ _) _)) HB3.out
    have hz : w2.heap.size < w3.heap.size := hbx3.lt
    have hmb : mb < w2.heap.size := HO.out.lt.2.1
    have hbm : w2.heap.size ≠ mb := by omega
    have hzw := HB.out.size
    have HBX := Aside0.mk hbx3
    have HO3 := Aside0.mk hO3
    have HB03 := Aside0.mk hB03
    clear hbx hbx3 hO3 hB03 HO HB3 HB HW
    clear HA
    go_loopg [11, 36] (l3.length + 1) (fun gg v11 v36 wr => ∃ kk : Nat, kk ≤ l3.length ∧ l3.length - kk < gg ∧ v36 = .int .i64 (kk : Int) ∧ Aside0 ((Kd.int .u64).R 93 wr w3.heap.size (fun _ => True) v11 (natsI (masksOf (l3.take kk)))) ∧ Aside0 (∀ s ∈ l3.take kk, setOk l1.length s = true) ∧ Aside0 (Below w3.heap.size w3 wr))
    case atStart => exact ⟨0, by omega, by omega, rfl, ⟨by simpa [masksOf, natsI] using Kd.R_nil _ _ _ _ _⟩, ⟨by simp⟩, ⟨Below.refl _ _⟩⟩
    case round =>
     obtain ⟨kk, hk, hgg, rfl, HR, HALL, HBR⟩ := hrel
     cases gk with
     | zero => omega
     | succ g1 =>
     by_cases hlt : kk < l3.length
     ·have hd1 : decide ((kk : Int) < (l3.length : Int)) = true := by simp; omega
      have hd2 : decide (kk < l3.length) = true := by simp; omega
      have p1 : (0 : Int) ≤ (kk : Int) := by omega
      have p2 : (kk : Int) < (l3.length : Int) := by omega
      obtain ⟨ad, A4, c4, e4, hx4, hl4, hi4⟩ := at_L5 (Kd.C_below (Kd.C_below HR3.out HB03.out) HBR.out) (kk : Int) p1 p2
      have hs4 : rd_L5 l3 (kk : Int) = l3[kk] := by simp [rd_L5, hlt]
      have hms := masks_snoc l3 kk hlt
      rw [← hs4] at hms
      have hmem : rd_L5 l3 (kk : Int) ∈ l3 := by rw [hs4]; exact List.getElem_mem hlt
      have htk : l3.take (kk + 1) = l3.take kk ++ [rd_L5 l3 (kk : Int)] := by rw [List.take_add_one, List.getElem?_eq_getElem hlt, hs4]; rfl
      generalize rd_L5 l3 (kk : Int) = s at *
      cases e4
      have hset := set_some (n := l1.length) (by omega) s hi4.2.1
      unfold setI at hset
      have HI4 := Aside0.mk hi4
      have HL4 := Aside0.mk hl4
      have HMS := Aside0.mk hms
      have HTK := Aside0.mk htk
      have HMEM := Aside0.mk hmem
      rw [Int.toNat_natCast] at hx4
      clear hi4 hl4 hms htk hmem hs4
      have HLN := Aside0.mk (show (natsI (masksOf (l3.take kk))).length ≤ 256 by simp [natsI, masksOf]; omega)
      generalize natsI (masksOf (l3.take kk)) = xs at *
      cases hok : setOk l1.length s
      ·rw [hok] at hset
       simp only [Bool.false_eq_true, if_false] at hset
       have HS := Aside0.mk hset
       have HOK := Aside0.mk hok
       clear hset hok
       go_wp2_with fail
       refine (plan_set.calls _ _ _ _ s _ _ _ HI4.out HL4.out HS.out).mono ?_
       rintro e w5 ⟨rfl, hd⟩
       have HD := Aside0.mk hd.below
       clear hd
       go_wp2
       go_ret
       refine ⟨congrArg (fun z => Ending.returned (.int .i64 z)) ?_, below_refl_trans (below_refl_trans HB03.out HBR.out) HD.out⟩
       have h1 := HE.out
       rw [show l3.all (setOk l1.length) = false from List.all_eq_false.2 ⟨s, HMEM.out, by rw [HOK.out]; simp⟩] at h1
       simpa using h1
      ·rw [hok] at hset
       simp only [if_true] at hset
       have HS := Aside0.mk hset
       have HOK := Aside0.mk hok
       clear hset hok
       go_wp2_with fail
       refine (plan_set.calls _ _ _ _ s _ _ _ HI4.out HL4.out HS.out).mono ?_
       rintro e w5 ⟨rfl, hd⟩
       have HD := Aside0.mk (below_refl_trans HBR.out hd.below)
       have HR5 := Aside0.mk (Kd.R_below HR.out hd.below)
       clear hd HR
       go_wp2_with (at_builtin; refine append_d .u64 (w0 := w3) w3.heap.size rfl (.tmp 50) (.tmp 52) 84 93 8 rfl Tryz.underlying84 info_mask (by decide) u11 xs ((maskOf s : Nat) : Int) rfl rfl HR5.out HD.out HD.out.size ?aL ?_; (case aL => have := HLN.out; omega); intro v1 w6 ho hb hd; rw [← HMS.out] at ho; have HR6 := Aside0.mk ho; have HB6 := Aside0.mk hb; clear ho hb hd)
       go_roundg g1
       case measure => omega
       case rel => exact ⟨kk + 1, by omega, by omega, by go_num, HR6, ⟨by rw [HTK.out]; intro q hq; rcases List.mem_append.1 hq with h | h; exact HALL.out q h; rw [List.mem_singleton.1 h]; exact HOK.out⟩, HB6⟩
     ·obtain rfl : kk = l3.length := by omega
      have hd1 : decide ((l3.length : Int) < (l3.length : Int)) = false := by simp
      have hd2 : decide (l3.length < l3.length) = false := by simp
      have hall := HALL.out
      have hrr := HR.out
      rw [List.take_length] at hall hrr
      have h1 := HE.out
      rw [show l3.all (setOk l1.length) = true from List.all_eq_true.2 hall] at h1
      simp only [if_true, Int.toNat_natCast] at h1
      have hms : ∀ m ∈ masksOf l3, m < 2 ^ l1.length := by
       intro m hm
       obtain ⟨s, hs, rfl⟩ := List.mem_map.1 hm
       exact maskOf_lt s (setFrom_mem (hall s hs))
      unfold goodReason at h1
      generalize masksOf l3 = ms at *
      obtain ⟨A, cc, rfl, hcc, hC⟩ := Kd.R_reads hrr
      have HC := Aside0.mk hC
      have HCC := Aside0.mk hcc
      have HRR := Aside0.mk hrr
      have HMS := Aside0.mk hms
      have HBX5 := Aside0.mk (HBX.out.kept (grown_of_below HBR.out none) (by simp))
      have HO5 := Aside0.mk (HO3.out.below HBR.out)
      have e9 := HBX5.out.cell
      have H1 := Aside0.mk h1
      clear hall hrr h1 hms hC hcc HALL HR HE hk hlt hgg
      have hany := anyUncrowd_b (c := cc) (S := A) (ms := ms) HO5.out HF.out HMS.out HBX5.out hbm (fun W' hW' => own_C rfl ((Kd.own_of_R HRR.out).kept hW' (own_ne (Kd.own_of_R HRR.out) (by omega))))
      have hsz5 := HBR.out.size
      have hfin : ∀ W', wr.grownBy W' (some mb) → Below w.heap.size w W' := fun W' hW' => (below_refl_trans HB03.out HBR.out).grown hW' (by have := HB03.out.size; omega) (fun j hj => by cases hj; exact hl2)
      have HFIN := Aside0.mk hfin
      cases hcr : ms.all (fun m => crowdB l0 l1 (m : Int))
      ·rw [hcr] at hany
       have h2 := H1.out
       rw [hcr] at h2
       simp only [Bool.false_and, Bool.false_eq_true, if_false] at h2
       subst h2
       have HANY := Aside0.mk hany
       clear hany hcr H1 hfin
       generalize natsI ms = cs at *
       go_wp2_with fail
       refine HANY.out.mono ?_
       rintro e w5 ⟨rfl, hg5⟩
       go_wp2
       go_ret
       exact ⟨rfl, HFIN.out _ hg5.1⟩
      ·rw [hcr] at hany
       have h2 := H1.out
       rw [hcr] at h2
       simp only [Bool.true_and] at h2
       have HANY := Aside0.mk hany
       have hre := fun (W' : World) (hW' : GrowM mb l0 l1 wr W') => isReason_b (most := nn) (c := cc) (sets := ms) (HO5.out.grow hW'.1 hW'.2) HF.out (by omega) (fun s hs => two_lt (by omega) (HMS.out s hs)) (own_C rfl ((Kd.own_of_R HRR.out).kept hW'.1 (own_ne (Kd.own_of_R HRR.out) (by omega)))) HCC.out
       have HRE := Aside0.mk hre
       have hbx6 := fun (W' : World) (hW' : GrowM mb l0 l1 wr W') => (HBX5.out.kept hW'.1 (by simp; exact hbm)).cell
       have HBX6 := Aside0.mk hbx6
       clear hany hcr H1 hfin hre hbx6
       cases hrs : reasonB l1.length nn ms
       ·rw [hrs] at h2 HRE
        simp only [Bool.false_eq_true, if_false] at h2
        subst h2
        generalize natsI ms = cs at *
        clear hrs
        go_wp2_with fail
        refine HANY.out.mono ?_
        rintro e w5 ⟨rfl, hg5⟩
        have e10 := HBX6.out _ hg5
        have HRE5 := Aside0.mk (HRE.out _ hg5)
        have HG5 := Aside0.mk hg5
        clear hg5
        go_wp2_with fail
        refine HRE5.out.mono ?_
        rintro e w6 ⟨rfl, hb6⟩
        have HB6 := Aside0.mk hb6
        clear hb6
        go_wp2
        go_ret
        exact ⟨rfl, below_refl_trans (HFIN.out _ HG5.out.1) HB6.out⟩
       ·rw [hrs] at h2 HRE
        simp only [if_true] at h2
        subst h2
        generalize natsI ms = cs at *
        clear hrs
        go_wp2_with fail
        refine HANY.out.mono ?_
        rintro e w5 ⟨rfl, hg5⟩
        have e10 := HBX6.out _ hg5
        have HRE5 := Aside0.mk (HRE.out _ hg5)
        have HG5 := Aside0.mk hg5
        clear hg5
        go_wp2_with fail
        refine HRE5.out.mono ?_
        rintro e w6 ⟨rfl, hb6⟩
        have HB6 := Aside0.mk hb6
        clear hb6
        go_wp2
        go_ret
        exact ⟨rfl, below_refl_trans (HFIN.out _ HG5.out.1) HB6.out⟩
   ·rw [if_neg hl] at h
    subst h
    have hdl : decide ((l3.length : Int) > 256) = true := by simp; omega
    clear hl
    go_enter Tryz.func13, Tryz.ntmps13
    go_wp2_with fail
    refine HA.out.mono ?_
    rintro e w2 ⟨ob, mb, rfl, hO, hb, hl1, hl2⟩
    have HB := Aside0.mk hb
    clear hO hb
    go_wp2_with fail
    refine (HW.out _).mono ?_
    rintro e w3 ⟨rfl, hd⟩
    have HB3 := Aside0.mk hd.below
    clear hd
    go_wp2
    go_ret
    exact ⟨rfl, below_refl_trans (below_refl_trans HB.out (below_alloc (Below.refl _ _) _)) HB3.out⟩
  ·rw [if_neg hn] at h
   subst h
   have hdn : decide (0 ≤ a2 ∧ a2 ≤ 8) = false := decide_eq_false hn
   rw [hdn] at HW
   clear hdn hn
   go_enter Tryz.func13, Tryz.ntmps13
   go_wp2_with fail
   refine HA.out.mono ?_
   rintro e w2 ⟨ob, mb, rfl, hO, hb, hl1, hl2⟩
   have HB := Aside0.mk hb
   clear hO hb
   go_wp2_with fail
   refine (HW.out _).mono ?_
   rintro e w3 ⟨rfl, hd⟩
   have HB3 := Aside0.mk hd.below
   clear hd
   go_wp2
   go_ret
   exact ⟨rfl, below_refl_trans (below_refl_trans HB.out (below_alloc (Below.refl _ _) _)) HB3.out⟩
 ·rw [if_neg he] at h
  have hA := asked_no hr0 hc0 hr1 hc1 he
  have HA := Aside0.mk hA
  have hbn : (askErr l0 l1 != 0) = true := by simpa using he
  have hbe : (askErr l0 l1 == 0) = false := by simpa using he
  subst h
  generalize askErr l0 l1 = z at *
  clear hA he hr0 hr1 hr3
  go_enter Tryz.func13, Tryz.ntmps13
  go_wp2_with fail
  refine HA.out.mono ?_
  rintro e w2 ⟨rfl, hb⟩
  have HB := Aside0.mk hb
  clear hb
  go_wp2
  go_ret
  exact ⟨rfl, below_alloc HB.out _⟩
theorem fewest_mem {k : List Seat} {l : List Order} {r : List Nat} (h : fewestN k l = some r) {m : Nat} (hm : m ∈ r) : m < 2 ^ l.length := by
 unfold fewestN at h
 obtain ⟨most, _, h2⟩ := List.exists_of_findSome?_eq_some h
 unfold fewestOf at h2
 obtain ⟨x, hx, rfl⟩ := Option.map_eq_some_iff.1 h2
 have hxm := List.mem_of_find?_eq_some hx
 have hl := ways_len _ _ _ _ _ hxm
 have := firN_lt hm
 rwa [hl, List.length_nil, Nat.zero_add] at this
def fewestL (r : List Nat) : List (List Int) := (natsI r).map bitsL
theorem fewestL_some {k : List Seat} {l : List Order} {r : List Nat} (h9 : l.length ≤ 9) (h : fewestN k l = some r) : plan_lists.f 30 (natsI r) = some (fewestL r) := by
 have hl := fewest_len h
 have h1 := lists_some (natsI r) (by rw [natsI_len]; omega) (fun x hx => by
  obtain ⟨c, hc, rfl⟩ := List.mem_map.1 hx
  have := two_lt h9 (fewest_mem h hc)
  exact ⟨by simp, by simp; omega⟩)
 rw [natsI_len] at h1
 exact mono_le (fun j => plan_lists.mono _ j) (by omega) h1
theorem results_plan {fn : Func} {p u : Tmp} {ty : TypeId} (h : fn.results = #[.cell p ty, .tmp u]) (tmps : Array Value) (P : Program) (W : World) {b : Nat} {v : Value} {fs}
  (h1 : tmps.getD p undef = .pointer (some ⟨b, 0, none⟩)) (hb : Boxed W b ty v) (hu : P.underlying ty = some (.struct fs)) (hi : (P.info? ty).map (·.size) = some 1) :
  (results fn tmps).run P W = .ok (.tuple #[.agg #[v], tmps.getD u undef]) W := by
 rw [results_cell_tmp h, h1]
 have h2 := run_loadVar_row (P := P) W b ty ty #[v] (0, 0) _ hb hu rfl hi
 simp [asAddr, Result.andThen, h2]
theorem size38 : (Tryz.prog.info? 38).map (·.size) = some 1 := by kernel_rfl
def plan_Fewest.f (l0 : List Seat) (l1 : List Order) : Option (List (List Int) × Int) := some (if askErr l0 l1 = 0 then (match fewestN l0 l1 with | some r => (fewestL r, 0) | none => ([], 63)) else ([], askErr l0 l1))
set_option maxHeartbeats 2000000 in
set_option maxRecDepth 100000 in
theorem plan_Fewest.calls (A0 : Option Addr) (c0 : Nat) (l0 : List Seat) (A1 : Option Addr) (c1 : Nat) (l1 : List Order) (r1 : List (List Int)) (r2 : Int) (w : World) (hr0 : KS w A0 l0) (hc0 : l0.length ≤ c0) (hr1 : KO w A1 l1) (hc1 : l1.length ≤ c1) (h : plan_Fewest.f l0 l1 = some (r1, r2)) :
  Calls Tryz.prog 40 #[.slice A0 l0.length c0, .slice A1 l1.length c1] w fun e w' => ∃ v0_ : Value, e = .returned (.tuple #[.agg #[v0_], .int .i64 r2]) ∧ Kd.S (Kd.slice 3 (Kd.int .i64)) 41 w' w.heap.size (fun _ => True) v0_ r1 ∧ Below w.heap.size w w' := by
 have h := Option.some.inj h
 by_cases he : askErr l0 l1 = 0
 ·rw [if_pos he] at h
  have hF := (fine_ask he).1
  have hA := fun (V : World) (hV : Below w.heap.size w V) => asked_ok (Kd.C_below hr0 hV) hc0 (Kd.C_below hr1 hV) hc1 (askErr_ok he).1 (askErr_ok he).2
  have HA := Aside0.mk (hA _ (below_alloc (Below.refl _ _) (.cells #[.slice none 0 0] 38)))
  have HF := Aside0.mk hF
  clear hA he hF hr0 hr1
  cases hfe : fewestN l0 l1 with
  | none =>
   rw [hfe] at h
   simp only [Prod.mk.injEq] at h
   obtain ⟨rfl, rfl⟩ := h
   go_enter Tryz.func40, Tryz.ntmps40
   go_wp2_with fail
   refine HA.out.mono ?_
   rintro e w2 ⟨ob, mb, rfl, hO, hb, hl1, hl2⟩
   have HO := Aside0.mk hO
   have HB := Aside0.mk hb
   have hbx : Boxed w2 w.heap.size 38 (.slice none 0 0) := (Boxed.new w _ _).kept (grown_of_below hb none) (by simp)
   have hs0 := hb.size
   rw [World.size_alloc] at hs0 hl1 hl2
   clear hO hb
   go_wp2_with fail
   refine (fewest_b HO.out HF.out).mono ?_
   rintro e w4 ⟨v, rfl, hR, hO4, hg4⟩
   obtain ⟨A, cc, rfl, hcc, hC⟩ := Kd.R_reads hR
   have hbx4 := hbx.kept hg4 (by simp; omega)
   have e1 := hbx4.cell
   have f1 := hbx4.frozen
   have HBX4 := Aside0.mk hbx4
   have HG4 := Aside0.mk hg4
   have hb04 : Below w.heap.size w w4 := (below_refl_trans (below_alloc (Below.refl _ _) _) HB.out).grown hg4 (by omega) (fun j hj => by cases hj; omega)
   have HB04 := Aside0.mk hb04
   have HC := Aside0.mk hC
   clear hO4 hg4 hbx hbx4 hb04 hR hC
   rw [hfe]
   simp only [Option.isSome_none]
   rw [hfe] at HC hcc
   go_wp2
   have k1 := grownBy_setCell' w4 w.heap.size (.slice none 0 0)
   refine bodyPost_ret (results_plan rfl _ _ _ rfl (HBX4.out.set (.slice none 0 0)) Tryz.underlying38 size38) rfl ?_
   exact ⟨_, rfl, Kd.S_nil _ _ _ _ _, HB04.out.grown k1 HB04.out.size (fun j hj => by cases hj; exact Nat.le_refl _)⟩
  | some r =>
   rw [hfe] at h
   simp only [Prod.mk.injEq] at h
   obtain ⟨h1, rfl⟩ := h
   have hls := fewestL_some HF.out.h9 hfe
   rw [h1] at hls
   have HL := Aside0.mk hls
   clear h1 hls
   go_enter Tryz.func40, Tryz.ntmps40
   go_wp2_with fail
   refine HA.out.mono ?_
   rintro e w2 ⟨ob, mb, rfl, hO, hb, hl1, hl2⟩
   have HO := Aside0.mk hO
   have HB := Aside0.mk hb
   have hbx : Boxed w2 w.heap.size 38 (.slice none 0 0) := (Boxed.new w _ _).kept (grown_of_below hb none) (by simp)
   have hs0 := hb.size
   rw [World.size_alloc] at hs0 hl1 hl2
   clear hO hb
   go_wp2_with fail
   refine (fewest_b HO.out HF.out).mono ?_
   rintro e w4 ⟨v, rfl, hR, hO4, hg4⟩
   obtain ⟨A, cc, rfl, hcc, hC⟩ := Kd.R_reads hR
   have hbx4 := hbx.kept hg4 (by simp; omega)
   have e1 := hbx4.cell
   have f1 := hbx4.frozen
   have HBX4 := Aside0.mk hbx4
   have HG4 := Aside0.mk hg4
   have hb04 : Below w.heap.size w w4 := (below_refl_trans (below_alloc (Below.refl _ _) _) HB.out).grown hg4 (by omega) (fun j hj => by cases hj; omega)
   have HB04 := Aside0.mk hb04
   have HC := Aside0.mk hC
   clear hO4 hg4 hbx hbx4 hb04 hR hC
   rw [hfe] at HC hcc ⊢
   simp only [Option.isSome_some, Option.getD_some] at HC hcc ⊢
   have HLI := Aside0.mk (fun W (hW : Kd.C (Kd.int .u64) W A (natsI r).length (natsI r)) => plan_lists.calls 30 A cc _ _ W hW hcc HL.out)
   clear hfe
   go_wp2_with fail
   refine (HLI.out _ HC.out).mono ?_
   rintro e w6 ⟨v6, rfl, hS, hb6⟩
   obtain ⟨A6, c6, rfl, _, _⟩ := Kd.R_reads (Kd.S_R hS)
   have hbx6 := HBX4.out.kept (grown_of_below hb6 none) (by simp)
   have e2 := hbx6.cell
   have f2 := hbx6.frozen
   have HBX6 := Aside0.mk hbx6
   have HS := Aside0.mk hS
   have HB6 := Aside0.mk hb6
   clear hbx6 hS hb6
   go_wp2
   have k1 := grownBy_setCell' w6 w.heap.size (.slice A6 r1.length c6)
   refine bodyPost_ret (results_plan rfl _ _ _ rfl (HBX6.out.set (.slice A6 r1.length c6)) Tryz.underlying38 size38) rfl ?_
   have q := below_refl_trans HB04.out HB6.out
   exact ⟨_, rfl, Kd.S_lower (Kd.S_set HS.out HBX6.out (by intro q hq; simp [Kd.slice, Kd.int, Kd.scalar] at hq; omega) 0 _) HB04.out.size, q.grown k1 q.size (fun j hj => by cases hj; exact Nat.le_refl _)⟩
 ·rw [if_neg he] at h
  simp only [Prod.mk.injEq] at h
  obtain ⟨rfl, rfl⟩ := h
  have hA := asked_no (w := w.alloc (.cells #[.slice none 0 0] 38)) (Kd.C_below hr0 (below_alloc (Below.refl _ _) _)) hc0 (Kd.C_below hr1 (below_alloc (Below.refl _ _) _)) hc1 he
  have HA := Aside0.mk hA
  have hbn : (askErr l0 l1 != 0) = true := by simpa using he
  have hbe : (askErr l0 l1 == 0) = false := by simpa using he
  generalize askErr l0 l1 = z at *
  clear hA he hr0 hr1
  go_enter Tryz.func40, Tryz.ntmps40
  go_wp2_with fail
  refine HA.out.mono ?_
  rintro e w2 ⟨rfl, hb⟩
  have HB := Aside0.mk hb
  have hbx : Boxed w2 w.heap.size 38 (.slice none 0 0) := (Boxed.new w _ _).kept (grown_of_below hb none) (by simp)
  have e1 := hbx.cell
  have f1 := hbx.frozen
  have HBX := Aside0.mk hbx
  clear hb hbx
  go_wp2
  have k1 := grownBy_setCell' w2 w.heap.size (.slice none 0 0)
  refine bodyPost_ret (results_plan rfl _ _ _ rfl (HBX.out.set (.slice none 0 0)) Tryz.underlying38 size38) rfl ?_
  have q := below_refl_trans (below_alloc (Below.refl _ _) _) HB.out
  exact ⟨_, rfl, Kd.S_nil _ _ _ _ _, q.grown k1 q.size (fun j hj => by cases hj; exact Nat.le_refl _)⟩
section
variable {F : Fence} {n : Nat} {P : Program} {ops : Array Oper} {Q : Exit → Act → World → Prop} {md : Region.Mode}
def noDefer (ops : Array Oper) : Prop := ∀ (i : Nat) (o : Oper), ops[i]? = some o → ∀ c, o.op ≠ .defer c
def noDeferB (ops : Array Oper) : Bool := ops.toList.all fun o => match o.op with | .defer _ => false | _ => true
theorem noDefer_of (h : noDeferB ops = true) : noDefer ops := by
 intro i o ho c hc
 unfold noDeferB at h
 rw [List.all_eq_true] at h
 have h1 := h o (by
  have h2 : ops.toList[i]? = some o := by rw [Array.getElem?_toList]; exact ho
  exact List.mem_of_getElem? h2)
 rw [hc] at h1
 cases h1
theorem wpOpIn_inRound (l : Nat) (hro : F.round = none) (hd : noDefer ops) {i : Nat} {K : Act → World → Prop} {a : Act} {w : World} (h : wpOpIn F n P ops Q i K a w) : wpOpIn (F.inRound l) n P ops Q i K a w := by
 unfold wpOpIn at *
 cases ho : ops[i]? with
 | none => rw [ho] at h; exact h
 | some o =>
  rw [ho] at h
  simp only at h ⊢
  split
  ·rename_i hw
   rw [if_pos hw] at h
   unfold Oper.wpIn at *
   rw [Oper.semAt_eq _ _ _ (hd i o ho)] at h ⊢
   refine ⟨h.1, ?_⟩
   have h2 := h.2
   generalize (execOp a.eval o).run P w = r at *
   cases r with
   | ok x w' => cases x <;> exact h2
   | halt x w' => cases x <;> exact h2
  ·rename_i hw
   rw [if_neg hw] at h
   exact h
theorem wpAnyIn_inRound (l : Nat) (hro : F.round = none) (hd : noDefer ops) : ∀ (fuel : Nat) (listed : Array Bool) (a : Act) (w : World), wpAnyIn F n P md ops Q fuel listed a w → wpAnyIn (F.inRound l) n P md ops Q fuel listed a w := by
 intro fuel
 induction fuel with
 | zero => intro listed a w h; exact h
 | succ fuel ih =>
  intro listed a w h
  refine ⟨h.1, fun i hi => ?_⟩
  exact wpOpIn_inRound l hro hd (wpOpIn_mono (fun a' w' h' => ih _ a' w' h') (h.2 i hi))
end
section
variable {n : Nat} {P : Program} {os : List Oper} {Q : Exit → Act → World → Prop} {ls : List Bool} {fuel i : Nat} {o : Oper} {a : Act} {w : World} {v : Value}
abbrev RegW (n : Nat) (P : Program) (os : List Oper) (Q : Exit → Act → World → Prop) (fuel : Nat) (ls : List Bool) (a : Act) (w : World) : Prop := wpAnyIn Fence.wide n P .any os.toArray Q fuel ls.toArray a w
theorem reg_start {id : Nat} (l : Nat) (hm : P.follows .mixedOrders = true) (hd : noDeferB os.toArray = true) (fuel : Nat) (ls : List Bool) (hf : os.toArray.size = fuel) (hl : Array.replicate fuel false = ls.toArray) (h : RegW n P os Q fuel ls a w.drew) :
  (Code.region id os.toArray true).wpIn (Fence.wide.inRound l) n P Q a w := by
 refine wpIn_region_any hm ?_
 refine wpAnyIn_inRound l rfl (noDefer_of hd) _ _ _ _ ?_
 rw [hf, hl]
 exact h
theorem set_arr (ls : List Bool) (i : Nat) : ls.toArray.setIfInBounds i true = (ls.set i true).toArray := by simp
theorem reg_take (i : Nat) (hi : os[i]? = some o) (hs : Region.noSelect os.toArray = true) (hf : Region.free .any os.toArray ls.toArray i = true) (hr : (Region.ready .any os.toArray ls.toArray).contains i = true) (hQ : ∀ c a w, Q (.panic c) a w → False)
  (hw : Region.wanted o (yielded os.toArray a.tmps) = true) (hab : ∀ w, o.about P w a.eval = none) (hv : ∀ w, (execOp a.eval o).run P w = .ok (.value v) w) (h : RegW n P os Q fuel (ls.set i true) (a.put o.dst v) w) : RegW n P os Q (fuel + 1) ls a w := by
 refine wpAnyIn_take (i := i) (v := v) rfl (by simpa using hi) hs hf hr (fun c a w h => (hQ c _ w h).elim) ⟨Or.inl ⟨hw, hv⟩, hab⟩ ?_
 rw [set_arr]
 exact h
theorem reg_pass (i : Nat) (hi : os[i]? = some o) (hs : Region.noSelect os.toArray = true) (hf : Region.free .any os.toArray ls.toArray i = true) (hr : (Region.ready .any os.toArray ls.toArray).contains i = true) (hQ : ∀ c a w, Q (.panic c) a w → False)
  (hw : Region.wanted o (yielded os.toArray a.tmps) = false) (hab : ∀ w, o.about P w a.eval = none) (h : RegW n P os Q fuel (ls.set i true) (a.put o.dst undef) w) : RegW n P os Q (fuel + 1) ls a w := by
 refine wpAnyIn_take (i := i) (v := undef) rfl (by simpa using hi) hs hf hr (fun c a w h => (hQ c _ w h).elim) ⟨Or.inr ⟨hw, rfl⟩, hab⟩ ?_
 rw [set_arr]
 exact h
def RegR (n : Nat) (P : Program) (os : List Oper) (Q : Exit → Act → World → Prop) (fuel : Nat) (ls : List Bool) (a : Act) (w : World) (rs : List Nat) : Prop := AllReadyIn Fence.wide n P .any os.toArray Q fuel ls.toArray a w rs
theorem reg_ready (rs : List Nat) (hr : Region.ready .any os.toArray ls.toArray = rs) (hne : rs ≠ []) (h : RegR n P os Q fuel ls a w rs) : RegW n P os Q (fuel + 1) ls a w := wpAnyIn_ready hr hne h
theorem RegR.nil : RegR n P os Q fuel ls a w [] := AllReadyIn.nil
theorem RegR.cons {rs : List Nat} (hi : os[i]? = some o) (hw : Region.wanted o (yielded os.toArray a.tmps) = true)
  (h : ∀ K : Act → World → Prop, (∀ a w, RegW n P os Q fuel (ls.set i true) a w → K a w) → Oper.wpIn Fence.wide n P o a w K Q) (hs : RegR n P os Q fuel ls a w rs) : RegR n P os Q fuel ls a w (i :: rs) := by
 refine AllReadyIn.cons (by simpa using hi) (fun K hK => ?_) hs
 rw [if_pos hw]
 exact h K (fun a w h => hK a w (by rw [set_arr]; exact h))
theorem RegR.pass {rs : List Nat} (hi : os[i]? = some o) (hw : Region.wanted o (yielded os.toArray a.tmps) = false)
  (h : RegW n P os Q fuel (ls.set i true) (a.put o.dst undef) w) (hs : RegR n P os Q fuel ls a w rs) : RegR n P os Q fuel ls a w (i :: rs) := by
 refine AllReadyIn.cons (by simpa using hi) (fun K hK => ?_) hs
 rw [hw]
 simp only [Bool.false_eq_true, if_false]
 exact ⟨fun _ _ => trivial, hK _ _ (by rw [set_arr]; exact h)⟩
theorem reg_done (hr : Region.ready .any os.toArray ls.toArray = []) (h : Q .normal a w) : RegW n P os Q fuel ls a w := wpAnyIn_done hr h _
end
end Go.Proofs.YthonlcnmjlldiaaGreat.P
namespace Go.Proofs.YthonlcnmjlldiaaGreat.P
open Go.Shelf Go.RowKit Go.Proofs.YthonlcnmjlldiaaGreatW.PrintWords Go.Proofs.YthonlcnmjlldiaaGreatW.PrintLast Go.Proofs.YthonlcnmjlldiaaGreatW.PrintMore
attribute [local go_sem] Oper.semAt_some
def aheadB (l : List Order) (s best : Nat) : Bool := decide (needI l (best : Int) < needI l (s : Int)) || (decide (needI l (s : Int) = needI l (best : Int)) && decide (cmpL (bitsL (s : Int)) (bitsL (best : Int)) < 0))
def fullStep (k : List Seat) (l : List Order) (best s : Nat) : Nat := if aheadB l s best && fitsB k l s then s else best
def fullOf (k : List Seat) (l : List Order) (ss : List Nat) : Nat := ss.foldl (fullStep k l) 0
def fullN (k : List Seat) (l : List Order) : Nat := fullOf k l ((partsF (allN l)).map (·.val))
theorem fullOf_snoc (k : List Seat) (l : List Order) (ss : List Nat) (s : Nat) : fullOf k l (ss ++ [s]) = fullStep k l (fullOf k l ss) s := by
 unfold fullOf
 rw [List.foldl_append]
 rfl
theorem fullOf_le {k : List Seat} {l : List Order} {m : Nat} : ∀ ss : List Nat, (∀ s ∈ ss, s ≤ m) → fullOf k l ss ≤ m := by
 have aux : ∀ (ss : List Nat) (b : Nat), (∀ s ∈ ss, s ≤ m) → b ≤ m → ss.foldl (fullStep k l) b ≤ m := by
  intro ss
  induction ss with
  | nil => intro b _ h; exact h
  | cons s ss ih =>
   intro b h hb
   refine ih _ (fun x hx => h x (by simp [hx])) ?_
   unfold fullStep
   split
   ·exact h s (by simp)
   ·exact hb
 intro ss h
 exact aux ss 0 h (Nat.zero_le _)
def plan_Fullest.f (l0 : List Seat) (l1 : List Order) : Option (List Int × Int) := some (if askErr l0 l1 = 0 then (bitsL (fullN l0 l1 : Int), 0) else ([], askErr l0 l1))
set_option maxHeartbeats 4000000 in
set_option maxRecDepth 100000 in
theorem plan_Fullest.calls (A0 : Option Addr) (c0 : Nat) (l0 : List Seat) (A1 : Option Addr) (c1 : Nat) (l1 : List Order) (r1 : List Int) (r2 : Int) (w : World) (hr0 : KS w A0 l0) (hc0 : l0.length ≤ c0) (hr1 : KO w A1 l1) (hc1 : l1.length ≤ c1) (h : plan_Fullest.f l0 l1 = some (r1, r2)) :
  Calls Tryz.prog 39 #[.slice A0 l0.length c0, .slice A1 l1.length c1] w fun e w' => ∃ v0_ : Value, e = .returned (.tuple #[v0_, .int .i64 r2]) ∧ Kd.R (Kd.int .i64) 3 w' w.heap.size (fun _ => True) v0_ r1 ∧ Below w.heap.size w w' := by
 have h := Option.some.inj h
 by_cases he : askErr l0 l1 = 0
 ·rw [if_pos he] at h
  have hF := (fine_ask he).1
  have hbw := below_alloc (Below.refl w.heap.size w) (.cells #[.slice A1 l1.length c1] 23)
  have hA := asked_ok (Kd.C_below hr0 hbw) hc0 (Kd.C_below hr1 hbw) hc1 (askErr_ok he).1 (askErr_ok he).2
  simp only [Prod.mk.injEq] at h
  obtain ⟨h1, rfl⟩ := h
  have hm := two_lt hF.h9 (allN_lt l1)
  have hp := fun W => parts_b hm W
  have hal := fun (W : World) ob mb (hW : Off W ob mb l0 l1) => all_b hW hF
  rw [allN_int] at hal
  have hmix : Tryz.prog.follows .mixedOrders = true := by kernel_rfl
  have HP := Aside0.mk hp
  have HAL := Aside0.mk hal
  have HA := Aside0.mk hA
  have HF := Aside0.mk hF
  have HM := Aside0.mk (fun (s : Sub (allN l1)) => (show s.val.val < 2 ^ l1.length from Nat.lt_of_le_of_lt s.2 (allN_lt l1)))
  have HHM := Aside0.mk hm
  have HR1 := Aside0.mk hr1
  have H1 := Aside0.mk (show bitsL (fullOf l0 l1 (valS (partsS hm)) : Int) = r1 by rw [valS_all]; exact h1)
  clear hA he hF hr0 hr1 h1 hp hal hbw
  refine (callsIn_wide (n := 7)).1 ?_
  refine callsIn_of_wp_marks Tryz.func39 rfl trivial ?_ rfl
  simp only [Tryz.ntmps39, List.size_toArray, List.length_cons, List.length_nil, Nat.reduceAdd, Nat.reduceSub, Array.replicate_succ, Array.replicate_zero, List.push_toArray, List.append_toArray, List.nil_append, List.cons_append]
  gi_wp2_with (first | (refine ⟨trivial, ?_⟩; gi_at_call 42; refine (callsIn_wide.2 HA.out).mono ?_; rintro e w2 ⟨ob, mb, rfl, hO, hb, hl1, hl2⟩; have HO := Aside0.mk hO; have HB := Aside0.mk hb; clear hO hb) | (refine ⟨trivial, ?_⟩; gi_at_call 62; refine (callsIn_wide.2 (HAL.out _ ob mb (HO.out.below (below_alloc (below_alloc (Below.refl _ _) _) _)))).mono ?_; rintro e V ⟨rfl, hV⟩; have hV2 := hV.symm; clear hV; subst hV2) | (refine ⟨trivial, ?_⟩; gi_at_call 86; refine (callsIn_wide.2 (HP.out _)).mono ?_; rintro e W2 ⟨bx, g, cap, rfl, hPA, hlg, hlb, hbe⟩; have HPA := Aside0.mk hPA; have HBE := Aside0.mk hbe; clear hPA hbe))
  have hO := HO.out
  have hb := HB.out
  have hlt := hO.lt
  have hbx0 : Boxed w2 w.heap.size 23 (.slice A1 l1.length c1) := (Boxed.new w _ _).kept (grown_of_below hb none) (by simp)
  have hw2 := hb.size
  rw [World.size_alloc] at hw2 hl1 hl2
  have hbw2 : Below w.heap.size w w2 := below_refl_trans (below_alloc (Below.refl _ _) _) hb
  obtain ⟨V1, hV1⟩ : ∃ V1, ((w2.alloc (.cells #[.pointer (some ⟨ob, 0, none⟩)] 80)).alloc (.cells #[.int .u64 0] 93)) = V1 := ⟨_, rfl⟩
  rw [hV1] at HBE hlg hlb
  have b1 : Boxed V1 w2.heap.size 80 (.pointer (some ⟨ob, 0, none⟩)) := by rw [← hV1]; exact (Boxed.new w2 _ _).alloc _
  have b2 : Boxed V1 (w2.heap.size + 1) 93 (.int .u64 0) := by
   rw [← hV1]
   have h := Boxed.new (w2.alloc (.cells #[.pointer (some ⟨ob, 0, none⟩)] 80)) 93 (.int .u64 0)
   rwa [World.size_alloc] at h
  have hbV : Below w2.heap.size w2 V1 := by rw [← hV1]; exact below_alloc (below_alloc (Below.refl _ _) _) _
  have hsV : V1.heap.size = w2.heap.size + 1 + 1 := by rw [← hV1]; simp
  clear hV1
  have hbe := HBE.out
  have hb22 : Below w2.heap.size w2 W2 := below_refl_trans hbV hbe
  have q1 := b1.kept (grown_of_below hbe none) (by simp)
  have q2 := b2.kept (grown_of_below hbe none) (by simp)
  have hs22 := hbe.size
  have hgl := HPA.out.2.2
  refine wpIn_rangeFunc_ownG rfl (by omega) (gf := 132) (lb := #[.pointer (some ⟨bx, 0, none⟩)]) rfl trivial (enters_of Tryz.func132 (by kernel_rfl) rfl) (values_stops Fence.wide 6 trivial rfl (by omega) HHM.out HPA.out) KeepV.trans (KeepV.putObj hgl.1 hgl.2) (Below.refl _ _) (fun _ => rfl)
   (fun pre W => RM W mb l0 l1 ∧ w2.grownBy W (some mb) ∧ Boxed W w2.heap.size 80 (.pointer (some ⟨ob, 0, none⟩)) ∧ Boxed W (w2.heap.size + 1) 93 (.int .u64 ((fullOf l0 l1 (valS pre) : Nat) : Int)) ∧ W2.heap.size ≤ W.heap.size)
   (fun _ _ _ => False)
   ?hI (fun _ _ _ _ _ h _ _ => h) ?h0
   (fun x => { tmps := #[.slice A0 l0.length c0, .slice A1 l1.length c1, undef, .pointer (some ⟨w.heap.size, 0, none⟩), .slice none 0 0, .int .i64 0, .pointer (some ⟨w2.heap.size, 0, none⟩), .int .i64 0, .pointer (some ⟨w2.heap.size + 1, 0, none⟩), .int .u64 (x.val.val : Int), undef, undef, .tuple #[.pointer (some ⟨ob, 0, none⟩), .int .i64 0], .slice A0 l0.length c0, .slice A1 l1.length c1, .tuple #[.pointer (some ⟨ob, 0, none⟩), .int .i64 0], .pointer (some ⟨ob, 0, none⟩), .int .i64 0, .int .i64 0, .bool false, undef, .pointer (some ⟨ob, 0, none⟩), .int .u64 ((allN l1 : Nat) : Int), .func (.func 132) #[] #[.pointer (some ⟨bx, 0, none⟩)], .int .u64 (x.val.val : Int), undef, undef, undef, undef, undef, undef, undef, undef, undef, undef, undef, undef, undef, undef, undef, undef, undef, undef, undef, undef, undef, undef, undef, undef, undef, undef, undef, undef, undef, undef], defers := [] }) ?assign ?body ?done ?stop
  case hI =>
   rintro pre W W' row ⟨g1, g2, g3, g4, g5⟩ hg hr
   have hne : ∀ b : Nat, b < W2.heap.size → some b ≠ row := fun b hb e => by have := (hr _ e.symm).1; omega
   exact ⟨g1.step (hg.block mb (by omega) (hne _ (by omega))), grown_own g2 hg (fun x e => by have := (hr x e).1; omega), g3.kept hg (hne _ (by omega)), g4.kept hg (hne _ (by omega)), Nat.le_trans g5 hg.size⟩
  case h0 => exact ⟨(hO.below hb22).rm, grown_of_below hb22 _, q1, q2, Nat.le_refl _⟩
  case assign =>
   intro l' x W K hK
   gi_wp2
   exact hK
  case body =>
   rintro l' pre x W ⟨g1, g2, g3, g4, g5⟩ _
   have hx := HM.out x
   have hx5 : x.val.val < 512 := x.val.isLt
   have hble : fullOf l0 l1 (valS pre) ≤ allN l1 := fullOf_le _ (fun s hs => valS_le hs)
   have hb5 : fullOf l0 l1 (valS pre) < 512 := by have := HHM.out; omega
   have hmbW : mb < W.heap.size := by have := g2.size; omega
   have hfi := fun (Z : World) (hZ : Below W.heap.size W Z) => fits_b (hO.grow (grown_below g2 hZ) (g1.step (hZ.block mb hmbW))) HF.out hx
   have hbw : Below w.heap.size w W := hbw2.grown g2 (by omega) (fun j hj => by cases hj; omega)
   have hn1 := fun (V : World) (hV : Below W.heap.size W V) => need_b (m := (x.val.val : Int)) HF.out.hl HF.out.h9 (by omega) (by omega) (Kd.C_below HR1.out (below_refl_trans hbw hV)) hc1
   have hn2 := fun (V : World) (hV : Below W.heap.size W V) => need_b (m := ((fullOf l0 l1 (valS pre) : Nat) : Int)) HF.out.hl HF.out.h9 (by omega) (by omega) (Kd.C_below HR1.out (below_refl_trans hbw hV)) hc1
   have hsn : fullOf l0 l1 (valS (pre ++ [x])) = fullStep l0 l1 (fullOf l0 l1 (valS pre)) x.val.val := by
    unfold valS
    rw [List.map_append]
    exact fullOf_snoc _ _ _ _
   obtain ⟨best, hbest⟩ : ∃ best, best = fullOf l0 l1 (valS pre) := ⟨_, rfl⟩
   rw [← hbest] at g4 hble hb5 hn2 hsn
   have hbxW := hbx0.kept g2 (by simp; omega)
   have e0 := hbxW.cell
   have e4 := g4.cell
   have e6 := g3.cell
   have HN1 := Aside0.mk hn1
   have HN2 := Aside0.mk hn2
   have HSN := Aside0.mk hsn
   have HFI := Aside0.mk hfi
   have HL1 := Aside0.mk (fun V => list_b (m := (x.val.val : Int)) (by omega) (by omega) V)
   have HL2 := Aside0.mk (fun V => list_b (m := (best : Int)) (by omega) (by omega) V)
   have HCS := Aside0.mk (compare_some (x.val.val : Int) (best : Int))
   have G1 := Aside0.mk g1
   have G2 := Aside0.mk g2
   clear g1 g2 hfi hn1 hn2 hsn hbest hx hble
   gi_wp2
   refine wpIn_mono (Q := fun e a' V => e = .normal ∧ a' = { tmps := #[.slice A0 l0.length c0, .slice A1 l1.length c1, undef, .pointer (some ⟨w.heap.size, 0, none⟩), .slice none 0 0, .int .i64 0, .pointer (some ⟨w2.heap.size, 0, none⟩), .int .i64 0, .pointer (some ⟨w2.heap.size + 1, 0, none⟩), .int .u64 (x.val.val : Int), .int .i64 (needI l1 (x.val.val : Int)), .int .i64 (needI l1 (best : Int)), .tuple #[.pointer (some ⟨ob, 0, none⟩), .int .i64 0], .slice A0 l0.length c0, .slice A1 l1.length c1, .tuple #[.pointer (some ⟨ob, 0, none⟩), .int .i64 0], .pointer (some ⟨ob, 0, none⟩), .int .i64 0, .int .i64 0, .bool false, undef, .pointer (some ⟨ob, 0, none⟩), .int .u64 ((allN l1 : Nat) : Int), .func (.func 132) #[] #[.pointer (some ⟨bx, 0, none⟩)], .int .u64 (x.val.val : Int), .slice A1 l1.length c1, .int .u64 (x.val.val : Int), .int .i64 (needI l1 (x.val.val : Int)), .slice A1 l1.length c1, .int .u64 (best : Int), .int .i64 (needI l1 (best : Int)), undef, undef, undef, undef, undef, undef, undef, undef, undef, undef, undef, undef, undef, undef, undef, undef, undef, undef, undef, undef, undef, undef, undef, undef], defers := [] } ∧ Below W.heap.size W V) ?r7 ?rest
   case r7 =>
    gi_region_with_o (first | (refine ⟨trivial, ?_⟩; gi_at_call 71; first | ((with_reducible refine (CallsIn.inRound l' (callsIn_wide.2 (HN1.out _ (below_drew (Below.refl _ _))))).mono ?_); rintro e W3 ⟨rfl, hb3⟩; have e10 := (hb3.cell (p := ⟨w.heap.size, 0, none⟩) hbxW.lt).trans hbxW.cell; have e11 := (hb3.cell (p := ⟨w2.heap.size + 1, 0, none⟩) g4.lt).trans g4.cell) | ((with_reducible refine (CallsIn.inRound l' (callsIn_wide.2 (HN2.out _ (below_drew (Below.refl _ _))))).mono ?_); rintro e W3 ⟨rfl, hb3⟩; have e10 := (hb3.cell (p := ⟨w.heap.size, 0, none⟩) hbxW.lt).trans hbxW.cell; have e11 := (hb3.cell (p := ⟨w2.heap.size + 1, 0, none⟩) g4.lt).trans g4.cell) | ((with_reducible refine (CallsIn.inRound l' (callsIn_wide.2 (HN1.out _ (below_refl_trans (below_drew (Below.refl _ _)) hb3)))).mono ?_); rintro e W4 ⟨rfl, hb4⟩) | ((with_reducible refine (CallsIn.inRound l' (callsIn_wide.2 (HN2.out _ (below_refl_trans (below_drew (Below.refl _ _)) hb3)))).mono ?_); rintro e W4 ⟨rfl, hb4⟩)))
    all_goals exact ⟨rfl, rfl, below_refl_trans (below_refl_trans (below_drew (Below.refl _ _)) hb3) hb4⟩
   case rest =>
    rintro e a' V ⟨rfl, rfl, hbV⟩
    have hbVd : Below W.heap.size W V.drew := below_drew hbV
    have bV6 := g3.kept (grown_of_below hbV none) (by simp)
    have bV8 := g4.kept (grown_of_below hbV none) (by simp)
    have w6 := bV6.cell
    have w8 := bV8.cell
    have HRM := Aside0.mk (G1.out.step (hbV.block mb hmbW))
    have HMB := Aside0.mk (show mb < V.heap.size by have := hbV.size; omega)
    obtain ⟨r, hr⟩ : ∃ r : Bool, r = ((decide (needI l1 (best : Int) < needI l1 (x.val.val : Int)) || (decide (needI l1 (x.val.val : Int) = needI l1 (best : Int)) && decide (cmpL (bitsL (x.val.val : Int)) (bitsL (best : Int)) < 0))) && fitsB l0 l1 x.val.val) := ⟨_, rfl⟩
    have hfs : fullStep l0 l1 best x.val.val = if r then x.val.val else best := by rw [hr]; rfl
    have HFS := Aside0.mk (HSN.out.trans hfs)
    have HR := Aside0.mk hr
    clear hfs HSN hr hbxW e0 e4 e6
    generalize needI l1 (x.val.val : Int) = nS at *
    generalize needI l1 (best : Int) = nB at *
    generalize cmpL (bitsL (x.val.val : Int)) (bitsL (best : Int)) = cc at *
    generalize bitsL (x.val.val : Int) = ls at *
    generalize bitsL (best : Int) = lb at *
    generalize fitsB l0 l1 x.val.val = ft at *
    gi_wp2
    refine wpIn_mono (Q := fun e a' Z => e = .normal ∧ (∃ u31 u32 u33 u34 u35 u36 u37 u38 u39 u40 u41 u42 u43 u44 u45 u46 u47 u48 u49 u50, a' = { tmps := #[.slice A0 l0.length c0, .slice A1 l1.length c1, undef, .pointer (some ⟨w.heap.size, 0, none⟩), .slice none 0 0, .int .i64 0, .pointer (some ⟨w2.heap.size, 0, none⟩), .int .i64 0, .pointer (some ⟨w2.heap.size + 1, 0, none⟩), .int .u64 (x.val.val : Int), .int .i64 nS, .int .i64 nB, .tuple #[.pointer (some ⟨ob, 0, none⟩), .int .i64 0], .slice A0 l0.length c0, .slice A1 l1.length c1, .tuple #[.pointer (some ⟨ob, 0, none⟩), .int .i64 0], .pointer (some ⟨ob, 0, none⟩), .int .i64 0, .int .i64 0, .bool false, undef, .pointer (some ⟨ob, 0, none⟩), .int .u64 ((allN l1 : Nat) : Int), .func (.func 132) #[] #[.pointer (some ⟨bx, 0, none⟩)], .int .u64 (x.val.val : Int), .slice A1 l1.length c1, .int .u64 (x.val.val : Int), .int .i64 nS, .slice A1 l1.length c1, .int .u64 (best : Int), .int .i64 nB, u31, u32, u33, u34, u35, u36, u37, u38, u39, u40, u41, u42, u43, u44, u45, u46, u47, u48, u49, u50, .bool r, undef, undef, undef], defers := [] }) ∧ V.grownBy Z (some mb) ∧ RM Z mb l0 l1) ?r8 ?rest2
    case r8 =>
     clear HN1 HN2 HBE HA HAL HP HM HHM HPA b1 b2 q1 q2
     by_cases hA : nB < nS
     ·have dA : decide (nS > nB) = true := decide_eq_true hA
      have dA2 : decide (nB < nS) = true := decide_eq_true hA
      obtain rfl : r = ft := by rw [HR.out, dA2]; simp
      refine reg_start l' hmix (by kernel_rfl) 21 [false, false, false, false, false, false, false, false, false, false, false, false, false, false, false, false, false, false, false, false, false] rfl rfl ?_
      refine reg_take (v := ?v1) 0 rfl (by kernel_rfl) (by kernel_rfl) (by kernel_rfl) (fun _ _ _ h => by cases h.1) (by kernel_rfl) (fun _ => rfl) ?hy1 ?re1
      case hy1 => intro w; go_simp; with_reducible rfl
      case re1 =>
       simp only [Act.put, List.setIfInBounds_toArray, List.set_cons_succ, List.set_cons_zero]
       refine reg_take (v := ?v2) 1 rfl (by kernel_rfl) (by kernel_rfl) (by kernel_rfl) (fun _ _ _ h => by cases h.1) (by kernel_rfl) (fun _ => rfl) ?hy2 ?re2
       case hy2 => intro w; go_simp; with_reducible rfl
       case re2 =>
        simp only [Act.put, List.setIfInBounds_toArray, List.set_cons_succ, List.set_cons_zero]
        refine reg_take (v := ?v3) 2 rfl (by kernel_rfl) (by kernel_rfl) (by kernel_rfl) (fun _ _ _ h => by cases h.1) (by kernel_rfl) (fun _ => rfl) ?hy3 ?re3
        case hy3 => intro w; go_simp; with_reducible rfl
        case re3 =>
         simp only [Act.put, List.setIfInBounds_toArray, List.set_cons_succ, List.set_cons_zero]
         refine reg_take (v := ?v4) 3 rfl (by kernel_rfl) (by kernel_rfl) (by kernel_rfl) (fun _ _ _ h => by cases h.1) (by kernel_rfl) (fun _ => rfl) ?hy4 ?re4
         case hy4 => intro w; go_simp; with_reducible rfl
         case re4 =>
          simp only [Act.put, List.setIfInBounds_toArray, List.set_cons_succ, List.set_cons_zero]
          refine reg_pass 4 rfl (by kernel_rfl) (by kernel_rfl) (by kernel_rfl) (fun _ _ _ h => by cases h.1) (by kernel_rfl) (fun _ => rfl) ?_
          simp only [Act.put, List.setIfInBounds_toArray, List.set_cons_succ, List.set_cons_zero]
          refine reg_pass 5 rfl (by kernel_rfl) (by kernel_rfl) (by kernel_rfl) (fun _ _ _ h => by cases h.1) (by kernel_rfl) (fun _ => rfl) ?_
          simp only [Act.put, List.setIfInBounds_toArray, List.set_cons_succ, List.set_cons_zero]
          refine reg_pass 6 rfl (by kernel_rfl) (by kernel_rfl) (by kernel_rfl) (fun _ _ _ h => by cases h.1) (by kernel_rfl) (fun _ => rfl) ?_
          simp only [Act.put, List.setIfInBounds_toArray, List.set_cons_succ, List.set_cons_zero]
          refine reg_pass 7 rfl (by kernel_rfl) (by kernel_rfl) (by kernel_rfl) (fun _ _ _ h => by cases h.1) (by kernel_rfl) (fun _ => rfl) ?_
          simp only [Act.put, List.setIfInBounds_toArray, List.set_cons_succ, List.set_cons_zero]
          refine reg_pass 8 rfl (by kernel_rfl) (by kernel_rfl) (by kernel_rfl) (fun _ _ _ h => by cases h.1) (by kernel_rfl) (fun _ => rfl) ?_
          simp only [Act.put, List.setIfInBounds_toArray, List.set_cons_succ, List.set_cons_zero]
          refine reg_pass 10 rfl (by kernel_rfl) (by kernel_rfl) (by kernel_rfl) (fun _ _ _ h => by cases h.1) (by kernel_rfl) (fun _ => rfl) ?_
          simp only [Act.put, List.setIfInBounds_toArray, List.set_cons_succ, List.set_cons_zero]
          refine reg_ready [9] (by kernel_rfl) (by simp) (RegR.pass rfl (by kernel_rfl) ?_ RegR.nil)
          simp only [Act.put, List.setIfInBounds_toArray, List.set_cons_succ, List.set_cons_zero]
          refine reg_ready [11] (by kernel_rfl) (by simp) (RegR.pass rfl (by kernel_rfl) ?_ RegR.nil)
          simp only [Act.put, List.setIfInBounds_toArray, List.set_cons_succ, List.set_cons_zero]
          refine reg_ready [12] (by kernel_rfl) (by simp) (RegR.pass rfl (by kernel_rfl) ?_ RegR.nil)
          simp only [Act.put, List.setIfInBounds_toArray, List.set_cons_succ, List.set_cons_zero]
          refine reg_pass 13 rfl (by kernel_rfl) (by kernel_rfl) (by kernel_rfl) (fun _ _ _ h => by cases h.1) (by kernel_rfl) (fun _ => rfl) ?_
          simp only [Act.put, List.setIfInBounds_toArray, List.set_cons_succ, List.set_cons_zero]
          refine reg_pass 14 rfl (by kernel_rfl) (by kernel_rfl) (by kernel_rfl) (fun _ _ _ h => by cases h.1) (by kernel_rfl) (fun _ => rfl) ?_
          simp only [Act.put, List.setIfInBounds_toArray, List.set_cons_succ, List.set_cons_zero]
          refine reg_take (v := ?v5) 15 rfl (by kernel_rfl) (by kernel_rfl) (by kernel_rfl) (fun _ _ _ h => by cases h.1) (by kernel_rfl) (fun _ => rfl) ?hy5 ?re5
          case hy5 => intro w; go_simp; with_reducible rfl
          case re5 =>
           simp only [Act.put, List.setIfInBounds_toArray, List.set_cons_succ, List.set_cons_zero]
           refine reg_take (v := ?v6) 16 rfl (by kernel_rfl) (by kernel_rfl) (by kernel_rfl) (fun _ _ _ h => by cases h.1) (by kernel_rfl) (fun _ => rfl) ?hy6 ?re6
           case hy6 => intro w; go_simp; with_reducible rfl
           case re6 =>
            simp only [Act.put, List.setIfInBounds_toArray, List.set_cons_succ, List.set_cons_zero]
            refine reg_take (v := ?v7) 18 rfl (by kernel_rfl) (by kernel_rfl) (by kernel_rfl) (fun _ _ _ h => by cases h.1) (by kernel_rfl) (fun _ => rfl) ?hy7 ?re7
            case hy7 => intro w; go_simp; with_reducible rfl
            case re7 =>
             simp only [Act.put, List.setIfInBounds_toArray, List.set_cons_succ, List.set_cons_zero]
             refine reg_ready [17] (by kernel_rfl) (by simp) ?_
             refine RegR.cons rfl (by kernel_rfl) (fun K hK => ?_) RegR.nil
             ·go_simp
              refine hK _ _ ?_
              clear hK K
              simp only [Act.put, List.setIfInBounds_toArray, List.set_cons_succ, List.set_cons_zero]
              refine reg_ready [19] (by kernel_rfl) (by simp) ?_
              refine RegR.cons rfl (by kernel_rfl) (fun K hK => ?_) RegR.nil
              ·go_simp
               refine ⟨trivial, ?_⟩
               gi_at_call 64
               refine (callsIn_wide.2 (HFI.out _ hbVd)).mono ?_
               rintro e Z19 ⟨rfl, hO19, hg19⟩
               refine hK _ _ ?_
               clear hK K
               simp only [Act.put, List.setIfInBounds_toArray, List.set_cons_succ, List.set_cons_zero]
               refine reg_take (v := ?v8) 20 rfl (by kernel_rfl) (by kernel_rfl) (by kernel_rfl) (fun _ _ _ h => by cases h.1) (by kernel_rfl) (fun _ => rfl) ?hy8 ?re8
               case hy8 => intro w; go_simp; with_reducible rfl
               case re8 =>
                simp only [Act.put, List.setIfInBounds_toArray, List.set_cons_succ, List.set_cons_zero]
                refine reg_done (by kernel_rfl) ?_
                exact ⟨rfl, ⟨_, _, _, _, _, _, _, _, _, _, _, _, _, _, _, _, _, _, _, _, rfl⟩, below_grown' (below_drew (Below.refl V.heap.size V)) hg19, hO19.rm⟩
     ·have dA : decide (nS > nB) = false := decide_eq_false hA
      have dA2 : decide (nB < nS) = false := decide_eq_false hA
      by_cases hE : nS = nB
      ·subst hE
       have dE : (nS == nS) = true := by simp
       by_cases hc : cc < 0
       ·have dc : decide (cc < 0) = true := decide_eq_true hc
        obtain rfl : r = ft := by rw [HR.out, dA2, dc]; simp
        refine reg_start l' hmix (by kernel_rfl) 21 [false, false, false, false, false, false, false, false, false, false, false, false, false, false, false, false, false, false, false, false, false] rfl rfl ?_
        refine reg_take (v := ?v9) 0 rfl (by kernel_rfl) (by kernel_rfl) (by kernel_rfl) (fun _ _ _ h => by cases h.1) (by kernel_rfl) (fun _ => rfl) ?hy9 ?re9
        case hy9 => intro w; go_simp; with_reducible rfl
        case re9 =>
         simp only [Act.put, List.setIfInBounds_toArray, List.set_cons_succ, List.set_cons_zero]
         refine reg_take (v := ?v10) 1 rfl (by kernel_rfl) (by kernel_rfl) (by kernel_rfl) (fun _ _ _ h => by cases h.1) (by kernel_rfl) (fun _ => rfl) ?hy10 ?re10
         case hy10 => intro w; go_simp; with_reducible rfl
         case re10 =>
          simp only [Act.put, List.setIfInBounds_toArray, List.set_cons_succ, List.set_cons_zero]
          refine reg_take (v := ?v11) 2 rfl (by kernel_rfl) (by kernel_rfl) (by kernel_rfl) (fun _ _ _ h => by cases h.1) (by kernel_rfl) (fun _ => rfl) ?hy11 ?re11
          case hy11 => intro w; go_simp; with_reducible rfl
          case re11 =>
           simp only [Act.put, List.setIfInBounds_toArray, List.set_cons_succ, List.set_cons_zero]
           refine reg_take (v := ?v12) 3 rfl (by kernel_rfl) (by kernel_rfl) (by kernel_rfl) (fun _ _ _ h => by cases h.1) (by kernel_rfl) (fun _ => rfl) ?hy12 ?re12
           case hy12 => intro w; go_simp; with_reducible rfl
           case re12 =>
            simp only [Act.put, List.setIfInBounds_toArray, List.set_cons_succ, List.set_cons_zero]
            refine reg_take (v := ?v13) 4 rfl (by kernel_rfl) (by kernel_rfl) (by kernel_rfl) (fun _ _ _ h => by cases h.1) (by kernel_rfl) (fun _ => rfl) ?hy13 ?re13
            case hy13 => intro w; go_simp; with_reducible rfl
            case re13 =>
             simp only [Act.put, List.setIfInBounds_toArray, List.set_cons_succ, List.set_cons_zero]
             refine reg_take (v := ?v14) 5 rfl (by kernel_rfl) (by kernel_rfl) (by kernel_rfl) (fun _ _ _ h => by cases h.1) (by kernel_rfl) (fun _ => rfl) ?hy14 ?re14
             case hy14 => intro w; go_simp; with_reducible rfl
             case re14 =>
              simp only [Act.put, List.setIfInBounds_toArray, List.set_cons_succ, List.set_cons_zero]
              refine reg_take (v := ?v15) 6 rfl (by kernel_rfl) (by kernel_rfl) (by kernel_rfl) (fun _ _ _ h => by cases h.1) (by kernel_rfl) (fun _ => rfl) ?hy15 ?re15
              case hy15 => intro w; go_simp; with_reducible rfl
              case re15 =>
               simp only [Act.put, List.setIfInBounds_toArray, List.set_cons_succ, List.set_cons_zero]
               refine reg_take (v := ?v16) 7 rfl (by kernel_rfl) (by kernel_rfl) (by kernel_rfl) (fun _ _ _ h => by cases h.1) (by kernel_rfl) (fun _ => rfl) ?hy16 ?re16
               case hy16 => intro w; go_simp; with_reducible rfl
               case re16 =>
                simp only [Act.put, List.setIfInBounds_toArray, List.set_cons_succ, List.set_cons_zero]
                refine reg_take (v := ?v17) 8 rfl (by kernel_rfl) (by kernel_rfl) (by kernel_rfl) (fun _ _ _ h => by cases h.1) (by kernel_rfl) (fun _ => rfl) ?hy17 ?re17
                case hy17 => intro w; go_simp; with_reducible rfl
                case re17 =>
                 simp only [Act.put, List.setIfInBounds_toArray, List.set_cons_succ, List.set_cons_zero]
                 refine reg_ready [9, 10] (by kernel_rfl) (by simp) ?_
                 refine RegR.cons rfl (by kernel_rfl) (fun K hK => ?_) ?_
                 ·go_simp
                  refine ⟨trivial, ?_⟩
                  gi_at_call 74
                  refine (callsIn_wide.2 (HL1.out _)).mono ?_
                  rintro e Z9 ⟨A9, c9, rfl, hc9, hC9, hb9⟩
                  have HB9 := Aside0.mk (below_refl_trans (below_drew (Below.refl V.heap.size V)) hb9)
                  have f9 := (bV8.kept (grown_of_below HB9.out none) (by simp)).cell
                  have h9 := (bV6.kept (grown_of_below HB9.out none) (by simp)).cell
                  refine hK _ _ ?_
                  clear hK K
                  simp only [Act.put, List.setIfInBounds_toArray, List.set_cons_succ, List.set_cons_zero]
                  refine reg_ready [10] (by kernel_rfl) (by simp) ?_
                  refine RegR.cons rfl (by kernel_rfl) (fun K hK => ?_) RegR.nil
                  ·go_simp
                   refine hK _ _ ?_
                   clear hK K
                   simp only [Act.put, List.setIfInBounds_toArray, List.set_cons_succ, List.set_cons_zero]
                   refine reg_ready [11] (by kernel_rfl) (by simp) ?_
                   refine RegR.cons rfl (by kernel_rfl) (fun K hK => ?_) RegR.nil
                   ·go_simp
                    refine ⟨trivial, ?_⟩
                    gi_at_call 74
                    refine (callsIn_wide.2 (HL2.out _)).mono ?_
                    rintro e Z11 ⟨A11, c11, rfl, hc11, hC11, hb11⟩
                    have HB11 := Aside0.mk (below_refl_trans (below_refl_trans (below_drew (Below.refl V.heap.size V)) hb9) hb11)
                    have f11 := (bV8.kept (grown_of_below HB11.out none) (by simp)).cell
                    have h11 := (bV6.kept (grown_of_below HB11.out none) (by simp)).cell
                    refine hK _ _ ?_
                    clear hK K
                    simp only [Act.put, List.setIfInBounds_toArray, List.set_cons_succ, List.set_cons_zero]
                    refine reg_ready [12] (by kernel_rfl) (by simp) ?_
                    refine RegR.cons rfl (by kernel_rfl) (fun K hK => ?_) RegR.nil
                    ·go_simp
                     refine ⟨trivial, ?_⟩
                     gi_at_call 87
                     refine (callsIn_wide.2 (slices_Compare_int_int.calls 10 A9 c9 ls A11 c11 lb _ _ (C_below hC9 hb11) hc9 hC11 hc11 HCS.out)).mono ?_
                     rintro e Z12 ⟨rfl, ⟨nd, rfl⟩⟩
                     refine hK _ _ ?_
                     clear hK K
                     simp only [Act.put, List.setIfInBounds_toArray, List.set_cons_succ, List.set_cons_zero]
                     refine reg_take (v := ?v18) 13 rfl (by kernel_rfl) (by kernel_rfl) (by kernel_rfl) (fun _ _ _ h => by cases h.1) (by kernel_rfl) (fun _ => rfl) ?hy18 ?re18
                     case hy18 => intro w; go_simp; with_reducible rfl
                     case re18 =>
                      simp only [Act.put, List.setIfInBounds_toArray, List.set_cons_succ, List.set_cons_zero]
                      refine reg_take (v := ?v19) 14 rfl (by kernel_rfl) (by kernel_rfl) (by kernel_rfl) (fun _ _ _ h => by cases h.1) (by kernel_rfl) (fun _ => rfl) ?hy19 ?re19
                      case hy19 => intro w; go_simp; with_reducible rfl
                      case re19 =>
                       simp only [Act.put, List.setIfInBounds_toArray, List.set_cons_succ, List.set_cons_zero]
                       refine reg_take (v := ?v20) 15 rfl (by kernel_rfl) (by kernel_rfl) (by kernel_rfl) (fun _ _ _ h => by cases h.1) (by kernel_rfl) (fun _ => rfl) ?hy20 ?re20
                       case hy20 => intro w; go_simp; with_reducible rfl
                       case re20 =>
                        simp only [Act.put, List.setIfInBounds_toArray, List.set_cons_succ, List.set_cons_zero]
                        refine reg_take (v := ?v21) 16 rfl (by kernel_rfl) (by kernel_rfl) (by kernel_rfl) (fun _ _ _ h => by cases h.1) (by kernel_rfl) (fun _ => rfl) ?hy21 ?re21
                        case hy21 => intro w; go_simp; with_reducible rfl
                        case re21 =>
                         simp only [Act.put, List.setIfInBounds_toArray, List.set_cons_succ, List.set_cons_zero]
                         refine reg_take (v := ?v22) 18 rfl (by kernel_rfl) (by kernel_rfl) (by kernel_rfl) (fun _ _ _ h => by cases h.1) (by kernel_rfl) (fun _ => rfl) ?hy22 ?re22
                         case hy22 => intro w; go_simp; with_reducible rfl
                         case re22 =>
                          simp only [Act.put, List.setIfInBounds_toArray, List.set_cons_succ, List.set_cons_zero]
                          refine reg_ready [17] (by kernel_rfl) (by simp) ?_
                          refine RegR.cons rfl (by kernel_rfl) (fun K hK => ?_) RegR.nil
                          ·go_simp
                           refine hK _ _ ?_
                           clear hK K
                           simp only [Act.put, List.setIfInBounds_toArray, List.set_cons_succ, List.set_cons_zero]
                           refine reg_ready [19] (by kernel_rfl) (by simp) ?_
                           refine RegR.cons rfl (by kernel_rfl) (fun K hK => ?_) RegR.nil
                           ·go_simp
                            refine ⟨trivial, ?_⟩
                            gi_at_call 64
                            refine (callsIn_wide.2 (HFI.out _ (pw_below_drewN (hbV.trans (HB11.out.mono hbV.size)) nd))).mono ?_
                            rintro e Z19 ⟨rfl, hO19, hg19⟩
                            refine hK _ _ ?_
                            clear hK K
                            simp only [Act.put, List.setIfInBounds_toArray, List.set_cons_succ, List.set_cons_zero]
                            refine reg_take (v := ?v23) 20 rfl (by kernel_rfl) (by kernel_rfl) (by kernel_rfl) (fun _ _ _ h => by cases h.1) (by kernel_rfl) (fun _ => rfl) ?hy23 ?re23
                            case hy23 => intro w; go_simp; with_reducible rfl
                            case re23 =>
                             simp only [Act.put, List.setIfInBounds_toArray, List.set_cons_succ, List.set_cons_zero]
                             refine reg_done (by kernel_rfl) ?_
                             exact ⟨rfl, ⟨_, _, _, _, _, _, _, _, _, _, _, _, _, _, _, _, _, _, _, _, rfl⟩, below_grown' (pw_below_drewN HB11.out nd) hg19, hO19.rm⟩
                 refine RegR.cons rfl (by kernel_rfl) (fun K hK => ?_) RegR.nil
                 ·go_simp
                  refine hK _ _ ?_
                  clear hK K
                  simp only [Act.put, List.setIfInBounds_toArray, List.set_cons_succ, List.set_cons_zero]
                  refine reg_ready [9] (by kernel_rfl) (by simp) ?_
                  refine RegR.cons rfl (by kernel_rfl) (fun K hK => ?_) RegR.nil
                  ·go_simp
                   refine ⟨trivial, ?_⟩
                   gi_at_call 74
                   refine (callsIn_wide.2 (HL1.out _)).mono ?_
                   rintro e Z9 ⟨A9, c9, rfl, hc9, hC9, hb9⟩
                   have HB9 := Aside0.mk (below_refl_trans (below_drew (Below.refl V.heap.size V)) hb9)
                   have f9 := (bV8.kept (grown_of_below HB9.out none) (by simp)).cell
                   have h9 := (bV6.kept (grown_of_below HB9.out none) (by simp)).cell
                   refine hK _ _ ?_
                   clear hK K
                   simp only [Act.put, List.setIfInBounds_toArray, List.set_cons_succ, List.set_cons_zero]
                   refine reg_ready [11] (by kernel_rfl) (by simp) ?_
                   refine RegR.cons rfl (by kernel_rfl) (fun K hK => ?_) RegR.nil
                   ·go_simp
                    refine ⟨trivial, ?_⟩
                    gi_at_call 74
                    refine (callsIn_wide.2 (HL2.out _)).mono ?_
                    rintro e Z11 ⟨A11, c11, rfl, hc11, hC11, hb11⟩
                    have HB11 := Aside0.mk (below_refl_trans (below_refl_trans (below_drew (Below.refl V.heap.size V)) hb9) hb11)
                    have f11 := (bV8.kept (grown_of_below HB11.out none) (by simp)).cell
                    have h11 := (bV6.kept (grown_of_below HB11.out none) (by simp)).cell
                    refine hK _ _ ?_
                    clear hK K
                    simp only [Act.put, List.setIfInBounds_toArray, List.set_cons_succ, List.set_cons_zero]
                    refine reg_ready [12] (by kernel_rfl) (by simp) ?_
                    refine RegR.cons rfl (by kernel_rfl) (fun K hK => ?_) RegR.nil
                    ·go_simp
                     refine ⟨trivial, ?_⟩
                     gi_at_call 87
                     refine (callsIn_wide.2 (slices_Compare_int_int.calls 10 A9 c9 ls A11 c11 lb _ _ (C_below hC9 hb11) hc9 hC11 hc11 HCS.out)).mono ?_
                     rintro e Z12 ⟨rfl, ⟨nd, rfl⟩⟩
                     refine hK _ _ ?_
                     clear hK K
                     simp only [Act.put, List.setIfInBounds_toArray, List.set_cons_succ, List.set_cons_zero]
                     refine reg_take (v := ?v24) 13 rfl (by kernel_rfl) (by kernel_rfl) (by kernel_rfl) (fun _ _ _ h => by cases h.1) (by kernel_rfl) (fun _ => rfl) ?hy24 ?re24
                     case hy24 => intro w; go_simp; with_reducible rfl
                     case re24 =>
                      simp only [Act.put, List.setIfInBounds_toArray, List.set_cons_succ, List.set_cons_zero]
                      refine reg_take (v := ?v25) 14 rfl (by kernel_rfl) (by kernel_rfl) (by kernel_rfl) (fun _ _ _ h => by cases h.1) (by kernel_rfl) (fun _ => rfl) ?hy25 ?re25
                      case hy25 => intro w; go_simp; with_reducible rfl
                      case re25 =>
                       simp only [Act.put, List.setIfInBounds_toArray, List.set_cons_succ, List.set_cons_zero]
                       refine reg_take (v := ?v26) 15 rfl (by kernel_rfl) (by kernel_rfl) (by kernel_rfl) (fun _ _ _ h => by cases h.1) (by kernel_rfl) (fun _ => rfl) ?hy26 ?re26
                       case hy26 => intro w; go_simp; with_reducible rfl
                       case re26 =>
                        simp only [Act.put, List.setIfInBounds_toArray, List.set_cons_succ, List.set_cons_zero]
                        refine reg_take (v := ?v27) 16 rfl (by kernel_rfl) (by kernel_rfl) (by kernel_rfl) (fun _ _ _ h => by cases h.1) (by kernel_rfl) (fun _ => rfl) ?hy27 ?re27
                        case hy27 => intro w; go_simp; with_reducible rfl
                        case re27 =>
                         simp only [Act.put, List.setIfInBounds_toArray, List.set_cons_succ, List.set_cons_zero]
                         refine reg_take (v := ?v28) 18 rfl (by kernel_rfl) (by kernel_rfl) (by kernel_rfl) (fun _ _ _ h => by cases h.1) (by kernel_rfl) (fun _ => rfl) ?hy28 ?re28
                         case hy28 => intro w; go_simp; with_reducible rfl
                         case re28 =>
                          simp only [Act.put, List.setIfInBounds_toArray, List.set_cons_succ, List.set_cons_zero]
                          refine reg_ready [17] (by kernel_rfl) (by simp) ?_
                          refine RegR.cons rfl (by kernel_rfl) (fun K hK => ?_) RegR.nil
                          ·go_simp
                           refine hK _ _ ?_
                           clear hK K
                           simp only [Act.put, List.setIfInBounds_toArray, List.set_cons_succ, List.set_cons_zero]
                           refine reg_ready [19] (by kernel_rfl) (by simp) ?_
                           refine RegR.cons rfl (by kernel_rfl) (fun K hK => ?_) RegR.nil
                           ·go_simp
                            refine ⟨trivial, ?_⟩
                            gi_at_call 64
                            refine (callsIn_wide.2 (HFI.out _ (pw_below_drewN (hbV.trans (HB11.out.mono hbV.size)) nd))).mono ?_
                            rintro e Z19 ⟨rfl, hO19, hg19⟩
                            refine hK _ _ ?_
                            clear hK K
                            simp only [Act.put, List.setIfInBounds_toArray, List.set_cons_succ, List.set_cons_zero]
                            refine reg_take (v := ?v29) 20 rfl (by kernel_rfl) (by kernel_rfl) (by kernel_rfl) (fun _ _ _ h => by cases h.1) (by kernel_rfl) (fun _ => rfl) ?hy29 ?re29
                            case hy29 => intro w; go_simp; with_reducible rfl
                            case re29 =>
                             simp only [Act.put, List.setIfInBounds_toArray, List.set_cons_succ, List.set_cons_zero]
                             refine reg_done (by kernel_rfl) ?_
                             exact ⟨rfl, ⟨_, _, _, _, _, _, _, _, _, _, _, _, _, _, _, _, _, _, _, _, rfl⟩, below_grown' (pw_below_drewN HB11.out nd) hg19, hO19.rm⟩
       ·have dc : decide (cc < 0) = false := decide_eq_false hc
        obtain rfl : r = false := by rw [HR.out, dA2, dc]; simp
        refine reg_start l' hmix (by kernel_rfl) 21 [false, false, false, false, false, false, false, false, false, false, false, false, false, false, false, false, false, false, false, false, false] rfl rfl ?_
        refine reg_take (v := ?v30) 0 rfl (by kernel_rfl) (by kernel_rfl) (by kernel_rfl) (fun _ _ _ h => by cases h.1) (by kernel_rfl) (fun _ => rfl) ?hy30 ?re30
        case hy30 => intro w; go_simp; with_reducible rfl
        case re30 =>
         simp only [Act.put, List.setIfInBounds_toArray, List.set_cons_succ, List.set_cons_zero]
         refine reg_take (v := ?v31) 1 rfl (by kernel_rfl) (by kernel_rfl) (by kernel_rfl) (fun _ _ _ h => by cases h.1) (by kernel_rfl) (fun _ => rfl) ?hy31 ?re31
         case hy31 => intro w; go_simp; with_reducible rfl
         case re31 =>
          simp only [Act.put, List.setIfInBounds_toArray, List.set_cons_succ, List.set_cons_zero]
          refine reg_take (v := ?v32) 2 rfl (by kernel_rfl) (by kernel_rfl) (by kernel_rfl) (fun _ _ _ h => by cases h.1) (by kernel_rfl) (fun _ => rfl) ?hy32 ?re32
          case hy32 => intro w; go_simp; with_reducible rfl
          case re32 =>
           simp only [Act.put, List.setIfInBounds_toArray, List.set_cons_succ, List.set_cons_zero]
           refine reg_take (v := ?v33) 3 rfl (by kernel_rfl) (by kernel_rfl) (by kernel_rfl) (fun _ _ _ h => by cases h.1) (by kernel_rfl) (fun _ => rfl) ?hy33 ?re33
           case hy33 => intro w; go_simp; with_reducible rfl
           case re33 =>
            simp only [Act.put, List.setIfInBounds_toArray, List.set_cons_succ, List.set_cons_zero]
            refine reg_take (v := ?v34) 4 rfl (by kernel_rfl) (by kernel_rfl) (by kernel_rfl) (fun _ _ _ h => by cases h.1) (by kernel_rfl) (fun _ => rfl) ?hy34 ?re34
            case hy34 => intro w; go_simp; with_reducible rfl
            case re34 =>
             simp only [Act.put, List.setIfInBounds_toArray, List.set_cons_succ, List.set_cons_zero]
             refine reg_take (v := ?v35) 5 rfl (by kernel_rfl) (by kernel_rfl) (by kernel_rfl) (fun _ _ _ h => by cases h.1) (by kernel_rfl) (fun _ => rfl) ?hy35 ?re35
             case hy35 => intro w; go_simp; with_reducible rfl
             case re35 =>
              simp only [Act.put, List.setIfInBounds_toArray, List.set_cons_succ, List.set_cons_zero]
              refine reg_take (v := ?v36) 6 rfl (by kernel_rfl) (by kernel_rfl) (by kernel_rfl) (fun _ _ _ h => by cases h.1) (by kernel_rfl) (fun _ => rfl) ?hy36 ?re36
              case hy36 => intro w; go_simp; with_reducible rfl
              case re36 =>
               simp only [Act.put, List.setIfInBounds_toArray, List.set_cons_succ, List.set_cons_zero]
               refine reg_take (v := ?v37) 7 rfl (by kernel_rfl) (by kernel_rfl) (by kernel_rfl) (fun _ _ _ h => by cases h.1) (by kernel_rfl) (fun _ => rfl) ?hy37 ?re37
               case hy37 => intro w; go_simp; with_reducible rfl
               case re37 =>
                simp only [Act.put, List.setIfInBounds_toArray, List.set_cons_succ, List.set_cons_zero]
                refine reg_take (v := ?v38) 8 rfl (by kernel_rfl) (by kernel_rfl) (by kernel_rfl) (fun _ _ _ h => by cases h.1) (by kernel_rfl) (fun _ => rfl) ?hy38 ?re38
                case hy38 => intro w; go_simp; with_reducible rfl
                case re38 =>
                 simp only [Act.put, List.setIfInBounds_toArray, List.set_cons_succ, List.set_cons_zero]
                 refine reg_ready [9, 10] (by kernel_rfl) (by simp) ?_
                 refine RegR.cons rfl (by kernel_rfl) (fun K hK => ?_) ?_
                 ·go_simp
                  refine ⟨trivial, ?_⟩
                  gi_at_call 74
                  refine (callsIn_wide.2 (HL1.out _)).mono ?_
                  rintro e Z9 ⟨A9, c9, rfl, hc9, hC9, hb9⟩
                  have HB9 := Aside0.mk (below_refl_trans (below_drew (Below.refl V.heap.size V)) hb9)
                  have f9 := (bV8.kept (grown_of_below HB9.out none) (by simp)).cell
                  have h9 := (bV6.kept (grown_of_below HB9.out none) (by simp)).cell
                  refine hK _ _ ?_
                  clear hK K
                  simp only [Act.put, List.setIfInBounds_toArray, List.set_cons_succ, List.set_cons_zero]
                  refine reg_ready [10] (by kernel_rfl) (by simp) ?_
                  refine RegR.cons rfl (by kernel_rfl) (fun K hK => ?_) RegR.nil
                  ·go_simp
                   refine hK _ _ ?_
                   clear hK K
                   simp only [Act.put, List.setIfInBounds_toArray, List.set_cons_succ, List.set_cons_zero]
                   refine reg_ready [11] (by kernel_rfl) (by simp) ?_
                   refine RegR.cons rfl (by kernel_rfl) (fun K hK => ?_) RegR.nil
                   ·go_simp
                    refine ⟨trivial, ?_⟩
                    gi_at_call 74
                    refine (callsIn_wide.2 (HL2.out _)).mono ?_
                    rintro e Z11 ⟨A11, c11, rfl, hc11, hC11, hb11⟩
                    have HB11 := Aside0.mk (below_refl_trans (below_refl_trans (below_drew (Below.refl V.heap.size V)) hb9) hb11)
                    have f11 := (bV8.kept (grown_of_below HB11.out none) (by simp)).cell
                    have h11 := (bV6.kept (grown_of_below HB11.out none) (by simp)).cell
                    refine hK _ _ ?_
                    clear hK K
                    simp only [Act.put, List.setIfInBounds_toArray, List.set_cons_succ, List.set_cons_zero]
                    refine reg_ready [12] (by kernel_rfl) (by simp) ?_
                    refine RegR.cons rfl (by kernel_rfl) (fun K hK => ?_) RegR.nil
                    ·go_simp
                     refine ⟨trivial, ?_⟩
                     gi_at_call 87
                     refine (callsIn_wide.2 (slices_Compare_int_int.calls 10 A9 c9 ls A11 c11 lb _ _ (C_below hC9 hb11) hc9 hC11 hc11 HCS.out)).mono ?_
                     rintro e Z12 ⟨rfl, ⟨nd, rfl⟩⟩
                     refine hK _ _ ?_
                     clear hK K
                     simp only [Act.put, List.setIfInBounds_toArray, List.set_cons_succ, List.set_cons_zero]
                     refine reg_take (v := ?v39) 13 rfl (by kernel_rfl) (by kernel_rfl) (by kernel_rfl) (fun _ _ _ h => by cases h.1) (by kernel_rfl) (fun _ => rfl) ?hy39 ?re39
                     case hy39 => intro w; go_simp; with_reducible rfl
                     case re39 =>
                      simp only [Act.put, List.setIfInBounds_toArray, List.set_cons_succ, List.set_cons_zero]
                      refine reg_take (v := ?v40) 14 rfl (by kernel_rfl) (by kernel_rfl) (by kernel_rfl) (fun _ _ _ h => by cases h.1) (by kernel_rfl) (fun _ => rfl) ?hy40 ?re40
                      case hy40 => intro w; go_simp; with_reducible rfl
                      case re40 =>
                       simp only [Act.put, List.setIfInBounds_toArray, List.set_cons_succ, List.set_cons_zero]
                       refine reg_take (v := ?v41) 15 rfl (by kernel_rfl) (by kernel_rfl) (by kernel_rfl) (fun _ _ _ h => by cases h.1) (by kernel_rfl) (fun _ => rfl) ?hy41 ?re41
                       case hy41 => intro w; go_simp; with_reducible rfl
                       case re41 =>
                        simp only [Act.put, List.setIfInBounds_toArray, List.set_cons_succ, List.set_cons_zero]
                        refine reg_take (v := ?v42) 16 rfl (by kernel_rfl) (by kernel_rfl) (by kernel_rfl) (fun _ _ _ h => by cases h.1) (by kernel_rfl) (fun _ => rfl) ?hy42 ?re42
                        case hy42 => intro w; go_simp; with_reducible rfl
                        case re42 =>
                         simp only [Act.put, List.setIfInBounds_toArray, List.set_cons_succ, List.set_cons_zero]
                         refine reg_pass 17 rfl (by kernel_rfl) (by kernel_rfl) (by kernel_rfl) (fun _ _ _ h => by cases h.1) (by kernel_rfl) (fun _ => rfl) ?_
                         simp only [Act.put, List.setIfInBounds_toArray, List.set_cons_succ, List.set_cons_zero]
                         refine reg_pass 18 rfl (by kernel_rfl) (by kernel_rfl) (by kernel_rfl) (fun _ _ _ h => by cases h.1) (by kernel_rfl) (fun _ => rfl) ?_
                         simp only [Act.put, List.setIfInBounds_toArray, List.set_cons_succ, List.set_cons_zero]
                         refine reg_ready [19] (by kernel_rfl) (by simp) (RegR.pass rfl (by kernel_rfl) ?_ RegR.nil)
                         simp only [Act.put, List.setIfInBounds_toArray, List.set_cons_succ, List.set_cons_zero]
                         refine reg_take (v := ?v43) 20 rfl (by kernel_rfl) (by kernel_rfl) (by kernel_rfl) (fun _ _ _ h => by cases h.1) (by kernel_rfl) (fun _ => rfl) ?hy43 ?re43
                         case hy43 => intro w; go_simp; with_reducible rfl
                         case re43 =>
                          simp only [Act.put, List.setIfInBounds_toArray, List.set_cons_succ, List.set_cons_zero]
                          refine reg_done (by kernel_rfl) ?_
                          exact ⟨rfl, ⟨_, _, _, _, _, _, _, _, _, _, _, _, _, _, _, _, _, _, _, _, rfl⟩, grown_of_below (pw_below_drewN HB11.out nd) _, HRM.out.step (Below.block (pw_below_drewN HB11.out nd) mb HMB.out)⟩
                 refine RegR.cons rfl (by kernel_rfl) (fun K hK => ?_) RegR.nil
                 ·go_simp
                  refine hK _ _ ?_
                  clear hK K
                  simp only [Act.put, List.setIfInBounds_toArray, List.set_cons_succ, List.set_cons_zero]
                  refine reg_ready [9] (by kernel_rfl) (by simp) ?_
                  refine RegR.cons rfl (by kernel_rfl) (fun K hK => ?_) RegR.nil
                  ·go_simp
                   refine ⟨trivial, ?_⟩
                   gi_at_call 74
                   refine (callsIn_wide.2 (HL1.out _)).mono ?_
                   rintro e Z9 ⟨A9, c9, rfl, hc9, hC9, hb9⟩
                   have HB9 := Aside0.mk (below_refl_trans (below_drew (Below.refl V.heap.size V)) hb9)
                   have f9 := (bV8.kept (grown_of_below HB9.out none) (by simp)).cell
                   have h9 := (bV6.kept (grown_of_below HB9.out none) (by simp)).cell
                   refine hK _ _ ?_
                   clear hK K
                   simp only [Act.put, List.setIfInBounds_toArray, List.set_cons_succ, List.set_cons_zero]
                   refine reg_ready [11] (by kernel_rfl) (by simp) ?_
                   refine RegR.cons rfl (by kernel_rfl) (fun K hK => ?_) RegR.nil
                   ·go_simp
                    refine ⟨trivial, ?_⟩
                    gi_at_call 74
                    refine (callsIn_wide.2 (HL2.out _)).mono ?_
                    rintro e Z11 ⟨A11, c11, rfl, hc11, hC11, hb11⟩
                    have HB11 := Aside0.mk (below_refl_trans (below_refl_trans (below_drew (Below.refl V.heap.size V)) hb9) hb11)
                    have f11 := (bV8.kept (grown_of_below HB11.out none) (by simp)).cell
                    have h11 := (bV6.kept (grown_of_below HB11.out none) (by simp)).cell
                    refine hK _ _ ?_
                    clear hK K
                    simp only [Act.put, List.setIfInBounds_toArray, List.set_cons_succ, List.set_cons_zero]
                    refine reg_ready [12] (by kernel_rfl) (by simp) ?_
                    refine RegR.cons rfl (by kernel_rfl) (fun K hK => ?_) RegR.nil
                    ·go_simp
                     refine ⟨trivial, ?_⟩
                     gi_at_call 87
                     refine (callsIn_wide.2 (slices_Compare_int_int.calls 10 A9 c9 ls A11 c11 lb _ _ (C_below hC9 hb11) hc9 hC11 hc11 HCS.out)).mono ?_
                     rintro e Z12 ⟨rfl, ⟨nd, rfl⟩⟩
                     refine hK _ _ ?_
                     clear hK K
                     simp only [Act.put, List.setIfInBounds_toArray, List.set_cons_succ, List.set_cons_zero]
                     refine reg_take (v := ?v44) 13 rfl (by kernel_rfl) (by kernel_rfl) (by kernel_rfl) (fun _ _ _ h => by cases h.1) (by kernel_rfl) (fun _ => rfl) ?hy44 ?re44
                     case hy44 => intro w; go_simp; with_reducible rfl
                     case re44 =>
                      simp only [Act.put, List.setIfInBounds_toArray, List.set_cons_succ, List.set_cons_zero]
                      refine reg_take (v := ?v45) 14 rfl (by kernel_rfl) (by kernel_rfl) (by kernel_rfl) (fun _ _ _ h => by cases h.1) (by kernel_rfl) (fun _ => rfl) ?hy45 ?re45
                      case hy45 => intro w; go_simp; with_reducible rfl
                      case re45 =>
                       simp only [Act.put, List.setIfInBounds_toArray, List.set_cons_succ, List.set_cons_zero]
                       refine reg_take (v := ?v46) 15 rfl (by kernel_rfl) (by kernel_rfl) (by kernel_rfl) (fun _ _ _ h => by cases h.1) (by kernel_rfl) (fun _ => rfl) ?hy46 ?re46
                       case hy46 => intro w; go_simp; with_reducible rfl
                       case re46 =>
                        simp only [Act.put, List.setIfInBounds_toArray, List.set_cons_succ, List.set_cons_zero]
                        refine reg_take (v := ?v47) 16 rfl (by kernel_rfl) (by kernel_rfl) (by kernel_rfl) (fun _ _ _ h => by cases h.1) (by kernel_rfl) (fun _ => rfl) ?hy47 ?re47
                        case hy47 => intro w; go_simp; with_reducible rfl
                        case re47 =>
                         simp only [Act.put, List.setIfInBounds_toArray, List.set_cons_succ, List.set_cons_zero]
                         refine reg_pass 17 rfl (by kernel_rfl) (by kernel_rfl) (by kernel_rfl) (fun _ _ _ h => by cases h.1) (by kernel_rfl) (fun _ => rfl) ?_
                         simp only [Act.put, List.setIfInBounds_toArray, List.set_cons_succ, List.set_cons_zero]
                         refine reg_pass 18 rfl (by kernel_rfl) (by kernel_rfl) (by kernel_rfl) (fun _ _ _ h => by cases h.1) (by kernel_rfl) (fun _ => rfl) ?_
                         simp only [Act.put, List.setIfInBounds_toArray, List.set_cons_succ, List.set_cons_zero]
                         refine reg_ready [19] (by kernel_rfl) (by simp) (RegR.pass rfl (by kernel_rfl) ?_ RegR.nil)
                         simp only [Act.put, List.setIfInBounds_toArray, List.set_cons_succ, List.set_cons_zero]
                         refine reg_take (v := ?v48) 20 rfl (by kernel_rfl) (by kernel_rfl) (by kernel_rfl) (fun _ _ _ h => by cases h.1) (by kernel_rfl) (fun _ => rfl) ?hy48 ?re48
                         case hy48 => intro w; go_simp; with_reducible rfl
                         case re48 =>
                          simp only [Act.put, List.setIfInBounds_toArray, List.set_cons_succ, List.set_cons_zero]
                          refine reg_done (by kernel_rfl) ?_
                          exact ⟨rfl, ⟨_, _, _, _, _, _, _, _, _, _, _, _, _, _, _, _, _, _, _, _, rfl⟩, grown_of_below (pw_below_drewN HB11.out nd) _, HRM.out.step (Below.block (pw_below_drewN HB11.out nd) mb HMB.out)⟩
      ·have dE : (nS == nB) = false := by simpa using hE
       have dE2 : decide (nS = nB) = false := by simpa using hE
       obtain rfl : r = false := by rw [HR.out, dA2, dE2]; simp
       refine reg_start l' hmix (by kernel_rfl) 21 [false, false, false, false, false, false, false, false, false, false, false, false, false, false, false, false, false, false, false, false, false] rfl rfl ?_
       refine reg_take (v := ?v49) 0 rfl (by kernel_rfl) (by kernel_rfl) (by kernel_rfl) (fun _ _ _ h => by cases h.1) (by kernel_rfl) (fun _ => rfl) ?hy49 ?re49
       case hy49 => intro w; go_simp; with_reducible rfl
       case re49 =>
        simp only [Act.put, List.setIfInBounds_toArray, List.set_cons_succ, List.set_cons_zero]
        refine reg_take (v := ?v50) 1 rfl (by kernel_rfl) (by kernel_rfl) (by kernel_rfl) (fun _ _ _ h => by cases h.1) (by kernel_rfl) (fun _ => rfl) ?hy50 ?re50
        case hy50 => intro w; go_simp; with_reducible rfl
        case re50 =>
         simp only [Act.put, List.setIfInBounds_toArray, List.set_cons_succ, List.set_cons_zero]
         refine reg_take (v := ?v51) 2 rfl (by kernel_rfl) (by kernel_rfl) (by kernel_rfl) (fun _ _ _ h => by cases h.1) (by kernel_rfl) (fun _ => rfl) ?hy51 ?re51
         case hy51 => intro w; go_simp; with_reducible rfl
         case re51 =>
          simp only [Act.put, List.setIfInBounds_toArray, List.set_cons_succ, List.set_cons_zero]
          refine reg_take (v := ?v52) 3 rfl (by kernel_rfl) (by kernel_rfl) (by kernel_rfl) (fun _ _ _ h => by cases h.1) (by kernel_rfl) (fun _ => rfl) ?hy52 ?re52
          case hy52 => intro w; go_simp; with_reducible rfl
          case re52 =>
           simp only [Act.put, List.setIfInBounds_toArray, List.set_cons_succ, List.set_cons_zero]
           refine reg_take (v := ?v53) 4 rfl (by kernel_rfl) (by kernel_rfl) (by kernel_rfl) (fun _ _ _ h => by cases h.1) (by kernel_rfl) (fun _ => rfl) ?hy53 ?re53
           case hy53 => intro w; go_simp; with_reducible rfl
           case re53 =>
            simp only [Act.put, List.setIfInBounds_toArray, List.set_cons_succ, List.set_cons_zero]
            refine reg_take (v := ?v54) 5 rfl (by kernel_rfl) (by kernel_rfl) (by kernel_rfl) (fun _ _ _ h => by cases h.1) (by kernel_rfl) (fun _ => rfl) ?hy54 ?re54
            case hy54 => intro w; go_simp; with_reducible rfl
            case re54 =>
             simp only [Act.put, List.setIfInBounds_toArray, List.set_cons_succ, List.set_cons_zero]
             refine reg_take (v := ?v55) 6 rfl (by kernel_rfl) (by kernel_rfl) (by kernel_rfl) (fun _ _ _ h => by cases h.1) (by kernel_rfl) (fun _ => rfl) ?hy55 ?re55
             case hy55 => intro w; go_simp; with_reducible rfl
             case re55 =>
              simp only [Act.put, List.setIfInBounds_toArray, List.set_cons_succ, List.set_cons_zero]
              refine reg_take (v := ?v56) 7 rfl (by kernel_rfl) (by kernel_rfl) (by kernel_rfl) (fun _ _ _ h => by cases h.1) (by kernel_rfl) (fun _ => rfl) ?hy56 ?re56
              case hy56 => intro w; go_simp; with_reducible rfl
              case re56 =>
               simp only [Act.put, List.setIfInBounds_toArray, List.set_cons_succ, List.set_cons_zero]
               refine reg_pass 8 rfl (by kernel_rfl) (by kernel_rfl) (by kernel_rfl) (fun _ _ _ h => by cases h.1) (by kernel_rfl) (fun _ => rfl) ?_
               simp only [Act.put, List.setIfInBounds_toArray, List.set_cons_succ, List.set_cons_zero]
               refine reg_pass 10 rfl (by kernel_rfl) (by kernel_rfl) (by kernel_rfl) (fun _ _ _ h => by cases h.1) (by kernel_rfl) (fun _ => rfl) ?_
               simp only [Act.put, List.setIfInBounds_toArray, List.set_cons_succ, List.set_cons_zero]
               refine reg_ready [9] (by kernel_rfl) (by simp) (RegR.pass rfl (by kernel_rfl) ?_ RegR.nil)
               simp only [Act.put, List.setIfInBounds_toArray, List.set_cons_succ, List.set_cons_zero]
               refine reg_ready [11] (by kernel_rfl) (by simp) (RegR.pass rfl (by kernel_rfl) ?_ RegR.nil)
               simp only [Act.put, List.setIfInBounds_toArray, List.set_cons_succ, List.set_cons_zero]
               refine reg_ready [12] (by kernel_rfl) (by simp) (RegR.pass rfl (by kernel_rfl) ?_ RegR.nil)
               simp only [Act.put, List.setIfInBounds_toArray, List.set_cons_succ, List.set_cons_zero]
               refine reg_pass 13 rfl (by kernel_rfl) (by kernel_rfl) (by kernel_rfl) (fun _ _ _ h => by cases h.1) (by kernel_rfl) (fun _ => rfl) ?_
               simp only [Act.put, List.setIfInBounds_toArray, List.set_cons_succ, List.set_cons_zero]
               refine reg_take (v := ?v57) 14 rfl (by kernel_rfl) (by kernel_rfl) (by kernel_rfl) (fun _ _ _ h => by cases h.1) (by kernel_rfl) (fun _ => rfl) ?hy57 ?re57
               case hy57 => intro w; go_simp; with_reducible rfl
               case re57 =>
                simp only [Act.put, List.setIfInBounds_toArray, List.set_cons_succ, List.set_cons_zero]
                refine reg_take (v := ?v58) 15 rfl (by kernel_rfl) (by kernel_rfl) (by kernel_rfl) (fun _ _ _ h => by cases h.1) (by kernel_rfl) (fun _ => rfl) ?hy58 ?re58
                case hy58 => intro w; go_simp; with_reducible rfl
                case re58 =>
                 simp only [Act.put, List.setIfInBounds_toArray, List.set_cons_succ, List.set_cons_zero]
                 refine reg_take (v := ?v59) 16 rfl (by kernel_rfl) (by kernel_rfl) (by kernel_rfl) (fun _ _ _ h => by cases h.1) (by kernel_rfl) (fun _ => rfl) ?hy59 ?re59
                 case hy59 => intro w; go_simp; with_reducible rfl
                 case re59 =>
                  simp only [Act.put, List.setIfInBounds_toArray, List.set_cons_succ, List.set_cons_zero]
                  refine reg_pass 17 rfl (by kernel_rfl) (by kernel_rfl) (by kernel_rfl) (fun _ _ _ h => by cases h.1) (by kernel_rfl) (fun _ => rfl) ?_
                  simp only [Act.put, List.setIfInBounds_toArray, List.set_cons_succ, List.set_cons_zero]
                  refine reg_pass 18 rfl (by kernel_rfl) (by kernel_rfl) (by kernel_rfl) (fun _ _ _ h => by cases h.1) (by kernel_rfl) (fun _ => rfl) ?_
                  simp only [Act.put, List.setIfInBounds_toArray, List.set_cons_succ, List.set_cons_zero]
                  refine reg_ready [19] (by kernel_rfl) (by simp) (RegR.pass rfl (by kernel_rfl) ?_ RegR.nil)
                  simp only [Act.put, List.setIfInBounds_toArray, List.set_cons_succ, List.set_cons_zero]
                  refine reg_take (v := ?v60) 20 rfl (by kernel_rfl) (by kernel_rfl) (by kernel_rfl) (fun _ _ _ h => by cases h.1) (by kernel_rfl) (fun _ => rfl) ?hy60 ?re60
                  case hy60 => intro w; go_simp; with_reducible rfl
                  case re60 =>
                   simp only [Act.put, List.setIfInBounds_toArray, List.set_cons_succ, List.set_cons_zero]
                   refine reg_done (by kernel_rfl) ?_
                   exact ⟨rfl, ⟨_, _, _, _, _, _, _, _, _, _, _, _, _, _, _, _, _, _, _, _, rfl⟩, grown_of_below (below_drew (Below.refl V.heap.size V)) _, HRM.out.step (Below.block (below_drew (Below.refl V.heap.size V)) mb HMB.out)⟩
    case rest2 =>
     rintro e a' Z ⟨rfl, ⟨u31, u32, u33, u34, u35, u36, u37, u38, u39, u40, u41, u42, u43, u44, u45, u46, u47, u48, u49, u50, rfl⟩, hgZ, hRZ⟩
     have hgV := grown_below G2.out hbV
     have hgZ2 := grown_trans hgV hgZ
     have z6 := bV6.kept hgZ (by simp; omega)
     have z8 := bV8.kept hgZ (by simp; omega)
     have e6 := z6.cell
     have e8 := z8.cell
     have f8 := z8.frozen
     have hsV := hbV.size
     have hsZ := hgZ.size
     have hk0 : KeepsFrom W2.heap.size W Z := (keeps_below hbV).trans (KeepsFrom.of_grownBy hgZ (fun j e => by cases e; omega))
     have HK0 := Aside0.mk hk0
     have HG2 := Aside0.mk hgZ2
     have HRZ := Aside0.mk hRZ
     have Z6 := Aside0.mk z6
     have Z8 := Aside0.mk z8
     have kz : ∀ j, j < W.heap.size → j ≠ mb → Z.heap[j]? = W.heap[j]? := fun j h1 h2 => (hgZ.block j (by omega) (by simp; exact h2)).trans (hbV.block j h1)
     have KZ := Aside0.mk kz
     clear hk0 hgZ hgZ2 hRZ z6 z8 kz hgV bV6 bV8 w6 w8 g3 hbV hbVd
     cases r
     ·have HFS2 := Aside0.mk (show fullOf l0 l1 (valS (pre ++ [x])) = best from HFS.out)
      clear HFS
      gi_wp2
      refine ⟨HK0.out, ⟨KZ.out _ (by omega) (by omega), KZ.out _ (by omega) (by omega)⟩, HRZ.out, HG2.out, Z6.out, ?_, by omega⟩
      rw [HFS2.out]
      exact Z8.out
     ·have HFS2 := Aside0.mk (show fullOf l0 l1 (valS (pre ++ [x])) = x.val.val from HFS.out)
      clear HFS
      gi_wp2
      have k1 := grownBy_setCell' Z (w2.heap.size + 1) (.int .u64 (x.val.val : Int))
      have hs1 := k1.size
      have kv : ∀ j, j < W.heap.size → j ≠ mb → j ≠ w2.heap.size + 1 → (Z.setCell ⟨w2.heap.size + 1, 0, none⟩ (.int .u64 (x.val.val : Int))).heap[j]? = W.heap[j]? := fun j h1 h2 h3 => (k1.block j (by omega) (by simp; exact h3)).trans (KZ.out j h1 h2)
      refine ⟨HK0.out.trans ((KeepsOthers.setCell _ _ _).from _), ⟨kv _ (by omega) (by omega) (by omega), kv _ (by omega) (by omega) (by omega)⟩, HRZ.out.step (k1.block mb (by omega) (by simp; omega)), grown_own HG2.out k1 (fun x e => by cases e; omega), Z6.out.kept k1 (by simp), ?_, by omega⟩
      rw [HFS2.out]
      exact Z8.out.set _
  case done =>
   rintro D ys W hD rfl ⟨g1, g2, g3, g4, g5⟩ hK
   have hble : fullOf l0 l1 (valS (partsS HHM.out)) ≤ allN l1 := fullOf_le _ (fun s hs => valS_le hs)
   have hb5 : fullOf l0 l1 (valS (partsS HHM.out)) < 512 := by have := HHM.out; omega
   have HL := Aside0.mk (fun V => plan_mask_list.calls 12 ((fullOf l0 l1 (valS (partsS HHM.out)) : Nat) : Int) _ V (list_some (by omega) (by omega)))
   rw [H1.out] at HL
   have e4 := g4.cell
   have HK := Aside0.mk hK
   have G2 := Aside0.mk g2
   have HDL := Aside0.mk (Array.getElem?_eq_some_iff.1 hK).1
   clear g1 g2 g3 hK hble hb5
   generalize ((fullOf l0 l1 (valS (partsS HHM.out)) : Nat) : Int) = full at *
   gi_wp2_with (refine ⟨trivial, ?_⟩; gi_at_call 74; refine (callsIn_wide.2 (HL.out _)).mono ?_; rintro e W7 ⟨v, rfl, hR, hb7⟩; have HR7 := Aside0.mk hR; have HB7 := Aside0.mk hb7; clear hR hb7)
   refine ⟨by simp, .inl ⟨_, _, rfl, run_takeDeferred ((HB7.out.block D HDL.out).trans HK.out), ?_⟩⟩
   have k3 := grownBy_putObj' W7 D (.deferred none)
   have hs2 := G2.out.size
   have hs7 := HB7.out.size
   have hbW : Below w.heap.size w W := hbw2.grown G2.out (by omega) (fun j e => by cases e; omega)
   have hb7 : Below w.heap.size w W7 := below_refl_trans hbW HB7.out
   have hr3 := ownsRow_putObj (Kd.own_of_R HR7.out) (.deferred none) ((HB7.out.block D HDL.out).trans HK.out) rfl
   exact ⟨_, results_tmp2 rfl _ _ _, _, rfl, Kd.R_of_own (own_less hr3 (by omega)) (fun _ _ => trivial), hb7.grown k3 (by omega) (fun j e => by cases e; omega)⟩
  case stop =>
   rintro D c pre W hD hp h hK
   exact h.elim
 ·rw [if_neg he] at h
  simp only [Prod.mk.injEq] at h
  obtain ⟨rfl, rfl⟩ := h
  have hA := asked_no (w := w.alloc (.cells #[.slice A1 l1.length c1] 23)) (Kd.C_below hr0 (below_alloc (Below.refl _ _) _)) hc0 (Kd.C_below hr1 (below_alloc (Below.refl _ _) _)) hc1 he
  have HA := Aside0.mk hA
  have hbn : (askErr l0 l1 != 0) = true := by simpa using he
  have hbe : (askErr l0 l1 == 0) = false := by simpa using he
  generalize askErr l0 l1 = z at *
  clear hA he hr0 hr1
  go_enter Tryz.func39, Tryz.ntmps39
  go_wp2_with fail
  refine HA.out.mono ?_
  rintro e w2 ⟨rfl, hb⟩
  have HB := Aside0.mk hb
  clear hb
  go_wp2
  go_ret2
  exact ⟨_, rfl, Kd.R_nil _ _ _ _ _, (below_refl_trans (below_alloc (Below.refl _ _) _) HB.out).alloc (by have := HB.out.size; simp at this; omega) _⟩
end Go.Proofs.YthonlcnmjlldiaaGreat.P
namespace Go.Proofs.YthonlcnmjlldiaaGreat.P
open Go.Shelf Go.RowKit Go.Proofs.YthonlcnmjlldiaaGreatW.PrintWords Go.Proofs.YthonlcnmjlldiaaGreatW.PrintLast Go.Proofs.YthonlcnmjlldiaaGreatW.PrintMore
abbrev RO (w : World) (base : Nat) (v : Value) (l : List Order) : Prop := Kd.R k72 72 w base (fun _ => True) v l
theorem kO_M {W W' : World} {base : Nat} {ok : Nat → Prop} (x : Order) (cs : List Value) (h : k72.K W x cs) : k72.M W' base ok x cs := by rw [k72_open h]; exact k72_mkM _ _ _ _
set_option maxHeartbeats 1000000 in
set_option maxRecDepth 100000 in
theorem clone_b {A : Option Addr} {c : Nat} {l : List Order} {w : World} (hC : KO w A l) (h9 : l.length ≤ 9) :
  Calls Tryz.prog 85 #[.slice A l.length c] w fun e w' => ∃ v, e = .returned v ∧ RO w' w.heap.size v l ∧ Below w.heap.size w w' := by
 have hnil := fun (W : World) => Lib.run_eql_slice_nil (P := Tryz.prog) W 23 72 A l.length c 0 0 Tryz.underlying23
 have HC := Aside0.mk hC
 cases A with
 | none =>
  have h0 : l = [] := by
   rcases Nat.eq_zero_or_pos l.length with h0 | h0
   ·exact List.eq_nil_of_length_eq_zero h0
   ·obtain ⟨ad, h, _⟩ := hC.2.2 h0
    cases h
  subst h0
  simp only [Option.isNone_none, List.length_nil] at hnil
  clear hC HC
  go_enter Tryz.func85, Tryz.ntmps85
  go_wp2
  go_ret
  exact ⟨_, rfl, Kd.R_nil _ _ _ _ _, Below.refl _ _⟩
 | some ad =>
  simp only [Option.isNone_some] at hnil
  clear hC
  go_enter Tryz.func85, Tryz.ntmps85
  go_wp2_with (first | ((with_reducible refine gate_dst (N := 5) rfl ?_); refine Kd.R_lit k72 _ 72 ?hg (N := 5) ?hd (xs := ([] : List Order)) (inner := []) (ok := fun _ => True) (okp := fun _ => True) ?hr ?hp (fun _ hk => hk) trivial (Below.refl _ _) (Nat.le_refl _) (by simp) ?_; (case hd => rfl); (case hg => rfl); (case hr => first | (go_simp; done) | (go_simp; rfl)); (case hp => exact (Reps.none _ _)); intro v1 w1 ho1 hb1 hg1_ hn1_; have HO1 := Aside0.mk ho1; have HB1 := Aside0.mk hb1; clear ho1 hb1 hg1_ hn1_) | (at_builtin; refine Kd.R_append_rows (Rr := k72.K w1) k72 (w0 := w) w.heap.size rfl (.tmp 5) (.tmp 6) 23 72 _ 40 rfl Tryz.underlying23 info72 rfl (by decide) (by omega) v1 [] l _ _ _ (fun _ => True) (fun _ => False) rfl rfl HO1.out ?aR ?aM (fun _ h => h.elim) (fun _ _ => trivial) HB1.out HB1.out.size ?aL ?_; (case aR => exact Kd.C_below HC.out HB1.out); (case aM => exact fun x cs h => kO_M x cs h); (case aL => simp; omega); intro v2 w2 ho2 hb2 hg2_ hn2_; have HO2 := Aside0.mk ho2; have HB2 := Aside0.mk hb2; clear ho2 hb2 hg2_ hn2_))
  go_ret
  exact ⟨_, rfl, HO2.out, HB2.out⟩
theorem cells_set {W : World} {g o : Nat} {cur : Array Value} {t : TypeId} {fr : Nat × Nat} (v : Value) (h : W.heap[g]? = some (.cells cur t fr)) : (W.setCell ⟨g, o, none⟩ v).heap[g]? = some (.cells (cur.setIfInBounds o v) t fr) := by
 obtain ⟨hlt, hk⟩ := Array.getElem?_eq_some_iff.1 h
 show (W.heap.modify g _)[g]? = _
 rw [Array.getElem?_eq_getElem (by rw [Array.size_modify]; exact hlt), Array.getElem_modify_self, hk]
 rfl
theorem own_setCell {W : World} {base g k c o size : Nat} {e : TypeId} {xs : List Value} (v : Value) (h : W.ownsRow base e size (.slice (some ⟨g, 0, none⟩) k c) k xs) (ho : k * size ≤ o) : (W.setCell ⟨g, o, none⟩ v).ownsRow base e size (.slice (some ⟨g, 0, none⟩) k c) k xs := by
 refine ⟨h.1, ?_⟩
 rcases h.2 with ⟨hv, _⟩ | ⟨g', cap', cur, hv, hb, hh, h3, h4, h5, h6⟩
 ·cases hv
 ·cases hv
  refine .inr ⟨g, c, cur.setIfInBounds o v, rfl, hb, cells_set v hh, h3, h4, by simpa using h5, ?_⟩
  rw [Array.toList_setIfInBounds, List.take_set_of_le ho]
  exact h6
theorem RO_setCell {W : World} {base g k c o : Nat} {l : List Order} (v : Value) (h : RO W base (.slice (some ⟨g, 0, none⟩) k c) l) (ho : k * 5 ≤ o) : RO (W.setCell ⟨g, o, none⟩ v) base (.slice (some ⟨g, 0, none⟩) k c) l := by
 obtain ⟨h0, inner, hown, hr⟩ := h
 have hk : l.length = k := by
  rcases hown.2 with ⟨hv, _⟩ | ⟨g', cap', cur, hv, _⟩
  ·cases hv
  ·cases hv; rfl
 refine ⟨h0, inner, ?_, hr.imp_ (fun x cs hx => by rw [k72_openM hx]; exact k72_mkM _ _ _ _)⟩
 rw [hk] at hown ⊢
 exact own_setCell v hown ho
theorem RO_setCells {base g k c : Nat} {l : List Order} : ∀ (vs : List Value) (o : Nat) (W : World), RO W base (.slice (some ⟨g, 0, none⟩) k c) l → k * 5 ≤ o → RO (W.setCells g o vs) base (.slice (some ⟨g, 0, none⟩) k c) l
 | [], _, _, h, _ => h
 | v :: r, o, W, h, ho => RO_setCells r (o + 1) _ (RO_setCell v h ho) (by omega)
theorem below_sets {B g : Nat} {a : World} (hb : B ≤ g) : ∀ (vs : List Value) (o : Nat) (W : World), Below B a W → Below B a (W.setCells g o vs)
 | [], _, _, h => h
 | v :: r, o, W, h => below_sets hb r (o + 1) _ (h.setCell (p := ⟨g, o, none⟩) hb v)
theorem zero5 : (Builtin.zeroCells (Value.agg #[.int .i64 0, .int .i64 0, .int .i64 0, .int .i64 0, .int .i64 0]).cells 1).toList = List.replicate 5 (.int .i64 0) := by kernel_rfl
theorem run_clear_order (W : World) (ty : TypeId) {g o m c : Nat} {cur : Array Value} (hW : W.heap[g]? = some (.cells cur 72 (0, 0))) (ho : o + 5 ≤ cur.size) (hm : m = 1) :
  (Builtin.clear_ #[23] ty #[.slice (some ⟨g, o, none⟩) m c]).run Tryz.prog W = .ok (.tuple #[]) (W.setCells g o (List.replicate 5 (.int .i64 0))) := by
 subst hm
 have hc : ∀ j, j < 5 → W.cell? ⟨g, o + j, none⟩ = some cur[o + j]! := by
  intro j hj
  rw [blk_cell hW (o + j), Array.getElem?_eq_getElem (by omega), getElem!_pos cur (o + j) (by omega)]
 have hst := run_storeCells_cells (P := Tryz.prog) g o (List.replicate 5 (.int .i64 0)) 0 W (by intro j hj; rw [Nat.add_zero, hc j (by simpa using hj)]; rfl) (by intro j hj; simp [World.frozen?, hW]) (by intro v hv'; rw [List.eq_of_mem_replicate hv']; rfl)
 simp only [Nat.add_zero] at hst
 have hv := Tryz.zeroValue72
 have hz := zero5
 generalize List.replicate 5 (Value.int .i64 0) = zs at *
 simp [Builtin.clear_, run_underlying Tryz.underlying23, hv, hz, hst]
set_option maxHeartbeats 1000000 in
set_option maxRecDepth 100000 in
theorem delete_b {g c i j n base : Nat} {l : List Order} {W : World} (HO : RO W base (.slice (some ⟨g, 0, none⟩) n c) l) (hn : l.length = n) (hi : i < n) (hj : j = i + 1) (hnc : n ≤ c) (h9 : n ≤ 9) (hbase : base ≤ W.heap.size) :
  Calls Tryz.prog 88 #[.slice (some ⟨g, 0, none⟩) n c, .int .i64 i, .int .i64 j] W fun e w' => e = .returned (.slice (some ⟨g, 0, none⟩) (n - 1) c) ∧ RO w' base (.slice (some ⟨g, 0, none⟩) (n - 1) c) (l.eraseIdx i) ∧ Below base W w' := by
 have hij : i ≤ j := by omega
 have hlt : i < j := by omega
 have hjn : j ≤ n := by omega
 have hic : i ≤ c := by omega
 have hjc : j ≤ c := by omega
 have hncc : n ≤ c := hnc
 have hm : c ≤ 9223372036854775807 := by
  obtain ⟨g', cap', cur', e1, _, _, h3, h4, _⟩ := (HO.2.choose_spec.1.2).resolve_left (by simp)
  cases e1
  exact h4
 have HH := Aside0.mk HO
 have HJ := Aside0.mk hj
 obtain ⟨A2, hA2⟩ : ∃ A2, (if c = j then some (⟨g, 0, none⟩ : Addr) else some ⟨g, j * 5, none⟩) = A2 := ⟨_, rfl⟩
 clear HO hj
 go_enter Tryz.func88, Tryz.ntmps88
 go_wp2_with fail
 go_region_law (refine Kd.R_delete_step k72 (w0 := W) base (by rfl) (.tmp 22) (.tmp 25) 23 72 rfl Tryz.underlying23 (by kernel_rfl) (g := g) (n := n) (c := c) (k := i) (m := n - j) (c2 := c - j) (A := A2) ?hs ?hx ?hA ?hm (Kd.R_drew HH.out) hi (below_drew (Below.refl _ _)) hbase ?_; (case hs => simp [Act.eval, Act.put]; done); (case hx => simp [Act.eval, Act.put]; done); (case hA => rw [← hA2, HJ.out, Option.map_some]; simp [Addr.add, show k72.sz = 5 from rfl]); (case hm => rw [HJ.out]); intro w1 ho1 hb1 hg1_; have HO1 := Aside0.mk ho1; have HB1 := Aside0.mk hb1; clear ho1 hb1 hg1_)
 have ho1 := HO1.out
 obtain ⟨cur1, hg1, hs1⟩ : ∃ cur1, w1.heap[g]? = some (.cells cur1 72 (0, 0)) ∧ cur1.size = c * 5 ∧ base ≤ g := by
  obtain ⟨_, inner, hown, _⟩ := ho1
  rcases hown.2 with ⟨hv, _⟩ | ⟨g', cap', cur, hv, hb, hh, h3, h4, h5, h6⟩
  ·cases hv
  ·injection hv with e1 _ e3; injection e1 with e1; injection e1 with e1; subst e1; subst e3; exact ⟨cur, hh, h5, hb⟩
 have hcl := fun ty => run_clear_order w1 ty (g := g) (o := (n - 1) * 5) (m := n - (n - 1)) (c := c - (n - 1)) hg1 (by omega) (by omega)
 have HR := Aside0.mk (RO_setCells (List.replicate 5 (.int .i64 0)) ((n - 1) * 5) w1 ho1 (Nat.le_refl _))
 have HB2 := Aside0.mk (below_sets hs1.2 (List.replicate 5 (.int .i64 0)) ((n - 1) * 5) w1 HB1.out)
 have hn1 : n - 1 ≤ n := by omega
 have hn2 : n - 1 ≤ c := by omega
 have hn3 : ¬ c = n - 1 := by omega
 have hn4 : c ≠ n - 1 := hn3
 have hpos : 1 ≤ n := by omega
 clear ho1 HO1 HB1 hg1 hs1 hA2 HH
 generalize List.replicate 5 (Value.int .i64 0) = zs at *
 go_wp2
 go_ret
 exact ⟨rfl, HR.out, HB2.out⟩
def moveB (k : List Seat) (l : List Order) (now i : Nat) : Bool := match fewestN k (l.eraseIdx i) with | some r => decide (r.length < now) | none => false
def movesTo (k : List Seat) (l : List Order) (now n : Nat) : List Nat := (List.range n).filter (moveB k l now)
theorem movesTo_succ (k : List Seat) (l : List Order) (now n : Nat) : movesTo k l now (n + 1) = if moveB k l now n then movesTo k l now n ++ [n] else movesTo k l now n := by
 unfold movesTo
 rw [List.range_succ, List.filter_append]
 split
 ·rename_i h; simp [h]
 ·rename_i h; simp [h]
theorem movesTo_len (k : List Seat) (l : List Order) (now n : Nat) : (movesTo k l now n).length ≤ n := Nat.le_trans (List.length_filter_le _ _) (by simp)
def movesL (k : List Seat) (l : List Order) : List Int × Int := match fewestN k l with | some r => (natsI (movesTo k l r.length l.length), 0) | none => ([], 63)
def plan_Moves.f (l0 : List Seat) (l1 : List Order) : Option (List Int × Int) := some (if askErr l0 l1 = 0 then movesL l0 l1 else ([], askErr l0 l1))
theorem Fine.erase {k : List Seat} {l : List Order} (h : Fine k l) (i : Nat) : Fine k (l.eraseIdx i) :=
 ⟨h.hk, fun o ho => h.hl o (List.mem_of_mem_eraseIdx ho), by have := List.length_eraseIdx_le l i; have := h.h9; omega⟩
theorem delete_c {v : Value} {i base : Nat} {l : List Order} {W : World} (HO : RO W base v l) (hi : i < l.length) (h9 : l.length ≤ 9) (hbase : base ≤ W.heap.size) :
  ∃ g c, v = .slice (some ⟨g, 0, none⟩) l.length c ∧ Calls Tryz.prog 88 #[.slice (some ⟨g, 0, none⟩) l.length c, .int .i64 (i : Int), .int .i64 ((i : Int) + 1)] W fun e w' => ∃ A' c', e = .returned (.slice A' (l.eraseIdx i).length c') ∧ (l.eraseIdx i).length ≤ c' ∧ KO w' A' (l.eraseIdx i) ∧ Below base W w' := by
 have HO2 := HO
 obtain ⟨_, inner, hown, _⟩ := HO2
 rcases hown.2 with ⟨_, hn⟩ | ⟨g, cap, cur, rfl, hb, hh, h3, h4, h5, h6⟩
 ·omega
 ·refine ⟨g, cap, rfl, ?_⟩
  have hd := delete_b (i := i) (j := i + 1) HO rfl hi rfl h3 h9 hbase
  have e : ((i + 1 : Nat) : Int) = (i : Int) + 1 := by omega
  rw [e] at hd
  refine hd.mono ?_
  rintro e w' ⟨rfl, hR, hb'⟩
  obtain ⟨A', c', he, hc, hC⟩ := Kd.R_reads hR
  exact ⟨A', c', by rw [he], hc, hC, hb'⟩
set_option maxHeartbeats 2000000 in
set_option maxRecDepth 100000 in
theorem plan_Moves.calls (A0 : Option Addr) (c0 : Nat) (l0 : List Seat) (A1 : Option Addr) (c1 : Nat) (l1 : List Order) (r1 : List Int) (r2 : Int) (w : World) (hr0 : KS w A0 l0) (hc0 : l0.length ≤ c0) (hr1 : KO w A1 l1) (hc1 : l1.length ≤ c1) (h : plan_Moves.f l0 l1 = some (r1, r2)) :
  Calls Tryz.prog 41 #[.slice A0 l0.length c0, .slice A1 l1.length c1] w fun e w' => ∃ v0_ : Value, e = .returned (.tuple #[v0_, .int .i64 r2]) ∧ Kd.R (Kd.int .i64) 3 w' w.heap.size (fun _ => True) v0_ r1 ∧ Below w.heap.size w w' := by
 have h := Option.some.inj h
 by_cases he : askErr l0 l1 = 0
 ·rw [if_pos he] at h
  have hF := (fine_ask he).1
  have hA := asked_ok hr0 hc0 hr1 hc1 (askErr_ok he).1 (askErr_ok he).2
  have HA := Aside0.mk hA
  have HF := Aside0.mk hF
  have HR0 := Aside0.mk hr0
  have HR1 := Aside0.mk hr1
  clear hA he hF hr0 hr1
  unfold movesL at h
  cases hfe : fewestN l0 l1 with
  | none =>
   rw [hfe] at h
   simp only [Prod.mk.injEq] at h
   obtain ⟨rfl, rfl⟩ := h
   go_enter Tryz.func41, Tryz.ntmps41
   go_wp2_with fail
   refine HA.out.mono ?_
   rintro e w2 ⟨ob, mb, rfl, hO, hb, hl1, hl2⟩
   have HO := Aside0.mk hO
   have HB := Aside0.mk hb
   clear hO hb
   go_wp2_with fail
   refine (fewest_b HO.out HF.out).mono ?_
   rintro e w4 ⟨v, rfl, hR, hO4, hg4⟩
   have HG4 := Aside0.mk hg4
   clear hO4 hg4 hR
   rw [hfe]
   simp only [Option.isSome_none]
   clear hfe
   go_wp2
   go_ret2
   exact ⟨_, rfl, Kd.R_nil _ _ _ _ _, HB.out.grown HG4.out HB.out.size (fun j hj => by cases hj; exact hl2)⟩
  | some r =>
   rw [hfe] at h
   simp only [Prod.mk.injEq] at h
   obtain ⟨h1, rfl⟩ := h
   have H1 := Aside0.mk h1
   have hmm := @run_makeMap Tryz.prog
   have hu := Tryz.underlying129
   have h9 := HF.out.h9
   clear h1
   go_enter Tryz.func41, Tryz.ntmps41
   go_wp2_with fail
   refine HA.out.mono ?_
   rintro e w2 ⟨ob, mb, rfl, hO, hb, hl1, hl2⟩
   have HO := Aside0.mk hO
   have HB := Aside0.mk hb
   clear hO hb
   go_wp2_with fail
   refine (fewest_b HO.out HF.out).mono ?_
   rintro e w4 ⟨v, rfl, hR, hO4, hg4⟩
   obtain ⟨A, cc, rfl, hcc, hC⟩ := Kd.R_reads hR
   have hb4 : Below w.heap.size w w4 := HB.out.grown hg4 HB.out.size (fun j hj => by cases hj; exact hl2)
   have HB4 := Aside0.mk hb4
   clear hO4 hg4 hR hC hcc hb4 HB HO
   rw [hfe]
   simp only [Option.isSome_some, Option.getD_some]
   have hnl := natsI_len r
   obtain ⟨N, hN⟩ : ∃ N, N = (natsI r).length := ⟨_, rfl⟩
   rw [← hN]
   have HN := Aside0.mk (show r.length = N by omega)
   rw [HN.out] at H1
   clear hfe hnl hN HN
   go_wp2
   go_loopg [10, 33] l1.length (fun gg s10 s33 wr => ∃ kk : Nat, kk ≤ l1.length ∧ l1.length - kk ≤ gg ∧ s33 = .int .i64 (kk : Int) ∧ Aside0 (Kd.R (Kd.int .i64) 3 wr w.heap.size (fun _ => True) s10 (natsI (movesTo l0 l1 N kk))) ∧ Aside0 (Below w.heap.size w wr))
   case atStart => exact ⟨0, Nat.zero_le _, by omega, rfl, ⟨Kd.R_nil _ _ _ _ _⟩, HB4⟩
   case round =>
    clear HB4
    obtain ⟨kk, hkk, hg, rfl, HR, HB⟩ := hrel
    by_cases hlt : kk < l1.length
    ·have hltz : (kk : Int) < (l1.length : Int) := by omega
     have hcl := clone_b (c := c1) (w := wr) (Kd.C_below HR1.out HB.out) h9
     have HCL := Aside0.mk hcl
     clear hcl
     go_wp2_with fail
     refine HCL.out.mono ?_
     rintro e W1 ⟨v1, rfl, hv1, hb1⟩
     obtain ⟨g, c', rfl, hdel⟩ := delete_c hv1 hlt h9 hb1.size
     have HDEL := Aside0.mk hdel
     have HB1 := Aside0.mk hb1
     have hmv : moveB l0 l1 N kk = match fewestN l0 (l1.eraseIdx kk) with | some r => decide (r.length < N) | none => false := rfl
     have HMV := Aside0.mk hmv
     have HFE := Aside0.mk (HF.out.erase kk)
     have hms := movesTo_succ l0 l1 N kk
     have HMS := Aside0.mk hms
     have HML := Aside0.mk (movesTo_len l0 l1 N kk)
     clear hv1 hb1 hdel hmv hms
     generalize l1.eraseIdx kk = l' at *
     go_wp2_with fail
     refine HDEL.out.mono ?_
     rintro e W2 ⟨A2, c2, rfl, hc2, hC2, hb2⟩
     have hbr2 : Below wr.heap.size wr W2 := ⟨hb2.os.trans HB1.out.os, hb2.tape.trans HB1.out.tape, hb2.output.trans HB1.out.output, Nat.le_trans HB1.out.size hb2.size, fun j hj => (hb2.block j hj).trans (HB1.out.block j hj)⟩
     have hoff := Off.made (Kd.C_below HR0.out (below_refl_trans HB.out hbr2)) hc0 hC2 hc2
     have hfw := fewest_b hoff HFE.out
     have HFW := Aside0.mk hfw
     have HBR2 := Aside0.mk hbr2
     clear hoff hfw hC2 hb2 hbr2 HDEL HB1
     go_wp2_with fail
     refine HFW.out.mono ?_
     rintro e W4 ⟨v4, rfl, hR4, hO4, hg4⟩
     obtain ⟨A4, c4, rfl, hc4, hC4⟩ := Kd.R_reads hR4
     have hs2 := HBR2.out.size
     have hsr := HB.out.size
     have hbr4 : Below wr.heap.size wr W4 := (((HBR2.out.alloc hs2 _).alloc (by simp; omega) _).grown hg4 (by simp; omega) (fun j hj => by cases hj; exact hs2))
     have HBR4 := Aside0.mk hbr4
     have hbw4 := below_refl_trans HB.out hbr4
     have HBW4 := Aside0.mk hbw4
     have hr4 := Kd.R_below HR.out hbr4
     have HR4 := Aside0.mk hr4
     clear hR4 hO4 hg4 hC4 hc4 hbr4 hbw4 hr4 HFW
     cases hfe' : fewestN l0 l' with
     | none =>
      rw [hfe'] at HMV
      have hm : moveB l0 l1 N kk = false := HMV.out
      simp only [Option.isSome_none, Option.getD_none]
      have HMS2 := HMS.out
      rw [hm] at HMS2
      have HM2 := Aside0.mk (show movesTo l0 l1 N (kk + 1) = movesTo l0 l1 N kk from HMS2)
      clear hm hfe' HMS2 HMV HMS
      go_wp2
      go_roundg (l1.length - (kk + 1))
      case measure => omega
      case rel => exact ⟨kk + 1, by omega, by omega, by go_num, ⟨by rw [HM2.out]; exact HR4.out⟩, HBW4⟩
     | some r' =>
      rw [hfe'] at HMV
      simp only [Option.isSome_some, Option.getD_some]
      have hm : moveB l0 l1 N kk = decide (r'.length < N) := HMV.out
      have hnl := natsI_len r'
      obtain ⟨M, hM⟩ : ∃ M, M = (natsI r').length := ⟨_, rfl⟩
      rw [← hM]
      rw [show r'.length = M by omega] at hm
      have HMS2 := HMS.out
      rw [hm] at HMS2
      clear hm hfe' hnl hM HMV HMS
      by_cases hMN : M < N
      ·have hd1 : decide (M < N) = true := decide_eq_true hMN
       have hd2 : decide ((M : Int) < (N : Int)) = true := decide_eq_true (by omega)
       rw [hd1] at HMS2
       have HM2 := Aside0.mk (show movesTo l0 l1 N (kk + 1) = movesTo l0 l1 N kk ++ [kk] from HMS2)
       have HN2 := Aside0.mk (show natsI (movesTo l0 l1 N kk) ++ [(kk : Int)] = natsI (movesTo l0 l1 N (kk + 1)) by rw [HM2.out]; simp [natsI])
       have HL := Aside0.mk (show (natsI (movesTo l0 l1 N kk)).length ≤ kk by rw [natsI_len]; exact HML.out)
       clear HMS2 HM2 HML hMN
       generalize natsI (movesTo l0 l1 N kk) = xs at *
       go_wp2_with (at_builtin; refine append_d .i64 (w0 := w) w.heap.size rfl (.tmp 59) (.tmp 61) 41 3 8 rfl Tryz.underlying41 info_int (by decide) _ xs (kk : Int) rfl rfl HR4.out HBW4.out HBW4.out.size ?aL ?_; (case aL => have := HL.out; omega); intro v1 w1 ho hb hd; rw [HN2.out] at ho; have HR5 := Aside0.mk ho; have HB5 := Aside0.mk hb; clear ho hb hd)
       go_roundg (l1.length - (kk + 1))
       case measure => omega
       case rel => exact ⟨kk + 1, by omega, by omega, by go_num, HR5, HB5⟩
      ·have hd1 : decide (M < N) = false := decide_eq_false hMN
       have hd2 : decide ((M : Int) < (N : Int)) = false := decide_eq_false (by omega)
       rw [hd1] at HMS2
       have HM2 := Aside0.mk (show movesTo l0 l1 N (kk + 1) = movesTo l0 l1 N kk from HMS2)
       clear HMS2 hMN
       go_wp2
       go_roundg (l1.length - (kk + 1))
       case measure => omega
       case rel => exact ⟨kk + 1, by omega, by omega, by go_num, ⟨by rw [HM2.out]; exact HR4.out⟩, HBW4⟩
    ·have hltz : ¬ (kk : Int) < (l1.length : Int) := by omega
     have hd1 : decide (kk < l1.length) = false := decide_eq_false hlt
     have hd2 : decide ((kk : Int) < (l1.length : Int)) = false := decide_eq_false hltz
     have hge : kk = l1.length := by omega
     subst hge
     have HR2 := HR.out
     rw [H1.out] at HR2
     have HR3 := Aside0.mk HR2
     clear hlt hltz HR2
     go_wp2
     go_ret2
     exact ⟨_, rfl, HR3.out, HB.out⟩
 ·rw [if_neg he] at h
  simp only [Prod.mk.injEq] at h
  obtain ⟨rfl, rfl⟩ := h
  have hA := asked_no hr0 hc0 hr1 hc1 he
  have HA := Aside0.mk hA
  have hbn : (askErr l0 l1 != 0) = true := by simpa using he
  have hbe : (askErr l0 l1 == 0) = false := by simpa using he
  generalize askErr l0 l1 = z at *
  clear hA he hr0 hr1
  go_enter Tryz.func41, Tryz.ntmps41
  go_wp2_with fail
  refine HA.out.mono ?_
  rintro e w2 ⟨rfl, hb⟩
  have HB := Aside0.mk hb
  clear hb
  go_wp2
  go_ret2
  exact ⟨_, rfl, Kd.R_nil _ _ _ _ _, HB.out⟩
section
variable {n : Nat} {P : Program} {os : List Oper} {Q : Exit → Act → World → Prop}
def Ahead (ls : List Bool) (o : Oper) : Prop := ∀ e ∈ o.after.toList, Region.binds .any e = true → ls[e.on]? = some true
def StepAll (n : Nat) (P : Program) (os : List Oper) (Q : Exit → Act → World → Prop) (I : List Bool → Act → World → Prop) : Nat → List Oper → Prop
 | _, [] => True
 | k, o :: r => (∀ ls a w, ls[k]? = some false → Ahead ls o → I ls a w → Region.wanted o (yielded os.toArray a.tmps) = true ∧ Oper.wpIn Fence.wide n P o a w (I (ls.set k true)) Q) ∧ StepAll n P os Q I (k + 1) r
theorem StepAll.at {I : List Bool → Act → World → Prop} : ∀ (r : List Oper) (k i : Nat) (o : Oper), StepAll n P os Q I k r → r[i]? = some o →
  ∀ ls a w, ls[k + i]? = some false → Ahead ls o → I ls a w → Region.wanted o (yielded os.toArray a.tmps) = true ∧ Oper.wpIn Fence.wide n P o a w (I (ls.set (k + i) true)) Q
 | [], _, _, _, _, h => by simp at h
 | o' :: r, k, 0, o, hs, h => by
  simp at h
  subst h
  exact hs.1
 | o' :: r, k, i + 1, o, hs, h => by
  have := StepAll.at r (k + 1) i o hs.2 (by simpa using h)
  rw [show k + 1 + i = k + (i + 1) by omega] at this
  exact this
def Stuck (os : List Oper) (ls : List Bool) : Prop := ∀ i : Nat, ls[i]? = some false → ∀ o, os[i]? = some o → ∃ e ∈ o.after.toList, Region.binds .any e = true ∧ ls[e.on]? ≠ some true
theorem count_set {ls : List Bool} {i : Nat} (h : ls[i]? = some false) : (ls.set i true).count false + 1 = ls.count false := by
 induction ls generalizing i with
 | nil => simp at h
 | cons b bs ih =>
  cases i with
  | zero => simp at h; subst h; simp
  | succ i =>
   have := ih (i := i) (by simpa using h)
   simp only [List.set_cons_succ, List.count_cons]
   omega
theorem getD_false {ls : List Bool} {i : Nat} (h : ls.toArray.getD i true = false) : ls[i]? = some false := by
 simp only [Array.getD_eq_getD_getElem?, List.getElem?_toArray] at h
 cases h2 : ls[i]? with
 | none => rw [h2] at h; simp at h
 | some b => rw [h2] at h; simp at h; rw [h]
theorem getD_true {ls : List Bool} {i : Nat} : ls.toArray.getD i false = true ↔ ls[i]? = some true := by
 simp only [Array.getD_eq_getD_getElem?, List.getElem?_toArray]
 cases h2 : ls[i]? with
 | none => simp
 | some b => simp
theorem reg_inv (I : List Bool → Act → World → Prop) (hs : StepAll n P os Q I 0 os) (hend : ∀ ls a w, I ls a w → Stuck os ls → Q .normal a w) :
  ∀ (fuel : Nat) (ls : List Bool) (a : Act) (w : World), ls.length = os.length → ls.count false ≤ fuel → I ls a w → RegW n P os Q fuel ls a w := by
 have hst : ∀ ls : List Bool, ls.length = os.length → Region.ready .any os.toArray ls.toArray = [] → Stuck os ls := by
  intro ls hlen hr i hi o ho
  apply Decidable.byContradiction
  intro hno
  have hm : i ∈ Region.ready .any os.toArray ls.toArray := by
   refine mem_ready.2 ⟨by simp [hi], o, by simpa using ho, fun e he hb => ?_⟩
   apply Decidable.byContradiction
   intro h2
   exact hno ⟨e, by simpa using he, hb, fun h3 => h2 (getD_true.2 h3)⟩
  rw [hr] at hm
  cases hm
 intro fuel
 induction fuel with
 | zero =>
  intro ls a w hlen hc hI
  have hr : Region.ready .any os.toArray ls.toArray = [] := by
   apply List.eq_nil_iff_forall_not_mem.2
   intro i hi
   have h1 := getD_false (mem_ready.1 hi).1
   have := count_set h1
   omega
  exact ⟨hr, hend ls a w hI (hst ls hlen hr)⟩
 | succ fuel ih =>
  intro ls a w hlen hc hI
  refine ⟨fun hr => hend ls a w hI (hst ls hlen hr), fun i hi => ?_⟩
  obtain ⟨h1, o, ho, hall⟩ := mem_ready.1 hi
  have h1 := getD_false h1
  have ho' : os[i]? = some o := by simpa using ho
  obtain ⟨hw, hop⟩ := StepAll.at os 0 i o hs ho' ls a w (by rw [Nat.zero_add]; exact h1) (fun e he hb => getD_true.1 (hall e (by simpa using he) hb)) hI
  rw [Nat.zero_add] at hop
  unfold wpOpIn
  rw [ho]
  simp only [hw, if_true]
  refine Oper.wpIn_mono (fun a' w' hI' => ?_) hop
  rw [set_arr]
  have := count_set h1
  exact ih _ _ _ (by simpa using hlen) (by omega) hI'
end
theorem reg_start0 {n : Nat} {P : Program} {os : List Oper} {Q : Exit → Act → World → Prop} {a : Act} {w : World} {id : Nat} (hm : P.follows .mixedOrders = true) (fuel : Nat) (ls : List Bool) (hf : os.toArray.size = fuel) (hl : Array.replicate fuel false = ls.toArray) (h : RegW n P os Q fuel ls a w.drew) :
  (Code.region id os.toArray true).wpIn Fence.wide n P Q a w := by
 refine wpIn_region_any hm ?_
 rw [hf, hl]
 exact h
theorem op_wide {n : Nat} {P : Program} {o : Oper} {a : Act} {w : World} {K : Act → World → Prop} {Q : Exit → Act → World → Prop} (h : Oper.wp P o a w K Q) : Oper.wpIn Fence.wide n P o a w K Q := by
 refine ⟨fun _ _ => trivial, ?_⟩
 rw [show Fence.wide.round = none from rfl, Oper.semAt_none]
 unfold Oper.wp at h
 generalize (execOp a.eval o).run P w = r at *
 cases r with
 | ok x w' =>
  cases x with
  | enter f args => exact ⟨fun h => (by cases h), callsIn_wide.2 h⟩
  | row r args =>
   refine ⟨fun h => (by cases h), fun c cs _ => ?_⟩
   obtain ⟨v, w2, h1, h2⟩ := h c cs
   exact ⟨v, w2, h1, stepsIn_wide.2 h2⟩
  | round => exact h.elim
  | _ => exact h
 | halt x w' => cases x <;> exact h
end Go.Proofs.YthonlcnmjlldiaaGreat.P
