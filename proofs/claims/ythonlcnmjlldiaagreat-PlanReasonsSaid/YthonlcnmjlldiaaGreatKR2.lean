/- potbanklaw06.PlanReasons returns true for every input, and what comes in reads as it did. Conditions: none. Part 2 of the proof. -/
import Derived.Test.YthonlcnmjlldiaaGreatKR1
import Derived.Test.YthonlcnmjlldiaaGreatProg
import Derived.Shelf.Abstract
import Derived.Maps.OwnSet
import Derived.Shelf.Small.Bits
import Derived.Ground.NamesProg
import Derived.Shelf.SlGeneric
import Derived.Ground.SlsfProg
import Derived.Shelf.SlSortCmp.NoneTotal
import Derived.StillTailTactics
set_option linter.unusedVariables false
set_option linter.unusedSimpArgs false
namespace Go.Proofs.YthonlcnmjlldiaaGreat.P
open Go.RowKit Go.Proofs.YthonlcnmjlldiaaGreatW.PrintWords Go.Proofs.YthonlcnmjlldiaaGreatW.PrintLast Go.Proofs.YthonlcnmjlldiaaGreatW.PrintMore
attribute [local go_sem] max2_int min2_int max_two min_two max_three min_three max_four min_four
def errW : Option Int → Value
 | none => .nilIface
 | some c => .iface 0 (.int .i64 c)
theorem errW_none : errW none = .nilIface := rfl
theorem errW_some (c : Int) : errW (some c) = .iface 0 (.int .i64 c) := rfl
theorem info3 : (Tryz.prog.info? 3).map (fun i => (i.zero, i.size, i.bytes)) = some (some (.int .i64 0), 1, 8) := by kernel_rfl
theorem info4 : (Tryz.prog.info? 4).map (fun i => (i.zero, i.size, i.bytes)) = some (some (.bool false), 1, 1) := by kernel_rfl
theorem info41 : (Tryz.prog.info? 41).map (fun i => (i.zero, i.size, i.bytes)) = some (some (.slice none 0 0), 1, 24) := by kernel_rfl
theorem info72 : (Tryz.prog.info? 72).map (fun i => (i.zero, i.size, i.bytes)) = some (some (.agg #[(.int .i64 0), (.int .i64 0), (.int .i64 0), (.int .i64 0), (.int .i64 0)]), 5, 40) := by kernel_rfl
theorem info93 : (Tryz.prog.info? 93).map (fun i => (i.zero, i.size, i.bytes)) = some (some (.int .u64 0), 1, 8) := by kernel_rfl
structure S68 where
 f0 : Int
 f1 : Int
def z68 : S68 := ⟨(0 : Int), (0 : Int)⟩
def k68 : Kd S68 := Kd.iso (Kd.pair (Kd.int .i64) (Kd.int .i64)) (fun x : S68 => (x.f0, x.f1))
theorem k68_open {w : World} {x : S68} {cs : List Value} (h : k68.K w x cs) : cs = [.int .i64 x.f0, .int .i64 x.f1] := by
 obtain ⟨_, _, rfl, rfl, rfl⟩ := h
 exact rfl
theorem k68_openM {w : World} {base : Nat} {ok : Nat → Prop} {x : S68} {cs : List Value} (h : k68.M w base ok x cs) : cs = [.int .i64 x.f0, .int .i64 x.f1] := by
 obtain ⟨_, _, rfl, rfl, rfl⟩ := h
 exact rfl
theorem k68_mk (w : World) (x : S68)  : k68.K w x [.int .i64 x.f0, .int .i64 x.f1] := ⟨[.int .i64 x.f0], [.int .i64 x.f1], rfl, rfl, rfl⟩
theorem k68_mkM (w : World) (base : Nat) (ok : Nat → Prop) (x : S68)  : k68.M w base ok x [.int .i64 x.f0, .int .i64 x.f1] := ⟨[.int .i64 x.f0], [.int .i64 x.f1], rfl, rfl, rfl⟩
structure S72 where
 f0 : Int
 f1 : Int
 f2 : S68
 f3 : Int
def z72 : S72 := ⟨(0 : Int), (0 : Int), z68, (0 : Int)⟩
def k72 : Kd S72 := Kd.iso (Kd.pair (Kd.int .i64) (Kd.pair (Kd.int .i64) (Kd.pair k68 (Kd.int .i64)))) (fun x : S72 => (x.f0, x.f1, x.f2, x.f3))
theorem k72_open {w : World} {x : S72} {cs : List Value} (h : k72.K w x cs) : cs = [.int .i64 x.f0, .int .i64 x.f1, .int .i64 x.f2.f0, .int .i64 x.f2.f1, .int .i64 x.f3] := by
 obtain ⟨_, _, rfl, rfl, ⟨_, _, rfl, rfl, ⟨_, _, rfl, s2, rfl⟩⟩⟩ := h
 obtain rfl := k68_open s2
 exact rfl
theorem k72_openM {w : World} {base : Nat} {ok : Nat → Prop} {x : S72} {cs : List Value} (h : k72.M w base ok x cs) : cs = [.int .i64 x.f0, .int .i64 x.f1, .int .i64 x.f2.f0, .int .i64 x.f2.f1, .int .i64 x.f3] := by
 obtain ⟨_, _, rfl, rfl, ⟨_, _, rfl, rfl, ⟨_, _, rfl, s2, rfl⟩⟩⟩ := h
 obtain rfl := k68_openM s2
 exact rfl
theorem k72_mk (w : World) (x : S72)  : k72.K w x [.int .i64 x.f0, .int .i64 x.f1, .int .i64 x.f2.f0, .int .i64 x.f2.f1, .int .i64 x.f3] := ⟨[.int .i64 x.f0], [.int .i64 x.f1, .int .i64 x.f2.f0, .int .i64 x.f2.f1, .int .i64 x.f3], rfl, rfl, ⟨[.int .i64 x.f1], [.int .i64 x.f2.f0, .int .i64 x.f2.f1, .int .i64 x.f3], rfl, rfl, ⟨[.int .i64 x.f2.f0, .int .i64 x.f2.f1], [.int .i64 x.f3], rfl, (k68_mk w x.f2 ), rfl⟩⟩⟩
theorem k72_mkM (w : World) (base : Nat) (ok : Nat → Prop) (x : S72)  : k72.M w base ok x [.int .i64 x.f0, .int .i64 x.f1, .int .i64 x.f2.f0, .int .i64 x.f2.f1, .int .i64 x.f3] := ⟨[.int .i64 x.f0], [.int .i64 x.f1, .int .i64 x.f2.f0, .int .i64 x.f2.f1, .int .i64 x.f3], rfl, rfl, ⟨[.int .i64 x.f1], [.int .i64 x.f2.f0, .int .i64 x.f2.f1, .int .i64 x.f3], rfl, rfl, ⟨[.int .i64 x.f2.f0, .int .i64 x.f2.f1], [.int .i64 x.f3], rfl, (k68_mkM w base ok x.f2 ), rfl⟩⟩⟩
def rd_T72 (xs : List S72) (i : Int) : S72 := xs.getD i.toNat z72
theorem at_T72 {w : World} {A : Option Addr} {n : Nat} {xs : List S72} (h : Kd.C k72 w A n xs) (i : Int) (h0 : 0 ≤ i) (h1 : i < n) : ∃ ad , A = some ad ∧ w.cell? (ad.add (i.toNat * 5)) = some (.int .i64 (rd_T72 xs i).f0) ∧ w.cell? ⟨(ad.add (i.toNat * 5)).block, (ad.add (i.toNat * 5)).off + 1, none⟩ = some (.int .i64 (rd_T72 xs i).f1) ∧ w.cell? ⟨(ad.add (i.toNat * 5)).block, (ad.add (i.toNat * 5)).off + 2, none⟩ = some (.int .i64 (rd_T72 xs i).f2.f0) ∧ w.cell? ⟨(ad.add (i.toNat * 5)).block, (ad.add (i.toNat * 5)).off + 3, none⟩ = some (.int .i64 (rd_T72 xs i).f2.f1) ∧ w.cell? ⟨(ad.add (i.toNat * 5)).block, (ad.add (i.toNat * 5)).off + 4, none⟩ = some (.int .i64 (rd_T72 xs i).f3) := by
 obtain ⟨ad, c, e, _, hK, hc0⟩ := Kd.C_get h z72 i h0 h1
 have hc : ∀ j u, c[j]? = some u → w.cell? (ad.add (i.toNat * 5 + j)) = some u := hc0
 obtain rfl := k72_open hK
 exact ⟨ad, e, hc 0 _ rfl, by rw [← add_field _ _ 1 (by omega)]; exact hc 1 _ rfl, by rw [← add_field _ _ 2 (by omega)]; exact hc 2 _ rfl, by rw [← add_field _ _ 3 (by omega)]; exact hc 3 _ rfl, by rw [← add_field _ _ 4 (by omega)]; exact hc 4 _ rfl⟩
structure S70 where
 f0 : S68
 f1 : Int
 f2 : Int
def z70 : S70 := ⟨z68, (0 : Int), (0 : Int)⟩
def k70 : Kd S70 := Kd.iso (Kd.pair k68 (Kd.pair (Kd.int .i64) (Kd.int .i64))) (fun x : S70 => (x.f0, x.f1, x.f2))
theorem k70_open {w : World} {x : S70} {cs : List Value} (h : k70.K w x cs) : cs = [.int .i64 x.f0.f0, .int .i64 x.f0.f1, .int .i64 x.f1, .int .i64 x.f2] := by
 obtain ⟨_, _, rfl, s0, ⟨_, _, rfl, rfl, rfl⟩⟩ := h
 obtain rfl := k68_open s0
 exact rfl
theorem k70_mk (w : World) (x : S70)  : k70.K w x [.int .i64 x.f0.f0, .int .i64 x.f0.f1, .int .i64 x.f1, .int .i64 x.f2] := ⟨[.int .i64 x.f0.f0, .int .i64 x.f0.f1], [.int .i64 x.f1, .int .i64 x.f2], rfl, (k68_mk w x.f0 ), ⟨[.int .i64 x.f1], [.int .i64 x.f2], rfl, rfl, rfl⟩⟩
theorem k70_mkM (w : World) (base : Nat) (ok : Nat → Prop) (x : S70)  : k70.M w base ok x [.int .i64 x.f0.f0, .int .i64 x.f0.f1, .int .i64 x.f1, .int .i64 x.f2] := ⟨[.int .i64 x.f0.f0, .int .i64 x.f0.f1], [.int .i64 x.f1, .int .i64 x.f2], rfl, (k68_mkM w base ok x.f0 ), ⟨[.int .i64 x.f1], [.int .i64 x.f2], rfl, rfl, rfl⟩⟩
def rd_T70 (xs : List S70) (i : Int) : S70 := xs.getD i.toNat z70
theorem at_T70 {w : World} {A : Option Addr} {n : Nat} {xs : List S70} (h : Kd.C k70 w A n xs) (i : Int) (h0 : 0 ≤ i) (h1 : i < n) : ∃ ad , A = some ad ∧ w.cell? (ad.add (i.toNat * 4)) = some (.int .i64 (rd_T70 xs i).f0.f0) ∧ w.cell? ⟨(ad.add (i.toNat * 4)).block, (ad.add (i.toNat * 4)).off + 1, none⟩ = some (.int .i64 (rd_T70 xs i).f0.f1) ∧ w.cell? ⟨(ad.add (i.toNat * 4)).block, (ad.add (i.toNat * 4)).off + 2, none⟩ = some (.int .i64 (rd_T70 xs i).f1) ∧ w.cell? ⟨(ad.add (i.toNat * 4)).block, (ad.add (i.toNat * 4)).off + 3, none⟩ = some (.int .i64 (rd_T70 xs i).f2) := by
 obtain ⟨ad, c, e, _, hK, hc0⟩ := Kd.C_get h z70 i h0 h1
 have hc : ∀ j u, c[j]? = some u → w.cell? (ad.add (i.toNat * 4 + j)) = some u := hc0
 obtain rfl := k70_open hK
 exact ⟨ad, e, hc 0 _ rfl, by rw [← add_field _ _ 1 (by omega)]; exact hc 1 _ rfl, by rw [← add_field _ _ 2 (by omega)]; exact hc 2 _ rfl, by rw [← add_field _ _ 3 (by omega)]; exact hc 3 _ rfl⟩
def rd_L5 (xs : List (List Int)) (i : Int) : (List Int) := xs.getD i.toNat ([] : List Int)
theorem at_L5 {w : World} {A : Option Addr} {n : Nat} {xs : List (List Int)} (h : Kd.C (Kd.slice 3 (Kd.int .i64)) w A n xs) (i : Int) (h0 : 0 ≤ i) (h1 : i < n) : ∃ ad A0 c0, A = some ad ∧ w.cell? (ad.add i.toNat) = some (.slice A0 (rd_L5 xs i).length c0) ∧ (rd_L5 xs i).length ≤ c0 ∧ (Kd.int .i64).C w A0 (rd_L5 xs i).length (rd_L5 xs i) := by
 obtain ⟨ad, c, e, _, hK, hc0⟩ := Kd.C_get h ([] : List Int) i h0 h1
 have hc : ∀ j u, c[j]? = some u → w.cell? (ad.add (i.toNat * 1 + j)) = some u := hc0
 obtain ⟨A0, c0, rfl, l0, g0⟩ := hK
 exact ⟨ad, A0, c0, e, by have hq := hc 0 _ rfl; rwa [Nat.mul_one, Nat.add_zero] at hq, l0, g0⟩
def plan_isWithin.f (a0 : Int) (a1 : Int) (a2 : Int) : Option (Bool) := if a1 ≤ a0 then (some (decide (a0 ≤ a2))) else (some false)
set_option maxHeartbeats 8000000 in
set_option maxRecDepth 100000 in
theorem plan_isWithin.calls (a0 : Int) (a1 : Int) (a2 : Int) (r : Bool) (w : World) (h : plan_isWithin.f a0 a1 a2 = some r) :
  Calls Tryz.prog 43 #[.int .i64 a0, .int .i64 a1, .int .i64 a2] w fun e w' => e = .returned (.bool r) ∧ Drawn0 w w' := by
 have H : (if a1 ≤ a0 then (some (decide (a0 ≤ a2))) else (some false)) = some r := h
 clear h
 by_cases c4 : a1 ≤ a0
 ·rw [if_pos c4] at H
  have c4b0 : decide (a1 ≤ a0) = true := decide_eq_true c4
  clear c4
  obtain rfl := Option.some.inj H
  go_enter Tryz.func43, Tryz.ntmps43
  go_wp2
  go_ret
  exact ⟨by first | rfl | (simp; done) | (simp [*]; done), by repeat (first | exact Drawn0.refl _ | apply Drawn0.step)⟩
 ·rw [if_neg c4] at H
  have c4b0 : decide (a1 ≤ a0) = false := decide_eq_false c4
  clear c4
  obtain rfl := Option.some.inj H
  go_enter Tryz.func43, Tryz.ntmps43
  go_wp2
  go_ret
  exact ⟨by first | rfl | (simp; done) | (simp [*]; done), by repeat (first | exact Drawn0.refl _ | apply Drawn0.step)⟩
def plan_isHeat.f (a0_0 : Int) (a0_1 : Int) : Option (Bool) := if 0 ≤ a0_0 then (if a0_0 ≤ a0_1 then (some (decide (a0_1 ≤ 2000))) else (some false)) else (some false)
def BoxAt (w : World) (cs : Array Value) (t : TypeId) (W : World) : Prop := Below w.heap.size w W ∧ w.heap.size < W.heap.size ∧ W.heap[w.heap.size]? = some (.cells cs t (0, 0))
theorem box_first {w w1 : World} {cs : Array Value} {t : TypeId} (h : Below (w.alloc (.cells cs t)).heap.size (w.alloc (.cells cs t)) w1) : BoxAt w cs t w1 := by
 have hsz : (w.alloc (.cells cs t)).heap.size = w.heap.size + 1 := by simp
 have h2 := h.size
 refine ⟨(below_alloc (Below.refl _ _) _).trans (h.mono (by omega)), by omega, ?_⟩
 rw [h.block w.heap.size (by omega)]
 exact heap_alloc_new w _
theorem BoxAt.next {w w1 w2 : World} {cs : Array Value} {t : TypeId} (h : BoxAt w cs t w1) (hb : Below w1.heap.size w1 w2) : BoxAt w cs t w2 :=
 ⟨h.1.trans (hb.mono h.1.size), Nat.lt_of_lt_of_le h.2.1 hb.size, (hb.block _ h.2.1).trans h.2.2⟩
set_option maxHeartbeats 8000000 in
set_option maxRecDepth 100000 in
theorem plan_isHeat.calls (a0_0 : Int) (a0_1 : Int) (r : Bool) (w : World) (h : plan_isHeat.f a0_0 a0_1 = some r) :
  Calls Tryz.prog 114 #[.agg #[.int .i64 a0_0, .int .i64 a0_1]] w fun e w' => e = .returned (.bool r) ∧ Below w.heap.size w w' := by
 have hu68 := Tryz.underlying68
 unfold plan_isHeat.f at h
 by_cases c3 : 0 ≤ a0_0 <;> by_cases c4 : a0_0 ≤ a0_1
 all_goals
  simp only [ge_iff_le, c3, c4, if_true, if_false, Option.some.injEq] at h
  subst h
  go_enter Tryz.func114, Tryz.ntmps114
  go_wp2
  go_ret
  exact ⟨rfl, below_alloc (Below.refl _ _) _⟩
def plan_checkSeat.f (a0_0 : Int) (a0_1 : Int) (a0_2 : Int) (a0_3 : Int) : Option (Int) := (plan_isHeat.f a0_0 a0_1).bind fun t103 => (if t103 = true then ((plan_isWithin.f a0_2 0 9).bind fun t104 => (if t104 = true then ((plan_isWithin.f a0_3 0 1000).bind fun t105 => (if t105 = true then (some 0) else (some 61))) else (some 61))) else (some 61))
set_option maxHeartbeats 8000000 in
set_option maxRecDepth 100000 in
theorem plan_checkSeat.calls (a0_0 : Int) (a0_1 : Int) (a0_2 : Int) (a0_3 : Int) (r : Int) (w : World) (h : plan_checkSeat.f a0_0 a0_1 a0_2 a0_3 = some r) :
  Calls Tryz.prog 122 #[.agg #[.int .i64 a0_0, .int .i64 a0_1, .int .i64 a0_2, .int .i64 a0_3]] w fun e w' => e = .returned (.int .i64 r) ∧ Below w.heap.size w w' := by
 have hu := Tryz.underlying70
 have hu68 := Tryz.underlying68
 unfold plan_checkSeat.f at h
 go_enter Tryz.func122, Tryz.ntmps122
 obtain ⟨b0, e0, h⟩ := Option.bind_eq_some_iff.mp h
 have K0 := Aside0.mk (fun W => plan_isHeat.calls a0_0 a0_1 b0 W e0)
 have HH := Aside0.mk h
 clear h e0
 go_wp2_with fail
 refine (K0.out _).mono ?_
 rintro e w1 ⟨rfl, hb⟩
 have h := HH.out
 have I1 := Aside0.mk (box_first hb)
 clear HH hb K0
 have x1_0 := (blk_cell I1.out.2.2 0).trans rfl
 have x1_1 := (blk_cell I1.out.2.2 1).trans rfl
 have x1_2 := (blk_cell I1.out.2.2 2).trans rfl
 have x1_3 := (blk_cell I1.out.2.2 3).trans rfl
 cases b0
 ·simp only [Bool.false_eq_true, if_false, Option.some.injEq] at h
  subst h
  go_wp2
  go_ret
  exact ⟨rfl, I1.out.1⟩
 ·simp only [if_true] at h
  obtain ⟨b1, e1, h⟩ := Option.bind_eq_some_iff.mp h
  have K1 := Aside0.mk (fun W => plan_isWithin.calls a0_2 0 9 b1 W e1)
  have HH := Aside0.mk h
  clear h e1
  go_wp2_with fail
  refine (K1.out _).mono ?_
  rintro e w2 ⟨rfl, hb⟩
  have h := HH.out
  have I2 := Aside0.mk (I1.out.next hb.below)
  clear HH hb K1 I1 x1_0 x1_1 x1_2 x1_3
  have x2_0 := (blk_cell I2.out.2.2 0).trans rfl
  have x2_1 := (blk_cell I2.out.2.2 1).trans rfl
  have x2_2 := (blk_cell I2.out.2.2 2).trans rfl
  have x2_3 := (blk_cell I2.out.2.2 3).trans rfl
  cases b1
  ·simp only [Bool.false_eq_true, if_false, Option.some.injEq] at h
   subst h
   go_wp2
   go_ret
   exact ⟨rfl, I2.out.1⟩
  ·simp only [if_true] at h
   obtain ⟨b2, e2, h⟩ := Option.bind_eq_some_iff.mp h
   have K2 := Aside0.mk (fun W => plan_isWithin.calls a0_3 0 1000 b2 W e2)
   have HH := Aside0.mk h
   clear h e2
   go_wp2_with fail
   refine (K2.out _).mono ?_
   rintro e w3 ⟨rfl, hb⟩
   have h := HH.out
   have I3 := Aside0.mk (I2.out.next hb.below)
   clear HH hb K2 I2 x2_0 x2_1 x2_2 x2_3
   have x3_0 := (blk_cell I3.out.2.2 0).trans rfl
   have x3_1 := (blk_cell I3.out.2.2 1).trans rfl
   have x3_2 := (blk_cell I3.out.2.2 2).trans rfl
   have x3_3 := (blk_cell I3.out.2.2 3).trans rfl
   cases b2
   ·simp only [Bool.false_eq_true, if_false, Option.some.injEq] at h
    subst h
    go_wp2
    go_ret
    exact ⟨rfl, I3.out.1⟩
   ·simp only [if_true, Option.some.injEq] at h
    subst h
    go_wp2
    go_ret
    exact ⟨rfl, I3.out.1⟩
def plan_CheckSeats_1.f (a0_0 : Int) (a0_1 : Int) (a0_2 : Int) (a0_3 : Int) : Option (Bool) := (plan_checkSeat.f a0_0 a0_1 a0_2 a0_3).bind fun t107 => (some (t107 != 0))
set_option maxHeartbeats 8000000 in
set_option maxRecDepth 100000 in
theorem plan_CheckSeats_1.calls (a0_0 : Int) (a0_1 : Int) (a0_2 : Int) (a0_3 : Int) (r : Bool) (w : World) (h : plan_CheckSeats_1.f a0_0 a0_1 a0_2 a0_3 = some r) :
  Calls Tryz.prog 121 #[.agg #[.int .i64 a0_0, .int .i64 a0_1, .int .i64 a0_2, .int .i64 a0_3]] w fun e w' => e = .returned (.bool r) ∧ Below w.heap.size w w' := by
 have hu70 := Tryz.underlying70
 have HB := Aside0.mk (Below.refl w.heap.size w)
 have H : ((plan_checkSeat.f a0_0 a0_1 a0_2 a0_3).bind fun t107 => (some (t107 != 0))) = some r := h
 clear h
 replace H := Option.bind_eq_some_iff.mp H
 obtain ⟨t107, A20, H⟩ := H
 replace H : (some (t107 != 0)) = some r := H
 have A2 := Aside0.mk A20
 clear A20
 obtain rfl := Option.some.inj H
 go_enter Tryz.func121, Tryz.ntmps121
 go_wp2_with (first | ((with_reducible refine gate_dst (N := 1) rfl ?_); refine box_event ?hg (N := 1) ?hd (cs := #[.int .i64 a0_0, .int .i64 a0_1, .int .i64 a0_2, .int .i64 a0_3]) (t := 70) ?hr ?_; (case hd => rfl); (case hg => rfl); (case hr => first | (go_simp; done) | (go_simp; rfl)); intro gb106 hg w3 hbox hb; have n0_ := Aside0.mk (below_step (by repeat (first | exact HB.out | apply below_alloc | apply pw_below_drewN | apply below_drew1)) hb); have n1_ := Aside0.mk (hbox); have n2_ := Aside0.mk ((by rw [hg]; exact (below_size (by repeat (first | exact HB.out | apply below_alloc | apply pw_below_drewN | apply below_drew1))) : w.heap.size ≤ gb106)); have n3_ := Aside0.mk ((by rw [hg]; exact (below_size (by repeat (first | exact HB.out | apply below_alloc | apply pw_below_drewN | apply below_drew1))) : w.heap.size ≤ gb106)); clear HB; have HB := n0_; have BK106 := n1_; have GW106 := n2_; have GE106 := n3_; clear n0_ n1_ n2_ n3_; clear hb hbox hg; have hcz4_0 : w3.cell? ⟨gb106, 0, none⟩ = some (.int .i64 a0_0) := (blk_cell BK106.out 0).trans rfl; have hcz4_1 : w3.cell? ⟨gb106, 1, none⟩ = some (.int .i64 a0_1) := (blk_cell BK106.out 1).trans rfl; have hcz4_2 : w3.cell? ⟨gb106, 2, none⟩ = some (.int .i64 a0_2) := (blk_cell BK106.out 2).trans rfl; have hcz4_3 : w3.cell? ⟨gb106, 3, none⟩ = some (.int .i64 a0_3) := (blk_cell BK106.out 3).trans rfl; have hfz4_0 := blk_frozen BK106.out 0; have hfz4_1 := blk_frozen BK106.out 1; have hfz4_2 := blk_frozen BK106.out 2; have hfz4_3 := blk_frozen BK106.out 3) | ((with_reducible refine gate_callee (f := 122) rfl ?_); refine goesL_ (some 4) rfl rfl Tryz.func122 (by kernel_rfl) rfl #[.agg #[.int .i64 a0_0, .int .i64 a0_1, .int .i64 a0_2, .int .i64 a0_3]] rfl (by (try simp only [List.map_toArray, List.map_cons, List.map_nil]); first | done | rfl | (simp only [List.length_drop, List.length_take]; rfl)) ?_; (with_reducible refine (plan_checkSeat.calls a0_0 a0_1 a0_2 a0_3 t107 _ A2.out).mono ?_); rintro e w5 ⟨rfl, hb⟩; refine ⟨_, rfl, ?_⟩; have n0_ := Aside0.mk (blk_below (g := gb106) (o := .cells #[.int .i64 a0_0, .int .i64 a0_1, .int .i64 a0_2, .int .i64 a0_3] 70 (0, 0)) (by (with_reducible repeat (first | refine blk_drewN ?_ _ | refine blk_drew ?_ | refine blk_alloc ?_ _)); exact BK106.out) hb); have n1_ := Aside0.mk (below_step (by repeat (first | exact HB.out | apply below_alloc | apply pw_below_drewN | apply below_drew1 | refine below_set ?_ GE106.out)) hb); clear BK106; clear HB; have BK106 := n0_; have HB := n1_; clear n0_ n1_; (try clear hb); (try clear hb2); (try clear hk); (try clear hi)))
 go_ret
 exact ⟨by first | rfl | (simp [errW_none, errW_some] <;> rfl) | (simp [*, errW_none, errW_some] <;> rfl), by repeat (first | exact HB.out | apply below_alloc | apply pw_below_drewN | apply below_drew1 | refine below_set ?_ GE106.out)⟩
def bits_OnesCount64.f (a0 : Int) : Option (Int) := some (Go.bits .and .i64 (wrap64 (IntKind.u64.wrap ((IntKind.u64.wrap ((IntKind.u64.wrap ((Go.bits .and .u64 (IntKind.u64.wrap (((IntKind.u64.wrap ((Go.bits .and .u64 ((IntKind.u64.wrap ((Go.bits .and .u64 (a0 / 2) 6148914691236517205) + (Go.bits .and .u64 a0 6148914691236517205))) / 4) 3689348814741910323) + (Go.bits .and .u64 (IntKind.u64.wrap ((Go.bits .and .u64 (a0 / 2) 6148914691236517205) + (Go.bits .and .u64 a0 6148914691236517205))) 3689348814741910323))) / 16) + (IntKind.u64.wrap ((Go.bits .and .u64 ((IntKind.u64.wrap ((Go.bits .and .u64 (a0 / 2) 6148914691236517205) + (Go.bits .and .u64 a0 6148914691236517205))) / 4) 3689348814741910323) + (Go.bits .and .u64 (IntKind.u64.wrap ((Go.bits .and .u64 (a0 / 2) 6148914691236517205) + (Go.bits .and .u64 a0 6148914691236517205))) 3689348814741910323))))) 1085102592571150095) + ((Go.bits .and .u64 (IntKind.u64.wrap (((IntKind.u64.wrap ((Go.bits .and .u64 ((IntKind.u64.wrap ((Go.bits .and .u64 (a0 / 2) 6148914691236517205) + (Go.bits .and .u64 a0 6148914691236517205))) / 4) 3689348814741910323) + (Go.bits .and .u64 (IntKind.u64.wrap ((Go.bits .and .u64 (a0 / 2) 6148914691236517205) + (Go.bits .and .u64 a0 6148914691236517205))) 3689348814741910323))) / 16) + (IntKind.u64.wrap ((Go.bits .and .u64 ((IntKind.u64.wrap ((Go.bits .and .u64 (a0 / 2) 6148914691236517205) + (Go.bits .and .u64 a0 6148914691236517205))) / 4) 3689348814741910323) + (Go.bits .and .u64 (IntKind.u64.wrap ((Go.bits .and .u64 (a0 / 2) 6148914691236517205) + (Go.bits .and .u64 a0 6148914691236517205))) 3689348814741910323))))) 1085102592571150095) / 256))) + ((IntKind.u64.wrap ((Go.bits .and .u64 (IntKind.u64.wrap (((IntKind.u64.wrap ((Go.bits .and .u64 ((IntKind.u64.wrap ((Go.bits .and .u64 (a0 / 2) 6148914691236517205) + (Go.bits .and .u64 a0 6148914691236517205))) / 4) 3689348814741910323) + (Go.bits .and .u64 (IntKind.u64.wrap ((Go.bits .and .u64 (a0 / 2) 6148914691236517205) + (Go.bits .and .u64 a0 6148914691236517205))) 3689348814741910323))) / 16) + (IntKind.u64.wrap ((Go.bits .and .u64 ((IntKind.u64.wrap ((Go.bits .and .u64 (a0 / 2) 6148914691236517205) + (Go.bits .and .u64 a0 6148914691236517205))) / 4) 3689348814741910323) + (Go.bits .and .u64 (IntKind.u64.wrap ((Go.bits .and .u64 (a0 / 2) 6148914691236517205) + (Go.bits .and .u64 a0 6148914691236517205))) 3689348814741910323))))) 1085102592571150095) + ((Go.bits .and .u64 (IntKind.u64.wrap (((IntKind.u64.wrap ((Go.bits .and .u64 ((IntKind.u64.wrap ((Go.bits .and .u64 (a0 / 2) 6148914691236517205) + (Go.bits .and .u64 a0 6148914691236517205))) / 4) 3689348814741910323) + (Go.bits .and .u64 (IntKind.u64.wrap ((Go.bits .and .u64 (a0 / 2) 6148914691236517205) + (Go.bits .and .u64 a0 6148914691236517205))) 3689348814741910323))) / 16) + (IntKind.u64.wrap ((Go.bits .and .u64 ((IntKind.u64.wrap ((Go.bits .and .u64 (a0 / 2) 6148914691236517205) + (Go.bits .and .u64 a0 6148914691236517205))) / 4) 3689348814741910323) + (Go.bits .and .u64 (IntKind.u64.wrap ((Go.bits .and .u64 (a0 / 2) 6148914691236517205) + (Go.bits .and .u64 a0 6148914691236517205))) 3689348814741910323))))) 1085102592571150095) / 256))) / 65536))) + ((IntKind.u64.wrap ((IntKind.u64.wrap ((Go.bits .and .u64 (IntKind.u64.wrap (((IntKind.u64.wrap ((Go.bits .and .u64 ((IntKind.u64.wrap ((Go.bits .and .u64 (a0 / 2) 6148914691236517205) + (Go.bits .and .u64 a0 6148914691236517205))) / 4) 3689348814741910323) + (Go.bits .and .u64 (IntKind.u64.wrap ((Go.bits .and .u64 (a0 / 2) 6148914691236517205) + (Go.bits .and .u64 a0 6148914691236517205))) 3689348814741910323))) / 16) + (IntKind.u64.wrap ((Go.bits .and .u64 ((IntKind.u64.wrap ((Go.bits .and .u64 (a0 / 2) 6148914691236517205) + (Go.bits .and .u64 a0 6148914691236517205))) / 4) 3689348814741910323) + (Go.bits .and .u64 (IntKind.u64.wrap ((Go.bits .and .u64 (a0 / 2) 6148914691236517205) + (Go.bits .and .u64 a0 6148914691236517205))) 3689348814741910323))))) 1085102592571150095) + ((Go.bits .and .u64 (IntKind.u64.wrap (((IntKind.u64.wrap ((Go.bits .and .u64 ((IntKind.u64.wrap ((Go.bits .and .u64 (a0 / 2) 6148914691236517205) + (Go.bits .and .u64 a0 6148914691236517205))) / 4) 3689348814741910323) + (Go.bits .and .u64 (IntKind.u64.wrap ((Go.bits .and .u64 (a0 / 2) 6148914691236517205) + (Go.bits .and .u64 a0 6148914691236517205))) 3689348814741910323))) / 16) + (IntKind.u64.wrap ((Go.bits .and .u64 ((IntKind.u64.wrap ((Go.bits .and .u64 (a0 / 2) 6148914691236517205) + (Go.bits .and .u64 a0 6148914691236517205))) / 4) 3689348814741910323) + (Go.bits .and .u64 (IntKind.u64.wrap ((Go.bits .and .u64 (a0 / 2) 6148914691236517205) + (Go.bits .and .u64 a0 6148914691236517205))) 3689348814741910323))))) 1085102592571150095) / 256))) + ((IntKind.u64.wrap ((Go.bits .and .u64 (IntKind.u64.wrap (((IntKind.u64.wrap ((Go.bits .and .u64 ((IntKind.u64.wrap ((Go.bits .and .u64 (a0 / 2) 6148914691236517205) + (Go.bits .and .u64 a0 6148914691236517205))) / 4) 3689348814741910323) + (Go.bits .and .u64 (IntKind.u64.wrap ((Go.bits .and .u64 (a0 / 2) 6148914691236517205) + (Go.bits .and .u64 a0 6148914691236517205))) 3689348814741910323))) / 16) + (IntKind.u64.wrap ((Go.bits .and .u64 ((IntKind.u64.wrap ((Go.bits .and .u64 (a0 / 2) 6148914691236517205) + (Go.bits .and .u64 a0 6148914691236517205))) / 4) 3689348814741910323) + (Go.bits .and .u64 (IntKind.u64.wrap ((Go.bits .and .u64 (a0 / 2) 6148914691236517205) + (Go.bits .and .u64 a0 6148914691236517205))) 3689348814741910323))))) 1085102592571150095) + ((Go.bits .and .u64 (IntKind.u64.wrap (((IntKind.u64.wrap ((Go.bits .and .u64 ((IntKind.u64.wrap ((Go.bits .and .u64 (a0 / 2) 6148914691236517205) + (Go.bits .and .u64 a0 6148914691236517205))) / 4) 3689348814741910323) + (Go.bits .and .u64 (IntKind.u64.wrap ((Go.bits .and .u64 (a0 / 2) 6148914691236517205) + (Go.bits .and .u64 a0 6148914691236517205))) 3689348814741910323))) / 16) + (IntKind.u64.wrap ((Go.bits .and .u64 ((IntKind.u64.wrap ((Go.bits .and .u64 (a0 / 2) 6148914691236517205) + (Go.bits .and .u64 a0 6148914691236517205))) / 4) 3689348814741910323) + (Go.bits .and .u64 (IntKind.u64.wrap ((Go.bits .and .u64 (a0 / 2) 6148914691236517205) + (Go.bits .and .u64 a0 6148914691236517205))) 3689348814741910323))))) 1085102592571150095) / 256))) / 65536))) / 4294967296)))) 127)
set_option maxHeartbeats 8000000 in
set_option maxRecDepth 100000 in
theorem bits_OnesCount64.calls (a0 : Int) (r : Int) (w : World) (h : bits_OnesCount64.f a0 = some r) :
  Calls Tryz.prog 145 #[.int .u64 a0] w fun e w' => e = .returned (.int .i64 r) ∧ Drawn0 w w' := by
 have H : (some (Go.bits .and .i64 (wrap64 (IntKind.u64.wrap ((IntKind.u64.wrap ((IntKind.u64.wrap ((Go.bits .and .u64 (IntKind.u64.wrap (((IntKind.u64.wrap ((Go.bits .and .u64 ((IntKind.u64.wrap ((Go.bits .and .u64 (a0 / 2) 6148914691236517205) + (Go.bits .and .u64 a0 6148914691236517205))) / 4) 3689348814741910323) + (Go.bits .and .u64 (IntKind.u64.wrap ((Go.bits .and .u64 (a0 / 2) 6148914691236517205) + (Go.bits .and .u64 a0 6148914691236517205))) 3689348814741910323))) / 16) + (IntKind.u64.wrap ((Go.bits .and .u64 ((IntKind.u64.wrap ((Go.bits .and .u64 (a0 / 2) 6148914691236517205) + (Go.bits .and .u64 a0 6148914691236517205))) / 4) 3689348814741910323) + (Go.bits .and .u64 (IntKind.u64.wrap ((Go.bits .and .u64 (a0 / 2) 6148914691236517205) + (Go.bits .and .u64 a0 6148914691236517205))) 3689348814741910323))))) 1085102592571150095) + ((Go.bits .and .u64 (IntKind.u64.wrap (((IntKind.u64.wrap ((Go.bits .and .u64 ((IntKind.u64.wrap ((Go.bits .and .u64 (a0 / 2) 6148914691236517205) + (Go.bits .and .u64 a0 6148914691236517205))) / 4) 3689348814741910323) + (Go.bits .and .u64 (IntKind.u64.wrap ((Go.bits .and .u64 (a0 / 2) 6148914691236517205) + (Go.bits .and .u64 a0 6148914691236517205))) 3689348814741910323))) / 16) + (IntKind.u64.wrap ((Go.bits .and .u64 ((IntKind.u64.wrap ((Go.bits .and .u64 (a0 / 2) 6148914691236517205) + (Go.bits .and .u64 a0 6148914691236517205))) / 4) 3689348814741910323) + (Go.bits .and .u64 (IntKind.u64.wrap ((Go.bits .and .u64 (a0 / 2) 6148914691236517205) + (Go.bits .and .u64 a0 6148914691236517205))) 3689348814741910323))))) 1085102592571150095) / 256))) + ((IntKind.u64.wrap ((Go.bits .and .u64 (IntKind.u64.wrap (((IntKind.u64.wrap ((Go.bits .and .u64 ((IntKind.u64.wrap ((Go.bits .and .u64 (a0 / 2) 6148914691236517205) + (Go.bits .and .u64 a0 6148914691236517205))) / 4) 3689348814741910323) + (Go.bits .and .u64 (IntKind.u64.wrap ((Go.bits .and .u64 (a0 / 2) 6148914691236517205) + (Go.bits .and .u64 a0 6148914691236517205))) 3689348814741910323))) / 16) + (IntKind.u64.wrap ((Go.bits .and .u64 ((IntKind.u64.wrap ((Go.bits .and .u64 (a0 / 2) 6148914691236517205) + (Go.bits .and .u64 a0 6148914691236517205))) / 4) 3689348814741910323) + (Go.bits .and .u64 (IntKind.u64.wrap ((Go.bits .and .u64 (a0 / 2) 6148914691236517205) + (Go.bits .and .u64 a0 6148914691236517205))) 3689348814741910323))))) 1085102592571150095) + ((Go.bits .and .u64 (IntKind.u64.wrap (((IntKind.u64.wrap ((Go.bits .and .u64 ((IntKind.u64.wrap ((Go.bits .and .u64 (a0 / 2) 6148914691236517205) + (Go.bits .and .u64 a0 6148914691236517205))) / 4) 3689348814741910323) + (Go.bits .and .u64 (IntKind.u64.wrap ((Go.bits .and .u64 (a0 / 2) 6148914691236517205) + (Go.bits .and .u64 a0 6148914691236517205))) 3689348814741910323))) / 16) + (IntKind.u64.wrap ((Go.bits .and .u64 ((IntKind.u64.wrap ((Go.bits .and .u64 (a0 / 2) 6148914691236517205) + (Go.bits .and .u64 a0 6148914691236517205))) / 4) 3689348814741910323) + (Go.bits .and .u64 (IntKind.u64.wrap ((Go.bits .and .u64 (a0 / 2) 6148914691236517205) + (Go.bits .and .u64 a0 6148914691236517205))) 3689348814741910323))))) 1085102592571150095) / 256))) / 65536))) + ((IntKind.u64.wrap ((IntKind.u64.wrap ((Go.bits .and .u64 (IntKind.u64.wrap (((IntKind.u64.wrap ((Go.bits .and .u64 ((IntKind.u64.wrap ((Go.bits .and .u64 (a0 / 2) 6148914691236517205) + (Go.bits .and .u64 a0 6148914691236517205))) / 4) 3689348814741910323) + (Go.bits .and .u64 (IntKind.u64.wrap ((Go.bits .and .u64 (a0 / 2) 6148914691236517205) + (Go.bits .and .u64 a0 6148914691236517205))) 3689348814741910323))) / 16) + (IntKind.u64.wrap ((Go.bits .and .u64 ((IntKind.u64.wrap ((Go.bits .and .u64 (a0 / 2) 6148914691236517205) + (Go.bits .and .u64 a0 6148914691236517205))) / 4) 3689348814741910323) + (Go.bits .and .u64 (IntKind.u64.wrap ((Go.bits .and .u64 (a0 / 2) 6148914691236517205) + (Go.bits .and .u64 a0 6148914691236517205))) 3689348814741910323))))) 1085102592571150095) + ((Go.bits .and .u64 (IntKind.u64.wrap (((IntKind.u64.wrap ((Go.bits .and .u64 ((IntKind.u64.wrap ((Go.bits .and .u64 (a0 / 2) 6148914691236517205) + (Go.bits .and .u64 a0 6148914691236517205))) / 4) 3689348814741910323) + (Go.bits .and .u64 (IntKind.u64.wrap ((Go.bits .and .u64 (a0 / 2) 6148914691236517205) + (Go.bits .and .u64 a0 6148914691236517205))) 3689348814741910323))) / 16) + (IntKind.u64.wrap ((Go.bits .and .u64 ((IntKind.u64.wrap ((Go.bits .and .u64 (a0 / 2) 6148914691236517205) + (Go.bits .and .u64 a0 6148914691236517205))) / 4) 3689348814741910323) + (Go.bits .and .u64 (IntKind.u64.wrap ((Go.bits .and .u64 (a0 / 2) 6148914691236517205) + (Go.bits .and .u64 a0 6148914691236517205))) 3689348814741910323))))) 1085102592571150095) / 256))) + ((IntKind.u64.wrap ((Go.bits .and .u64 (IntKind.u64.wrap (((IntKind.u64.wrap ((Go.bits .and .u64 ((IntKind.u64.wrap ((Go.bits .and .u64 (a0 / 2) 6148914691236517205) + (Go.bits .and .u64 a0 6148914691236517205))) / 4) 3689348814741910323) + (Go.bits .and .u64 (IntKind.u64.wrap ((Go.bits .and .u64 (a0 / 2) 6148914691236517205) + (Go.bits .and .u64 a0 6148914691236517205))) 3689348814741910323))) / 16) + (IntKind.u64.wrap ((Go.bits .and .u64 ((IntKind.u64.wrap ((Go.bits .and .u64 (a0 / 2) 6148914691236517205) + (Go.bits .and .u64 a0 6148914691236517205))) / 4) 3689348814741910323) + (Go.bits .and .u64 (IntKind.u64.wrap ((Go.bits .and .u64 (a0 / 2) 6148914691236517205) + (Go.bits .and .u64 a0 6148914691236517205))) 3689348814741910323))))) 1085102592571150095) + ((Go.bits .and .u64 (IntKind.u64.wrap (((IntKind.u64.wrap ((Go.bits .and .u64 ((IntKind.u64.wrap ((Go.bits .and .u64 (a0 / 2) 6148914691236517205) + (Go.bits .and .u64 a0 6148914691236517205))) / 4) 3689348814741910323) + (Go.bits .and .u64 (IntKind.u64.wrap ((Go.bits .and .u64 (a0 / 2) 6148914691236517205) + (Go.bits .and .u64 a0 6148914691236517205))) 3689348814741910323))) / 16) + (IntKind.u64.wrap ((Go.bits .and .u64 ((IntKind.u64.wrap ((Go.bits .and .u64 (a0 / 2) 6148914691236517205) + (Go.bits .and .u64 a0 6148914691236517205))) / 4) 3689348814741910323) + (Go.bits .and .u64 (IntKind.u64.wrap ((Go.bits .and .u64 (a0 / 2) 6148914691236517205) + (Go.bits .and .u64 a0 6148914691236517205))) 3689348814741910323))))) 1085102592571150095) / 256))) / 65536))) / 4294967296)))) 127)) = some r := h
 clear h
 obtain rfl := Option.some.inj H
 go_enter Tryz.func145, Tryz.ntmps145
 go_wp2
 go_ret
 exact ⟨by first | rfl | (simp; done) | (simp [*]; done), by repeat (first | exact Drawn0.refl _ | apply Drawn0.step)⟩
def bits_OnesCount.f (a0 : Int) : Option (Int) := (bits_OnesCount64.f a0).bind fun t108 => (some t108)
set_option maxHeartbeats 8000000 in
set_option maxRecDepth 100000 in
theorem bits_OnesCount.calls (a0 : Int) (r : Int) (w : World) (h : bits_OnesCount.f a0 = some r) :
  Calls Tryz.prog 131 #[.int .u64 a0] w fun e w' => e = .returned (.int .i64 r) ∧ Drawn0 w w' := by
 have H : ((bits_OnesCount64.f a0).bind fun t108 => (some t108)) = some r := h
 clear h
 replace H := Option.bind_eq_some_iff.mp H
 obtain ⟨t108, A20, H⟩ := H
 replace H : (some t108) = some r := H
 have A2 := Aside0.mk A20
 clear A20
 obtain rfl := Option.some.inj H
 go_enter Tryz.func131, Tryz.ntmps131
 go_wp2_with (first | ((with_reducible refine gate_callee (f := 145) rfl ?_); refine goesL_ (some 7) rfl rfl Tryz.func145 (by kernel_rfl) rfl #[.int .u64 a0] rfl (by (try simp only [List.map_toArray, List.map_cons, List.map_nil]); first | done | rfl | (simp only [List.length_drop, List.length_take]; rfl)) ?_; (with_reducible refine (bits_OnesCount64.calls a0 t108 _ A2.out).mono ?_); rintro e w' ⟨rfl, ⟨nd, rfl⟩⟩; refine ⟨_, rfl, ?_⟩))
 go_ret
 exact ⟨by first | rfl | (simp; done) | (simp [*]; done), by repeat (first | exact Drawn0.refl _ | apply Drawn0.step)⟩
def plan_mask_many.f (a0 : Int) : Option (Int) := (bits_OnesCount.f a0).bind fun t109 => (some t109)
set_option maxHeartbeats 8000000 in
set_option maxRecDepth 100000 in
theorem plan_mask_many.calls (a0 : Int) (r : Int) (w : World) (h : plan_mask_many.f a0 = some r) :
  Calls Tryz.prog 117 #[.int .u64 a0] w fun e w' => e = .returned (.int .i64 r) ∧ Drawn0 w w' := by
 have H : ((bits_OnesCount.f a0).bind fun t109 => (some t109)) = some r := h
 clear h
 replace H := Option.bind_eq_some_iff.mp H
 obtain ⟨t109, A20, H⟩ := H
 replace H : (some t109) = some r := H
 have A2 := Aside0.mk A20
 clear A20
 obtain rfl := Option.some.inj H
 go_enter Tryz.func117, Tryz.ntmps117
 go_wp2_with (first | ((with_reducible refine gate_callee (f := 131) rfl ?_); refine goesL_ (some 4) rfl rfl Tryz.func131 (by kernel_rfl) rfl #[.int .u64 a0] rfl (by (try simp only [List.map_toArray, List.map_cons, List.map_nil]); first | done | rfl | (simp only [List.length_drop, List.length_take]; rfl)) ?_; (with_reducible refine (bits_OnesCount.calls a0 t109 _ A2.out).mono ?_); rintro e w' ⟨rfl, ⟨nd, rfl⟩⟩; refine ⟨_, rfl, ?_⟩))
 go_ret
 exact ⟨by first | rfl | (simp; done) | (simp [*]; done), by repeat (first | exact Drawn0.refl _ | apply Drawn0.step)⟩
def plan_suits.f (a0_0 : Int) (a0_1 : Int) (a0_2 : Int) (a0_3 : Int) (a0_4 : Int) (a1_0 : Int) (a1_1 : Int) (a1_2 : Int) (a1_3 : Int) : Option (Bool) := if a1_0 ≥ a0_2 then (if a1_1 ≤ a0_3 then (some (decide (a1_2 ≥ a0_4))) else (some false)) else (some false)
set_option maxHeartbeats 8000000 in
set_option maxRecDepth 100000 in
theorem plan_suits.calls (a0_0 : Int) (a0_1 : Int) (a0_2 : Int) (a0_3 : Int) (a0_4 : Int) (a1_0 : Int) (a1_1 : Int) (a1_2 : Int) (a1_3 : Int) (r : Bool) (w : World) (h : plan_suits.f a0_0 a0_1 a0_2 a0_3 a0_4 a1_0 a1_1 a1_2 a1_3 = some r) :
  Calls Tryz.prog 106 #[.agg #[.int .i64 a0_0, .int .i64 a0_1, .int .i64 a0_2, .int .i64 a0_3, .int .i64 a0_4], .agg #[.int .i64 a1_0, .int .i64 a1_1, .int .i64 a1_2, .int .i64 a1_3]] w fun e w' => e = .returned (.bool r) ∧ Below w.heap.size w w' := by
 have hu72 := Tryz.underlying72
 have hu70 := Tryz.underlying70
 unfold plan_suits.f at h
 by_cases c3 : a0_2 ≤ a1_0 <;> by_cases c4 : a1_1 ≤ a0_3
 all_goals
  simp only [ge_iff_le, c3, c4, if_true, if_false, Option.some.injEq] at h
  subst h
  go_enter Tryz.func106, Tryz.ntmps106
  go_wp2
  go_ret
  exact ⟨rfl, below_alloc (below_alloc (Below.refl _ _) _) _⟩
def plan_checkOrder.f (a0_0 : Int) (a0_1 : Int) (a0_2 : Int) (a0_3 : Int) (a0_4 : Int) : Option (Int) := (plan_isWithin.f a0_0 1 999).bind fun t113 => (if t113 = true then ((plan_isWithin.f a0_1 1 1000).bind fun t114 => (if t114 = true then ((plan_isHeat.f a0_2 a0_3).bind fun t115 => (if t115 = true then ((plan_isWithin.f a0_4 0 9).bind fun t116 => (if t116 = true then (some 0) else (some 60))) else (some 60))) else (some 60))) else (some 60))
set_option maxHeartbeats 8000000 in
set_option maxRecDepth 100000 in
theorem plan_checkOrder.calls (a0_0 : Int) (a0_1 : Int) (a0_2 : Int) (a0_3 : Int) (a0_4 : Int) (r : Int) (w : World) (h : plan_checkOrder.f a0_0 a0_1 a0_2 a0_3 a0_4 = some r) :
  Calls Tryz.prog 84 #[.agg #[.int .i64 a0_0, .int .i64 a0_1, .int .i64 a0_2, .int .i64 a0_3, .int .i64 a0_4]] w fun e w' => e = .returned (.int .i64 r) ∧ Below w.heap.size w w' := by
 have hu := Tryz.underlying72
 have hu68 := Tryz.underlying68
 unfold plan_checkOrder.f at h
 go_enter Tryz.func84, Tryz.ntmps84
 obtain ⟨b0, e0, h⟩ := Option.bind_eq_some_iff.mp h
 have K0 := Aside0.mk (fun W => plan_isWithin.calls a0_0 1 999 b0 W e0)
 have HH := Aside0.mk h
 clear h e0
 go_wp2_with fail
 refine (K0.out _).mono ?_
 rintro e w1 ⟨rfl, hb⟩
 have h := HH.out
 have I1 := Aside0.mk (box_first hb.below)
 clear HH hb K0
 have x1_0 := (blk_cell I1.out.2.2 0).trans rfl
 have x1_1 := (blk_cell I1.out.2.2 1).trans rfl
 have x1_2 := (blk_cell I1.out.2.2 2).trans rfl
 have x1_3 := (blk_cell I1.out.2.2 3).trans rfl
 have x1_4 := (blk_cell I1.out.2.2 4).trans rfl
 cases b0
 ·simp only [Bool.false_eq_true, if_false, Option.some.injEq] at h
  subst h
  go_wp2
  go_ret
  exact ⟨rfl, I1.out.1⟩
 ·simp only [if_true] at h
  obtain ⟨b1, e1, h⟩ := Option.bind_eq_some_iff.mp h
  have K1 := Aside0.mk (fun W => plan_isWithin.calls a0_1 1 1000 b1 W e1)
  have HH := Aside0.mk h
  clear h e1
  go_wp2_with fail
  refine (K1.out _).mono ?_
  rintro e w2 ⟨rfl, hb⟩
  have h := HH.out
  have I2 := Aside0.mk (I1.out.next hb.below)
  clear HH hb K1 I1 x1_0 x1_1 x1_2 x1_3 x1_4
  have x2_0 := (blk_cell I2.out.2.2 0).trans rfl
  have x2_1 := (blk_cell I2.out.2.2 1).trans rfl
  have x2_2 := (blk_cell I2.out.2.2 2).trans rfl
  have x2_3 := (blk_cell I2.out.2.2 3).trans rfl
  have x2_4 := (blk_cell I2.out.2.2 4).trans rfl
  cases b1
  ·simp only [Bool.false_eq_true, if_false, Option.some.injEq] at h
   subst h
   go_wp2
   go_ret
   exact ⟨rfl, I2.out.1⟩
  ·simp only [if_true] at h
   obtain ⟨b2, e2, h⟩ := Option.bind_eq_some_iff.mp h
   have K2 := Aside0.mk (fun W => plan_isHeat.calls a0_2 a0_3 b2 W e2)
   have HH := Aside0.mk h
   clear h e2
   go_wp2_with fail
   refine (K2.out _).mono ?_
   rintro e w3 ⟨rfl, hb⟩
   have h := HH.out
   have I3 := Aside0.mk (I2.out.next hb)
   clear HH hb K2 I2 x2_0 x2_1 x2_2 x2_3 x2_4
   have x3_0 := (blk_cell I3.out.2.2 0).trans rfl
   have x3_1 := (blk_cell I3.out.2.2 1).trans rfl
   have x3_2 := (blk_cell I3.out.2.2 2).trans rfl
   have x3_3 := (blk_cell I3.out.2.2 3).trans rfl
   have x3_4 := (blk_cell I3.out.2.2 4).trans rfl
   cases b2
   ·simp only [Bool.false_eq_true, if_false, Option.some.injEq] at h
    subst h
    go_wp2
    go_ret
    exact ⟨rfl, I3.out.1⟩
   ·simp only [if_true] at h
    obtain ⟨b3, e3, h⟩ := Option.bind_eq_some_iff.mp h
    have K3 := Aside0.mk (fun W => plan_isWithin.calls a0_4 0 9 b3 W e3)
    have HH := Aside0.mk h
    clear h e3
    go_wp2_with fail
    refine (K3.out _).mono ?_
    rintro e w4 ⟨rfl, hb⟩
    have h := HH.out
    have I4 := Aside0.mk (I3.out.next hb.below)
    clear HH hb K3 I3 x3_0 x3_1 x3_2 x3_3 x3_4
    have x4_0 := (blk_cell I4.out.2.2 0).trans rfl
    have x4_1 := (blk_cell I4.out.2.2 1).trans rfl
    have x4_2 := (blk_cell I4.out.2.2 2).trans rfl
    have x4_3 := (blk_cell I4.out.2.2 3).trans rfl
    have x4_4 := (blk_cell I4.out.2.2 4).trans rfl
    cases b3
    ·simp only [Bool.false_eq_true, if_false, Option.some.injEq] at h
     subst h
     go_wp2
     go_ret
     exact ⟨rfl, I4.out.1⟩
    ·simp only [if_true, Option.some.injEq] at h
     subst h
     go_wp2
     go_ret
     exact ⟨rfl, I4.out.1⟩
def plan_mask_has.f (a0 : Int) (a1 : Int) : Option (Bool) := if 0 ≤ a1 then (some ((Go.bits .and .u64 (shr .u64 a0 a1) 1) == 1)) else (none)
set_option maxHeartbeats 8000000 in
set_option maxRecDepth 100000 in
theorem plan_mask_has.calls (a0 : Int) (a1 : Int) (r : Bool) (w : World) (h : plan_mask_has.f a0 a1 = some r) :
  Calls Tryz.prog 107 #[.int .u64 a0, .int .i64 a1] w fun e w' => e = .returned (.bool r) ∧ Drawn0 w w' := by
 have H : (if 0 ≤ a1 then (some ((Go.bits .and .u64 (shr .u64 a0 a1) 1) == 1)) else (none)) = some r := h
 clear h
 by_cases c3 : 0 ≤ a1
 ·rw [if_pos c3] at H
  have c3b0 := eq_true c3
  have c3b1 : decide (0 ≤ a1) = true := decide_eq_true c3
  clear c3
  obtain ⟨ji4, hji4⟩ : ∃ j_ : Int, (shr .u64 a0 a1) = j_ := ⟨_, rfl⟩
  replace H : (some ((Go.bits .and .u64 (ji4) 1) == 1)) = some r := by first | (rw [hji4] at H; exact H) | (simp only [hji4] at H ⊢; exact H)
  have hji4_ : (a0 / 2 ^ min a1.toNat 64) = ji4 := hji4
  have hji4z : a1 ≤ 64 → (a0 / 2 ^ a1.toNat) = ji4 := shr_small hji4
  obtain rfl := Option.some.inj H
  go_enter Tryz.func107, Tryz.ntmps107
  go_wp2
  go_ret
  exact ⟨by first | rfl | (simp; done) | (simp only [← hji4] <;> (first | rfl | simp)) | (simp [*]; done), by repeat (first | exact Drawn0.refl _ | apply Drawn0.step)⟩
 ·rw [if_neg c3] at H
  exact absurd H (by simp)
def plan_set.l0 : Nat → Int → List Int → Int → List Int → Int → Int → Option (Int × Int)
 | 0, _, _, _, _, _, _ => none
 | k + 1, x0, x1, x6, x9, x10, x11 => if x11 < x10 then (if 0 ≤ x11 then (if x11 < (x9.length : Int) then ((plan_isWithin.f (rd x9 x11) 0 (wrap64 (x0 - 1))).bind fun t144 => (if t144 = true then (if x11 > 0 then (if 0 ≤ (wrap64 (x11 - 1)) then (if (wrap64 (x11 - 1)) < (x1.length : Int) then (if (rd x1 (wrap64 (x11 - 1))) ≥ (rd x9 x11) then (some (0, 62)) else (if 0 ≤ (rd x9 x11) then (plan_set.l0 k x0 x1 (Go.bits .or .u64 x6 (shl .u64 1 (rd x9 x11))) x9 x10 (wrap64 (x11 + 1))) else (none))) else (none)) else (none)) else (if 0 ≤ (rd x9 x11) then (plan_set.l0 k x0 x1 (Go.bits .or .u64 x6 (shl .u64 1 (rd x9 x11))) x9 x10 (wrap64 (x11 + 1))) else (none))) else (some (0, 62)))) else (none)) else (none)) else (some (x6, 0))
def plan_set.f (k : Nat) (a0 : Int) (l1 : List Int) : Option (Int × Int) := plan_set.l0 k a0 l1 0 l1 (l1.length : Int) 0
set_option maxHeartbeats 8000000 in
set_option maxRecDepth 100000 in
theorem plan_set.calls (k : Nat) (a0 : Int) (A1 : Option Addr) (c1 : Nat) (l1 : List Int) (r1 : Int) (r2 : Int) (w : World) (hr1 : Kd.C (Kd.int .i64) w A1 l1.length l1) (hc1 : l1.length ≤ c1) (h : plan_set.f k a0 l1 = some (r1, r2)) :
  Calls Tryz.prog 51 #[.int .i64 a0, .slice A1 l1.length c1] w fun e w' => e = .returned (.tuple #[.int .u64 r1, .int .i64 r2]) ∧ Drawn0 w w' := by
 have HR1 := Aside0.mk hr1
 have HC1 := Aside0.mk hc1
 clear hr1 hc1
 have H : (plan_set.l0 k a0 l1 0 l1 (l1.length : Int) 0) = some (r1, r2) := h
 clear h
 have H' := Aside0.mk H
 clear H
 go_enter Tryz.func51, Tryz.ntmps51
 go_wp2
 go_loopg [6, 11] k (fun kq v6 v11 w' => ∃ (x6_1 : Int) (x11_1 : Int), v6 = .int .u64 x6_1 ∧ v11 = .int .i64 x11_1 ∧ Aside0 (plan_set.l0 kq a0 l1 x6_1 l1 (l1.length : Int) x11_1 = some (r1, r2)) ∧ Aside0 (kq ≤ k) ∧ Drawn0 w w')
 case atStart => exact ⟨(0), (0), (by first | rfl | (simp; done) | (simp [*]; done)), (by first | rfl | (simp; done) | (simp [*]; done)), H', ⟨Nat.le_refl _⟩, by repeat (first | exact Drawn0.refl _ | apply Drawn0.step)⟩
 case round =>
  clear H'
  try clear c1
  try clear p2
  obtain ⟨x6_1, x11_1, rfl, rfl, HA, HK1, ⟨m1, rfl⟩⟩ := hrel
  cases gk with
  | zero => exact absurd HA.out (by simp [plan_set.l0])
  | succ k1 =>
   have H := HA.out
   clear HA
   simp only [plan_set.l0] at H
   by_cases c3 : x11_1 < (l1.length : Int)
   ·rw [if_pos c3] at H
    have c3b0 : decide (x11_1 < (l1.length : Int)) = true := decide_eq_true c3
    clear c3
    by_cases c4 : 0 ≤ x11_1
    ·rw [if_pos c4] at H
     have c4b0 : decide (0 ≤ x11_1) = true := decide_eq_true c4
     clear c4
     by_cases c5 : x11_1 < (l1.length : Int)
     ·rw [if_pos c5] at H
      have c5b0 : decide (x11_1 < (l1.length : Int)) = true := decide_eq_true c5
      clear c5
      replace H := Option.bind_eq_some_iff.mp H
      obtain ⟨t144, A60, H⟩ := H
      (try dsimp only at H)
      have A6 := Aside0.mk A60
      clear A60
      by_cases c7 : t144 = true
      ·subst c7
       rw [if_pos rfl] at H
       by_cases c8 : x11_1 > 0
       ·rw [if_pos c8] at H
        have c8b0 : decide (0 < x11_1) = true := decide_eq_true c8
        clear c8
        obtain ⟨ji9, hji9⟩ : ∃ j_ : Int, (wrap64 (x11_1 - 1)) = j_ := ⟨_, rfl⟩
        replace H : (if 0 ≤ (ji9) then (if (ji9) < (l1.length : Int) then (if (rd l1 (ji9)) ≥ (rd l1 x11_1) then (some (0, 62)) else (if 0 ≤ (rd l1 x11_1) then (plan_set.l0 k1 a0 l1 (Go.bits .or .u64 x6_1 (shl .u64 1 (rd l1 x11_1))) l1 (l1.length : Int) (wrap64 (x11_1 + 1))) else (none))) else (none)) else (none)) = some (r1, r2) := by first | (rw [hji9] at H; exact H) | (simp only [hji9] at H ⊢; exact H)
        (try rw [hji9] at A6)
        have hji9w : (IntKind.i64.wrap (x11_1 - 1)) = ji9 := (i64_w _).trans hji9
        by_cases c10 : 0 ≤ (ji9)
        ·rw [if_pos c10] at H
         have c10b0 : decide (0 ≤ (ji9)) = true := decide_eq_true c10
         clear c10
         by_cases c11 : (ji9) < (l1.length : Int)
         ·rw [if_pos c11] at H
          have c11b0 : decide ((ji9) < (l1.length : Int)) = true := decide_eq_true c11
          clear c11
          by_cases c12 : (rd l1 (ji9)) ≥ (rd l1 x11_1)
          ·rw [if_pos c12] at H
           have c12b0 : decide ((rd l1 x11_1) ≤ (rd l1 (ji9))) = true := decide_eq_true c12
           clear c12
           simp only [Option.some.injEq, Prod.mk.injEq] at H
           obtain ⟨rfl, rfl⟩ := H
           have p143 : 0 ≤ (x11_1 : Int) := of_decide_eq_true (by first | (with_reducible assumption) | assumption)
           have q143 : x11_1 < (l1.length : Int) := of_decide_eq_true (by first | (with_reducible assumption) | assumption)
           obtain ⟨ad143, e143, hx143_0⟩ := Kd.at_int HR1.out x11_1 p143 q143
           cases e143
           replace p143 := eq_true p143
           replace q143 := eq_true q143
           go_wp2_with (first | ((with_reducible refine gate_callee (f := 43) rfl ?_); refine goesL_ (some 19) rfl rfl Tryz.func43 (by kernel_rfl) rfl #[.int .i64 (rd l1 x11_1), .int .i64 0, .int .i64 (wrap64 (a0 - 1))] rfl (by (try simp only [List.map_toArray, List.map_cons, List.map_nil]); first | done | rfl | (simp only [List.length_drop, List.length_take]; rfl)) ?_; (with_reducible refine (plan_isWithin.calls (rd l1 x11_1) 0 (wrap64 (a0 - 1)) true _ A6.out).mono ?_); rintro e w' ⟨rfl, ⟨nd, rfl⟩⟩; refine ⟨_, rfl, ?_⟩; have p145 : 0 ≤ ((ji9) : Int) := of_decide_eq_true (by first | (with_reducible assumption) | assumption); have q145 : (ji9) < (l1.length : Int) := of_decide_eq_true (by first | (with_reducible assumption) | assumption); obtain ⟨ad145, e145, hx145_0⟩ := Kd.at_int HR1.out (ji9) p145 q145; obtain rfl : ad143 = ad145 := (by injection e145); replace p145 := eq_true p145; replace q145 := eq_true q145))
           go_ret2
           exact ⟨by first | rfl | (simp; done) | (simp only [← hji9] <;> (first | rfl | simp)) | (simp [*]; done), by repeat (first | exact Drawn0.refl _ | apply Drawn0.step)⟩
          ·rw [if_neg c12] at H
           have c12b0 : decide ((rd l1 x11_1) ≤ (rd l1 (ji9))) = false := decide_eq_false c12
           clear c12
           by_cases c13 : 0 ≤ (rd l1 x11_1)
           ·rw [if_pos c13] at H
            have c13b0 := eq_true c13
            have c13b1 : decide (0 ≤ (rd l1 x11_1)) = true := decide_eq_true c13
            clear c13
            obtain ⟨ji14, hji14⟩ : ∃ j_ : Int, (shl .u64 1 (rd l1 x11_1)) = j_ := ⟨_, rfl⟩
            replace H : (plan_set.l0 k1 a0 l1 (Go.bits .or .u64 x6_1 (ji14)) l1 (l1.length : Int) (wrap64 (x11_1 + 1))) = some (r1, r2) := by first | (rw [hji14] at H; exact H) | (simp only [hji14] at H ⊢; exact H)
            (try rw [hji14] at A6)
            have hji14_ : (IntKind.u64.wrap (1 * 2 ^ min (rd l1 x11_1).toNat 64)) = ji14 := hji14
            have hji14z : (rd l1 x11_1) ≤ 64 → (IntKind.u64.wrap (1 * 2 ^ (rd l1 x11_1).toNat)) = ji14 := shl_small hji14
            have hji14u : (IntKind.u64.wrap (2 ^ min (rd l1 x11_1).toNat 64)) = ji14 := by have h_ := hji14_; rw [Int.one_mul] at h_; exact h_
            have hji14v : (rd l1 x11_1) ≤ 64 → (IntKind.u64.wrap (2 ^ (rd l1 x11_1).toNat)) = ji14 := fun hle_ => by have h_ := hji14z hle_; rw [Int.one_mul] at h_; exact h_
            have H' := Aside0.mk H
            clear H
            have p143 : 0 ≤ (x11_1 : Int) := of_decide_eq_true (by first | (with_reducible assumption) | assumption)
            have q143 : x11_1 < (l1.length : Int) := of_decide_eq_true (by first | (with_reducible assumption) | assumption)
            obtain ⟨ad143, e143, hx143_0⟩ := Kd.at_int HR1.out x11_1 p143 q143
            cases e143
            replace p143 := eq_true p143
            replace q143 := eq_true q143
            go_wp2_with (first | ((with_reducible refine gate_callee (f := 43) rfl ?_); refine goesL_ (some 19) rfl rfl Tryz.func43 (by kernel_rfl) rfl #[.int .i64 (rd l1 x11_1), .int .i64 0, .int .i64 (wrap64 (a0 - 1))] rfl (by (try simp only [List.map_toArray, List.map_cons, List.map_nil]); first | done | rfl | (simp only [List.length_drop, List.length_take]; rfl)) ?_; (with_reducible refine (plan_isWithin.calls (rd l1 x11_1) 0 (wrap64 (a0 - 1)) true _ A6.out).mono ?_); rintro e w' ⟨rfl, ⟨nd, rfl⟩⟩; refine ⟨_, rfl, ?_⟩; have p145 : 0 ≤ ((ji9) : Int) := of_decide_eq_true (by first | (with_reducible assumption) | assumption); have q145 : (ji9) < (l1.length : Int) := of_decide_eq_true (by first | (with_reducible assumption) | assumption); obtain ⟨ad145, e145, hx145_0⟩ := Kd.at_int HR1.out (ji9) p145 q145; obtain rfl : ad143 = ad145 := (by injection e145); replace p145 := eq_true p145; replace q145 := eq_true q145))
            go_roundg k1
            case measure => have := HK1.out; omega
            case rel => exact ⟨(Go.bits .or .u64 x6_1 (ji14)), (wrap64 (x11_1 + 1)), (by first | rfl | (simp; done) | (simp only [← hji14] <;> (first | rfl | simp)) | (simp [*]; done)), (by first | rfl | (simp; done) | (simp [*]; done)), H', ⟨by have := HK1.out; omega⟩, by repeat (first | exact Drawn0.refl _ | apply Drawn0.step)⟩
           ·rw [if_neg c13] at H
            exact absurd H (by simp)
         ·rw [if_neg c11] at H
          exact absurd H (by simp)
        ·rw [if_neg c10] at H
         exact absurd H (by simp)
       ·rw [if_neg c8] at H
        have c8b0 : decide (0 < x11_1) = false := decide_eq_false c8
        clear c8
        by_cases c15 : 0 ≤ (rd l1 x11_1)
        ·rw [if_pos c15] at H
         have c15b0 := eq_true c15
         have c15b1 : decide (0 ≤ (rd l1 x11_1)) = true := decide_eq_true c15
         clear c15
         obtain ⟨ji16, hji16⟩ : ∃ j_ : Int, (shl .u64 1 (rd l1 x11_1)) = j_ := ⟨_, rfl⟩
         replace H : (plan_set.l0 k1 a0 l1 (Go.bits .or .u64 x6_1 (ji16)) l1 (l1.length : Int) (wrap64 (x11_1 + 1))) = some (r1, r2) := by first | (rw [hji16] at H; exact H) | (simp only [hji16] at H ⊢; exact H)
         (try rw [hji16] at A6)
         have hji16_ : (IntKind.u64.wrap (1 * 2 ^ min (rd l1 x11_1).toNat 64)) = ji16 := hji16
         have hji16z : (rd l1 x11_1) ≤ 64 → (IntKind.u64.wrap (1 * 2 ^ (rd l1 x11_1).toNat)) = ji16 := shl_small hji16
         have hji16u : (IntKind.u64.wrap (2 ^ min (rd l1 x11_1).toNat 64)) = ji16 := by have h_ := hji16_; rw [Int.one_mul] at h_; exact h_
         have hji16v : (rd l1 x11_1) ≤ 64 → (IntKind.u64.wrap (2 ^ (rd l1 x11_1).toNat)) = ji16 := fun hle_ => by have h_ := hji16z hle_; rw [Int.one_mul] at h_; exact h_
         have H' := Aside0.mk H
         clear H
         have p143 : 0 ≤ (x11_1 : Int) := of_decide_eq_true (by first | (with_reducible assumption) | assumption)
         have q143 : x11_1 < (l1.length : Int) := of_decide_eq_true (by first | (with_reducible assumption) | assumption)
         obtain ⟨ad143, e143, hx143_0⟩ := Kd.at_int HR1.out x11_1 p143 q143
         cases e143
         replace p143 := eq_true p143
         replace q143 := eq_true q143
         go_wp2_with (first | ((with_reducible refine gate_callee (f := 43) rfl ?_); refine goesL_ (some 19) rfl rfl Tryz.func43 (by kernel_rfl) rfl #[.int .i64 (rd l1 x11_1), .int .i64 0, .int .i64 (wrap64 (a0 - 1))] rfl (by (try simp only [List.map_toArray, List.map_cons, List.map_nil]); first | done | rfl | (simp only [List.length_drop, List.length_take]; rfl)) ?_; (with_reducible refine (plan_isWithin.calls (rd l1 x11_1) 0 (wrap64 (a0 - 1)) true _ A6.out).mono ?_); rintro e w' ⟨rfl, ⟨nd, rfl⟩⟩; refine ⟨_, rfl, ?_⟩))
         go_roundg k1
         case measure => have := HK1.out; omega
         case rel => exact ⟨(Go.bits .or .u64 x6_1 (ji16)), (wrap64 (x11_1 + 1)), (by first | rfl | (simp; done) | (simp only [← hji16] <;> (first | rfl | simp)) | (simp [*]; done)), (by first | rfl | (simp; done) | (simp [*]; done)), H', ⟨by have := HK1.out; omega⟩, by repeat (first | exact Drawn0.refl _ | apply Drawn0.step)⟩
        ·rw [if_neg c15] at H
         exact absurd H (by simp)
      ·replace c7 := Bool.eq_false_iff.mpr c7
       subst c7
       rw [if_neg (show ¬ (false = true) by decide)] at H
       simp only [Option.some.injEq, Prod.mk.injEq] at H
       obtain ⟨rfl, rfl⟩ := H
       have p143 : 0 ≤ (x11_1 : Int) := of_decide_eq_true (by first | (with_reducible assumption) | assumption)
       have q143 : x11_1 < (l1.length : Int) := of_decide_eq_true (by first | (with_reducible assumption) | assumption)
       obtain ⟨ad143, e143, hx143_0⟩ := Kd.at_int HR1.out x11_1 p143 q143
       cases e143
       replace p143 := eq_true p143
       replace q143 := eq_true q143
       go_wp2_with (first | ((with_reducible refine gate_callee (f := 43) rfl ?_); refine goesL_ (some 19) rfl rfl Tryz.func43 (by kernel_rfl) rfl #[.int .i64 (rd l1 x11_1), .int .i64 0, .int .i64 (wrap64 (a0 - 1))] rfl (by (try simp only [List.map_toArray, List.map_cons, List.map_nil]); first | done | rfl | (simp only [List.length_drop, List.length_take]; rfl)) ?_; (with_reducible refine (plan_isWithin.calls (rd l1 x11_1) 0 (wrap64 (a0 - 1)) false _ A6.out).mono ?_); rintro e w' ⟨rfl, ⟨nd, rfl⟩⟩; refine ⟨_, rfl, ?_⟩))
       go_ret2
       exact ⟨by first | rfl | (simp; done) | (simp [*]; done), by repeat (first | exact Drawn0.refl _ | apply Drawn0.step)⟩
     ·rw [if_neg c5] at H
      exact absurd H (by simp)
    ·rw [if_neg c4] at H
     exact absurd H (by simp)
   ·rw [if_neg c3] at H
    have c3b0 : decide (x11_1 < (l1.length : Int)) = false := decide_eq_false c3
    clear c3
    simp only [Option.some.injEq, Prod.mk.injEq] at H
    obtain ⟨rfl, rfl⟩ := H
    go_wp2
    go_ret2
    exact ⟨by first | rfl | (simp; done) | (simp [*]; done), by repeat (first | exact Drawn0.refl _ | apply Drawn0.step)⟩
def potbanklaw06_kiln.f  : Option ((List (S70))) := some (([(⟨(⟨1000, 1050⟩ : S68), 5, 10⟩ : S70), (⟨(⟨1040, 1100⟩ : S68), 5, 6⟩ : S70), (⟨(⟨1000, 1020⟩ : S68), 1, 20⟩ : S70)] : List (S70)))
set_option maxHeartbeats 8000000 in
set_option maxRecDepth 100000 in
theorem potbanklaw06_kiln.calls  (r : List (S70)) (w : World) (h : potbanklaw06_kiln.f  = some r) :
  Calls Tryz.prog 36 #[] w fun e w' => ∃ v0_ : Value, e = .returned (v0_) ∧ Kd.R k70 70 w' w.heap.size (fun _ => True) v0_ r ∧ Below w.heap.size w w' := by
 have hu68 := Tryz.underlying68
 have hu70 := Tryz.underlying70
 have HB := Aside0.mk (Below.refl w.heap.size w)
 have H : (some (([(⟨(⟨1000, 1050⟩ : S68), 5, 10⟩ : S70), (⟨(⟨1040, 1100⟩ : S68), 5, 6⟩ : S70), (⟨(⟨1000, 1020⟩ : S68), 1, 20⟩ : S70)] : List (S70)))) = some r := h
 clear h
 obtain ⟨y146, hy146⟩ : ∃ y_ : List (S70), y_ = (([(⟨(⟨1000, 1050⟩ : S68), 5, 10⟩ : S70), (⟨(⟨1040, 1100⟩ : S68), 5, 6⟩ : S70), (⟨(⟨1000, 1020⟩ : S68), 1, 20⟩ : S70)] : List (S70))) := ⟨_, rfl⟩
 replace H : (some y146) = some r := by first | (rw [hy146]; with_reducible exact H) | (have H2_ := (Option.bind_some _ _).symm.trans H; rw [hy146]; with_reducible exact H2_) | (have H2_ := (Option.bind_some _ _).symm.trans H; with_reducible exact H2_) | with_reducible exact H | (rw [hy146]; exact H) | exact H
 have Ny146 := Aside0.mk hy146
 clear hy146
 obtain rfl := Option.some.inj H
 go_enter Tryz.func36, Tryz.ntmps36
 go_wp2_with (first | ((with_reducible refine gate_dst (N := 7) rfl ?_); refine Kd.R_lit k70 _ 70 ?hg (N := 7) ?hd (xs := ([(⟨(⟨1000, 1050⟩ : S68), 5, 10⟩ : S70), (⟨(⟨1040, 1100⟩ : S68), 5, 6⟩ : S70), (⟨(⟨1000, 1020⟩ : S68), 1, 20⟩ : S70)] : List (S70))) (inner := [.int .i64 1000, .int .i64 1050, .int .i64 5, .int .i64 10, .int .i64 1040, .int .i64 1100, .int .i64 5, .int .i64 6, .int .i64 1000, .int .i64 1020, .int .i64 1, .int .i64 20]) (ok := fun _ => True) (okp := fun _ => True) ?hr ?hp (fun _ hk => hk) trivial (Below.refl _ _) (Nat.le_refl _) (by simp) ?_; (case hd => rfl); (case hg => rfl); (case hr => first | (go_simp; done) | (go_simp; rfl)); (case hp => exact (Reps.c4 (show Kd.M k70 _ _ _ (⟨(⟨1000, 1050⟩ : S68), 5, 10⟩ : S70) [.int .i64 1000, .int .i64 1050, .int .i64 5, .int .i64 10] from (k70_mkM _ _ _ (⟨(⟨1000, 1050⟩ : S68), 5, 10⟩ : S70) )) (Reps.c4 (show Kd.M k70 _ _ _ (⟨(⟨1040, 1100⟩ : S68), 5, 6⟩ : S70) [.int .i64 1040, .int .i64 1100, .int .i64 5, .int .i64 6] from (k70_mkM _ _ _ (⟨(⟨1040, 1100⟩ : S68), 5, 6⟩ : S70) )) (Reps.c4 (show Kd.M k70 _ _ _ (⟨(⟨1000, 1020⟩ : S68), 1, 20⟩ : S70) [.int .i64 1000, .int .i64 1020, .int .i64 1, .int .i64 20] from (k70_mkM _ _ _ (⟨(⟨1000, 1020⟩ : S68), 1, 20⟩ : S70) )) (Reps.none _ _))))); intro v147 w1 ho2 hb hg_ hnew_; clear hg_ hnew_; (first | rw [← Ny146.out] at ho2 | (simp only [Int.reduceToNat] at ho2; rw [← Ny146.out] at ho2)); have n0_ := Aside0.mk (Kd.R_lower ho2 (below_size (by repeat (first | exact HB.out | apply below_alloc | apply pw_below_drewN | apply below_drew1)))); have n1_ := Aside0.mk (below_step (by repeat (first | exact HB.out | apply below_alloc | apply pw_below_drewN | apply below_drew1)) hb); clear HB; have HO148 := n0_; have HB := n1_; clear n0_ n1_; clear hb ho2))
 go_ret
 exact ⟨_, by first | rfl | (simp [errW_none, errW_some] <;> rfl) | (simp [*, errW_none, errW_some] <;> rfl), by (with_reducible repeat (first | apply Kd.R_alloc | apply Kd.R_drewN | apply Kd.R_drew)); exact HO148.out, by repeat (first | exact HB.out | apply below_alloc | apply pw_below_drewN | apply below_drew1)⟩
def potbanklaw06_orders.f  : Option ((List (S72))) := some (([(⟨1, 8, (⟨990, 1060⟩ : S68), 3⟩ : S72), (⟨2, 12, (⟨1000, 1120⟩ : S68), 4⟩ : S72), (⟨3, 5, (⟨1000, 1050⟩ : S68), 5⟩ : S72), (⟨4, 20, (⟨900, 1100⟩ : S68), 0⟩ : S72)] : List (S72)))
set_option maxHeartbeats 8000000 in
set_option maxRecDepth 100000 in
theorem potbanklaw06_orders.calls  (r : List (S72)) (w : World) (h : potbanklaw06_orders.f  = some r) :
  Calls Tryz.prog 37 #[] w fun e w' => ∃ v0_ : Value, e = .returned (v0_) ∧ Kd.R k72 72 w' w.heap.size (fun _ => True) v0_ r ∧ Below w.heap.size w w' := by
 have hu68 := Tryz.underlying68
 have hu72 := Tryz.underlying72
 have HB := Aside0.mk (Below.refl w.heap.size w)
 have H : (some (([(⟨1, 8, (⟨990, 1060⟩ : S68), 3⟩ : S72), (⟨2, 12, (⟨1000, 1120⟩ : S68), 4⟩ : S72), (⟨3, 5, (⟨1000, 1050⟩ : S68), 5⟩ : S72), (⟨4, 20, (⟨900, 1100⟩ : S68), 0⟩ : S72)] : List (S72)))) = some r := h
 clear h
 obtain ⟨y149, hy149⟩ : ∃ y_ : List (S72), y_ = (([(⟨1, 8, (⟨990, 1060⟩ : S68), 3⟩ : S72), (⟨2, 12, (⟨1000, 1120⟩ : S68), 4⟩ : S72), (⟨3, 5, (⟨1000, 1050⟩ : S68), 5⟩ : S72), (⟨4, 20, (⟨900, 1100⟩ : S68), 0⟩ : S72)] : List (S72))) := ⟨_, rfl⟩
 replace H : (some y149) = some r := by first | (rw [hy149]; with_reducible exact H) | (have H2_ := (Option.bind_some _ _).symm.trans H; rw [hy149]; with_reducible exact H2_) | (have H2_ := (Option.bind_some _ _).symm.trans H; with_reducible exact H2_) | with_reducible exact H | (rw [hy149]; exact H) | exact H
 have Ny149 := Aside0.mk hy149
 clear hy149
 obtain rfl := Option.some.inj H
 go_enter Tryz.func37, Tryz.ntmps37
 go_wp2_with (first | ((with_reducible refine gate_dst (N := 9) rfl ?_); refine Kd.R_lit k72 _ 72 ?hg (N := 9) ?hd (xs := ([(⟨1, 8, (⟨990, 1060⟩ : S68), 3⟩ : S72), (⟨2, 12, (⟨1000, 1120⟩ : S68), 4⟩ : S72), (⟨3, 5, (⟨1000, 1050⟩ : S68), 5⟩ : S72), (⟨4, 20, (⟨900, 1100⟩ : S68), 0⟩ : S72)] : List (S72))) (inner := [.int .i64 1, .int .i64 8, .int .i64 990, .int .i64 1060, .int .i64 3, .int .i64 2, .int .i64 12, .int .i64 1000, .int .i64 1120, .int .i64 4, .int .i64 3, .int .i64 5, .int .i64 1000, .int .i64 1050, .int .i64 5, .int .i64 4, .int .i64 20, .int .i64 900, .int .i64 1100, .int .i64 0]) (ok := fun _ => True) (okp := fun _ => True) ?hr ?hp (fun _ hk => hk) trivial (Below.refl _ _) (Nat.le_refl _) (by simp) ?_; (case hd => rfl); (case hg => rfl); (case hr => first | (go_simp; done) | (go_simp; rfl)); (case hp => exact (Reps.c5 (show Kd.M k72 _ _ _ (⟨1, 8, (⟨990, 1060⟩ : S68), 3⟩ : S72) [.int .i64 1, .int .i64 8, .int .i64 990, .int .i64 1060, .int .i64 3] from (k72_mkM _ _ _ (⟨1, 8, (⟨990, 1060⟩ : S68), 3⟩ : S72) )) (Reps.c5 (show Kd.M k72 _ _ _ (⟨2, 12, (⟨1000, 1120⟩ : S68), 4⟩ : S72) [.int .i64 2, .int .i64 12, .int .i64 1000, .int .i64 1120, .int .i64 4] from (k72_mkM _ _ _ (⟨2, 12, (⟨1000, 1120⟩ : S68), 4⟩ : S72) )) (Reps.c5 (show Kd.M k72 _ _ _ (⟨3, 5, (⟨1000, 1050⟩ : S68), 5⟩ : S72) [.int .i64 3, .int .i64 5, .int .i64 1000, .int .i64 1050, .int .i64 5] from (k72_mkM _ _ _ (⟨3, 5, (⟨1000, 1050⟩ : S68), 5⟩ : S72) )) (Reps.c5 (show Kd.M k72 _ _ _ (⟨4, 20, (⟨900, 1100⟩ : S68), 0⟩ : S72) [.int .i64 4, .int .i64 20, .int .i64 900, .int .i64 1100, .int .i64 0] from (k72_mkM _ _ _ (⟨4, 20, (⟨900, 1100⟩ : S68), 0⟩ : S72) )) (Reps.none _ _)))))); intro v150 w1 ho2 hb hg_ hnew_; clear hg_ hnew_; (first | rw [← Ny149.out] at ho2 | (simp only [Int.reduceToNat] at ho2; rw [← Ny149.out] at ho2)); have n0_ := Aside0.mk (Kd.R_lower ho2 (below_size (by repeat (first | exact HB.out | apply below_alloc | apply pw_below_drewN | apply below_drew1)))); have n1_ := Aside0.mk (below_step (by repeat (first | exact HB.out | apply below_alloc | apply pw_below_drewN | apply below_drew1)) hb); clear HB; have HO151 := n0_; have HB := n1_; clear n0_ n1_; clear hb ho2))
 go_ret
 exact ⟨_, by first | rfl | (simp [errW_none, errW_some] <;> rfl) | (simp [*, errW_none, errW_some] <;> rfl), by (with_reducible repeat (first | apply Kd.R_alloc | apply Kd.R_drewN | apply Kd.R_drew)); exact HO151.out, by repeat (first | exact HB.out | apply below_alloc | apply pw_below_drewN | apply below_drew1)⟩
def cmp_isNaN_int.f (a0 : Int) : Option (Bool) := some (a0 != a0)
set_option maxHeartbeats 8000000 in
set_option maxRecDepth 100000 in
theorem cmp_isNaN_int.calls (a0 : Int) (r : Bool) (w : World) (h : cmp_isNaN_int.f a0 = some r) :
  Calls Tryz.prog 133 #[.int .i64 a0] w fun e w' => e = .returned (.bool r) ∧ Drawn0 w w' := by
 have H : (some (a0 != a0)) = some r := h
 clear h
 obtain rfl := Option.some.inj H
 go_enter Tryz.func133, Tryz.ntmps133
 go_wp2
 go_ret
 exact ⟨by first | rfl | (simp; done) | (simp [*]; done), by repeat (first | exact Drawn0.refl _ | apply Drawn0.step)⟩
def cmp_Compare_int.f (a0 : Int) (a1 : Int) : Option (Int) := (cmp_isNaN_int.f a0).bind fun t152 => ((cmp_isNaN_int.f a1).bind fun t153 => (if t152 = true then (if t153 = true then (some 0) else (some (-1))) else (if t153 = true then (some 1) else (if a0 < a1 then (some (-1)) else (if a0 > a1 then (some 1) else (some 0))))))
set_option maxHeartbeats 8000000 in
set_option maxRecDepth 100000 in
theorem cmp_Compare_int.calls (a0 : Int) (a1 : Int) (r : Int) (w : World) (h : cmp_Compare_int.f a0 a1 = some r) :
  Calls Tryz.prog 119 #[.int .i64 a0, .int .i64 a1] w fun e w' => e = .returned (.int .i64 r) ∧ Drawn0 w w' := by
 have H : ((cmp_isNaN_int.f a0).bind fun t152 => ((cmp_isNaN_int.f a1).bind fun t153 => (if t152 = true then (if t153 = true then (some 0) else (some (-1))) else (if t153 = true then (some 1) else (if a0 < a1 then (some (-1)) else (if a0 > a1 then (some 1) else (some 0))))))) = some r := h
 clear h
 replace H := Option.bind_eq_some_iff.mp H
 obtain ⟨t152, A30, H⟩ := H
 (try dsimp only at H)
 have A3 := Aside0.mk A30
 clear A30
 replace H := Option.bind_eq_some_iff.mp H
 obtain ⟨t153, A40, H⟩ := H
 (try dsimp only at H)
 have A4 := Aside0.mk A40
 clear A40
 by_cases c5 : t152 = true
 ·subst c5
  rw [if_pos rfl] at H
  by_cases c6 : t153 = true
  ·subst c6
   rw [if_pos rfl] at H
   obtain rfl := Option.some.inj H
   go_enter Tryz.func119, Tryz.ntmps119
   go_wp2_with (first | ((with_reducible refine gate_callee (f := 133) rfl ?_); refine goesL_ (some 8) rfl rfl Tryz.func133 (by kernel_rfl) rfl #[.int .i64 a0] rfl (by (try simp only [List.map_toArray, List.map_cons, List.map_nil]); first | done | rfl | (simp only [List.length_drop, List.length_take]; rfl)) ?_; (with_reducible refine (cmp_isNaN_int.calls a0 true _ A3.out).mono ?_); rintro e w' ⟨rfl, ⟨nd, rfl⟩⟩; refine ⟨_, rfl, ?_⟩) | ((with_reducible refine gate_callee (f := 133) rfl ?_); refine goesL_ (some 10) rfl rfl Tryz.func133 (by kernel_rfl) rfl #[.int .i64 a1] rfl (by (try simp only [List.map_toArray, List.map_cons, List.map_nil]); first | done | rfl | (simp only [List.length_drop, List.length_take]; rfl)) ?_; (with_reducible refine (cmp_isNaN_int.calls a1 true _ A4.out).mono ?_); rintro e w' ⟨rfl, ⟨nd, rfl⟩⟩; refine ⟨_, rfl, ?_⟩))
   go_ret
   exact ⟨by first | rfl | (simp; done) | (simp [*]; done), by repeat (first | exact Drawn0.refl _ | apply Drawn0.step)⟩
  ·replace c6 := Bool.eq_false_iff.mpr c6
   subst c6
   rw [if_neg (show ¬ (false = true) by decide)] at H
   obtain rfl := Option.some.inj H
   go_enter Tryz.func119, Tryz.ntmps119
   go_wp2_with (first | ((with_reducible refine gate_callee (f := 133) rfl ?_); refine goesL_ (some 8) rfl rfl Tryz.func133 (by kernel_rfl) rfl #[.int .i64 a0] rfl (by (try simp only [List.map_toArray, List.map_cons, List.map_nil]); first | done | rfl | (simp only [List.length_drop, List.length_take]; rfl)) ?_; (with_reducible refine (cmp_isNaN_int.calls a0 true _ A3.out).mono ?_); rintro e w' ⟨rfl, ⟨nd, rfl⟩⟩; refine ⟨_, rfl, ?_⟩) | ((with_reducible refine gate_callee (f := 133) rfl ?_); refine goesL_ (some 10) rfl rfl Tryz.func133 (by kernel_rfl) rfl #[.int .i64 a1] rfl (by (try simp only [List.map_toArray, List.map_cons, List.map_nil]); first | done | rfl | (simp only [List.length_drop, List.length_take]; rfl)) ?_; (with_reducible refine (cmp_isNaN_int.calls a1 false _ A4.out).mono ?_); rintro e w' ⟨rfl, ⟨nd, rfl⟩⟩; refine ⟨_, rfl, ?_⟩))
   go_ret
   exact ⟨by first | rfl | (simp; done) | (simp [*]; done), by repeat (first | exact Drawn0.refl _ | apply Drawn0.step)⟩
 ·replace c5 := Bool.eq_false_iff.mpr c5
  subst c5
  rw [if_neg (show ¬ (false = true) by decide)] at H
  by_cases c7 : t153 = true
  ·subst c7
   rw [if_pos rfl] at H
   obtain rfl := Option.some.inj H
   go_enter Tryz.func119, Tryz.ntmps119
   go_wp2_with (first | ((with_reducible refine gate_callee (f := 133) rfl ?_); refine goesL_ (some 8) rfl rfl Tryz.func133 (by kernel_rfl) rfl #[.int .i64 a0] rfl (by (try simp only [List.map_toArray, List.map_cons, List.map_nil]); first | done | rfl | (simp only [List.length_drop, List.length_take]; rfl)) ?_; (with_reducible refine (cmp_isNaN_int.calls a0 false _ A3.out).mono ?_); rintro e w' ⟨rfl, ⟨nd, rfl⟩⟩; refine ⟨_, rfl, ?_⟩) | ((with_reducible refine gate_callee (f := 133) rfl ?_); refine goesL_ (some 10) rfl rfl Tryz.func133 (by kernel_rfl) rfl #[.int .i64 a1] rfl (by (try simp only [List.map_toArray, List.map_cons, List.map_nil]); first | done | rfl | (simp only [List.length_drop, List.length_take]; rfl)) ?_; (with_reducible refine (cmp_isNaN_int.calls a1 true _ A4.out).mono ?_); rintro e w' ⟨rfl, ⟨nd, rfl⟩⟩; refine ⟨_, rfl, ?_⟩))
   go_ret
   exact ⟨by first | rfl | (simp; done) | (simp [*]; done), by repeat (first | exact Drawn0.refl _ | apply Drawn0.step)⟩
  ·replace c7 := Bool.eq_false_iff.mpr c7
   subst c7
   rw [if_neg (show ¬ (false = true) by decide)] at H
   by_cases c8 : a0 < a1
   ·rw [if_pos c8] at H
    have c8b0 : decide (a0 < a1) = true := decide_eq_true c8
    clear c8
    obtain rfl := Option.some.inj H
    go_enter Tryz.func119, Tryz.ntmps119
    go_wp2_with (first | ((with_reducible refine gate_callee (f := 133) rfl ?_); refine goesL_ (some 8) rfl rfl Tryz.func133 (by kernel_rfl) rfl #[.int .i64 a0] rfl (by (try simp only [List.map_toArray, List.map_cons, List.map_nil]); first | done | rfl | (simp only [List.length_drop, List.length_take]; rfl)) ?_; (with_reducible refine (cmp_isNaN_int.calls a0 false _ A3.out).mono ?_); rintro e w' ⟨rfl, ⟨nd, rfl⟩⟩; refine ⟨_, rfl, ?_⟩) | ((with_reducible refine gate_callee (f := 133) rfl ?_); refine goesL_ (some 10) rfl rfl Tryz.func133 (by kernel_rfl) rfl #[.int .i64 a1] rfl (by (try simp only [List.map_toArray, List.map_cons, List.map_nil]); first | done | rfl | (simp only [List.length_drop, List.length_take]; rfl)) ?_; (with_reducible refine (cmp_isNaN_int.calls a1 false _ A4.out).mono ?_); rintro e w' ⟨rfl, ⟨nd, rfl⟩⟩; refine ⟨_, rfl, ?_⟩))
    go_ret
    exact ⟨by first | rfl | (simp; done) | (simp [*]; done), by repeat (first | exact Drawn0.refl _ | apply Drawn0.step)⟩
   ·rw [if_neg c8] at H
    have c8b0 : decide (a0 < a1) = false := decide_eq_false c8
    clear c8
    by_cases c9 : a0 > a1
    ·rw [if_pos c9] at H
     have c9b0 : decide (a1 < a0) = true := decide_eq_true c9
     clear c9
     obtain rfl := Option.some.inj H
     go_enter Tryz.func119, Tryz.ntmps119
     go_wp2_with (first | ((with_reducible refine gate_callee (f := 133) rfl ?_); refine goesL_ (some 8) rfl rfl Tryz.func133 (by kernel_rfl) rfl #[.int .i64 a0] rfl (by (try simp only [List.map_toArray, List.map_cons, List.map_nil]); first | done | rfl | (simp only [List.length_drop, List.length_take]; rfl)) ?_; (with_reducible refine (cmp_isNaN_int.calls a0 false _ A3.out).mono ?_); rintro e w' ⟨rfl, ⟨nd, rfl⟩⟩; refine ⟨_, rfl, ?_⟩) | ((with_reducible refine gate_callee (f := 133) rfl ?_); refine goesL_ (some 10) rfl rfl Tryz.func133 (by kernel_rfl) rfl #[.int .i64 a1] rfl (by (try simp only [List.map_toArray, List.map_cons, List.map_nil]); first | done | rfl | (simp only [List.length_drop, List.length_take]; rfl)) ?_; (with_reducible refine (cmp_isNaN_int.calls a1 false _ A4.out).mono ?_); rintro e w' ⟨rfl, ⟨nd, rfl⟩⟩; refine ⟨_, rfl, ?_⟩))
     go_ret
     exact ⟨by first | rfl | (simp; done) | (simp [*]; done), by repeat (first | exact Drawn0.refl _ | apply Drawn0.step)⟩
    ·rw [if_neg c9] at H
     have c9b0 : decide (a1 < a0) = false := decide_eq_false c9
     clear c9
     obtain rfl := Option.some.inj H
     go_enter Tryz.func119, Tryz.ntmps119
     go_wp2_with (first | ((with_reducible refine gate_callee (f := 133) rfl ?_); refine goesL_ (some 8) rfl rfl Tryz.func133 (by kernel_rfl) rfl #[.int .i64 a0] rfl (by (try simp only [List.map_toArray, List.map_cons, List.map_nil]); first | done | rfl | (simp only [List.length_drop, List.length_take]; rfl)) ?_; (with_reducible refine (cmp_isNaN_int.calls a0 false _ A3.out).mono ?_); rintro e w' ⟨rfl, ⟨nd, rfl⟩⟩; refine ⟨_, rfl, ?_⟩) | ((with_reducible refine gate_callee (f := 133) rfl ?_); refine goesL_ (some 10) rfl rfl Tryz.func133 (by kernel_rfl) rfl #[.int .i64 a1] rfl (by (try simp only [List.map_toArray, List.map_cons, List.map_nil]); first | done | rfl | (simp only [List.length_drop, List.length_take]; rfl)) ?_; (with_reducible refine (cmp_isNaN_int.calls a1 false _ A4.out).mono ?_); rintro e w' ⟨rfl, ⟨nd, rfl⟩⟩; refine ⟨_, rfl, ?_⟩))
     go_ret
     exact ⟨by first | rfl | (simp; done) | (simp [*]; done), by repeat (first | exact Drawn0.refl _ | apply Drawn0.step)⟩
def slices_Compare_int_int.l0 : Nat → List Int → List Int → List Int → Int → Int → Option (Int)
 | 0, _, _, _, _, _ => none
 | k + 1, x0, x1, x9, x10, x11 => if x11 < x10 then (if 0 ≤ x11 then (if x11 < (x9.length : Int) then (if x11 ≥ (x1.length : Int) then (some 1) else (if x11 < (x1.length : Int) then ((cmp_Compare_int.f (rd x9 x11) (rd x1 x11)).bind fun t156 => (if t156 = 0 then (slices_Compare_int_int.l0 k x0 x1 x9 x10 (wrap64 (x11 + 1))) else (some t156))) else (none))) else (none)) else (none)) else (if (x0.length : Int) < (x1.length : Int) then (some (-1)) else (some 0))
def slices_Compare_int_int.f (k : Nat) (l0 : List Int) (l1 : List Int) : Option (Int) := slices_Compare_int_int.l0 k l0 l1 l0 (l0.length : Int) 0
set_option maxHeartbeats 8000000 in
set_option maxRecDepth 100000 in
theorem slices_Compare_int_int.calls (k : Nat) (A0 : Option Addr) (c0 : Nat) (l0 : List Int) (A1 : Option Addr) (c1 : Nat) (l1 : List Int) (r : Int) (w : World) (hr0 : Kd.C (Kd.int .i64) w A0 l0.length l0) (hc0 : l0.length ≤ c0) (hr1 : Kd.C (Kd.int .i64) w A1 l1.length l1) (hc1 : l1.length ≤ c1) (h : slices_Compare_int_int.f k l0 l1 = some r) :
  Calls Tryz.prog 87 #[.slice A0 l0.length c0, .slice A1 l1.length c1] w fun e w' => e = .returned (.int .i64 r) ∧ Drawn0 w w' := by
 have HR0 := Aside0.mk hr0
 have HC0 := Aside0.mk hc0
 clear hr0 hc0
 have HR1 := Aside0.mk hr1
 have HC1 := Aside0.mk hc1
 clear hr1 hc1
 have H : (slices_Compare_int_int.l0 k l0 l1 l0 (l0.length : Int) 0) = some r := h
 clear h
 have H' := Aside0.mk H
 clear H
 go_enter Tryz.func87, Tryz.ntmps87
 go_wp2
 go_loopg [11] k (fun kq v11 w' => ∃ (x11_1 : Int), v11 = .int .i64 x11_1 ∧ Aside0 (slices_Compare_int_int.l0 kq l0 l1 l0 (l0.length : Int) x11_1 = some r) ∧ Aside0 (kq ≤ k) ∧ Drawn0 w w')
 case atStart => exact ⟨(0), (by first | rfl | (simp; done) | (simp [*]; done)), H', ⟨Nat.le_refl _⟩, by repeat (first | exact Drawn0.refl _ | apply Drawn0.step)⟩
 case round =>
  clear H'
  try clear c1
  try clear p2
  obtain ⟨x11_1, rfl, HA, HK1, ⟨m1, rfl⟩⟩ := hrel
  cases gk with
  | zero => exact absurd HA.out (by simp [slices_Compare_int_int.l0])
  | succ k1 =>
   have H := HA.out
   clear HA
   simp only [slices_Compare_int_int.l0] at H
   by_cases c3 : x11_1 < (l0.length : Int)
   ·rw [if_pos c3] at H
    have c3b0 : decide (x11_1 < (l0.length : Int)) = true := decide_eq_true c3
    clear c3
    by_cases c4 : 0 ≤ x11_1
    ·rw [if_pos c4] at H
     have c4b0 : decide (0 ≤ x11_1) = true := decide_eq_true c4
     clear c4
     by_cases c5 : x11_1 < (l0.length : Int)
     ·rw [if_pos c5] at H
      have c5b0 : decide (x11_1 < (l0.length : Int)) = true := decide_eq_true c5
      clear c5
      by_cases c6 : x11_1 ≥ (l1.length : Int)
      ·rw [if_pos c6] at H
       have c6b0 : decide ((l1.length : Int) ≤ x11_1) = true := decide_eq_true c6
       clear c6
       obtain rfl := Option.some.inj H
       have p154 : 0 ≤ (x11_1 : Int) := of_decide_eq_true (by first | (with_reducible assumption) | assumption)
       have q154 : x11_1 < (l0.length : Int) := of_decide_eq_true (by first | (with_reducible assumption) | assumption)
       obtain ⟨ad154, e154, hx154_0⟩ := Kd.at_int HR0.out x11_1 p154 q154
       cases e154
       replace p154 := eq_true p154
       replace q154 := eq_true q154
       go_wp2
       go_ret
       exact ⟨by first | rfl | (simp; done) | (simp [*]; done), by repeat (first | exact Drawn0.refl _ | apply Drawn0.step)⟩
      ·rw [if_neg c6] at H
       have c6b0 : decide ((l1.length : Int) ≤ x11_1) = false := decide_eq_false c6
       clear c6
       by_cases c7 : x11_1 < (l1.length : Int)
       ·rw [if_pos c7] at H
        have c7b0 : decide (x11_1 < (l1.length : Int)) = true := decide_eq_true c7
        clear c7
        replace H := Option.bind_eq_some_iff.mp H
        obtain ⟨t156, A80, H⟩ := H
        (try dsimp only at H)
        have A8 := Aside0.mk A80
        clear A80
        by_cases c9 : t156 = 0
        ·rw [if_pos c9] at H
         have c9b0 : (t156 == 0) = true := beq_iff_eq.mpr c9
         have c9b1 : (t156 != 0) = false := bne_eq_false_iff_eq.mpr c9
         clear c9
         have H' := Aside0.mk H
         clear H
         have p154 : 0 ≤ (x11_1 : Int) := of_decide_eq_true (by first | (with_reducible assumption) | assumption)
         have q154 : x11_1 < (l0.length : Int) := of_decide_eq_true (by first | (with_reducible assumption) | assumption)
         obtain ⟨ad154, e154, hx154_0⟩ := Kd.at_int HR0.out x11_1 p154 q154
         cases e154
         replace p154 := eq_true p154
         replace q154 := eq_true q154
         have p155 : 0 ≤ (x11_1 : Int) := of_decide_eq_true (by first | (with_reducible assumption) | assumption)
         have q155 : x11_1 < (l1.length : Int) := of_decide_eq_true (by first | (with_reducible assumption) | assumption)
         obtain ⟨ad155, e155, hx155_0⟩ := Kd.at_int HR1.out x11_1 p155 q155
         cases e155
         replace p155 := eq_true p155
         replace q155 := eq_true q155
         go_wp2_with (first | ((with_reducible refine gate_callee (f := 119) rfl ?_); refine goesL_ (some 26) rfl rfl Tryz.func119 (by kernel_rfl) rfl #[.int .i64 (rd l0 x11_1), .int .i64 (rd l1 x11_1)] rfl (by (try simp only [List.map_toArray, List.map_cons, List.map_nil]); first | done | rfl | (simp only [List.length_drop, List.length_take]; rfl)) ?_; (with_reducible refine (cmp_Compare_int.calls (rd l0 x11_1) (rd l1 x11_1) t156 _ A8.out).mono ?_); rintro e w' ⟨rfl, ⟨nd, rfl⟩⟩; refine ⟨_, rfl, ?_⟩))
         go_roundg k1
         case measure => have := HK1.out; omega
         case rel => exact ⟨(wrap64 (x11_1 + 1)), (by first | rfl | (simp; done) | (simp [*]; done)), H', ⟨by have := HK1.out; omega⟩, by repeat (first | exact Drawn0.refl _ | apply Drawn0.step)⟩
        ·rw [if_neg c9] at H
         have c9b0 : (t156 == 0) = false := beq_eq_false_iff_ne.mpr c9
         have c9b1 : (t156 != 0) = true := bne_iff_ne.mpr c9
         obtain rfl := Option.some.inj H
         have p154 : 0 ≤ (x11_1 : Int) := of_decide_eq_true (by first | (with_reducible assumption) | assumption)
         have q154 : x11_1 < (l0.length : Int) := of_decide_eq_true (by first | (with_reducible assumption) | assumption)
         obtain ⟨ad154, e154, hx154_0⟩ := Kd.at_int HR0.out x11_1 p154 q154
         cases e154
         replace p154 := eq_true p154
         replace q154 := eq_true q154
         have p155 : 0 ≤ (x11_1 : Int) := of_decide_eq_true (by first | (with_reducible assumption) | assumption)
         have q155 : x11_1 < (l1.length : Int) := of_decide_eq_true (by first | (with_reducible assumption) | assumption)
         obtain ⟨ad155, e155, hx155_0⟩ := Kd.at_int HR1.out x11_1 p155 q155
         cases e155
         replace p155 := eq_true p155
         replace q155 := eq_true q155
         go_wp2_with (first | ((with_reducible refine gate_callee (f := 119) rfl ?_); refine goesL_ (some 26) rfl rfl Tryz.func119 (by kernel_rfl) rfl #[.int .i64 (rd l0 x11_1), .int .i64 (rd l1 x11_1)] rfl (by (try simp only [List.map_toArray, List.map_cons, List.map_nil]); first | done | rfl | (simp only [List.length_drop, List.length_take]; rfl)) ?_; (with_reducible refine (cmp_Compare_int.calls (rd l0 x11_1) (rd l1 x11_1) t156 _ A8.out).mono ?_); rintro e w' ⟨rfl, ⟨nd, rfl⟩⟩; refine ⟨_, rfl, ?_⟩))
         go_ret
         exact ⟨by first | rfl | (simp; done) | (simp [*]; done), by repeat (first | exact Drawn0.refl _ | apply Drawn0.step)⟩
       ·rw [if_neg c7] at H
        exact absurd H (by simp)
     ·rw [if_neg c5] at H
      exact absurd H (by simp)
    ·rw [if_neg c4] at H
     exact absurd H (by simp)
   ·rw [if_neg c3] at H
    have c3b0 : decide (x11_1 < (l0.length : Int)) = false := decide_eq_false c3
    clear c3
    by_cases c10 : (l0.length : Int) < (l1.length : Int)
    ·rw [if_pos c10] at H
     have c10b0 : decide ((l0.length : Int) < (l1.length : Int)) = true := decide_eq_true c10
     have c10b1 : decide (l0.length < l1.length) = true := decide_eq_true (Int.ofNat_lt.mp c10)
     clear c10
     obtain rfl := Option.some.inj H
     go_wp2
     go_ret
     exact ⟨by first | rfl | (simp; done) | (simp [*]; done), by repeat (first | exact Drawn0.refl _ | apply Drawn0.step)⟩
    ·rw [if_neg c10] at H
     have c10b0 : decide ((l0.length : Int) < (l1.length : Int)) = false := decide_eq_false c10
     have c10b1 : decide (l0.length < l1.length) = false := decide_eq_false (fun h => c10 (Int.ofNat_lt.mpr h))
     clear c10
     obtain rfl := Option.some.inj H
     go_wp2
     go_ret
     exact ⟨by first | rfl | (simp; done) | (simp [*]; done), by repeat (first | exact Drawn0.refl _ | apply Drawn0.step)⟩
def potbankref06_In.f (a0 : Int) (a1 : Int) (a2 : Int) : Option (Bool) := if a0 ≥ a1 then (some (decide (a0 ≤ a2))) else (some false)
set_option maxHeartbeats 8000000 in
set_option maxRecDepth 100000 in
theorem potbankref06_In.calls (a0 : Int) (a1 : Int) (a2 : Int) (r : Bool) (w : World) (h : potbankref06_In.f a0 a1 a2 = some r) :
  Calls Tryz.prog 48 #[.int .i64 a0, .int .i64 a1, .int .i64 a2] w fun e w' => e = .returned (.bool r) ∧ Drawn0 w w' := by
 have H : (if a0 ≥ a1 then (some (decide (a0 ≤ a2))) else (some false)) = some r := h
 clear h
 by_cases c4 : a0 ≥ a1
 ·rw [if_pos c4] at H
  have c4b0 : decide (a1 ≤ a0) = true := decide_eq_true c4
  clear c4
  obtain rfl := Option.some.inj H
  go_enter Tryz.func48, Tryz.ntmps48
  go_wp2
  go_ret
  exact ⟨by first | rfl | (simp; done) | (simp [*]; done), by repeat (first | exact Drawn0.refl _ | apply Drawn0.step)⟩
 ·rw [if_neg c4] at H
  have c4b0 : decide (a1 ≤ a0) = false := decide_eq_false c4
  clear c4
  obtain rfl := Option.some.inj H
  go_enter Tryz.func48, Tryz.ntmps48
  go_wp2
  go_ret
  exact ⟨by first | rfl | (simp; done) | (simp [*]; done), by repeat (first | exact Drawn0.refl _ | apply Drawn0.step)⟩
def potbankref06_isHeat.f (a0_0 : Int) (a0_1 : Int) : Option (Bool) := if a0_0 ≥ 0 then (if a0_0 ≤ a0_1 then (some (decide (a0_1 ≤ 2000))) else (some false)) else (some false)
set_option maxHeartbeats 8000000 in
set_option maxRecDepth 100000 in
theorem potbankref06_isHeat.calls (a0_0 : Int) (a0_1 : Int) (r : Bool) (w : World) (h : potbankref06_isHeat.f a0_0 a0_1 = some r) :
  Calls Tryz.prog 135 #[.agg #[.int .i64 a0_0, .int .i64 a0_1]] w fun e w' => e = .returned (.bool r) ∧ Below w.heap.size w w' := by
 have hu68 := Tryz.underlying68
 unfold potbankref06_isHeat.f at h
 by_cases c3 : 0 ≤ a0_0 <;> by_cases c4 : a0_0 ≤ a0_1
 all_goals
  simp only [ge_iff_le, c3, c4, if_true, if_false, Option.some.injEq] at h
  subst h
  go_enter Tryz.func135, Tryz.ntmps135
  go_wp2
  go_ret
  exact ⟨rfl, below_alloc (Below.refl _ _) _⟩
def potbankref06_isSeat.f (a0_0 : Int) (a0_1 : Int) (a0_2 : Int) (a0_3 : Int) : Option (Bool) := (potbankref06_isHeat.f a0_0 a0_1).bind fun t159 => (if t159 = true then ((potbankref06_In.f a0_2 0 9).bind fun t160 => (if t160 = true then ((potbankref06_In.f a0_3 0 1000).bind fun t161 => (some t161)) else (some false))) else (some false))
set_option maxHeartbeats 8000000 in
set_option maxRecDepth 100000 in
theorem potbankref06_isSeat.calls (a0_0 : Int) (a0_1 : Int) (a0_2 : Int) (a0_3 : Int) (r : Bool) (w : World) (h : potbankref06_isSeat.f a0_0 a0_1 a0_2 a0_3 = some r) :
  Calls Tryz.prog 125 #[.agg #[.int .i64 a0_0, .int .i64 a0_1, .int .i64 a0_2, .int .i64 a0_3]] w fun e w' => e = .returned (.bool r) ∧ Below w.heap.size w w' := by
 have hu := Tryz.underlying70
 have hu68 := Tryz.underlying68
 unfold potbankref06_isSeat.f at h
 go_enter Tryz.func125, Tryz.ntmps125
 obtain ⟨b0, e0, h⟩ := Option.bind_eq_some_iff.mp h
 have K0 := Aside0.mk (fun W => potbankref06_isHeat.calls a0_0 a0_1 b0 W e0)
 have HH := Aside0.mk h
 clear h e0
 go_wp2_with fail
 refine (K0.out _).mono ?_
 rintro e w1 ⟨rfl, hb⟩
 have h := HH.out
 have I1 := Aside0.mk (box_first hb)
 clear HH hb K0
 have x1_0 := (blk_cell I1.out.2.2 0).trans rfl
 have x1_1 := (blk_cell I1.out.2.2 1).trans rfl
 have x1_2 := (blk_cell I1.out.2.2 2).trans rfl
 have x1_3 := (blk_cell I1.out.2.2 3).trans rfl
 cases b0
 ·simp only [Bool.false_eq_true, if_false, Option.some.injEq] at h
  subst h
  go_wp2
  go_ret
  exact ⟨rfl, I1.out.1⟩
 ·simp only [if_true] at h
  obtain ⟨b1, e1, h⟩ := Option.bind_eq_some_iff.mp h
  have K1 := Aside0.mk (fun W => potbankref06_In.calls a0_2 0 9 b1 W e1)
  have HH := Aside0.mk h
  clear h e1
  go_wp2_with fail
  refine (K1.out _).mono ?_
  rintro e w2 ⟨rfl, hb⟩
  have h := HH.out
  have I2 := Aside0.mk (I1.out.next hb.below)
  clear HH hb K1 I1 x1_0 x1_1 x1_2 x1_3
  have x2_0 := (blk_cell I2.out.2.2 0).trans rfl
  have x2_1 := (blk_cell I2.out.2.2 1).trans rfl
  have x2_2 := (blk_cell I2.out.2.2 2).trans rfl
  have x2_3 := (blk_cell I2.out.2.2 3).trans rfl
  cases b1
  ·simp only [Bool.false_eq_true, if_false, Option.some.injEq] at h
   subst h
   go_wp2
   go_ret
   exact ⟨rfl, I2.out.1⟩
  ·simp only [if_true] at h
   obtain ⟨b2, e2, h⟩ := Option.bind_eq_some_iff.mp h
   have K2 := Aside0.mk (fun W => potbankref06_In.calls a0_3 0 1000 b2 W e2)
   have HH := Aside0.mk h
   clear h e2
   go_wp2_with fail
   refine (K2.out _).mono ?_
   rintro e w3 ⟨rfl, hb⟩
   have h := HH.out
   have I3 := Aside0.mk (I2.out.next hb.below)
   clear HH hb K2 I2 x2_0 x2_1 x2_2 x2_3
   have x3_0 := (blk_cell I3.out.2.2 0).trans rfl
   have x3_1 := (blk_cell I3.out.2.2 1).trans rfl
   have x3_2 := (blk_cell I3.out.2.2 2).trans rfl
   have x3_3 := (blk_cell I3.out.2.2 3).trans rfl
   obtain rfl := Option.some.inj h
   go_wp2
   go_ret
   exact ⟨rfl, I3.out.1⟩
def potbankref06_CheckSeats.l0 : Nat → List (S70) → Int → Option (Int)
 | 0, _, _ => none
 | k + 1, x0, x3 => if x3 < (x0.length : Int) then (if 0 ≤ x3 then ((potbankref06_isSeat.f ((rd_T70 x0 x3).f0.f0) ((rd_T70 x0 x3).f0.f1) ((rd_T70 x0 x3).f1) ((rd_T70 x0 x3).f2)).bind fun t163 => (if t163 = true then (potbankref06_CheckSeats.l0 k x0 (wrap64 (x3 + 1))) else (some 61))) else (none)) else (some 0)
def potbankref06_CheckSeats.f (k : Nat) (l0 : List (S70)) : Option (Int) := if (l0.length : Int) > 24 then (some 61) else (potbankref06_CheckSeats.l0 k l0 0)
set_option maxHeartbeats 8000000 in
set_option maxRecDepth 100000 in
theorem potbankref06_CheckSeats.calls (k : Nat) (A0 : Option Addr) (c0 : Nat) (l0 : List (S70)) (r : Int) (w : World) (hr0 : Kd.C k70 w A0 l0.length l0) (hc0 : l0.length ≤ c0) (h : potbankref06_CheckSeats.f k l0 = some r) :
  Calls Tryz.prog 94 #[.slice A0 l0.length c0] w fun e w' => e = .returned (.int .i64 r) ∧ Below w.heap.size w w' := by
 have hu70 := Tryz.underlying70
 have HR0 := Aside0.mk hr0
 have HC0 := Aside0.mk hc0
 clear hr0 hc0
 have HB := Aside0.mk (Below.refl w.heap.size w)
 have H : (if (l0.length : Int) > 24 then (some 61) else (potbankref06_CheckSeats.l0 k l0 0)) = some r := h
 clear h
 by_cases c2 : (l0.length : Int) > 24
 ·rw [if_pos c2] at H
  have c2b0 : decide (24 < (l0.length : Int)) = true := decide_eq_true c2
  have c2b1 : decide (24 < l0.length) = true := decide_eq_true (by omega)
  clear c2
  obtain rfl := Option.some.inj H
  go_enter Tryz.func94, Tryz.ntmps94
  go_wp2
  go_ret
  exact ⟨by first | rfl | (simp [errW_none, errW_some] <;> rfl) | (simp [*, errW_none, errW_some] <;> rfl), by repeat (first | exact HB.out | apply below_alloc | apply pw_below_drewN | apply below_drew1)⟩
 ·rw [if_neg c2] at H
  have c2b0 : decide (24 < (l0.length : Int)) = false := decide_eq_false c2
  have c2b1 : decide (24 < l0.length) = false := decide_eq_false (by omega)
  clear c2
  have H' := Aside0.mk H
  clear H
  go_enter Tryz.func94, Tryz.ntmps94
  go_wp2
  go_loopg [3] k (fun kq v3 w' => ∃ (x3_1 : Int), v3 = .int .i64 x3_1 ∧ Aside0 (potbankref06_CheckSeats.l0 kq l0 x3_1 = some r) ∧ Aside0 (kq ≤ k) ∧ Aside0 (Below w.heap.size w w'))
  case atStart => exact ⟨(0), (by first | rfl | (simp; done) | (simp [*]; done)), H', ⟨Nat.le_refl _⟩, ⟨by repeat (first | exact HB.out | apply below_alloc | apply pw_below_drewN | apply below_drew1)⟩⟩
  case round =>
   clear H'
   try clear c2
   try clear c2b0
   try clear c2b1
   try clear p2
   obtain ⟨x3_1, rfl, HA, HK1, HB⟩ := hrel
   cases gk with
   | zero => exact absurd HA.out (by simp [potbankref06_CheckSeats.l0])
   | succ k1 =>
    have H := HA.out
    clear HA
    simp only [potbankref06_CheckSeats.l0] at H
    by_cases c3 : x3_1 < (l0.length : Int)
    ·rw [if_pos c3] at H
     have c3b0 : decide (x3_1 < (l0.length : Int)) = true := decide_eq_true c3
     clear c3
     by_cases c4 : 0 ≤ x3_1
     ·rw [if_pos c4] at H
      have c4b0 : decide (0 ≤ x3_1) = true := decide_eq_true c4
      clear c4
      replace H := Option.bind_eq_some_iff.mp H
      obtain ⟨t163, A50, H⟩ := H
      (try dsimp only at H)
      have A5 := Aside0.mk A50
      clear A50
      by_cases c6 : t163 = true
      ·subst c6
       rw [if_pos rfl] at H
       have H' := Aside0.mk H
       clear H
       have p162 : 0 ≤ (x3_1 : Int) := of_decide_eq_true (by first | (with_reducible assumption) | assumption)
       have q162 : x3_1 < (l0.length : Int) := of_decide_eq_true (by first | (with_reducible assumption) | assumption)
       obtain ⟨ad162, e162, hx162_0, hx162_1, hx162_2, hx162_3⟩ := at_T70 HR0.out x3_1 p162 q162
       cases e162
       replace hx162_0 := (HB.out.cell (World.block_lt_of_cell? w _ hx162_0)).trans hx162_0
       replace hx162_1 := (HB.out.cell (World.block_lt_of_cell? w _ hx162_1)).trans hx162_1
       replace hx162_2 := (HB.out.cell (World.block_lt_of_cell? w _ hx162_2)).trans hx162_2
       replace hx162_3 := (HB.out.cell (World.block_lt_of_cell? w _ hx162_3)).trans hx162_3
       replace p162 := eq_true p162
       replace q162 := eq_true q162
       go_wp2_with (first | ((with_reducible refine gate_callee (f := 125) rfl ?_); refine goesL_ (some 17) rfl rfl Tryz.func125 (by kernel_rfl) rfl #[.agg #[.int .i64 ((rd_T70 l0 x3_1).f0.f0), .int .i64 ((rd_T70 l0 x3_1).f0.f1), .int .i64 ((rd_T70 l0 x3_1).f1), .int .i64 ((rd_T70 l0 x3_1).f2)]] rfl (by (try simp only [List.map_toArray, List.map_cons, List.map_nil]); first | done | rfl | (simp only [List.length_drop, List.length_take]; rfl)) ?_; (with_reducible refine (potbankref06_isSeat.calls ((rd_T70 l0 x3_1).f0.f0) ((rd_T70 l0 x3_1).f0.f1) ((rd_T70 l0 x3_1).f1) ((rd_T70 l0 x3_1).f2) true _ A5.out).mono ?_); rintro e w7 ⟨rfl, hb⟩; refine ⟨_, rfl, ?_⟩; have n0_ := Aside0.mk (below_step (by repeat (first | exact HB.out | apply below_alloc | apply pw_below_drewN | apply below_drew1)) hb); clear HB; have HB := n0_; clear n0_; (try clear hb); (try clear hb2); (try clear hk); (try clear hi)))
       go_roundg k1
       case measure => have := HK1.out; omega
       case rel => exact ⟨(wrap64 (x3_1 + 1)), (by first | rfl | (simp; done) | (simp [*]; done)), H', ⟨by have := HK1.out; omega⟩, ⟨by repeat (first | exact HB.out | apply below_alloc | apply pw_below_drewN | apply below_drew1)⟩⟩
      ·replace c6 := Bool.eq_false_iff.mpr c6
       subst c6
       rw [if_neg (show ¬ (false = true) by decide)] at H
       obtain rfl := Option.some.inj H
       have p162 : 0 ≤ (x3_1 : Int) := of_decide_eq_true (by first | (with_reducible assumption) | assumption)
       have q162 : x3_1 < (l0.length : Int) := of_decide_eq_true (by first | (with_reducible assumption) | assumption)
       obtain ⟨ad162, e162, hx162_0, hx162_1, hx162_2, hx162_3⟩ := at_T70 HR0.out x3_1 p162 q162
       cases e162
       replace hx162_0 := (HB.out.cell (World.block_lt_of_cell? w _ hx162_0)).trans hx162_0
       replace hx162_1 := (HB.out.cell (World.block_lt_of_cell? w _ hx162_1)).trans hx162_1
       replace hx162_2 := (HB.out.cell (World.block_lt_of_cell? w _ hx162_2)).trans hx162_2
       replace hx162_3 := (HB.out.cell (World.block_lt_of_cell? w _ hx162_3)).trans hx162_3
       replace p162 := eq_true p162
       replace q162 := eq_true q162
       go_wp2_with (first | ((with_reducible refine gate_callee (f := 125) rfl ?_); refine goesL_ (some 17) rfl rfl Tryz.func125 (by kernel_rfl) rfl #[.agg #[.int .i64 ((rd_T70 l0 x3_1).f0.f0), .int .i64 ((rd_T70 l0 x3_1).f0.f1), .int .i64 ((rd_T70 l0 x3_1).f1), .int .i64 ((rd_T70 l0 x3_1).f2)]] rfl (by (try simp only [List.map_toArray, List.map_cons, List.map_nil]); first | done | rfl | (simp only [List.length_drop, List.length_take]; rfl)) ?_; (with_reducible refine (potbankref06_isSeat.calls ((rd_T70 l0 x3_1).f0.f0) ((rd_T70 l0 x3_1).f0.f1) ((rd_T70 l0 x3_1).f1) ((rd_T70 l0 x3_1).f2) false _ A5.out).mono ?_); rintro e w8 ⟨rfl, hb⟩; refine ⟨_, rfl, ?_⟩; have n0_ := Aside0.mk (below_step (by repeat (first | exact HB.out | apply below_alloc | apply pw_below_drewN | apply below_drew1)) hb); clear HB; have HB := n0_; clear n0_; (try clear hb); (try clear hb2); (try clear hk); (try clear hi)))
       go_ret
       exact ⟨by first | rfl | (simp [errW_none, errW_some] <;> rfl) | (simp [*, errW_none, errW_some] <;> rfl), by repeat (first | exact HB.out | apply below_alloc | apply pw_below_drewN | apply below_drew1)⟩
     ·rw [if_neg c4] at H
      exact absurd H (by simp)
    ·rw [if_neg c3] at H
     have c3b0 : decide (x3_1 < (l0.length : Int)) = false := decide_eq_false c3
     clear c3
     obtain rfl := Option.some.inj H
     go_wp2
     go_ret
     exact ⟨by first | rfl | (simp [errW_none, errW_some] <;> rfl) | (simp [*, errW_none, errW_some] <;> rfl), by repeat (first | exact HB.out | apply below_alloc | apply pw_below_drewN | apply below_drew1)⟩
def potbankref06_isOrder.f (a0_0 : Int) (a0_1 : Int) (a0_2 : Int) (a0_3 : Int) (a0_4 : Int) : Option (Bool) := (potbankref06_In.f a0_0 1 999).bind fun t165 => (if t165 = true then ((potbankref06_In.f a0_1 1 1000).bind fun t166 => (if t166 = true then ((potbankref06_isHeat.f a0_2 a0_3).bind fun t167 => (if t167 = true then ((potbankref06_In.f a0_4 0 9).bind fun t168 => (some t168)) else (some false))) else (some false))) else (some false))
set_option maxHeartbeats 8000000 in
set_option maxRecDepth 100000 in
theorem potbankref06_isOrder.calls (a0_0 : Int) (a0_1 : Int) (a0_2 : Int) (a0_3 : Int) (a0_4 : Int) (r : Bool) (w : World) (h : potbankref06_isOrder.f a0_0 a0_1 a0_2 a0_3 a0_4 = some r) :
  Calls Tryz.prog 126 #[.agg #[.int .i64 a0_0, .int .i64 a0_1, .int .i64 a0_2, .int .i64 a0_3, .int .i64 a0_4]] w fun e w' => e = .returned (.bool r) ∧ Below w.heap.size w w' := by
 have hu := Tryz.underlying72
 have hu68 := Tryz.underlying68
 unfold potbankref06_isOrder.f at h
 go_enter Tryz.func126, Tryz.ntmps126
 obtain ⟨b0, e0, h⟩ := Option.bind_eq_some_iff.mp h
 have K0 := Aside0.mk (fun W => potbankref06_In.calls a0_0 1 999 b0 W e0)
 have HH := Aside0.mk h
 clear h e0
 go_wp2_with fail
 refine (K0.out _).mono ?_
 rintro e w1 ⟨rfl, hb⟩
 have h := HH.out
 have I1 := Aside0.mk (box_first hb.below)
 clear HH hb K0
 have x1_0 := (blk_cell I1.out.2.2 0).trans rfl
 have x1_1 := (blk_cell I1.out.2.2 1).trans rfl
 have x1_2 := (blk_cell I1.out.2.2 2).trans rfl
 have x1_3 := (blk_cell I1.out.2.2 3).trans rfl
 have x1_4 := (blk_cell I1.out.2.2 4).trans rfl
 cases b0
 ·simp only [Bool.false_eq_true, if_false, Option.some.injEq] at h
  subst h
  go_wp2
  go_ret
  exact ⟨rfl, I1.out.1⟩
 ·simp only [if_true] at h
  obtain ⟨b1, e1, h⟩ := Option.bind_eq_some_iff.mp h
  have K1 := Aside0.mk (fun W => potbankref06_In.calls a0_1 1 1000 b1 W e1)
  have HH := Aside0.mk h
  clear h e1
  go_wp2_with fail
  refine (K1.out _).mono ?_
  rintro e w2 ⟨rfl, hb⟩
  have h := HH.out
  have I2 := Aside0.mk (I1.out.next hb.below)
  clear HH hb K1 I1 x1_0 x1_1 x1_2 x1_3 x1_4
  have x2_0 := (blk_cell I2.out.2.2 0).trans rfl
  have x2_1 := (blk_cell I2.out.2.2 1).trans rfl
  have x2_2 := (blk_cell I2.out.2.2 2).trans rfl
  have x2_3 := (blk_cell I2.out.2.2 3).trans rfl
  have x2_4 := (blk_cell I2.out.2.2 4).trans rfl
  cases b1
  ·simp only [Bool.false_eq_true, if_false, Option.some.injEq] at h
   subst h
   go_wp2
   go_ret
   exact ⟨rfl, I2.out.1⟩
  ·simp only [if_true] at h
   obtain ⟨b2, e2, h⟩ := Option.bind_eq_some_iff.mp h
   have K2 := Aside0.mk (fun W => potbankref06_isHeat.calls a0_2 a0_3 b2 W e2)
   have HH := Aside0.mk h
   clear h e2
   go_wp2_with fail
   refine (K2.out _).mono ?_
   rintro e w3 ⟨rfl, hb⟩
   have h := HH.out
   have I3 := Aside0.mk (I2.out.next hb)
   clear HH hb K2 I2 x2_0 x2_1 x2_2 x2_3 x2_4
   have x3_0 := (blk_cell I3.out.2.2 0).trans rfl
   have x3_1 := (blk_cell I3.out.2.2 1).trans rfl
   have x3_2 := (blk_cell I3.out.2.2 2).trans rfl
   have x3_3 := (blk_cell I3.out.2.2 3).trans rfl
   have x3_4 := (blk_cell I3.out.2.2 4).trans rfl
   cases b2
   ·simp only [Bool.false_eq_true, if_false, Option.some.injEq] at h
    subst h
    go_wp2
    go_ret
    exact ⟨rfl, I3.out.1⟩
   ·simp only [if_true] at h
    obtain ⟨b3, e3, h⟩ := Option.bind_eq_some_iff.mp h
    have K3 := Aside0.mk (fun W => potbankref06_In.calls a0_4 0 9 b3 W e3)
    have HH := Aside0.mk h
    clear h e3
    go_wp2_with fail
    refine (K3.out _).mono ?_
    rintro e w4 ⟨rfl, hb⟩
    have h := HH.out
    have I4 := Aside0.mk (I3.out.next hb.below)
    clear HH hb K3 I3 x3_0 x3_1 x3_2 x3_3 x3_4
    have x4_0 := (blk_cell I4.out.2.2 0).trans rfl
    have x4_1 := (blk_cell I4.out.2.2 1).trans rfl
    have x4_2 := (blk_cell I4.out.2.2 2).trans rfl
    have x4_3 := (blk_cell I4.out.2.2 3).trans rfl
    have x4_4 := (blk_cell I4.out.2.2 4).trans rfl
    obtain rfl := Option.some.inj h
    go_wp2
    go_ret
    exact ⟨rfl, I4.out.1⟩
mutual
def potbankref06_CheckOrders.l0 : Nat → List (S72) → Int → Option (Int)
 | 0, _, _ => none
 | k + 1, x0, x3 => if x3 < (x0.length : Int) then (if 0 ≤ x3 then ((potbankref06_isOrder.f ((rd_T72 x0 x3).f0) ((rd_T72 x0 x3).f1) ((rd_T72 x0 x3).f2.f0) ((rd_T72 x0 x3).f2.f1) ((rd_T72 x0 x3).f3)).bind fun t170 => (if t170 = true then (potbankref06_CheckOrders.l1 k x0 x3 0) else (some 60))) else (none)) else (some 0)
def potbankref06_CheckOrders.l1 : Nat → List (S72) → Int → Int → Option (Int)
 | 0, _, _, _ => none
 | k + 1, x0, x3, x4 => if x4 < x3 then (if 0 ≤ x4 then (if x4 < (x0.length : Int) then (if 0 ≤ x3 then (if x3 < (x0.length : Int) then (if ((rd_T72 x0 x4).f0) = ((rd_T72 x0 x3).f0) then (some 60) else (potbankref06_CheckOrders.l1 k x0 x3 (wrap64 (x4 + 1)))) else (none)) else (none)) else (none)) else (none)) else (potbankref06_CheckOrders.l0 k x0 (wrap64 (x3 + 1)))
end
def potbankref06_CheckOrders.f (k : Nat) (l0 : List (S72)) : Option (Int) := if (l0.length : Int) > 8 then (some 60) else (potbankref06_CheckOrders.l0 k l0 0)
set_option maxHeartbeats 8000000 in
set_option maxRecDepth 100000 in
theorem potbankref06_CheckOrders.calls (k : Nat) (A0 : Option Addr) (c0 : Nat) (l0 : List (S72)) (r : Int) (w : World) (hr0 : Kd.C k72 w A0 l0.length l0) (hc0 : l0.length ≤ c0) (h : potbankref06_CheckOrders.f k l0 = some r) :
  Calls Tryz.prog 95 #[.slice A0 l0.length c0] w fun e w' => e = .returned (.int .i64 r) ∧ Below w.heap.size w w' := by
 have hu72 := Tryz.underlying72
 have HR0 := Aside0.mk hr0
 have HC0 := Aside0.mk hc0
 clear hr0 hc0
 have HB := Aside0.mk (Below.refl w.heap.size w)
 have H : (if (l0.length : Int) > 8 then (some 60) else (potbankref06_CheckOrders.l0 k l0 0)) = some r := h
 clear h
 by_cases c2 : (l0.length : Int) > 8
 ·rw [if_pos c2] at H
  have c2b0 : decide (8 < (l0.length : Int)) = true := decide_eq_true c2
  have c2b1 : decide (8 < l0.length) = true := decide_eq_true (by omega)
  clear c2
  obtain rfl := Option.some.inj H
  go_enter Tryz.func95, Tryz.ntmps95
  go_wp2
  repeat (go_quiet (fail); try go_wp2)
  go_ret
  exact ⟨by first | rfl | (simp [errW_none, errW_some] <;> rfl) | (simp [*, errW_none, errW_some] <;> rfl), by repeat (first | exact HB.out | apply below_alloc | apply pw_below_drewN | apply below_drew1)⟩
 ·rw [if_neg c2] at H
  have c2b0 : decide (8 < (l0.length : Int)) = false := decide_eq_false c2
  have c2b1 : decide (8 < l0.length) = false := decide_eq_false (by omega)
  clear c2
  have H' := Aside0.mk H
  clear H
  go_enter Tryz.func95, Tryz.ntmps95
  go_wp2
  repeat (go_quiet (fail); try go_wp2)
  go_loopg [3] k (fun kq v3 w' => ∃ (x3_1 : Int), v3 = .int .i64 x3_1 ∧ Aside0 (potbankref06_CheckOrders.l0 kq l0 x3_1 = some r) ∧ Aside0 (kq ≤ k) ∧ Aside0 (Below w.heap.size w w'))
  case atStart => exact ⟨(0), (by first | rfl | (simp; done) | (simp [*]; done)), H', ⟨Nat.le_refl _⟩, ⟨by repeat (first | exact HB.out | apply below_alloc | apply pw_below_drewN | apply below_drew1)⟩⟩
  case round =>
   clear H'
   try clear c2
   try clear c2b0
   try clear c2b1
   try clear p2
   obtain ⟨x3_1, rfl, HA, HK1, HB⟩ := hrel
   cases gk with
   | zero => exact absurd HA.out (by simp [potbankref06_CheckOrders.l0])
   | succ k1 =>
    have H := HA.out
    clear HA
    simp only [potbankref06_CheckOrders.l0] at H
    by_cases c3 : x3_1 < (l0.length : Int)
    ·rw [if_pos c3] at H
     have c3b0 : decide (x3_1 < (l0.length : Int)) = true := decide_eq_true c3
     clear c3
     by_cases c4 : 0 ≤ x3_1
     ·rw [if_pos c4] at H
      have c4b0 : decide (0 ≤ x3_1) = true := decide_eq_true c4
      clear c4
      replace H := Option.bind_eq_some_iff.mp H
      obtain ⟨t170, A50, H⟩ := H
      (try dsimp only at H)
      have A5 := Aside0.mk A50
      clear A50
      by_cases c6 : t170 = true
      ·subst c6
       rw [if_pos rfl] at H
       have H' := Aside0.mk H
       clear H
       have p169 : 0 ≤ (x3_1 : Int) := of_decide_eq_true (by first | (with_reducible assumption) | assumption)
       have q169 : x3_1 < (l0.length : Int) := of_decide_eq_true (by first | (with_reducible assumption) | assumption)
       obtain ⟨ad169, e169, hx169_0, hx169_1, hx169_2, hx169_3, hx169_4⟩ := at_T72 HR0.out x3_1 p169 q169
       cases e169
       replace hx169_0 := (HB.out.cell (World.block_lt_of_cell? w _ hx169_0)).trans hx169_0
       replace hx169_1 := (HB.out.cell (World.block_lt_of_cell? w _ hx169_1)).trans hx169_1
       replace hx169_2 := (HB.out.cell (World.block_lt_of_cell? w _ hx169_2)).trans hx169_2
       replace hx169_3 := (HB.out.cell (World.block_lt_of_cell? w _ hx169_3)).trans hx169_3
       replace hx169_4 := (HB.out.cell (World.block_lt_of_cell? w _ hx169_4)).trans hx169_4
       replace p169 := eq_true p169
       replace q169 := eq_true q169
       go_wp2_with (first | (go_at_call 126; (with_reducible refine (potbankref06_isOrder.calls ((rd_T72 l0 x3_1).f0) ((rd_T72 l0 x3_1).f1) ((rd_T72 l0 x3_1).f2.f0) ((rd_T72 l0 x3_1).f2.f1) ((rd_T72 l0 x3_1).f3) true _ A5.out).mono ?_); rintro e w7 ⟨rfl, hb⟩; have n0_ := Aside0.mk (below_step (by repeat (first | exact HB.out | apply below_alloc | apply pw_below_drewN | apply below_drew1)) hb); clear HB; have HB := n0_; clear n0_; (try clear hb); (try clear hb2); (try clear hk); (try clear hi)))
       repeat (go_quiet (first | (go_at_call 126; (with_reducible refine (potbankref06_isOrder.calls ((rd_T72 l0 x3_1).f0) ((rd_T72 l0 x3_1).f1) ((rd_T72 l0 x3_1).f2.f0) ((rd_T72 l0 x3_1).f2.f1) ((rd_T72 l0 x3_1).f3) true _ A5.out).mono ?_); rintro e w7 ⟨rfl, hb⟩; have n0_ := Aside0.mk (below_step (by repeat (first | exact HB.out | apply below_alloc | apply pw_below_drewN | apply below_drew1)) hb); clear HB; have HB := n0_; clear n0_; (try clear hb); (try clear hb2); (try clear hk); (try clear hi))); try go_wp2_with (first | (go_at_call 126; (with_reducible refine (potbankref06_isOrder.calls ((rd_T72 l0 x3_1).f0) ((rd_T72 l0 x3_1).f1) ((rd_T72 l0 x3_1).f2.f0) ((rd_T72 l0 x3_1).f2.f1) ((rd_T72 l0 x3_1).f3) true _ A5.out).mono ?_); rintro e w7 ⟨rfl, hb⟩; have n0_ := Aside0.mk (below_step (by repeat (first | exact HB.out | apply below_alloc | apply pw_below_drewN | apply below_drew1)) hb); clear HB; have HB := n0_; clear n0_; (try clear hb); (try clear hb2); (try clear hk); (try clear hi))))
       go_loopg [4] k1 (fun kq v4 w' => ∃ (x4_2 : Int), v4 = .int .i64 x4_2 ∧ Aside0 (potbankref06_CheckOrders.l1 kq l0 x3_1 x4_2 = some r) ∧ Aside0 (kq ≤ k1) ∧ Aside0 (Below w.heap.size w w'))
       case atStart => exact ⟨(0), (by first | rfl | (simp; done) | (simp [*]; done)), H', ⟨Nat.le_refl _⟩, ⟨by repeat (first | exact HB.out | apply below_alloc | apply pw_below_drewN | apply below_drew1)⟩⟩
       case round =>
        clear H'
        try clear p1
        try clear q1
        try clear hx1
        try clear c2
        try clear c2b0
        try clear c2b1
        try clear p2
        try clear c3
        try clear c3b0
        try clear c4
        try clear c4b0
        try clear c6
        try clear hx169_0
        try clear hx169_1
        try clear hx169_2
        try clear hx169_3
        try clear hx169_4
        try clear p169
        try clear p2
        try clear q169
        obtain ⟨x4_2, rfl, HA, HK2, HB⟩ := hrel
        cases gk with
        | zero => exact absurd HA.out (by simp [potbankref06_CheckOrders.l1])
        | succ k2 =>
         have H := HA.out
         clear HA
         simp only [potbankref06_CheckOrders.l1] at H
         by_cases c8 : x4_2 < x3_1
         ·rw [if_pos c8] at H
          have c8b0 : decide (x4_2 < x3_1) = true := decide_eq_true c8
          clear c8
          by_cases c9 : 0 ≤ x4_2
          ·rw [if_pos c9] at H
           have c9b0 : decide (0 ≤ x4_2) = true := decide_eq_true c9
           clear c9
           by_cases c10 : x4_2 < (l0.length : Int)
           ·rw [if_pos c10] at H
            have c10b0 : decide (x4_2 < (l0.length : Int)) = true := decide_eq_true c10
            clear c10
            by_cases c11 : 0 ≤ x3_1
            ·rw [if_pos c11] at H
             have c11b0 : decide (0 ≤ x3_1) = true := decide_eq_true c11
             clear c11
             by_cases c12 : x3_1 < (l0.length : Int)
             ·rw [if_pos c12] at H
              have c12b0 : decide (x3_1 < (l0.length : Int)) = true := decide_eq_true c12
              clear c12
              by_cases c13 : ((rd_T72 l0 x4_2).f0) = ((rd_T72 l0 x3_1).f0)
              ·rw [if_pos c13] at H
               have c13b0 : (((rd_T72 l0 x4_2).f0) == ((rd_T72 l0 x3_1).f0)) = true := beq_iff_eq.mpr c13
               have c13b1 : (((rd_T72 l0 x4_2).f0) != ((rd_T72 l0 x3_1).f0)) = false := bne_eq_false_iff_eq.mpr c13
               clear c13
               obtain rfl := Option.some.inj H
               have p171 : 0 ≤ (x4_2 : Int) := of_decide_eq_true (by first | (with_reducible assumption) | assumption)
               have q171 : x4_2 < (l0.length : Int) := of_decide_eq_true (by first | (with_reducible assumption) | assumption)
               obtain ⟨ad171, e171, hx171_0, hx171_1, hx171_2, hx171_3, hx171_4⟩ := at_T72 HR0.out x4_2 p171 q171
               obtain rfl : ad169 = ad171 := (by injection e171)
               replace hx171_0 := (HB.out.cell (World.block_lt_of_cell? w _ hx171_0)).trans hx171_0
               replace hx171_1 := (HB.out.cell (World.block_lt_of_cell? w _ hx171_1)).trans hx171_1
               replace hx171_2 := (HB.out.cell (World.block_lt_of_cell? w _ hx171_2)).trans hx171_2
               replace hx171_3 := (HB.out.cell (World.block_lt_of_cell? w _ hx171_3)).trans hx171_3
               replace hx171_4 := (HB.out.cell (World.block_lt_of_cell? w _ hx171_4)).trans hx171_4
               replace p171 := eq_true p171
               replace q171 := eq_true q171
               have p172 : 0 ≤ (x3_1 : Int) := of_decide_eq_true (by first | (with_reducible assumption) | assumption)
               have q172 : x3_1 < (l0.length : Int) := of_decide_eq_true (by first | (with_reducible assumption) | assumption)
               obtain ⟨ad172, e172, hx172_0, hx172_1, hx172_2, hx172_3, hx172_4⟩ := at_T72 HR0.out x3_1 p172 q172
               obtain rfl : ad169 = ad172 := (by injection e172)
               replace hx172_0 := (HB.out.cell (World.block_lt_of_cell? w _ hx172_0)).trans hx172_0
               replace hx172_1 := (HB.out.cell (World.block_lt_of_cell? w _ hx172_1)).trans hx172_1
               replace hx172_2 := (HB.out.cell (World.block_lt_of_cell? w _ hx172_2)).trans hx172_2
               replace hx172_3 := (HB.out.cell (World.block_lt_of_cell? w _ hx172_3)).trans hx172_3
               replace hx172_4 := (HB.out.cell (World.block_lt_of_cell? w _ hx172_4)).trans hx172_4
               replace p172 := eq_true p172
               replace q172 := eq_true q172
               go_wp2
               repeat (go_quiet (fail); try go_wp2)
               go_ret
               exact ⟨by first | rfl | (simp [errW_none, errW_some] <;> rfl) | (simp [*, errW_none, errW_some] <;> rfl), by repeat (first | exact HB.out | apply below_alloc | apply pw_below_drewN | apply below_drew1)⟩
              ·rw [if_neg c13] at H
               have c13b0 : (((rd_T72 l0 x4_2).f0) == ((rd_T72 l0 x3_1).f0)) = false := beq_eq_false_iff_ne.mpr c13
               have c13b1 : (((rd_T72 l0 x4_2).f0) != ((rd_T72 l0 x3_1).f0)) = true := bne_iff_ne.mpr c13
               have H' := Aside0.mk H
               clear H
               have p171 : 0 ≤ (x4_2 : Int) := of_decide_eq_true (by first | (with_reducible assumption) | assumption)
               have q171 : x4_2 < (l0.length : Int) := of_decide_eq_true (by first | (with_reducible assumption) | assumption)
               obtain ⟨ad171, e171, hx171_0, hx171_1, hx171_2, hx171_3, hx171_4⟩ := at_T72 HR0.out x4_2 p171 q171
               obtain rfl : ad169 = ad171 := (by injection e171)
               replace hx171_0 := (HB.out.cell (World.block_lt_of_cell? w _ hx171_0)).trans hx171_0
               replace hx171_1 := (HB.out.cell (World.block_lt_of_cell? w _ hx171_1)).trans hx171_1
               replace hx171_2 := (HB.out.cell (World.block_lt_of_cell? w _ hx171_2)).trans hx171_2
               replace hx171_3 := (HB.out.cell (World.block_lt_of_cell? w _ hx171_3)).trans hx171_3
               replace hx171_4 := (HB.out.cell (World.block_lt_of_cell? w _ hx171_4)).trans hx171_4
               replace p171 := eq_true p171
               replace q171 := eq_true q171
               have p172 : 0 ≤ (x3_1 : Int) := of_decide_eq_true (by first | (with_reducible assumption) | assumption)
               have q172 : x3_1 < (l0.length : Int) := of_decide_eq_true (by first | (with_reducible assumption) | assumption)
               obtain ⟨ad172, e172, hx172_0, hx172_1, hx172_2, hx172_3, hx172_4⟩ := at_T72 HR0.out x3_1 p172 q172
               obtain rfl : ad169 = ad172 := (by injection e172)
               replace hx172_0 := (HB.out.cell (World.block_lt_of_cell? w _ hx172_0)).trans hx172_0
               replace hx172_1 := (HB.out.cell (World.block_lt_of_cell? w _ hx172_1)).trans hx172_1
               replace hx172_2 := (HB.out.cell (World.block_lt_of_cell? w _ hx172_2)).trans hx172_2
               replace hx172_3 := (HB.out.cell (World.block_lt_of_cell? w _ hx172_3)).trans hx172_3
               replace hx172_4 := (HB.out.cell (World.block_lt_of_cell? w _ hx172_4)).trans hx172_4
               replace p172 := eq_true p172
               replace q172 := eq_true q172
               go_wp2
               repeat (go_quiet (fail); try go_wp2)
               go_roundg k2
               case measure => have := HK1.out; have := HK2.out; omega
               case rel => exact ⟨(wrap64 (x4_2 + 1)), (by first | rfl | (simp; done) | (simp [*]; done)), H', ⟨by have := HK1.out; have := HK2.out; omega⟩, ⟨by repeat (first | exact HB.out | apply below_alloc | apply pw_below_drewN | apply below_drew1)⟩⟩
             ·rw [if_neg c12] at H
              exact absurd H (by simp)
            ·rw [if_neg c11] at H
             exact absurd H (by simp)
           ·rw [if_neg c10] at H
            exact absurd H (by simp)
          ·rw [if_neg c9] at H
           exact absurd H (by simp)
         ·rw [if_neg c8] at H
          have c8b0 : decide (x4_2 < x3_1) = false := decide_eq_false c8
          clear c8
          have H' := Aside0.mk H
          clear H
          go_wp2
          repeat (go_quiet (fail); try go_wp2)
          go_roundg k2
          case measure => have := HK1.out; have := HK2.out; omega
          case rel => exact ⟨(wrap64 (x3_1 + 1)), (by first | rfl | (simp; done) | (simp [*]; done)), H', ⟨by have := HK1.out; have := HK2.out; omega⟩, ⟨by repeat (first | exact HB.out | apply below_alloc | apply pw_below_drewN | apply below_drew1)⟩⟩
      ·replace c6 := Bool.eq_false_iff.mpr c6
       subst c6
       rw [if_neg (show ¬ (false = true) by decide)] at H
       obtain rfl := Option.some.inj H
       have p169 : 0 ≤ (x3_1 : Int) := of_decide_eq_true (by first | (with_reducible assumption) | assumption)
       have q169 : x3_1 < (l0.length : Int) := of_decide_eq_true (by first | (with_reducible assumption) | assumption)
       obtain ⟨ad169, e169, hx169_0, hx169_1, hx169_2, hx169_3, hx169_4⟩ := at_T72 HR0.out x3_1 p169 q169
       cases e169
       replace hx169_0 := (HB.out.cell (World.block_lt_of_cell? w _ hx169_0)).trans hx169_0
       replace hx169_1 := (HB.out.cell (World.block_lt_of_cell? w _ hx169_1)).trans hx169_1
       replace hx169_2 := (HB.out.cell (World.block_lt_of_cell? w _ hx169_2)).trans hx169_2
       replace hx169_3 := (HB.out.cell (World.block_lt_of_cell? w _ hx169_3)).trans hx169_3
       replace hx169_4 := (HB.out.cell (World.block_lt_of_cell? w _ hx169_4)).trans hx169_4
       replace p169 := eq_true p169
       replace q169 := eq_true q169
       go_wp2_with (first | (go_at_call 126; (with_reducible refine (potbankref06_isOrder.calls ((rd_T72 l0 x3_1).f0) ((rd_T72 l0 x3_1).f1) ((rd_T72 l0 x3_1).f2.f0) ((rd_T72 l0 x3_1).f2.f1) ((rd_T72 l0 x3_1).f3) false _ A5.out).mono ?_); rintro e w14 ⟨rfl, hb⟩; have n0_ := Aside0.mk (below_step (by repeat (first | exact HB.out | apply below_alloc | apply pw_below_drewN | apply below_drew1)) hb); clear HB; have HB := n0_; clear n0_; (try clear hb); (try clear hb2); (try clear hk); (try clear hi)))
       repeat (go_quiet (first | (go_at_call 126; (with_reducible refine (potbankref06_isOrder.calls ((rd_T72 l0 x3_1).f0) ((rd_T72 l0 x3_1).f1) ((rd_T72 l0 x3_1).f2.f0) ((rd_T72 l0 x3_1).f2.f1) ((rd_T72 l0 x3_1).f3) false _ A5.out).mono ?_); rintro e w14 ⟨rfl, hb⟩; have n0_ := Aside0.mk (below_step (by repeat (first | exact HB.out | apply below_alloc | apply pw_below_drewN | apply below_drew1)) hb); clear HB; have HB := n0_; clear n0_; (try clear hb); (try clear hb2); (try clear hk); (try clear hi))); try go_wp2_with (first | (go_at_call 126; (with_reducible refine (potbankref06_isOrder.calls ((rd_T72 l0 x3_1).f0) ((rd_T72 l0 x3_1).f1) ((rd_T72 l0 x3_1).f2.f0) ((rd_T72 l0 x3_1).f2.f1) ((rd_T72 l0 x3_1).f3) false _ A5.out).mono ?_); rintro e w14 ⟨rfl, hb⟩; have n0_ := Aside0.mk (below_step (by repeat (first | exact HB.out | apply below_alloc | apply pw_below_drewN | apply below_drew1)) hb); clear HB; have HB := n0_; clear n0_; (try clear hb); (try clear hb2); (try clear hk); (try clear hi))))
       go_ret
       exact ⟨by first | rfl | (simp [errW_none, errW_some] <;> rfl) | (simp [*, errW_none, errW_some] <;> rfl), by repeat (first | exact HB.out | apply below_alloc | apply pw_below_drewN | apply below_drew1)⟩
     ·rw [if_neg c4] at H
      exact absurd H (by simp)
    ·rw [if_neg c3] at H
     have c3b0 : decide (x3_1 < (l0.length : Int)) = false := decide_eq_false c3
     clear c3
     obtain rfl := Option.some.inj H
     go_wp2
     repeat (go_quiet (fail); try go_wp2)
     go_ret
     exact ⟨by first | rfl | (simp [errW_none, errW_some] <;> rfl) | (simp [*, errW_none, errW_some] <;> rfl), by repeat (first | exact HB.out | apply below_alloc | apply pw_below_drewN | apply below_drew1)⟩
end Go.Proofs.YthonlcnmjlldiaaGreat.P
namespace Go.Proofs.YthonlcnmjlldiaaGreat.P
open Go.RowKit Go.Proofs.YthonlcnmjlldiaaGreatW.PrintWords Go.Proofs.YthonlcnmjlldiaaGreatW.PrintLast Go.Proofs.YthonlcnmjlldiaaGreatW.PrintMore
def idxF {α : Type} (p : α → Bool) : List α → Int
 | [] => -1
 | x :: xs => if p x then 0 else (let r := idxF p xs; if r < 0 then -1 else r + 1)
theorem idxF_any {α : Type} (p : α → Bool) (xs : List α) : decide (0 ≤ idxF p xs) = xs.any p := by
 induction xs with
 | nil => simp [idxF]
 | cons x xs ih =>
  simp only [idxF, List.any_cons]
  cases h : p x
  ·simp only [Bool.false_eq_true, if_false, Bool.false_or]
   rw [← ih]
   split
   ·have : ¬ (0 ≤ idxF p xs) := by omega
    simp [this]
   ·have : 0 ≤ idxF p xs := by omega
    simp [this]
    omega
  ·simp
theorem idxF_hit {α : Type} (p : α → Bool) (xs : List α) (k : Nat) (h0 : ∀ (j : Nat) (y : α), j < k → xs[j]? = some y → p y = false) (x : α) (hx : xs[k]? = some x) (hp : p x = true) : idxF p xs = k := by
 induction xs generalizing k with
 | nil => simp at hx
 | cons y ys ih =>
  cases k with
  | zero => simp at hx; subst hx; simp [idxF, hp]
  | succ k =>
   have hy := h0 0 y (by omega) rfl
   have := ih k (fun j z hj hz => h0 (j + 1) z (by omega) (by simpa using hz)) (by simpa using hx)
   simp only [idxF, hy, this]
   simp
   omega
theorem idxF_miss {α : Type} (p : α → Bool) (xs : List α) (h0 : ∀ (j : Nat) (y : α), xs[j]? = some y → p y = false) : idxF p xs = -1 := by
 induction xs with
 | nil => rfl
 | cons y ys ih =>
  have hy := h0 0 y rfl
  have := ih (fun j z hz => h0 (j + 1) z (by simpa using hz))
  simp [idxF, hy, this]
structure PredR {α : Type} (g : Nat) (lb : Array Value) (enc : α → Value) (p : α → Bool) (xs : List α) (R : World → World → Prop) (w : World) : Prop where
 eg : ∀ args w, (callFunc g args).run Tryz.prog w = .ok (.enter g args) w
 refl : R w w
 call : ∀ x W, x ∈ xs → R w W → Calls Tryz.prog g (#[enc x] ++ lb) W fun e W' => e = .returned (.bool (p x)) ∧ R w W'
set_option maxHeartbeats 1000000 in
theorem idxInt.calls {xs : List Int} {A : Option Addr} {c g : Nat} {lb : Array Value} {p : Int → Bool} {R : World → World → Prop} {w : World} (h : PredR g lb (Value.int .i64) p xs R w)
  (hC : ∀ W, R w W → Kd.C (Kd.int .i64) W A xs.length xs) :
  Calls Tryz.prog 127 #[.slice A xs.length c, .func (.func g) #[] lb] w fun e w' => e = .returned (.int .i64 (idxF p xs)) ∧ R w w' := by
 obtain ⟨eg, hrefl, hp⟩ := h
 have hlen : xs.length ≤ 9223372036854775807 := (hC w hrefl).2.1
 have HP := Aside0.mk hp
 have HC := Aside0.mk hC
 clear hp hC
 go_enter Tryz.func127, Tryz.ntmps127
 go_wp2
 go_loopg [5, 8] xs.length (fun gg _ s8 wr => ∃ kk : Nat, kk ≤ xs.length ∧ xs.length - kk ≤ gg ∧ s8 = .int .i64 kk ∧ Aside0 (R w wr) ∧ Aside0 (∀ (j : Nat) y, j < kk → xs[j]? = some y → p y = false))
 case atStart => exact ⟨0, Nat.zero_le _, by omega, rfl, ⟨hrefl⟩, ⟨fun j y hj => absurd hj (Nat.not_lt_zero _)⟩⟩
 case round =>
  obtain ⟨kk, hkk, hg, rfl, BW, AA⟩ := hrel
  by_cases hlt : kk < xs.length
  ·have hltz : (kk : Int) < (xs.length : Int) := by omega
   have hx : xs[kk]? = some (rd xs (kk : Int)) := by simp [rd, List.getD_eq_getElem?_getD, hlt]
   have hm : rd xs (kk : Int) ∈ xs := List.mem_of_getElem? hx
   obtain ⟨ad, rfl, l0⟩ := Kd.at_int (HC.out wr BW.out) (kk : Int) (by omega) hltz
   simp only [Int.toNat_natCast] at l0
   have hcall := HP.out _ wr hm BW.out
   generalize rd xs (kk : Int) = x at *
   have HX := Aside0.mk hx
   clear hx hm
   cases hq : p x with
   | true =>
    rw [hq] at hcall
    go_wp2_with ((with_reducible refine hcall.mono ?_); rintro e w' ⟨rfl, hb'⟩)
    go_ret
    refine ⟨?_, hb'⟩
    exact congrArg (fun z => Ending.returned (.int .i64 z)) (idxF_hit p xs kk AA.out x HX.out hq).symm
   | false =>
    rw [hq] at hcall
    go_wp2_with ((with_reducible refine hcall.mono ?_); rintro e w' ⟨rfl, hb'⟩)
    go_roundg (xs.length - (kk + 1))
    case measure => omega
    case rel =>
     refine ⟨kk + 1, by omega, by omega, by go_num, ⟨hb'⟩, ⟨fun j y hj hy => ?_⟩⟩
     by_cases e : j = kk
     ·subst e
      rw [HX.out] at hy
      cases hy
      exact hq
     ·exact AA.out j y (by omega) hy
  ·have hltz : ¬ (kk : Int) < (xs.length : Int) := by omega
   have hd1 : decide (kk < xs.length) = false := decide_eq_false hlt
   have hd2 : decide ((kk : Int) < (xs.length : Int)) = false := decide_eq_false hltz
   have hge : xs.length ≤ kk := by omega
   clear hlt hltz
   go_wp2
   go_ret
   refine ⟨?_, BW.out⟩
   exact congrArg (fun z => Ending.returned (.int .i64 z)) (idxF_miss p xs (fun j y hy => AA.out j y (by have := (List.getElem?_eq_some_iff.1 hy).1; omega) hy)).symm
theorem idxIntAny.calls {xs : List Int} {A : Option Addr} {c g : Nat} {lb : Array Value} {p : Int → Bool} {R : World → World → Prop} {w : World} (h : PredR g lb (Value.int .i64) p xs R w)
  (hC : ∀ W, R w W → Kd.C (Kd.int .i64) W A xs.length xs) :
  Calls Tryz.prog 104 #[.slice A xs.length c, .func (.func g) #[] lb] w fun e w' => e = .returned (.bool (xs.any p)) ∧ R w w' := by
 have hI := idxInt.calls (c := c) h hC
 have hA := idxF_any p xs
 generalize idxF p xs = r at *
 generalize xs.any p = b at *
 clear h hC
 go_enter Tryz.func104, Tryz.ntmps104
 have HA := Aside0.mk hA
 clear hA
 go_wp2_with (go_at_call 127; refine hI.mono ?_; rintro e w' ⟨rfl, hb'⟩)
 go_ret
 exact ⟨congrArg (fun z => Ending.returned (.bool z)) HA.out, hb'⟩
set_option maxHeartbeats 1000000 in
theorem idxMask.calls {xs : List Int} {A : Option Addr} {c g : Nat} {lb : Array Value} {p : Int → Bool} {R : World → World → Prop} {w : World} (h : PredR g lb (Value.int .u64) p xs R w)
  (hC : ∀ W, R w W → Kd.C (Kd.int .u64) W A xs.length xs) :
  Calls Tryz.prog 99 #[.slice A xs.length c, .func (.func g) #[] lb] w fun e w' => e = .returned (.int .i64 (idxF p xs)) ∧ R w w' := by
 obtain ⟨eg, hrefl, hp⟩ := h
 have hlen : xs.length ≤ 9223372036854775807 := (hC w hrefl).2.1
 have HP := Aside0.mk hp
 have HC := Aside0.mk hC
 clear hp hC
 go_enter Tryz.func99, Tryz.ntmps99
 go_wp2
 go_loopg [5, 8] xs.length (fun gg _ s8 wr => ∃ kk : Nat, kk ≤ xs.length ∧ xs.length - kk ≤ gg ∧ s8 = .int .i64 kk ∧ Aside0 (R w wr) ∧ Aside0 (∀ (j : Nat) y, j < kk → xs[j]? = some y → p y = false))
 case atStart => exact ⟨0, Nat.zero_le _, by omega, rfl, ⟨hrefl⟩, ⟨fun j y hj => absurd hj (Nat.not_lt_zero _)⟩⟩
 case round =>
  obtain ⟨kk, hkk, hg, rfl, BW, AA⟩ := hrel
  by_cases hlt : kk < xs.length
  ·have hltz : (kk : Int) < (xs.length : Int) := by omega
   have hx : xs[kk]? = some (rd xs (kk : Int)) := by simp [rd, List.getD_eq_getElem?_getD, hlt]
   have hm : rd xs (kk : Int) ∈ xs := List.mem_of_getElem? hx
   obtain ⟨ad, rfl, l0⟩ := Kd.at_int (HC.out wr BW.out) (kk : Int) (by omega) hltz
   simp only [Int.toNat_natCast] at l0
   have hcall := HP.out _ wr hm BW.out
   generalize rd xs (kk : Int) = x at *
   have HX := Aside0.mk hx
   clear hx hm
   cases hq : p x with
   | true =>
    rw [hq] at hcall
    go_wp2_with ((with_reducible refine hcall.mono ?_); rintro e w' ⟨rfl, hb'⟩)
    go_ret
    refine ⟨?_, hb'⟩
    exact congrArg (fun z => Ending.returned (.int .i64 z)) (idxF_hit p xs kk AA.out x HX.out hq).symm
   | false =>
    rw [hq] at hcall
    go_wp2_with ((with_reducible refine hcall.mono ?_); rintro e w' ⟨rfl, hb'⟩)
    go_roundg (xs.length - (kk + 1))
    case measure => omega
    case rel =>
     refine ⟨kk + 1, by omega, by omega, by go_num, ⟨hb'⟩, ⟨fun j y hj hy => ?_⟩⟩
     by_cases e : j = kk
     ·subst e
      rw [HX.out] at hy
      cases hy
      exact hq
     ·exact AA.out j y (by omega) hy
  ·have hltz : ¬ (kk : Int) < (xs.length : Int) := by omega
   have hd1 : decide (kk < xs.length) = false := decide_eq_false hlt
   have hd2 : decide ((kk : Int) < (xs.length : Int)) = false := decide_eq_false hltz
   have hge : xs.length ≤ kk := by omega
   clear hlt hltz
   go_wp2
   go_ret
   refine ⟨?_, BW.out⟩
   exact congrArg (fun z => Ending.returned (.int .i64 z)) (idxF_miss p xs (fun j y hy => AA.out j y (by have := (List.getElem?_eq_some_iff.1 hy).1; omega) hy)).symm
theorem idxMaskAny.calls {xs : List Int} {A : Option Addr} {c g : Nat} {lb : Array Value} {p : Int → Bool} {R : World → World → Prop} {w : World} (h : PredR g lb (Value.int .u64) p xs R w)
  (hC : ∀ W, R w W → Kd.C (Kd.int .u64) W A xs.length xs) :
  Calls Tryz.prog 52 #[.slice A xs.length c, .func (.func g) #[] lb] w fun e w' => e = .returned (.bool (xs.any p)) ∧ R w w' := by
 have hI := idxMask.calls (c := c) h hC
 have hA := idxF_any p xs
 generalize idxF p xs = r at *
 generalize xs.any p = b at *
 clear h hC
 go_enter Tryz.func52, Tryz.ntmps52
 have HA := Aside0.mk hA
 clear hA
 go_wp2_with (go_at_call 99; refine hI.mono ?_; rintro e w' ⟨rfl, hb'⟩)
 go_ret
 exact ⟨congrArg (fun z => Ending.returned (.bool z)) HA.out, hb'⟩
set_option maxHeartbeats 1000000 in
theorem idxSeat.calls {xs : List S70} {A : Option Addr} {c g : Nat} {lb : Array Value} {p : S70 → Bool} {R : World → World → Prop} {w : World} (h : PredR g lb (fun s : S70 => .agg #[.int .i64 s.f0.f0, .int .i64 s.f0.f1, .int .i64 s.f1, .int .i64 s.f2]) p xs R w)
  (hC : ∀ W, R w W → Kd.C k70 W A xs.length xs) :
  Calls Tryz.prog 134 #[.slice A xs.length c, .func (.func g) #[] lb] w fun e w' => e = .returned (.int .i64 (idxF p xs)) ∧ R w w' := by
 obtain ⟨eg, hrefl, hp⟩ := h
 have hlen : xs.length ≤ 9223372036854775807 := (hC w hrefl).2.1
 have HP := Aside0.mk hp
 have HC := Aside0.mk hC
 clear hp hC
 go_enter Tryz.func134, Tryz.ntmps134
 go_wp2
 go_loopg [5, 8] xs.length (fun gg _ s8 wr => ∃ kk : Nat, kk ≤ xs.length ∧ xs.length - kk ≤ gg ∧ s8 = .int .i64 kk ∧ Aside0 (R w wr) ∧ Aside0 (∀ (j : Nat) y, j < kk → xs[j]? = some y → p y = false))
 case atStart => exact ⟨0, Nat.zero_le _, by omega, rfl, ⟨hrefl⟩, ⟨fun j y hj => absurd hj (Nat.not_lt_zero _)⟩⟩
 case round =>
  obtain ⟨kk, hkk, hg, rfl, BW, AA⟩ := hrel
  by_cases hlt : kk < xs.length
  ·have hltz : (kk : Int) < (xs.length : Int) := by omega
   have hx : xs[kk]? = some (rd_T70 xs (kk : Int)) := by simp [rd_T70, List.getD_eq_getElem?_getD, hlt]
   have hm : rd_T70 xs (kk : Int) ∈ xs := List.mem_of_getElem? hx
   obtain ⟨ad, rfl, l0, l1, l2, l3⟩ := at_T70 (HC.out wr BW.out) (kk : Int) (by omega) hltz
   simp only [Int.toNat_natCast] at l0 l1 l2 l3
   have hcall := HP.out _ wr hm BW.out
   generalize rd_T70 xs (kk : Int) = x at *
   have HX := Aside0.mk hx
   clear hx hm
   cases hq : p x with
   | true =>
    rw [hq] at hcall
    go_wp2_with ((with_reducible refine hcall.mono ?_); rintro e w' ⟨rfl, hb'⟩)
    go_ret
    refine ⟨?_, hb'⟩
    exact congrArg (fun z => Ending.returned (.int .i64 z)) (idxF_hit p xs kk AA.out x HX.out hq).symm
   | false =>
    rw [hq] at hcall
    go_wp2_with ((with_reducible refine hcall.mono ?_); rintro e w' ⟨rfl, hb'⟩)
    go_roundg (xs.length - (kk + 1))
    case measure => omega
    case rel =>
     refine ⟨kk + 1, by omega, by omega, by go_num, ⟨hb'⟩, ⟨fun j y hj hy => ?_⟩⟩
     by_cases e : j = kk
     ·subst e
      rw [HX.out] at hy
      cases hy
      exact hq
     ·exact AA.out j y (by omega) hy
  ·have hltz : ¬ (kk : Int) < (xs.length : Int) := by omega
   have hd1 : decide (kk < xs.length) = false := decide_eq_false hlt
   have hd2 : decide ((kk : Int) < (xs.length : Int)) = false := decide_eq_false hltz
   have hge : xs.length ≤ kk := by omega
   clear hlt hltz
   go_wp2
   go_ret
   refine ⟨?_, BW.out⟩
   exact congrArg (fun z => Ending.returned (.int .i64 z)) (idxF_miss p xs (fun j y hy => AA.out j y (by have := (List.getElem?_eq_some_iff.1 hy).1; omega) hy)).symm
theorem idxSeatAny.calls {xs : List S70} {A : Option Addr} {c g : Nat} {lb : Array Value} {p : S70 → Bool} {R : World → World → Prop} {w : World} (h : PredR g lb (fun s : S70 => .agg #[.int .i64 s.f0.f0, .int .i64 s.f0.f1, .int .i64 s.f1, .int .i64 s.f2]) p xs R w)
  (hC : ∀ W, R w W → Kd.C k70 W A xs.length xs) :
  Calls Tryz.prog 120 #[.slice A xs.length c, .func (.func g) #[] lb] w fun e w' => e = .returned (.bool (xs.any p)) ∧ R w w' := by
 have hI := idxSeat.calls (c := c) h hC
 have hA := idxF_any p xs
 generalize idxF p xs = r at *
 generalize xs.any p = b at *
 clear h hC
 go_enter Tryz.func120, Tryz.ntmps120
 have HA := Aside0.mk hA
 clear hA
 go_wp2_with (go_at_call 134; refine hI.mono ?_; rintro e w' ⟨rfl, hb'⟩)
 go_ret
 exact ⟨congrArg (fun z => Ending.returned (.bool z)) HA.out, hb'⟩
end Go.Proofs.YthonlcnmjlldiaaGreat.P
namespace Go.Proofs.YthonlcnmjlldiaaGreat.P
open Go.RowKit Go.Proofs.YthonlcnmjlldiaaGreatW.PrintWords
open Go.Maps (Keyed)
theorem wf_i64 {x : Int} (h1 : -9223372036854775808 ≤ x) (h2 : x ≤ 9223372036854775807) : (Lit.int .i64 x).wf = true := by
 simp [Lit.wf, IntKind.min, IntKind.max, IntKind.signed, IntKind.bits]
 omega
theorem wf_u64 {x : Int} (h1 : 0 ≤ x) (h2 : x ≤ 18446744073709551615) : (Lit.int .u64 x).wf = true := by
 simp [Lit.wf, IntKind.min, IntKind.max, IntKind.signed, IntKind.bits]
 omega
section
variable {P : Program} {t kt et : TypeId} {q qe : IntKind} {w : World} {b n : Nat}
theorem plainElem_bool_inv {e : TypeId} (he : P.underlying e = some .bool) {v : Value} {z : DataW Unit × List MemPlace} (h : plainElem P e v = some z) : ∃ a, v = .bool a ∧ z = (.lit (.bool a), []) := by
 unfold plainElem at h
 rw [he] at h
 cases v <;> simp at h
 exact ⟨_, rfl, h.symm⟩
def IMap {β : Type} (P : Program) (kt et : TypeId) (q : IntKind) (lit : β → Lit) (w : World) (b n : Nat) (g : Int → Option β) : Prop :=
 ∃ D : DataW Unit, w.ownsMap P kt (plainElem P et) b n D ∧ Maps.IsMap D ∧
  ∀ x : Int, (Lit.int q x).wf = true → Maps.has D (.int q x) = (g x).isSome ∧ ∀ y, g x = some y → ∀ z, D.atKey (.int q x) z = .lit (lit y)
theorem IMap.made {β : Type} {lit : β → Lit} (w : World) : IMap P kt et q lit (w.alloc (.map #[] 0)) w.heap.size 0 (fun _ => none) :=
 ⟨.map [], World.ownsMap_made w P kt _, Maps.isMap_empty, fun x hx => ⟨rfl, fun y hy => by cases hy⟩⟩
theorem IMap.mono {β : Type} {lit : β → Lit} {g : Int → Option β} (h : IMap P kt et q lit w b n g) {n' : Nat} (hn : n ≤ n') : IMap P kt et q lit w b n' g := by
 obtain ⟨D, h1, h2⟩ := h
 exact ⟨D, h1.mono hn, h2⟩
theorem IMap.lt {β : Type} {lit : β → Lit} {g : Int → Option β} (h : IMap P kt et q lit w b n g) : b < w.heap.size := by
 obtain ⟨D, h1, h2⟩ := h
 exact h1.lt
theorem IMap.kept {β : Type} {lit : β → Lit} {g : Int → Option β} {w' : World} {row : Option Nat} (h : IMap P kt et q lit w b n g) (hg : w.grownBy w' row) (hne : some b ≠ row) : IMap P kt et q lit w' b n g := by
 obtain ⟨D, h1, h2⟩ := h
 exact ⟨D, h1.kept hg hne, h2⟩
theorem IMap.below {β : Type} {lit : β → Lit} {g : Int → Option β} {w' : World} (h : IMap P kt et q lit w b n g) (hb : Below w.heap.size w w') : IMap P kt et q lit w' b n g :=
 h.kept (grown_of_below hb none) (by simp)
theorem IMap.step {β : Type} {lit : β → Lit} {g : Int → Option β} {w' : World} (h : IMap P kt et q lit w b n g) (hb : w'.heap[b]? = w.heap[b]?) : IMap P kt et q lit w' b n g := by
 obtain ⟨D, ⟨es, clock, h1, h2⟩, h3⟩ := h
 exact ⟨D, ⟨es, clock, hb.trans h1, h2⟩, h3⟩
theorem IMap.cong {β : Type} {lit : β → Lit} {g g' : Int → Option β} (h : IMap P kt et q lit w b n g) (hg : ∀ x, (Lit.int q x).wf = true → g x = g' x) : IMap P kt et q lit w b n g' := by
 obtain ⟨D, h1, h2, h3⟩ := h
 exact ⟨D, h1, h2, fun x hx => by rw [← hg x hx]; exact h3 x hx⟩
theorem IMap.look_bool {g : Int → Option Bool} (h : IMap P kt et q Lit.bool w b n g) (hk : P.underlying kt = some (.int q)) (ht : P.underlying t = some (.map kt et)) (he : P.underlying et = some .bool) (hz : (zeroValue et).run P w = .ok (.bool false) w)
  {x : Int} (hx : (Lit.int q x).wf = true) : (Instr.lookup t (.map (some b)) (.int q x) false).run P w = .ok (.bool ((g x).getD false)) w := by
 obtain ⟨D, h1, h2, h3⟩ := h
 obtain ⟨v, ps, hrun, hv⟩ := h1.lookup (Maps.int_keyed hk) ht hz (plainElem_bool he false) (Maps.keyOf_int_mk hk hx)
 obtain ⟨a, rfl, e⟩ := plainElem_bool_inv he hv
 rw [hrun]
 have h4 := (h3 x hx).1
 have h5 := (h3 x hx).2
 cases hg : g x with
 | none =>
  rw [hg] at h4
  rw [Maps.atKey_of_not_has h4] at e
  simp at e
  rw [e.1]; rfl
 | some y =>
  rw [h5 y hg] at e
  simp at e
  rw [← e.1]; rfl
theorem IMap.look_ok {g : Int → Option Int} (h : IMap P kt et q (Lit.int qe) w b n g) (hk : P.underlying kt = some (.int q)) (ht : P.underlying t = some (.map kt et)) (he : P.underlying et = some (.int qe)) (hz : (zeroValue et).run P w = .ok (.int qe 0) w)
  {x : Int} (hx : (Lit.int q x).wf = true) : (Instr.lookup t (.map (some b)) (.int q x) true).run P w = .ok (.tuple #[.int qe ((g x).getD 0), .bool (g x).isSome]) w := by
 obtain ⟨D, h1, h2, h3⟩ := h
 obtain ⟨v, ps, hrun, hv⟩ := h1.look_ok (Maps.int_keyed hk) ht hz (plainElem_int he (by cases qe <;> decide)) (Maps.keyOf_int_mk hk hx)
 obtain ⟨a, rfl, e, _⟩ := plainElem_int_inv he hv
 have h4 := (h3 x hx).1
 have h5 := (h3 x hx).2
 rw [hrun, h4]
 cases hg : g x with
 | none =>
  rw [hg] at h4
  rw [Maps.atKey_of_not_has h4] at e
  simp at e
  rw [← e.1]; rfl
 | some y =>
  rw [h5 y hg] at e
  simp at e
  rw [← e.1]; rfl
theorem IMap.update {β : Type} {lit : β → Lit} {g : Int → Option β} (h : IMap P kt et q lit w b n g) (hk : P.underlying kt = some (.int q)) (ht : P.underlying t = some (.map kt et)) (hn : n < maxLen)
  {x : Int} (hx : (Lit.int q x).wf = true) {val : Value} {y : β} (hv : plainElem (H := Unit) P et val = some (.lit (lit y), [])) :
  ∃ w', (Instr.mapUpdate t (.map (some b)) (.int q x) val).run P w = .ok () w' ∧ IMap P kt et q lit w' b (n + 1) (fun z => if z = x then some y else g z) ∧ w.grownBy w' (some b) := by
 obtain ⟨D, h1, h2, h3⟩ := h
 obtain ⟨w', hrun, h4, h5⟩ := h1.update (Maps.int_keyed hk) ht hn (Maps.keyOf_int_mk hk hx) hv
 refine ⟨w', hrun, ⟨_, h4, h2.put _ _, fun z hz => ?_⟩, h5⟩
 have hkl : WideAt.IsKeyLit (Lit.int q x) := trivial
 by_cases e : z = x
 ·subst e
  refine ⟨by simp [Maps.has_put_same h2 hkl], fun y' hy' z' => ?_⟩
  simp at hy'
  subst hy'
  exact Maps.atKey_put_same h2 hkl _ _
 ·have hne : (Lit.int q z) ≠ Lit.int q x := by simpa using e
  simp only [if_neg e]
  refine ⟨by rw [Maps.has_put_other hne]; exact (h3 z hz).1, fun y' hy' z' => ?_⟩
  rw [Maps.atKey_put_other hne]
  exact (h3 z hz).2 y' hy' z'
end
theorem wpList_store_imap {P : Program} {β : Type} {lit : β → Lit} {kt et : TypeId} {q : IntKind} {b n : Nat} {w : World} {ops : Array Oper} {rest : List Oper} {o : Oper} {a : Act} {Q : Exit → Act → World → Prop}
  (hgd : o.guard = none) (m x v : Operand) (t : TypeId) (hop : o.op = Op.mapUpdate t m x v) {g : Int → Option β} (h : IMap P kt et q lit w b n g) (hk : P.underlying kt = some (.int q)) (ht : P.underlying t = some (.map kt et)) (hn : n < maxLen)
  (hm : a.eval m = .map (some b)) {X : Int} (hx : a.eval x = .int q X) (hX : (Lit.int q X).wf = true) {val : Value} (hv : a.eval v = val) {y : β} (hval : plainElem (H := Unit) P et val = some (.lit (lit y), []))
  (hK : ∀ w', IMap P kt et q lit w' b (n + 1) (fun z => if z = X then some y else g z) → w.grownBy w' (some b) → wpList P ops Q rest (a.put o.dst undef) w') :
  wpList P ops Q (o :: rest) a w := by
 refine wpList_plain hgd fun K' hK' => ?_
 obtain ⟨w', hrun, r1, r2⟩ := h.update hk ht hn hX hval
 unfold Oper.wp
 simp [execOp, hop, hm, hx, hv, hrun, Result.andThen]
 exact hK' _ _ (hK w' r1 r2)
end Go.Proofs.YthonlcnmjlldiaaGreat.P
namespace Go.Proofs.YthonlcnmjlldiaaGreat.P
open Go.Shelf Go.RowKit Go.Proofs.YthonlcnmjlldiaaGreatW.PrintWords Go.Proofs.YthonlcnmjlldiaaGreatW.PrintLast Go.Proofs.YthonlcnmjlldiaaGreatW.PrintMore
def heatOk (lo hi : Int) : Bool := decide (0 ≤ lo ∧ lo ≤ hi ∧ hi ≤ 2000)
def inB (n lo hi : Int) : Bool := decide (lo ≤ n ∧ n ≤ hi)
abbrev Seat := S70
abbrev Order := S72
def seatOk (s : Seat) : Bool := heatOk s.f0.f0 s.f0.f1 && (inB s.f1 0 9 && inB s.f2 0 1000)
def orderOk (o : Order) : Bool := inB o.f0 1 999 && (inB o.f1 1 1000 && (heatOk o.f2.f0 o.f2.f1 && inB o.f3 0 9))
theorem checkOrder_b (o : Order) (w : World) : Calls Tryz.prog 84 #[.agg #[.int .i64 o.f0, .int .i64 o.f1, .int .i64 o.f2.f0, .int .i64 o.f2.f1, .int .i64 o.f3]] w fun e w' => e = .returned (.int .i64 (if orderOk o then 0 else 60)) ∧ Below w.heap.size w w' := by
 refine plan_checkOrder.calls _ _ _ _ _ _ w ?_
 unfold plan_checkOrder.f orderOk plan_isWithin.f plan_isHeat.f inB heatOk
 by_cases h1 : 1 ≤ o.f0 <;> by_cases h2 : o.f0 ≤ 999 <;> simp [h1, h2]
 by_cases h3 : 1 ≤ o.f1 <;> by_cases h4 : o.f1 ≤ 1000 <;> simp [h3, h4]
 by_cases h5 : 0 ≤ o.f2.f0 <;> by_cases h6 : o.f2.f0 ≤ o.f2.f1 <;> by_cases h7 : o.f2.f1 ≤ 2000 <;> simp [h5, h6, h7]
 by_cases h8 : 0 ≤ o.f3 <;> by_cases h9 : o.f3 ≤ 9 <;> simp [h8, h9]
theorem seatBad_b (s : Seat) (w : World) : Calls Tryz.prog 121 #[.agg #[.int .i64 s.f0.f0, .int .i64 s.f0.f1, .int .i64 s.f1, .int .i64 s.f2]] w fun e w' => e = .returned (.bool (!seatOk s)) ∧ Below w.heap.size w w' := by
 refine plan_CheckSeats_1.calls _ _ _ _ _ w ?_
 unfold plan_CheckSeats_1.f plan_checkSeat.f seatOk plan_isWithin.f plan_isHeat.f inB heatOk
 by_cases h5 : 0 ≤ s.f0.f0 <;> by_cases h6 : s.f0.f0 ≤ s.f0.f1 <;> by_cases h7 : s.f0.f1 ≤ 2000 <;> simp [h5, h6, h7]
 by_cases h1 : 0 ≤ s.f1 <;> by_cases h2 : s.f1 ≤ 9 <;> simp [h1, h2]
 by_cases h3 : 0 ≤ s.f2 <;> by_cases h4 : s.f2 ≤ 1000 <;> simp [h3, h4]
def seatsOk (k : List Seat) : Bool := decide (k.length ≤ 24) && !k.any (fun s => !seatOk s)
def plan_CheckSeats.f (l0 : List Seat) : Option Int := some (if seatsOk l0 then 0 else 61)
theorem below_refl_trans {w a b : World} (h : Below w.heap.size w a) (h2 : Below a.heap.size a b) : Below w.heap.size w b := h.trans (h2.mono h.size)
set_option maxHeartbeats 1000000 in
theorem plan_CheckSeats.calls (A0 : Option Addr) (c0 : Nat) (l0 : List Seat) (r : Int) (w : World) (hr0 : Kd.C k70 w A0 l0.length l0) (hc0 : l0.length ≤ c0) (h : plan_CheckSeats.f l0 = some r) :
  Calls Tryz.prog 89 #[.slice A0 l0.length c0] w fun e w' => e = .returned (.int .i64 r) ∧ Below w.heap.size w w' := by
 obtain rfl := Option.some.inj h
 have hlen := hr0.2.1
 have hE : seatsOk l0 = (decide (l0.length ≤ 24) && !l0.any (fun s => !seatOk s)) := rfl
 have hA := idxSeatAny.calls (xs := l0) (A := A0) (c := c0) (g := 121) (lb := #[]) (p := fun s => !seatOk s) (R := fun W W' => Below W.heap.size W W') (w := w)
  {eg := enters_of Tryz.func121 (by kernel_rfl) rfl, refl := Below.refl _ _, call := fun x W hx hW => (seatBad_b x W).mono fun e W' ⟨h1, h2⟩ => ⟨h1, below_refl_trans hW h2⟩ } (fun W hW => Kd.C_below hr0 hW)
 rw [hE]
 clear hE h
 by_cases hl : l0.length ≤ 24
 ·have hd : decide (24 < l0.length) = false := decide_eq_false (by omega)
  have hd2 : decide ((24 : Int) < (l0.length : Int)) = false := decide_eq_false (by omega)
  have hd3 : decide (l0.length ≤ 24) = true := decide_eq_true hl
  rw [hd3]
  clear hd3 hl hr0
  cases hb : l0.any (fun s => !seatOk s)
  all_goals
   rw [hb] at hA
   clear hb
   go_enter Tryz.func89, Tryz.ntmps89
   go_wp2_with (go_at_call 120; refine hA.mono ?_; rintro e w' ⟨rfl, hb'⟩)
   go_ret
   exact ⟨rfl, hb'⟩
 ·have hd : decide (24 < l0.length) = true := decide_eq_true (by omega)
  have hd2 : decide ((24 : Int) < (l0.length : Int)) = true := decide_eq_true (by omega)
  have hd3 : decide (l0.length ≤ 24) = false := decide_eq_false hl
  rw [hd3]
  clear hd3 hl hr0 hA
  go_enter Tryz.func89, Tryz.ntmps89
  go_wp2
  go_ret
  exact ⟨rfl, Below.refl _ _⟩
def ordersOk (l : List Order) : Bool := decide (l.length ≤ 8) && (l.all orderOk && decide ((l.map (·.f0)).Nodup))
def plan_CheckOrders.f (l0 : List Order) : Option Int := some (if ordersOk l0 then 0 else 60)
theorem ordersOk_iff (l : List Order) : ordersOk l = true ↔ l.length ≤ 8 ∧ (∀ o ∈ l, orderOk o = true) ∧ (l.map (·.f0)).Nodup := by
 unfold ordersOk
 simp [List.all_eq_true]
def SeenTo (l : List Order) (k : Nat) (g : Int → Option Bool) : Prop := (∀ o ∈ l.take k, orderOk o = true) ∧ ((l.take k).map (·.f0)).Nodup ∧ ∀ x, g x = if x ∈ (l.take k).map (·.f0) then some true else none
theorem take_snoc' {l : List Order} {k : Nat} {o : Order} (h : l[k]? = some o) : l.take (k + 1) = l.take k ++ [o] := by
 rw [List.take_add_one, h]; rfl
theorem SeenTo.next {l : List Order} {k : Nat} {g : Int → Option Bool} {o : Order} (h : SeenTo l k g) (ho : l[k]? = some o) (h1 : orderOk o = true) (h2 : (g o.f0).getD false = false) : SeenTo l (k + 1) (fun z => if z = o.f0 then some true else g z) := by
 obtain ⟨a, b, c⟩ := h
 have hn : o.f0 ∉ (l.take k).map (·.f0) := by
  intro hm
  rw [c o.f0, if_pos hm] at h2
  simp at h2
 refine ⟨?_, ?_, ?_⟩
 ·rw [take_snoc' ho]
  intro x hx
  rcases List.mem_append.1 hx with hx | hx
  ·exact a x hx
  ·simp at hx; subst hx; exact h1
 ·rw [take_snoc' ho, List.map_append, List.nodup_append]
  refine ⟨b, by simp, ?_⟩
  intro x hx y hy
  simp at hy
  subst hy
  rintro rfl
  exact hn hx
 ·intro x
  rw [take_snoc' ho, List.map_append]
  simp only [List.mem_append, List.map_cons, List.map_nil, List.mem_singleton]
  by_cases e : x = o.f0
  ·simp [e]
  ·simp only [e, or_false, if_false]; exact c x
theorem SeenTo.bad1 {l : List Order} {k : Nat} {o : Order} (ho : l[k]? = some o) (h1 : orderOk o = false) : ordersOk l = false := by
 rw [Bool.eq_false_iff]
 intro h
 have := ((ordersOk_iff l).1 h).2.1 o (List.mem_of_getElem? ho)
 rw [h1] at this
 cases this
theorem SeenTo.bad2 {l : List Order} {k : Nat} {g : Int → Option Bool} {o : Order} (h : SeenTo l k g) (ho : l[k]? = some o) (h2 : (g o.f0).getD false = true) : ordersOk l = false := by
 rw [Bool.eq_false_iff]
 intro h'
 have hd := ((ordersOk_iff l).1 h').2.2
 have hm : o.f0 ∈ (l.take k).map (·.f0) := by
  apply Decidable.byContradiction
  intro hm
  rw [h.2.2, if_neg hm] at h2
  simp at h2
 have h3 : ((l.take (k + 1)).map (·.f0)).Nodup := by
  rw [List.map_take]
  exact hd.sublist (List.take_sublist _ _)
 rw [take_snoc' ho, List.map_append, List.nodup_append] at h3
 exact h3.2.2 _ hm _ (by simp) rfl
theorem SeenTo.done {l : List Order} {k : Nat} {g : Int → Option Bool} (h : SeenTo l k g) (hk : l.length ≤ k) (hl : l.length ≤ 8) : ordersOk l = true := by
 have e := List.take_of_length_le hk
 refine (ordersOk_iff l).2 ⟨hl, ?_, ?_⟩
 ·have := h.1; rwa [e] at this
 ·have := h.2.1; rwa [e] at this
set_option maxHeartbeats 4000000 in
set_option maxRecDepth 100000 in
theorem plan_CheckOrders.calls (A0 : Option Addr) (c0 : Nat) (l0 : List Order) (r : Int) (w : World) (hr0 : Kd.C k72 w A0 l0.length l0) (hc0 : l0.length ≤ c0) (h : plan_CheckOrders.f l0 = some r) :
  Calls Tryz.prog 70 #[.slice A0 l0.length c0] w fun e w' => e = .returned (.int .i64 r) ∧ Below w.heap.size w w' := by
 have HE := Aside0.mk (Option.some.inj h)
 have hlen := hr0.2.1
 clear h
 by_cases hl : l0.length ≤ 8
 ·have hd : decide (8 < l0.length) = false := decide_eq_false (by omega)
  have hd2 : decide ((8 : Int) < (l0.length : Int)) = false := decide_eq_false (by omega)
  have hmm := @run_makeMap Tryz.prog
  have hu := Tryz.underlying72
  have HR := Aside0.mk hr0
  clear hr0
  go_enter Tryz.func70, Tryz.ntmps70
  go_wp2
  go_loopg [5, 12] l0.length (fun gg s5 s12 wr => ∃ kk : Nat, kk ≤ l0.length ∧ l0.length - kk ≤ gg ∧ s12 = .int .i64 kk ∧ Aside0 (Below w.heap.size w wr) ∧ Aside0 (∃ g, SeenTo l0 kk g ∧ IMap Tryz.prog 3 4 .i64 Lit.bool wr w.heap.size kk g))
  case atStart => exact ⟨0, Nat.zero_le _, by omega, rfl, ⟨(Below.refl _ _).alloc (Nat.le_refl _) _⟩, ⟨fun _ => none, ⟨by simp, by simp, by simp⟩, IMap.made w⟩⟩
  case round =>
   obtain ⟨kk, hkk, hg, rfl, HB, HM⟩ := hrel
   by_cases hlt : kk < l0.length
   ·have hltz : (kk : Int) < (l0.length : Int) := by omega
    have ho : l0[kk]? = some (rd_T72 l0 (kk : Int)) := by simp [rd_T72, List.getD_eq_getElem?_getD, hlt]
    obtain ⟨ad, rfl, l0', l1, l2, l3, l4⟩ := at_T72 (Kd.C_below HR.out HB.out) (kk : Int) (by omega) hltz
    simp only [Int.toNat_natCast] at l0' l1 l2 l3 l4
    have hcall := checkOrder_b (rd_T72 l0 (kk : Int))
    obtain ⟨g, hs, hM⟩ := HM.out
    clear HM
    generalize rd_T72 l0 (kk : Int) = o at *
    have HO := Aside0.mk ho
    have HS := Aside0.mk hs
    have HM := Aside0.mk hM
    clear ho hs hM
    cases hq : orderOk o with
    | false =>
     rw [hq] at hcall
     have HC := Aside0.mk hcall
     clear hcall
     go_wp2_with (go_at_call 84; refine (HC.out _).mono ?_; rintro e w' ⟨rfl, hb⟩)
     go_ret
     have e := HE.out
     rw [SeenTo.bad1 HO.out hq] at e
     obtain rfl : 60 = r := e
     exact ⟨rfl, below_then (below_alloc HB.out _) (below_alloc HB.out _).size hb⟩
    | true =>
     rw [hq] at hcall
     have HC := Aside0.mk hcall
     have hwf : (Lit.int .i64 o.f0).wf = true := by
      have : inB o.f0 1 999 = true := by unfold orderOk at hq; simp at hq; exact hq.1
      unfold inB at this
      simp at this
      exact wf_i64 (by omega) (by omega)
     have HW := Aside0.mk hwf
     clear hcall hwf
     cases hg2 : (g o.f0).getD false
     all_goals
      go_wp2_with fail
      refine (HC.out _).mono ?_
      rintro e w' ⟨rfl, hb⟩
      have hb2 := below_then (below_alloc HB.out _) (below_alloc HB.out _).size hb
      have HM2 := Aside0.mk ((HM.out.below (below_alloc (Below.refl _ _) _)).below hb)
      have hlook := HM2.out.look_bool Tryz.underlying3 Tryz.underlying147 Tryz.underlying4 (Tryz.zeroValue4 _) HW.out
      rw [hg2] at hlook
      have hblk := (hb.block wr.heap.size (by simp)).trans (heap_alloc_new wr _)
      have hc0 := (blk_cell hblk 0).trans rfl
      have hc1 := (blk_cell hblk 1).trans rfl
      have hc2 := (blk_cell hblk 2).trans rfl
      have hc3 := (blk_cell hblk 3).trans rfl
      have hc4 := (blk_cell hblk 4).trans rfl
      have HB2 := Aside0.mk hb2
      clear hb hb2 hblk
     ·go_wp2_with (at_mapUpdate; refine wpList_store_imap rfl _ _ _ 147 rfl HM2.out Tryz.underlying3 Tryz.underlying147 (by unfold maxLen; omega) rfl rfl HW.out rfl (plainElem_bool Tryz.underlying4 true) ?_; intro w2 hm2 hgr2; clear hlook)
      have hb3 := Below.grown HB2.out hgr2 HB2.out.size (fun k hk => by cases hk; exact Nat.le_refl _)
      go_roundg (l0.length - (kk + 1))
      case measure => omega
      case rel => exact ⟨kk + 1, by omega, by omega, by go_num, ⟨hb3⟩, ⟨_, HS.out.next HO.out hq hg2, hm2⟩⟩
     ·go_wp2
      go_ret
      have e := HE.out
      rw [SeenTo.bad2 HS.out HO.out hg2] at e
      obtain rfl : 60 = r := e
      exact ⟨rfl, HB2.out⟩
   ·have hltz : ¬ (kk : Int) < (l0.length : Int) := by omega
    have hd1 : decide (kk < l0.length) = false := decide_eq_false hlt
    have hd2 : decide ((kk : Int) < (l0.length : Int)) = false := decide_eq_false hltz
    have hge : l0.length ≤ kk := by omega
    clear hlt hltz
    go_wp2
    go_ret
    obtain ⟨g, hs, _⟩ := HM.out
    have e := HE.out
    rw [hs.done hge hl] at e
    subst e
    exact ⟨rfl, HB.out⟩
 ·have hd : decide (8 < l0.length) = true := decide_eq_true (by omega)
  have hd2 : decide ((8 : Int) < (l0.length : Int)) = true := decide_eq_true (by omega)
  have hd3 : ordersOk l0 = false := by unfold ordersOk; rw [decide_eq_false hl]; rfl
  have e := HE.out
  rw [hd3] at e
  obtain rfl : 60 = r := e
  clear hd3 hl hr0 HE
  go_enter Tryz.func70, Tryz.ntmps70
  go_wp2
  go_ret
  exact ⟨rfl, Below.refl _ _⟩
end Go.Proofs.YthonlcnmjlldiaaGreat.P
namespace Go.Proofs
open Go.Shelf
def Tryz.lays125_ren : Go.Shelf.Ren := ⟨fun | 125 => 108 | 128 => 128 | 129 => 129 | n => n, fun | 46 => 92 | 3 => 3 | 51 => 167 | 53 => 169 | 4 => 4 | 5 => 5 | 9 => 9 | n => n, fun | n => n⟩
theorem Tryz.lays125 : Go.Proofs.Lays.n125 Tryz.prog Tryz.lays125_ren := {
 mixed := by kernel_rfl
 f125 := Tryz.func108.trans (congrArg some (by kernel_rfl))
 f128 := Tryz.func128.trans (congrArg some (by kernel_rfl))
 f129 := Tryz.func129.trans (congrArg some (by kernel_rfl))
 t3 := Tryz.underlying3
 a3 := Tryz.isAgg3
 z3 := Tryz.sizeOf3
 v3 := Tryz.zeroValue3
 t4 := Tryz.underlying4
 a4 := Tryz.isAgg4
 z4 := Tryz.sizeOf4
 v4 := Tryz.zeroValue4
 t5 := Tryz.underlying5
 a5 := Tryz.isAgg5
 z5 := Tryz.sizeOf5
 v5 := Tryz.zeroValue5
 t9 := Tryz.underlying9
 a9 := Tryz.isAgg9
 z9 := Tryz.sizeOf9
 v9 := Tryz.zeroValue9
 t46 := Tryz.underlying92
 a46 := Tryz.isAgg92
 z46 := Tryz.sizeOf92
 v46 := Tryz.zeroValue92
 t51 := Tryz.underlying167
 a51 := Tryz.isAgg167
 z51 := Tryz.sizeOf167
 v51 := Tryz.zeroValue167
 t53 := Tryz.underlying169
 a53 := Tryz.isAgg169
 z53 := Tryz.sizeOf169
 v53 := Tryz.zeroValue169 }
theorem Tryz.bits_Len (x : Int) (w : World) (h0 : 0 ≤ x) (h1 : x ≤ 18446744073709551615) :
  Calls Tryz.prog 108 #[.int .u64 x] w fun e w' => e = .returned (.int .i64 (Lib.bitLen x.toNat)) ∧ w' = w := Any.bits_Len Tryz.lays125 x w h0 h1
def Tryz.sortK_ren : Go.Shelf.Ren := ⟨fun | 6 => 115 | 15 => 108 | 14 => 130 | 28 => 128 | 29 => 129 | 20 => 136 | 21 => 137 | 22 => 138 | 23 => 139 | 24 => 140 | 25 => 141 | 26 => 142 | 27 => 143 | 46 => 146 | 47 => 147 | 48 => 148 | 49 => 149 | 50 => 150 | 57 => 151 | n => n, fun | 22 => 84 | 24 => 93 | 25 => 157 | 3 => 3 | 39 => 92 | 0 => 0 | 53 => 167 | 55 => 169 | 4 => 4 | 46 => 174 | 45 => 173 | 50 => 144 | 5 => 5 | 9 => 9 | 66 => 179 | 70 => 183 | 76 => 185 | 77 => 186 | n => n, fun | n => n⟩
theorem Tryz.sortK : Go.Proofs.SlLaysF.n6 Tryz.prog Tryz.sortK_ren := {
 mixed := by kernel_rfl
 f6 := ⟨Tryz.f115.name, by decide, Tryz.func115.trans (congrArg some (by kernel_rfl))⟩
 f14 := ⟨Tryz.f130.name, by decide, Tryz.func130.trans (congrArg some (by kernel_rfl))⟩
 f15 := Tryz.func108.trans (congrArg some (by kernel_rfl))
 f20 := ⟨Tryz.f136.name, by decide, Tryz.func136.trans (congrArg some (by kernel_rfl))⟩
 f21 := ⟨Tryz.f137.name, by decide, Tryz.func137.trans (congrArg some (by kernel_rfl))⟩
 f22 := ⟨Tryz.f138.name, by decide, Tryz.func138.trans (congrArg some (by kernel_rfl))⟩
 f23 := ⟨Tryz.f139.name, by decide, Tryz.func139.trans (congrArg some (by kernel_rfl))⟩
 f24 := ⟨Tryz.f140.name, by decide, Tryz.func140.trans (congrArg some (by kernel_rfl))⟩
 f25 := ⟨Tryz.f141.name, by decide, Tryz.func141.trans (congrArg some (by kernel_rfl))⟩
 f26 := ⟨Tryz.f142.name, by decide, Tryz.func142.trans (congrArg some (by kernel_rfl))⟩
 f27 := ⟨Tryz.f143.name, by decide, Tryz.func143.trans (congrArg some (by kernel_rfl))⟩
 f28 := Tryz.func128.trans (congrArg some (by kernel_rfl))
 f29 := Tryz.func129.trans (congrArg some (by kernel_rfl))
 f46 := ⟨Tryz.f146.name, by decide, Tryz.func146.trans (congrArg some (by kernel_rfl))⟩
 f47 := Tryz.func147.trans (congrArg some (by kernel_rfl))
 f48 := Tryz.func148.trans (congrArg some (by kernel_rfl))
 f49 := ⟨Tryz.f149.name, by decide, Tryz.func149.trans (congrArg some (by kernel_rfl))⟩
 f50 := ⟨Tryz.f150.name, by decide, Tryz.func150.trans (congrArg some (by kernel_rfl))⟩
 f57 := ⟨Tryz.f151.name, by decide, Tryz.func151.trans (congrArg some (by kernel_rfl))⟩
 t0 := Tryz.underlying0
 a0 := Tryz.isAgg0
 z0 := Tryz.sizeOf0
 v0 := Tryz.zeroValue0
 t3 := Tryz.underlying3
 a3 := Tryz.isAgg3
 z3 := Tryz.sizeOf3
 v3 := Tryz.zeroValue3
 t4 := Tryz.underlying4
 a4 := Tryz.isAgg4
 z4 := Tryz.sizeOf4
 v4 := Tryz.zeroValue4
 t5 := Tryz.underlying5
 a5 := Tryz.isAgg5
 z5 := Tryz.sizeOf5
 v5 := Tryz.zeroValue5
 t9 := Tryz.underlying9
 a9 := Tryz.isAgg9
 z9 := Tryz.sizeOf9
 v9 := Tryz.zeroValue9
 t22 := Tryz.underlying84
 a22 := Tryz.isAgg84
 z22 := Tryz.sizeOf84
 v22 := Tryz.zeroValue84
 a24 := Tryz.isAgg93
 z24 := Tryz.sizeOf93
 t25 := Tryz.underlying157
 a25 := Tryz.isAgg157
 z25 := Tryz.sizeOf157
 v25 := Tryz.zeroValue157
 t39 := Tryz.underlying92
 a39 := Tryz.isAgg92
 z39 := Tryz.sizeOf92
 v39 := Tryz.zeroValue92
 t45 := Tryz.underlying173
 a45 := Tryz.isAgg173
 z45 := Tryz.sizeOf173
 v45 := Tryz.zeroValue173
 t46 := Tryz.underlying174
 a46 := Tryz.isAgg174
 z46 := Tryz.sizeOf174
 v46 := Tryz.zeroValue174
 t50 := Tryz.underlying144
 a50 := Tryz.isAgg144
 z50 := Tryz.sizeOf144
 v50 := Tryz.zeroValue144
 t53 := Tryz.underlying167
 a53 := Tryz.isAgg167
 z53 := Tryz.sizeOf167
 v53 := Tryz.zeroValue167
 t55 := Tryz.underlying169
 a55 := Tryz.isAgg169
 z55 := Tryz.sizeOf169
 v55 := Tryz.zeroValue169
 t66 := Tryz.underlying179
 a66 := Tryz.isAgg179
 z66 := Tryz.sizeOf179
 v66 := Tryz.zeroValue179
 t70 := Tryz.underlying183
 a70 := Tryz.isAgg183
 z70 := Tryz.sizeOf183
 v70 := Tryz.zeroValue183
 t76 := Tryz.underlying185
 a76 := Tryz.isAgg185
 z76 := Tryz.sizeOf185
 v76 := Tryz.zeroValue185
 t77 := Tryz.underlying186
 a77 := Tryz.isAgg186
 z77 := Tryz.sizeOf186
 v77 := Tryz.zeroValue186 }
end Go.Proofs
namespace Go.Proofs.YthonlcnmjlldiaaGreat.P
open Go.RowKit Go.Proofs.YthonlcnmjlldiaaGreatW.PrintWords Go.Proofs.YthonlcnmjlldiaaGreatW.PrintLast Go.Proofs.YthonlcnmjlldiaaGreatW.PrintMore
def bits_Len.f (a0 : Int) : Option Int := if 0 ≤ a0 ∧ a0 ≤ 18446744073709551615 then some (Lib.bitLen a0.toNat) else none
theorem bits_Len.calls (a0 : Int) (r : Int) (w : World) (h : bits_Len.f a0 = some r) :
  Calls Tryz.prog 108 #[.int .u64 a0] w fun e w' => e = .returned (.int .i64 r) ∧ Below w.heap.size w w' := by
 unfold bits_Len.f at h
 split at h
 ·rename_i hc
  obtain rfl := Option.some.inj h
  exact (Tryz.bits_Len a0 w hc.1 hc.2).mono fun e w' ⟨h1, h2⟩ => ⟨h1, h2 ▸ Below.refl _ _⟩
 ·cases h
end Go.Proofs.YthonlcnmjlldiaaGreat.P
namespace Go.Proofs.YthonlcnmjlldiaaGreat.P
open Go.RowKit Go.Proofs.YthonlcnmjlldiaaGreatW.PrintWords Go.Proofs.YthonlcnmjlldiaaGreatW.PrintLast Go.Proofs.YthonlcnmjlldiaaGreatW.PrintMore
attribute [local go_sem] max2_int min2_int max_two min_two max_three min_three max_four min_four
def plan_mask_list.l0 : Nat → Int → List Int → Int → Int → Option (List Int)
 | 0, _, _, _, _ => none
 | k + 1, x0, x3, x6, x7 => if x7 < x6 then ((plan_mask_has.f x0 x7).bind fun t118 => (if t118 = true then (if x3.length < 17592186044416 then (plan_mask_list.l0 k x0 (x3 ++ [x7]) x6 (wrap64 (x7 + 1))) else (none)) else (plan_mask_list.l0 k x0 x3 x6 (wrap64 (x7 + 1))))) else (some x3)
def plan_mask_list.f (k : Nat) (a0 : Int) : Option (List Int) := (bits_Len.f a0).bind fun t117 => (plan_mask_list.l0 k a0 ([] : List Int) t117 0)
theorem plan_mask_list.mono_l : ∀ k, (∀ y0 y1 y2 y3, LeO (plan_mask_list.l0 k y0 y1 y2 y3) (plan_mask_list.l0 (k + 1) y0 y1 y2 y3))
 | 0 => fun _ _ _ _ r h => by simp [plan_mask_list.l0] at h
 | k + 1 => by
  have ih0 := plan_mask_list.mono_l k
  ·intro y0 y1 y2 y3
   unfold plan_mask_list.l0
   repeat' first
   | (with_reducible exact ih0 _ _ _ _)
   | (with_reducible exact LeO.refl _)
   | (with_reducible exact LeO.none _)
   | (with_reducible refine LeO.ite ?_ ?_)
   | (with_reducible refine LeO.bind ?_ (fun _ => ?_))
   | exact ih0 _ _ _ _
   | exact LeO.none _
   | refine LeO.ite ?_ ?_
   | refine LeO.bind ?_ (fun _ => ?_)
theorem plan_mask_list.mono : ∀ a0 k, LeO (plan_mask_list.f k a0) (plan_mask_list.f (k + 1) a0) := by
 intro a0 k
 have ih0 := plan_mask_list.mono_l k
 unfold plan_mask_list.f
 repeat' first
   | (with_reducible exact ih0 _ _ _ _)
   | (with_reducible exact LeO.refl _)
   | (with_reducible exact LeO.none _)
   | (with_reducible refine LeO.ite ?_ ?_)
   | (with_reducible refine LeO.bind ?_ (fun _ => ?_))
   | exact ih0 _ _ _ _
   | exact LeO.none _
   | refine LeO.ite ?_ ?_
   | refine LeO.bind ?_ (fun _ => ?_)
set_option maxHeartbeats 8000000 in
set_option maxRecDepth 100000 in
theorem plan_mask_list.calls (k : Nat) (a0 : Int) (r : List Int) (w : World) (h : plan_mask_list.f k a0 = some r) :
  Calls Tryz.prog 74 #[.int .u64 a0] w fun e w' => ∃ v0_ : Value, e = .returned (v0_) ∧ Kd.R (Kd.int .i64) 3 w' w.heap.size (fun _ => True) v0_ r ∧ Below w.heap.size w w' := by
 have HB := Aside0.mk (Below.refl w.heap.size w)
 have H : ((bits_Len.f a0).bind fun t117 => (plan_mask_list.l0 k a0 ([] : List Int) t117 0)) = some r := h
 clear h
 replace H := Option.bind_eq_some_iff.mp H
 obtain ⟨t117, A20, H⟩ := H
 (try dsimp only at H)
 have A2 := Aside0.mk A20
 clear A20
 have H' := Aside0.mk H
 clear H
 go_enter Tryz.func74, Tryz.ntmps74
 go_wp2_with (first | ((with_reducible refine gate_callee (f := 108) rfl ?_); refine goesL_ (some 6) rfl rfl Tryz.func108 (by kernel_rfl) rfl #[.int .u64 a0] rfl (by (try simp only [List.map_toArray, List.map_cons, List.map_nil]); first | done | rfl | (simp only [List.length_drop, List.length_take]; rfl)) ?_; (with_reducible refine (bits_Len.calls a0 t117 _ A2.out).mono ?_); rintro e w3 ⟨rfl, hb⟩; refine ⟨_, rfl, ?_⟩; have n0_ := Aside0.mk (below_step (by repeat (first | exact HB.out | apply below_alloc | apply pw_below_drewN | apply below_drew1)) hb); clear HB; have HB := n0_; clear n0_; (try clear hb); (try clear hb2); (try clear hk); (try clear hi)))
 go_loopg [3, 7] k (fun kq v3 v7 w' => ∃ (x3_1 : List Int) (x7_1 : Int), v7 = .int .i64 x7_1 ∧ Aside0 (plan_mask_list.l0 kq a0 x3_1 t117 x7_1 = some r) ∧ Aside0 (kq ≤ k) ∧ Aside0 (Kd.R (Kd.int .i64) 3 w' w.heap.size (fun _ => True) v3 x3_1) ∧ Aside0 (Below w.heap.size w w'))
 case atStart => exact ⟨(([] : List Int)), (0), (by first | rfl | (simp; done) | (simp [*]; done)), H', ⟨Nat.le_refl _⟩, ⟨by first | exact Kd.R_nil _ _ _ _ _ | exact Kd.N_nil _ _ _ _ _ | exact Kd.V_nil _ _ _ _ _ | exact Kd.Q_nil _ _ _ _ _ | exact Kd.S_nil _ _ _ _ _⟩, ⟨by repeat (first | exact HB.out | apply below_alloc | apply pw_below_drewN | apply below_drew1)⟩⟩
 case round =>
  clear H'
  try clear c1
  try clear p2
  obtain ⟨x3_1, x7_1, rfl, HA, HK1, HO_3, HB⟩ := hrel
  cases gk with
  | zero => exact absurd HA.out (by simp [plan_mask_list.l0])
  | succ k1 =>
   have H := HA.out
   clear HA
   simp only [plan_mask_list.l0] at H
   by_cases c4 : x7_1 < t117
   ·rw [if_pos c4] at H
    have c4b0 : decide (x7_1 < t117) = true := decide_eq_true c4
    clear c4
    replace H := Option.bind_eq_some_iff.mp H
    obtain ⟨t118, A50, H⟩ := H
    (try dsimp only at H)
    have A5 := Aside0.mk A50
    clear A50
    by_cases c6 : t118 = true
    ·subst c6
     rw [if_pos rfl] at H
     by_cases c7 : x3_1.length < 17592186044416
     ·rw [if_pos c7] at H
      have LMc7 := Aside0.mk c7
      clear c7
      obtain ⟨y119, hy119⟩ : ∃ y_ : List Int, y_ = (x3_1 ++ [x7_1]) := ⟨_, rfl⟩
      replace H : (plan_mask_list.l0 k1 a0 y119 t117 (wrap64 (x7_1 + 1))) = some r := by first | (rw [hy119]; with_reducible exact H) | (have H2_ := (Option.bind_some _ _).symm.trans H; rw [hy119]; with_reducible exact H2_) | (have H2_ := (Option.bind_some _ _).symm.trans H; with_reducible exact H2_) | with_reducible exact H | (rw [hy119]; exact H) | exact H
      have Ny119 := Aside0.mk hy119
      clear hy119
      have H' := Aside0.mk H
      clear H
      go_wp2_with (first | ((with_reducible refine gate_callee (f := 107) rfl ?_); refine goesL_ (some 12) rfl rfl Tryz.func107 (by kernel_rfl) rfl #[.int .u64 a0, .int .i64 x7_1] rfl (by (try simp only [List.map_toArray, List.map_cons, List.map_nil]); first | done | rfl | (simp only [List.length_drop, List.length_take]; rfl)) ?_; (with_reducible refine (plan_mask_has.calls a0 x7_1 true _ A5.out).mono ?_); rintro e w' ⟨rfl, ⟨nd, rfl⟩⟩; refine ⟨_, rfl, ?_⟩) | ((with_reducible refine gate_builtin (b := .append) (xs := #[.tmp 13, .tmp 15]) rfl ?_); at_builtin; refine Kd.R_append (Kd.int .i64) (w0 := w) w.heap.size rfl (.tmp 13) (.tmp 15) 41 3 (.int .i64 0) 8 rfl Tryz.underlying41 info3 rfl (by decide) (by omega) u3 x3_1 x7_1 [.int .i64 x7_1] (fun _ => True) (fun _ => False) rfl rfl ?aP (fun _ hk => hk.elim) ?aF ?aO ?aB ?aS ?aL ?_; (case aP => exact rfl); (case aB => exact (by repeat (first | exact HB.out | apply below_alloc | apply pw_below_drewN | apply below_drew1))); (case aF => exact (fun _ _ => trivial)); (case aO => exact (by (with_reducible repeat (first | apply Kd.R_alloc | apply Kd.R_drewN | apply Kd.R_drew)); exact HO_3.out)); (case aS => exact (below_size (by repeat (first | exact HB.out | apply below_alloc | apply pw_below_drewN | apply below_drew1)))); (case aL => have := LMc7.out; omega); intro v120 w8 ho hb hg hat; rw [← Ny119.out] at ho; have n0_ := Aside0.mk (hb); have n1_ := Aside0.mk (ho); clear HB; clear HO_3; have HB := n0_; have HO121 := n1_; clear n0_ n1_; clear ho hb hg hat))
      go_roundg k1
      case measure => have := HK1.out; omega
      case rel => exact ⟨(y119), (wrap64 (x7_1 + 1)), (by first | rfl | (simp; done) | (simp [*]; done)), H', ⟨by have := HK1.out; omega⟩, ⟨by (with_reducible repeat (first | apply Kd.R_alloc | apply Kd.R_drewN | apply Kd.R_drew)); exact HO121.out⟩, ⟨by repeat (first | exact HB.out | apply below_alloc | apply pw_below_drewN | apply below_drew1)⟩⟩
     ·rw [if_neg c7] at H
      exact absurd H (by simp)
    ·replace c6 := Bool.eq_false_iff.mpr c6
     subst c6
     rw [if_neg (show ¬ (false = true) by decide)] at H
     have H' := Aside0.mk H
     clear H
     go_wp2_with (first | ((with_reducible refine gate_callee (f := 107) rfl ?_); refine goesL_ (some 12) rfl rfl Tryz.func107 (by kernel_rfl) rfl #[.int .u64 a0, .int .i64 x7_1] rfl (by (try simp only [List.map_toArray, List.map_cons, List.map_nil]); first | done | rfl | (simp only [List.length_drop, List.length_take]; rfl)) ?_; (with_reducible refine (plan_mask_has.calls a0 x7_1 false _ A5.out).mono ?_); rintro e w' ⟨rfl, ⟨nd, rfl⟩⟩; refine ⟨_, rfl, ?_⟩))
     go_roundg k1
     case measure => have := HK1.out; omega
     case rel => exact ⟨(x3_1), (wrap64 (x7_1 + 1)), (by first | rfl | (simp; done) | (simp [*]; done)), H', ⟨by have := HK1.out; omega⟩, ⟨by (with_reducible repeat (first | apply Kd.R_alloc | apply Kd.R_drewN | apply Kd.R_drew)); exact HO_3.out⟩, ⟨by repeat (first | exact HB.out | apply below_alloc | apply pw_below_drewN | apply below_drew1)⟩⟩
   ·rw [if_neg c4] at H
    have c4b0 : decide (x7_1 < t117) = false := decide_eq_false c4
    clear c4
    obtain rfl := Option.some.inj H
    go_wp2
    go_ret
    exact ⟨_, by first | rfl | (simp [errW_none, errW_some] <;> rfl) | (simp [*, errW_none, errW_some] <;> rfl), by (with_reducible repeat (first | apply Kd.R_alloc | apply Kd.R_drewN | apply Kd.R_drew)); exact HO_3.out, by repeat (first | exact HB.out | apply below_alloc | apply pw_below_drewN | apply below_drew1)⟩
def plan_need.l0 : Nat → Int → Int → List (S72) → Int → Int → Option (Int)
 | 0, _, _, _, _, _ => none
 | k + 1, x1, x5, x8, x9, x10 => if x10 < x9 then (if 0 ≤ x10 then (if x10 < (x8.length : Int) then ((plan_mask_has.f x1 x10).bind fun t124 => (if t124 = true then (plan_need.l0 k x1 (wrap64 (x5 + ((rd_T72 x8 x10).f1))) x8 x9 (wrap64 (x10 + 1))) else (plan_need.l0 k x1 x5 x8 x9 (wrap64 (x10 + 1))))) else (none)) else (none)) else (some x5)
def plan_need.f (k : Nat) (l0 : List (S72)) (a1 : Int) : Option (Int) := plan_need.l0 k a1 0 l0 (l0.length : Int) 0
set_option maxHeartbeats 8000000 in
set_option maxRecDepth 100000 in
theorem plan_need.calls (k : Nat) (A0 : Option Addr) (c0 : Nat) (l0 : List (S72)) (a1 : Int) (r : Int) (w : World) (hr0 : Kd.C k72 w A0 l0.length l0) (hc0 : l0.length ≤ c0) (h : plan_need.f k l0 a1 = some r) :
  Calls Tryz.prog 71 #[.slice A0 l0.length c0, .int .u64 a1] w fun e w' => e = .returned (.int .i64 r) ∧ Below w.heap.size w w' := by
 have hu72 := Tryz.underlying72
 have HR0 := Aside0.mk hr0
 have HC0 := Aside0.mk hc0
 clear hr0 hc0
 have HB := Aside0.mk (Below.refl w.heap.size w)
 have H : (plan_need.l0 k a1 0 l0 (l0.length : Int) 0) = some r := h
 clear h
 have H' := Aside0.mk H
 clear H
 go_enter Tryz.func71, Tryz.ntmps71
 go_wp2
 go_loopg [5, 10] k (fun kq v5 v10 w' => ∃ (x5_1 : Int) (x10_1 : Int), v5 = .int .i64 x5_1 ∧ v10 = .int .i64 x10_1 ∧ Aside0 (plan_need.l0 kq a1 x5_1 l0 (l0.length : Int) x10_1 = some r) ∧ Aside0 (kq ≤ k) ∧ Aside0 (Below w.heap.size w w'))
 case atStart => exact ⟨(0), (0), (by first | rfl | (simp; done) | (simp [*]; done)), (by first | rfl | (simp; done) | (simp [*]; done)), H', ⟨Nat.le_refl _⟩, ⟨by repeat (first | exact HB.out | apply below_alloc | apply pw_below_drewN | apply below_drew1)⟩⟩
 case round =>
  clear H'
  try clear p2
  obtain ⟨x5_1, x10_1, rfl, rfl, HA, HK1, HB⟩ := hrel
  cases gk with
  | zero => exact absurd HA.out (by simp [plan_need.l0])
  | succ k1 =>
   have H := HA.out
   clear HA
   simp only [plan_need.l0] at H
   by_cases c3 : x10_1 < (l0.length : Int)
   ·rw [if_pos c3] at H
    have c3b0 : decide (x10_1 < (l0.length : Int)) = true := decide_eq_true c3
    clear c3
    by_cases c4 : 0 ≤ x10_1
    ·rw [if_pos c4] at H
     have c4b0 : decide (0 ≤ x10_1) = true := decide_eq_true c4
     clear c4
     by_cases c5 : x10_1 < (l0.length : Int)
     ·rw [if_pos c5] at H
      have c5b0 : decide (x10_1 < (l0.length : Int)) = true := decide_eq_true c5
      clear c5
      replace H := Option.bind_eq_some_iff.mp H
      obtain ⟨t124, A60, H⟩ := H
      (try dsimp only at H)
      have A6 := Aside0.mk A60
      clear A60
      by_cases c7 : t124 = true
      ·subst c7
       rw [if_pos rfl] at H
       have H' := Aside0.mk H
       clear H
       have p122 : 0 ≤ (x10_1 : Int) := of_decide_eq_true (by first | (with_reducible assumption) | assumption)
       have q122 : x10_1 < (l0.length : Int) := of_decide_eq_true (by first | (with_reducible assumption) | assumption)
       obtain ⟨ad122, e122, hx122_0, hx122_1, hx122_2, hx122_3, hx122_4⟩ := at_T72 HR0.out x10_1 p122 q122
       cases e122
       replace hx122_0 := (HB.out.cell (World.block_lt_of_cell? w _ hx122_0)).trans hx122_0
       replace hx122_1 := (HB.out.cell (World.block_lt_of_cell? w _ hx122_1)).trans hx122_1
       replace hx122_2 := (HB.out.cell (World.block_lt_of_cell? w _ hx122_2)).trans hx122_2
       replace hx122_3 := (HB.out.cell (World.block_lt_of_cell? w _ hx122_3)).trans hx122_3
       replace hx122_4 := (HB.out.cell (World.block_lt_of_cell? w _ hx122_4)).trans hx122_4
       replace p122 := eq_true p122
       replace q122 := eq_true q122
       go_wp2_with (first | ((with_reducible refine gate_dst (N := 7) rfl ?_); refine box_event ?hg (N := 7) ?hd (cs := #[.int .i64 0, .int .i64 0, .int .i64 0, .int .i64 0, .int .i64 0]) (t := 72) ?hr ?_; (case hd => rfl); (case hg => rfl); (case hr => first | (go_simp; done) | (go_simp; rfl)); intro gb123 hg w8 hbox hb; have n0_ := Aside0.mk (below_step (by repeat (first | exact HB.out | apply below_alloc | apply pw_below_drewN | apply below_drew1)) hb); have n1_ := Aside0.mk (hbox); have n2_ := Aside0.mk ((by rw [hg]; exact (below_size (by repeat (first | exact HB.out | apply below_alloc | apply pw_below_drewN | apply below_drew1))) : w.heap.size ≤ gb123)); have n3_ := Aside0.mk ((by rw [hg]; exact (below_size (by repeat (first | exact HB.out | apply below_alloc | apply pw_below_drewN | apply below_drew1))) : w.heap.size ≤ gb123)); clear HB; have HB := n0_; have BK123 := n1_; have GW123 := n2_; have GE123 := n3_; clear n0_ n1_ n2_ n3_; clear hb hbox hg; have hcz9_0 : w8.cell? ⟨gb123, 0, none⟩ = some (.int .i64 0) := (blk_cell BK123.out 0).trans rfl; have hcz9_1 : w8.cell? ⟨gb123, 1, none⟩ = some (.int .i64 0) := (blk_cell BK123.out 1).trans rfl; have hcz9_2 : w8.cell? ⟨gb123, 2, none⟩ = some (.int .i64 0) := (blk_cell BK123.out 2).trans rfl; have hcz9_3 : w8.cell? ⟨gb123, 3, none⟩ = some (.int .i64 0) := (blk_cell BK123.out 3).trans rfl; have hcz9_4 : w8.cell? ⟨gb123, 4, none⟩ = some (.int .i64 0) := (blk_cell BK123.out 4).trans rfl; have hfz9_0 := blk_frozen BK123.out 0; have hfz9_1 := blk_frozen BK123.out 1; have hfz9_2 := blk_frozen BK123.out 2; have hfz9_3 := blk_frozen BK123.out 3; have hfz9_4 := blk_frozen BK123.out 4) | ((with_reducible refine gate_callee (f := 107) rfl ?_); refine goesL_ (some 17) rfl rfl Tryz.func107 (by kernel_rfl) rfl #[.int .u64 a1, .int .i64 x10_1] rfl (by (try simp only [List.map_toArray, List.map_cons, List.map_nil]); first | done | rfl | (simp only [List.length_drop, List.length_take]; rfl)) ?_; (with_reducible refine (plan_mask_has.calls a1 x10_1 true _ A6.out).mono ?_); rintro e w' ⟨rfl, ⟨nd, rfl⟩⟩; refine ⟨_, rfl, ?_⟩))
       go_roundg k1
       case measure => have := HK1.out; omega
       case rel => exact ⟨(wrap64 (x5_1 + ((rd_T72 l0 x10_1).f1))), (wrap64 (x10_1 + 1)), (by first | rfl | (simp; done) | (simp [*]; done)), (by first | rfl | (simp; done) | (simp [*]; done)), H', ⟨by have := HK1.out; omega⟩, ⟨by repeat (first | exact HB.out | apply below_alloc | apply pw_below_drewN | apply below_drew1 | refine below_set ?_ GE123.out)⟩⟩
      ·replace c7 := Bool.eq_false_iff.mpr c7
       subst c7
       rw [if_neg (show ¬ (false = true) by decide)] at H
       have H' := Aside0.mk H
       clear H
       have p122 : 0 ≤ (x10_1 : Int) := of_decide_eq_true (by first | (with_reducible assumption) | assumption)
       have q122 : x10_1 < (l0.length : Int) := of_decide_eq_true (by first | (with_reducible assumption) | assumption)
       obtain ⟨ad122, e122, hx122_0, hx122_1, hx122_2, hx122_3, hx122_4⟩ := at_T72 HR0.out x10_1 p122 q122
       cases e122
       replace hx122_0 := (HB.out.cell (World.block_lt_of_cell? w _ hx122_0)).trans hx122_0
       replace hx122_1 := (HB.out.cell (World.block_lt_of_cell? w _ hx122_1)).trans hx122_1
       replace hx122_2 := (HB.out.cell (World.block_lt_of_cell? w _ hx122_2)).trans hx122_2
       replace hx122_3 := (HB.out.cell (World.block_lt_of_cell? w _ hx122_3)).trans hx122_3
       replace hx122_4 := (HB.out.cell (World.block_lt_of_cell? w _ hx122_4)).trans hx122_4
       replace p122 := eq_true p122
       replace q122 := eq_true q122
       go_wp2_with (first | ((with_reducible refine gate_dst (N := 7) rfl ?_); refine box_event ?hg (N := 7) ?hd (cs := #[.int .i64 0, .int .i64 0, .int .i64 0, .int .i64 0, .int .i64 0]) (t := 72) ?hr ?_; (case hd => rfl); (case hg => rfl); (case hr => first | (go_simp; done) | (go_simp; rfl)); intro gb123 hg w10 hbox hb; have n0_ := Aside0.mk (below_step (by repeat (first | exact HB.out | apply below_alloc | apply pw_below_drewN | apply below_drew1)) hb); have n1_ := Aside0.mk (hbox); have n2_ := Aside0.mk ((by rw [hg]; exact (below_size (by repeat (first | exact HB.out | apply below_alloc | apply pw_below_drewN | apply below_drew1))) : w.heap.size ≤ gb123)); have n3_ := Aside0.mk ((by rw [hg]; exact (below_size (by repeat (first | exact HB.out | apply below_alloc | apply pw_below_drewN | apply below_drew1))) : w.heap.size ≤ gb123)); clear HB; have HB := n0_; have BK123 := n1_; have GW123 := n2_; have GE123 := n3_; clear n0_ n1_ n2_ n3_; clear hb hbox hg; have hcz11_0 : w10.cell? ⟨gb123, 0, none⟩ = some (.int .i64 0) := (blk_cell BK123.out 0).trans rfl; have hcz11_1 : w10.cell? ⟨gb123, 1, none⟩ = some (.int .i64 0) := (blk_cell BK123.out 1).trans rfl; have hcz11_2 : w10.cell? ⟨gb123, 2, none⟩ = some (.int .i64 0) := (blk_cell BK123.out 2).trans rfl; have hcz11_3 : w10.cell? ⟨gb123, 3, none⟩ = some (.int .i64 0) := (blk_cell BK123.out 3).trans rfl; have hcz11_4 : w10.cell? ⟨gb123, 4, none⟩ = some (.int .i64 0) := (blk_cell BK123.out 4).trans rfl; have hfz11_0 := blk_frozen BK123.out 0; have hfz11_1 := blk_frozen BK123.out 1; have hfz11_2 := blk_frozen BK123.out 2; have hfz11_3 := blk_frozen BK123.out 3; have hfz11_4 := blk_frozen BK123.out 4) | ((with_reducible refine gate_callee (f := 107) rfl ?_); refine goesL_ (some 17) rfl rfl Tryz.func107 (by kernel_rfl) rfl #[.int .u64 a1, .int .i64 x10_1] rfl (by (try simp only [List.map_toArray, List.map_cons, List.map_nil]); first | done | rfl | (simp only [List.length_drop, List.length_take]; rfl)) ?_; (with_reducible refine (plan_mask_has.calls a1 x10_1 false _ A6.out).mono ?_); rintro e w' ⟨rfl, ⟨nd, rfl⟩⟩; refine ⟨_, rfl, ?_⟩))
       go_roundg k1
       case measure => have := HK1.out; omega
       case rel => exact ⟨(x5_1), (wrap64 (x10_1 + 1)), (by first | rfl | (simp; done) | (simp [*]; done)), (by first | rfl | (simp; done) | (simp [*]; done)), H', ⟨by have := HK1.out; omega⟩, ⟨by repeat (first | exact HB.out | apply below_alloc | apply pw_below_drewN | apply below_drew1 | refine below_set ?_ GE123.out)⟩⟩
     ·rw [if_neg c5] at H
      exact absurd H (by simp)
    ·rw [if_neg c4] at H
     exact absurd H (by simp)
   ·rw [if_neg c3] at H
    have c3b0 : decide (x10_1 < (l0.length : Int)) = false := decide_eq_false c3
    clear c3
    obtain rfl := Option.some.inj H
    go_wp2
    go_ret
    exact ⟨by first | rfl | (simp [errW_none, errW_some] <;> rfl) | (simp [*, errW_none, errW_some] <;> rfl), by repeat (first | exact HB.out | apply below_alloc | apply pw_below_drewN | apply below_drew1)⟩
mutual
def plan_firings.l0 : Nat → List Int → List Int → Int → Int → Option (List Int)
 | 0, _, _, _, _ => none
 | k + 1, x3, x6, x7, x8 => if x8 < x7 then (if 0 ≤ x8 then (if x8 < (x6.length : Int) then (plan_firings.l1 k x3 x8 (rd x6 x8) x6 x7 x8) else (none)) else (none)) else (some x3)
def plan_firings.l1 : Nat → List Int → Int → Int → List Int → Int → Int → Option (List Int)
 | 0, _, _, _, _, _, _ => none
 | k + 1, x3, x4, x5, x6, x7, x8 => if (x3.length : Int) ≤ x5 then (if x3.length < 17592186044416 then (plan_firings.l1 k (x3 ++ [0]) x4 x5 x6 x7 x8) else (none)) else (if 0 ≤ x5 then (if x5 < (x3.length : Int) then (if 0 ≤ x4 then (plan_firings.l0 k (x3.set (x5 : Int).toNat (Go.bits .or .u64 (rd x3 x5) (shl .u64 1 x4))) x6 x7 (wrap64 (x8 + 1))) else (none)) else (none)) else (none))
end
def plan_firings.f (k : Nat) (l0 : List Int) : Option (List Int) := plan_firings.l0 k ([] : List Int) l0 (l0.length : Int) 0
def plan_firings.T7 : Bool × List (List Nat × List Nat) := (true, [([], []), ([], []), ([0, 1], [0, 1]), ([2], [2]), ([], []), ([4], [4]), ([3, 5], [3, 5]), ([0, 1, 0, 1, 2, 3, 4, 5, 6], [0, 1]), ([7, 6, 0, 1, 2, 3, 4, 5, 6], [6, 7])])
def plan_firings.B7 : List Nat := [0, 0, 3, 7, 0, 16, 63, 127, 255]
theorem plan_firings.tab7 : rtab .any (opsOf Tryz.f91 7) = plan_firings.T7 := by kernel_rfl
theorem plan_firings.bits7 : waitsOk plan_firings.T7.2 plan_firings.B7 = true := by kernel_rfl
set_option maxHeartbeats 8000000 in
set_option maxRecDepth 100000 in
theorem plan_firings.calls (k : Nat) (A0 : Option Addr) (c0 : Nat) (l0 : List Int) (r : List Int) (w : World) (hr0 : Kd.C (Kd.int .i64) w A0 l0.length l0) (hc0 : l0.length ≤ c0) (h : plan_firings.f k l0 = some r) :
  Calls Tryz.prog 91 #[.slice A0 l0.length c0] w fun e w' => ∃ v0_ : Value, e = .returned (v0_) ∧ Kd.R (Kd.int .u64) 93 w' w.heap.size (fun _ => True) v0_ r ∧ Below w.heap.size w w' := by
 have HR0 := Aside0.mk hr0
 have HC0 := Aside0.mk hc0
 clear hr0 hc0
 have HB := Aside0.mk (Below.refl w.heap.size w)
 have H : (plan_firings.l0 k ([] : List Int) l0 (l0.length : Int) 0) = some r := h
 clear h
 have H' := Aside0.mk H
 clear H
 go_enter Tryz.func91, Tryz.ntmps91
 go_wp2
 go_loopg [3, 8] k (fun kq v3 v8 w' => ∃ (x3_1 : List Int) (x8_1 : Int), v8 = .int .i64 x8_1 ∧ Aside0 (plan_firings.l0 kq x3_1 l0 (l0.length : Int) x8_1 = some r) ∧ Aside0 (kq ≤ k) ∧ Aside0 (Kd.R (Kd.int .u64) 93 w' w.heap.size (fun _ => True) v3 x3_1) ∧ Aside0 (Below w.heap.size w w'))
 case atStart => exact ⟨(([] : List Int)), (0), (by first | rfl | (simp; done) | (simp [*]; done)), H', ⟨Nat.le_refl _⟩, ⟨by first | exact Kd.R_nil _ _ _ _ _ | exact Kd.N_nil _ _ _ _ _ | exact Kd.V_nil _ _ _ _ _ | exact Kd.Q_nil _ _ _ _ _ | exact Kd.S_nil _ _ _ _ _⟩, ⟨by repeat (first | exact HB.out | apply below_alloc | apply pw_below_drewN | apply below_drew1)⟩⟩
 case round =>
  clear H'
  obtain ⟨x3_1, x8_1, rfl, HA, HK1, HO_3, HB⟩ := hrel
  cases gk with
  | zero => exact absurd HA.out (by simp [plan_firings.l0])
  | succ k1 =>
   have H := HA.out
   clear HA
   simp only [plan_firings.l0] at H
   by_cases c2 : x8_1 < (l0.length : Int)
   ·rw [if_pos c2] at H
    have c2b0 : decide (x8_1 < (l0.length : Int)) = true := decide_eq_true c2
    clear c2
    by_cases c3 : 0 ≤ x8_1
    ·rw [if_pos c3] at H
     have c3b0 : decide (0 ≤ x8_1) = true := decide_eq_true c3
     clear c3
     by_cases c4 : x8_1 < (l0.length : Int)
     ·rw [if_pos c4] at H
      have c4b0 : decide (x8_1 < (l0.length : Int)) = true := decide_eq_true c4
      clear c4
      have H' := Aside0.mk H
      clear H
      have p125 : 0 ≤ (x8_1 : Int) := of_decide_eq_true (by first | (with_reducible assumption) | assumption)
      have q125 : x8_1 < (l0.length : Int) := of_decide_eq_true (by first | (with_reducible assumption) | assumption)
      obtain ⟨ad125, e125, hx125_0⟩ := Kd.at_int HR0.out x8_1 p125 q125
      cases e125
      replace hx125_0 := (HB.out.cell (World.block_lt_of_cell? w _ hx125_0)).trans hx125_0
      replace p125 := eq_true p125
      replace q125 := eq_true q125
      go_wp2
      go_loopg [3] k1 (fun kq v3 w' => ∃ (x3_2 : List Int), Aside0 (plan_firings.l1 kq x3_2 x8_1 (rd l0 x8_1) l0 (l0.length : Int) x8_1 = some r) ∧ Aside0 (kq ≤ k1) ∧ Aside0 (Kd.R (Kd.int .u64) 93 w' w.heap.size (fun _ => True) v3 x3_2) ∧ Aside0 (Below w.heap.size w w'))
      case atStart => exact ⟨(x3_1), H', ⟨Nat.le_refl _⟩, ⟨by (with_reducible repeat (first | apply Kd.R_alloc | apply Kd.R_drewN | apply Kd.R_drew)); exact HO_3.out⟩, ⟨by repeat (first | exact HB.out | apply below_alloc | apply pw_below_drewN | apply below_drew1)⟩⟩
      case round =>
       clear H'
       try clear p1
       try clear q1
       try clear hx1
       try clear c2
       try clear c2b0
       try clear p2
       try clear c3
       try clear c3b0
       try clear c4
       try clear c4b0
       try clear hx125_0
       try clear p125
       try clear q125
       obtain ⟨x3_2, HA, HK2, HO_3, HB⟩ := hrel
       cases gk with
       | zero => exact absurd HA.out (by simp [plan_firings.l1])
       | succ k2 =>
        have H := HA.out
        clear HA
        simp only [plan_firings.l1] at H
        by_cases c5 : (x3_2.length : Int) ≤ (rd l0 x8_1)
        ·rw [if_pos c5] at H
         have c5b0 : decide ((x3_2.length : Int) ≤ (rd l0 x8_1)) = true := decide_eq_true c5
         clear c5
         by_cases c6 : x3_2.length < 17592186044416
         ·rw [if_pos c6] at H
          have LMc6 := Aside0.mk c6
          clear c6
          obtain ⟨y126, hy126⟩ : ∃ y_ : List Int, y_ = (x3_2 ++ [0]) := ⟨_, rfl⟩
          replace H : (plan_firings.l1 k2 y126 x8_1 (rd l0 x8_1) l0 (l0.length : Int) x8_1) = some r := by first | (rw [hy126]; with_reducible exact H) | (have H2_ := (Option.bind_some _ _).symm.trans H; rw [hy126]; with_reducible exact H2_) | (have H2_ := (Option.bind_some _ _).symm.trans H; with_reducible exact H2_) | with_reducible exact H | (rw [hy126]; exact H) | exact H
          have Ny126 := Aside0.mk hy126
          clear hy126
          have H' := Aside0.mk H
          clear H
          obtain ⟨Ao7, co7, eo7⟩ := Kd.R_slice HO_3.out
          subst eo7
          go_wp2_with (first | ((with_reducible refine gate_builtin (b := .append) (xs := #[.tmp 17, .tmp 18]) rfl ?_); at_builtin; refine Kd.R_append (Kd.int .u64) (w0 := w) w.heap.size rfl (.tmp 17) (.tmp 18) 84 93 (.int .u64 0) 8 rfl Tryz.underlying84 info93 rfl (by decide) (by omega) (.slice Ao7 x3_2.length co7) x3_2 0 [.int .u64 0] (fun _ => True) (fun _ => False) rfl rfl ?aP (fun _ hk => hk.elim) ?aF ?aO ?aB ?aS ?aL ?_; (case aP => exact rfl); (case aB => exact (by repeat (first | exact HB.out | apply below_alloc | apply pw_below_drewN | apply below_drew1))); (case aF => exact (fun _ _ => trivial)); (case aO => exact (by (with_reducible repeat (first | apply Kd.R_alloc | apply Kd.R_drewN | apply Kd.R_drew)); exact HO_3.out)); (case aS => exact (below_size (by repeat (first | exact HB.out | apply below_alloc | apply pw_below_drewN | apply below_drew1)))); (case aL => have := LMc6.out; omega); intro v127 w8 ho hb hg hat; rw [← Ny126.out] at ho; have n0_ := Aside0.mk (hb); have n1_ := Aside0.mk (ho); clear HB; clear HO_3; have HB := n0_; have HO128 := n1_; clear n0_ n1_; clear ho hb hg hat))
          go_roundg k2
          case measure => have := HK1.out; have := HK2.out; omega
          case rel => exact ⟨(y126), H', ⟨by have := HK1.out; have := HK2.out; omega⟩, ⟨by (with_reducible repeat (first | apply Kd.R_alloc | apply Kd.R_drewN | apply Kd.R_drew)); exact HO128.out⟩, ⟨by repeat (first | exact HB.out | apply below_alloc | apply pw_below_drewN | apply below_drew1)⟩⟩
         ·rw [if_neg c6] at H
          exact absurd H (by simp)
        ·rw [if_neg c5] at H
         have c5b0 : decide ((x3_2.length : Int) ≤ (rd l0 x8_1)) = false := decide_eq_false c5
         clear c5
         by_cases c9 : 0 ≤ (rd l0 x8_1)
         ·rw [if_pos c9] at H
          have c9b0 : decide (0 ≤ (rd l0 x8_1)) = true := decide_eq_true c9
          clear c9
          by_cases c10 : (rd l0 x8_1) < (x3_2.length : Int)
          ·rw [if_pos c10] at H
           have c10b0 : decide ((rd l0 x8_1) < (x3_2.length : Int)) = true := decide_eq_true c10
           clear c10
           by_cases c11 : 0 ≤ x8_1
           ·rw [if_pos c11] at H
            have c11b0 := eq_true c11
            have c11b1 : decide (0 ≤ x8_1) = true := decide_eq_true c11
            clear c11
            obtain ⟨ji12, hji12⟩ : ∃ j_ : Int, (shl .u64 1 x8_1) = j_ := ⟨_, rfl⟩
            replace H : (plan_firings.l0 k2 (x3_2.set ((rd l0 x8_1) : Int).toNat (Go.bits .or .u64 (rd x3_2 (rd l0 x8_1)) (ji12))) l0 (l0.length : Int) (wrap64 (x8_1 + 1))) = some r := by first | (rw [hji12] at H; exact H) | (simp only [hji12] at H ⊢; exact H)
            have hji12_ : (IntKind.u64.wrap (1 * 2 ^ min x8_1.toNat 64)) = ji12 := hji12
            have hji12z : x8_1 ≤ 64 → (IntKind.u64.wrap (1 * 2 ^ x8_1.toNat)) = ji12 := shl_small hji12
            have hji12u : (IntKind.u64.wrap (2 ^ min x8_1.toNat 64)) = ji12 := by have h_ := hji12_; rw [Int.one_mul] at h_; exact h_
            have hji12v : x8_1 ≤ 64 → (IntKind.u64.wrap (2 ^ x8_1.toNat)) = ji12 := fun hle_ => by have h_ := hji12z hle_; rw [Int.one_mul] at h_; exact h_
            obtain ⟨y130, hy130⟩ : ∃ y_ : List Int, y_ = (x3_2.set ((rd l0 x8_1) : Int).toNat (Go.bits .or .u64 (rd x3_2 (rd l0 x8_1)) (ji12))) := ⟨_, rfl⟩
            replace H : (plan_firings.l0 k2 y130 l0 (l0.length : Int) (wrap64 (x8_1 + 1))) = some r := by first | (rw [hy130]; with_reducible exact H) | (have H2_ := (Option.bind_some _ _).symm.trans H; rw [hy130]; with_reducible exact H2_) | (have H2_ := (Option.bind_some _ _).symm.trans H; with_reducible exact H2_) | with_reducible exact H | (rw [hy130]; exact H) | exact H
            have Ny130 := Aside0.mk hy130
            clear hy130
            have H' := Aside0.mk H
            clear H
            obtain ⟨Ao14, co14, eo14⟩ := Kd.R_slice HO_3.out
            subst eo14
            try go_wp2
            have n0_ := Aside0.mk (Kd.R_drew HO_3.out)
            have n1_ := Aside0.mk (below_drew1 HB.out)
            clear HO_3
            clear HB
            have HO_3 := n0_
            have HB := n1_
            clear n0_ n1_
            have p129 : 0 ≤ ((rd l0 x8_1) : Int) := of_decide_eq_true (by first | (with_reducible assumption) | assumption)
            have q129 : (rd l0 x8_1) < (x3_2.length : Int) := of_decide_eq_true (by first | (with_reducible assumption) | assumption)
            obtain ⟨ad129, e129, hx129_0⟩ := Kd.at_int (Kd.R_reads' HO_3.out).2.2 (rd l0 x8_1) p129 q129
            cases e129
            replace p129 := eq_true p129
            replace q129 := eq_true q129
            have p13 : 0 ≤ ((rd l0 x8_1) : Int) := of_decide_eq_true (by first | (with_reducible assumption) | assumption)
            have q13 : ((rd l0 x8_1) : Int) < ((x3_2.length : Int) : Int) := of_decide_eq_true (by first | (with_reducible assumption) | assumption)
            obtain ⟨go13, co13, eo13, gb13, gl13, cl13, HG13⟩ := Kd.R_form HO_3.out (by omega)
            (first | cases eo13 | (injection eo13 with ea_ en_ ec_; (first | subst ea_ | (injection ea_ with ea_; subst ea_)); subst ec_; clear en_))
            have GB13 := Aside0.mk gb13
            have GG13 := Aside0.mk HG13
            clear gb13 gl13 HG13
            (first | simp only [add_plain] at hx129_0 | skip)
            obtain ⟨hx13_0, hf13_0⟩ := Kd.R_celln 0 HO_3.out ((rd l0 x8_1) : Int) p13 q13
            replace p13 := eq_true p13
            replace q13 := eq_true q13
            have HP16 := Kd.R_putn HO_3.out ((rd l0 x8_1) : Int) (Go.bits .or .u64 (rd x3_2 (rd l0 x8_1)) (ji12))
            rw [← Ny130.out] at HP16
            have HQ16 := Aside0.mk HP16
            clear HP16
            refine start_ (n := 9) (S := fun w' => w'.cell? ⟨go13, ((rd l0 x8_1)).toNat, none⟩ = some (.int .u64 (rd x3_2 (rd l0 x8_1)))) (ds := [8]) #[false, false, false, false, false, false, false, false, false] (by kernel_rfl) rfl rfl (hx129_0) (fun hHeld => ?_); refine with_tabW plan_firings.tab7 plan_firings.bits7 (fun HT_ HW_ => ?_)
            generalize wr.drew = w15 at HO_3 HB GG13 HQ16 hf13_0 hx129_0 hx13_0 hHeld ⊢
            refine pure_ (i := 0) (N := some 20) (v := ?_) (a' := ?_) #[true, false, false, false, false, false, false, false, false] rfl rfl (any_of HT_.out (by kernel_rfl)) (fun _ _ _ h => h) (Or.inl ⟨by rfl, ?_⟩) ?_ ?_
            rotate_left
            ·intro w'
             go_simp
             with_reducible rfl
            rotate_left
            ·simp only [Act.put, List.setIfInBounds_toArray, List.set_cons_zero, List.set_cons_succ, i64_w, i32_w]
             rfl
            refine pure_ (i := 1) (N := some 21) (v := ?_) (a' := ?_) #[true, true, false, false, false, false, false, false, false] rfl rfl (any_of HT_.out (by kernel_rfl)) (fun _ _ _ h => h) (Or.inl ⟨by rfl, ?_⟩) ?_ ?_
            rotate_left
            ·intro w'
             go_simp
             with_reducible rfl
            rotate_left
            ·simp only [Act.put, List.setIfInBounds_toArray, List.set_cons_zero, List.set_cons_succ, i64_w, i32_w]
             rfl
            refine pure_ (i := 2) (N := some 22) (v := ?_) (a' := ?_) #[true, true, true, false, false, false, false, false, false] rfl rfl (any_of HT_.out (by kernel_rfl)) (fun _ _ _ h => h) (Or.inl ⟨by rfl, ?_⟩) ?_ ?_
            rotate_left
            ·intro w'
             go_simp
             with_reducible rfl
            rotate_left
            ·simp only [Act.put, List.setIfInBounds_toArray, List.set_cons_zero, List.set_cons_succ, i64_w, i32_w]
             rfl
            refine pure_ (i := 4) (N := some 24) (v := ?_) (a' := ?_) #[true, true, true, false, true, false, false, false, false] rfl rfl (any_of HT_.out (by kernel_rfl)) (fun _ _ _ h => h) (Or.inl ⟨by rfl, ?_⟩) ?_ ?_
            rotate_left
            ·intro w'
             go_simp
             with_reducible rfl
            rotate_left
            ·simp only [Act.put, List.setIfInBounds_toArray, List.set_cons_zero, List.set_cons_succ, i64_w, i32_w]
             rfl
            refine pure_ (i := 5) (N := some 25) (v := ?_) (a' := ?_) #[true, true, true, false, true, true, false, false, false] rfl rfl (any_of HT_.out (by kernel_rfl)) (fun _ _ _ h => h) (Or.inl ⟨by rfl, ?_⟩) ?_ ?_
            rotate_left
            ·intro w'
             go_simp
             with_reducible rfl
            rotate_left
            ·simp only [Act.put, List.setIfInBounds_toArray, List.set_cons_zero, List.set_cons_succ, i64_w, i32_w]
             rfl
            refine take_ (i := 3) (N := some 23) (v := ?_) (a' := ?_) #[true, true, true, true, true, true, false, false, false] rfl rfl (take_ofW HT_.out HW_.out (by kernel_rfl)) (fun _ _ _ h => h) (Or.inl ⟨by rfl, ?_⟩) hHeld ?_ ?_
            rotate_left
            ·intro w' s0
             go_simp
             with_reducible rfl
            rotate_left
            ·simp only [Act.put, List.setIfInBounds_toArray, List.set_cons_zero, List.set_cons_succ, i64_w, i32_w]
             rfl
            refine pure_ (i := 6) (N := some 26) (v := ?_) (a' := ?_) #[true, true, true, true, true, true, true, false, false] rfl rfl (any_of HT_.out (by kernel_rfl)) (fun _ _ _ h => h) (Or.inl ⟨by rfl, ?_⟩) ?_ ?_
            rotate_left
            ·intro w'
             go_simp
             with_reducible rfl
            rotate_left
            ·simp only [Act.put, List.setIfInBounds_toArray, List.set_cons_zero, List.set_cons_succ, i64_w, i32_w]
             rfl
            refine pure_ (i := 7) (N := some 27) (v := ?_) (a' := ?_) #[true, true, true, true, true, true, true, true, false] rfl rfl (any_of HT_.out (by kernel_rfl)) (fun _ _ _ h => h) (Or.inl ⟨by rfl, ?_⟩) ?_ ?_
            rotate_left
            ·intro w'
             go_simp
             with_reducible rfl
            rotate_left
            ·simp only [Act.put, List.setIfInBounds_toArray, List.set_cons_zero, List.set_cons_succ, i64_w, i32_w]
             rfl
            refine last_ (i := 8) (N := none) #[true, true, true, true, true, true, true, true, true] rfl rfl (one_of HT_.out (by kernel_rfl)) (by decide) (fun K hK => ?_)
            refine skip_ (w1 := ?_) (by rfl) rfl ?_ ?_
            rotate_left
            ·go_simp
             rfl
            refine hK.out _ _ ?_
            clear hK K
            refine done_ (done_of HT_.out (by kernel_rfl)) ?_
            try go_wp2
            go_roundg k2
            case measure => have := HK1.out; have := HK2.out; omega
            case rel => exact ⟨(y130), (wrap64 (x8_1 + 1)), (by first | rfl | (simp; done) | (simp [*]; done)), H', ⟨by have := HK1.out; have := HK2.out; omega⟩, ⟨by (with_reducible repeat (first | apply Kd.R_alloc | apply Kd.R_drewN | apply Kd.R_drew)); exact HQ16.out⟩, ⟨by repeat (first | exact HB.out | apply below_alloc | apply pw_below_drewN | apply below_drew1 | refine below_set ?_ GB13.out)⟩⟩
           ·rw [if_neg c11] at H
            exact absurd H (by simp)
          ·rw [if_neg c10] at H
           exact absurd H (by simp)
         ·rw [if_neg c9] at H
          exact absurd H (by simp)
     ·rw [if_neg c4] at H
      exact absurd H (by simp)
    ·rw [if_neg c3] at H
     exact absurd H (by simp)
   ·rw [if_neg c2] at H
    have c2b0 : decide (x8_1 < (l0.length : Int)) = false := decide_eq_false c2
    clear c2
    obtain rfl := Option.some.inj H
    go_wp2
    go_ret
    exact ⟨_, by first | rfl | (simp [errW_none, errW_some] <;> rfl) | (simp [*, errW_none, errW_some] <;> rfl), by (with_reducible repeat (first | apply Kd.R_alloc | apply Kd.R_drewN | apply Kd.R_drew)); exact HO_3.out, by repeat (first | exact HB.out | apply below_alloc | apply pw_below_drewN | apply below_drew1)⟩
def plan_lists.l0 : Nat → List (List Int) → List Int → Int → Int → Option ((List (List Int)))
 | 0, _, _, _, _ => none
 | k + 1, x3, x6, x7, x8 => if x8 < x7 then (if 0 ≤ x8 then (if x8 < (x6.length : Int) then ((plan_mask_list.f k (rd x6 x8)).bind fun t132 => (if x3.length < 5864062014805 then (plan_lists.l0 k (x3 ++ [t132]) x6 x7 (wrap64 (x8 + 1))) else (none))) else (none)) else (none)) else (some x3)
def plan_lists.f (k : Nat) (l0 : List Int) : Option ((List (List Int))) := plan_lists.l0 k ([] : List (List Int)) l0 (l0.length : Int) 0
theorem plan_lists.mono_l : ∀ k, (∀ y0 y1 y2 y3, LeO (plan_lists.l0 k y0 y1 y2 y3) (plan_lists.l0 (k + 1) y0 y1 y2 y3))
 | 0 => fun _ _ _ _ r h => by simp [plan_lists.l0] at h
 | k + 1 => by
  have ih0 := plan_lists.mono_l k
  ·intro y0 y1 y2 y3
   unfold plan_lists.l0
   repeat' first
   | (with_reducible exact ih0 _ _ _ _)
   | (with_reducible exact plan_mask_list.mono _ _)
   | (with_reducible exact LeO.refl _)
   | (with_reducible exact LeO.none _)
   | (with_reducible refine LeO.ite ?_ ?_)
   | (with_reducible refine LeO.bind ?_ (fun _ => ?_))
   | exact ih0 _ _ _ _
   | exact plan_mask_list.mono _ _
   | exact LeO.none _
   | refine LeO.ite ?_ ?_
   | refine LeO.bind ?_ (fun _ => ?_)
theorem plan_lists.mono : ∀ a0 k, LeO (plan_lists.f k a0) (plan_lists.f (k + 1) a0) := by
 intro a0 k
 have ih0 := plan_lists.mono_l k
 unfold plan_lists.f
 repeat' first
   | (with_reducible exact ih0 _ _ _ _)
   | (with_reducible exact plan_mask_list.mono _ _)
   | (with_reducible exact LeO.refl _)
   | (with_reducible exact LeO.none _)
   | (with_reducible refine LeO.ite ?_ ?_)
   | (with_reducible refine LeO.bind ?_ (fun _ => ?_))
   | exact ih0 _ _ _ _
   | exact plan_mask_list.mono _ _
   | exact LeO.none _
   | refine LeO.ite ?_ ?_
   | refine LeO.bind ?_ (fun _ => ?_)
set_option maxHeartbeats 8000000 in
set_option maxRecDepth 100000 in
theorem plan_lists.calls (k : Nat) (A0 : Option Addr) (c0 : Nat) (l0 : List Int) (r : List (List Int)) (w : World) (hr0 : Kd.C (Kd.int .u64) w A0 l0.length l0) (hc0 : l0.length ≤ c0) (h : plan_lists.f k l0 = some r) :
  Calls Tryz.prog 45 #[.slice A0 l0.length c0] w fun e w' => ∃ v0_ : Value, e = .returned (v0_) ∧ Kd.S (Kd.slice 3 (Kd.int .i64)) 41 w' w.heap.size (fun _ => True) v0_ r ∧ Below w.heap.size w w' := by
 have HR0 := Aside0.mk hr0
 have HC0 := Aside0.mk hc0
 clear hr0 hc0
 have HB := Aside0.mk (Below.refl w.heap.size w)
 have H : (plan_lists.l0 k ([] : List (List Int)) l0 (l0.length : Int) 0) = some r := h
 clear h
 have H' := Aside0.mk H
 clear H
 go_enter Tryz.func45, Tryz.ntmps45
 go_wp2
 go_loopg [3, 8] k (fun kq v3 v8 w' => ∃ (x3_1 : List (List Int)) (x8_1 : Int), v8 = .int .i64 x8_1 ∧ Aside0 (plan_lists.l0 kq x3_1 l0 (l0.length : Int) x8_1 = some r) ∧ Aside0 (kq ≤ k) ∧ Aside0 (Kd.S (Kd.slice 3 (Kd.int .i64)) 41 w' w.heap.size (fun _ => True) v3 x3_1) ∧ Aside0 (Below w.heap.size w w'))
 case atStart => exact ⟨(([] : List (List Int))), (0), (by first | rfl | (simp; done) | (simp [*]; done)), H', ⟨Nat.le_refl _⟩, ⟨by first | exact Kd.S_nil _ _ _ _ _ | exact Kd.N_nil _ _ _ _ _ | exact Kd.V_nil _ _ _ _ _ | exact Kd.Q_nil _ _ _ _ _ | exact Kd.R_nil _ _ _ _ _⟩, ⟨by repeat (first | exact HB.out | apply below_alloc | apply pw_below_drewN | apply below_drew1)⟩⟩
 case round =>
  clear H'
  obtain ⟨x3_1, x8_1, rfl, HA, HK1, HO_3, HB⟩ := hrel
  cases gk with
  | zero => exact absurd HA.out (by simp [plan_lists.l0])
  | succ k1 =>
   have H := HA.out
   clear HA
   simp only [plan_lists.l0] at H
   by_cases c2 : x8_1 < (l0.length : Int)
   ·rw [if_pos c2] at H
    have c2b0 : decide (x8_1 < (l0.length : Int)) = true := decide_eq_true c2
    clear c2
    by_cases c3 : 0 ≤ x8_1
    ·rw [if_pos c3] at H
     have c3b0 : decide (0 ≤ x8_1) = true := decide_eq_true c3
     clear c3
     by_cases c4 : x8_1 < (l0.length : Int)
     ·rw [if_pos c4] at H
      have c4b0 : decide (x8_1 < (l0.length : Int)) = true := decide_eq_true c4
      clear c4
      replace H := Option.bind_eq_some_iff.mp H
      obtain ⟨t132, A50, H⟩ := H
      (try dsimp only at H)
      have A5 := Aside0.mk A50
      clear A50
      by_cases c6 : x3_1.length < 5864062014805
      ·rw [if_pos c6] at H
       have LMc6 := Aside0.mk c6
       clear c6
       obtain ⟨y135, hy135⟩ : ∃ y_ : List (List Int), y_ = (x3_1 ++ [t132]) := ⟨_, rfl⟩
       replace H : (plan_lists.l0 k1 y135 l0 (l0.length : Int) (wrap64 (x8_1 + 1))) = some r := by first | (rw [hy135]; with_reducible exact H) | (have H2_ := (Option.bind_some _ _).symm.trans H; rw [hy135]; with_reducible exact H2_) | (have H2_ := (Option.bind_some _ _).symm.trans H; with_reducible exact H2_) | with_reducible exact H | (rw [hy135]; exact H) | exact H
       have Ny135 := Aside0.mk hy135
       clear hy135
       have H' := Aside0.mk H
       clear H
       have p131 : 0 ≤ (x8_1 : Int) := of_decide_eq_true (by first | (with_reducible assumption) | assumption)
       have q131 : x8_1 < (l0.length : Int) := of_decide_eq_true (by first | (with_reducible assumption) | assumption)
       obtain ⟨ad131, e131, hx131_0⟩ := Kd.at_int HR0.out x8_1 p131 q131
       cases e131
       replace hx131_0 := (HB.out.cell (World.block_lt_of_cell? w _ hx131_0)).trans hx131_0
       replace p131 := eq_true p131
       replace q131 := eq_true q131
       go_wp2_with (first | ((with_reducible refine gate_callee (f := 74) rfl ?_); refine goesL_ (some 14) rfl rfl Tryz.func74 (by kernel_rfl) rfl #[.int .u64 (rd l0 x8_1)] rfl (by (try simp only [List.map_toArray, List.map_cons, List.map_nil]); first | done | rfl | (simp only [List.length_drop, List.length_take]; rfl)) ?_; (with_reducible refine (plan_mask_list.calls k1 (rd l0 x8_1) t132 _ A5.out).mono ?_); rintro e w7 ⟨v133, rfl, ho0, hb⟩; refine ⟨_, rfl, ?_⟩; have n0_ := Aside0.mk (Kd.S_elder' (by (with_reducible repeat (first | apply Kd.S_alloc | apply Kd.S_drewN | apply Kd.S_drew)); exact HO_3.out) (Kd.R_base ho0) hb); have n1_ := Aside0.mk (Kd.R_lower ho0 (below_size (by repeat (first | exact HB.out | apply below_alloc | apply pw_below_drewN | apply below_drew1)))); have n2_ := Aside0.mk (below_step (by repeat (first | exact HB.out | apply below_alloc | apply pw_below_drewN | apply below_drew1)) hb); clear HO_3; clear HB; have HO_3 := n0_; have HO134 := n1_; have HB := n2_; clear n0_ n1_ n2_; (try clear hb); (try clear hb2); (try clear hk); (try clear hi); (try clear ho0); obtain ⟨Ao9, co9, eo9⟩ := Kd.R_slice HO134.out; subst eo9) | ((with_reducible refine gate_builtin (b := .append) (xs := #[.tmp 12, .tmp 15]) rfl ?_); at_builtin; refine Kd.S_append (Kd.slice 3 (Kd.int .i64)) (w0 := w) w.heap.size rfl (.tmp 12) (.tmp 15) 24 41 (.slice none 0 0) 24 rfl Tryz.underlying24 info41 rfl (by decide) (by omega) u3 x3_1 t132 [.slice Ao9 t132.length co9] (fun _ => True) (fun k_ => some k_ = (.slice Ao9 t132.length co9 : Value).ownBlock) rfl rfl ?aP (fun k_ hk_ => ((Kd.R_mono (ok' := fun k_ => ((fun _ => True)) k_ ∧ some k_ ≠ (u3 : Value).ownBlock) (Kd.R_apart' (HO134.out) (Kd.S_typed HO_3.out) (by decide)) (fun k_ hk => ⟨trivial, hk.2⟩))).1 k_ hk_.symm) ?aF ?aO ?aB ?aS ?aL ?_; (case aP => exact Kd.M_row (Kd.R_mono (Kd.R_tight rfl (Kd.R_mono (ok' := fun k_ => ((fun _ => True)) k_ ∧ some k_ ≠ (u3 : Value).ownBlock) (Kd.R_apart' (HO134.out) (Kd.S_typed HO_3.out) (by decide)) (fun k_ hk => ⟨trivial, hk.2⟩))) (fun _ h_ => h_))); (case aB => exact (by repeat (first | exact HB.out | apply below_alloc | apply pw_below_drewN | apply below_drew1))); (case aF => exact (fun _ _ => trivial)); (case aO => exact (by (with_reducible repeat (first | apply Kd.S_alloc | apply Kd.S_drewN | apply Kd.S_drew)); exact Kd.S_mono HO_3.out (fun k_ hk => ⟨trivial, fun e_ => hk.2 e_⟩))); (case aS => exact (below_size (by repeat (first | exact HB.out | apply below_alloc | apply pw_below_drewN | apply below_drew1)))); (case aL => have := LMc6.out; omega); intro v136 w8 ho hb hg hat; rw [← Ny135.out] at ho; have n0_ := Aside0.mk (hb); have n1_ := Aside0.mk (ho); clear HB; clear HO_3; clear HO134; have HB := n0_; have HO137 := n1_; clear n0_ n1_; clear ho hb hg hat))
       go_roundg k1
       case measure => have := HK1.out; omega
       case rel => exact ⟨(y135), (wrap64 (x8_1 + 1)), (by first | rfl | (simp; done) | (simp [*]; done)), H', ⟨by have := HK1.out; omega⟩, ⟨by (with_reducible repeat (first | apply Kd.S_alloc | apply Kd.S_drewN | apply Kd.S_drew)); exact HO137.out⟩, ⟨by repeat (first | exact HB.out | apply below_alloc | apply pw_below_drewN | apply below_drew1)⟩⟩
      ·rw [if_neg c6] at H
       exact absurd H (by simp)
     ·rw [if_neg c4] at H
      exact absurd H (by simp)
    ·rw [if_neg c3] at H
     exact absurd H (by simp)
   ·rw [if_neg c2] at H
    have c2b0 : decide (x8_1 < (l0.length : Int)) = false := decide_eq_false c2
    clear c2
    obtain rfl := Option.some.inj H
    go_wp2
    go_ret
    exact ⟨_, by first | rfl | (simp [errW_none, errW_some] <;> rfl) | (simp [*, errW_none, errW_some] <;> rfl), by (with_reducible repeat (first | apply Kd.S_alloc | apply Kd.S_drewN | apply Kd.S_drew)); exact HO_3.out, by repeat (first | exact HB.out | apply below_alloc | apply pw_below_drewN | apply below_drew1)⟩
def potbankref01_Same.l0 : Nat → List Int → List Int → Int → Option (Bool)
 | 0, _, _, _ => none
 | k + 1, x0, x1, x5 => if x5 < (x0.length : Int) then (if 0 ≤ x5 then (if x5 < (x1.length : Int) then (if (rd x0 x5) = (rd x1 x5) then (potbankref01_Same.l0 k x0 x1 (wrap64 (x5 + 1))) else (some false)) else (none)) else (none)) else (some true)
def potbankref01_Same.f (k : Nat) (l0 : List Int) (l1 : List Int) : Option (Bool) := if (l0.length : Int) = (l1.length : Int) then (potbankref01_Same.l0 k l0 l1 0) else (some false)
set_option maxHeartbeats 8000000 in
set_option maxRecDepth 100000 in
theorem potbankref01_Same.calls (k : Nat) (A0 : Option Addr) (c0 : Nat) (l0 : List Int) (A1 : Option Addr) (c1 : Nat) (l1 : List Int) (r : Bool) (w : World) (hr0 : Kd.C (Kd.int .i64) w A0 l0.length l0) (hc0 : l0.length ≤ c0) (hr1 : Kd.C (Kd.int .i64) w A1 l1.length l1) (hc1 : l1.length ≤ c1) (h : potbankref01_Same.f k l0 l1 = some r) :
  Calls Tryz.prog 27 #[.slice A0 l0.length c0, .slice A1 l1.length c1] w fun e w' => e = .returned (.bool r) ∧ Drawn0 w w' := by
 have HR0 := Aside0.mk hr0
 have HC0 := Aside0.mk hc0
 clear hr0 hc0
 have HR1 := Aside0.mk hr1
 have HC1 := Aside0.mk hc1
 clear hr1 hc1
 have H : (if (l0.length : Int) = (l1.length : Int) then (potbankref01_Same.l0 k l0 l1 0) else (some false)) = some r := h
 clear h
 by_cases c3 : (l0.length : Int) = (l1.length : Int)
 ·rw [if_pos c3] at H
  have c3b0 : ((l0.length : Int) == (l1.length : Int)) = true := beq_iff_eq.mpr c3
  have c3b1 : ((l0.length : Int) != (l1.length : Int)) = false := bne_eq_false_iff_eq.mpr c3
  have c3b2 : (l0.length == l1.length) = true := by first | simpa using c3 | (simp at c3 ⊢; omega)
  clear c3
  have H' := Aside0.mk H
  clear H
  go_enter Tryz.func27, Tryz.ntmps27
  go_wp2
  repeat (go_quiet (fail); try go_wp2)
  go_loopg [5] k (fun kq v5 w' => ∃ (x5_1 : Int), v5 = .int .i64 x5_1 ∧ Aside0 (potbankref01_Same.l0 kq l0 l1 x5_1 = some r) ∧ Aside0 (kq ≤ k) ∧ Drawn0 w w')
  case atStart => exact ⟨(0), (by first | rfl | (simp; done) | (simp [*]; done)), H', ⟨Nat.le_refl _⟩, by repeat (first | exact Drawn0.refl _ | apply Drawn0.step)⟩
  case round =>
   clear H'
   try clear c1
   try clear c2
   try clear p2
   try clear c3
   try clear c3b0
   try clear c3b1
   try clear c3b2
   obtain ⟨x5_1, rfl, HA, HK1, ⟨m1, rfl⟩⟩ := hrel
   cases gk with
   | zero => exact absurd HA.out (by simp [potbankref01_Same.l0])
   | succ k1 =>
    have H := HA.out
    clear HA
    simp only [potbankref01_Same.l0] at H
    by_cases c4 : x5_1 < (l0.length : Int)
    ·rw [if_pos c4] at H
     have c4b0 : decide (x5_1 < (l0.length : Int)) = true := decide_eq_true c4
     clear c4
     by_cases c5 : 0 ≤ x5_1
     ·rw [if_pos c5] at H
      have c5b0 : decide (0 ≤ x5_1) = true := decide_eq_true c5
      clear c5
      by_cases c6 : x5_1 < (l1.length : Int)
      ·rw [if_pos c6] at H
       have c6b0 : decide (x5_1 < (l1.length : Int)) = true := decide_eq_true c6
       clear c6
       by_cases c7 : (rd l0 x5_1) = (rd l1 x5_1)
       ·rw [if_pos c7] at H
        have c7b0 : ((rd l0 x5_1) == (rd l1 x5_1)) = true := beq_iff_eq.mpr c7
        have c7b1 : ((rd l0 x5_1) != (rd l1 x5_1)) = false := bne_eq_false_iff_eq.mpr c7
        clear c7
        have H' := Aside0.mk H
        clear H
        have p138 : 0 ≤ (x5_1 : Int) := of_decide_eq_true (by first | (with_reducible assumption) | assumption)
        have q138 : x5_1 < (l0.length : Int) := of_decide_eq_true (by first | (with_reducible assumption) | assumption)
        obtain ⟨ad138, e138, hx138_0⟩ := Kd.at_int HR0.out x5_1 p138 q138
        cases e138
        replace p138 := eq_true p138
        replace q138 := eq_true q138
        have p139 : 0 ≤ (x5_1 : Int) := of_decide_eq_true (by first | (with_reducible assumption) | assumption)
        have q139 : x5_1 < (l1.length : Int) := of_decide_eq_true (by first | (with_reducible assumption) | assumption)
        obtain ⟨ad139, e139, hx139_0⟩ := Kd.at_int HR1.out x5_1 p139 q139
        cases e139
        replace p139 := eq_true p139
        replace q139 := eq_true q139
        go_wp2
        repeat (go_quiet (fail); try go_wp2)
        go_roundg k1
        case measure => have := HK1.out; omega
        case rel => exact ⟨(wrap64 (x5_1 + 1)), (by first | rfl | (simp; done) | (simp [*]; done)), H', ⟨by have := HK1.out; omega⟩, by repeat (first | exact Drawn0.refl _ | apply Drawn0.step)⟩
       ·rw [if_neg c7] at H
        have c7b0 : ((rd l0 x5_1) == (rd l1 x5_1)) = false := beq_eq_false_iff_ne.mpr c7
        have c7b1 : ((rd l0 x5_1) != (rd l1 x5_1)) = true := bne_iff_ne.mpr c7
        obtain rfl := Option.some.inj H
        have p138 : 0 ≤ (x5_1 : Int) := of_decide_eq_true (by first | (with_reducible assumption) | assumption)
        have q138 : x5_1 < (l0.length : Int) := of_decide_eq_true (by first | (with_reducible assumption) | assumption)
        obtain ⟨ad138, e138, hx138_0⟩ := Kd.at_int HR0.out x5_1 p138 q138
        cases e138
        replace p138 := eq_true p138
        replace q138 := eq_true q138
        have p139 : 0 ≤ (x5_1 : Int) := of_decide_eq_true (by first | (with_reducible assumption) | assumption)
        have q139 : x5_1 < (l1.length : Int) := of_decide_eq_true (by first | (with_reducible assumption) | assumption)
        obtain ⟨ad139, e139, hx139_0⟩ := Kd.at_int HR1.out x5_1 p139 q139
        cases e139
        replace p139 := eq_true p139
        replace q139 := eq_true q139
        go_wp2
        repeat (go_quiet (fail); try go_wp2)
        go_ret
        exact ⟨by first | rfl | (simp; done) | (simp [*]; done), by repeat (first | exact Drawn0.refl _ | apply Drawn0.step)⟩
      ·rw [if_neg c6] at H
       exact absurd H (by simp)
     ·rw [if_neg c5] at H
      exact absurd H (by simp)
    ·rw [if_neg c4] at H
     have c4b0 : decide (x5_1 < (l0.length : Int)) = false := decide_eq_false c4
     clear c4
     obtain rfl := Option.some.inj H
     go_wp2
     repeat (go_quiet (fail); try go_wp2)
     go_ret
     exact ⟨by first | rfl | (simp; done) | (simp [*]; done), by repeat (first | exact Drawn0.refl _ | apply Drawn0.step)⟩
 ·rw [if_neg c3] at H
  have c3b0 : ((l0.length : Int) == (l1.length : Int)) = false := beq_eq_false_iff_ne.mpr c3
  have c3b1 : ((l0.length : Int) != (l1.length : Int)) = true := bne_iff_ne.mpr c3
  have c3b2 : (l0.length == l1.length) = false := by first | simpa using c3 | (simp at c3 ⊢; omega)
  obtain rfl := Option.some.inj H
  go_enter Tryz.func27, Tryz.ntmps27
  go_wp2
  repeat (go_quiet (fail); try go_wp2)
  go_ret
  exact ⟨by first | rfl | (simp; done) | (simp [*]; done), by repeat (first | exact Drawn0.refl _ | apply Drawn0.step)⟩
def potbankref06_SameSets.l0 : Nat → List (List Int) → List (List Int) → Bool → Int → Option (Bool)
 | 0, _, _, _, _ => none
 | k + 1, x0, x1, x5, x6 => if x6 < (x0.length : Int) then (if x5 = true then (if 0 ≤ x6 then (if x6 < (x1.length : Int) then ((potbankref01_Same.f k (rd_L5 x0 x6) (rd_L5 x1 x6)).bind fun t142 => (potbankref06_SameSets.l0 k x0 x1 t142 (wrap64 (x6 + 1)))) else (none)) else (none)) else (some x5)) else (some x5)
def potbankref06_SameSets.f (k : Nat) (l0 : List (List Int)) (l1 : List (List Int)) : Option (Bool) := potbankref06_SameSets.l0 k l0 l1 ((l0.length : Int) == (l1.length : Int)) 0
set_option maxHeartbeats 8000000 in
set_option maxRecDepth 100000 in
theorem potbankref06_SameSets.calls (k : Nat) (A0 : Option Addr) (c0 : Nat) (l0 : List (List Int)) (A1 : Option Addr) (c1 : Nat) (l1 : List (List Int)) (r : Bool) (w : World) (hr0 : Kd.C (Kd.slice 3 (Kd.int .i64)) w A0 l0.length l0) (hc0 : l0.length ≤ c0) (hr1 : Kd.C (Kd.slice 3 (Kd.int .i64)) w A1 l1.length l1) (hc1 : l1.length ≤ c1) (h : potbankref06_SameSets.f k l0 l1 = some r) :
  Calls Tryz.prog 12 #[.slice A0 l0.length c0, .slice A1 l1.length c1] w fun e w' => e = .returned (.bool r) ∧ Drawn0 w w' := by
 have HR0 := Aside0.mk hr0
 have HC0 := Aside0.mk hc0
 clear hr0 hc0
 have HR1 := Aside0.mk hr1
 have HC1 := Aside0.mk hc1
 clear hr1 hc1
 have H : (potbankref06_SameSets.l0 k l0 l1 ((l0.length : Int) == (l1.length : Int)) 0) = some r := h
 clear h
 have H' := Aside0.mk H
 clear H
 go_enter Tryz.func12, Tryz.ntmps12
 go_wp2
 repeat (go_quiet (fail); try go_wp2)
 go_loopg [5, 6] k (fun kq v5 v6 w' => ∃ (x5_1 : Bool) (x6_1 : Int), v5 = .bool x5_1 ∧ v6 = .int .i64 x6_1 ∧ Aside0 (potbankref06_SameSets.l0 kq l0 l1 x5_1 x6_1 = some r) ∧ Aside0 (kq ≤ k) ∧ Drawn0 w w')
 case atStart => exact ⟨(((l0.length : Int) == (l1.length : Int))), (0), (by first | rfl | (simp; done) | (simp [*]; done)), (by first | rfl | (simp; done) | (simp [*]; done)), H', ⟨Nat.le_refl _⟩, by repeat (first | exact Drawn0.refl _ | apply Drawn0.step)⟩
 case round =>
  clear H'
  try clear c1
  try clear p2
  obtain ⟨x5_1, x6_1, rfl, rfl, HA, HK1, ⟨m1, rfl⟩⟩ := hrel
  cases gk with
  | zero => exact absurd HA.out (by simp [potbankref06_SameSets.l0])
  | succ k1 =>
   have H := HA.out
   clear HA
   simp only [potbankref06_SameSets.l0] at H
   by_cases c3 : x6_1 < (l0.length : Int)
   ·rw [if_pos c3] at H
    have c3b0 : decide (x6_1 < (l0.length : Int)) = true := decide_eq_true c3
    clear c3
    by_cases c4 : x5_1 = true
    ·subst c4
     rw [if_pos rfl] at H
     by_cases c5 : 0 ≤ x6_1
     ·rw [if_pos c5] at H
      have c5b0 : decide (0 ≤ x6_1) = true := decide_eq_true c5
      clear c5
      by_cases c6 : x6_1 < (l1.length : Int)
      ·rw [if_pos c6] at H
       have c6b0 : decide (x6_1 < (l1.length : Int)) = true := decide_eq_true c6
       clear c6
       replace H := Option.bind_eq_some_iff.mp H
       obtain ⟨t142, A70, H⟩ := H
       (try dsimp only at H)
       have A7 := Aside0.mk A70
       clear A70
       have H' := Aside0.mk H
       clear H
       have p140 : 0 ≤ (x6_1 : Int) := of_decide_eq_true (by first | (with_reducible assumption) | assumption)
       have q140 : x6_1 < (l0.length : Int) := of_decide_eq_true (by first | (with_reducible assumption) | assumption)
       obtain ⟨ad140, A140_0, c140_0, e140, hx140_0, hl140_0, hi140_0⟩ := at_L5 HR0.out x6_1 p140 q140
       cases e140
       have HR140_0 := Aside0.mk hi140_0
       have HC140_0 := Aside0.mk hl140_0
       clear hi140_0 hl140_0
       replace p140 := eq_true p140
       replace q140 := eq_true q140
       have p141 : 0 ≤ (x6_1 : Int) := of_decide_eq_true (by first | (with_reducible assumption) | assumption)
       have q141 : x6_1 < (l1.length : Int) := of_decide_eq_true (by first | (with_reducible assumption) | assumption)
       obtain ⟨ad141, A141_0, c141_0, e141, hx141_0, hl141_0, hi141_0⟩ := at_L5 HR1.out x6_1 p141 q141
       cases e141
       have HR141_0 := Aside0.mk hi141_0
       have HC141_0 := Aside0.mk hl141_0
       clear hi141_0 hl141_0
       replace p141 := eq_true p141
       replace q141 := eq_true q141
       go_wp2_with (first | (go_at_call 27; (with_reducible refine (potbankref01_Same.calls k1 _ _ (rd_L5 l0 x6_1) _ _ (rd_L5 l1 x6_1) t142 _ ?side1 ?side2 ?side3 ?side4 A7.out).mono ?_); (case side1 => repeat (first | exact HR140_0.out | (with_reducible refine Kd.C_alloc ?_ _) | (with_reducible refine Kd.C_drewN ?_ _) | (with_reducible refine Kd.C_drew ?_))); (case side2 => exact HC140_0.out); (case side3 => repeat (first | exact HR141_0.out | (with_reducible refine Kd.C_alloc ?_ _) | (with_reducible refine Kd.C_drewN ?_ _) | (with_reducible refine Kd.C_drew ?_))); (case side4 => exact HC141_0.out); rintro e w' ⟨rfl, ⟨nd, rfl⟩⟩; (try first | exact ⟨rfl, _, World.drewN_drewN _ _ _⟩ | exact ⟨rfl, _, Eq.trans (World.drewN_drewN _ _ _) (congrArg (World.drewN _) (Nat.add_assoc _ _ _))⟩)))
       repeat (go_quiet (first | (go_at_call 27; (with_reducible refine (potbankref01_Same.calls k1 _ _ (rd_L5 l0 x6_1) _ _ (rd_L5 l1 x6_1) t142 _ ?side1 ?side2 ?side3 ?side4 A7.out).mono ?_); (case side1 => repeat (first | exact HR140_0.out | (with_reducible refine Kd.C_alloc ?_ _) | (with_reducible refine Kd.C_drewN ?_ _) | (with_reducible refine Kd.C_drew ?_))); (case side2 => exact HC140_0.out); (case side3 => repeat (first | exact HR141_0.out | (with_reducible refine Kd.C_alloc ?_ _) | (with_reducible refine Kd.C_drewN ?_ _) | (with_reducible refine Kd.C_drew ?_))); (case side4 => exact HC141_0.out); rintro e w' ⟨rfl, ⟨nd, rfl⟩⟩; (try first | exact ⟨rfl, _, World.drewN_drewN _ _ _⟩ | exact ⟨rfl, _, Eq.trans (World.drewN_drewN _ _ _) (congrArg (World.drewN _) (Nat.add_assoc _ _ _))⟩))); try go_wp2_with (first | (go_at_call 27; (with_reducible refine (potbankref01_Same.calls k1 _ _ (rd_L5 l0 x6_1) _ _ (rd_L5 l1 x6_1) t142 _ ?side1 ?side2 ?side3 ?side4 A7.out).mono ?_); (case side1 => repeat (first | exact HR140_0.out | (with_reducible refine Kd.C_alloc ?_ _) | (with_reducible refine Kd.C_drewN ?_ _) | (with_reducible refine Kd.C_drew ?_))); (case side2 => exact HC140_0.out); (case side3 => repeat (first | exact HR141_0.out | (with_reducible refine Kd.C_alloc ?_ _) | (with_reducible refine Kd.C_drewN ?_ _) | (with_reducible refine Kd.C_drew ?_))); (case side4 => exact HC141_0.out); rintro e w' ⟨rfl, ⟨nd, rfl⟩⟩; (try first | exact ⟨rfl, _, World.drewN_drewN _ _ _⟩ | exact ⟨rfl, _, Eq.trans (World.drewN_drewN _ _ _) (congrArg (World.drewN _) (Nat.add_assoc _ _ _))⟩))))
       go_roundg k1
       case measure => have := HK1.out; omega
       case rel => exact ⟨(t142), (wrap64 (x6_1 + 1)), (by first | rfl | (simp; done) | (simp [*]; done)), (by first | rfl | (simp; done) | (simp [*]; done)), H', ⟨by have := HK1.out; omega⟩, by repeat (first | exact Drawn0.refl _ | apply Drawn0.step)⟩
      ·rw [if_neg c6] at H
       exact absurd H (by simp)
     ·rw [if_neg c5] at H
      exact absurd H (by simp)
    ·replace c4 := Bool.eq_false_iff.mpr c4
     subst c4
     rw [if_neg (show ¬ (false = true) by decide)] at H
     obtain rfl := Option.some.inj H
     go_wp2
     repeat (go_quiet (fail); try go_wp2)
     go_ret
     exact ⟨by first | rfl | (simp; done) | (simp [*]; done), by repeat (first | exact Drawn0.refl _ | apply Drawn0.step)⟩
   ·rw [if_neg c3] at H
    have c3b0 : decide (x6_1 < (l0.length : Int)) = false := decide_eq_false c3
    clear c3
    obtain rfl := Option.some.inj H
    go_wp2
    repeat (go_quiet (fail); try go_wp2)
    go_ret
    exact ⟨by first | rfl | (simp; done) | (simp [*]; done), by repeat (first | exact Drawn0.refl _ | apply Drawn0.step)⟩
end Go.Proofs.YthonlcnmjlldiaaGreat.P
namespace Go.Proofs.YthonlcnmjlldiaaGreat.P
open Go.Shelf Go.RowKit Go.Proofs.YthonlcnmjlldiaaGreatW.PrintWords Go.Proofs.YthonlcnmjlldiaaGreatW.PrintLast Go.Proofs.YthonlcnmjlldiaaGreatW.PrintMore
def suitsB (o : Order) (s : Seat) : Bool := decide (o.f2.f0 ≤ s.f0.f0 ∧ s.f0.f1 ≤ o.f2.f1 ∧ o.f3 ≤ s.f1)
abbrev ordV (o : Order) : Value := .agg #[.int .i64 o.f0, .int .i64 o.f1, .int .i64 o.f2.f0, .int .i64 o.f2.f1, .int .i64 o.f3]
abbrev seatV (s : Seat) : Value := .agg #[.int .i64 s.f0.f0, .int .i64 s.f0.f1, .int .i64 s.f1, .int .i64 s.f2]
theorem suits_b (o : Order) (s : Seat) (w : World) : Calls Tryz.prog 106 #[ordV o, seatV s] w fun e w' => e = .returned (.bool (suitsB o s)) ∧ Below w.heap.size w w' := by
 refine plan_suits.calls _ _ _ _ _ _ _ _ _ _ w ?_
 unfold plan_suits.f suitsB
 by_cases h1 : o.f2.f0 ≤ s.f0.f0 <;> by_cases h2 : s.f0.f1 ≤ o.f2.f1 <;> simp [h1, h2]
set_option maxHeartbeats 1000000 in
set_option maxRecDepth 100000 in
theorem room1_b {W : World} {B : Option Addr} {c1 ob bo bs : Nat} {l : List Order} {s : Seat} {q : Value} (hbo : W.cell? ⟨bo, 0, none⟩ = some (.pointer (some ⟨ob, 0, none⟩))) (hob : W.cell? ⟨ob, 1, none⟩ = some (.slice B l.length c1)) (hob0 : W.cell? ⟨ob, 0, none⟩ = some q)
  (hC : Kd.C k72 W B l.length l) (hs0 : W.cell? ⟨bs, 0, none⟩ = some (.int .i64 s.f0.f0)) (hs1 : W.cell? ⟨bs, 1, none⟩ = some (.int .i64 s.f0.f1)) (hs2 : W.cell? ⟨bs, 2, none⟩ = some (.int .i64 s.f1)) (hs3 : W.cell? ⟨bs, 3, none⟩ = some (.int .i64 s.f2))
  (i : Int) (h0 : 0 ≤ i) (h1 : i < l.length) :
  Calls Tryz.prog 105 #[.int .i64 i, .pointer (some ⟨bo, 0, none⟩), .pointer (some ⟨bs, 0, none⟩)] W fun e W' => e = .returned (.bool (suitsB (rd_T72 l i) s)) ∧ Below W.heap.size W W' := by
 have hu := Tryz.underlying72
 have hu2 := Tryz.underlying70
 have hu3 := Tryz.underlying129
 have hmax := hC.2.1
 obtain ⟨ad, rfl, l0, l1, l2, l3, l4⟩ := at_T72 hC i h0 h1
 have hcall := suits_b (rd_T72 l i) s
 generalize rd_T72 l i = o at *
 generalize suitsB o s = r at *
 have HC := Aside0.mk hcall
 clear hcall hC
 go_enter Tryz.func105, Tryz.ntmps105
 go_wp2
 go_still_tail 8, (by kernel_rfl)
 change wpList _ _ _ _ _ W.drew
 go_wp2_with (go_at_call 106; refine (HC.out _).mono ?_; rintro e w' ⟨rfl, hb⟩)
 go_ret
 exact ⟨rfl, ⟨hb.os, hb.tape, hb.output, hb.size, hb.block⟩⟩
def bitsL (m : Int) : List Int := ((List.range 9).filter (fun i => m.toNat.testBit i)).map Int.ofNat
theorem list_all : ∀ m : Fin 512, plan_mask_list.f 12 (m.val : Int) = some (bitsL (m.val : Int)) := by decide +kernel
theorem has_all : ∀ m : Fin 512, ∀ i : Fin 9, plan_mask_has.f (m.val : Int) (i.val : Int) = some (m.val.testBit i.val) := by decide +kernel
theorem list_some {m : Int} (h0 : 0 ≤ m) (h1 : m < 512) : plan_mask_list.f 12 m = some (bitsL m) := by
 have := list_all ⟨m.toNat, by omega⟩
 simpa [Int.toNat_of_nonneg h0] using this
theorem has_some {m i : Int} (h0 : 0 ≤ m) (h1 : m < 512) (i0 : 0 ≤ i) (i1 : i < 9) : plan_mask_has.f m i = some (m.toNat.testBit i.toNat) := by
 have := has_all ⟨m.toNat, by omega⟩ ⟨i.toNat, by omega⟩
 simpa [Int.toNat_of_nonneg h0, Int.toNat_of_nonneg i0] using this
theorem mem_bitsL {m i : Int} : i ∈ bitsL m ↔ 0 ≤ i ∧ i < 9 ∧ m.toNat.testBit i.toNat = true := by
 unfold bitsL
 simp only [List.mem_map, List.mem_filter, List.mem_range]
 constructor
 ·rintro ⟨j, ⟨h1, h2⟩, rfl⟩
  exact ⟨by simp, by simp; omega, by simpa using h2⟩
 ·rintro ⟨h0, h1, h2⟩
  exact ⟨i.toNat, ⟨by omega, h2⟩, by simp [Int.toNat_of_nonneg h0]⟩
theorem bitsL_lt {m i : Int} {n : Nat} (hm : m < 2 ^ n) (h0 : 0 ≤ m) (hi : i ∈ bitsL m) : 0 ≤ i ∧ i < n := by
 obtain ⟨h1, h2, h3⟩ := mem_bitsL.1 hi
 refine ⟨h1, ?_⟩
 have h4 := Nat.ge_two_pow_of_testBit h3
 have h5 : m.toNat < 2 ^ n := by
  have : (m.toNat : Int) < ((2 ^ n : Nat) : Int) := by rw [Int.toNat_of_nonneg h0]; push_cast; exact hm
  exact Int.ofNat_lt.1 this
 have h6 : 2 ^ i.toNat < 2 ^ n := by omega
 have := (Nat.pow_lt_pow_iff_right (by omega)).1 h6
 omega
theorem list_b {m : Int} (h0 : 0 ≤ m) (h1 : m < 512) (w : World) : Calls Tryz.prog 74 #[.int .u64 m] w fun e w' => ∃ A c, e = .returned (.slice A (bitsL m).length c) ∧ (bitsL m).length ≤ c ∧ Kd.C (Kd.int .i64) w' A (bitsL m).length (bitsL m) ∧ Below w.heap.size w w' :=
 (plan_mask_list.calls 12 m _ w (list_some h0 h1)).mono fun e w' ⟨v, he, hR, hb⟩ => by
  obtain ⟨A, c, rfl, hc, hC⟩ := Kd.R_reads hR
  exact ⟨A, c, he, hc, hC, hb⟩
def needTo (l : List Order) (m : Int) (k : Nat) : Int := ((List.range k).map fun i => if m.toNat.testBit i then (rd_T72 l (i : Int)).f1 else 0).sum
def needI (l : List Order) (m : Int) : Int := needTo l m l.length
def ManyOk (l : List Order) : Prop := ∀ o ∈ l, 0 ≤ o.f1 ∧ o.f1 ≤ 1000
theorem rdT_mem {l : List Order} {i : Nat} (h : i < l.length) : rd_T72 l (i : Int) ∈ l := by
 have : l[i]? = some (rd_T72 l (i : Int)) := by simp [rd_T72, List.getD_eq_getElem?_getD, h]
 exact List.mem_of_getElem? this
theorem needTo_succ (l : List Order) (m : Int) (k : Nat) : needTo l m (k + 1) = needTo l m k + (if m.toNat.testBit k then (rd_T72 l (k : Int)).f1 else 0) := by
 unfold needTo
 rw [List.range_succ, List.map_append, List.sum_append]
 simp
theorem needTo_bd {l : List Order} (hl : ManyOk l) (m : Int) (k : Nat) (hk : k ≤ l.length) : 0 ≤ needTo l m k ∧ needTo l m k ≤ 1000 * k := by
 induction k with
 | zero => simp [needTo]
 | succ k ih =>
  obtain ⟨h1, h2⟩ := ih (by omega)
  obtain ⟨h3, h4⟩ := hl _ (rdT_mem (l := l) (i := k) (by omega))
  rw [needTo_succ]
  split <;> constructor <;> push_cast <;> omega
theorem need_loop {l : List Order} (hl : ManyOk l) (h9 : l.length ≤ 9) {m : Int} (h0 : 0 ≤ m) (h1 : m < 512) (d : Nat) : ∀ (k i : Nat), i ≤ l.length → l.length - i = d → d < k → plan_need.l0 k m (needTo l m i) l (l.length : Int) (i : Int) = some (needI l m) := by
 induction d with
 | zero =>
  intro k i hi hd hk
  obtain ⟨k, rfl⟩ : ∃ m, k = m + 1 := ⟨k - 1, by omega⟩
  simp only [plan_need.l0]
  rw [if_neg (by omega)]
  have : i = l.length := by omega
  subst this
  rfl
 | succ d ih =>
  intro k i hi hd hk
  obtain ⟨k, rfl⟩ : ∃ m, k = m + 1 := ⟨k - 1, by omega⟩
  have hlt : (i : Int) < (l.length : Int) := by omega
  simp only [plan_need.l0]
  rw [if_pos hlt, if_pos (by omega), if_pos hlt, has_some h0 h1 (by omega) (by omega)]
  have hb := needTo_bd hl m (i + 1) (by omega)
  have hb2 := needTo_bd hl m i (by omega)
  have hs := needTo_succ l m i
  have hw : wrap64 ((i : Int) + 1) = ((i + 1 : Nat) : Int) := by unfold wrap64; push_cast; omega
  have hr := ih k (i + 1) (by omega) (by omega) (by omega)
  simp only [Option.bind_some, Int.toNat_natCast]
  rw [hw]
  by_cases e : m.toNat.testBit i = true
  ·rw [if_pos e]
   rw [if_pos e] at hs
   have : wrap64 (needTo l m i + (rd_T72 l (i : Int)).f1) = needTo l m (i + 1) := by rw [← hs]; unfold wrap64; omega
   rw [this]
   exact hr
  ·rw [if_neg e]
   rw [if_neg e] at hs
   rw [show needTo l m i = needTo l m (i + 1) by omega]
   exact hr
theorem need_some {l : List Order} (hl : ManyOk l) (h9 : l.length ≤ 9) {m : Int} (h0 : 0 ≤ m) (h1 : m < 512) : plan_need.f 10 l m = some (needI l m) :=
 need_loop hl h9 h0 h1 l.length 10 0 (by omega) (by omega) (by omega)
theorem need_b {A : Option Addr} {c : Nat} {l : List Order} {m : Int} {w : World} (hl : ManyOk l) (h9 : l.length ≤ 9) (h0 : 0 ≤ m) (h1 : m < 512) (hr : Kd.C k72 w A l.length l) (hc : l.length ≤ c) :
  Calls Tryz.prog 71 #[.slice A l.length c, .int .u64 m] w fun e w' => e = .returned (.int .i64 (needI l m)) ∧ Below w.heap.size w w' :=
 plan_need.calls 10 A c l m _ w hr hc (need_some hl h9 h0 h1)
def seatIn (l : List Order) (m : Int) (s : Seat) : Bool := (bitsL m).any (fun i => suitsB (rd_T72 l i) s)
def roomTo (k : List Seat) (l : List Order) (m : Int) (j : Nat) : Int := ((k.take j).map fun s => if seatIn l m s then s.f2 else 0).sum
def roomI (k : List Seat) (l : List Order) (m : Int) : Int := roomTo k l m k.length
def HoldsOk (k : List Seat) : Prop := k.length ≤ 24 ∧ ∀ s ∈ k, 0 ≤ s.f2 ∧ s.f2 ≤ 1000
theorem roomTo_succ {k : List Seat} {l : List Order} {m : Int} {j : Nat} {s : Seat} (h : k[j]? = some s) : roomTo k l m (j + 1) = roomTo k l m j + (if seatIn l m s then s.f2 else 0) := by
 unfold roomTo
 rw [List.take_add_one, h, List.map_append, List.sum_append]
 simp
theorem roomTo_bd {k : List Seat} (hk : HoldsOk k) (l : List Order) (m : Int) (j : Nat) (hj : j ≤ k.length) : 0 ≤ roomTo k l m j ∧ roomTo k l m j ≤ 1000 * j := by
 induction j with
 | zero => simp [roomTo]
 | succ j ih =>
  obtain ⟨h1, h2⟩ := ih (by omega)
  have hs : k[j]? = some k[j] := List.getElem?_eq_getElem (by omega)
  obtain ⟨h3, h4⟩ := hk.2 _ (List.mem_of_getElem? hs)
  rw [roomTo_succ hs]
  split <;> constructor <;> push_cast <;> omega
theorem roomI_bd {k : List Seat} (hk : HoldsOk k) (l : List Order) (m : Int) : 0 ≤ roomI k l m ∧ roomI k l m ≤ 24000 := by
 have := roomTo_bd hk l m k.length (Nat.le_refl _)
 have := hk.1
 unfold roomI
 omega
theorem grown_trans {a b c : World} {r : Option Nat} (h : a.grownBy b r) (k : b.grownBy c r) : a.grownBy c r :=
 ⟨k.os.trans h.os, k.tape.trans h.tape, k.output.trans h.output, Nat.le_trans h.size k.size, fun i hi hr => (k.block i (Nat.lt_of_lt_of_le hi h.size) hr).trans (h.block i hi hr)⟩
theorem grown_below {a b c : World} {r : Option Nat} (h : a.grownBy b r) (k : Below b.heap.size b c) : a.grownBy c r := grown_trans h (grown_of_below k r)
theorem below_grown' {a b c : World} {r : Option Nat} (h : Below a.heap.size a b) (k : b.grownBy c r) : a.grownBy c r := grown_trans (grown_of_below h r) k
theorem cell_of_heap {w w' : World} {a : Addr} (h : w'.heap[a.block]? = w.heap[a.block]?) : w'.cell? a = w.cell? a := by
 unfold World.cell?
 rw [h]
theorem C_grown_map {α : Type} {d : Kd α} (hd : ∀ {W W' : World} {x : α} {cs : List Value}, d.K W x cs → d.K W' x cs) {w w' : World} {A : Option Addr} {n : Nat} {xs : List α} {mb : Nat} (hz : 0 < d.sz) (h : d.C w A n xs) (hg : w.grownBy w' (some mb))
  (hm : ∃ es cl, w.heap[mb]? = some (.map es cl)) : d.C w' A n xs := by
 refine ⟨h.1, h.2.1, fun hn => ?_⟩
 obtain ⟨ad, e, hc⟩ := h.2.2 hn
 refine ⟨ad, e, fun j p hp => ?_⟩
 obtain ⟨c, h1, h2, h3⟩ := hc j p hp
 refine ⟨c, h1, hd h2, fun i u hu => ?_⟩
 have h4 := h3 i u hu
 refine (cell_of_heap ?_).trans h4
 refine hg.block _ (World.block_lt_of_cell? w _ h4) ?_
 intro e2
 obtain ⟨es, cl, hm⟩ := hm
 have e3 : (ad.add (j * d.sz + i)).block = mb := by injection e2
 unfold World.cell? at h4
 rw [e3, hm] at h4
 cases h4
theorem k70_any {W W' : World} {x : Seat} {cs : List Value} (h : k70.K W x cs) : k70.K W' x cs := by rw [k70_open h]; exact k70_mk W' x
theorem k72_any {W W' : World} {x : Order} {cs : List Value} (h : k72.K W x cs) : k72.K W' x cs := by rw [k72_open h]; exact k72_mk W' x
abbrev RMap (w : World) (mb : Nat) (g : Int → Option Int) : Prop := IMap Tryz.prog 93 3 .u64 (Lit.int .i64) w mb 512 g
def Off (w : World) (ob mb : Nat) (k : List Seat) (l : List Order) : Prop :=
 ∃ A c0 B c1 g, w.heap[ob]? = some (.cells #[.slice A k.length c0, .slice B l.length c1, .map (some mb)] 129 (0, 0)) ∧ Kd.C k70 w A k.length k ∧ k.length ≤ c0 ∧ Kd.C k72 w B l.length l ∧ l.length ≤ c1 ∧
  RMap w mb g ∧ ∀ x y, g x = some y → 0 ≤ x ∧ x < 512 ∧ y = roomI k l x
theorem IMap.isMap {P : Program} {kt et : TypeId} {q : IntKind} {β : Type} {lit : β → Lit} {w : World} {b n : Nat} {g : Int → Option β} (h : IMap P kt et q lit w b n g) : ∃ es cl, w.heap[b]? = some (.map es cl) := by
 obtain ⟨D, ⟨es, cl, h1, _⟩, _⟩ := h
 exact ⟨es, cl, h1⟩
theorem Off.below {w w' : World} {ob mb : Nat} {k : List Seat} {l : List Order} (h : Off w ob mb k l) (hb : Below w.heap.size w w') : Off w' ob mb k l := by
 obtain ⟨A, c0, B, c1, g, h1, h2, h3, h4, h5, h6, h7⟩ := h
 exact ⟨A, c0, B, c1, g, (hb.block ob (blk_lt h1)).trans h1, Kd.C_below h2 hb, h3, Kd.C_below h4 hb, h5, h6.below hb, h7⟩
theorem Off.isMap {w : World} {ob mb : Nat} {k : List Seat} {l : List Order} (h : Off w ob mb k l) : ∃ es cl, w.heap[mb]? = some (.map es cl) := by
 obtain ⟨A, c0, B, c1, g, h1, h2, h3, h4, h5, h6, h7⟩ := h
 exact h6.isMap
theorem Off.lt {w : World} {ob mb : Nat} {k : List Seat} {l : List Order} (h : Off w ob mb k l) : ob < w.heap.size ∧ mb < w.heap.size ∧ ob ≠ mb := by
 have hm := h.isMap
 obtain ⟨A, c0, B, c1, g, h1, h2, h3, h4, h5, h6, h7⟩ := h
 refine ⟨blk_lt h1, h6.lt, ?_⟩
 rintro rfl
 obtain ⟨es, cl, hm⟩ := hm
 rw [h1] at hm
 cases hm
theorem nodup_lt : ∀ (n : Nat) (l : List Nat), l.Nodup → (∀ x ∈ l, x < n) → l.length ≤ n
 | 0, l, _, h => by
  cases l with
  | nil => simp
  | cons x xs => exact absurd (h x (by simp)) (by omega)
 | n + 1, l, hd, h => by
  have h1 := nodup_lt n (l.erase n) (hd.erase n) (fun x hx => by
   have := (hd.mem_erase_iff).1 hx
   have := h x this.2
   omega)
  have := List.length_erase_of_mem (a := n) (l := l)
  by_cases e : n ∈ l
  ·have := this e; omega
  ·rw [List.erase_of_not_mem e] at h1; omega
theorem any_sorted {H : Type} (f : Lit × DataW H → Bool) : ∀ l : List (Lit × DataW H), (l.foldr DataW.insert []).any f = l.any f
 | [] => rfl
 | x :: l => by rw [List.foldr_cons, Maps.any_insert, any_sorted f l]; rfl
theorem IMap.tight {β : Type} {lit : β → Lit} {kt et : TypeId} {w : World} {b n : Nat} {g : Int → Option β} (hk : Tryz.prog.underlying kt = some (.int .u64)) (h : IMap Tryz.prog kt et .u64 lit w b n g) (hg : ∀ x y, g x = some y → 0 ≤ x ∧ x < 512) : IMap Tryz.prog kt et .u64 lit w b 512 g := by
 obtain ⟨D, ⟨es, clock, hb, F, hs, rfl⟩, hM, hD⟩ := h
 refine ⟨_, ⟨es, clock, hb, F, ?_, rfl⟩, hM, hD⟩
 have hap := Maps.fit_apart (Maps.int_keyed hk) F
 have hks : ∀ p ∈ es.toList.map (WideElems.rg Tryz.prog kt (plainElem (H := Unit) Tryz.prog et)), ∃ a : Nat, a < 512 ∧ p.1 = .int .u64 (a : Int) := by
  intro p hp
  obtain ⟨v, hv⟩ := Maps.fit_keys F p hp
  have : ∃ a : Int, p.1 = .int .u64 a ∧ (Lit.int .u64 a).wf = true := by
   unfold keyOf at hv
   rw [hk] at hv
   unfold mapKey at hv
   rw [hk] at hv
   cases v <;> simp at hv
   obtain ⟨⟨rfl, hw⟩, e⟩ := hv
   exact ⟨_, e.symm, hw⟩
  obtain ⟨a, ha, hw⟩ := this
  have h1 := (hD a hw).1
  rw [Maps.has_eq, any_sorted] at h1
  have h2 : (es.toList.map (WideElems.rg Tryz.prog kt (plainElem (H := Unit) Tryz.prog et))).any (fun q => q.1.sameKey (.int .u64 a)) = true := by
   rw [List.any_eq_true]
   exact ⟨p, hp, by rw [ha]; simp [Lit.sameKey]⟩
  rw [h2] at h1
  cases hga : g a with
  | none => rw [hga] at h1; simp at h1
  | some y =>
   obtain ⟨h3, h4⟩ := hg a y hga
   exact ⟨a.toNat, by omega, by rw [ha, Int.toNat_of_nonneg h3]⟩
 let keyN : Lit × DataW Unit → Nat := fun p => match p.1 with | .int _ a => a.toNat | _ => 0
 have hn : ((es.toList.map (WideElems.rg Tryz.prog kt (plainElem (H := Unit) Tryz.prog et))).map keyN).Nodup := by
  rw [List.Nodup, List.pairwise_map]
  refine List.Pairwise.imp_of_mem ?_ hap
  intro p q hp hq hne e
  obtain ⟨a, _, ha⟩ := hks p hp
  obtain ⟨c, _, hc⟩ := hks q hq
  apply hne
  simp only [keyN, ha, hc, Int.toNat_natCast] at e
  rw [ha, hc, e]
 have := nodup_lt 512 _ hn (fun x hx => by
  obtain ⟨p, hp, rfl⟩ := List.mem_map.1 hx
  obtain ⟨a, h1, ha⟩ := hks p hp
  simp only [keyN, ha, Int.toNat_natCast]
  exact h1)
 simpa using this
theorem Off.store {w w' : World} {ob mb : Nat} {k : List Seat} {l : List Order} (h : Off w ob mb k l) {g : Int → Option Int} (hg : ∀ x y, g x = some y → 0 ≤ x ∧ x < 512 ∧ y = roomI k l x) {n : Nat} (hm : IMap Tryz.prog 93 3 .u64 (Lit.int .i64) w' mb n g) (hgr : w.grownBy w' (some mb)) : Off w' ob mb k l := by
 have hlt := h.lt
 have hM := h.isMap
 obtain ⟨A, c0, B, c1, g0, h1, h2, h3, h4, h5, h6, h7⟩ := h
 exact ⟨A, c0, B, c1, g, (hgr.block ob (blk_lt h1) (by simp; exact hlt.2.2)).trans h1, C_grown_map k70_any (by decide) h2 hgr hM, h3, C_grown_map k72_any (by decide) h4 hgr hM, h5, hm.tight Tryz.underlying93 (fun x y hx => ⟨(hg x y hx).1, (hg x y hx).2.1⟩), hg⟩
set_option maxRecDepth 100000 in
theorem roomAny {w2 : World} {A' : Option Addr} {c' ob bo bs : Nat} {l : List Order} {m : Int} {s : Seat} {t1 t2 t3 : TypeId} {B : Option Addr} {c1 : Nat} {q r : Value} (h0 : 0 ≤ m) (h1 : m < 2 ^ l.length)
  (hbo : w2.heap[bo]? = some (.cells #[.pointer (some ⟨ob, 0, none⟩)] t1 (0, 0))) (hob : w2.heap[ob]? = some (.cells #[q, .slice B l.length c1, r] t2 (0, 0))) (hC : Kd.C k72 w2 B l.length l)
  (hbs : w2.heap[bs]? = some (.cells #[.int .i64 s.f0.f0, .int .i64 s.f0.f1, .int .i64 s.f1, .int .i64 s.f2] t3 (0, 0))) (hL : Kd.C (Kd.int .i64) w2 A' (bitsL m).length (bitsL m)) :
  Calls Tryz.prog 104 #[.slice A' (bitsL m).length c', .func (.func 105) #[] #[.pointer (some ⟨bo, 0, none⟩), .pointer (some ⟨bs, 0, none⟩)]] w2 fun e w' => e = .returned (.bool (seatIn l m s)) ∧ Below w2.heap.size w2 w' :=
 idxIntAny.calls (xs := bitsL m) (p := fun i => suitsB (rd_T72 l i) s) (R := fun W W' => Below W.heap.size W W')
  {eg := enters_of Tryz.func105 (by kernel_rfl) rfl, refl := Below.refl _ _, call := fun x W hx hW => by
    have hi := bitsL_lt h1 h0 hx
    have e1 := (hW.block bo (blk_lt hbo)).trans hbo
    have e2 := (hW.block ob (blk_lt hob)).trans hob
    have e3 := (hW.block bs (blk_lt hbs)).trans hbs
    exact (room1_b (W := W) (l := l) (s := s) ((blk_cell e1 0).trans rfl) ((blk_cell e2 1).trans rfl) ((blk_cell e2 0).trans rfl) (Kd.C_below hC hW) ((blk_cell e3 0).trans rfl) ((blk_cell e3 1).trans rfl) ((blk_cell e3 2).trans rfl) ((blk_cell e3 3).trans rfl) x hi.1 hi.2).mono fun e W' ⟨g1, g2⟩ => ⟨g1, below_refl_trans hW g2⟩ }
  (fun W hW => Kd.C_below hL hW)
theorem pow_le9 {n : Nat} (h : n ≤ 9) : (2 : Int) ^ n ≤ 512 := by
 have : 2 ^ n ≤ 2 ^ 9 := Nat.pow_le_pow_right (by omega) h
 have e : (2 : Int) ^ n = ((2 ^ n : Nat) : Int) := by rw [Int.natCast_pow]; rfl
 rw [e]
 exact Int.ofNat_le.2 this
set_option maxHeartbeats 4000000 in
set_option maxRecDepth 100000 in
theorem room_b {w : World} {ob mb : Nat} {k : List Seat} {l : List Order} {m : Int} (hO : Off w ob mb k l) (hk : HoldsOk k) (h9 : l.length ≤ 9) (h0 : 0 ≤ m) (h1 : m < 2 ^ l.length) :
  Calls Tryz.prog 68 #[.pointer (some ⟨ob, 0, none⟩), .int .u64 m] w fun e w' => e = .returned (.int .i64 (roomI k l m)) ∧ Off w' ob mb k l ∧ w.grownBy w' (some mb) := by
 have h512 : m < 512 := Int.lt_of_lt_of_le h1 (pow_le9 h9)
 have HO := Aside0.mk hO
 have hlt := hO.lt
 obtain ⟨A, c0, B, c1, g, hblk, hCk, hck, hCl, hcl, hM, hg⟩ := hO
 have hM1 := hM.below (below_alloc (Below.refl _ _) (.cells #[.pointer (some ⟨ob, 0, none⟩)] 80))
 have hwf : (Lit.int .u64 m).wf = true := wf_u64 h0 (by omega)
 have hlook := hM1.look_ok Tryz.underlying93 Tryz.underlying127 Tryz.underlying3 (Tryz.zeroValue3 _) hwf
 have hb0 := (blk_cell hblk 0).trans rfl
 have hb1 := (blk_cell hblk 1).trans rfl
 have hb2 := (blk_cell hblk 2).trans rfl
 have hu := Tryz.underlying129
 have hu2 := Tryz.underlying70
 have HM := Aside0.mk hM
 have HG := Aside0.mk hg
 have HCk := Aside0.mk hCk
 have HCl := Aside0.mk hCl
 have HB := Aside0.mk hblk
 have HW := Aside0.mk hwf
 have hlk := hk.1
 have HK := Aside0.mk hk
 have HH1 := Aside0.mk h1
 clear hM hM1 hg hCk hCl hblk hwf hk h1
 cases hgm : g m with
 | some y =>
  rw [hgm] at hlook
  have hy := (HG.out m y hgm).2.2
  have HY := Aside0.mk hy
  clear hy hgm
  simp only [Option.getD_some, Option.isSome_some] at hlook
  go_enter Tryz.func68, Tryz.ntmps68
  go_wp2
  go_ret
  exact ⟨by rw [← HY.out]; rfl, HO.out.below (below_alloc (Below.refl _ _) _), grown_of_below (below_alloc (Below.refl _ _) _) _⟩
 | none =>
  rw [hgm] at hlook
  have HGM := Aside0.mk hgm
  clear hgm
  simp only [Option.getD_none, Option.isSome_none] at hlook
  have hlk2 : k.length ≤ 9223372036854775807 := by omega
  go_enter Tryz.func68, Tryz.ntmps68
  go_wp2
  have HL0 := Aside0.mk hlook
  clear hlook
  go_loopg [5, 8, 25] k.length (fun gg s5 s8 s25 wr => ∃ (kk : Nat) (x : Int), kk ≤ k.length ∧ k.length - kk ≤ gg ∧ s25 = .int .i64 kk ∧ s5 = .int .i64 x ∧ 0 ≤ x ∧ x ≤ 24000 ∧ Aside0 (x = roomTo k l m kk) ∧ Aside0 (Below (w.heap.size + 1) (w.alloc (.cells #[.pointer (some ⟨ob, 0, none⟩)] 80)) wr))
  case atStart => exact ⟨0, 0, Nat.zero_le _, by omega, rfl, rfl, by omega, by omega, ⟨by simp [roomTo]⟩, ⟨Below.refl _ _⟩⟩
  case round =>
   obtain ⟨kk, x, hkk, hgk, rfl, rfl, hx0, hx1, HX, HB1⟩ := hrel
   have HBw : Aside0 (Below w.heap.size w wr) := ⟨(below_alloc (Below.refl _ _) _).trans (HB1.out.mono (by omega))⟩
   have hsz : w.heap.size + 1 ≤ wr.heap.size := by have := HB1.out.size; simpa using this
   by_cases hlt2 : kk < k.length
   ·have hltz : (kk : Int) < (k.length : Int) := by omega
    have hs : k[kk]? = some (rd_T70 k (kk : Int)) := by simp [rd_T70, List.getD_eq_getElem?_getD, hlt2]
    obtain ⟨ad, rfl, l0', l1, l2, l3⟩ := at_T70 (Kd.C_below HCk.out HBw.out) (kk : Int) (by omega) hltz
    simp only [Int.toNat_natCast] at l0' l1 l2 l3
    have hh := HK.out.2 _ (List.mem_of_getElem? hs)
    have hsc := roomTo_succ (l := l) (m := m) hs
    generalize rd_T70 k (kk : Int) = s at *
    obtain ⟨hh0, hh1⟩ := hh
    have HSC := Aside0.mk hsc
    have hbo := (HB1.out.block w.heap.size (by omega)).trans (heap_alloc_new w _)
    have hob := (HBw.out.block ob hlt.1).trans HB.out
    have HBO := Aside0.mk hbo
    have HOB := Aside0.mk hob
    clear hs hsc hbo hob
    go_wp2_with fail
    refine (list_b h0 h512 _).mono ?_
    rintro e w2 ⟨A', c', rfl, hc', hL, hb2⟩
    have hbs := (hb2.block wr.heap.size (by simp)).trans (heap_alloc_new wr _)
    have HBx := below_then (HB1.out.alloc hsz _) (by simp; omega) hb2
    have hbo2 := (hb2.block w.heap.size (by have := HBw.out.size; have := HB1.out.size; simp; omega)).trans ((Below.heap_alloc _ _ _ (by omega)).trans HBO.out)
    have hob2 := (hb2.block ob (by have := HBw.out.size; simp; omega)).trans ((Below.heap_alloc _ _ _ (by have := HBw.out.size; omega)).trans HOB.out)
    have hCl2 := Kd.C_below HCl.out (below_refl_trans (below_alloc HBw.out _) hb2)
    have hcall := roomAny (s := s) (c' := c') h0 HH1.out hbo2 hob2 hCl2 hbs hL
    have HBX := Aside0.mk HBx
    have HB2 := Aside0.mk hb2
    have HBS := Aside0.mk hbs
    clear hb2 hbo2 hob2 hCl2 hbs hL HBx
    cases hin : seatIn l m s
    all_goals
     rw [hin] at hcall
     have HSC2 := HSC.out
     rw [hin] at HSC2
     have HC3 := Aside0.mk hcall
     have HSC3 := Aside0.mk HSC2
     clear hcall HSC2 hin
     go_wp2_with fail
     refine HC3.out.mono ?_
     rintro e w3 ⟨rfl, hb3⟩
     have HBY := Aside0.mk (HBX.out.trans (hb3.mono (by have := HBX.out.size; simpa using this)))
     have hbs3 := (hb3.block wr.heap.size (blk_lt HBS.out)).trans HBS.out
     have hc2 := (blk_cell hbs3 3).trans rfl
     have HBS3 := Aside0.mk hbs3
     clear hb3 hbs3
     go_wp2
    ·go_roundg (k.length - (kk + 1))
     case measure => omega
     case rel => exact ⟨kk + 1, x, by omega, by omega, by go_num, rfl, hx0, hx1, ⟨by rw [HSC3.out, HX.out]; simp⟩, HBY⟩
    ·go_roundg (k.length - (kk + 1))
     case measure => omega
     case rel => exact ⟨kk + 1, x + s.f2, by omega, by omega, by go_num, rfl, by omega, by have := roomTo_bd HK.out l m (kk + 1) (by omega); have h5 := HSC3.out; have h6 := HX.out; simp at h5; omega, ⟨by rw [HSC3.out, HX.out]; simp⟩, HBY⟩
   ·have hltz : ¬ (kk : Int) < (k.length : Int) := by omega
    have hd1 : decide (kk < k.length) = false := decide_eq_false hlt2
    have hd2 : decide ((kk : Int) < (k.length : Int)) = false := decide_eq_false hltz
    have hge : k.length ≤ kk := by omega
    clear hlt2 hltz
    have hX : x = roomI k l m := by rw [HX.out]; unfold roomI; congr 1; omega
    have HX2 := Aside0.mk hX
    clear hX HX
    have hob := (HBw.out.block ob hlt.1).trans HB.out
    have hb0' := (blk_cell hob 0).trans rfl
    have hb1' := (blk_cell hob 1).trans rfl
    have hb2' := (blk_cell hob 2).trans rfl
    have hbo := (blk_cell ((HB1.out.block w.heap.size (by omega)).trans (heap_alloc_new w _)) 0).trans rfl
    clear hob
    go_wp2_with (at_mapUpdate; refine wpList_store_imap rfl _ _ _ 127 rfl (HM.out.below HBw.out) Tryz.underlying93 Tryz.underlying127 (by unfold maxLen; omega) rfl rfl HW.out rfl (plainElem_int Tryz.underlying3 (wf_i64 (by omega) (by omega))) ?_; intro w2 hm2 hgr2)
    go_ret
    refine ⟨by rw [← HX2.out]; rfl, (HO.out.below HBw.out).store (g := fun z => if z = m then some x else g z) ?_ hm2 hgr2, below_grown' HBw.out hgr2⟩
    intro z y hz
    by_cases e : z = m
    ·rw [if_pos e] at hz; cases hz; rw [e]; exact ⟨h0, h512, HX2.out⟩
    ·rw [if_neg e] at hz; exact HG.out z y hz
structure Fine (k : List Seat) (l : List Order) : Prop where
 hk : HoldsOk k
 hl : ManyOk l
 h9 : l.length ≤ 9
theorem fine_of {k : List Seat} {l : List Order} (h1 : seatsOk k = true) (h2 : ordersOk l = true) : Fine k l ∧ l.length ≤ 8 := by
 unfold seatsOk at h1
 simp only [Bool.and_eq_true, decide_eq_true_eq, Bool.not_eq_true', List.any_eq_false] at h1
 obtain ⟨h3, h4, _⟩ := (ordersOk_iff l).1 h2
 refine ⟨⟨⟨h1.1, fun s hs => ?_⟩, fun o ho => ?_, by omega⟩, h3⟩
 ·have : seatOk s = true := by simpa using h1.2 s hs
  unfold seatOk inB at this
  simp only [Bool.and_eq_true, decide_eq_true_eq] at this
  exact this.2.2
 ·have := h4 o ho
  unfold orderOk inB at this
  simp only [Bool.and_eq_true, decide_eq_true_eq] at this
  omega
def crowdB (k : List Seat) (l : List Order) (m : Int) : Bool := decide (roomI k l m < needI l m)
set_option maxHeartbeats 1000000 in
set_option maxRecDepth 100000 in
theorem isCrowd_b {w : World} {ob mb : Nat} {k : List Seat} {l : List Order} {m : Int} (hO : Off w ob mb k l) (hF : Fine k l) (h0 : 0 ≤ m) (h1 : m < 2 ^ l.length) :
  Calls Tryz.prog 54 #[.pointer (some ⟨ob, 0, none⟩), .int .u64 m] w fun e w' => e = .returned (.bool (crowdB k l m)) ∧ Off w' ob mb k l ∧ w.grownBy w' (some mb) := by
 have h512 : m < 512 := Int.lt_of_lt_of_le h1 (pow_le9 hF.h9)
 have HO := Aside0.mk hO
 have HF := Aside0.mk hF
 have H1 := Aside0.mk h1
 obtain ⟨A, c0, B, c1, g, hblk, hCk, hck, hCl, hcl, hM, hg⟩ := hO
 have hn := need_b (m := m) hF.hl hF.h9 h0 h512 hCl hcl
 have HE := Aside0.mk (show crowdB k l m = decide (roomI k l m < needI l m) from rfl)
 have hb0 := (blk_cell hblk 0).trans rfl
 have hb1 := (blk_cell hblk 1).trans rfl
 have hu := Tryz.underlying129
 have HN := Aside0.mk hn
 clear hn hF hM hg hCk hCl hblk h1
 generalize crowdB k l m = r at *
 go_enter Tryz.func54, Tryz.ntmps54
 go_wp2_with fail
 refine HN.out.mono ?_
 rintro e w2 ⟨rfl, hb⟩
 have HB := Aside0.mk hb
 clear hb
 go_wp2_with fail
 refine (room_b (HO.out.below HB.out) HF.out.hk HF.out.h9 h0 H1.out).mono ?_
 rintro e w3 ⟨rfl, hO3, hg3⟩
 have HO3 := Aside0.mk hO3
 have HG3 := Aside0.mk hg3
 clear hO3 hg3
 go_wp2
 go_ret
 exact ⟨congrArg (fun z => Ending.returned (.bool z)) HE.out.symm, HO3.out, below_grown' HB.out HG3.out⟩
def allI (l : List Order) : Int := 2 ^ l.length - 1
theorem all_small : ∀ n : Fin 10, (IntKind.u64.wrap (IntKind.u64.wrap (2 ^ n.val) - 1) : Int) = 2 ^ n.val - 1 := by decide
set_option maxHeartbeats 1000000 in
set_option maxRecDepth 100000 in
theorem all_b {w : World} {ob mb : Nat} {k : List Seat} {l : List Order} (hO : Off w ob mb k l) (hF : Fine k l) :
  Calls Tryz.prog 62 #[.pointer (some ⟨ob, 0, none⟩)] w fun e w' => e = .returned (.int .u64 (allI l)) ∧ w' = w := by
 have h9 := hF.h9
 obtain ⟨A, c0, B, c1, g, hblk, hCk, hck, hCl, hcl, hM, hg⟩ := hO
 have hb0 := (blk_cell hblk 0).trans rfl
 have hb1 := (blk_cell hblk 1).trans rfl
 have hu := Tryz.underlying129
 have HA := Aside0.mk (all_small ⟨l.length, by omega⟩)
 clear hM hg hCk hCl hblk hF
 go_enter Tryz.func62, Tryz.ntmps62
 go_wp2
 go_ret
 exact ⟨congrArg (fun z => Ending.returned (.int .u64 z)) HA.out, rfl⟩
theorem Off.made {w : World} {A B : Option Addr} {c0 c1 : Nat} {k : List Seat} {l : List Order} (h2 : Kd.C k70 w A k.length k) (h3 : k.length ≤ c0) (h4 : Kd.C k72 w B l.length l) (h5 : l.length ≤ c1) :
  Off ((w.alloc (.map #[] 0)).alloc (.cells #[.slice A k.length c0, .slice B l.length c1, .map (some w.heap.size)] 129)) (w.heap.size + 1) w.heap.size k l := by
 have hb : Below w.heap.size w ((w.alloc (.map #[] 0)).alloc (.cells #[.slice A k.length c0, .slice B l.length c1, .map (some w.heap.size)] 129)) := (below_alloc (Below.refl _ _) _).alloc (by simp) _
 refine ⟨A, c0, B, c1, fun _ => none, by simpa using heap_alloc_new (w.alloc (.map #[] 0)) _, Kd.C_below h2 hb, h3, Kd.C_below h4 hb, h5, ((IMap.made w).mono (by omega)).below (below_alloc (Below.refl _ _) _), fun x y h => by cases h⟩
def askErr (k : List Seat) (l : List Order) : Int := if seatsOk k then (if ordersOk l then 0 else 60) else 61
set_option maxHeartbeats 1000000 in
set_option maxRecDepth 100000 in
theorem asked_ok {w : World} {A B : Option Addr} {c0 c1 : Nat} {k : List Seat} {l : List Order} (hr0 : Kd.C k70 w A k.length k) (hc0 : k.length ≤ c0) (hr1 : Kd.C k72 w B l.length l) (hc1 : l.length ≤ c1) (h1 : seatsOk k = true) (h2 : ordersOk l = true) :
  Calls Tryz.prog 42 #[.slice A k.length c0, .slice B l.length c1] w fun e w' => ∃ ob mb, e = .returned (.tuple #[.pointer (some ⟨ob, 0, none⟩), .int .i64 0]) ∧ Off w' ob mb k l ∧ Below w.heap.size w w' ∧ w.heap.size ≤ ob ∧ w.heap.size ≤ mb := by
 have hs := plan_CheckSeats.calls A c0 k 0 w hr0 hc0 (by unfold plan_CheckSeats.f; rw [h1]; rfl)
 have ho := fun w2 (hb : Below w.heap.size w w2) => plan_CheckOrders.calls B c1 l 0 w2 (Kd.C_below hr1 hb) hc1 (by unfold plan_CheckOrders.f; rw [h2]; rfl)
 have hmm := @run_makeMap Tryz.prog
 have hu := Tryz.underlying129
 have HR0 := Aside0.mk hr0
 have HR1 := Aside0.mk hr1
 have HS := Aside0.mk hs
 have HO := Aside0.mk ho
 clear hs ho hr0 hr1 h1 h2
 go_enter Tryz.func42, Tryz.ntmps42
 go_wp2_with fail
 refine HS.out.mono ?_
 rintro e w2 ⟨rfl, hb⟩
 have HB := Aside0.mk hb
 clear hb
 go_wp2_with fail
 refine (HO.out _ HB.out).mono ?_
 rintro e w3 ⟨rfl, hb⟩
 have HB3 := Aside0.mk (below_refl_trans HB.out hb)
 clear hb
 go_wp2
 go_ret2
 have hsz := HB3.out.size
 exact ⟨_, _, rfl, Off.made (Kd.C_below HR0.out HB3.out) hc0 (Kd.C_below HR1.out HB3.out) hc1, (below_alloc HB3.out _).alloc (by simp; omega) _, by omega, hsz⟩
set_option maxHeartbeats 1000000 in
set_option maxRecDepth 100000 in
theorem asked_no {w : World} {A B : Option Addr} {c0 c1 : Nat} {k : List Seat} {l : List Order} (hr0 : Kd.C k70 w A k.length k) (hc0 : k.length ≤ c0) (hr1 : Kd.C k72 w B l.length l) (hc1 : l.length ≤ c1) (h : askErr k l ≠ 0) :
  Calls Tryz.prog 42 #[.slice A k.length c0, .slice B l.length c1] w fun e w' => e = .returned (.tuple #[.pointer none, .int .i64 (askErr k l)]) ∧ Below w.heap.size w w' := by
 unfold askErr at *
 cases h1 : seatsOk k
 ·have hs := plan_CheckSeats.calls A c0 k 61 w hr0 hc0 (by unfold plan_CheckSeats.f; rw [h1]; rfl)
  simp only [Bool.false_eq_true, if_false]
  have HS := Aside0.mk hs
  clear hs hr0 hr1 h h1
  go_enter Tryz.func42, Tryz.ntmps42
  go_wp2_with fail
  refine HS.out.mono ?_
  rintro e w2 ⟨rfl, hb⟩
  have HB := Aside0.mk hb
  clear hb
  go_wp2
  go_ret2
  exact ⟨rfl, HB.out⟩
 ·rw [h1] at h
  cases h2 : ordersOk l
  ·have hs := plan_CheckSeats.calls A c0 k 0 w hr0 hc0 (by unfold plan_CheckSeats.f; rw [h1]; rfl)
   have ho := fun w2 (hb : Below w.heap.size w w2) => plan_CheckOrders.calls B c1 l 60 w2 (Kd.C_below hr1 hb) hc1 (by unfold plan_CheckOrders.f; rw [h2]; rfl)
   simp only [Bool.false_eq_true, if_false, if_true]
   have HS := Aside0.mk hs
   have HO := Aside0.mk ho
   clear hs ho hr0 hr1 h h1 h2
   go_enter Tryz.func42, Tryz.ntmps42
   go_wp2_with fail
   refine HS.out.mono ?_
   rintro e w2 ⟨rfl, hb⟩
   have HB := Aside0.mk hb
   clear hb
   go_wp2_with fail
   refine (HO.out _ HB.out).mono ?_
   rintro e w3 ⟨rfl, hb⟩
   have HB3 := Aside0.mk (below_refl_trans HB.out hb)
   clear hb
   go_wp2
   go_ret2
   exact ⟨rfl, HB3.out⟩
  ·rw [h2] at h
   simp at h
def setFrom (n : Nat) : Int → List Int → Bool
 | _, [] => true
 | p, x :: xs => decide (0 ≤ x ∧ x < n ∧ p < x) && setFrom n x xs
def setOk (n : Nat) (s : List Int) : Bool := setFrom n (-1) s
def maskOf (s : List Int) : Nat := s.foldl (fun a x => a ||| 2 ^ x.toNat) 0
theorem maskOf_snoc (s : List Int) (x : Int) : maskOf (s ++ [x]) = maskOf s ||| 2 ^ x.toNat := by simp [maskOf, List.foldl_append]
theorem maskOf_lt {n : Nat} (s : List Int) (h : ∀ x ∈ s, 0 ≤ x ∧ x < n) : maskOf s < 2 ^ n := by
 unfold maskOf
 suffices ∀ (s : List Int) (a : Nat), a < 2 ^ n → (∀ x ∈ s, 0 ≤ x ∧ x < n) → s.foldl (fun a x => a ||| 2 ^ x.toNat) a < 2 ^ n from this s 0 (Nat.two_pow_pos n) h
 intro s
 induction s with
 | nil => intro a ha _; exact ha
 | cons x xs ih =>
  intro a ha h
  have hx := h x (by simp)
  exact ih _ (Nat.or_lt_two_pow ha (Nat.pow_lt_pow_right (by omega) (by omega))) (fun y hy => h y (by simp [hy]))
theorem setFrom_mem {n : Nat} {s : List Int} : ∀ {p : Int}, setFrom n p s = true → ∀ x ∈ s, 0 ≤ x ∧ x < n := by
 induction s with
 | nil => intro p _ x hx; cases hx
 | cons y ys ih =>
  intro p h x hx
  simp only [setFrom, Bool.and_eq_true, decide_eq_true_eq] at h
  rcases List.mem_cons.1 hx with rfl | hx
  ·exact ⟨h.1.1, h.1.2.1⟩
  ·exact ih h.2 x hx
def setI (n : Nat) (s : List Int) : Int × Int := if setOk n s then ((maskOf s : Int), 0) else (0, 62)
theorem or_all : ∀ a : Fin 512, ∀ x : Fin 9, Go.bits .or .u64 (a.val : Int) (shl .u64 1 (x.val : Int)) = ((a.val ||| 2 ^ x.val : Nat) : Int) := by decide +kernel
theorem or_some {a : Nat} {x : Int} (h : a < 512) (h0 : 0 ≤ x) (h1 : x < 9) : Go.bits .or .u64 (a : Int) (shl .u64 1 x) = ((a ||| 2 ^ x.toNat : Nat) : Int) := by
 have := or_all ⟨a, h⟩ ⟨x.toNat, by omega⟩
 simpa [Int.toNat_of_nonneg h0] using this
def lastI (s : List Int) : Int := s.getLastD (-1)
theorem rd_mid (pre : List Int) (x : Int) (xs : List Int) : rd (pre ++ x :: xs) (pre.length : Int) = x := by simp [rd, List.getD_eq_getElem?_getD]
theorem set_loop {n : Nat} (hn : n ≤ 9) (s : List Int) (hs : s.length ≤ 9223372036854775807) : ∀ (suf pre : List Int) (k : Nat), s = pre ++ suf → (∀ x ∈ pre, 0 ≤ x ∧ x < n) → suf.length < k →
  plan_set.l0 k (n : Int) s (maskOf pre : Int) s (s.length : Int) (pre.length : Int) = some (if setFrom n (lastI pre) suf then ((maskOf s : Int), 0) else (0, 62)) := by
 intro suf
 induction suf with
 | nil =>
  intro pre k he hp hk
  obtain ⟨k, rfl⟩ : ∃ m, k = m + 1 := ⟨k - 1, by omega⟩
  simp only [plan_set.l0]
  have e : s = pre := by simpa using he
  subst e
  rw [if_neg (by omega)]
  simp [setFrom]
 | cons x xs ih =>
  intro pre k he hp hk
  obtain ⟨k, rfl⟩ : ∃ m, k = m + 1 := ⟨k - 1, by omega⟩
  have hl : s.length = pre.length + (xs.length + 1) := by rw [he]; simp
  have hr : rd s (pre.length : Int) = x := by rw [he]; exact rd_mid pre x xs
  simp only [plan_set.l0]
  rw [if_pos (by omega), if_pos (by omega), if_pos (by omega), hr]
  have hr := Aside0.mk hr
  have hw1 : wrap64 ((n : Int) - 1) = (n : Int) - 1 := by unfold wrap64; omega
  rw [hw1]
  have hw : plan_isWithin.f x 0 ((n : Int) - 1) = some (decide (0 ≤ x ∧ x < n)) := by
   unfold plan_isWithin.f
   by_cases h : 0 ≤ x
   ·simp [h]; omega
   ·simp [h]
  rw [hw]
  simp only [Option.bind_some, setFrom]
  by_cases h : 0 ≤ x ∧ x < n
  ·rw [decide_eq_true h]
   simp only [if_true]
   have hmlt : maskOf pre < 512 := Nat.lt_of_lt_of_le (maskOf_lt pre hp) (by have := Nat.pow_le_pow_right (n := 2) (by omega) hn; omega)
   have hp2 : ∀ y ∈ pre ++ [x], 0 ≤ y ∧ y < n := by
    intro y hy
    rcases List.mem_append.1 hy with hy | hy
    ·exact hp y hy
    ·simp at hy; subst hy; exact h
   have hih := ih (pre ++ [x]) k (by rw [he]; simp) hp2 (by simp at hk; omega)
   rw [show lastI (pre ++ [x]) = x by simp [lastI, List.getLastD_eq_getLast?], maskOf_snoc, show ((pre ++ [x]).length : Int) = (pre.length : Int) + 1 by simp] at hih
   have hih := Aside0.mk hih
   have hwp : wrap64 ((pre.length : Int) + 1) = (pre.length : Int) + 1 := by unfold wrap64; omega
   have hor := Aside0.mk (or_some hmlt h.1 (by omega))
   clear hmlt
   by_cases hz : 0 < pre.length
   ·have hzz : (pre.length : Int) > 0 := Int.natCast_pos.2 hz
    have hwm : wrap64 ((pre.length : Int) - 1) = (pre.length : Int) - 1 := by unfold wrap64; omega
    rw [if_pos hzz, hwm, if_pos (by omega), if_pos (by omega)]
    have hprev : rd s ((pre.length : Int) - 1) = lastI pre := by
     rw [he]
     unfold rd lastI
     rw [List.getLastD_eq_getLast?, List.getLast?_eq_getElem?, List.getD_eq_getElem?_getD]
     rw [show ((pre.length : Int) - 1).toNat = pre.length - 1 by omega, List.getElem?_append_left (by omega)]
     rw [List.getElem?_eq_getElem (by omega)]
     rfl
    rw [hprev]
    by_cases hlt : lastI pre < x
    ·rw [if_neg (by omega), if_pos h.1, hor.out, hwp, hih.out]
     simp [h, hlt]
    ·rw [if_pos (by omega)]
     simp [hlt]
   ·have e : pre = [] := List.eq_nil_of_length_eq_zero (by omega)
    subst e
    rw [if_neg (by simp), if_pos h.1, hor.out, hwp, hih.out]
    have : lastI [] < x := by simp [lastI]; omega
    simp [h, this]
  ·rw [decide_eq_false h]
   simp
   intro h1 h2
   exact absurd ⟨h1, h2⟩ h
theorem set_some {n : Nat} (hn : n ≤ 9) (s : List Int) (hs : s.length ≤ 9223372036854775807) : plan_set.f (s.length + 1) (n : Int) s = some (setI n s) := by
 have := set_loop hn s hs s [] (s.length + 1) (by simp) (by simp) (by omega)
 exact this
def potbankref06_IsSet.f (l0 : List Order) (l1 : List Int) : Option Bool := some (setOk l0.length l1)
def prevI (s : List Int) (k : Nat) : Int := if k = 0 then -1 else rd s ((k : Int) - 1)
theorem drop_rd {s : List Int} {k : Nat} (h : k < s.length) : s.drop k = rd s (k : Int) :: s.drop (k + 1) := by
 rw [List.drop_eq_getElem_cons h]
 congr 1
 simp [rd, h]
theorem In_f (x hi : Int) : potbankref06_In.f x 0 hi = some (decide (0 ≤ x ∧ x ≤ hi)) := by
 unfold potbankref06_In.f
 by_cases h : x ≥ 0
 ·rw [if_pos h]; simp; omega
 ·rw [if_neg h]; simp; omega
theorem quiet_drawn {P : Program} {f : FuncId} {args : Array Value} {w : World} {n : Nat} {v : Value} (h : Calls P f args (w.drewN n) fun e w' => e = .returned v ∧ Drawn0 (w.drewN n) w') : Calls P f args (w.drewN n) fun e w'' => e = .returned v ∧ ∃ m, w'' = w.drewN m :=
 Calls.quiet_of (h.mono fun _ _ ⟨a, b⟩ => ⟨a, b.out⟩)
set_option maxHeartbeats 2000000 in
set_option maxRecDepth 100000 in
theorem potbankref06_IsSet.calls (A0 : Option Addr) (c0 : Nat) (l0 : List Order) (A1 : Option Addr) (c1 : Nat) (l1 : List Int) (r : Bool) (w : World) (hr0 : Kd.C k72 w A0 l0.length l0) (hc0 : l0.length ≤ c0) (hr1 : Kd.C (Kd.int .i64) w A1 l1.length l1) (hc1 : l1.length ≤ c1) (h : potbankref06_IsSet.f l0 l1 = some r) :
  Calls Tryz.prog 56 #[.slice A0 l0.length c0, .slice A1 l1.length c1] w fun e w' => e = .returned (.bool r) ∧ Below w.heap.size w w' := by
 have HE := Aside0.mk (Option.some.inj h)
 have hlen := hr1.2.1
 have hlen0 := hr0.2.1
 obtain ⟨n, hn⟩ : ∃ n, n = l0.length := ⟨_, rfl⟩
 rw [← hn] at HE hlen0 ⊢
 have HR := Aside0.mk hr1
 have hmix : Tryz.prog.follows .mixedOrders = true := by kernel_rfl
 clear h hr0 hr1 hn hc0
 have hnn : IntKind.i64.wrap ((n : Int) - 1) = (n : Int) - 1 := by rw [IntKind.wrap_i64]; omega
 have hnn2 : wrap64 ((n : Int) - 1) = (n : Int) - 1 := by unfold wrap64; omega
 go_enter Tryz.func56, Tryz.ntmps56
 go_wp2
 go_loopg [5] l1.length (fun gg s5 wr => ∃ kk : Nat, kk ≤ l1.length ∧ l1.length - kk ≤ gg ∧ s5 = .int .i64 (kk : Int) ∧ Aside0 (Below w.heap.size w wr) ∧ Aside0 (setFrom n (prevI l1 kk) (l1.drop kk) = r))
 case atStart => exact ⟨0, Nat.zero_le _, by omega, rfl, ⟨Below.refl _ _⟩, HE⟩
 case round =>
  clear HE
  obtain ⟨kk, hkk, hg, rfl, HB, HS⟩ := hrel
  by_cases hlt : kk < l1.length
  ·have hltz : (kk : Int) < (l1.length : Int) := by omega
   have hdr := drop_rd hlt
   obtain ⟨ad, rfl, q0⟩ := Kd.at_int (Kd.C_below HR.out HB.out) (kk : Int) (by omega) hltz
   simp only [Int.toNat_natCast] at q0
   have hs := HS.out
   rw [hdr] at hs
   have hIn := fun V => potbankref06_In.calls (rd l1 (kk : Int)) 0 ((n : Int) - 1) _ V (In_f _ _)
   have hpv : prevI l1 (kk + 1) = rd l1 (kk : Int) := by unfold prevI; rw [if_neg (by omega)]; congr 1; omega
   have hp0 : kk ≠ 0 → prevI l1 kk = rd l1 ((kk : Int) - 1) := fun h => by unfold prevI; rw [if_neg h]
   have hp1 : kk = 0 → prevI l1 kk = -1 := fun h => by unfold prevI; rw [if_pos h]
   have hq1 : kk ≠ 0 → (∃ W1 : World, W1 = wr) → wr.cell? (ad.add (kk - 1)) = some (.int .i64 (rd l1 ((kk : Int) - 1))) := fun h _ => by
    obtain ⟨ad2, e, q1⟩ := Kd.at_int (Kd.C_below HR.out HB.out) ((kk : Int) - 1) (by omega) (by omega)
    injection e with e
    subst e
    rw [show ((kk : Int) - 1).toNat = kk - 1 by omega] at q1
    exact q1
   simp only [setFrom] at hs
   generalize rd l1 (kk : Int) = x at *
   generalize rd l1 ((kk : Int) - 1) = y at *
   generalize prevI l1 kk = pv at *
   have HIN := Aside0.mk hIn
   have HPV := Aside0.mk hpv
   clear HS hdr hIn hpv
   by_cases hin : 0 ≤ x ∧ x ≤ (n : Int) - 1
   ·have hd : decide (0 ≤ x ∧ x ≤ (n : Int) - 1) = true := decide_eq_true hin
    rw [hd] at HIN
    clear hd
    by_cases hz : kk = 0
    ·have hz1 : decide ((kk : Int) > 0) = false := decide_eq_false (by omega)
     have hz2 : decide (0 < kk) = false := decide_eq_false (by omega)
     have hpx := hp1 hz
     subst hpx
     have hok : (decide (0 ≤ x ∧ x < (n : Int) ∧ -1 < x)) = true := decide_eq_true (by omega)
     rw [hok, Bool.true_and] at hs
     have HS2 := Aside0.mk hs
     clear hp0 hp1 hq1 hs hok hin
     subst hz
     have q0' : wr.cell? ad = some (.int .i64 x) := q0
     clear q0
     go_wp2_with fail
     go_quiet ((go_at_call 48; exact quiet_drawn (HIN.out _)))
     go_wp2
     go_roundg (l1.length - 1)
     case measure => omega
     case rel => exact ⟨0 + 1, by omega, by omega, by go_num, ⟨pw_below_drewN HB.out _⟩, ⟨by rw [HPV.out]; exact HS2.out⟩⟩
    ·have hz1 : decide ((kk : Int) > 0) = true := decide_eq_true (by omega)
     have hz2 : decide (0 < kk) = true := decide_eq_true (by omega)
     have hpx := hp0 hz
     subst hpx
     have q1 := hq1 hz ⟨_, rfl⟩
     have hkw : wrap64 ((kk : Int) - 1) = (kk : Int) - 1 := by unfold wrap64; omega
     have hkw2 : IntKind.i64.wrap ((kk : Int) - 1) = (kk : Int) - 1 := by rw [IntKind.wrap_i64]; omega
     have hkt : ((kk : Int) - 1).toNat = kk - 1 := by omega
     have hk0 : 0 ≤ (kk : Int) - 1 := by omega
     have hk1 : (kk : Int) - 1 < (l1.length : Int) := by omega
     have hk2 : kk - 1 < l1.length := by omega
     by_cases hyx : pv < x
     ·have hok : (decide (0 ≤ x ∧ x < (n : Int) ∧ pv < x)) = true := decide_eq_true (by omega)
      rw [hok, Bool.true_and] at hs
      have hge : decide (pv ≥ x) = false := decide_eq_false (by omega)
      have hge2 : decide (x ≤ pv) = false := decide_eq_false (by omega)
      have HS2 := Aside0.mk hs
      clear hp0 hp1 hq1 hs hok hz
      go_wp2_with fail
      go_quiet ((go_at_call 48; exact quiet_drawn (HIN.out _)))
      go_wp2
      go_roundg (l1.length - (kk + 1))
      case measure => omega
      case rel => exact ⟨kk + 1, by omega, by omega, by go_num, ⟨pw_below_drewN HB.out _⟩, ⟨by rw [HPV.out]; exact HS2.out⟩⟩
     ·have hok : (decide (0 ≤ x ∧ x < (n : Int) ∧ pv < x)) = false := decide_eq_false (by omega)
      rw [hok, Bool.false_and] at hs
      have hge : decide (pv ≥ x) = true := decide_eq_true (by omega)
      have hge2 : decide (x ≤ pv) = true := decide_eq_true (by omega)
      have HS2 := Aside0.mk hs
      clear hp0 hp1 hq1 hs hok hz
      go_wp2_with fail
      go_quiet ((go_at_call 48; exact quiet_drawn (HIN.out _)))
      go_wp2
      go_ret
      exact ⟨by rw [← HS2.out]; rfl, pw_below_drewN HB.out _⟩
   ·have hd : decide (0 ≤ x ∧ x ≤ (n : Int) - 1) = false := decide_eq_false hin
    rw [hd] at HIN
    have hok : (decide (0 ≤ x ∧ x < (n : Int) ∧ pv < x)) = false := decide_eq_false (by omega)
    rw [hok, Bool.false_and] at hs
    have HS2 := Aside0.mk hs
    clear hp0 hp1 hq1 hs hok hd hin
    go_wp2_with fail
    go_quiet ((go_at_call 48; exact quiet_drawn (HIN.out _)))
    go_wp2
    go_ret
    exact ⟨by rw [← HS2.out]; rfl, pw_below_drewN HB.out _⟩
  ·have hltz : ¬ (kk : Int) < (l1.length : Int) := by omega
   have hd1 : decide (kk < l1.length) = false := decide_eq_false hlt
   have hd2 : decide ((kk : Int) < (l1.length : Int)) = false := decide_eq_false hltz
   have hs := HS.out
   rw [List.drop_eq_nil_iff.2 (by omega)] at hs
   have HS2 := Aside0.mk (show true = r from hs)
   clear hs hlt hltz
   go_wp2
   go_ret
   exact ⟨by rw [← HS2.out]; rfl, HB.out⟩
end Go.Proofs.YthonlcnmjlldiaaGreat.P
namespace Go.Proofs.YthonlcnmjlldiaaGreat.P
open Go.RowKit Go.Proofs.YthonlcnmjlldiaaGreatW.PrintWords Go.Proofs.YthonlcnmjlldiaaGreatW.PrintLast Go.Proofs.YthonlcnmjlldiaaGreatW.PrintMore
attribute [local go_sem] max2_int min2_int max_two min_two max_three min_three max_four min_four
def potbankref06_checked.f (k : Nat) (l0 : List (S70)) (l1 : List (S72)) (l2 : List Int) : Option (Int) := (potbankref06_CheckSeats.f k l0).bind fun t173 => (if t173 = 0 then ((potbankref06_CheckOrders.f k l1).bind fun t174 => (if t174 = 0 then ((potbankref06_IsSet.f l1 l2).bind fun t175 => (if t175 = true then (some 0) else (some 62))) else (some 60))) else (some 61))
set_option maxHeartbeats 8000000 in
set_option maxRecDepth 100000 in
theorem potbankref06_checked.calls (k : Nat) (A0 : Option Addr) (c0 : Nat) (l0 : List (S70)) (A1 : Option Addr) (c1 : Nat) (l1 : List (S72)) (A2 : Option Addr) (c2 : Nat) (l2 : List Int) (r : Int) (w : World) (hr0 : Kd.C k70 w A0 l0.length l0) (hc0 : l0.length ≤ c0) (hr1 : Kd.C k72 w A1 l1.length l1) (hc1 : l1.length ≤ c1) (hr2 : Kd.C (Kd.int .i64) w A2 l2.length l2) (hc2 : l2.length ≤ c2) (h : potbankref06_checked.f k l0 l1 l2 = some r) :
  Calls Tryz.prog 47 #[.slice A0 l0.length c0, .slice A1 l1.length c1, .slice A2 l2.length c2] w fun e w' => e = .returned (.int .i64 r) ∧ Below w.heap.size w w' := by
 have HR0 := Aside0.mk hr0
 have HC0 := Aside0.mk hc0
 clear hr0 hc0
 have HR1 := Aside0.mk hr1
 have HC1 := Aside0.mk hc1
 clear hr1 hc1
 have HR2 := Aside0.mk hr2
 have HC2 := Aside0.mk hc2
 clear hr2 hc2
 have HB := Aside0.mk (Below.refl w.heap.size w)
 have H : ((potbankref06_CheckSeats.f k l0).bind fun t173 => (if t173 = 0 then ((potbankref06_CheckOrders.f k l1).bind fun t174 => (if t174 = 0 then ((potbankref06_IsSet.f l1 l2).bind fun t175 => (if t175 = true then (some 0) else (some 62))) else (some 60))) else (some 61))) = some r := h
 clear h
 replace H := Option.bind_eq_some_iff.mp H
 obtain ⟨t173, A40, H⟩ := H
 (try dsimp only at H)
 have A4 := Aside0.mk A40
 clear A40
 by_cases c5 : t173 = 0
 ·rw [if_pos c5] at H
  have c5b0 : (t173 == 0) = true := beq_iff_eq.mpr c5
  have c5b1 : (t173 != 0) = false := bne_eq_false_iff_eq.mpr c5
  clear c5
  replace H := Option.bind_eq_some_iff.mp H
  obtain ⟨t174, A60, H⟩ := H
  (try dsimp only at H)
  have A6 := Aside0.mk A60
  clear A60
  by_cases c7 : t174 = 0
  ·rw [if_pos c7] at H
   have c7b0 : (t174 == 0) = true := beq_iff_eq.mpr c7
   have c7b1 : (t174 != 0) = false := bne_eq_false_iff_eq.mpr c7
   clear c7
   replace H := Option.bind_eq_some_iff.mp H
   obtain ⟨t175, A80, H⟩ := H
   (try dsimp only at H)
   have A8 := Aside0.mk A80
   clear A80
   by_cases c9 : t175 = true
   ·subst c9
    rw [if_pos rfl] at H
    obtain rfl := Option.some.inj H
    go_enter Tryz.func47, Tryz.ntmps47
    go_wp2_with (first | ((with_reducible refine gate_callee (f := 94) rfl ?_); refine goesL_ (some 8) rfl rfl Tryz.func94 (by kernel_rfl) rfl #[.slice A0 l0.length c0] rfl (by (try simp only [List.map_toArray, List.map_cons, List.map_nil]); first | done | rfl | (simp only [List.length_drop, List.length_take]; rfl)) ?_; (with_reducible refine (potbankref06_CheckSeats.calls k _ _ l0 t173 _ ?side1 ?side2 A4.out).mono ?_); (case side1 => repeat (first | exact HR0.out | (with_reducible refine Kd.C_alloc ?_ _) | (with_reducible refine Kd.C_drewN ?_ _) | (with_reducible refine Kd.C_drew ?_))); (case side2 => exact HC0.out); rintro e w10 ⟨rfl, hb⟩; refine ⟨_, rfl, ?_⟩; have n0_ := Aside0.mk (below_step (by repeat (first | exact HB.out | apply below_alloc | apply pw_below_drewN | apply below_drew1)) hb); clear HB; have HB := n0_; clear n0_; (try clear hb); (try clear hb2); (try clear hk); (try clear hi)) | ((with_reducible refine gate_callee (f := 95) rfl ?_); refine goesL_ (some 11) rfl rfl Tryz.func95 (by kernel_rfl) rfl #[.slice A1 l1.length c1] rfl (by (try simp only [List.map_toArray, List.map_cons, List.map_nil]); first | done | rfl | (simp only [List.length_drop, List.length_take]; rfl)) ?_; (with_reducible refine (potbankref06_CheckOrders.calls k _ _ l1 t174 _ ?side1 ?side2 A6.out).mono ?_); (case side1 => repeat (first | exact (Kd.C_below HR1.out HB.out) | (with_reducible refine Kd.C_alloc ?_ _) | (with_reducible refine Kd.C_drewN ?_ _) | (with_reducible refine Kd.C_drew ?_))); (case side2 => exact HC1.out); rintro e w11 ⟨rfl, hb⟩; refine ⟨_, rfl, ?_⟩; have n0_ := Aside0.mk (below_step (by repeat (first | exact HB.out | apply below_alloc | apply pw_below_drewN | apply below_drew1)) hb); clear HB; have HB := n0_; clear n0_; (try clear hb); (try clear hb2); (try clear hk); (try clear hi)) | ((with_reducible refine gate_callee (f := 56) rfl ?_); refine goesL_ (some 15) rfl rfl Tryz.func56 (by kernel_rfl) rfl #[.slice A1 l1.length c1, .slice A2 l2.length c2] rfl (by (try simp only [List.map_toArray, List.map_cons, List.map_nil]); first | done | rfl | (simp only [List.length_drop, List.length_take]; rfl)) ?_; (with_reducible refine (potbankref06_IsSet.calls _ _ l1 _ _ l2 true _ ?side1 ?side2 ?side3 ?side4 A8.out).mono ?_); (case side1 => repeat (first | exact (Kd.C_below HR1.out HB.out) | (with_reducible refine Kd.C_alloc ?_ _) | (with_reducible refine Kd.C_drewN ?_ _) | (with_reducible refine Kd.C_drew ?_))); (case side2 => exact HC1.out); (case side3 => repeat (first | exact (Kd.C_below HR2.out HB.out) | (with_reducible refine Kd.C_alloc ?_ _) | (with_reducible refine Kd.C_drewN ?_ _) | (with_reducible refine Kd.C_drew ?_))); (case side4 => exact HC2.out); rintro e w12 ⟨rfl, hb⟩; refine ⟨_, rfl, ?_⟩; have n0_ := Aside0.mk (below_step (by repeat (first | exact HB.out | apply below_alloc | apply pw_below_drewN | apply below_drew1)) hb); clear HB; have HB := n0_; clear n0_; (try clear hb); (try clear hb2); (try clear hk); (try clear hi)))
    go_ret
    exact ⟨by first | rfl | (simp [errW_none, errW_some] <;> rfl) | (simp [*, errW_none, errW_some] <;> rfl), by repeat (first | exact HB.out | apply below_alloc | apply pw_below_drewN | apply below_drew1)⟩
   ·replace c9 := Bool.eq_false_iff.mpr c9
    subst c9
    rw [if_neg (show ¬ (false = true) by decide)] at H
    obtain rfl := Option.some.inj H
    go_enter Tryz.func47, Tryz.ntmps47
    go_wp2_with (first | ((with_reducible refine gate_callee (f := 94) rfl ?_); refine goesL_ (some 8) rfl rfl Tryz.func94 (by kernel_rfl) rfl #[.slice A0 l0.length c0] rfl (by (try simp only [List.map_toArray, List.map_cons, List.map_nil]); first | done | rfl | (simp only [List.length_drop, List.length_take]; rfl)) ?_; (with_reducible refine (potbankref06_CheckSeats.calls k _ _ l0 t173 _ ?side1 ?side2 A4.out).mono ?_); (case side1 => repeat (first | exact HR0.out | (with_reducible refine Kd.C_alloc ?_ _) | (with_reducible refine Kd.C_drewN ?_ _) | (with_reducible refine Kd.C_drew ?_))); (case side2 => exact HC0.out); rintro e w13 ⟨rfl, hb⟩; refine ⟨_, rfl, ?_⟩; have n0_ := Aside0.mk (below_step (by repeat (first | exact HB.out | apply below_alloc | apply pw_below_drewN | apply below_drew1)) hb); clear HB; have HB := n0_; clear n0_; (try clear hb); (try clear hb2); (try clear hk); (try clear hi)) | ((with_reducible refine gate_callee (f := 95) rfl ?_); refine goesL_ (some 11) rfl rfl Tryz.func95 (by kernel_rfl) rfl #[.slice A1 l1.length c1] rfl (by (try simp only [List.map_toArray, List.map_cons, List.map_nil]); first | done | rfl | (simp only [List.length_drop, List.length_take]; rfl)) ?_; (with_reducible refine (potbankref06_CheckOrders.calls k _ _ l1 t174 _ ?side1 ?side2 A6.out).mono ?_); (case side1 => repeat (first | exact (Kd.C_below HR1.out HB.out) | (with_reducible refine Kd.C_alloc ?_ _) | (with_reducible refine Kd.C_drewN ?_ _) | (with_reducible refine Kd.C_drew ?_))); (case side2 => exact HC1.out); rintro e w14 ⟨rfl, hb⟩; refine ⟨_, rfl, ?_⟩; have n0_ := Aside0.mk (below_step (by repeat (first | exact HB.out | apply below_alloc | apply pw_below_drewN | apply below_drew1)) hb); clear HB; have HB := n0_; clear n0_; (try clear hb); (try clear hb2); (try clear hk); (try clear hi)) | ((with_reducible refine gate_callee (f := 56) rfl ?_); refine goesL_ (some 15) rfl rfl Tryz.func56 (by kernel_rfl) rfl #[.slice A1 l1.length c1, .slice A2 l2.length c2] rfl (by (try simp only [List.map_toArray, List.map_cons, List.map_nil]); first | done | rfl | (simp only [List.length_drop, List.length_take]; rfl)) ?_; (with_reducible refine (potbankref06_IsSet.calls _ _ l1 _ _ l2 false _ ?side1 ?side2 ?side3 ?side4 A8.out).mono ?_); (case side1 => repeat (first | exact (Kd.C_below HR1.out HB.out) | (with_reducible refine Kd.C_alloc ?_ _) | (with_reducible refine Kd.C_drewN ?_ _) | (with_reducible refine Kd.C_drew ?_))); (case side2 => exact HC1.out); (case side3 => repeat (first | exact (Kd.C_below HR2.out HB.out) | (with_reducible refine Kd.C_alloc ?_ _) | (with_reducible refine Kd.C_drewN ?_ _) | (with_reducible refine Kd.C_drew ?_))); (case side4 => exact HC2.out); rintro e w15 ⟨rfl, hb⟩; refine ⟨_, rfl, ?_⟩; have n0_ := Aside0.mk (below_step (by repeat (first | exact HB.out | apply below_alloc | apply pw_below_drewN | apply below_drew1)) hb); clear HB; have HB := n0_; clear n0_; (try clear hb); (try clear hb2); (try clear hk); (try clear hi)))
    go_ret
    exact ⟨by first | rfl | (simp [errW_none, errW_some] <;> rfl) | (simp [*, errW_none, errW_some] <;> rfl), by repeat (first | exact HB.out | apply below_alloc | apply pw_below_drewN | apply below_drew1)⟩
  ·rw [if_neg c7] at H
   have c7b0 : (t174 == 0) = false := beq_eq_false_iff_ne.mpr c7
   have c7b1 : (t174 != 0) = true := bne_iff_ne.mpr c7
   obtain rfl := Option.some.inj H
   go_enter Tryz.func47, Tryz.ntmps47
   go_wp2_with (first | ((with_reducible refine gate_callee (f := 94) rfl ?_); refine goesL_ (some 8) rfl rfl Tryz.func94 (by kernel_rfl) rfl #[.slice A0 l0.length c0] rfl (by (try simp only [List.map_toArray, List.map_cons, List.map_nil]); first | done | rfl | (simp only [List.length_drop, List.length_take]; rfl)) ?_; (with_reducible refine (potbankref06_CheckSeats.calls k _ _ l0 t173 _ ?side1 ?side2 A4.out).mono ?_); (case side1 => repeat (first | exact HR0.out | (with_reducible refine Kd.C_alloc ?_ _) | (with_reducible refine Kd.C_drewN ?_ _) | (with_reducible refine Kd.C_drew ?_))); (case side2 => exact HC0.out); rintro e w16 ⟨rfl, hb⟩; refine ⟨_, rfl, ?_⟩; have n0_ := Aside0.mk (below_step (by repeat (first | exact HB.out | apply below_alloc | apply pw_below_drewN | apply below_drew1)) hb); clear HB; have HB := n0_; clear n0_; (try clear hb); (try clear hb2); (try clear hk); (try clear hi)) | ((with_reducible refine gate_callee (f := 95) rfl ?_); refine goesL_ (some 11) rfl rfl Tryz.func95 (by kernel_rfl) rfl #[.slice A1 l1.length c1] rfl (by (try simp only [List.map_toArray, List.map_cons, List.map_nil]); first | done | rfl | (simp only [List.length_drop, List.length_take]; rfl)) ?_; (with_reducible refine (potbankref06_CheckOrders.calls k _ _ l1 t174 _ ?side1 ?side2 A6.out).mono ?_); (case side1 => repeat (first | exact (Kd.C_below HR1.out HB.out) | (with_reducible refine Kd.C_alloc ?_ _) | (with_reducible refine Kd.C_drewN ?_ _) | (with_reducible refine Kd.C_drew ?_))); (case side2 => exact HC1.out); rintro e w17 ⟨rfl, hb⟩; refine ⟨_, rfl, ?_⟩; have n0_ := Aside0.mk (below_step (by repeat (first | exact HB.out | apply below_alloc | apply pw_below_drewN | apply below_drew1)) hb); clear HB; have HB := n0_; clear n0_; (try clear hb); (try clear hb2); (try clear hk); (try clear hi)))
   go_ret
   exact ⟨by first | rfl | (simp [errW_none, errW_some] <;> rfl) | (simp [*, errW_none, errW_some] <;> rfl), by repeat (first | exact HB.out | apply below_alloc | apply pw_below_drewN | apply below_drew1)⟩
 ·rw [if_neg c5] at H
  have c5b0 : (t173 == 0) = false := beq_eq_false_iff_ne.mpr c5
  have c5b1 : (t173 != 0) = true := bne_iff_ne.mpr c5
  obtain rfl := Option.some.inj H
  go_enter Tryz.func47, Tryz.ntmps47
  go_wp2_with (first | ((with_reducible refine gate_callee (f := 94) rfl ?_); refine goesL_ (some 8) rfl rfl Tryz.func94 (by kernel_rfl) rfl #[.slice A0 l0.length c0] rfl (by (try simp only [List.map_toArray, List.map_cons, List.map_nil]); first | done | rfl | (simp only [List.length_drop, List.length_take]; rfl)) ?_; (with_reducible refine (potbankref06_CheckSeats.calls k _ _ l0 t173 _ ?side1 ?side2 A4.out).mono ?_); (case side1 => repeat (first | exact HR0.out | (with_reducible refine Kd.C_alloc ?_ _) | (with_reducible refine Kd.C_drewN ?_ _) | (with_reducible refine Kd.C_drew ?_))); (case side2 => exact HC0.out); rintro e w18 ⟨rfl, hb⟩; refine ⟨_, rfl, ?_⟩; have n0_ := Aside0.mk (below_step (by repeat (first | exact HB.out | apply below_alloc | apply pw_below_drewN | apply below_drew1)) hb); clear HB; have HB := n0_; clear n0_; (try clear hb); (try clear hb2); (try clear hk); (try clear hi)))
  go_ret
  exact ⟨by first | rfl | (simp [errW_none, errW_some] <;> rfl) | (simp [*, errW_none, errW_some] <;> rfl), by repeat (first | exact HB.out | apply below_alloc | apply pw_below_drewN | apply below_drew1)⟩
end Go.Proofs.YthonlcnmjlldiaaGreat.P
