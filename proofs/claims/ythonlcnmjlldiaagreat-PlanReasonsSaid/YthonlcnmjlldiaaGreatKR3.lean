/- potbanklaw06.PlanReasons returns true for every input, and what comes in reads as it did. Conditions: none. Part 3 of the proof. -/
import Derived.Test.YthonlcnmjlldiaaGreatKR2
import Derived.Sort.Grow
import Derived.RangeFuncNested
import Derived.RangeFuncBound
import Derived.RangeFuncCalls
import Derived.RangeFuncLeaves
import Derived.Shelf.RegionOpen
import Derived.OwnWalkIn
import Derived.TacticsInMore
import Derived.LoopNIn
import Derived.LoopIn
import Derived.Maps.OwnIn
set_option linter.unusedVariables false
set_option linter.unusedSimpArgs false
namespace Go.Proofs.YthonlcnmjlldiaaGreat.P
open Go.Shelf Go.RowKit Go.Proofs.YthonlcnmjlldiaaGreatW.PrintWords Go.Proofs.YthonlcnmjlldiaaGreatW.PrintLast Go.Proofs.YthonlcnmjlldiaaGreatW.PrintMore
abbrev KS (w : World) (A : Option Addr) (k : List Seat) : Prop := Kd.C k70 w A k.length k
abbrev KO (w : World) (B : Option Addr) (l : List Order) : Prop := Kd.C k72 w B l.length l
abbrev KI (w : World) (B : Option Addr) (l : List Int) : Prop := Kd.C (Kd.int .i64) w B l.length l
def askSetErr (k : List Seat) (l : List Order) (s : List Int) : Int := if askErr k l = 0 then (if setOk l.length s then 0 else 62) else askErr k l
theorem askErr_ok {k : List Seat} {l : List Order} (h : askErr k l = 0) : seatsOk k = true ∧ ordersOk l = true := by
 unfold askErr at h
 cases h1 : seatsOk k <;> cases h2 : ordersOk l <;> simp [h1, h2] at h ⊢
theorem fine_ask {k : List Seat} {l : List Order} (h : askErr k l = 0) : Fine k l ∧ l.length ≤ 8 := fine_of (askErr_ok h).1 (askErr_ok h).2
theorem setOk_lt {n : Nat} {s : List Int} (h : setOk n s = true) : (0 : Int) ≤ maskOf s ∧ (maskOf s : Int) < 2 ^ n := by
 have := maskOf_lt s (setFrom_mem h)
 refine ⟨by omega, ?_⟩
 have h2 : ((maskOf s : Nat) : Int) < ((2 ^ n : Nat) : Int) := Int.ofNat_lt.2 this
 rw [Int.natCast_pow] at h2
 exact h2
set_option maxHeartbeats 1000000 in
set_option maxRecDepth 100000 in
theorem askedSet_ok {w : World} {A B C : Option Addr} {c0 c1 c2 : Nat} {k : List Seat} {l : List Order} {s : List Int} (hr0 : KS w A k) (hc0 : k.length ≤ c0) (hr1 : KO w B l) (hc1 : l.length ≤ c1) (hr2 : KI w C s) (hc2 : s.length ≤ c2) (h1 : askErr k l = 0) (h2 : setOk l.length s = true) :
  Calls Tryz.prog 67 #[.slice A k.length c0, .slice B l.length c1, .slice C s.length c2] w fun e w' => ∃ ob mb, e = .returned (.tuple #[.pointer (some ⟨ob, 0, none⟩), .int .u64 (maskOf s), .int .i64 0]) ∧ Off w' ob mb k l ∧ Below w.heap.size w w' ∧ w.heap.size ≤ ob ∧ w.heap.size ≤ mb := by
 have hF := (fine_ask h1).2
 have ha := asked_ok hr0 hc0 hr1 hc1 (askErr_ok h1).1 (askErr_ok h1).2
 have hs := set_some (n := l.length) (by omega) s hr2.2.1
 unfold setI at hs
 rw [h2] at hs
 have HS := Aside0.mk hs
 have HR2 := Aside0.mk hr2
 have HA := Aside0.mk ha
 clear hs ha h1 h2 hr0 hr1 hr2
 go_enter Tryz.func67, Tryz.ntmps67
 go_wp2_with fail
 refine HA.out.mono ?_
 rintro e w2 ⟨ob, mb, rfl, hO, hb, hl1, hl2⟩
 have HO := Aside0.mk hO
 have HB := Aside0.mk hb
 clear hO hb
 go_wp2_with fail
 refine (plan_set.calls _ _ _ _ s _ _ _ (Kd.C_below HR2.out HB.out) hc2 HS.out).mono ?_
 rintro e w3 ⟨rfl, hd⟩
 have HD := Aside0.mk hd.below
 clear hd
 go_wp2
 go_ret3
 exact ⟨ob, mb, rfl, HO.out.below HD.out, below_refl_trans HB.out HD.out, hl1, hl2⟩
set_option maxHeartbeats 1000000 in
set_option maxRecDepth 100000 in
theorem askedSet_no {w : World} {A B C : Option Addr} {c0 c1 c2 : Nat} {k : List Seat} {l : List Order} {s : List Int} (hr0 : KS w A k) (hc0 : k.length ≤ c0) (hr1 : KO w B l) (hc1 : l.length ≤ c1) (hr2 : KI w C s) (hc2 : s.length ≤ c2) (h : askSetErr k l s ≠ 0) :
  Calls Tryz.prog 67 #[.slice A k.length c0, .slice B l.length c1, .slice C s.length c2] w fun e w' => ∃ p, e = .returned (.tuple #[.pointer p, .int .u64 0, .int .i64 (askSetErr k l s)]) ∧ Below w.heap.size w w' := by
 unfold askSetErr at *
 by_cases h1 : askErr k l = 0
 ·rw [if_pos h1] at h ⊢
  have h2 : setOk l.length s = false := by
   cases h2 : setOk l.length s
   ·rfl
   ·rw [h2] at h; simp at h
  rw [h2]
  simp only [Bool.false_eq_true, if_false]
  have hF := (fine_ask h1).2
  have ha := asked_ok hr0 hc0 hr1 hc1 (askErr_ok h1).1 (askErr_ok h1).2
  have hs := set_some (n := l.length) (by omega) s hr2.2.1
  unfold setI at hs
  rw [h2] at hs
  have HS := Aside0.mk hs
  have HR2 := Aside0.mk hr2
  have HA := Aside0.mk ha
  clear hs ha h1 h2 h hr0 hr1 hr2
  go_enter Tryz.func67, Tryz.ntmps67
  go_wp2_with fail
  refine HA.out.mono ?_
  rintro e w2 ⟨ob, mb, rfl, hO, hb, hl1, hl2⟩
  have HO := Aside0.mk hO
  have HB := Aside0.mk hb
  clear hO hb
  go_wp2_with fail
  refine (plan_set.calls _ _ _ _ s _ _ _ (Kd.C_below HR2.out HB.out) hc2 HS.out).mono ?_
  rintro e w3 ⟨rfl, hd⟩
  have HD := Aside0.mk hd.below
  clear hd
  go_wp2
  go_ret3
  exact ⟨_, rfl, below_refl_trans HB.out HD.out⟩
 ·rw [if_neg h1]
  have ha := asked_no hr0 hc0 hr1 hc1 h1
  have HA := Aside0.mk ha
  have hbn : (askErr k l != 0) = true := by simpa using h1
  have hbe : (askErr k l == 0) = false := by simpa using h1
  generalize askErr k l = z at *
  clear ha h1 h hr0 hr1 hr2
  go_enter Tryz.func67, Tryz.ntmps67
  go_wp2_with fail
  refine HA.out.mono ?_
  rintro e w2 ⟨rfl, hb⟩
  have HB := Aside0.mk hb
  clear hb
  go_wp2
  go_ret3
  exact ⟨_, rfl, HB.out⟩
def plan_Room.f (l0 : List Seat) (l1 : List Order) (l2 : List Int) : Option (Int × Int) := some (if askSetErr l0 l1 l2 = 0 then (roomI l0 l1 (maskOf l2), 0) else (0, askSetErr l0 l1 l2))
theorem askSet_split {k : List Seat} {l : List Order} {s : List Int} (h : askSetErr k l s = 0) : askErr k l = 0 ∧ setOk l.length s = true := by
 unfold askSetErr at h
 by_cases h1 : askErr k l = 0
 ·rw [if_pos h1] at h
  refine ⟨h1, ?_⟩
  cases h2 : setOk l.length s
  ·rw [h2] at h; simp at h
  ·rfl
 ·rw [if_neg h1] at h; exact absurd h h1
set_option maxHeartbeats 1000000 in
set_option maxRecDepth 100000 in
theorem plan_Room.calls (A0 : Option Addr) (c0 : Nat) (l0 : List Seat) (A1 : Option Addr) (c1 : Nat) (l1 : List Order) (A2 : Option Addr) (c2 : Nat) (l2 : List Int) (r1 : Int) (r2 : Int) (w : World) (hr0 : KS w A0 l0) (hc0 : l0.length ≤ c0) (hr1 : KO w A1 l1) (hc1 : l1.length ≤ c1) (hr2 : KI w A2 l2) (hc2 : l2.length ≤ c2) (h : plan_Room.f l0 l1 l2 = some (r1, r2)) :
  Calls Tryz.prog 19 #[.slice A0 l0.length c0, .slice A1 l1.length c1, .slice A2 l2.length c2] w fun e w' => e = .returned (.tuple #[.int .i64 r1, .int .i64 r2]) ∧ Below w.heap.size w w' := by
 unfold plan_Room.f at h
 by_cases he : askSetErr l0 l1 l2 = 0
 ·rw [if_pos he] at h
  simp only [Option.some.injEq, Prod.mk.injEq] at h
  obtain ⟨h1, rfl⟩ := h
  obtain ⟨ha, hs⟩ := askSet_split he
  have hF := (fine_ask ha).1
  have hm := setOk_lt hs
  have hA := askedSet_ok hr0 hc0 hr1 hc1 hr2 hc2 ha hs
  have HA := Aside0.mk hA
  have HF := Aside0.mk hF
  have H1 := Aside0.mk h1
  have HM := Aside0.mk hm
  clear hA he ha hs hF hr0 hr1 hr2 h1 hm
  generalize (maskOf l2 : Int) = m at *
  go_enter Tryz.func19, Tryz.ntmps19
  go_wp2_with fail
  refine HA.out.mono ?_
  rintro e w2 ⟨ob, mb, rfl, hO, hb, hl1, hl2⟩
  have HO := Aside0.mk hO
  have HB := Aside0.mk hb
  clear hO hb
  go_wp2_with fail
  refine (room_b HO.out HF.out.hk HF.out.h9 HM.out.1 HM.out.2).mono ?_
  rintro e w3 ⟨rfl, hO3, hg3⟩
  have HG3 := Aside0.mk hg3
  clear hO3 hg3
  go_wp2
  go_ret2
  exact ⟨by rw [← H1.out]; rfl, HB.out.grown HG3.out HB.out.size (fun j hj => by cases hj; exact hl2)⟩
 ·rw [if_neg he] at h
  simp only [Option.some.injEq, Prod.mk.injEq] at h
  obtain ⟨rfl, rfl⟩ := h
  have hA := askedSet_no hr0 hc0 hr1 hc1 hr2 hc2 he
  have HA := Aside0.mk hA
  have hbn : (askSetErr l0 l1 l2 != 0) = true := by simpa using he
  have hbe : (askSetErr l0 l1 l2 == 0) = false := by simpa using he
  generalize askSetErr l0 l1 l2 = z at *
  clear hA he hr0 hr1 hr2
  go_enter Tryz.func19, Tryz.ntmps19
  go_wp2_with fail
  refine HA.out.mono ?_
  rintro e w2 ⟨p, rfl, hb⟩
  have HB := Aside0.mk hb
  clear hb
  go_wp2
  go_ret2
  exact ⟨rfl, HB.out⟩
end Go.Proofs.YthonlcnmjlldiaaGreat.P
namespace Go.Proofs.YthonlcnmjlldiaaGreat.P
open Go.RowKit Go.Proofs.YthonlcnmjlldiaaGreatW.PrintWords Go.Proofs.YthonlcnmjlldiaaGreatW.PrintLast Go.Proofs.YthonlcnmjlldiaaGreatW.PrintMore
theorem wrap_succ {i n : Nat} (h : i < n) (hn : n ≤ 9223372036854775807) : wrap64 ((i : Int) + 1) = ((i + 1 : Nat) : Int) := by unfold wrap64; push_cast; omega
theorem rdO_at {l : List Order} {i : Nat} (h : i < l.length) : rd_T72 l (i : Int) = l[i] := by simp [rd_T72, List.getD_eq_getElem?_getD, h]
theorem rdS_at {l : List Seat} {i : Nat} (h : i < l.length) : rd_T70 l (i : Int) = l[i] := by simp [rd_T70, List.getD_eq_getElem?_getD, h]
theorem rd_at {l : List Int} {i : Nat} (h : i < l.length) : rd l (i : Int) = l[i] := by simp [rd, List.getD_eq_getElem?_getD, h]
theorem rdL_at {l : List (List Int)} {i : Nat} (h : i < l.length) : rd_L5 l (i : Int) = l[i] := by simp [rd_L5, List.getD_eq_getElem?_getD, h]
theorem drop_at {α : Type} {l : List α} {i : Nat} (h : i < l.length) : l.drop i = l[i] :: l.drop (i + 1) := List.drop_eq_getElem_cons h
theorem In_eq (x lo hi : Int) : potbankref06_In.f x lo hi = some (inB x lo hi) := by
 unfold potbankref06_In.f inB
 by_cases h : x ≥ lo
 ·rw [if_pos h]; simp; omega
 ·rw [if_neg h]; simp; omega
theorem isHeat_eq (lo hi : Int) : potbankref06_isHeat.f lo hi = some (heatOk lo hi) := by
 unfold potbankref06_isHeat.f heatOk
 by_cases h1 : lo ≥ 0
 ·rw [if_pos h1]
  by_cases h2 : lo ≤ hi
  ·rw [if_pos h2]; simp [h2]; omega
  ·rw [if_neg h2]; simp [h2]
 ·rw [if_neg h1]; simp; omega
theorem isSeat_eq (s : Seat) : potbankref06_isSeat.f s.f0.f0 s.f0.f1 s.f1 s.f2 = some (seatOk s) := by
 unfold potbankref06_isSeat.f seatOk
 rw [isHeat_eq, In_eq, In_eq]
 simp only [Option.bind_some]
 cases heatOk s.f0.f0 s.f0.f1 <;> cases inB s.f1 0 9 <;> rfl
theorem isOrder_eq (o : Order) : potbankref06_isOrder.f o.f0 o.f1 o.f2.f0 o.f2.f1 o.f3 = some (orderOk o) := by
 unfold potbankref06_isOrder.f orderOk
 rw [isHeat_eq, In_eq, In_eq, In_eq]
 simp only [Option.bind_some]
 cases inB o.f0 1 999 <;> cases inB o.f1 1 1000 <;> cases heatOk o.f2.f0 o.f2.f1 <;> rfl
theorem CheckSeats_loop {k : List Seat} (hl : k.length ≤ 24) : ∀ (d i : Nat), k.length - i = d → i ≤ k.length → Ev (fun n => potbankref06_CheckSeats.l0 n k (i : Int)) (if (k.drop i).all seatOk then 0 else 61) := by
 intro d
 induction d with
 | zero =>
  intro i hd hi
  refine Ev.step (f := fun _ => some 0) (fun n => by simp only [potbankref06_CheckSeats.l0]; rw [if_neg (by omega)]) ?_
  rw [List.drop_eq_nil_iff.2 (by omega)]
  exact Ev.now _
 | succ d ih =>
  intro i hd hi
  have hlt : i < k.length := by omega
  refine Ev.step (f := fun n => if seatOk k[i] = true then potbankref06_CheckSeats.l0 n k ((i + 1 : Nat) : Int) else some 61) (fun n => by
   simp only [potbankref06_CheckSeats.l0]
   rw [if_pos (by omega), if_pos (by omega), rdS_at hlt, isSeat_eq, wrap_succ hlt (by omega)]
   rfl) ?_
  rw [drop_at hlt, List.all_cons]
  cases hs : seatOk k[i]
  ·exact Ev.now _
  ·simpa using ih (i + 1) (by omega) (by omega)
theorem any_not {α : Type} (p : α → Bool) (l : List α) : (!l.any fun x => !p x) = l.all p := by rw [List.all_eq_not_any_not]
theorem CheckSeats_ev (k : List Seat) : Ev (fun n => potbankref06_CheckSeats.f n k) (if seatsOk k then 0 else 61) := by
 unfold potbankref06_CheckSeats.f seatsOk
 rw [any_not]
 by_cases hl : k.length ≤ 24
 ·have h : ¬ ((k.length : Int) > 24) := by omega
  simp only [h, if_false]
  rw [decide_eq_true hl, Bool.true_and]
  exact CheckSeats_loop hl _ 0 rfl (Nat.zero_le _)
 ·have h : ((k.length : Int) > 24) := by omega
  simp only [h, if_true]
  rw [decide_eq_false hl, Bool.false_and]
  exact Ev.now _
def okTo (l : List Order) (i : Nat) : Prop := (∀ o ∈ l.take i, orderOk o = true) ∧ ((l.take i).map (·.f0)).Nodup
theorem ordersOk_to (l : List Order) : ordersOk l = true ↔ l.length ≤ 8 ∧ okTo l l.length := by
 rw [ordersOk_iff, okTo, List.take_length]
theorem okTo_succ {l : List Order} {i : Nat} (h : i < l.length) : okTo l (i + 1) ↔ okTo l i ∧ orderOk l[i] = true ∧ ∀ j, (hj : j < i) → l[j].f0 ≠ l[i].f0 := by
 unfold okTo
 rw [List.take_succ_eq_append_getElem h, List.map_append, List.nodup_append]
 simp only [List.mem_append, List.map_cons, List.map_nil, List.mem_singleton]
 constructor
 ·rintro ⟨h1, h2, h3, h4⟩
  refine ⟨⟨fun o ho => h1 o (.inl ho), h2⟩, h1 _ (.inr rfl), fun j hj => h4 _ (List.mem_map.2 ⟨l[j], ?_, rfl⟩) _ rfl⟩
  exact List.mem_take_iff_getElem.2 ⟨j, by omega, rfl⟩
 ·rintro ⟨⟨h1, h2⟩, h3, h4⟩
  refine ⟨fun o ho => ?_, h2, by simp, ?_⟩
  ·rcases ho with ho | rfl
   ·exact h1 o ho
   ·exact h3
  ·intro a ha b hb
   subst hb
   obtain ⟨o, ho, rfl⟩ := List.mem_map.1 ha
   obtain ⟨j, hj, rfl⟩ := List.mem_take_iff_getElem.1 ho
   exact h4 j (by omega)
theorem okTo_mono {l : List Order} {i j : Nat} (h : okTo l j) (hij : i ≤ j) : okTo l i := by
 obtain ⟨h1, h2⟩ := h
 have e : l.take i = (l.take j).take i := by rw [List.take_take, Nat.min_eq_left hij]
 unfold okTo
 rw [e]
 refine ⟨fun o ho => h1 o (List.mem_of_mem_take ho), ?_⟩
 rw [List.map_take]
 exact h2.sublist (List.take_sublist _ _)
theorem CheckOrders_loop {l : List Order} (hl : l.length ≤ 8) : ∀ (d i : Nat), l.length - i = d → i ≤ l.length → okTo l i → Ev (fun n => potbankref06_CheckOrders.l0 n l (i : Int)) (if ordersOk l then 0 else 60) := by
 intro d
 induction d with
 | zero =>
  intro i hd hi hok
  obtain rfl : i = l.length := by omega
  rw [if_pos ((ordersOk_to l).2 ⟨hl, hok⟩)]
  exact Ev.step (f := fun _ => some 0) (fun n => by simp only [potbankref06_CheckOrders.l0]; rw [if_neg (by omega)]) (Ev.now _)
 | succ d ih =>
  intro i hd hi hok
  have hlt : i < l.length := by omega
  refine Ev.step (f := fun n => if orderOk l[i] = true then potbankref06_CheckOrders.l1 n l (i : Int) ((0 : Nat) : Int) else some 60) (fun n => by
   simp only [potbankref06_CheckOrders.l0]
   rw [if_pos (by omega), if_pos (by omega), rdO_at hlt, isOrder_eq]
   rfl) ?_
  have hno : ∀ {p : Prop}, (okTo l (i + 1) → p) → ¬ p → ordersOk l = false := fun {p} h1 h2 => by
   rw [Bool.eq_false_iff]
   intro h
   exact h2 (h1 (okTo_mono ((ordersOk_to l).1 h).2 hlt))
  cases ho : orderOk l[i]
  ·rw [hno (fun h => ((okTo_succ hlt).1 h).2.1) (by rw [ho]; simp)]
   exact Ev.now _
  ·simp only [if_true]
   have inner : ∀ (e j : Nat), i - j = e → (hji : j ≤ i) → (∀ q, (hq : q < j) → l[q].f0 ≠ l[i].f0) → Ev (fun n => potbankref06_CheckOrders.l1 n l (i : Int) (j : Int)) (if ordersOk l then 0 else 60) := by
    intro e
    induction e with
    | zero =>
     intro j he hj hq
     obtain rfl : j = i := by omega
     refine Ev.step (f := fun n => potbankref06_CheckOrders.l0 n l ((j + 1 : Nat) : Int)) (fun n => by
      simp only [potbankref06_CheckOrders.l1]
      rw [if_neg (by omega), wrap_succ hlt (by omega)]) ?_
     exact ih (j + 1) (by omega) (by omega) ((okTo_succ hlt).2 ⟨hok, ho, hq⟩)
    | succ e ihe =>
     intro j he hj hq
     have hjl : j < l.length := by omega
     refine Ev.step (f := fun n => if l[j].f0 = l[i].f0 then some 60 else potbankref06_CheckOrders.l1 n l (i : Int) ((j + 1 : Nat) : Int)) (fun n => by
      simp only [potbankref06_CheckOrders.l1]
      rw [if_pos (by omega), if_pos (by omega), if_pos (by omega), if_pos (by omega), if_pos (by omega), rdO_at hlt, rdO_at hjl, wrap_succ hjl (by omega)]) ?_
     by_cases h : l[j].f0 = l[i].f0
     ·rw [hno (p := l[j].f0 ≠ l[i].f0) (fun h2 => ((okTo_succ hlt).1 h2).2.2 j (by omega)) (by simp [h])]
      simp only [h, if_true]
      exact Ev.now _
     ·simp only [h, if_false]
      refine ihe (j + 1) (by omega) (by omega) (fun q hq2 => ?_)
      by_cases hqj : q = j
      ·subst hqj; exact h
      ·exact hq q (by omega)
   exact inner i 0 (by omega) (Nat.zero_le _) (fun q hq => absurd hq (Nat.not_lt_zero _))
theorem CheckOrders_ev (l : List Order) : Ev (fun n => potbankref06_CheckOrders.f n l) (if ordersOk l then 0 else 60) := by
 unfold potbankref06_CheckOrders.f
 by_cases hl : l.length ≤ 8
 ·have h : ¬ ((l.length : Int) > 8) := by omega
  simp only [h, if_false]
  exact CheckOrders_loop hl _ 0 rfl (Nat.zero_le _) ⟨by simp, by simp⟩
 ·have h : ((l.length : Int) > 8) := by omega
  simp only [h, if_true]
  have : ordersOk l = false := by unfold ordersOk; rw [decide_eq_false hl]; rfl
  rw [this]
  exact Ev.now _
theorem checked_ev (k : List Seat) (l : List Order) (s : List Int) : Ev (fun n => potbankref06_checked.f n k l s) (askSetErr k l s) := by
 unfold potbankref06_checked.f
 refine Ev.bind (CheckSeats_ev k) ?_
 unfold askSetErr askErr
 cases h1 : seatsOk k
 ·exact Ev.now _
 ·refine Ev.bind (CheckOrders_ev l) ?_
  cases h2 : ordersOk l
  ·exact Ev.now _
  ·simp only [if_true]
   unfold potbankref06_IsSet.f
   cases h3 : setOk l.length s <;> exact Ev.now _
end Go.Proofs.YthonlcnmjlldiaaGreat.P
namespace Go.Proofs.YthonlcnmjlldiaaGreat.P
open Go.RowKit Go.Proofs.YthonlcnmjlldiaaGreatW.PrintWords Go.Proofs.YthonlcnmjlldiaaGreatW.PrintLast Go.Proofs.YthonlcnmjlldiaaGreatW.PrintMore
attribute [local go_sem] max2_int min2_int max_two min_two max_three min_three max_four min_four
def potbankref06_most.l0 : Nat → List Int → Int → Int → Option (Int)
 | 0, _, _, _ => none
 | k + 1, x0, x3, x4 => if x4 < (x0.length : Int) then (if 0 ≤ x4 then (potbankref06_most.l0 k x0 (mx x3 (rd x0 x4)) (wrap64 (x4 + 1))) else (none)) else (some x3)
def potbankref06_most.f (k : Nat) (l0 : List Int) : Option (Int) := potbankref06_most.l0 k l0 (-1) 0
set_option maxHeartbeats 8000000 in
set_option maxRecDepth 100000 in
theorem potbankref06_most.calls (k : Nat) (A0 : Option Addr) (c0 : Nat) (l0 : List Int) (r : Int) (w : World) (hr0 : Kd.C (Kd.int .i64) w A0 l0.length l0) (hc0 : l0.length ≤ c0) (h : potbankref06_most.f k l0 = some r) :
  Calls Tryz.prog 102 #[.slice A0 l0.length c0] w fun e w' => e = .returned (.int .i64 r) ∧ Below w.heap.size w w' := by
 have HR0 := Aside0.mk hr0
 have HC0 := Aside0.mk hc0
 clear hr0 hc0
 have HB := Aside0.mk (Below.refl w.heap.size w)
 have H : (potbankref06_most.l0 k l0 (-1) 0) = some r := h
 clear h
 have H' := Aside0.mk H
 clear H
 go_enter Tryz.func102, Tryz.ntmps102
 go_wp2
 go_loopg [3, 4] k (fun kq v3 v4 w' => ∃ (x3_1 : Int) (x4_1 : Int), v3 = .int .i64 x3_1 ∧ v4 = .int .i64 x4_1 ∧ Aside0 (potbankref06_most.l0 kq l0 x3_1 x4_1 = some r) ∧ Aside0 (kq ≤ k) ∧ Aside0 (Below w.heap.size w w'))
 case atStart => exact ⟨((-1)), (0), (by first | rfl | (simp; done) | (simp [*]; done)), (by first | rfl | (simp; done) | (simp [*]; done)), H', ⟨Nat.le_refl _⟩, ⟨by repeat (first | exact HB.out | apply below_alloc | apply pw_below_drewN | apply below_drew1)⟩⟩
 case round =>
  clear H'
  try clear c1
  obtain ⟨x3_1, x4_1, rfl, rfl, HA, HK1, HB⟩ := hrel
  cases gk with
  | zero => exact absurd HA.out (by simp [potbankref06_most.l0])
  | succ k1 =>
   have H := HA.out
   clear HA
   simp only [potbankref06_most.l0] at H
   by_cases c2 : x4_1 < (l0.length : Int)
   ·rw [if_pos c2] at H
    have c2b0 : decide (x4_1 < (l0.length : Int)) = true := decide_eq_true c2
    clear c2
    by_cases c3 : 0 ≤ x4_1
    ·rw [if_pos c3] at H
     have c3b0 : decide (0 ≤ x4_1) = true := decide_eq_true c3
     clear c3
     obtain ⟨ji4, hji4⟩ : ∃ j_ : Int, (mx x3_1 (rd l0 x4_1)) = j_ := ⟨_, rfl⟩
     replace H : (potbankref06_most.l0 k1 l0 ji4 (wrap64 (x4_1 + 1))) = some r := by first | (rw [hji4] at H; exact H) | (simp only [hji4] at H ⊢; exact H)
     have hji4_ : (if x3_1 < (rd l0 x4_1) then (rd l0 x4_1) else x3_1) = ji4 := hji4
     have H' := Aside0.mk H
     clear H
     have p176 : 0 ≤ (x4_1 : Int) := of_decide_eq_true (by first | (with_reducible assumption) | assumption)
     have q176 : x4_1 < (l0.length : Int) := of_decide_eq_true (by first | (with_reducible assumption) | assumption)
     obtain ⟨ad176, e176, hx176_0⟩ := Kd.at_int HR0.out x4_1 p176 q176
     cases e176
     replace hx176_0 := (HB.out.cell (World.block_lt_of_cell? w _ hx176_0)).trans hx176_0
     replace p176 := eq_true p176
     replace q176 := eq_true q176
     go_wp2
     go_roundg k1
     case measure => have := HK1.out; omega
     case rel => exact ⟨(ji4), (wrap64 (x4_1 + 1)), (by first | rfl | (simp; done) | (simp only [← hji4] <;> (first | rfl | simp)) | (simp [*]; done)), (by first | rfl | (simp; done) | (simp [*]; done)), H', ⟨by have := HK1.out; omega⟩, ⟨by repeat (first | exact HB.out | apply below_alloc | apply pw_below_drewN | apply below_drew1)⟩⟩
    ·rw [if_neg c3] at H
     exact absurd H (by simp)
   ·rw [if_neg c2] at H
    have c2b0 : decide (x4_1 < (l0.length : Int)) = false := decide_eq_false c2
    clear c2
    obtain rfl := Option.some.inj H
    go_wp2
    go_ret
    exact ⟨by first | rfl | (simp [errW_none, errW_some] <;> rfl) | (simp [*, errW_none, errW_some] <;> rfl), by repeat (first | exact HB.out | apply below_alloc | apply pw_below_drewN | apply below_drew1)⟩
def potbankref06_mask.l0 : Nat → List Int → Int → Int → Int → Option (Int)
 | 0, _, _, _, _ => none
 | k + 1, x0, x1, x5, x6 => if x6 < (x0.length : Int) then (if 0 ≤ x6 then (if (rd x0 x6) = x1 then (potbankref06_mask.l0 k x0 x1 (wrap64 (x5 + (shl .i64 1 x6))) (wrap64 (x6 + 1))) else (potbankref06_mask.l0 k x0 x1 x5 (wrap64 (x6 + 1)))) else (none)) else (some x5)
def potbankref06_mask.f (k : Nat) (l0 : List Int) (a1 : Int) : Option (Int) := potbankref06_mask.l0 k l0 a1 0 0
set_option maxHeartbeats 8000000 in
set_option maxRecDepth 100000 in
theorem potbankref06_mask.calls (k : Nat) (A0 : Option Addr) (c0 : Nat) (l0 : List Int) (a1 : Int) (r : Int) (w : World) (hr0 : Kd.C (Kd.int .i64) w A0 l0.length l0) (hc0 : l0.length ≤ c0) (h : potbankref06_mask.f k l0 a1 = some r) :
  Calls Tryz.prog 103 #[.slice A0 l0.length c0, .int .i64 a1] w fun e w' => e = .returned (.int .i64 r) ∧ Drawn0 w w' := by
 have HR0 := Aside0.mk hr0
 have HC0 := Aside0.mk hc0
 clear hr0 hc0
 have H : (potbankref06_mask.l0 k l0 a1 0 0) = some r := h
 clear h
 have H' := Aside0.mk H
 clear H
 go_enter Tryz.func103, Tryz.ntmps103
 go_wp2
 go_loopg [5, 6] k (fun kq v5 v6 w' => ∃ (x5_1 : Int) (x6_1 : Int), v5 = .int .i64 x5_1 ∧ v6 = .int .i64 x6_1 ∧ Aside0 (potbankref06_mask.l0 kq l0 a1 x5_1 x6_1 = some r) ∧ Aside0 (kq ≤ k) ∧ Drawn0 w w')
 case atStart => exact ⟨(0), (0), (by first | rfl | (simp; done) | (simp [*]; done)), (by first | rfl | (simp; done) | (simp [*]; done)), H', ⟨Nat.le_refl _⟩, by repeat (first | exact Drawn0.refl _ | apply Drawn0.step)⟩
 case round =>
  clear H'
  try clear c1
  try clear p2
  obtain ⟨x5_1, x6_1, rfl, rfl, HA, HK1, ⟨m1, rfl⟩⟩ := hrel
  cases gk with
  | zero => exact absurd HA.out (by simp [potbankref06_mask.l0])
  | succ k1 =>
   have H := HA.out
   clear HA
   simp only [potbankref06_mask.l0] at H
   by_cases c3 : x6_1 < (l0.length : Int)
   ·rw [if_pos c3] at H
    have c3b0 : decide (x6_1 < (l0.length : Int)) = true := decide_eq_true c3
    clear c3
    by_cases c4 : 0 ≤ x6_1
    ·rw [if_pos c4] at H
     have c4b0 : decide (0 ≤ x6_1) = true := decide_eq_true c4
     clear c4
     by_cases c5 : (rd l0 x6_1) = a1
     ·rw [if_pos c5] at H
      have c5b0 : ((rd l0 x6_1) == a1) = true := beq_iff_eq.mpr c5
      have c5b1 : ((rd l0 x6_1) != a1) = false := bne_eq_false_iff_eq.mpr c5
      clear c5
      have c6b0 := eq_true (of_decide_eq_true (by first | (with_reducible assumption) | assumption) : 0 ≤ x6_1)
      obtain ⟨ji7, hji7⟩ : ∃ j_ : Int, (shl .i64 1 x6_1) = j_ := ⟨_, rfl⟩
      replace H : (potbankref06_mask.l0 k1 l0 a1 (wrap64 (x5_1 + (ji7))) (wrap64 (x6_1 + 1))) = some r := by first | (rw [hji7] at H; exact H) | (simp only [hji7] at H ⊢; exact H)
      have hji7_ : (IntKind.i64.wrap (1 * 2 ^ min x6_1.toNat 64)) = ji7 := hji7
      have hji7z : x6_1 ≤ 64 → (IntKind.i64.wrap (1 * 2 ^ x6_1.toNat)) = ji7 := shl_small hji7
      have hji7u : (IntKind.i64.wrap (2 ^ min x6_1.toNat 64)) = ji7 := by have h_ := hji7_; rw [Int.one_mul] at h_; exact h_
      have hji7v : x6_1 ≤ 64 → (IntKind.i64.wrap (2 ^ x6_1.toNat)) = ji7 := fun hle_ => by have h_ := hji7z hle_; rw [Int.one_mul] at h_; exact h_
      have hji7y : (wrap64 (1 * 2 ^ min x6_1.toNat 64)) = ji7 := (i64_w _).symm.trans hji7_
      have hji7x : x6_1 ≤ 64 → (wrap64 (1 * 2 ^ x6_1.toNat)) = ji7 := fun h_ => (i64_w _).symm.trans (hji7z h_)
      have H' := Aside0.mk H
      clear H
      have p177 : 0 ≤ (x6_1 : Int) := of_decide_eq_true (by first | (with_reducible assumption) | assumption)
      have q177 : x6_1 < (l0.length : Int) := of_decide_eq_true (by first | (with_reducible assumption) | assumption)
      obtain ⟨ad177, e177, hx177_0⟩ := Kd.at_int HR0.out x6_1 p177 q177
      cases e177
      replace p177 := eq_true p177
      replace q177 := eq_true q177
      go_wp2
      go_roundg k1
      case measure => have := HK1.out; omega
      case rel => exact ⟨(wrap64 (x5_1 + (ji7))), (wrap64 (x6_1 + 1)), (by first | rfl | (simp; done) | (simp only [← hji7] <;> (first | rfl | simp)) | (simp [*]; done)), (by first | rfl | (simp; done) | (simp [*]; done)), H', ⟨by have := HK1.out; omega⟩, by repeat (first | exact Drawn0.refl _ | apply Drawn0.step)⟩
     ·rw [if_neg c5] at H
      have c5b0 : ((rd l0 x6_1) == a1) = false := beq_eq_false_iff_ne.mpr c5
      have c5b1 : ((rd l0 x6_1) != a1) = true := bne_iff_ne.mpr c5
      have H' := Aside0.mk H
      clear H
      have p177 : 0 ≤ (x6_1 : Int) := of_decide_eq_true (by first | (with_reducible assumption) | assumption)
      have q177 : x6_1 < (l0.length : Int) := of_decide_eq_true (by first | (with_reducible assumption) | assumption)
      obtain ⟨ad177, e177, hx177_0⟩ := Kd.at_int HR0.out x6_1 p177 q177
      cases e177
      replace p177 := eq_true p177
      replace q177 := eq_true q177
      go_wp2
      go_roundg k1
      case measure => have := HK1.out; omega
      case rel => exact ⟨(x5_1), (wrap64 (x6_1 + 1)), (by first | rfl | (simp; done) | (simp [*]; done)), (by first | rfl | (simp; done) | (simp [*]; done)), H', ⟨by have := HK1.out; omega⟩, by repeat (first | exact Drawn0.refl _ | apply Drawn0.step)⟩
    ·rw [if_neg c4] at H
     exact absurd H (by simp)
   ·rw [if_neg c3] at H
    have c3b0 : decide (x6_1 < (l0.length : Int)) = false := decide_eq_false c3
    clear c3
    obtain rfl := Option.some.inj H
    go_wp2
    go_ret
    exact ⟨by first | rfl | (simp; done) | (simp [*]; done), by repeat (first | exact Drawn0.refl _ | apply Drawn0.step)⟩
mutual
def potbankref06_given.l0 : Nat → List Bool → List Int → Int → Int → Int → Option (List Int × Bool)
 | 0, _, _, _, _, _ => none
 | k + 1, x0, x1, x2, x3, x10 => if x10 < x2 then ((potbankref06_most.f k x1).bind fun t178 => (potbankref06_given.j1 k x0 x1 x2 x3 x10 (decide (x10 ≤ (wrap64 (t178 + 1)))))) else (potbankref06_given.j1 k x0 x1 x2 x3 x10 false)
def potbankref06_given.j1 : Nat → List Bool → List Int → Int → Int → Int → Bool → Option (List Int × Bool)
 | 0, _, _, _, _, _, _ => none
 | k + 1, x0, x1, x2, x3, x10, x28 => if x28 = true then ((some (([] : List Int) : List Int)).bind fun y179 => (if y179.length + x1.length < 17592186044416 then ((some (y179 ++ x1 : List Int)).bind fun y182 => (if y182.length < 17592186044416 then ((some (y182 ++ [x10] : List Int)).bind fun y185 => ((potbankref06_mask.f k y185 x10).bind fun t188 => (if 0 ≤ t188 then (if t188 < (x0.length : Int) then (if rdOf false x0 t188 = true then ((potbankref06_given.f k x0 y185 x2 x3).bind fun bt190 => (if bt190.2 = true then (some (bt190.1, true)) else (potbankref06_given.l0 k x0 x1 x2 x3 (wrap64 (x10 + 1))))) else (potbankref06_given.l0 k x0 x1 x2 x3 (wrap64 (x10 + 1)))) else (none)) else (none)))) else (none))) else (none))) else (some (([] : List Int), false))
def potbankref06_given.f : Nat → List Bool → List Int → Int → Int → Option (List Int × Bool)
 | 0, _, _, _, _ => none
 | k + 1, l0, l1, a2, a3 => if (l1.length : Int) = a3 then (some (l1, true)) else (potbankref06_given.l0 k l0 l1 a2 a3 0)
end
set_option maxHeartbeats 8000000 in
set_option maxRecDepth 100000 in
theorem potbankref06_given.calls (k : Nat) : ∀ (A0 : Option Addr) (c0 : Nat) (l0 : List Bool) (P1_ : Nat → Prop) (u9000_ : Value) (l1 : List Int) (a2 : Int) (a3 : Int) (r1 : List Int) (r2 : Bool) (w0 w : World) (hB : Below w0.heap.size w0 w) (hr0 : ∀ W_, Kept w W_ (fun k_ => P1_ k_) → Kd.C Kd.bool W_ A0 l0.length l0) (hc0 : l0.length ≤ c0) (ho1 : Kd.R (Kd.int .i64) 3 w w0.heap.size P1_ u9000_ l1) (h : potbankref06_given.f k l0 l1 a2 a3 = some (r1, r2)),
  Calls Tryz.prog 61 #[.slice A0 l0.length c0, u9000_, .int .i64 a2, .int .i64 a3] w fun e w' => ∃ v0_ : Value, e = .returned (.tuple #[v0_, .bool r2]) ∧ Kd.R (Kd.int .i64) 3 w' w0.heap.size (fun k_ => (P1_ k_ ∨ w.heap.size ≤ k_)) v0_ r1 ∧ Below w0.heap.size w0 w' ∧ Kept w w' (fun k_ => P1_ k_) := by
 induction k using Nat.strongRecOn with
 | _ k ih =>
 intro A0 c0 l0 P1_ u9000_ l1 a2 a3 r1 r2 w0 w hB hr0 hc0 ho1 h
 cases k with
 | zero => exact absurd h (by simp [potbankref06_given.f])
 | succ k =>
 simp only [potbankref06_given.f] at h
 have HR0 := Aside0.mk hr0
 have HC0 := Aside0.mk hc0
 clear hr0 hc0
 have HO1 := Aside0.mk (show Kd.R (Kd.int .i64) 3 w w0.heap.size (fun k_ => (P1_ k_ ∨ w.heap.size ≤ k_)) u9000_ l1 from Kd.R_mono ho1 (fun k_ hk => (.inl hk)))
 have HK := Aside0.mk (Kept.refl w (fun k_ => P1_ k_))
 have HW0 := Aside0.mk hB.size
 have HB := Aside0.mk hB
 clear hB
 have H : (if (l1.length : Int) = a3 then (some (l1, true)) else (potbankref06_given.l0 k l0 l1 a2 a3 0)) = some (r1, r2) := h
 clear h
 by_cases c5 : (l1.length : Int) = a3
 ·rw [if_pos c5] at H
  have c5b0 : ((l1.length : Int) == a3) = true := beq_iff_eq.mpr c5
  have c5b1 : ((l1.length : Int) != a3) = false := bne_eq_false_iff_eq.mpr c5
  clear c5
  simp only [Option.some.injEq, Prod.mk.injEq] at H
  obtain ⟨rfl, rfl⟩ := H
  obtain ⟨Ao6, co6, eo6⟩ := Kd.R_slice HO1.out
  subst eo6
  go_enter Tryz.func61, Tryz.ntmps61
  go_wp2
  go_ret2
  exact ⟨_, by first | rfl | (simp [errW_none, errW_some] <;> rfl) | (simp [*, errW_none, errW_some] <;> rfl), by (with_reducible repeat (first | apply Kd.R_alloc | apply Kd.R_drewN | apply Kd.R_drew)); exact HO1.out, by repeat (first | exact HB.out | apply below_alloc | apply pw_below_drewN | apply below_drew1), by repeat (first | exact HK.out | apply Kept.alloc | apply Kept.drewN | apply Kept.drew)⟩
 ·rw [if_neg c5] at H
  have c5b0 : ((l1.length : Int) == a3) = false := beq_eq_false_iff_ne.mpr c5
  have c5b1 : ((l1.length : Int) != a3) = true := bne_iff_ne.mpr c5
  have H' := Aside0.mk H
  clear H
  obtain ⟨Ao7, co7, eo7⟩ := Kd.R_slice HO1.out
  subst eo7
  go_enter Tryz.func61, Tryz.ntmps61
  go_wp2
  go_loopg [10] k (fun kq v10 w' => ∃ (x10_1 : Int), v10 = .int .i64 x10_1 ∧ Aside0 (potbankref06_given.l0 kq l0 l1 a2 a3 x10_1 = some (r1, r2)) ∧ Aside0 (kq ≤ k) ∧ Aside0 (Kd.R (Kd.int .i64) 3 w' w0.heap.size (fun k_ => (P1_ k_ ∨ w.heap.size ≤ k_)) (.slice Ao7 l1.length co7) l1) ∧ Aside0 (Kept w w' (fun k_ => P1_ k_)) ∧ Aside0 (Below w0.heap.size w0 w'))
  case atStart => exact ⟨(0), (by first | rfl | (simp; done) | (simp [*]; done)), H', ⟨Nat.le_refl _⟩, ⟨by (with_reducible repeat (first | apply Kd.R_alloc | apply Kd.R_drewN | apply Kd.R_drew)); exact HO1.out⟩, ⟨by repeat (first | exact HK.out | apply Kept.alloc | apply Kept.drewN | apply Kept.drew)⟩, ⟨by repeat (first | exact HB.out | apply below_alloc | apply pw_below_drewN | apply below_drew1)⟩⟩
  case round =>
   clear H'
   try clear p2
   try clear c5
   try clear c5b0
   try clear c5b1
   try clear c6
   obtain ⟨x10_1, rfl, HA, HK1, HO_1, HK, HB⟩ := hrel
   cases gk with
   | zero => exact absurd HA.out (by simp [potbankref06_given.l0])
   | succ k1 =>
    have H := HA.out
    clear HA
    simp only [potbankref06_given.l0] at H
    have HC8 := Aside0.mk H
    clear H
    go_upto_region 4 with (fail)
    go_cut [28] (fun v28 wc => ∃ (kq : Nat) (x28_7 : Bool), v28 = .bool x28_7 ∧ Aside0 (potbankref06_given.j1 kq l0 l1 a2 a3 x10_1 x28_7 = some (r1, r2)) ∧ Aside0 (kq ≤ k1) ∧ Aside0 (Kd.R (Kd.int .i64) 3 wc w0.heap.size (fun k_ => (P1_ k_ ∨ w.heap.size ≤ k_)) (.slice Ao7 l1.length co7) l1) ∧ Aside0 (Kept w wc (fun k_ => P1_ k_)) ∧ Aside0 (Below w0.heap.size w0 wc))
    case first =>
     have H := HC8.out
     clear HC8
     by_cases c9 : x10_1 < a2
     ·rw [if_pos c9] at H
      have c9b0 : decide (x10_1 < a2) = true := decide_eq_true c9
      clear c9
      (first | rw [c9b0] | (simp only [i64_w, i32_w]; rw [c9b0]) | skip)
      replace H := Option.bind_eq_some_iff.mp H
      obtain ⟨t178, A100, H⟩ := H
      (try dsimp only at H)
      have A10 := Aside0.mk A100
      clear A100
      have H' := Aside0.mk H
      clear H
      go_wp2_with (first | (go_at_call 102; (with_reducible refine (potbankref06_most.calls k1 _ _ l1 t178 _ ?side1 ?side2 A10.out).mono ?_); (case side1 => repeat (first | exact (Kd.R_reads' HO_1.out).2.2 | (with_reducible refine Kd.C_alloc ?_ _) | (with_reducible refine Kd.C_drewN ?_ _) | (with_reducible refine Kd.C_drew ?_))); (case side2 => exact (Kd.R_reads' HO_1.out).2.1); rintro e w11 ⟨rfl, hb⟩; have n0_ := Aside0.mk (Kd.R_below (by (with_reducible repeat (first | apply Kd.R_alloc | apply Kd.R_drewN | apply Kd.R_drew)); exact HO_1.out) hb); have n1_ := Aside0.mk (Kept.below (S := (fun k_ => P1_ k_)) (by repeat (first | exact HK.out | apply Kept.alloc | apply Kept.drewN | apply Kept.drew)) hb); have n2_ := Aside0.mk (below_step (by repeat (first | exact HB.out | apply below_alloc | apply pw_below_drewN | apply below_drew1)) hb); clear HO_1; clear HK; clear HB; have HO_1 := n0_; have HK := n1_; have HB := n2_; clear n0_ n1_ n2_; (try clear hb); (try clear hb2); (try clear hk); (try clear hi)))
      go_meet
      case rel => exact ⟨_, (decide (x10_1 ≤ (wrap64 (t178 + 1)))), (by first | rfl | (simp; done) | (simp [*]; done)), H', ⟨by have := HK1.out; first | omega | exact Nat.le_refl _⟩, ⟨by (with_reducible repeat (first | apply Kd.R_alloc | apply Kd.R_drewN | apply Kd.R_drew)); exact HO_1.out⟩, ⟨by repeat (first | exact HK.out | apply Kept.alloc | apply Kept.drewN | apply Kept.drew)⟩, ⟨by repeat (first | exact HB.out | apply below_alloc | apply pw_below_drewN | apply below_drew1)⟩⟩
     ·rw [if_neg c9] at H
      have c9b0 : decide (x10_1 < a2) = false := decide_eq_false c9
      clear c9
      (first | rw [c9b0] | (simp only [i64_w, i32_w]; rw [c9b0]) | skip)
      have H' := Aside0.mk H
      clear H
      go_wp2
      go_meet
      case rel => exact ⟨_, (false), (by first | rfl | (simp; done) | (simp [*]; done)), H', ⟨by have := HK1.out; first | omega | exact Nat.le_refl _⟩, ⟨by (with_reducible repeat (first | apply Kd.R_alloc | apply Kd.R_drewN | apply Kd.R_drew)); exact HO_1.out⟩, ⟨by repeat (first | exact HK.out | apply Kept.alloc | apply Kept.drewN | apply Kept.drew)⟩, ⟨by repeat (first | exact HB.out | apply below_alloc | apply pw_below_drewN | apply below_drew1)⟩⟩
    case rest =>
     clear HC8
     try clear p2
     try clear c5
     try clear c5b0
     try clear c5b1
     try clear c6
     try clear p6
     try clear c9
     try clear c9b0
     try clear p2
     obtain ⟨kq, x28_7, rfl, HA, HJ7, HO_1, HK, HB⟩ := hcut
     cases kq with
     | zero => exact absurd HA.out (by simp [potbankref06_given.j1])
     | succ kj7 =>
      have H := HA.out
      clear HA
      simp only [potbankref06_given.j1] at H
      by_cases c12 : x28_7 = true
      ·subst c12
       rw [if_pos rfl] at H
       obtain ⟨y179, hy179⟩ : ∃ y_ : List Int, y_ = (([] : List Int)) := ⟨_, rfl⟩
       replace H : (if y179.length + l1.length < 17592186044416 then ((some (y179 ++ l1 : List Int)).bind fun y182 => (if y182.length < 17592186044416 then ((some (y182 ++ [x10_1] : List Int)).bind fun y185 => ((potbankref06_mask.f kj7 y185 x10_1).bind fun t188 => (if 0 ≤ t188 then (if t188 < (l0.length : Int) then (if rdOf false l0 t188 = true then ((potbankref06_given.f kj7 l0 y185 a2 a3).bind fun bt190 => (if bt190.2 = true then (some (bt190.1, true)) else (potbankref06_given.l0 kj7 l0 l1 a2 a3 (wrap64 (x10_1 + 1))))) else (potbankref06_given.l0 kj7 l0 l1 a2 a3 (wrap64 (x10_1 + 1)))) else (none)) else (none)))) else (none))) else (none)) = some (r1, r2) := by first | (rw [hy179]; with_reducible exact H) | (have H2_ := (Option.bind_some _ _).symm.trans H; rw [hy179]; with_reducible exact H2_) | (have H2_ := (Option.bind_some _ _).symm.trans H; with_reducible exact H2_) | with_reducible exact H | (rw [hy179]; exact H) | exact H
       have Ny179 := Aside0.mk hy179
       clear hy179
       by_cases c13 : y179.length + l1.length < 17592186044416
       ·rw [if_pos c13] at H
        have LMc13 := Aside0.mk c13
        clear c13
        obtain ⟨y182, hy182⟩ : ∃ y_ : List Int, y_ = (y179 ++ l1) := ⟨_, rfl⟩
        replace H : (if y182.length < 17592186044416 then ((some (y182 ++ [x10_1] : List Int)).bind fun y185 => ((potbankref06_mask.f kj7 y185 x10_1).bind fun t188 => (if 0 ≤ t188 then (if t188 < (l0.length : Int) then (if rdOf false l0 t188 = true then ((potbankref06_given.f kj7 l0 y185 a2 a3).bind fun bt190 => (if bt190.2 = true then (some (bt190.1, true)) else (potbankref06_given.l0 kj7 l0 l1 a2 a3 (wrap64 (x10_1 + 1))))) else (potbankref06_given.l0 kj7 l0 l1 a2 a3 (wrap64 (x10_1 + 1)))) else (none)) else (none)))) else (none)) = some (r1, r2) := by first | (rw [hy182]; with_reducible exact H) | (have H2_ := (Option.bind_some _ _).symm.trans H; rw [hy182]; with_reducible exact H2_) | (have H2_ := (Option.bind_some _ _).symm.trans H; with_reducible exact H2_) | with_reducible exact H | (rw [hy182]; exact H) | exact H
        have Ny182 := Aside0.mk hy182
        clear hy182
        by_cases c14 : y182.length < 17592186044416
        ·rw [if_pos c14] at H
         have LMc14 := Aside0.mk c14
         clear c14
         obtain ⟨y185, hy185⟩ : ∃ y_ : List Int, y_ = (y182 ++ [x10_1]) := ⟨_, rfl⟩
         replace H : ((potbankref06_mask.f kj7 y185 x10_1).bind fun t188 => (if 0 ≤ t188 then (if t188 < (l0.length : Int) then (if rdOf false l0 t188 = true then ((potbankref06_given.f kj7 l0 y185 a2 a3).bind fun bt190 => (if bt190.2 = true then (some (bt190.1, true)) else (potbankref06_given.l0 kj7 l0 l1 a2 a3 (wrap64 (x10_1 + 1))))) else (potbankref06_given.l0 kj7 l0 l1 a2 a3 (wrap64 (x10_1 + 1)))) else (none)) else (none))) = some (r1, r2) := by first | (rw [hy185]; with_reducible exact H) | (have H2_ := (Option.bind_some _ _).symm.trans H; rw [hy185]; with_reducible exact H2_) | (have H2_ := (Option.bind_some _ _).symm.trans H; with_reducible exact H2_) | with_reducible exact H | (rw [hy185]; exact H) | exact H
         have Ny185 := Aside0.mk hy185
         clear hy185
         replace H := Option.bind_eq_some_iff.mp H
         obtain ⟨t188, A150, H⟩ := H
         (try dsimp only at H)
         have A15 := Aside0.mk A150
         clear A150
         by_cases c16 : 0 ≤ t188
         ·rw [if_pos c16] at H
          have c16b0 : decide (0 ≤ t188) = true := decide_eq_true c16
          clear c16
          by_cases c17 : t188 < (l0.length : Int)
          ·rw [if_pos c17] at H
           have c17b0 : decide (t188 < (l0.length : Int)) = true := decide_eq_true c17
           clear c17
           obtain ⟨bq18, hbq18⟩ : ∃ b_ : Bool, b_ = (rdOf false l0 t188) := ⟨_, rfl⟩
           replace H : (if bq18 = true then ((potbankref06_given.f kj7 l0 y185 a2 a3).bind fun bt190 => (if bt190.2 = true then (some (bt190.1, true)) else (potbankref06_given.l0 kj7 l0 l1 a2 a3 (wrap64 (x10_1 + 1))))) else (potbankref06_given.l0 kj7 l0 l1 a2 a3 (wrap64 (x10_1 + 1)))) = some (r1, r2) := by rw [← hbq18] at H; exact H
           have Nbq18 := Aside0.mk hbq18
           clear hbq18
           by_cases c19 : bq18 = true
           ·subst c19
            rw [if_pos rfl] at H
            replace H := Option.bind_eq_some_iff.mp H
            obtain ⟨⟨t190, t193⟩, A200, H⟩ := H
            (try dsimp only at H)
            have A20 := Aside0.mk A200
            clear A200
            by_cases c21 : t193 = true
            ·subst c21
             rw [if_pos rfl] at H
             simp only [Option.some.injEq, Prod.mk.injEq] at H
             obtain ⟨rfl, rfl⟩ := H
             go_wp2_with (first | ((with_reducible refine gate_dst (N := 31) rfl ?_); refine Kd.R_lit (Kd.int .i64) _ 3 ?hg (N := 31) ?hd (xs := ([] : List Int)) (inner := []) (ok := fun _ => True) (okp := fun _ => True) ?hr ?hp (fun _ hk => hk) trivial (Below.refl _ _) (Nat.le_refl _) (by simp) ?_; (case hd => rfl); (case hg => rfl); (case hr => first | (go_simp; done) | (go_simp; rfl)); (case hp => exact (Reps.none _ _)); intro v180 w22 ho23 hb hg_ hnew_; clear hg_ hnew_; (first | rw [← Ny179.out] at ho23 | (simp only [Int.reduceToNat] at ho23; rw [← Ny179.out] at ho23)); have n0_ := Aside0.mk (Kd.R_elder' (by (with_reducible repeat (first | apply Kd.R_alloc | apply Kd.R_drewN | apply Kd.R_drew)); exact HO_1.out) (Kd.R_base ho23) hb); have n1_ := Aside0.mk (Kd.R_lower (Kd.R_new' (Kd.R_newM (M := fun k_ => (P1_ k_ ∨ w.heap.size ≤ k_)) ho23 (by first | exact HK.out.1 | exact (show Kept w _ (fun k_ => P1_ k_) from by repeat (first | exact HK.out | apply Kept.alloc | apply Kept.drewN | apply Kept.drew)).1) (fun k_ h_ => .inr h_)) (Kd.R_lt (by (with_reducible repeat (first | apply Kd.R_alloc | apply Kd.R_drewN | apply Kd.R_drew)); exact HO_1.out))) (below_size (by repeat (first | exact HB.out | apply below_alloc | apply pw_below_drewN | apply below_drew1)))); have n2_ := Aside0.mk (Kept.below (S := (fun k_ => P1_ k_)) (by repeat (first | exact HK.out | apply Kept.alloc | apply Kept.drewN | apply Kept.drew)) hb); have n3_ := Aside0.mk (below_step (by repeat (first | exact HB.out | apply below_alloc | apply pw_below_drewN | apply below_drew1)) hb); clear HO_1; clear HK; clear HB; have HO_1 := n0_; have HO181 := n1_; have HK := n2_; have HB := n3_; clear n0_ n1_ n2_ n3_; clear hb ho23) | ((with_reducible refine gate_builtin (b := .append) (xs := #[.tmp 31, .tmp 32]) rfl ?_); at_builtin; refine Kd.R_append_rows (Kd.int .i64) (w0 := w0) w0.heap.size rfl (.tmp 31) (.tmp 32) 41 3 (.int .i64 0) 8 rfl Tryz.underlying41 info3 rfl (by decide) (by omega) v180 y179 l1 _ _ _ (fun k_ => (P1_ k_ ∨ w.heap.size ≤ k_) ∧ some k_ ≠ (.slice Ao7 l1.length co7 : Value).ownBlock) (fun _ => False) rfl rfl ?aO ?aR (fun _ _ h => h) (fun _ h => h.elim) ?aF ?aB ?aS ?aL ?_; (case aR => repeat (first | exact (Kd.R_reads' HO_1.out).2.2 | (with_reducible refine Kd.C_alloc ?_ _) | (with_reducible refine Kd.C_drewN ?_ _) | (with_reducible refine Kd.C_drew ?_))); (case aB => exact (by repeat (first | exact HB.out | apply below_alloc | apply pw_below_drewN | apply below_drew1))); (case aF => exact (fun k_ hk => ⟨(.inr (Nat.le_trans (by first | exact HK.out.1 | exact (show Kept w _ (fun k_ => P1_ k_) from by repeat (first | exact HK.out | apply Kept.alloc | apply Kept.drewN | apply Kept.drew)).1) hk)), Kd.fresh' (Kd.R_lt (by (with_reducible repeat (first | apply Kd.R_alloc | apply Kd.R_drewN | apply Kd.R_drew)); exact HO_1.out)) k_ hk⟩)); (case aO => exact (by (with_reducible repeat (first | apply Kd.R_alloc | apply Kd.R_drewN | apply Kd.R_drew)); exact Kd.R_mono HO181.out (fun _ hk => ⟨hk.1.1, hk.2⟩))); (case aS => exact (below_size (by repeat (first | exact HB.out | apply below_alloc | apply pw_below_drewN | apply below_drew1)))); (case aL => have := LMc13.out; omega); intro v183 w24 ho hb hg hat; rw [← Ny182.out] at ho; have n0_ := Aside0.mk (Kd.R_after (ok := (fun k_ => (P1_ k_ ∨ w.heap.size ≤ k_))) (by (with_reducible repeat (first | apply Kd.R_alloc | apply Kd.R_drewN | apply Kd.R_drew)); exact HO_1.out) hg hat); have n1_ := Aside0.mk (hb); have n2_ := Aside0.mk (Kept.of_grown (S := (fun k_ => P1_ k_)) hg (by repeat (first | exact HK.out | apply Kept.alloc | apply Kept.drewN | apply Kept.drew)) (fun k_ e_ => (HO181.out.1 k_ e_).1.1)); have n3_ := Aside0.mk (ho); clear HO_1; clear HB; clear HK; clear HO181; have HO_1 := n0_; have HB := n1_; have HK := n2_; have HO184 := n3_; clear n0_ n1_ n2_ n3_; clear ho hb hg hat) | ((with_reducible refine gate_builtin (b := .append) (xs := #[.tmp 33, .tmp 35]) rfl ?_); at_builtin; refine Kd.R_append (Kd.int .i64) (w0 := w0) w0.heap.size rfl (.tmp 33) (.tmp 35) 41 3 (.int .i64 0) 8 rfl Tryz.underlying41 info3 rfl (by decide) (by omega) v183 y182 x10_1 [.int .i64 x10_1] (fun k_ => (P1_ k_ ∨ w.heap.size ≤ k_) ∧ some k_ ≠ (.slice Ao7 l1.length co7 : Value).ownBlock) (fun _ => False) rfl rfl ?aP (fun _ hk => hk.elim) ?aF ?aO ?aB ?aS ?aL ?_; (case aP => exact rfl); (case aB => exact (by repeat (first | exact HB.out | apply below_alloc | apply pw_below_drewN | apply below_drew1))); (case aF => exact (fun k_ hk => ⟨(.inr (Nat.le_trans (by first | exact HK.out.1 | exact (show Kept w _ (fun k_ => P1_ k_) from by repeat (first | exact HK.out | apply Kept.alloc | apply Kept.drewN | apply Kept.drew)).1) hk)), Kd.fresh' (Kd.R_lt (by (with_reducible repeat (first | apply Kd.R_alloc | apply Kd.R_drewN | apply Kd.R_drew)); exact HO_1.out)) k_ hk⟩)); (case aO => exact (by (with_reducible repeat (first | apply Kd.R_alloc | apply Kd.R_drewN | apply Kd.R_drew)); exact HO184.out)); (case aS => exact (below_size (by repeat (first | exact HB.out | apply below_alloc | apply pw_below_drewN | apply below_drew1)))); (case aL => have := LMc14.out; omega); intro v186 w25 ho hb hg hat; rw [← Ny185.out] at ho; have n0_ := Aside0.mk (Kd.R_after (ok := (fun k_ => (P1_ k_ ∨ w.heap.size ≤ k_))) (by (with_reducible repeat (first | apply Kd.R_alloc | apply Kd.R_drewN | apply Kd.R_drew)); exact HO_1.out) hg hat); have n1_ := Aside0.mk (hb); have n2_ := Aside0.mk (Kept.of_grown (S := (fun k_ => P1_ k_)) hg (by repeat (first | exact HK.out | apply Kept.alloc | apply Kept.drewN | apply Kept.drew)) (fun k_ e_ => (HO184.out.1 k_ e_).1)); have n3_ := Aside0.mk (ho); clear HO_1; clear HB; clear HK; clear HO184; have HO_1 := n0_; have HB := n1_; have HK := n2_; have HO187 := n3_; clear n0_ n1_ n2_ n3_; clear ho hb hg hat; obtain ⟨Ao26, co26, eo26⟩ := Kd.R_slice HO187.out; subst eo26) | ((with_reducible refine gate_callee (f := 103) rfl ?_); refine goesL_ (some 40) rfl rfl Tryz.func103 (by kernel_rfl) rfl #[.slice Ao26 y185.length co26, .int .i64 x10_1] rfl (by (try simp only [List.map_toArray, List.map_cons, List.map_nil]); first | done | rfl | (simp only [List.length_drop, List.length_take]; rfl)) ?_; (with_reducible refine (potbankref06_mask.calls kj7 _ _ y185 x10_1 t188 _ ?side1 ?side2 A15.out).mono ?_); (case side1 => repeat (first | exact (Kd.R_reads' HO187.out).2.2 | (with_reducible refine Kd.C_alloc ?_ _) | (with_reducible refine Kd.C_drewN ?_ _) | (with_reducible refine Kd.C_drew ?_))); (case side2 => exact (Kd.R_reads' HO187.out).2.1); rintro e w' ⟨rfl, ⟨nd, rfl⟩⟩; refine ⟨_, rfl, ?_⟩; have p189 : 0 ≤ (t188 : Int) := of_decide_eq_true (by first | (with_reducible assumption) | assumption); have q189 : t188 < (l0.length : Int) := of_decide_eq_true (by first | (with_reducible assumption) | assumption); obtain ⟨ad189, e189, hx189_0⟩ := Kd.at_bool (Kd.C_kept_now HR0.out HK.out) t188 p189 q189; (try rw [← Nbq18.out] at hx189_0); cases e189; replace p189 := eq_true p189; replace q189 := eq_true q189) | ((with_reducible refine gate_callee (f := 61) rfl ?_); refine goesL_ (some 49) rfl rfl Tryz.func61 (by kernel_rfl) rfl #[.slice (some ad189) l0.length c0, .slice Ao26 y185.length co26, .int .i64 a2, .int .i64 a3] rfl (by (try simp only [List.map_toArray, List.map_cons, List.map_nil]); first | done | rfl | (simp only [List.length_drop, List.length_take]; rfl)) ?_; (with_reducible refine (ih kj7 (by have := HK1.out; have := HJ7.out; omega) _ _ l0 (fun k_ => some k_ = (.slice Ao26 y185.length co26 : Value).ownBlock) (.slice Ao26 y185.length co26) y185 a2 a3 t190 true w0 _ ?side1 ?side2 ?side3 ?side4 A20.out).mono ?_); (case side1 => repeat (first | exact HB.out | apply below_alloc | apply pw_below_drewN | apply below_drew1)); (case side2 => exact Kd.C_kept_call HR0.out (by repeat (first | exact HK.out | apply Kept.alloc | apply Kept.drewN | apply Kept.drew)) (fun k_ hs_ => (fun e_ => (HO187.out.1 k_ e_.symm).1) hs_)); (case side3 => exact HC0.out); (case side4 => exact Kd.R_tight rfl HO187.out); rintro e w27 ⟨v191, rfl, ho0, hb, hkp⟩; refine ⟨_, rfl, ?_⟩; have n0_ := Aside0.mk (Kd.R_mono (ok' := fun k_ => (P1_ k_ ∨ w.heap.size ≤ k_) ∧ some k_ ≠ (v191 : Value).ownBlock) (Kd.R_keptB (HO_1.out) hkp (fun k_ hk_ hs_ => (hk_.2) hs_)) (fun k_ hk_ => ⟨hk_.1.1, fun e_ => Or.elim (ho0.1 k_ e_.symm) (fun hs_ => hk_.2.1 hs_) (fun hn_ => Nat.not_le.2 hk_.2.2 hn_)⟩)); have n1_ := Aside0.mk (Kd.R_mono (ok' := fun k_ => (P1_ k_ ∨ w.heap.size ≤ k_) ∧ some k_ ≠ (.slice Ao7 l1.length co7 : Value).ownBlock) ho0 (fun k_ hk_ => ⟨Or.elim hk_ (fun hs_ => (HO187.out.1 k_ (hs_).symm).1) (fun hn_ => (.inr (Nat.le_trans (by first | exact HK.out.1 | exact (show Kept w _ (fun k_ => P1_ k_) from by repeat (first | exact HK.out | apply Kept.alloc | apply Kept.drewN | apply Kept.drew)).1) hn_))), Or.elim hk_ (fun hs_ => fun e_ => (((HO_1.out).1 k_ e_.symm).2) hs_) (fun hn_ => (Kd.fresh' (Kd.R_lt (by (with_reducible repeat (first | apply Kd.R_alloc | apply Kd.R_drewN | apply Kd.R_drew)); exact HO_1.out)) k_ hn_))⟩)); have n2_ := Aside0.mk (Kept.then_ (S := (fun k_ => P1_ k_)) (by repeat (first | exact HK.out | apply Kept.alloc | apply Kept.drewN | apply Kept.drew)) hkp (fun k_ hs_ => (fun e_ => (HO187.out.1 k_ e_.symm).1) hs_)); have n3_ := Aside0.mk (hb); clear HO_1; clear HK; clear HB; clear HO187; have HO_1 := n0_; have HO192 := n1_; have HK := n2_; have HB := n3_; clear n0_ n1_ n2_ n3_; (try clear hb); (try clear hkp); (try clear ho0)))
             go_ret2
             exact ⟨_, by first | rfl | (simp [errW_none, errW_some] <;> rfl) | (simp [*, errW_none, errW_some] <;> rfl), by (with_reducible repeat (first | apply Kd.R_alloc | apply Kd.R_drewN | apply Kd.R_drew)); exact Kd.R_mono HO192.out (fun _ hk => hk.1), by repeat (first | exact HB.out | apply below_alloc | apply pw_below_drewN | apply below_drew1), by repeat (first | exact HK.out | apply Kept.alloc | apply Kept.drewN | apply Kept.drew)⟩
            ·replace c21 := Bool.eq_false_iff.mpr c21
             subst c21
             rw [if_neg (show ¬ (false = true) by decide)] at H
             have H' := Aside0.mk H
             clear H
             go_wp2_with (first | ((with_reducible refine gate_dst (N := 31) rfl ?_); refine Kd.R_lit (Kd.int .i64) _ 3 ?hg (N := 31) ?hd (xs := ([] : List Int)) (inner := []) (ok := fun _ => True) (okp := fun _ => True) ?hr ?hp (fun _ hk => hk) trivial (Below.refl _ _) (Nat.le_refl _) (by simp) ?_; (case hd => rfl); (case hg => rfl); (case hr => first | (go_simp; done) | (go_simp; rfl)); (case hp => exact (Reps.none _ _)); intro v180 w28 ho29 hb hg_ hnew_; clear hg_ hnew_; (first | rw [← Ny179.out] at ho29 | (simp only [Int.reduceToNat] at ho29; rw [← Ny179.out] at ho29)); have n0_ := Aside0.mk (Kd.R_elder' (by (with_reducible repeat (first | apply Kd.R_alloc | apply Kd.R_drewN | apply Kd.R_drew)); exact HO_1.out) (Kd.R_base ho29) hb); have n1_ := Aside0.mk (Kd.R_lower (Kd.R_new' (Kd.R_newM (M := fun k_ => (P1_ k_ ∨ w.heap.size ≤ k_)) ho29 (by first | exact HK.out.1 | exact (show Kept w _ (fun k_ => P1_ k_) from by repeat (first | exact HK.out | apply Kept.alloc | apply Kept.drewN | apply Kept.drew)).1) (fun k_ h_ => .inr h_)) (Kd.R_lt (by (with_reducible repeat (first | apply Kd.R_alloc | apply Kd.R_drewN | apply Kd.R_drew)); exact HO_1.out))) (below_size (by repeat (first | exact HB.out | apply below_alloc | apply pw_below_drewN | apply below_drew1)))); have n2_ := Aside0.mk (Kept.below (S := (fun k_ => P1_ k_)) (by repeat (first | exact HK.out | apply Kept.alloc | apply Kept.drewN | apply Kept.drew)) hb); have n3_ := Aside0.mk (below_step (by repeat (first | exact HB.out | apply below_alloc | apply pw_below_drewN | apply below_drew1)) hb); clear HO_1; clear HK; clear HB; have HO_1 := n0_; have HO181 := n1_; have HK := n2_; have HB := n3_; clear n0_ n1_ n2_ n3_; clear hb ho29) | ((with_reducible refine gate_builtin (b := .append) (xs := #[.tmp 31, .tmp 32]) rfl ?_); at_builtin; refine Kd.R_append_rows (Kd.int .i64) (w0 := w0) w0.heap.size rfl (.tmp 31) (.tmp 32) 41 3 (.int .i64 0) 8 rfl Tryz.underlying41 info3 rfl (by decide) (by omega) v180 y179 l1 _ _ _ (fun k_ => (P1_ k_ ∨ w.heap.size ≤ k_) ∧ some k_ ≠ (.slice Ao7 l1.length co7 : Value).ownBlock) (fun _ => False) rfl rfl ?aO ?aR (fun _ _ h => h) (fun _ h => h.elim) ?aF ?aB ?aS ?aL ?_; (case aR => repeat (first | exact (Kd.R_reads' HO_1.out).2.2 | (with_reducible refine Kd.C_alloc ?_ _) | (with_reducible refine Kd.C_drewN ?_ _) | (with_reducible refine Kd.C_drew ?_))); (case aB => exact (by repeat (first | exact HB.out | apply below_alloc | apply pw_below_drewN | apply below_drew1))); (case aF => exact (fun k_ hk => ⟨(.inr (Nat.le_trans (by first | exact HK.out.1 | exact (show Kept w _ (fun k_ => P1_ k_) from by repeat (first | exact HK.out | apply Kept.alloc | apply Kept.drewN | apply Kept.drew)).1) hk)), Kd.fresh' (Kd.R_lt (by (with_reducible repeat (first | apply Kd.R_alloc | apply Kd.R_drewN | apply Kd.R_drew)); exact HO_1.out)) k_ hk⟩)); (case aO => exact (by (with_reducible repeat (first | apply Kd.R_alloc | apply Kd.R_drewN | apply Kd.R_drew)); exact Kd.R_mono HO181.out (fun _ hk => ⟨hk.1.1, hk.2⟩))); (case aS => exact (below_size (by repeat (first | exact HB.out | apply below_alloc | apply pw_below_drewN | apply below_drew1)))); (case aL => have := LMc13.out; omega); intro v183 w30 ho hb hg hat; rw [← Ny182.out] at ho; have n0_ := Aside0.mk (Kd.R_after (ok := (fun k_ => (P1_ k_ ∨ w.heap.size ≤ k_))) (by (with_reducible repeat (first | apply Kd.R_alloc | apply Kd.R_drewN | apply Kd.R_drew)); exact HO_1.out) hg hat); have n1_ := Aside0.mk (hb); have n2_ := Aside0.mk (Kept.of_grown (S := (fun k_ => P1_ k_)) hg (by repeat (first | exact HK.out | apply Kept.alloc | apply Kept.drewN | apply Kept.drew)) (fun k_ e_ => (HO181.out.1 k_ e_).1.1)); have n3_ := Aside0.mk (ho); clear HO_1; clear HB; clear HK; clear HO181; have HO_1 := n0_; have HB := n1_; have HK := n2_; have HO184 := n3_; clear n0_ n1_ n2_ n3_; clear ho hb hg hat) | ((with_reducible refine gate_builtin (b := .append) (xs := #[.tmp 33, .tmp 35]) rfl ?_); at_builtin; refine Kd.R_append (Kd.int .i64) (w0 := w0) w0.heap.size rfl (.tmp 33) (.tmp 35) 41 3 (.int .i64 0) 8 rfl Tryz.underlying41 info3 rfl (by decide) (by omega) v183 y182 x10_1 [.int .i64 x10_1] (fun k_ => (P1_ k_ ∨ w.heap.size ≤ k_) ∧ some k_ ≠ (.slice Ao7 l1.length co7 : Value).ownBlock) (fun _ => False) rfl rfl ?aP (fun _ hk => hk.elim) ?aF ?aO ?aB ?aS ?aL ?_; (case aP => exact rfl); (case aB => exact (by repeat (first | exact HB.out | apply below_alloc | apply pw_below_drewN | apply below_drew1))); (case aF => exact (fun k_ hk => ⟨(.inr (Nat.le_trans (by first | exact HK.out.1 | exact (show Kept w _ (fun k_ => P1_ k_) from by repeat (first | exact HK.out | apply Kept.alloc | apply Kept.drewN | apply Kept.drew)).1) hk)), Kd.fresh' (Kd.R_lt (by (with_reducible repeat (first | apply Kd.R_alloc | apply Kd.R_drewN | apply Kd.R_drew)); exact HO_1.out)) k_ hk⟩)); (case aO => exact (by (with_reducible repeat (first | apply Kd.R_alloc | apply Kd.R_drewN | apply Kd.R_drew)); exact HO184.out)); (case aS => exact (below_size (by repeat (first | exact HB.out | apply below_alloc | apply pw_below_drewN | apply below_drew1)))); (case aL => have := LMc14.out; omega); intro v186 w31 ho hb hg hat; rw [← Ny185.out] at ho; have n0_ := Aside0.mk (Kd.R_after (ok := (fun k_ => (P1_ k_ ∨ w.heap.size ≤ k_))) (by (with_reducible repeat (first | apply Kd.R_alloc | apply Kd.R_drewN | apply Kd.R_drew)); exact HO_1.out) hg hat); have n1_ := Aside0.mk (hb); have n2_ := Aside0.mk (Kept.of_grown (S := (fun k_ => P1_ k_)) hg (by repeat (first | exact HK.out | apply Kept.alloc | apply Kept.drewN | apply Kept.drew)) (fun k_ e_ => (HO184.out.1 k_ e_).1)); have n3_ := Aside0.mk (ho); clear HO_1; clear HB; clear HK; clear HO184; have HO_1 := n0_; have HB := n1_; have HK := n2_; have HO187 := n3_; clear n0_ n1_ n2_ n3_; clear ho hb hg hat; obtain ⟨Ao32, co32, eo32⟩ := Kd.R_slice HO187.out; subst eo32) | ((with_reducible refine gate_callee (f := 103) rfl ?_); refine goesL_ (some 40) rfl rfl Tryz.func103 (by kernel_rfl) rfl #[.slice Ao32 y185.length co32, .int .i64 x10_1] rfl (by (try simp only [List.map_toArray, List.map_cons, List.map_nil]); first | done | rfl | (simp only [List.length_drop, List.length_take]; rfl)) ?_; (with_reducible refine (potbankref06_mask.calls kj7 _ _ y185 x10_1 t188 _ ?side1 ?side2 A15.out).mono ?_); (case side1 => repeat (first | exact (Kd.R_reads' HO187.out).2.2 | (with_reducible refine Kd.C_alloc ?_ _) | (with_reducible refine Kd.C_drewN ?_ _) | (with_reducible refine Kd.C_drew ?_))); (case side2 => exact (Kd.R_reads' HO187.out).2.1); rintro e w' ⟨rfl, ⟨nd, rfl⟩⟩; refine ⟨_, rfl, ?_⟩; have p189 : 0 ≤ (t188 : Int) := of_decide_eq_true (by first | (with_reducible assumption) | assumption); have q189 : t188 < (l0.length : Int) := of_decide_eq_true (by first | (with_reducible assumption) | assumption); obtain ⟨ad189, e189, hx189_0⟩ := Kd.at_bool (Kd.C_kept_now HR0.out HK.out) t188 p189 q189; (try rw [← Nbq18.out] at hx189_0); cases e189; replace p189 := eq_true p189; replace q189 := eq_true q189) | ((with_reducible refine gate_callee (f := 61) rfl ?_); refine goesL_ (some 49) rfl rfl Tryz.func61 (by kernel_rfl) rfl #[.slice (some ad189) l0.length c0, .slice Ao32 y185.length co32, .int .i64 a2, .int .i64 a3] rfl (by (try simp only [List.map_toArray, List.map_cons, List.map_nil]); first | done | rfl | (simp only [List.length_drop, List.length_take]; rfl)) ?_; (with_reducible refine (ih kj7 (by have := HK1.out; have := HJ7.out; omega) _ _ l0 (fun k_ => some k_ = (.slice Ao32 y185.length co32 : Value).ownBlock) (.slice Ao32 y185.length co32) y185 a2 a3 t190 false w0 _ ?side1 ?side2 ?side3 ?side4 A20.out).mono ?_); (case side1 => repeat (first | exact HB.out | apply below_alloc | apply pw_below_drewN | apply below_drew1)); (case side2 => exact Kd.C_kept_call HR0.out (by repeat (first | exact HK.out | apply Kept.alloc | apply Kept.drewN | apply Kept.drew)) (fun k_ hs_ => (fun e_ => (HO187.out.1 k_ e_.symm).1) hs_)); (case side3 => exact HC0.out); (case side4 => exact Kd.R_tight rfl HO187.out); rintro e w33 ⟨v191, rfl, ho0, hb, hkp⟩; refine ⟨_, rfl, ?_⟩; have n0_ := Aside0.mk (Kd.R_mono (ok' := fun k_ => (P1_ k_ ∨ w.heap.size ≤ k_) ∧ some k_ ≠ (v191 : Value).ownBlock) (Kd.R_keptB (HO_1.out) hkp (fun k_ hk_ hs_ => (hk_.2) hs_)) (fun k_ hk_ => ⟨hk_.1.1, fun e_ => Or.elim (ho0.1 k_ e_.symm) (fun hs_ => hk_.2.1 hs_) (fun hn_ => Nat.not_le.2 hk_.2.2 hn_)⟩)); have n1_ := Aside0.mk (Kd.R_mono (ok' := fun k_ => (P1_ k_ ∨ w.heap.size ≤ k_) ∧ some k_ ≠ (.slice Ao7 l1.length co7 : Value).ownBlock) ho0 (fun k_ hk_ => ⟨Or.elim hk_ (fun hs_ => (HO187.out.1 k_ (hs_).symm).1) (fun hn_ => (.inr (Nat.le_trans (by first | exact HK.out.1 | exact (show Kept w _ (fun k_ => P1_ k_) from by repeat (first | exact HK.out | apply Kept.alloc | apply Kept.drewN | apply Kept.drew)).1) hn_))), Or.elim hk_ (fun hs_ => fun e_ => (((HO_1.out).1 k_ e_.symm).2) hs_) (fun hn_ => (Kd.fresh' (Kd.R_lt (by (with_reducible repeat (first | apply Kd.R_alloc | apply Kd.R_drewN | apply Kd.R_drew)); exact HO_1.out)) k_ hn_))⟩)); have n2_ := Aside0.mk (Kept.then_ (S := (fun k_ => P1_ k_)) (by repeat (first | exact HK.out | apply Kept.alloc | apply Kept.drewN | apply Kept.drew)) hkp (fun k_ hs_ => (fun e_ => (HO187.out.1 k_ e_.symm).1) hs_)); have n3_ := Aside0.mk (hb); clear HO_1; clear HK; clear HB; clear HO187; have HO_1 := n0_; have HO192 := n1_; have HK := n2_; have HB := n3_; clear n0_ n1_ n2_ n3_; (try clear hb); (try clear hkp); (try clear ho0)))
             go_roundg kj7
             case measure => have := HK1.out; have := HJ7.out; omega
             case rel => exact ⟨(wrap64 (x10_1 + 1)), (by first | rfl | (simp; done) | (simp [*]; done)), H', ⟨by have := HK1.out; have := HJ7.out; omega⟩, ⟨by (with_reducible repeat (first | apply Kd.R_alloc | apply Kd.R_drewN | apply Kd.R_drew)); exact Kd.R_mono HO_1.out (fun _ hk => hk.1)⟩, ⟨by repeat (first | exact HK.out | apply Kept.alloc | apply Kept.drewN | apply Kept.drew)⟩, ⟨by repeat (first | exact HB.out | apply below_alloc | apply pw_below_drewN | apply below_drew1)⟩⟩
           ·replace c19 := Bool.eq_false_iff.mpr c19
            subst c19
            rw [if_neg (show ¬ (false = true) by decide)] at H
            have H' := Aside0.mk H
            clear H
            go_wp2_with (first | ((with_reducible refine gate_dst (N := 31) rfl ?_); refine Kd.R_lit (Kd.int .i64) _ 3 ?hg (N := 31) ?hd (xs := ([] : List Int)) (inner := []) (ok := fun _ => True) (okp := fun _ => True) ?hr ?hp (fun _ hk => hk) trivial (Below.refl _ _) (Nat.le_refl _) (by simp) ?_; (case hd => rfl); (case hg => rfl); (case hr => first | (go_simp; done) | (go_simp; rfl)); (case hp => exact (Reps.none _ _)); intro v180 w34 ho35 hb hg_ hnew_; clear hg_ hnew_; (first | rw [← Ny179.out] at ho35 | (simp only [Int.reduceToNat] at ho35; rw [← Ny179.out] at ho35)); have n0_ := Aside0.mk (Kd.R_elder' (by (with_reducible repeat (first | apply Kd.R_alloc | apply Kd.R_drewN | apply Kd.R_drew)); exact HO_1.out) (Kd.R_base ho35) hb); have n1_ := Aside0.mk (Kd.R_lower (Kd.R_new' (Kd.R_newM (M := fun k_ => (P1_ k_ ∨ w.heap.size ≤ k_)) ho35 (by first | exact HK.out.1 | exact (show Kept w _ (fun k_ => P1_ k_) from by repeat (first | exact HK.out | apply Kept.alloc | apply Kept.drewN | apply Kept.drew)).1) (fun k_ h_ => .inr h_)) (Kd.R_lt (by (with_reducible repeat (first | apply Kd.R_alloc | apply Kd.R_drewN | apply Kd.R_drew)); exact HO_1.out))) (below_size (by repeat (first | exact HB.out | apply below_alloc | apply pw_below_drewN | apply below_drew1)))); have n2_ := Aside0.mk (Kept.below (S := (fun k_ => P1_ k_)) (by repeat (first | exact HK.out | apply Kept.alloc | apply Kept.drewN | apply Kept.drew)) hb); have n3_ := Aside0.mk (below_step (by repeat (first | exact HB.out | apply below_alloc | apply pw_below_drewN | apply below_drew1)) hb); clear HO_1; clear HK; clear HB; have HO_1 := n0_; have HO181 := n1_; have HK := n2_; have HB := n3_; clear n0_ n1_ n2_ n3_; clear hb ho35) | ((with_reducible refine gate_builtin (b := .append) (xs := #[.tmp 31, .tmp 32]) rfl ?_); at_builtin; refine Kd.R_append_rows (Kd.int .i64) (w0 := w0) w0.heap.size rfl (.tmp 31) (.tmp 32) 41 3 (.int .i64 0) 8 rfl Tryz.underlying41 info3 rfl (by decide) (by omega) v180 y179 l1 _ _ _ (fun k_ => (P1_ k_ ∨ w.heap.size ≤ k_) ∧ some k_ ≠ (.slice Ao7 l1.length co7 : Value).ownBlock) (fun _ => False) rfl rfl ?aO ?aR (fun _ _ h => h) (fun _ h => h.elim) ?aF ?aB ?aS ?aL ?_; (case aR => repeat (first | exact (Kd.R_reads' HO_1.out).2.2 | (with_reducible refine Kd.C_alloc ?_ _) | (with_reducible refine Kd.C_drewN ?_ _) | (with_reducible refine Kd.C_drew ?_))); (case aB => exact (by repeat (first | exact HB.out | apply below_alloc | apply pw_below_drewN | apply below_drew1))); (case aF => exact (fun k_ hk => ⟨(.inr (Nat.le_trans (by first | exact HK.out.1 | exact (show Kept w _ (fun k_ => P1_ k_) from by repeat (first | exact HK.out | apply Kept.alloc | apply Kept.drewN | apply Kept.drew)).1) hk)), Kd.fresh' (Kd.R_lt (by (with_reducible repeat (first | apply Kd.R_alloc | apply Kd.R_drewN | apply Kd.R_drew)); exact HO_1.out)) k_ hk⟩)); (case aO => exact (by (with_reducible repeat (first | apply Kd.R_alloc | apply Kd.R_drewN | apply Kd.R_drew)); exact Kd.R_mono HO181.out (fun _ hk => ⟨hk.1.1, hk.2⟩))); (case aS => exact (below_size (by repeat (first | exact HB.out | apply below_alloc | apply pw_below_drewN | apply below_drew1)))); (case aL => have := LMc13.out; omega); intro v183 w36 ho hb hg hat; rw [← Ny182.out] at ho; have n0_ := Aside0.mk (Kd.R_after (ok := (fun k_ => (P1_ k_ ∨ w.heap.size ≤ k_))) (by (with_reducible repeat (first | apply Kd.R_alloc | apply Kd.R_drewN | apply Kd.R_drew)); exact HO_1.out) hg hat); have n1_ := Aside0.mk (hb); have n2_ := Aside0.mk (Kept.of_grown (S := (fun k_ => P1_ k_)) hg (by repeat (first | exact HK.out | apply Kept.alloc | apply Kept.drewN | apply Kept.drew)) (fun k_ e_ => (HO181.out.1 k_ e_).1.1)); have n3_ := Aside0.mk (ho); clear HO_1; clear HB; clear HK; clear HO181; have HO_1 := n0_; have HB := n1_; have HK := n2_; have HO184 := n3_; clear n0_ n1_ n2_ n3_; clear ho hb hg hat) | ((with_reducible refine gate_builtin (b := .append) (xs := #[.tmp 33, .tmp 35]) rfl ?_); at_builtin; refine Kd.R_append (Kd.int .i64) (w0 := w0) w0.heap.size rfl (.tmp 33) (.tmp 35) 41 3 (.int .i64 0) 8 rfl Tryz.underlying41 info3 rfl (by decide) (by omega) v183 y182 x10_1 [.int .i64 x10_1] (fun k_ => (P1_ k_ ∨ w.heap.size ≤ k_) ∧ some k_ ≠ (.slice Ao7 l1.length co7 : Value).ownBlock) (fun _ => False) rfl rfl ?aP (fun _ hk => hk.elim) ?aF ?aO ?aB ?aS ?aL ?_; (case aP => exact rfl); (case aB => exact (by repeat (first | exact HB.out | apply below_alloc | apply pw_below_drewN | apply below_drew1))); (case aF => exact (fun k_ hk => ⟨(.inr (Nat.le_trans (by first | exact HK.out.1 | exact (show Kept w _ (fun k_ => P1_ k_) from by repeat (first | exact HK.out | apply Kept.alloc | apply Kept.drewN | apply Kept.drew)).1) hk)), Kd.fresh' (Kd.R_lt (by (with_reducible repeat (first | apply Kd.R_alloc | apply Kd.R_drewN | apply Kd.R_drew)); exact HO_1.out)) k_ hk⟩)); (case aO => exact (by (with_reducible repeat (first | apply Kd.R_alloc | apply Kd.R_drewN | apply Kd.R_drew)); exact HO184.out)); (case aS => exact (below_size (by repeat (first | exact HB.out | apply below_alloc | apply pw_below_drewN | apply below_drew1)))); (case aL => have := LMc14.out; omega); intro v186 w37 ho hb hg hat; rw [← Ny185.out] at ho; have n0_ := Aside0.mk (Kd.R_after (ok := (fun k_ => (P1_ k_ ∨ w.heap.size ≤ k_))) (by (with_reducible repeat (first | apply Kd.R_alloc | apply Kd.R_drewN | apply Kd.R_drew)); exact HO_1.out) hg hat); have n1_ := Aside0.mk (hb); have n2_ := Aside0.mk (Kept.of_grown (S := (fun k_ => P1_ k_)) hg (by repeat (first | exact HK.out | apply Kept.alloc | apply Kept.drewN | apply Kept.drew)) (fun k_ e_ => (HO184.out.1 k_ e_).1)); have n3_ := Aside0.mk (ho); clear HO_1; clear HB; clear HK; clear HO184; have HO_1 := n0_; have HB := n1_; have HK := n2_; have HO187 := n3_; clear n0_ n1_ n2_ n3_; clear ho hb hg hat; obtain ⟨Ao38, co38, eo38⟩ := Kd.R_slice HO187.out; subst eo38) | ((with_reducible refine gate_callee (f := 103) rfl ?_); refine goesL_ (some 40) rfl rfl Tryz.func103 (by kernel_rfl) rfl #[.slice Ao38 y185.length co38, .int .i64 x10_1] rfl (by (try simp only [List.map_toArray, List.map_cons, List.map_nil]); first | done | rfl | (simp only [List.length_drop, List.length_take]; rfl)) ?_; (with_reducible refine (potbankref06_mask.calls kj7 _ _ y185 x10_1 t188 _ ?side1 ?side2 A15.out).mono ?_); (case side1 => repeat (first | exact (Kd.R_reads' HO187.out).2.2 | (with_reducible refine Kd.C_alloc ?_ _) | (with_reducible refine Kd.C_drewN ?_ _) | (with_reducible refine Kd.C_drew ?_))); (case side2 => exact (Kd.R_reads' HO187.out).2.1); rintro e w' ⟨rfl, ⟨nd, rfl⟩⟩; refine ⟨_, rfl, ?_⟩; have p189 : 0 ≤ (t188 : Int) := of_decide_eq_true (by first | (with_reducible assumption) | assumption); have q189 : t188 < (l0.length : Int) := of_decide_eq_true (by first | (with_reducible assumption) | assumption); obtain ⟨ad189, e189, hx189_0⟩ := Kd.at_bool (Kd.C_kept_now HR0.out HK.out) t188 p189 q189; (try rw [← Nbq18.out] at hx189_0); cases e189; replace p189 := eq_true p189; replace q189 := eq_true q189))
            go_roundg kj7
            case measure => have := HK1.out; have := HJ7.out; omega
            case rel => exact ⟨(wrap64 (x10_1 + 1)), (by first | rfl | (simp; done) | (simp [*]; done)), H', ⟨by have := HK1.out; have := HJ7.out; omega⟩, ⟨by (with_reducible repeat (first | apply Kd.R_alloc | apply Kd.R_drewN | apply Kd.R_drew)); exact Kd.R_mono HO_1.out (fun _ hk => hk.1)⟩, ⟨by repeat (first | exact HK.out | apply Kept.alloc | apply Kept.drewN | apply Kept.drew)⟩, ⟨by repeat (first | exact HB.out | apply below_alloc | apply pw_below_drewN | apply below_drew1)⟩⟩
          ·rw [if_neg c17] at H
           exact absurd H (by simp)
         ·rw [if_neg c16] at H
          exact absurd H (by simp)
        ·rw [if_neg c14] at H
         exact absurd H (by simp)
       ·rw [if_neg c13] at H
        exact absurd H (by simp)
      ·replace c12 := Bool.eq_false_iff.mpr c12
       subst c12
       rw [if_neg (show ¬ (false = true) by decide)] at H
       simp only [Option.some.injEq, Prod.mk.injEq] at H
       obtain ⟨rfl, rfl⟩ := H
       go_wp2
       go_ret2
       exact ⟨_, by first | rfl | (simp [errW_none, errW_some] <;> rfl) | (simp [*, errW_none, errW_some] <;> rfl), by first | exact Kd.R_nil _ _ _ _ _ | exact Kd.N_nil _ _ _ _ _ | exact Kd.V_nil _ _ _ _ _ | exact Kd.Q_nil _ _ _ _ _ | exact Kd.S_nil _ _ _ _ _, by repeat (first | exact HB.out | apply below_alloc | apply pw_below_drewN | apply below_drew1), by repeat (first | exact HK.out | apply Kept.alloc | apply Kept.drewN | apply Kept.drew)⟩
def potbankref06_Chosen.l0 : Nat → Int → List Int → List Int → Int → Option (List Int)
 | 0, _, _, _, _ => none
 | k + 1, x0, x1, x5, x6 => if x6 < (x1.length : Int) then (if 0 ≤ x6 then (if (Go.bits .and .i64 (shr .i64 x0 x6) 1) = 1 then (if x5.length < 17592186044416 then (potbankref06_Chosen.l0 k x0 x1 (x5 ++ [rd x1 x6]) (wrap64 (x6 + 1))) else (none)) else (potbankref06_Chosen.l0 k x0 x1 x5 (wrap64 (x6 + 1)))) else (none)) else (some x5)
def potbankref06_Chosen.f (k : Nat) (a0 : Int) (l1 : List Int) : Option (List Int) := potbankref06_Chosen.l0 k a0 l1 ([] : List Int) 0
set_option maxHeartbeats 8000000 in
set_option maxRecDepth 100000 in
theorem potbankref06_Chosen.calls (k : Nat) (a0 : Int) (A1 : Option Addr) (c1 : Nat) (l1 : List Int) (r : List Int) (w : World) (hr1 : Kd.C (Kd.int .i64) w A1 l1.length l1) (hc1 : l1.length ≤ c1) (h : potbankref06_Chosen.f k a0 l1 = some r) :
  Calls Tryz.prog 58 #[.int .i64 a0, .slice A1 l1.length c1] w fun e w' => ∃ v0_ : Value, e = .returned (v0_) ∧ Kd.R (Kd.int .i64) 3 w' w.heap.size (fun _ => True) v0_ r ∧ Below w.heap.size w w' := by
 have HR1 := Aside0.mk hr1
 have HC1 := Aside0.mk hc1
 clear hr1 hc1
 have HB := Aside0.mk (Below.refl w.heap.size w)
 have H : (potbankref06_Chosen.l0 k a0 l1 ([] : List Int) 0) = some r := h
 clear h
 have H' := Aside0.mk H
 clear H
 go_enter Tryz.func58, Tryz.ntmps58
 go_wp2
 go_loopg [5, 6] k (fun kq v5 v6 w' => ∃ (x5_1 : List Int) (x6_1 : Int), v6 = .int .i64 x6_1 ∧ Aside0 (potbankref06_Chosen.l0 kq a0 l1 x5_1 x6_1 = some r) ∧ Aside0 (kq ≤ k) ∧ Aside0 (Kd.R (Kd.int .i64) 3 w' w.heap.size (fun _ => True) v5 x5_1) ∧ Aside0 (Below w.heap.size w w'))
 case atStart => exact ⟨(([] : List Int)), (0), (by first | rfl | (simp; done) | (simp [*]; done)), H', ⟨Nat.le_refl _⟩, ⟨by first | exact Kd.R_nil _ _ _ _ _ | exact Kd.N_nil _ _ _ _ _ | exact Kd.V_nil _ _ _ _ _ | exact Kd.Q_nil _ _ _ _ _ | exact Kd.S_nil _ _ _ _ _⟩, ⟨by repeat (first | exact HB.out | apply below_alloc | apply pw_below_drewN | apply below_drew1)⟩⟩
 case round =>
  clear H'
  try clear c1
  try clear p2
  obtain ⟨x5_1, x6_1, rfl, HA, HK1, HO_5, HB⟩ := hrel
  cases gk with
  | zero => exact absurd HA.out (by simp [potbankref06_Chosen.l0])
  | succ k1 =>
   have H := HA.out
   clear HA
   simp only [potbankref06_Chosen.l0] at H
   by_cases c3 : x6_1 < (l1.length : Int)
   ·rw [if_pos c3] at H
    have c3b0 : decide (x6_1 < (l1.length : Int)) = true := decide_eq_true c3
    clear c3
    by_cases c4 : 0 ≤ x6_1
    ·rw [if_pos c4] at H
     have c4b0 := eq_true c4
     have c4b1 : decide (0 ≤ x6_1) = true := decide_eq_true c4
     clear c4
     obtain ⟨ji5, hji5⟩ : ∃ j_ : Int, (shr .i64 a0 x6_1) = j_ := ⟨_, rfl⟩
     replace H : (if (Go.bits .and .i64 (ji5) 1) = 1 then (if x5_1.length < 17592186044416 then (potbankref06_Chosen.l0 k1 a0 l1 (x5_1 ++ [rd l1 x6_1]) (wrap64 (x6_1 + 1))) else (none)) else (potbankref06_Chosen.l0 k1 a0 l1 x5_1 (wrap64 (x6_1 + 1)))) = some r := by first | (rw [hji5] at H; exact H) | (simp only [hji5] at H ⊢; exact H)
     have hji5_ : (a0 / 2 ^ min x6_1.toNat 64) = ji5 := hji5
     have hji5z : x6_1 ≤ 64 → (a0 / 2 ^ x6_1.toNat) = ji5 := shr_small hji5
     by_cases c6 : (Go.bits .and .i64 (ji5) 1) = 1
     ·rw [if_pos c6] at H
      have c6b0 : ((Go.bits .and .i64 (ji5) 1) == 1) = true := beq_iff_eq.mpr c6
      have c6b1 : ((Go.bits .and .i64 (ji5) 1) != 1) = false := bne_eq_false_iff_eq.mpr c6
      clear c6
      by_cases c7 : x5_1.length < 17592186044416
      ·rw [if_pos c7] at H
       have LMc7 := Aside0.mk c7
       clear c7
       obtain ⟨y195, hy195⟩ : ∃ y_ : List Int, y_ = (x5_1 ++ [rd l1 x6_1]) := ⟨_, rfl⟩
       replace H : (potbankref06_Chosen.l0 k1 a0 l1 y195 (wrap64 (x6_1 + 1))) = some r := by first | (rw [hy195]; with_reducible exact H) | (have H2_ := (Option.bind_some _ _).symm.trans H; rw [hy195]; with_reducible exact H2_) | (have H2_ := (Option.bind_some _ _).symm.trans H; with_reducible exact H2_) | with_reducible exact H | (rw [hy195]; exact H) | exact H
       have Ny195 := Aside0.mk hy195
       clear hy195
       have H' := Aside0.mk H
       clear H
       have p194 : 0 ≤ (x6_1 : Int) := of_decide_eq_true (by first | (with_reducible assumption) | assumption)
       have q194 : x6_1 < (l1.length : Int) := of_decide_eq_true (by first | (with_reducible assumption) | assumption)
       obtain ⟨ad194, e194, hx194_0⟩ := Kd.at_int HR1.out x6_1 p194 q194
       cases e194
       replace hx194_0 := (HB.out.cell (World.block_lt_of_cell? w _ hx194_0)).trans hx194_0
       replace p194 := eq_true p194
       replace q194 := eq_true q194
       go_wp2_with (first | ((with_reducible refine gate_builtin (b := .append) (xs := #[.tmp 18, .tmp 23]) rfl ?_); at_builtin; refine Kd.R_append (Kd.int .i64) (w0 := w) w.heap.size rfl (.tmp 18) (.tmp 23) 41 3 (.int .i64 0) 8 rfl Tryz.underlying41 info3 rfl (by decide) (by omega) u5 x5_1 (rd l1 x6_1) [.int .i64 (rd l1 x6_1)] (fun _ => True) (fun _ => False) rfl rfl ?aP (fun _ hk => hk.elim) ?aF ?aO ?aB ?aS ?aL ?_; (case aP => exact rfl); (case aB => exact (by repeat (first | exact HB.out | apply below_alloc | apply pw_below_drewN | apply below_drew1))); (case aF => exact (fun _ _ => trivial)); (case aO => exact (by (with_reducible repeat (first | apply Kd.R_alloc | apply Kd.R_drewN | apply Kd.R_drew)); exact HO_5.out)); (case aS => exact (below_size (by repeat (first | exact HB.out | apply below_alloc | apply pw_below_drewN | apply below_drew1)))); (case aL => have := LMc7.out; omega); intro v196 w8 ho hb hg hat; rw [← Ny195.out] at ho; have n0_ := Aside0.mk (hb); have n1_ := Aside0.mk (ho); clear HB; clear HO_5; have HB := n0_; have HO197 := n1_; clear n0_ n1_; clear ho hb hg hat))
       go_roundg k1
       case measure => have := HK1.out; omega
       case rel => exact ⟨(y195), (wrap64 (x6_1 + 1)), (by first | rfl | (simp; done) | (simp [*]; done)), H', ⟨by have := HK1.out; omega⟩, ⟨by (with_reducible repeat (first | apply Kd.R_alloc | apply Kd.R_drewN | apply Kd.R_drew)); exact HO197.out⟩, ⟨by repeat (first | exact HB.out | apply below_alloc | apply pw_below_drewN | apply below_drew1)⟩⟩
      ·rw [if_neg c7] at H
       exact absurd H (by simp)
     ·rw [if_neg c6] at H
      have c6b0 : ((Go.bits .and .i64 (ji5) 1) == 1) = false := beq_eq_false_iff_ne.mpr c6
      have c6b1 : ((Go.bits .and .i64 (ji5) 1) != 1) = true := bne_iff_ne.mpr c6
      have H' := Aside0.mk H
      clear H
      go_wp2
      go_roundg k1
      case measure => have := HK1.out; omega
      case rel => exact ⟨(x5_1), (wrap64 (x6_1 + 1)), (by first | rfl | (simp; done) | (simp [*]; done)), H', ⟨by have := HK1.out; omega⟩, ⟨by (with_reducible repeat (first | apply Kd.R_alloc | apply Kd.R_drewN | apply Kd.R_drew)); exact HO_5.out⟩, ⟨by repeat (first | exact HB.out | apply below_alloc | apply pw_below_drewN | apply below_drew1)⟩⟩
    ·rw [if_neg c4] at H
     exact absurd H (by simp)
   ·rw [if_neg c3] at H
    have c3b0 : decide (x6_1 < (l1.length : Int)) = false := decide_eq_false c3
    clear c3
    obtain rfl := Option.some.inj H
    go_wp2
    go_ret
    exact ⟨_, by first | rfl | (simp [errW_none, errW_some] <;> rfl) | (simp [*, errW_none, errW_some] <;> rfl), by (with_reducible repeat (first | apply Kd.R_alloc | apply Kd.R_drewN | apply Kd.R_drew)); exact HO_5.out, by repeat (first | exact HB.out | apply below_alloc | apply pw_below_drewN | apply below_drew1)⟩
def potbankref06_indices.l0 : Nat → Int → List Int → Int → Option (List Int)
 | 0, _, _, _ => none
 | k + 1, x0, x3, x4 => if x4 < x0 then (if x3.length < 17592186044416 then (potbankref06_indices.l0 k x0 (x3 ++ [x4]) (wrap64 (x4 + 1))) else (none)) else (some x3)
def potbankref06_indices.f (k : Nat) (a0 : Int) : Option (List Int) := potbankref06_indices.l0 k a0 ([] : List Int) 0
set_option maxHeartbeats 8000000 in
set_option maxRecDepth 100000 in
theorem potbankref06_indices.calls (k : Nat) (a0 : Int) (r : List Int) (w : World) (h : potbankref06_indices.f k a0 = some r) :
  Calls Tryz.prog 59 #[.int .i64 a0] w fun e w' => ∃ v0_ : Value, e = .returned (v0_) ∧ Kd.R (Kd.int .i64) 3 w' w.heap.size (fun _ => True) v0_ r ∧ Below w.heap.size w w' := by
 have HB := Aside0.mk (Below.refl w.heap.size w)
 have H : (potbankref06_indices.l0 k a0 ([] : List Int) 0) = some r := h
 clear h
 have H' := Aside0.mk H
 clear H
 go_enter Tryz.func59, Tryz.ntmps59
 go_wp2
 go_loopg [3, 4] k (fun kq v3 v4 w' => ∃ (x3_1 : List Int) (x4_1 : Int), v4 = .int .i64 x4_1 ∧ Aside0 (potbankref06_indices.l0 kq a0 x3_1 x4_1 = some r) ∧ Aside0 (kq ≤ k) ∧ Aside0 (Kd.R (Kd.int .i64) 3 w' w.heap.size (fun _ => True) v3 x3_1) ∧ Aside0 (Below w.heap.size w w'))
 case atStart => exact ⟨(([] : List Int)), (0), (by first | rfl | (simp; done) | (simp [*]; done)), H', ⟨Nat.le_refl _⟩, ⟨by first | exact Kd.R_nil _ _ _ _ _ | exact Kd.N_nil _ _ _ _ _ | exact Kd.V_nil _ _ _ _ _ | exact Kd.Q_nil _ _ _ _ _ | exact Kd.S_nil _ _ _ _ _⟩, ⟨by repeat (first | exact HB.out | apply below_alloc | apply pw_below_drewN | apply below_drew1)⟩⟩
 case round =>
  clear H'
  obtain ⟨x3_1, x4_1, rfl, HA, HK1, HO_3, HB⟩ := hrel
  cases gk with
  | zero => exact absurd HA.out (by simp [potbankref06_indices.l0])
  | succ k1 =>
   have H := HA.out
   clear HA
   simp only [potbankref06_indices.l0] at H
   by_cases c2 : x4_1 < a0
   ·rw [if_pos c2] at H
    have c2b0 : decide (x4_1 < a0) = true := decide_eq_true c2
    clear c2
    by_cases c3 : x3_1.length < 17592186044416
    ·rw [if_pos c3] at H
     have LMc3 := Aside0.mk c3
     clear c3
     obtain ⟨y198, hy198⟩ : ∃ y_ : List Int, y_ = (x3_1 ++ [x4_1]) := ⟨_, rfl⟩
     replace H : (potbankref06_indices.l0 k1 a0 y198 (wrap64 (x4_1 + 1))) = some r := by first | (rw [hy198]; with_reducible exact H) | (have H2_ := (Option.bind_some _ _).symm.trans H; rw [hy198]; with_reducible exact H2_) | (have H2_ := (Option.bind_some _ _).symm.trans H; with_reducible exact H2_) | with_reducible exact H | (rw [hy198]; exact H) | exact H
     have Ny198 := Aside0.mk hy198
     clear hy198
     have H' := Aside0.mk H
     clear H
     go_wp2_with (first | ((with_reducible refine gate_builtin (b := .append) (xs := #[.tmp 10, .tmp 12]) rfl ?_); at_builtin; refine Kd.R_append (Kd.int .i64) (w0 := w) w.heap.size rfl (.tmp 10) (.tmp 12) 41 3 (.int .i64 0) 8 rfl Tryz.underlying41 info3 rfl (by decide) (by omega) u3 x3_1 x4_1 [.int .i64 x4_1] (fun _ => True) (fun _ => False) rfl rfl ?aP (fun _ hk => hk.elim) ?aF ?aO ?aB ?aS ?aL ?_; (case aP => exact rfl); (case aB => exact (by repeat (first | exact HB.out | apply below_alloc | apply pw_below_drewN | apply below_drew1))); (case aF => exact (fun _ _ => trivial)); (case aO => exact (by (with_reducible repeat (first | apply Kd.R_alloc | apply Kd.R_drewN | apply Kd.R_drew)); exact HO_3.out)); (case aS => exact (below_size (by repeat (first | exact HB.out | apply below_alloc | apply pw_below_drewN | apply below_drew1)))); (case aL => have := LMc3.out; omega); intro v199 w4 ho hb hg hat; rw [← Ny198.out] at ho; have n0_ := Aside0.mk (hb); have n1_ := Aside0.mk (ho); clear HB; clear HO_3; have HB := n0_; have HO200 := n1_; clear n0_ n1_; clear ho hb hg hat))
     go_roundg k1
     case measure => have := HK1.out; omega
     case rel => exact ⟨(y198), (wrap64 (x4_1 + 1)), (by first | rfl | (simp; done) | (simp [*]; done)), H', ⟨by have := HK1.out; omega⟩, ⟨by (with_reducible repeat (first | apply Kd.R_alloc | apply Kd.R_drewN | apply Kd.R_drew)); exact HO200.out⟩, ⟨by repeat (first | exact HB.out | apply below_alloc | apply pw_below_drewN | apply below_drew1)⟩⟩
    ·rw [if_neg c3] at H
     exact absurd H (by simp)
   ·rw [if_neg c2] at H
    have c2b0 : decide (x4_1 < a0) = false := decide_eq_false c2
    clear c2
    obtain rfl := Option.some.inj H
    go_wp2
    go_ret
    exact ⟨_, by first | rfl | (simp [errW_none, errW_some] <;> rfl) | (simp [*, errW_none, errW_some] <;> rfl), by (with_reducible repeat (first | apply Kd.R_alloc | apply Kd.R_drewN | apply Kd.R_drew)); exact HO_3.out, by repeat (first | exact HB.out | apply below_alloc | apply pw_below_drewN | apply below_drew1)⟩
def potbankref06_suits.f (a0_0 : Int) (a0_1 : Int) (a0_2 : Int) (a0_3 : Int) (a0_4 : Int) (a1_0 : Int) (a1_1 : Int) (a1_2 : Int) (a1_3 : Int) : Option (Bool) := if a1_0 ≥ a0_2 then (if a1_1 ≤ a0_3 then (some (decide (a1_2 ≥ a0_4))) else (some false)) else (some false)
set_option maxHeartbeats 8000000 in
set_option maxRecDepth 100000 in
theorem potbankref06_suits.calls (a0_0 : Int) (a0_1 : Int) (a0_2 : Int) (a0_3 : Int) (a0_4 : Int) (a1_0 : Int) (a1_1 : Int) (a1_2 : Int) (a1_3 : Int) (r : Bool) (w : World) (h : potbankref06_suits.f a0_0 a0_1 a0_2 a0_3 a0_4 a1_0 a1_1 a1_2 a1_3 = some r) :
  Calls Tryz.prog 80 #[.agg #[.int .i64 a0_0, .int .i64 a0_1, .int .i64 a0_2, .int .i64 a0_3, .int .i64 a0_4], .agg #[.int .i64 a1_0, .int .i64 a1_1, .int .i64 a1_2, .int .i64 a1_3]] w fun e w' => e = .returned (.bool r) ∧ Below w.heap.size w w' := by
 have hu72 := Tryz.underlying72
 have hu70 := Tryz.underlying70
 unfold potbankref06_suits.f at h
 by_cases c3 : a0_2 ≤ a1_0 <;> by_cases c4 : a1_1 ≤ a0_3
 all_goals
  simp only [ge_iff_le, c3, c4, if_true, if_false, Option.some.injEq] at h
  subst h
  go_enter Tryz.func80, Tryz.ntmps80
  go_wp2
  go_ret
  exact ⟨rfl, below_alloc (below_alloc (Below.refl _ _) _) _⟩
mutual
def potbankref06_room.l0 : Nat → List (S70) → List (S72) → List Int → Int → Int → Option (Int)
 | 0, _, _, _, _, _ => none
 | k + 1, x0, x1, x2, x7, x8 => if x8 < (x0.length : Int) then (potbankref06_room.l1 k x0 x1 x2 x7 x8 false 0) else (some x7)
def potbankref06_room.l1 : Nat → List (S70) → List (S72) → List Int → Int → Int → Bool → Int → Option (Int)
 | 0, _, _, _, _, _, _, _ => none
 | k + 1, x0, x1, x2, x7, x8, x9, x10 => if x10 < (x2.length : Int) then (if x9 = true then (potbankref06_room.l1 k x0 x1 x2 x7 x8 true (wrap64 (x10 + 1))) else (if 0 ≤ x10 then (if 0 ≤ (rd x2 x10) then (if (rd x2 x10) < (x1.length : Int) then (if 0 ≤ x8 then (if x8 < (x0.length : Int) then ((potbankref06_suits.f ((rd_T72 x1 (rd x2 x10)).f0) ((rd_T72 x1 (rd x2 x10)).f1) ((rd_T72 x1 (rd x2 x10)).f2.f0) ((rd_T72 x1 (rd x2 x10)).f2.f1) ((rd_T72 x1 (rd x2 x10)).f3) ((rd_T70 x0 x8).f0.f0) ((rd_T70 x0 x8).f0.f1) ((rd_T70 x0 x8).f1) ((rd_T70 x0 x8).f2)).bind fun t206 => (potbankref06_room.l1 k x0 x1 x2 x7 x8 t206 (wrap64 (x10 + 1)))) else (none)) else (none)) else (none)) else (none)) else (none))) else (if x9 = true then (if 0 ≤ x8 then (if x8 < (x0.length : Int) then (potbankref06_room.l0 k x0 x1 x2 (wrap64 (x7 + ((rd_T70 x0 x8).f2))) (wrap64 (x8 + 1))) else (none)) else (none)) else (potbankref06_room.l0 k x0 x1 x2 x7 (wrap64 (x8 + 1))))
end
def potbankref06_room.f (k : Nat) (l0 : List (S70)) (l1 : List (S72)) (l2 : List Int) : Option (Int) := potbankref06_room.l0 k l0 l1 l2 0 0
def potbankref06_room.T9 : Bool × List (List Nat × List Nat) := (true, [([], []), ([0], [0]), ([1], [1]), ([1], [1]), ([1], [1]), ([3, 4, 1], [1, 3, 4]), ([5, 1], [1, 5]), ([2, 6, 1], [1, 2, 6]), ([7, 1], [1, 7]), ([1], [1]), ([1], [1]), ([9, 10, 1], [1, 9, 10]), ([11, 1], [1, 11]), ([8, 12, 1, 1], [1, 8, 12]), ([1, 13], [1, 13]), ([14, 13, 0, 1, 2, 3, 4, 5, 6, 7, 8, 9, 10, 11, 12, 13, 14], [0, 14])])
def potbankref06_room.B9 : List Nat := [0, 1, 3, 3, 3, 27, 59, 127, 255, 3, 3, 1539, 3587, 8191, 16383, 32767]
theorem potbankref06_room.tab9 : rtab .any (opsOf Tryz.f69 9) = potbankref06_room.T9 := by kernel_rfl
theorem potbankref06_room.bits9 : waitsOk potbankref06_room.T9.2 potbankref06_room.B9 = true := by kernel_rfl
set_option maxHeartbeats 8000000 in
set_option maxRecDepth 100000 in
theorem potbankref06_room.calls (k : Nat) (A0 : Option Addr) (c0 : Nat) (l0 : List (S70)) (A1 : Option Addr) (c1 : Nat) (l1 : List (S72)) (A2 : Option Addr) (c2 : Nat) (l2 : List Int) (r : Int) (w : World) (hr0 : Kd.C k70 w A0 l0.length l0) (hc0 : l0.length ≤ c0) (hr1 : Kd.C k72 w A1 l1.length l1) (hc1 : l1.length ≤ c1) (hr2 : Kd.C (Kd.int .i64) w A2 l2.length l2) (hc2 : l2.length ≤ c2) (h : potbankref06_room.f k l0 l1 l2 = some r) :
  Calls Tryz.prog 69 #[.slice A0 l0.length c0, .slice A1 l1.length c1, .slice A2 l2.length c2] w fun e w' => e = .returned (.int .i64 r) ∧ Below w.heap.size w w' := by
 have hu72 := Tryz.underlying72
 have hu70 := Tryz.underlying70
 have HR0 := Aside0.mk hr0
 have HC0 := Aside0.mk hc0
 clear hr0 hc0
 have HR1 := Aside0.mk hr1
 have HC1 := Aside0.mk hc1
 clear hr1 hc1
 have HR2 := Aside0.mk hr2
 have HC2 := Aside0.mk hc2
 clear hr2 hc2
 have HB := Aside0.mk (Below.refl w.heap.size w)
 have H : (potbankref06_room.l0 k l0 l1 l2 0 0) = some r := h
 clear h
 have H' := Aside0.mk H
 clear H
 go_enter Tryz.func69, Tryz.ntmps69
 go_wp2
 go_loopg [7, 8] k (fun kq v7 v8 w' => ∃ (x7_1 : Int) (x8_1 : Int), v7 = .int .i64 x7_1 ∧ v8 = .int .i64 x8_1 ∧ Aside0 (potbankref06_room.l0 kq l0 l1 l2 x7_1 x8_1 = some r) ∧ Aside0 (kq ≤ k) ∧ Aside0 (Below w.heap.size w w'))
 case atStart => exact ⟨(0), (0), (by first | rfl | (simp; done) | (simp [*]; done)), (by first | rfl | (simp; done) | (simp [*]; done)), H', ⟨Nat.le_refl _⟩, ⟨by repeat (first | exact HB.out | apply below_alloc | apply pw_below_drewN | apply below_drew1)⟩⟩
 case round =>
  clear H'
  try clear c1
  try clear c2
  try clear p2
  obtain ⟨x7_1, x8_1, rfl, rfl, HA, HK1, HB⟩ := hrel
  cases gk with
  | zero => exact absurd HA.out (by simp [potbankref06_room.l0])
  | succ k1 =>
   have H := HA.out
   clear HA
   simp only [potbankref06_room.l0] at H
   by_cases c4 : x8_1 < (l0.length : Int)
   ·rw [if_pos c4] at H
    have c4b0 : decide (x8_1 < (l0.length : Int)) = true := decide_eq_true c4
    clear c4
    have H' := Aside0.mk H
    clear H
    go_wp2
    go_loopg [9, 10] k1 (fun kq v9 v10 w' => ∃ (x9_2 : Bool) (x10_2 : Int), v9 = .bool x9_2 ∧ v10 = .int .i64 x10_2 ∧ Aside0 (potbankref06_room.l1 kq l0 l1 l2 x7_1 x8_1 x9_2 x10_2 = some r) ∧ Aside0 (kq ≤ k1) ∧ Aside0 (Below w.heap.size w w'))
    case atStart => exact ⟨(false), (0), (by first | rfl | (simp; done) | (simp [*]; done)), (by first | rfl | (simp; done) | (simp [*]; done)), H', ⟨Nat.le_refl _⟩, ⟨by repeat (first | exact HB.out | apply below_alloc | apply pw_below_drewN | apply below_drew1)⟩⟩
    case round =>
     clear H'
     try clear c1
     try clear c2
     try clear p2
     try clear c4
     try clear c4b0
     try clear p2
     obtain ⟨x9_2, x10_2, rfl, rfl, HA, HK2, HB⟩ := hrel
     cases gk with
     | zero => exact absurd HA.out (by simp [potbankref06_room.l1])
     | succ k2 =>
      have H := HA.out
      clear HA
      simp only [potbankref06_room.l1] at H
      by_cases c5 : x10_2 < (l2.length : Int)
      ·rw [if_pos c5] at H
       have c5b0 : decide (x10_2 < (l2.length : Int)) = true := decide_eq_true c5
       clear c5
       by_cases c6 : x9_2 = true
       ·subst c6
        rw [if_pos rfl] at H
        have H' := Aside0.mk H
        clear H
        try go_wp2
        have n0_ := Aside0.mk (below_drew1 HB.out)
        clear HB
        have HB := n0_
        clear n0_
        refine start_ (n := 16) (S := fun w' => True) (ds := []) #[false, false, false, false, false, false, false, false, false, false, false, false, false, false, false, false] (by kernel_rfl) rfl rfl trivial (fun hHeld => ?_); refine with_tabW potbankref06_room.tab9 potbankref06_room.bits9 (fun HT_ HW_ => ?_)
        generalize wr.drew = w7 at HB hHeld ⊢
        refine pure_ (i := 0) (N := some 23) (v := ?_) (a' := ?_) #[true, false, false, false, false, false, false, false, false, false, false, false, false, false, false, false] rfl rfl (any_of HT_.out (by kernel_rfl)) (fun _ _ _ h => h) (Or.inl ⟨by rfl, ?_⟩) ?_ ?_
        rotate_left
        ·intro w'
         go_simp
         with_reducible rfl
        rotate_left
        ·simp only [Act.put, List.setIfInBounds_toArray, List.set_cons_zero, List.set_cons_succ, i64_w, i32_w]
         rfl
        refine pure_ (i := 1) (N := some 24) (v := ?_) (a' := ?_) #[true, true, false, false, false, false, false, false, false, false, false, false, false, false, false, false] rfl rfl (any_of HT_.out (by kernel_rfl)) (fun _ _ _ h => h) (Or.inl ⟨by rfl, ?_⟩) ?_ ?_
        rotate_left
        ·intro w'
         go_simp
         with_reducible rfl
        rotate_left
        ·simp only [Act.put, List.setIfInBounds_toArray, List.set_cons_zero, List.set_cons_succ, i64_w, i32_w]
         rfl
        refine pure_ (i := 2) (N := some 25) (v := undef) (a' := ?_) #[true, true, true, false, false, false, false, false, false, false, false, false, false, false, false, false] rfl rfl (any_of HT_.out (by kernel_rfl)) (fun _ _ _ h => h) (Or.inr ⟨by rfl, rfl⟩) ?_ ?_
        rotate_left
        ·simp only [Act.put, List.setIfInBounds_toArray, List.set_cons_zero, List.set_cons_succ, i64_w, i32_w]
         rfl
        refine pure_ (i := 3) (N := some 26) (v := undef) (a' := ?_) #[true, true, true, true, false, false, false, false, false, false, false, false, false, false, false, false] rfl rfl (any_of HT_.out (by kernel_rfl)) (fun _ _ _ h => h) (Or.inr ⟨by rfl, rfl⟩) ?_ ?_
        rotate_left
        ·simp only [Act.put, List.setIfInBounds_toArray, List.set_cons_zero, List.set_cons_succ, i64_w, i32_w]
         rfl
        refine pure_ (i := 4) (N := some 27) (v := undef) (a' := ?_) #[true, true, true, true, true, false, false, false, false, false, false, false, false, false, false, false] rfl rfl (any_of HT_.out (by kernel_rfl)) (fun _ _ _ h => h) (Or.inr ⟨by rfl, rfl⟩) ?_ ?_
        rotate_left
        ·simp only [Act.put, List.setIfInBounds_toArray, List.set_cons_zero, List.set_cons_succ, i64_w, i32_w]
         rfl
        refine pure_ (i := 5) (N := some 28) (v := undef) (a' := ?_) #[true, true, true, true, true, true, false, false, false, false, false, false, false, false, false, false] rfl rfl (any_of HT_.out (by kernel_rfl)) (fun _ _ _ h => h) (Or.inr ⟨by rfl, rfl⟩) ?_ ?_
        rotate_left
        ·simp only [Act.put, List.setIfInBounds_toArray, List.set_cons_zero, List.set_cons_succ, i64_w, i32_w]
         rfl
        refine pure_ (i := 6) (N := some 29) (v := undef) (a' := ?_) #[true, true, true, true, true, true, true, false, false, false, false, false, false, false, false, false] rfl rfl (any_of HT_.out (by kernel_rfl)) (fun _ _ _ h => h) (Or.inr ⟨by rfl, rfl⟩) ?_ ?_
        rotate_left
        ·simp only [Act.put, List.setIfInBounds_toArray, List.set_cons_zero, List.set_cons_succ, i64_w, i32_w]
         rfl
        refine pure_ (i := 7) (N := some 30) (v := undef) (a' := ?_) #[true, true, true, true, true, true, true, true, false, false, false, false, false, false, false, false] rfl rfl (any_of HT_.out (by kernel_rfl)) (fun _ _ _ h => h) (Or.inr ⟨by rfl, rfl⟩) ?_ ?_
        rotate_left
        ·simp only [Act.put, List.setIfInBounds_toArray, List.set_cons_zero, List.set_cons_succ, i64_w, i32_w]
         rfl
        refine pure_ (i := 8) (N := some 31) (v := undef) (a' := ?_) #[true, true, true, true, true, true, true, true, true, false, false, false, false, false, false, false] rfl rfl (any_of HT_.out (by kernel_rfl)) (fun _ _ _ h => h) (Or.inr ⟨by rfl, rfl⟩) ?_ ?_
        rotate_left
        ·simp only [Act.put, List.setIfInBounds_toArray, List.set_cons_zero, List.set_cons_succ, i64_w, i32_w]
         rfl
        refine pure_ (i := 9) (N := some 32) (v := undef) (a' := ?_) #[true, true, true, true, true, true, true, true, true, true, false, false, false, false, false, false] rfl rfl (any_of HT_.out (by kernel_rfl)) (fun _ _ _ h => h) (Or.inr ⟨by rfl, rfl⟩) ?_ ?_
        rotate_left
        ·simp only [Act.put, List.setIfInBounds_toArray, List.set_cons_zero, List.set_cons_succ, i64_w, i32_w]
         rfl
        refine pure_ (i := 10) (N := some 33) (v := undef) (a' := ?_) #[true, true, true, true, true, true, true, true, true, true, true, false, false, false, false, false] rfl rfl (any_of HT_.out (by kernel_rfl)) (fun _ _ _ h => h) (Or.inr ⟨by rfl, rfl⟩) ?_ ?_
        rotate_left
        ·simp only [Act.put, List.setIfInBounds_toArray, List.set_cons_zero, List.set_cons_succ, i64_w, i32_w]
         rfl
        refine pure_ (i := 11) (N := some 34) (v := undef) (a' := ?_) #[true, true, true, true, true, true, true, true, true, true, true, true, false, false, false, false] rfl rfl (any_of HT_.out (by kernel_rfl)) (fun _ _ _ h => h) (Or.inr ⟨by rfl, rfl⟩) ?_ ?_
        rotate_left
        ·simp only [Act.put, List.setIfInBounds_toArray, List.set_cons_zero, List.set_cons_succ, i64_w, i32_w]
         rfl
        refine pure_ (i := 12) (N := some 35) (v := undef) (a' := ?_) #[true, true, true, true, true, true, true, true, true, true, true, true, true, false, false, false] rfl rfl (any_of HT_.out (by kernel_rfl)) (fun _ _ _ h => h) (Or.inr ⟨by rfl, rfl⟩) ?_ ?_
        rotate_left
        ·simp only [Act.put, List.setIfInBounds_toArray, List.set_cons_zero, List.set_cons_succ, i64_w, i32_w]
         rfl
        refine pure_ (i := 13) (N := some 36) (v := undef) (a' := ?_) #[true, true, true, true, true, true, true, true, true, true, true, true, true, true, false, false] rfl rfl (any_of HT_.out (by kernel_rfl)) (fun _ _ _ h => h) (Or.inr ⟨by rfl, rfl⟩) ?_ ?_
        rotate_left
        ·simp only [Act.put, List.setIfInBounds_toArray, List.set_cons_zero, List.set_cons_succ, i64_w, i32_w]
         rfl
        refine pure_ (i := 14) (N := some 37) (v := ?_) (a' := ?_) #[true, true, true, true, true, true, true, true, true, true, true, true, true, true, true, false] rfl rfl (any_of HT_.out (by kernel_rfl)) (fun _ _ _ h => h) (Or.inl ⟨by rfl, ?_⟩) ?_ ?_
        rotate_left
        ·intro w'
         go_simp
         with_reducible rfl
        rotate_left
        ·simp only [Act.put, List.setIfInBounds_toArray, List.set_cons_zero, List.set_cons_succ, i64_w, i32_w]
         rfl
        refine pure_ (i := 15) (N := some 9) (v := ?_) (a' := ?_) #[true, true, true, true, true, true, true, true, true, true, true, true, true, true, true, true] rfl rfl (any_of HT_.out (by kernel_rfl)) (fun _ _ _ h => h) (Or.inl ⟨by rfl, ?_⟩) ?_ ?_
        rotate_left
        ·intro w'
         go_simp
         with_reducible rfl
        rotate_left
        ·simp only [Act.put, List.setIfInBounds_toArray, List.set_cons_zero, List.set_cons_succ, i64_w, i32_w]
         rfl
        refine done_ (done_of HT_.out (by kernel_rfl)) ?_
        try go_wp2
        go_roundg k2
        case measure => have := HK1.out; have := HK2.out; omega
        case rel => exact ⟨(true), (wrap64 (x10_2 + 1)), (by first | rfl | (simp; done) | (simp [*]; done)), (by first | rfl | (simp; done) | (simp [*]; done)), H', ⟨by have := HK1.out; have := HK2.out; omega⟩, ⟨by repeat (first | exact HB.out | apply below_alloc | apply pw_below_drewN | apply below_drew1)⟩⟩
       ·replace c6 := Bool.eq_false_iff.mpr c6
        subst c6
        rw [if_neg (show ¬ (false = true) by decide)] at H
        by_cases c8 : 0 ≤ x10_2
        ·rw [if_pos c8] at H
         have c8b0 : decide (0 ≤ x10_2) = true := decide_eq_true c8
         clear c8
         by_cases c9 : 0 ≤ (rd l2 x10_2)
         ·rw [if_pos c9] at H
          have c9b0 : decide (0 ≤ (rd l2 x10_2)) = true := decide_eq_true c9
          clear c9
          by_cases c10 : (rd l2 x10_2) < (l1.length : Int)
          ·rw [if_pos c10] at H
           have c10b0 : decide ((rd l2 x10_2) < (l1.length : Int)) = true := decide_eq_true c10
           clear c10
           by_cases c11 : 0 ≤ x8_1
           ·rw [if_pos c11] at H
            have c11b0 : decide (0 ≤ x8_1) = true := decide_eq_true c11
            clear c11
            by_cases c12 : x8_1 < (l0.length : Int)
            ·rw [if_pos c12] at H
             have c12b0 : decide (x8_1 < (l0.length : Int)) = true := decide_eq_true c12
             clear c12
             replace H := Option.bind_eq_some_iff.mp H
             obtain ⟨t206, A130, H⟩ := H
             (try dsimp only at H)
             have A13 := Aside0.mk A130
             clear A130
             have H' := Aside0.mk H
             clear H
             try go_wp2
             have n0_ := Aside0.mk (below_drew1 HB.out)
             clear HB
             have HB := n0_
             clear n0_
             have p203 : 0 ≤ (x10_2 : Int) := of_decide_eq_true (by first | (with_reducible assumption) | assumption)
             have q203 : x10_2 < (l2.length : Int) := of_decide_eq_true (by first | (with_reducible assumption) | assumption)
             obtain ⟨ad203, e203, hx203_0⟩ := Kd.at_int HR2.out x10_2 p203 q203
             have hw203_0 := hx203_0
             cases e203
             replace hx203_0 := (HB.out.cell (World.block_lt_of_cell? w _ hx203_0)).trans hx203_0
             replace p203 := eq_true p203
             replace q203 := eq_true q203
             have p204 : 0 ≤ ((rd l2 x10_2) : Int) := of_decide_eq_true (by first | (with_reducible assumption) | assumption)
             have q204 : (rd l2 x10_2) < (l1.length : Int) := of_decide_eq_true (by first | (with_reducible assumption) | assumption)
             obtain ⟨ad204, e204, hx204_0, hx204_1, hx204_2, hx204_3, hx204_4⟩ := at_T72 HR1.out (rd l2 x10_2) p204 q204
             have hw204_4 := hx204_4
             have hw204_3 := hx204_3
             have hw204_2 := hx204_2
             have hw204_1 := hx204_1
             have hw204_0 := hx204_0
             cases e204
             replace hx204_0 := (HB.out.cell (World.block_lt_of_cell? w _ hx204_0)).trans hx204_0
             replace hx204_1 := (HB.out.cell (World.block_lt_of_cell? w _ hx204_1)).trans hx204_1
             replace hx204_2 := (HB.out.cell (World.block_lt_of_cell? w _ hx204_2)).trans hx204_2
             replace hx204_3 := (HB.out.cell (World.block_lt_of_cell? w _ hx204_3)).trans hx204_3
             replace hx204_4 := (HB.out.cell (World.block_lt_of_cell? w _ hx204_4)).trans hx204_4
             replace p204 := eq_true p204
             replace q204 := eq_true q204
             have p205 : 0 ≤ (x8_1 : Int) := of_decide_eq_true (by first | (with_reducible assumption) | assumption)
             have q205 : x8_1 < (l0.length : Int) := of_decide_eq_true (by first | (with_reducible assumption) | assumption)
             obtain ⟨ad205, e205, hx205_0, hx205_1, hx205_2, hx205_3⟩ := at_T70 HR0.out x8_1 p205 q205
             have hw205_3 := hx205_3
             have hw205_2 := hx205_2
             have hw205_1 := hx205_1
             have hw205_0 := hx205_0
             cases e205
             replace hx205_0 := (HB.out.cell (World.block_lt_of_cell? w _ hx205_0)).trans hx205_0
             replace hx205_1 := (HB.out.cell (World.block_lt_of_cell? w _ hx205_1)).trans hx205_1
             replace hx205_2 := (HB.out.cell (World.block_lt_of_cell? w _ hx205_2)).trans hx205_2
             replace hx205_3 := (HB.out.cell (World.block_lt_of_cell? w _ hx205_3)).trans hx205_3
             replace p205 := eq_true p205
             replace q205 := eq_true q205
             refine start_ (n := 16) (S := fun w' => w'.cell? (ad203.add (x10_2).toNat) = some (.int .i64 (rd l2 x10_2)) ∧ w'.cell? (ad204.add (((rd l2 x10_2)).toNat * 5)) = some (.int .i64 ((rd_T72 l1 (rd l2 x10_2)).f0)) ∧ w'.cell? ⟨(ad204.add (((rd l2 x10_2)).toNat * 5)).block, (ad204.add (((rd l2 x10_2)).toNat * 5)).off + 1, none⟩ = some (.int .i64 ((rd_T72 l1 (rd l2 x10_2)).f1)) ∧ w'.cell? ⟨(ad204.add (((rd l2 x10_2)).toNat * 5)).block, (ad204.add (((rd l2 x10_2)).toNat * 5)).off + 2, none⟩ = some (.int .i64 ((rd_T72 l1 (rd l2 x10_2)).f2.f0)) ∧ w'.cell? ⟨(ad204.add (((rd l2 x10_2)).toNat * 5)).block, (ad204.add (((rd l2 x10_2)).toNat * 5)).off + 3, none⟩ = some (.int .i64 ((rd_T72 l1 (rd l2 x10_2)).f2.f1)) ∧ w'.cell? ⟨(ad204.add (((rd l2 x10_2)).toNat * 5)).block, (ad204.add (((rd l2 x10_2)).toNat * 5)).off + 4, none⟩ = some (.int .i64 ((rd_T72 l1 (rd l2 x10_2)).f3)) ∧ w'.cell? (ad205.add ((x8_1).toNat * 4)) = some (.int .i64 ((rd_T70 l0 x8_1).f0.f0)) ∧ w'.cell? ⟨(ad205.add ((x8_1).toNat * 4)).block, (ad205.add ((x8_1).toNat * 4)).off + 1, none⟩ = some (.int .i64 ((rd_T70 l0 x8_1).f0.f1)) ∧ w'.cell? ⟨(ad205.add ((x8_1).toNat * 4)).block, (ad205.add ((x8_1).toNat * 4)).off + 2, none⟩ = some (.int .i64 ((rd_T70 l0 x8_1).f1)) ∧ w'.cell? ⟨(ad205.add ((x8_1).toNat * 4)).block, (ad205.add ((x8_1).toNat * 4)).off + 3, none⟩ = some (.int .i64 ((rd_T70 l0 x8_1).f2))) (ds := []) #[false, false, false, false, false, false, false, false, false, false, false, false, false, false, false, false] (by kernel_rfl) rfl rfl ⟨((HB.out.cell (World.block_lt_of_cell? w _ hw203_0)).trans hw203_0), ((HB.out.cell (World.block_lt_of_cell? w _ hw204_0)).trans hw204_0), ((HB.out.cell (World.block_lt_of_cell? w _ hw204_1)).trans hw204_1), ((HB.out.cell (World.block_lt_of_cell? w _ hw204_2)).trans hw204_2), ((HB.out.cell (World.block_lt_of_cell? w _ hw204_3)).trans hw204_3), ((HB.out.cell (World.block_lt_of_cell? w _ hw204_4)).trans hw204_4), ((HB.out.cell (World.block_lt_of_cell? w _ hw205_0)).trans hw205_0), ((HB.out.cell (World.block_lt_of_cell? w _ hw205_1)).trans hw205_1), ((HB.out.cell (World.block_lt_of_cell? w _ hw205_2)).trans hw205_2), ((HB.out.cell (World.block_lt_of_cell? w _ hw205_3)).trans hw205_3)⟩ (fun hHeld => ?_); refine with_tabW potbankref06_room.tab9 potbankref06_room.bits9 (fun HT_ HW_ => ?_)
             generalize wr.drew = w14 at HB hx203_0 hx204_0 hx204_1 hx204_2 hx204_3 hx204_4 hx205_0 hx205_1 hx205_2 hx205_3 hHeld ⊢
             refine pure_ (i := 0) (N := some 23) (v := ?_) (a' := ?_) #[true, false, false, false, false, false, false, false, false, false, false, false, false, false, false, false] rfl rfl (any_of HT_.out (by kernel_rfl)) (fun _ _ _ h => h) (Or.inl ⟨by rfl, ?_⟩) ?_ ?_
             rotate_left
             ·intro w'
              go_simp
              with_reducible rfl
             rotate_left
             ·simp only [Act.put, List.setIfInBounds_toArray, List.set_cons_zero, List.set_cons_succ, i64_w, i32_w]
              rfl
             refine pure_ (i := 1) (N := some 24) (v := ?_) (a' := ?_) #[true, true, false, false, false, false, false, false, false, false, false, false, false, false, false, false] rfl rfl (any_of HT_.out (by kernel_rfl)) (fun _ _ _ h => h) (Or.inl ⟨by rfl, ?_⟩) ?_ ?_
             rotate_left
             ·intro w'
              go_simp
              with_reducible rfl
             rotate_left
             ·simp only [Act.put, List.setIfInBounds_toArray, List.set_cons_zero, List.set_cons_succ, i64_w, i32_w]
              rfl
             refine pure_ (i := 2) (N := some 25) (v := ?_) (a' := ?_) #[true, true, true, false, false, false, false, false, false, false, false, false, false, false, false, false] rfl rfl (any_of HT_.out (by kernel_rfl)) (fun _ _ _ h => h) (Or.inl ⟨by rfl, ?_⟩) ?_ ?_
             rotate_left
             ·intro w'
              go_simp
              with_reducible rfl
             rotate_left
             ·simp only [Act.put, List.setIfInBounds_toArray, List.set_cons_zero, List.set_cons_succ, i64_w, i32_w]
              rfl
             refine pure_ (i := 3) (N := some 26) (v := ?_) (a' := ?_) #[true, true, true, true, false, false, false, false, false, false, false, false, false, false, false, false] rfl rfl (any_of HT_.out (by kernel_rfl)) (fun _ _ _ h => h) (Or.inl ⟨by rfl, ?_⟩) ?_ ?_
             rotate_left
             ·intro w'
              go_simp
              with_reducible rfl
             rotate_left
             ·simp only [Act.put, List.setIfInBounds_toArray, List.set_cons_zero, List.set_cons_succ, i64_w, i32_w]
              rfl
             refine pure_ (i := 4) (N := some 27) (v := ?_) (a' := ?_) #[true, true, true, true, true, false, false, false, false, false, false, false, false, false, false, false] rfl rfl (any_of HT_.out (by kernel_rfl)) (fun _ _ _ h => h) (Or.inl ⟨by rfl, ?_⟩) ?_ ?_
             rotate_left
             ·intro w'
              go_simp
              with_reducible rfl
             rotate_left
             ·simp only [Act.put, List.setIfInBounds_toArray, List.set_cons_zero, List.set_cons_succ, i64_w, i32_w]
              rfl
             refine pure_ (i := 5) (N := some 28) (v := ?_) (a' := ?_) #[true, true, true, true, true, true, false, false, false, false, false, false, false, false, false, false] rfl rfl (any_of HT_.out (by kernel_rfl)) (fun _ _ _ h => h) (Or.inl ⟨by rfl, ?_⟩) ?_ ?_
             rotate_left
             ·intro w'
              go_simp
              with_reducible rfl
             rotate_left
             ·simp only [Act.put, List.setIfInBounds_toArray, List.set_cons_zero, List.set_cons_succ, i64_w, i32_w]
              rfl
             refine pure_ (i := 9) (N := some 32) (v := ?_) (a' := ?_) #[true, true, true, true, true, true, false, false, false, true, false, false, false, false, false, false] rfl rfl (any_of HT_.out (by kernel_rfl)) (fun _ _ _ h => h) (Or.inl ⟨by rfl, ?_⟩) ?_ ?_
             rotate_left
             ·intro w'
              go_simp
              with_reducible rfl
             rotate_left
             ·simp only [Act.put, List.setIfInBounds_toArray, List.set_cons_zero, List.set_cons_succ, i64_w, i32_w]
              rfl
             refine pure_ (i := 10) (N := some 33) (v := ?_) (a' := ?_) #[true, true, true, true, true, true, false, false, false, true, true, false, false, false, false, false] rfl rfl (any_of HT_.out (by kernel_rfl)) (fun _ _ _ h => h) (Or.inl ⟨by rfl, ?_⟩) ?_ ?_
             rotate_left
             ·intro w'
              go_simp
              with_reducible rfl
             rotate_left
             ·simp only [Act.put, List.setIfInBounds_toArray, List.set_cons_zero, List.set_cons_succ, i64_w, i32_w]
              rfl
             refine pure_ (i := 11) (N := some 34) (v := ?_) (a' := ?_) #[true, true, true, true, true, true, false, false, false, true, true, true, false, false, false, false] rfl rfl (any_of HT_.out (by kernel_rfl)) (fun _ _ _ h => h) (Or.inl ⟨by rfl, ?_⟩) ?_ ?_
             rotate_left
             ·intro w'
              go_simp
              with_reducible rfl
             rotate_left
             ·simp only [Act.put, List.setIfInBounds_toArray, List.set_cons_zero, List.set_cons_succ, i64_w, i32_w]
              rfl
             refine take_ (i := 6) (N := some 29) (v := ?_) (a' := ?_) #[true, true, true, true, true, true, true, false, false, true, true, true, false, false, false, false] rfl rfl (take_ofW HT_.out HW_.out (by kernel_rfl)) (fun _ _ _ h => h) (Or.inl ⟨by rfl, ?_⟩) hHeld ?_ ?_
             rotate_left
             ·rintro w' ⟨s0, s1, s2, s3, s4, s5, s6, s7, s8, s9⟩
              go_simp
              with_reducible rfl
             rotate_left
             ·simp only [Act.put, List.setIfInBounds_toArray, List.set_cons_zero, List.set_cons_succ, i64_w, i32_w]
              rfl
             refine pure_ (i := 7) (N := some 30) (v := ?_) (a' := ?_) #[true, true, true, true, true, true, true, true, false, true, true, true, false, false, false, false] rfl rfl (any_of HT_.out (by kernel_rfl)) (fun _ _ _ h => h) (Or.inl ⟨by rfl, ?_⟩) ?_ ?_
             rotate_left
             ·intro w'
              go_simp
              with_reducible rfl
             rotate_left
             ·simp only [Act.put, List.setIfInBounds_toArray, List.set_cons_zero, List.set_cons_succ, i64_w, i32_w]
              rfl
             refine take_ (i := 8) (N := some 31) (v := ?_) (a' := ?_) #[true, true, true, true, true, true, true, true, true, true, true, true, false, false, false, false] rfl rfl (take_ofW HT_.out HW_.out (by kernel_rfl)) (fun _ _ _ h => h) (Or.inl ⟨by rfl, ?_⟩) hHeld ?_ ?_
             rotate_left
             ·rintro w' ⟨s0, s1, s2, s3, s4, s5, s6, s7, s8, s9⟩
              go_simp
              with_reducible rfl
             rotate_left
             ·simp only [Act.put, List.setIfInBounds_toArray, List.set_cons_zero, List.set_cons_succ, i64_w, i32_w]
              rfl
             refine take_ (i := 12) (N := some 35) (v := ?_) (a' := ?_) #[true, true, true, true, true, true, true, true, true, true, true, true, true, false, false, false] rfl rfl (take_ofW HT_.out HW_.out (by kernel_rfl)) (fun _ _ _ h => h) (Or.inl ⟨by rfl, ?_⟩) hHeld ?_ ?_
             rotate_left
             ·rintro w' ⟨s0, s1, s2, s3, s4, s5, s6, s7, s8, s9⟩
              go_simp
              with_reducible rfl
             rotate_left
             ·simp only [Act.put, List.setIfInBounds_toArray, List.set_cons_zero, List.set_cons_succ, i64_w, i32_w]
              rfl
             refine one_ (i := 13) (N := some 36) #[true, true, true, true, true, true, true, true, true, true, true, true, true, true, false, false] rfl rfl (one_of HT_.out (by kernel_rfl)) (by decide) (fun K hK => ?_)
             refine goes_ Tryz.func80 (by kernel_rfl) rfl #[.agg #[.int .i64 ((rd_T72 l1 (rd l2 x10_2)).f0), .int .i64 ((rd_T72 l1 (rd l2 x10_2)).f1), .int .i64 ((rd_T72 l1 (rd l2 x10_2)).f2.f0), .int .i64 ((rd_T72 l1 (rd l2 x10_2)).f2.f1), .int .i64 ((rd_T72 l1 (rd l2 x10_2)).f3)], .agg #[.int .i64 ((rd_T70 l0 x8_1).f0.f0), .int .i64 ((rd_T70 l0 x8_1).f0.f1), .int .i64 ((rd_T70 l0 x8_1).f1), .int .i64 ((rd_T70 l0 x8_1).f2)]] (by rfl) rfl rfl (by (try simp only [List.map_toArray, List.map_cons, List.map_nil]); first | done | rfl | (simp only [List.length_drop, List.length_take]; rfl)) ?_
             with_reducible refine (potbankref06_suits.calls ((rd_T72 l1 (rd l2 x10_2)).f0) ((rd_T72 l1 (rd l2 x10_2)).f1) ((rd_T72 l1 (rd l2 x10_2)).f2.f0) ((rd_T72 l1 (rd l2 x10_2)).f2.f1) ((rd_T72 l1 (rd l2 x10_2)).f3) ((rd_T70 l0 x8_1).f0.f0) ((rd_T70 l0 x8_1).f0.f1) ((rd_T70 l0 x8_1).f1) ((rd_T70 l0 x8_1).f2) t206 _ A13.out).mono ?_
             rintro e w15 ⟨rfl, hb⟩
             refine ⟨_, rfl, ?_⟩
             have n0_ := Aside0.mk (below_step (by repeat (first | exact HB.out | apply below_alloc | apply pw_below_drewN | apply below_drew1)) hb)
             clear HB
             have HB := n0_
             clear n0_
             (try clear hb)
             (try clear hb2)
             (try clear hk)
             (try clear hi)
             refine hK.out _ _ ⟨((HB.out.cell (World.block_lt_of_cell? w _ hw203_0)).trans hw203_0), ((HB.out.cell (World.block_lt_of_cell? w _ hw204_0)).trans hw204_0), ((HB.out.cell (World.block_lt_of_cell? w _ hw204_1)).trans hw204_1), ((HB.out.cell (World.block_lt_of_cell? w _ hw204_2)).trans hw204_2), ((HB.out.cell (World.block_lt_of_cell? w _ hw204_3)).trans hw204_3), ((HB.out.cell (World.block_lt_of_cell? w _ hw204_4)).trans hw204_4), ((HB.out.cell (World.block_lt_of_cell? w _ hw205_0)).trans hw205_0), ((HB.out.cell (World.block_lt_of_cell? w _ hw205_1)).trans hw205_1), ((HB.out.cell (World.block_lt_of_cell? w _ hw205_2)).trans hw205_2), ((HB.out.cell (World.block_lt_of_cell? w _ hw205_3)).trans hw205_3)⟩ (fun hHeld => ?_)
             clear hK K
             refine norm_ (a' := ?_) ?_ ?_
             rotate_left
             ·show Act.put _ (some 36) _ = _
              simp only [Act.put, List.setIfInBounds_toArray, List.set_cons_zero, List.set_cons_succ, i64_w, i32_w]
              rfl
             refine pure_ (i := 14) (N := some 37) (v := ?_) (a' := ?_) #[true, true, true, true, true, true, true, true, true, true, true, true, true, true, true, false] rfl rfl (any_of HT_.out (by kernel_rfl)) (fun _ _ _ h => h) (Or.inl ⟨by rfl, ?_⟩) ?_ ?_
             rotate_left
             ·intro w'
              go_simp
              with_reducible rfl
             rotate_left
             ·simp only [Act.put, List.setIfInBounds_toArray, List.set_cons_zero, List.set_cons_succ, i64_w, i32_w]
              rfl
             refine pure_ (i := 15) (N := some 9) (v := ?_) (a' := ?_) #[true, true, true, true, true, true, true, true, true, true, true, true, true, true, true, true] rfl rfl (any_of HT_.out (by kernel_rfl)) (fun _ _ _ h => h) (Or.inl ⟨by rfl, ?_⟩) ?_ ?_
             rotate_left
             ·intro w'
              go_simp
              with_reducible rfl
             rotate_left
             ·simp only [Act.put, List.setIfInBounds_toArray, List.set_cons_zero, List.set_cons_succ, i64_w, i32_w]
              rfl
             refine done_ (done_of HT_.out (by kernel_rfl)) ?_
             try go_wp2
             go_roundg k2
             case measure => have := HK1.out; have := HK2.out; omega
             case rel => exact ⟨(t206), (wrap64 (x10_2 + 1)), (by first | rfl | (simp; done) | (simp [*]; done)), (by first | rfl | (simp; done) | (simp [*]; done)), H', ⟨by have := HK1.out; have := HK2.out; omega⟩, ⟨by repeat (first | exact HB.out | apply below_alloc | apply pw_below_drewN | apply below_drew1)⟩⟩
            ·rw [if_neg c12] at H
             exact absurd H (by simp)
           ·rw [if_neg c11] at H
            exact absurd H (by simp)
          ·rw [if_neg c10] at H
           exact absurd H (by simp)
         ·rw [if_neg c9] at H
          exact absurd H (by simp)
        ·rw [if_neg c8] at H
         exact absurd H (by simp)
      ·rw [if_neg c5] at H
       have c5b0 : decide (x10_2 < (l2.length : Int)) = false := decide_eq_false c5
       clear c5
       by_cases c16 : x9_2 = true
       ·subst c16
        rw [if_pos rfl] at H
        by_cases c17 : 0 ≤ x8_1
        ·rw [if_pos c17] at H
         have c17b0 : decide (0 ≤ x8_1) = true := decide_eq_true c17
         clear c17
         by_cases c18 : x8_1 < (l0.length : Int)
         ·rw [if_pos c18] at H
          have c18b0 : decide (x8_1 < (l0.length : Int)) = true := decide_eq_true c18
          clear c18
          have H' := Aside0.mk H
          clear H
          have p207 : 0 ≤ (x8_1 : Int) := of_decide_eq_true (by first | (with_reducible assumption) | assumption)
          have q207 : x8_1 < (l0.length : Int) := of_decide_eq_true (by first | (with_reducible assumption) | assumption)
          obtain ⟨ad207, e207, hx207_0, hx207_1, hx207_2, hx207_3⟩ := at_T70 HR0.out x8_1 p207 q207
          cases e207
          replace hx207_0 := (HB.out.cell (World.block_lt_of_cell? w _ hx207_0)).trans hx207_0
          replace hx207_1 := (HB.out.cell (World.block_lt_of_cell? w _ hx207_1)).trans hx207_1
          replace hx207_2 := (HB.out.cell (World.block_lt_of_cell? w _ hx207_2)).trans hx207_2
          replace hx207_3 := (HB.out.cell (World.block_lt_of_cell? w _ hx207_3)).trans hx207_3
          replace p207 := eq_true p207
          replace q207 := eq_true q207
          go_wp2
          go_roundg k2
          case measure => have := HK1.out; have := HK2.out; omega
          case rel => exact ⟨(wrap64 (x7_1 + ((rd_T70 l0 x8_1).f2))), (wrap64 (x8_1 + 1)), (by first | rfl | (simp; done) | (simp [*]; done)), (by first | rfl | (simp; done) | (simp [*]; done)), H', ⟨by have := HK1.out; have := HK2.out; omega⟩, ⟨by repeat (first | exact HB.out | apply below_alloc | apply pw_below_drewN | apply below_drew1)⟩⟩
         ·rw [if_neg c18] at H
          exact absurd H (by simp)
        ·rw [if_neg c17] at H
         exact absurd H (by simp)
       ·replace c16 := Bool.eq_false_iff.mpr c16
        subst c16
        rw [if_neg (show ¬ (false = true) by decide)] at H
        have H' := Aside0.mk H
        clear H
        go_wp2
        go_roundg k2
        case measure => have := HK1.out; have := HK2.out; omega
        case rel => exact ⟨(x7_1), (wrap64 (x8_1 + 1)), (by first | rfl | (simp; done) | (simp [*]; done)), (by first | rfl | (simp; done) | (simp [*]; done)), H', ⟨by have := HK1.out; have := HK2.out; omega⟩, ⟨by repeat (first | exact HB.out | apply below_alloc | apply pw_below_drewN | apply below_drew1)⟩⟩
   ·rw [if_neg c4] at H
    have c4b0 : decide (x8_1 < (l0.length : Int)) = false := decide_eq_false c4
    clear c4
    obtain rfl := Option.some.inj H
    go_wp2
    go_ret
    exact ⟨by first | rfl | (simp [errW_none, errW_some] <;> rfl) | (simp [*, errW_none, errW_some] <;> rfl), by repeat (first | exact HB.out | apply below_alloc | apply pw_below_drewN | apply below_drew1)⟩
def potbankref06_need.l0 : Nat → List (S72) → List Int → Int → Int → Option (Int)
 | 0, _, _, _, _ => none
 | k + 1, x0, x1, x5, x6 => if x6 < (x1.length : Int) then (if 0 ≤ x6 then (if 0 ≤ (rd x1 x6) then (if (rd x1 x6) < (x0.length : Int) then (potbankref06_need.l0 k x0 x1 (wrap64 (x5 + ((rd_T72 x0 (rd x1 x6)).f1))) (wrap64 (x6 + 1))) else (none)) else (none)) else (none)) else (some x5)
def potbankref06_need.f (k : Nat) (l0 : List (S72)) (l1 : List Int) : Option (Int) := potbankref06_need.l0 k l0 l1 0 0
set_option maxHeartbeats 8000000 in
set_option maxRecDepth 100000 in
theorem potbankref06_need.calls (k : Nat) (A0 : Option Addr) (c0 : Nat) (l0 : List (S72)) (A1 : Option Addr) (c1 : Nat) (l1 : List Int) (r : Int) (w : World) (hr0 : Kd.C k72 w A0 l0.length l0) (hc0 : l0.length ≤ c0) (hr1 : Kd.C (Kd.int .i64) w A1 l1.length l1) (hc1 : l1.length ≤ c1) (h : potbankref06_need.f k l0 l1 = some r) :
  Calls Tryz.prog 72 #[.slice A0 l0.length c0, .slice A1 l1.length c1] w fun e w' => e = .returned (.int .i64 r) ∧ Drawn0 w w' := by
 have HR0 := Aside0.mk hr0
 have HC0 := Aside0.mk hc0
 clear hr0 hc0
 have HR1 := Aside0.mk hr1
 have HC1 := Aside0.mk hc1
 clear hr1 hc1
 have H : (potbankref06_need.l0 k l0 l1 0 0) = some r := h
 clear h
 have H' := Aside0.mk H
 clear H
 go_enter Tryz.func72, Tryz.ntmps72
 go_wp2
 go_loopg [5, 6] k (fun kq v5 v6 w' => ∃ (x5_1 : Int) (x6_1 : Int), v5 = .int .i64 x5_1 ∧ v6 = .int .i64 x6_1 ∧ Aside0 (potbankref06_need.l0 kq l0 l1 x5_1 x6_1 = some r) ∧ Aside0 (kq ≤ k) ∧ Drawn0 w w')
 case atStart => exact ⟨(0), (0), (by first | rfl | (simp; done) | (simp [*]; done)), (by first | rfl | (simp; done) | (simp [*]; done)), H', ⟨Nat.le_refl _⟩, by repeat (first | exact Drawn0.refl _ | apply Drawn0.step)⟩
 case round =>
  clear H'
  try clear c1
  try clear p2
  obtain ⟨x5_1, x6_1, rfl, rfl, HA, HK1, ⟨m1, rfl⟩⟩ := hrel
  cases gk with
  | zero => exact absurd HA.out (by simp [potbankref06_need.l0])
  | succ k1 =>
   have H := HA.out
   clear HA
   simp only [potbankref06_need.l0] at H
   by_cases c3 : x6_1 < (l1.length : Int)
   ·rw [if_pos c3] at H
    have c3b0 : decide (x6_1 < (l1.length : Int)) = true := decide_eq_true c3
    clear c3
    by_cases c4 : 0 ≤ x6_1
    ·rw [if_pos c4] at H
     have c4b0 : decide (0 ≤ x6_1) = true := decide_eq_true c4
     clear c4
     by_cases c5 : 0 ≤ (rd l1 x6_1)
     ·rw [if_pos c5] at H
      have c5b0 : decide (0 ≤ (rd l1 x6_1)) = true := decide_eq_true c5
      clear c5
      by_cases c6 : (rd l1 x6_1) < (l0.length : Int)
      ·rw [if_pos c6] at H
       have c6b0 : decide ((rd l1 x6_1) < (l0.length : Int)) = true := decide_eq_true c6
       clear c6
       have H' := Aside0.mk H
       clear H
       have p208 : 0 ≤ (x6_1 : Int) := of_decide_eq_true (by first | (with_reducible assumption) | assumption)
       have q208 : x6_1 < (l1.length : Int) := of_decide_eq_true (by first | (with_reducible assumption) | assumption)
       obtain ⟨ad208, e208, hx208_0⟩ := Kd.at_int HR1.out x6_1 p208 q208
       cases e208
       replace p208 := eq_true p208
       replace q208 := eq_true q208
       have p209 : 0 ≤ ((rd l1 x6_1) : Int) := of_decide_eq_true (by first | (with_reducible assumption) | assumption)
       have q209 : (rd l1 x6_1) < (l0.length : Int) := of_decide_eq_true (by first | (with_reducible assumption) | assumption)
       obtain ⟨ad209, e209, hx209_0, hx209_1, hx209_2, hx209_3, hx209_4⟩ := at_T72 HR0.out (rd l1 x6_1) p209 q209
       cases e209
       replace p209 := eq_true p209
       replace q209 := eq_true q209
       go_wp2
       go_roundg k1
       case measure => have := HK1.out; omega
       case rel => exact ⟨(wrap64 (x5_1 + ((rd_T72 l0 (rd l1 x6_1)).f1))), (wrap64 (x6_1 + 1)), (by first | rfl | (simp; done) | (simp [*]; done)), (by first | rfl | (simp; done) | (simp [*]; done)), H', ⟨by have := HK1.out; omega⟩, by repeat (first | exact Drawn0.refl _ | apply Drawn0.step)⟩
      ·rw [if_neg c6] at H
       exact absurd H (by simp)
     ·rw [if_neg c5] at H
      exact absurd H (by simp)
    ·rw [if_neg c4] at H
     exact absurd H (by simp)
   ·rw [if_neg c3] at H
    have c3b0 : decide (x6_1 < (l1.length : Int)) = false := decide_eq_false c3
    clear c3
    obtain rfl := Option.some.inj H
    go_wp2
    go_ret
    exact ⟨by first | rfl | (simp; done) | (simp [*]; done), by repeat (first | exact Drawn0.refl _ | apply Drawn0.step)⟩
def potbankref06_crowded.f (k : Nat) (l0 : List (S70)) (l1 : List (S72)) (l2 : List Int) : Option (Bool) := (potbankref06_need.f k l1 l2).bind fun t210 => ((potbankref06_room.f k l0 l1 l2).bind fun t211 => (some (decide (t210 > t211))))
set_option maxHeartbeats 8000000 in
set_option maxRecDepth 100000 in
theorem potbankref06_crowded.calls (k : Nat) (A0 : Option Addr) (c0 : Nat) (l0 : List (S70)) (A1 : Option Addr) (c1 : Nat) (l1 : List (S72)) (A2 : Option Addr) (c2 : Nat) (l2 : List Int) (r : Bool) (w : World) (hr0 : Kd.C k70 w A0 l0.length l0) (hc0 : l0.length ≤ c0) (hr1 : Kd.C k72 w A1 l1.length l1) (hc1 : l1.length ≤ c1) (hr2 : Kd.C (Kd.int .i64) w A2 l2.length l2) (hc2 : l2.length ≤ c2) (h : potbankref06_crowded.f k l0 l1 l2 = some r) :
  Calls Tryz.prog 60 #[.slice A0 l0.length c0, .slice A1 l1.length c1, .slice A2 l2.length c2] w fun e w' => e = .returned (.bool r) ∧ Below w.heap.size w w' := by
 have HR0 := Aside0.mk hr0
 have HC0 := Aside0.mk hc0
 clear hr0 hc0
 have HR1 := Aside0.mk hr1
 have HC1 := Aside0.mk hc1
 clear hr1 hc1
 have HR2 := Aside0.mk hr2
 have HC2 := Aside0.mk hc2
 clear hr2 hc2
 have HB := Aside0.mk (Below.refl w.heap.size w)
 have H : ((potbankref06_need.f k l1 l2).bind fun t210 => ((potbankref06_room.f k l0 l1 l2).bind fun t211 => (some (decide (t210 > t211))))) = some r := h
 clear h
 replace H := Option.bind_eq_some_iff.mp H
 obtain ⟨t210, A40, H⟩ := H
 (try dsimp only at H)
 have A4 := Aside0.mk A40
 clear A40
 replace H := Option.bind_eq_some_iff.mp H
 obtain ⟨t211, A50, H⟩ := H
 replace H : (some (decide (t210 > t211))) = some r := H
 have A5 := Aside0.mk A50
 clear A50
 obtain rfl := Option.some.inj H
 go_enter Tryz.func60, Tryz.ntmps60
 go_wp2_with (first | ((with_reducible refine gate_callee (f := 72) rfl ?_); refine goesL_ (some 9) rfl rfl Tryz.func72 (by kernel_rfl) rfl #[.slice A1 l1.length c1, .slice A2 l2.length c2] rfl (by (try simp only [List.map_toArray, List.map_cons, List.map_nil]); first | done | rfl | (simp only [List.length_drop, List.length_take]; rfl)) ?_; (with_reducible refine (potbankref06_need.calls k _ _ l1 _ _ l2 t210 _ ?side1 ?side2 ?side3 ?side4 A4.out).mono ?_); (case side1 => repeat (first | exact HR1.out | (with_reducible refine Kd.C_alloc ?_ _) | (with_reducible refine Kd.C_drewN ?_ _) | (with_reducible refine Kd.C_drew ?_))); (case side2 => exact HC1.out); (case side3 => repeat (first | exact HR2.out | (with_reducible refine Kd.C_alloc ?_ _) | (with_reducible refine Kd.C_drewN ?_ _) | (with_reducible refine Kd.C_drew ?_))); (case side4 => exact HC2.out); rintro e w' ⟨rfl, ⟨nd, rfl⟩⟩; refine ⟨_, rfl, ?_⟩) | ((with_reducible refine gate_callee (f := 69) rfl ?_); refine goesL_ (some 13) rfl rfl Tryz.func69 (by kernel_rfl) rfl #[.slice A0 l0.length c0, .slice A1 l1.length c1, .slice A2 l2.length c2] rfl (by (try simp only [List.map_toArray, List.map_cons, List.map_nil]); first | done | rfl | (simp only [List.length_drop, List.length_take]; rfl)) ?_; (with_reducible refine (potbankref06_room.calls k _ _ l0 _ _ l1 _ _ l2 t211 _ ?side1 ?side2 ?side3 ?side4 ?side5 ?side6 A5.out).mono ?_); (case side1 => repeat (first | exact HR0.out | (with_reducible refine Kd.C_alloc ?_ _) | (with_reducible refine Kd.C_drewN ?_ _) | (with_reducible refine Kd.C_drew ?_))); (case side2 => exact HC0.out); (case side3 => repeat (first | exact HR1.out | (with_reducible refine Kd.C_alloc ?_ _) | (with_reducible refine Kd.C_drewN ?_ _) | (with_reducible refine Kd.C_drew ?_))); (case side4 => exact HC1.out); (case side5 => repeat (first | exact HR2.out | (with_reducible refine Kd.C_alloc ?_ _) | (with_reducible refine Kd.C_drewN ?_ _) | (with_reducible refine Kd.C_drew ?_))); (case side6 => exact HC2.out); rintro e w6 ⟨rfl, hb⟩; refine ⟨_, rfl, ?_⟩; have n0_ := Aside0.mk (below_step (by repeat (first | exact HB.out | apply below_alloc | apply pw_below_drewN | apply below_drew1)) hb); clear HB; have HB := n0_; clear n0_; (try clear hb); (try clear hb2); (try clear hk); (try clear hi)))
 go_ret
 exact ⟨by first | rfl | (simp [errW_none, errW_some] <;> rfl) | (simp [*, errW_none, errW_some] <;> rfl), by repeat (first | exact HB.out | apply below_alloc | apply pw_below_drewN | apply below_drew1)⟩
mutual
def potbankref06_table.l0 : Nat → List (S70) → List (S72) → List Bool → Int → Option (List Bool)
 | 0, _, _, _, _ => none
 | k + 1, x0, x1, x5, x6 => if x6 < (x5.length : Int) then ((potbankref06_indices.f k (x1.length : Int)).bind fun t215 => ((potbankref06_Chosen.f k x6 t215).bind fun t218 => ((potbankref06_crowded.f k x0 x1 t218).bind fun t221 => (potbankref06_table.l1 k x0 x1 x5 x6 (!t221) 0)))) else (some x5)
def potbankref06_table.l1 : Nat → List (S70) → List (S72) → List Bool → Int → Bool → Int → Option (List Bool)
 | 0, _, _, _, _, _, _ => none
 | k + 1, x0, x1, x5, x6, x7, x8 => if x8 < (x1.length : Int) then (if 0 ≤ x8 then (if (Go.bits .and .i64 (shr .i64 x6 x8) 1) = 1 then (if x7 = true then (if 0 ≤ (wrap64 (x6 - (shl .i64 1 x8))) then (if (wrap64 (x6 - (shl .i64 1 x8))) < (x5.length : Int) then (potbankref06_table.l1 k x0 x1 x5 x6 (rdOf false x5 (wrap64 (x6 - (shl .i64 1 x8)))) (wrap64 (x8 + 1))) else (none)) else (none)) else (potbankref06_table.l1 k x0 x1 x5 x6 false (wrap64 (x8 + 1)))) else (potbankref06_table.l1 k x0 x1 x5 x6 x7 (wrap64 (x8 + 1)))) else (none)) else (if 0 ≤ x6 then (if x6 < (x5.length : Int) then (potbankref06_table.l0 k x0 x1 (x5.set (x6 : Int).toNat x7) (wrap64 (x6 + 1))) else (none)) else (none))
end
def potbankref06_table.f (k : Nat) (l0 : List (S70)) (l1 : List (S72)) : Option (List Bool) := if 0 ≤ (shl .i64 1 (l1.length : Int)) then (if (shl .i64 1 (l1.length : Int) : Int).toNat ≤ 281474976710656 then (potbankref06_table.l0 k l0 l1 (List.replicate (shl .i64 1 (l1.length : Int) : Int).toNat false) 0) else (none)) else (none)
set_option maxHeartbeats 8000000 in
set_option maxRecDepth 100000 in
theorem potbankref06_table.calls (k : Nat) (A0 : Option Addr) (c0 : Nat) (l0 : List (S70)) (A1 : Option Addr) (c1 : Nat) (l1 : List (S72)) (r : List Bool) (w : World) (hr0 : Kd.C k70 w A0 l0.length l0) (hc0 : l0.length ≤ c0) (hr1 : Kd.C k72 w A1 l1.length l1) (hc1 : l1.length ≤ c1) (h : potbankref06_table.f k l0 l1 = some r) :
  Calls Tryz.prog 96 #[.slice A0 l0.length c0, .slice A1 l1.length c1] w fun e w' => ∃ v0_ : Value, e = .returned (v0_) ∧ Kd.R Kd.bool 4 w' w.heap.size (fun _ => True) v0_ r ∧ Below w.heap.size w w' := by
 have HR0 := Aside0.mk hr0
 have HC0 := Aside0.mk hc0
 clear hr0 hc0
 have HR1 := Aside0.mk hr1
 have HC1 := Aside0.mk hc1
 clear hr1 hc1
 have HB := Aside0.mk (Below.refl w.heap.size w)
 have H : (if 0 ≤ (shl .i64 1 (l1.length : Int)) then (if (shl .i64 1 (l1.length : Int) : Int).toNat ≤ 281474976710656 then (potbankref06_table.l0 k l0 l1 (List.replicate (shl .i64 1 (l1.length : Int) : Int).toNat false) 0) else (none)) else (none)) = some r := h
 clear h
 obtain ⟨ji3, hji3⟩ : ∃ j_ : Int, (shl .i64 1 (l1.length : Int)) = j_ := ⟨_, rfl⟩
 replace H : (if 0 ≤ (ji3) then (if (ji3 : Int).toNat ≤ 281474976710656 then (potbankref06_table.l0 k l0 l1 (List.replicate (ji3 : Int).toNat false) 0) else (none)) else (none)) = some r := by first | (rw [hji3] at H; exact H) | (simp only [hji3] at H ⊢; exact H)
 have hji3_ : (IntKind.i64.wrap (1 * 2 ^ min (l1.length : Int).toNat 64)) = ji3 := hji3
 have hji3z : (l1.length : Int) ≤ 64 → (IntKind.i64.wrap (1 * 2 ^ (l1.length : Int).toNat)) = ji3 := shl_small hji3
 have hji3p : (IntKind.i64.wrap (1 * 2 ^ min l1.length 64)) = ji3 := hji3_
 have hji3q : (l1.length : Int) ≤ 64 → (IntKind.i64.wrap (1 * 2 ^ l1.length)) = ji3 := hji3z
 have hji3r : (IntKind.i64.wrap (2 ^ min l1.length 64)) = ji3 := by have h_ := hji3p; rw [Int.one_mul] at h_; exact h_
 have hji3s : (l1.length : Int) ≤ 64 → (IntKind.i64.wrap (2 ^ l1.length)) = ji3 := fun hle_ => by have h_ := hji3q hle_; rw [Int.one_mul] at h_; exact h_
 have hji3u : (IntKind.i64.wrap (2 ^ min (l1.length : Int).toNat 64)) = ji3 := by have h_ := hji3_; rw [Int.one_mul] at h_; exact h_
 have hji3v : (l1.length : Int) ≤ 64 → (IntKind.i64.wrap (2 ^ (l1.length : Int).toNat)) = ji3 := fun hle_ => by have h_ := hji3z hle_; rw [Int.one_mul] at h_; exact h_
 have hji3y : (wrap64 (1 * 2 ^ min (l1.length : Int).toNat 64)) = ji3 := (i64_w _).symm.trans hji3_
 have hji3x : (l1.length : Int) ≤ 64 → (wrap64 (1 * 2 ^ (l1.length : Int).toNat)) = ji3 := fun h_ => (i64_w _).symm.trans (hji3z h_)
 by_cases c4 : 0 ≤ (ji3)
 ·rw [if_pos c4] at H
  have c4b0 := eq_true c4
  have c4b1 : decide (0 ≤ (ji3)) = true := decide_eq_true c4
  clear c4
  by_cases c5 : (ji3 : Int).toNat ≤ 281474976710656
  ·rw [if_pos c5] at H
   have c5b0 := eq_true c5
   have c5b1 : decide ((ji3 : Int).toNat ≤ 281474976710656) = true := decide_eq_true c5
   clear c5
   obtain ⟨y212, hy212⟩ : ∃ y_ : List Bool, y_ = (List.replicate (ji3 : Int).toNat false) := ⟨_, rfl⟩
   replace H : (potbankref06_table.l0 k l0 l1 y212 0) = some r := by first | (rw [hy212]; with_reducible exact H) | (have H2_ := (Option.bind_some _ _).symm.trans H; rw [hy212]; with_reducible exact H2_) | (have H2_ := (Option.bind_some _ _).symm.trans H; with_reducible exact H2_) | with_reducible exact H | (rw [hy212]; exact H) | exact H
   have Ny212 := Aside0.mk hy212
   clear hy212
   have H' := Aside0.mk H
   clear H
   go_enter Tryz.func96, Tryz.ntmps96
   go_wp2_with (first | ((with_reducible refine gate_dst (N := 12) rfl ?_); refine Kd.R_make Kd.bool _ 4 rfl (N := 12) rfl 100 _ _ rfl ji3 rfl rfl Tryz.underlying100 (.bool false) 1 info4 rfl (by decide) (by omega) false (ok := fun _ => True) (okp := fun _ => True) rfl (fun _ hk => hk) trivial (of_decide_eq_true (by first | (with_reducible assumption) | assumption)) (Nat.le_trans (Nat.mul_le_mul_right _ (of_decide_eq_true (by first | (with_reducible assumption) | assumption) : ji3.toNat ≤ 281474976710656)) (by omega)) (Below.refl _ _) (Nat.le_refl _) ?_; intro v213 w6 ho7 hb hg_ hnew_; clear hg_ hnew_; (first | rw [← Ny212.out] at ho7 | (simp only [Int.reduceToNat] at ho7; rw [← Ny212.out] at ho7)); have n0_ := Aside0.mk (Kd.R_lower ho7 (below_size (by repeat (first | exact HB.out | apply below_alloc | apply pw_below_drewN | apply below_drew1)))); have n1_ := Aside0.mk (below_step (by repeat (first | exact HB.out | apply below_alloc | apply pw_below_drewN | apply below_drew1)) hb); clear HB; have HO214 := n0_; have HB := n1_; clear n0_ n1_; clear hb ho7))
   go_loopg [6] k (fun kq v6 w' => ∃ (x5_1 : List Bool) (x6_1 : Int), v6 = .int .i64 x6_1 ∧ Aside0 (potbankref06_table.l0 kq l0 l1 x5_1 x6_1 = some r) ∧ Aside0 (kq ≤ k) ∧ Aside0 (Kd.R Kd.bool 4 w' w.heap.size (fun _ => True) v213 x5_1) ∧ Aside0 (Below w.heap.size w w'))
   case atStart => exact ⟨(y212), (0), (by first | rfl | (simp; done) | (simp [*]; done)), H', ⟨Nat.le_refl _⟩, ⟨by (with_reducible repeat (first | apply Kd.R_alloc | apply Kd.R_drewN | apply Kd.R_drew)); exact HO214.out⟩, ⟨by repeat (first | exact HB.out | apply below_alloc | apply pw_below_drewN | apply below_drew1)⟩⟩
   case round =>
    clear H'
    try clear c1
    try clear p2
    try clear c4
    try clear c4b0
    try clear c4b1
    try clear c5
    try clear c5b0
    try clear c5b1
    try clear p6
    obtain ⟨x5_1, x6_1, rfl, HA, HK1, HO_5, HB⟩ := hrel
    cases gk with
    | zero => exact absurd HA.out (by simp [potbankref06_table.l0])
    | succ k1 =>
     have H := HA.out
     clear HA
     simp only [potbankref06_table.l0] at H
     by_cases c8 : x6_1 < (x5_1.length : Int)
     ·rw [if_pos c8] at H
      have c8b0 : decide (x6_1 < (x5_1.length : Int)) = true := decide_eq_true c8
      clear c8
      replace H := Option.bind_eq_some_iff.mp H
      obtain ⟨t215, A90, H⟩ := H
      (try dsimp only at H)
      have A9 := Aside0.mk A90
      clear A90
      replace H := Option.bind_eq_some_iff.mp H
      obtain ⟨t218, A100, H⟩ := H
      (try dsimp only at H)
      have A10 := Aside0.mk A100
      clear A100
      replace H := Option.bind_eq_some_iff.mp H
      obtain ⟨t221, A110, H⟩ := H
      (try dsimp only at H)
      have A11 := Aside0.mk A110
      clear A110
      have H' := Aside0.mk H
      clear H
      obtain ⟨Ao12, co12, eo12⟩ := Kd.R_slice HO_5.out
      subst eo12
      go_wp2_with (first | ((with_reducible refine gate_callee (f := 59) rfl ?_); refine goesL_ (some 24) rfl rfl Tryz.func59 (by kernel_rfl) rfl #[.int .i64 (l1.length : Int)] rfl (by (try simp only [List.map_toArray, List.map_cons, List.map_nil]); first | done | rfl | (simp only [List.length_drop, List.length_take]; rfl)) ?_; (with_reducible refine (potbankref06_indices.calls k1 (l1.length : Int) t215 _ A9.out).mono ?_); rintro e w13 ⟨v216, rfl, ho0, hb⟩; refine ⟨_, rfl, ?_⟩; have n0_ := Aside0.mk (Kd.R_below (by (with_reducible repeat (first | apply Kd.R_alloc | apply Kd.R_drewN | apply Kd.R_drew)); exact HO_5.out) hb); have n1_ := Aside0.mk (Kd.R_lower ho0 (below_size (by repeat (first | exact HB.out | apply below_alloc | apply pw_below_drewN | apply below_drew1)))); have n2_ := Aside0.mk (below_step (by repeat (first | exact HB.out | apply below_alloc | apply pw_below_drewN | apply below_drew1)) hb); clear HO_5; clear HB; have HO_5 := n0_; have HO217 := n1_; have HB := n2_; clear n0_ n1_ n2_; (try clear hb); (try clear hb2); (try clear hk); (try clear hi); (try clear ho0); obtain ⟨Ao14, co14, eo14⟩ := Kd.R_slice HO217.out; subst eo14) | ((with_reducible refine gate_callee (f := 58) rfl ?_); refine goesL_ (some 25) rfl rfl Tryz.func58 (by kernel_rfl) rfl #[.int .i64 x6_1, .slice Ao14 t215.length co14] rfl (by (try simp only [List.map_toArray, List.map_cons, List.map_nil]); first | done | rfl | (simp only [List.length_drop, List.length_take]; rfl)) ?_; (with_reducible refine (potbankref06_Chosen.calls k1 x6_1 _ _ t215 t218 _ ?side1 ?side2 A10.out).mono ?_); (case side1 => repeat (first | exact (Kd.R_reads' HO217.out).2.2 | (with_reducible refine Kd.C_alloc ?_ _) | (with_reducible refine Kd.C_drewN ?_ _) | (with_reducible refine Kd.C_drew ?_))); (case side2 => exact (Kd.R_reads' HO217.out).2.1); rintro e w15 ⟨v219, rfl, ho0, hb⟩; refine ⟨_, rfl, ?_⟩; have n0_ := Aside0.mk (Kd.R_below (by (with_reducible repeat (first | apply Kd.R_alloc | apply Kd.R_drewN | apply Kd.R_drew)); exact HO_5.out) hb); have n1_ := Aside0.mk (Kd.R_elder' (by (with_reducible repeat (first | apply Kd.R_alloc | apply Kd.R_drewN | apply Kd.R_drew)); exact HO217.out) (Kd.R_base ho0) hb); have n2_ := Aside0.mk (Kd.R_lower (Kd.R_new' ho0 (Kd.R_lt (by (with_reducible repeat (first | apply Kd.R_alloc | apply Kd.R_drewN | apply Kd.R_drew)); exact HO217.out))) (below_size (by repeat (first | exact HB.out | apply below_alloc | apply pw_below_drewN | apply below_drew1)))); have n3_ := Aside0.mk (below_step (by repeat (first | exact HB.out | apply below_alloc | apply pw_below_drewN | apply below_drew1)) hb); clear HO_5; clear HO217; clear HB; have HO_5 := n0_; have HO217 := n1_; have HO220 := n2_; have HB := n3_; clear n0_ n1_ n2_ n3_; (try clear hb); (try clear hb2); (try clear hk); (try clear hi); (try clear ho0); obtain ⟨Ao16, co16, eo16⟩ := Kd.R_slice HO220.out; subst eo16) | ((with_reducible refine gate_callee (f := 60) rfl ?_); refine goesL_ (some 26) rfl rfl Tryz.func60 (by kernel_rfl) rfl #[.slice A0 l0.length c0, .slice A1 l1.length c1, .slice Ao16 t218.length co16] rfl (by (try simp only [List.map_toArray, List.map_cons, List.map_nil]); first | done | rfl | (simp only [List.length_drop, List.length_take]; rfl)) ?_; (with_reducible refine (potbankref06_crowded.calls k1 _ _ l0 _ _ l1 _ _ t218 t221 _ ?side1 ?side2 ?side3 ?side4 ?side5 ?side6 A11.out).mono ?_); (case side1 => repeat (first | exact (Kd.C_below HR0.out HB.out) | (with_reducible refine Kd.C_alloc ?_ _) | (with_reducible refine Kd.C_drewN ?_ _) | (with_reducible refine Kd.C_drew ?_))); (case side2 => exact HC0.out); (case side3 => repeat (first | exact (Kd.C_below HR1.out HB.out) | (with_reducible refine Kd.C_alloc ?_ _) | (with_reducible refine Kd.C_drewN ?_ _) | (with_reducible refine Kd.C_drew ?_))); (case side4 => exact HC1.out); (case side5 => repeat (first | exact (Kd.R_reads' HO220.out).2.2 | (with_reducible refine Kd.C_alloc ?_ _) | (with_reducible refine Kd.C_drewN ?_ _) | (with_reducible refine Kd.C_drew ?_))); (case side6 => exact (Kd.R_reads' HO220.out).2.1); rintro e w17 ⟨rfl, hb⟩; refine ⟨_, rfl, ?_⟩; have n0_ := Aside0.mk (Kd.R_below (by (with_reducible repeat (first | apply Kd.R_alloc | apply Kd.R_drewN | apply Kd.R_drew)); exact HO_5.out) hb); have n1_ := Aside0.mk (Kd.R_below (by (with_reducible repeat (first | apply Kd.R_alloc | apply Kd.R_drewN | apply Kd.R_drew)); exact HO217.out) hb); have n2_ := Aside0.mk (Kd.R_below (by (with_reducible repeat (first | apply Kd.R_alloc | apply Kd.R_drewN | apply Kd.R_drew)); exact HO220.out) hb); have n3_ := Aside0.mk (below_step (by repeat (first | exact HB.out | apply below_alloc | apply pw_below_drewN | apply below_drew1)) hb); clear HO_5; clear HO217; clear HO220; clear HB; have HO_5 := n0_; have HO217 := n1_; have HO220 := n2_; have HB := n3_; clear n0_ n1_ n2_ n3_; (try clear hb); (try clear hb2); (try clear hk); (try clear hi)))
      go_loopg [7, 8] k1 (fun kq v7 v8 w' => ∃ (x7_2 : Bool) (x8_2 : Int), v7 = .bool x7_2 ∧ v8 = .int .i64 x8_2 ∧ Aside0 (potbankref06_table.l1 kq l0 l1 x5_1 x6_1 x7_2 x8_2 = some r) ∧ Aside0 (kq ≤ k1) ∧ Aside0 (Kd.R Kd.bool 4 w' w.heap.size (fun _ => True) (.slice Ao12 x5_1.length co12) x5_1) ∧ Aside0 (Below w.heap.size w w'))
      case atStart => exact ⟨(!t221), (0), (by first | rfl | (simp; done) | (simp [*]; done)), (by first | rfl | (simp; done) | (simp [*]; done)), H', ⟨Nat.le_refl _⟩, ⟨by (with_reducible repeat (first | apply Kd.R_alloc | apply Kd.R_drewN | apply Kd.R_drew)); exact HO_5.out⟩, ⟨by repeat (first | exact HB.out | apply below_alloc | apply pw_below_drewN | apply below_drew1)⟩⟩
      case round =>
       clear H'
       try clear c1
       try clear p2
       try clear c4
       try clear c4b0
       try clear c4b1
       try clear c5
       try clear c5b0
       try clear c5b1
       try clear c6
       try clear p6
       try clear c8
       try clear c8b0
       try clear c9
       try clear p2
       try clear p6
       obtain ⟨x7_2, x8_2, rfl, rfl, HA, HK2, HO_5, HB⟩ := hrel
       cases gk with
       | zero => exact absurd HA.out (by simp [potbankref06_table.l1])
       | succ k2 =>
        have H := HA.out
        clear HA
        simp only [potbankref06_table.l1] at H
        by_cases c18 : x8_2 < (l1.length : Int)
        ·rw [if_pos c18] at H
         have c18b0 : decide (x8_2 < (l1.length : Int)) = true := decide_eq_true c18
         clear c18
         by_cases c19 : 0 ≤ x8_2
         ·rw [if_pos c19] at H
          have c19b0 := eq_true c19
          have c19b1 : decide (0 ≤ x8_2) = true := decide_eq_true c19
          clear c19
          obtain ⟨ji20, hji20⟩ : ∃ j_ : Int, (shr .i64 x6_1 x8_2) = j_ := ⟨_, rfl⟩
          replace H : (if (Go.bits .and .i64 (ji20) 1) = 1 then (if x7_2 = true then (if 0 ≤ (wrap64 (x6_1 - (shl .i64 1 x8_2))) then (if (wrap64 (x6_1 - (shl .i64 1 x8_2))) < (x5_1.length : Int) then (potbankref06_table.l1 k2 l0 l1 x5_1 x6_1 (rdOf false x5_1 (wrap64 (x6_1 - (shl .i64 1 x8_2)))) (wrap64 (x8_2 + 1))) else (none)) else (none)) else (potbankref06_table.l1 k2 l0 l1 x5_1 x6_1 false (wrap64 (x8_2 + 1)))) else (potbankref06_table.l1 k2 l0 l1 x5_1 x6_1 x7_2 (wrap64 (x8_2 + 1)))) = some r := by first | (rw [hji20] at H; exact H) | (simp only [hji20] at H ⊢; exact H)
          have hji20_ : (x6_1 / 2 ^ min x8_2.toNat 64) = ji20 := hji20
          have hji20z : x8_2 ≤ 64 → (x6_1 / 2 ^ x8_2.toNat) = ji20 := shr_small hji20
          by_cases c21 : (Go.bits .and .i64 (ji20) 1) = 1
          ·rw [if_pos c21] at H
           have c21b0 : ((Go.bits .and .i64 (ji20) 1) == 1) = true := beq_iff_eq.mpr c21
           have c21b1 : ((Go.bits .and .i64 (ji20) 1) != 1) = false := bne_eq_false_iff_eq.mpr c21
           clear c21
           by_cases c22 : x7_2 = true
           ·subst c22
            rw [if_pos rfl] at H
            have c23b0 := eq_true (of_decide_eq_true (by first | (with_reducible assumption) | assumption) : 0 ≤ x8_2)
            obtain ⟨ji24, hji24⟩ : ∃ j_ : Int, (shl .i64 1 x8_2) = j_ := ⟨_, rfl⟩
            replace H : (if 0 ≤ (wrap64 (x6_1 - (ji24))) then (if (wrap64 (x6_1 - (ji24))) < (x5_1.length : Int) then (potbankref06_table.l1 k2 l0 l1 x5_1 x6_1 (rdOf false x5_1 (wrap64 (x6_1 - (ji24)))) (wrap64 (x8_2 + 1))) else (none)) else (none)) = some r := by first | (rw [hji24] at H; exact H) | (simp only [hji24] at H ⊢; exact H)
            have hji24_ : (IntKind.i64.wrap (1 * 2 ^ min x8_2.toNat 64)) = ji24 := hji24
            have hji24z : x8_2 ≤ 64 → (IntKind.i64.wrap (1 * 2 ^ x8_2.toNat)) = ji24 := shl_small hji24
            have hji24u : (IntKind.i64.wrap (2 ^ min x8_2.toNat 64)) = ji24 := by have h_ := hji24_; rw [Int.one_mul] at h_; exact h_
            have hji24v : x8_2 ≤ 64 → (IntKind.i64.wrap (2 ^ x8_2.toNat)) = ji24 := fun hle_ => by have h_ := hji24z hle_; rw [Int.one_mul] at h_; exact h_
            have hji24y : (wrap64 (1 * 2 ^ min x8_2.toNat 64)) = ji24 := (i64_w _).symm.trans hji24_
            have hji24x : x8_2 ≤ 64 → (wrap64 (1 * 2 ^ x8_2.toNat)) = ji24 := fun h_ => (i64_w _).symm.trans (hji24z h_)
            obtain ⟨ji25, hji25⟩ : ∃ j_ : Int, (wrap64 (x6_1 - (ji24))) = j_ := ⟨_, rfl⟩
            replace H : (if 0 ≤ (ji25) then (if (ji25) < (x5_1.length : Int) then (potbankref06_table.l1 k2 l0 l1 x5_1 x6_1 (rdOf false x5_1 (ji25)) (wrap64 (x8_2 + 1))) else (none)) else (none)) = some r := by first | (rw [hji25] at H; exact H) | (simp only [hji25] at H ⊢; exact H)
            have hji25w : (IntKind.i64.wrap (x6_1 - (ji24))) = ji25 := (i64_w _).trans hji25
            by_cases c26 : 0 ≤ (ji25)
            ·rw [if_pos c26] at H
             have c26b0 : decide (0 ≤ (ji25)) = true := decide_eq_true c26
             clear c26
             by_cases c27 : (ji25) < (x5_1.length : Int)
             ·rw [if_pos c27] at H
              have c27b0 : decide ((ji25) < (x5_1.length : Int)) = true := decide_eq_true c27
              clear c27
              have H' := Aside0.mk H
              clear H
              have p222 : 0 ≤ ((ji25) : Int) := of_decide_eq_true (by first | (with_reducible assumption) | assumption)
              have q222 : (ji25) < (x5_1.length : Int) := of_decide_eq_true (by first | (with_reducible assumption) | assumption)
              obtain ⟨ad222, e222, hx222_0⟩ := Kd.at_bool (Kd.R_reads' HO_5.out).2.2 (ji25) p222 q222
              cases e222
              replace p222 := eq_true p222
              replace q222 := eq_true q222
              go_wp2
              go_roundg k2
              case measure => have := HK1.out; have := HK2.out; omega
              case rel => exact ⟨(rdOf false x5_1 (ji25)), (wrap64 (x8_2 + 1)), (by first | rfl | (simp; done) | (simp only [← hji25] <;> (first | rfl | simp)) | (simp [*]; done)), (by first | rfl | (simp; done) | (simp [*]; done)), H', ⟨by have := HK1.out; have := HK2.out; omega⟩, ⟨by (with_reducible repeat (first | apply Kd.R_alloc | apply Kd.R_drewN | apply Kd.R_drew)); exact HO_5.out⟩, ⟨by repeat (first | exact HB.out | apply below_alloc | apply pw_below_drewN | apply below_drew1)⟩⟩
             ·rw [if_neg c27] at H
              exact absurd H (by simp)
            ·rw [if_neg c26] at H
             exact absurd H (by simp)
           ·replace c22 := Bool.eq_false_iff.mpr c22
            subst c22
            rw [if_neg (show ¬ (false = true) by decide)] at H
            have H' := Aside0.mk H
            clear H
            go_wp2
            go_roundg k2
            case measure => have := HK1.out; have := HK2.out; omega
            case rel => exact ⟨(false), (wrap64 (x8_2 + 1)), (by first | rfl | (simp; done) | (simp [*]; done)), (by first | rfl | (simp; done) | (simp [*]; done)), H', ⟨by have := HK1.out; have := HK2.out; omega⟩, ⟨by (with_reducible repeat (first | apply Kd.R_alloc | apply Kd.R_drewN | apply Kd.R_drew)); exact HO_5.out⟩, ⟨by repeat (first | exact HB.out | apply below_alloc | apply pw_below_drewN | apply below_drew1)⟩⟩
          ·rw [if_neg c21] at H
           have c21b0 : ((Go.bits .and .i64 (ji20) 1) == 1) = false := beq_eq_false_iff_ne.mpr c21
           have c21b1 : ((Go.bits .and .i64 (ji20) 1) != 1) = true := bne_iff_ne.mpr c21
           have H' := Aside0.mk H
           clear H
           go_wp2
           go_roundg k2
           case measure => have := HK1.out; have := HK2.out; omega
           case rel => exact ⟨(x7_2), (wrap64 (x8_2 + 1)), (by first | rfl | (simp; done) | (simp [*]; done)), (by first | rfl | (simp; done) | (simp [*]; done)), H', ⟨by have := HK1.out; have := HK2.out; omega⟩, ⟨by (with_reducible repeat (first | apply Kd.R_alloc | apply Kd.R_drewN | apply Kd.R_drew)); exact HO_5.out⟩, ⟨by repeat (first | exact HB.out | apply below_alloc | apply pw_below_drewN | apply below_drew1)⟩⟩
         ·rw [if_neg c19] at H
          exact absurd H (by simp)
        ·rw [if_neg c18] at H
         have c18b0 : decide (x8_2 < (l1.length : Int)) = false := decide_eq_false c18
         clear c18
         by_cases c28 : 0 ≤ x6_1
         ·rw [if_pos c28] at H
          have c28b0 : decide (0 ≤ x6_1) = true := decide_eq_true c28
          clear c28
          by_cases c29 : x6_1 < (x5_1.length : Int)
          ·rw [if_pos c29] at H
           have c29b0 : decide (x6_1 < (x5_1.length : Int)) = true := decide_eq_true c29
           clear c29
           obtain ⟨y223, hy223⟩ : ∃ y_ : List Bool, y_ = (x5_1.set (x6_1 : Int).toNat x7_2) := ⟨_, rfl⟩
           replace H : (potbankref06_table.l0 k2 l0 l1 y223 (wrap64 (x6_1 + 1))) = some r := by first | (rw [hy223]; with_reducible exact H) | (have H2_ := (Option.bind_some _ _).symm.trans H; rw [hy223]; with_reducible exact H2_) | (have H2_ := (Option.bind_some _ _).symm.trans H; with_reducible exact H2_) | with_reducible exact H | (rw [hy223]; exact H) | exact H
           have Ny223 := Aside0.mk hy223
           clear hy223
           have H' := Aside0.mk H
           clear H
           have p30 : 0 ≤ (x6_1 : Int) := of_decide_eq_true (by first | (with_reducible assumption) | assumption)
           have q30 : (x6_1 : Int) < ((x5_1.length : Int) : Int) := of_decide_eq_true (by first | (with_reducible assumption) | assumption)
           obtain ⟨go30, co30, eo30, gb30, gl30, cl30, HG30⟩ := Kd.R_form HO_5.out (by omega)
           (first | cases eo30 | (injection eo30 with ea_ en_ ec_; (first | subst ea_ | (injection ea_ with ea_; subst ea_)); subst ec_; clear en_))
           have GB30 := Aside0.mk gb30
           have GG30 := Aside0.mk HG30
           clear gb30 gl30 HG30
           obtain ⟨hx30_0, hf30_0⟩ := Kd.R_celln false HO_5.out (x6_1 : Int) p30 q30
           replace p30 := eq_true p30
           replace q30 := eq_true q30
           have HP31 := Kd.R_putg HO_5.out (x6_1 : Int) x7_2
           go_wp2_with (first | ((with_reducible refine gate_store (t := 4) (p := 52) rfl ?_); refine store_event (t := 4) (p := 52) (v := ?vo_w32) (w1 := (wr.setCell ⟨go30, (x6_1 : Int).toNat, none⟩ (.bool x7_2))) ?hg ?ho ?hn ?hr ?_; (case ho => rfl); (case hg => rfl); (case hn => rfl); (case hr => first | (go_simp; done) | (go_simp; rfl)); intro w32 hw; have hg : wr.grownBy w32 (some go30) := (by rw [hw]; exact HP31.2); have hp_ : Kd.R Kd.bool 4 w32 w.heap.size (fun _ => True) (.slice (some ⟨go30, 0, none⟩) x5_1.length co12) y223 := (by rw [hw, Ny223.out]; exact HP31.1); clear HP31; have n0_ := Aside0.mk (hp_); have n1_ := Aside0.mk ((by rw [hw]; exact below_set (HB.out) GB30.out : Below w.heap.size w w32)); clear HO_5; clear HB; have HO_5 := n0_; have HB := n1_; clear n0_ n1_; clear hg hw hp_))
           go_roundg k2
           case measure => have := HK1.out; have := HK2.out; omega
           case rel => exact ⟨(y223), (wrap64 (x6_1 + 1)), (by first | rfl | (simp; done) | (simp [*]; done)), H', ⟨by have := HK1.out; have := HK2.out; omega⟩, ⟨by (with_reducible repeat (first | apply Kd.R_alloc | apply Kd.R_drewN | apply Kd.R_drew)); exact HO_5.out⟩, ⟨by repeat (first | exact HB.out | apply below_alloc | apply pw_below_drewN | apply below_drew1)⟩⟩
          ·rw [if_neg c29] at H
           exact absurd H (by simp)
         ·rw [if_neg c28] at H
          exact absurd H (by simp)
     ·rw [if_neg c8] at H
      have c8b0 : decide (x6_1 < (x5_1.length : Int)) = false := decide_eq_false c8
      clear c8
      obtain rfl := Option.some.inj H
      obtain ⟨Ao33, co33, eo33⟩ := Kd.R_slice HO_5.out
      subst eo33
      go_wp2
      go_ret
      exact ⟨_, by first | rfl | (simp [errW_none, errW_some] <;> rfl) | (simp only [← hji3]; first | rfl | (simp [errW_none, errW_some] <;> rfl)) | (simp [*, errW_none, errW_some] <;> rfl), by (with_reducible repeat (first | apply Kd.R_alloc | apply Kd.R_drewN | apply Kd.R_drew)); exact HO_5.out, by repeat (first | exact HB.out | apply below_alloc | apply pw_below_drewN | apply below_drew1)⟩
  ·rw [if_neg c5] at H
   exact absurd H (by simp)
 ·rw [if_neg c4] at H
  exact absurd H (by simp)
def potbankref06_fewest.l0 : Nat → List (S72) → List Bool → Int → Option (List Int × Int × Bool)
 | 0, _, _, _ => none
 | k + 1, x1, x7, x8 => if x8 ≤ (x1.length : Int) then ((potbankref06_given.f k x7 ([] : List Int) x8 (x1.length : Int)).bind fun bt227 => (if bt227.2 = true then (some (bt227.1, x8, true)) else (potbankref06_fewest.l0 k x1 x7 (wrap64 (x8 + 1))))) else (some (([] : List Int), 0, false))
def potbankref06_fewest.f (k : Nat) (l0 : List (S70)) (l1 : List (S72)) : Option (List Int × Int × Bool) := (potbankref06_table.f k l0 l1).bind fun t224 => (potbankref06_fewest.l0 k l1 t224 0)
set_option maxHeartbeats 8000000 in
set_option maxRecDepth 100000 in
theorem potbankref06_fewest.calls (k : Nat) (A0 : Option Addr) (c0 : Nat) (l0 : List (S70)) (A1 : Option Addr) (c1 : Nat) (l1 : List (S72)) (r1 : List Int) (r2 : Int) (r3 : Bool) (w : World) (hr0 : Kd.C k70 w A0 l0.length l0) (hc0 : l0.length ≤ c0) (hr1 : Kd.C k72 w A1 l1.length l1) (hc1 : l1.length ≤ c1) (h : potbankref06_fewest.f k l0 l1 = some (r1, r2, r3)) :
  Calls Tryz.prog 49 #[.slice A0 l0.length c0, .slice A1 l1.length c1] w fun e w' => ∃ v0_ : Value, e = .returned (.tuple #[v0_, .int .i64 r2, .bool r3]) ∧ Kd.R (Kd.int .i64) 3 w' w.heap.size (fun _ => True) v0_ r1 ∧ Below w.heap.size w w' := by
 have HR0 := Aside0.mk hr0
 have HC0 := Aside0.mk hc0
 clear hr0 hc0
 have HR1 := Aside0.mk hr1
 have HC1 := Aside0.mk hc1
 clear hr1 hc1
 have HB := Aside0.mk (Below.refl w.heap.size w)
 have H : ((potbankref06_table.f k l0 l1).bind fun t224 => (potbankref06_fewest.l0 k l1 t224 0)) = some (r1, r2, r3) := h
 clear h
 replace H := Option.bind_eq_some_iff.mp H
 obtain ⟨t224, A30, H⟩ := H
 (try dsimp only at H)
 have A3 := Aside0.mk A30
 clear A30
 have H' := Aside0.mk H
 clear H
 go_enter Tryz.func49, Tryz.ntmps49
 go_wp2_with (first | ((with_reducible refine gate_callee (f := 96) rfl ?_); refine goesL_ (some 13) rfl rfl Tryz.func96 (by kernel_rfl) rfl #[.slice A0 l0.length c0, .slice A1 l1.length c1] rfl (by (try simp only [List.map_toArray, List.map_cons, List.map_nil]); first | done | rfl | (simp only [List.length_drop, List.length_take]; rfl)) ?_; (with_reducible refine (potbankref06_table.calls k _ _ l0 _ _ l1 t224 _ ?side1 ?side2 ?side3 ?side4 A3.out).mono ?_); (case side1 => repeat (first | exact HR0.out | (with_reducible refine Kd.C_alloc ?_ _) | (with_reducible refine Kd.C_drewN ?_ _) | (with_reducible refine Kd.C_drew ?_))); (case side2 => exact HC0.out); (case side3 => repeat (first | exact HR1.out | (with_reducible refine Kd.C_alloc ?_ _) | (with_reducible refine Kd.C_drewN ?_ _) | (with_reducible refine Kd.C_drew ?_))); (case side4 => exact HC1.out); rintro e w4 ⟨v225, rfl, ho0, hb⟩; refine ⟨_, rfl, ?_⟩; have n0_ := Aside0.mk (Kd.R_lower ho0 (below_size (by repeat (first | exact HB.out | apply below_alloc | apply pw_below_drewN | apply below_drew1)))); have n1_ := Aside0.mk (below_step (by repeat (first | exact HB.out | apply below_alloc | apply pw_below_drewN | apply below_drew1)) hb); clear HB; have HO226 := n0_; have HB := n1_; clear n0_ n1_; (try clear hb); (try clear hb2); (try clear hk); (try clear hi); (try clear ho0)))
 go_loopg [8] k (fun kq v8 w' => ∃ (x8_1 : Int), v8 = .int .i64 x8_1 ∧ Aside0 (potbankref06_fewest.l0 kq l1 t224 x8_1 = some (r1, r2, r3)) ∧ Aside0 (kq ≤ k) ∧ Aside0 (Kd.R Kd.bool 4 w' w.heap.size (fun _ => True) v225 t224) ∧ Aside0 (Below w.heap.size w w'))
 case atStart => exact ⟨(0), (by first | rfl | (simp; done) | (simp [*]; done)), H', ⟨Nat.le_refl _⟩, ⟨by (with_reducible repeat (first | apply Kd.R_alloc | apply Kd.R_drewN | apply Kd.R_drew)); exact HO226.out⟩, ⟨by repeat (first | exact HB.out | apply below_alloc | apply pw_below_drewN | apply below_drew1)⟩⟩
 case round =>
  clear H'
  try clear c1
  try clear p2
  try clear c4
  obtain ⟨x8_1, rfl, HA, HK1, HO_7, HB⟩ := hrel
  cases gk with
  | zero => exact absurd HA.out (by simp [potbankref06_fewest.l0])
  | succ k1 =>
   have H := HA.out
   clear HA
   simp only [potbankref06_fewest.l0] at H
   by_cases c5 : x8_1 ≤ (l1.length : Int)
   ·rw [if_pos c5] at H
    have c5b0 : decide (x8_1 ≤ (l1.length : Int)) = true := decide_eq_true c5
    clear c5
    replace H := Option.bind_eq_some_iff.mp H
    obtain ⟨⟨t227, t230⟩, A60, H⟩ := H
    (try dsimp only at H)
    have A6 := Aside0.mk A60
    clear A60
    by_cases c7 : t230 = true
    ·subst c7
     rw [if_pos rfl] at H
     simp only [Option.some.injEq, Prod.mk.injEq] at H
     obtain ⟨rfl, rfl, rfl⟩ := H
     obtain ⟨Ao8, co8, eo8⟩ := Kd.R_slice HO_7.out
     subst eo8
     go_wp2_with (first | ((with_reducible refine gate_callee (f := 61) rfl ?_); refine goesL_ (some 25) rfl rfl Tryz.func61 (by kernel_rfl) rfl #[.slice Ao8 t224.length co8, .slice none 0 0, .int .i64 x8_1, .int .i64 (l1.length : Int)] rfl (by (try simp only [List.map_toArray, List.map_cons, List.map_nil]); first | done | rfl | (simp only [List.length_drop, List.length_take]; rfl)) ?_; (refine (potbankref06_given.calls k1 _ _ t224 (fun k_ => some k_ = (.slice none 0 0 : Value).ownBlock) (.slice none 0 0) ([] : List Int) x8_1 (l1.length : Int) t227 true w _ ?side1 ?side2 ?side3 ?side4 A6.out).mono ?_); (case side1 => repeat (first | exact HB.out | apply below_alloc | apply pw_below_drewN | apply below_drew1)); (case side2 => exact Kd.C_kept_own (HO_7.out) (fun k_ hk_ hs_ => (fun e_ => by simp [Value.ownBlock] at e_) hs_)); (case side3 => exact (Kd.R_reads' HO_7.out).2.1); (case side4 => exact Kd.R_nil _ _ _ _ _); rintro e w9 ⟨v228, rfl, ho0, hb, hkp⟩; refine ⟨_, rfl, ?_⟩; have n0_ := Aside0.mk (Kd.R_mono (ok' := fun k_ => True) (Kd.R_keptB (HO_7.out) hkp (fun k_ hk_ hs_ => (fun e_ => by simp [Value.ownBlock] at e_) hs_)) (fun k_ hk_ => trivial)); have n1_ := Aside0.mk (Kd.R_mono (ok' := fun k_ => True) ho0 (fun k_ hk_ => trivial)); have n2_ := Aside0.mk (hb); clear HO_7; clear HB; have HO_7 := n0_; have HO229 := n1_; have HB := n2_; clear n0_ n1_ n2_; (try clear hb); (try clear hkp); (try clear ho0)))
     go_ret3
     exact ⟨_, by first | rfl | (simp [errW_none, errW_some] <;> rfl) | (simp [*, errW_none, errW_some] <;> rfl), by (with_reducible repeat (first | apply Kd.R_alloc | apply Kd.R_drewN | apply Kd.R_drew)); exact HO229.out, by repeat (first | exact HB.out | apply below_alloc | apply pw_below_drewN | apply below_drew1)⟩
    ·replace c7 := Bool.eq_false_iff.mpr c7
     subst c7
     rw [if_neg (show ¬ (false = true) by decide)] at H
     have H' := Aside0.mk H
     clear H
     obtain ⟨Ao10, co10, eo10⟩ := Kd.R_slice HO_7.out
     subst eo10
     go_wp2_with (first | ((with_reducible refine gate_callee (f := 61) rfl ?_); refine goesL_ (some 25) rfl rfl Tryz.func61 (by kernel_rfl) rfl #[.slice Ao10 t224.length co10, .slice none 0 0, .int .i64 x8_1, .int .i64 (l1.length : Int)] rfl (by (try simp only [List.map_toArray, List.map_cons, List.map_nil]); first | done | rfl | (simp only [List.length_drop, List.length_take]; rfl)) ?_; (refine (potbankref06_given.calls k1 _ _ t224 (fun k_ => some k_ = (.slice none 0 0 : Value).ownBlock) (.slice none 0 0) ([] : List Int) x8_1 (l1.length : Int) t227 false w _ ?side1 ?side2 ?side3 ?side4 A6.out).mono ?_); (case side1 => repeat (first | exact HB.out | apply below_alloc | apply pw_below_drewN | apply below_drew1)); (case side2 => exact Kd.C_kept_own (HO_7.out) (fun k_ hk_ hs_ => (fun e_ => by simp [Value.ownBlock] at e_) hs_)); (case side3 => exact (Kd.R_reads' HO_7.out).2.1); (case side4 => exact Kd.R_nil _ _ _ _ _); rintro e w11 ⟨v228, rfl, ho0, hb, hkp⟩; refine ⟨_, rfl, ?_⟩; have n0_ := Aside0.mk (Kd.R_mono (ok' := fun k_ => True) (Kd.R_keptB (HO_7.out) hkp (fun k_ hk_ hs_ => (fun e_ => by simp [Value.ownBlock] at e_) hs_)) (fun k_ hk_ => trivial)); have n1_ := Aside0.mk (Kd.R_mono (ok' := fun k_ => True) ho0 (fun k_ hk_ => trivial)); have n2_ := Aside0.mk (hb); clear HO_7; clear HB; have HO_7 := n0_; have HO229 := n1_; have HB := n2_; clear n0_ n1_ n2_; (try clear hb); (try clear hkp); (try clear ho0)))
     go_roundg k1
     case measure => have := HK1.out; omega
     case rel => exact ⟨(wrap64 (x8_1 + 1)), (by first | rfl | (simp; done) | (simp [*]; done)), H', ⟨by have := HK1.out; omega⟩, ⟨by (with_reducible repeat (first | apply Kd.R_alloc | apply Kd.R_drewN | apply Kd.R_drew)); exact HO_7.out⟩, ⟨by repeat (first | exact HB.out | apply below_alloc | apply pw_below_drewN | apply below_drew1)⟩⟩
   ·rw [if_neg c5] at H
    have c5b0 : decide (x8_1 ≤ (l1.length : Int)) = false := decide_eq_false c5
    clear c5
    simp only [Option.some.injEq, Prod.mk.injEq] at H
    obtain ⟨rfl, rfl, rfl⟩ := H
    go_wp2
    go_ret3
    exact ⟨_, by first | rfl | (simp [errW_none, errW_some] <;> rfl) | (simp [*, errW_none, errW_some] <;> rfl), by first | exact Kd.R_nil _ _ _ _ _ | exact Kd.N_nil _ _ _ _ _ | exact Kd.V_nil _ _ _ _ _ | exact Kd.Q_nil _ _ _ _ _ | exact Kd.S_nil _ _ _ _ _, by repeat (first | exact HB.out | apply below_alloc | apply pw_below_drewN | apply below_drew1)⟩
def potbankref06_within.l0 : Nat → List (S70) → List (S72) → List Int → List (List Int) → Int → Option ((List (List Int)))
 | 0, _, _, _, _, _ => none
 | k + 1, x0, x1, x2, x7, x8 => if x8 < (shl .i64 1 (x2.length : Int)) then ((potbankref06_Chosen.f k x8 x2).bind fun t231 => ((potbankref06_crowded.f k x0 x1 t231).bind fun t234 => (if t234 = true then (if x7.length < 5864062014805 then (potbankref06_within.l0 k x0 x1 x2 (x7 ++ [t231]) (wrap64 (x8 + 1))) else (none)) else (potbankref06_within.l0 k x0 x1 x2 x7 (wrap64 (x8 + 1)))))) else (some x7)
def potbankref06_within.f (k : Nat) (l0 : List (S70)) (l1 : List (S72)) (l2 : List Int) : Option ((List (List Int))) := potbankref06_within.l0 k l0 l1 l2 ([] : List (List Int)) 0
set_option maxHeartbeats 8000000 in
set_option maxRecDepth 100000 in
theorem potbankref06_within.calls (k : Nat) (A0 : Option Addr) (c0 : Nat) (l0 : List (S70)) (A1 : Option Addr) (c1 : Nat) (l1 : List (S72)) (A2 : Option Addr) (c2 : Nat) (l2 : List Int) (r : List (List Int)) (w : World) (hr0 : Kd.C k70 w A0 l0.length l0) (hc0 : l0.length ≤ c0) (hr1 : Kd.C k72 w A1 l1.length l1) (hc1 : l1.length ≤ c1) (hr2 : Kd.C (Kd.int .i64) w A2 l2.length l2) (hc2 : l2.length ≤ c2) (h : potbankref06_within.f k l0 l1 l2 = some r) :
  Calls Tryz.prog 75 #[.slice A0 l0.length c0, .slice A1 l1.length c1, .slice A2 l2.length c2] w fun e w' => ∃ v0_ : Value, e = .returned (v0_) ∧ Kd.S (Kd.slice 3 (Kd.int .i64)) 41 w' w.heap.size (fun _ => True) v0_ r ∧ Below w.heap.size w w' := by
 have HR0 := Aside0.mk hr0
 have HC0 := Aside0.mk hc0
 clear hr0 hc0
 have HR1 := Aside0.mk hr1
 have HC1 := Aside0.mk hc1
 clear hr1 hc1
 have HR2 := Aside0.mk hr2
 have HC2 := Aside0.mk hc2
 clear hr2 hc2
 have HB := Aside0.mk (Below.refl w.heap.size w)
 have H : (potbankref06_within.l0 k l0 l1 l2 ([] : List (List Int)) 0) = some r := h
 clear h
 have H' := Aside0.mk H
 clear H
 go_enter Tryz.func75, Tryz.ntmps75
 go_wp2
 go_loopg [7, 8] k (fun kq v7 v8 w' => ∃ (x7_1 : List (List Int)) (x8_1 : Int), v8 = .int .i64 x8_1 ∧ Aside0 (potbankref06_within.l0 kq l0 l1 l2 x7_1 x8_1 = some r) ∧ Aside0 (kq ≤ k) ∧ Aside0 (Kd.S (Kd.slice 3 (Kd.int .i64)) 41 w' w.heap.size (fun _ => True) v7 x7_1) ∧ Aside0 (Below w.heap.size w w'))
 case atStart => exact ⟨(([] : List (List Int))), (0), (by first | rfl | (simp; done) | (simp [*]; done)), H', ⟨Nat.le_refl _⟩, ⟨by first | exact Kd.S_nil _ _ _ _ _ | exact Kd.N_nil _ _ _ _ _ | exact Kd.V_nil _ _ _ _ _ | exact Kd.Q_nil _ _ _ _ _ | exact Kd.R_nil _ _ _ _ _⟩, ⟨by repeat (first | exact HB.out | apply below_alloc | apply pw_below_drewN | apply below_drew1)⟩⟩
 case round =>
  clear H'
  try clear c1
  try clear c2
  try clear p2
  obtain ⟨x7_1, x8_1, rfl, HA, HK1, HO_7, HB⟩ := hrel
  cases gk with
  | zero => exact absurd HA.out (by simp [potbankref06_within.l0])
  | succ k1 =>
   have H := HA.out
   clear HA
   simp only [potbankref06_within.l0] at H
   obtain ⟨ji4, hji4⟩ : ∃ j_ : Int, (shl .i64 1 (l2.length : Int)) = j_ := ⟨_, rfl⟩
   replace H : (if x8_1 < (ji4) then ((potbankref06_Chosen.f k1 x8_1 l2).bind fun t231 => ((potbankref06_crowded.f k1 l0 l1 t231).bind fun t234 => (if t234 = true then (if x7_1.length < 5864062014805 then (potbankref06_within.l0 k1 l0 l1 l2 (x7_1 ++ [t231]) (wrap64 (x8_1 + 1))) else (none)) else (potbankref06_within.l0 k1 l0 l1 l2 x7_1 (wrap64 (x8_1 + 1)))))) else (some x7_1)) = some r := by first | (rw [hji4] at H; exact H) | (simp only [hji4] at H ⊢; exact H)
   have hji4_ : (IntKind.i64.wrap (1 * 2 ^ min (l2.length : Int).toNat 64)) = ji4 := hji4
   have hji4z : (l2.length : Int) ≤ 64 → (IntKind.i64.wrap (1 * 2 ^ (l2.length : Int).toNat)) = ji4 := shl_small hji4
   have hji4p : (IntKind.i64.wrap (1 * 2 ^ min l2.length 64)) = ji4 := hji4_
   have hji4q : (l2.length : Int) ≤ 64 → (IntKind.i64.wrap (1 * 2 ^ l2.length)) = ji4 := hji4z
   have hji4r : (IntKind.i64.wrap (2 ^ min l2.length 64)) = ji4 := by have h_ := hji4p; rw [Int.one_mul] at h_; exact h_
   have hji4s : (l2.length : Int) ≤ 64 → (IntKind.i64.wrap (2 ^ l2.length)) = ji4 := fun hle_ => by have h_ := hji4q hle_; rw [Int.one_mul] at h_; exact h_
   have hji4u : (IntKind.i64.wrap (2 ^ min (l2.length : Int).toNat 64)) = ji4 := by have h_ := hji4_; rw [Int.one_mul] at h_; exact h_
   have hji4v : (l2.length : Int) ≤ 64 → (IntKind.i64.wrap (2 ^ (l2.length : Int).toNat)) = ji4 := fun hle_ => by have h_ := hji4z hle_; rw [Int.one_mul] at h_; exact h_
   have hji4y : (wrap64 (1 * 2 ^ min (l2.length : Int).toNat 64)) = ji4 := (i64_w _).symm.trans hji4_
   have hji4x : (l2.length : Int) ≤ 64 → (wrap64 (1 * 2 ^ (l2.length : Int).toNat)) = ji4 := fun h_ => (i64_w _).symm.trans (hji4z h_)
   by_cases c5 : x8_1 < (ji4)
   ·rw [if_pos c5] at H
    have c5b0 : decide (x8_1 < (ji4)) = true := decide_eq_true c5
    clear c5
    replace H := Option.bind_eq_some_iff.mp H
    obtain ⟨t231, A60, H⟩ := H
    (try dsimp only at H)
    have A6 := Aside0.mk A60
    clear A60
    replace H := Option.bind_eq_some_iff.mp H
    obtain ⟨t234, A70, H⟩ := H
    (try dsimp only at H)
    have A7 := Aside0.mk A70
    clear A70
    by_cases c8 : t234 = true
    ·subst c8
     rw [if_pos rfl] at H
     by_cases c9 : x7_1.length < 5864062014805
     ·rw [if_pos c9] at H
      have LMc9 := Aside0.mk c9
      clear c9
      obtain ⟨y235, hy235⟩ : ∃ y_ : List (List Int), y_ = (x7_1 ++ [t231]) := ⟨_, rfl⟩
      replace H : (potbankref06_within.l0 k1 l0 l1 l2 y235 (wrap64 (x8_1 + 1))) = some r := by first | (rw [hy235]; with_reducible exact H) | (have H2_ := (Option.bind_some _ _).symm.trans H; rw [hy235]; with_reducible exact H2_) | (have H2_ := (Option.bind_some _ _).symm.trans H; with_reducible exact H2_) | with_reducible exact H | (rw [hy235]; exact H) | exact H
      have Ny235 := Aside0.mk hy235
      clear hy235
      have H' := Aside0.mk H
      clear H
      go_wp2_with (first | ((with_reducible refine gate_callee (f := 58) rfl ?_); refine goesL_ (some 19) rfl rfl Tryz.func58 (by kernel_rfl) rfl #[.int .i64 x8_1, .slice A2 l2.length c2] rfl (by (try simp only [List.map_toArray, List.map_cons, List.map_nil]); first | done | rfl | (simp only [List.length_drop, List.length_take]; rfl)) ?_; (with_reducible refine (potbankref06_Chosen.calls k1 x8_1 _ _ l2 t231 _ ?side1 ?side2 A6.out).mono ?_); (case side1 => repeat (first | exact (Kd.C_below HR2.out HB.out) | (with_reducible refine Kd.C_alloc ?_ _) | (with_reducible refine Kd.C_drewN ?_ _) | (with_reducible refine Kd.C_drew ?_))); (case side2 => exact HC2.out); rintro e w10 ⟨v232, rfl, ho0, hb⟩; refine ⟨_, rfl, ?_⟩; have n0_ := Aside0.mk (Kd.S_elder' (by (with_reducible repeat (first | apply Kd.S_alloc | apply Kd.S_drewN | apply Kd.S_drew)); exact HO_7.out) (Kd.R_base ho0) hb); have n1_ := Aside0.mk (Kd.R_lower ho0 (below_size (by repeat (first | exact HB.out | apply below_alloc | apply pw_below_drewN | apply below_drew1)))); have n2_ := Aside0.mk (below_step (by repeat (first | exact HB.out | apply below_alloc | apply pw_below_drewN | apply below_drew1)) hb); clear HO_7; clear HB; have HO_7 := n0_; have HO233 := n1_; have HB := n2_; clear n0_ n1_ n2_; (try clear hb); (try clear hb2); (try clear hk); (try clear hi); (try clear ho0); obtain ⟨Ao11, co11, eo11⟩ := Kd.R_slice HO233.out; subst eo11) | ((with_reducible refine gate_callee (f := 60) rfl ?_); refine goesL_ (some 23) rfl rfl Tryz.func60 (by kernel_rfl) rfl #[.slice A0 l0.length c0, .slice A1 l1.length c1, .slice Ao11 t231.length co11] rfl (by (try simp only [List.map_toArray, List.map_cons, List.map_nil]); first | done | rfl | (simp only [List.length_drop, List.length_take]; rfl)) ?_; (with_reducible refine (potbankref06_crowded.calls k1 _ _ l0 _ _ l1 _ _ t231 true _ ?side1 ?side2 ?side3 ?side4 ?side5 ?side6 A7.out).mono ?_); (case side1 => repeat (first | exact (Kd.C_below HR0.out HB.out) | (with_reducible refine Kd.C_alloc ?_ _) | (with_reducible refine Kd.C_drewN ?_ _) | (with_reducible refine Kd.C_drew ?_))); (case side2 => exact HC0.out); (case side3 => repeat (first | exact (Kd.C_below HR1.out HB.out) | (with_reducible refine Kd.C_alloc ?_ _) | (with_reducible refine Kd.C_drewN ?_ _) | (with_reducible refine Kd.C_drew ?_))); (case side4 => exact HC1.out); (case side5 => repeat (first | exact (Kd.R_reads' HO233.out).2.2 | (with_reducible refine Kd.C_alloc ?_ _) | (with_reducible refine Kd.C_drewN ?_ _) | (with_reducible refine Kd.C_drew ?_))); (case side6 => exact (Kd.R_reads' HO233.out).2.1); rintro e w12 ⟨rfl, hb⟩; refine ⟨_, rfl, ?_⟩; have n0_ := Aside0.mk (Kd.S_below (by (with_reducible repeat (first | apply Kd.S_alloc | apply Kd.S_drewN | apply Kd.S_drew)); exact HO_7.out) hb); have n1_ := Aside0.mk (Kd.R_below (by (with_reducible repeat (first | apply Kd.R_alloc | apply Kd.R_drewN | apply Kd.R_drew)); exact HO233.out) hb); have n2_ := Aside0.mk (below_step (by repeat (first | exact HB.out | apply below_alloc | apply pw_below_drewN | apply below_drew1)) hb); clear HO_7; clear HO233; clear HB; have HO_7 := n0_; have HO233 := n1_; have HB := n2_; clear n0_ n1_ n2_; (try clear hb); (try clear hb2); (try clear hk); (try clear hi)) | ((with_reducible refine gate_builtin (b := .append) (xs := #[.tmp 24, .tmp 26]) rfl ?_); at_builtin; refine Kd.S_append (Kd.slice 3 (Kd.int .i64)) (w0 := w) w.heap.size rfl (.tmp 24) (.tmp 26) 24 41 (.slice none 0 0) 24 rfl Tryz.underlying24 info41 rfl (by decide) (by omega) u7 x7_1 t231 [.slice Ao11 t231.length co11] (fun _ => True) (fun k_ => some k_ = (.slice Ao11 t231.length co11 : Value).ownBlock) rfl rfl ?aP (fun k_ hk_ => ((Kd.R_mono (ok' := fun k_ => ((fun _ => True)) k_ ∧ some k_ ≠ (u7 : Value).ownBlock) (Kd.R_apart' (HO233.out) (Kd.S_typed HO_7.out) (by decide)) (fun k_ hk => ⟨trivial, hk.2⟩))).1 k_ hk_.symm) ?aF ?aO ?aB ?aS ?aL ?_; (case aP => exact Kd.M_row (Kd.R_mono (Kd.R_tight rfl (Kd.R_mono (ok' := fun k_ => ((fun _ => True)) k_ ∧ some k_ ≠ (u7 : Value).ownBlock) (Kd.R_apart' (HO233.out) (Kd.S_typed HO_7.out) (by decide)) (fun k_ hk => ⟨trivial, hk.2⟩))) (fun _ h_ => h_))); (case aB => exact (by repeat (first | exact HB.out | apply below_alloc | apply pw_below_drewN | apply below_drew1))); (case aF => exact (fun _ _ => trivial)); (case aO => exact (by (with_reducible repeat (first | apply Kd.S_alloc | apply Kd.S_drewN | apply Kd.S_drew)); exact Kd.S_mono HO_7.out (fun k_ hk => ⟨trivial, fun e_ => hk.2 e_⟩))); (case aS => exact (below_size (by repeat (first | exact HB.out | apply below_alloc | apply pw_below_drewN | apply below_drew1)))); (case aL => have := LMc9.out; omega); intro v236 w13 ho hb hg hat; rw [← Ny235.out] at ho; have n0_ := Aside0.mk (hb); have n1_ := Aside0.mk (ho); clear HB; clear HO_7; clear HO233; have HB := n0_; have HO237 := n1_; clear n0_ n1_; clear ho hb hg hat))
      go_roundg k1
      case measure => have := HK1.out; omega
      case rel => exact ⟨(y235), (wrap64 (x8_1 + 1)), (by first | rfl | (simp; done) | (simp [*]; done)), H', ⟨by have := HK1.out; omega⟩, ⟨by (with_reducible repeat (first | apply Kd.S_alloc | apply Kd.S_drewN | apply Kd.S_drew)); exact HO237.out⟩, ⟨by repeat (first | exact HB.out | apply below_alloc | apply pw_below_drewN | apply below_drew1)⟩⟩
     ·rw [if_neg c9] at H
      exact absurd H (by simp)
    ·replace c8 := Bool.eq_false_iff.mpr c8
     subst c8
     rw [if_neg (show ¬ (false = true) by decide)] at H
     have H' := Aside0.mk H
     clear H
     go_wp2_with (first | ((with_reducible refine gate_callee (f := 58) rfl ?_); refine goesL_ (some 19) rfl rfl Tryz.func58 (by kernel_rfl) rfl #[.int .i64 x8_1, .slice A2 l2.length c2] rfl (by (try simp only [List.map_toArray, List.map_cons, List.map_nil]); first | done | rfl | (simp only [List.length_drop, List.length_take]; rfl)) ?_; (with_reducible refine (potbankref06_Chosen.calls k1 x8_1 _ _ l2 t231 _ ?side1 ?side2 A6.out).mono ?_); (case side1 => repeat (first | exact (Kd.C_below HR2.out HB.out) | (with_reducible refine Kd.C_alloc ?_ _) | (with_reducible refine Kd.C_drewN ?_ _) | (with_reducible refine Kd.C_drew ?_))); (case side2 => exact HC2.out); rintro e w14 ⟨v232, rfl, ho0, hb⟩; refine ⟨_, rfl, ?_⟩; have n0_ := Aside0.mk (Kd.S_elder' (by (with_reducible repeat (first | apply Kd.S_alloc | apply Kd.S_drewN | apply Kd.S_drew)); exact HO_7.out) (Kd.R_base ho0) hb); have n1_ := Aside0.mk (Kd.R_lower ho0 (below_size (by repeat (first | exact HB.out | apply below_alloc | apply pw_below_drewN | apply below_drew1)))); have n2_ := Aside0.mk (below_step (by repeat (first | exact HB.out | apply below_alloc | apply pw_below_drewN | apply below_drew1)) hb); clear HO_7; clear HB; have HO_7 := n0_; have HO233 := n1_; have HB := n2_; clear n0_ n1_ n2_; (try clear hb); (try clear hb2); (try clear hk); (try clear hi); (try clear ho0); obtain ⟨Ao15, co15, eo15⟩ := Kd.R_slice HO233.out; subst eo15) | ((with_reducible refine gate_callee (f := 60) rfl ?_); refine goesL_ (some 23) rfl rfl Tryz.func60 (by kernel_rfl) rfl #[.slice A0 l0.length c0, .slice A1 l1.length c1, .slice Ao15 t231.length co15] rfl (by (try simp only [List.map_toArray, List.map_cons, List.map_nil]); first | done | rfl | (simp only [List.length_drop, List.length_take]; rfl)) ?_; (with_reducible refine (potbankref06_crowded.calls k1 _ _ l0 _ _ l1 _ _ t231 false _ ?side1 ?side2 ?side3 ?side4 ?side5 ?side6 A7.out).mono ?_); (case side1 => repeat (first | exact (Kd.C_below HR0.out HB.out) | (with_reducible refine Kd.C_alloc ?_ _) | (with_reducible refine Kd.C_drewN ?_ _) | (with_reducible refine Kd.C_drew ?_))); (case side2 => exact HC0.out); (case side3 => repeat (first | exact (Kd.C_below HR1.out HB.out) | (with_reducible refine Kd.C_alloc ?_ _) | (with_reducible refine Kd.C_drewN ?_ _) | (with_reducible refine Kd.C_drew ?_))); (case side4 => exact HC1.out); (case side5 => repeat (first | exact (Kd.R_reads' HO233.out).2.2 | (with_reducible refine Kd.C_alloc ?_ _) | (with_reducible refine Kd.C_drewN ?_ _) | (with_reducible refine Kd.C_drew ?_))); (case side6 => exact (Kd.R_reads' HO233.out).2.1); rintro e w16 ⟨rfl, hb⟩; refine ⟨_, rfl, ?_⟩; have n0_ := Aside0.mk (Kd.S_below (by (with_reducible repeat (first | apply Kd.S_alloc | apply Kd.S_drewN | apply Kd.S_drew)); exact HO_7.out) hb); have n1_ := Aside0.mk (Kd.R_below (by (with_reducible repeat (first | apply Kd.R_alloc | apply Kd.R_drewN | apply Kd.R_drew)); exact HO233.out) hb); have n2_ := Aside0.mk (below_step (by repeat (first | exact HB.out | apply below_alloc | apply pw_below_drewN | apply below_drew1)) hb); clear HO_7; clear HO233; clear HB; have HO_7 := n0_; have HO233 := n1_; have HB := n2_; clear n0_ n1_ n2_; (try clear hb); (try clear hb2); (try clear hk); (try clear hi)))
     go_roundg k1
     case measure => have := HK1.out; omega
     case rel => exact ⟨(x7_1), (wrap64 (x8_1 + 1)), (by first | rfl | (simp; done) | (simp [*]; done)), H', ⟨by have := HK1.out; omega⟩, ⟨by (with_reducible repeat (first | apply Kd.S_alloc | apply Kd.S_drewN | apply Kd.S_drew)); exact Kd.S_mono HO_7.out (fun _ hk => trivial)⟩, ⟨by repeat (first | exact HB.out | apply below_alloc | apply pw_below_drewN | apply below_drew1)⟩⟩
   ·rw [if_neg c5] at H
    have c5b0 : decide (x8_1 < (ji4)) = false := decide_eq_false c5
    clear c5
    obtain rfl := Option.some.inj H
    go_wp2
    go_ret
    exact ⟨_, by first | rfl | (simp [errW_none, errW_some] <;> rfl) | (simp only [← hji4]; first | rfl | (simp [errW_none, errW_some] <;> rfl)) | (simp [*, errW_none, errW_some] <;> rfl), by (with_reducible repeat (first | apply Kd.S_alloc | apply Kd.S_drewN | apply Kd.S_drew)); exact HO_7.out, by repeat (first | exact HB.out | apply below_alloc | apply pw_below_drewN | apply below_drew1)⟩
def potbankref01_Has.l0 : Nat → List Int → Int → Int → Option (Bool)
 | 0, _, _, _ => none
 | k + 1, x0, x1, x5 => if x5 < (x0.length : Int) then (if 0 ≤ x5 then (if (rd x0 x5) = x1 then (some true) else (potbankref01_Has.l0 k x0 x1 (wrap64 (x5 + 1)))) else (none)) else (some false)
def potbankref01_Has.f (k : Nat) (l0 : List Int) (a1 : Int) : Option (Bool) := potbankref01_Has.l0 k l0 a1 0
set_option maxHeartbeats 8000000 in
set_option maxRecDepth 100000 in
theorem potbankref01_Has.calls (k : Nat) (A0 : Option Addr) (c0 : Nat) (l0 : List Int) (a1 : Int) (r : Bool) (w : World) (hr0 : Kd.C (Kd.int .i64) w A0 l0.length l0) (hc0 : l0.length ≤ c0) (h : potbankref01_Has.f k l0 a1 = some r) :
  Calls Tryz.prog 79 #[.slice A0 l0.length c0, .int .i64 a1] w fun e w' => e = .returned (.bool r) ∧ Drawn0 w w' := by
 have HR0 := Aside0.mk hr0
 have HC0 := Aside0.mk hc0
 clear hr0 hc0
 have H : (potbankref01_Has.l0 k l0 a1 0) = some r := h
 clear h
 have H' := Aside0.mk H
 clear H
 go_enter Tryz.func79, Tryz.ntmps79
 go_wp2
 go_loopg [5] k (fun kq v5 w' => ∃ (x5_1 : Int), v5 = .int .i64 x5_1 ∧ Aside0 (potbankref01_Has.l0 kq l0 a1 x5_1 = some r) ∧ Aside0 (kq ≤ k) ∧ Drawn0 w w')
 case atStart => exact ⟨(0), (by first | rfl | (simp; done) | (simp [*]; done)), H', ⟨Nat.le_refl _⟩, by repeat (first | exact Drawn0.refl _ | apply Drawn0.step)⟩
 case round =>
  clear H'
  try clear p2
  obtain ⟨x5_1, rfl, HA, HK1, ⟨m1, rfl⟩⟩ := hrel
  cases gk with
  | zero => exact absurd HA.out (by simp [potbankref01_Has.l0])
  | succ k1 =>
   have H := HA.out
   clear HA
   simp only [potbankref01_Has.l0] at H
   by_cases c3 : x5_1 < (l0.length : Int)
   ·rw [if_pos c3] at H
    have c3b0 : decide (x5_1 < (l0.length : Int)) = true := decide_eq_true c3
    clear c3
    by_cases c4 : 0 ≤ x5_1
    ·rw [if_pos c4] at H
     have c4b0 : decide (0 ≤ x5_1) = true := decide_eq_true c4
     clear c4
     by_cases c5 : (rd l0 x5_1) = a1
     ·rw [if_pos c5] at H
      have c5b0 : ((rd l0 x5_1) == a1) = true := beq_iff_eq.mpr c5
      have c5b1 : ((rd l0 x5_1) != a1) = false := bne_eq_false_iff_eq.mpr c5
      clear c5
      obtain rfl := Option.some.inj H
      have p238 : 0 ≤ (x5_1 : Int) := of_decide_eq_true (by first | (with_reducible assumption) | assumption)
      have q238 : x5_1 < (l0.length : Int) := of_decide_eq_true (by first | (with_reducible assumption) | assumption)
      obtain ⟨ad238, e238, hx238_0⟩ := Kd.at_int HR0.out x5_1 p238 q238
      cases e238
      replace p238 := eq_true p238
      replace q238 := eq_true q238
      go_wp2
      go_ret
      exact ⟨by first | rfl | (simp; done) | (simp [*]; done), by repeat (first | exact Drawn0.refl _ | apply Drawn0.step)⟩
     ·rw [if_neg c5] at H
      have c5b0 : ((rd l0 x5_1) == a1) = false := beq_eq_false_iff_ne.mpr c5
      have c5b1 : ((rd l0 x5_1) != a1) = true := bne_iff_ne.mpr c5
      have H' := Aside0.mk H
      clear H
      have p238 : 0 ≤ (x5_1 : Int) := of_decide_eq_true (by first | (with_reducible assumption) | assumption)
      have q238 : x5_1 < (l0.length : Int) := of_decide_eq_true (by first | (with_reducible assumption) | assumption)
      obtain ⟨ad238, e238, hx238_0⟩ := Kd.at_int HR0.out x5_1 p238 q238
      cases e238
      replace p238 := eq_true p238
      replace q238 := eq_true q238
      go_wp2
      go_roundg k1
      case measure => have := HK1.out; omega
      case rel => exact ⟨(wrap64 (x5_1 + 1)), (by first | rfl | (simp; done) | (simp [*]; done)), H', ⟨by have := HK1.out; omega⟩, by repeat (first | exact Drawn0.refl _ | apply Drawn0.step)⟩
    ·rw [if_neg c4] at H
     exact absurd H (by simp)
   ·rw [if_neg c3] at H
    have c3b0 : decide (x5_1 < (l0.length : Int)) = false := decide_eq_false c3
    clear c3
    obtain rfl := Option.some.inj H
    go_wp2
    go_ret
    exact ⟨by first | rfl | (simp; done) | (simp [*]; done), by repeat (first | exact Drawn0.refl _ | apply Drawn0.step)⟩
def potbankref06_subset.l0 : Nat → List Int → List Int → Int → Option (Bool)
 | 0, _, _, _ => none
 | k + 1, x0, x1, x5 => if x5 < (x0.length : Int) then (if 0 ≤ x5 then ((potbankref01_Has.f k x1 (rd x0 x5)).bind fun t240 => (if t240 = true then (potbankref06_subset.l0 k x0 x1 (wrap64 (x5 + 1))) else (some false))) else (none)) else (some true)
def potbankref06_subset.f (k : Nat) (l0 : List Int) (l1 : List Int) : Option (Bool) := potbankref06_subset.l0 k l0 l1 0
set_option maxHeartbeats 8000000 in
set_option maxRecDepth 100000 in
theorem potbankref06_subset.calls (k : Nat) (A0 : Option Addr) (c0 : Nat) (l0 : List Int) (A1 : Option Addr) (c1 : Nat) (l1 : List Int) (r : Bool) (w : World) (hr0 : Kd.C (Kd.int .i64) w A0 l0.length l0) (hc0 : l0.length ≤ c0) (hr1 : Kd.C (Kd.int .i64) w A1 l1.length l1) (hc1 : l1.length ≤ c1) (h : potbankref06_subset.f k l0 l1 = some r) :
  Calls Tryz.prog 97 #[.slice A0 l0.length c0, .slice A1 l1.length c1] w fun e w' => e = .returned (.bool r) ∧ Drawn0 w w' := by
 have HR0 := Aside0.mk hr0
 have HC0 := Aside0.mk hc0
 clear hr0 hc0
 have HR1 := Aside0.mk hr1
 have HC1 := Aside0.mk hc1
 clear hr1 hc1
 have H : (potbankref06_subset.l0 k l0 l1 0) = some r := h
 clear h
 have H' := Aside0.mk H
 clear H
 go_enter Tryz.func97, Tryz.ntmps97
 go_wp2
 go_loopg [5] k (fun kq v5 w' => ∃ (x5_1 : Int), v5 = .int .i64 x5_1 ∧ Aside0 (potbankref06_subset.l0 kq l0 l1 x5_1 = some r) ∧ Aside0 (kq ≤ k) ∧ Drawn0 w w')
 case atStart => exact ⟨(0), (by first | rfl | (simp; done) | (simp [*]; done)), H', ⟨Nat.le_refl _⟩, by repeat (first | exact Drawn0.refl _ | apply Drawn0.step)⟩
 case round =>
  clear H'
  try clear c1
  try clear p2
  obtain ⟨x5_1, rfl, HA, HK1, ⟨m1, rfl⟩⟩ := hrel
  cases gk with
  | zero => exact absurd HA.out (by simp [potbankref06_subset.l0])
  | succ k1 =>
   have H := HA.out
   clear HA
   simp only [potbankref06_subset.l0] at H
   by_cases c3 : x5_1 < (l0.length : Int)
   ·rw [if_pos c3] at H
    have c3b0 : decide (x5_1 < (l0.length : Int)) = true := decide_eq_true c3
    clear c3
    by_cases c4 : 0 ≤ x5_1
    ·rw [if_pos c4] at H
     have c4b0 : decide (0 ≤ x5_1) = true := decide_eq_true c4
     clear c4
     replace H := Option.bind_eq_some_iff.mp H
     obtain ⟨t240, A50, H⟩ := H
     (try dsimp only at H)
     have A5 := Aside0.mk A50
     clear A50
     by_cases c6 : t240 = true
     ·subst c6
      rw [if_pos rfl] at H
      have H' := Aside0.mk H
      clear H
      have p239 : 0 ≤ (x5_1 : Int) := of_decide_eq_true (by first | (with_reducible assumption) | assumption)
      have q239 : x5_1 < (l0.length : Int) := of_decide_eq_true (by first | (with_reducible assumption) | assumption)
      obtain ⟨ad239, e239, hx239_0⟩ := Kd.at_int HR0.out x5_1 p239 q239
      cases e239
      replace p239 := eq_true p239
      replace q239 := eq_true q239
      go_wp2_with (first | ((with_reducible refine gate_callee (f := 79) rfl ?_); refine goesL_ (some 17) rfl rfl Tryz.func79 (by kernel_rfl) rfl #[.slice A1 l1.length c1, .int .i64 (rd l0 x5_1)] rfl (by (try simp only [List.map_toArray, List.map_cons, List.map_nil]); first | done | rfl | (simp only [List.length_drop, List.length_take]; rfl)) ?_; (with_reducible refine (potbankref01_Has.calls k1 _ _ l1 (rd l0 x5_1) true _ ?side1 ?side2 A5.out).mono ?_); (case side1 => repeat (first | exact HR1.out | (with_reducible refine Kd.C_alloc ?_ _) | (with_reducible refine Kd.C_drewN ?_ _) | (with_reducible refine Kd.C_drew ?_))); (case side2 => exact HC1.out); rintro e w' ⟨rfl, ⟨nd, rfl⟩⟩; refine ⟨_, rfl, ?_⟩))
      go_roundg k1
      case measure => have := HK1.out; omega
      case rel => exact ⟨(wrap64 (x5_1 + 1)), (by first | rfl | (simp; done) | (simp [*]; done)), H', ⟨by have := HK1.out; omega⟩, by repeat (first | exact Drawn0.refl _ | apply Drawn0.step)⟩
     ·replace c6 := Bool.eq_false_iff.mpr c6
      subst c6
      rw [if_neg (show ¬ (false = true) by decide)] at H
      obtain rfl := Option.some.inj H
      have p239 : 0 ≤ (x5_1 : Int) := of_decide_eq_true (by first | (with_reducible assumption) | assumption)
      have q239 : x5_1 < (l0.length : Int) := of_decide_eq_true (by first | (with_reducible assumption) | assumption)
      obtain ⟨ad239, e239, hx239_0⟩ := Kd.at_int HR0.out x5_1 p239 q239
      cases e239
      replace p239 := eq_true p239
      replace q239 := eq_true q239
      go_wp2_with (first | ((with_reducible refine gate_callee (f := 79) rfl ?_); refine goesL_ (some 17) rfl rfl Tryz.func79 (by kernel_rfl) rfl #[.slice A1 l1.length c1, .int .i64 (rd l0 x5_1)] rfl (by (try simp only [List.map_toArray, List.map_cons, List.map_nil]); first | done | rfl | (simp only [List.length_drop, List.length_take]; rfl)) ?_; (with_reducible refine (potbankref01_Has.calls k1 _ _ l1 (rd l0 x5_1) false _ ?side1 ?side2 A5.out).mono ?_); (case side1 => repeat (first | exact HR1.out | (with_reducible refine Kd.C_alloc ?_ _) | (with_reducible refine Kd.C_drewN ?_ _) | (with_reducible refine Kd.C_drew ?_))); (case side2 => exact HC1.out); rintro e w' ⟨rfl, ⟨nd, rfl⟩⟩; refine ⟨_, rfl, ?_⟩))
      go_ret
      exact ⟨by first | rfl | (simp; done) | (simp [*]; done), by repeat (first | exact Drawn0.refl _ | apply Drawn0.step)⟩
    ·rw [if_neg c4] at H
     exact absurd H (by simp)
   ·rw [if_neg c3] at H
    have c3b0 : decide (x5_1 < (l0.length : Int)) = false := decide_eq_false c3
    clear c3
    obtain rfl := Option.some.inj H
    go_wp2
    go_ret
    exact ⟨by first | rfl | (simp; done) | (simp [*]; done), by repeat (first | exact Drawn0.refl _ | apply Drawn0.step)⟩
end Go.Proofs.YthonlcnmjlldiaaGreat.P
namespace Go.Proofs.YthonlcnmjlldiaaGreat.P
open Go.Shelf Go.RowKit Go.Proofs.YthonlcnmjlldiaaGreatW.PrintWords Go.Proofs.YthonlcnmjlldiaaGreatW.PrintLast Go.Proofs.YthonlcnmjlldiaaGreatW.PrintMore
theorem viewStore_drawn {p : Program} {w : World} {at_ : Addr} {u : TypeId} {k : Addr} {v : Value} {b : Bool} {r : World × List Addr} (h : w.viewStore p at_ u k v b = .ok r) : r.1.drawn = w.drawn := by
 unfold World.viewStore at h
 simp only [bind, Except.bind, pure, Except.pure, throw, throwThe, MonadExceptOf.throw] at h
 (repeat' split at h) <;> first | (cases h; done) | (cases h; rfl) | skip
theorem farStore_drawn {p : Program} {w : World} {a : Addr} {v : Value} {b : Bool} {r : World × List Addr} (h : w.farStore p a v b = .ok r) : r.1.drawn = w.drawn := by
 unfold World.farStore at h
 split at h
 ·split at h
  ·rename_i r' hr
   cases h
   exact viewStore_drawn hr
  ·cases h
 ·cases h
theorem ask_drawn {α : Type} (c : Ask α) : ∀ (w : World), w.drawn ≤ (w.ask c).2.drawn := by
 induction c with
 | done a => intro w; unfold World.ask; exact Nat.le_refl _
 | ask what range k ih =>
  intro w
  unfold World.ask
  simp only []
  split
  ·exact ih _ w
  ·have h := ih (Question.cut (.extern what range) (w.tape w.drawn (.extern what range))) { w with drawn := w.drawn + 1 }
   simp only at h
   omega
theorem sys_drawn (w : World) (c : Sys) : w.drawn ≤ (w.sys c).2.drawn := by
 have h := ask_drawn (Kernel.perform c w.os) w
 unfold World.sys
 split
 ·exact Nat.le_refl _
 ·rename_i r os w2 _ hr
  rw [hr] at h
  exact h
theorem run_drawn {α : Type} (p : Program) (e : Sem α) : ∀ (w : World) (a : α) (w' : World), e.run p w = .ok a w' → w.drawn ≤ w'.drawn := by
 induction e with
 | pure a => intro w b w' h; simp only [Sem.run] at h; cases h; exact Nat.le_refl _
 | load m a k ih =>
  intro w b w' h
  simp only [Sem.run] at h
  split at h
  ·exact ih _ _ _ _ h
  ·split at h
   ·exact ih _ _ _ _ h
   ·cases h
 | store m a v k ih =>
  intro w b w' h
  cases v <;> simp only [Sem.run] at h
  all_goals first | (cases h; done) | skip
  all_goals
   split at h
   ·split at h
    ·cases h
    ·have h2 := ih _ _ _ h
     exact h2
   ·split at h
    ·rename_i w2 t hr
     have := farStore_drawn hr
     have h2 := ih _ _ _ h
     simp only at this
     omega
    ·cases h
 | new o k ih => intro w b w' h; simp only [Sem.run] at h; have h2 := ih _ _ _ _ h; exact h2
 | shape r k ih => intro w b w' h; simp only [Sem.run] at h; exact ih _ _ _ _ h
 | freeze a n k ih =>
  intro w b w' h
  simp only [Sem.run] at h
  have := ih _ _ _ h
  have e : (w.freeze a n).drawn = w.drawn := by unfold World.freeze; split <;> rfl
  omega
 | frozen a k ih => intro w b w' h; simp only [Sem.run] at h; exact ih _ _ _ _ h
 | getObj r k ih =>
  intro w b w' h
  simp only [Sem.run] at h
  split at h
  ·cases h
  ·exact ih _ _ _ _ h
  ·cases h
 | setObj r o k ih =>
  intro w b w' h
  simp only [Sem.run] at h
  split at h
  ·cases h
  ·have h2 := ih _ _ _ h
   exact h2
  ·cases h
 | choose q k ih =>
  intro w b w' h
  simp only [Sem.run] at h
  split at h
  ·exact ih _ _ _ _ h
  ·have := ih _ _ _ _ h
   simp only at this
   omega
 | sys c k ih =>
  intro w b w' h
  simp only [Sem.run] at h
  have h1 := ih _ _ _ _ h
  have h2 := sys_drawn w c
  omega
 | program k ih => intro w b w' h; simp only [Sem.run] at h; exact ih _ _ _ _ h
 | mark m k ih => intro w b w' h; simp only [Sem.run] at h; exact ih _ _ _ h
 | halt h0 => intro w b w' h; simp only [Sem.run] at h; cases h
theorem append_d (k : IntKind) {P : Program} {ops : Array Oper} {rest : List Oper} {o : Oper} {a : Act} {Q : Exit → Act → World → Prop} {w0 W : World} (base : Nat) (hgd : o.guard = none) (s x : Operand) (t e : TypeId) (bytes : Nat)
  (ho : o.op = .call { callee := .builtin .append, args := #[s, x], argTypes := #[t, t] })
  (ht : P.underlying t = some (.slice e)) (hinfo : (P.info? e).map (fun i => (i.zero, i.size, i.bytes)) = some (some (.int k 0), 1, bytes)) (hb0 : 0 < bytes)
  (v : Value) (xs : List Int) (y : Int) (hs : a.eval s = v) (hx : a.eval x = .slice (some ⟨W.heap.size, 0, none⟩) 1 1)
  (HO : (Kd.int k).R e W base (fun _ => True) v xs) (HB : Below base w0 W) (hbase : base ≤ W.heap.size) (hl : (xs.length + 1) * bytes ≤ 140737488355328)
  (h : ∀ v1 w1, (Kd.int k).R e w1 base (fun _ => True) v1 (xs ++ [y]) → Below base w0 w1 → W.drawn ≤ w1.drawn → wpList P ops Q rest (a.put o.dst v1) w1) :
  wpList P ops Q (o :: rest) a (W.alloc (.cells #[.int k y] e)) := by
 obtain ⟨i0, hi, hzz⟩ := Option.map_eq_some_iff.1 hinfo
 simp only [Prod.mk.injEq] at hzz
 obtain ⟨hz0, hz1, hz2⟩ := hzz
 have hlen : xs.length + 1 ≤ 140737488355328 := Nat.le_trans (Nat.le_mul_of_pos_right _ hb0) hl
 have HO' := Kd.own_of_R HO
 refine wpList_plain hgd fun K hK => ?_
 obtain ⟨v', w', hr, h2, h3, h4⟩ := run_append_own (P := P) (W.alloc (.cells #[.int k y] e)) base t o.type e i0 (.int k 0) 1 bytes ht hi hz0 hz1 hz2 rfl (by omega) v xs.length _ (HO'.alloc _) ⟨W.heap.size, 0, none⟩ 1 1 [.int k y] rfl
  (World.news_of_block (cs := #[.int k y]) (t := e) (fr := (0, 0)) (heap_alloc_new W _)) (by intro u hu; simp at hu; subst hu; rfl) (by simp only [maxLen]; omega) hl (by simp; omega)
 have hd := run_drawn P _ _ _ _ hr
 unfold Oper.wp execOp
 simp only [ho, resolve, invoke, builtin, Sem.run_bind, Sem.run_pure, Result.andThen_ok, List.map_toArray, List.map_cons, List.map_nil, hs, hx, hr]
 refine hK _ _ (h v' w' (Kd.R_of_own ?_ (fun _ _ => trivial)) ((HB.alloc hbase _).grown h3 (by simp; omega) (own_base HO')) hd)
 simpa [encs] using h2
theorem grow_of {w w' : World} (hb : Below w.heap.size w w') (hd : w.drawn ≤ w'.drawn) : ∃ q os, w' = Sort.grow (w.drewN q) os := by
 refine ⟨w'.drawn - w.drawn, w'.heap.extract w.heap.size w'.heap.size, ?_⟩
 obtain ⟨h1, h2, h3, h4, h5⟩ := hb
 obtain ⟨heap, tape, drawn, os, output⟩ := w
 obtain ⟨heap', tape', drawn', os', output'⟩ := w'
 simp only at h1 h2 h3 h4 h5 hd
 subst h1 h2 h3
 simp only [Sort.grow, World.drewN, World.mk.injEq]
 refine ⟨?_, trivial, by omega, trivial, trivial⟩
 apply Array.ext_getElem?
 intro i
 rw [Array.getElem?_append]
 split
 ·rename_i hi; exact h5 i hi
 ·rename_i hi
  rw [Array.getElem?_extract]
  split
  ·congr 1; omega
  ·apply Array.getElem?_eq_none; omega
theorem bits_Len_x (a0 : Int) (r : Int) (w : World) (h : bits_Len.f a0 = some r) :
  Calls Tryz.prog 108 #[.int .u64 a0] w fun e w' => e = .returned (.int .i64 r) ∧ w = w' := by
 unfold bits_Len.f at h
 split at h
 ·rename_i hc
  obtain rfl := Option.some.inj h
  exact (Tryz.bits_Len a0 w hc.1 hc.2).mono fun e w' ⟨h1, h2⟩ => ⟨h1, h2.symm⟩
 ·cases h
attribute [local go_sem] max2_int min2_int max_two min_two max_three min_three max_four min_four
set_option maxRecDepth 100000 in
set_option maxHeartbeats 1000000 in
theorem list_calls_d (k : Nat) (a0 : Int) (r : List Int) (w : World) (h : plan_mask_list.f k a0 = some r) :
  Calls Tryz.prog 74 #[.int .u64 a0] w fun e w' => ∃ v0_ : Value, e = .returned (v0_) ∧ Kd.R (Kd.int .i64) 3 w' w.heap.size (fun _ => True) v0_ r ∧ Below w.heap.size w w' ∧ w.drawn ≤ w'.drawn := by
 have HB := Aside0.mk (Below.refl w.heap.size w)
 have HD := Aside0.mk (Nat.le_refl w.drawn)
 have H : ((bits_Len.f a0).bind fun t117 => (plan_mask_list.l0 k a0 ([] : List Int) t117 0)) = some r := h
 clear h
 replace H := Option.bind_eq_some_iff.mp H
 obtain ⟨t117, A20, H⟩ := H
 (try dsimp only at H)
 have A2 := Aside0.mk A20
 clear A20
 have H' := Aside0.mk H
 clear H
 go_enter Tryz.func74, Tryz.ntmps74
 go_wp2_with (first | ((with_reducible refine gate_callee (f := 108) rfl ?_); refine goesL_ (some 6) rfl rfl Tryz.func108 (by kernel_rfl) rfl #[.int .u64 a0] rfl (by (try simp only [List.map_toArray, List.map_cons, List.map_nil]); first | done | rfl | (simp only [List.length_drop, List.length_take]; rfl)) ?_; (with_reducible refine (bits_Len_x a0 t117 _ A2.out).mono ?_); rintro e w3 ⟨rfl, rfl⟩; refine ⟨_, rfl, ?_⟩))
 go_loopg [3, 7] k (fun kq v3 v7 w' => ∃ (x3_1 : List Int) (x7_1 : Int), v7 = .int .i64 x7_1 ∧ Aside0 (plan_mask_list.l0 kq a0 x3_1 t117 x7_1 = some r) ∧ Aside0 (kq ≤ k) ∧ Aside0 (Kd.R (Kd.int .i64) 3 w' w.heap.size (fun _ => True) v3 x3_1) ∧ Aside0 (Below w.heap.size w w') ∧ Aside0 (w.drawn ≤ w'.drawn))
 case atStart => exact ⟨(([] : List Int)), (0), (by first | rfl | (simp; done) | (simp [*]; done)), H', ⟨Nat.le_refl _⟩, ⟨by first | exact Kd.R_nil _ _ _ _ _ | exact Kd.N_nil _ _ _ _ _ | exact Kd.V_nil _ _ _ _ _ | exact Kd.Q_nil _ _ _ _ _ | exact Kd.S_nil _ _ _ _ _⟩, ⟨by repeat (first | exact HB.out | apply below_alloc | apply pw_below_drewN | apply below_drew1)⟩, ⟨by have := HD.out; (try simp only [World.drewN, World.alloc]); omega⟩⟩
 case round =>
  clear H'
  try clear c1
  try clear p2
  obtain ⟨x3_1, x7_1, rfl, HA, HK1, HO_3, HB, HD⟩ := hrel
  cases gk with
  | zero => exact absurd HA.out (by simp [plan_mask_list.l0])
  | succ k1 =>
   have H := HA.out
   clear HA
   simp only [plan_mask_list.l0] at H
   by_cases c4 : x7_1 < t117
   ·rw [if_pos c4] at H
    have c4b0 : decide (x7_1 < t117) = true := decide_eq_true c4
    clear c4
    replace H := Option.bind_eq_some_iff.mp H
    obtain ⟨t118, A50, H⟩ := H
    (try dsimp only at H)
    have A5 := Aside0.mk A50
    clear A50
    by_cases c6 : t118 = true
    ·subst c6
     rw [if_pos rfl] at H
     by_cases c7 : x3_1.length < 17592186044416
     ·rw [if_pos c7] at H
      have LMc7 := Aside0.mk c7
      clear c7
      obtain ⟨y119, hy119⟩ : ∃ y_ : List Int, y_ = (x3_1 ++ [x7_1]) := ⟨_, rfl⟩
      replace H : (plan_mask_list.l0 k1 a0 y119 t117 (wrap64 (x7_1 + 1))) = some r := by first | (rw [hy119]; with_reducible exact H) | (have H2_ := (Option.bind_some _ _).symm.trans H; rw [hy119]; with_reducible exact H2_) | (have H2_ := (Option.bind_some _ _).symm.trans H; with_reducible exact H2_) | with_reducible exact H | (rw [hy119]; exact H) | exact H
      have Ny119 := Aside0.mk hy119
      clear hy119
      have H' := Aside0.mk H
      clear H
      go_wp2_with (first | ((with_reducible refine gate_callee (f := 107) rfl ?_); refine goesL_ (some 12) rfl rfl Tryz.func107 (by kernel_rfl) rfl #[.int .u64 a0, .int .i64 x7_1] rfl (by (try simp only [List.map_toArray, List.map_cons, List.map_nil]); first | done | rfl | (simp only [List.length_drop, List.length_take]; rfl)) ?_; (with_reducible refine (plan_mask_has.calls a0 x7_1 true _ A5.out).mono ?_); rintro e w' ⟨rfl, ⟨nd, rfl⟩⟩; refine ⟨_, rfl, ?_⟩) | ((with_reducible refine gate_builtin (b := .append) (xs := #[.tmp 13, .tmp 15]) rfl ?_); at_builtin; refine append_d .i64 (w0 := w) w.heap.size rfl (.tmp 13) (.tmp 15) 41 3 8 rfl Tryz.underlying41 info3 (by decide) u3 x3_1 x7_1 rfl rfl ?aO ?aB ?aS ?aL ?_; (case aB => exact (by repeat (first | exact HB.out | apply below_alloc | apply pw_below_drewN | apply below_drew1))); (case aO => exact (by (with_reducible repeat (first | apply Kd.R_alloc | apply Kd.R_drewN | apply Kd.R_drew)); exact HO_3.out)); (case aS => exact (below_size (by repeat (first | exact HB.out | apply below_alloc | apply pw_below_drewN | apply below_drew1)))); (case aL => have := LMc7.out; omega); intro v120 w8 ho hb hd; rw [← Ny119.out] at ho; have n0_ := Aside0.mk (hb); have n1_ := Aside0.mk (ho); have n2_ := Aside0.mk (show w.drawn ≤ w8.drawn by have := HD.out; (try simp only [World.drewN, World.alloc] at hd); omega); clear HB; clear HO_3; clear HD; have HB := n0_; have HO121 := n1_; have HD := n2_; clear n0_ n1_ n2_; clear ho hb hd))
      go_roundg k1
      case measure => have := HK1.out; omega
      case rel => exact ⟨(y119), (wrap64 (x7_1 + 1)), (by first | rfl | (simp; done) | (simp [*]; done)), H', ⟨by have := HK1.out; omega⟩, ⟨by (with_reducible repeat (first | apply Kd.R_alloc | apply Kd.R_drewN | apply Kd.R_drew)); exact HO121.out⟩, ⟨by repeat (first | exact HB.out | apply below_alloc | apply pw_below_drewN | apply below_drew1)⟩, ⟨by have := HD.out; (try simp only [World.drewN, World.alloc]); omega⟩⟩
     ·rw [if_neg c7] at H
      exact absurd H (by simp)
    ·replace c6 := Bool.eq_false_iff.mpr c6
     subst c6
     rw [if_neg (show ¬ (false = true) by decide)] at H
     have H' := Aside0.mk H
     clear H
     go_wp2_with (first | ((with_reducible refine gate_callee (f := 107) rfl ?_); refine goesL_ (some 12) rfl rfl Tryz.func107 (by kernel_rfl) rfl #[.int .u64 a0, .int .i64 x7_1] rfl (by (try simp only [List.map_toArray, List.map_cons, List.map_nil]); first | done | rfl | (simp only [List.length_drop, List.length_take]; rfl)) ?_; (with_reducible refine (plan_mask_has.calls a0 x7_1 false _ A5.out).mono ?_); rintro e w' ⟨rfl, ⟨nd, rfl⟩⟩; refine ⟨_, rfl, ?_⟩))
     go_roundg k1
     case measure => have := HK1.out; omega
     case rel => exact ⟨(x3_1), (wrap64 (x7_1 + 1)), (by first | rfl | (simp; done) | (simp [*]; done)), H', ⟨by have := HK1.out; omega⟩, ⟨by (with_reducible repeat (first | apply Kd.R_alloc | apply Kd.R_drewN | apply Kd.R_drew)); exact HO_3.out⟩, ⟨by repeat (first | exact HB.out | apply below_alloc | apply pw_below_drewN | apply below_drew1)⟩, ⟨by have := HD.out; (try simp only [World.drewN, World.alloc]); omega⟩⟩
   ·rw [if_neg c4] at H
    have c4b0 : decide (x7_1 < t117) = false := decide_eq_false c4
    clear c4
    obtain rfl := Option.some.inj H
    go_wp2
    go_ret
    exact ⟨_, rfl, by (with_reducible repeat (first | apply Kd.R_alloc | apply Kd.R_drewN | apply Kd.R_drew)); exact HO_3.out, by repeat (first | exact HB.out | apply below_alloc | apply pw_below_drewN | apply below_drew1), HD.out⟩
theorem list_x {m : Int} (h0 : 0 ≤ m) (h1 : m < 512) (w : World) : Calls Tryz.prog 74 #[.int .u64 m] w fun e w' => ∃ A c, e = .returned (.slice A (bitsL m).length c) ∧ (bitsL m).length ≤ c ∧ Kd.C (Kd.int .i64) w' A (bitsL m).length (bitsL m) ∧ Below w.heap.size w w' ∧ w.drawn ≤ w'.drawn :=
 (list_calls_d 12 m _ w (list_some h0 h1)).mono fun e w' ⟨v, he, hR, hb, hd⟩ => by
  obtain ⟨A, c, rfl, hc, hC⟩ := Kd.R_reads hR
  exact ⟨A, c, he, hc, hC, hb, hd⟩
def cmpL : List Int → List Int → Int
 | [], [] => 0
 | [], _ :: _ => -1
 | _ :: _, [] => 1
 | a :: xs, b :: ys => if a < b then -1 else if b < a then 1 else cmpL xs ys
theorem cmpL_self : ∀ a, cmpL a a = 0
 | [] => rfl
 | a :: xs => by simp [cmpL, cmpL_self xs]
theorem cmpL_anti : ∀ a b, cmpL b a = - cmpL a b
 | [], [] => rfl
 | [], _ :: _ => rfl
 | _ :: _, [] => rfl
 | a :: xs, b :: ys => by
  have := cmpL_anti xs ys
  simp only [cmpL]
  repeat' split
  all_goals omega
theorem cmpL_eq : ∀ a b, cmpL a b = 0 → a = b
 | [], [] => fun _ => rfl
 | [], _ :: _ => fun h => by simp [cmpL] at h
 | _ :: _, [] => fun h => by simp [cmpL] at h
 | a :: xs, b :: ys => fun h => by
  simp only [cmpL] at h
  split at h
  ·omega
  ·split at h
   ·omega
   ·have := cmpL_eq xs ys h
    have : a = b := by omega
    simp [*]
theorem cmpL_trans : ∀ a b c, cmpL a b < 0 → cmpL b c < 0 → cmpL a c < 0
 | [], [], _ => fun h => by simp [cmpL] at h
 | [], _ :: _, [] => fun _ h => by simp [cmpL] at h
 | [], _ :: _, _ :: _ => fun _ _ => by simp [cmpL]
 | _ :: _, [], _ => fun h => by simp [cmpL] at h
 | _ :: _, _ :: _, [] => fun _ h => by simp [cmpL] at h
 | a :: xs, b :: ys, c :: zs => fun h1 h2 => by
  have ih := cmpL_trans xs ys zs
  simp only [cmpL] at h1 h2 ⊢
  split at h1 <;> split at h2 <;> (try split at h1) <;> (try split at h2) <;> (try omega)
  all_goals
   repeat' split
   all_goals first | omega | exact ih h1 h2 | skip
def cmpM (a b : Int) : Int := if (bitsL a).length = (bitsL b).length then cmpL (bitsL a) (bitsL b) else ((bitsL a).length : Int) - (bitsL b).length
theorem cmpM_self (a : Int) : cmpM a a = 0 := by simp [cmpM, cmpL_self]
theorem cmpM_anti (a b : Int) : cmpM b a = - cmpM a b := by
 have := cmpL_anti (bitsL a) (bitsL b)
 unfold cmpM
 split <;> split <;> omega
theorem cmpM_trans (a b c : Int) (h1 : cmpM a b < 0) (h2 : cmpM b c < 0) : cmpM a c < 0 := by
 have := cmpL_trans (bitsL a) (bitsL b) (bitsL c)
 unfold cmpM at *
 split at h1 <;> split at h2 <;> split <;> first | omega | exact this h1 h2
theorem maskOf_bitsL_all : ∀ m : Fin 512, maskOf (bitsL (m.val : Int)) = (m.val : Int) := by decide +kernel
theorem maskOf_bitsL {m : Int} (h0 : 0 ≤ m) (h1 : m < 512) : maskOf (bitsL m) = m := by
 have := maskOf_bitsL_all ⟨m.toNat, by omega⟩
 simpa [Int.toNat_of_nonneg h0] using this
theorem bitsL_inj {a b : Int} (h0 : 0 ≤ a) (h1 : a < 512) (h2 : 0 ≤ b) (h3 : b < 512) (h : bitsL a = bitsL b) : a = b := by
 rw [← maskOf_bitsL h0 h1, ← maskOf_bitsL h2 h3, h]
theorem cmpM_eq {a b : Int} (h0 : 0 ≤ a) (h1 : a < 512) (h2 : 0 ≤ b) (h3 : b < 512) (h : cmpM a b = 0) : a = b := by
 refine bitsL_inj h0 h1 h2 h3 ?_
 unfold cmpM at h
 split at h
 ·exact cmpL_eq _ _ h
 ·omega
abbrev M9 := Fin 512
def cmpF (a b : M9) : Int := cmpM (a.val : Int) (b.val : Int)
theorem cmpF_eq {a b : M9} (h : cmpF a b = 0) : a = b := by
 have := cmpM_eq (by omega) (by have := a.isLt; omega) (by omega) (by have := b.isLt; omega) h
 exact Fin.ext (by omega)
theorem swoF : Sort.SWO (ltOf cmpF) where
 irrefl x := by simp [ltOf, cmpF, cmpM_self]
 trans x y z h1 h2 := by
  simp only [ltOf, decide_eq_true_eq] at *
  exact cmpM_trans _ _ _ h1 h2
 ntrans x y z h1 h2 := by
  simp only [ltOf, decide_eq_false_iff_not, Int.not_lt] at *
  have a1 : cmpF y x = - cmpF x y := cmpM_anti _ _
  have a2 : cmpF z y = - cmpF y z := cmpM_anti _ _
  have a3 : cmpF z x = - cmpF x z := cmpM_anti _ _
  by_cases e1 : cmpF x y = 0
  ·rw [cmpF_eq e1]; exact h2
  ·by_cases e2 : cmpF y z = 0
   ·rw [← cmpF_eq e2]; exact h1
   ·have : cmpF z x < 0 := cmpM_trans _ _ _ (show cmpM _ (y.val : Int) < 0 by show cmpF z y < 0; omega) (show cmpM (y.val : Int) _ < 0 by show cmpF y x < 0; omega)
    omega
theorem totF (x y : M9) (h1 : ltOf cmpF x y = false) (h2 : ltOf cmpF y x = false) : x = y := by
 simp only [ltOf, decide_eq_false_iff_not, Int.not_lt] at *
 have a1 : cmpF y x = - cmpF x y := cmpM_anti _ _
 exact cmpF_eq (by omega)
theorem compare_int (a b : Int) : cmp_Compare_int.f a b = some (if a < b then -1 else if b < a then 1 else 0) := by
 simp only [cmp_Compare_int.f, cmp_isNaN_int.f, Option.bind_some, bne_self_eq_false]
 simp only [Bool.false_eq_true, if_false]
 split
 ·rfl
 ·split <;> rfl
theorem compare_loop (a b : List Int) (ha : a.length ≤ 1000) : ∀ (k i : Nat), a.length - i < k → i ≤ a.length → (i ≤ b.length) → slices_Compare_int_int.l0 k a b a (a.length : Int) (i : Int) = some (cmpL (a.drop i) (b.drop i)) := by
 intro k
 induction k with
 | zero => intro i h; omega
 | succ k ih =>
  intro i hk hi hb
  simp only [slices_Compare_int_int.l0]
  rcases Nat.lt_or_ge i a.length with h1 | h1
  ·have e1 : (i : Int) < (a.length : Int) := by omega
   rw [if_pos e1, if_pos (by omega), if_pos e1]
   have ea : a.drop i = a[i] :: a.drop (i + 1) := List.drop_eq_getElem_cons h1
   have ra : rd a (i : Int) = a[i] := by simp [rd, h1]
   rcases Nat.lt_or_ge i b.length with h2 | h2
   ·rw [if_neg (by omega), if_pos (by omega), compare_int]
    have eb : b.drop i = b[i] :: b.drop (i + 1) := List.drop_eq_getElem_cons h2
    have rb : rd b (i : Int) = b[i] := by simp [rd, h2]
    rw [ea, eb, ra, rb]
    simp only [Option.bind_some, cmpL]
    have hw : wrap64 ((i : Int) + 1) = ((i + 1 : Nat) : Int) := by unfold wrap64; push_cast; omega
    split
    ·rfl
    ·split
     ·rfl
     ·rw [if_pos rfl, hw]
      exact ih (i + 1) (by omega) (by omega) (by omega)
   ·rw [if_pos (by omega)]
    have : b.drop i = [] := List.drop_eq_nil_iff.2 h2
    rw [this, ea]
    rfl
  ·rw [if_neg (by omega)]
   have : a.drop i = [] := List.drop_eq_nil_iff.2 h1
   rw [this]
   split
   ·rename_i h
    have h2 : i < b.length := by omega
    rw [List.drop_eq_getElem_cons h2]
    rfl
   ·rename_i h
    have : b.drop i = [] := List.drop_eq_nil_iff.2 (by omega)
    rw [this]
    rfl
theorem bitsL_len (m : Int) : (bitsL m).length ≤ 9 := by
 unfold bitsL
 rw [List.length_map]
 exact Nat.le_trans (List.length_filter_le _ _) (by simp)
theorem compare_some (a b : Int) : slices_Compare_int_int.f 10 (bitsL a) (bitsL b) = some (cmpL (bitsL a) (bitsL b)) := by
 have h := bitsL_len a
 have := compare_loop (bitsL a) (bitsL b) (by omega) 10 0 (by omega) (by omega) (by omega)
 simpa [slices_Compare_int_int.f] using this
theorem many_all : ∀ m : Fin 512, plan_mask_many.f (m.val : Int) = some ((bitsL (m.val : Int)).length : Int) := by decide +kernel
theorem many_some {m : Int} (h0 : 0 ≤ m) (h1 : m < 512) : plan_mask_many.f m = some ((bitsL m).length : Int) := by
 have := many_all ⟨m.toNat, by omega⟩
 simpa [Int.toNat_of_nonneg h0] using this
theorem C_below {α : Type} {d : Kd α} {w w' : World} {A : Option Addr} {l : List α} (hC : d.C w A l.length l) (hb : Below w.heap.size w w') : d.C w' A l.length l := Kd.C_below hC hb
set_option maxHeartbeats 1000000 in
set_option maxRecDepth 100000 in
theorem cmp_b {a b : Int} (a0 : 0 ≤ a) (a1 : a < 512) (b0 : 0 ≤ b) (b1 : b < 512) (w : World) :
  Calls Tryz.prog 116 #[.int .u64 a, .int .u64 b] w fun e w' => e = .returned (.int .i64 (cmpM a b)) ∧ Below w.heap.size w w' ∧ w.drawn ≤ w'.drawn := by
 have M1 := fun W => plan_mask_many.calls a _ W (many_some a0 a1)
 have M2 := fun W => plan_mask_many.calls b _ W (many_some b0 b1)
 have L1 := fun W => list_x a0 a1 W
 have L2 := fun W => list_x b0 b1 W
 have CC := compare_some a b
 have hla := bitsL_len a
 have hlb := bitsL_len b
 obtain ⟨r, hr⟩ : ∃ r, r = cmpM a b := ⟨_, rfl⟩
 rw [← hr]
 unfold cmpM at hr
 generalize bitsL a = la at *
 generalize bitsL b = lb at *
 obtain ⟨na, hna⟩ : ∃ n : Int, n = (la.length : Int) := ⟨_, rfl⟩
 obtain ⟨nb, hnb⟩ : ∃ n : Int, n = (lb.length : Int) := ⟨_, rfl⟩
 have HR := Aside0.mk hr
 clear hr
 have HM1 := Aside0.mk M1
 have HM2 := Aside0.mk M2
 have HL1 := Aside0.mk L1
 have HL2 := Aside0.mk L2
 have HCC := Aside0.mk CC
 clear M1 M2 L1 L2 CC
 have hw : wrap64 ((la.length : Int) - (lb.length : Int)) = (la.length : Int) - (lb.length : Int) := by unfold wrap64; omega
 have hA : (la.length = lb.length → r = cmpL la lb) ∧ (la.length ≠ lb.length → r = (la.length : Int) - (lb.length : Int)) := by
  have h := HR.out
  split at h
  ·rename_i h1; exact ⟨fun _ => h, fun h2 => absurd h1 h2⟩
  ·rename_i h1; exact ⟨fun h2 => absurd h2 h1, fun _ => h⟩
 clear HR
 have HA := Aside0.mk hA
 clear hA hna hnb na nb
 go_enter Tryz.func116, Tryz.ntmps116
 go_wp2_with (first | (go_at_call 117; first | (with_reducible refine (HM1.out _).mono ?_; rintro e w' ⟨rfl, ⟨nd, rfl⟩⟩) | (with_reducible refine (HM2.out _).mono ?_; rintro e w' ⟨rfl, ⟨nd, rfl⟩⟩)) | (go_at_call 74; first | (with_reducible refine (HL1.out _).mono ?_; rintro e w1 ⟨A1, c1, rfl, hc1, hC1, hb1, hd1⟩) | (with_reducible refine (HL2.out _).mono ?_; rintro e w2 ⟨A2, c2, rfl, hc2, hC2, hb2, hd2⟩)) | (go_at_call 87; refine (slices_Compare_int_int.calls 10 A1 c1 la A2 c2 lb _ _ (C_below hC1 hb2) hc1 hC2 hc2 HCC.out).mono ?_; rintro e w' ⟨rfl, ⟨nd, rfl⟩⟩))
 ·go_ret
  rename_i h
  refine ⟨congrArg (fun z => Ending.returned (.int .i64 z)) (HA.out.2 ?_).symm, pw_below_drewN (Below.refl _ _) _, by simp only [World.drewN]; omega⟩
  intro h2
  rw [h2] at h
  simp at h
 ·go_ret
  rename_i h
  refine ⟨congrArg (fun z => Ending.returned (.int .i64 z)) (HA.out.1 ?_).symm, ?_, ?_⟩
  ·simp at h; omega
  ·exact pw_below_drewN (below_step (below_step (pw_below_drewN (Below.refl _ _) _) hb1) hb2) _
  ·simp only [World.drewN] at *; omega
end Go.Proofs.YthonlcnmjlldiaaGreat.P
namespace Go.Proofs.YthonlcnmjlldiaaGreat.P
open Go.Shelf Go.RowKit Go.Proofs.YthonlcnmjlldiaaGreatW.PrintWords Go.Proofs.YthonlcnmjlldiaaGreatW.PrintLast Go.Proofs.YthonlcnmjlldiaaGreatW.PrintMore
attribute [local go_sem] max2_int min2_int max_two min_two max_three min_three max_four min_four
def subB (s m : Nat) : Bool := s &&& m == s
theorem andNot_nat {s m : Nat} (hs : s < 512) (hm : m < 512) : Go.bits .andNot .u64 (s : Int) (m : Int) = ((s &&& (s ^^^ (s &&& m)) : Nat) : Int) := by
 have e : (BitVec.ofNat 64 s &&& ~~~ (BitVec.ofNat 64 m)).toNat = s &&& (s ^^^ (s &&& m)) := by
  apply Nat.eq_of_testBit_eq
  intro i
  rw [BitVec.testBit_toNat]
  simp only [BitVec.getLsbD_and, BitVec.getLsbD_not, BitVec.getLsbD_ofNat, Nat.testBit_and, Nat.testBit_xor]
  by_cases h : i < 64
  ·simp [h]; cases s.testBit i <;> cases m.testBit i <;> rfl
  ·have : s.testBit i = false := Nat.testBit_lt_two_pow (Nat.lt_of_lt_of_le hs (Nat.le_trans (by decide : 512 ≤ 2 ^ 64) (Nat.pow_le_pow_right (by decide) (by omega))))
   simp [h, this]
 have h2 : s &&& (s ^^^ (s &&& m)) ≤ s := Nat.and_le_left
 show IntKind.u64.wrap (((BitVec.ofInt 64 (s : Int) &&& ~~~ BitVec.ofInt 64 (m : Int)).toNat : Nat) : Int) = _
 rw [BitVec.ofInt_natCast, BitVec.ofInt_natCast, e]
 simp only [IntKind.wrap, IntKind.bits, IntKind.signed, Bool.false_and, Bool.false_eq_true, if_false]
 omega
theorem subB_iff {s m : Nat} (hs : s < 512) (hm : m < 512) : (Go.bits .andNot .u64 (s : Int) (m : Int) == 0) = subB s m := by
 rw [andNot_nat hs hm]
 unfold subB
 rw [Bool.eq_iff_iff]
 simp only [beq_iff_eq]
 constructor
 ·intro h
  have h : s &&& (s ^^^ (s &&& m)) = 0 := by exact_mod_cast h
  apply Nat.eq_of_testBit_eq
  intro i
  have h2 := congrArg (fun n => n.testBit i) h
  simp only [Nat.testBit_and, Nat.testBit_xor, Nat.zero_testBit] at h2 ⊢
  cases hs : s.testBit i <;> cases hm : m.testBit i <;> simp_all
 ·intro h
  rw [h, Nat.xor_self, Nat.and_zero]
  rfl
def subsN (m k : Nat) : List Nat := (List.range k).filter (fun s => subB s m)
theorem subsN_succ (m k : Nat) : subsN m (k + 1) = if subB k m = true then subsN m k ++ [k] else subsN m k := by
 unfold subsN
 rw [List.range_succ, List.filter_append]
 split
 ·rename_i h; simp [h]
 ·rename_i h; simp [h]
theorem subsN_len (m k : Nat) : (subsN m k).length ≤ k := by
 unfold subsN
 exact Nat.le_trans (List.length_filter_le _ _) (by simp)
theorem subsN_mem {m k s : Nat} : s ∈ subsN m k ↔ s < k ∧ subB s m = true := by simp [subsN]
def partsF (m : Nat) : List M9 := ((subsN m (m + 1)).map (Fin.ofNat 512)).mergeSort (fun x y => !(ltOf cmpF) y x)
theorem subB_le {s m : Nat} (h : subB s m = true) : s ≤ m := by
 have : s &&& m = s := by simpa [subB] using h
 rw [← this]
 exact Nat.and_le_right
theorem partsF_mem {m : Nat} (hm : m < 512) {s : M9} : s ∈ partsF m ↔ subB s.val m = true := by
 unfold partsF
 rw [List.mem_mergeSort, List.mem_map]
 constructor
 ·rintro ⟨n, hn, rfl⟩
  obtain ⟨h1, h2⟩ := subsN_mem.1 hn
  have : (Fin.ofNat 512 n).val = n := by simp [Fin.ofNat]; omega
  rw [this]; exact h2
 ·intro h
  have := subB_le h
  exact ⟨s.val, subsN_mem.2 ⟨by omega, h⟩, by apply Fin.ext; simp [Fin.ofNat]⟩
theorem partsF_len (m : Nat) : (partsF m).length = (subsN m (m + 1)).length := by
 unfold partsF
 rw [List.length_mergeSort, List.length_map]
def encM (x : M9) : Value := .int .u64 (x.val : Int)
def PartsAt (W : World) (bx g cap : Nat) (zs : List M9) : Prop :=
 W.cell? ⟨bx, 0, none⟩ = some (.slice (some ⟨g, 0, none⟩) zs.length cap) ∧ (∀ j : Nat, j < zs.length → W.cell? ⟨g, j, none⟩ = some (encM zs[j]!)) ∧ g < W.heap.size ∧ bx < W.heap.size
theorem cmp_lays (w : World) (blk off size : Nat) : CmpLays1 Tryz.prog 116 #[] encM cmpF blk off size w := fun m os dk hs x y =>
 (cmp_b (a := (x.val : Int)) (b := (y.val : Int)) (by omega) (by have := x.isLt; omega) (by omega) (by have := y.isLt; omega) _).mono fun e w' ⟨he, hb, hd⟩ => ⟨he, grow_of hb hd⟩
theorem sort_b {w : World} {g cap : Nat} {d : List M9} {cur : Array Value} {e : TypeId} (hg : w.heap[g]? = some (.cells cur e (0, 0))) (ht : cur.toList.take d.length = d.map encM) (hsz : d.length < 4611686018427387904) :
  Calls Tryz.prog 115 #[.slice (some ⟨g, 0, none⟩) d.length cap, .func (.func 116) #[] #[]] w fun e w' => e = .returned (.tuple #[]) ∧
   (∀ j : Nat, j < d.length → w'.cell? ⟨g, j, none⟩ = some (encM (d.mergeSort (fun x y => !(ltOf cmpF) y x))[j]!)) ∧ w.heap.size ≤ w'.heap.size ∧ (∀ k, k < w.heap.size → k ≠ g → w'.heap[k]? = w.heap[k]?) ∧ w'.os = w.os ∧ w'.tape = w.tape ∧ w'.output = w.output := by
 have eg : ∀ args w, (callFunc 116 args).run Tryz.prog w = .ok (.enter 116 args) w := enters_of Tryz.func116 (by kernel_rfl) rfl
 have hblk : g < w.heap.size := (Array.getElem?_eq_some_iff.1 hg).1
 have hH : Sort.Holds encM w g 0 d.toArray := by
  intro j hj
  have hj' : j < d.length := by simpa using hj
  refine ⟨?_, by simp [World.frozen?, hg]⟩
  have h1 : (cur.toList.take d.length)[j]? = (d.map encM)[j]? := by rw [ht]
  rw [List.getElem?_take_of_lt hj'] at h1
  simp only [World.cell?, hg, Nat.zero_add]
  simp only [Option.isSome_none, Bool.false_eq_true, if_false]
  rw [← Array.getElem?_toList, h1]
  simp [hj']
 have hcon := Any.slices_SortFunc_total (α := M9) Tryz.sortK encM (fun _ => rfl) cmpF swoF 116 #[] g 0 cap d.toArray w eg (cmp_lays w g 0 _) hH hblk (by simpa using hsz) totF
 have hs : d.toArray.size = d.length := by simp
 rw [hs] at hcon
 refine hcon.mono ?_
 rintro e w' ⟨he, n, os, hw⟩
 subst hw
 have hH2 : Sort.Holds encM (sortWorld encM w g 0 n (d.toArray.toList.mergeSort fun x y => !(ltOf cmpF) y x).toArray os) g 0 (d.toArray.toList.mergeSort fun x y => !(ltOf cmpF) y x).toArray :=
  Sort.holds_grow _ _ _ _ _ _ (by simpa using hblk) (Sort.holds_putRow _ _ _ _ d.toArray _ (Sort.holds_ahead _ _ _ _ _ _ hH) (by simp))
 refine ⟨he, ?_, by simp [sortWorld], ?_, rfl, rfl, rfl⟩
 ·intro j hj
  have := (hH2 j (by simpa using hj)).1
  simpa using this
 ·intro k hk hne
  show (Sort.grow (Sort.putRow encM (Sort.ahead w n) g 0 _) os).heap[k]? = _
  rw [Sort.heap_grow_old _ _ (by simpa using hk)]
  simp [Sort.putRow, Sort.mapBlock, Sort.ahead, Array.getElem?_modify, Ne.symm hne]
def natsI (l : List Nat) : List Int := l.map Int.ofNat
theorem info_mask : (Tryz.prog.info? 93).map (fun i => (i.zero, i.size, i.bytes)) = some (some (Value.int .u64 0), 1, 8) := by kernel_rfl
theorem encs_partsF (m : Nat) (hm : m < 512) : encs (Value.int .u64) (natsI (subsN m (m + 1))) = ((subsN m (m + 1)).map (Fin.ofNat 512)).map encM := by
 unfold encs natsI
 rw [List.map_map, List.map_map]
 apply List.map_congr_left
 intro n hn
 have := (subsN_mem.1 hn).1
 simp only [Function.comp, encM, Fin.ofNat]
 congr 1
 show (n : Int) = ((n % 512 : Nat) : Int)
 omega
set_option maxHeartbeats 1000000 in
theorem values_b (A : Option Addr) (n cap : Nat) (w : World) :
  Calls Tryz.prog 118 #[.slice A n cap] w fun e w' => e = .returned (.func (.func 132) #[] #[.pointer (some ⟨w.heap.size, 0, none⟩)]) ∧ w' = w.alloc (.cells #[.slice A n cap] 84) := by
 go_enter Tryz.func118, Tryz.ntmps118
 go_wp2
 go_ret
 exact ⟨rfl, rfl⟩
set_option maxHeartbeats 1000000 in
set_option maxRecDepth 100000 in
theorem parts_b {m : Nat} (hm : m < 512) (w : World) :
  Calls Tryz.prog 86 #[.int .u64 (m : Int)] w fun e w' => ∃ bx g cap, e = .returned (.func (.func 132) #[] #[.pointer (some ⟨bx, 0, none⟩)]) ∧ PartsAt w' bx g cap (partsF m) ∧ w.heap.size ≤ g ∧ w.heap.size ≤ bx ∧ Below w.heap.size w w' := by
 have HB := Aside0.mk (Below.refl w.heap.size w)
 have hsub := fun k (hk : k < 512) => subB_iff hk hm
 have HS := Aside0.mk hsub
 clear hsub
 go_enter Tryz.func86, Tryz.ntmps86
 go_wp2
 go_loopg [3, 4] (m + 2) (fun gg v3 v4 wr => ∃ kk : Nat, kk ≤ m + 1 ∧ m + 1 - kk < gg ∧ v4 = .int .u64 (kk : Int) ∧ Aside0 ((Kd.int .u64).R 93 wr w.heap.size (fun _ => True) v3 (natsI (subsN m kk))) ∧ Aside0 (Below w.heap.size w wr))
 case atStart => exact ⟨0, by omega, by omega, rfl, ⟨Kd.R_nil _ _ _ _ _⟩, HB⟩
 case round =>
  clear HB
  obtain ⟨kk, hk, hgg, rfl, HR, HB⟩ := hrel
  have hbd := Aside0.mk (subsN_len m kk)
  cases gk with
  | zero => omega
  | succ g1 =>
  by_cases hlt : kk ≤ m
  ·have hd1 : decide ((kk : Int) ≤ (m : Int)) = true := by simp; omega
   have hd2 : decide (kk ≤ m) = true := by simp; omega
   have hw : IntKind.u64.wrap ((kk : Int) + 1) = ((kk + 1 : Nat) : Int) := by simp only [IntKind.wrap, IntKind.bits, IntKind.signed, Bool.false_and, Bool.false_eq_true, if_false]; push_cast; omega
   have hs := HS.out kk (by omega)
   have hsc := subsN_succ m kk
   by_cases hc : subB kk m = true
   ·rw [hc] at hs
    rw [if_pos hc] at hsc
    obtain ⟨ys, hys⟩ : ∃ ys, ys = natsI (subsN m (kk + 1)) := ⟨_, rfl⟩
    have hys2 : natsI (subsN m kk) ++ [(kk : Int)] = ys := by rw [hys, hsc]; simp [natsI]
    have HYS := Aside0.mk hys
    have HYS2 := Aside0.mk hys2
    clear hc hsc hys hys2
    have HL := Aside0.mk (show (natsI (subsN m kk)).length ≤ kk by simp [natsI]; exact hbd.out)
    clear hbd
    generalize natsI (subsN m kk) = xs at *
    go_wp2_with (at_builtin; refine append_d .u64 (w0 := w) w.heap.size rfl (.tmp 14) (.tmp 16) 84 93 8 rfl Tryz.underlying84 info_mask (by decide) u3 xs (kk : Int) rfl rfl HR.out HB.out HB.out.size ?aL ?_; (case aL => have := HL.out; omega); intro v1 w1 ho hb hd; rw [HYS2.out] at ho; clear HR HB; have HR := Aside0.mk ho; have HB := Aside0.mk hb; clear ho hb hd)
    go_roundg g1
    case measure => omega
    case rel => exact ⟨kk + 1, by omega, by omega, by go_num, ⟨by rw [← HYS.out]; exact HR.out⟩, HB⟩
   ·have hc' : subB kk m = false := by cases h : subB kk m <;> simp_all
    rw [hc'] at hs
    rw [if_neg hc] at hsc
    have HSC := Aside0.mk hsc
    clear hc hsc hc' hbd
    go_wp2
    go_roundg g1
    case measure => omega
    case rel => exact ⟨kk + 1, by omega, by omega, by go_num, ⟨by rw [HSC.out]; exact HR.out⟩, HB⟩
  ·obtain rfl : kk = m + 1 := by omega
   have hd1 : decide (((m + 1 : Nat) : Int) ≤ (m : Int)) = false := by simp; omega
   have hd2 : decide (m + 1 ≤ m) = false := by simp
   have hne : subsN m (m + 1) ≠ [] := by
    intro h
    have : 0 ∈ subsN m (m + 1) := subsN_mem.2 ⟨by omega, by simp [subB]⟩
    rw [h] at this
    simp at this
   have hbase := encs_partsF m hm
   have hown := Kd.own_of_R HR.out
   rw [hbase] at hown
   have hlen : (natsI (subsN m (m + 1))).length = (partsF m).length := by rw [partsF_len]; simp [natsI]
   rw [hlen] at hown
   have hl2 : ((subsN m (m + 1)).map (Fin.ofNat 512)).length = (partsF m).length := by rw [partsF_len]; simp
   have hsort : partsF m = ((subsN m (m + 1)).map (Fin.ofNat 512)).mergeSort (fun x y => !(ltOf cmpF) y x) := rfl
   have hbd2 := hbd.out
   rw [← partsF_len] at hbd2
   have hne2 : (partsF m).length ≠ 0 := by rw [partsF_len]; intro h; exact hne (List.length_eq_zero_iff.1 h)
   clear hbd hlt hk hgg HR hlen hne hbase HS
   generalize (subsN m (m + 1)).map (Fin.ofNat 512) = d at *
   obtain ⟨h1, ⟨rfl, h0⟩ | ⟨g, cap, cur, rfl, hb, hgg, hcap, hcap2, hcs, htk⟩⟩ := hown
   ·exact absurd h0 hne2
   rw [Nat.mul_one, ← hl2] at htk
   have hS := fun (W : World) (hW : W.heap[g]? = some (.cells cur 93 (0, 0))) => sort_b (cap := cap) hW htk (by omega)
   rw [← hsort, hl2] at hS
   have HS := Aside0.mk hS
   have HG := Aside0.mk hgg
   have HBB := Aside0.mk hb
   have HV := Aside0.mk (fun W => values_b (some ⟨g, 0, none⟩) (partsF m).length cap W)
   clear hS hgg hb htk h1 hcs hcap hcap2 hne2 hbd2 hl2 hsort
   go_wp2_with (first | (go_at_call 115; refine (HS.out _ HG.out).mono ?_; rintro e w2 ⟨rfl, hs1, hs2, hs3, hs4, hs5, hs6⟩; have HS1 := Aside0.mk hs1; have HS2 := Aside0.mk hs2; have HS3 := Aside0.mk hs3; clear hs1 hs2 hs3) | (go_at_call 118; refine (HV.out _).mono ?_; rintro e w3 ⟨rfl, rfl⟩))
   go_ret
   have hgl : g < wr.heap.size := (Array.getElem?_eq_some_iff.1 HG.out).1
   have hb2 : Below w.heap.size w w2 := ⟨hs4.trans HB.out.os, hs5.trans HB.out.tape, hs6.trans HB.out.output, Nat.le_trans HB.out.size HS2.out, fun k hk => (HS3.out k (Nat.lt_of_lt_of_le hk HB.out.size) (by have := HBB.out; omega)).trans (HB.out.block k hk)⟩
   have hgl2 : g < w2.heap.size := Nat.lt_of_lt_of_le hgl HS2.out
   refine ⟨w2.heap.size, g, cap, rfl, ⟨by simp, fun j hj => (World.cell?_alloc_lt _ _ (a := ⟨g, j, none⟩) hgl2).trans (HS1.out j hj), by simp; omega, by simp⟩, HBB.out, hb2.size, below_alloc hb2 _⟩
end Go.Proofs.YthonlcnmjlldiaaGreat.P
namespace Go.Proofs.YthonlcnmjlldiaaGreat.P
open Go.Shelf Go.RowKit Go.Proofs.YthonlcnmjlldiaaGreatW.PrintWords Go.Proofs.YthonlcnmjlldiaaGreatW.PrintLast Go.Proofs.YthonlcnmjlldiaaGreatW.PrintMore
attribute [local go_sem] Oper.semAt_some
def upto {α : Type} (f : Nat → α) (k : Nat) : List α := (List.range k).map f
theorem upto_succ {α : Type} (f : Nat → α) (k : Nat) : upto f (k + 1) = upto f k ++ [f k] := by simp [upto, List.range_succ]
theorem upto_length {α : Type} (f : Nat → α) (k : Nat) : (upto f k).length = k := by simp [upto]
theorem upto_take {α : Type} [Inhabited α] (zs : List α) {k : Nat} (hk : k ≤ zs.length) : upto (fun j => zs[j]!) k = zs.take k := by
 apply List.ext_getElem
 ·simp [upto, hk]
 ·intro i h1 h2
  have : i < zs.length := by simp [upto] at h1; omega
  simp [upto, this]
abbrev Sub (m : Nat) := { x : M9 // x.val ≤ m }
instance (m : Nat) : Inhabited (Sub m) := ⟨⟨0, by simp⟩⟩
def partsS {m : Nat} (hm : m < 512) : List (Sub m) := (partsF m).pmap Subtype.mk (fun a ha => subB_le ((partsF_mem hm).1 ha))
theorem partsS_map {m : Nat} (hm : m < 512) : (partsS hm).map Subtype.val = partsF m := by
 unfold partsS
 rw [List.map_pmap]
 simp
def KeepV (g bx : Nat) (W W' : World) : Prop := W'.heap[g]? = W.heap[g]? ∧ W'.heap[bx]? = W.heap[bx]?
theorem KeepV.trans {g bx : Nat} {A B C : World} (h : KeepV g bx A B) (k : KeepV g bx B C) : KeepV g bx A C := ⟨k.1.trans h.1, k.2.trans h.2⟩
theorem KeepV.refl (g bx : Nat) (A : World) : KeepV g bx A A := ⟨rfl, rfl⟩
theorem KeepV.cell {g bx : Nat} {A B : World} (h : KeepV g bx A B) (j : Nat) : B.cell? ⟨g, j, none⟩ = A.cell? ⟨g, j, none⟩ := by
 simp only [World.cell?, h.1]
theorem KeepV.below {g bx n : Nat} {A B : World} (h : Below n A B) (hg : g < n) (hb : bx < n) : KeepV g bx A B := ⟨h.block g hg, h.block bx hb⟩
theorem KeepV.putObj {w : World} {g bx : Nat} (hg : g < w.heap.size) (hb : bx < w.heap.size) (W : World) (l : Nat) (o o' : Obj) (hl : w.heap.size ≤ l) (h : W.heap[l]? = some o) (_ : o.isCells = false) (_ : o.isWalk = false) : KeepV g bx W (W.putObj l o') :=
 ⟨World.putObj_heap_other (by omega), World.putObj_heap_other (by omega)⟩
set_option maxRecDepth 100000 in
set_option maxHeartbeats 2000000 in
theorem values1_in {α : Type} (v : α → Int) (f : Nat → α) (F : Fence) (n : Nat) (h7 : F.fn 132) (hro : F.round = none) (hn : 1 ≤ n) (l bx g len cap : Nat) (hlen : len ≤ 1000) (J Jx : List α → World → Prop)
  (hY : ∀ pre x W, J pre W → pre.length < len → YieldAt F (n - 1) Tryz.prog l #[.int .u64 (v x)] W fun e W' =>
   (e = .returned (.bool true) ∧ J (pre ++ [x]) W' ∧ KeepV g bx W W') ∨ (e = .returned (.bool false) ∧ Jx (pre ++ [x]) W'))
  (W : World) (hBs : W.cell? ⟨bx, 0, none⟩ = some (.slice (some ⟨g, 0, none⟩) len cap)) (hc : ∀ j : Nat, j < len → W.cell? ⟨g, j, none⟩ = some (.int .u64 (v (f j)))) (h0 : J [] W) :
  CallsIn F n Tryz.prog 132 #[.func (.yield l) #[] #[], .pointer (some ⟨bx, 0, none⟩)] W fun e W' => (∃ v, e = .returned v) ∧
   ((∃ ys, ys = upto f len ∧ J ys W') ∨ (∃ pre, (∃ k, k ≤ len ∧ pre = upto f k) ∧ Jx pre W')) := by
 refine callsIn_of_wp Tryz.func132 rfl h7 ?_ hro
 simp only [Tryz.ntmps132, List.size_toArray, List.length_cons, List.length_nil, Nat.reduceAdd, Nat.reduceSub, Array.replicate_succ, Array.replicate_zero, List.push_toArray, List.append_toArray, List.nil_append, List.cons_append]
 gi_wp2
 gi_loopw [7] (fun i wr => ∃ k : Nat, k ≤ len ∧ i = .int .i64 k ∧ J (upto f k) wr ∧ KeepV g bx W wr)
  (fun i _ => len - (intOf i).toNat)
 case atStart => exact ⟨0, Nat.zero_le _, rfl, h0, KeepV.refl _ _ _⟩
 case round =>
  obtain ⟨k, hk, rfl, hJs, hnx⟩ := hrel
  have hcx : k < len → wr.cell? ⟨g, k, none⟩ = some (.int .u64 (v (f k))) := fun h => (hnx.cell k).trans (hc k h)
  by_cases hlt : k < len
  ·have hcx' := hcx hlt
   obtain ⟨x, hx⟩ : ∃ x, x = f k := ⟨_, rfl⟩
   rw [← hx] at hcx'
   obtain ⟨fn, tmps, assign, body, hy, hR⟩ := hY _ x wr hJs (by rw [upto_length]; exact hlt)
   obtain ⟨y, hy0⟩ : ∃ y, y = v x := ⟨_, rfl⟩
   rw [← hy0] at hy hcx'
   clear hy0
   have HX := Aside0.mk hx
   clear hc hcx hx
   gi_wp2
   refine hR.mono ?_
   rintro e W3 (⟨rfl, hJ3, hk3⟩ | ⟨rfl, hJx3⟩)
   ·gi_wp2
    go_roundw
    case rel => exact ⟨k + 1, by omega, by simp, by rw [upto_succ, ← HX.out]; exact hJ3, hnx.trans hk3⟩
    case measure => simp [intOf]; omega
   ·gi_wp2
    refine bodyPost_ret (results_none rfl _ _ _) rfl ?_
    exact ⟨⟨_, rfl⟩, .inr ⟨_, ⟨k + 1, by omega, by rw [HX.out]; exact (upto_succ _ _).symm⟩, hJx3⟩⟩
  ·obtain rfl : k = len := by omega
   gi_wp2
   go_end0
   exact ⟨⟨_, rfl⟩, .inl ⟨_, rfl, hJs⟩⟩
theorem PartsAt.below {W W' : World} {bx g cap : Nat} {zs : List M9} (h : PartsAt W bx g cap zs) (hb : Below W.heap.size W W') : PartsAt W' bx g cap zs :=
 ⟨(hb.cell (p := ⟨bx, 0, none⟩) h.2.2.2).trans h.1, fun j hj => (hb.cell (p := ⟨g, j, none⟩) h.2.2.1).trans (h.2.1 j hj), Nat.lt_of_lt_of_le h.2.2.1 hb.size, Nat.lt_of_lt_of_le h.2.2.2 hb.size⟩
theorem values_stops (F : Fence) (n : Nat) (h7 : F.fn 132) (hro : F.round = none) (hn : 1 ≤ n) {bx g cap m : Nat} (hm : m < 512) {w : World} (hP : PartsAt w bx g cap (partsF m)) :
  SeqStopsK F n Tryz.prog 132 #[.pointer (some ⟨bx, 0, none⟩)] (fun x : Sub m => #[Value.int .u64 (x.val.val : Int)]) (KeepV g bx) (fun ys => ys = partsS hm) (fun pre => pre <+: partsS hm) (partsF m).length w := fun l J Jx W hW _ _ hY h0 => by
 have hP' := hP.below hW
 have hl : (partsS hm).length = (partsF m).length := by rw [← partsS_map hm, List.length_map]
 have hlen : (partsF m).length ≤ 1000 := by
  have h2 := subsN_len m (m + 1)
  have h3 := partsF_len m
  omega
 refine (values1_in (α := Sub m) (fun x => (x.val.val : Int)) (fun j => (partsS hm)[j]!) F n h7 hro hn l bx g (partsF m).length cap hlen J Jx hY W hP'.1 (fun j hj => ?_) h0).mono ?_
 ·rw [hP'.2.1 j hj]
  have h1 : (partsF m)[j]! = ((partsS hm)[j]!).val := by
   rw [getElem!_pos _ j hj, getElem!_pos _ j (by omega)]
   have := congrArg (fun l => l[j]?) (partsS_map hm)
   simp only [List.getElem?_map] at this
   rw [List.getElem?_eq_getElem hj, List.getElem?_eq_getElem (by omega)] at this
   simpa using this.symm
  rw [h1]
  rfl
 rintro e W' ⟨he, ⟨ys, rfl, hj⟩ | ⟨pre, ⟨k, hk, rfl⟩, hj⟩⟩
 ·exact ⟨he, .inl ⟨_, by rw [upto_take _ (by omega), ← hl, List.take_length], hj⟩⟩
 ·exact ⟨he, .inr ⟨_, by rw [upto_take _ (by omega)]; exact List.take_prefix _ _, hj⟩⟩
theorem results_cell2 {fn : Func} {p q : Tmp} {t1 t2 : TypeId} (h : fn.results = #[.cell p t1, .cell q t2]) (tmps : Array Value) (P : Program) (w : World) {b1 b2 : Nat} {v1 v2 : Value}
  (h1 : tmps.getD p undef = .pointer (some ⟨b1, 0, none⟩)) (h2 : tmps.getD q undef = .pointer (some ⟨b2, 0, none⟩)) (l1 : (loadVar t1 ⟨b1, 0, none⟩).run P w = .ok v1 w) (l2 : (loadVar t2 ⟨b2, 0, none⟩).run P w = .ok v2 w) :
  (results fn tmps).run P w = .ok (.tuple #[v1, v2]) w := by
 have h1' : tmps[p]?.getD undef = .pointer (some ⟨b1, 0, none⟩) := by simpa using h1
 have h2' : tmps[q]?.getD undef = .pointer (some ⟨b2, 0, none⟩) := by simpa using h2
 simp only [results, h]
 simp [Sem.run_bind, Result.andThen, h1', h2', l1, l2, asAddr]
theorem lv_one {P : Program} {t : TypeId} {w : World} {a : Addr} {v : Value} (ha : (isAgg t).run P w = .ok false w) (hc : w.cell? a = some v) : (loadVar t a).run P w = .ok v w := by
 simp [loadVar, Sem.run_bind, ha, load, Sem.run, hc]
def RM (w : World) (mb : Nat) (k : List Seat) (l : List Order) : Prop := ∃ g, RMap w mb g ∧ ∀ x y, g x = some y → 0 ≤ x ∧ x < 512 ∧ y = roomI k l x
theorem RM.step {w w' : World} {mb : Nat} {k : List Seat} {l : List Order} (h : RM w mb k l) (hb : w'.heap[mb]? = w.heap[mb]?) : RM w' mb k l := by
 obtain ⟨g, h1, h2⟩ := h
 exact ⟨g, h1.step hb, h2⟩
theorem RM.isMap {w : World} {mb : Nat} {k : List Seat} {l : List Order} (h : RM w mb k l) : ∃ es cl, w.heap[mb]? = some (.map es cl) := by
 obtain ⟨g, h1, h2⟩ := h
 exact h1.isMap
theorem Off.rm {w : World} {ob mb : Nat} {k : List Seat} {l : List Order} (h : Off w ob mb k l) : RM w mb k l := by
 obtain ⟨A, c0, B, c1, g, h1, h2, h3, h4, h5, h6, h7⟩ := h
 exact ⟨g, h6, h7⟩
theorem Off.grow {w w' : World} {ob mb : Nat} {k : List Seat} {l : List Order} (h : Off w ob mb k l) (hg : w.grownBy w' (some mb)) (hm : RM w' mb k l) : Off w' ob mb k l := by
 have hlt := h.lt
 have hM := h.isMap
 obtain ⟨A, c0, B, c1, g, h1, h2, h3, h4, h5, h6, h7⟩ := h
 obtain ⟨g', m1, m2⟩ := hm
 exact ⟨A, c0, B, c1, g', (hg.block ob hlt.1 (by simp; exact hlt.2.2)).trans h1, C_grown_map k70_any (by decide) h2 hg hM, h3, C_grown_map k72_any (by decide) h4 hg hM, h5, m1, m2⟩
theorem grown_own {w W W' : World} {mb : Nat} {row : Option Nat} (h : w.grownBy W (some mb)) (k : W.grownBy W' row) (hr : ∀ x, row = some x → w.heap.size ≤ x) : w.grownBy W' (some mb) :=
 ⟨k.os.trans h.os, k.tape.trans h.tape, k.output.trans h.output, Nat.le_trans h.size k.size, fun i hi hne => (k.block i (Nat.lt_of_lt_of_le hi h.size) (fun e => by have := hr i e.symm; omega)).trans (h.block i hi hne)⟩
def crowdV : Option M9 → Value
 | some s => .tuple #[.int .u64 (s.val : Int), .bool true]
 | none => .tuple #[.int .u64 0, .bool false]
def crowdI (k : List Seat) (l : List Order) (m : Nat) : Option M9 := (partsF m).find? (fun s => crowdB k l (s.val : Int))
theorem two_lt {n m : Nat} (h9 : n ≤ 9) (h : m < 2 ^ n) : m < 512 := Nat.lt_of_lt_of_le h (Nat.pow_le_pow_right (by omega) h9)
theorem partsF_le {m : Nat} (hm : m < 512) {s : M9} (h : s ∈ partsF m) : s.val ≤ m := subB_le ((partsF_mem hm).1 h)
theorem lt_two {n m s : Nat} (h : m < 2 ^ n) (hs : s ≤ m) : ((s : Nat) : Int) < 2 ^ n := by
 have : ((s : Nat) : Int) < ((2 ^ n : Nat) : Int) := Int.ofNat_lt.2 (by omega)
 rwa [Int.natCast_pow] at this
theorem crowdI_some {k : List Seat} {l : List Order} {m : Nat} (hm : m < 512) {pre : List (Sub m)} {s : Sub m} (hp : pre ++ [s] <+: partsS hm) (h0 : ∀ x ∈ pre, crowdB k l (x.val.val : Int) = false) (h1 : crowdB k l (s.val.val : Int) = true) : crowdI k l m = some s.val := by
 obtain ⟨rest, hr⟩ := hp
 unfold crowdI
 rw [← partsS_map hm, ← hr]
 rw [List.find?_map]
 have : (pre ++ [s] ++ rest).find? ((fun s : M9 => crowdB k l (s.val : Int)) ∘ Subtype.val) = some s := by
  rw [List.append_assoc, List.find?_append, List.find?_eq_none.2 (by intro x hx; simp [h0 x hx])]
  simp [h1]
 rw [this]
 rfl
theorem crowdI_none {k : List Seat} {l : List Order} {m : Nat} (hm : m < 512) (h0 : ∀ x ∈ partsS hm, crowdB k l (x.val.val : Int) = false) : crowdI k l m = none := by
 unfold crowdI
 rw [← partsS_map hm, List.find?_map, List.find?_eq_none.2 (by intro x hx; simp [h0 x hx])]
 rfl
set_option maxHeartbeats 2000000 in
set_option maxRecDepth 100000 in
theorem crowd_b {w : World} {ob mb : Nat} {k : List Seat} {l : List Order} {m : Nat} (hO : Off w ob mb k l) (hF : Fine k l) (h1 : m < 2 ^ l.length) :
  Calls Tryz.prog 73 #[.pointer (some ⟨ob, 0, none⟩), .int .u64 (m : Int)] w fun e w' => e = .returned (crowdV (crowdI k l m)) ∧ Off w' ob mb k l ∧ w.grownBy w' (some mb) := by
 have hm := two_lt hF.h9 h1
 have hp := fun W => parts_b hm W
 have HP := Aside0.mk hp
 have HO := Aside0.mk hO
 have HF := Aside0.mk hF
 have HM := Aside0.mk (fun (s : Sub m) => lt_two h1 s.2)
 have HLT := Aside0.mk hO.lt
 have HC1 := Aside0.mk (fun (pre : List (Sub m)) (s : Sub m) => @crowdI_some k l m hm pre s)
 have HC2 := Aside0.mk (@crowdI_none k l m hm)
 have HHM := Aside0.mk hm
 clear hp hO hF h1
 generalize crowdI k l m = r at *
 refine (callsIn_wide (n := 5)).1 ?_
 refine callsIn_of_wp_marks Tryz.func73 rfl trivial ?_ rfl
 simp only [Tryz.ntmps73, List.size_toArray, List.length_cons, List.length_nil, Nat.reduceAdd, Nat.reduceSub, Array.replicate_succ, Array.replicate_zero, List.push_toArray, List.append_toArray, List.nil_append, List.cons_append]
 gi_wp2_with (refine ⟨trivial, ?_⟩; gi_at_call 86; refine (callsIn_wide.2 (HP.out _)).mono ?_; rintro e W2 ⟨bx, g, cap, rfl, hPA, hlg, hlb, hbe⟩; have HPA := Aside0.mk hPA; have HBE := Aside0.mk hbe; clear hPA hbe)
 obtain ⟨W1, hW1⟩ : ∃ W1, (((w.alloc (.cells #[.pointer (some ⟨ob, 0, none⟩)] 80)).alloc (.cells #[.int .u64 0] 93)).alloc (.cells #[.bool false] 4)) = W1 := ⟨_, rfl⟩
 have b0 : Boxed W1 w.heap.size 80 (.pointer (some ⟨ob, 0, none⟩)) := by rw [← hW1]; exact ((Boxed.new w _ _).alloc _).alloc _
 have b1 : Boxed W1 (w.heap.size + 1) 93 (.int .u64 0) := by
  rw [← hW1]
  have := (Boxed.new (w.alloc (.cells #[.pointer (some ⟨ob, 0, none⟩)] 80)) 93 (.int .u64 0)).alloc (.cells #[.bool false] 4)
  rwa [World.size_alloc] at this
 have b2 : Boxed W1 (w.heap.size + 1 + 1) 4 (.bool false) := by
  rw [← hW1]
  have := (Boxed.new ((w.alloc (.cells #[.pointer (some ⟨ob, 0, none⟩)] 80)).alloc (.cells #[.int .u64 0] 93)) 4 (.bool false))
  rwa [World.size_alloc, World.size_alloc] at this
 have hbw : Below w.heap.size w W1 := by rw [← hW1]; exact below_alloc (below_alloc (below_alloc (Below.refl _ _) _) _) _
 have hsz1 : W1.heap.size = w.heap.size + 1 + 1 + 1 := by rw [← hW1]; simp
 rw [hW1] at HBE hlg hlb
 clear hW1
 have hb2 := HBE.out
 have c0 : Boxed W2 w.heap.size 80 (.pointer (some ⟨ob, 0, none⟩)) := (hb2.block _ b0.lt).trans b0
 have c1 : Boxed W2 (w.heap.size + 1) 93 (.int .u64 0) := (hb2.block _ b1.lt).trans b1
 have c2 : Boxed W2 (w.heap.size + 1 + 1) 4 (.bool false) := (hb2.block _ b2.lt).trans b2
 have hbw2 : Below w.heap.size w W2 := below_refl_trans hbw hb2
 have hO2 := HO.out.below hbw2
 have hbs := hb2.size
 have hgl := HPA.out.2.2
 have hlt := HLT.out
 refine wpIn_rangeFunc_ownG rfl (by omega) (gf := 132) (lb := #[.pointer (some ⟨bx, 0, none⟩)]) rfl trivial (enters_of Tryz.func132 (by kernel_rfl) rfl) (values_stops Fence.wide 4 trivial rfl (by omega) HHM.out HPA.out) KeepV.trans (KeepV.putObj hgl.1 hgl.2) (Below.refl _ _) (fun _ => rfl)
  (fun pre W => (RM W mb k l ∧ w.grownBy W (some mb) ∧ Boxed W w.heap.size 80 (.pointer (some ⟨ob, 0, none⟩)) ∧ Boxed W (w.heap.size + 1) 93 (.int .u64 0) ∧ Boxed W (w.heap.size + 1 + 1) 4 (.bool false) ∧ W2.heap.size ≤ W.heap.size) ∧ ∀ x ∈ pre, crowdB k l (x.val.val : Int) = false)
  (fun c pre W => c = .ret ∧ ∃ pre0 s, pre = pre0 ++ [s] ∧ (∀ x ∈ pre0, crowdB k l (x.val.val : Int) = false) ∧ crowdB k l (s.val.val : Int) = true ∧ RM W mb k l ∧ w.grownBy W (some mb) ∧ Boxed W (w.heap.size + 1) 93 (.int .u64 (s.val.val : Int)) ∧ Boxed W (w.heap.size + 1 + 1) 4 (.bool true))
  ?hI ?hIx ?h0
  (fun x => { tmps := #[.pointer (some ⟨ob, 0, none⟩), .int .u64 (m : Int), .pointer (some ⟨w.heap.size, 0, none⟩), undef, .pointer (some ⟨w.heap.size + 1, 0, none⟩), .pointer (some ⟨w.heap.size + 1 + 1, 0, none⟩), .int .u64 (x.val.val : Int), .int .u64 (m : Int), .func (.func 132) #[] #[.pointer (some ⟨bx, 0, none⟩)], .int .u64 (x.val.val : Int), undef, undef, undef, undef], defers := [] }) ?assign ?body ?done ?stop
 case hI =>
  rintro pre W W' row ⟨⟨g1, g2, g3, g4, g5, g6⟩, g7⟩ hg hr
  have hne : ∀ b : Nat, b < W2.heap.size → some b ≠ row := fun b hb e => by have := (hr _ e.symm).1; omega
  exact ⟨⟨g1.step (hg.block mb (by omega) (hne _ (by omega))), grown_own g2 hg (fun x e => by have := (hr x e).1; omega), g3.kept hg (hne _ (by omega)), g4.kept hg (hne _ (by omega)), g5.kept hg (hne _ (by omega)), Nat.le_trans g6 hg.size⟩, g7⟩
 case hIx =>
  rintro c pre W W' row ⟨rfl, pre0, s, g0, g00, g000, g1, g2, g4, g5⟩ hg hr
  have hne : ∀ b : Nat, b < W2.heap.size → some b ≠ row := fun b hb e => by have := (hr _ e.symm).1; omega
  have hs2 := g2.size
  exact ⟨rfl, pre0, s, g0, g00, g000, g1.step (hg.block mb (by omega) (hne _ (by omega))), grown_own g2 hg (fun x e => by have := (hr x e).1; omega), g4.kept hg (hne _ (by omega)), g5.kept hg (hne _ (by omega))⟩
 case h0 => exact ⟨⟨hO2.rm, grown_of_below hbw2 _, c0, c1, c2, Nat.le_refl _⟩, by simp⟩
 case assign =>
  intro l x W K hK
  gi_wp2
  exact hK
 case body =>
  rintro l' pre x W ⟨⟨g1, g2, g3, g4, g5, g6⟩, g7⟩ _
  have hx := HM.out x
  have hcr := isCrowd_b (HO.out.grow g2 g1) HF.out (by omega) hx
  have HCR := Aside0.mk hcr
  have G7 := Aside0.mk g7
  have G2 := Aside0.mk g2
  have e0 := g3.cell
  clear hcr g7 g1 g2
  cases hc : crowdB k l (x.val.val : Int)
  ·rw [hc] at HCR
   have HC := Aside0.mk hc
   clear hc
   gi_wp2_with (refine ⟨trivial, ?_⟩; gi_at_call 54; refine (CallsIn.inRound l' (callsIn_wide.2 HCR.out)).mono ?_; rintro e W3 ⟨rfl, hO3, hg3⟩)
   refine ⟨KeepsFrom.of_grownBy hg3 (fun j e => by cases e; omega), ⟨hg3.block _ (by omega) (by simp; omega), hg3.block _ (by omega) (by simp; omega)⟩, ⟨hO3.rm, grown_trans G2.out hg3, g3.kept hg3 (by simp; omega), g4.kept hg3 (by simp; omega), g5.kept hg3 (by simp; omega), Nat.le_trans g6 hg3.size⟩, ?_⟩
   intro y hy
   rcases List.mem_append.1 hy with h | h
   ·exact G7.out y h
   ·rw [List.mem_singleton.1 h]; exact HC.out
  ·rw [hc] at HCR
   have HC := Aside0.mk hc
   clear hc
   gi_wp2_with (refine ⟨trivial, ?_⟩; gi_at_call 54; refine (CallsIn.inRound l' (callsIn_wide.2 HCR.out)).mono ?_; rintro e W3 ⟨rfl, hO3, hg3⟩; have d1 := g4.kept hg3 (by simp; omega); have d2 := g5.kept hg3 (by simp; omega); have e1 := d1.cell; have f1 := d1.frozen; have e2 := d2.cell; have f2 := d2.frozen)
   have k1 := grownBy_setCell' W3 (w.heap.size + 1) (.int .u64 (x.val.val : Int))
   have k2 := grownBy_setCell' (W3.setCell ⟨w.heap.size + 1, 0, none⟩ (.int .u64 (x.val.val : Int))) (w.heap.size + 1 + 1) (.bool true)
   have hsz3 := hg3.size
   have m1 : mb < W3.heap.size := by omega
   refine ⟨(KeepsFrom.of_grownBy hg3 (fun j e => by cases e; omega)).trans (((KeepsOthers.setCell _ _ _).from _).trans ((KeepsOthers.setCell _ _ _).from _)), rfl, pre, x, rfl, G7.out, HC.out, (hO3.rm.step (k1.block mb m1 (by simp; omega))).step (k2.block mb (by have := k1.size; omega) (by simp; omega)), grown_own (grown_own (grown_trans G2.out hg3) k1 (fun x e => by cases e; omega)) k2 (fun x e => by cases e; omega), (d1.set _).kept k2 (by simp), (d2.kept k1 (by simp)).set _⟩
 case done =>
  rintro D ys W hD rfl ⟨⟨g1, g2, g3, g4, g5, g6⟩, g7⟩ hK
  have e1 := g4.cell
  have f1 := g4.frozen
  have e2 := g5.cell
  have f2 := g5.frozen
  have HR := Aside0.mk (HC2.out g7)
  have G2 := Aside0.mk g2
  have G1 := Aside0.mk g1
  have G4 := Aside0.mk g4
  have G5 := Aside0.mk g5
  clear g7 g1 g2 g4 g5
  gi_wp2
  have k1 := grownBy_setCell' W (w.heap.size + 1) (.int .u64 0)
  have k2 := grownBy_setCell' (W.setCell ⟨w.heap.size + 1, 0, none⟩ (.int .u64 0)) (w.heap.size + 1 + 1) (.bool false)
  have hK2 := (KeepsOthers.setCell (W.setCell ⟨w.heap.size + 1, 0, none⟩ (.int .u64 0)) ⟨w.heap.size + 1 + 1, 0, none⟩ (.bool false)).same D _ ((KeepsOthers.setCell W ⟨w.heap.size + 1, 0, none⟩ (.int .u64 0)).same D _ hK rfl) rfl
  refine ⟨by simp, .inl ⟨_, _, rfl, run_takeDeferred hK2, ?_⟩⟩
  have k3 := grownBy_putObj' ((W.setCell ⟨w.heap.size + 1, 0, none⟩ (.int .u64 0)).setCell ⟨w.heap.size + 1 + 1, 0, none⟩ (.bool false)) D (.deferred none)
  have r1 := ((G4.out.set (.int .u64 0)).kept k2 (by simp)).kept k3 (by simp; omega)
  have r2 := ((G5.out.kept k1 (by simp)).set (.bool false)).kept k3 (by simp; omega)
  have s1 := k1.size
  have s2 := k2.size
  have hgr := grown_own (grown_own (grown_own G2.out k1 (fun x e => by cases e; omega)) k2 (fun x e => by cases e; omega)) k3 (fun x e => by cases e; omega)
  refine ⟨_, results_cell2 rfl _ _ _ rfl rfl (lv_one (Tryz.isAgg93 _) r1.cell) (lv_one (Tryz.isAgg4 _) r2.cell), ?_⟩
  refine ⟨by rw [HR.out]; rfl, HO.out.grow hgr (((G1.out.step (k1.block mb (by omega) (by simp; omega))).step (k2.block mb (by omega) (by simp; omega))).step (k3.block mb (by omega) (by simp; omega))), hgr⟩
 case stop =>
  rintro D c pre W hD hp ⟨rfl, pre0, s, rfl, g7, g0, g1, g2, g4, g5⟩ hK
  have HR := Aside0.mk (HC1.out pre0 s hp g7 g0)
  have hsz2 := g2.size
  gi_wp2
  refine ⟨by simp, .inl ⟨_, _, rfl, run_takeDeferred hK, ?_⟩⟩
  have k3 := grownBy_putObj' W D (.deferred none)
  have r1 := g4.kept k3 (by simp; omega)
  have r2 := g5.kept k3 (by simp; omega)
  have hgr := grown_own g2 k3 (fun x e => by cases e; omega)
  refine ⟨_, results_cell2 rfl _ _ _ rfl rfl (lv_one (Tryz.isAgg93 _) r1.cell) (lv_one (Tryz.isAgg4 _) r2.cell), ?_⟩
  refine ⟨by rw [HR.out]; rfl, HO.out.grow hgr (g1.step (k3.block mb (by omega) (by simp; omega))), hgr⟩
end Go.Proofs.YthonlcnmjlldiaaGreat.P
namespace Go.Proofs.YthonlcnmjlldiaaGreat.P
open Go.Shelf Go.RowKit Go.Proofs.YthonlcnmjlldiaaGreatW.PrintWords Go.Proofs.YthonlcnmjlldiaaGreatW.PrintLast Go.Proofs.YthonlcnmjlldiaaGreatW.PrintMore
def fitsB (k : List Seat) (l : List Order) (m : Nat) : Bool := (crowdI k l m).isNone
set_option maxHeartbeats 1000000 in
set_option maxRecDepth 100000 in
theorem fits_b {w : World} {ob mb : Nat} {k : List Seat} {l : List Order} {m : Nat} (hO : Off w ob mb k l) (hF : Fine k l) (h1 : m < 2 ^ l.length) :
  Calls Tryz.prog 64 #[.pointer (some ⟨ob, 0, none⟩), .int .u64 (m : Int)] w fun e w' => e = .returned (.bool (fitsB k l m)) ∧ Off w' ob mb k l ∧ w.grownBy w' (some mb) := by
 have hc := crowd_b hO hF h1
 have hr : fitsB k l m = (crowdI k l m).isNone := rfl
 generalize fitsB k l m = r at *
 generalize crowdI k l m = c at *
 cases c with
 | none =>
  obtain rfl : r = true := hr
  have HC := Aside0.mk (show Calls _ _ _ _ fun e w' => e = .returned (.tuple #[.int .u64 0, .bool false]) ∧ Off w' ob mb k l ∧ w.grownBy w' (some mb) from hc)
  clear hc hO hF h1
  go_enter Tryz.func64, Tryz.ntmps64
  go_wp2_with fail
  refine HC.out.mono ?_
  rintro e w2 ⟨rfl, hO, hg⟩
  go_wp2
  go_ret
  exact ⟨rfl, hO, hg⟩
 | some s =>
  obtain rfl : r = false := hr
  have HC := Aside0.mk (show Calls _ _ _ _ fun e w' => e = .returned (.tuple #[.int .u64 (s.val : Int), .bool true]) ∧ Off w' ob mb k l ∧ w.grownBy w' (some mb) from hc)
  clear hc hO hF h1
  go_enter Tryz.func64, Tryz.ntmps64
  go_wp2_with fail
  refine HC.out.mono ?_
  rintro e w2 ⟨rfl, hO, hg⟩
  go_wp2
  go_ret
  exact ⟨rfl, hO, hg⟩
def crowdL (o : Option M9) : List Int × Int := match o with | some s => (bitsL (s.val : Int), 0) | none => ([], 64)
def plan_Crowd.f (l0 : List Seat) (l1 : List Order) (l2 : List Int) : Option (List Int × Int) := some (if askSetErr l0 l1 l2 = 0 then crowdL (crowdI l0 l1 (maskOf l2)) else ([], askSetErr l0 l1 l2))
set_option maxHeartbeats 1000000 in
set_option maxRecDepth 100000 in
theorem plan_Crowd.calls (A0 : Option Addr) (c0 : Nat) (l0 : List Seat) (A1 : Option Addr) (c1 : Nat) (l1 : List Order) (A2 : Option Addr) (c2 : Nat) (l2 : List Int) (r1 : List Int) (r2 : Int) (w : World) (hr0 : KS w A0 l0) (hc0 : l0.length ≤ c0) (hr1 : KO w A1 l1) (hc1 : l1.length ≤ c1) (hr2 : KI w A2 l2) (hc2 : l2.length ≤ c2) (h : plan_Crowd.f l0 l1 l2 = some (r1, r2)) :
  Calls Tryz.prog 25 #[.slice A0 l0.length c0, .slice A1 l1.length c1, .slice A2 l2.length c2] w fun e w' => ∃ v0_ : Value, e = .returned (.tuple #[v0_, .int .i64 r2]) ∧ Kd.R (Kd.int .i64) 3 w' w.heap.size (fun _ => True) v0_ r1 ∧ Below w.heap.size w w' := by
 unfold plan_Crowd.f at h
 by_cases he : askSetErr l0 l1 l2 = 0
 ·rw [if_pos he] at h
  simp only [Option.some.injEq] at h
  have hE := h
  clear h
  obtain ⟨ha, hs⟩ := askSet_split he
  have hF := (fine_ask ha).1
  have hm := maskOf_lt l2 (setFrom_mem hs)
  have hA := askedSet_ok hr0 hc0 hr1 hc1 hr2 hc2 ha hs
  have HA := Aside0.mk hA
  have HF := Aside0.mk hF
  have HE := Aside0.mk hE
  have HM := Aside0.mk hm
  clear hA he ha hs hF hr0 hr1 hr2 hE hm
  generalize maskOf l2 = m at *
  go_enter Tryz.func25, Tryz.ntmps25
  go_wp2_with fail
  refine HA.out.mono ?_
  rintro e w2 ⟨ob, mb, rfl, hO, hb, hl1, hl2⟩
  have HO := Aside0.mk hO
  have HB := Aside0.mk hb
  clear hO hb
  have hcr := crowd_b HO.out HF.out HM.out
  have hE2 := HE.out
  clear HE
  have HLT := Aside0.mk (fun s (hs : crowdI l0 l1 m = some s) => s.isLt)
  cases hc : crowdI l0 l1 m with
  | none =>
   rw [hc] at hE2 hcr
   simp only [crowdL, Prod.mk.injEq] at hE2
   obtain ⟨rfl, rfl⟩ := hE2
   have HC := Aside0.mk (show Calls _ _ _ _ fun e w' => e = .returned (.tuple #[.int .u64 0, .bool false]) ∧ Off w' ob mb l0 l1 ∧ w2.grownBy w' (some mb) from hcr)
   clear hcr hc
   go_wp2_with fail
   refine HC.out.mono ?_
   rintro e w3 ⟨rfl, hO3, hg3⟩
   have HG3 := Aside0.mk hg3
   clear hO3 hg3
   go_wp2
   go_ret2
   exact ⟨_, rfl, Kd.R_nil _ _ _ _ _, HB.out.grown HG3.out HB.out.size (fun j hj => by cases hj; exact hl2)⟩
  | some s =>
   rw [hc] at hE2 hcr
   simp only [crowdL, Prod.mk.injEq] at hE2
   obtain ⟨hE3, rfl⟩ := hE2
   have HC := Aside0.mk (show Calls _ _ _ _ fun e w' => e = .returned (.tuple #[.int .u64 (s.val : Int), .bool true]) ∧ Off w' ob mb l0 l1 ∧ w2.grownBy w' (some mb) from hcr)
   have HL := Aside0.mk (fun W => plan_mask_list.calls 12 (s.val : Int) _ W (list_some (by omega) (by have := s.isLt; omega)))
   rw [hE3] at HL
   clear hcr hc hE3
   go_wp2_with fail
   refine HC.out.mono ?_
   rintro e w3 ⟨rfl, hO3, hg3⟩
   have HG3 := Aside0.mk hg3
   clear hO3 hg3
   go_wp2_with fail
   refine (HL.out _).mono ?_
   rintro e w4 ⟨v, rfl, hR, hb4⟩
   go_wp2
   go_ret2
   have h3 := HB.out.grown HG3.out HB.out.size (fun j hj => by cases hj; exact hl2)
   exact ⟨_, rfl, Kd.R_lower hR h3.size, below_refl_trans h3 hb4⟩
 ·rw [if_neg he] at h
  simp only [Option.some.injEq, Prod.mk.injEq] at h
  obtain ⟨rfl, rfl⟩ := h
  have hA := askedSet_no hr0 hc0 hr1 hc1 hr2 hc2 he
  have HA := Aside0.mk hA
  have hbn : (askSetErr l0 l1 l2 != 0) = true := by simpa using he
  have hbe : (askSetErr l0 l1 l2 == 0) = false := by simpa using he
  generalize askSetErr l0 l1 l2 = z at *
  clear hA he hr0 hr1 hr2
  go_enter Tryz.func25, Tryz.ntmps25
  go_wp2_with fail
  refine HA.out.mono ?_
  rintro e w2 ⟨p, rfl, hb⟩
  have HB := Aside0.mk hb
  clear hb
  go_wp2
  go_ret2
  exact ⟨_, rfl, Kd.R_nil _ _ _ _ _, HB.out⟩
end Go.Proofs.YthonlcnmjlldiaaGreat.P
namespace Go.Proofs.YthonlcnmjlldiaaGreat.P
open Go.RowKit Go.Proofs.YthonlcnmjlldiaaGreatW.PrintWords Go.Proofs.YthonlcnmjlldiaaGreatW.PrintLast Go.Proofs.YthonlcnmjlldiaaGreatW.PrintMore
theorem bit_all : ∀ m : Fin 512, ∀ i : Fin 9, decide ((Go.bits .and .i64 (shr .i64 (m.val : Int) (i.val : Int)) 1) = 1) = m.val.testBit i.val := by decide +kernel
theorem bit_at {m i : Nat} (hm : m < 512) (hi : i < 9) : ((Go.bits .and .i64 (shr .i64 (m : Int) (i : Int)) 1) = 1) ↔ m.testBit i = true := by
 have := bit_all ⟨m, hm⟩ ⟨i, hi⟩
 rw [← this]
 simp
def chFrom (m : Nat) : Nat → List Int → List Int
 | _, [] => []
 | i, x :: xs => if m.testBit i then x :: chFrom m (i + 1) xs else chFrom m (i + 1) xs
def chosen (m : Nat) (s : List Int) : List Int := chFrom m 0 s
theorem chFrom_mem {m : Nat} {x : Int} : ∀ {s : List Int} {i : Nat}, x ∈ chFrom m i s → x ∈ s
 | [], _, h => by simp [chFrom] at h
 | y :: ys, i, h => by
  unfold chFrom at h
  split at h
  ·rcases List.mem_cons.1 h with rfl | h
   ·simp
   ·exact List.mem_cons_of_mem _ (chFrom_mem h)
  ·exact List.mem_cons_of_mem _ (chFrom_mem h)
theorem chFrom_len {m : Nat} : ∀ (s : List Int) (i : Nat), (chFrom m i s).length ≤ s.length
 | [], _ => by simp [chFrom]
 | y :: ys, i => by
  have := chFrom_len ys (m := m) (i + 1)
  unfold chFrom
  split <;> simp <;> omega
theorem Chosen_loop {m : Nat} (hm : m < 512) {s : List Int} (hs : s.length ≤ 8) : ∀ (d i : Nat) (acc : List Int), s.length - i = d → i ≤ s.length → acc.length ≤ i → Ev (fun n => potbankref06_Chosen.l0 n (m : Int) s acc (i : Int)) (acc ++ chFrom m i (s.drop i)) := by
 intro d
 induction d with
 | zero =>
  intro i acc hd hi ha
  rw [List.drop_eq_nil_iff.2 (by omega)]
  refine Ev.step (f := fun _ => some acc) (fun n => by simp only [potbankref06_Chosen.l0]; rw [if_neg (by omega)]) ?_
  simpa [chFrom] using Ev.now acc
 | succ d ih =>
  intro i acc hd hi ha
  have hlt : i < s.length := by omega
  rw [drop_at hlt]
  by_cases hb : m.testBit i = true
  ·refine Ev.step (f := fun n => potbankref06_Chosen.l0 n (m : Int) s (acc ++ [s[i]]) ((i + 1 : Nat) : Int)) (fun n => by
    simp only [potbankref06_Chosen.l0]
    rw [if_pos (by omega), if_pos (by omega), if_pos ((bit_at hm (by omega)).2 hb), if_pos (by omega), rd_at hlt, wrap_succ hlt (by omega)]) ?_
   have := ih (i + 1) (acc ++ [s[i]]) (by omega) (by omega) (by simp; omega)
   unfold chFrom
   rw [if_pos hb]
   simpa using this
  ·refine Ev.step (f := fun n => potbankref06_Chosen.l0 n (m : Int) s acc ((i + 1 : Nat) : Int)) (fun n => by
    simp only [potbankref06_Chosen.l0]
    rw [if_pos (by omega), if_pos (by omega), if_neg (fun h => hb ((bit_at hm (by omega)).1 h)), wrap_succ hlt (by omega)]) ?_
   unfold chFrom
   rw [if_neg hb]
   exact ih (i + 1) acc (by omega) (by omega) (by omega)
theorem Chosen_ev {m : Nat} (hm : m < 512) {s : List Int} (hs : s.length ≤ 8) : Ev (fun n => potbankref06_Chosen.f n (m : Int) s) (chosen m s) :=
 Chosen_loop hm hs _ 0 [] rfl (Nat.zero_le _) (Nat.le_refl _)
def idx (n : Nat) : List Int := (List.range n).map Int.ofNat
theorem idx_len (n : Nat) : (idx n).length = n := by simp [idx]
theorem indices_loop {n : Nat} (hn : n ≤ 8) : ∀ (d i : Nat), n - i = d → i ≤ n → Ev (fun k => potbankref06_indices.l0 k (n : Int) (idx i) (i : Int)) (idx n) := by
 intro d
 induction d with
 | zero =>
  intro i hd hi
  obtain rfl : i = n := by omega
  exact Ev.step (f := fun _ => some (idx i)) (fun k => by simp only [potbankref06_indices.l0]; rw [if_neg (by omega)]) (Ev.now _)
 | succ d ih =>
  intro i hd hi
  have hlt : i < n := by omega
  refine Ev.step (f := fun k => potbankref06_indices.l0 k (n : Int) (idx (i + 1)) ((i + 1 : Nat) : Int)) (fun k => by
   simp only [potbankref06_indices.l0]
   have := idx_len i
   rw [if_pos (by omega), if_pos (by omega), wrap_succ hlt (by omega)]
   unfold idx
   rw [List.range_succ, List.map_append]
   rfl) (ih (i + 1) (by omega) (by omega))
theorem indices_ev {n : Nat} (hn : n ≤ 8) : Ev (fun k => potbankref06_indices.f k (n : Int)) (idx n) := indices_loop hn _ 0 rfl (Nat.zero_le _)
theorem chFrom_idx {m : Nat} : ∀ (d i : Nat), chFrom m i ((List.range' i d).map Int.ofNat) = ((List.range' i d).filter (fun j => m.testBit j)).map Int.ofNat
 | 0, i => by simp [chFrom]
 | d + 1, i => by
  rw [List.range'_succ, List.map_cons, List.filter_cons]
  unfold chFrom
  rw [chFrom_idx d (i + 1)]
  split <;> simp
theorem bits_upto {m n : Nat} (hm : m < 2 ^ n) (hn : n ≤ 9) : (List.range 9).filter (fun j => m.testBit j) = (List.range n).filter (fun j => m.testBit j) := by
 have h : List.range 9 = List.range n ++ List.range' n (9 - n) := by
  have h2 : 9 = n + (9 - n) := by omega
  have h3 := List.range'_append_1 (s := 0) (m := n) (n := 9 - n)
  rw [Nat.zero_add] at h3
  rw [List.range_eq_range', List.range_eq_range', h3, ← h2]
 rw [h, List.filter_append]
 have : (List.range' n (9 - n)).filter (fun j => m.testBit j) = [] := by
  rw [List.filter_eq_nil_iff]
  intro j hj hb
  have h1 := Nat.ge_two_pow_of_testBit hb
  have h2 := (List.mem_range'_1.1 hj).1
  have h3 : 2 ^ n ≤ 2 ^ j := Nat.pow_le_pow_right (by omega) h2
  omega
 rw [this, List.append_nil]
theorem chosen_idx {m n : Nat} (hm : m < 2 ^ n) (hn : n ≤ 9) : chosen m (idx n) = bitsL (m : Int) := by
 unfold chosen idx bitsL
 have : List.range n = List.range' 0 n := List.range_eq_range'
 rw [this, chFrom_idx, ← this, ← bits_upto hm hn]
 simp
theorem bitsL_upto {m n : Nat} (hm : m < 2 ^ n) (hn : n ≤ 9) : bitsL (m : Int) = ((List.range n).filter (fun j => m.testBit j)).map Int.ofNat := by
 unfold bitsL
 rw [← bits_upto hm hn]
 simp
theorem suits_eq (o : Order) (s : Seat) : potbankref06_suits.f o.f0 o.f1 o.f2.f0 o.f2.f1 o.f3 s.f0.f0 s.f0.f1 s.f1 s.f2 = some (suitsB o s) := by
 unfold potbankref06_suits.f suitsB
 by_cases h1 : s.f0.f0 ≥ o.f2.f0
 ·rw [if_pos h1]
  by_cases h2 : s.f0.f1 ≤ o.f2.f1
  ·rw [if_pos h2]; simp only [ge_iff_le] at h1; simp [h1, h2]
  ·rw [if_neg h2]; simp [h2]
 ·rw [if_neg h1]; simp; omega
def suitAny (l : List Order) (t : Seat) (s : List Int) : Bool := s.any (fun i => suitsB (rd_T72 l i) t)
def roomS (k : List Seat) (l : List Order) (s : List Int) : Int := (k.map fun t => if suitAny l t s then t.f2 else 0).sum
def needS (l : List Order) (s : List Int) : Int := (s.map fun i => (rd_T72 l i).f1).sum
def crowdS (k : List Seat) (l : List Order) (s : List Int) : Bool := decide (roomS k l s < needS l s)
def SetIn (l : List Order) (s : List Int) : Prop := s.length ≤ 8 ∧ ∀ i ∈ s, 0 ≤ i ∧ i < l.length
theorem roomS_I (k : List Seat) (l : List Order) (m : Int) : roomI k l m = roomS k l (bitsL m) := by
 unfold roomI roomTo roomS
 rw [List.take_length]
 rfl
theorem sum_filter {p : Nat → Bool} {f : Nat → Int} : ∀ l : List Nat, ((l.filter p).map f).sum = (l.map fun i => if p i then f i else 0).sum
 | [] => rfl
 | x :: xs => by
  rw [List.filter_cons, List.map_cons, List.sum_cons, ← sum_filter xs]
  split <;> simp
theorem needS_I {l : List Order} {m : Nat} (hm : m < 2 ^ l.length) (h9 : l.length ≤ 9) : needI l (m : Int) = needS l (bitsL (m : Int)) := by
 unfold needI needTo needS
 rw [bitsL_upto hm h9, List.map_map, sum_filter]
 rfl
theorem crowdS_B (k : List Seat) {l : List Order} {m : Nat} (hm : m < 2 ^ l.length) (h9 : l.length ≤ 9) : crowdB k l (m : Int) = crowdS k l (bitsL (m : Int)) := by
 unfold crowdB crowdS
 rw [roomS_I, needS_I hm h9]
theorem rd_mem {s : List Int} {i : Nat} (h : i < s.length) : rd s (i : Int) ∈ s := by rw [rd_at h]; exact List.getElem_mem h
theorem need_sum_bd {l : List Order} (hl : ManyOk l) : ∀ {s : List Int}, (∀ i ∈ s, 0 ≤ i ∧ i < l.length) → 0 ≤ needS l s ∧ needS l s ≤ 1000 * s.length
 | [], _ => by simp [needS]
 | x :: xs, h => by
  have h1 := need_sum_bd hl (s := xs) (fun i hi => h i (List.mem_cons_of_mem _ hi))
  obtain ⟨h2, h3⟩ := h x (by simp)
  obtain ⟨x, rfl⟩ := Int.eq_ofNat_of_zero_le h2
  have h4 := hl _ (rdT_mem (l := l) (i := x) (by omega))
  have : needS l ((x : Int) :: xs) = (rd_T72 l (x : Int)).f1 + needS l xs := rfl
  rw [this]
  simp only [List.length_cons]
  push_cast
  omega
theorem need_loop' {l : List Order} (hl : ManyOk l) {s : List Int} (hs : SetIn l s) : ∀ (d i : Nat), s.length - i = d → i ≤ s.length → Ev (fun n => potbankref06_need.l0 n l s (needS l (s.take i)) (i : Int)) (needS l s) := by
 intro d
 induction d with
 | zero =>
  intro i hd hi
  rw [List.take_of_length_le (by omega)]
  exact Ev.step (f := fun _ => some (needS l s)) (fun n => by simp only [potbankref06_need.l0]; rw [if_neg (by omega)]) (Ev.now _)
 | succ d ih =>
  intro i hd hi
  have hlt : i < s.length := by omega
  have hb := need_sum_bd hl (s := s.take i) (fun j hj => hs.2 j (List.mem_of_mem_take hj))
  have hb2 := need_sum_bd hl (s := s.take (i + 1)) (fun j hj => hs.2 j (List.mem_of_mem_take hj))
  have e : needS l (s.take (i + 1)) = needS l (s.take i) + (rd_T72 l (rd s (i : Int))).f1 := by
   unfold needS
   rw [List.take_succ_eq_append_getElem hlt, List.map_append, List.sum_append, rd_at hlt]
   simp
  have h8 := hs.1
  have hln : (s.take (i + 1)).length ≤ 8 := by rw [List.length_take]; omega
  obtain ⟨h1, h2⟩ := hs.2 _ (rd_mem hlt)
  refine Ev.step (f := fun n => potbankref06_need.l0 n l s (needS l (s.take (i + 1))) ((i + 1 : Nat) : Int)) (fun n => by
   simp only [potbankref06_need.l0]
   rw [if_pos (by omega), if_pos (by omega), if_pos h1, if_pos h2, wrap_succ hlt (by omega), e]
   congr 1
   unfold wrap64
   rw [← e]
   omega) (ih (i + 1) (by omega) (by omega))
theorem need_ev {l : List Order} (hl : ManyOk l) {s : List Int} (hs : SetIn l s) : Ev (fun n => potbankref06_need.f n l s) (needS l s) :=
 need_loop' hl hs _ 0 rfl (Nat.zero_le _)
theorem room_inner {k : List Seat} {l : List Order} {s : List Int} (hs : SetIn l s) {j : Nat} (hj : j < k.length) {acc : Int} {r : Int} (h24 : k.length ≤ 24)
  (hw : wrap64 (acc + k[j].f2) = acc + k[j].f2)
  (hn : ∀ b : Bool, suitAny l k[j] s = b → Ev (fun n => potbankref06_room.l0 n k l s (acc + if b then k[j].f2 else 0) ((j + 1 : Nat) : Int)) r) :
  ∀ (d i : Nat) (b : Bool), s.length - i = d → i ≤ s.length → (b || suitAny l k[j] (s.drop i)) = suitAny l k[j] s → Ev (fun n => potbankref06_room.l1 n k l s acc (j : Int) b (i : Int)) r := by
 have h8 := hs.1
 intro d
 induction d with
 | zero =>
  intro i b hd hi hb
  rw [List.drop_eq_nil_iff.2 (by omega)] at hb
  have hb' : suitAny l k[j] s = b := by rw [← hb]; simp [suitAny]
  have h := hn b hb'
  cases b
  ·refine Ev.step (f := fun n => potbankref06_room.l0 n k l s acc ((j + 1 : Nat) : Int)) (fun n => by
    simp only [potbankref06_room.l1]
    rw [if_neg (by omega), if_neg (by simp), wrap_succ hj (by omega)]) ?_
   simpa using h
  ·refine Ev.step (f := fun n => potbankref06_room.l0 n k l s (acc + k[j].f2) ((j + 1 : Nat) : Int)) (fun n => by
    simp only [potbankref06_room.l1]
    rw [if_neg (by omega), if_pos trivial, if_pos (by omega), if_pos (by omega), wrap_succ hj (by omega), rdS_at hj, hw]) ?_
   simpa using h
 | succ d ih =>
  intro i b hd hi hb
  have hlt : i < s.length := by omega
  have hat := rd_at hlt
  rw [drop_at hlt] at hb
  cases b
  ·obtain ⟨h1, h2⟩ := hs.2 _ (rd_mem hlt)
   refine Ev.step (f := fun n => potbankref06_room.l1 n k l s acc (j : Int) (suitsB (rd_T72 l (rd s (i : Int))) k[j]) ((i + 1 : Nat) : Int)) (fun n => by
    simp only [potbankref06_room.l1]
    rw [if_pos (by omega), if_neg (by simp), if_pos (by omega), if_pos h1, if_pos h2, if_pos (by omega), if_pos (by omega), rdS_at hj, suits_eq, wrap_succ hlt (by omega)]
    rfl) ?_
   refine ih (i + 1) _ (by omega) (by omega) ?_
   rw [← hb, hat]
   rfl
  ·refine Ev.step (f := fun n => potbankref06_room.l1 n k l s acc (j : Int) true ((i + 1 : Nat) : Int)) (fun n => by
    simp only [potbankref06_room.l1]
    rw [if_pos (by omega), if_pos trivial, wrap_succ hlt (by omega)]) ?_
   exact ih (i + 1) _ (by omega) (by omega) (by rw [← hb]; simp)
theorem room_sum_bd {k : List Seat} (hk : ∀ s ∈ k, 0 ≤ s.f2 ∧ s.f2 ≤ 1000) (l : List Order) (s : List Int) : 0 ≤ roomS k l s ∧ roomS k l s ≤ 1000 * k.length := by
 induction k with
 | nil => simp [roomS]
 | cons t ts ih =>
  have h1 := ih (fun x hx => hk x (List.mem_cons_of_mem _ hx))
  have h2 := hk t (by simp)
  have : roomS (t :: ts) l s = (if suitAny l t s then t.f2 else 0) + roomS ts l s := rfl
  rw [this]
  simp only [List.length_cons]
  push_cast
  split <;> omega
theorem room_loop' {k : List Seat} (hk : HoldsOk k) {l : List Order} {s : List Int} (hs : SetIn l s) : ∀ (d j : Nat), k.length - j = d → j ≤ k.length → Ev (fun n => potbankref06_room.l0 n k l s (roomS (k.take j) l s) (j : Int)) (roomS k l s) := by
 have h24 := hk.1
 intro d
 induction d with
 | zero =>
  intro j hd hj
  rw [List.take_of_length_le (by omega)]
  exact Ev.step (f := fun _ => some (roomS k l s)) (fun n => by simp only [potbankref06_room.l0]; rw [if_neg (by omega)]) (Ev.now _)
 | succ d ih =>
  intro j hd hj
  have hlt : j < k.length := by omega
  have hb := room_sum_bd (k := k.take j) (fun x hx => hk.2 x (List.mem_of_mem_take hx)) l s
  have hln : (k.take j).length = j := by rw [List.length_take]; omega
  have h1 := hk.2 _ (List.getElem_mem hlt)
  refine Ev.step (f := fun n => potbankref06_room.l1 n k l s (roomS (k.take j) l s) (j : Int) false ((0 : Nat) : Int)) (fun n => by
   simp only [potbankref06_room.l0]
   rw [if_pos (by omega)]
   rfl) ?_
  refine room_inner hs hlt h24 (by unfold wrap64; omega) (fun b hb2 => ?_) _ 0 false rfl (Nat.zero_le _) (by simp)
  have := ih (j + 1) (by omega) (by omega)
  have e : roomS (k.take (j + 1)) l s = roomS (k.take j) l s + if b then k[j].f2 else 0 := by
   unfold roomS
   rw [List.take_succ_eq_append_getElem hlt, List.map_append, List.sum_append]
   simp [hb2]
  rw [e] at this
  exact this
theorem room_ev {k : List Seat} (hk : HoldsOk k) {l : List Order} {s : List Int} (hs : SetIn l s) : Ev (fun n => potbankref06_room.f n k l s) (roomS k l s) :=
 room_loop' hk hs _ 0 rfl (Nat.zero_le _)
theorem crowded_ev {k : List Seat} {l : List Order} (hF : Fine k l) {s : List Int} (hs : SetIn l s) : Ev (fun n => potbankref06_crowded.f n k l s) (crowdS k l s) :=
 Ev.bind (need_ev hF.hl hs) (Ev.bind (room_ev hF.hk hs) (Ev.now _))
theorem shl_all : ∀ n : Fin 10, shl .i64 1 (n.val : Int) = ((2 ^ n.val : Nat) : Int) := by decide
theorem shl_at {n : Nat} (h : n < 10) : shl .i64 1 (n : Int) = ((2 ^ n : Nat) : Int) := shl_all ⟨n, h⟩
def withinS (k : List Seat) (l : List Order) (s : List Int) (q : Nat) : List (List Int) := ((List.range q).map (fun m => chosen m s)).filter (crowdS k l)
theorem withinS_len (k : List Seat) (l : List Order) (s : List Int) (q : Nat) : (withinS k l s q).length ≤ q := by
 have := List.length_filter_le (crowdS k l) ((List.range q).map (fun m => chosen m s))
 exact Nat.le_trans this (by simp)
theorem chosen_in {l : List Order} {s : List Int} (hs : SetIn l s) (m : Nat) : SetIn l (chosen m s) :=
 ⟨Nat.le_trans (chFrom_len s 0) hs.1, fun i hi => hs.2 i (chFrom_mem hi)⟩
theorem within_loop {k : List Seat} {l : List Order} (hF : Fine k l) {s : List Int} (hs : SetIn l s) : ∀ (d m : Nat), 2 ^ s.length - m = d → m ≤ 2 ^ s.length → Ev (fun n => potbankref06_within.l0 n k l s (withinS k l s m) (m : Int)) (withinS k l s (2 ^ s.length)) := by
 have h8 := hs.1
 have hp : 2 ^ s.length ≤ 256 := Nat.pow_le_pow_right (n := 2) (by omega) h8
 intro d
 induction d with
 | zero =>
  intro m hd hm
  obtain rfl : m = 2 ^ s.length := by omega
  exact Ev.step (f := fun _ => some (withinS k l s (2 ^ s.length))) (fun n => by
   simp only [potbankref06_within.l0]
   rw [shl_at (by omega), if_neg (by omega)]) (Ev.now _)
 | succ d ih =>
  intro m hd hm
  have hlt : m < 2 ^ s.length := by omega
  have hln := withinS_len k l s m
  have e : withinS k l s (m + 1) = withinS k l s m ++ if crowdS k l (chosen m s) then [chosen m s] else [] := by
   unfold withinS
   rw [List.range_succ, List.map_append, List.filter_append, List.map_cons, List.map_nil, List.filter_cons]
   rfl
  refine Ev.step (f := fun n => (potbankref06_Chosen.f n (m : Int) s).bind fun t231 => ((potbankref06_crowded.f n k l t231).bind fun t234 => (if t234 = true then (potbankref06_within.l0 n k l s (withinS k l s m ++ [t231]) ((m + 1 : Nat) : Int)) else (potbankref06_within.l0 n k l s (withinS k l s m) ((m + 1 : Nat) : Int))))) (fun n => by
   simp only [potbankref06_within.l0]
   rw [shl_at (by omega), if_pos (by omega), wrap_succ hlt (by omega)]
   simp only [show (withinS k l s m).length < 5864062014805 by omega, if_true]) ?_
  refine Ev.bind (Chosen_ev (by omega) h8) (Ev.bind (crowded_ev hF (chosen_in hs m)) ?_)
  have := ih (m + 1) (by omega) (by omega)
  rw [e] at this
  cases hc : crowdS k l (chosen m s)
  ·simpa [hc] using this
  ·simpa [hc] using this
theorem within_ev {k : List Seat} {l : List Order} (hF : Fine k l) {s : List Int} (hs : SetIn l s) : Ev (fun n => potbankref06_within.f n k l s) (withinS k l s (2 ^ s.length)) :=
 within_loop hF hs _ 0 rfl (Nat.zero_le _)
theorem idx_in {l : List Order} (h8 : l.length ≤ 8) : SetIn l (idx l.length) := by
 refine ⟨by rw [idx_len]; exact h8, fun i hi => ?_⟩
 obtain ⟨j, hj, rfl⟩ := List.mem_map.1 hi
 have := List.mem_range.1 hj
 exact ⟨by simp, by simpa using this⟩
theorem within_all (k : List Seat) {l : List Order} (h8 : l.length ≤ 8) : withinS k l (idx l.length) (2 ^ (idx l.length).length) = ((List.range (2 ^ l.length)).filter (fun m : Nat => crowdB k l (m : Int))).map (fun m : Nat => bitsL (m : Int)) := by
 unfold withinS
 rw [idx_len, List.filter_map]
 have h : ∀ m ∈ List.range (2 ^ l.length), chosen m (idx l.length) = bitsL (m : Int) := fun m hm => chosen_idx (List.mem_range.1 hm) (by omega)
 have e : (List.range (2 ^ l.length)).filter (crowdS k l ∘ fun m => chosen m (idx l.length)) = (List.range (2 ^ l.length)).filter (fun m : Nat => crowdB k l (m : Int)) := by
  refine List.filter_congr (fun m hm => ?_)
  simp only [Function.comp]
  rw [h m hm, crowdS_B k (List.mem_range.1 hm) (by omega)]
 rw [e]
 exact List.map_congr_left (fun m hm => h m (List.mem_filter.1 hm).1)
end Go.Proofs.YthonlcnmjlldiaaGreat.P
namespace Go.Proofs.YthonlcnmjlldiaaGreat.P
open Go.Shelf Go.RowKit Go.Proofs.YthonlcnmjlldiaaGreatW.PrintWords Go.Proofs.YthonlcnmjlldiaaGreatW.PrintLast Go.Proofs.YthonlcnmjlldiaaGreatW.PrintMore
attribute [local go_sem] Oper.semAt_some
theorem own_turn {W W' : World} {row : Option Nat} {base : Nat} {e : TypeId} {size k : Nat} {v : Value} {xs : List Value} (h : W.ownsRow base e size v k xs) (hg : W.grownBy W' row)
  (hr : ∀ r, row = some r → ∃ o : Obj, W.heap[r]? = some o ∧ o.isCells = false) : W'.ownsRow base e size v k xs := by
 refine h.kept hg ?_
 rcases h.2 with ⟨rfl, _⟩ | ⟨g, cap, cur, rfl, _, hgb, _⟩
 ·exact .inl rfl
 ·refine .inr fun e' => ?_
  obtain ⟨o, ho, hc⟩ := hr g (by rw [← e']; rfl)
  rw [hgb] at ho
  cases ho
  cases hc
theorem app_facts {W w1 : World} {n₀ B : Nat} {t e : TypeId} {v v' : Value} {k m : Nat} {xs ys : List Value} {tmp : Obj}
  (hv : Boxed W B t v) (hte : t ≠ e) (hrow : W.ownsRow n₀ e 1 v k xs) (hown' : w1.ownsRow n₀ e 1 v' m ys) (hgrow : (W.alloc tmp).grownBy w1 v.ownBlock) :
  Boxed w1 B t v ∧ Boxed (w1.setCell ⟨B, 0, none⟩ v') B t v' ∧ (w1.setCell ⟨B, 0, none⟩ v').ownsRow n₀ e 1 v' m ys ∧ KeepsOthers W (w1.setCell ⟨B, 0, none⟩ v') ∧ (∀ j, j < W.heap.size → j < n₀ → j ≠ B → (w1.setCell ⟨B, 0, none⟩ v').heap[j]? = W.heap[j]?) ∧
   W.heap.size ≤ (w1.setCell ⟨B, 0, none⟩ v').heap.size ∧ (w1.setCell ⟨B, 0, none⟩ v').os = W.os ∧ (w1.setCell ⟨B, 0, none⟩ v').tape = W.tape ∧ (w1.setCell ⟨B, 0, none⟩ v').output = W.output := by
 obtain ⟨h1, h2, h3, h4, _⟩ := hv.appended hte (own_less hrow (Nat.zero_le _)) (Nat.zero_le _) (Nat.zero_le _) (own_less hown' (Nat.zero_le _)) hgrow
 have k2 := grownBy_setCell' w1 B v'
 refine ⟨h1, h2, hown'.kept k2 (.inr (h1.not_row hte hown').symm), h4, ?_, Nat.le_trans (Nat.le_trans (by simp) hgrow.size) k2.size, k2.os.trans (hgrow.os.trans rfl), k2.tape.trans (hgrow.tape.trans rfl), k2.output.trans (hgrow.output.trans rfl)⟩
 intro j h5 h6 h7
 refine (k2.block j (Nat.lt_of_lt_of_le (by simp; omega) hgrow.size) (by simp; exact h7)).trans ((hgrow.block j (by simp; omega) ?_).trans (heap_alloc_old W tmp h5))
 intro e
 have := own_base hrow j e.symm
 omega
theorem grown_low {w W W' : World} {mb : Nat} (h : w.grownBy W (some mb)) (hs : W.heap.size ≤ W'.heap.size) (ho : W'.os = W.os) (ht : W'.tape = W.tape) (hu : W'.output = W.output) (hb : ∀ j, j < w.heap.size → W'.heap[j]? = W.heap[j]?) : w.grownBy W' (some mb) :=
 ⟨ho.trans h.os, ht.trans h.tape, hu.trans h.output, Nat.le_trans h.size hs, fun i hi hne => (hb i hi).trans (h.block i hi hne)⟩
theorem subB_iff' {s m : Int} (h0 : 0 ≤ s) (h1 : s < 512) (h2 : 0 ≤ m) (h3 : m < 512) : (Go.bits .andNot .u64 s m == 0) = subB s.toNat m.toNat := by
 have := subB_iff (s := s.toNat) (m := m.toNat) (by omega) (by omega)
 rwa [Int.toNat_of_nonneg h0, Int.toNat_of_nonneg h2] at this
set_option maxHeartbeats 1000000 in
theorem within_b {c s : Int} {b : Nat} {W : World} (c0 : 0 ≤ c) (c1 : c < 512) (s0 : 0 ≤ s) (s1 : s < 512) (hb : W.cell? ⟨b, 0, none⟩ = some (.int .u64 s)) :
  Calls Tryz.prog 93 #[.int .u64 c, .pointer (some ⟨b, 0, none⟩)] W fun e W' => e = .returned (.bool (subB c.toNat s.toNat)) ∧ Below W.heap.size W W' := by
 have h := subB_iff' c0 c1 s0 s1
 rw [← h]
 clear h
 go_enter Tryz.func93, Tryz.ntmps93
 go_wp2
 all_goals first | (go_ret; exact ⟨rfl, Below.refl _ _⟩) | skip
def crowdStep (k : List Seat) (l : List Order) (out : List Nat) (s : Nat) : List Nat := if crowdB k l (s : Int) && !(out.any (fun c => subB c s)) then out ++ [s] else out
def crowdsOf (k : List Seat) (l : List Order) (ss : List Nat) : List Nat := ss.foldl (crowdStep k l) []
def allN (l : List Order) : Nat := 2 ^ l.length - 1
def crowdsN (k : List Seat) (l : List Order) : List Nat := crowdsOf k l ((partsF (allN l)).map (·.val))
theorem crowdsOf_snoc (k : List Seat) (l : List Order) (ss : List Nat) (s : Nat) : crowdsOf k l (ss ++ [s]) = crowdStep k l (crowdsOf k l ss) s := by
 unfold crowdsOf
 rw [List.foldl_append]
 rfl
theorem crowdsOf_sub {k : List Seat} {l : List Order} {ss : List Nat} {c : Nat} (h : c ∈ crowdsOf k l ss) : c ∈ ss := by
 have aux : ∀ (ss out : List Nat), c ∈ ss.foldl (crowdStep k l) out → c ∈ out ∨ c ∈ ss := by
  intro ss
  induction ss with
  | nil => intro out h; exact .inl h
  | cons s ss ih =>
   intro out h
   rcases ih _ h with h | h
   ·unfold crowdStep at h
    split at h
    ·rcases List.mem_append.1 h with h | h
     ·exact .inl h
     ·exact .inr (by simp [List.mem_singleton.1 h])
    ·exact .inl h
   ·exact .inr (by simp [h])
 rcases aux ss [] h with h | h
 ·simp at h
 ·exact h
theorem crowdsOf_len (k : List Seat) (l : List Order) (ss : List Nat) : (crowdsOf k l ss).length ≤ ss.length := by
 have aux : ∀ (ss out : List Nat), (ss.foldl (crowdStep k l) out).length ≤ out.length + ss.length := by
  intro ss
  induction ss with
  | nil => intro out; simp
  | cons s ss ih =>
   intro out
   have h1 := ih (crowdStep k l out s)
   have h2 : (crowdStep k l out s).length ≤ out.length + 1 := by unfold crowdStep; split <;> simp
   simp only [List.foldl_cons, List.length_cons]
   omega
 have := aux ss []
 simpa [crowdsOf] using this
end Go.Proofs.YthonlcnmjlldiaaGreat.P
